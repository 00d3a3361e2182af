/- The contract of bivouaclaw07_GroundRegions: what its call comes to, for every argument, in any memory. -/
import Derived.Test.YtnpippechogagaaPAx0
import Derived.Test.YtnpippechogagaaPAx16
import Derived.Test.YtnpippechogagaaPAx18
import Derived.Test.YtnpippechogagaaPAx26
import Derived.Test.YtnpippechogagaaGAbivouaclaw07awake
import Derived.Test.YtnpippechogagaaGAbivouacref07Open
import Derived.Test.YtnpippechogagaaGAgroundJoined
import Derived.Test.YtnpippechogagaaGAgroundRegions
import Derived.Test.YtnpippechogagaaGAreliefDepth
import Derived.Test.YtnpippechogagaaGAreliefSlope
namespace Go.Proofs.Ytnpippechogagaa.PA
open Go.RowKit Go.Proofs.YtnpippechogagaaW.PrintWords Go.Proofs.YtnpippechogagaaW.PrintLast Go.Proofs.YtnpippechogagaaW.PrintMore
set_option linter.unusedVariables false
set_option linter.unusedSimpArgs false

def bivouaclaw07_GroundRegions.jo (l : List Int) (a b : Int) : Bool := decide (0 ≤ a ∧ a < (l.length : Int) ∧ 0 ≤ b ∧ b < (l.length : Int) ∧ 0 ≤ rd l a ∧ rd l a = rd l b)
def bivouaclaw07_GroundRegions.f (k : Nat) (a0_0 : Int) (a0_1 : Int) (a0_2 : Int) (l0_3 : List Int) (a0_4 : Int) (a0_5 : Int) (a0_6 : Int) : Option (Bool) := (bivouaclaw07_few.f a0_0 a0_1 a0_2 l0_3).bind fun m => (ground_Regions.f k m.1 m.2.1 m.2.2.1 m.2.2.2 a0_4).bind fun l => (bivouaclaw07_right.f k m.1 m.2.1 m.2.2.1 m.2.2.2 a0_4).bind fun t => (ground_Joined.f k m.1 m.2.1 m.2.2.1 m.2.2.2 a0_4 a0_5 a0_6).bind fun j => if t = true then (bivouacref07_Regions.f k m.1 m.2.1 m.2.2.1 m.2.2.2 a0_4).bind fun q => if l.1 = q ∧ l.2 = 0 ∧ q.length ≤ 4096 ∧ j = bivouaclaw07_GroundRegions.jo q a0_5 a0_6 then bivouaclaw07_awake.f k else none else if l.1 = [] ∧ l.2 = 1 ∧ j = false then bivouaclaw07_awake.f k else none
theorem bivouaclaw07_GroundRegions.mono : ∀ a0 a1 a2 a3 a4 a5 a6 k, LeO (bivouaclaw07_GroundRegions.f k a0 a1 a2 a3 a4 a5 a6) (bivouaclaw07_GroundRegions.f (k + 1) a0 a1 a2 a3 a4 a5 a6) := by
  intro a0 a1 a2 a3 a4 a5 a6 k
  exact LeO.bind (LeO.refl _) (fun _ => LeO.bind (ground_Regions.mono _ _ _ _ _ _) (fun _ => LeO.bind (bivouaclaw07_right.mono _ _ _ _ _ _) (fun _ => LeO.bind (ground_Joined.mono _ _ _ _ _ _ _ _) (fun _ => LeO.ite (LeO.bind (bivouacref07_Regions.mono _ _ _ _ _ _) (fun _ => LeO.ite (bivouaclaw07_awake.mono _) (LeO.refl _))) (LeO.ite (bivouaclaw07_awake.mono _) (LeO.refl _))))))
def bivouaclaw07_GroundRegions.T1 : Bool × List (List Nat × List Nat) := (true, [([], []), ([0], [0]), ([1], [1]), ([], []), ([3], [3]), ([], []), ([5], [5]), ([], []), ([7], [7]), ([], []), ([9, 2, 2, 0, 1, 2, 9], [2, 9]), ([4, 10, 0, 1, 2, 3, 4, 9, 10], [4]), ([6, 11, 0, 1, 2, 3, 4, 5, 6, 9, 10, 11], [6]), ([8, 12, 0, 1, 2, 3, 4, 5, 6, 7, 8, 9, 10, 11, 12], [8])])
def bivouaclaw07_GroundRegions.B1 : List Nat := [0, 1, 3, 0, 8, 0, 32, 0, 128, 0, 519, 1567, 3711, 8191]
theorem bivouaclaw07_GroundRegions.tab1 : rtab .any (opsOf Try.f6 1) = bivouaclaw07_GroundRegions.T1 := by kernel_rfl
theorem bivouaclaw07_GroundRegions.bits1 : waitsOk bivouaclaw07_GroundRegions.T1.2 bivouaclaw07_GroundRegions.B1 = true := by kernel_rfl
set_option maxHeartbeats 8000000 in
set_option maxRecDepth 100000 in
theorem bivouaclaw07_GroundRegions.calls (k : Nat) (a0_0 : Int) (a0_1 : Int) (a0_2 : Int) (A0_3 : Option Addr) (c0_3 : Nat) (l0_3 : List Int) (a0_4 : Int) (a0_5 : Int) (a0_6 : Int) (r : Bool) (w : World) (hr0_3 : Kd.C (Kd.int .u8) w A0_3 l0_3.length l0_3) (hc0_3 : l0_3.length ≤ c0_3) (h : bivouaclaw07_GroundRegions.f k a0_0 a0_1 a0_2 l0_3 a0_4 a0_5 a0_6 = some r) :
    Calls Try.prog 6 #[.agg #[.int .i64 a0_0, .int .i64 a0_1, .int .i64 a0_2, .slice A0_3 l0_3.length c0_3, .int .i64 a0_4, .int .i64 a0_5, .int .i64 a0_6]] w fun e w' => e = .returned (.bool r) ∧ Below w.heap.size w w' := by
  have HR0_3 := Aside0.mk hr0_3
  have HC0_3 := Aside0.mk hc0_3
  clear hr0_3 hc0_3
  have HB := Aside0.mk (Below.refl w.heap.size w)
  unfold bivouaclaw07_GroundRegions.f at h
  replace h := Option.bind_eq_some_iff.1 h
  obtain ⟨⟨m0, m1, m2, ml⟩, hf, h⟩ := h
  have AF := Aside0.mk hf
  clear hf
  try dsimp only at h
  replace h := Option.bind_eq_some_iff.1 h
  obtain ⟨⟨l, e⟩, hl, h⟩ := h
  have HLr := Aside0.mk hl
  clear hl
  replace h := Option.bind_eq_some_iff.1 h
  obtain ⟨t, ht, h⟩ := h
  have HT := Aside0.mk ht
  clear ht
  replace h := Option.bind_eq_some_iff.1 h
  obtain ⟨j, hj, h⟩ := h
  have HJ := Aside0.mk hj
  clear hj
  try dsimp only at h
  have HH := Aside0.mk h
  clear h
  go_enter Try.func6, Try.ntmps6
  try go_wp2_with (first | ((with_reducible refine gate_dst (N := 1) rfl ?_); refine box_event ?hg (N := 1) ?hd (cs := #[.int .i64 a0_0, .int .i64 a0_1, .int .i64 a0_2, .slice A0_3 l0_3.length c0_3, .int .i64 a0_4, .int .i64 a0_5, .int .i64 a0_6]) (t := 27) ?hr ?_; (case hd => rfl); (case hg => rfl); (case hr => first | (go_simp; done) | (go_simp; rfl)); intro gbx hg w7 hbox hb; have n0_ := Aside0.mk (below_step (by repeat (first | (with_reducible first | exact HB.out | apply below_alloc | apply pw_below_drewN | apply below_drew1) | exact HB.out)) hb); have n1_ := Aside0.mk (hbox); have n2_ := Aside0.mk ((by rw [hg]; exact (below_size (by repeat (first | (with_reducible first | exact HB.out | apply below_alloc | apply pw_below_drewN | apply below_drew1) | exact HB.out))) : w.heap.size ≤ gbx)); have n3_ := Aside0.mk ((by rw [hg]; exact (below_size (by repeat (first | (with_reducible first | exact HB.out | apply below_alloc | apply pw_below_drewN | apply below_drew1) | exact HB.out))) : w.heap.size ≤ gbx)); clear HB; have HB := n0_; have BKx := n1_; have GWx := n2_; have GEx := n3_; clear n0_ n1_ n2_ n3_; clear hb hbox hg))
  have n0_ := Aside0.mk (blk_drew BKx.out)
  have n1_ := Aside0.mk (below_drew1 HB.out)
  clear BKx
  clear HB
  have BKx := n0_
  have HB := n1_
  clear n0_ n1_
  refine start_ (n := 14) (S := fun w' => w'.cell? ⟨gbx, 0, none⟩ = some (.int .i64 a0_0) ∧ w'.cell? ⟨gbx, 1, none⟩ = some (.int .i64 a0_1) ∧ w'.cell? ⟨gbx, 2, none⟩ = some (.int .i64 a0_2) ∧ w'.cell? ⟨gbx, 3, none⟩ = some (.slice A0_3 l0_3.length c0_3) ∧ w'.cell? ⟨gbx, 4, none⟩ = some (.int .i64 a0_4) ∧ w'.cell? ⟨gbx, 5, none⟩ = some (.int .i64 a0_5) ∧ w'.cell? ⟨gbx, 6, none⟩ = some (.int .i64 a0_6)) (ds := []) (bA 14 0) (by kernel_rfl) rfl rfl ⟨(blk_cell BKx.out 0).trans rfl, (blk_cell BKx.out 1).trans rfl, (blk_cell BKx.out 2).trans rfl, (blk_cell BKx.out 3).trans rfl, (blk_cell BKx.out 4).trans rfl, (blk_cell BKx.out 5).trans rfl, (blk_cell BKx.out 6).trans rfl⟩ (fun hHeld => ?_); refine with_tabW bivouaclaw07_GroundRegions.tab1 bivouaclaw07_GroundRegions.bits1 (fun HT_ HW_ => ?_)
  generalize w7.drew = w8 at BKx HB hHeld ⊢
  refine pure_ (i := 0) (N := some 12) (v := ?_) (a' := ?_) (bA 14 1) rfl rfl (any_of HT_.out (by kernel_rfl)) (fun _ _ _ h => h) (Or.inl ⟨by rfl, ?_⟩) ?_ ?_
  rotate_left
  ·
   intro w'
   go_simp
   with_reducible rfl
  rotate_left
  ·
   simp only [Act.put, sA, sB, sC, i64_w, i32_w]
   rfl
  refine pure_ (i := 3) (N := some 15) (v := ?_) (a' := ?_) (bA 14 9) rfl rfl (any_of HT_.out (by kernel_rfl)) (fun _ _ _ h => h) (Or.inl ⟨by rfl, ?_⟩) ?_ ?_
  rotate_left
  ·
   intro w'
   go_simp
   with_reducible rfl
  rotate_left
  ·
   simp only [Act.put, sA, sB, sC, i64_w, i32_w]
   rfl
  refine pure_ (i := 5) (N := some 17) (v := ?_) (a' := ?_) (bA 14 41) rfl rfl (any_of HT_.out (by kernel_rfl)) (fun _ _ _ h => h) (Or.inl ⟨by rfl, ?_⟩) ?_ ?_
  rotate_left
  ·
   intro w'
   go_simp
   with_reducible rfl
  rotate_left
  ·
   simp only [Act.put, sA, sB, sC, i64_w, i32_w]
   rfl
  refine pure_ (i := 7) (N := some 19) (v := ?_) (a' := ?_) (bA 14 169) rfl rfl (any_of HT_.out (by kernel_rfl)) (fun _ _ _ h => h) (Or.inl ⟨by rfl, ?_⟩) ?_ ?_
  rotate_left
  ·
   intro w'
   go_simp
   with_reducible rfl
  rotate_left
  ·
   simp only [Act.put, sA, sB, sC, i64_w, i32_w]
   rfl
  refine take_ (i := 1) (N := some 13) (v := ?_) (a' := ?_) (bA 14 171) rfl rfl (take_ofW HT_.out HW_.out (by kernel_rfl)) (fun _ _ _ h => h) (Or.inl ⟨by rfl, ?_⟩) hHeld ?_ ?_
  rotate_left
  ·
   rintro w' ⟨s0, s1, s2, s3, s4, s5, s6⟩
   go_simp
   with_reducible rfl
  rotate_left
  ·
   simp only [Act.put, sA, sB, sC, i64_w, i32_w]
   rfl
  refine take_ (i := 4) (N := some 16) (v := ?_) (a' := ?_) (bA 14 187) rfl rfl (take_ofW HT_.out HW_.out (by kernel_rfl)) (fun _ _ _ h => h) (Or.inl ⟨by rfl, ?_⟩) hHeld ?_ ?_
  rotate_left
  ·
   rintro w' ⟨s0, s1, s2, s3, s4, s5, s6⟩
   go_simp
   with_reducible rfl
  rotate_left
  ·
   simp only [Act.put, sA, sB, sC, i64_w, i32_w]
   rfl
  refine take_ (i := 6) (N := some 18) (v := ?_) (a' := ?_) (bA 14 251) rfl rfl (take_ofW HT_.out HW_.out (by kernel_rfl)) (fun _ _ _ h => h) (Or.inl ⟨by rfl, ?_⟩) hHeld ?_ ?_
  rotate_left
  ·
   rintro w' ⟨s0, s1, s2, s3, s4, s5, s6⟩
   go_simp
   with_reducible rfl
  rotate_left
  ·
   simp only [Act.put, sA, sB, sC, i64_w, i32_w]
   rfl
  refine take_ (i := 8) (N := some 20) (v := ?_) (a' := ?_) (bA 14 507) rfl rfl (take_ofW HT_.out HW_.out (by kernel_rfl)) (fun _ _ _ h => h) (Or.inl ⟨by rfl, ?_⟩) hHeld ?_ ?_
  rotate_left
  ·
   rintro w' ⟨s0, s1, s2, s3, s4, s5, s6⟩
   go_simp
   with_reducible rfl
  rotate_left
  ·
   simp only [Act.put, sA, sB, sC, i64_w, i32_w]
   rfl
  refine join_ (σ := Value × Nat) 4 #[true, true, true, true, true, true, true, true, true, true, false, false, false, false] (fun s_ => [(14, .agg #[.int .i64 m0, .int .i64 m1, .int .i64 m2, s_.1]), (3, .pointer (some ⟨s_.2, 0, none⟩))]) (fun s_ w' => (w'.cell? ⟨gbx, 0, none⟩ = some (.int .i64 a0_0) ∧ w'.cell? ⟨gbx, 1, none⟩ = some (.int .i64 a0_1) ∧ w'.cell? ⟨gbx, 2, none⟩ = some (.int .i64 a0_2) ∧ w'.cell? ⟨gbx, 3, none⟩ = some (.slice A0_3 l0_3.length c0_3) ∧ w'.cell? ⟨gbx, 4, none⟩ = some (.int .i64 a0_4) ∧ w'.cell? ⟨gbx, 5, none⟩ = some (.int .i64 a0_5) ∧ w'.cell? ⟨gbx, 6, none⟩ = some (.int .i64 a0_6)) ∧ (Kd.V (Kd.int .u8) 5 w' w.heap.size (fun k_ => k_ ≠ gbx ∧ k_ ≠ s_.2) s_.1 ml) ∧ (w'.heap[gbx]? = some (.cells #[.int .i64 a0_0, .int .i64 a0_1, .int .i64 a0_2, .slice A0_3 l0_3.length c0_3, .int .i64 a0_4, .int .i64 a0_5, .int .i64 a0_6] 27 (0, 0))) ∧ (w'.heap[s_.2]? = some (.cells #[.int .i64 0, .int .i64 0, .int .i64 0, .slice none 0 0] 25 (0, 0))) ∧ (w.heap.size ≤ s_.2) ∧ (w.heap.size ≤ s_.2) ∧ (gbx ≠ s_.2) ∧ (s_.2 ≠ gbx) ∧ (Below w.heap.size w w')) ?_ ?_
  rotate_left
  ·
   intro hCont
   refine two_ (i := 2) (j := 9) (Ni := some 14) (Nj := some 3) (bA 14 511) #[true, true, false, true, true, true, true, true, true, true, false, false, false, false] rfl rfl rfl rfl (two_of HT_.out (by kernel_rfl)) (by decide) (by decide) (fun K hK => ?_) (fun K hK => ?_)
   ·
    skip
    refine goes_ Try.func10 (by kernel_rfl) rfl #[.agg #[.int .i64 a0_0, .int .i64 a0_1, .int .i64 a0_2, .slice A0_3 l0_3.length c0_3]] (by rfl) rfl rfl (by (try simp only [List.map_toArray, List.map_cons, List.map_nil]); first | done | rfl | (simp only [List.length_drop, List.length_take]; rfl)) ?_
    with_reducible refine (bivouaclaw07_few.calls a0_0 a0_1 a0_2 (fun k_ => k_ < w.heap.size) _ _ l0_3 m0 m1 m2 ml _ ?side1 AF.out).mono ?_
    (case side1 => exact Kd.V_mk HC0_3.out (Kd.F_below (Kd.C_F (Kd.heap_int .u8) HR0_3.out) (by repeat (first | (with_reducible first | exact HB.out | apply below_alloc | apply pw_below_drewN | apply below_drew1 | refine below_set ?_ GEx.out) | exact HB.out))))
    rintro e w9 ⟨vq, rfl, ho0, hb⟩
    refine ⟨_, rfl, ?_⟩
    have n0_ := Aside0.mk (Kd.V_lower (Kd.V_mono (ok' := fun k_ => k_ ≠ gbx) ho0 (fun k_ hk_ => Or.elim hk_ (fun hs_ => fun e_ => Nat.not_le.2 hs_ (by rw [e_]; exact GWx.out)) (fun hn_ => (Kd.freshB (g := gbx) (o := .cells #[.int .i64 a0_0, .int .i64 a0_1, .int .i64 a0_2, .slice A0_3 l0_3.length c0_3, .int .i64 a0_4, .int .i64 a0_5, .int .i64 a0_6] 27 (0, 0)) (by (with_reducible repeat (first | refine blk_drewN ?_ _ | refine blk_drew ?_ | refine blk_alloc ?_ _)); exact BKx.out) k_ hn_)))) (below_size (by repeat (first | (with_reducible first | exact HB.out | apply below_alloc | apply pw_below_drewN | apply below_drew1 | refine below_set ?_ GEx.out) | exact HB.out))))
    have n1_ := Aside0.mk (blk_below (g := gbx) (o := .cells #[.int .i64 a0_0, .int .i64 a0_1, .int .i64 a0_2, .slice A0_3 l0_3.length c0_3, .int .i64 a0_4, .int .i64 a0_5, .int .i64 a0_6] 27 (0, 0)) (by (with_reducible repeat (first | refine blk_drewN ?_ _ | refine blk_drew ?_ | refine blk_alloc ?_ _)); exact BKx.out) hb)
    have n2_ := Aside0.mk (below_step (by repeat (first | (with_reducible first | exact HB.out | apply below_alloc | apply pw_below_drewN | apply below_drew1 | refine below_set ?_ GEx.out) | exact HB.out)) hb)
    clear BKx
    clear HB
    have HOm := n0_
    have BKx := n1_
    have HB := n2_
    clear n0_ n1_ n2_
    (try clear hb)
    (try clear hb2)
    (try clear hk)
    (try clear hi)
    (try clear ho0)
    refine hK.out _ _ ⟨(blk_cell BKx.out 0).trans rfl, (blk_cell BKx.out 1).trans rfl, (blk_cell BKx.out 2).trans rfl, (blk_cell BKx.out 3).trans rfl, (blk_cell BKx.out 4).trans rfl, (blk_cell BKx.out 5).trans rfl, (blk_cell BKx.out 6).trans rfl⟩ (fun hHeld => ?_)
    clear hK K
    refine norm_ (a' := ?_) ?_ ?_
    rotate_left
    ·
     show Act.put _ (some 14) _ = _
     simp only [Act.put, sA, sB, sC, i64_w, i32_w]
     rfl
    refine one_ (i := 9) (N := some 3) (bA 14 1023) rfl rfl (one_of HT_.out (by kernel_rfl)) (by decide) (fun K hK => ?_)
    refine box_step ?hg (N := 3) ?hd (cs := #[.int .i64 0, .int .i64 0, .int .i64 0, .slice none 0 0]) (t := 25) ?hr ?_; (case hd => rfl); (case hg => rfl); (case hr => first | (go_simp; done) | (go_simp; rfl))
    intro gbm hg w10 hbox hb
    have n0_ := Aside0.mk (Kd.V_below (Kd.V_elderB (by (with_reducible repeat (first | apply Kd.V_alloc | apply Kd.V_drewN | apply Kd.V_drew)); exact HOm.out) gbm (Nat.le_of_eq hg.symm)) hb)
    have n1_ := Aside0.mk (blk_below (g := gbx) (o := .cells #[.int .i64 a0_0, .int .i64 a0_1, .int .i64 a0_2, .slice A0_3 l0_3.length c0_3, .int .i64 a0_4, .int .i64 a0_5, .int .i64 a0_6] 27 (0, 0)) (by (with_reducible repeat (first | refine blk_drewN ?_ _ | refine blk_drew ?_ | refine blk_alloc ?_ _)); exact BKx.out) hb)
    have n2_ := Aside0.mk (below_step (by repeat (first | (with_reducible first | exact HB.out | apply below_alloc | apply pw_below_drewN | apply below_drew1 | refine below_set ?_ GEx.out) | exact HB.out)) hb)
    have n3_ := Aside0.mk (hbox)
    have n4_ := Aside0.mk ((by rw [hg]; exact (below_size (by repeat (first | (with_reducible first | exact HB.out | apply below_alloc | apply pw_below_drewN | apply below_drew1 | refine below_set ?_ GEx.out) | exact HB.out))) : w.heap.size ≤ gbm))
    have n5_ := Aside0.mk ((by rw [hg]; exact (below_size (by repeat (first | (with_reducible first | exact HB.out | apply below_alloc | apply pw_below_drewN | apply below_drew1 | refine below_set ?_ GEx.out) | exact HB.out))) : w.heap.size ≤ gbm))
    have n6_ := Aside0.mk ((by rw [hg]; exact Nat.ne_of_lt (blk_lt (g := gbx) (o := .cells #[.int .i64 a0_0, .int .i64 a0_1, .int .i64 a0_2, .slice A0_3 l0_3.length c0_3, .int .i64 a0_4, .int .i64 a0_5, .int .i64 a0_6] 27 (0, 0)) (by (with_reducible repeat (first | refine blk_drewN ?_ _ | refine blk_drew ?_ | refine blk_alloc ?_ _)); exact BKx.out)) : gbx ≠ gbm))
    have n7_ := Aside0.mk ((by rw [hg]; exact Nat.ne_of_gt (blk_lt (g := gbx) (o := .cells #[.int .i64 a0_0, .int .i64 a0_1, .int .i64 a0_2, .slice A0_3 l0_3.length c0_3, .int .i64 a0_4, .int .i64 a0_5, .int .i64 a0_6] 27 (0, 0)) (by (with_reducible repeat (first | refine blk_drewN ?_ _ | refine blk_drew ?_ | refine blk_alloc ?_ _)); exact BKx.out)) : gbm ≠ gbx))
    clear HOm
    clear BKx
    clear HB
    have HOm := n0_
    have BKx := n1_
    have HB := n2_
    have BKm := n3_
    have GWm := n4_
    have GEm := n5_
    have NBx_m := n6_
    have NBm_x := n7_
    clear n0_ n1_ n2_ n3_ n4_ n5_ n6_ n7_
    clear hb hbox hg
    refine hK.out _ _ ⟨(blk_cell BKx.out 0).trans rfl, (blk_cell BKx.out 1).trans rfl, (blk_cell BKx.out 2).trans rfl, (blk_cell BKx.out 3).trans rfl, (blk_cell BKx.out 4).trans rfl, (blk_cell BKx.out 5).trans rfl, (blk_cell BKx.out 6).trans rfl⟩ (fun hHeld => ?_)
    clear hK K
    refine norm_ (a' := ?_) ?_ ?_
    rotate_left
    ·
     show Act.put _ (some 3) _ = _
     simp only [Act.put, sA, sB, sC, i64_w, i32_w]
     rfl
    exact norm_ (by simp only [putAll, Act.put, List.setIfInBounds_toArray, List.set_cons_zero, List.set_cons_succ]) (hCont (vq, gbm) _ ⟨hHeld, (by (with_reducible repeat (first | apply Kd.V_alloc | apply Kd.V_drewN | apply Kd.V_drew)); exact HOm.out), (by (with_reducible repeat (first | refine blk_drewN ?_ _ | refine blk_drew ?_ | refine blk_alloc ?_ _)); exact BKx.out), (by (with_reducible repeat (first | refine blk_drewN ?_ _ | refine blk_drew ?_ | refine blk_alloc ?_ _)); exact BKm.out), GWm.out, GEm.out, NBx_m.out, NBm_x.out, (by repeat (first | (with_reducible first | exact HB.out | apply below_alloc | apply pw_below_drewN | apply below_drew1 | refine below_set ?_ GEx.out | refine below_set ?_ GEm.out) | exact HB.out))⟩)
   ·
    skip
    refine box_step ?hg (N := 3) ?hd (cs := #[.int .i64 0, .int .i64 0, .int .i64 0, .slice none 0 0]) (t := 25) ?hr ?_; (case hd => rfl); (case hg => rfl); (case hr => first | (go_simp; done) | (go_simp; rfl))
    intro gbm hg w9 hbox hb
    have n0_ := Aside0.mk (blk_below (g := gbx) (o := .cells #[.int .i64 a0_0, .int .i64 a0_1, .int .i64 a0_2, .slice A0_3 l0_3.length c0_3, .int .i64 a0_4, .int .i64 a0_5, .int .i64 a0_6] 27 (0, 0)) (by (with_reducible repeat (first | refine blk_drewN ?_ _ | refine blk_drew ?_ | refine blk_alloc ?_ _)); exact BKx.out) hb)
    have n1_ := Aside0.mk (below_step (by repeat (first | (with_reducible first | exact HB.out | apply below_alloc | apply pw_below_drewN | apply below_drew1 | refine below_set ?_ GEx.out) | exact HB.out)) hb)
    have n2_ := Aside0.mk (hbox)
    have n3_ := Aside0.mk ((by rw [hg]; exact (below_size (by repeat (first | (with_reducible first | exact HB.out | apply below_alloc | apply pw_below_drewN | apply below_drew1 | refine below_set ?_ GEx.out) | exact HB.out))) : w.heap.size ≤ gbm))
    have n4_ := Aside0.mk ((by rw [hg]; exact (below_size (by repeat (first | (with_reducible first | exact HB.out | apply below_alloc | apply pw_below_drewN | apply below_drew1 | refine below_set ?_ GEx.out) | exact HB.out))) : w.heap.size ≤ gbm))
    have n5_ := Aside0.mk ((by rw [hg]; exact Nat.ne_of_lt (blk_lt (g := gbx) (o := .cells #[.int .i64 a0_0, .int .i64 a0_1, .int .i64 a0_2, .slice A0_3 l0_3.length c0_3, .int .i64 a0_4, .int .i64 a0_5, .int .i64 a0_6] 27 (0, 0)) (by (with_reducible repeat (first | refine blk_drewN ?_ _ | refine blk_drew ?_ | refine blk_alloc ?_ _)); exact BKx.out)) : gbx ≠ gbm))
    have n6_ := Aside0.mk ((by rw [hg]; exact Nat.ne_of_gt (blk_lt (g := gbx) (o := .cells #[.int .i64 a0_0, .int .i64 a0_1, .int .i64 a0_2, .slice A0_3 l0_3.length c0_3, .int .i64 a0_4, .int .i64 a0_5, .int .i64 a0_6] 27 (0, 0)) (by (with_reducible repeat (first | refine blk_drewN ?_ _ | refine blk_drew ?_ | refine blk_alloc ?_ _)); exact BKx.out)) : gbm ≠ gbx))
    clear BKx
    clear HB
    have BKx := n0_
    have HB := n1_
    have BKm := n2_
    have GWm := n3_
    have GEm := n4_
    have NBx_m := n5_
    have NBm_x := n6_
    clear n0_ n1_ n2_ n3_ n4_ n5_ n6_
    clear hb hbox hg
    refine hK.out _ _ ⟨(blk_cell BKx.out 0).trans rfl, (blk_cell BKx.out 1).trans rfl, (blk_cell BKx.out 2).trans rfl, (blk_cell BKx.out 3).trans rfl, (blk_cell BKx.out 4).trans rfl, (blk_cell BKx.out 5).trans rfl, (blk_cell BKx.out 6).trans rfl⟩ (fun hHeld => ?_)
    clear hK K
    refine norm_ (a' := ?_) ?_ ?_
    rotate_left
    ·
     show Act.put _ (some 3) _ = _
     simp only [Act.put, sA, sB, sC, i64_w, i32_w]
     rfl
    refine one_ (i := 2) (N := some 14) (bA 14 1023) rfl rfl (one_of HT_.out (by kernel_rfl)) (by decide) (fun K hK => ?_)
    refine goes_ Try.func10 (by kernel_rfl) rfl #[.agg #[.int .i64 a0_0, .int .i64 a0_1, .int .i64 a0_2, .slice A0_3 l0_3.length c0_3]] (by rfl) rfl rfl (by (try simp only [List.map_toArray, List.map_cons, List.map_nil]); first | done | rfl | (simp only [List.length_drop, List.length_take]; rfl)) ?_
    with_reducible refine (bivouaclaw07_few.calls a0_0 a0_1 a0_2 (fun k_ => k_ < w.heap.size) _ _ l0_3 m0 m1 m2 ml _ ?side1 AF.out).mono ?_
    (case side1 => exact Kd.V_mk HC0_3.out (Kd.F_below (Kd.C_F (Kd.heap_int .u8) HR0_3.out) (by repeat (first | (with_reducible first | exact HB.out | apply below_alloc | apply pw_below_drewN | apply below_drew1 | refine below_set ?_ GEx.out | refine below_set ?_ GEm.out) | exact HB.out))))
    rintro e w10 ⟨vq, rfl, ho0, hb⟩
    refine ⟨_, rfl, ?_⟩
    have n0_ := Aside0.mk (Kd.V_lower (Kd.V_mono (ok' := fun k_ => k_ ≠ gbx ∧ k_ ≠ gbm) ho0 (fun k_ hk_ => ⟨Or.elim hk_ (fun hs_ => fun e_ => Nat.not_le.2 hs_ (by rw [e_]; exact GWx.out)) (fun hn_ => (Kd.freshB (g := gbx) (o := .cells #[.int .i64 a0_0, .int .i64 a0_1, .int .i64 a0_2, .slice A0_3 l0_3.length c0_3, .int .i64 a0_4, .int .i64 a0_5, .int .i64 a0_6] 27 (0, 0)) (by (with_reducible repeat (first | refine blk_drewN ?_ _ | refine blk_drew ?_ | refine blk_alloc ?_ _)); exact BKx.out) k_ hn_)), Or.elim hk_ (fun hs_ => fun e_ => Nat.not_le.2 hs_ (by rw [e_]; exact GWm.out)) (fun hn_ => (Kd.freshB (g := gbm) (o := .cells #[.int .i64 0, .int .i64 0, .int .i64 0, .slice none 0 0] 25 (0, 0)) (by (with_reducible repeat (first | refine blk_drewN ?_ _ | refine blk_drew ?_ | refine blk_alloc ?_ _)); exact BKm.out) k_ hn_))⟩)) (below_size (by repeat (first | (with_reducible first | exact HB.out | apply below_alloc | apply pw_below_drewN | apply below_drew1 | refine below_set ?_ GEx.out | refine below_set ?_ GEm.out) | exact HB.out))))
    have n1_ := Aside0.mk (blk_below (g := gbx) (o := .cells #[.int .i64 a0_0, .int .i64 a0_1, .int .i64 a0_2, .slice A0_3 l0_3.length c0_3, .int .i64 a0_4, .int .i64 a0_5, .int .i64 a0_6] 27 (0, 0)) (by (with_reducible repeat (first | refine blk_drewN ?_ _ | refine blk_drew ?_ | refine blk_alloc ?_ _)); exact BKx.out) hb)
    have n2_ := Aside0.mk (blk_below (g := gbm) (o := .cells #[.int .i64 0, .int .i64 0, .int .i64 0, .slice none 0 0] 25 (0, 0)) (by (with_reducible repeat (first | refine blk_drewN ?_ _ | refine blk_drew ?_ | refine blk_alloc ?_ _)); exact BKm.out) hb)
    have n3_ := Aside0.mk (below_step (by repeat (first | (with_reducible first | exact HB.out | apply below_alloc | apply pw_below_drewN | apply below_drew1 | refine below_set ?_ GEx.out | refine below_set ?_ GEm.out) | exact HB.out)) hb)
    clear BKx
    clear BKm
    clear HB
    have HOm := n0_
    have BKx := n1_
    have BKm := n2_
    have HB := n3_
    clear n0_ n1_ n2_ n3_
    (try clear hb)
    (try clear hb2)
    (try clear hk)
    (try clear hi)
    (try clear ho0)
    refine hK.out _ _ ⟨(blk_cell BKx.out 0).trans rfl, (blk_cell BKx.out 1).trans rfl, (blk_cell BKx.out 2).trans rfl, (blk_cell BKx.out 3).trans rfl, (blk_cell BKx.out 4).trans rfl, (blk_cell BKx.out 5).trans rfl, (blk_cell BKx.out 6).trans rfl⟩ (fun hHeld => ?_)
    clear hK K
    refine norm_ (a' := ?_) ?_ ?_
    rotate_left
    ·
     show Act.put _ (some 14) _ = _
     simp only [Act.put, sA, sB, sC, i64_w, i32_w]
     rfl
    exact norm_ (by simp only [putAll, Act.put, List.setIfInBounds_toArray, List.set_cons_zero, List.set_cons_succ]) (hCont (vq, gbm) _ ⟨hHeld, (by (with_reducible repeat (first | apply Kd.V_alloc | apply Kd.V_drewN | apply Kd.V_drew)); exact HOm.out), (by (with_reducible repeat (first | refine blk_drewN ?_ _ | refine blk_drew ?_ | refine blk_alloc ?_ _)); exact BKx.out), (by (with_reducible repeat (first | refine blk_drewN ?_ _ | refine blk_drew ?_ | refine blk_alloc ?_ _)); exact BKm.out), GWm.out, GEm.out, NBx_m.out, NBm_x.out, (by repeat (first | (with_reducible first | exact HB.out | apply below_alloc | apply pw_below_drewN | apply below_drew1 | refine below_set ?_ GEx.out | refine below_set ?_ GEm.out) | exact HB.out))⟩)
  rintro ⟨vq, gbm⟩ wq ⟨hS_, h0_, h1_, h2_, h3_, h4_, h5_, h6_, h7_⟩
  have n0_ : Aside0 (Kd.V (Kd.int .u8) 5 wq w.heap.size (fun k_ => k_ ≠ gbx ∧ k_ ≠ gbm) vq ml) := ⟨h0_⟩
  have n1_ : Aside0 (wq.heap[gbx]? = some (.cells #[.int .i64 a0_0, .int .i64 a0_1, .int .i64 a0_2, .slice A0_3 l0_3.length c0_3, .int .i64 a0_4, .int .i64 a0_5, .int .i64 a0_6] 27 (0, 0))) := ⟨h1_⟩
  have n2_ : Aside0 (wq.heap[gbm]? = some (.cells #[.int .i64 0, .int .i64 0, .int .i64 0, .slice none 0 0] 25 (0, 0))) := ⟨h2_⟩
  have n3_ : Aside0 (w.heap.size ≤ gbm) := ⟨h3_⟩
  have n4_ : Aside0 (w.heap.size ≤ gbm) := ⟨h4_⟩
  have n5_ : Aside0 (gbx ≠ gbm) := ⟨h5_⟩
  have n6_ : Aside0 (gbm ≠ gbx) := ⟨h6_⟩
  have n7_ : Aside0 (Below w.heap.size w wq) := ⟨h7_⟩
  clear BKx
  clear HB
  clear h0_ h1_ h2_ h3_ h4_ h5_ h6_ h7_
  have HOm := n0_
  have BKx := n1_
  have BKm := n2_
  have GWm := n3_
  have GEm := n4_
  have NBx_m := n5_
  have NBm_x := n6_
  have HB := n7_
  clear n0_ n1_ n2_ n3_ n4_ n5_ n6_ n7_
  have hHeld : wq.cell? ⟨gbx, 0, none⟩ = some (.int .i64 a0_0) ∧ wq.cell? ⟨gbx, 1, none⟩ = some (.int .i64 a0_1) ∧ wq.cell? ⟨gbx, 2, none⟩ = some (.int .i64 a0_2) ∧ wq.cell? ⟨gbx, 3, none⟩ = some (.slice A0_3 l0_3.length c0_3) ∧ wq.cell? ⟨gbx, 4, none⟩ = some (.int .i64 a0_4) ∧ wq.cell? ⟨gbx, 5, none⟩ = some (.int .i64 a0_5) ∧ wq.cell? ⟨gbx, 6, none⟩ = some (.int .i64 a0_6) := hS_
  obtain ⟨Am, cm, eom⟩ := Kd.V_slice HOm.out
  (first | subst eom | (injection eom with f1_ f2_ f3_; have f4_ := f1_.symm; have f5_ := f3_.symm; clear f1_ f2_ f3_; subst f4_; subst f5_))
  refine norm_ (a' := ?_) ?_ ?_
  rotate_left
  ·
   simp only [putAll, Act.put, List.setIfInBounds_toArray, List.set_cons_zero, List.set_cons_succ]
   rfl
  refine one_ (i := 10) (N := none) (bA 14 2047) rfl rfl (one_of HT_.out (by kernel_rfl)) (by decide) (fun K hK => ?_)
  have hs12 : wq.cell? ⟨gbm, 0, none⟩ = some (.int .i64 0) := (blk_cell BKm.out 0).trans rfl
  have hfs12 := blk_frozen BKm.out 0
  have hns12_0 := NBx_m.out
  have hms12_0 := NBm_x.out
  have hs13 : wq.cell? ⟨gbm, 1, none⟩ = some (.int .i64 0) := (blk_cell BKm.out 1).trans rfl
  have hfs13 := blk_frozen BKm.out 1
  have hns13_0 := NBx_m.out
  have hms13_0 := NBm_x.out
  have hs14 : wq.cell? ⟨gbm, 2, none⟩ = some (.int .i64 0) := (blk_cell BKm.out 2).trans rfl
  have hfs14 := blk_frozen BKm.out 2
  have hns14_0 := NBx_m.out
  have hms14_0 := NBm_x.out
  have hs16 : wq.cell? ⟨gbm, 3, none⟩ = some (.slice none 0 0) := (blk_cell BKm.out 3).trans rfl
  have hfs16 := blk_frozen BKm.out 3
  have hns16_0 := NBx_m.out
  have hms16_0 := NBm_x.out
  refine skip_ (w1 := ?_) (by rfl) rfl ?_ ?_
  rotate_left
  ·
   go_simp
   rfl
  refine hK.out _ _ ⟨((cell_far (p := ⟨gbm, _, none⟩) NBx_m.out _).trans (((cell_far (p := ⟨gbm, _, none⟩) NBx_m.out _).trans (((cell_far (p := ⟨gbm, _, none⟩) NBx_m.out _).trans (((cell_far (p := ⟨gbm, _, none⟩) NBx_m.out _).trans (hHeld.1)))))))), ((cell_far (p := ⟨gbm, _, none⟩) NBx_m.out _).trans (((cell_far (p := ⟨gbm, _, none⟩) NBx_m.out _).trans (((cell_far (p := ⟨gbm, _, none⟩) NBx_m.out _).trans (((cell_far (p := ⟨gbm, _, none⟩) NBx_m.out _).trans (hHeld.2.1)))))))), ((cell_far (p := ⟨gbm, _, none⟩) NBx_m.out _).trans (((cell_far (p := ⟨gbm, _, none⟩) NBx_m.out _).trans (((cell_far (p := ⟨gbm, _, none⟩) NBx_m.out _).trans (((cell_far (p := ⟨gbm, _, none⟩) NBx_m.out _).trans (hHeld.2.2.1)))))))), ((cell_far (p := ⟨gbm, _, none⟩) NBx_m.out _).trans (((cell_far (p := ⟨gbm, _, none⟩) NBx_m.out _).trans (((cell_far (p := ⟨gbm, _, none⟩) NBx_m.out _).trans (((cell_far (p := ⟨gbm, _, none⟩) NBx_m.out _).trans (hHeld.2.2.2.1)))))))), ((cell_far (p := ⟨gbm, _, none⟩) NBx_m.out _).trans (((cell_far (p := ⟨gbm, _, none⟩) NBx_m.out _).trans (((cell_far (p := ⟨gbm, _, none⟩) NBx_m.out _).trans (((cell_far (p := ⟨gbm, _, none⟩) NBx_m.out _).trans (hHeld.2.2.2.2.1)))))))), ((cell_far (p := ⟨gbm, _, none⟩) NBx_m.out _).trans (((cell_far (p := ⟨gbm, _, none⟩) NBx_m.out _).trans (((cell_far (p := ⟨gbm, _, none⟩) NBx_m.out _).trans (((cell_far (p := ⟨gbm, _, none⟩) NBx_m.out _).trans (hHeld.2.2.2.2.2.1)))))))), ((cell_far (p := ⟨gbm, _, none⟩) NBx_m.out _).trans (((cell_far (p := ⟨gbm, _, none⟩) NBx_m.out _).trans (((cell_far (p := ⟨gbm, _, none⟩) NBx_m.out _).trans (((cell_far (p := ⟨gbm, _, none⟩) NBx_m.out _).trans (hHeld.2.2.2.2.2.2))))))))⟩ (fun hHeld => ?_)
  clear hK K
  refine pure_ (i := 11) (N := some 4) (v := ?_) (a' := ?_) (bA 14 4095) rfl rfl (any_of HT_.out (by kernel_rfl)) (fun _ _ _ h => h) (Or.inl ⟨by rfl, ?_⟩) ?_ ?_
  rotate_left
  ·
   intro w'
   go_simp
   with_reducible rfl
  rotate_left
  ·
   simp only [Act.put, sA, sB, sC, i64_w, i32_w]
   rfl
  refine pure_ (i := 12) (N := some 5) (v := ?_) (a' := ?_) (bA 14 8191) rfl rfl (any_of HT_.out (by kernel_rfl)) (fun _ _ _ h => h) (Or.inl ⟨by rfl, ?_⟩) ?_ ?_
  rotate_left
  ·
   intro w'
   go_simp
   with_reducible rfl
  rotate_left
  ·
   simp only [Act.put, sA, sB, sC, i64_w, i32_w]
   rfl
  refine pure_ (i := 13) (N := some 6) (v := ?_) (a' := ?_) (bA 14 16383) rfl rfl (any_of HT_.out (by kernel_rfl)) (fun _ _ _ h => h) (Or.inl ⟨by rfl, ?_⟩) ?_ ?_
  rotate_left
  ·
   intro w'
   go_simp
   with_reducible rfl
  rotate_left
  ·
   simp only [Act.put, sA, sB, sC, i64_w, i32_w]
   rfl
  refine done_ (done_of HT_.out (by kernel_rfl)) ?_
  have q0 := Kd.V_far (Kd.V_far (Kd.V_far (Kd.V_far HOm.out (p := ⟨gbm, 0, none⟩) (fun _ h => h.2) (.int .i64 m0)) (p := ⟨gbm, 1, none⟩) (fun _ h => h.2) (.int .i64 m1)) (p := ⟨gbm, 2, none⟩) (fun _ h => h.2) (.int .i64 m2)) (p := ⟨gbm, 3, none⟩) (fun _ h => h.2) (.slice Am ml.length cm)
  have q1 : ((((wq.setCell ⟨gbm, 0, none⟩ (.int .i64 m0)).setCell ⟨gbm, 1, none⟩ (.int .i64 m1)).setCell ⟨gbm, 2, none⟩ (.int .i64 m2)).setCell ⟨gbm, 3, none⟩ (.slice Am ml.length cm)).heap[gbm]? = some (.cells #[.int .i64 m0, .int .i64 m1, .int .i64 m2, .slice Am ml.length cm] 25 (0, 0)) := blk_put (blk_put (blk_put (blk_put BKm.out 0 (.int .i64 m0) rfl) 1 (.int .i64 m1) rfl) 2 (.int .i64 m2) rfl) 3 (.slice Am ml.length cm) rfl
  have q2 : Below w.heap.size w ((((wq.setCell ⟨gbm, 0, none⟩ (.int .i64 m0)).setCell ⟨gbm, 1, none⟩ (.int .i64 m1)).setCell ⟨gbm, 2, none⟩ (.int .i64 m2)).setCell ⟨gbm, 3, none⟩ (.slice Am ml.length cm)) := below_set (below_set (below_set (below_set HB.out GWm.out) GWm.out) GWm.out) GWm.out
  obtain ⟨wm, hwm⟩ : ∃ x, ((((wq.setCell ⟨gbm, 0, none⟩ (.int .i64 m0)).setCell ⟨gbm, 1, none⟩ (.int .i64 m1)).setCell ⟨gbm, 2, none⟩ (.int .i64 m2)).setCell ⟨gbm, 3, none⟩ (.slice Am ml.length cm)) = x := ⟨_, rfl⟩
  rw [hwm] at q0 q1 q2 ⊢
  have HRm := Aside0.mk (Kd.V_reads' q0).2.2
  have HCm := Aside0.mk (Kd.V_reads' q0).2.1
  have Kbm := Aside0.mk q1
  clear HB
  have HB := Aside0.mk q2
  clear q0 q1 q2 hwm hHeld HOm BKm BKx HT_ HW_ hfs12 hns12_0 hms12_0 hfs13 hns13_0 hms13_0 hfs14 hns14_0 hms14_0 hfs16 hns16_0 hms16_0 hs12 hs13 hs14 hs16
  have zbm_0 : wm.cell? ⟨gbm, 0, none⟩ = some (.int .i64 m0) := (blk_cell Kbm.out 0).trans rfl
  have zbm_1 : wm.cell? ⟨gbm, 1, none⟩ = some (.int .i64 m1) := (blk_cell Kbm.out 1).trans rfl
  have zbm_2 : wm.cell? ⟨gbm, 2, none⟩ = some (.int .i64 m2) := (blk_cell Kbm.out 2).trans rfl
  have zbm_3 : wm.cell? ⟨gbm, 3, none⟩ = some (.slice Am ml.length cm) := (blk_cell Kbm.out 3).trans rfl
  go_upto_if 30 with (first | (go_at_call 16; refine (ground_Regions.calls k m0 m1 m2 _ _ ml a0_4 l e _ HRm.out HCm.out HLr.out).mono ?_; rintro e ww1 ⟨v1, rfl, hv1, hb⟩; obtain ⟨Al, cl, rfl⟩ := Kd.R_slice hv1; have HL := Aside0.mk (Kd.R_reads' hv1).2.2; clear hv1; have KK := Aside0.mk (blk_below Kbm.out hb); clear Kbm; have Kbm := KK; clear KK; have KK := Aside0.mk (Kd.C_below HRm.out hb); clear HRm; have HRm := KK; clear KK; have KK := Aside0.mk (below_step HB.out hb); clear HB; have HB := KK; clear KK; clear hb; clear zbm_0 zbm_1 zbm_2 zbm_3; have zbm_0 : ww1.cell? ⟨gbm, 0, none⟩ = some (.int .i64 m0) := (blk_cell Kbm.out 0).trans rfl; have zbm_1 : ww1.cell? ⟨gbm, 1, none⟩ = some (.int .i64 m1) := (blk_cell Kbm.out 1).trans rfl; have zbm_2 : ww1.cell? ⟨gbm, 2, none⟩ = some (.int .i64 m2) := (blk_cell Kbm.out 2).trans rfl; have zbm_3 : ww1.cell? ⟨gbm, 3, none⟩ = some (.slice Am ml.length cm) := (blk_cell Kbm.out 3).trans rfl) | (go_at_call 12; refine (bivouaclaw07_right.calls k m0 m1 m2 _ _ ml a0_4 t _ HRm.out HCm.out HT.out).mono ?_; rintro e ww2 ⟨rfl, hb⟩; have KK := Aside0.mk (blk_below Kbm.out hb); clear Kbm; have Kbm := KK; clear KK; have KK := Aside0.mk (Kd.C_below HRm.out hb); clear HRm; have HRm := KK; clear KK; have KK := Aside0.mk (Kd.C_below HL.out hb); clear HL; have HL := KK; clear KK; have KK := Aside0.mk (below_step HB.out hb); clear HB; have HB := KK; clear KK; clear hb; clear zbm_0 zbm_1 zbm_2 zbm_3; have zbm_0 : ww2.cell? ⟨gbm, 0, none⟩ = some (.int .i64 m0) := (blk_cell Kbm.out 0).trans rfl; have zbm_1 : ww2.cell? ⟨gbm, 1, none⟩ = some (.int .i64 m1) := (blk_cell Kbm.out 1).trans rfl; have zbm_2 : ww2.cell? ⟨gbm, 2, none⟩ = some (.int .i64 m2) := (blk_cell Kbm.out 2).trans rfl; have zbm_3 : ww2.cell? ⟨gbm, 3, none⟩ = some (.slice Am ml.length cm) := (blk_cell Kbm.out 3).trans rfl))
  have h := HH.out
  clear HH HT HLr AF HR0_3 HC0_3
  cases t
  · rw [if_neg (by decide)] at h
    have hc : l = [] ∧ e = 1 ∧ j = false := by
      rcases Classical.em (l = [] ∧ e = 1 ∧ j = false) with c | c
      · exact c
      · rw [if_neg c] at h; cases h
    rw [if_pos hc] at h
    obtain ⟨rfl, rfl, rfl⟩ := hc
    have HAW := Aside0.mk h
    clear h
    go_wp2_with (first | (go_at_call 17; refine (ground_Joined.calls k m0 m1 m2 _ _ ml a0_4 a0_5 a0_6 false _ HRm.out HCm.out HJ.out).mono ?_; rintro e ww3 ⟨rfl, hb⟩; have KK := Aside0.mk (blk_below Kbm.out hb); clear Kbm; have Kbm := KK; clear KK; have KK := Aside0.mk (Kd.C_below HRm.out hb); clear HRm; have HRm := KK; clear KK; have KK := Aside0.mk (below_step HB.out hb); clear HB; have HB := KK; clear KK; clear hb; clear zbm_0 zbm_1 zbm_2 zbm_3) | (go_at_call 9; refine (bivouaclaw07_awake.calls k r _ HAW.out).mono ?_; rintro e ww4 ⟨rfl, hb⟩; have KK := Aside0.mk (below_step HB.out hb); clear HB; have HB := KK; clear KK; clear hb))
    go_ret
    exact ⟨rfl, HB.out⟩
  rw [if_pos rfl] at h
  replace h := Option.bind_eq_some_iff.1 h
  obtain ⟨q, hq, h⟩ := h
  have hc : l = q ∧ e = 0 ∧ q.length ≤ 4096 ∧ j = bivouaclaw07_GroundRegions.jo q a0_5 a0_6 := by
    rcases Classical.em (l = q ∧ e = 0 ∧ q.length ≤ 4096 ∧ j = bivouaclaw07_GroundRegions.jo q a0_5 a0_6) with c | c
    · exact c
    · rw [if_neg c] at h; cases h
  rw [if_pos hc] at h
  obtain ⟨rfl, rfl, hq4, hjo⟩ := hc
  have HAW := Aside0.mk h
  have HQ := Aside0.mk hq
  have HQ4 := Aside0.mk hq4
  have HJO := Aside0.mk hjo
  clear h hq hq4 hjo
  have b0 : ((l.length : Int) != (l.length : Int)) = false := by simp
  go_wp2_with (first | (go_at_call 18; refine (bivouacref07_Regions.calls k m0 m1 m2 _ _ ml a0_4 l _ HRm.out HCm.out HQ.out).mono ?_; rintro e ww3 ⟨v2, rfl, hv2, hb⟩; obtain ⟨Aq, cq, rfl⟩ := Kd.R_slice hv2; have HW := Aside0.mk (Kd.R_reads' hv2).2.2; clear hv2; have KK := Aside0.mk (blk_below Kbm.out hb); clear Kbm; have Kbm := KK; clear KK; have KK := Aside0.mk (Kd.C_below HRm.out hb); clear HRm; have HRm := KK; clear KK; have KK := Aside0.mk (Kd.C_below HL.out hb); clear HL; have HL := KK; clear KK; have KK := Aside0.mk (below_step HB.out hb); clear HB; have HB := KK; clear KK; clear hb; clear zbm_0 zbm_1 zbm_2 zbm_3; have zbm_0 : ww3.cell? ⟨gbm, 0, none⟩ = some (.int .i64 m0) := (blk_cell Kbm.out 0).trans rfl; have zbm_1 : ww3.cell? ⟨gbm, 1, none⟩ = some (.int .i64 m1) := (blk_cell Kbm.out 1).trans rfl; have zbm_2 : ww3.cell? ⟨gbm, 2, none⟩ = some (.int .i64 m2) := (blk_cell Kbm.out 2).trans rfl; have zbm_3 : ww3.cell? ⟨gbm, 3, none⟩ = some (.slice Am ml.length cm) := (blk_cell Kbm.out 3).trans rfl))
  go_loopg [10] l.length (fun kq v10 w' => ∃ (i : Int), v10 = .int .i64 i ∧ Aside0 (0 ≤ i ∧ i ≤ (l.length : Int) ∧ (kq : Int) + i = (l.length : Int)) ∧ Aside0 (Kd.C (Kd.int .u8) w' Am ml.length ml) ∧ Aside0 (Kd.C (Kd.int .i64) w' Al l.length l) ∧ Aside0 (Kd.C (Kd.int .i64) w' Aq l.length l) ∧ Aside0 (w'.heap[gbm]? = some (.cells #[.int .i64 m0, .int .i64 m1, .int .i64 m2, .slice Am ml.length cm] 25 (0, 0))) ∧ Aside0 (Below w.heap.size w w'))
  case atStart => exact ⟨0, rfl, ⟨by omega⟩, HRm, HL, HW, Kbm, HB⟩
  case round =>
    clear HRm HL HW Kbm HB zbm_0 zbm_1 zbm_2 zbm_3
    obtain ⟨i, rfl, HI, HRm, HL, HW, Kbm, HB⟩ := hrel
    by_cases hi : i < (l.length : Int)
    · have d0 : decide (i < (l.length : Int)) = true := decide_eq_true hi
      obtain ⟨i0, i1, i2⟩ := HI.out
      obtain ⟨ad, ea, x0⟩ := Kd.at_int HL.out i i0 hi
      obtain ⟨adq, eq, y0⟩ := Kd.at_int HW.out i i0 hi
      subst ea
      subst eq
      have e1 : wrap64 (i + 1) = i + 1 := by unfold wrap64; have := HQ4.out; omega
      have r1 : IntKind.i64.wrap (i + 1) = i + 1 := by rw [i64_w]; exact e1
      have t2 : (rd l i != rd l i) = false := by simp
      have HI2 := Aside0.mk (And.intro i0 (And.intro hi i2))
      have q0 : 0 ≤ i := i0
      have q1 : i < (l.length : Int) := hi
      clear i0 i1 i2 hi HI
      go_wp2
      go_quiet (fail)
      go_wp2
      go_roundg (l.length - (i.toNat + 1))
      case measure => have := HI2.out; omega
      case rel => exact ⟨i + 1, rfl, ⟨by have := HI2.out; omega⟩, ⟨Kd.C_drewN HRm.out _⟩, ⟨Kd.C_drewN HL.out _⟩, ⟨Kd.C_drewN HW.out _⟩, ⟨blk_drewN Kbm.out _⟩, ⟨pw_below_drewN HB.out _⟩⟩
    have d0 : decide (i < (l.length : Int)) = false := decide_eq_false hi
    clear hi HI
    have zbm_0 : wr.cell? ⟨gbm, 0, none⟩ = some (.int .i64 m0) := (blk_cell Kbm.out 0).trans rfl
    have zbm_1 : wr.cell? ⟨gbm, 1, none⟩ = some (.int .i64 m1) := (blk_cell Kbm.out 1).trans rfl
    have zbm_2 : wr.cell? ⟨gbm, 2, none⟩ = some (.int .i64 m2) := (blk_cell Kbm.out 2).trans rfl
    have zbm_3 : wr.cell? ⟨gbm, 3, none⟩ = some (.slice Am ml.length cm) := (blk_cell Kbm.out 3).trans rfl
    go_wp2
    refine wp_region_quiet_lit (by kernel_rfl) (by as_aux_lemma => kernel_rfl) ?_
    by_cases h1 : 0 ≤ a0_5
    rotate_left
    · have dh1 : decide (0 ≤ a0_5) = false := decide_eq_false h1
      have K := Aside0.mk h1
      clear h1
      obtain rfl : j = false := HJO.out.trans (decide_eq_false (fun h => K.out (by omega)))
      repeat (go_big_quiet_step (fail))
      refine wpQuiet_nil ?_
      intro _ hw'
      obtain ⟨nq2, hw''⟩ := hw'
      subst hw''
      go_wp2_with (first | (go_at_call 17; refine (ground_Joined.calls k m0 m1 m2 _ _ ml a0_4 a0_5 a0_6 false _ (Kd.C_drewN HRm.out _) HCm.out HJ.out).mono ?_; rintro e ww61 ⟨rfl, hb⟩; have hb := below_step (pw_below_drewN HB.out _) hb; clear HB; have HB := Aside0.mk hb; clear hb) | (go_at_call 9; refine (bivouaclaw07_awake.calls k r _ HAW.out).mono ?_; rintro e ww62 ⟨rfl, hb⟩; have KK := Aside0.mk (below_step HB.out hb); clear HB; have HB := KK; clear KK; clear hb))
      go_ret
      exact ⟨rfl, HB.out⟩
    have dh1 : decide (0 ≤ a0_5) = true := decide_eq_true h1
    by_cases h2 : a0_5 < (l.length : Int)
    rotate_left
    · have dh2 : decide (a0_5 < (l.length : Int)) = false := decide_eq_false h2
      have K := Aside0.mk h2
      clear h2
      obtain rfl : j = false := HJO.out.trans (decide_eq_false (fun h => K.out (by omega)))
      repeat (go_big_quiet_step (fail))
      refine wpQuiet_nil ?_
      intro _ hw'
      obtain ⟨nq2, hw''⟩ := hw'
      subst hw''
      go_wp2_with (first | (go_at_call 17; refine (ground_Joined.calls k m0 m1 m2 _ _ ml a0_4 a0_5 a0_6 false _ (Kd.C_drewN HRm.out _) HCm.out HJ.out).mono ?_; rintro e ww61 ⟨rfl, hb⟩; have hb := below_step (pw_below_drewN HB.out _) hb; clear HB; have HB := Aside0.mk hb; clear hb) | (go_at_call 9; refine (bivouaclaw07_awake.calls k r _ HAW.out).mono ?_; rintro e ww62 ⟨rfl, hb⟩; have KK := Aside0.mk (below_step HB.out hb); clear HB; have HB := KK; clear KK; clear hb))
      go_ret
      exact ⟨rfl, HB.out⟩
    have dh2 : decide (a0_5 < (l.length : Int)) = true := decide_eq_true h2
    by_cases h3 : 0 ≤ a0_6
    rotate_left
    · have dh3 : decide (0 ≤ a0_6) = false := decide_eq_false h3
      have K := Aside0.mk h3
      clear h3
      obtain rfl : j = false := HJO.out.trans (decide_eq_false (fun h => K.out (by omega)))
      repeat (go_big_quiet_step (fail))
      refine wpQuiet_nil ?_
      intro _ hw'
      obtain ⟨nq2, hw''⟩ := hw'
      subst hw''
      go_wp2_with (first | (go_at_call 17; refine (ground_Joined.calls k m0 m1 m2 _ _ ml a0_4 a0_5 a0_6 false _ (Kd.C_drewN HRm.out _) HCm.out HJ.out).mono ?_; rintro e ww61 ⟨rfl, hb⟩; have hb := below_step (pw_below_drewN HB.out _) hb; clear HB; have HB := Aside0.mk hb; clear hb) | (go_at_call 9; refine (bivouaclaw07_awake.calls k r _ HAW.out).mono ?_; rintro e ww62 ⟨rfl, hb⟩; have KK := Aside0.mk (below_step HB.out hb); clear HB; have HB := KK; clear KK; clear hb))
      go_ret
      exact ⟨rfl, HB.out⟩
    have dh3 : decide (0 ≤ a0_6) = true := decide_eq_true h3
    by_cases h4 : a0_6 < (l.length : Int)
    rotate_left
    · have dh4 : decide (a0_6 < (l.length : Int)) = false := decide_eq_false h4
      have K := Aside0.mk h4
      clear h4
      obtain rfl : j = false := HJO.out.trans (decide_eq_false (fun h => K.out (by omega)))
      repeat (go_big_quiet_step (fail))
      refine wpQuiet_nil ?_
      intro _ hw'
      obtain ⟨nq2, hw''⟩ := hw'
      subst hw''
      go_wp2_with (first | (go_at_call 17; refine (ground_Joined.calls k m0 m1 m2 _ _ ml a0_4 a0_5 a0_6 false _ (Kd.C_drewN HRm.out _) HCm.out HJ.out).mono ?_; rintro e ww61 ⟨rfl, hb⟩; have hb := below_step (pw_below_drewN HB.out _) hb; clear HB; have HB := Aside0.mk hb; clear hb) | (go_at_call 9; refine (bivouaclaw07_awake.calls k r _ HAW.out).mono ?_; rintro e ww62 ⟨rfl, hb⟩; have KK := Aside0.mk (below_step HB.out hb); clear HB; have HB := KK; clear KK; clear hb))
      go_ret
      exact ⟨rfl, HB.out⟩
    have dh4 : decide (a0_6 < (l.length : Int)) = true := decide_eq_true h4
    obtain ⟨ad, ea, x0⟩ := Kd.at_int HW.out a0_5 h1 h2
    obtain ⟨ad3, ea3, x1⟩ := Kd.at_int HW.out a0_6 h3 h4
    rw [ea] at ea3
    obtain rfl := Option.some.inj ea3
    subst ea
    clear ea3
    have HX := Aside0.mk (And.intro h1 (And.intro h2 (And.intro h3 h4)))
    obtain ⟨u, hu⟩ : ∃ u, rd l a0_5 = u := ⟨_, rfl⟩
    obtain ⟨v, hv⟩ : ∃ v, rd l a0_6 = v := ⟨_, rfl⟩
    rw [hu] at x0
    rw [hv] at x1
    have HU := Aside0.mk hu
    have HV2 := Aside0.mk hv
    clear hu hv
    by_cases g : 0 ≤ u
    · have d5 : decide (0 ≤ u) = true := decide_eq_true g
      by_cases q : u = v
      · subst q
        have K := Aside0.mk g
        clear g
        obtain rfl : j = true := HJO.out.trans (decide_eq_true (by have := HX.out; have := K.out; have := HU.out; have := HV2.out; omega))
        repeat (go_big_quiet_step (fail))
        refine wpQuiet_nil ?_
        intro _ hw'
        obtain ⟨nq2, hw''⟩ := hw'
        subst hw''
        go_wp2_with (first | (go_at_call 17; refine (ground_Joined.calls k m0 m1 m2 _ _ ml a0_4 a0_5 a0_6 true _ (Kd.C_drewN HRm.out _) HCm.out HJ.out).mono ?_; rintro e ww61 ⟨rfl, hb⟩; have hb := below_step (pw_below_drewN HB.out _) hb; clear HB; have HB := Aside0.mk hb; clear hb) | (go_at_call 9; refine (bivouaclaw07_awake.calls k r _ HAW.out).mono ?_; rintro e ww62 ⟨rfl, hb⟩; have KK := Aside0.mk (below_step HB.out hb); clear HB; have HB := KK; clear KK; clear hb))
        go_ret
        exact ⟨rfl, HB.out⟩
      · have d6 : (u == v) = false := beq_eq_false_iff_ne.mpr q
        have K := Aside0.mk q
        clear g q
        obtain rfl : j = false := HJO.out.trans (decide_eq_false (fun h => K.out (by have := HU.out; have := HV2.out; omega)))
        repeat (go_big_quiet_step (fail))
        refine wpQuiet_nil ?_
        intro _ hw'
        obtain ⟨nq2, hw''⟩ := hw'
        subst hw''
        go_wp2_with (first | (go_at_call 17; refine (ground_Joined.calls k m0 m1 m2 _ _ ml a0_4 a0_5 a0_6 false _ (Kd.C_drewN HRm.out _) HCm.out HJ.out).mono ?_; rintro e ww61 ⟨rfl, hb⟩; have hb := below_step (pw_below_drewN HB.out _) hb; clear HB; have HB := Aside0.mk hb; clear hb) | (go_at_call 9; refine (bivouaclaw07_awake.calls k r _ HAW.out).mono ?_; rintro e ww62 ⟨rfl, hb⟩; have KK := Aside0.mk (below_step HB.out hb); clear HB; have HB := KK; clear KK; clear hb))
        go_ret
        exact ⟨rfl, HB.out⟩
    · have d5 : decide (0 ≤ u) = false := decide_eq_false g
      have K := Aside0.mk g
      clear g
      obtain rfl : j = false := HJO.out.trans (decide_eq_false (fun h => K.out (by have := HU.out; omega)))
      repeat (go_big_quiet_step (fail))
      refine wpQuiet_nil ?_
      intro _ hw'
      obtain ⟨nq2, hw''⟩ := hw'
      subst hw''
      go_wp2_with (first | (go_at_call 17; refine (ground_Joined.calls k m0 m1 m2 _ _ ml a0_4 a0_5 a0_6 false _ (Kd.C_drewN HRm.out _) HCm.out HJ.out).mono ?_; rintro e ww61 ⟨rfl, hb⟩; have hb := below_step (pw_below_drewN HB.out _) hb; clear HB; have HB := Aside0.mk hb; clear hb) | (go_at_call 9; refine (bivouaclaw07_awake.calls k r _ HAW.out).mono ?_; rintro e ww62 ⟨rfl, hb⟩; have KK := Aside0.mk (below_step HB.out hb); clear HB; have HB := KK; clear KK; clear hb))
      go_ret
      exact ⟨rfl, HB.out⟩
/-- THE ONE PURE STATEMENT of bivouaclaw07_GroundRegions. -/
def bivouaclaw07_GroundRegions.Pure : Prop := ∀ (a0_0 : Int) (a0_1 : Int) (a0_2 : Int) (l0_3 : List Int) (a0_4 : Int) (a0_5 : Int) (a0_6 : Int), (Lit.int .i64 a0_0).wf = true → (Lit.int .i64 a0_1).wf = true → (Lit.int .i64 a0_2).wf = true → l0_3.length ≤ maxLen → (∀ x ∈ l0_3, (Lit.int .u8 x).wf = true) → (Lit.int .i64 a0_4).wf = true → (Lit.int .i64 a0_5).wf = true → (Lit.int .i64 a0_6).wf = true → ∃ k, bivouaclaw07_GroundRegions.f k a0_0 a0_1 a0_2 l0_3 a0_4 a0_5 a0_6 = some true
theorem bivouaclaw07_GroundRegions.walked : True := trivial

end Go.Proofs.Ytnpippechogagaa.PA
