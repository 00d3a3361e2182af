/- The contract of bivouaclaw07_GroundOrder: what its call comes to, for every argument, in any memory. -/
import Derived.Test.YtnpippechogagaaPAx0
import Derived.Test.YtnpippechogagaaPAx10
import Derived.Test.YtnpippechogagaaPAx16
import Derived.Test.YtnpippechogagaaGAbivouaclaw07awake
import Derived.Test.YtnpippechogagaaGAbivouacref07Open
import Derived.Test.YtnpippechogagaaGAgroundJoined
import Derived.Test.YtnpippechogagaaGAgroundRegions
import Derived.Test.YtnpippechogagaaGAreliefDepth
import Derived.Test.YtnpippechogagaaGAreliefSlope
namespace Go.Proofs.Ytnpippechogagaa.PA
open Go.RowKit Go.Proofs.YtnpippechogagaaW.PrintWords Go.Proofs.YtnpippechogagaaW.PrintLast Go.Proofs.YtnpippechogagaaW.PrintMore
set_option linter.unusedVariables false
set_option linter.unusedSimpArgs false

def bivouaclaw07_GroundOrder.ok (c : Int) (o a s p h t : Bool × Int) : Bool := if o.2 = 0 then decide (a.2 = 0) && a.1 && (!s.1 || (p.1 && h.1)) && (!p.1 || (h.1 && !t.1)) else !o.1 && (decide (a.2 ≠ 0) || (a.1 && (decide (c < 0) || decide (c > 5))))
def bivouaclaw07_GroundOrder.f (k : Nat) (a0_0 : Int) (a0_1 : Int) (a0_2 : Int) (l0_3 : List Int) (a0_4 : Int) (a0_5 : Int) (a0_6 : Int) : Option (Bool) := (bivouaclaw07_few.f a0_0 a0_1 a0_2 l0_3).bind fun m => (ground_Open.f k m.1 m.2.1 m.2.2.1 m.2.2.2 a0_4 a0_5 a0_6).bind fun o => (ground_Open.f k m.1 m.2.1 m.2.2.1 m.2.2.2 5 a0_5 a0_6).bind fun a => (ground_Open.f k m.1 m.2.1 m.2.2.1 m.2.2.2 3 a0_5 a0_6).bind fun s => (ground_Open.f k m.1 m.2.1 m.2.2.1 m.2.2.2 2 a0_5 a0_6).bind fun p => (ground_Open.f k m.1 m.2.1 m.2.2.1 m.2.2.2 1 a0_5 a0_6).bind fun h => (ground_Open.f k m.1 m.2.1 m.2.2.1 m.2.2.2 0 a0_5 a0_6).bind fun t => if bivouaclaw07_GroundOrder.ok a0_4 o a s p h t = true then bivouaclaw07_awake.f k else none
theorem bivouaclaw07_GroundOrder.mono : ∀ a0 a1 a2 a3 a4 a5 a6 k, LeO (bivouaclaw07_GroundOrder.f k a0 a1 a2 a3 a4 a5 a6) (bivouaclaw07_GroundOrder.f (k + 1) a0 a1 a2 a3 a4 a5 a6) := by
  intro a0 a1 a2 a3 a4 a5 a6 k
  exact LeO.bind (LeO.refl _) (fun _ => LeO.bind (ground_Open.mono _ _ _ _ _ _ _ _) (fun _ => LeO.bind (ground_Open.mono _ _ _ _ _ _ _ _) (fun _ => LeO.bind (ground_Open.mono _ _ _ _ _ _ _ _) (fun _ => LeO.bind (ground_Open.mono _ _ _ _ _ _ _ _) (fun _ => LeO.bind (ground_Open.mono _ _ _ _ _ _ _ _) (fun _ => LeO.bind (ground_Open.mono _ _ _ _ _ _ _ _) (fun _ => LeO.ite (bivouaclaw07_awake.mono _) (LeO.refl _))))))))
def bivouaclaw07_GroundOrder.T1 : Bool × List (List Nat × List Nat) := (true, [([], []), ([0], [0]), ([1], [1]), ([], []), ([3], [3]), ([], []), ([5], [5]), ([], []), ([7], [7]), ([], []), ([9, 2, 2, 0, 1, 2, 9], [2, 9]), ([4, 10, 0, 1, 2, 3, 4, 9, 10], [4]), ([6, 11, 0, 1, 2, 3, 4, 5, 6, 9, 10, 11], [6]), ([8, 12, 0, 1, 2, 3, 4, 5, 6, 7, 8, 9, 10, 11, 12], [8])])
def bivouaclaw07_GroundOrder.B1 : List Nat := [0, 1, 3, 0, 8, 0, 32, 0, 128, 0, 519, 1567, 3711, 8191]
theorem bivouaclaw07_GroundOrder.tab1 : rtab .any (opsOf Try.f8 1) = bivouaclaw07_GroundOrder.T1 := by kernel_rfl
theorem bivouaclaw07_GroundOrder.bits1 : waitsOk bivouaclaw07_GroundOrder.T1.2 bivouaclaw07_GroundOrder.B1 = true := by kernel_rfl
set_option maxHeartbeats 8000000 in
set_option maxRecDepth 100000 in
theorem bivouaclaw07_GroundOrder.calls (k : Nat) (a0_0 : Int) (a0_1 : Int) (a0_2 : Int) (A0_3 : Option Addr) (c0_3 : Nat) (l0_3 : List Int) (a0_4 : Int) (a0_5 : Int) (a0_6 : Int) (r : Bool) (w : World) (hr0_3 : Kd.C (Kd.int .u8) w A0_3 l0_3.length l0_3) (hc0_3 : l0_3.length ≤ c0_3) (h : bivouaclaw07_GroundOrder.f k a0_0 a0_1 a0_2 l0_3 a0_4 a0_5 a0_6 = some r) :
    Calls Try.prog 8 #[.agg #[.int .i64 a0_0, .int .i64 a0_1, .int .i64 a0_2, .slice A0_3 l0_3.length c0_3, .int .i64 a0_4, .int .i64 a0_5, .int .i64 a0_6]] w fun e w' => e = .returned (.bool r) ∧ Below w.heap.size w w' := by
  have HR0_3 := Aside0.mk hr0_3
  have HC0_3 := Aside0.mk hc0_3
  clear hr0_3 hc0_3
  have HB := Aside0.mk (Below.refl w.heap.size w)
  unfold bivouaclaw07_GroundOrder.f at h
  replace h := Option.bind_eq_some_iff.1 h
  obtain ⟨⟨m0, m1, m2, ml⟩, hf, h⟩ := h
  have AF := Aside0.mk hf
  clear hf
  try dsimp only at h
  replace h := Option.bind_eq_some_iff.1 h
  obtain ⟨⟨o1, o2⟩, ho, h⟩ := h
  have Ho := Aside0.mk ho
  clear ho
  replace h := Option.bind_eq_some_iff.1 h
  obtain ⟨⟨a1, a2⟩, ha, h⟩ := h
  have Ha := Aside0.mk ha
  clear ha
  replace h := Option.bind_eq_some_iff.1 h
  obtain ⟨⟨s1, s2⟩, hs, h⟩ := h
  have Hs := Aside0.mk hs
  clear hs
  replace h := Option.bind_eq_some_iff.1 h
  obtain ⟨⟨p1, p2⟩, hp, h⟩ := h
  have Hp := Aside0.mk hp
  clear hp
  replace h := Option.bind_eq_some_iff.1 h
  obtain ⟨⟨h1, h2⟩, hh, h⟩ := h
  have Hh := Aside0.mk hh
  clear hh
  replace h := Option.bind_eq_some_iff.1 h
  obtain ⟨⟨t1, t2⟩, ht, h⟩ := h
  have Ht := Aside0.mk ht
  clear ht
  try dsimp only at h
  have hok : bivouaclaw07_GroundOrder.ok a0_4 (o1, o2) (a1, a2) (s1, s2) (p1, p2) (h1, h2) (t1, t2) = true := by
    rcases Bool.eq_false_or_eq_true (bivouaclaw07_GroundOrder.ok a0_4 (o1, o2) (a1, a2) (s1, s2) (p1, p2) (h1, h2) (t1, t2)) with e | e
    · exact e
    · rw [if_neg (by rw [e]; decide)] at h
      cases h
  rw [if_pos hok] at h
  have HAW := Aside0.mk h
  clear h
  unfold bivouaclaw07_GroundOrder.ok at hok
  try dsimp only at hok
  have HOK := Aside0.mk hok
  clear hok
  go_enter Try.func8, Try.ntmps8
  try go_wp2_with (first | ((with_reducible refine gate_dst (N := 1) rfl ?_); refine box_event ?hg (N := 1) ?hd (cs := #[.int .i64 a0_0, .int .i64 a0_1, .int .i64 a0_2, .slice A0_3 l0_3.length c0_3, .int .i64 a0_4, .int .i64 a0_5, .int .i64 a0_6]) (t := 27) ?hr ?_; (case hd => rfl); (case hg => rfl); (case hr => first | (go_simp; done) | (go_simp; rfl)); intro gbx hg w7 hbox hb; have n0_ := Aside0.mk (below_step (by repeat (first | (with_reducible first | exact HB.out | apply below_alloc | apply pw_below_drewN | apply below_drew1) | exact HB.out)) hb); have n1_ := Aside0.mk (hbox); have n2_ := Aside0.mk ((by rw [hg]; exact (below_size (by repeat (first | (with_reducible first | exact HB.out | apply below_alloc | apply pw_below_drewN | apply below_drew1) | exact HB.out))) : w.heap.size ≤ gbx)); have n3_ := Aside0.mk ((by rw [hg]; exact (below_size (by repeat (first | (with_reducible first | exact HB.out | apply below_alloc | apply pw_below_drewN | apply below_drew1) | exact HB.out))) : w.heap.size ≤ gbx)); clear HB; have HB := n0_; have BKx := n1_; have GWx := n2_; have GEx := n3_; clear n0_ n1_ n2_ n3_; clear hb hbox hg))
  have n0_ := Aside0.mk (blk_drew BKx.out)
  have n1_ := Aside0.mk (below_drew1 HB.out)
  clear BKx
  clear HB
  have BKx := n0_
  have HB := n1_
  clear n0_ n1_
  refine start_ (n := 14) (S := fun w' => w'.cell? ⟨gbx, 0, none⟩ = some (.int .i64 a0_0) ∧ w'.cell? ⟨gbx, 1, none⟩ = some (.int .i64 a0_1) ∧ w'.cell? ⟨gbx, 2, none⟩ = some (.int .i64 a0_2) ∧ w'.cell? ⟨gbx, 3, none⟩ = some (.slice A0_3 l0_3.length c0_3) ∧ w'.cell? ⟨gbx, 4, none⟩ = some (.int .i64 a0_4) ∧ w'.cell? ⟨gbx, 5, none⟩ = some (.int .i64 a0_5) ∧ w'.cell? ⟨gbx, 6, none⟩ = some (.int .i64 a0_6)) (ds := []) (bA 14 0) (by kernel_rfl) rfl rfl ⟨(blk_cell BKx.out 0).trans rfl, (blk_cell BKx.out 1).trans rfl, (blk_cell BKx.out 2).trans rfl, (blk_cell BKx.out 3).trans rfl, (blk_cell BKx.out 4).trans rfl, (blk_cell BKx.out 5).trans rfl, (blk_cell BKx.out 6).trans rfl⟩ (fun hHeld => ?_); refine with_tabW bivouaclaw07_GroundOrder.tab1 bivouaclaw07_GroundOrder.bits1 (fun HT_ HW_ => ?_)
  generalize w7.drew = w8 at BKx HB hHeld ⊢
  refine pure_ (i := 0) (N := some 19) (v := ?_) (a' := ?_) (bA 14 1) rfl rfl (any_of HT_.out (by kernel_rfl)) (fun _ _ _ h => h) (Or.inl ⟨by rfl, ?_⟩) ?_ ?_
  rotate_left
  ·
   intro w'
   go_simp
   with_reducible rfl
  rotate_left
  ·
   simp only [Act.put, sA, sB, sC, i64_w, i32_w]
   rfl
  refine pure_ (i := 3) (N := some 22) (v := ?_) (a' := ?_) (bA 14 9) rfl rfl (any_of HT_.out (by kernel_rfl)) (fun _ _ _ h => h) (Or.inl ⟨by rfl, ?_⟩) ?_ ?_
  rotate_left
  ·
   intro w'
   go_simp
   with_reducible rfl
  rotate_left
  ·
   simp only [Act.put, sA, sB, sC, i64_w, i32_w]
   rfl
  refine pure_ (i := 5) (N := some 24) (v := ?_) (a' := ?_) (bA 14 41) rfl rfl (any_of HT_.out (by kernel_rfl)) (fun _ _ _ h => h) (Or.inl ⟨by rfl, ?_⟩) ?_ ?_
  rotate_left
  ·
   intro w'
   go_simp
   with_reducible rfl
  rotate_left
  ·
   simp only [Act.put, sA, sB, sC, i64_w, i32_w]
   rfl
  refine pure_ (i := 7) (N := some 26) (v := ?_) (a' := ?_) (bA 14 169) rfl rfl (any_of HT_.out (by kernel_rfl)) (fun _ _ _ h => h) (Or.inl ⟨by rfl, ?_⟩) ?_ ?_
  rotate_left
  ·
   intro w'
   go_simp
   with_reducible rfl
  rotate_left
  ·
   simp only [Act.put, sA, sB, sC, i64_w, i32_w]
   rfl
  refine take_ (i := 1) (N := some 20) (v := ?_) (a' := ?_) (bA 14 171) rfl rfl (take_ofW HT_.out HW_.out (by kernel_rfl)) (fun _ _ _ h => h) (Or.inl ⟨by rfl, ?_⟩) hHeld ?_ ?_
  rotate_left
  ·
   rintro w' ⟨s0, s1, s2, s3, s4, s5, s6⟩
   go_simp
   with_reducible rfl
  rotate_left
  ·
   simp only [Act.put, sA, sB, sC, i64_w, i32_w]
   rfl
  refine take_ (i := 4) (N := some 23) (v := ?_) (a' := ?_) (bA 14 187) rfl rfl (take_ofW HT_.out HW_.out (by kernel_rfl)) (fun _ _ _ h => h) (Or.inl ⟨by rfl, ?_⟩) hHeld ?_ ?_
  rotate_left
  ·
   rintro w' ⟨s0, s1, s2, s3, s4, s5, s6⟩
   go_simp
   with_reducible rfl
  rotate_left
  ·
   simp only [Act.put, sA, sB, sC, i64_w, i32_w]
   rfl
  refine take_ (i := 6) (N := some 25) (v := ?_) (a' := ?_) (bA 14 251) rfl rfl (take_ofW HT_.out HW_.out (by kernel_rfl)) (fun _ _ _ h => h) (Or.inl ⟨by rfl, ?_⟩) hHeld ?_ ?_
  rotate_left
  ·
   rintro w' ⟨s0, s1, s2, s3, s4, s5, s6⟩
   go_simp
   with_reducible rfl
  rotate_left
  ·
   simp only [Act.put, sA, sB, sC, i64_w, i32_w]
   rfl
  refine take_ (i := 8) (N := some 27) (v := ?_) (a' := ?_) (bA 14 507) rfl rfl (take_ofW HT_.out HW_.out (by kernel_rfl)) (fun _ _ _ h => h) (Or.inl ⟨by rfl, ?_⟩) hHeld ?_ ?_
  rotate_left
  ·
   rintro w' ⟨s0, s1, s2, s3, s4, s5, s6⟩
   go_simp
   with_reducible rfl
  rotate_left
  ·
   simp only [Act.put, sA, sB, sC, i64_w, i32_w]
   rfl
  refine join_ (σ := Value × Nat) 4 #[true, true, true, true, true, true, true, true, true, true, false, false, false, false] (fun s_ => [(21, .agg #[.int .i64 m0, .int .i64 m1, .int .i64 m2, s_.1]), (3, .pointer (some ⟨s_.2, 0, none⟩))]) (fun s_ w' => (w'.cell? ⟨gbx, 0, none⟩ = some (.int .i64 a0_0) ∧ w'.cell? ⟨gbx, 1, none⟩ = some (.int .i64 a0_1) ∧ w'.cell? ⟨gbx, 2, none⟩ = some (.int .i64 a0_2) ∧ w'.cell? ⟨gbx, 3, none⟩ = some (.slice A0_3 l0_3.length c0_3) ∧ w'.cell? ⟨gbx, 4, none⟩ = some (.int .i64 a0_4) ∧ w'.cell? ⟨gbx, 5, none⟩ = some (.int .i64 a0_5) ∧ w'.cell? ⟨gbx, 6, none⟩ = some (.int .i64 a0_6)) ∧ (Kd.V (Kd.int .u8) 5 w' w.heap.size (fun k_ => k_ ≠ gbx ∧ k_ ≠ s_.2) s_.1 ml) ∧ (w'.heap[gbx]? = some (.cells #[.int .i64 a0_0, .int .i64 a0_1, .int .i64 a0_2, .slice A0_3 l0_3.length c0_3, .int .i64 a0_4, .int .i64 a0_5, .int .i64 a0_6] 27 (0, 0))) ∧ (w'.heap[s_.2]? = some (.cells #[.int .i64 0, .int .i64 0, .int .i64 0, .slice none 0 0] 25 (0, 0))) ∧ (w.heap.size ≤ s_.2) ∧ (w.heap.size ≤ s_.2) ∧ (gbx ≠ s_.2) ∧ (s_.2 ≠ gbx) ∧ (Below w.heap.size w w')) ?_ ?_
  rotate_left
  ·
   intro hCont
   refine two_ (i := 2) (j := 9) (Ni := some 21) (Nj := some 3) (bA 14 511) #[true, true, false, true, true, true, true, true, true, true, false, false, false, false] rfl rfl rfl rfl (two_of HT_.out (by kernel_rfl)) (by decide) (by decide) (fun K hK => ?_) (fun K hK => ?_)
   ·
    skip
    refine goes_ Try.func10 (by kernel_rfl) rfl #[.agg #[.int .i64 a0_0, .int .i64 a0_1, .int .i64 a0_2, .slice A0_3 l0_3.length c0_3]] (by rfl) rfl rfl (by (try simp only [List.map_toArray, List.map_cons, List.map_nil]); first | done | rfl | (simp only [List.length_drop, List.length_take]; rfl)) ?_
    with_reducible refine (bivouaclaw07_few.calls a0_0 a0_1 a0_2 (fun k_ => k_ < w.heap.size) _ _ l0_3 m0 m1 m2 ml _ ?side1 AF.out).mono ?_
    (case side1 => exact Kd.V_mk HC0_3.out (Kd.F_below (Kd.C_F (Kd.heap_int .u8) HR0_3.out) (by repeat (first | (with_reducible first | exact HB.out | apply below_alloc | apply pw_below_drewN | apply below_drew1 | refine below_set ?_ GEx.out) | exact HB.out))))
    rintro e w9 ⟨vq, rfl, ho0, hb⟩
    refine ⟨_, rfl, ?_⟩
    have n0_ := Aside0.mk (Kd.V_lower (Kd.V_mono (ok' := fun k_ => k_ ≠ gbx) ho0 (fun k_ hk_ => Or.elim hk_ (fun hs_ => fun e_ => Nat.not_le.2 hs_ (by rw [e_]; exact GWx.out)) (fun hn_ => (Kd.freshB (g := gbx) (o := .cells #[.int .i64 a0_0, .int .i64 a0_1, .int .i64 a0_2, .slice A0_3 l0_3.length c0_3, .int .i64 a0_4, .int .i64 a0_5, .int .i64 a0_6] 27 (0, 0)) (by (with_reducible repeat (first | refine blk_drewN ?_ _ | refine blk_drew ?_ | refine blk_alloc ?_ _)); exact BKx.out) k_ hn_)))) (below_size (by repeat (first | (with_reducible first | exact HB.out | apply below_alloc | apply pw_below_drewN | apply below_drew1 | refine below_set ?_ GEx.out) | exact HB.out))))
    have n1_ := Aside0.mk (blk_below (g := gbx) (o := .cells #[.int .i64 a0_0, .int .i64 a0_1, .int .i64 a0_2, .slice A0_3 l0_3.length c0_3, .int .i64 a0_4, .int .i64 a0_5, .int .i64 a0_6] 27 (0, 0)) (by (with_reducible repeat (first | refine blk_drewN ?_ _ | refine blk_drew ?_ | refine blk_alloc ?_ _)); exact BKx.out) hb)
    have n2_ := Aside0.mk (below_step (by repeat (first | (with_reducible first | exact HB.out | apply below_alloc | apply pw_below_drewN | apply below_drew1 | refine below_set ?_ GEx.out) | exact HB.out)) hb)
    clear BKx
    clear HB
    have HOm := n0_
    have BKx := n1_
    have HB := n2_
    clear n0_ n1_ n2_
    (try clear hb)
    (try clear hb2)
    (try clear hk)
    (try clear hi)
    (try clear ho0)
    refine hK.out _ _ ⟨(blk_cell BKx.out 0).trans rfl, (blk_cell BKx.out 1).trans rfl, (blk_cell BKx.out 2).trans rfl, (blk_cell BKx.out 3).trans rfl, (blk_cell BKx.out 4).trans rfl, (blk_cell BKx.out 5).trans rfl, (blk_cell BKx.out 6).trans rfl⟩ (fun hHeld => ?_)
    clear hK K
    refine norm_ (a' := ?_) ?_ ?_
    rotate_left
    ·
     show Act.put _ (some 21) _ = _
     simp only [Act.put, sA, sB, sC, i64_w, i32_w]
     rfl
    refine one_ (i := 9) (N := some 3) (bA 14 1023) rfl rfl (one_of HT_.out (by kernel_rfl)) (by decide) (fun K hK => ?_)
    refine box_step ?hg (N := 3) ?hd (cs := #[.int .i64 0, .int .i64 0, .int .i64 0, .slice none 0 0]) (t := 25) ?hr ?_; (case hd => rfl); (case hg => rfl); (case hr => first | (go_simp; done) | (go_simp; rfl))
    intro gbm hg w10 hbox hb
    have n0_ := Aside0.mk (Kd.V_below (Kd.V_elderB (by (with_reducible repeat (first | apply Kd.V_alloc | apply Kd.V_drewN | apply Kd.V_drew)); exact HOm.out) gbm (Nat.le_of_eq hg.symm)) hb)
    have n1_ := Aside0.mk (blk_below (g := gbx) (o := .cells #[.int .i64 a0_0, .int .i64 a0_1, .int .i64 a0_2, .slice A0_3 l0_3.length c0_3, .int .i64 a0_4, .int .i64 a0_5, .int .i64 a0_6] 27 (0, 0)) (by (with_reducible repeat (first | refine blk_drewN ?_ _ | refine blk_drew ?_ | refine blk_alloc ?_ _)); exact BKx.out) hb)
    have n2_ := Aside0.mk (below_step (by repeat (first | (with_reducible first | exact HB.out | apply below_alloc | apply pw_below_drewN | apply below_drew1 | refine below_set ?_ GEx.out) | exact HB.out)) hb)
    have n3_ := Aside0.mk (hbox)
    have n4_ := Aside0.mk ((by rw [hg]; exact (below_size (by repeat (first | (with_reducible first | exact HB.out | apply below_alloc | apply pw_below_drewN | apply below_drew1 | refine below_set ?_ GEx.out) | exact HB.out))) : w.heap.size ≤ gbm))
    have n5_ := Aside0.mk ((by rw [hg]; exact (below_size (by repeat (first | (with_reducible first | exact HB.out | apply below_alloc | apply pw_below_drewN | apply below_drew1 | refine below_set ?_ GEx.out) | exact HB.out))) : w.heap.size ≤ gbm))
    have n6_ := Aside0.mk ((by rw [hg]; exact Nat.ne_of_lt (blk_lt (g := gbx) (o := .cells #[.int .i64 a0_0, .int .i64 a0_1, .int .i64 a0_2, .slice A0_3 l0_3.length c0_3, .int .i64 a0_4, .int .i64 a0_5, .int .i64 a0_6] 27 (0, 0)) (by (with_reducible repeat (first | refine blk_drewN ?_ _ | refine blk_drew ?_ | refine blk_alloc ?_ _)); exact BKx.out)) : gbx ≠ gbm))
    have n7_ := Aside0.mk ((by rw [hg]; exact Nat.ne_of_gt (blk_lt (g := gbx) (o := .cells #[.int .i64 a0_0, .int .i64 a0_1, .int .i64 a0_2, .slice A0_3 l0_3.length c0_3, .int .i64 a0_4, .int .i64 a0_5, .int .i64 a0_6] 27 (0, 0)) (by (with_reducible repeat (first | refine blk_drewN ?_ _ | refine blk_drew ?_ | refine blk_alloc ?_ _)); exact BKx.out)) : gbm ≠ gbx))
    clear HOm
    clear BKx
    clear HB
    have HOm := n0_
    have BKx := n1_
    have HB := n2_
    have BKm := n3_
    have GWm := n4_
    have GEm := n5_
    have NBx_m := n6_
    have NBm_x := n7_
    clear n0_ n1_ n2_ n3_ n4_ n5_ n6_ n7_
    clear hb hbox hg
    refine hK.out _ _ ⟨(blk_cell BKx.out 0).trans rfl, (blk_cell BKx.out 1).trans rfl, (blk_cell BKx.out 2).trans rfl, (blk_cell BKx.out 3).trans rfl, (blk_cell BKx.out 4).trans rfl, (blk_cell BKx.out 5).trans rfl, (blk_cell BKx.out 6).trans rfl⟩ (fun hHeld => ?_)
    clear hK K
    refine norm_ (a' := ?_) ?_ ?_
    rotate_left
    ·
     show Act.put _ (some 3) _ = _
     simp only [Act.put, sA, sB, sC, i64_w, i32_w]
     rfl
    exact norm_ (by simp only [putAll, Act.put, List.setIfInBounds_toArray, List.set_cons_zero, List.set_cons_succ]) (hCont (vq, gbm) _ ⟨hHeld, (by (with_reducible repeat (first | apply Kd.V_alloc | apply Kd.V_drewN | apply Kd.V_drew)); exact HOm.out), (by (with_reducible repeat (first | refine blk_drewN ?_ _ | refine blk_drew ?_ | refine blk_alloc ?_ _)); exact BKx.out), (by (with_reducible repeat (first | refine blk_drewN ?_ _ | refine blk_drew ?_ | refine blk_alloc ?_ _)); exact BKm.out), GWm.out, GEm.out, NBx_m.out, NBm_x.out, (by repeat (first | (with_reducible first | exact HB.out | apply below_alloc | apply pw_below_drewN | apply below_drew1 | refine below_set ?_ GEx.out | refine below_set ?_ GEm.out) | exact HB.out))⟩)
   ·
    skip
    refine box_step ?hg (N := 3) ?hd (cs := #[.int .i64 0, .int .i64 0, .int .i64 0, .slice none 0 0]) (t := 25) ?hr ?_; (case hd => rfl); (case hg => rfl); (case hr => first | (go_simp; done) | (go_simp; rfl))
    intro gbm hg w9 hbox hb
    have n0_ := Aside0.mk (blk_below (g := gbx) (o := .cells #[.int .i64 a0_0, .int .i64 a0_1, .int .i64 a0_2, .slice A0_3 l0_3.length c0_3, .int .i64 a0_4, .int .i64 a0_5, .int .i64 a0_6] 27 (0, 0)) (by (with_reducible repeat (first | refine blk_drewN ?_ _ | refine blk_drew ?_ | refine blk_alloc ?_ _)); exact BKx.out) hb)
    have n1_ := Aside0.mk (below_step (by repeat (first | (with_reducible first | exact HB.out | apply below_alloc | apply pw_below_drewN | apply below_drew1 | refine below_set ?_ GEx.out) | exact HB.out)) hb)
    have n2_ := Aside0.mk (hbox)
    have n3_ := Aside0.mk ((by rw [hg]; exact (below_size (by repeat (first | (with_reducible first | exact HB.out | apply below_alloc | apply pw_below_drewN | apply below_drew1 | refine below_set ?_ GEx.out) | exact HB.out))) : w.heap.size ≤ gbm))
    have n4_ := Aside0.mk ((by rw [hg]; exact (below_size (by repeat (first | (with_reducible first | exact HB.out | apply below_alloc | apply pw_below_drewN | apply below_drew1 | refine below_set ?_ GEx.out) | exact HB.out))) : w.heap.size ≤ gbm))
    have n5_ := Aside0.mk ((by rw [hg]; exact Nat.ne_of_lt (blk_lt (g := gbx) (o := .cells #[.int .i64 a0_0, .int .i64 a0_1, .int .i64 a0_2, .slice A0_3 l0_3.length c0_3, .int .i64 a0_4, .int .i64 a0_5, .int .i64 a0_6] 27 (0, 0)) (by (with_reducible repeat (first | refine blk_drewN ?_ _ | refine blk_drew ?_ | refine blk_alloc ?_ _)); exact BKx.out)) : gbx ≠ gbm))
    have n6_ := Aside0.mk ((by rw [hg]; exact Nat.ne_of_gt (blk_lt (g := gbx) (o := .cells #[.int .i64 a0_0, .int .i64 a0_1, .int .i64 a0_2, .slice A0_3 l0_3.length c0_3, .int .i64 a0_4, .int .i64 a0_5, .int .i64 a0_6] 27 (0, 0)) (by (with_reducible repeat (first | refine blk_drewN ?_ _ | refine blk_drew ?_ | refine blk_alloc ?_ _)); exact BKx.out)) : gbm ≠ gbx))
    clear BKx
    clear HB
    have BKx := n0_
    have HB := n1_
    have BKm := n2_
    have GWm := n3_
    have GEm := n4_
    have NBx_m := n5_
    have NBm_x := n6_
    clear n0_ n1_ n2_ n3_ n4_ n5_ n6_
    clear hb hbox hg
    refine hK.out _ _ ⟨(blk_cell BKx.out 0).trans rfl, (blk_cell BKx.out 1).trans rfl, (blk_cell BKx.out 2).trans rfl, (blk_cell BKx.out 3).trans rfl, (blk_cell BKx.out 4).trans rfl, (blk_cell BKx.out 5).trans rfl, (blk_cell BKx.out 6).trans rfl⟩ (fun hHeld => ?_)
    clear hK K
    refine norm_ (a' := ?_) ?_ ?_
    rotate_left
    ·
     show Act.put _ (some 3) _ = _
     simp only [Act.put, sA, sB, sC, i64_w, i32_w]
     rfl
    refine one_ (i := 2) (N := some 21) (bA 14 1023) rfl rfl (one_of HT_.out (by kernel_rfl)) (by decide) (fun K hK => ?_)
    refine goes_ Try.func10 (by kernel_rfl) rfl #[.agg #[.int .i64 a0_0, .int .i64 a0_1, .int .i64 a0_2, .slice A0_3 l0_3.length c0_3]] (by rfl) rfl rfl (by (try simp only [List.map_toArray, List.map_cons, List.map_nil]); first | done | rfl | (simp only [List.length_drop, List.length_take]; rfl)) ?_
    with_reducible refine (bivouaclaw07_few.calls a0_0 a0_1 a0_2 (fun k_ => k_ < w.heap.size) _ _ l0_3 m0 m1 m2 ml _ ?side1 AF.out).mono ?_
    (case side1 => exact Kd.V_mk HC0_3.out (Kd.F_below (Kd.C_F (Kd.heap_int .u8) HR0_3.out) (by repeat (first | (with_reducible first | exact HB.out | apply below_alloc | apply pw_below_drewN | apply below_drew1 | refine below_set ?_ GEx.out | refine below_set ?_ GEm.out) | exact HB.out))))
    rintro e w10 ⟨vq, rfl, ho0, hb⟩
    refine ⟨_, rfl, ?_⟩
    have n0_ := Aside0.mk (Kd.V_lower (Kd.V_mono (ok' := fun k_ => k_ ≠ gbx ∧ k_ ≠ gbm) ho0 (fun k_ hk_ => ⟨Or.elim hk_ (fun hs_ => fun e_ => Nat.not_le.2 hs_ (by rw [e_]; exact GWx.out)) (fun hn_ => (Kd.freshB (g := gbx) (o := .cells #[.int .i64 a0_0, .int .i64 a0_1, .int .i64 a0_2, .slice A0_3 l0_3.length c0_3, .int .i64 a0_4, .int .i64 a0_5, .int .i64 a0_6] 27 (0, 0)) (by (with_reducible repeat (first | refine blk_drewN ?_ _ | refine blk_drew ?_ | refine blk_alloc ?_ _)); exact BKx.out) k_ hn_)), Or.elim hk_ (fun hs_ => fun e_ => Nat.not_le.2 hs_ (by rw [e_]; exact GWm.out)) (fun hn_ => (Kd.freshB (g := gbm) (o := .cells #[.int .i64 0, .int .i64 0, .int .i64 0, .slice none 0 0] 25 (0, 0)) (by (with_reducible repeat (first | refine blk_drewN ?_ _ | refine blk_drew ?_ | refine blk_alloc ?_ _)); exact BKm.out) k_ hn_))⟩)) (below_size (by repeat (first | (with_reducible first | exact HB.out | apply below_alloc | apply pw_below_drewN | apply below_drew1 | refine below_set ?_ GEx.out | refine below_set ?_ GEm.out) | exact HB.out))))
    have n1_ := Aside0.mk (blk_below (g := gbx) (o := .cells #[.int .i64 a0_0, .int .i64 a0_1, .int .i64 a0_2, .slice A0_3 l0_3.length c0_3, .int .i64 a0_4, .int .i64 a0_5, .int .i64 a0_6] 27 (0, 0)) (by (with_reducible repeat (first | refine blk_drewN ?_ _ | refine blk_drew ?_ | refine blk_alloc ?_ _)); exact BKx.out) hb)
    have n2_ := Aside0.mk (blk_below (g := gbm) (o := .cells #[.int .i64 0, .int .i64 0, .int .i64 0, .slice none 0 0] 25 (0, 0)) (by (with_reducible repeat (first | refine blk_drewN ?_ _ | refine blk_drew ?_ | refine blk_alloc ?_ _)); exact BKm.out) hb)
    have n3_ := Aside0.mk (below_step (by repeat (first | (with_reducible first | exact HB.out | apply below_alloc | apply pw_below_drewN | apply below_drew1 | refine below_set ?_ GEx.out | refine below_set ?_ GEm.out) | exact HB.out)) hb)
    clear BKx
    clear BKm
    clear HB
    have HOm := n0_
    have BKx := n1_
    have BKm := n2_
    have HB := n3_
    clear n0_ n1_ n2_ n3_
    (try clear hb)
    (try clear hb2)
    (try clear hk)
    (try clear hi)
    (try clear ho0)
    refine hK.out _ _ ⟨(blk_cell BKx.out 0).trans rfl, (blk_cell BKx.out 1).trans rfl, (blk_cell BKx.out 2).trans rfl, (blk_cell BKx.out 3).trans rfl, (blk_cell BKx.out 4).trans rfl, (blk_cell BKx.out 5).trans rfl, (blk_cell BKx.out 6).trans rfl⟩ (fun hHeld => ?_)
    clear hK K
    refine norm_ (a' := ?_) ?_ ?_
    rotate_left
    ·
     show Act.put _ (some 21) _ = _
     simp only [Act.put, sA, sB, sC, i64_w, i32_w]
     rfl
    exact norm_ (by simp only [putAll, Act.put, List.setIfInBounds_toArray, List.set_cons_zero, List.set_cons_succ]) (hCont (vq, gbm) _ ⟨hHeld, (by (with_reducible repeat (first | apply Kd.V_alloc | apply Kd.V_drewN | apply Kd.V_drew)); exact HOm.out), (by (with_reducible repeat (first | refine blk_drewN ?_ _ | refine blk_drew ?_ | refine blk_alloc ?_ _)); exact BKx.out), (by (with_reducible repeat (first | refine blk_drewN ?_ _ | refine blk_drew ?_ | refine blk_alloc ?_ _)); exact BKm.out), GWm.out, GEm.out, NBx_m.out, NBm_x.out, (by repeat (first | (with_reducible first | exact HB.out | apply below_alloc | apply pw_below_drewN | apply below_drew1 | refine below_set ?_ GEx.out | refine below_set ?_ GEm.out) | exact HB.out))⟩)
  rintro ⟨vq, gbm⟩ wq ⟨hS_, h0_, h1_, h2_, h3_, h4_, h5_, h6_, h7_⟩
  have n0_ : Aside0 (Kd.V (Kd.int .u8) 5 wq w.heap.size (fun k_ => k_ ≠ gbx ∧ k_ ≠ gbm) vq ml) := ⟨h0_⟩
  have n1_ : Aside0 (wq.heap[gbx]? = some (.cells #[.int .i64 a0_0, .int .i64 a0_1, .int .i64 a0_2, .slice A0_3 l0_3.length c0_3, .int .i64 a0_4, .int .i64 a0_5, .int .i64 a0_6] 27 (0, 0))) := ⟨h1_⟩
  have n2_ : Aside0 (wq.heap[gbm]? = some (.cells #[.int .i64 0, .int .i64 0, .int .i64 0, .slice none 0 0] 25 (0, 0))) := ⟨h2_⟩
  have n3_ : Aside0 (w.heap.size ≤ gbm) := ⟨h3_⟩
  have n4_ : Aside0 (w.heap.size ≤ gbm) := ⟨h4_⟩
  have n5_ : Aside0 (gbx ≠ gbm) := ⟨h5_⟩
  have n6_ : Aside0 (gbm ≠ gbx) := ⟨h6_⟩
  have n7_ : Aside0 (Below w.heap.size w wq) := ⟨h7_⟩
  clear BKx
  clear HB
  clear h0_ h1_ h2_ h3_ h4_ h5_ h6_ h7_
  have HOm := n0_
  have BKx := n1_
  have BKm := n2_
  have GWm := n3_
  have GEm := n4_
  have NBx_m := n5_
  have NBm_x := n6_
  have HB := n7_
  clear n0_ n1_ n2_ n3_ n4_ n5_ n6_ n7_
  have hHeld : wq.cell? ⟨gbx, 0, none⟩ = some (.int .i64 a0_0) ∧ wq.cell? ⟨gbx, 1, none⟩ = some (.int .i64 a0_1) ∧ wq.cell? ⟨gbx, 2, none⟩ = some (.int .i64 a0_2) ∧ wq.cell? ⟨gbx, 3, none⟩ = some (.slice A0_3 l0_3.length c0_3) ∧ wq.cell? ⟨gbx, 4, none⟩ = some (.int .i64 a0_4) ∧ wq.cell? ⟨gbx, 5, none⟩ = some (.int .i64 a0_5) ∧ wq.cell? ⟨gbx, 6, none⟩ = some (.int .i64 a0_6) := hS_
  obtain ⟨Am, cm, eom⟩ := Kd.V_slice HOm.out
  (first | subst eom | (injection eom with f1_ f2_ f3_; have f4_ := f1_.symm; have f5_ := f3_.symm; clear f1_ f2_ f3_; subst f4_; subst f5_))
  refine norm_ (a' := ?_) ?_ ?_
  rotate_left
  ·
   simp only [putAll, Act.put, List.setIfInBounds_toArray, List.set_cons_zero, List.set_cons_succ]
   rfl
  refine one_ (i := 10) (N := none) (bA 14 2047) rfl rfl (one_of HT_.out (by kernel_rfl)) (by decide) (fun K hK => ?_)
  have hs12 : wq.cell? ⟨gbm, 0, none⟩ = some (.int .i64 0) := (blk_cell BKm.out 0).trans rfl
  have hfs12 := blk_frozen BKm.out 0
  have hns12_0 := NBx_m.out
  have hms12_0 := NBm_x.out
  have hs13 : wq.cell? ⟨gbm, 1, none⟩ = some (.int .i64 0) := (blk_cell BKm.out 1).trans rfl
  have hfs13 := blk_frozen BKm.out 1
  have hns13_0 := NBx_m.out
  have hms13_0 := NBm_x.out
  have hs14 : wq.cell? ⟨gbm, 2, none⟩ = some (.int .i64 0) := (blk_cell BKm.out 2).trans rfl
  have hfs14 := blk_frozen BKm.out 2
  have hns14_0 := NBx_m.out
  have hms14_0 := NBm_x.out
  have hs16 : wq.cell? ⟨gbm, 3, none⟩ = some (.slice none 0 0) := (blk_cell BKm.out 3).trans rfl
  have hfs16 := blk_frozen BKm.out 3
  have hns16_0 := NBx_m.out
  have hms16_0 := NBm_x.out
  refine skip_ (w1 := ?_) (by rfl) rfl ?_ ?_
  rotate_left
  ·
   go_simp
   rfl
  refine hK.out _ _ ⟨((cell_far (p := ⟨gbm, _, none⟩) NBx_m.out _).trans (((cell_far (p := ⟨gbm, _, none⟩) NBx_m.out _).trans (((cell_far (p := ⟨gbm, _, none⟩) NBx_m.out _).trans (((cell_far (p := ⟨gbm, _, none⟩) NBx_m.out _).trans (hHeld.1)))))))), ((cell_far (p := ⟨gbm, _, none⟩) NBx_m.out _).trans (((cell_far (p := ⟨gbm, _, none⟩) NBx_m.out _).trans (((cell_far (p := ⟨gbm, _, none⟩) NBx_m.out _).trans (((cell_far (p := ⟨gbm, _, none⟩) NBx_m.out _).trans (hHeld.2.1)))))))), ((cell_far (p := ⟨gbm, _, none⟩) NBx_m.out _).trans (((cell_far (p := ⟨gbm, _, none⟩) NBx_m.out _).trans (((cell_far (p := ⟨gbm, _, none⟩) NBx_m.out _).trans (((cell_far (p := ⟨gbm, _, none⟩) NBx_m.out _).trans (hHeld.2.2.1)))))))), ((cell_far (p := ⟨gbm, _, none⟩) NBx_m.out _).trans (((cell_far (p := ⟨gbm, _, none⟩) NBx_m.out _).trans (((cell_far (p := ⟨gbm, _, none⟩) NBx_m.out _).trans (((cell_far (p := ⟨gbm, _, none⟩) NBx_m.out _).trans (hHeld.2.2.2.1)))))))), ((cell_far (p := ⟨gbm, _, none⟩) NBx_m.out _).trans (((cell_far (p := ⟨gbm, _, none⟩) NBx_m.out _).trans (((cell_far (p := ⟨gbm, _, none⟩) NBx_m.out _).trans (((cell_far (p := ⟨gbm, _, none⟩) NBx_m.out _).trans (hHeld.2.2.2.2.1)))))))), ((cell_far (p := ⟨gbm, _, none⟩) NBx_m.out _).trans (((cell_far (p := ⟨gbm, _, none⟩) NBx_m.out _).trans (((cell_far (p := ⟨gbm, _, none⟩) NBx_m.out _).trans (((cell_far (p := ⟨gbm, _, none⟩) NBx_m.out _).trans (hHeld.2.2.2.2.2.1)))))))), ((cell_far (p := ⟨gbm, _, none⟩) NBx_m.out _).trans (((cell_far (p := ⟨gbm, _, none⟩) NBx_m.out _).trans (((cell_far (p := ⟨gbm, _, none⟩) NBx_m.out _).trans (((cell_far (p := ⟨gbm, _, none⟩) NBx_m.out _).trans (hHeld.2.2.2.2.2.2))))))))⟩ (fun hHeld => ?_)
  clear hK K
  refine pure_ (i := 11) (N := some 4) (v := ?_) (a' := ?_) (bA 14 4095) rfl rfl (any_of HT_.out (by kernel_rfl)) (fun _ _ _ h => h) (Or.inl ⟨by rfl, ?_⟩) ?_ ?_
  rotate_left
  ·
   intro w'
   go_simp
   with_reducible rfl
  rotate_left
  ·
   simp only [Act.put, sA, sB, sC, i64_w, i32_w]
   rfl
  refine pure_ (i := 12) (N := some 5) (v := ?_) (a' := ?_) (bA 14 8191) rfl rfl (any_of HT_.out (by kernel_rfl)) (fun _ _ _ h => h) (Or.inl ⟨by rfl, ?_⟩) ?_ ?_
  rotate_left
  ·
   intro w'
   go_simp
   with_reducible rfl
  rotate_left
  ·
   simp only [Act.put, sA, sB, sC, i64_w, i32_w]
   rfl
  refine pure_ (i := 13) (N := some 6) (v := ?_) (a' := ?_) (bA 14 16383) rfl rfl (any_of HT_.out (by kernel_rfl)) (fun _ _ _ h => h) (Or.inl ⟨by rfl, ?_⟩) ?_ ?_
  rotate_left
  ·
   intro w'
   go_simp
   with_reducible rfl
  rotate_left
  ·
   simp only [Act.put, sA, sB, sC, i64_w, i32_w]
   rfl
  refine done_ (done_of HT_.out (by kernel_rfl)) ?_
  have q0 := Kd.V_far (Kd.V_far (Kd.V_far (Kd.V_far HOm.out (p := ⟨gbm, 0, none⟩) (fun _ h => h.2) (.int .i64 m0)) (p := ⟨gbm, 1, none⟩) (fun _ h => h.2) (.int .i64 m1)) (p := ⟨gbm, 2, none⟩) (fun _ h => h.2) (.int .i64 m2)) (p := ⟨gbm, 3, none⟩) (fun _ h => h.2) (.slice Am ml.length cm)
  have q1 : ((((wq.setCell ⟨gbm, 0, none⟩ (.int .i64 m0)).setCell ⟨gbm, 1, none⟩ (.int .i64 m1)).setCell ⟨gbm, 2, none⟩ (.int .i64 m2)).setCell ⟨gbm, 3, none⟩ (.slice Am ml.length cm)).heap[gbm]? = some (.cells #[.int .i64 m0, .int .i64 m1, .int .i64 m2, .slice Am ml.length cm] 25 (0, 0)) := blk_put (blk_put (blk_put (blk_put BKm.out 0 (.int .i64 m0) rfl) 1 (.int .i64 m1) rfl) 2 (.int .i64 m2) rfl) 3 (.slice Am ml.length cm) rfl
  have q2 : Below w.heap.size w ((((wq.setCell ⟨gbm, 0, none⟩ (.int .i64 m0)).setCell ⟨gbm, 1, none⟩ (.int .i64 m1)).setCell ⟨gbm, 2, none⟩ (.int .i64 m2)).setCell ⟨gbm, 3, none⟩ (.slice Am ml.length cm)) := below_set (below_set (below_set (below_set HB.out GWm.out) GWm.out) GWm.out) GWm.out
  obtain ⟨wm, hwm⟩ : ∃ x, ((((wq.setCell ⟨gbm, 0, none⟩ (.int .i64 m0)).setCell ⟨gbm, 1, none⟩ (.int .i64 m1)).setCell ⟨gbm, 2, none⟩ (.int .i64 m2)).setCell ⟨gbm, 3, none⟩ (.slice Am ml.length cm)) = x := ⟨_, rfl⟩
  rw [hwm] at q0 q1 q2 ⊢
  have HRm := Aside0.mk (Kd.V_reads' q0).2.2
  have HCm := Aside0.mk (Kd.V_reads' q0).2.1
  have Kbm := Aside0.mk q1
  clear HB
  have HB := Aside0.mk q2
  clear q0 q1 q2 hwm hHeld HOm BKm BKx HT_ HW_ hfs12 hns12_0 hms12_0 hfs13 hns13_0 hms13_0 hfs14 hns14_0 hms14_0 hfs16 hns16_0 hms16_0 hs12 hs13 hs14 hs16
  have zbm_0 : wm.cell? ⟨gbm, 0, none⟩ = some (.int .i64 m0) := (blk_cell Kbm.out 0).trans rfl
  have zbm_1 : wm.cell? ⟨gbm, 1, none⟩ = some (.int .i64 m1) := (blk_cell Kbm.out 1).trans rfl
  have zbm_2 : wm.cell? ⟨gbm, 2, none⟩ = some (.int .i64 m2) := (blk_cell Kbm.out 2).trans rfl
  have zbm_3 : wm.cell? ⟨gbm, 3, none⟩ = some (.slice Am ml.length cm) := (blk_cell Kbm.out 3).trans rfl
  have tok_o : True := trivial
  have tok_a : True := trivial
  have tok_s : True := trivial
  have tok_p : True := trivial
  have tok_h : True := trivial
  have tok_t : True := trivial
  go_upto_region 8 with (first | (go_at_call 11; have _t := tok_o; refine (ground_Open.calls k m0 m1 m2 _ _ ml a0_4 a0_5 a0_6 o1 o2 _ HRm.out HCm.out Ho.out).mono ?_; rintro e ww1 ⟨rfl, hb⟩; clear tok_o _t; have KK := Aside0.mk (blk_below Kbm.out hb); clear Kbm; have Kbm := KK; clear KK; have KK := Aside0.mk (Kd.C_below HRm.out hb); clear HRm; have HRm := KK; clear KK; have KK := Aside0.mk (below_step HB.out hb); clear HB; have HB := KK; clear KK; clear hb; clear zbm_0 zbm_1 zbm_2 zbm_3; have zbm_0 : ww1.cell? ⟨gbm, 0, none⟩ = some (.int .i64 m0) := (blk_cell Kbm.out 0).trans rfl; have zbm_1 : ww1.cell? ⟨gbm, 1, none⟩ = some (.int .i64 m1) := (blk_cell Kbm.out 1).trans rfl; have zbm_2 : ww1.cell? ⟨gbm, 2, none⟩ = some (.int .i64 m2) := (blk_cell Kbm.out 2).trans rfl; have zbm_3 : ww1.cell? ⟨gbm, 3, none⟩ = some (.slice Am ml.length cm) := (blk_cell Kbm.out 3).trans rfl) | (go_at_call 11; have _t := tok_a; refine (ground_Open.calls k m0 m1 m2 _ _ ml 5 a0_5 a0_6 a1 a2 _ HRm.out HCm.out Ha.out).mono ?_; rintro e ww2 ⟨rfl, hb⟩; clear tok_a _t; have KK := Aside0.mk (blk_below Kbm.out hb); clear Kbm; have Kbm := KK; clear KK; have KK := Aside0.mk (Kd.C_below HRm.out hb); clear HRm; have HRm := KK; clear KK; have KK := Aside0.mk (below_step HB.out hb); clear HB; have HB := KK; clear KK; clear hb; clear zbm_0 zbm_1 zbm_2 zbm_3; have zbm_0 : ww2.cell? ⟨gbm, 0, none⟩ = some (.int .i64 m0) := (blk_cell Kbm.out 0).trans rfl; have zbm_1 : ww2.cell? ⟨gbm, 1, none⟩ = some (.int .i64 m1) := (blk_cell Kbm.out 1).trans rfl; have zbm_2 : ww2.cell? ⟨gbm, 2, none⟩ = some (.int .i64 m2) := (blk_cell Kbm.out 2).trans rfl; have zbm_3 : ww2.cell? ⟨gbm, 3, none⟩ = some (.slice Am ml.length cm) := (blk_cell Kbm.out 3).trans rfl) | (go_at_call 11; have _t := tok_s; refine (ground_Open.calls k m0 m1 m2 _ _ ml 3 a0_5 a0_6 s1 s2 _ HRm.out HCm.out Hs.out).mono ?_; rintro e ww3 ⟨rfl, hb⟩; clear tok_s _t; have KK := Aside0.mk (blk_below Kbm.out hb); clear Kbm; have Kbm := KK; clear KK; have KK := Aside0.mk (Kd.C_below HRm.out hb); clear HRm; have HRm := KK; clear KK; have KK := Aside0.mk (below_step HB.out hb); clear HB; have HB := KK; clear KK; clear hb; clear zbm_0 zbm_1 zbm_2 zbm_3; have zbm_0 : ww3.cell? ⟨gbm, 0, none⟩ = some (.int .i64 m0) := (blk_cell Kbm.out 0).trans rfl; have zbm_1 : ww3.cell? ⟨gbm, 1, none⟩ = some (.int .i64 m1) := (blk_cell Kbm.out 1).trans rfl; have zbm_2 : ww3.cell? ⟨gbm, 2, none⟩ = some (.int .i64 m2) := (blk_cell Kbm.out 2).trans rfl; have zbm_3 : ww3.cell? ⟨gbm, 3, none⟩ = some (.slice Am ml.length cm) := (blk_cell Kbm.out 3).trans rfl) | (go_at_call 11; have _t := tok_p; refine (ground_Open.calls k m0 m1 m2 _ _ ml 2 a0_5 a0_6 p1 p2 _ HRm.out HCm.out Hp.out).mono ?_; rintro e ww4 ⟨rfl, hb⟩; clear tok_p _t; have KK := Aside0.mk (blk_below Kbm.out hb); clear Kbm; have Kbm := KK; clear KK; have KK := Aside0.mk (Kd.C_below HRm.out hb); clear HRm; have HRm := KK; clear KK; have KK := Aside0.mk (below_step HB.out hb); clear HB; have HB := KK; clear KK; clear hb; clear zbm_0 zbm_1 zbm_2 zbm_3; have zbm_0 : ww4.cell? ⟨gbm, 0, none⟩ = some (.int .i64 m0) := (blk_cell Kbm.out 0).trans rfl; have zbm_1 : ww4.cell? ⟨gbm, 1, none⟩ = some (.int .i64 m1) := (blk_cell Kbm.out 1).trans rfl; have zbm_2 : ww4.cell? ⟨gbm, 2, none⟩ = some (.int .i64 m2) := (blk_cell Kbm.out 2).trans rfl; have zbm_3 : ww4.cell? ⟨gbm, 3, none⟩ = some (.slice Am ml.length cm) := (blk_cell Kbm.out 3).trans rfl) | (go_at_call 11; have _t := tok_h; refine (ground_Open.calls k m0 m1 m2 _ _ ml 1 a0_5 a0_6 h1 h2 _ HRm.out HCm.out Hh.out).mono ?_; rintro e ww5 ⟨rfl, hb⟩; clear tok_h _t; have KK := Aside0.mk (blk_below Kbm.out hb); clear Kbm; have Kbm := KK; clear KK; have KK := Aside0.mk (Kd.C_below HRm.out hb); clear HRm; have HRm := KK; clear KK; have KK := Aside0.mk (below_step HB.out hb); clear HB; have HB := KK; clear KK; clear hb; clear zbm_0 zbm_1 zbm_2 zbm_3; have zbm_0 : ww5.cell? ⟨gbm, 0, none⟩ = some (.int .i64 m0) := (blk_cell Kbm.out 0).trans rfl; have zbm_1 : ww5.cell? ⟨gbm, 1, none⟩ = some (.int .i64 m1) := (blk_cell Kbm.out 1).trans rfl; have zbm_2 : ww5.cell? ⟨gbm, 2, none⟩ = some (.int .i64 m2) := (blk_cell Kbm.out 2).trans rfl; have zbm_3 : ww5.cell? ⟨gbm, 3, none⟩ = some (.slice Am ml.length cm) := (blk_cell Kbm.out 3).trans rfl) | (go_at_call 11; have _t := tok_t; refine (ground_Open.calls k m0 m1 m2 _ _ ml 0 a0_5 a0_6 t1 t2 _ HRm.out HCm.out Ht.out).mono ?_; rintro e ww6 ⟨rfl, hb⟩; clear tok_t _t; have KK := Aside0.mk (blk_below Kbm.out hb); clear Kbm; have Kbm := KK; clear KK; have KK := Aside0.mk (Kd.C_below HRm.out hb); clear HRm; have HRm := KK; clear KK; have KK := Aside0.mk (below_step HB.out hb); clear HB; have HB := KK; clear KK; clear hb; clear zbm_0 zbm_1 zbm_2 zbm_3))
  have hok := HOK.out
  clear HOK Ho Ha Hs Hp Hh Ht HRm HCm Kbm AF HR0_3 HC0_3
  by_cases he : o2 = 0
  · subst he
    rw [if_pos rfl] at hok
    cases a1
    · simp at hok
    by_cases ha : a2 = 0
    rotate_left
    · simp [ha] at hok
    subst ha
    cases p1
    · cases s1
      · clear hok
        go_wp2_with (first | (go_at_call 9; refine (bivouaclaw07_awake.calls k r _ HAW.out).mono ?_; rintro e ww7 ⟨rfl, hb⟩; have KK := Aside0.mk (below_step HB.out hb); clear HB; have HB := KK; clear KK; clear hb))
        go_ret
        exact ⟨rfl, HB.out⟩
      · simp at hok
    · cases h1
      · simp at hok
      cases t1
      rotate_left
      · simp at hok
      clear hok
      cases s1
      · go_wp2_with (first | (go_at_call 9; refine (bivouaclaw07_awake.calls k r _ HAW.out).mono ?_; rintro e ww7 ⟨rfl, hb⟩; have KK := Aside0.mk (below_step HB.out hb); clear HB; have HB := KK; clear KK; clear hb))
        go_ret
        exact ⟨rfl, HB.out⟩
      · go_wp2_with (first | (go_at_call 9; refine (bivouaclaw07_awake.calls k r _ HAW.out).mono ?_; rintro e ww7 ⟨rfl, hb⟩; have KK := Aside0.mk (below_step HB.out hb); clear HB; have HB := KK; clear KK; clear hb))
        go_ret
        exact ⟨rfl, HB.out⟩
  · rw [if_neg he] at hok
    have b0 : (o2 != 0) = true := by simp [he]
    cases o1
    rotate_left
    · simp at hok
    by_cases ha : a2 = 0
    rotate_left
    · have b1 : (a2 != 0) = true := by simp [ha]
      clear hok he ha
      go_wp2_with (first | (go_at_call 9; refine (bivouaclaw07_awake.calls k r _ HAW.out).mono ?_; rintro e ww7 ⟨rfl, hb⟩; have KK := Aside0.mk (below_step HB.out hb); clear HB; have HB := KK; clear KK; clear hb))
      go_ret
      exact ⟨rfl, HB.out⟩
    subst ha
    cases a1
    · simp at hok
    by_cases hc : a0_4 < 0
    · have d0 : decide (a0_4 < 0) = true := decide_eq_true hc
      clear hok he hc
      go_wp2_with (first | (go_at_call 9; refine (bivouaclaw07_awake.calls k r _ HAW.out).mono ?_; rintro e ww7 ⟨rfl, hb⟩; have KK := Aside0.mk (below_step HB.out hb); clear HB; have HB := KK; clear KK; clear hb))
      go_ret
      exact ⟨rfl, HB.out⟩
    have hc5 : 5 < a0_4 := by simpa [hc] using hok
    have d0 : decide (a0_4 < 0) = false := decide_eq_false hc
    have d1 : decide (5 < a0_4) = true := decide_eq_true hc5
    clear hok he hc hc5
    go_wp2_with (first | (go_at_call 9; refine (bivouaclaw07_awake.calls k r _ HAW.out).mono ?_; rintro e ww7 ⟨rfl, hb⟩; have KK := Aside0.mk (below_step HB.out hb); clear HB; have HB := KK; clear KK; clear hb))
    go_ret
    exact ⟨rfl, HB.out⟩
/-- THE ONE PURE STATEMENT of bivouaclaw07_GroundOrder. -/
def bivouaclaw07_GroundOrder.Pure : Prop := ∀ (a0_0 : Int) (a0_1 : Int) (a0_2 : Int) (l0_3 : List Int) (a0_4 : Int) (a0_5 : Int) (a0_6 : Int), (Lit.int .i64 a0_0).wf = true → (Lit.int .i64 a0_1).wf = true → (Lit.int .i64 a0_2).wf = true → l0_3.length ≤ maxLen → (∀ x ∈ l0_3, (Lit.int .u8 x).wf = true) → (Lit.int .i64 a0_4).wf = true → (Lit.int .i64 a0_5).wf = true → (Lit.int .i64 a0_6).wf = true → ∃ k, bivouaclaw07_GroundOrder.f k a0_0 a0_1 a0_2 l0_3 a0_4 a0_5 a0_6 = some true
theorem bivouaclaw07_GroundOrder.walked : True := trivial

end Go.Proofs.Ytnpippechogagaa.PA
