/- The contract of bivouacref07_Open: what its call comes to, for every argument, in any memory. -/
import Derived.Test.YtnpippechogagaaPAx0
import Derived.Test.YtnpippechogagaaPAx19
import Derived.Test.YtnpippechogagaaPAx20
import Derived.Test.YtnpippechogagaaGAbivouaclaw07awake
import Derived.Test.YtnpippechogagaaGAgroundJoined
import Derived.Test.YtnpippechogagaaGAgroundRegions
import Derived.Test.YtnpippechogagaaGAreliefDepth
import Derived.Test.YtnpippechogagaaGAreliefSlope
import Derived.Test.YtnpippechogagaaRd
namespace Go.Proofs.Ytnpippechogagaa.PA
open Go.RowKit Go.Proofs.YtnpippechogagaaW.PrintWords Go.Proofs.YtnpippechogagaaW.PrintLast Go.Proofs.YtnpippechogagaaW.PrintMore
set_option linter.unusedVariables false
set_option linter.unusedSimpArgs false

--import Derived.Test.YtnpippechogagaaRd
def bivouacref07_Open.o (c s d : Int) : Bool := c == 5 || (c == 0 && decide (s ≤ 24) && decide (d ≤ 12)) || (c == 1 && (decide (0 < d) || decide (s ≤ 16))) || (c == 2 && decide (16 ≤ d)) || (c == 3 && decide (24 ≤ d)) || (c == 4 && decide (s ≤ 20))
def bivouacref07_Open.f (k : Nat) (a0_0 : Int) (a0_1 : Int) (a0_2 : Int) (l0_3 : List Int) (a1 : Int) (a2 : Int) (a3 : Int) : Option (Bool) := (bivouacref06_Ends.f k a0_0 a0_1 a0_2 l0_3 a2 a3).bind fun e => (bivouacref06_Depth.f k a0_0 a0_1 a0_2 l0_3 a2 a3).bind fun d => some (bivouacref07_Open.o a1 (wrap64 (e.2 - e.1)) d)
theorem bivouacref07_Open.mono : ∀ a0 a1 a2 a3 a4 a5 a6 k, LeO (bivouacref07_Open.f k a0 a1 a2 a3 a4 a5 a6) (bivouacref07_Open.f (k + 1) a0 a1 a2 a3 a4 a5 a6) := by
  intro a0 a1 a2 a3 a4 a5 a6 k
  exact LeO.bind (bivouacref06_Ends.mono _ _ _ _ _ _ _) (fun _ => LeO.bind (bivouacref06_Depth.mono _ _ _ _ _ _ _) (fun _ => LeO.refl _))
set_option maxHeartbeats 8000000 in
set_option maxRecDepth 100000 in
theorem bivouacref07_Open.calls (k : Nat) (a0_0 : Int) (a0_1 : Int) (a0_2 : Int) (A0_3 : Option Addr) (c0_3 : Nat) (l0_3 : List Int) (a1 : Int) (a2 : Int) (a3 : Int) (r : Bool) (w : World) (hr0_3 : Kd.C (Kd.int .u8) w A0_3 l0_3.length l0_3) (hc0_3 : l0_3.length ≤ c0_3) (h : bivouacref07_Open.f k a0_0 a0_1 a0_2 l0_3 a1 a2 a3 = some r) :
    Calls Try.prog 13 #[.agg #[.int .i64 a0_0, .int .i64 a0_1, .int .i64 a0_2, .slice A0_3 l0_3.length c0_3], .int .i64 a1, .int .i64 a2, .int .i64 a3] w fun e w' => e = .returned (.bool r) ∧ Below w.heap.size w w' := by
  have HR := Aside0.mk hr0_3
  clear hr0_3
  have HB := Aside0.mk (Below.refl w.heap.size w)
  unfold bivouacref07_Open.f at h
  replace h := Option.bind_eq_some_iff.1 h
  obtain ⟨⟨e1, e2⟩, he, h⟩ := h
  have HE := Aside0.mk he
  clear he
  replace h := Option.bind_eq_some_iff.1 h
  obtain ⟨d, hd, h⟩ := h
  have HD := Aside0.mk hd
  clear hd
  dsimp only at h
  obtain rfl := Option.some.inj h
  clear h
  go_enter Try.func13, Try.ntmps13
  go_upto_region 3 with (first | ((with_reducible refine gate_dst (N := 4) rfl ?_); refine box_event ?hg (N := 4) ?hd (cs := #[.int .i64 a0_0, .int .i64 a0_1, .int .i64 a0_2, .slice A0_3 l0_3.length c0_3]) (t := 25) ?hr ?_; (case hd => rfl); (case hg => rfl); (case hr => first | (go_simp; done) | (go_simp; rfl)); intro gm hg ww1 hbox hb; have Gm : Aside0 (w.heap.size ≤ gm) := ⟨by have := HB.out.size; omega⟩; have Km := Aside0.mk hbox; have KK := Aside0.mk (below_step HB.out hb); clear HB; have HB := KK; clear KK; clear hb hbox hg; have zm_0 : ww1.cell? ⟨gm, 0, none⟩ = some (.int .i64 a0_0) := (blk_cell Km.out 0).trans rfl; have fm_0 := blk_frozen Km.out 0; have zm_1 : ww1.cell? ⟨gm, 1, none⟩ = some (.int .i64 a0_1) := (blk_cell Km.out 1).trans rfl; have fm_1 := blk_frozen Km.out 1; have zm_2 : ww1.cell? ⟨gm, 2, none⟩ = some (.int .i64 a0_2) := (blk_cell Km.out 2).trans rfl; have fm_2 := blk_frozen Km.out 2; have zm_3 : ww1.cell? ⟨gm, 3, none⟩ = some (.slice A0_3 l0_3.length c0_3) := (blk_cell Km.out 3).trans rfl; have fm_3 := blk_frozen Km.out 3) | (go_at_call 24; refine (bivouacref06_Ends.calls k a0_0 a0_1 a0_2 _ _ l0_3 a2 a3 e1 e2 _ (Kd.C_below HR.out HB.out) hc0_3 HE.out).mono ?_; rintro e ww2 ⟨rfl, hb⟩; have KK := Aside0.mk (blk_below Km.out hb); clear Km; have Km := KK; clear KK; have KK := Aside0.mk (below_step HB.out hb); clear HB; have HB := KK; clear KK; clear hb; clear zm_0 fm_0 zm_1 fm_1 zm_2 fm_2 zm_3 fm_3; have zm_0 : ww2.cell? ⟨gm, 0, none⟩ = some (.int .i64 a0_0) := (blk_cell Km.out 0).trans rfl; have zm_1 : ww2.cell? ⟨gm, 1, none⟩ = some (.int .i64 a0_1) := (blk_cell Km.out 1).trans rfl; have zm_2 : ww2.cell? ⟨gm, 2, none⟩ = some (.int .i64 a0_2) := (blk_cell Km.out 2).trans rfl; have zm_3 : ww2.cell? ⟨gm, 3, none⟩ = some (.slice A0_3 l0_3.length c0_3) := (blk_cell Km.out 3).trans rfl) | (go_at_call 25; refine (bivouacref06_Depth.calls k a0_0 a0_1 a0_2 _ _ l0_3 a2 a3 d _ (Kd.C_below HR.out HB.out) hc0_3 HD.out).mono ?_; rintro e ww3 ⟨rfl, hb⟩; have KK := Aside0.mk (blk_below Km.out hb); clear Km; have Km := KK; clear KK; have KK := Aside0.mk (below_step HB.out hb); clear HB; have HB := KK; clear KK; clear hb; clear zm_0 zm_1 zm_2 zm_3))
  by_cases c5 : a1 = 5
  · subst c5
    go_wp2
    go_ret
    exact ⟨by simp [bivouacref07_Open.o], HB.out⟩
  have b5 : (a1 == 5) = false := beq_eq_false_iff_ne.mpr c5
  by_cases c0 : a1 = 0
  · subst c0
    by_cases t0 : wrap64 (e2 - e1) ≤ 24
    · have t0b : decide (wrap64 (e2 - e1) ≤ 24) = true := decide_eq_true t0
      by_cases t1 : d ≤ 12
      · have t1b : decide (d ≤ 12) = true := decide_eq_true t1
        go_wp2
        go_ret
        exact ⟨by simp [bivouacref07_Open.o, t0, t1], HB.out⟩
      · have t1b : decide (d ≤ 12) = false := decide_eq_false t1
        go_wp2
        go_ret
        exact ⟨by simp [bivouacref07_Open.o, t0, t1], HB.out⟩
    · have t0b : decide (wrap64 (e2 - e1) ≤ 24) = false := decide_eq_false t0
      by_cases t1 : d ≤ 12
      · have t1b : decide (d ≤ 12) = true := decide_eq_true t1
        go_wp2
        go_ret
        exact ⟨by simp [bivouacref07_Open.o, t0, t1], HB.out⟩
      · have t1b : decide (d ≤ 12) = false := decide_eq_false t1
        go_wp2
        go_ret
        exact ⟨by simp [bivouacref07_Open.o, t0, t1], HB.out⟩
  have b0 : (a1 == 0) = false := beq_eq_false_iff_ne.mpr c0
  by_cases c1 : a1 = 1
  · subst c1
    by_cases t0 : 0 < d
    · have t0b : decide (0 < d) = true := decide_eq_true t0
      by_cases t1 : wrap64 (e2 - e1) ≤ 16
      · have t1b : decide (wrap64 (e2 - e1) ≤ 16) = true := decide_eq_true t1
        go_wp2
        go_ret
        exact ⟨by simp [bivouacref07_Open.o, t0, t1], HB.out⟩
      · have t1b : decide (wrap64 (e2 - e1) ≤ 16) = false := decide_eq_false t1
        go_wp2
        go_ret
        exact ⟨by simp [bivouacref07_Open.o, t0, t1], HB.out⟩
    · have t0b : decide (0 < d) = false := decide_eq_false t0
      by_cases t1 : wrap64 (e2 - e1) ≤ 16
      · have t1b : decide (wrap64 (e2 - e1) ≤ 16) = true := decide_eq_true t1
        go_wp2
        go_ret
        exact ⟨by simp [bivouacref07_Open.o, t0, t1], HB.out⟩
      · have t1b : decide (wrap64 (e2 - e1) ≤ 16) = false := decide_eq_false t1
        go_wp2
        go_ret
        exact ⟨by simp [bivouacref07_Open.o, t0, t1], HB.out⟩
  have b1 : (a1 == 1) = false := beq_eq_false_iff_ne.mpr c1
  by_cases c2 : a1 = 2
  · subst c2
    by_cases t0 : 16 ≤ d
    · have t0b : decide (16 ≤ d) = true := decide_eq_true t0
      go_wp2
      go_ret
      exact ⟨by simp [bivouacref07_Open.o, t0], HB.out⟩
    · have t0b : decide (16 ≤ d) = false := decide_eq_false t0
      go_wp2
      go_ret
      exact ⟨by simp [bivouacref07_Open.o, t0], HB.out⟩
  have b2 : (a1 == 2) = false := beq_eq_false_iff_ne.mpr c2
  by_cases c3 : a1 = 3
  · subst c3
    by_cases t0 : 24 ≤ d
    · have t0b : decide (24 ≤ d) = true := decide_eq_true t0
      go_wp2
      go_ret
      exact ⟨by simp [bivouacref07_Open.o, t0], HB.out⟩
    · have t0b : decide (24 ≤ d) = false := decide_eq_false t0
      go_wp2
      go_ret
      exact ⟨by simp [bivouacref07_Open.o, t0], HB.out⟩
  have b3 : (a1 == 3) = false := beq_eq_false_iff_ne.mpr c3
  by_cases c4 : a1 = 4
  · subst c4
    by_cases t0 : wrap64 (e2 - e1) ≤ 20
    · have t0b : decide (wrap64 (e2 - e1) ≤ 20) = true := decide_eq_true t0
      go_wp2
      go_ret
      exact ⟨by simp [bivouacref07_Open.o, t0], HB.out⟩
    · have t0b : decide (wrap64 (e2 - e1) ≤ 20) = false := decide_eq_false t0
      go_wp2
      go_ret
      exact ⟨by simp [bivouacref07_Open.o, t0], HB.out⟩
  have b4 : (a1 == 4) = false := beq_eq_false_iff_ne.mpr c4
  clear c5 c0 c1 c2 c3 c4
  go_wp2
  go_ret
  exact ⟨by simp [bivouacref07_Open.o, b0, b1, b2, b3, b4, b5], HB.out⟩

end Go.Proofs.Ytnpippechogagaa.PA
