/- The contract of ground_Joined: what its call comes to, for every argument, in any memory. -/
import Derived.Test.YtdmmlidgipedaaaPAx0
import Derived.Test.YtdmmlidgipedaaaGAgroundRegions
import Derived.Test.YtdmmlidgipedaaaGAreliefDepth
import Derived.Test.YtdmmlidgipedaaaGAreliefSlope
namespace Go.Proofs.Ytdmmlidgipedaaa.PA
open Go.RowKit Go.Proofs.YtdmmlidgipedaaaW.PrintWords Go.Proofs.YtdmmlidgipedaaaW.PrintLast Go.Proofs.YtdmmlidgipedaaaW.PrintMore
set_option linter.unusedVariables false
set_option linter.unusedSimpArgs false

def ground_Joined.o (l : List Int) (e a b : Int) : Bool := decide (e = 0 ∧ 0 ≤ a ∧ a < (l.length : Int) ∧ 0 ≤ b ∧ b < (l.length : Int) ∧ 0 ≤ rd l a ∧ rd l a = rd l b)
def ground_Joined.f (k : Nat) (a0_0 : Int) (a0_1 : Int) (a0_2 : Int) (l0_3 : List Int) (a1 : Int) (a2 : Int) (a3 : Int) : Option (Bool) := (ground_Regions.f k a0_0 a0_1 a0_2 l0_3 a1).bind fun l => some (ground_Joined.o l.1 l.2 a2 a3)
theorem ground_Joined.mono : ∀ a0 a1 a2 a3 a4 a5 a6 k, LeO (ground_Joined.f k a0 a1 a2 a3 a4 a5 a6) (ground_Joined.f (k + 1) a0 a1 a2 a3 a4 a5 a6) := by
  intro a0 a1 a2 a3 a4 a5 a6 k
  exact LeO.bind (ground_Regions.mono _ _ _ _ _ _) (fun _ => LeO.refl _)
set_option maxHeartbeats 8000000 in
set_option maxRecDepth 100000 in
theorem ground_Joined.calls (k : Nat) (a0_0 : Int) (a0_1 : Int) (a0_2 : Int) (A0_3 : Option Addr) (c0_3 : Nat) (l0_3 : List Int) (a1 : Int) (a2 : Int) (a3 : Int) (r : Bool) (w : World) (hr0_3 : Kd.C (Kd.int .u8) w A0_3 l0_3.length l0_3) (hc0_3 : l0_3.length ≤ c0_3) (h : ground_Joined.f k a0_0 a0_1 a0_2 l0_3 a1 a2 a3 = some r) :
    Calls Try.prog 5 #[.agg #[.int .i64 a0_0, .int .i64 a0_1, .int .i64 a0_2, .slice A0_3 l0_3.length c0_3], .int .i64 a1, .int .i64 a2, .int .i64 a3] w fun e w' => e = .returned (.bool r) ∧ Below w.heap.size w w' := by
  have HR := Aside0.mk hr0_3
  clear hr0_3
  have HB := Aside0.mk (Below.refl w.heap.size w)
  unfold ground_Joined.f at h
  replace h := Option.bind_eq_some_iff.1 h
  obtain ⟨⟨l, e⟩, hl, h⟩ := h
  have HL := Aside0.mk hl
  clear hl
  dsimp only at h
  obtain rfl := Option.some.inj h
  clear h
  go_enter Try.func5, Try.ntmps5
  go_upto_region 2 with (first | ((with_reducible refine gate_dst (N := 4) rfl ?_); refine box_event ?hg (N := 4) ?hd (cs := #[.int .i64 a0_0, .int .i64 a0_1, .int .i64 a0_2, .slice A0_3 l0_3.length c0_3]) (t := 24) ?hr ?_; (case hd => rfl); (case hg => rfl); (case hr => first | (go_simp; done) | (go_simp; rfl)); intro gm hg ww1 hbox hb; have Gm : Aside0 (w.heap.size ≤ gm) := ⟨by have := HB.out.size; omega⟩; have Km := Aside0.mk hbox; have KK := Aside0.mk (below_step HB.out hb); clear HB; have HB := KK; clear KK; clear hb hbox hg; have zm_0 : ww1.cell? ⟨gm, 0, none⟩ = some (.int .i64 a0_0) := (blk_cell Km.out 0).trans rfl; have fm_0 := blk_frozen Km.out 0; have zm_1 : ww1.cell? ⟨gm, 1, none⟩ = some (.int .i64 a0_1) := (blk_cell Km.out 1).trans rfl; have fm_1 := blk_frozen Km.out 1; have zm_2 : ww1.cell? ⟨gm, 2, none⟩ = some (.int .i64 a0_2) := (blk_cell Km.out 2).trans rfl; have fm_2 := blk_frozen Km.out 2; have zm_3 : ww1.cell? ⟨gm, 3, none⟩ = some (.slice A0_3 l0_3.length c0_3) := (blk_cell Km.out 3).trans rfl; have fm_3 := blk_frozen Km.out 3) | (go_at_call 10; refine (ground_Regions.calls k a0_0 a0_1 a0_2 _ _ l0_3 a1 l e _ (Kd.C_below HR.out HB.out) hc0_3 HL.out).mono ?_; rintro e ww2 ⟨v, rfl, hv, hb⟩; obtain ⟨Av, cv, rfl⟩ := Kd.R_slice hv; have HV := Aside0.mk (Kd.R_reads' hv).2.2; clear hv; have KK := Aside0.mk (blk_below Km.out hb); clear Km; have Km := KK; clear KK; have KK := Aside0.mk (below_step HB.out hb); clear HB; have HB := KK; clear KK; clear hb; clear zm_0 fm_0 zm_1 fm_1 zm_2 fm_2 zm_3 fm_3))
  by_cases he : e = 0
  rotate_left
  · have b0 : (e != 0) = true := by simp [he]
    go_wp2
    go_ret
    exact ⟨by rw [show ground_Joined.o l e a2 a3 = false from decide_eq_false (fun h => he h.1)]; rfl, HB.out⟩
  have b0 : (e != 0) = false := by simp [he]
  by_cases h1 : a2 < 0
  · have dh1 : decide (a2 < 0) = true := decide_eq_true h1
    have K := Aside0.mk h1
    clear h1 he
    go_wp2
    go_ret
    exact ⟨by rw [show ground_Joined.o l e a2 a3 = false from decide_eq_false (fun h => by have := K.out; omega)]; rfl, HB.out⟩
  have dh1 : decide (a2 < 0) = false := decide_eq_false h1
  by_cases h2 : (l.length : Int) ≤ a2
  · have dh2 : decide ((l.length : Int) ≤ a2) = true := decide_eq_true h2
    have K := Aside0.mk h2
    clear h2 he
    go_wp2
    go_ret
    exact ⟨by rw [show ground_Joined.o l e a2 a3 = false from decide_eq_false (fun h => by have := K.out; omega)]; rfl, HB.out⟩
  have dh2 : decide ((l.length : Int) ≤ a2) = false := decide_eq_false h2
  by_cases h3 : a3 < 0
  · have dh3 : decide (a3 < 0) = true := decide_eq_true h3
    have K := Aside0.mk h3
    clear h3 he
    go_wp2
    go_ret
    exact ⟨by rw [show ground_Joined.o l e a2 a3 = false from decide_eq_false (fun h => by have := K.out; omega)]; rfl, HB.out⟩
  have dh3 : decide (a3 < 0) = false := decide_eq_false h3
  by_cases h4 : (l.length : Int) ≤ a3
  · have dh4 : decide ((l.length : Int) ≤ a3) = true := decide_eq_true h4
    have K := Aside0.mk h4
    clear h4 he
    go_wp2
    go_ret
    exact ⟨by rw [show ground_Joined.o l e a2 a3 = false from decide_eq_false (fun h => by have := K.out; omega)]; rfl, HB.out⟩
  have dh4 : decide ((l.length : Int) ≤ a3) = false := decide_eq_false h4
  obtain ⟨ad, ea, x0⟩ := Kd.at_int HV.out a2 (by omega) (by omega)
  obtain ⟨ad3, ea3, x1⟩ := Kd.at_int HV.out a3 (by omega) (by omega)
  rw [ea] at ea3
  obtain rfl := Option.some.inj ea3
  subst ea
  clear ea3
  have HH := Aside0.mk (And.intro he (And.intro h1 (And.intro h2 (And.intro h3 h4))))
  have q0 : 0 ≤ a2 := by omega
  have q1 : a2 < (l.length : Int) := by omega
  have q2 : 0 ≤ a3 := by omega
  have q3 : a3 < (l.length : Int) := by omega
  clear he h1 h2 h3 h4
  obtain ⟨u, hu⟩ : ∃ u, rd l a2 = u := ⟨_, rfl⟩
  obtain ⟨v, hv⟩ : ∃ v, rd l a3 = v := ⟨_, rfl⟩
  rw [hu] at x0
  rw [hv] at x1
  have HU := Aside0.mk hu
  have HV2 := Aside0.mk hv
  clear hu hv
  by_cases g : 0 ≤ u
  · have d5 : decide (0 ≤ u) = true := decide_eq_true g
    by_cases q : u = v
    · subst q
      have K := Aside0.mk g
      clear g
      go_wp2
      go_quiet (fail)
      all_goals (try go_wp2)
      all_goals (go_ret; exact ⟨by rw [show ground_Joined.o l e a2 a3 = true from decide_eq_true (by have := HH.out; have := K.out; have := HU.out; have := HV2.out; omega)]; rfl, by first | exact HB.out | exact below_drew1 HB.out | exact pw_below_drewN HB.out _⟩)
    · have d6 : (u == v) = false := beq_eq_false_iff_ne.mpr q
      have K := Aside0.mk q
      clear g q
      go_wp2
      go_quiet (fail)
      all_goals (try go_wp2)
      all_goals (go_ret; exact ⟨by rw [show ground_Joined.o l e a2 a3 = false from decide_eq_false (fun h => by have := K.out; have := HU.out; have := HV2.out; omega)]; rfl, by first | exact HB.out | exact below_drew1 HB.out | exact pw_below_drewN HB.out _⟩)
  · have d5 : decide (0 ≤ u) = false := decide_eq_false g
    have K := Aside0.mk g
    clear g
    go_wp2
    go_quiet (fail)
    all_goals (try go_wp2)
    all_goals (go_ret; exact ⟨by rw [show ground_Joined.o l e a2 a3 = false from decide_eq_false (fun h => by have := K.out; have := HU.out; omega)]; rfl, by first | exact HB.out | exact below_drew1 HB.out | exact pw_below_drewN HB.out _⟩)

end Go.Proofs.Ytdmmlidgipedaaa.PA
