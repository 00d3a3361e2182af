/- The contract of bivouaclaw07_GroundJoins: what its call comes to, for every argument, in any memory. -/
import Derived.Test.YtnpippechogagaaPAx0
import Derived.Test.YtnpippechogagaaPAx11
import Derived.Test.YtnpippechogagaaPAx16
import Derived.Test.YtnpippechogagaaGAbivouaclaw07awake
import Derived.Test.YtnpippechogagaaGAbivouacref07Open
import Derived.Test.YtnpippechogagaaGAgroundJoined
import Derived.Test.YtnpippechogagaaGAgroundRegions
import Derived.Test.YtnpippechogagaaGAreliefDepth
import Derived.Test.YtnpippechogagaaGAreliefSlope
namespace Go.Proofs.Ytnpippechogagaa.PA
open Go.RowKit Go.Proofs.YtnpippechogagaaW.PrintWords Go.Proofs.YtnpippechogagaaW.PrintLast Go.Proofs.YtnpippechogagaaW.PrintMore
set_option linter.unusedVariables false
set_option linter.unusedSimpArgs false

def bivouaclaw07_GroundJoins.at (W : Int) (l : List Int) (g : List Bool) (i : Int) : Bool := (rdOf false g i == decide (0 ≤ rd l i)) && decide (rd l i ≤ i) && (decide (rd l i < 0) || decide (rd l (rd l i) = rd l i)) && (decide (i % W ≤ 0) || !rdOf false g i || !rdOf false g (i - 1) || decide (rd l i = rd l (i - 1))) && (decide (i < W) || !rdOf false g i || !rdOf false g (i - W) || decide (rd l i = rd l (i - W)))
def bivouaclaw07_GroundJoins.ok (W H : Int) (l : List Int × Int) (g : List Bool × Int) : Bool := if l.2 = 0 then decide (g.1.length = l.1.length ∧ 1 ≤ W ∧ W ≤ 64 ∧ (l.1.length : Int) = wrap64 (W * H) ∧ l.1.length ≤ 4096) && (List.range l.1.length).all (fun j => bivouaclaw07_GroundJoins.at W l.1 g.1 (j : Int)) else decide (g.2 = l.2 ∧ l.1.length = 0 ∧ g.1.length = 0)
def bivouaclaw07_GroundJoins.f (k : Nat) (a0_0 : Int) (a0_1 : Int) (a0_2 : Int) (l0_3 : List Int) (a1 : Int) : Option (Bool) := (bivouaclaw07_few.f a0_0 a0_1 a0_2 l0_3).bind fun m => (ground_Regions.f k m.1 m.2.1 m.2.2.1 m.2.2.2 a1).bind fun l => (ground_Grid.f k m.1 m.2.1 m.2.2.1 m.2.2.2 a1).bind fun g => if bivouaclaw07_GroundJoins.ok m.1 m.2.1 l g = true then bivouaclaw07_awake.f k else none
theorem bivouaclaw07_GroundJoins.mono : ∀ a0 a1 a2 a3 a4 k, LeO (bivouaclaw07_GroundJoins.f k a0 a1 a2 a3 a4) (bivouaclaw07_GroundJoins.f (k + 1) a0 a1 a2 a3 a4) := by
  intro a0 a1 a2 a3 a4 k
  exact LeO.bind (LeO.refl _) (fun _ => LeO.bind (ground_Regions.mono _ _ _ _ _ _) (fun _ => LeO.bind (ground_Grid.mono _ _ _ _ _ _) (fun _ => LeO.ite (bivouaclaw07_awake.mono _) (LeO.refl _))))
theorem bivouaclaw07_GroundJoins.atEnd {l : List Int} {g : List Bool} {W : Int} (h : (List.range l.length).all (fun j => bivouaclaw07_GroundJoins.at W l g (j : Int)) = true) {i : Int} (h0 : 0 ≤ i) (h1 : i < (l.length : Int)) :
    rdOf false g i = decide (0 ≤ rd l i) ∧ rd l i ≤ i ∧ (0 ≤ rd l i → rd l (rd l i) = rd l i) ∧ (0 < i % W → rdOf false g i = true → rdOf false g (i - 1) = true → rd l i = rd l (i - 1)) ∧ (W ≤ i → rdOf false g i = true → rdOf false g (i - W) = true → rd l i = rd l (i - W)) := by
  have h2 := List.all_eq_true.1 h i.toNat (List.mem_range.2 (by omega))
  rw [Int.toNat_of_nonneg h0] at h2
  unfold bivouaclaw07_GroundJoins.at at h2
  simp only [Bool.and_eq_true, Bool.or_eq_true, decide_eq_true_eq, beq_iff_eq, Bool.not_eq_true'] at h2
  obtain ⟨⟨⟨⟨h3, h4⟩, h5⟩, h6⟩, h7⟩ := h2
  refine ⟨h3, h4, fun a => by omega, fun a b c => ?_, fun a b c => ?_⟩
  · rcases h6 with ((h | h) | h) | h
    · omega
    · rw [h] at b; cases b
    · rw [h] at c; cases c
    · exact h
  · rcases h7 with ((h | h) | h) | h
    · omega
    · rw [h] at b; cases b
    · rw [h] at c; cases c
    · exact h
set_option maxHeartbeats 8000000 in
set_option maxRecDepth 100000 in
theorem bivouaclaw07_GroundJoins.calls (k : Nat) (a0_0 : Int) (a0_1 : Int) (a0_2 : Int) (A0_3 : Option Addr) (c0_3 : Nat) (l0_3 : List Int) (a1 : Int) (r : Bool) (w : World) (hr0_3 : Kd.C (Kd.int .u8) w A0_3 l0_3.length l0_3) (hc0_3 : l0_3.length ≤ c0_3) (h : bivouaclaw07_GroundJoins.f k a0_0 a0_1 a0_2 l0_3 a1 = some r) :
    Calls Try.prog 7 #[.agg #[.int .i64 a0_0, .int .i64 a0_1, .int .i64 a0_2, .slice A0_3 l0_3.length c0_3], .int .i64 a1] w fun e w' => e = .returned (.bool r) ∧ Below w.heap.size w w' := by
  have HR0_3 := Aside0.mk hr0_3
  have HC0_3 := Aside0.mk hc0_3
  clear hr0_3 hc0_3
  have HB := Aside0.mk (Below.refl w.heap.size w)
  unfold bivouaclaw07_GroundJoins.f at h
  replace h := Option.bind_eq_some_iff.1 h
  obtain ⟨⟨m0, m1, m2, ml⟩, hf, h⟩ := h
  have AF := Aside0.mk hf
  clear hf
  try dsimp only at h
  replace h := Option.bind_eq_some_iff.1 h
  obtain ⟨⟨l, e⟩, hl, h⟩ := h
  have HLr := Aside0.mk hl
  clear hl
  replace h := Option.bind_eq_some_iff.1 h
  obtain ⟨⟨g, e2⟩, hg, h⟩ := h
  have HGr := Aside0.mk hg
  clear hg
  try dsimp only at h
  have hok : bivouaclaw07_GroundJoins.ok m0 m1 (l, e) (g, e2) = true := by
    rcases Bool.eq_false_or_eq_true (bivouaclaw07_GroundJoins.ok m0 m1 (l, e) (g, e2)) with e | e
    · exact e
    · rw [if_neg (by rw [e]; decide)] at h
      cases h
  rw [if_pos hok] at h
  have HAW := Aside0.mk h
  clear h
  unfold bivouaclaw07_GroundJoins.ok at hok
  try dsimp only at hok
  have HOK := Aside0.mk hok
  clear hok
  go_enter Try.func7, Try.ntmps7
  go_upto_region 4 with (first | ((with_reducible refine gate_dst (N := 2) rfl ?_); refine box_event ?hg (N := 2) ?hd (cs := #[.int .i64 a0_0, .int .i64 a0_1, .int .i64 a0_2, .slice A0_3 l0_3.length c0_3]) (t := 25) ?hr ?_; (case hd => rfl); (case hg => rfl); (case hr => first | (go_simp; done) | (go_simp; rfl)); intro gm hg ww1 hbox hb; have Gm : Aside0 (w.heap.size ≤ gm) := ⟨by have := HB.out.size; omega⟩; have Km := Aside0.mk hbox; have KK := Aside0.mk (below_step HB.out hb); clear HB; have HB := KK; clear KK; clear hb hbox hg; have zm_0 : ww1.cell? ⟨gm, 0, none⟩ = some (.int .i64 a0_0) := (blk_cell Km.out 0).trans rfl; have fm_0 := blk_frozen Km.out 0; have zm_1 : ww1.cell? ⟨gm, 1, none⟩ = some (.int .i64 a0_1) := (blk_cell Km.out 1).trans rfl; have fm_1 := blk_frozen Km.out 1; have zm_2 : ww1.cell? ⟨gm, 2, none⟩ = some (.int .i64 a0_2) := (blk_cell Km.out 2).trans rfl; have fm_2 := blk_frozen Km.out 2; have zm_3 : ww1.cell? ⟨gm, 3, none⟩ = some (.slice A0_3 l0_3.length c0_3) := (blk_cell Km.out 3).trans rfl; have fm_3 := blk_frozen Km.out 3) | (go_at_call 10; refine (bivouaclaw07_few.calls a0_0 a0_1 a0_2 (fun k_ => k_ < w.heap.size) _ _ l0_3 m0 m1 m2 ml _ (Kd.V_mk HC0_3.out (Kd.F_below (Kd.C_F (Kd.heap_int .u8) HR0_3.out) HB.out)) AF.out).mono ?_; rintro e ww2 ⟨vq, rfl, hv, hb⟩; have HV : Aside0 (Kd.V (Kd.int .u8) 5 ww2 _ (fun k_ => k_ ≠ gm) vq ml) := ⟨Kd.V_mono hv (fun k_ hk_ => Or.elim hk_ (fun hs_ => by have := Gm.out; omega) (fun hn_ => by have := blk_lt Km.out; omega))⟩; clear hv; obtain ⟨Am, cm, rfl⟩ := Kd.V_slice HV.out; have KK := Aside0.mk (blk_below Km.out hb); clear Km; have Km := KK; clear KK; have KK := Aside0.mk (below_step HB.out hb); clear HB; have HB := KK; clear KK; clear hb; clear zm_0 fm_0 zm_1 fm_1 zm_2 fm_2 zm_3 fm_3; have zm_0 : ww2.cell? ⟨gm, 0, none⟩ = some (.int .i64 a0_0) := (blk_cell Km.out 0).trans rfl; have fm_0 := blk_frozen Km.out 0; have zm_1 : ww2.cell? ⟨gm, 1, none⟩ = some (.int .i64 a0_1) := (blk_cell Km.out 1).trans rfl; have fm_1 := blk_frozen Km.out 1; have zm_2 : ww2.cell? ⟨gm, 2, none⟩ = some (.int .i64 a0_2) := (blk_cell Km.out 2).trans rfl; have fm_2 := blk_frozen Km.out 2; have zm_3 : ww2.cell? ⟨gm, 3, none⟩ = some (.slice A0_3 l0_3.length c0_3) := (blk_cell Km.out 3).trans rfl; have fm_3 := blk_frozen Km.out 3) | ((with_reducible refine gate_store (t := 25) (p := 2) rfl ?_); refine store_event (t := 25) (p := 2) (v := ?vo_ww3) (w1 := ((((ww2.setCell ⟨gm, 0, none⟩ (.int .i64 m0)).setCell ⟨gm, 1, none⟩ (.int .i64 m1)).setCell ⟨gm, 2, none⟩ (.int .i64 m2)).setCell ⟨gm, 3, none⟩ (.slice Am ml.length cm))) ?hg ?ho ?hn ?hr ?_; (case ho => rfl); (case hg => rfl); (case hn => rfl); (case hr => first | (go_simp; done) | (go_simp; rfl)); intro ww3 hw; have k0_ := Km.out; have k1_ : (ww2.setCell ⟨gm, 0, none⟩ (.int .i64 m0)).heap[gm]? = some (.cells #[.int .i64 m0, .int .i64 a0_1, .int .i64 a0_2, .slice A0_3 l0_3.length c0_3] 25 (0, 0)) := blk_put k0_ 0 _ rfl; have k2_ : ((ww2.setCell ⟨gm, 0, none⟩ (.int .i64 m0)).setCell ⟨gm, 1, none⟩ (.int .i64 m1)).heap[gm]? = some (.cells #[.int .i64 m0, .int .i64 m1, .int .i64 a0_2, .slice A0_3 l0_3.length c0_3] 25 (0, 0)) := blk_put k1_ 1 _ rfl; have k3_ : (((ww2.setCell ⟨gm, 0, none⟩ (.int .i64 m0)).setCell ⟨gm, 1, none⟩ (.int .i64 m1)).setCell ⟨gm, 2, none⟩ (.int .i64 m2)).heap[gm]? = some (.cells #[.int .i64 m0, .int .i64 m1, .int .i64 m2, .slice A0_3 l0_3.length c0_3] 25 (0, 0)) := blk_put k2_ 2 _ rfl; have k4_ : ((((ww2.setCell ⟨gm, 0, none⟩ (.int .i64 m0)).setCell ⟨gm, 1, none⟩ (.int .i64 m1)).setCell ⟨gm, 2, none⟩ (.int .i64 m2)).setCell ⟨gm, 3, none⟩ (.slice Am ml.length cm)).heap[gm]? = some (.cells #[.int .i64 m0, .int .i64 m1, .int .i64 m2, .slice Am ml.length cm] 25 (0, 0)) := blk_put k3_ 3 _ rfl; have hb : Below w.heap.size w ww3 := (by subst hw; exact (below_set (below_set (below_set (below_set HB.out Gm.out) Gm.out) Gm.out) Gm.out)); have KK := Aside0.mk (show ww3.heap[gm]? = some (.cells #[.int .i64 m0, .int .i64 m1, .int .i64 m2, .slice Am ml.length cm] 25 (0, 0)) by subst hw; exact k4_); clear k0_ k1_ k2_ k3_ k4_ Km; have Km := KK; clear KK; have KK : Aside0 (Kd.V (Kd.int .u8) 5 ww3 _ (fun k_ => k_ ≠ gm) (.slice Am ml.length cm) ml) := ⟨by rw [hw]; exact Kd.V_far (Kd.V_far (Kd.V_far (Kd.V_far (HV.out) (p := ⟨gm, 0, none⟩) (fun _ h => h) (.int .i64 m0)) (p := ⟨gm, 1, none⟩) (fun _ h => h) (.int .i64 m1)) (p := ⟨gm, 2, none⟩) (fun _ h => h) (.int .i64 m2)) (p := ⟨gm, 3, none⟩) (fun _ h => h) (.slice Am ml.length cm)⟩; clear HV; have HV := KK; clear KK; clear HB; have HB := Aside0.mk hb; clear hb hw; clear zm_0 fm_0 zm_1 fm_1 zm_2 fm_2 zm_3 fm_3; have zm_0 : ww3.cell? ⟨gm, 0, none⟩ = some (.int .i64 m0) := (blk_cell Km.out 0).trans rfl; have zm_1 : ww3.cell? ⟨gm, 1, none⟩ = some (.int .i64 m1) := (blk_cell Km.out 1).trans rfl; have zm_2 : ww3.cell? ⟨gm, 2, none⟩ = some (.int .i64 m2) := (blk_cell Km.out 2).trans rfl; have zm_3 : ww3.cell? ⟨gm, 3, none⟩ = some (.slice Am ml.length cm) := (blk_cell Km.out 3).trans rfl; have HRm := Aside0.mk (Kd.V_reads' HV.out).2.2; have HCm := Aside0.mk (Kd.V_reads' HV.out).2.1; clear HV) | (go_at_call 16; refine (ground_Regions.calls k m0 m1 m2 _ _ ml a1 l e _ HRm.out HCm.out HLr.out).mono ?_; rintro e ww4 ⟨v1, rfl, hv1, hb⟩; obtain ⟨Al, cl, rfl⟩ := Kd.R_slice hv1; have HL := Aside0.mk (Kd.R_reads' hv1).2.2; clear hv1; have KK := Aside0.mk (blk_below Km.out hb); clear Km; have Km := KK; clear KK; have KK := Aside0.mk (Kd.C_below HRm.out hb); clear HRm; have HRm := KK; clear KK; have KK := Aside0.mk (below_step HB.out hb); clear HB; have HB := KK; clear KK; clear hb; clear zm_0 zm_1 zm_2 zm_3; have zm_0 : ww4.cell? ⟨gm, 0, none⟩ = some (.int .i64 m0) := (blk_cell Km.out 0).trans rfl; have zm_1 : ww4.cell? ⟨gm, 1, none⟩ = some (.int .i64 m1) := (blk_cell Km.out 1).trans rfl; have zm_2 : ww4.cell? ⟨gm, 2, none⟩ = some (.int .i64 m2) := (blk_cell Km.out 2).trans rfl; have zm_3 : ww4.cell? ⟨gm, 3, none⟩ = some (.slice Am ml.length cm) := (blk_cell Km.out 3).trans rfl) | (go_at_call 14; refine (ground_Grid.calls k m0 m1 m2 _ _ ml a1 g e2 _ HRm.out HCm.out HGr.out).mono ?_; rintro e ww5 ⟨v2, rfl, hv2, hb⟩; obtain ⟨Ag, cg, rfl⟩ := Kd.R_slice hv2; have HG := Aside0.mk (Kd.R_reads' hv2).2.2; clear hv2; have KK := Aside0.mk (blk_below Km.out hb); clear Km; have Km := KK; clear KK; have KK := Aside0.mk (Kd.C_below HRm.out hb); clear HRm; have HRm := KK; clear KK; have KK := Aside0.mk (Kd.C_below HL.out hb); clear HL; have HL := KK; clear KK; have KK := Aside0.mk (below_step HB.out hb); clear HB; have HB := KK; clear KK; clear hb; clear zm_0 zm_1 zm_2 zm_3; have zm_0 : ww5.cell? ⟨gm, 0, none⟩ = some (.int .i64 m0) := (blk_cell Km.out 0).trans rfl; have zm_1 : ww5.cell? ⟨gm, 1, none⟩ = some (.int .i64 m1) := (blk_cell Km.out 1).trans rfl; have zm_2 : ww5.cell? ⟨gm, 2, none⟩ = some (.int .i64 m2) := (blk_cell Km.out 2).trans rfl; have zm_3 : ww5.cell? ⟨gm, 3, none⟩ = some (.slice Am ml.length cm) := (blk_cell Km.out 3).trans rfl))
  have hok := HOK.out
  clear HOK HLr HGr HRm HCm AF HR0_3 HC0_3
  by_cases he : e = 0
  rotate_left
  · rw [if_neg he] at hok
    obtain ⟨h1, h2, h3⟩ := of_decide_eq_true hok
    have b0 : (e != 0) = true := by simp [he]
    have b1 : (e2 == e) = true := by simp [h1]
    clear hok he h1
    obtain rfl := List.eq_nil_of_length_eq_zero h2
    obtain rfl := List.eq_nil_of_length_eq_zero h3
    clear h2 h3
    go_wp2_with (first | (go_at_call 9; refine (bivouaclaw07_awake.calls k r _ HAW.out).mono ?_; rintro e ww51 ⟨rfl, hb⟩; have KK := Aside0.mk (below_step HB.out hb); clear HB; have HB := KK; clear KK; clear hb))
    go_ret
    exact ⟨rfl, HB.out⟩
  subst he
  rw [if_pos rfl, Bool.and_eq_true] at hok
  obtain ⟨hq, hall⟩ := hok
  obtain ⟨h1, h2, h2b, h3, h4⟩ := of_decide_eq_true hq
  have HALL := Aside0.mk hall
  have HQ := Aside0.mk (And.intro h1 (And.intro h2 (And.intro h2b h4)))
  clear hq hall h4
  have b2 : ((g.length : Int) != (l.length : Int)) = false := by simp [h1]
  have b3 : decide (m0 < 1) = false := decide_eq_false (by omega)
  have b4 : ((l.length : Int) != wrap64 (m0 * m1)) = false := by simp [← h3]
  have b5 : ((l.length : Int) != (l.length : Int)) = false := by simp
  have HE := Aside0.mk h1
  have H3 := Aside0.mk h3
  clear h1 h2 h2b
  clear h3
  go_wp2
  go_loopg [9] l.length (fun kq v9 w' => ∃ (i : Int), v9 = .int .i64 i ∧ Aside0 (0 ≤ i ∧ i ≤ (l.length : Int) ∧ (kq : Int) + i = (l.length : Int)) ∧ Aside0 (Kd.C (Kd.int .i64) w' Al l.length l) ∧ Aside0 (Kd.C Kd.bool w' Ag g.length g) ∧ Aside0 (w'.heap[gm]? = some (.cells #[.int .i64 m0, .int .i64 m1, .int .i64 m2, .slice Am ml.length cm] 25 (0, 0))) ∧ Aside0 (Below w.heap.size w w'))
  case atStart => exact ⟨0, rfl, ⟨by omega⟩, HL, HG, Km, HB⟩
  case round =>
    clear HL HG Km HB zm_0 zm_1 zm_2 zm_3
    obtain ⟨i, rfl, HI, HL, HG, Km, HB⟩ := hrel
    by_cases hi : i < (l.length : Int)
    rotate_left
    · have d0 : decide (i < (l.length : Int)) = false := decide_eq_false hi
      clear hi
      go_wp2_with (first | (go_at_call 9; refine (bivouaclaw07_awake.calls k r _ HAW.out).mono ?_; rintro e ww51 ⟨rfl, hb⟩; have KK := Aside0.mk (below_step HB.out hb); clear HB; have HB := KK; clear KK; clear hb))
      go_ret
      exact ⟨rfl, HB.out⟩
    have d0 : decide (i < (l.length : Int)) = true := decide_eq_true hi
    obtain ⟨i0, i1, i2⟩ := HI.out
    obtain ⟨A1, A2, A3, A4, A5⟩ := bivouaclaw07_GroundJoins.atEnd HALL.out i0 hi
    obtain ⟨w0, w1, l4⟩ := HQ.out.2
    obtain ⟨ad, ea, x0⟩ := Kd.at_int HL.out i i0 hi
    obtain ⟨adg, eg, y0⟩ := Kd.at_bool HG.out i i0 (by have := HE.out; omega)
    have xk : 0 ≤ rd l i → wr.cell? (ad.add (rd l i).toNat) = some (.int .i64 (rd l (rd l i))) := fun h => by
      obtain ⟨ad2, e2_, z⟩ := Kd.at_int HL.out (rd l i) h (by omega)
      rw [ea] at e2_; obtain rfl := Option.some.inj e2_; exact z
    have xl : 0 < i % m0 → wr.cell? (ad.add (i - 1).toNat) = some (.int .i64 (rd l (i - 1))) ∧ wr.cell? (adg.add (i - 1).toNat) = some (.bool (rdOf false g (i - 1))) := fun h => by
      have h1 : i ≠ 0 := fun e => by rw [e] at h; simp at h
      obtain ⟨ad2, e2_, z⟩ := Kd.at_int HL.out (i - 1) (by omega) (by omega)
      obtain ⟨ad3, e3_, z3⟩ := Kd.at_bool HG.out (i - 1) (by omega) (by have := HE.out; omega)
      rw [ea] at e2_; obtain rfl := Option.some.inj e2_; rw [eg] at e3_; obtain rfl := Option.some.inj e3_; exact ⟨z, z3⟩
    have xw : m0 ≤ i → wr.cell? (ad.add (i - m0).toNat) = some (.int .i64 (rd l (i - m0))) ∧ wr.cell? (adg.add (i - m0).toNat) = some (.bool (rdOf false g (i - m0))) := fun h => by
      obtain ⟨ad2, e2_, z⟩ := Kd.at_int HL.out (i - m0) (by omega) (by omega)
      obtain ⟨ad3, e3_, z3⟩ := Kd.at_bool HG.out (i - m0) (by omega) (by have := HE.out; omega)
      rw [ea] at e2_; obtain rfl := Option.some.inj e2_; rw [eg] at e3_; obtain rfl := Option.some.inj e3_; exact ⟨z, z3⟩
    subst ea
    subst eg
    have zm0 : wr.cell? ⟨gm, 0, none⟩ = some (.int .i64 m0) := (blk_cell Km.out 0).trans rfl
    have e1 : wrap64 (i + 1) = i + 1 := by unfold wrap64; omega
    have r1 : IntKind.i64.wrap (i + 1) = i + 1 := by rw [i64_w]; exact e1
    have e2 : wrap64 (i - 1) = i - 1 := by unfold wrap64; omega
    have r2 : IntKind.i64.wrap (i - 1) = i - 1 := by rw [i64_w]; exact e2
    have e3 : wrap64 (i - m0) = i - m0 := by unfold wrap64; omega
    have r3 : IntKind.i64.wrap (i - m0) = i - m0 := by rw [i64_w]; exact e3
    have e6 : Int.tmod i m0 = i % m0 := Int.tmod_eq_emod_of_nonneg i0
    have e7 : m0 ≠ 0 := by omega
    have q0 : 0 ≤ i := i0
    have q1 : i < (l.length : Int) := hi
    have q1g : i < (g.length : Int) := by have := HE.out; omega
    have HI2 := Aside0.mk (And.intro i0 (And.intro hi i2))
    clear i0 i1 i2 hi HI
    have t0 : decide (i < rd l i) = false := decide_eq_false (by omega)
    by_cases hk : 0 ≤ rd l i
    · have A1b : rdOf false g i = true := A1.trans (decide_eq_true hk)
      have A3b := A3 hk
      have xk2 := xk hk
      rw [A3b] at xk2
      rw [A1b] at y0
      have t1 : decide (0 ≤ rd l i) = true := decide_eq_true hk
      have t2 : (rd l i != rd l i) = false := by simp
      have HA := Aside0.mk (And.intro hk A2)
      have hk0 : 0 ≤ rd l i := hk
      have hk1 : rd l i < (l.length : Int) := by omega
      clear A1 A2 A3 xk
      go_wp2
      go_quiet (fail)
      go_wp2
      simp only [List.append_eq, List.cons_append, List.nil_append]
      refine wp_region_quiet_lit (by kernel_rfl) (by as_aux_lemma => kernel_rfl) ?_
      by_cases hl : 0 < i % m0
      · have dl : decide (0 < i % m0) = true := decide_eq_true hl
        obtain ⟨v0, v1⟩ := xl hl
        rw [show (i - 1).toNat = i.toNat - 1 by omega] at v0 v1
        have v2 := A4 hl A1b
        obtain ⟨gv, hgv⟩ : ∃ b, rdOf false g (i - 1) = b := ⟨_, rfl⟩
        rw [hgv] at v1 v2
        have hi1 : i ≠ 0 := fun e => by rw [e] at hl; simp at hl
        have p3 : 0 ≤ i - 1 := by omega
        have p4 : i - 1 < (l.length : Int) := by have := HI2.out; omega
        have p5 : i - 1 < (g.length : Int) := by have := HE.out; omega
        have p3b : 1 ≤ i := by omega
        have p4b : i ≤ (l.length : Int) := by omega
        have p5b : i ≤ (g.length : Int) := by omega
        clear hgv hl hi1
        cases gv
        · clear v2 v0
          by_cases hu : m0 ≤ i
          · have du : decide (m0 ≤ i) = true := decide_eq_true hu
            obtain ⟨u0, u1⟩ := xw hu
            have u2 := A5 hu A1b
            obtain ⟨gu, hgu⟩ : ∃ b, rdOf false g (i - m0) = b := ⟨_, rfl⟩
            rw [hgu] at u1 u2
            have p0 : 0 ≤ i - m0 := by omega
            have p1 : i - m0 < (l.length : Int) := by have := HI2.out; omega
            have p2 : i - m0 < (g.length : Int) := by have := HE.out; omega
            have p1b : i < (l.length : Int) + m0 := by omega
            have p2b : i < (g.length : Int) + m0 := by omega
            have hu2 := hu
            clear hgu hu
            cases gu
            · clear u2 u0
              clear A4 A5 xl xw HQ HE w0 w1 l4
              repeat (go_big_quiet_step (fail))
              refine wpQuiet_nil ?_
              intro _ hw'
              obtain ⟨nq2, hw''⟩ := hw'
              subst hw''
              go_wp2
              go_roundg (l.length - (i.toNat + 1))
              case measure => have := HI2.out; omega
              case rel => exact ⟨i + 1, rfl, ⟨by have := HI2.out; omega⟩, ⟨by first | exact HL.out | exact Kd.C_drewN HL.out _ | exact Kd.C_drewN (Kd.C_drewN HL.out _) _⟩, ⟨by first | exact HG.out | exact Kd.C_drewN HG.out _ | exact Kd.C_drewN (Kd.C_drewN HG.out _) _⟩, ⟨by first | exact Km.out | exact blk_drewN Km.out _ | exact blk_drewN (blk_drewN Km.out _) _⟩, ⟨by first | exact HB.out | exact pw_below_drewN HB.out _ | exact pw_below_drewN (pw_below_drewN HB.out _) _⟩⟩
            · rw [← u2 rfl] at u0
              clear u2
              clear A4 A5 xl xw HQ HE w0 w1 l4
              repeat (go_big_quiet_step (fail))
              refine wpQuiet_nil ?_
              intro _ hw'
              obtain ⟨nq2, hw''⟩ := hw'
              subst hw''
              go_wp2
              go_roundg (l.length - (i.toNat + 1))
              case measure => have := HI2.out; omega
              case rel => exact ⟨i + 1, rfl, ⟨by have := HI2.out; omega⟩, ⟨by first | exact HL.out | exact Kd.C_drewN HL.out _ | exact Kd.C_drewN (Kd.C_drewN HL.out _) _⟩, ⟨by first | exact HG.out | exact Kd.C_drewN HG.out _ | exact Kd.C_drewN (Kd.C_drewN HG.out _) _⟩, ⟨by first | exact Km.out | exact blk_drewN Km.out _ | exact blk_drewN (blk_drewN Km.out _) _⟩, ⟨by first | exact HB.out | exact pw_below_drewN HB.out _ | exact pw_below_drewN (pw_below_drewN HB.out _) _⟩⟩
          · have du : decide (m0 ≤ i) = false := decide_eq_false hu
            clear hu
            clear A4 A5 xl xw HQ HE w0 w1 l4
            repeat (go_big_quiet_step (fail))
            refine wpQuiet_nil ?_
            intro _ hw'
            obtain ⟨nq2, hw''⟩ := hw'
            subst hw''
            go_wp2
            go_roundg (l.length - (i.toNat + 1))
            case measure => have := HI2.out; omega
            case rel => exact ⟨i + 1, rfl, ⟨by have := HI2.out; omega⟩, ⟨by first | exact HL.out | exact Kd.C_drewN HL.out _ | exact Kd.C_drewN (Kd.C_drewN HL.out _) _⟩, ⟨by first | exact HG.out | exact Kd.C_drewN HG.out _ | exact Kd.C_drewN (Kd.C_drewN HG.out _) _⟩, ⟨by first | exact Km.out | exact blk_drewN Km.out _ | exact blk_drewN (blk_drewN Km.out _) _⟩, ⟨by first | exact HB.out | exact pw_below_drewN HB.out _ | exact pw_below_drewN (pw_below_drewN HB.out _) _⟩⟩
        · rw [← v2 rfl] at v0
          clear v2
          by_cases hu : m0 ≤ i
          · have du : decide (m0 ≤ i) = true := decide_eq_true hu
            obtain ⟨u0, u1⟩ := xw hu
            have u2 := A5 hu A1b
            obtain ⟨gu, hgu⟩ : ∃ b, rdOf false g (i - m0) = b := ⟨_, rfl⟩
            rw [hgu] at u1 u2
            have p0 : 0 ≤ i - m0 := by omega
            have p1 : i - m0 < (l.length : Int) := by have := HI2.out; omega
            have p2 : i - m0 < (g.length : Int) := by have := HE.out; omega
            have p1b : i < (l.length : Int) + m0 := by omega
            have p2b : i < (g.length : Int) + m0 := by omega
            have hu2 := hu
            clear hgu hu
            cases gu
            · clear u2 u0
              clear A4 A5 xl xw HQ HE w0 w1 l4
              repeat (go_big_quiet_step (fail))
              refine wpQuiet_nil ?_
              intro _ hw'
              obtain ⟨nq2, hw''⟩ := hw'
              subst hw''
              go_wp2
              go_roundg (l.length - (i.toNat + 1))
              case measure => have := HI2.out; omega
              case rel => exact ⟨i + 1, rfl, ⟨by have := HI2.out; omega⟩, ⟨by first | exact HL.out | exact Kd.C_drewN HL.out _ | exact Kd.C_drewN (Kd.C_drewN HL.out _) _⟩, ⟨by first | exact HG.out | exact Kd.C_drewN HG.out _ | exact Kd.C_drewN (Kd.C_drewN HG.out _) _⟩, ⟨by first | exact Km.out | exact blk_drewN Km.out _ | exact blk_drewN (blk_drewN Km.out _) _⟩, ⟨by first | exact HB.out | exact pw_below_drewN HB.out _ | exact pw_below_drewN (pw_below_drewN HB.out _) _⟩⟩
            · rw [← u2 rfl] at u0
              clear u2
              clear A4 A5 xl xw HQ HE w0 w1 l4
              repeat (go_big_quiet_step (fail))
              refine wpQuiet_nil ?_
              intro _ hw'
              obtain ⟨nq2, hw''⟩ := hw'
              subst hw''
              go_wp2
              go_roundg (l.length - (i.toNat + 1))
              case measure => have := HI2.out; omega
              case rel => exact ⟨i + 1, rfl, ⟨by have := HI2.out; omega⟩, ⟨by first | exact HL.out | exact Kd.C_drewN HL.out _ | exact Kd.C_drewN (Kd.C_drewN HL.out _) _⟩, ⟨by first | exact HG.out | exact Kd.C_drewN HG.out _ | exact Kd.C_drewN (Kd.C_drewN HG.out _) _⟩, ⟨by first | exact Km.out | exact blk_drewN Km.out _ | exact blk_drewN (blk_drewN Km.out _) _⟩, ⟨by first | exact HB.out | exact pw_below_drewN HB.out _ | exact pw_below_drewN (pw_below_drewN HB.out _) _⟩⟩
          · have du : decide (m0 ≤ i) = false := decide_eq_false hu
            clear hu
            clear A4 A5 xl xw HQ HE w0 w1 l4
            repeat (go_big_quiet_step (fail))
            refine wpQuiet_nil ?_
            intro _ hw'
            obtain ⟨nq2, hw''⟩ := hw'
            subst hw''
            go_wp2
            go_roundg (l.length - (i.toNat + 1))
            case measure => have := HI2.out; omega
            case rel => exact ⟨i + 1, rfl, ⟨by have := HI2.out; omega⟩, ⟨by first | exact HL.out | exact Kd.C_drewN HL.out _ | exact Kd.C_drewN (Kd.C_drewN HL.out _) _⟩, ⟨by first | exact HG.out | exact Kd.C_drewN HG.out _ | exact Kd.C_drewN (Kd.C_drewN HG.out _) _⟩, ⟨by first | exact Km.out | exact blk_drewN Km.out _ | exact blk_drewN (blk_drewN Km.out _) _⟩, ⟨by first | exact HB.out | exact pw_below_drewN HB.out _ | exact pw_below_drewN (pw_below_drewN HB.out _) _⟩⟩
      · have dl : decide (0 < i % m0) = false := decide_eq_false hl
        clear hl
        by_cases hu : m0 ≤ i
        · have du : decide (m0 ≤ i) = true := decide_eq_true hu
          obtain ⟨u0, u1⟩ := xw hu
          have u2 := A5 hu A1b
          obtain ⟨gu, hgu⟩ : ∃ b, rdOf false g (i - m0) = b := ⟨_, rfl⟩
          rw [hgu] at u1 u2
          have p0 : 0 ≤ i - m0 := by omega
          have p1 : i - m0 < (l.length : Int) := by have := HI2.out; omega
          have p2 : i - m0 < (g.length : Int) := by have := HE.out; omega
          have p1b : i < (l.length : Int) + m0 := by omega
          have p2b : i < (g.length : Int) + m0 := by omega
          have hu2 := hu
          clear hgu hu
          cases gu
          · clear u2 u0
            clear A4 A5 xl xw HQ HE w0 w1 l4
            repeat (go_big_quiet_step (fail))
            refine wpQuiet_nil ?_
            intro _ hw'
            obtain ⟨nq2, hw''⟩ := hw'
            subst hw''
            go_wp2
            go_roundg (l.length - (i.toNat + 1))
            case measure => have := HI2.out; omega
            case rel => exact ⟨i + 1, rfl, ⟨by have := HI2.out; omega⟩, ⟨by first | exact HL.out | exact Kd.C_drewN HL.out _ | exact Kd.C_drewN (Kd.C_drewN HL.out _) _⟩, ⟨by first | exact HG.out | exact Kd.C_drewN HG.out _ | exact Kd.C_drewN (Kd.C_drewN HG.out _) _⟩, ⟨by first | exact Km.out | exact blk_drewN Km.out _ | exact blk_drewN (blk_drewN Km.out _) _⟩, ⟨by first | exact HB.out | exact pw_below_drewN HB.out _ | exact pw_below_drewN (pw_below_drewN HB.out _) _⟩⟩
          · rw [← u2 rfl] at u0
            clear u2
            clear A4 A5 xl xw HQ HE w0 w1 l4
            repeat (go_big_quiet_step (fail))
            refine wpQuiet_nil ?_
            intro _ hw'
            obtain ⟨nq2, hw''⟩ := hw'
            subst hw''
            go_wp2
            go_roundg (l.length - (i.toNat + 1))
            case measure => have := HI2.out; omega
            case rel => exact ⟨i + 1, rfl, ⟨by have := HI2.out; omega⟩, ⟨by first | exact HL.out | exact Kd.C_drewN HL.out _ | exact Kd.C_drewN (Kd.C_drewN HL.out _) _⟩, ⟨by first | exact HG.out | exact Kd.C_drewN HG.out _ | exact Kd.C_drewN (Kd.C_drewN HG.out _) _⟩, ⟨by first | exact Km.out | exact blk_drewN Km.out _ | exact blk_drewN (blk_drewN Km.out _) _⟩, ⟨by first | exact HB.out | exact pw_below_drewN HB.out _ | exact pw_below_drewN (pw_below_drewN HB.out _) _⟩⟩
        · have du : decide (m0 ≤ i) = false := decide_eq_false hu
          clear hu
          clear A4 A5 xl xw HQ HE w0 w1 l4
          repeat (go_big_quiet_step (fail))
          refine wpQuiet_nil ?_
          intro _ hw'
          obtain ⟨nq2, hw''⟩ := hw'
          subst hw''
          go_wp2
          go_roundg (l.length - (i.toNat + 1))
          case measure => have := HI2.out; omega
          case rel => exact ⟨i + 1, rfl, ⟨by have := HI2.out; omega⟩, ⟨by first | exact HL.out | exact Kd.C_drewN HL.out _ | exact Kd.C_drewN (Kd.C_drewN HL.out _) _⟩, ⟨by first | exact HG.out | exact Kd.C_drewN HG.out _ | exact Kd.C_drewN (Kd.C_drewN HG.out _) _⟩, ⟨by first | exact Km.out | exact blk_drewN Km.out _ | exact blk_drewN (blk_drewN Km.out _) _⟩, ⟨by first | exact HB.out | exact pw_below_drewN HB.out _ | exact pw_below_drewN (pw_below_drewN HB.out _) _⟩⟩
    · have A1b : rdOf false g i = false := A1.trans (decide_eq_false hk)
      rw [A1b] at y0
      have t1 : decide (0 ≤ rd l i) = false := decide_eq_false hk
      have HA := Aside0.mk A2
      clear A1 A2 A3 xk hk
      go_wp2
      go_quiet (fail)
      go_wp2
      simp only [List.append_eq, List.cons_append, List.nil_append]
      refine wp_region_quiet_lit (by kernel_rfl) (by as_aux_lemma => kernel_rfl) ?_
      by_cases hl : 0 < i % m0
      · have dl : decide (0 < i % m0) = true := decide_eq_true hl
        clear hl
        by_cases hu : m0 ≤ i
        · have du : decide (m0 ≤ i) = true := decide_eq_true hu
          clear hu
          clear A4 A5 xl xw HQ HE w0 w1 l4
          repeat (go_big_quiet_step (fail))
          refine wpQuiet_nil ?_
          intro _ hw'
          obtain ⟨nq2, hw''⟩ := hw'
          subst hw''
          go_wp2
          go_roundg (l.length - (i.toNat + 1))
          case measure => have := HI2.out; omega
          case rel => exact ⟨i + 1, rfl, ⟨by have := HI2.out; omega⟩, ⟨by first | exact HL.out | exact Kd.C_drewN HL.out _ | exact Kd.C_drewN (Kd.C_drewN HL.out _) _⟩, ⟨by first | exact HG.out | exact Kd.C_drewN HG.out _ | exact Kd.C_drewN (Kd.C_drewN HG.out _) _⟩, ⟨by first | exact Km.out | exact blk_drewN Km.out _ | exact blk_drewN (blk_drewN Km.out _) _⟩, ⟨by first | exact HB.out | exact pw_below_drewN HB.out _ | exact pw_below_drewN (pw_below_drewN HB.out _) _⟩⟩
        · have du : decide (m0 ≤ i) = false := decide_eq_false hu
          clear hu
          clear A4 A5 xl xw HQ HE w0 w1 l4
          repeat (go_big_quiet_step (fail))
          refine wpQuiet_nil ?_
          intro _ hw'
          obtain ⟨nq2, hw''⟩ := hw'
          subst hw''
          go_wp2
          go_roundg (l.length - (i.toNat + 1))
          case measure => have := HI2.out; omega
          case rel => exact ⟨i + 1, rfl, ⟨by have := HI2.out; omega⟩, ⟨by first | exact HL.out | exact Kd.C_drewN HL.out _ | exact Kd.C_drewN (Kd.C_drewN HL.out _) _⟩, ⟨by first | exact HG.out | exact Kd.C_drewN HG.out _ | exact Kd.C_drewN (Kd.C_drewN HG.out _) _⟩, ⟨by first | exact Km.out | exact blk_drewN Km.out _ | exact blk_drewN (blk_drewN Km.out _) _⟩, ⟨by first | exact HB.out | exact pw_below_drewN HB.out _ | exact pw_below_drewN (pw_below_drewN HB.out _) _⟩⟩
      · have dl : decide (0 < i % m0) = false := decide_eq_false hl
        clear hl
        by_cases hu : m0 ≤ i
        · have du : decide (m0 ≤ i) = true := decide_eq_true hu
          clear hu
          clear A4 A5 xl xw HQ HE w0 w1 l4
          repeat (go_big_quiet_step (fail))
          refine wpQuiet_nil ?_
          intro _ hw'
          obtain ⟨nq2, hw''⟩ := hw'
          subst hw''
          go_wp2
          go_roundg (l.length - (i.toNat + 1))
          case measure => have := HI2.out; omega
          case rel => exact ⟨i + 1, rfl, ⟨by have := HI2.out; omega⟩, ⟨by first | exact HL.out | exact Kd.C_drewN HL.out _ | exact Kd.C_drewN (Kd.C_drewN HL.out _) _⟩, ⟨by first | exact HG.out | exact Kd.C_drewN HG.out _ | exact Kd.C_drewN (Kd.C_drewN HG.out _) _⟩, ⟨by first | exact Km.out | exact blk_drewN Km.out _ | exact blk_drewN (blk_drewN Km.out _) _⟩, ⟨by first | exact HB.out | exact pw_below_drewN HB.out _ | exact pw_below_drewN (pw_below_drewN HB.out _) _⟩⟩
        · have du : decide (m0 ≤ i) = false := decide_eq_false hu
          clear hu
          clear A4 A5 xl xw HQ HE w0 w1 l4
          repeat (go_big_quiet_step (fail))
          refine wpQuiet_nil ?_
          intro _ hw'
          obtain ⟨nq2, hw''⟩ := hw'
          subst hw''
          go_wp2
          go_roundg (l.length - (i.toNat + 1))
          case measure => have := HI2.out; omega
          case rel => exact ⟨i + 1, rfl, ⟨by have := HI2.out; omega⟩, ⟨by first | exact HL.out | exact Kd.C_drewN HL.out _ | exact Kd.C_drewN (Kd.C_drewN HL.out _) _⟩, ⟨by first | exact HG.out | exact Kd.C_drewN HG.out _ | exact Kd.C_drewN (Kd.C_drewN HG.out _) _⟩, ⟨by first | exact Km.out | exact blk_drewN Km.out _ | exact blk_drewN (blk_drewN Km.out _) _⟩, ⟨by first | exact HB.out | exact pw_below_drewN HB.out _ | exact pw_below_drewN (pw_below_drewN HB.out _) _⟩⟩
/-- THE ONE PURE STATEMENT of bivouaclaw07_GroundJoins. -/
def bivouaclaw07_GroundJoins.Pure : Prop := ∀ (a0_0 : Int) (a0_1 : Int) (a0_2 : Int) (l0_3 : List Int) (a1 : Int), (Lit.int .i64 a0_0).wf = true → (Lit.int .i64 a0_1).wf = true → (Lit.int .i64 a0_2).wf = true → l0_3.length ≤ maxLen → (∀ x ∈ l0_3, (Lit.int .u8 x).wf = true) → (Lit.int .i64 a1).wf = true → ∃ k, bivouaclaw07_GroundJoins.f k a0_0 a0_1 a0_2 l0_3 a1 = some true
theorem bivouaclaw07_GroundJoins.walked : True := trivial

end Go.Proofs.Ytnpippechogagaa.PA
