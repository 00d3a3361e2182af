/- The contract of route_Costs: what its call comes to, for every argument, in any memory. -/
import Derived.Test.YtdmmlidgipedaaaPAx0
import Derived.Test.YtdmmlidgipedaaaPAx17
import Derived.Test.YtdmmlidgipedaaaPAx18
import Derived.Test.YtdmmlidgipedaaaGAgroundJoined
import Derived.Test.YtdmmlidgipedaaaGAgroundRegions
import Derived.Test.YtdmmlidgipedaaaGAreliefDepth
import Derived.Test.YtdmmlidgipedaaaGAreliefSlope
import Derived.BigQuiet
import Derived.BigRegion
import Derived.Deep.RegionHeld3
import Derived.Deep.RegionLaw
import Derived.Laws.CopyOwn
import Derived.StillTailTactics
import Derived.WalkMore
import Derived.Test.YtdmmlidgipedaaaGArouteHeapA
namespace Go.Proofs.Ytdmmlidgipedaaa.PA
open Go.RowKit Go.Proofs.YtdmmlidgipedaaaW.PrintWords Go.Proofs.YtdmmlidgipedaaaW.PrintLast Go.Proofs.YtdmmlidgipedaaaW.PrintMore
set_option linter.unusedVariables false
set_option linter.unusedSimpArgs false
theorem HRow.pop {W : World} {B g n cap : Nat} {xs : List (Int × Int)} (h : HRow W B (.slice (some ⟨g, 0, none⟩) (n + 1) cap) xs) (hn : xs.length = n + 1) : HRow W B (.slice (some ⟨g, 0, none⟩) n cap) (xs.take n) := by
  unfold HRow at h ⊢
  rw [hn] at h
  rw [List.length_take, hn, Nat.min_eq_left (by omega), hEnc_take]
  obtain ⟨hl, h2⟩ := h
  rcases h2 with ⟨h0, _⟩ | ⟨g', cap', cur, hv, hg, hh, hn2, hcap, hsz, htake⟩
  · cases h0
  · cases hv
    refine ⟨by rw [List.length_take, hl]; omega, .inr ⟨g, cap, cur, rfl, hg, hh, by omega, hcap, hsz, ?_⟩⟩
    rw [← htake, List.take_take, Nat.min_eq_left (by omega)]
/-- How the memory stands while a thing is taken out. -/
structure PS (w : World) (B gh gn gr gx g n cap : Nat) (x : Int × Int) (W : World) (ys : List (Int × Int)) : Prop where
  s : HS W B gh gn (.slice (some ⟨g, 0, none⟩) n cap) ys
  f : HFr w W gh (some g)
  r : W.heap[gr]? = some (.cells #[.int .i64 0, .int .i64 0] 61 (0, 0))
  x : W.heap[gx]? = some (.cells #[.int .i64 x.1, .int .i64 x.2] 61 (0, 0))
theorem PS.below {w : World} {B gh gn gr gx g n cap : Nat} {x : Int × Int} {W C : World} {ys : List (Int × Int)} (h : PS w B gh gn gr gx g n cap x W ys) (hb : Below W.heap.size W C) : PS w B gh gn gr gx g n cap x C ys :=
  ⟨h.s.below hb, h.f.below hb, blk_below h.r hb, blk_below h.x hb⟩
theorem PS.drewN {w : World} {B gh gn gr gx g n cap : Nat} {x : Int × Int} {W : World} {ys : List (Int × Int)} (h : PS w B gh gn gr gx g n cap x W ys) (m : Nat) : PS w B gh gn gr gx g n cap x (W.drewN m) ys :=
  ⟨⟨h.s.h, h.s.n, h.s.r⟩, ⟨h.f.os, h.f.tape, h.f.output, h.f.size, h.f.block⟩, h.r, h.x⟩
theorem PS.drew {w : World} {B gh gn gr gx g n cap : Nat} {x : Int × Int} {W : World} {ys : List (Int × Int)} (h : PS w B gh gn gr gx g n cap x W ys) : PS w B gh gn gr gx g n cap x W.drew ys :=
  ⟨h.s.drew, h.f.drew, h.r, h.x⟩
theorem PS.exch {w : World} {B gh gn gr gx g n cap : Nat} {x : Int × Int} {W : World} {ys zs : List (Int × Int)} (h : PS w B gh gn gr gx g n cap x W ys) (n1 : gr ≠ g) (n2 : gx ≠ g) {a b c d : Nat} {u1 u2 u3 u4 : Value}
    (hr : HRow ((((W.setCell ⟨g, a, none⟩ u1).setCell ⟨g, b, none⟩ u2).setCell ⟨g, c, none⟩ u3).setCell ⟨g, d, none⟩ u4) B (.slice (some ⟨g, 0, none⟩) n cap) zs) :
    PS w B gh gn gr gx g n cap x ((((W.setCell ⟨g, a, none⟩ u1).setCell ⟨g, b, none⟩ u2).setCell ⟨g, c, none⟩ u3).setCell ⟨g, d, none⟩ u4).drew zs :=
  ⟨h.s.exch hr, h.f.exch (Or.inl rfl) _ _ _ _ _ _ _ _, blk_far (blk_far (blk_far (blk_far h.r n1 _) n1 _) n1 _) n1 _, blk_far (blk_far (blk_far (blk_far h.x n2 _) n2 _) n2 _) n2 _⟩
/-- The first thing's place takes the last one; the row grows shorter. -/
theorem PS.cut {w : World} {B gh gn gr gx g n cap : Nat} {x : Int × Int} {W : World} {xs : List (Int × Int)} (h : PS w B gh gn gr gx g (n + 1) cap x W xs) (n1 : gr ≠ g) (n2 : gx ≠ g) (n3 : gh ≠ gr) (n4 : gh ≠ gx) (hn : xs.length = n + 1) (p : Int × Int) :
    PS w B gh gn gr gx g n cap x ((((W.setCell ⟨g, 0, none⟩ (.int .i64 p.1)).setCell ⟨g, 1, none⟩ (.int .i64 p.2))).setCell ⟨gh, 0, none⟩ (.slice (some ⟨g, 0, none⟩) n cap)) ((xs.set 0 p).take n) := by
  have m1 : gh ≠ g := fun e => h.s.r.ne h.s.h (by decide) (by rw [e]; rfl)
  have m2 : gn ≠ g := fun e => h.s.r.ne h.s.n (by decide) (by rw [e]; rfl)
  have m3 : gn ≠ gh := blk_ne h.s.n h.s.h (by decide)
  have hr : HRow ((W.setCell ⟨g, 0, none⟩ (.int .i64 p.1)).setCell ⟨g, 1, none⟩ (.int .i64 p.2)) B (.slice (some ⟨g, 0, none⟩) (n + 1) cap) (xs.set 0 p) := h.s.r.put (k := 0) hn.symm (by omega) p
  have hr2 := HRow.pop hr (by rw [List.length_set]; exact hn)
  exact ⟨⟨blk_put (blk_far (blk_far h.s.h m1 _) m1 _) 0 _ rfl, blk_far (blk_far (blk_far h.s.n m2 _) m2 _) m3 _, hr2.far (p := ⟨gh, 0, none⟩) (fun e => m1 (Option.some.inj e).symm) _⟩,
    ((h.f.set _ _ (Or.inr (Or.inl rfl))).set _ _ (Or.inr (Or.inl rfl))).set _ _ (Or.inl rfl), blk_far (blk_far (blk_far h.r n1 _) n1 _) (Ne.symm n3) _, blk_far (blk_far (blk_far h.x n2 _) n2 _) (Ne.symm n4) _⟩
theorem hKids {n k : Nat} (hn : n < 1000000) (hk : k < 1000000) : wrap64 (2 * (k : Int)) = 2 * (k : Int) ∧ wrap64 (2 * (k : Int) + 1) = ((2 * k + 1 : Nat) : Int) ∧ wrap64 (((2 * k + 1 : Nat) : Int) + 1) = ((2 * k + 2 : Nat) : Int) := by
  have h0 : (k : Int) < 1000000 := by omega
  have h1 : (0 : Int) ≤ (k : Int) := by omega
  refine ⟨?_, ?_, ?_⟩ <;> (unfold wrap64; omega)
theorem HRow.cap {W : World} {B g m cap : Nat} {xs : List (Int × Int)} (h : HRow W B (.slice (some ⟨g, 0, none⟩) m cap) xs) : m ≤ cap := by
  rcases h.2 with ⟨h0, _⟩ | ⟨g', cap', cur, hv, _, _, h3, _⟩
  · cases h0
  · simp only [Value.slice.injEq, Option.some.injEq, Addr.mk.injEq, and_true, true_and] at hv
    obtain ⟨_, h1, rfl⟩ := hv
    omega
theorem PS.fin {w : World} {B gh gn gr gx g n cap : Nat} {x : Int × Int} {W : World} {ys : List (Int × Int)} (h : PS w B gh gn gr gx g n cap x W ys) (n1 : gr ≠ g) (n2 : gh ≠ gr) (hr : w.heap.size ≤ gr) :
    ((W.setCell ⟨gr, 0, none⟩ (.int .i64 x.1)).setCell ⟨gr, 1, none⟩ (.int .i64 x.2)).heap[gr]? = some (.cells #[.int .i64 x.1, .int .i64 x.2] 61 (0, 0)) ∧
    HFr w ((W.setCell ⟨gr, 0, none⟩ (.int .i64 x.1)).setCell ⟨gr, 1, none⟩ (.int .i64 x.2)) gh (some g) ∧ HS ((W.setCell ⟨gr, 0, none⟩ (.int .i64 x.1)).setCell ⟨gr, 1, none⟩ (.int .i64 x.2)) B gh gn (.slice (some ⟨g, 0, none⟩) n cap) ys := by
  have n3 : gn ≠ gr := blk_ne h.s.n h.r (by decide)
  have n4 : (Value.slice (some ⟨g, 0, none⟩) n cap).ownBlock ≠ some gr := fun e => n1 (Option.some.inj e).symm
  exact ⟨blk_put (blk_put h.r 0 _ rfl) 1 _ rfl, (h.f.set _ _ (Or.inr (Or.inr hr))).set _ _ (Or.inr (Or.inr hr)), blk_far (blk_far h.s.h n2 _) n2 _, blk_far (blk_far h.s.n n3 _) n3 _, (h.s.r.far (p := ⟨gr, 0, none⟩) n4 _).far (p := ⟨gr, 1, none⟩) n4 _⟩
theorem hKidB {xs : List (Int × Int)} {n k c c2 : Nat} (hc : 2 * k + 1 = c) (hc2 : 2 * k + 2 = c2) : hKid xs n k = if c2 < n ∧ hCst xs c2 < hCst xs c then c2 else c := by unfold hKid; rw [hc, hc2]
theorem hKidR {k c c2 n : Nat} (hc : 2 * k + 1 = c) (hc2 : 2 * k + 2 = c2) (h : c < n) : k < n ∧ k < c ∧ k < c2 ∧ c2 = c + 1 ∧ (k : Int) < (n : Int) ∧ (c : Int) < (n : Int) ∧ (0 : Int) ≤ (k : Int) ∧ (0 : Int) ≤ (c : Int) ∧ (0 : Int) ≤ (c2 : Int) := by omega
theorem hLtI {a b : Nat} (h : a < b) : (a : Int) < (b : Int) := by omega
theorem hDownA {f n k : Nat} {ys zs : List (Int × Int)} (h : ¬ 2 * k + 1 < n) (hd : hDown f n k ys = zs) : ys = zs := by
  cases f
  · exact hd
  · simp only [hDown] at hd; rw [if_neg h] at hd; exact hd
theorem hDownB {f n k c : Nat} {ys zs : List (Int × Int)} (h : 2 * k + 1 < n) (hf : n + 1 ≤ f + k) (hk : hKid ys n k = c) (hlt : ¬ hCst ys c < hCst ys k) (hd : hDown f n k ys = zs) : ys = zs := by
  cases f
  · omega
  · simp only [hDown] at hd; rw [if_pos h, hk, if_neg hlt] at hd; exact hd
theorem hDownC {f n k c : Nat} {ys zs : List (Int × Int)} (h : 2 * k + 1 < n) (hf : n + 1 ≤ f + k) (hk : hKid ys n k = c) (hlt : hCst ys c < hCst ys k) (hd : hDown f n k ys = zs) : ∃ d, f = d + 1 ∧ hDown d n c (hSwp ys k c) = zs := by
  cases f
  · omega
  · simp only [hDown] at hd; rw [if_pos h, hk, if_pos hlt] at hd; exact ⟨_, rfl, hd⟩

theorem blk_all2 {w : World} {g t : Nat} {c0 c1 v0 v1 : Value} (h : w.heap[g]? = some (.cells #[c0, c1] t (0, 0))) : ((w.setCell ⟨g, 0, none⟩ v0).setCell ⟨g, 1, none⟩ v1).heap[g]? = some (.cells #[v0, v1] t (0, 0)) := by
  have h0 : (w.setCell ⟨g, 0, none⟩ v0).heap[g]? = some (.cells #[v0, c1] t (0, 0)) := blk_put h 0 _ rfl
  have h1 : ((w.setCell ⟨g, 0, none⟩ v0).setCell ⟨g, 1, none⟩ v1).heap[g]? = some (.cells #[v0, v1] t (0, 0)) := blk_put h0 1 _ rfl
  exact h1
theorem hRelP {n k d f c : Nat} (h1 : n + 1 ≤ f + k) (h2 : f = d + 1) (h3 : k < c) : n + 1 ≤ d + c := by omega
set_option maxHeartbeats 16000000 in
set_option maxRecDepth 1000000 in
theorem hPop_calls (B gh gn g n cap : Nat) (xs : List (Int × Int)) (w : World) (hs : HS w B gh gn (.slice (some ⟨g, 0, none⟩) (n + 1) cap) xs) (hn : xs.length = n + 1) (hl : n < 1000000) :
    Calls Try.prog 24 #[.pointer (some ⟨gh, 0, none⟩)] w fun e w' => e = .returned (.agg #[.int .i64 (xs.getD 0 (0, 0)).1, .int .i64 (xs.getD 0 (0, 0)).2]) ∧ HFr w w' gh (some g) ∧ HS w' B gh gn (.slice (some ⟨g, 0, none⟩) n cap) (hPop xs) := by
  have HB := Aside0.mk (Below.refl w.heap.size w)
  have HH := Aside0.mk hs
  have HN := Aside0.mk hn
  have HL := Aside0.mk hl
  have hpop : hPop xs = hDown (n + 1) n 0 ((xs.set 0 (xs.getD n (0, 0))).take n) := by unfold hPop; rw [hn]; rfl
  obtain ⟨⟨x0, x1⟩, hx⟩ : ∃ p, xs.getD 0 (0, 0) = p := ⟨_, rfl⟩
  obtain ⟨⟨y0, y1⟩, hy⟩ : ∃ p, xs.getD n (0, 0) = p := ⟨_, rfl⟩
  rw [hx]
  rw [hy] at hpop
  have a0 := hs.r.at hn.symm (k := 0) (Nat.succ_pos n)
  have a1 := hs.r.at hn.symm (k := n) (Nat.lt_succ_self n)
  rw [hx] at a0
  rw [hy] at a1
  rw [hpop]
  have HA0 : Aside0 (w.cell? ⟨g, 0, none⟩ = some (.int .i64 x0) ∧ w.cell? ⟨g, 1, none⟩ = some (.int .i64 x1)) := ⟨a0⟩
  have HA1 := Aside0.mk a1
  have HGL : Aside0 (g < w.heap.size) := ⟨by have := hs.r.lt g rfl; exact this.2⟩
  have e0 : wrap64 (((n + 1 : Nat) : Int) - 1) = (n : Int) := by unfold wrap64; omega
  have e1 : wrap64 ((n : Int) + 1 - 1) = (n : Int) := by unfold wrap64; omega
  have e2 : wrap64 (n : Int) = (n : Int) := by unfold wrap64; omega
  have i0 : (0 : Int) ≤ (n : Int) := Int.natCast_nonneg n
  have i1 : (n : Int) < (n : Int) + 1 := by omega
  have i2 : n ≤ cap := Nat.le_of_succ_le hs.r.cap
  have HGH : Aside0 (gh < w.heap.size) := ⟨blk_lt hs.h⟩
  have i3 : (n : Int) ≤ (cap : Int) := by omega
  have i4 : (0 : Int) < (n : Int) + 1 := by omega
  clear hs hn hl a0 a1 hx hy hpop
  go_enter Try.func24, Try.ntmps24
  have zh : w.cell? ⟨gh, 0, none⟩ = some (.slice (some ⟨g, 0, none⟩) (n + 1) cap) := (blk_cell HH.out.h 0).trans rfl
  have zx0 := HA0.out.1
  have zx1 := HA0.out.2
  go_upto_region 2 with (first | ((with_reducible refine gate_dst (N := 2) rfl ?_); refine box_event ?hg (N := 2) ?hd (cs := #[.int .i64 0, .int .i64 0]) (t := 61) ?hr ?_; (case hd => rfl); (case hg => rfl); (case hr => first | (go_simp; done) | (go_simp; rfl)); intro gr hg ww1 hbox hb; have zh0 := pw_cell_below hb zh; have zh1 := pw_cell_below hb zx0; have zh2 := pw_cell_below hb zx1; clear zh zx0 zx1; have zh := zh0; have zx0 := zh1; have zx1 := zh2; clear zh0 zh1 zh2; have P_r := Aside0.mk hb; have PG_r : Aside0 (_ ≤ gr) := ⟨Nat.le_of_eq hg.symm⟩; have P_r_HH := HH; have KK := Aside0.mk (HS.below HH.out hb); clear HH; have HH := KK; clear KK; have Gr : Aside0 (w.heap.size ≤ gr) := ⟨by have := HB.out.size; omega⟩; have Kr := Aside0.mk hbox; have KK := Aside0.mk (below_step HB.out hb); clear HB; have HB := KK; clear KK; clear hb hbox hg; have zr_0 : ww1.cell? ⟨gr, 0, none⟩ = some (.int .i64 0) := (blk_cell Kr.out 0).trans rfl; have fr_0 := blk_frozen Kr.out 0; have zr_1 : ww1.cell? ⟨gr, 1, none⟩ = some (.int .i64 0) := (blk_cell Kr.out 1).trans rfl; have fr_1 := blk_frozen Kr.out 1) | ((with_reducible refine gate_dst (N := 3) rfl ?_); refine box_event ?hg (N := 3) ?hd (cs := #[.int .i64 0, .int .i64 0]) (t := 61) ?hr ?_; (case hd => rfl); (case hg => rfl); (case hr => first | (go_simp; done) | (go_simp; rfl)); intro gx hg ww2 hbox hb; have zh0 := pw_cell_below hb zh; have zh1 := pw_cell_below hb zx0; have zh2 := pw_cell_below hb zx1; clear zh zx0 zx1; have zh := zh0; have zx0 := zh1; have zx1 := zh2; clear zh0 zh1 zh2; have P_x := Aside0.mk hb; have PG_x : Aside0 (_ ≤ gx) := ⟨Nat.le_of_eq hg.symm⟩; have P_x_HH := HH; have Nr_x : Aside0 (gr ≠ gx) := ⟨by have := blk_lt Kr.out; omega⟩; have KK := Aside0.mk (blk_below Kr.out hb); clear Kr; have Kr := KK; clear KK; have KK := Aside0.mk (HS.below HH.out hb); clear HH; have HH := KK; clear KK; have Gx : Aside0 (w.heap.size ≤ gx) := ⟨by have := HB.out.size; omega⟩; have Kx := Aside0.mk hbox; have KK := Aside0.mk (below_step HB.out hb); clear HB; have HB := KK; clear KK; clear hb hbox hg; clear zr_0 fr_0 zr_1 fr_1; have zr_0 : ww2.cell? ⟨gr, 0, none⟩ = some (.int .i64 0) := (blk_cell Kr.out 0).trans rfl; have zr_1 : ww2.cell? ⟨gr, 1, none⟩ = some (.int .i64 0) := (blk_cell Kr.out 1).trans rfl; have zx_0 : ww2.cell? ⟨gx, 0, none⟩ = some (.int .i64 0) := (blk_cell Kx.out 0).trans rfl; have fx_0 := blk_frozen Kx.out 0; have zx_1 : ww2.cell? ⟨gx, 1, none⟩ = some (.int .i64 0) := (blk_cell Kx.out 1).trans rfl; have fx_1 := blk_frozen Kx.out 1) | ((with_reducible refine gate_store (t := 61) (p := 3) rfl ?_); refine store_event (t := 61) (p := 3) (v := ?vo_ww3_1) (w1 := ((ww2.setCell ⟨gx, 0, none⟩ (.int .i64 x0)).setCell ⟨gx, 1, none⟩ (.int .i64 x1))) ?hg ?ho ?hn ?hr ?_; (case ho => rfl); (case hg => rfl); (case hn => rfl); (case hr => first | (go_simp; done) | (go_simp; rfl)); intro ww3 hw; have ner : gr ≠ gx := Nr_x.out; have hb : Below w.heap.size w ww3 := (by subst hw; exact (below_set (below_set HB.out Gx.out) Gx.out)); have KK := Aside0.mk (show ww3.heap[gx]? = some (.cells #[.int .i64 x0, .int .i64 x1] 61 (0, 0)) by subst hw; exact (blk_all2 Kx.out)); clear Kx; have Kx := KK; clear KK; have KK := Aside0.mk (show ww3.heap[gr]? = some (.cells #[.int .i64 0, .int .i64 0] 61 (0, 0)) by subst hw; exact (blk_far (blk_far Kr.out ner _) ner _)); clear Kr; have Kr := KK; clear KK; have KK := Aside0.mk (HS.below P_x_HH.out (show Below _ _ ww3 from (by subst hw; exact (below_set (below_set P_x.out PG_x.out) PG_x.out)))); clear HH P_x_HH; have HH := KK; clear KK; clear HB; have HB := Aside0.mk hb; clear hb hw ner; clear zr_0 zr_1 zx_0 fx_0 zx_1 fx_1; have zr_0 : ww3.cell? ⟨gr, 0, none⟩ = some (.int .i64 0) := (blk_cell Kr.out 0).trans rfl; have zr_1 : ww3.cell? ⟨gr, 1, none⟩ = some (.int .i64 0) := (blk_cell Kr.out 1).trans rfl; have zx_0 : ww3.cell? ⟨gx, 0, none⟩ = some (.int .i64 x0) := (blk_cell Kx.out 0).trans rfl; have zx_1 : ww3.cell? ⟨gx, 1, none⟩ = some (.int .i64 x1) := (blk_cell Kx.out 1).trans rfl))
  have hne : gr ≠ g ∧ gx ≠ g ∧ gh ≠ gr ∧ gh ≠ gx := by have h1 := HGL.out; have h2 := HGH.out; have h3 := Gr.out; have h4 := Gx.out; omega
  have HNE := Aside0.mk hne
  have HP : Aside0 (PS w B gh gn gr gx g (n + 1) cap (x0, x1) ww3 xs) := ⟨⟨HH.out, (HFr.refl w gh (some g)).below HB.out, Kr.out, Kx.out⟩⟩
  have c1 := HA1.out.1
  have c2 := HA1.out.2
  have hbw := HB.out
  have zh : ww3.cell? ⟨gh, 0, none⟩ = some (.slice (some ⟨g, 0, none⟩) (n + 1) cap) := (blk_cell HP.out.s.h 0).trans rfl
  have zl0 : ww3.cell? ⟨g, n * 2, none⟩ = some (.int .i64 y0) := pw_cell_below hbw c1
  have zl1 : ww3.cell? ⟨g, n * 2 + 1, none⟩ = some (.int .i64 y1) := pw_cell_below hbw c2
  have zg0 : ww3.cell? ⟨g, 0, none⟩ = some (.int .i64 x0) := pw_cell_below hbw HA0.out.1
  have zf0 : ww3.frozen? ⟨g, 0, none⟩ = false := HP.out.s.r.fro HN.out.symm 0
  obtain ⟨zm0, zm1⟩ := HP.out.s.r.mid HN.out.symm (j := 0) (Nat.succ_pos n) (.int .i64 y0)
  have zq : (xs.getD 0 (0, 0)).2 = x1 := by have a0 := (HP.out.s.r.at HN.out.symm (k := 0) (Nat.succ_pos n)).2; have b0 : ww3.cell? ⟨g, 1, none⟩ = some (.int .i64 x1) := pw_cell_below hbw HA0.out.2; have e := a0.symm.trans b0; injection e with e; injection e
  rw [zq] at zm0
  simp only [Nat.zero_mul, Nat.zero_add] at zm0 zm1
  clear hne hbw c1 c2 zq HH HB Kr Kx zr_0 zr_1 zx_0 zx_1
  go_wp2_with fail
  refine wp_region_still_tail 12 (by kernel_rfl) (by kernel_rfl) ?_
  simp only [List.take_succ_cons, List.take_zero, List.drop_succ_cons, List.drop_zero]
  iterate 12 still_step
  refine wpStill_nil ?_
  go_upto_region 4 with fail
  have m1 : gh ≠ g := fun e => HP.out.s.r.ne HP.out.s.h (by decide) (by rw [e]; rfl)
  have q : ((ww3.setCell ⟨g, 0, none⟩ (.int .i64 y0)).setCell ⟨g, 1, none⟩ (.int .i64 y1)).drew.heap[gh]? = some (.cells #[.slice (some ⟨g, 0, none⟩) (n + 1) cap, hLess gn] 67 (0, 0)) := blk_far (blk_far HP.out.s.h m1 _) m1 _
  have zh2 : ((ww3.setCell ⟨g, 0, none⟩ (.int .i64 y0)).setCell ⟨g, 1, none⟩ (.int .i64 y1)).drew.cell? ⟨gh, 0, none⟩ = some (.slice (some ⟨g, 0, none⟩) (n + 1) cap) := (blk_cell q 0).trans rfl
  have zf2 : ((ww3.setCell ⟨g, 0, none⟩ (.int .i64 y0)).setCell ⟨g, 1, none⟩ (.int .i64 y1)).drew.frozen? ⟨gh, 0, none⟩ = false := blk_frozen q 0
  have HP5 : Aside0 (PS w B gh gn gr gx g n cap (x0, x1) (((ww3.setCell ⟨g, 0, none⟩ (.int .i64 y0)).setCell ⟨g, 1, none⟩ (.int .i64 y1)).drew.setCell ⟨gh, 0, none⟩ (.slice (some ⟨g, 0, none⟩) n cap)) ((xs.set 0 (y0, y1)).take n)) := ⟨(HP.out.cut HNE.out.1 HNE.out.2.1 HNE.out.2.2.1 HNE.out.2.2.2 HN.out (y0, y1)).drew⟩
  clear zh zl0 zl1 zg0 zf0 zm0 zm1 m1 q HP
  generalize ((ww3.setCell ⟨g, 0, none⟩ (.int .i64 y0)).setCell ⟨g, 1, none⟩ (.int .i64 y1)).drew = w4 at zh2 zf2 HP5 ⊢
  go_wp2
  clear zh2 zf2 e0 e1 e2
  generalize w4.setCell ⟨gh, 0, none⟩ (.slice (some ⟨g, 0, none⟩) n cap) = w5 at HP5 ⊢
  go_loopg [5] (n + 1) (fun kq v5 w' => ∃ (k : Nat) (ys : List (Int × Int)), v5 = .int .i64 (k : Int) ∧ Aside0 (n + 1 ≤ kq + k ∧ ys.length = n ∧ k ≤ n) ∧ Aside0 (hDown kq n k ys = hDown (n + 1) n 0 ((xs.set 0 (y0, y1)).take n)) ∧ Aside0 (PS w B gh gn gr gx g n cap (x0, x1) w' ys))
  case atStart => exact ⟨0, _, rfl, ⟨by omega, by rw [List.length_take, List.length_set, HN.out]; omega, Nat.zero_le _⟩, ⟨rfl⟩, HP5⟩
  case round =>
    clear HP5
    obtain ⟨k, ys, rfl, HK, HD, HP⟩ := hrel
    obtain ⟨e1, e2, e3⟩ := hKids HL.out (Nat.lt_of_le_of_lt HK.out.2.2 HL.out)
    obtain ⟨c, hcq⟩ : ∃ c, 2 * k + 1 = c := ⟨_, rfl⟩
    obtain ⟨c2, hcq2⟩ : ∃ c2, 2 * k + 2 = c2 := ⟨_, rfl⟩
    rw [hcq] at e2 e3
    rw [hcq2] at e3
    have r1 : IntKind.i64.wrap (2 * (k : Int)) = 2 * (k : Int) := by rw [i64_w]; exact e1
    have r2 : IntKind.i64.wrap (2 * (k : Int) + 1) = (c : Int) := by rw [i64_w]; exact e2
    have r3 : IntKind.i64.wrap ((c : Int) + 1) = (c2 : Int) := by rw [i64_w]; exact e3
    have HCQ := Aside0.mk (And.intro hcq hcq2)
    by_cases hc : c < n
    rotate_left
    · have d0 : decide (c < n) = false := decide_eq_false hc
      have hd2 := hDownA (by rw [HCQ.out.1]; exact hc) HD.out
      clear hcq hcq2 hc
      have zx_0 : wr.cell? ⟨gx, 0, none⟩ = some (.int .i64 x0) := (blk_cell HP.out.x 0).trans rfl
      have zx_1 : wr.cell? ⟨gx, 1, none⟩ = some (.int .i64 x1) := (blk_cell HP.out.x 1).trans rfl
      have zr_0 : wr.cell? ⟨gr, 0, none⟩ = some (.int .i64 0) := (blk_cell HP.out.r 0).trans rfl
      have zr_1 : wr.cell? ⟨gr, 1, none⟩ = some (.int .i64 0) := (blk_cell HP.out.r 1).trans rfl
      have fr_0 := blk_frozen HP.out.r 0
      have fr_1 := blk_frozen HP.out.r 1
      have HE := Aside0.mk (HP.out.fin HNE.out.1 HNE.out.2.2.1 Gr.out)
      go_wp2_with ((with_reducible refine gate_store (t := 61) (p := 2) rfl ?_); refine store_event (t := 61) (p := 2) (v := ?vo_1) (w1 := (wr.setCell ⟨gr, 0, none⟩ (.int .i64 x0)).setCell ⟨gr, 1, none⟩ (.int .i64 x1)) ?hg ?ho ?hn ?hr ?_; (case ho => rfl); (case hg => rfl); (case hn => rfl); (case hr => first | (go_simp; done) | (go_simp; rfl)); intro w9 hw9; have HQ : Aside0 (w9 = (wr.setCell ⟨gr, 0, none⟩ (.int .i64 x0)).setCell ⟨gr, 1, none⟩ (.int .i64 x1)) := ⟨hw9⟩; clear hw9)
      obtain rfl := HQ.out
      refine bodyPost_ret (results_cell_row rfl _ _ gr 61 #[.int .i64 x0, .int .i64 x1] (0, 0) _ rfl HE.out.1 Try.underlying61 rfl (by kernel_rfl)) rfl ?_
      exact ⟨rfl, HE.out.2.1, hd2 ▸ HE.out.2.2⟩
    have d0 : decide (c < n) = true := decide_eq_true hc
    obtain ⟨b1, b2, b3, b4, i5, i6, i7, i8, i9⟩ := hKidR hcq hcq2 hc
    have HB1 := Aside0.mk (And.intro b1 (And.intro b2 (And.intro b3 hc)))
    have HKB : Aside0 (hKid ys n k = if c2 < n ∧ hCst ys c2 < hCst ys c then c2 else c) := ⟨hKidB hcq hcq2⟩
    clear hcq hcq2 hc b1 b2 b3 b4
    go_upto_region 8 with fail
    (try simp only [Act.put, List.setIfInBounds_toArray, List.set_cons_zero, List.set_cons_succ])
    go_cut [73] (fun v73 wc => ∃ b : Bool, v73 = .bool b ∧ Aside0 (b = decide (c2 < n ∧ hCst ys c2 < hCst ys c)) ∧ Aside0 (PS w B gh gn gr gx g n cap (x0, x1) wc ys))
    case first =>
      by_cases h2 : c2 < n
      rotate_left
      · have d1 : decide (c2 < n) = false := decide_eq_false h2
        have hk3 : false = decide (c2 < n ∧ hCst ys c2 < hCst ys c) := (decide_eq_false (fun h => h2 h.1)).symm
        have HK3 := Aside0.mk hk3
        clear h2 hk3
        go_wp2_with fail
        refine wp_region_quiet_lit (by kernel_rfl) (by as_aux_lemma => kernel_rfl) ?_
        repeat (go_big_quiet_step (fail))
        refine wpQuiet_nil ?_
        rintro w6 ⟨nn, rfl⟩
        have H6 := Aside0.mk (HP.out.drewN nn)
        go_wp2
        go_meet
        case rel => exact ⟨false, rfl, HK3, H6⟩
      have d1 : decide (c2 < n) = true := decide_eq_true h2
      have i10 := hLtI h2
      have HC2 := Aside0.mk h2
      clear h2
      obtain ⟨⟨p0, p1⟩, hp⟩ : ∃ p, ys.getD c2 (0, 0) = p := ⟨_, rfl⟩
      obtain ⟨⟨q0, q1⟩, hq⟩ : ∃ p, ys.getD c (0, 0) = p := ⟨_, rfl⟩
      have hrow := HP.out.s.r
      have hln := HK.out.2.1.symm
      have a_p := hrow.at hln (k := c2) HC2.out
      rw [hp] at a_p
      have zp0 : wr.cell? ⟨g, c2 * 2, none⟩ = some (.int .i64 p0) := a_p.1
      have zp1 : wr.cell? ⟨g, c2 * 2 + 1, none⟩ = some (.int .i64 p1) := a_p.2
      have a_q := hrow.at hln (k := c) HB1.out.2.2.2
      rw [hq] at a_q
      have zq0 : wr.cell? ⟨g, c * 2, none⟩ = some (.int .i64 q0) := a_q.1
      have zq1 : wr.cell? ⟨g, c * 2 + 1, none⟩ = some (.int .i64 q1) := a_q.2
      have zh : wr.cell? ⟨gh, 0, none⟩ = some (.slice (some ⟨g, 0, none⟩) n cap) := (blk_cell HP.out.s.h 0).trans rfl
      have zl : wr.cell? ⟨gh, 1, none⟩ = some (hLess gn) := (blk_cell HP.out.s.h 1).trans rfl
      clear hrow hln a_p a_q
      have HPQ : Aside0 (decide (p1 < q1) = decide (c2 < n ∧ hCst ys c2 < hCst ys c)) := ⟨by unfold hCst; rw [hp, hq]; by_cases h : p1 < q1 <;> simp [h, HC2.out]⟩
      clear hp hq
      go_wp2_with fail
      refine wp_region_still_tail 24 (by kernel_rfl) (by kernel_rfl) ?_
      simp only [List.take_succ_cons, List.take_zero, List.drop_succ_cons, List.drop_zero]
      iterate 24 still_step
      refine wpStill_nil ?_
      have HDD : Aside0 (∃ b, decide (p1 < q1) = b) := ⟨⟨_, rfl⟩⟩
      obtain ⟨b, hb3⟩ := HDD.out
      have HK3 := Aside0.mk (hb3.symm.trans HPQ.out)
      go_wp2_with (go_at_call 30; refine (hLess_calls _ _ _ _ gn _ HP.out.drew.s.n).mono ?_; rintro e w6 ⟨rfl, hb⟩; have H6 := Aside0.mk (HP.out.drew.below hb); clear hb)
      go_meet
      case rel => exact ⟨b, rfl, HK3, H6⟩
    case rest =>
      obtain ⟨b, rfl, HK3, HP1⟩ := hcut
      clear HP
      go_upto_if 73 with fail
      go_cut [6] (fun v6 wc => ∃ c3 : Nat, v6 = .int .i64 (c3 : Int) ∧ Aside0 (hKid ys n k = c3 ∧ k < c3 ∧ c3 < n) ∧ Aside0 (PS w B gh gn gr gx g n cap (x0, x1) wc ys))
      case first =>
        have hk3 := HK3.out
        have hkb := HKB.out
        cases b
        · have h := of_decide_eq_false hk3.symm
          rw [if_neg h] at hkb
          have HK4 := Aside0.mk hkb
          clear h hk3 hkb HK3
          go_wp2
          go_meet
          case rel => exact ⟨c, rfl, ⟨HK4.out, HB1.out.2.1, HB1.out.2.2.2⟩, HP1⟩
        · have h := of_decide_eq_true hk3.symm
          rw [if_pos h] at hkb
          have HK4 := Aside0.mk (And.intro hkb h.1)
          clear h hk3 hkb HK3
          go_wp2
          go_meet
          case rel => exact ⟨c2, rfl, ⟨HK4.out.1, HB1.out.2.2.1, HK4.out.2⟩, HP1⟩
      case rest =>
      obtain ⟨c3, rfl, HC3, HP2⟩ := hcut
      clear HP1 HKB HK3
      have i11 := hLtI HC3.out.2.2
      have i12 : (0 : Int) ≤ (c3 : Int) := Int.natCast_nonneg c3
      obtain ⟨⟨p0, p1⟩, hp⟩ : ∃ p, ys.getD c3 (0, 0) = p := ⟨_, rfl⟩
      obtain ⟨⟨q0, q1⟩, hq⟩ : ∃ p, ys.getD k (0, 0) = p := ⟨_, rfl⟩
      have hrow := HP2.out.s.r
      have hln := HK.out.2.1.symm
      have a_p := hrow.at hln (k := c3) HC3.out.2.2
      rw [hp] at a_p
      have zp0 : wc.cell? ⟨g, c3 * 2, none⟩ = some (.int .i64 p0) := a_p.1
      have zp1 : wc.cell? ⟨g, c3 * 2 + 1, none⟩ = some (.int .i64 p1) := a_p.2
      have a_q := hrow.at hln (k := k) HB1.out.1
      rw [hq] at a_q
      have zq0 : wc.cell? ⟨g, k * 2, none⟩ = some (.int .i64 q0) := a_q.1
      have zq1 : wc.cell? ⟨g, k * 2 + 1, none⟩ = some (.int .i64 q1) := a_q.2
      have zh : wc.cell? ⟨gh, 0, none⟩ = some (.slice (some ⟨g, 0, none⟩) n cap) := (blk_cell HP2.out.s.h 0).trans rfl
      have zl : wc.cell? ⟨gh, 1, none⟩ = some (hLess gn) := (blk_cell HP2.out.s.h 1).trans rfl
      clear hrow hln a_p a_q
      have HPQ := Aside0.mk (And.intro hp hq)
      have hcs : hCst ys c3 = p1 := by unfold hCst; rw [hp]
      have hks : hCst ys k = q1 := by unfold hCst; rw [hq]
      have HCS := Aside0.mk (And.intro hcs hks)
      clear hp hq hcs hks
      go_wp2_with fail
      refine wp_region_still_tail 18 (by kernel_rfl) (by kernel_rfl) ?_
      simp only [List.take_succ_cons, List.take_zero, List.drop_succ_cons, List.drop_zero]
      iterate 18 still_step
      refine wpStill_nil ?_
      by_cases hlt : p1 < q1
      rotate_left
      · have d2 : decide (p1 < q1) = false := decide_eq_false hlt
        have hd2 := hDownB (by rw [HCQ.out.1]; exact HB1.out.2.2.2) HK.out.1 HC3.out.1 (by rw [HCS.out.1, HCS.out.2]; exact hlt) HD.out
        clear hlt zp0 zp1 zq0 zq1 zh zl
        go_upto_region 13 with (go_at_call 30; refine (hLess_calls _ _ _ _ gn _ HP2.out.drew.s.n).mono ?_; rintro e w6 ⟨rfl, hb⟩; have H6 := Aside0.mk (HP2.out.drew.below hb); clear hb)
        have zx_0 : w6.cell? ⟨gx, 0, none⟩ = some (.int .i64 x0) := (blk_cell H6.out.x 0).trans rfl
        have zx_1 : w6.cell? ⟨gx, 1, none⟩ = some (.int .i64 x1) := (blk_cell H6.out.x 1).trans rfl
        have zr_0 : w6.cell? ⟨gr, 0, none⟩ = some (.int .i64 0) := (blk_cell H6.out.r 0).trans rfl
        have zr_1 : w6.cell? ⟨gr, 1, none⟩ = some (.int .i64 0) := (blk_cell H6.out.r 1).trans rfl
        have fr_0 := blk_frozen H6.out.r 0
        have fr_1 := blk_frozen H6.out.r 1
        have HE := Aside0.mk (H6.out.fin HNE.out.1 HNE.out.2.2.1 Gr.out)
        go_wp2_with ((with_reducible refine gate_store (t := 61) (p := 2) rfl ?_); refine store_event (t := 61) (p := 2) (v := ?vo_2) (w1 := (w6.setCell ⟨gr, 0, none⟩ (.int .i64 x0)).setCell ⟨gr, 1, none⟩ (.int .i64 x1)) ?hg ?ho ?hn ?hr ?_; (case ho => rfl); (case hg => rfl); (case hn => rfl); (case hr => first | (go_simp; done) | (go_simp; rfl)); intro w9 hw9; have HQ : Aside0 (w9 = (w6.setCell ⟨gr, 0, none⟩ (.int .i64 x0)).setCell ⟨gr, 1, none⟩ (.int .i64 x1)) := ⟨hw9⟩; clear hw9)
        obtain rfl := HQ.out
        refine bodyPost_ret (results_cell_row rfl _ _ gr 61 #[.int .i64 x0, .int .i64 x1] (0, 0) _ rfl HE.out.1 Try.underlying61 rfl (by kernel_rfl)) rfl ?_
        exact ⟨rfl, HE.out.2.1, hd2 ▸ HE.out.2.2⟩
      have d2 : decide (p1 < q1) = true := decide_eq_true hlt
      obtain ⟨d, hd, hds⟩ := hDownC (by rw [HCQ.out.1]; exact HB1.out.2.2.2) HK.out.1 HC3.out.1 (by rw [HCS.out.1, HCS.out.2]; exact hlt) HD.out
      have hsw : hSwp ys k c3 = (ys.set k (p0, p1)).set c3 (q0, q1) := by unfold hSwp; rw [HPQ.out.1, HPQ.out.2]
      rw [hsw] at hds
      have HDS := Aside0.mk (And.intro hd hds)
      clear hlt hd hds hsw zp0 zp1 zq0 zq1 zh zl
      go_wp2_with (go_at_call 30; refine (hLess_calls _ _ _ _ gn _ HP2.out.drew.s.n).mono ?_; rintro e w6 ⟨rfl, hb⟩; have H6 := Aside0.mk (HP2.out.drew.below hb); clear hb)
      have hrow := H6.out.s.r
      have hln := HK.out.2.1.symm
      have a_p := hrow.at hln (k := c3) HC3.out.2.2
      rw [HPQ.out.1] at a_p
      have zp0 : w6.cell? ⟨g, c3 * 2, none⟩ = some (.int .i64 p0) := a_p.1
      have zp1 : w6.cell? ⟨g, c3 * 2 + 1, none⟩ = some (.int .i64 p1) := a_p.2
      have a_q := hrow.at hln (k := k) HB1.out.1
      rw [HPQ.out.2] at a_q
      have zq0 : w6.cell? ⟨g, k * 2, none⟩ = some (.int .i64 q0) := a_q.1
      have zq1 : w6.cell? ⟨g, k * 2 + 1, none⟩ = some (.int .i64 q1) := a_q.2
      have zh : w6.cell? ⟨gh, 0, none⟩ = some (.slice (some ⟨g, 0, none⟩) n cap) := (blk_cell H6.out.s.h 0).trans rfl
      have zl : w6.cell? ⟨gh, 1, none⟩ = some (hLess gn) := (blk_cell H6.out.s.h 1).trans rfl
      clear hrow hln a_p a_q
      have fz := fun t => H6.out.s.r.fro HK.out.2.1.symm t
      have f1 := fz (c3 * 2)
      have f2 := fz (c3 * 2 + 1)
      have f3 := fz (k * 2)
      have f4 := fz (k * 2 + 1)
      obtain ⟨t1, t2, t3, t4, HRW⟩ := H6.out.s.r.swap HK.out.2.1.symm HB1.out.1 HC3.out.2.2 (Nat.ne_of_gt HC3.out.2.1) HPQ.out.2 HPQ.out.1
      have HRW := Aside0.mk HRW
      clear fz d2
      go_region
      have hp7 := H6.out.exch HNE.out.1 HNE.out.2.1 HRW.out
      have HP7 := Aside0.mk hp7
      clear hp7 HRW H6 HP2 t1 t2 t3 t4 f1 f2 f3 f4 zp0 zp1 zq0 zq1 zh zl
      generalize ((((w6.setCell ⟨g, k * 2, none⟩ (.int .i64 p0)).setCell ⟨g, k * 2 + 1, none⟩ (.int .i64 p1)).setCell ⟨g, c3 * 2, none⟩ (.int .i64 q0)).setCell ⟨g, c3 * 2 + 1, none⟩ (.int .i64 q1)).drew = w7 at HP7 ⊢
      go_wp2
      go_roundg d
      case measure => rw [HDS.out.1]; exact Nat.lt_succ_self d
      case rel => exact ⟨c3, _, rfl, ⟨hRelP HK.out.1 HDS.out.1 HC3.out.2.1, by rw [List.length_set, List.length_set]; exact HK.out.2.1, Nat.le_of_lt HC3.out.2.2⟩, ⟨HDS.out.2⟩, HP7⟩

end Go.Proofs.Ytdmmlidgipedaaa.PA
