/- How data that can be read (GoSem's 'trod') lie in memory, as kinds of the printed words: whole numbers, bools, slices, structs; for any program, without conditions beyond what each lemma says. -/
import Derived.Test.YtdmmlidgipedaaaDoorWWords
import Derived.ProofKit
import Derived.Deep.Slices
import Derived.ChangeArms
set_option linter.unusedVariables false
set_option linter.unusedSimpArgs false
namespace Go.Proofs.YtdmmlidgipedaaaDoor.Rd
open Go.RowKit Go.Proofs.YtdmmlidgipedaaaDoorW.PrintWords

/-- Whatever reads as data of type t is of the kind d, and its value is G. -/
def Reads {α : Type} (P : Program) (t : TypeId) (d : Kd α) (G : α → Prop) : Prop :=
  ∀ (H : Type) (enc : TypeId × Value → H) (w : World) (base : Nat) (spare : Nat → Bool) (held : Bool) (fuel : Nat) (cs : List Value) (x : DataW H × List MemPlace),
    DataW.trod enc P w base spare held fuel t cs = some x → ∃ v, d.K w v cs ∧ G v

theorem Reads.int {P : Program} {t : TypeId} {k : IntKind} (hu : P.underlying t = some (.int k)) : Reads P t (Kd.int k) (fun n => (Lit.int k n).wf = true) := by
  intro H enc w base spare held fuel cs x h
  obtain ⟨n, rfl, _, hw⟩ := DataW.trod_int hu h
  exact ⟨n, rfl, hw⟩

theorem Reads.bool {P : Program} {t : TypeId} (hu : P.underlying t = some .bool) : Reads P t Kd.bool (fun _ => True) := by
  intro H enc w base spare held fuel cs x h
  obtain ⟨n, rfl, _⟩ := DataW.trod_bool hu h
  exact ⟨n, rfl, trivial⟩

theorem cells_len {w : World} {base : Nat} {a : Addr} {n : Nat} {cs : List Value} (h : w.cells? base a n = some cs) : cs.length = n ∧ ∀ i u, cs[i]? = some u → w.cell? (a.add i) = some u := by
  obtain ⟨_, hl, hc⟩ := World.cells?_some h
  refine ⟨hl, fun i u hu => ?_⟩
  have hi : i < cs.length := (List.getElem?_eq_some_iff.1 hu).1
  have := hc i (by omega)
  rw [this, hu]

theorem add_add (a : Addr) (m i : Nat) : (a.add m).add i = a.add (m + i) := by
  unfold Addr.add
  by_cases hm : m = 0
  · subst hm; simp
  · by_cases hi : i = 0
    · subst hi; simp [hm]
    · simp [hm, hi, Nat.add_assoc]

theorem Reads.slice {α : Type} {P : Program} {t e : TypeId} {d : Kd α} {G : α → Prop} (hu : P.underlying t = some (.slice e)) (hc : P.cellsOf e = d.sz) (he : Reads P e d G) :
    Reads P t (Kd.slice e d) (fun l => l.length ≤ maxLen ∧ ∀ x ∈ l, G x) := by
  intro H enc w base spare held fuel cs x h
  rcases Deep.open_slice hu h with ⟨rfl, _⟩ | ⟨a, len, cap, m, n, D, Pl, rfl, hb, hl, hm, hmm, hx, hcell⟩
  · exact ⟨[], ⟨none, 0, rfl, Nat.le_refl _, rfl, Nat.zero_le _, fun h => absurd h (Nat.lt_irrefl _)⟩, Nat.zero_le _, fun x h => by simp at h⟩
  · have hlm : len ≤ m := by rw [hmm]; split <;> omega
    have hex : ∀ i : Fin len, ∃ v : α, G v ∧ ∃ cs', d.K w v cs' ∧ w.cells? base (a.add (i.1 * P.cellsOf e)) (P.cellsOf e) = some cs' := by
      intro i
      obtain ⟨cs', h1, h2⟩ := hcell i.1 (by omega)
      obtain ⟨v, hK, hG⟩ := he _ _ _ _ _ _ _ _ _ h2
      exact ⟨v, hG, cs', hK, h1⟩
    let f : Fin len → α := fun i => Classical.choose (hex i)
    have hf : ∀ i, G (f i) ∧ ∃ cs', d.K w (f i) cs' ∧ w.cells? base (a.add (i.1 * P.cellsOf e)) (P.cellsOf e) = some cs' := fun i => Classical.choose_spec (hex i)
    refine ⟨List.ofFn f, ⟨some a, cap, by rw [List.length_ofFn], by rw [List.length_ofFn]; exact hl, by rw [List.length_ofFn], ?_, ?_⟩, by rw [List.length_ofFn]; omega, ?_⟩
    · rw [List.length_ofFn]; unfold maxLen at hm; omega
    · intro _
      refine ⟨a, rfl, fun j p hj => ?_⟩
      have hjl : j < len := by have := (List.getElem?_eq_some_iff.1 hj).1; rwa [List.length_ofFn] at this
      have hp : p = f ⟨j, hjl⟩ := by
        rw [List.getElem?_eq_getElem (by rw [List.length_ofFn]; exact hjl), List.getElem_ofFn] at hj
        exact (Option.some.inj hj).symm
      subst hp
      obtain ⟨_, cs', hK, h1⟩ := hf ⟨j, hjl⟩
      obtain ⟨h2, h3⟩ := cells_len h1
      refine ⟨cs', by rw [h2, hc], hK, fun i u hu => ?_⟩
      have := h3 i u hu
      rw [hc] at this
      rw [← this, add_add]
    · intro x hx
      obtain ⟨i, rfl⟩ := List.mem_ofFn.1 hx
      exact (hf i).1

/-- The fields of a struct from one cell on. -/
def ReadsF {α : Type} (P : Program) (fs : List Field) (off total : Nat) (d : Kd α) (G : α → Prop) : Prop :=
  ∀ (H : Type) (enc : TypeId × Value → H) (w : World) (base : Nat) (spare : Nat → Bool) (held : Bool) (fuel : Nat) (cs : List Value), cs.length = total →
    (∀ (i : Nat) (f : Field), fs[i]? = some f → ∃ x, DataW.trod enc P w base spare held fuel f.type ((cs.drop f.offset).take (P.cellsOf f.type)) = some x) → ∃ v, d.K w v (cs.drop off) ∧ G v

theorem ReadsF.one {α : Type} {P : Program} {f : Field} {off total : Nat} {d : Kd α} {G : α → Prop} (h : Reads P f.type d G) (ho : f.offset = off) (ht : off + P.cellsOf f.type = total) : ReadsF P [f] off total d G := by
  intro H enc w base spare held fuel cs hl hx
  obtain ⟨x, hx⟩ := hx 0 f rfl
  obtain ⟨v, hK, hG⟩ := h _ _ _ _ _ _ _ _ _ hx
  refine ⟨v, ?_, hG⟩
  rw [ho, List.take_of_length_le (by rw [List.length_drop]; omega)] at hK
  exact hK

theorem ReadsF.cons {α β : Type} {P : Program} {f : Field} {fs : List Field} {off total s : Nat} {d : Kd α} {G : α → Prop} {d' : Kd β} {G' : β → Prop} (h : Reads P f.type d G) (ho : f.offset = off) (hs : P.cellsOf f.type = s)
    (h' : ReadsF P fs (off + s) total d' G') : ReadsF P (f :: fs) off total (Kd.pair d d') (fun v => G v.1 ∧ G' v.2) := by
  intro H enc w base spare held fuel cs hl hx
  obtain ⟨x, hx0⟩ := hx 0 f rfl
  obtain ⟨v, hK, hG⟩ := h _ _ _ _ _ _ _ _ _ hx0
  obtain ⟨v', hK', hG'⟩ := h' _ enc w base spare held fuel cs hl (fun i g hg => hx (i + 1) g (by simpa using hg))
  refine ⟨(v, v'), ⟨(cs.drop off).take s, cs.drop (off + s), ?_, ?_, hK'⟩, hG, hG'⟩
  · rw [← List.drop_drop]
    exact (List.take_append_drop s (cs.drop off)).symm
  · rw [ho, hs] at hK
    exact hK

theorem Reads.struct {α : Type} {P : Program} {t : TypeId} {fs : List Field} {total : Nat} {d : Kd α} {G : α → Prop} (hu : P.underlying t = some (.struct fs.toArray)) (hc : P.cellsOf t = total) (h : ReadsF P fs 0 total d G) : Reads P t d G := by
  intro H enc w base spare held fuel cs x hx
  obtain ⟨xs, n, _, _, hl, hxl, hF⟩ := DataW.trod_struct hu hx
  obtain ⟨v, hK, hG⟩ := h _ enc w base spare held n cs (by rw [hl, hc]) (fun i f hf => by
    have h1 := hF i f (by simpa using hf)
    have hi : i < xs.length := by
      have := (List.getElem?_eq_some_iff.1 hf).1
      rw [hxl]; simpa using this
    rw [List.getElem?_eq_getElem hi] at h1
    exact ⟨_, h1⟩)
  exact ⟨v, by simpa using hK, hG⟩

theorem Reads.iso {α β : Type} {P : Program} {t : TypeId} {d : Kd α} {G : α → Prop} (h : Reads P t d G) (f : β → α) (g : α → β) (hfg : ∀ a, f (g a) = a) : Reads P t (Kd.iso d f) (fun b => G (f b)) := by
  intro H enc w base spare held fuel cs x hx
  obtain ⟨v, hK, hG⟩ := h _ _ _ _ _ _ _ _ _ hx
  exact ⟨g v, by show d.K w (f (g v)) cs; rw [hfg]; exact hK, by show G (f (g v)); rw [hfg]; exact hG⟩

theorem Reads.weaken {α : Type} {P : Program} {t : TypeId} {d : Kd α} {G G' : α → Prop} (h : Reads P t d G) (hg : ∀ v, G v → G' v) : Reads P t d G' := by
  intro H enc w base spare held fuel cs x hx
  obtain ⟨v, hK, hG⟩ := h _ _ _ _ _ _ _ _ _ hx
  exact ⟨v, hK, hg v hG⟩

/-- An argument that is a struct: its cells are of the kind. -/
theorem open_agg {α : Type} {H : Type} {enc : TypeId × Value → H} {P : Program} {W : World} {base : Nat} {spare : Nat → Bool} {held : Bool} {t : TypeId} {d : Kd α} {G : α → Prop} {fs : Array Field} {v : Value} {y : DataW H} {ps : List MemPlace} {r : Reach} {b : Nat}
    (hu : P.underlying t = some (.struct fs)) (hr : Reads P t d G) (hv : Value.okWide P W r b t v) (h : DataW.Trod enc P W base spare held t v y ps) : ∃ cs x, v = .agg cs ∧ d.K W x cs.toList ∧ G x := by
  unfold Value.okWide at hv
  rw [hu] at hv
  obtain ⟨cs, rfl, _, _⟩ := hv
  obtain ⟨fuel, hf⟩ := h
  obtain ⟨x, hK, hG⟩ := hr _ _ _ _ _ _ _ _ _ hf
  exact ⟨cs, x, rfl, hK, hG⟩

/-- An argument that is a slice: its elements are of the kind. -/
theorem open_sl {α : Type} {H : Type} {enc : TypeId × Value → H} {P : Program} {W : World} {base : Nat} {spare : Nat → Bool} {held : Bool} {t e : TypeId} {d : Kd α} {G : List α → Prop} {v : Value} {y : DataW H} {ps : List MemPlace} {r : Reach} {b : Nat}
    (hu : P.underlying t = some (.slice e)) (hr : Reads P t (Kd.slice e d) G) (hv : Value.okWide P W r b t v) (h : DataW.Trod enc P W base spare held t v y ps) : ∃ A c l, v = .slice A l.length c ∧ l.length ≤ c ∧ d.C W A l.length l ∧ G l := by
  obtain ⟨a, len, cap, rfl⟩ := WideShapes.okWide_slice hu hv
  obtain ⟨fuel, hf⟩ := h
  obtain ⟨l, ⟨A, c, hcs, hlc, hC⟩, hG⟩ := hr _ _ _ _ _ _ _ _ _ hf
  simp [Value.cells] at hcs
  obtain ⟨rfl, rfl, rfl⟩ := hcs
  exact ⟨a, cap, l, rfl, hlc, hC, hG⟩

/-- A block whose cells are whole numbers, as a row. -/
theorem C_cells {W : World} {b : Nat} {T : TypeId} {fr : Nat × Nat} {k : IntKind} {xs : List Int} (hn : xs.length ≤ 9223372036854775807) (h : W.heap[b]? = some (.cells (xs.map (Value.int k)).toArray T fr)) :
    Kd.C (Kd.int k) W (some ⟨b, 0, none⟩) xs.length xs := by
  refine ⟨rfl, hn, fun _ => ⟨⟨b, 0, none⟩, rfl, fun j p hj => ⟨[.int k p], rfl, rfl, fun i u hu => ?_⟩⟩⟩
  cases i with
  | succ i => simp at hu
  | zero =>
    simp at hu
    subst hu
    show W.cell? (Addr.add ⟨b, 0, none⟩ (j * 1 + 0)) = _
    have e : Addr.add ⟨b, 0, none⟩ (j * 1 + 0) = (⟨b, j, none⟩ : Addr) := by
      unfold Addr.add
      by_cases hj0 : j = 0
      · subst hj0; simp
      · simp [hj0]
    rw [e]
    simp [World.cell?, h, hj]
theorem C_new {w W : World} {T : TypeId} {k : IntKind} {xs : List Int} (hn : xs.length ≤ 9223372036854775807) (h : Below (w.heap.size + 1) (w.alloc (.cells (xs.map (Value.int k)).toArray T)) W) :
    Kd.C (Kd.int k) W (some ⟨w.heap.size, 0, none⟩) xs.length xs := by
  refine C_cells (T := T) (fr := (0, 0)) hn ?_
  rw [h.block w.heap.size (by omega)]
  exact (MapKept.heap_alloc w _).1

/-- What lies below is as it was: as two rules for a walk. -/
theorem bcell {W w1 : World} (hb : Below W.heap.size W w1) : (∀ b o, b < W.heap.size → w1.cell? ⟨b, o, none⟩ = W.cell? ⟨b, o, none⟩) ∧ (∀ b o, b < W.heap.size → w1.frozen? ⟨b, o, none⟩ = W.frozen? ⟨b, o, none⟩) :=
  ⟨fun b o h => hb.cell (p := ⟨b, o, none⟩) h, fun b o h => hb.frozen (p := ⟨b, o, none⟩) h⟩

theorem cell_new {w W : World} {C : Array Value} {T : TypeId} {v : Value} (hb : Below (w.heap.size + 1) (w.alloc (.cells C T)) W) (j : Nat) (hv : C[j]? = some v) : W.cell? ⟨w.heap.size, j, none⟩ = some v := by
  have h := (MapKept.heap_alloc w (.cells C T)).1
  have h2 : W.heap[w.heap.size]? = some (.cells C T) := by rw [hb.block w.heap.size (by omega)]; exact h
  simp [World.cell?, h2, hv]
theorem below_new {w W : World} {o : Obj} (h : Below (w.alloc o).heap.size (w.alloc o) W) : Below (w.heap.size + 1) (w.alloc o) W := by
  have e : (w.alloc o).heap.size = w.heap.size + 1 := by simp
  rw [e] at h
  exact h
theorem chain {B : Nat} {a w w' : World} (h : Below B a w) (hB : B ≤ w.heap.size) (o : Obj) (k : Below (w.alloc o).heap.size (w.alloc o) w') : Below B a w' :=
  below_then (h.alloc hB o) (by simp; omega) k

end Go.Proofs.YtdmmlidgipedaaaDoor.Rd
