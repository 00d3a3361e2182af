/-
  No cell of these rows narrows 'for every input' (looked for: loops, veiled, ifaces, maps, wideKeys, modest, calm, conditions, laid).
  DERIVED. THE GIVEN ROWS OF THIS SEAT. 6 by the template 'for every input the law returns true; each argument reads behind the call as it read before'; 0 by the template 'total and deterministic' (their statements: YtnpippechogagaaTotals.lean).
  GIVEN WITH THE SEED: the statements are not yours to turn. If you find one false, say at which input.
  Laid BY PROGRAM, IN A SANDBOX (cutbox-rows.mjs): the forced cells as the released guide's own fill.sh prints them over the translation ff0d25099721a7a2… (all of the seat's roots in one cut). By AI agents, Wed Nov 11 2026. No macro, syntax, notation, axiom, sorry.
-/
import Derived.Test.YtnpippechogagaaChecked
import GoSem.Claim
import GoSem.ClaimJoined
import GoSem.ClaimMapViews
import Derived.JoinedTies
import Derived.KernelRfl
namespace Go.Proofs.Ytnpippechogagaa
/- THE CELL 'sum', in the pinned program and in every row, IS THE sha256 OF THE DUMP (.gsa) THAT YtnpippechogagaaProg.lean LOADS. Nothing in Lean hashes anything: it is a label: what it is worth is what the hold of that sum in a sandbox is worth. -/
noncomputable def Try.pinned : Pinned := { name := "ytnpippechogagaa", sum := "ff0d25099721a7a273afce3402bcb2364f24bd844ffa734c4e49862d0200599b", checked := Try.checked }
namespace Rows
def none {H : Type} : Left H := { results := [], args := [] }

/-- 'bivouaclaw07.GroundNumbers': WHATEVER THE INPUT: true; the input reads as it did. -/
def groundNumbersSpec : ChangeSpec := { name := "groundNumbers", fn := fun _ => fun
  | [] => { results := [.lit (.bool true)], args := [] }
  | _ => none }
def groundNumbersRow : OpenClaim := { program := "ytnpippechogagaa", sum := "ff0d25099721a7a273afce3402bcb2364f24bd844ffa734c4e49862d0200599b", func := "bivouac/bivouaclaw07.GroundNumbers", spec := "groundNumbers", unfollowed := true, recurses := true, apart := false }
def GroundNumbersSaid : Prop := groundNumbersRow.holds Try.pinned (OpenSpec.ofChange groundNumbersSpec)

/-- ITS FALSE NEIGHBOUR: 'it returns false'. Refute it at one input. -/
def groundNumbersWrong : ChangeSpec := { name := "groundNumbers", fn := fun _ => fun
  | [] => { results := [.lit (.bool false)], args := [] }
  | _ => none }
def GroundNumbersWrongFalsely : Prop := groundNumbersRow.holds Try.pinned (OpenSpec.ofChange groundNumbersWrong)

/-- 'bivouaclaw07.GroundCells': WHATEVER THE INPUT: true; the input reads as it did. -/
def groundCellsSpec : ChangeSpec := { name := "groundCells", fn := fun _ => fun
  | [d] => { results := [.lit (.bool true)], args := [d] }
  | _ => none }
def groundCellsRow : OpenClaim := { program := "ytnpippechogagaa", sum := "ff0d25099721a7a273afce3402bcb2364f24bd844ffa734c4e49862d0200599b", func := "bivouac/bivouaclaw07.GroundCells", spec := "groundCells", unfollowed := true, recurses := true, apart := false }
def GroundCellsSaid : Prop := groundCellsRow.holds Try.pinned (OpenSpec.ofChange groundCellsSpec)

/-- ITS FALSE NEIGHBOUR: 'it returns false'. Refute it at one input. -/
def groundCellsWrong : ChangeSpec := { name := "groundCells", fn := fun _ => fun
  | [d] => { results := [.lit (.bool false)], args := [d] }
  | _ => none }
def GroundCellsWrongFalsely : Prop := groundCellsRow.holds Try.pinned (OpenSpec.ofChange groundCellsWrong)

/-- 'bivouaclaw07.GroundGrids': WHATEVER THE INPUT: true; the input reads as it did. -/
def groundGridsSpec : ChangeSpec := { name := "groundGrids", fn := fun _ => fun
  | [d1, d2] => { results := [.lit (.bool true)], args := [d1, d2] }
  | _ => none }
def groundGridsRow : OpenClaim := { program := "ytnpippechogagaa", sum := "ff0d25099721a7a273afce3402bcb2364f24bd844ffa734c4e49862d0200599b", func := "bivouac/bivouaclaw07.GroundGrids", spec := "groundGrids", unfollowed := true, recurses := true, apart := false }
def GroundGridsSaid : Prop := groundGridsRow.holds Try.pinned (OpenSpec.ofChange groundGridsSpec)

/-- ITS FALSE NEIGHBOUR: 'it returns false'. Refute it at one input. -/
def groundGridsWrong : ChangeSpec := { name := "groundGrids", fn := fun _ => fun
  | [d1, d2] => { results := [.lit (.bool false)], args := [d1, d2] }
  | _ => none }
def GroundGridsWrongFalsely : Prop := groundGridsRow.holds Try.pinned (OpenSpec.ofChange groundGridsWrong)

/-- 'bivouaclaw07.GroundRegions': WHATEVER THE INPUT: true; the input reads as it did. -/
def groundRegionsSpec : ChangeSpec := { name := "groundRegions", fn := fun _ => fun
  | [d] => { results := [.lit (.bool true)], args := [d] }
  | _ => none }
def groundRegionsRow : OpenClaim := { program := "ytnpippechogagaa", sum := "ff0d25099721a7a273afce3402bcb2364f24bd844ffa734c4e49862d0200599b", func := "bivouac/bivouaclaw07.GroundRegions", spec := "groundRegions", unfollowed := true, recurses := true, apart := false }
def GroundRegionsSaid : Prop := groundRegionsRow.holds Try.pinned (OpenSpec.ofChange groundRegionsSpec)

/-- ITS FALSE NEIGHBOUR: 'it returns false'. Refute it at one input. -/
def groundRegionsWrong : ChangeSpec := { name := "groundRegions", fn := fun _ => fun
  | [d] => { results := [.lit (.bool false)], args := [d] }
  | _ => none }
def GroundRegionsWrongFalsely : Prop := groundRegionsRow.holds Try.pinned (OpenSpec.ofChange groundRegionsWrong)

/-- 'bivouaclaw07.GroundJoins': WHATEVER THE INPUT: true; the input reads as it did. -/
def groundJoinsSpec : ChangeSpec := { name := "groundJoins", fn := fun _ => fun
  | [d1, d2] => { results := [.lit (.bool true)], args := [d1, d2] }
  | _ => none }
def groundJoinsRow : OpenClaim := { program := "ytnpippechogagaa", sum := "ff0d25099721a7a273afce3402bcb2364f24bd844ffa734c4e49862d0200599b", func := "bivouac/bivouaclaw07.GroundJoins", spec := "groundJoins", unfollowed := true, recurses := true, apart := false }
def GroundJoinsSaid : Prop := groundJoinsRow.holds Try.pinned (OpenSpec.ofChange groundJoinsSpec)

/-- ITS FALSE NEIGHBOUR: 'it returns false'. Refute it at one input. -/
def groundJoinsWrong : ChangeSpec := { name := "groundJoins", fn := fun _ => fun
  | [d1, d2] => { results := [.lit (.bool false)], args := [d1, d2] }
  | _ => none }
def GroundJoinsWrongFalsely : Prop := groundJoinsRow.holds Try.pinned (OpenSpec.ofChange groundJoinsWrong)

/-- 'bivouaclaw07.GroundOrder': WHATEVER THE INPUT: true; the input reads as it did. -/
def groundOrderSpec : ChangeSpec := { name := "groundOrder", fn := fun _ => fun
  | [d] => { results := [.lit (.bool true)], args := [d] }
  | _ => none }
def groundOrderRow : OpenClaim := { program := "ytnpippechogagaa", sum := "ff0d25099721a7a273afce3402bcb2364f24bd844ffa734c4e49862d0200599b", func := "bivouac/bivouaclaw07.GroundOrder", spec := "groundOrder", unfollowed := true, recurses := true, apart := false }
def GroundOrderSaid : Prop := groundOrderRow.holds Try.pinned (OpenSpec.ofChange groundOrderSpec)

/-- ITS FALSE NEIGHBOUR: 'it returns false'. Refute it at one input. -/
def groundOrderWrong : ChangeSpec := { name := "groundOrder", fn := fun _ => fun
  | [d] => { results := [.lit (.bool false)], args := [d] }
  | _ => none }
def GroundOrderWrongFalsely : Prop := groundOrderRow.holds Try.pinned (OpenSpec.ofChange groundOrderWrong)

/- THE SECOND FORM. 'bulk': how many values and letters a reading holds, each counted each time it is reached (what is shared counts as often as it is met; a slice's spare places count too). A statement '..UptoSaid' is the law's where the arguments, and the package variables that the reading takes, are together of bulk at most 1048576: NARROWER than '..Said'. Prove '..Said' where nothing that the law and all that it calls make is longer than what came in: it says more and counts as full. Else prove '..UptoSaid'. A law counts once. -/
mutual
def uptoBulk {H : Type} : DataW H → Nat
  | .lit (.string bytes) => bytes.length + 1
  | .lit _ => 1
  | .nil => 1
  | .ptr d => uptoBulk d + 1
  | .slice elems spare => uptoBulkAll elems + uptoBulkAll spare + 1
  | .agg parts => uptoBulkAll parts + 1
  | .iface _ d => uptoBulk d + 1
  | .map entries => uptoBulkEntries entries + 1
  | .held _ => 1
def uptoBulkAll {H : Type} : List (DataW H) → Nat
  | [] => 0
  | d :: r => uptoBulk d + uptoBulkAll r
def uptoBulkEntries {H : Type} : List (Lit × DataW H) → Nat
  | [] => 0
  | x :: r => uptoBulkEntry x + uptoBulkEntries r
def uptoBulkEntry {H : Type} : Lit × DataW H → Nat
  | (.string bytes, d) => bytes.length + uptoBulk d + 1
  | (_, d) => uptoBulk d + 1
 end
def uptoSmall : (H : Type) → List (DataW H) → Bool := fun _ ds => decide (uptoBulkAll ds ≤ 1048576)
def OpenSpec.upto (s : _root_.Go.ChangeSpec) : _root_.Go.OpenSpec := { _root_.Go.OpenSpec.ofChange s with cond := some uptoSmall }

/-- 'bivouaclaw07.GroundNumbers', WHERE WHAT IT READS IS OF BULK AT MOST 1048576: true; the input reads as it did. -/
def groundNumbersUptoRow : OpenClaim := { program := "ytnpippechogagaa", sum := "ff0d25099721a7a273afce3402bcb2364f24bd844ffa734c4e49862d0200599b", func := "bivouac/bivouaclaw07.GroundNumbers", spec := "groundNumbers", unfollowed := true, recurses := true, apart := false, narrowed := true }
def GroundNumbersUptoSaid : Prop := groundNumbersUptoRow.holds Try.pinned (OpenSpec.upto groundNumbersSpec)

/-- 'bivouaclaw07.GroundCells', WHERE WHAT IT READS IS OF BULK AT MOST 1048576: true; the input reads as it did. -/
def groundCellsUptoRow : OpenClaim := { program := "ytnpippechogagaa", sum := "ff0d25099721a7a273afce3402bcb2364f24bd844ffa734c4e49862d0200599b", func := "bivouac/bivouaclaw07.GroundCells", spec := "groundCells", unfollowed := true, recurses := true, apart := false, narrowed := true }
def GroundCellsUptoSaid : Prop := groundCellsUptoRow.holds Try.pinned (OpenSpec.upto groundCellsSpec)

/-- 'bivouaclaw07.GroundGrids', WHERE WHAT IT READS IS OF BULK AT MOST 1048576: true; the input reads as it did. -/
def groundGridsUptoRow : OpenClaim := { program := "ytnpippechogagaa", sum := "ff0d25099721a7a273afce3402bcb2364f24bd844ffa734c4e49862d0200599b", func := "bivouac/bivouaclaw07.GroundGrids", spec := "groundGrids", unfollowed := true, recurses := true, apart := false, narrowed := true }
def GroundGridsUptoSaid : Prop := groundGridsUptoRow.holds Try.pinned (OpenSpec.upto groundGridsSpec)

/-- 'bivouaclaw07.GroundRegions', WHERE WHAT IT READS IS OF BULK AT MOST 1048576: true; the input reads as it did. -/
def groundRegionsUptoRow : OpenClaim := { program := "ytnpippechogagaa", sum := "ff0d25099721a7a273afce3402bcb2364f24bd844ffa734c4e49862d0200599b", func := "bivouac/bivouaclaw07.GroundRegions", spec := "groundRegions", unfollowed := true, recurses := true, apart := false, narrowed := true }
def GroundRegionsUptoSaid : Prop := groundRegionsUptoRow.holds Try.pinned (OpenSpec.upto groundRegionsSpec)

/-- 'bivouaclaw07.GroundJoins', WHERE WHAT IT READS IS OF BULK AT MOST 1048576: true; the input reads as it did. -/
def groundJoinsUptoRow : OpenClaim := { program := "ytnpippechogagaa", sum := "ff0d25099721a7a273afce3402bcb2364f24bd844ffa734c4e49862d0200599b", func := "bivouac/bivouaclaw07.GroundJoins", spec := "groundJoins", unfollowed := true, recurses := true, apart := false, narrowed := true }
def GroundJoinsUptoSaid : Prop := groundJoinsUptoRow.holds Try.pinned (OpenSpec.upto groundJoinsSpec)

/-- 'bivouaclaw07.GroundOrder', WHERE WHAT IT READS IS OF BULK AT MOST 1048576: true; the input reads as it did. -/
def groundOrderUptoRow : OpenClaim := { program := "ytnpippechogagaa", sum := "ff0d25099721a7a273afce3402bcb2364f24bd844ffa734c4e49862d0200599b", func := "bivouac/bivouaclaw07.GroundOrder", spec := "groundOrder", unfollowed := true, recurses := true, apart := false, narrowed := true }
def GroundOrderUptoSaid : Prop := groundOrderUptoRow.holds Try.pinned (OpenSpec.upto groundOrderSpec)

end Rows
end Go.Proofs.Ytnpippechogagaa
