/-
  No cell of these rows narrows 'for every input' (looked for: loops, veiled, ifaces, maps, wideKeys, modest, calm, conditions, laid).
  DERIVED. THE GIVEN ROWS OF THIS SEAT. 6 by the template 'for every input the law returns true; each argument reads behind the call as it read before'; 0 by the template 'total and deterministic' (their statements: YtjgemjhmkmahmaaTotals.lean).
  GIVEN WITH THE SEED: the statements are not yours to turn. If you find one false, say at which input.
  Laid BY PROGRAM, IN A SANDBOX (cutbox-rows.mjs): the forced cells as the released guide's own fill.sh prints them over the translation 647696d06464b2b6… (all of the seat's roots in one cut). By AI agents, Wed Nov 11 2026. No macro, syntax, notation, axiom, sorry.
-/
import Derived.Test.YtjgemjhmkmahmaaChecked
import GoSem.Claim
import GoSem.ClaimJoined
import GoSem.ClaimMapViews
import Derived.JoinedTies
import Derived.KernelRfl
namespace Go.Proofs.Ytjgemjhmkmahmaa
/- THE CELL 'sum', in the pinned program and in every row, IS THE sha256 OF THE DUMP (.gsa) THAT YtjgemjhmkmahmaaProg.lean LOADS. Nothing in Lean hashes anything: it is a label: what it is worth is what the hold of that sum in a sandbox is worth. -/
noncomputable def Try.pinned : Pinned := { name := "ytjgemjhmkmahmaa", sum := "647696d06464b2b64221de3f80a91e52dc30690284493352ad98984b69194d36", checked := Try.checked }
namespace Rows
def none {H : Type} : Left H := { results := [], args := [] }

/-- 'bivouaclaw06.ReliefChecks': WHATEVER THE INPUT: true; the input reads as it did. -/
def reliefChecksSpec : ChangeSpec := { name := "reliefChecks", fn := fun _ => fun
  | [d1, d2, d3] => { results := [.lit (.bool true)], args := [d1, d2, d3] }
  | _ => none }
def reliefChecksRow : OpenClaim := { program := "ytjgemjhmkmahmaa", sum := "647696d06464b2b64221de3f80a91e52dc30690284493352ad98984b69194d36", func := "bivouac/bivouaclaw06.ReliefChecks", spec := "reliefChecks", apart := false }
def ReliefChecksSaid : Prop := reliefChecksRow.holds Try.pinned (OpenSpec.ofChange reliefChecksSpec)

/-- ITS FALSE NEIGHBOUR: 'it returns false'. Refute it at one input. -/
def reliefChecksWrong : ChangeSpec := { name := "reliefChecks", fn := fun _ => fun
  | [d1, d2, d3] => { results := [.lit (.bool false)], args := [d1, d2, d3] }
  | _ => none }
def ReliefChecksWrongFalsely : Prop := reliefChecksRow.holds Try.pinned (OpenSpec.ofChange reliefChecksWrong)

/-- 'bivouaclaw06.ReliefHeights': WHATEVER THE INPUT: true; the input reads as it did. -/
def reliefHeightsSpec : ChangeSpec := { name := "reliefHeights", fn := fun _ => fun
  | [d1, d2, d3] => { results := [.lit (.bool true)], args := [d1, d2, d3] }
  | _ => none }
def reliefHeightsRow : OpenClaim := { program := "ytjgemjhmkmahmaa", sum := "647696d06464b2b64221de3f80a91e52dc30690284493352ad98984b69194d36", func := "bivouac/bivouaclaw06.ReliefHeights", spec := "reliefHeights", apart := false }
def ReliefHeightsSaid : Prop := reliefHeightsRow.holds Try.pinned (OpenSpec.ofChange reliefHeightsSpec)

/-- ITS FALSE NEIGHBOUR: 'it returns false'. Refute it at one input. -/
def reliefHeightsWrong : ChangeSpec := { name := "reliefHeights", fn := fun _ => fun
  | [d1, d2, d3] => { results := [.lit (.bool false)], args := [d1, d2, d3] }
  | _ => none }
def ReliefHeightsWrongFalsely : Prop := reliefHeightsRow.holds Try.pinned (OpenSpec.ofChange reliefHeightsWrong)

/-- 'bivouaclaw06.ReliefCells': WHATEVER THE INPUT: true; the input reads as it did. -/
def reliefCellsSpec : ChangeSpec := { name := "reliefCells", fn := fun _ => fun
  | [d1, d2, d3] => { results := [.lit (.bool true)], args := [d1, d2, d3] }
  | _ => none }
def reliefCellsRow : OpenClaim := { program := "ytjgemjhmkmahmaa", sum := "647696d06464b2b64221de3f80a91e52dc30690284493352ad98984b69194d36", func := "bivouac/bivouaclaw06.ReliefCells", spec := "reliefCells", apart := false }
def ReliefCellsSaid : Prop := reliefCellsRow.holds Try.pinned (OpenSpec.ofChange reliefCellsSpec)

/-- ITS FALSE NEIGHBOUR: 'it returns false'. Refute it at one input. -/
def reliefCellsWrong : ChangeSpec := { name := "reliefCells", fn := fun _ => fun
  | [d1, d2, d3] => { results := [.lit (.bool false)], args := [d1, d2, d3] }
  | _ => none }
def ReliefCellsWrongFalsely : Prop := reliefCellsRow.holds Try.pinned (OpenSpec.ofChange reliefCellsWrong)

/-- 'bivouaclaw06.ReliefBetween': WHATEVER THE INPUT: true; the input reads as it did. -/
def reliefBetweenSpec : ChangeSpec := { name := "reliefBetween", fn := fun _ => fun
  | [d1, d2, d3] => { results := [.lit (.bool true)], args := [d1, d2, d3] }
  | _ => none }
def reliefBetweenRow : OpenClaim := { program := "ytjgemjhmkmahmaa", sum := "647696d06464b2b64221de3f80a91e52dc30690284493352ad98984b69194d36", func := "bivouac/bivouaclaw06.ReliefBetween", spec := "reliefBetween", apart := false }
def ReliefBetweenSaid : Prop := reliefBetweenRow.holds Try.pinned (OpenSpec.ofChange reliefBetweenSpec)

/-- ITS FALSE NEIGHBOUR: 'it returns false'. Refute it at one input. -/
def reliefBetweenWrong : ChangeSpec := { name := "reliefBetween", fn := fun _ => fun
  | [d1, d2, d3] => { results := [.lit (.bool false)], args := [d1, d2, d3] }
  | _ => none }
def ReliefBetweenWrongFalsely : Prop := reliefBetweenRow.holds Try.pinned (OpenSpec.ofChange reliefBetweenWrong)

/-- 'bivouaclaw06.ReliefBytes': WHATEVER THE INPUT: true; the input reads as it did. -/
def reliefBytesSpec : ChangeSpec := { name := "reliefBytes", fn := fun _ => fun
  | [d1, d2] => { results := [.lit (.bool true)], args := [d1, d2] }
  | _ => none }
def reliefBytesRow : OpenClaim := { program := "ytjgemjhmkmahmaa", sum := "647696d06464b2b64221de3f80a91e52dc30690284493352ad98984b69194d36", func := "bivouac/bivouaclaw06.ReliefBytes", spec := "reliefBytes", apart := false }
def ReliefBytesSaid : Prop := reliefBytesRow.holds Try.pinned (OpenSpec.ofChange reliefBytesSpec)

/-- ITS FALSE NEIGHBOUR: 'it returns false'. Refute it at one input. -/
def reliefBytesWrong : ChangeSpec := { name := "reliefBytes", fn := fun _ => fun
  | [d1, d2] => { results := [.lit (.bool false)], args := [d1, d2] }
  | _ => none }
def ReliefBytesWrongFalsely : Prop := reliefBytesRow.holds Try.pinned (OpenSpec.ofChange reliefBytesWrong)

/-- 'bivouaclaw06.ReliefBack': WHATEVER THE INPUT: true; the input reads as it did. -/
def reliefBackSpec : ChangeSpec := { name := "reliefBack", fn := fun _ => fun
  | [d1, d2] => { results := [.lit (.bool true)], args := [d1, d2] }
  | _ => none }
def reliefBackRow : OpenClaim := { program := "ytjgemjhmkmahmaa", sum := "647696d06464b2b64221de3f80a91e52dc30690284493352ad98984b69194d36", func := "bivouac/bivouaclaw06.ReliefBack", spec := "reliefBack", apart := false }
def ReliefBackSaid : Prop := reliefBackRow.holds Try.pinned (OpenSpec.ofChange reliefBackSpec)

/-- ITS FALSE NEIGHBOUR: 'it returns false'. Refute it at one input. -/
def reliefBackWrong : ChangeSpec := { name := "reliefBack", fn := fun _ => fun
  | [d1, d2] => { results := [.lit (.bool false)], args := [d1, d2] }
  | _ => none }
def ReliefBackWrongFalsely : Prop := reliefBackRow.holds Try.pinned (OpenSpec.ofChange reliefBackWrong)

/- THE SECOND FORM. 'bulk': how many values and letters a reading holds, each counted each time it is reached (what is shared counts as often as it is met; a slice's spare places count too). A statement '..UptoSaid' is the law's where the arguments, and the package variables that the reading takes, are together of bulk at most 1048576: NARROWER than '..Said'. Prove '..Said' where nothing that the law and all that it calls make is longer than what came in: it says more and counts as full. Else prove '..UptoSaid'. A law counts once. -/
mutual
def uptoBulk {H : Type} : DataW H → Nat
  | .lit (.string bytes) => bytes.length + 1
  | .lit _ => 1
  | .nil => 1
  | .ptr d => uptoBulk d + 1
  | .slice elems spare => uptoBulkAll elems + uptoBulkAll spare + 1
  | .agg parts => uptoBulkAll parts + 1
  | .iface _ d => uptoBulk d + 1
  | .map entries => uptoBulkEntries entries + 1
  | .held _ => 1
def uptoBulkAll {H : Type} : List (DataW H) → Nat
  | [] => 0
  | d :: r => uptoBulk d + uptoBulkAll r
def uptoBulkEntries {H : Type} : List (Lit × DataW H) → Nat
  | [] => 0
  | x :: r => uptoBulkEntry x + uptoBulkEntries r
def uptoBulkEntry {H : Type} : Lit × DataW H → Nat
  | (.string bytes, d) => bytes.length + uptoBulk d + 1
  | (_, d) => uptoBulk d + 1
 end
def uptoSmall : (H : Type) → List (DataW H) → Bool := fun _ ds => decide (uptoBulkAll ds ≤ 1048576)
def OpenSpec.upto (s : _root_.Go.ChangeSpec) : _root_.Go.OpenSpec := { _root_.Go.OpenSpec.ofChange s with cond := some uptoSmall }

/-- 'bivouaclaw06.ReliefChecks', WHERE WHAT IT READS IS OF BULK AT MOST 1048576: true; the input reads as it did. -/
def reliefChecksUptoRow : OpenClaim := { program := "ytjgemjhmkmahmaa", sum := "647696d06464b2b64221de3f80a91e52dc30690284493352ad98984b69194d36", func := "bivouac/bivouaclaw06.ReliefChecks", spec := "reliefChecks", apart := false, narrowed := true }
def ReliefChecksUptoSaid : Prop := reliefChecksUptoRow.holds Try.pinned (OpenSpec.upto reliefChecksSpec)

/-- 'bivouaclaw06.ReliefHeights', WHERE WHAT IT READS IS OF BULK AT MOST 1048576: true; the input reads as it did. -/
def reliefHeightsUptoRow : OpenClaim := { program := "ytjgemjhmkmahmaa", sum := "647696d06464b2b64221de3f80a91e52dc30690284493352ad98984b69194d36", func := "bivouac/bivouaclaw06.ReliefHeights", spec := "reliefHeights", apart := false, narrowed := true }
def ReliefHeightsUptoSaid : Prop := reliefHeightsUptoRow.holds Try.pinned (OpenSpec.upto reliefHeightsSpec)

/-- 'bivouaclaw06.ReliefCells', WHERE WHAT IT READS IS OF BULK AT MOST 1048576: true; the input reads as it did. -/
def reliefCellsUptoRow : OpenClaim := { program := "ytjgemjhmkmahmaa", sum := "647696d06464b2b64221de3f80a91e52dc30690284493352ad98984b69194d36", func := "bivouac/bivouaclaw06.ReliefCells", spec := "reliefCells", apart := false, narrowed := true }
def ReliefCellsUptoSaid : Prop := reliefCellsUptoRow.holds Try.pinned (OpenSpec.upto reliefCellsSpec)

/-- 'bivouaclaw06.ReliefBetween', WHERE WHAT IT READS IS OF BULK AT MOST 1048576: true; the input reads as it did. -/
def reliefBetweenUptoRow : OpenClaim := { program := "ytjgemjhmkmahmaa", sum := "647696d06464b2b64221de3f80a91e52dc30690284493352ad98984b69194d36", func := "bivouac/bivouaclaw06.ReliefBetween", spec := "reliefBetween", apart := false, narrowed := true }
def ReliefBetweenUptoSaid : Prop := reliefBetweenUptoRow.holds Try.pinned (OpenSpec.upto reliefBetweenSpec)

/-- 'bivouaclaw06.ReliefBytes', WHERE WHAT IT READS IS OF BULK AT MOST 1048576: true; the input reads as it did. -/
def reliefBytesUptoRow : OpenClaim := { program := "ytjgemjhmkmahmaa", sum := "647696d06464b2b64221de3f80a91e52dc30690284493352ad98984b69194d36", func := "bivouac/bivouaclaw06.ReliefBytes", spec := "reliefBytes", apart := false, narrowed := true }
def ReliefBytesUptoSaid : Prop := reliefBytesUptoRow.holds Try.pinned (OpenSpec.upto reliefBytesSpec)

/-- 'bivouaclaw06.ReliefBack', WHERE WHAT IT READS IS OF BULK AT MOST 1048576: true; the input reads as it did. -/
def reliefBackUptoRow : OpenClaim := { program := "ytjgemjhmkmahmaa", sum := "647696d06464b2b64221de3f80a91e52dc30690284493352ad98984b69194d36", func := "bivouac/bivouaclaw06.ReliefBack", spec := "reliefBack", apart := false, narrowed := true }
def ReliefBackUptoSaid : Prop := reliefBackUptoRow.holds Try.pinned (OpenSpec.upto reliefBackSpec)

end Rows
end Go.Proofs.Ytjgemjhmkmahmaa
