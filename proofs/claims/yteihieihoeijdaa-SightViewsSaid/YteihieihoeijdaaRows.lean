/-
  No cell of these rows narrows 'for every input' (looked for: loops, veiled, ifaces, maps, wideKeys, modest, calm, conditions, laid).
  DERIVED. THE GIVEN ROWS OF THIS SEAT. 5 by the template 'for every input the law returns true; each argument reads behind the call as it read before'; 0 by the template 'total and deterministic' (their statements: YteihieihoeijdaaTotals.lean).
  GIVEN WITH THE SEED: the statements are not yours to turn. If you find one false, say at which input.
  Laid BY PROGRAM, IN A SANDBOX (cutbox-rows.mjs): the forced cells as the released guide's own fill.sh prints them over the translation 77d6632a99ec1709… (all of the seat's roots in one cut). By AI agents, Wed Nov 11 2026. No macro, syntax, notation, axiom, sorry.
-/
import Derived.Test.YteihieihoeijdaaChecked
import GoSem.Claim
import GoSem.ClaimJoined
import GoSem.ClaimMapViews
import Derived.JoinedTies
import Derived.KernelRfl
namespace Go.Proofs.Yteihieihoeijdaa
/- THE CELL 'sum', in the pinned program and in every row, IS THE sha256 OF THE DUMP (.gsa) THAT YteihieihoeijdaaProg.lean LOADS. Nothing in Lean hashes anything: it is a label: what it is worth is what the hold of that sum in a sandbox is worth. -/
noncomputable def Try.pinned : Pinned := { name := "yteihieihoeijdaa", sum := "77d6632a99ec1709a08c2904a0fbce16840830b761d8bdad3f780f4a37c9ca09", checked := Try.checked }
namespace Rows
def none {H : Type} : Left H := { results := [], args := [] }

/-- 'bivouaclaw21.SightViews': WHATEVER THE INPUT: true; the input reads as it did. -/
def sightViewsSpec : ChangeSpec := { name := "sightViews", fn := fun _ => fun
  | [d] => { results := [.lit (.bool true)], args := [d] }
  | _ => none }
def sightViewsRow : OpenClaim := { program := "yteihieihoeijdaa", sum := "77d6632a99ec1709a08c2904a0fbce16840830b761d8bdad3f780f4a37c9ca09", func := "bivouac/bivouaclaw21.SightViews", spec := "sightViews", unfollowed := true, recurses := true, apart := false }
def SightViewsSaid : Prop := sightViewsRow.holds Try.pinned (OpenSpec.ofChange sightViewsSpec)

/-- ITS FALSE NEIGHBOUR: 'it returns false'. Refute it at one input. -/
def sightViewsWrong : ChangeSpec := { name := "sightViews", fn := fun _ => fun
  | [d] => { results := [.lit (.bool false)], args := [d] }
  | _ => none }
def SightViewsWrongFalsely : Prop := sightViewsRow.holds Try.pinned (OpenSpec.ofChange sightViewsWrong)

/-- 'bivouaclaw21.SightMore': WHATEVER THE INPUT: true; the input reads as it did. -/
def sightMoreSpec : ChangeSpec := { name := "sightMore", fn := fun _ => fun
  | [d] => { results := [.lit (.bool true)], args := [d] }
  | _ => none }
def sightMoreRow : OpenClaim := { program := "yteihieihoeijdaa", sum := "77d6632a99ec1709a08c2904a0fbce16840830b761d8bdad3f780f4a37c9ca09", func := "bivouac/bivouaclaw21.SightMore", spec := "sightMore", unfollowed := true, recurses := true, apart := false }
def SightMoreSaid : Prop := sightMoreRow.holds Try.pinned (OpenSpec.ofChange sightMoreSpec)

/-- ITS FALSE NEIGHBOUR: 'it returns false'. Refute it at one input. -/
def sightMoreWrong : ChangeSpec := { name := "sightMore", fn := fun _ => fun
  | [d] => { results := [.lit (.bool false)], args := [d] }
  | _ => none }
def SightMoreWrongFalsely : Prop := sightMoreRow.holds Try.pinned (OpenSpec.ofChange sightMoreWrong)

/-- 'bivouaclaw21.SightOwn': WHATEVER THE INPUT: true; the input reads as it did. -/
def sightOwnSpec : ChangeSpec := { name := "sightOwn", fn := fun _ => fun
  | [d] => { results := [.lit (.bool true)], args := [d] }
  | _ => none }
def sightOwnRow : OpenClaim := { program := "yteihieihoeijdaa", sum := "77d6632a99ec1709a08c2904a0fbce16840830b761d8bdad3f780f4a37c9ca09", func := "bivouac/bivouaclaw21.SightOwn", spec := "sightOwn", unfollowed := true, recurses := true, apart := false }
def SightOwnSaid : Prop := sightOwnRow.holds Try.pinned (OpenSpec.ofChange sightOwnSpec)

/-- ITS FALSE NEIGHBOUR: 'it returns false'. Refute it at one input. -/
def sightOwnWrong : ChangeSpec := { name := "sightOwn", fn := fun _ => fun
  | [d] => { results := [.lit (.bool false)], args := [d] }
  | _ => none }
def SightOwnWrongFalsely : Prop := sightOwnRow.holds Try.pinned (OpenSpec.ofChange sightOwnWrong)

/-- 'bivouaclaw21.SightFilters': WHATEVER THE INPUT: true; the input reads as it did. -/
def sightFiltersSpec : ChangeSpec := { name := "sightFilters", fn := fun _ => fun
  | [d1, d2] => { results := [.lit (.bool true)], args := [d1, d2] }
  | _ => none }
def sightFiltersRow : OpenClaim := { program := "yteihieihoeijdaa", sum := "77d6632a99ec1709a08c2904a0fbce16840830b761d8bdad3f780f4a37c9ca09", func := "bivouac/bivouaclaw21.SightFilters", spec := "sightFilters", unfollowed := true, recurses := true, apart := false }
def SightFiltersSaid : Prop := sightFiltersRow.holds Try.pinned (OpenSpec.ofChange sightFiltersSpec)

/-- ITS FALSE NEIGHBOUR: 'it returns false'. Refute it at one input. -/
def sightFiltersWrong : ChangeSpec := { name := "sightFilters", fn := fun _ => fun
  | [d1, d2] => { results := [.lit (.bool false)], args := [d1, d2] }
  | _ => none }
def SightFiltersWrongFalsely : Prop := sightFiltersRow.holds Try.pinned (OpenSpec.ofChange sightFiltersWrong)

/-- 'bivouaclaw21.SightWrong': WHATEVER THE INPUT: true; the input reads as it did. -/
def sightWrongSpec : ChangeSpec := { name := "sightWrong", fn := fun _ => fun
  | [d1, d2, d3] => { results := [.lit (.bool true)], args := [d1, d2, d3] }
  | _ => none }
def sightWrongRow : OpenClaim := { program := "yteihieihoeijdaa", sum := "77d6632a99ec1709a08c2904a0fbce16840830b761d8bdad3f780f4a37c9ca09", func := "bivouac/bivouaclaw21.SightWrong", spec := "sightWrong", unfollowed := true, recurses := true, apart := false }
def SightWrongSaid : Prop := sightWrongRow.holds Try.pinned (OpenSpec.ofChange sightWrongSpec)

/-- ITS FALSE NEIGHBOUR: 'it returns false'. Refute it at one input. -/
def sightWrongWrong : ChangeSpec := { name := "sightWrong", fn := fun _ => fun
  | [d1, d2, d3] => { results := [.lit (.bool false)], args := [d1, d2, d3] }
  | _ => none }
def SightWrongWrongFalsely : Prop := sightWrongRow.holds Try.pinned (OpenSpec.ofChange sightWrongWrong)

/- THE SECOND FORM. 'bulk': how many values and letters a reading holds, each counted each time it is reached (what is shared counts as often as it is met; a slice's spare places count too). A statement '..UptoSaid' is the law's where the arguments, and the package variables that the reading takes, are together of bulk at most 1048576: NARROWER than '..Said'. Prove '..Said' where nothing that the law and all that it calls make is longer than what came in: it says more and counts as full. Else prove '..UptoSaid'. A law counts once. -/
mutual
def uptoBulk {H : Type} : DataW H → Nat
  | .lit (.string bytes) => bytes.length + 1
  | .lit _ => 1
  | .nil => 1
  | .ptr d => uptoBulk d + 1
  | .slice elems spare => uptoBulkAll elems + uptoBulkAll spare + 1
  | .agg parts => uptoBulkAll parts + 1
  | .iface _ d => uptoBulk d + 1
  | .map entries => uptoBulkEntries entries + 1
  | .held _ => 1
def uptoBulkAll {H : Type} : List (DataW H) → Nat
  | [] => 0
  | d :: r => uptoBulk d + uptoBulkAll r
def uptoBulkEntries {H : Type} : List (Lit × DataW H) → Nat
  | [] => 0
  | x :: r => uptoBulkEntry x + uptoBulkEntries r
def uptoBulkEntry {H : Type} : Lit × DataW H → Nat
  | (.string bytes, d) => bytes.length + uptoBulk d + 1
  | (_, d) => uptoBulk d + 1
 end
def uptoSmall : (H : Type) → List (DataW H) → Bool := fun _ ds => decide (uptoBulkAll ds ≤ 1048576)
def OpenSpec.upto (s : _root_.Go.ChangeSpec) : _root_.Go.OpenSpec := { _root_.Go.OpenSpec.ofChange s with cond := some uptoSmall }

/-- 'bivouaclaw21.SightViews', WHERE WHAT IT READS IS OF BULK AT MOST 1048576: true; the input reads as it did. -/
def sightViewsUptoRow : OpenClaim := { program := "yteihieihoeijdaa", sum := "77d6632a99ec1709a08c2904a0fbce16840830b761d8bdad3f780f4a37c9ca09", func := "bivouac/bivouaclaw21.SightViews", spec := "sightViews", unfollowed := true, recurses := true, apart := false, narrowed := true }
def SightViewsUptoSaid : Prop := sightViewsUptoRow.holds Try.pinned (OpenSpec.upto sightViewsSpec)

/-- 'bivouaclaw21.SightMore', WHERE WHAT IT READS IS OF BULK AT MOST 1048576: true; the input reads as it did. -/
def sightMoreUptoRow : OpenClaim := { program := "yteihieihoeijdaa", sum := "77d6632a99ec1709a08c2904a0fbce16840830b761d8bdad3f780f4a37c9ca09", func := "bivouac/bivouaclaw21.SightMore", spec := "sightMore", unfollowed := true, recurses := true, apart := false, narrowed := true }
def SightMoreUptoSaid : Prop := sightMoreUptoRow.holds Try.pinned (OpenSpec.upto sightMoreSpec)

/-- 'bivouaclaw21.SightOwn', WHERE WHAT IT READS IS OF BULK AT MOST 1048576: true; the input reads as it did. -/
def sightOwnUptoRow : OpenClaim := { program := "yteihieihoeijdaa", sum := "77d6632a99ec1709a08c2904a0fbce16840830b761d8bdad3f780f4a37c9ca09", func := "bivouac/bivouaclaw21.SightOwn", spec := "sightOwn", unfollowed := true, recurses := true, apart := false, narrowed := true }
def SightOwnUptoSaid : Prop := sightOwnUptoRow.holds Try.pinned (OpenSpec.upto sightOwnSpec)

/-- 'bivouaclaw21.SightFilters', WHERE WHAT IT READS IS OF BULK AT MOST 1048576: true; the input reads as it did. -/
def sightFiltersUptoRow : OpenClaim := { program := "yteihieihoeijdaa", sum := "77d6632a99ec1709a08c2904a0fbce16840830b761d8bdad3f780f4a37c9ca09", func := "bivouac/bivouaclaw21.SightFilters", spec := "sightFilters", unfollowed := true, recurses := true, apart := false, narrowed := true }
def SightFiltersUptoSaid : Prop := sightFiltersUptoRow.holds Try.pinned (OpenSpec.upto sightFiltersSpec)

/-- 'bivouaclaw21.SightWrong', WHERE WHAT IT READS IS OF BULK AT MOST 1048576: true; the input reads as it did. -/
def sightWrongUptoRow : OpenClaim := { program := "yteihieihoeijdaa", sum := "77d6632a99ec1709a08c2904a0fbce16840830b761d8bdad3f780f4a37c9ca09", func := "bivouac/bivouaclaw21.SightWrong", spec := "sightWrong", unfollowed := true, recurses := true, apart := false, narrowed := true }
def SightWrongUptoSaid : Prop := sightWrongUptoRow.holds Try.pinned (OpenSpec.upto sightWrongSpec)

end Rows
end Go.Proofs.Yteihieihoeijdaa
