/-
  No cell of these rows narrows 'for every input' (looked for: loops, veiled, ifaces, maps, wideKeys, modest, calm, conditions, laid).
  DERIVED. THE GIVEN ROWS OF THIS SEAT. 7 by the template 'for every input the law returns true; each argument reads behind the call as it read before'; 0 by the template 'total and deterministic' (their statements: YtfcocbkfodmmbaaTotals.lean).
  GIVEN WITH THE SEED: the statements are not yours to turn. If you find one false, say at which input.
  Laid BY PROGRAM, IN A SANDBOX (cutbox-rows.mjs): the forced cells as the released guide's own fill.sh prints them over the translation 60479cc22b6eca4f… (all of the seat's roots in one cut). By AI agents, Wed Nov 11 2026. No macro, syntax, notation, axiom, sorry.
-/
import Derived.Test.YtfcocbkfodmmbaaChecked
import GoSem.Claim
import GoSem.ClaimJoined
import GoSem.ClaimMapViews
import Derived.JoinedTies
import Derived.KernelRfl
namespace Go.Proofs.Ytfcocbkfodmmbaa
/- THE CELL 'sum', in the pinned program and in every row, IS THE sha256 OF THE DUMP (.gsa) THAT YtfcocbkfodmmbaaProg.lean LOADS. Nothing in Lean hashes anything: it is a label: what it is worth is what the hold of that sum in a sandbox is worth. -/
noncomputable def Try.pinned : Pinned := { name := "ytfcocbkfodmmbaa", sum := "60479cc22b6eca4f5aea9be0819529e6c1d85cef397ec85a00a043c1b2e3d22a", checked := Try.checked }
namespace Rows
def none {H : Type} : Left H := { results := [], args := [] }

/-- 'bivouaclaw16.ShotNumbers': WHATEVER THE INPUT: true; the input reads as it did. -/
def shotNumbersSpec : ChangeSpec := { name := "shotNumbers", fn := fun _ => fun
  | [] => { results := [.lit (.bool true)], args := [] }
  | _ => none }
def shotNumbersRow : OpenClaim := { program := "ytfcocbkfodmmbaa", sum := "60479cc22b6eca4f5aea9be0819529e6c1d85cef397ec85a00a043c1b2e3d22a", func := "bivouac/bivouaclaw16.ShotNumbers", spec := "shotNumbers", apart := false }
def ShotNumbersSaid : Prop := shotNumbersRow.holds Try.pinned (OpenSpec.ofChange shotNumbersSpec)

/-- ITS FALSE NEIGHBOUR: 'it returns false'. Refute it at one input. -/
def shotNumbersWrong : ChangeSpec := { name := "shotNumbers", fn := fun _ => fun
  | [] => { results := [.lit (.bool false)], args := [] }
  | _ => none }
def ShotNumbersWrongFalsely : Prop := shotNumbersRow.holds Try.pinned (OpenSpec.ofChange shotNumbersWrong)

/-- 'bivouaclaw16.ShotMays': WHATEVER THE INPUT: true; the input reads as it did. -/
def shotMaysSpec : ChangeSpec := { name := "shotMays", fn := fun _ => fun
  | [d1, d2] => { results := [.lit (.bool true)], args := [d1, d2] }
  | _ => none }
def shotMaysRow : OpenClaim := { program := "ytfcocbkfodmmbaa", sum := "60479cc22b6eca4f5aea9be0819529e6c1d85cef397ec85a00a043c1b2e3d22a", func := "bivouac/bivouaclaw16.ShotMays", spec := "shotMays", apart := false }
def ShotMaysSaid : Prop := shotMaysRow.holds Try.pinned (OpenSpec.ofChange shotMaysSpec)

/-- ITS FALSE NEIGHBOUR: 'it returns false'. Refute it at one input. -/
def shotMaysWrong : ChangeSpec := { name := "shotMays", fn := fun _ => fun
  | [d1, d2] => { results := [.lit (.bool false)], args := [d1, d2] }
  | _ => none }
def ShotMaysWrongFalsely : Prop := shotMaysRow.holds Try.pinned (OpenSpec.ofChange shotMaysWrong)

/-- 'bivouaclaw16.ShotAts': WHATEVER THE INPUT: true; the input reads as it did. -/
def shotAtsSpec : ChangeSpec := { name := "shotAts", fn := fun _ => fun
  | [d1, d2] => { results := [.lit (.bool true)], args := [d1, d2] }
  | _ => none }
def shotAtsRow : OpenClaim := { program := "ytfcocbkfodmmbaa", sum := "60479cc22b6eca4f5aea9be0819529e6c1d85cef397ec85a00a043c1b2e3d22a", func := "bivouac/bivouaclaw16.ShotAts", spec := "shotAts", apart := false }
def ShotAtsSaid : Prop := shotAtsRow.holds Try.pinned (OpenSpec.ofChange shotAtsSpec)

/-- ITS FALSE NEIGHBOUR: 'it returns false'. Refute it at one input. -/
def shotAtsWrong : ChangeSpec := { name := "shotAts", fn := fun _ => fun
  | [d1, d2] => { results := [.lit (.bool false)], args := [d1, d2] }
  | _ => none }
def ShotAtsWrongFalsely : Prop := shotAtsRow.holds Try.pinned (OpenSpec.ofChange shotAtsWrong)

/-- 'bivouaclaw16.ShotFlies': WHATEVER THE INPUT: true; the input reads as it did. -/
def shotFliesSpec : ChangeSpec := { name := "shotFlies", fn := fun _ => fun
  | [d] => { results := [.lit (.bool true)], args := [d] }
  | _ => none }
def shotFliesRow : OpenClaim := { program := "ytfcocbkfodmmbaa", sum := "60479cc22b6eca4f5aea9be0819529e6c1d85cef397ec85a00a043c1b2e3d22a", func := "bivouac/bivouaclaw16.ShotFlies", spec := "shotFlies", apart := false }
def ShotFliesSaid : Prop := shotFliesRow.holds Try.pinned (OpenSpec.ofChange shotFliesSpec)

/-- ITS FALSE NEIGHBOUR: 'it returns false'. Refute it at one input. -/
def shotFliesWrong : ChangeSpec := { name := "shotFlies", fn := fun _ => fun
  | [d] => { results := [.lit (.bool false)], args := [d] }
  | _ => none }
def ShotFliesWrongFalsely : Prop := shotFliesRow.holds Try.pinned (OpenSpec.ofChange shotFliesWrong)

/-- 'bivouaclaw16.ShotEnds': WHATEVER THE INPUT: true; the input reads as it did. -/
def shotEndsSpec : ChangeSpec := { name := "shotEnds", fn := fun _ => fun
  | [d1, d2] => { results := [.lit (.bool true)], args := [d1, d2] }
  | _ => none }
def shotEndsRow : OpenClaim := { program := "ytfcocbkfodmmbaa", sum := "60479cc22b6eca4f5aea9be0819529e6c1d85cef397ec85a00a043c1b2e3d22a", func := "bivouac/bivouaclaw16.ShotEnds", spec := "shotEnds", apart := false }
def ShotEndsSaid : Prop := shotEndsRow.holds Try.pinned (OpenSpec.ofChange shotEndsSpec)

/-- ITS FALSE NEIGHBOUR: 'it returns false'. Refute it at one input. -/
def shotEndsWrong : ChangeSpec := { name := "shotEnds", fn := fun _ => fun
  | [d1, d2] => { results := [.lit (.bool false)], args := [d1, d2] }
  | _ => none }
def ShotEndsWrongFalsely : Prop := shotEndsRow.holds Try.pinned (OpenSpec.ofChange shotEndsWrong)

/-- 'bivouaclaw16.ShotParts': WHATEVER THE INPUT: true; the input reads as it did. -/
def shotPartsSpec : ChangeSpec := { name := "shotParts", fn := fun _ => fun
  | [d1, d2, d3] => { results := [.lit (.bool true)], args := [d1, d2, d3] }
  | _ => none }
def shotPartsRow : OpenClaim := { program := "ytfcocbkfodmmbaa", sum := "60479cc22b6eca4f5aea9be0819529e6c1d85cef397ec85a00a043c1b2e3d22a", func := "bivouac/bivouaclaw16.ShotParts", spec := "shotParts", apart := false }
def ShotPartsSaid : Prop := shotPartsRow.holds Try.pinned (OpenSpec.ofChange shotPartsSpec)

/-- ITS FALSE NEIGHBOUR: 'it returns false'. Refute it at one input. -/
def shotPartsWrong : ChangeSpec := { name := "shotParts", fn := fun _ => fun
  | [d1, d2, d3] => { results := [.lit (.bool false)], args := [d1, d2, d3] }
  | _ => none }
def ShotPartsWrongFalsely : Prop := shotPartsRow.holds Try.pinned (OpenSpec.ofChange shotPartsWrong)

/-- 'bivouaclaw16.ShotAbove': WHATEVER THE INPUT: true; the input reads as it did. -/
def shotAboveSpec : ChangeSpec := { name := "shotAbove", fn := fun _ => fun
  | [d] => { results := [.lit (.bool true)], args := [d] }
  | _ => none }
def shotAboveRow : OpenClaim := { program := "ytfcocbkfodmmbaa", sum := "60479cc22b6eca4f5aea9be0819529e6c1d85cef397ec85a00a043c1b2e3d22a", func := "bivouac/bivouaclaw16.ShotAbove", spec := "shotAbove", apart := false }
def ShotAboveSaid : Prop := shotAboveRow.holds Try.pinned (OpenSpec.ofChange shotAboveSpec)

/-- ITS FALSE NEIGHBOUR: 'it returns false'. Refute it at one input. -/
def shotAboveWrong : ChangeSpec := { name := "shotAbove", fn := fun _ => fun
  | [d] => { results := [.lit (.bool false)], args := [d] }
  | _ => none }
def ShotAboveWrongFalsely : Prop := shotAboveRow.holds Try.pinned (OpenSpec.ofChange shotAboveWrong)

/- THE SECOND FORM. 'bulk': how many values and letters a reading holds, each counted each time it is reached (what is shared counts as often as it is met; a slice's spare places count too). A statement '..UptoSaid' is the law's where the arguments, and the package variables that the reading takes, are together of bulk at most 1048576: NARROWER than '..Said'. Prove '..Said' where nothing that the law and all that it calls make is longer than what came in: it says more and counts as full. Else prove '..UptoSaid'. A law counts once. -/
mutual
def uptoBulk {H : Type} : DataW H → Nat
  | .lit (.string bytes) => bytes.length + 1
  | .lit _ => 1
  | .nil => 1
  | .ptr d => uptoBulk d + 1
  | .slice elems spare => uptoBulkAll elems + uptoBulkAll spare + 1
  | .agg parts => uptoBulkAll parts + 1
  | .iface _ d => uptoBulk d + 1
  | .map entries => uptoBulkEntries entries + 1
  | .held _ => 1
def uptoBulkAll {H : Type} : List (DataW H) → Nat
  | [] => 0
  | d :: r => uptoBulk d + uptoBulkAll r
def uptoBulkEntries {H : Type} : List (Lit × DataW H) → Nat
  | [] => 0
  | x :: r => uptoBulkEntry x + uptoBulkEntries r
def uptoBulkEntry {H : Type} : Lit × DataW H → Nat
  | (.string bytes, d) => bytes.length + uptoBulk d + 1
  | (_, d) => uptoBulk d + 1
 end
def uptoSmall : (H : Type) → List (DataW H) → Bool := fun _ ds => decide (uptoBulkAll ds ≤ 1048576)
def OpenSpec.upto (s : _root_.Go.ChangeSpec) : _root_.Go.OpenSpec := { _root_.Go.OpenSpec.ofChange s with cond := some uptoSmall }

/-- 'bivouaclaw16.ShotNumbers', WHERE WHAT IT READS IS OF BULK AT MOST 1048576: true; the input reads as it did. -/
def shotNumbersUptoRow : OpenClaim := { program := "ytfcocbkfodmmbaa", sum := "60479cc22b6eca4f5aea9be0819529e6c1d85cef397ec85a00a043c1b2e3d22a", func := "bivouac/bivouaclaw16.ShotNumbers", spec := "shotNumbers", apart := false, narrowed := true }
def ShotNumbersUptoSaid : Prop := shotNumbersUptoRow.holds Try.pinned (OpenSpec.upto shotNumbersSpec)

/-- 'bivouaclaw16.ShotMays', WHERE WHAT IT READS IS OF BULK AT MOST 1048576: true; the input reads as it did. -/
def shotMaysUptoRow : OpenClaim := { program := "ytfcocbkfodmmbaa", sum := "60479cc22b6eca4f5aea9be0819529e6c1d85cef397ec85a00a043c1b2e3d22a", func := "bivouac/bivouaclaw16.ShotMays", spec := "shotMays", apart := false, narrowed := true }
def ShotMaysUptoSaid : Prop := shotMaysUptoRow.holds Try.pinned (OpenSpec.upto shotMaysSpec)

/-- 'bivouaclaw16.ShotAts', WHERE WHAT IT READS IS OF BULK AT MOST 1048576: true; the input reads as it did. -/
def shotAtsUptoRow : OpenClaim := { program := "ytfcocbkfodmmbaa", sum := "60479cc22b6eca4f5aea9be0819529e6c1d85cef397ec85a00a043c1b2e3d22a", func := "bivouac/bivouaclaw16.ShotAts", spec := "shotAts", apart := false, narrowed := true }
def ShotAtsUptoSaid : Prop := shotAtsUptoRow.holds Try.pinned (OpenSpec.upto shotAtsSpec)

/-- 'bivouaclaw16.ShotFlies', WHERE WHAT IT READS IS OF BULK AT MOST 1048576: true; the input reads as it did. -/
def shotFliesUptoRow : OpenClaim := { program := "ytfcocbkfodmmbaa", sum := "60479cc22b6eca4f5aea9be0819529e6c1d85cef397ec85a00a043c1b2e3d22a", func := "bivouac/bivouaclaw16.ShotFlies", spec := "shotFlies", apart := false, narrowed := true }
def ShotFliesUptoSaid : Prop := shotFliesUptoRow.holds Try.pinned (OpenSpec.upto shotFliesSpec)

/-- 'bivouaclaw16.ShotEnds', WHERE WHAT IT READS IS OF BULK AT MOST 1048576: true; the input reads as it did. -/
def shotEndsUptoRow : OpenClaim := { program := "ytfcocbkfodmmbaa", sum := "60479cc22b6eca4f5aea9be0819529e6c1d85cef397ec85a00a043c1b2e3d22a", func := "bivouac/bivouaclaw16.ShotEnds", spec := "shotEnds", apart := false, narrowed := true }
def ShotEndsUptoSaid : Prop := shotEndsUptoRow.holds Try.pinned (OpenSpec.upto shotEndsSpec)

/-- 'bivouaclaw16.ShotParts', WHERE WHAT IT READS IS OF BULK AT MOST 1048576: true; the input reads as it did. -/
def shotPartsUptoRow : OpenClaim := { program := "ytfcocbkfodmmbaa", sum := "60479cc22b6eca4f5aea9be0819529e6c1d85cef397ec85a00a043c1b2e3d22a", func := "bivouac/bivouaclaw16.ShotParts", spec := "shotParts", apart := false, narrowed := true }
def ShotPartsUptoSaid : Prop := shotPartsUptoRow.holds Try.pinned (OpenSpec.upto shotPartsSpec)

/-- 'bivouaclaw16.ShotAbove', WHERE WHAT IT READS IS OF BULK AT MOST 1048576: true; the input reads as it did. -/
def shotAboveUptoRow : OpenClaim := { program := "ytfcocbkfodmmbaa", sum := "60479cc22b6eca4f5aea9be0819529e6c1d85cef397ec85a00a043c1b2e3d22a", func := "bivouac/bivouaclaw16.ShotAbove", spec := "shotAbove", apart := false, narrowed := true }
def ShotAboveUptoSaid : Prop := shotAboveUptoRow.holds Try.pinned (OpenSpec.upto shotAboveSpec)

end Rows
end Go.Proofs.Ytfcocbkfodmmbaa
