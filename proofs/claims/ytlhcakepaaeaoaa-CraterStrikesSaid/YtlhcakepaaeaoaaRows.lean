/-
  No cell of these rows narrows 'for every input' (looked for: loops, veiled, ifaces, maps, wideKeys, modest, calm, conditions, laid).
  DERIVED. THE GIVEN ROWS OF THIS SEAT. 10 by the template 'for every input the law returns true; each argument reads behind the call as it read before'; 0 by the template 'total and deterministic' (their statements: YtlhcakepaaeaoaaTotals.lean).
  GIVEN WITH THE SEED: the statements are not yours to turn. If you find one false, say at which input.
  Laid BY PROGRAM, IN A SANDBOX (cutbox-rows.mjs): the forced cells as the released guide's own fill.sh prints them over the translation 3b7758c4e6f75c19… (all of the seat's roots in one cut). By AI agents, Wed Nov 11 2026. No macro, syntax, notation, axiom, sorry.
-/
import Derived.Test.YtlhcakepaaeaoaaChecked
import GoSem.Claim
import GoSem.ClaimJoined
import GoSem.ClaimMapViews
import Derived.JoinedTies
import Derived.KernelRfl
namespace Go.Proofs.Ytlhcakepaaeaoaa
/- THE CELL 'sum', in the pinned program and in every row, IS THE sha256 OF THE DUMP (.gsa) THAT YtlhcakepaaeaoaaProg.lean LOADS. Nothing in Lean hashes anything: it is a label: what it is worth is what the hold of that sum in a sandbox is worth. -/
noncomputable def Try.pinned : Pinned := { name := "ytlhcakepaaeaoaa", sum := "3b7758c4e6f75c199a231d13026cce49060fb4d5e3557d1d4d97695dfa071b71", checked := Try.checked }
namespace Rows
def none {H : Type} : Left H := { results := [], args := [] }

/-- 'bivouaclaw09.CraterLowers': WHATEVER THE INPUT: true; the input reads as it did. -/
def craterLowersSpec : ChangeSpec := { name := "craterLowers", fn := fun _ => fun
  | [d1, d2, d3] => { results := [.lit (.bool true)], args := [d1, d2, d3] }
  | _ => none }
def craterLowersRow : OpenClaim := { program := "ytlhcakepaaeaoaa", sum := "3b7758c4e6f75c199a231d13026cce49060fb4d5e3557d1d4d97695dfa071b71", func := "bivouac/bivouaclaw09.CraterLowers", spec := "craterLowers", apart := false }
def CraterLowersSaid : Prop := craterLowersRow.holds Try.pinned (OpenSpec.ofChange craterLowersSpec)

/-- ITS FALSE NEIGHBOUR: 'it returns false'. Refute it at one input. -/
def craterLowersWrong : ChangeSpec := { name := "craterLowers", fn := fun _ => fun
  | [d1, d2, d3] => { results := [.lit (.bool false)], args := [d1, d2, d3] }
  | _ => none }
def CraterLowersWrongFalsely : Prop := craterLowersRow.holds Try.pinned (OpenSpec.ofChange craterLowersWrong)

/-- 'bivouaclaw05.RngAt': WHATEVER THE INPUT: true; the input reads as it did. -/
def rngAtSpec : ChangeSpec := { name := "rngAt", fn := fun _ => fun
  | [d1, d2] => { results := [.lit (.bool true)], args := [d1, d2] }
  | _ => none }
def rngAtRow : OpenClaim := { program := "ytlhcakepaaeaoaa", sum := "3b7758c4e6f75c199a231d13026cce49060fb4d5e3557d1d4d97695dfa071b71", func := "bivouac/bivouaclaw05.RngAt", spec := "rngAt", apart := false }
def RngAtSaid : Prop := rngAtRow.holds Try.pinned (OpenSpec.ofChange rngAtSpec)

/-- ITS FALSE NEIGHBOUR: 'it returns false'. Refute it at one input. -/
def rngAtWrong : ChangeSpec := { name := "rngAt", fn := fun _ => fun
  | [d1, d2] => { results := [.lit (.bool false)], args := [d1, d2] }
  | _ => none }
def RngAtWrongFalsely : Prop := rngAtRow.holds Try.pinned (OpenSpec.ofChange rngAtWrong)

/-- 'bivouaclaw05.RngApart': WHATEVER THE INPUT: true; the input reads as it did. -/
def rngApartSpec : ChangeSpec := { name := "rngApart", fn := fun _ => fun
  | [d1, d2, d3] => { results := [.lit (.bool true)], args := [d1, d2, d3] }
  | _ => none }
def rngApartRow : OpenClaim := { program := "ytlhcakepaaeaoaa", sum := "3b7758c4e6f75c199a231d13026cce49060fb4d5e3557d1d4d97695dfa071b71", func := "bivouac/bivouaclaw05.RngApart", spec := "rngApart", apart := false }
def RngApartSaid : Prop := rngApartRow.holds Try.pinned (OpenSpec.ofChange rngApartSpec)

/-- ITS FALSE NEIGHBOUR: 'it returns false'. Refute it at one input. -/
def rngApartWrong : ChangeSpec := { name := "rngApart", fn := fun _ => fun
  | [d1, d2, d3] => { results := [.lit (.bool false)], args := [d1, d2, d3] }
  | _ => none }
def RngApartWrongFalsely : Prop := rngApartRow.holds Try.pinned (OpenSpec.ofChange rngApartWrong)

/-- 'bivouaclaw05.RngBelow': WHATEVER THE INPUT: true; the input reads as it did. -/
def rngBelowSpec : ChangeSpec := { name := "rngBelow", fn := fun _ => fun
  | [d1, d2, d3] => { results := [.lit (.bool true)], args := [d1, d2, d3] }
  | _ => none }
def rngBelowRow : OpenClaim := { program := "ytlhcakepaaeaoaa", sum := "3b7758c4e6f75c199a231d13026cce49060fb4d5e3557d1d4d97695dfa071b71", func := "bivouac/bivouaclaw05.RngBelow", spec := "rngBelow", apart := false }
def RngBelowSaid : Prop := rngBelowRow.holds Try.pinned (OpenSpec.ofChange rngBelowSpec)

/-- ITS FALSE NEIGHBOUR: 'it returns false'. Refute it at one input. -/
def rngBelowWrong : ChangeSpec := { name := "rngBelow", fn := fun _ => fun
  | [d1, d2, d3] => { results := [.lit (.bool false)], args := [d1, d2, d3] }
  | _ => none }
def RngBelowWrongFalsely : Prop := rngBelowRow.holds Try.pinned (OpenSpec.ofChange rngBelowWrong)

/-- 'bivouaclaw05.RngBetween': WHATEVER THE INPUT: true; the input reads as it did. -/
def rngBetweenSpec : ChangeSpec := { name := "rngBetween", fn := fun _ => fun
  | [d] => { results := [.lit (.bool true)], args := [d] }
  | _ => none }
def rngBetweenRow : OpenClaim := { program := "ytlhcakepaaeaoaa", sum := "3b7758c4e6f75c199a231d13026cce49060fb4d5e3557d1d4d97695dfa071b71", func := "bivouac/bivouaclaw05.RngBetween", spec := "rngBetween", apart := false }
def RngBetweenSaid : Prop := rngBetweenRow.holds Try.pinned (OpenSpec.ofChange rngBetweenSpec)

/-- ITS FALSE NEIGHBOUR: 'it returns false'. Refute it at one input. -/
def rngBetweenWrong : ChangeSpec := { name := "rngBetween", fn := fun _ => fun
  | [d] => { results := [.lit (.bool false)], args := [d] }
  | _ => none }
def RngBetweenWrongFalsely : Prop := rngBetweenRow.holds Try.pinned (OpenSpec.ofChange rngBetweenWrong)

/-- 'bivouaclaw05.RngOrders': WHATEVER THE INPUT: true; the input reads as it did. -/
def rngOrdersSpec : ChangeSpec := { name := "rngOrders", fn := fun _ => fun
  | [d1, d2, d3] => { results := [.lit (.bool true)], args := [d1, d2, d3] }
  | _ => none }
def rngOrdersRow : OpenClaim := { program := "ytlhcakepaaeaoaa", sum := "3b7758c4e6f75c199a231d13026cce49060fb4d5e3557d1d4d97695dfa071b71", func := "bivouac/bivouaclaw05.RngOrders", spec := "rngOrders", apart := false }
def RngOrdersSaid : Prop := rngOrdersRow.holds Try.pinned (OpenSpec.ofChange rngOrdersSpec)

/-- ITS FALSE NEIGHBOUR: 'it returns false'. Refute it at one input. -/
def rngOrdersWrong : ChangeSpec := { name := "rngOrders", fn := fun _ => fun
  | [d1, d2, d3] => { results := [.lit (.bool false)], args := [d1, d2, d3] }
  | _ => none }
def RngOrdersWrongFalsely : Prop := rngOrdersRow.holds Try.pinned (OpenSpec.ofChange rngOrdersWrong)

/-- 'bivouaclaw05.RngOnce': WHATEVER THE INPUT: true; the input reads as it did. -/
def rngOnceSpec : ChangeSpec := { name := "rngOnce", fn := fun _ => fun
  | [d1, d2, d3] => { results := [.lit (.bool true)], args := [d1, d2, d3] }
  | _ => none }
def rngOnceRow : OpenClaim := { program := "ytlhcakepaaeaoaa", sum := "3b7758c4e6f75c199a231d13026cce49060fb4d5e3557d1d4d97695dfa071b71", func := "bivouac/bivouaclaw05.RngOnce", spec := "rngOnce", apart := false }
def RngOnceSaid : Prop := rngOnceRow.holds Try.pinned (OpenSpec.ofChange rngOnceSpec)

/-- ITS FALSE NEIGHBOUR: 'it returns false'. Refute it at one input. -/
def rngOnceWrong : ChangeSpec := { name := "rngOnce", fn := fun _ => fun
  | [d1, d2, d3] => { results := [.lit (.bool false)], args := [d1, d2, d3] }
  | _ => none }
def RngOnceWrongFalsely : Prop := rngOnceRow.holds Try.pinned (OpenSpec.ofChange rngOnceWrong)

/-- 'bivouaclaw09.CraterFalls': WHATEVER THE INPUT: true; the input reads as it did. -/
def craterFallsSpec : ChangeSpec := { name := "craterFalls", fn := fun _ => fun
  | [d1, d2] => { results := [.lit (.bool true)], args := [d1, d2] }
  | _ => none }
def craterFallsRow : OpenClaim := { program := "ytlhcakepaaeaoaa", sum := "3b7758c4e6f75c199a231d13026cce49060fb4d5e3557d1d4d97695dfa071b71", func := "bivouac/bivouaclaw09.CraterFalls", spec := "craterFalls", unfollowed := true, recurses := true, apart := false }
def CraterFallsSaid : Prop := craterFallsRow.holds Try.pinned (OpenSpec.ofChange craterFallsSpec)

/-- ITS FALSE NEIGHBOUR: 'it returns false'. Refute it at one input. -/
def craterFallsWrong : ChangeSpec := { name := "craterFalls", fn := fun _ => fun
  | [d1, d2] => { results := [.lit (.bool false)], args := [d1, d2] }
  | _ => none }
def CraterFallsWrongFalsely : Prop := craterFallsRow.holds Try.pinned (OpenSpec.ofChange craterFallsWrong)

/-- 'bivouaclaw09.CraterStrikes': WHATEVER THE INPUT: true; the input reads as it did. -/
def craterStrikesSpec : ChangeSpec := { name := "craterStrikes", fn := fun _ => fun
  | [d1, d2] => { results := [.lit (.bool true)], args := [d1, d2] }
  | _ => none }
def craterStrikesRow : OpenClaim := { program := "ytlhcakepaaeaoaa", sum := "3b7758c4e6f75c199a231d13026cce49060fb4d5e3557d1d4d97695dfa071b71", func := "bivouac/bivouaclaw09.CraterStrikes", spec := "craterStrikes", unfollowed := true, recurses := true, apart := false }
def CraterStrikesSaid : Prop := craterStrikesRow.holds Try.pinned (OpenSpec.ofChange craterStrikesSpec)

/-- ITS FALSE NEIGHBOUR: 'it returns false'. Refute it at one input. -/
def craterStrikesWrong : ChangeSpec := { name := "craterStrikes", fn := fun _ => fun
  | [d1, d2] => { results := [.lit (.bool false)], args := [d1, d2] }
  | _ => none }
def CraterStrikesWrongFalsely : Prop := craterStrikesRow.holds Try.pinned (OpenSpec.ofChange craterStrikesWrong)

/-- 'bivouaclaw09.CraterOrders': WHATEVER THE INPUT: true; the input reads as it did. -/
def craterOrdersSpec : ChangeSpec := { name := "craterOrders", fn := fun _ => fun
  | [d1, d2] => { results := [.lit (.bool true)], args := [d1, d2] }
  | _ => none }
def craterOrdersRow : OpenClaim := { program := "ytlhcakepaaeaoaa", sum := "3b7758c4e6f75c199a231d13026cce49060fb4d5e3557d1d4d97695dfa071b71", func := "bivouac/bivouaclaw09.CraterOrders", spec := "craterOrders", unfollowed := true, recurses := true, apart := false }
def CraterOrdersSaid : Prop := craterOrdersRow.holds Try.pinned (OpenSpec.ofChange craterOrdersSpec)

/-- ITS FALSE NEIGHBOUR: 'it returns false'. Refute it at one input. -/
def craterOrdersWrong : ChangeSpec := { name := "craterOrders", fn := fun _ => fun
  | [d1, d2] => { results := [.lit (.bool false)], args := [d1, d2] }
  | _ => none }
def CraterOrdersWrongFalsely : Prop := craterOrdersRow.holds Try.pinned (OpenSpec.ofChange craterOrdersWrong)

/- THE SECOND FORM. 'bulk': how many values and letters a reading holds, each counted each time it is reached (what is shared counts as often as it is met; a slice's spare places count too). A statement '..UptoSaid' is the law's where the arguments, and the package variables that the reading takes, are together of bulk at most 1048576: NARROWER than '..Said'. Prove '..Said' where nothing that the law and all that it calls make is longer than what came in: it says more and counts as full. Else prove '..UptoSaid'. A law counts once. -/
mutual
def uptoBulk {H : Type} : DataW H → Nat
  | .lit (.string bytes) => bytes.length + 1
  | .lit _ => 1
  | .nil => 1
  | .ptr d => uptoBulk d + 1
  | .slice elems spare => uptoBulkAll elems + uptoBulkAll spare + 1
  | .agg parts => uptoBulkAll parts + 1
  | .iface _ d => uptoBulk d + 1
  | .map entries => uptoBulkEntries entries + 1
  | .held _ => 1
def uptoBulkAll {H : Type} : List (DataW H) → Nat
  | [] => 0
  | d :: r => uptoBulk d + uptoBulkAll r
def uptoBulkEntries {H : Type} : List (Lit × DataW H) → Nat
  | [] => 0
  | x :: r => uptoBulkEntry x + uptoBulkEntries r
def uptoBulkEntry {H : Type} : Lit × DataW H → Nat
  | (.string bytes, d) => bytes.length + uptoBulk d + 1
  | (_, d) => uptoBulk d + 1
 end
def uptoSmall : (H : Type) → List (DataW H) → Bool := fun _ ds => decide (uptoBulkAll ds ≤ 1048576)
def OpenSpec.upto (s : _root_.Go.ChangeSpec) : _root_.Go.OpenSpec := { _root_.Go.OpenSpec.ofChange s with cond := some uptoSmall }

/-- 'bivouaclaw09.CraterLowers', WHERE WHAT IT READS IS OF BULK AT MOST 1048576: true; the input reads as it did. -/
def craterLowersUptoRow : OpenClaim := { program := "ytlhcakepaaeaoaa", sum := "3b7758c4e6f75c199a231d13026cce49060fb4d5e3557d1d4d97695dfa071b71", func := "bivouac/bivouaclaw09.CraterLowers", spec := "craterLowers", apart := false, narrowed := true }
def CraterLowersUptoSaid : Prop := craterLowersUptoRow.holds Try.pinned (OpenSpec.upto craterLowersSpec)

/-- 'bivouaclaw05.RngAt', WHERE WHAT IT READS IS OF BULK AT MOST 1048576: true; the input reads as it did. -/
def rngAtUptoRow : OpenClaim := { program := "ytlhcakepaaeaoaa", sum := "3b7758c4e6f75c199a231d13026cce49060fb4d5e3557d1d4d97695dfa071b71", func := "bivouac/bivouaclaw05.RngAt", spec := "rngAt", apart := false, narrowed := true }
def RngAtUptoSaid : Prop := rngAtUptoRow.holds Try.pinned (OpenSpec.upto rngAtSpec)

/-- 'bivouaclaw05.RngApart', WHERE WHAT IT READS IS OF BULK AT MOST 1048576: true; the input reads as it did. -/
def rngApartUptoRow : OpenClaim := { program := "ytlhcakepaaeaoaa", sum := "3b7758c4e6f75c199a231d13026cce49060fb4d5e3557d1d4d97695dfa071b71", func := "bivouac/bivouaclaw05.RngApart", spec := "rngApart", apart := false, narrowed := true }
def RngApartUptoSaid : Prop := rngApartUptoRow.holds Try.pinned (OpenSpec.upto rngApartSpec)

/-- 'bivouaclaw05.RngBelow', WHERE WHAT IT READS IS OF BULK AT MOST 1048576: true; the input reads as it did. -/
def rngBelowUptoRow : OpenClaim := { program := "ytlhcakepaaeaoaa", sum := "3b7758c4e6f75c199a231d13026cce49060fb4d5e3557d1d4d97695dfa071b71", func := "bivouac/bivouaclaw05.RngBelow", spec := "rngBelow", apart := false, narrowed := true }
def RngBelowUptoSaid : Prop := rngBelowUptoRow.holds Try.pinned (OpenSpec.upto rngBelowSpec)

/-- 'bivouaclaw05.RngBetween', WHERE WHAT IT READS IS OF BULK AT MOST 1048576: true; the input reads as it did. -/
def rngBetweenUptoRow : OpenClaim := { program := "ytlhcakepaaeaoaa", sum := "3b7758c4e6f75c199a231d13026cce49060fb4d5e3557d1d4d97695dfa071b71", func := "bivouac/bivouaclaw05.RngBetween", spec := "rngBetween", apart := false, narrowed := true }
def RngBetweenUptoSaid : Prop := rngBetweenUptoRow.holds Try.pinned (OpenSpec.upto rngBetweenSpec)

/-- 'bivouaclaw05.RngOrders', WHERE WHAT IT READS IS OF BULK AT MOST 1048576: true; the input reads as it did. -/
def rngOrdersUptoRow : OpenClaim := { program := "ytlhcakepaaeaoaa", sum := "3b7758c4e6f75c199a231d13026cce49060fb4d5e3557d1d4d97695dfa071b71", func := "bivouac/bivouaclaw05.RngOrders", spec := "rngOrders", apart := false, narrowed := true }
def RngOrdersUptoSaid : Prop := rngOrdersUptoRow.holds Try.pinned (OpenSpec.upto rngOrdersSpec)

/-- 'bivouaclaw05.RngOnce', WHERE WHAT IT READS IS OF BULK AT MOST 1048576: true; the input reads as it did. -/
def rngOnceUptoRow : OpenClaim := { program := "ytlhcakepaaeaoaa", sum := "3b7758c4e6f75c199a231d13026cce49060fb4d5e3557d1d4d97695dfa071b71", func := "bivouac/bivouaclaw05.RngOnce", spec := "rngOnce", apart := false, narrowed := true }
def RngOnceUptoSaid : Prop := rngOnceUptoRow.holds Try.pinned (OpenSpec.upto rngOnceSpec)

/-- 'bivouaclaw09.CraterFalls', WHERE WHAT IT READS IS OF BULK AT MOST 1048576: true; the input reads as it did. -/
def craterFallsUptoRow : OpenClaim := { program := "ytlhcakepaaeaoaa", sum := "3b7758c4e6f75c199a231d13026cce49060fb4d5e3557d1d4d97695dfa071b71", func := "bivouac/bivouaclaw09.CraterFalls", spec := "craterFalls", unfollowed := true, recurses := true, apart := false, narrowed := true }
def CraterFallsUptoSaid : Prop := craterFallsUptoRow.holds Try.pinned (OpenSpec.upto craterFallsSpec)

/-- 'bivouaclaw09.CraterStrikes', WHERE WHAT IT READS IS OF BULK AT MOST 1048576: true; the input reads as it did. -/
def craterStrikesUptoRow : OpenClaim := { program := "ytlhcakepaaeaoaa", sum := "3b7758c4e6f75c199a231d13026cce49060fb4d5e3557d1d4d97695dfa071b71", func := "bivouac/bivouaclaw09.CraterStrikes", spec := "craterStrikes", unfollowed := true, recurses := true, apart := false, narrowed := true }
def CraterStrikesUptoSaid : Prop := craterStrikesUptoRow.holds Try.pinned (OpenSpec.upto craterStrikesSpec)

/-- 'bivouaclaw09.CraterOrders', WHERE WHAT IT READS IS OF BULK AT MOST 1048576: true; the input reads as it did. -/
def craterOrdersUptoRow : OpenClaim := { program := "ytlhcakepaaeaoaa", sum := "3b7758c4e6f75c199a231d13026cce49060fb4d5e3557d1d4d97695dfa071b71", func := "bivouac/bivouaclaw09.CraterOrders", spec := "craterOrders", unfollowed := true, recurses := true, apart := false, narrowed := true }
def CraterOrdersUptoSaid : Prop := craterOrdersUptoRow.holds Try.pinned (OpenSpec.upto craterOrdersSpec)

end Rows
end Go.Proofs.Ytlhcakepaaeaoaa
