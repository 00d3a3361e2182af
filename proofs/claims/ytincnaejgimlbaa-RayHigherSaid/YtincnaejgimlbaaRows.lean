/-
  No cell of these rows narrows 'for every input' (looked for: loops, veiled, ifaces, maps, wideKeys, modest, calm, conditions, laid).
  DERIVED. THE GIVEN ROWS OF THIS SEAT. 6 by the template 'for every input the law returns true; each argument reads behind the call as it read before'; 0 by the template 'total and deterministic' (their statements: YtincnaejgimlbaaTotals.lean).
  GIVEN WITH THE SEED: the statements are not yours to turn. If you find one false, say at which input.
  Laid BY PROGRAM, IN A SANDBOX (cutbox-rows.mjs): the forced cells as the released guide's own fill.sh prints them over the translation f00292bd434a2659… (all of the seat's roots in one cut). By AI agents, Wed Nov 11 2026. No macro, syntax, notation, axiom, sorry.
-/
import Derived.Test.YtincnaejgimlbaaChecked
import GoSem.Claim
import GoSem.ClaimJoined
import GoSem.ClaimMapViews
import Derived.JoinedTies
import Derived.KernelRfl
namespace Go.Proofs.Ytincnaejgimlbaa
/- THE CELL 'sum', in the pinned program and in every row, IS THE sha256 OF THE DUMP (.gsa) THAT YtincnaejgimlbaaProg.lean LOADS. Nothing in Lean hashes anything: it is a label: what it is worth is what the hold of that sum in a sandbox is worth. -/
noncomputable def Try.pinned : Pinned := { name := "ytincnaejgimlbaa", sum := "f00292bd434a2659e0f59967c67026bff932c0dd18c8990249b17f787fcbb52b", checked := Try.checked }
namespace Rows
def none {H : Type} : Left H := { results := [], args := [] }

/-- 'bivouaclaw08.RayLines': WHATEVER THE INPUT: true; the input reads as it did. -/
def rayLinesSpec : ChangeSpec := { name := "rayLines", fn := fun _ => fun
  | [d] => { results := [.lit (.bool true)], args := [d] }
  | _ => none }
def rayLinesRow : OpenClaim := { program := "ytincnaejgimlbaa", sum := "f00292bd434a2659e0f59967c67026bff932c0dd18c8990249b17f787fcbb52b", func := "bivouac/bivouaclaw08.RayLines", spec := "rayLines", unfollowed := true, recurses := true, apart := false }
def RayLinesSaid : Prop := rayLinesRow.holds Try.pinned (OpenSpec.ofChange rayLinesSpec)

/-- ITS FALSE NEIGHBOUR: 'it returns false'. Refute it at one input. -/
def rayLinesWrong : ChangeSpec := { name := "rayLines", fn := fun _ => fun
  | [d] => { results := [.lit (.bool false)], args := [d] }
  | _ => none }
def RayLinesWrongFalsely : Prop := rayLinesRow.holds Try.pinned (OpenSpec.ofChange rayLinesWrong)

/-- 'bivouaclaw08.RaySteps': WHATEVER THE INPUT: true; the input reads as it did. -/
def rayStepsSpec : ChangeSpec := { name := "raySteps", fn := fun _ => fun
  | [d] => { results := [.lit (.bool true)], args := [d] }
  | _ => none }
def rayStepsRow : OpenClaim := { program := "ytincnaejgimlbaa", sum := "f00292bd434a2659e0f59967c67026bff932c0dd18c8990249b17f787fcbb52b", func := "bivouac/bivouaclaw08.RaySteps", spec := "raySteps", unfollowed := true, recurses := true, apart := false }
def RayStepsSaid : Prop := rayStepsRow.holds Try.pinned (OpenSpec.ofChange rayStepsSpec)

/-- ITS FALSE NEIGHBOUR: 'it returns false'. Refute it at one input. -/
def rayStepsWrong : ChangeSpec := { name := "raySteps", fn := fun _ => fun
  | [d] => { results := [.lit (.bool false)], args := [d] }
  | _ => none }
def RayStepsWrongFalsely : Prop := rayStepsRow.holds Try.pinned (OpenSpec.ofChange rayStepsWrong)

/-- 'bivouaclaw08.RayEnds': WHATEVER THE INPUT: true; the input reads as it did. -/
def rayEndsSpec : ChangeSpec := { name := "rayEnds", fn := fun _ => fun
  | [d1, d2, d3] => { results := [.lit (.bool true)], args := [d1, d2, d3] }
  | _ => none }
def rayEndsRow : OpenClaim := { program := "ytincnaejgimlbaa", sum := "f00292bd434a2659e0f59967c67026bff932c0dd18c8990249b17f787fcbb52b", func := "bivouac/bivouaclaw08.RayEnds", spec := "rayEnds", unfollowed := true, recurses := true, apart := false }
def RayEndsSaid : Prop := rayEndsRow.holds Try.pinned (OpenSpec.ofChange rayEndsSpec)

/-- ITS FALSE NEIGHBOUR: 'it returns false'. Refute it at one input. -/
def rayEndsWrong : ChangeSpec := { name := "rayEnds", fn := fun _ => fun
  | [d1, d2, d3] => { results := [.lit (.bool false)], args := [d1, d2, d3] }
  | _ => none }
def RayEndsWrongFalsely : Prop := rayEndsRow.holds Try.pinned (OpenSpec.ofChange rayEndsWrong)

/-- 'bivouaclaw08.RaySees': WHATEVER THE INPUT: true; the input reads as it did. -/
def raySeesSpec : ChangeSpec := { name := "raySees", fn := fun _ => fun
  | [d] => { results := [.lit (.bool true)], args := [d] }
  | _ => none }
def raySeesRow : OpenClaim := { program := "ytincnaejgimlbaa", sum := "f00292bd434a2659e0f59967c67026bff932c0dd18c8990249b17f787fcbb52b", func := "bivouac/bivouaclaw08.RaySees", spec := "raySees", unfollowed := true, recurses := true, apart := false }
def RaySeesSaid : Prop := raySeesRow.holds Try.pinned (OpenSpec.ofChange raySeesSpec)

/-- ITS FALSE NEIGHBOUR: 'it returns false'. Refute it at one input. -/
def raySeesWrong : ChangeSpec := { name := "raySees", fn := fun _ => fun
  | [d] => { results := [.lit (.bool false)], args := [d] }
  | _ => none }
def RaySeesWrongFalsely : Prop := raySeesRow.holds Try.pinned (OpenSpec.ofChange raySeesWrong)

/-- 'bivouaclaw08.RayHigher': WHATEVER THE INPUT: true; the input reads as it did. -/
def rayHigherSpec : ChangeSpec := { name := "rayHigher", fn := fun _ => fun
  | [d1, d2] => { results := [.lit (.bool true)], args := [d1, d2] }
  | _ => none }
def rayHigherRow : OpenClaim := { program := "ytincnaejgimlbaa", sum := "f00292bd434a2659e0f59967c67026bff932c0dd18c8990249b17f787fcbb52b", func := "bivouac/bivouaclaw08.RayHigher", spec := "rayHigher", unfollowed := true, recurses := true, apart := false }
def RayHigherSaid : Prop := rayHigherRow.holds Try.pinned (OpenSpec.ofChange rayHigherSpec)

/-- ITS FALSE NEIGHBOUR: 'it returns false'. Refute it at one input. -/
def rayHigherWrong : ChangeSpec := { name := "rayHigher", fn := fun _ => fun
  | [d1, d2] => { results := [.lit (.bool false)], args := [d1, d2] }
  | _ => none }
def RayHigherWrongFalsely : Prop := rayHigherRow.holds Try.pinned (OpenSpec.ofChange rayHigherWrong)

/-- 'bivouaclaw08.RaySeen': WHATEVER THE INPUT: true; the input reads as it did. -/
def raySeenSpec : ChangeSpec := { name := "raySeen", fn := fun _ => fun
  | [d] => { results := [.lit (.bool true)], args := [d] }
  | _ => none }
def raySeenRow : OpenClaim := { program := "ytincnaejgimlbaa", sum := "f00292bd434a2659e0f59967c67026bff932c0dd18c8990249b17f787fcbb52b", func := "bivouac/bivouaclaw08.RaySeen", spec := "raySeen", unfollowed := true, recurses := true, apart := false }
def RaySeenSaid : Prop := raySeenRow.holds Try.pinned (OpenSpec.ofChange raySeenSpec)

/-- ITS FALSE NEIGHBOUR: 'it returns false'. Refute it at one input. -/
def raySeenWrong : ChangeSpec := { name := "raySeen", fn := fun _ => fun
  | [d] => { results := [.lit (.bool false)], args := [d] }
  | _ => none }
def RaySeenWrongFalsely : Prop := raySeenRow.holds Try.pinned (OpenSpec.ofChange raySeenWrong)

/- THE SECOND FORM. 'bulk': how many values and letters a reading holds, each counted each time it is reached (what is shared counts as often as it is met; a slice's spare places count too). A statement '..UptoSaid' is the law's where the arguments, and the package variables that the reading takes, are together of bulk at most 1048576: NARROWER than '..Said'. Prove '..Said' where nothing that the law and all that it calls make is longer than what came in: it says more and counts as full. Else prove '..UptoSaid'. A law counts once. -/
mutual
def uptoBulk {H : Type} : DataW H → Nat
  | .lit (.string bytes) => bytes.length + 1
  | .lit _ => 1
  | .nil => 1
  | .ptr d => uptoBulk d + 1
  | .slice elems spare => uptoBulkAll elems + uptoBulkAll spare + 1
  | .agg parts => uptoBulkAll parts + 1
  | .iface _ d => uptoBulk d + 1
  | .map entries => uptoBulkEntries entries + 1
  | .held _ => 1
def uptoBulkAll {H : Type} : List (DataW H) → Nat
  | [] => 0
  | d :: r => uptoBulk d + uptoBulkAll r
def uptoBulkEntries {H : Type} : List (Lit × DataW H) → Nat
  | [] => 0
  | x :: r => uptoBulkEntry x + uptoBulkEntries r
def uptoBulkEntry {H : Type} : Lit × DataW H → Nat
  | (.string bytes, d) => bytes.length + uptoBulk d + 1
  | (_, d) => uptoBulk d + 1
 end
def uptoSmall : (H : Type) → List (DataW H) → Bool := fun _ ds => decide (uptoBulkAll ds ≤ 1048576)
def OpenSpec.upto (s : _root_.Go.ChangeSpec) : _root_.Go.OpenSpec := { _root_.Go.OpenSpec.ofChange s with cond := some uptoSmall }

/-- 'bivouaclaw08.RayLines', WHERE WHAT IT READS IS OF BULK AT MOST 1048576: true; the input reads as it did. -/
def rayLinesUptoRow : OpenClaim := { program := "ytincnaejgimlbaa", sum := "f00292bd434a2659e0f59967c67026bff932c0dd18c8990249b17f787fcbb52b", func := "bivouac/bivouaclaw08.RayLines", spec := "rayLines", unfollowed := true, recurses := true, apart := false, narrowed := true }
def RayLinesUptoSaid : Prop := rayLinesUptoRow.holds Try.pinned (OpenSpec.upto rayLinesSpec)

/-- 'bivouaclaw08.RaySteps', WHERE WHAT IT READS IS OF BULK AT MOST 1048576: true; the input reads as it did. -/
def rayStepsUptoRow : OpenClaim := { program := "ytincnaejgimlbaa", sum := "f00292bd434a2659e0f59967c67026bff932c0dd18c8990249b17f787fcbb52b", func := "bivouac/bivouaclaw08.RaySteps", spec := "raySteps", unfollowed := true, recurses := true, apart := false, narrowed := true }
def RayStepsUptoSaid : Prop := rayStepsUptoRow.holds Try.pinned (OpenSpec.upto rayStepsSpec)

/-- 'bivouaclaw08.RayEnds', WHERE WHAT IT READS IS OF BULK AT MOST 1048576: true; the input reads as it did. -/
def rayEndsUptoRow : OpenClaim := { program := "ytincnaejgimlbaa", sum := "f00292bd434a2659e0f59967c67026bff932c0dd18c8990249b17f787fcbb52b", func := "bivouac/bivouaclaw08.RayEnds", spec := "rayEnds", unfollowed := true, recurses := true, apart := false, narrowed := true }
def RayEndsUptoSaid : Prop := rayEndsUptoRow.holds Try.pinned (OpenSpec.upto rayEndsSpec)

/-- 'bivouaclaw08.RaySees', WHERE WHAT IT READS IS OF BULK AT MOST 1048576: true; the input reads as it did. -/
def raySeesUptoRow : OpenClaim := { program := "ytincnaejgimlbaa", sum := "f00292bd434a2659e0f59967c67026bff932c0dd18c8990249b17f787fcbb52b", func := "bivouac/bivouaclaw08.RaySees", spec := "raySees", unfollowed := true, recurses := true, apart := false, narrowed := true }
def RaySeesUptoSaid : Prop := raySeesUptoRow.holds Try.pinned (OpenSpec.upto raySeesSpec)

/-- 'bivouaclaw08.RayHigher', WHERE WHAT IT READS IS OF BULK AT MOST 1048576: true; the input reads as it did. -/
def rayHigherUptoRow : OpenClaim := { program := "ytincnaejgimlbaa", sum := "f00292bd434a2659e0f59967c67026bff932c0dd18c8990249b17f787fcbb52b", func := "bivouac/bivouaclaw08.RayHigher", spec := "rayHigher", unfollowed := true, recurses := true, apart := false, narrowed := true }
def RayHigherUptoSaid : Prop := rayHigherUptoRow.holds Try.pinned (OpenSpec.upto rayHigherSpec)

/-- 'bivouaclaw08.RaySeen', WHERE WHAT IT READS IS OF BULK AT MOST 1048576: true; the input reads as it did. -/
def raySeenUptoRow : OpenClaim := { program := "ytincnaejgimlbaa", sum := "f00292bd434a2659e0f59967c67026bff932c0dd18c8990249b17f787fcbb52b", func := "bivouac/bivouaclaw08.RaySeen", spec := "raySeen", unfollowed := true, recurses := true, apart := false, narrowed := true }
def RaySeenUptoSaid : Prop := raySeenUptoRow.holds Try.pinned (OpenSpec.upto raySeenSpec)

end Rows
end Go.Proofs.Ytincnaejgimlbaa
