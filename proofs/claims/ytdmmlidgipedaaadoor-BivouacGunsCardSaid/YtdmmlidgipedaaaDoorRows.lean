/-
  NARROWER THAN 'FOR EVERY INPUT', by the rows' own cells (each row's printed sentence says how): BivouacGuns: laid.
  DERIVED. THE GIVEN ROWS OF THIS SEAT. 1 by the template 'for every input the law returns true; each argument reads behind the call as it read before'; 0 by the template 'total and deterministic' (their statements: YtdmmlidgipedaaaDoorTotals.lean).
  GIVEN WITH THE SEED: the statements are not yours to turn. If you find one false, say at which input.
  Laid BY PROGRAM, IN A SANDBOX (cutbox-rows.mjs): the forced cells as the released guide's own fill.sh prints them over the translation bc2a3179267d2b2d… (all of the seat's roots in one cut). By AI agents, Wed Nov 11 2026. No macro, syntax, notation, axiom, sorry.
-/
import Derived.Test.YtdmmlidgipedaaaDoorChecked
import GoSem.Claim
import GoSem.ClaimJoined
import GoSem.ClaimMapViews
import Derived.JoinedTies
import Derived.KernelRfl
namespace Go.Proofs.YtdmmlidgipedaaaDoor
/- THE CELL 'sum', in the pinned program and in every row, IS THE sha256 OF THE DUMP (.gsa) THAT YtdmmlidgipedaaaDoorProg.lean LOADS. Nothing in Lean hashes anything: it is a label: what it is worth is what the hold of that sum in a sandbox is worth. -/
noncomputable def Tryd.pinned : Pinned := { name := "ytdmmlidgipedaaadoor", sum := "bc2a3179267d2b2d9ec0f25d274b824e52795d4de889b9fb48b7b9b52c1b8d2f", checked := Tryd.checked }
namespace Rows
def none {H : Type} : Left H := { results := [], args := [] }

/- WHAT THE LISTED PACKAGE-LEVEL VARIABLES READ AS WHEN THE CALL BEGINS. Each datum BY PROGRAM (the guide's laid-datum.mjs) off the statement by which the dump's own 'gosem.cut.vars' lays the variable. In a bare row this is a premise. The card (YtdmmlidgipedaaaDoorCards.lean) ties it to the program's text. -/
def laid_bivouac_trig_sines {H : Type} : DataW H := .agg [.lit (.int .i32 0), .lit (.int .i32 1608), .lit (.int .i32 3216), .lit (.int .i32 4821), .lit (.int .i32 6424), .lit (.int .i32 8022), .lit (.int .i32 9616), .lit (.int .i32 11204), .lit (.int .i32 12785), .lit (.int .i32 14359), .lit (.int .i32 15924), .lit (.int .i32 17479), .lit (.int .i32 19024), .lit (.int .i32 20557), .lit (.int .i32 22078), .lit (.int .i32 23586), .lit (.int .i32 25080), .lit (.int .i32 26558), .lit (.int .i32 28020), .lit (.int .i32 29466), .lit (.int .i32 30893), .lit (.int .i32 32303), .lit (.int .i32 33692), .lit (.int .i32 35062), .lit (.int .i32 36410), .lit (.int .i32 37736), .lit (.int .i32 39040), .lit (.int .i32 40320), .lit (.int .i32 41576), .lit (.int .i32 42806), .lit (.int .i32 44011), .lit (.int .i32 45190), .lit (.int .i32 46341), .lit (.int .i32 47464), .lit (.int .i32 48559), .lit (.int .i32 49624), .lit (.int .i32 50660), .lit (.int .i32 51665), .lit (.int .i32 52639), .lit (.int .i32 53581), .lit (.int .i32 54491), .lit (.int .i32 55368), .lit (.int .i32 56212), .lit (.int .i32 57022), .lit (.int .i32 57798), .lit (.int .i32 58538), .lit (.int .i32 59244), .lit (.int .i32 59914), .lit (.int .i32 60547), .lit (.int .i32 61145), .lit (.int .i32 61705), .lit (.int .i32 62228), .lit (.int .i32 62714), .lit (.int .i32 63162), .lit (.int .i32 63572), .lit (.int .i32 63944), .lit (.int .i32 64277), .lit (.int .i32 64571), .lit (.int .i32 64827), .lit (.int .i32 65043), .lit (.int .i32 65220), .lit (.int .i32 65358), .lit (.int .i32 65457), .lit (.int .i32 65516), .lit (.int .i32 65536)]

/-- 'bivouactop.BivouacGuns': WHATEVER THE INPUT: true; the input reads as it did. -/
def bivouacGunsSpec : ChangeSpec := { name := "bivouacGuns", fn := fun _ => fun
  | [d] => { results := [.lit (.bool true)], args := [d] }
  | _ => none }
def bivouacGunsRow : OpenClaim := { program := "ytdmmlidgipedaaadoor", sum := "bc2a3179267d2b2d9ec0f25d274b824e52795d4de889b9fb48b7b9b52c1b8d2f", func := "bivouac/bivouactop.BivouacGuns", spec := "bivouacGuns", unfollowed := true, recurses := true, named := ["bivouac/trig.sines", "math/bits.divideError", "math/bits.overflowError"], apart := false, laid := [("bivouac/trig.sines", laid_bivouac_trig_sines)] }
def BivouacGunsSaid : Prop := bivouacGunsRow.holds Tryd.pinned (OpenSpec.ofChange bivouacGunsSpec)

/-- ITS FALSE NEIGHBOUR: 'it returns false'. Refute it at one input. -/
def bivouacGunsWrong : ChangeSpec := { name := "bivouacGuns", fn := fun _ => fun
  | [d] => { results := [.lit (.bool false)], args := [d] }
  | _ => none }
def BivouacGunsWrongFalsely : Prop := bivouacGunsRow.holds Tryd.pinned (OpenSpec.ofChange bivouacGunsWrong)

/- THE SECOND FORM. 'bulk': how many values and letters a reading holds, each counted each time it is reached (what is shared counts as often as it is met; a slice's spare places count too). A statement '..UptoSaid' is the law's where the arguments, and the package variables that the reading takes, are together of bulk at most 1048576: NARROWER than '..Said'. Prove '..Said' where nothing that the law and all that it calls make is longer than what came in: it says more and counts as full. Else prove '..UptoSaid'. A law counts once. -/
mutual
def uptoBulk {H : Type} : DataW H → Nat
  | .lit (.string bytes) => bytes.length + 1
  | .lit _ => 1
  | .nil => 1
  | .ptr d => uptoBulk d + 1
  | .slice elems spare => uptoBulkAll elems + uptoBulkAll spare + 1
  | .agg parts => uptoBulkAll parts + 1
  | .iface _ d => uptoBulk d + 1
  | .map entries => uptoBulkEntries entries + 1
  | .held _ => 1
def uptoBulkAll {H : Type} : List (DataW H) → Nat
  | [] => 0
  | d :: r => uptoBulk d + uptoBulkAll r
def uptoBulkEntries {H : Type} : List (Lit × DataW H) → Nat
  | [] => 0
  | x :: r => uptoBulkEntry x + uptoBulkEntries r
def uptoBulkEntry {H : Type} : Lit × DataW H → Nat
  | (.string bytes, d) => bytes.length + uptoBulk d + 1
  | (_, d) => uptoBulk d + 1
 end
def uptoSmall : (H : Type) → List (DataW H) → Bool := fun _ ds => decide (uptoBulkAll ds ≤ 1048576)
def OpenSpec.upto (s : _root_.Go.ChangeSpec) : _root_.Go.OpenSpec := { _root_.Go.OpenSpec.ofChange s with cond := some uptoSmall }

/-- 'bivouactop.BivouacGuns', WHERE WHAT IT READS IS OF BULK AT MOST 1048576: true; the input reads as it did. -/
def bivouacGunsUptoRow : OpenClaim := { program := "ytdmmlidgipedaaadoor", sum := "bc2a3179267d2b2d9ec0f25d274b824e52795d4de889b9fb48b7b9b52c1b8d2f", func := "bivouac/bivouactop.BivouacGuns", spec := "bivouacGuns", unfollowed := true, recurses := true, named := ["bivouac/trig.sines", "math/bits.divideError", "math/bits.overflowError"], apart := false, laid := [("bivouac/trig.sines", laid_bivouac_trig_sines)], narrowed := true }
def BivouacGunsUptoSaid : Prop := bivouacGunsUptoRow.holds Tryd.pinned (OpenSpec.upto bivouacGunsSpec)

end Rows
end Go.Proofs.YtdmmlidgipedaaaDoor
