-- WRITTEN BY A PROGRAM OF THIS SESSION (a turned copy of the kit's printer), for this claim. Nothing here is trusted: Lean checks it.
import Derived.Test.YtdmmlidgipedaaaDoorProg
import Derived.Below
import Derived.Deep.Draws
import Derived.Deep.AppendLies
import Derived.Maps.AppendAt
import Derived.OwnWalk
import Derived.Laws.BytesArg
import Derived.Laws.MakeOwn
import Derived.Laws.OwnMore
import Derived.Deep.OwnRows
import Derived.Tactics
import Derived.Lib.ConvBytes
import Derived.Laws.Slices
import Derived.WalkKit
import Derived.KernelRfl
import Derived.RowKit3
import Derived.Deep.LoopGhost
import Derived.Deep.QuietTactic
import Derived.BigQuiet
import Derived.WideLaws
import Derived.Deep.DeepCutAuto
import Derived.Deep.CutBlock
import Derived.Deep.RegionHeld3
import Derived.Laws.Rows
import Derived.Lib.AppendStr
import Derived.ArgAppend
import Derived.Laws.IdiomCopy
import Derived.OrdersHeld
import Derived.Laws.BitsLemmas
import Derived.RowKit
import Derived.Test.YtdmmlidgipedaaaDoorWWords
import Derived.Test.YtdmmlidgipedaaaDoorWLast
import Derived.Test.YtdmmlidgipedaaaDoorWTab
import Derived.Test.YtdmmlidgipedaaaDoorWQPut
import Derived.Test.YtdmmlidgipedaaaDoorWApart
import Derived.Test.YtdmmlidgipedaaaDoorWArr
import Derived.Test.YtdmmlidgipedaaaDoorWZeros
import Derived.Test.YtdmmlidgipedaaaDoorWFoot
import Derived.Test.YtdmmlidgipedaaaDoorWKept
import Derived.Test.YtdmmlidgipedaaaDoorWShare
import Derived.Test.YtdmmlidgipedaaaDoorWN
import Derived.Test.YtdmmlidgipedaaaDoorWFootNe
import Derived.Test.YtdmmlidgipedaaaDoorWEqStruct
import Derived.Test.YtdmmlidgipedaaaDoorWRepsOne
import Derived.Test.YtdmmlidgipedaaaDoorWGuard
import Derived.Test.YtdmmlidgipedaaaDoorWNEv
import Derived.Test.YtdmmlidgipedaaaDoorWMore
namespace Go.Proofs.YtdmmlidgipedaaaDoor.PA
open Go.RowKit Go.Proofs.YtdmmlidgipedaaaDoorW.PrintWords Go.Proofs.YtdmmlidgipedaaaDoorW.PrintLast Go.Proofs.YtdmmlidgipedaaaDoorW.PrintMore
attribute [local go_sem] max2_int min2_int max_two min_two max_three min_three max_four min_four   -- for this text's walks alone
set_option linter.unusedVariables false
set_option linter.unusedSimpArgs false



def errW : Option Int → Value
 | none => .nilIface
 | some c => .iface 0 (.int .i64 c)
theorem errW_none : errW none = .nilIface := rfl
theorem errW_some (c : Int) : errW (some c) = .iface 0 (.int .i64 c) := rfl

theorem info2 : (Tryd.prog.info? 2).map (fun i => (i.zero, i.size, i.bytes)) = some (some (.int .i64 0), 1, 8) := by kernel_rfl
theorem info5 : (Tryd.prog.info? 5).map (fun i => (i.zero, i.size, i.bytes)) = some (some (.int .u8 0), 1, 1) := by kernel_rfl
-- the values' own types

/-- A list of Bools, by the bits of a number. -/
def bL : Nat → Nat → List Bool
  | 0, _ => []
  | n + 1, m => (m % 2 == 1) :: bL n (m / 2)
abbrev bA (n m : Nat) : Array Bool := ⟨bL n m⟩
theorem sA {α : Type} (l : List α) (i : Nat) (a : α) : l.toArray.setIfInBounds i a = (l.set i a).toArray := by simp
theorem sB {α : Type} (x a : α) (l : List α) : (x :: l).set 0 a = a :: l := rfl
theorem sC {α : Type} (x a : α) (l : List α) (n : Nat) : (x :: l).set (n + 1) a = x :: l.set n a := rfl

end Go.Proofs.YtdmmlidgipedaaaDoor.PA
