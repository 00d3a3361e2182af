/-
  DERIVED. GIVEN WITH THE SEED: THE CARDS: each row of YtdmmlidgipedaaaDoorRows.lean that lists a variable, with what it lists TIED to the program's text (the seventh form; the later family's looks); each row that meets fmt, with fmt's text TOLD by the authors' own Lean function (tested against real Go, not proved from fmt's source: count such statements apart). THE CARD IS WHAT COUNTS. Prove the row's statement (the work); the ties are given (YtdmmlidgipedaaaDoorTie.lean); close each card by the builder's one call (the guide's Derived/Test/ToyasCard.lean, 'card_holds'). Laid BY PROGRAM, IN A SANDBOX (cutbox-door.mjs). By AI agents, Wed Nov 11 2026. No macro, syntax, notation, axiom, sorry.
-/
import Derived.Test.YtdmmlidgipedaaaDoorRows
import GoSem.ClaimSeven
namespace Go.Proofs.YtdmmlidgipedaaaDoor
namespace Rows

/-- THE TIED CARD OF 'bivouactop.BivouacGuns'. -/
def bivouacGunsCard : Claim7 := { stood := { row := bivouacGunsRow, standIns := [], harness := (true, "6f24475ed9df9cabb41411ca4e484a460ee8ae6d8eefb669a597af09d62bafea"), looks := false }, kinds := [], alts := [], laidByText := true, laidKinds := [.data], laidTests := true, laidLooks := .later }
def BivouacGunsCardSaid : Prop := Claim7.holds Tryd.pinned (.plain (OpenSpec.ofChange bivouacGunsSpec)) bivouacGunsCard

/-- THE SECOND FORM's CARD OF 'bivouactop.BivouacGuns'. -/
def bivouacGunsUptoCard : Claim7 := { stood := { row := bivouacGunsUptoRow, standIns := [], harness := (true, "6f24475ed9df9cabb41411ca4e484a460ee8ae6d8eefb669a597af09d62bafea"), looks := false }, kinds := [], alts := [], laidByText := true, laidKinds := [.data], laidTests := true, laidLooks := .later }
def BivouacGunsUptoCardSaid : Prop := Claim7.holds Tryd.pinned (.plain (OpenSpec.upto bivouacGunsSpec)) bivouacGunsUptoCard
end Rows
end Go.Proofs.YtdmmlidgipedaaaDoor
