-- The words that the texts of these laws use (out of the printed words, by a program of this session: the others are struck). Nothing here is trusted: Lean checks it.
import Derived.Test.YtdmmlidgipedaaaDoorWN
/-! ### 52. A row that stays read whatever happens to a block (a set of blocks) doesn't lie there -/
namespace Go.Proofs.YtdmmlidgipedaaaDoorW.PrintWords
open Go.RowKit
namespace Kd
section
variable {α : Type} {d : Kd α} {W : World} {g n : Nat} {S ok : Nat → Prop} {A : Option Addr} {ad : Addr} {xs : List α}
end
end Kd
end Go.Proofs.YtdmmlidgipedaaaDoorW.PrintWords
