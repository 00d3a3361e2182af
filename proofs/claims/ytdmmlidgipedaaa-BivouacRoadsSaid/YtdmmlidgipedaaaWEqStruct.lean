-- The words that the texts of these laws use (out of the printed words, by a program of this session: the others are struck). Nothing here is trusted: Lean checks it.
import Derived.Test.YtdmmlidgipedaaaWWords
import Derived.Laws.StructEq
/-! ### 53. '==' of structs as_ one Bool -/
namespace Go.Proofs.YtdmmlidgipedaaaW.PrintWords
open Go.RowKit
section
variable {P : Program} {d : Nat} {xs ys : Array Value} {f : Field} {fs : List Field} {a b : Value} {r s : Bool} {w : World}
end
end Go.Proofs.YtdmmlidgipedaaaW.PrintWords
