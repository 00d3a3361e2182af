-- The words that the texts of these laws use (out of the printed words, by a program of this session: the others are struck). Nothing here is trusted: Lean checks it.
-- PRINTED WORDS (module Derived/Print/Sized.lean): go-gate-2's, for the rows of laws over slices: an AI agent of Go's test side, Tue Nov 17 2026; no person has read it. Lean checks it.
import Derived.SizedLaws
import Derived.ChangeSlices
namespace Go.Proofs.YtdmmlidgipedaaaDoorW.PrintWords
open Go.ChangeShapes Go.WideShapes
end Go.Proofs.YtdmmlidgipedaaaDoorW.PrintWords
