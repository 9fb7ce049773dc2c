-- The print's words, those that this claim needs: wip/prune.py took the others out. Lean checks it.
import Derived.Test.YtfipiohchnaglaaWWords
import Derived.Laws.StructEq
/-! ### 53. '==' of structs as_ one Bool -/
namespace Go.Proofs.YtfipiohchnaglaaW.PrintWords
open Go.RowKit
section
variable {P : Program} {d : Nat} {xs ys : Array Value} {f : Field} {fs : List Field} {a b : Value} {r s : Bool} {w : World}
end
end Go.Proofs.YtfipiohchnaglaaW.PrintWords
