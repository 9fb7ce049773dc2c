-- The print's words, those that this claim needs: wip/prune.py took the others out. Lean checks it.
import Derived.Test.YtfipiohchnaglaaWInv
import Derived.Test.YtfipiohchnaglaaWFootNe
namespace Go.Proofs.YtfipiohchnaglaaW.PrintWords
open Go.RowKit
end Go.Proofs.YtfipiohchnaglaaW.PrintWords
namespace Go.Proofs.YtfipiohchnaglaaW.PrintLast
section
variable {ops : Array Oper} {a : Act} {o og : Oper} {g : Nat} {t : Tmp} {u : Bool}
end
end Go.Proofs.YtfipiohchnaglaaW.PrintLast
