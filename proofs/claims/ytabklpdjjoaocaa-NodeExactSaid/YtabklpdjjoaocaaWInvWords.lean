-- The print's words, those that this claim needs: wip/prune.py took the others out. Lean checks it.
import Derived.Test.YtabklpdjjoaocaaWInv
import Derived.Test.YtabklpdjjoaocaaWFootNe
namespace Go.Proofs.YtabklpdjjoaocaaW.PrintWords
open Go.RowKit
end Go.Proofs.YtabklpdjjoaocaaW.PrintWords
namespace Go.Proofs.YtabklpdjjoaocaaW.PrintLast
section
variable {ops : Array Oper} {a : Act} {o og : Oper} {g : Nat} {t : Tmp} {u : Bool}
end
end Go.Proofs.YtabklpdjjoaocaaW.PrintLast
