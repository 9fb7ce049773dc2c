-- The print's words, those that this claim needs: wip/prune.py took the others out. Lean checks it.
import Derived.Test.YtlicglgogklnkaaWInv
import Derived.Test.YtlicglgogklnkaaWFootNe
namespace Go.Proofs.YtlicglgogklnkaaW.PrintWords
open Go.RowKit
end Go.Proofs.YtlicglgogklnkaaW.PrintWords
namespace Go.Proofs.YtlicglgogklnkaaW.PrintLast
section
variable {ops : Array Oper} {a : Act} {o og : Oper} {g : Nat} {t : Tmp} {u : Bool}
end
end Go.Proofs.YtlicglgogklnkaaW.PrintLast
