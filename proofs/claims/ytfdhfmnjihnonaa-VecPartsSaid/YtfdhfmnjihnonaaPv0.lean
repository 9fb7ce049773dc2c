-- Laid by wip/xprint.py, a program of this session that runs the kit's print with some contracts given by hand; not a text of print.sh. Lean checks it.
import Derived.Test.YtfdhfmnjihnonaaProg
import Derived.Below
import Derived.Deep.Draws
import Derived.Deep.AppendLies
import Derived.Maps.AppendAt
import Derived.OwnWalk
import Derived.Laws.BytesArg
import Derived.Laws.MakeOwn
import Derived.Laws.OwnMore
import Derived.Deep.OwnRows
import Derived.Tactics
import Derived.Lib.ConvBytes
import Derived.Laws.Slices
import Derived.WalkKit
import Derived.KernelRfl
import Derived.RowKit3
import Derived.Deep.LoopGhost
import Derived.Deep.QuietTactic
import Derived.BigQuiet
import Derived.WideLaws
import Derived.Deep.DeepCutAuto
import Derived.Deep.CutBlock
import Derived.Deep.RegionHeld3
import Derived.Laws.Rows
import Derived.Lib.AppendStr
import Derived.ArgAppend
import Derived.Laws.IdiomCopy
import Derived.OrdersHeld
import Derived.Laws.BitsLemmas
import Derived.RowKit
import Derived.Shelf.Abstract
import Derived.Test.YtfdhfmnjihnonaaWWords
import Derived.Test.YtfdhfmnjihnonaaWLast
import Derived.Test.YtfdhfmnjihnonaaWTab
import Derived.Test.YtfdhfmnjihnonaaWFour
import Derived.Test.YtfdhfmnjihnonaaWQPut
import Derived.Test.YtfdhfmnjihnonaaWApart
import Derived.Test.YtfdhfmnjihnonaaWArr
import Derived.Test.YtfdhfmnjihnonaaWZeros
import Derived.Test.YtfdhfmnjihnonaaWFoot
import Derived.Test.YtfdhfmnjihnonaaWKept
import Derived.Test.YtfdhfmnjihnonaaWShare
import Derived.Test.YtfdhfmnjihnonaaWN
import Derived.Test.YtfdhfmnjihnonaaWFootNe
import Derived.Test.YtfdhfmnjihnonaaWAt
import Derived.Test.YtfdhfmnjihnonaaWEqStruct
import Derived.Test.YtfdhfmnjihnonaaWRepsOne
import Derived.Test.YtfdhfmnjihnonaaWInv
import Derived.Test.YtfdhfmnjihnonaaWInvWords
import Derived.Test.YtfdhfmnjihnonaaWGuard
import Derived.Test.YtfdhfmnjihnonaaWNEv
import Derived.Test.YtfdhfmnjihnonaaWMore
namespace Go.Proofs.Ytfdhfmnjihnonaa.Pv
open Go.RowKit Go.Proofs.YtfdhfmnjihnonaaW.PrintWords Go.Proofs.YtfdhfmnjihnonaaW.PrintLast Go.Proofs.YtfdhfmnjihnonaaW.PrintMore
attribute [local go_sem] max2_int min2_int max_two min_two max_three min_three max_four min_four   -- for this text's walks alone
set_option linter.unusedVariables false
set_option linter.unusedSimpArgs false



def errW : Option Int → Value
  | none => .nilIface
  | some c => .iface 0 (.int .i64 c)
theorem errW_none : errW none = .nilIface := rfl
theorem errW_some (c : Int) : errW (some c) = .iface 0 (.int .i64 c) := rfl

theorem info3 : (Try.prog.info? 3).map (fun i => (i.zero, i.size, i.bytes)) = some (some (.int .i64 0), 1, 8) := by kernel_rfl
-- the values' own types

end Go.Proofs.Ytfdhfmnjihnonaa.Pv
