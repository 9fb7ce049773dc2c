-- Laid by wip/xprint.py, a program of this session that runs the kit's print with some contracts given by hand; not a text of print.sh. Lean checks it.
import Derived.Test.YtjleanpblijoaaaProg
import Derived.Below
import Derived.Deep.Draws
import Derived.Deep.AppendLies
import Derived.Maps.AppendAt
import Derived.OwnWalk
import Derived.Laws.BytesArg
import Derived.Laws.MakeOwn
import Derived.Laws.OwnMore
import Derived.Deep.OwnRows
import Derived.Tactics
import Derived.Lib.ConvBytes
import Derived.Laws.Slices
import Derived.WalkKit
import Derived.KernelRfl
import Derived.RowKit3
import Derived.Deep.LoopGhost
import Derived.Deep.QuietTactic
import Derived.BigQuiet
import Derived.WideLaws
import Derived.Deep.DeepCutAuto
import Derived.Deep.CutBlock
import Derived.Deep.RegionHeld3
import Derived.Laws.Rows
import Derived.Lib.AppendStr
import Derived.ArgAppend
import Derived.Laws.IdiomCopy
import Derived.OrdersHeld
import Derived.Laws.BitsLemmas
import Derived.RowKit
import Derived.Shelf.Abstract
import Derived.Lib.SliceRun
import Derived.Deep.RegionLaw
import Derived.Test.YtjleanpblijoaaaWWords
import Derived.Test.YtjleanpblijoaaaWLast
import Derived.Test.YtjleanpblijoaaaWTab
import Derived.Test.YtjleanpblijoaaaWFour
import Derived.Test.YtjleanpblijoaaaWQPut
import Derived.Test.YtjleanpblijoaaaWApart
import Derived.Test.YtjleanpblijoaaaWArr
import Derived.Test.YtjleanpblijoaaaWZeros
import Derived.Test.YtjleanpblijoaaaWFoot
import Derived.Test.YtjleanpblijoaaaWKept
import Derived.Test.YtjleanpblijoaaaWShare
import Derived.Test.YtjleanpblijoaaaWN
import Derived.Test.YtjleanpblijoaaaWFootNe
import Derived.Test.YtjleanpblijoaaaWAt
import Derived.Test.YtjleanpblijoaaaWEqStruct
import Derived.Test.YtjleanpblijoaaaWRepsOne
import Derived.Test.YtjleanpblijoaaaWInv
import Derived.Test.YtjleanpblijoaaaWInvWords
import Derived.Test.YtjleanpblijoaaaWGuard
import Derived.Test.YtjleanpblijoaaaWNEv
import Derived.Test.YtjleanpblijoaaaWMore
namespace Go.Proofs.Ytjleanpblijoaaa.Pr
open Go.RowKit Go.Proofs.YtjleanpblijoaaaW.PrintWords Go.Proofs.YtjleanpblijoaaaW.PrintLast Go.Proofs.YtjleanpblijoaaaW.PrintMore
attribute [local go_sem] max2_int min2_int max_two min_two max_three min_three max_four min_four   -- for this text's walks alone
set_option linter.unusedVariables false
set_option linter.unusedSimpArgs false



def errW : Option Int → Value
  | none => .nilIface
  | some c => .iface 0 (.int .i64 c)
theorem errW_none : errW none = .nilIface := rfl
theorem errW_some (c : Int) : errW (some c) = .iface 0 (.int .i64 c) := rfl

theorem info9 : (Try.prog.info? 9).map (fun i => (i.zero, i.size, i.bytes)) = some (some (.string ⟨#[]⟩), 1, 16) := by kernel_rfl
-- the values' own types

theorem FK_slice_own {α : Type} {d : Kd α} {e' e base : Nat} {ok : Nat → Prop} {W : World} {v : Value} {xs : List α} (h : d.R e W base ok v xs) : Kd.FK (Kd.slice e' d) W ok xs [v] := fun W' hW => by
  obtain ⟨A, c, rfl, hl, hc⟩ := Kd.R_reads (Kd.R_step h hW)
  exact ⟨A, c, rfl, hl, hc⟩
theorem R_cells {α : Type} {d : Kd α} {e base : Nat} {ok : Nat → Prop} {W : World} {v : Value} {xs : List α} (h : d.R e W base ok v xs) : Value.cells v = #[v] := by
  obtain ⟨A, c, rfl⟩ := Kd.R_slice h
  rfl
theorem R_stores {P : Program} {α : Type} {d : Kd α} {e base : Nat} {ok : Nat → Prop} {W : World} {v : Value} {xs : List α} (h : d.R e W base ok v xs) (a_ : Addr) (m_ : Mode) (W_ : World) : (store a_ v m_).run P W_ = stored P W_ a_ v m_ := by
  obtain ⟨A, c, rfl⟩ := Kd.R_slice h
  exact run_store_slice _ _ _ _ _ _ _

end Go.Proofs.Ytjleanpblijoaaa.Pr
