-- Laid by wip/xprint.py, a program of this session that runs the kit's print with some contracts given by hand; not a text of print.sh. Lean checks it.
import Derived.Test.YtjhekeddpjhimaaProg
import Derived.Below
import Derived.Deep.Draws
import Derived.Deep.AppendLies
import Derived.Maps.AppendAt
import Derived.OwnWalk
import Derived.Laws.BytesArg
import Derived.Laws.MakeOwn
import Derived.Laws.OwnMore
import Derived.Deep.OwnRows
import Derived.Tactics
import Derived.Lib.ConvBytes
import Derived.Laws.Slices
import Derived.WalkKit
import Derived.KernelRfl
import Derived.RowKit3
import Derived.Deep.LoopGhost
import Derived.Deep.QuietTactic
import Derived.BigQuiet
import Derived.WideLaws
import Derived.Deep.DeepCutAuto
import Derived.Deep.CutBlock
import Derived.Deep.RegionHeld3
import Derived.Laws.Rows
import Derived.Lib.AppendStr
import Derived.ArgAppend
import Derived.Laws.IdiomCopy
import Derived.OrdersHeld
import Derived.Laws.BitsLemmas
import Derived.RowKit
import Derived.Shelf.Abstract
import Derived.Lib.SliceRun
import Derived.Deep.RegionLaw
import Derived.Maps.Own
import Derived.Maps.OwnOps
import Derived.Maps.Views
import Derived.ChangeKeysEq
import Derived.Test.YtjhekeddpjhimaaWWords
import Derived.Test.YtjhekeddpjhimaaWLast
import Derived.Test.YtjhekeddpjhimaaWTab
import Derived.Test.YtjhekeddpjhimaaWFour
import Derived.Test.YtjhekeddpjhimaaWQPut
import Derived.Test.YtjhekeddpjhimaaWApart
import Derived.Test.YtjhekeddpjhimaaWArr
import Derived.Test.YtjhekeddpjhimaaWZeros
import Derived.Test.YtjhekeddpjhimaaWFoot
import Derived.Test.YtjhekeddpjhimaaWKept
import Derived.Test.YtjhekeddpjhimaaWShare
import Derived.Test.YtjhekeddpjhimaaWN
import Derived.Test.YtjhekeddpjhimaaWFootNe
import Derived.Test.YtjhekeddpjhimaaWAt
import Derived.Test.YtjhekeddpjhimaaWEqStruct
import Derived.Test.YtjhekeddpjhimaaWRepsOne
import Derived.Test.YtjhekeddpjhimaaWInv
import Derived.Test.YtjhekeddpjhimaaWInvWords
import Derived.Test.YtjhekeddpjhimaaWGuard
import Derived.Test.YtjhekeddpjhimaaWNEv
import Derived.Test.YtjhekeddpjhimaaWMore
namespace Go.Proofs.Ytjhekeddpjhimaa.Pr
open Go.RowKit Go.Proofs.YtjhekeddpjhimaaW.PrintWords Go.Proofs.YtjhekeddpjhimaaW.PrintLast Go.Proofs.YtjhekeddpjhimaaW.PrintMore
attribute [local go_sem] max2_int min2_int max_two min_two max_three min_three max_four min_four   -- for this text's walks alone
set_option linter.unusedVariables false
set_option linter.unusedSimpArgs false



def errW : Option Int → Value
  | none => .nilIface
  | some c => .iface 0 (.int .i64 c)
theorem errW_none : errW none = .nilIface := rfl
theorem errW_some (c : Int) : errW (some c) = .iface 0 (.int .i64 c) := rfl

theorem info3 : (Try.prog.info? 3).map (fun i => (i.zero, i.size, i.bytes)) = some (some (.int .i64 0), 1, 8) := by kernel_rfl
-- the values' own types

theorem V_cell_after {α : Type} {d : Kd α} {e base n c : Nat} {ok : Nat → Prop} {W w1 : World} {ad a : Addr} {v x : Value} {xs : List α} (h : Kd.V d e W base (fun k => ok k ∧ some k ≠ v.ownBlock) (.slice (some ad) n c) xs) (hg : W.grownBy w1 v.ownBlock) (hn : 0 < n) (hs : 0 < d.sz) (ha : a.block = ad.block) (hc : W.cell? a = some x) : w1.cell? a = some x :=
  cell_grown hg hc (by have := Kd.F_in (Kd.V_F h) rfl hn hs; rw [ha]; exact this.2)
theorem FK_slice_own {α : Type} {d : Kd α} {e' e base : Nat} {ok : Nat → Prop} {W : World} {v : Value} {xs : List α} (h : d.R e W base ok v xs) : Kd.FK (Kd.slice e' d) W ok xs [v] := fun W' hW => by
  obtain ⟨A, c, rfl, hl, hc⟩ := Kd.R_reads (Kd.R_step h hW)
  exact ⟨A, c, rfl, hl, hc⟩
theorem R_cells {α : Type} {d : Kd α} {e base : Nat} {ok : Nat → Prop} {W : World} {v : Value} {xs : List α} (h : d.R e W base ok v xs) : Value.cells v = #[v] := by
  obtain ⟨A, c, rfl⟩ := Kd.R_slice h
  rfl
theorem R_stores {P : Program} {α : Type} {d : Kd α} {e base : Nat} {ok : Nat → Prop} {W : World} {v : Value} {xs : List α} (h : d.R e W base ok v xs) (a_ : Addr) (m_ : Mode) (W_ : World) : (store a_ v m_).run P W_ = stored P W_ a_ v m_ := by
  obtain ⟨A, c, rfl⟩ := Kd.R_slice h
  exact run_store_slice _ _ _ _ _ _ _

end Go.Proofs.Ytjhekeddpjhimaa.Pr
