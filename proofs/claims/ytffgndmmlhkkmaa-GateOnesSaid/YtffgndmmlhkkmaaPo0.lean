-- Laid by wip/xprint.py, a program of this session that runs the kit's print with some contracts given by hand; not a text of print.sh. Lean checks it.
import Derived.Test.YtffgndmmlhkkmaaProg
import Derived.Below
import Derived.Deep.Draws
import Derived.Deep.AppendLies
import Derived.Maps.AppendAt
import Derived.OwnWalk
import Derived.Laws.BytesArg
import Derived.Laws.MakeOwn
import Derived.Laws.OwnMore
import Derived.Deep.OwnRows
import Derived.Tactics
import Derived.Lib.ConvBytes
import Derived.Laws.Slices
import Derived.WalkKit
import Derived.KernelRfl
import Derived.RowKit3
import Derived.Deep.LoopGhost
import Derived.Deep.QuietTactic
import Derived.BigQuiet
import Derived.WideLaws
import Derived.Deep.DeepCutAuto
import Derived.Deep.CutBlock
import Derived.Deep.RegionHeld3
import Derived.Laws.Rows
import Derived.Lib.AppendStr
import Derived.ArgAppend
import Derived.Laws.IdiomCopy
import Derived.OrdersHeld
import Derived.Laws.BitsLemmas
import Derived.RowKit
import Derived.Shelf.Abstract
import Derived.Lib.SliceRun
import Derived.Deep.RegionLaw
import Derived.Maps.Own
import Derived.Maps.OwnOps
import Derived.Maps.Views
import Derived.ChangeKeysEq
import Derived.Test.YtffgndmmlhkkmaaWWords
import Derived.Test.YtffgndmmlhkkmaaWLast
import Derived.Test.YtffgndmmlhkkmaaWTab
import Derived.Test.YtffgndmmlhkkmaaWFour
import Derived.Test.YtffgndmmlhkkmaaWQPut
import Derived.Test.YtffgndmmlhkkmaaWApart
import Derived.Test.YtffgndmmlhkkmaaWArr
import Derived.Test.YtffgndmmlhkkmaaWZeros
import Derived.Test.YtffgndmmlhkkmaaWFoot
import Derived.Test.YtffgndmmlhkkmaaWKept
import Derived.Test.YtffgndmmlhkkmaaWShare
import Derived.Test.YtffgndmmlhkkmaaWN
import Derived.Test.YtffgndmmlhkkmaaWFootNe
import Derived.Test.YtffgndmmlhkkmaaWAt
import Derived.Test.YtffgndmmlhkkmaaWEqStruct
import Derived.Test.YtffgndmmlhkkmaaWRepsOne
import Derived.Test.YtffgndmmlhkkmaaWInv
import Derived.Test.YtffgndmmlhkkmaaWInvWords
import Derived.Test.YtffgndmmlhkkmaaWGuard
import Derived.Test.YtffgndmmlhkkmaaWNEv
import Derived.Test.YtffgndmmlhkkmaaWMore
namespace Go.Proofs.Ytffgndmmlhkkmaa.Po
open Go.RowKit Go.Proofs.YtffgndmmlhkkmaaW.PrintWords Go.Proofs.YtffgndmmlhkkmaaW.PrintLast Go.Proofs.YtffgndmmlhkkmaaW.PrintMore
attribute [local go_sem] max2_int min2_int max_two min_two max_three min_three max_four min_four   -- for this text's walks alone
set_option linter.unusedVariables false
set_option linter.unusedSimpArgs false



def errW : Option Int → Value
  | none => .nilIface
  | some c => .iface 0 (.int .i64 c)
theorem errW_none : errW none = .nilIface := rfl
theorem errW_some (c : Int) : errW (some c) = .iface 0 (.int .i64 c) := rfl

theorem info3 : (Try.prog.info? 3).map (fun i => (i.zero, i.size, i.bytes)) = some (some (.int .i64 0), 1, 8) := by kernel_rfl
theorem info23 : (Try.prog.info? 23).map (fun i => (i.zero, i.size, i.bytes)) = some (some (.slice none 0 0), 1, 24) := by kernel_rfl
-- the values' own types
def rd_L1 (xs : List (List Int)) (i : Int) : (List Int) := xs.getD i.toNat ([] : List Int)
theorem at_L1 {w : World} {A : Option Addr} {n : Nat} {xs : List (List Int)} (h : Kd.C (Kd.slice 3 (Kd.int .i64)) w A n xs) (i : Int) (h0 : 0 ≤ i) (h1 : i < n) : ∃ ad A0 c0, A = some ad ∧ w.cell? (ad.add i.toNat) = some (.slice A0 (rd_L1 xs i).length c0) ∧ (rd_L1 xs i).length ≤ c0 ∧ (Kd.int .i64).C w A0 (rd_L1 xs i).length (rd_L1 xs i) := by
  obtain ⟨ad, c, e, _, hK, hc0⟩ := Kd.C_get h ([] : List Int) i h0 h1
  have hc : ∀ j u, c[j]? = some u → w.cell? (ad.add (i.toNat * 1 + j)) = some u := hc0
  obtain ⟨A0, c0, rfl, l0, g0⟩ := hK
  exact ⟨ad, A0, c0, e, by have hq := hc 0 _ rfl; rwa [Nat.mul_one, Nat.add_zero] at hq, l0, g0⟩

theorem FK_slice_own {α : Type} {d : Kd α} {e' e base : Nat} {ok : Nat → Prop} {W : World} {v : Value} {xs : List α} (h : d.R e W base ok v xs) : Kd.FK (Kd.slice e' d) W ok xs [v] := fun W' hW => by
  obtain ⟨A, c, rfl, hl, hc⟩ := Kd.R_reads (Kd.R_step h hW)
  exact ⟨A, c, rfl, hl, hc⟩
theorem R_cells {α : Type} {d : Kd α} {e base : Nat} {ok : Nat → Prop} {W : World} {v : Value} {xs : List α} (h : d.R e W base ok v xs) : Value.cells v = #[v] := by
  obtain ⟨A, c, rfl⟩ := Kd.R_slice h
  rfl
theorem R_stores {P : Program} {α : Type} {d : Kd α} {e base : Nat} {ok : Nat → Prop} {W : World} {v : Value} {xs : List α} (h : d.R e W base ok v xs) (a_ : Addr) (m_ : Mode) (W_ : World) : (store a_ v m_).run P W_ = stored P W_ a_ v m_ := by
  obtain ⟨A, c, rfl⟩ := Kd.R_slice h
  exact run_store_slice _ _ _ _ _ _ _

end Go.Proofs.Ytffgndmmlhkkmaa.Po
