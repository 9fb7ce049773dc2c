-- Laid by wip/xprint.py, a program of this session that runs the kit's print with some contracts given by hand; not a text of print.sh. Lean checks it.
import Derived.Test.YtglcmnhaoeohdaaProg
import Derived.Below
import Derived.Deep.Draws
import Derived.Deep.AppendLies
import Derived.Maps.AppendAt
import Derived.OwnWalk
import Derived.Laws.BytesArg
import Derived.Laws.MakeOwn
import Derived.Laws.OwnMore
import Derived.Deep.OwnRows
import Derived.Tactics
import Derived.Lib.ConvBytes
import Derived.Laws.Slices
import Derived.WalkKit
import Derived.KernelRfl
import Derived.RowKit3
import Derived.Deep.LoopGhost
import Derived.Deep.QuietTactic
import Derived.BigQuiet
import Derived.WideLaws
import Derived.Deep.DeepCutAuto
import Derived.Deep.CutBlock
import Derived.Deep.RegionHeld3
import Derived.Laws.Rows
import Derived.Lib.AppendStr
import Derived.ArgAppend
import Derived.Laws.IdiomCopy
import Derived.OrdersHeld
import Derived.Laws.BitsLemmas
import Derived.RowKit
import Derived.Shelf.Abstract
import Derived.Lib.SliceRun
import Derived.Deep.RegionLaw
import Derived.Maps.Own
import Derived.Maps.OwnOps
import Derived.Maps.Views
import Derived.ChangeKeysEq
import Derived.Test.YtglcmnhaoeohdaaWWords
import Derived.Test.YtglcmnhaoeohdaaWLast
import Derived.Test.YtglcmnhaoeohdaaWTab
import Derived.Test.YtglcmnhaoeohdaaWFour
import Derived.Test.YtglcmnhaoeohdaaWQPut
import Derived.Test.YtglcmnhaoeohdaaWApart
import Derived.Test.YtglcmnhaoeohdaaWArr
import Derived.Test.YtglcmnhaoeohdaaWZeros
import Derived.Test.YtglcmnhaoeohdaaWFoot
import Derived.Test.YtglcmnhaoeohdaaWKept
import Derived.Test.YtglcmnhaoeohdaaWShare
import Derived.Test.YtglcmnhaoeohdaaWN
import Derived.Test.YtglcmnhaoeohdaaWFootNe
import Derived.Test.YtglcmnhaoeohdaaWAt
import Derived.Test.YtglcmnhaoeohdaaWEqStruct
import Derived.Test.YtglcmnhaoeohdaaWRepsOne
import Derived.Test.YtglcmnhaoeohdaaWInv
import Derived.Test.YtglcmnhaoeohdaaWInvWords
import Derived.Test.YtglcmnhaoeohdaaWGuard
import Derived.Test.YtglcmnhaoeohdaaWNEv
import Derived.Test.YtglcmnhaoeohdaaWMore
namespace Go.Proofs.Ytglcmnhaoeohdaa.Pr
open Go.RowKit Go.Proofs.YtglcmnhaoeohdaaW.PrintWords Go.Proofs.YtglcmnhaoeohdaaW.PrintLast Go.Proofs.YtglcmnhaoeohdaaW.PrintMore
attribute [local go_sem] max2_int min2_int max_two min_two max_three min_three max_four min_four   -- for this text's walks alone
set_option linter.unusedVariables false
set_option linter.unusedSimpArgs false



def errW : Option Int → Value
  | none => .nilIface
  | some c => .iface 0 (.int .i64 c)
theorem errW_none : errW none = .nilIface := rfl
theorem errW_some (c : Int) : errW (some c) = .iface 0 (.int .i64 c) := rfl

theorem info25 : (Try.prog.info? 25).map (fun i => (i.zero, i.size, i.bytes)) = some (some (.agg #[(.int .i64 0), (.int .i64 0)]), 2, 16) := by kernel_rfl
-- the values' own types
/-! #### struct type 25 -/
structure S25 where
  f0 : Int
  f1 : Int
def z25 : S25 := ⟨(0 : Int), (0 : Int)⟩
def k25 : Kd S25 := Kd.iso (Kd.pair (Kd.int .i64) (Kd.int .i64)) (fun x : S25 => (x.f0, x.f1))
theorem k25_open {w : World} {x : S25} {cs : List Value} (h : k25.K w x cs) : cs = [.int .i64 x.f0, .int .i64 x.f1] := by
  obtain ⟨_, _, rfl, rfl, rfl⟩ := h
  exact rfl
theorem k25_openM {w : World} {base : Nat} {ok : Nat → Prop} {x : S25} {cs : List Value} (h : k25.M w base ok x cs) : cs = [.int .i64 x.f0, .int .i64 x.f1] := by
  obtain ⟨_, _, rfl, rfl, rfl⟩ := h
  exact rfl
theorem k25_mk (w : World) (x : S25)  : k25.K w x [.int .i64 x.f0, .int .i64 x.f1] := ⟨[.int .i64 x.f0], [.int .i64 x.f1], rfl, rfl, rfl⟩
theorem k25_mkM (w : World) (base : Nat) (ok : Nat → Prop) (x : S25)  : k25.M w base ok x [.int .i64 x.f0, .int .i64 x.f1] := ⟨[.int .i64 x.f0], [.int .i64 x.f1], rfl, rfl, rfl⟩
def rd_T25 (xs : List S25) (i : Int) : S25 := xs.getD i.toNat z25
theorem at_T25 {w : World} {A : Option Addr} {n : Nat} {xs : List S25} (h : Kd.C k25 w A n xs) (i : Int) (h0 : 0 ≤ i) (h1 : i < n) : ∃ ad , A = some ad ∧ w.cell? (ad.add (i.toNat * 2)) = some (.int .i64 (rd_T25 xs i).f0) ∧ w.cell? ⟨(ad.add (i.toNat * 2)).block, (ad.add (i.toNat * 2)).off + 1, none⟩ = some (.int .i64 (rd_T25 xs i).f1) := by
  obtain ⟨ad, c, e, _, hK, hc0⟩ := Kd.C_get h z25 i h0 h1
  have hc : ∀ j u, c[j]? = some u → w.cell? (ad.add (i.toNat * 2 + j)) = some u := hc0
  obtain rfl := k25_open hK
  exact ⟨ad, e, hc 0 _ rfl, by rw [← add_field _ _ 1 (by omega)]; exact hc 1 _ rfl⟩

/-- An array's element. -/
def pick2 (x y j : Int) : Int := if j = 0 then x else y
theorem pick2_cell {w : World} {k : IntKind} {a : Addr} {x y : Int} (h0 : w.cell? a = some (.int k x)) (h1 : w.cell? ⟨a.block, a.off + 1, none⟩ = some (.int k y)) (j : Int) (p : 0 ≤ j) (q : j < 2) : w.cell? (a.add j.toNat) = some (.int k (pick2 x y j)) := by
  have hj : j = 0 ∨ j = 1 := by omega
  rcases hj with rfl | rfl
  · exact h0
  · exact h1
theorem FK_slice_own {α : Type} {d : Kd α} {e' e base : Nat} {ok : Nat → Prop} {W : World} {v : Value} {xs : List α} (h : d.R e W base ok v xs) : Kd.FK (Kd.slice e' d) W ok xs [v] := fun W' hW => by
  obtain ⟨A, c, rfl, hl, hc⟩ := Kd.R_reads (Kd.R_step h hW)
  exact ⟨A, c, rfl, hl, hc⟩
theorem R_cells {α : Type} {d : Kd α} {e base : Nat} {ok : Nat → Prop} {W : World} {v : Value} {xs : List α} (h : d.R e W base ok v xs) : Value.cells v = #[v] := by
  obtain ⟨A, c, rfl⟩ := Kd.R_slice h
  rfl
theorem R_stores {P : Program} {α : Type} {d : Kd α} {e base : Nat} {ok : Nat → Prop} {W : World} {v : Value} {xs : List α} (h : d.R e W base ok v xs) (a_ : Addr) (m_ : Mode) (W_ : World) : (store a_ v m_).run P W_ = stored P W_ a_ v m_ := by
  obtain ⟨A, c, rfl⟩ := Kd.R_slice h
  exact run_store_slice _ _ _ _ _ _ _

end Go.Proofs.Ytglcmnhaoeohdaa.Pr
