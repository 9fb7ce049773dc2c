-- Laid by wip/xprint.py, a program of this session that runs the kit's print with some contracts given by hand; not a text of print.sh. Lean checks it.
import Derived.Test.YtcbngoldidhfmaaProg
import Derived.Below
import Derived.Deep.Draws
import Derived.Deep.AppendLies
import Derived.Maps.AppendAt
import Derived.OwnWalk
import Derived.Laws.BytesArg
import Derived.Laws.MakeOwn
import Derived.Laws.OwnMore
import Derived.Deep.OwnRows
import Derived.Tactics
import Derived.Lib.ConvBytes
import Derived.Laws.Slices
import Derived.WalkKit
import Derived.KernelRfl
import Derived.RowKit3
import Derived.Deep.LoopGhost
import Derived.Deep.QuietTactic
import Derived.BigQuiet
import Derived.WideLaws
import Derived.Deep.DeepCutAuto
import Derived.Deep.CutBlock
import Derived.Deep.RegionHeld3
import Derived.Laws.Rows
import Derived.Lib.AppendStr
import Derived.ArgAppend
import Derived.Laws.IdiomCopy
import Derived.OrdersHeld
import Derived.Laws.BitsLemmas
import Derived.RowKit
import Derived.Shelf.Abstract
import Derived.Lib.SliceRun
import Derived.Deep.RegionLaw
import Derived.Maps.Own
import Derived.Maps.OwnOps
import Derived.Maps.Views
import Derived.ChangeKeysEq
import Derived.Test.YtcbngoldidhfmaaWWords
import Derived.Test.YtcbngoldidhfmaaWLast
import Derived.Test.YtcbngoldidhfmaaWTab
import Derived.Test.YtcbngoldidhfmaaWFour
import Derived.Test.YtcbngoldidhfmaaWQPut
import Derived.Test.YtcbngoldidhfmaaWApart
import Derived.Test.YtcbngoldidhfmaaWArr
import Derived.Test.YtcbngoldidhfmaaWZeros
import Derived.Test.YtcbngoldidhfmaaWFoot
import Derived.Test.YtcbngoldidhfmaaWKept
import Derived.Test.YtcbngoldidhfmaaWShare
import Derived.Test.YtcbngoldidhfmaaWN
import Derived.Test.YtcbngoldidhfmaaWFootNe
import Derived.Test.YtcbngoldidhfmaaWAt
import Derived.Test.YtcbngoldidhfmaaWEqStruct
import Derived.Test.YtcbngoldidhfmaaWRepsOne
import Derived.Test.YtcbngoldidhfmaaWInv
import Derived.Test.YtcbngoldidhfmaaWInvWords
import Derived.Test.YtcbngoldidhfmaaWGuard
import Derived.Test.YtcbngoldidhfmaaWNEv
import Derived.Test.YtcbngoldidhfmaaWMore
namespace Go.Proofs.Ytcbngoldidhfmaa.Pf
open Go.RowKit Go.Proofs.YtcbngoldidhfmaaW.PrintWords Go.Proofs.YtcbngoldidhfmaaW.PrintLast Go.Proofs.YtcbngoldidhfmaaW.PrintMore
attribute [local go_sem] max2_int min2_int max_two min_two max_three min_three max_four min_four   -- for this text's walks alone
set_option linter.unusedVariables false
set_option linter.unusedSimpArgs false



def errW : Option Int → Value
  | none => .nilIface
  | some c => .iface 0 (.int .i64 c)
theorem errW_none : errW none = .nilIface := rfl
theorem errW_some (c : Int) : errW (some c) = .iface 0 (.int .i64 c) := rfl

theorem info3 : (Try.prog.info? 3).map (fun i => (i.zero, i.size, i.bytes)) = some (some (.int .i64 0), 1, 8) := by kernel_rfl
theorem info29 : (Try.prog.info? 29).map (fun i => (i.zero, i.size, i.bytes)) = some (some (.agg #[(.int .i64 0), (.int .i64 0), (.int .i64 0), (.int .i64 0), (.slice none 0 0)]), 5, 56) := by kernel_rfl
-- the values' own types
/-! #### struct type 24 -/
structure S24 where
  f0 : Int
  f1 : Int
  f2 : Int
  f3 : Int
def z24 : S24 := ⟨(0 : Int), (0 : Int), (0 : Int), (0 : Int)⟩
def k24 : Kd S24 := Kd.iso (Kd.pair (Kd.int .i64) (Kd.pair (Kd.int .i64) (Kd.pair (Kd.int .i64) (Kd.int .i64)))) (fun x : S24 => (x.f0, x.f1, x.f2, x.f3))
theorem k24_open {w : World} {x : S24} {cs : List Value} (h : k24.K w x cs) : cs = [.int .i64 x.f0, .int .i64 x.f1, .int .i64 x.f2, .int .i64 x.f3] := by
  obtain ⟨_, _, rfl, rfl, ⟨_, _, rfl, rfl, ⟨_, _, rfl, rfl, rfl⟩⟩⟩ := h
  exact rfl
theorem k24_openM {w : World} {base : Nat} {ok : Nat → Prop} {x : S24} {cs : List Value} (h : k24.M w base ok x cs) : cs = [.int .i64 x.f0, .int .i64 x.f1, .int .i64 x.f2, .int .i64 x.f3] := by
  obtain ⟨_, _, rfl, rfl, ⟨_, _, rfl, rfl, ⟨_, _, rfl, rfl, rfl⟩⟩⟩ := h
  exact rfl
theorem k24_mk (w : World) (x : S24)  : k24.K w x [.int .i64 x.f0, .int .i64 x.f1, .int .i64 x.f2, .int .i64 x.f3] := ⟨[.int .i64 x.f0], [.int .i64 x.f1, .int .i64 x.f2, .int .i64 x.f3], rfl, rfl, ⟨[.int .i64 x.f1], [.int .i64 x.f2, .int .i64 x.f3], rfl, rfl, ⟨[.int .i64 x.f2], [.int .i64 x.f3], rfl, rfl, rfl⟩⟩⟩
theorem k24_mkM (w : World) (base : Nat) (ok : Nat → Prop) (x : S24)  : k24.M w base ok x [.int .i64 x.f0, .int .i64 x.f1, .int .i64 x.f2, .int .i64 x.f3] := ⟨[.int .i64 x.f0], [.int .i64 x.f1, .int .i64 x.f2, .int .i64 x.f3], rfl, rfl, ⟨[.int .i64 x.f1], [.int .i64 x.f2, .int .i64 x.f3], rfl, rfl, ⟨[.int .i64 x.f2], [.int .i64 x.f3], rfl, rfl, rfl⟩⟩⟩
theorem k24_mkF (W : World) (ok : Nat → Prop) (x : S24) : Kd.FK k24 W ok x [.int .i64 x.f0, .int .i64 x.f1, .int .i64 x.f2, .int .i64 x.f3] := fun W2 _ => k24_mk W2 x
def rd_T24 (xs : List S24) (i : Int) : S24 := xs.getD i.toNat z24
theorem at_T24 {w : World} {A : Option Addr} {n : Nat} {xs : List S24} (h : Kd.C k24 w A n xs) (i : Int) (h0 : 0 ≤ i) (h1 : i < n) : ∃ ad , A = some ad ∧ w.cell? (ad.add (i.toNat * 4)) = some (.int .i64 (rd_T24 xs i).f0) ∧ w.cell? ⟨(ad.add (i.toNat * 4)).block, (ad.add (i.toNat * 4)).off + 1, none⟩ = some (.int .i64 (rd_T24 xs i).f1) ∧ w.cell? ⟨(ad.add (i.toNat * 4)).block, (ad.add (i.toNat * 4)).off + 2, none⟩ = some (.int .i64 (rd_T24 xs i).f2) ∧ w.cell? ⟨(ad.add (i.toNat * 4)).block, (ad.add (i.toNat * 4)).off + 3, none⟩ = some (.int .i64 (rd_T24 xs i).f3) := by
  obtain ⟨ad, c, e, _, hK, hc0⟩ := Kd.C_get h z24 i h0 h1
  have hc : ∀ j u, c[j]? = some u → w.cell? (ad.add (i.toNat * 4 + j)) = some u := hc0
  obtain rfl := k24_open hK
  exact ⟨ad, e, hc 0 _ rfl, by rw [← add_field _ _ 1 (by omega)]; exact hc 1 _ rfl, by rw [← add_field _ _ 2 (by omega)]; exact hc 2 _ rfl, by rw [← add_field _ _ 3 (by omega)]; exact hc 3 _ rfl⟩

def rd_L2 (xs : List (List Int)) (i : Int) : (List Int) := xs.getD i.toNat ([] : List Int)
theorem at_L2 {w : World} {A : Option Addr} {n : Nat} {xs : List (List Int)} (h : Kd.C (Kd.slice 3 (Kd.int .i64)) w A n xs) (i : Int) (h0 : 0 ≤ i) (h1 : i < n) : ∃ ad A0 c0, A = some ad ∧ w.cell? (ad.add i.toNat) = some (.slice A0 (rd_L2 xs i).length c0) ∧ (rd_L2 xs i).length ≤ c0 ∧ (Kd.int .i64).C w A0 (rd_L2 xs i).length (rd_L2 xs i) := by
  obtain ⟨ad, c, e, _, hK, hc0⟩ := Kd.C_get h ([] : List Int) i h0 h1
  have hc : ∀ j u, c[j]? = some u → w.cell? (ad.add (i.toNat * 1 + j)) = some u := hc0
  obtain ⟨A0, c0, rfl, l0, g0⟩ := hK
  exact ⟨ad, A0, c0, e, by have hq := hc 0 _ rfl; rwa [Nat.mul_one, Nat.add_zero] at hq, l0, g0⟩

/-! #### struct type 29 -/
structure S29 where
  f0 : S24
  f1 : (List Int)
def z29 : S29 := ⟨z24, ([] : List Int)⟩
def k29 : Kd S29 := Kd.iso (Kd.pair k24 (Kd.slice 3 (Kd.int .i64))) (fun x : S29 => (x.f0, x.f1))
theorem k29_open {w : World} {x : S29} {cs : List Value} (h : k29.K w x cs) : ∃ A4 c4, cs = [.int .i64 x.f0.f0, .int .i64 x.f0.f1, .int .i64 x.f0.f2, .int .i64 x.f0.f3, .slice A4 x.f1.length c4] ∧ x.f1.length ≤ c4 ∧ (Kd.int .i64).C w A4 x.f1.length x.f1 := by
  obtain ⟨_, _, rfl, s0, ⟨A4, c4, rfl, l4, g4⟩⟩ := h
  obtain rfl := k24_open s0
  exact ⟨A4, c4, rfl, l4, g4⟩
theorem k29_openM {w : World} {base : Nat} {ok : Nat → Prop} {x : S29} {cs : List Value} (h : k29.M w base ok x cs) : ∃ v4, cs = [.int .i64 x.f0.f0, .int .i64 x.f0.f1, .int .i64 x.f0.f2, .int .i64 x.f0.f3, v4] ∧ (Kd.int .i64).R 3 w base ok v4 x.f1 := by
  obtain ⟨_, _, rfl, s0, ⟨v4, rfl, g4⟩⟩ := h
  obtain rfl := k24_openM s0
  exact ⟨v4, rfl, g4⟩
theorem k29_mk (w : World) (x : S29) {A4 : Option Addr} {c4 : Nat} (l4 : x.f1.length ≤ c4) (g4 : (Kd.int .i64).C w A4 x.f1.length x.f1) : k29.K w x [.int .i64 x.f0.f0, .int .i64 x.f0.f1, .int .i64 x.f0.f2, .int .i64 x.f0.f3, .slice A4 x.f1.length c4] := ⟨[.int .i64 x.f0.f0, .int .i64 x.f0.f1, .int .i64 x.f0.f2, .int .i64 x.f0.f3], [.slice A4 x.f1.length c4], rfl, (k24_mk w x.f0 ), ⟨A4, c4, rfl, l4, g4⟩⟩
theorem k29_mkM (w : World) (base : Nat) (ok : Nat → Prop) (x : S29) {v4 : Value} (g4 : (Kd.int .i64).R 3 w base ok v4 x.f1) : k29.M w base ok x [.int .i64 x.f0.f0, .int .i64 x.f0.f1, .int .i64 x.f0.f2, .int .i64 x.f0.f3, v4] := ⟨[.int .i64 x.f0.f0, .int .i64 x.f0.f1, .int .i64 x.f0.f2, .int .i64 x.f0.f3], [v4], rfl, (k24_mkM w base ok x.f0 ), ⟨v4, rfl, g4⟩⟩
theorem k29_openF {W : World} {ok : Nat → Prop} {x : S29} {cs : List Value} (h : Kd.FK k29 W ok x cs) : ∃ A4 c4, cs = [.int .i64 x.f0.f0, .int .i64 x.f0.f1, .int .i64 x.f0.f2, .int .i64 x.f0.f3, .slice A4 x.f1.length c4] ∧ x.f1.length ≤ c4 ∧ Kd.F (Kd.int .i64) W ok A4 x.f1.length x.f1 := by
  obtain ⟨A4, c4, rfl, l4, _⟩ := k29_open (Kd.FK_now h)
  exact ⟨A4, c4, rfl, l4, (fun W' hW => by obtain ⟨A4_, c4_, he, l4_, g4_⟩ := k29_open (h W' hW); injection (Option.some.inj (show some (Value.slice A4 x.f1.length c4) = some (Value.slice A4_ x.f1.length c4_) from congrArg (fun l => l[4]?) he)) with ha_ _ _; rw [ha_]; exact g4_)⟩
theorem k29_mkF (W : World) (ok : Nat → Prop) (x : S29) {A4 : Option Addr} {c4 : Nat} (l4 : x.f1.length ≤ c4) (g4 : Kd.F (Kd.int .i64) W ok A4 x.f1.length x.f1) : Kd.FK k29 W ok x [.int .i64 x.f0.f0, .int .i64 x.f0.f1, .int .i64 x.f0.f2, .int .i64 x.f0.f3, .slice A4 x.f1.length c4] := fun W2 hW => k29_mk W2 x l4 (g4 W2 hW)
def rd_T29 (xs : List S29) (i : Int) : S29 := xs.getD i.toNat z29
theorem at_T29 {w : World} {A : Option Addr} {n : Nat} {xs : List S29} (h : Kd.C k29 w A n xs) (i : Int) (h0 : 0 ≤ i) (h1 : i < n) : ∃ ad A4 c4, A = some ad ∧ w.cell? (ad.add (i.toNat * 5)) = some (.int .i64 (rd_T29 xs i).f0.f0) ∧ w.cell? ⟨(ad.add (i.toNat * 5)).block, (ad.add (i.toNat * 5)).off + 1, none⟩ = some (.int .i64 (rd_T29 xs i).f0.f1) ∧ w.cell? ⟨(ad.add (i.toNat * 5)).block, (ad.add (i.toNat * 5)).off + 2, none⟩ = some (.int .i64 (rd_T29 xs i).f0.f2) ∧ w.cell? ⟨(ad.add (i.toNat * 5)).block, (ad.add (i.toNat * 5)).off + 3, none⟩ = some (.int .i64 (rd_T29 xs i).f0.f3) ∧ w.cell? ⟨(ad.add (i.toNat * 5)).block, (ad.add (i.toNat * 5)).off + 4, none⟩ = some (.slice A4 (rd_T29 xs i).f1.length c4) ∧ (rd_T29 xs i).f1.length ≤ c4 ∧ (Kd.int .i64).C w A4 (rd_T29 xs i).f1.length (rd_T29 xs i).f1 := by
  obtain ⟨ad, c, e, _, hK, hc0⟩ := Kd.C_get h z29 i h0 h1
  have hc : ∀ j u, c[j]? = some u → w.cell? (ad.add (i.toNat * 5 + j)) = some u := hc0
  obtain ⟨A4, c4, rfl, l4, g4⟩ := k29_open hK
  exact ⟨ad, A4, c4, e, hc 0 _ rfl, by rw [← add_field _ _ 1 (by omega)]; exact hc 1 _ rfl, by rw [← add_field _ _ 2 (by omega)]; exact hc 2 _ rfl, by rw [← add_field _ _ 3 (by omega)]; exact hc 3 _ rfl, by rw [← add_field _ _ 4 (by omega)]; exact hc 4 _ rfl, l4, g4⟩

/-- An array's element. -/
def pick2 (x y j : Int) : Int := if j = 0 then x else y
theorem pick2_cell {w : World} {k : IntKind} {a : Addr} {x y : Int} (h0 : w.cell? a = some (.int k x)) (h1 : w.cell? ⟨a.block, a.off + 1, none⟩ = some (.int k y)) (j : Int) (p : 0 ≤ j) (q : j < 2) : w.cell? (a.add j.toNat) = some (.int k (pick2 x y j)) := by
  have hj : j = 0 ∨ j = 1 := by omega
  rcases hj with rfl | rfl
  · exact h0
  · exact h1
theorem pick2_of {P : Program} {t : TypeId} {k : IntKind} {x y : Int} (h0 : ∀ W : World, (Instr.index t (.agg #[.int k x, .int k y]) (.int .i64 0)).run P W = .ok (.int k x) W) (h1 : ∀ W : World, (Instr.index t (.agg #[.int k x, .int k y]) (.int .i64 1)).run P W = .ok (.int k y) W) (j : Int) (p : 0 ≤ j) (q : j < 2) (W : World) : (Instr.index t (.agg #[.int k x, .int k y]) (.int .i64 j)).run P W = .ok (.int k (pick2 x y j)) W := by
  have hj : j = 0 ∨ j = 1 := by omega
  rcases hj with rfl | rfl
  · exact h0 W
  · exact h1 W
theorem V_told_R {α : Type} {d : Kd α} {e base base' : Nat} {P Q S : Nat → Prop} {W : World} {v : Value} {xs : List α} (h : d.R e W base (fun k => Q k ∧ S k) v xs) : Kd.V d e W base' (fun k => (P k ∨ Q k) ∧ S k) v xs := Kd.V_mono (Kd.R_V (base' := base') h) (fun _ hk => ⟨.inr hk.1, hk.2⟩)
theorem V_told_R1 {α : Type} {d : Kd α} {e base base' : Nat} {P Q : Nat → Prop} {W : World} {v : Value} {xs : List α} (h : d.R e W base (fun k => Q k) v xs) : Kd.V d e W base' (fun k => P k ∨ Q k) v xs := Kd.V_mono (Kd.R_V (base' := base') h) (fun _ hk => .inr hk)
theorem FK_slice_own {α : Type} {d : Kd α} {e' e base : Nat} {ok : Nat → Prop} {W : World} {v : Value} {xs : List α} (h : d.R e W base ok v xs) : Kd.FK (Kd.slice e' d) W ok xs [v] := fun W' hW => by
  obtain ⟨A, c, rfl, hl, hc⟩ := Kd.R_reads (Kd.R_step h hW)
  exact ⟨A, c, rfl, hl, hc⟩
theorem R_cells {α : Type} {d : Kd α} {e base : Nat} {ok : Nat → Prop} {W : World} {v : Value} {xs : List α} (h : d.R e W base ok v xs) : Value.cells v = #[v] := by
  obtain ⟨A, c, rfl⟩ := Kd.R_slice h
  rfl
theorem R_stores {P : Program} {α : Type} {d : Kd α} {e base : Nat} {ok : Nat → Prop} {W : World} {v : Value} {xs : List α} (h : d.R e W base ok v xs) (a_ : Addr) (m_ : Mode) (W_ : World) : (store a_ v m_).run P W_ = stored P W_ a_ v m_ := by
  obtain ⟨A, c, rfl⟩ := Kd.R_slice h
  exact run_store_slice _ _ _ _ _ _ _

end Go.Proofs.Ytcbngoldidhfmaa.Pf
