-- Laid by wip/xprint.py, a program of this session that runs the kit's print with some contracts given by hand; not a text of print.sh. Lean checks it.
import Derived.Test.YtikncbklhnaajaaPr0
import Derived.Test.YtikncbklhnaajaaPr2
import Derived.Test.YtikncbklhnaajaaPr3
namespace Go.Proofs.Ytikncbklhnaajaa.Pr
open Go.RowKit Go.Proofs.YtikncbklhnaajaaW.PrintWords Go.Proofs.YtikncbklhnaajaaW.PrintLast Go.Proofs.YtikncbklhnaajaaW.PrintMore
attribute [local go_sem] max2_int min2_int max_two min_two max_three min_three max_four min_four   -- for this text's walks alone
set_option linter.unusedVariables false
set_option linter.unusedSimpArgs false

/-! ### switchboardlaw10_LinkPlays: function 4 -/
mutual
def switchboardlaw10_LinkPlays.l0 : Nat → List Int → List Int → Int → Int → List (S45) → Option (Bool)
  | 0, _, _, _, _, _ => none
  | k + 1, x0, x4, x5, x210000, x210001 => if x5 < (x0.length : Int) then (switchboardlaw10_LinkPlays.j1 k x0 x4 x5 (decide (x5 < 100)) x210000 x210001) else (switchboardlaw10_LinkPlays.j1 k x0 x4 x5 false x210000 x210001)
def switchboardlaw10_LinkPlays.j1 : Nat → List Int → List Int → Int → Bool → Int → List (S45) → Option (Bool)
  | 0, _, _, _, _, _, _ => none
  | k + 1, x0, x4, x5, x21, x210000, x210001 => if x21 = true then (if 0 ≤ x5 then (if x5 < (x0.length : Int) then (if (rd x0 x5) ≥ 0 then ((link_Told.f x210000 x210001 (wrap64 (rd x0 x5))).bind fun bt213 => (switchboardlaw10_LinkPlays.l1 k x0 x5 ([] : List Int) x4 (x4.length : Int) 0 bt213.1 bt213.2)) else ((link_Push.f k x210000 x210001 (⟨#[120]⟩ : ByteArray)).bind fun bt222 => (if ((bt222.2.2.2 == 0) != (decide ((x4.length : Int) < 64))) = true then (some false) else (if bt222.2.2.2 = 0 then (if x4.length < 17592186044416 then (switchboardlaw10_LinkPlays.j3 k x0 (x4 ++ [bt222.2.2.1]) x5 bt222.1 bt222.2.1) else (none)) else (switchboardlaw10_LinkPlays.j3 k x0 x4 x5 bt222.1 bt222.2.1))))) else (none)) else (none)) else ((switchboardlaw10_awake.f k).bind fun t210 => (some t210))
def switchboardlaw10_LinkPlays.j3 : Nat → List Int → List Int → Int → Int → List (S45) → Option (Bool)
  | 0, _, _, _, _, _ => none
  | k + 1, x0, x4, x5, x210000, x210001 => if (x210001.length : Int) = (x4.length : Int) then ((link_Right.f k x210000 x210001).bind fun t232 => (switchboardlaw10_LinkPlays.j4 k x0 x4 x5 (!t232) x210000 x210001)) else (switchboardlaw10_LinkPlays.j4 k x0 x4 x5 true x210000 x210001)
def switchboardlaw10_LinkPlays.j4 : Nat → List Int → List Int → Int → Bool → Int → List (S45) → Option (Bool)
  | 0, _, _, _, _, _, _ => none
  | k + 1, x0, x4, x5, x84, x210000, x210001 => if x84 = true then (some false) else (switchboardlaw10_LinkPlays.l2 k x0 x4 x5 x210001 (x210001.length : Int) 0 x210000 x210001)
def switchboardlaw10_LinkPlays.l2 : Nat → List Int → List Int → Int → List (S45) → Int → Int → Int → List (S45) → Option (Bool)
  | 0, _, _, _, _, _, _, _, _ => none
  | k + 1, x0, x4, x5, x86, x87, x88, x210000, x210001 => if x88 < x87 then (if 0 ≤ x88 then (if x88 < (x86.length : Int) then (if x88 < (x4.length : Int) then (if ((rd_T45 x86 x88).f0) = (rd x4 x88) then (if ((rd_T45 x86 x88).f1).toList = ([120] : List UInt8) then (switchboardlaw10_LinkPlays.l2 k x0 x4 x5 x86 x87 (wrap64 (x88 + 1)) x210000 x210001) else (some false)) else (some false)) else (none)) else (none)) else (none)) else (switchboardlaw10_LinkPlays.l0 k x0 x4 (wrap64 (x5 + 1)) x210000 x210001)
def switchboardlaw10_LinkPlays.l1 : Nat → List Int → Int → List Int → List Int → Int → Int → Int → List (S45) → Option (Bool)
  | 0, _, _, _, _, _, _, _, _ => none
  | k + 1, x0, x5, x6, x36, x37, x38, x210000, x210001 => if x38 < x37 then (if 0 ≤ x38 then (if x38 < (x36.length : Int) then (if 0 ≤ x5 then (if x5 < (x0.length : Int) then (if (rd x36 x38) = (wrap64 (rd x0 x5)) then (switchboardlaw10_LinkPlays.l1 k x0 x5 x6 x36 x37 (wrap64 (x38 + 1)) x210000 x210001) else (if x6.length < 17592186044416 then (switchboardlaw10_LinkPlays.l1 k x0 x5 (x6 ++ [rd x36 x38]) x36 x37 (wrap64 (x38 + 1)) x210000 x210001) else (none))) else (none)) else (none)) else (none)) else (none)) else (switchboardlaw10_LinkPlays.j3 k x0 x6 x5 x210000 x210001)
end
def switchboardlaw10_LinkPlays.f (k : Nat) (l0 : List Int) : Option (Bool) := switchboardlaw10_LinkPlays.l0 k l0 ([] : List Int) 0 0 ([] : List (S45))
theorem switchboardlaw10_LinkPlays.mono_l : ∀ k, (∀ y0 y1 y2 y3 y4, LeO (switchboardlaw10_LinkPlays.l0 k y0 y1 y2 y3 y4) (switchboardlaw10_LinkPlays.l0 (k + 1) y0 y1 y2 y3 y4)) ∧ (∀ y0 y1 y2 y3 y4 y5, LeO (switchboardlaw10_LinkPlays.j1 k y0 y1 y2 y3 y4 y5) (switchboardlaw10_LinkPlays.j1 (k + 1) y0 y1 y2 y3 y4 y5)) ∧ (∀ y0 y1 y2 y3 y4, LeO (switchboardlaw10_LinkPlays.j3 k y0 y1 y2 y3 y4) (switchboardlaw10_LinkPlays.j3 (k + 1) y0 y1 y2 y3 y4)) ∧ (∀ y0 y1 y2 y3 y4 y5, LeO (switchboardlaw10_LinkPlays.j4 k y0 y1 y2 y3 y4 y5) (switchboardlaw10_LinkPlays.j4 (k + 1) y0 y1 y2 y3 y4 y5)) ∧ (∀ y0 y1 y2 y3 y4 y5 y6 y7, LeO (switchboardlaw10_LinkPlays.l2 k y0 y1 y2 y3 y4 y5 y6 y7) (switchboardlaw10_LinkPlays.l2 (k + 1) y0 y1 y2 y3 y4 y5 y6 y7)) ∧ (∀ y0 y1 y2 y3 y4 y5 y6 y7, LeO (switchboardlaw10_LinkPlays.l1 k y0 y1 y2 y3 y4 y5 y6 y7) (switchboardlaw10_LinkPlays.l1 (k + 1) y0 y1 y2 y3 y4 y5 y6 y7))
  | 0 => ⟨fun _ _ _ _ _ r h => by simp [switchboardlaw10_LinkPlays.l0] at h, fun _ _ _ _ _ _ r h => by simp [switchboardlaw10_LinkPlays.j1] at h, fun _ _ _ _ _ r h => by simp [switchboardlaw10_LinkPlays.j3] at h, fun _ _ _ _ _ _ r h => by simp [switchboardlaw10_LinkPlays.j4] at h, fun _ _ _ _ _ _ _ _ r h => by simp [switchboardlaw10_LinkPlays.l2] at h, fun _ _ _ _ _ _ _ _ r h => by simp [switchboardlaw10_LinkPlays.l1] at h⟩
  | k + 1 => by
    obtain ⟨ih0, ih1, ih2, ih3, ih4, ih5⟩ := switchboardlaw10_LinkPlays.mono_l k
    refine ⟨?_, ?_, ?_, ?_, ?_, ?_⟩
    · intro y0 y1 y2 y3 y4
      unfold switchboardlaw10_LinkPlays.l0
      repeat' first
      | (with_reducible exact ih0 _ _ _ _ _)
      | (with_reducible exact ih1 _ _ _ _ _ _)
      | (with_reducible exact ih2 _ _ _ _ _)
      | (with_reducible exact ih3 _ _ _ _ _ _)
      | (with_reducible exact ih4 _ _ _ _ _ _ _ _)
      | (with_reducible exact ih5 _ _ _ _ _ _ _ _)
      | (with_reducible exact link_Push.mono _ _ _ _)
      | (with_reducible exact link_Right.mono _ _ _)
      | (with_reducible exact switchboardlaw10_awake.mono _)
      | (with_reducible exact LeO.refl _)
      | (with_reducible exact LeO.none _)
      | (with_reducible refine LeO.ite ?_ ?_)
      | (with_reducible refine LeO.bind ?_ (fun _ => ?_))
      | exact ih0 _ _ _ _ _
      | exact ih1 _ _ _ _ _ _
      | exact ih2 _ _ _ _ _
      | exact ih3 _ _ _ _ _ _
      | exact ih4 _ _ _ _ _ _ _ _
      | exact ih5 _ _ _ _ _ _ _ _
      | exact link_Push.mono _ _ _ _
      | exact link_Right.mono _ _ _
      | exact switchboardlaw10_awake.mono _
      | exact LeO.none _
      | refine LeO.ite ?_ ?_
      | refine LeO.bind ?_ (fun _ => ?_)
    · intro y0 y1 y2 y3 y4 y5
      unfold switchboardlaw10_LinkPlays.j1
      repeat' first
      | (with_reducible exact ih0 _ _ _ _ _)
      | (with_reducible exact ih1 _ _ _ _ _ _)
      | (with_reducible exact ih2 _ _ _ _ _)
      | (with_reducible exact ih3 _ _ _ _ _ _)
      | (with_reducible exact ih4 _ _ _ _ _ _ _ _)
      | (with_reducible exact ih5 _ _ _ _ _ _ _ _)
      | (with_reducible exact link_Push.mono _ _ _ _)
      | (with_reducible exact link_Right.mono _ _ _)
      | (with_reducible exact switchboardlaw10_awake.mono _)
      | (with_reducible exact LeO.refl _)
      | (with_reducible exact LeO.none _)
      | (with_reducible refine LeO.ite ?_ ?_)
      | (with_reducible refine LeO.bind ?_ (fun _ => ?_))
      | exact ih0 _ _ _ _ _
      | exact ih1 _ _ _ _ _ _
      | exact ih2 _ _ _ _ _
      | exact ih3 _ _ _ _ _ _
      | exact ih4 _ _ _ _ _ _ _ _
      | exact ih5 _ _ _ _ _ _ _ _
      | exact link_Push.mono _ _ _ _
      | exact link_Right.mono _ _ _
      | exact switchboardlaw10_awake.mono _
      | exact LeO.none _
      | refine LeO.ite ?_ ?_
      | refine LeO.bind ?_ (fun _ => ?_)
    · intro y0 y1 y2 y3 y4
      unfold switchboardlaw10_LinkPlays.j3
      repeat' first
      | (with_reducible exact ih0 _ _ _ _ _)
      | (with_reducible exact ih1 _ _ _ _ _ _)
      | (with_reducible exact ih2 _ _ _ _ _)
      | (with_reducible exact ih3 _ _ _ _ _ _)
      | (with_reducible exact ih4 _ _ _ _ _ _ _ _)
      | (with_reducible exact ih5 _ _ _ _ _ _ _ _)
      | (with_reducible exact link_Push.mono _ _ _ _)
      | (with_reducible exact link_Right.mono _ _ _)
      | (with_reducible exact switchboardlaw10_awake.mono _)
      | (with_reducible exact LeO.refl _)
      | (with_reducible exact LeO.none _)
      | (with_reducible refine LeO.ite ?_ ?_)
      | (with_reducible refine LeO.bind ?_ (fun _ => ?_))
      | exact ih0 _ _ _ _ _
      | exact ih1 _ _ _ _ _ _
      | exact ih2 _ _ _ _ _
      | exact ih3 _ _ _ _ _ _
      | exact ih4 _ _ _ _ _ _ _ _
      | exact ih5 _ _ _ _ _ _ _ _
      | exact link_Push.mono _ _ _ _
      | exact link_Right.mono _ _ _
      | exact switchboardlaw10_awake.mono _
      | exact LeO.none _
      | refine LeO.ite ?_ ?_
      | refine LeO.bind ?_ (fun _ => ?_)
    · intro y0 y1 y2 y3 y4 y5
      unfold switchboardlaw10_LinkPlays.j4
      repeat' first
      | (with_reducible exact ih0 _ _ _ _ _)
      | (with_reducible exact ih1 _ _ _ _ _ _)
      | (with_reducible exact ih2 _ _ _ _ _)
      | (with_reducible exact ih3 _ _ _ _ _ _)
      | (with_reducible exact ih4 _ _ _ _ _ _ _ _)
      | (with_reducible exact ih5 _ _ _ _ _ _ _ _)
      | (with_reducible exact link_Push.mono _ _ _ _)
      | (with_reducible exact link_Right.mono _ _ _)
      | (with_reducible exact switchboardlaw10_awake.mono _)
      | (with_reducible exact LeO.refl _)
      | (with_reducible exact LeO.none _)
      | (with_reducible refine LeO.ite ?_ ?_)
      | (with_reducible refine LeO.bind ?_ (fun _ => ?_))
      | exact ih0 _ _ _ _ _
      | exact ih1 _ _ _ _ _ _
      | exact ih2 _ _ _ _ _
      | exact ih3 _ _ _ _ _ _
      | exact ih4 _ _ _ _ _ _ _ _
      | exact ih5 _ _ _ _ _ _ _ _
      | exact link_Push.mono _ _ _ _
      | exact link_Right.mono _ _ _
      | exact switchboardlaw10_awake.mono _
      | exact LeO.none _
      | refine LeO.ite ?_ ?_
      | refine LeO.bind ?_ (fun _ => ?_)
    · intro y0 y1 y2 y3 y4 y5 y6 y7
      unfold switchboardlaw10_LinkPlays.l2
      repeat' first
      | (with_reducible exact ih0 _ _ _ _ _)
      | (with_reducible exact ih1 _ _ _ _ _ _)
      | (with_reducible exact ih2 _ _ _ _ _)
      | (with_reducible exact ih3 _ _ _ _ _ _)
      | (with_reducible exact ih4 _ _ _ _ _ _ _ _)
      | (with_reducible exact ih5 _ _ _ _ _ _ _ _)
      | (with_reducible exact link_Push.mono _ _ _ _)
      | (with_reducible exact link_Right.mono _ _ _)
      | (with_reducible exact switchboardlaw10_awake.mono _)
      | (with_reducible exact LeO.refl _)
      | (with_reducible exact LeO.none _)
      | (with_reducible refine LeO.ite ?_ ?_)
      | (with_reducible refine LeO.bind ?_ (fun _ => ?_))
      | exact ih0 _ _ _ _ _
      | exact ih1 _ _ _ _ _ _
      | exact ih2 _ _ _ _ _
      | exact ih3 _ _ _ _ _ _
      | exact ih4 _ _ _ _ _ _ _ _
      | exact ih5 _ _ _ _ _ _ _ _
      | exact link_Push.mono _ _ _ _
      | exact link_Right.mono _ _ _
      | exact switchboardlaw10_awake.mono _
      | exact LeO.none _
      | refine LeO.ite ?_ ?_
      | refine LeO.bind ?_ (fun _ => ?_)
    · intro y0 y1 y2 y3 y4 y5 y6 y7
      unfold switchboardlaw10_LinkPlays.l1
      repeat' first
      | (with_reducible exact ih0 _ _ _ _ _)
      | (with_reducible exact ih1 _ _ _ _ _ _)
      | (with_reducible exact ih2 _ _ _ _ _)
      | (with_reducible exact ih3 _ _ _ _ _ _)
      | (with_reducible exact ih4 _ _ _ _ _ _ _ _)
      | (with_reducible exact ih5 _ _ _ _ _ _ _ _)
      | (with_reducible exact link_Push.mono _ _ _ _)
      | (with_reducible exact link_Right.mono _ _ _)
      | (with_reducible exact switchboardlaw10_awake.mono _)
      | (with_reducible exact LeO.refl _)
      | (with_reducible exact LeO.none _)
      | (with_reducible refine LeO.ite ?_ ?_)
      | (with_reducible refine LeO.bind ?_ (fun _ => ?_))
      | exact ih0 _ _ _ _ _
      | exact ih1 _ _ _ _ _ _
      | exact ih2 _ _ _ _ _
      | exact ih3 _ _ _ _ _ _
      | exact ih4 _ _ _ _ _ _ _ _
      | exact ih5 _ _ _ _ _ _ _ _
      | exact link_Push.mono _ _ _ _
      | exact link_Right.mono _ _ _
      | exact switchboardlaw10_awake.mono _
      | exact LeO.none _
      | refine LeO.ite ?_ ?_
      | refine LeO.bind ?_ (fun _ => ?_)
theorem switchboardlaw10_LinkPlays.mono : ∀ a0 k, LeO (switchboardlaw10_LinkPlays.f k a0) (switchboardlaw10_LinkPlays.f (k + 1) a0) := by
  intro a0 k
  obtain ⟨ih0, ih1, ih2, ih3, ih4, ih5⟩ := switchboardlaw10_LinkPlays.mono_l k
  unfold switchboardlaw10_LinkPlays.f
  repeat' first
      | (with_reducible exact ih0 _ _ _ _ _)
      | (with_reducible exact ih1 _ _ _ _ _ _)
      | (with_reducible exact ih2 _ _ _ _ _)
      | (with_reducible exact ih3 _ _ _ _ _ _)
      | (with_reducible exact ih4 _ _ _ _ _ _ _ _)
      | (with_reducible exact ih5 _ _ _ _ _ _ _ _)
      | (with_reducible exact link_Push.mono _ _ _ _)
      | (with_reducible exact link_Right.mono _ _ _)
      | (with_reducible exact switchboardlaw10_awake.mono _)
      | (with_reducible exact LeO.refl _)
      | (with_reducible exact LeO.none _)
      | (with_reducible refine LeO.ite ?_ ?_)
      | (with_reducible refine LeO.bind ?_ (fun _ => ?_))
      | exact ih0 _ _ _ _ _
      | exact ih1 _ _ _ _ _ _
      | exact ih2 _ _ _ _ _
      | exact ih3 _ _ _ _ _ _
      | exact ih4 _ _ _ _ _ _ _ _
      | exact ih5 _ _ _ _ _ _ _ _
      | exact link_Push.mono _ _ _ _
      | exact link_Right.mono _ _ _
      | exact switchboardlaw10_awake.mono _
      | exact LeO.none _
      | refine LeO.ite ?_ ?_
      | refine LeO.bind ?_ (fun _ => ?_)
def switchboardlaw10_LinkPlays.T7 : Bool × List (List Nat × List Nat) := (true, [([], []), ([], []), ([], []), ([1, 2], [1, 2]), ([3], [3]), ([4], [4]), ([0, 5], [0, 5]), ([6, 6, 0, 1, 2, 3, 4, 5, 6], [6])])
def switchboardlaw10_LinkPlays.B7 : List Nat := [0, 0, 0, 6, 14, 30, 63, 127]
theorem switchboardlaw10_LinkPlays.tab7 : rtab .any (opsOf Try.f4 7) = switchboardlaw10_LinkPlays.T7 := by kernel_rfl
theorem switchboardlaw10_LinkPlays.bits7 : waitsOk switchboardlaw10_LinkPlays.T7.2 switchboardlaw10_LinkPlays.B7 = true := by kernel_rfl
def switchboardlaw10_LinkPlays.T27 : Bool × List (List Nat × List Nat) := (true, [([], []), ([0], [0]), ([], []), ([], []), ([2, 3], [2, 3]), ([4], [4]), ([1, 5], [1, 5]), ([6], [6]), ([7], [7]), ([8, 7], [7, 8]), ([9, 7], [7, 9]), ([7, 10], [7, 10])])
def switchboardlaw10_LinkPlays.B27 : List Nat := [0, 1, 0, 0, 12, 28, 63, 127, 255, 511, 1023, 2047]
theorem switchboardlaw10_LinkPlays.tab27 : rtab .any (opsOf Try.f4 27) = switchboardlaw10_LinkPlays.T27 := by kernel_rfl
theorem switchboardlaw10_LinkPlays.bits27 : waitsOk switchboardlaw10_LinkPlays.T27.2 switchboardlaw10_LinkPlays.B27 = true := by kernel_rfl
set_option maxHeartbeats 8000000 in
set_option maxRecDepth 100000 in
theorem switchboardlaw10_LinkPlays.calls (k : Nat) (A0 : Option Addr) (c0 : Nat) (l0 : List Int) (w : World) (hr0 : Kd.C (Kd.int .i8) w A0 l0.length l0) (hc0 : l0.length ≤ c0) (h : switchboardlaw10_LinkPlays.f k l0 = some true) :
    Calls Try.prog 4 #[.slice A0 l0.length c0] w fun e w' => e = .returned (.bool true) ∧ Below w.heap.size w w' := by
  have hu24 := Try.underlying24
  have hu45 := Try.underlying45
  have HR0 := Aside0.mk hr0
  have HC0 := Aside0.mk hc0
  clear hr0 hc0
  have HB := Aside0.mk (Below.refl w.heap.size w)
  have H : (switchboardlaw10_LinkPlays.l0 k l0 ([] : List Int) 0 0 ([] : List (S45))) = some true := h
  clear h
  have H' := Aside0.mk H
  clear H
  go_enter Try.func4, Try.ntmps4
  go_wp2_with (first | ((with_reducible refine gate_dst (N := 3) rfl ?_); refine box_event ?hg (N := 3) ?hd (cs := #[.int .i64 0, .slice none 0 0]) (t := 24) ?hr ?_; (case hd => rfl); (case hg => rfl); (case hr => first | (go_simp; done) | (go_simp; rfl)); intro gb209 hg w2 hbox hb; have n0_ := Aside0.mk (below_step (by repeat (first | (with_reducible first | exact HB.out | apply below_alloc | apply pw_below_drewN | apply below_drew1) | exact HB.out)) hb); have n1_ := Aside0.mk (hbox); have n2_ := Aside0.mk ((by rw [hg]; exact (below_size (by repeat (first | (with_reducible first | exact HB.out | apply below_alloc | apply pw_below_drewN | apply below_drew1) | exact HB.out))) : w.heap.size ≤ gb209)); have n3_ := Aside0.mk ((by rw [hg]; exact (below_size (by repeat (first | (with_reducible first | exact HB.out | apply below_alloc | apply pw_below_drewN | apply below_drew1) | exact HB.out))) : w.heap.size ≤ gb209)); clear HB; have HB := n0_; have BK209 := n1_; have GW209 := n2_; have GE209 := n3_; clear n0_ n1_ n2_ n3_; clear hb hbox hg))
  go_loopg [4, 5] k (fun kq v4 v5 w' => ∃ (x4_1 : List Int) (x5_1 : Int) (x210000_1 : Int) (x210001_1 : List (S45)) (u210001 : Value), v5 = .int .i64 x5_1 ∧ Aside0 (switchboardlaw10_LinkPlays.l0 kq l0 x4_1 x5_1 x210000_1 x210001_1 = some true) ∧ Aside0 (kq ≤ k) ∧ Aside0 (Kd.R (Kd.int .i64) 3 w' w.heap.size (fun _ => True) v4 x4_1) ∧ Aside0 (Kd.V k45 45 w' w.heap.size (fun k_ => some k_ ≠ (v4 : Value).ownBlock ∧ k_ ≠ gb209) u210001 x210001_1) ∧ Aside0 (w'.heap[gb209]? = some (.cells #[.int .i64 x210000_1, u210001] 24 (0, 0))) ∧ Aside0 (Below w.heap.size w w'))
  case atStart => exact ⟨(([] : List Int)), (0), (0), (([] : List (S45))), (.slice none 0 0), (by first | rfl | (simp; done) | (simp [*]; done)), H', ⟨Nat.le_refl _⟩, ⟨by first | exact Kd.R_nil _ _ _ _ _ | exact Kd.N_nil _ _ _ _ _ | exact Kd.V_nil _ _ _ _ _ | exact Kd.Q_nil _ _ _ _ _ | exact Kd.S_nil _ _ _ _ _⟩, ⟨Kd.V_nil _ _ _ _ _⟩, ⟨by (with_reducible repeat (first | refine blk_drewN ?_ _ | refine blk_drew ?_ | refine blk_alloc ?_ _)); exact BK209.out⟩, ⟨by repeat (first | (with_reducible first | exact HB.out | apply below_alloc | apply pw_below_drewN | apply below_drew1 | refine below_set ?_ GE209.out) | exact HB.out)⟩⟩
  case round =>
    clear H'
    try clear p2
    obtain ⟨x4_1, x5_1, x210000_1, x210001_1, u210001, rfl, HA, HK1, HO_4, HO_210001, BK209, HB⟩ := hrel
    cases gk with
    | zero => exact absurd HA.out (by simp [switchboardlaw10_LinkPlays.l0])
    | succ k1 =>
      have H := HA.out
      clear HA
      simp only [switchboardlaw10_LinkPlays.l0] at H
      have HC3 := Aside0.mk H
      clear H
      go_upto_region 4 with (fail)
      go_cut [21] (fun v21 wc => ∃ (kq : Nat) (x21_2 : Bool), v21 = .bool x21_2 ∧ Aside0 (switchboardlaw10_LinkPlays.j1 kq l0 x4_1 x5_1 x21_2 x210000_1 x210001_1 = some true) ∧ Aside0 (kq ≤ k1) ∧ Aside0 (Kd.R (Kd.int .i64) 3 wc w.heap.size (fun _ => True) u4 x4_1) ∧ Aside0 (Kd.V k45 45 wc w.heap.size (fun k_ => some k_ ≠ (u4 : Value).ownBlock ∧ k_ ≠ gb209) u210001 x210001_1) ∧ Aside0 (wc.heap[gb209]? = some (.cells #[.int .i64 x210000_1, u210001] 24 (0, 0))) ∧ Aside0 (Below w.heap.size w wc))
      case first =>
        have H := HC3.out
        clear HC3
        by_cases c4 : x5_1 < (l0.length : Int)
        · rw [if_pos c4] at H
          have c4b0 : decide (x5_1 < (l0.length : Int)) = true := decide_eq_true c4
          clear c4
          (first | rw [c4b0] | (simp only [i64_w, i32_w]; rw [c4b0]) | skip)
          have H' := Aside0.mk H
          clear H
          go_wp2
          go_meet
          case rel => exact ⟨_, (decide (x5_1 < 100)), (by first | rfl | (simp; done) | (simp [*]; done)), H', ⟨by have := HK1.out; first | omega | exact Nat.le_refl _⟩, ⟨by (with_reducible repeat (first | apply Kd.R_alloc | apply Kd.R_drewN | apply Kd.R_drew)); exact HO_4.out⟩, ⟨by (with_reducible repeat (first | apply Kd.V_alloc | apply Kd.V_drewN | apply Kd.V_drew)); exact HO_210001.out⟩, ⟨by (with_reducible repeat (first | refine blk_drewN ?_ _ | refine blk_drew ?_ | refine blk_alloc ?_ _)); exact BK209.out⟩, ⟨by repeat (first | (with_reducible first | exact HB.out | apply below_alloc | apply pw_below_drewN | apply below_drew1 | refine below_set ?_ GE209.out) | exact HB.out)⟩⟩
        · rw [if_neg c4] at H
          have c4b0 : decide (x5_1 < (l0.length : Int)) = false := decide_eq_false c4
          clear c4
          (first | rw [c4b0] | (simp only [i64_w, i32_w]; rw [c4b0]) | skip)
          have H' := Aside0.mk H
          clear H
          go_wp2
          go_meet
          case rel => exact ⟨_, (false), (by first | rfl | (simp; done) | (simp [*]; done)), H', ⟨by have := HK1.out; first | omega | exact Nat.le_refl _⟩, ⟨by (with_reducible repeat (first | apply Kd.R_alloc | apply Kd.R_drewN | apply Kd.R_drew)); exact HO_4.out⟩, ⟨by (with_reducible repeat (first | apply Kd.V_alloc | apply Kd.V_drewN | apply Kd.V_drew)); exact HO_210001.out⟩, ⟨by (with_reducible repeat (first | refine blk_drewN ?_ _ | refine blk_drew ?_ | refine blk_alloc ?_ _)); exact BK209.out⟩, ⟨by repeat (first | (with_reducible first | exact HB.out | apply below_alloc | apply pw_below_drewN | apply below_drew1 | refine below_set ?_ GE209.out) | exact HB.out)⟩⟩
      case rest =>
        clear HC3
        try clear p2
        try clear c4
        try clear c4b0
        try clear p2
        obtain ⟨kq, x21_2, rfl, HA, HJ2, HO_4, HO_210001, BK209, HB⟩ := hcut
        cases kq with
        | zero => exact absurd HA.out (by simp [switchboardlaw10_LinkPlays.j1])
        | succ kj2 =>
          have H := HA.out
          clear HA
          simp only [switchboardlaw10_LinkPlays.j1] at H
          by_cases c5 : x21_2 = true
          · subst c5
            have H1 : (if 0 ≤ x5_1 then (if x5_1 < (l0.length : Int) then (if (rd l0 x5_1) ≥ 0 then ((link_Told.f x210000_1 x210001_1 (wrap64 (rd l0 x5_1))).bind fun bt213 => (switchboardlaw10_LinkPlays.l1 kj2 l0 x5_1 ([] : List Int) x4_1 (x4_1.length : Int) 0 bt213.1 bt213.2)) else ((link_Push.f kj2 x210000_1 x210001_1 (⟨#[120]⟩ : ByteArray)).bind fun bt222 => (if ((bt222.2.2.2 == 0) != (decide ((x4_1.length : Int) < 64))) = true then (some false) else (if bt222.2.2.2 = 0 then (if x4_1.length < 17592186044416 then (switchboardlaw10_LinkPlays.j3 kj2 l0 (x4_1 ++ [bt222.2.2.1]) x5_1 bt222.1 bt222.2.1) else (none)) else (switchboardlaw10_LinkPlays.j3 kj2 l0 x4_1 x5_1 bt222.1 bt222.2.1))))) else (none)) else (none)) = some true := by rw [if_pos rfl] at H; exact H
            clear H
            have H := H1
            clear H1
            by_cases c6 : 0 ≤ x5_1
            · rw [if_pos c6] at H
              have c6b0 : decide (0 ≤ x5_1) = true := decide_eq_true c6
              clear c6
              by_cases c7 : x5_1 < (l0.length : Int)
              · rw [if_pos c7] at H
                have c7b0 : decide (x5_1 < (l0.length : Int)) = true := decide_eq_true c7
                clear c7
                have HC8 := Aside0.mk H
                clear H
                have p211 : 0 ≤ (x5_1 : Int) := of_decide_eq_true (by first | (with_reducible assumption) | assumption)
                have q211 : x5_1 < (l0.length : Int) := of_decide_eq_true (by first | (with_reducible assumption) | assumption)
                obtain ⟨ad211, e211, hx211_0⟩ := Kd.at_int HR0.out x5_1 p211 q211
                cases e211
                replace hx211_0 := (HB.out.cell (World.block_lt_of_cell? w _ hx211_0)).trans hx211_0
                replace p211 := eq_true p211
                replace q211 := eq_true q211
                go_upto_if 28 with (fail)
                go_cut [4] (fun v4 wc => ∃ (kq : Nat) (x4_7 : List Int) (x210000_7 : Int) (x210001_7 : List (S45)) (u210001 : Value), Aside0 (switchboardlaw10_LinkPlays.j3 kq l0 x4_7 x5_1 x210000_7 x210001_7 = some true) ∧ Aside0 (kq ≤ kj2) ∧ Aside0 (Kd.R (Kd.int .i64) 3 wc w.heap.size (fun _ => True) v4 x4_7) ∧ Aside0 (Kd.V k45 45 wc w.heap.size (fun k_ => some k_ ≠ (v4 : Value).ownBlock ∧ k_ ≠ gb209) u210001 x210001_7) ∧ Aside0 (wc.heap[gb209]? = some (.cells #[.int .i64 x210000_7, u210001] 24 (0, 0))) ∧ Aside0 (Below w.heap.size w wc))
                case first =>
                  have H := HC8.out
                  clear HC8
                  by_cases c9 : (rd l0 x5_1) ≥ 0
                  · rw [if_pos c9] at H
                    have c9b0 : decide (0 ≤ (rd l0 x5_1)) = true := decide_eq_true c9
                    clear c9
                    (first | rw [c9b0] | (simp only [i64_w, i32_w]; rw [c9b0]) | skip)
                    replace H := Option.bind_eq_some_iff.mp H
                    obtain ⟨⟨t213, t214⟩, A100, H⟩ := H
                    replace H : (switchboardlaw10_LinkPlays.l1 kj2 l0 x5_1 ([] : List Int) x4_1 (x4_1.length : Int) 0 t213 t214) = some true := H
                    have A10 := Aside0.mk A100
                    clear A100
                    have H' := Aside0.mk H
                    clear H
                    try go_wp2
                    have n0_ := Aside0.mk (Kd.R_drew HO_4.out)
                    have n1_ := Aside0.mk (Kd.V_drew HO_210001.out)
                    have n2_ := Aside0.mk (blk_drew BK209.out)
                    have n3_ := Aside0.mk (below_drew1 HB.out)
                    clear HO_4
                    clear HO_210001
                    clear BK209
                    clear HB
                    have HO_4 := n0_
                    have HO_210001 := n1_
                    have BK209 := n2_
                    have HB := n3_
                    clear n0_ n1_ n2_ n3_
                    have p212 : 0 ≤ (x5_1 : Int) := of_decide_eq_true (by first | (with_reducible assumption) | assumption)
                    have q212 : x5_1 < (l0.length : Int) := of_decide_eq_true (by first | (with_reducible assumption) | assumption)
                    obtain ⟨ad212, e212, hx212_0⟩ := Kd.at_int HR0.out x5_1 p212 q212
                    have hw212_0 := hx212_0
                    obtain rfl : ad211 = ad212 := (by injection e212)
                    replace hx212_0 := (HB.out.cell (World.block_lt_of_cell? w _ hx212_0)).trans hx212_0
                    replace p212 := eq_true p212
                    replace q212 := eq_true q212
                    obtain ⟨Ao12, co12, eo12⟩ := Kd.V_slice HO_210001.out
                    (first | subst eo12 | (injection eo12 with f1_ f2_ f3_; have f4_ := f1_.symm; have f5_ := f3_.symm; clear f1_ f2_ f3_; subst f4_; subst f5_))
                    refine start_ (n := 8) (S := fun w' => w'.cell? ⟨gb209, 0, none⟩ = some (.int .i64 x210000_1) ∧ w'.cell? ⟨gb209, 1, none⟩ = some (.slice Ao12 x210001_1.length co12) ∧ w'.cell? (ad211.add (x5_1).toNat) = some (.int .i8 (rd l0 x5_1))) (ds := [7]) #[false, false, false, false, false, false, false, false] (by kernel_rfl) rfl rfl ⟨(blk_cell BK209.out 0).trans rfl, (blk_cell BK209.out 1).trans rfl, ((HB.out.cell (World.block_lt_of_cell? w _ hw212_0)).trans hw212_0)⟩ (fun hHeld => ?_); refine with_tabW switchboardlaw10_LinkPlays.tab7 switchboardlaw10_LinkPlays.bits7 (fun HT_ HW_ => ?_)
                    generalize wc.drew = w11 at HO_4 HO_210001 BK209 HB hx212_0 hHeld ⊢
                    refine pure_ (i := 1) (N := some 30) (v := ?_) (a' := ?_) #[false, true, false, false, false, false, false, false] rfl rfl (any_of HT_.out (by kernel_rfl)) (fun _ _ _ h => h) (Or.inl ⟨by rfl, ?_⟩) ?_ ?_
                    rotate_left
                    · intro w'
                      go_simp
                      with_reducible rfl
                    rotate_left
                    · simp only [Act.put, List.setIfInBounds_toArray, List.set_cons_zero, List.set_cons_succ, i64_w, i32_w]
                      rfl
                    refine pure_ (i := 2) (N := some 31) (v := ?_) (a' := ?_) #[false, true, true, false, false, false, false, false] rfl rfl (any_of HT_.out (by kernel_rfl)) (fun _ _ _ h => h) (Or.inl ⟨by rfl, ?_⟩) ?_ ?_
                    rotate_left
                    · intro w'
                      go_simp
                      with_reducible rfl
                    rotate_left
                    · simp only [Act.put, List.setIfInBounds_toArray, List.set_cons_zero, List.set_cons_succ, i64_w, i32_w]
                      rfl
                    refine pure_ (i := 3) (N := some 32) (v := ?_) (a' := ?_) #[false, true, true, true, false, false, false, false] rfl rfl (any_of HT_.out (by kernel_rfl)) (fun _ _ _ h => h) (Or.inl ⟨by rfl, ?_⟩) ?_ ?_
                    rotate_left
                    · intro w'
                      go_simp
                      with_reducible rfl
                    rotate_left
                    · simp only [Act.put, List.setIfInBounds_toArray, List.set_cons_zero, List.set_cons_succ, i64_w, i32_w]
                      rfl
                    refine take_ (i := 0) (N := some 29) (v := ?_) (a' := ?_) #[true, true, true, true, false, false, false, false] rfl rfl (take_ofW HT_.out HW_.out (by kernel_rfl)) (fun _ _ _ h => h) (Or.inl ⟨by rfl, ?_⟩) hHeld ?_ ?_
                    rotate_left
                    · rintro w' ⟨s0, s1, s2⟩
                      go_simp
                      with_reducible rfl
                    rotate_left
                    · simp only [Act.put, List.setIfInBounds_toArray, List.set_cons_zero, List.set_cons_succ, i64_w, i32_w]
                      rfl
                    refine take_ (i := 4) (N := some 33) (v := ?_) (a' := ?_) #[true, true, true, true, true, false, false, false] rfl rfl (take_ofW HT_.out HW_.out (by kernel_rfl)) (fun _ _ _ h => h) (Or.inl ⟨by rfl, ?_⟩) hHeld ?_ ?_
                    rotate_left
                    · rintro w' ⟨s0, s1, s2⟩
                      go_simp
                      with_reducible rfl
                    rotate_left
                    · simp only [Act.put, List.setIfInBounds_toArray, List.set_cons_zero, List.set_cons_succ, i64_w, i32_w]
                      rfl
                    refine pure_ (i := 5) (N := some 34) (v := ?_) (a' := ?_) #[true, true, true, true, true, true, false, false] rfl rfl (any_of HT_.out (by kernel_rfl)) (fun _ _ _ h => h) (Or.inl ⟨by rfl, ?_⟩) ?_ ?_
                    rotate_left
                    · intro w'
                      go_simp
                      with_reducible rfl
                    rotate_left
                    · simp only [Act.put, List.setIfInBounds_toArray, List.set_cons_zero, List.set_cons_succ, i64_w, i32_w]
                      rfl
                    refine one_ (i := 6) (N := some 35) #[true, true, true, true, true, true, true, false] rfl rfl (one_of HT_.out (by kernel_rfl)) (by decide) (fun K hK => ?_)
                    refine goes_ Try.func11 (by kernel_rfl) rfl #[.agg #[.int .i64 x210000_1, .slice Ao12 x210001_1.length co12], .int .i64 (wrap64 (rd l0 x5_1))] (by rfl) rfl rfl (by (try simp only [List.map_toArray, List.map_cons, List.map_nil]); first | done | rfl | (simp only [List.length_drop, List.length_take]; rfl)) ?_
                    with_reducible refine (link_Told.calls x210000_1 _ _ x210001_1 (wrap64 (rd l0 x5_1)) t213 t214 _ ?side1 ?side2 A10.out).mono ?_
                    (case side1 => repeat (first | exact (Kd.V_reads' HO_210001.out).2.2 | (with_reducible refine Kd.C_alloc ?_ _) | (with_reducible refine Kd.C_drewN ?_ _) | (with_reducible refine Kd.C_drew ?_)))
                    (case side2 => exact (Kd.V_reads' HO_210001.out).2.1)
                    rintro e w13 ⟨v215, rfl, ho0, hb⟩
                    refine ⟨_, rfl, ?_⟩
                    have n0_ := Aside0.mk (Kd.R_below (by (with_reducible repeat (first | apply Kd.R_alloc | apply Kd.R_drewN | apply Kd.R_drew)); exact HO_4.out) hb)
                    have n1_ := Aside0.mk (Kd.V_elder' (by (with_reducible repeat (first | apply Kd.V_alloc | apply Kd.V_drewN | apply Kd.V_drew)); exact HO_210001.out) (Kd.R_base ho0) hb)
                    have n2_ := Aside0.mk (Kd.R_lower ho0 (below_size (by repeat (first | (with_reducible first | exact HB.out | apply below_alloc | apply pw_below_drewN | apply below_drew1 | refine below_set ?_ GE209.out) | exact HB.out))))
                    have n3_ := Aside0.mk (blk_below (g := gb209) (o := .cells #[.int .i64 x210000_1, .slice Ao12 x210001_1.length co12] 24 (0, 0)) (by (with_reducible repeat (first | refine blk_drewN ?_ _ | refine blk_drew ?_ | refine blk_alloc ?_ _)); exact BK209.out) hb)
                    have n4_ := Aside0.mk (below_step (by repeat (first | (with_reducible first | exact HB.out | apply below_alloc | apply pw_below_drewN | apply below_drew1 | refine below_set ?_ GE209.out) | exact HB.out)) hb)
                    clear HO_4
                    clear HO_210001
                    clear BK209
                    clear HB
                    have HO_4 := n0_
                    have HO_210001 := n1_
                    have HO216 := n2_
                    have BK209 := n3_
                    have HB := n4_
                    clear n0_ n1_ n2_ n3_ n4_
                    (try clear hb)
                    (try clear hb2)
                    (try clear hk)
                    (try clear hi)
                    (try clear ho0)
                    obtain ⟨Ao15, co15, eo15⟩ := Kd.R_slice HO216.out
                    (first | subst eo15 | (injection eo15 with f1_ f2_ f3_; have f4_ := f1_.symm; have f5_ := f3_.symm; clear f1_ f2_ f3_; subst f4_; subst f5_))
                    refine hK.out _ _ ⟨(blk_cell BK209.out 0).trans rfl, (blk_cell BK209.out 1).trans rfl, ((HB.out.cell (World.block_lt_of_cell? w _ hw212_0)).trans hw212_0)⟩ (fun hHeld => ?_)
                    clear hK K
                    refine norm_ (a' := ?_) ?_ ?_
                    rotate_left
                    · show Act.put _ (some 35) _ = _
                      simp only [Act.put, List.setIfInBounds_toArray, List.set_cons_zero, List.set_cons_succ, i64_w, i32_w]
                      rfl
                    refine last_ (i := 7) (N := none) #[true, true, true, true, true, true, true, true] rfl rfl (one_of HT_.out (by kernel_rfl)) (by decide) (fun K hK => ?_)
                    have hs14 : w13.cell? ⟨gb209, 0, none⟩ = some (.int .i64 x210000_1) := (blk_cell BK209.out 0).trans rfl
                    have hfs14 := blk_frozen BK209.out 0
                    have hs16 : w13.cell? ⟨gb209, 1, none⟩ = some (.slice Ao12 x210001_1.length co12) := (blk_cell BK209.out 1).trans rfl
                    have hfs16 := blk_frozen BK209.out 1
                    refine skip_ (w1 := ?_) (by rfl) rfl ?_ ?_
                    rotate_left
                    · go_simp
                      rfl
                    refine hK.out _ _ ?_
                    clear hK K
                    refine done_ (done_of HT_.out (by kernel_rfl)) ?_
                    obtain ⟨Ao17, co17, eo17⟩ := Kd.R_slice HO_4.out
                    subst eo17
                    try go_wp2
                    go_loopg [6, 38] kj2 (fun kq v6 v38 w' => ∃ (x6_3 : List Int) (x38_3 : Int), v38 = .int .i64 x38_3 ∧ Aside0 (switchboardlaw10_LinkPlays.l1 kq l0 x5_1 x6_3 x4_1 (x4_1.length : Int) x38_3 t213 t214 = some true) ∧ Aside0 (kq ≤ kj2) ∧ Aside0 (Kd.R (Kd.int .i64) 3 w' w.heap.size (fun k_ => some k_ ≠ ((.slice Ao17 x4_1.length co17) : Value).ownBlock) v6 x6_3) ∧ Aside0 (Kd.R (Kd.int .i64) 3 w' w.heap.size (fun k_ => some k_ ≠ (v6 : Value).ownBlock) (.slice Ao17 x4_1.length co17) x4_1) ∧ Aside0 (Kd.V k45 45 w' w.heap.size (fun k_ => some k_ ≠ (v6 : Value).ownBlock ∧ some k_ ≠ ((.slice Ao17 x4_1.length co17) : Value).ownBlock ∧ k_ ≠ gb209) (.slice Ao15 t214.length co15) t214) ∧ Aside0 (w'.heap[gb209]? = some (.cells #[.int .i64 t213, (.slice Ao15 t214.length co15)] 24 (0, 0))) ∧ Aside0 (Below w.heap.size w w'))
                    case atStart => exact ⟨(([] : List Int)), (0), (by first | rfl | (simp; done) | (simp [*]; done)), H', ⟨Nat.le_refl _⟩, ⟨by first | exact Kd.R_nil _ _ _ _ _ | exact Kd.N_nil _ _ _ _ _ | exact Kd.V_nil _ _ _ _ _ | exact Kd.Q_nil _ _ _ _ _ | exact Kd.S_nil _ _ _ _ _⟩, ⟨by (with_reducible repeat (first | apply Kd.R_alloc | apply Kd.R_drewN | apply Kd.R_drew)); exact Kd.R_mono (Kd.R_far (p := ⟨gb209, 1, none⟩) (Kd.R_far (p := ⟨gb209, 0, none⟩) (Kd.R_types HO_4.out BK209.out (by decide)) (fun _ hk => hk.2) (.int .i64 t213)) (fun _ hk => hk.2) (.slice Ao15 t214.length co15)) (fun _ hk => (by simp [Value.ownBlock]))⟩, ⟨Kd.R_V (by (with_reducible repeat (first | apply Kd.R_alloc | apply Kd.R_drewN | apply Kd.R_drew)); exact Kd.R_mono (Kd.R_far (p := ⟨gb209, 1, none⟩) (Kd.R_far (p := ⟨gb209, 0, none⟩) (Kd.R_types (Kd.R_types (Kd.R_apart' HO216.out (Kd.R_typed HO_4.out) (by decide)) BK209.out (by decide)) BK209.out (by decide)) (fun _ hk => hk.2) (.int .i64 t213)) (fun _ hk => hk.2) (.slice Ao15 t214.length co15)) (fun _ hk => ⟨(by simp [Value.ownBlock]), ⟨hk.1.1.2, hk.1.2⟩⟩))⟩, ⟨by (with_reducible repeat (first | refine blk_drewN ?_ _ | refine blk_drew ?_ | refine blk_alloc ?_ _)); refine blk_put (cs := #[.int .i64 t213, .slice Ao12 x210001_1.length co12]) ?_ 1 _ rfl; (with_reducible repeat (first | refine blk_drewN ?_ _ | refine blk_drew ?_ | refine blk_alloc ?_ _)); refine blk_put (cs := #[.int .i64 x210000_1, .slice Ao12 x210001_1.length co12]) ?_ 0 _ rfl; (with_reducible repeat (first | refine blk_drewN ?_ _ | refine blk_drew ?_ | refine blk_alloc ?_ _)); exact BK209.out⟩, ⟨by repeat (first | (with_reducible first | exact HB.out | apply below_alloc | apply pw_below_drewN | apply below_drew1 | refine below_set ?_ GE209.out) | exact HB.out)⟩⟩
                    case round =>
                      clear H'
                      try clear c1
                      try clear p2
                      try clear q2
                      try clear hx2
                      try clear c4
                      try clear c4b0
                      try clear c5
                      try clear c6
                      try clear c6b0
                      try clear p6
                      try clear c7
                      try clear c7b0
                      try clear c9
                      try clear c9b0
                      try clear c11
                      try clear hx211_0
                      try clear hx212_0
                      try clear p2
                      try clear p211
                      try clear p212
                      try clear q211
                      try clear q212
                      obtain ⟨x6_3, x38_3, rfl, HA, HK3, HO_6, HO_36, HO_210001, BK209, HB⟩ := hrel
                      cases gk with
                      | zero => exact absurd HA.out (by simp [switchboardlaw10_LinkPlays.l1])
                      | succ k3 =>
                        have H := HA.out
                        clear HA
                        simp only [switchboardlaw10_LinkPlays.l1] at H
                        by_cases c18 : x38_3 < (x4_1.length : Int)
                        · rw [if_pos c18] at H
                          have c18b0 : decide (x38_3 < (x4_1.length : Int)) = true := decide_eq_true c18
                          clear c18
                          by_cases c19 : 0 ≤ x38_3
                          · rw [if_pos c19] at H
                            have c19b0 : decide (0 ≤ x38_3) = true := decide_eq_true c19
                            clear c19
                            by_cases c20 : x38_3 < (x4_1.length : Int)
                            · rw [if_pos c20] at H
                              have c20b0 : decide (x38_3 < (x4_1.length : Int)) = true := decide_eq_true c20
                              clear c20
                              by_cases c21 : 0 ≤ x5_1
                              · rw [if_pos c21] at H
                                have c21b0 : decide (0 ≤ x5_1) = true := decide_eq_true c21
                                clear c21
                                by_cases c22 : x5_1 < (l0.length : Int)
                                · rw [if_pos c22] at H
                                  have c22b0 : decide (x5_1 < (l0.length : Int)) = true := decide_eq_true c22
                                  clear c22
                                  by_cases c23 : (rd x4_1 x38_3) = (wrap64 (rd l0 x5_1))
                                  · rw [if_pos c23] at H
                                    have c23b0 : ((rd x4_1 x38_3) == (wrap64 (rd l0 x5_1))) = true := beq_iff_eq.mpr c23
                                    have c23b1 : ((rd x4_1 x38_3) != (wrap64 (rd l0 x5_1))) = false := bne_eq_false_iff_eq.mpr c23
                                    clear c23
                                    have H' := Aside0.mk H
                                    clear H
                                    have p217 : 0 ≤ (x38_3 : Int) := of_decide_eq_true (by first | (with_reducible assumption) | assumption)
                                    have q217 : x38_3 < (x4_1.length : Int) := of_decide_eq_true (by first | (with_reducible assumption) | assumption)
                                    obtain ⟨ad217, e217, hx217_0⟩ := Kd.at_int (Kd.R_reads' HO_36.out).2.2 x38_3 p217 q217
                                    cases e217
                                    replace p217 := eq_true p217
                                    replace q217 := eq_true q217
                                    have p218 : 0 ≤ (x5_1 : Int) := of_decide_eq_true (by first | (with_reducible assumption) | assumption)
                                    have q218 : x5_1 < (l0.length : Int) := of_decide_eq_true (by first | (with_reducible assumption) | assumption)
                                    obtain ⟨ad218, e218, hx218_0⟩ := Kd.at_int HR0.out x5_1 p218 q218
                                    obtain rfl : ad211 = ad218 := (by injection e218)
                                    replace hx218_0 := (HB.out.cell (World.block_lt_of_cell? w _ hx218_0)).trans hx218_0
                                    replace p218 := eq_true p218
                                    replace q218 := eq_true q218
                                    go_wp2
                                    go_roundg k3
                                    case measure => have := HK1.out; have := HJ2.out; have := HK3.out; omega
                                    case rel => exact ⟨(x6_3), (wrap64 (x38_3 + 1)), (by first | rfl | (simp; done) | (simp [*]; done)), H', ⟨by have := HK1.out; have := HJ2.out; have := HK3.out; omega⟩, ⟨by (with_reducible repeat (first | apply Kd.R_alloc | apply Kd.R_drewN | apply Kd.R_drew)); exact HO_6.out⟩, ⟨by (with_reducible repeat (first | apply Kd.R_alloc | apply Kd.R_drewN | apply Kd.R_drew)); exact HO_36.out⟩, ⟨by (with_reducible repeat (first | apply Kd.V_alloc | apply Kd.V_drewN | apply Kd.V_drew)); exact HO_210001.out⟩, ⟨by (with_reducible repeat (first | refine blk_drewN ?_ _ | refine blk_drew ?_ | refine blk_alloc ?_ _)); exact BK209.out⟩, ⟨by repeat (first | (with_reducible first | exact HB.out | apply below_alloc | apply pw_below_drewN | apply below_drew1 | refine below_set ?_ GE209.out) | exact HB.out)⟩⟩
                                  · rw [if_neg c23] at H
                                    have c23b0 : ((rd x4_1 x38_3) == (wrap64 (rd l0 x5_1))) = false := beq_eq_false_iff_ne.mpr c23
                                    have c23b1 : ((rd x4_1 x38_3) != (wrap64 (rd l0 x5_1))) = true := bne_iff_ne.mpr c23
                                    by_cases c24 : x6_3.length < 17592186044416
                                    · rw [if_pos c24] at H
                                      have LMc24 := Aside0.mk c24
                                      clear c24
                                      obtain ⟨y219, hy219⟩ : ∃ y_ : List Int, y_ = (x6_3 ++ [rd x4_1 x38_3]) := ⟨_, rfl⟩
                                      replace H : (switchboardlaw10_LinkPlays.l1 k3 l0 x5_1 y219 x4_1 (x4_1.length : Int) (wrap64 (x38_3 + 1)) t213 t214) = some true := by first | (rw [hy219]; with_reducible exact H) | (have H2_ := (Option.bind_some _ _).symm.trans H; rw [hy219]; with_reducible exact H2_) | (have H2_ := (Option.bind_some _ _).symm.trans H; with_reducible exact H2_) | with_reducible exact H | (rw [hy219]; exact H) | exact H
                                      have Ny219 := Aside0.mk hy219
                                      clear hy219
                                      have H' := Aside0.mk H
                                      clear H
                                      have p217 : 0 ≤ (x38_3 : Int) := of_decide_eq_true (by first | (with_reducible assumption) | assumption)
                                      have q217 : x38_3 < (x4_1.length : Int) := of_decide_eq_true (by first | (with_reducible assumption) | assumption)
                                      obtain ⟨ad217, e217, hx217_0⟩ := Kd.at_int (Kd.R_reads' HO_36.out).2.2 x38_3 p217 q217
                                      cases e217
                                      replace p217 := eq_true p217
                                      replace q217 := eq_true q217
                                      have p218 : 0 ≤ (x5_1 : Int) := of_decide_eq_true (by first | (with_reducible assumption) | assumption)
                                      have q218 : x5_1 < (l0.length : Int) := of_decide_eq_true (by first | (with_reducible assumption) | assumption)
                                      obtain ⟨ad218, e218, hx218_0⟩ := Kd.at_int HR0.out x5_1 p218 q218
                                      obtain rfl : ad211 = ad218 := (by injection e218)
                                      replace hx218_0 := (HB.out.cell (World.block_lt_of_cell? w _ hx218_0)).trans hx218_0
                                      replace p218 := eq_true p218
                                      replace q218 := eq_true q218
                                      go_wp2_with (first | ((with_reducible refine gate_builtin (b := .append) (xs := #[.tmp 49, .tmp 51]) rfl ?_); at_builtin; refine Kd.R_append (Kd.int .i64) (w0 := w) w.heap.size rfl (.tmp 49) (.tmp 51) 43 3 (.int .i64 0) 8 rfl Try.underlying43 info3 rfl (by decide) (by omega) u6 x6_3 (rd x4_1 x38_3) [.int .i64 (rd x4_1 x38_3)] (fun k_ => some k_ ≠ (.slice (some ad217) x4_1.length co17 : Value).ownBlock) (fun _ => False) rfl rfl ?aP (fun _ hk => hk.elim) ?aF ?aO ?aB ?aS ?aL ?_; (case aP => exact rfl); (case aB => exact (by repeat (first | (with_reducible first | exact HB.out | apply below_alloc | apply pw_below_drewN | apply below_drew1 | refine below_set ?_ GE209.out) | exact HB.out))); (case aF => exact (fun k_ hk => Kd.fresh' (Kd.R_lt (by (with_reducible repeat (first | apply Kd.R_alloc | apply Kd.R_drewN | apply Kd.R_drew)); exact HO_36.out)) k_ hk)); (case aO => exact (by (with_reducible repeat (first | apply Kd.R_alloc | apply Kd.R_drewN | apply Kd.R_drew)); exact HO_6.out)); (case aS => exact (below_size (by repeat (first | (with_reducible first | exact HB.out | apply below_alloc | apply pw_below_drewN | apply below_drew1 | refine below_set ?_ GE209.out) | exact HB.out)))); (case aL => have := LMc24.out; omega); intro v220 w25 ho hb hg hat; rw [← Ny219.out] at ho; have n0_ := Aside0.mk (Kd.R_after (ok := (fun _ => True)) (by (with_reducible repeat (first | apply Kd.R_alloc | apply Kd.R_drewN | apply Kd.R_drew)); exact Kd.R_mono HO_36.out (fun _ hk => ⟨trivial, hk⟩)) hg hat); have n1_ := Aside0.mk (Kd.V_afterv (ok := (fun k_ => some k_ ≠ (.slice (some ad217) x4_1.length co17 : Value).ownBlock ∧ k_ ≠ gb209)) (by (with_reducible repeat (first | apply Kd.V_alloc | apply Kd.V_drewN | apply Kd.V_drew)); exact Kd.V_mono HO_210001.out (fun _ hk => ⟨⟨hk.2.1, hk.2.2⟩, hk.1⟩)) hg hat); have n2_ := Aside0.mk (blk_grown (g := gb209) (o := .cells #[.int .i64 t213, .slice Ao15 t214.length co15] 24 (0, 0)) (by (with_reducible repeat (first | refine blk_drewN ?_ _ | refine blk_drew ?_ | refine blk_alloc ?_ _)); exact BK209.out) hg (Kd.R_ne HO_6.out BK209.out (by decide))); have n3_ := Aside0.mk (hb); have n4_ := Aside0.mk (ho); clear HO_36; clear HO_210001; clear BK209; clear HB; clear HO_6; have HO_36 := n0_; have HO_210001 := n1_; have BK209 := n2_; have HB := n3_; have HO221 := n4_; clear n0_ n1_ n2_ n3_ n4_; clear ho hb hg hat))
                                      go_roundg k3
                                      case measure => have := HK1.out; have := HJ2.out; have := HK3.out; omega
                                      case rel => exact ⟨(y219), (wrap64 (x38_3 + 1)), (by first | rfl | (simp; done) | (simp [*]; done)), H', ⟨by have := HK1.out; have := HJ2.out; have := HK3.out; omega⟩, ⟨by (with_reducible repeat (first | apply Kd.R_alloc | apply Kd.R_drewN | apply Kd.R_drew)); exact HO221.out⟩, ⟨by (with_reducible repeat (first | apply Kd.R_alloc | apply Kd.R_drewN | apply Kd.R_drew)); exact Kd.R_mono HO_36.out (fun _ hk => hk.2)⟩, ⟨by (with_reducible repeat (first | apply Kd.V_alloc | apply Kd.V_drewN | apply Kd.V_drew)); exact Kd.V_mono HO_210001.out (fun _ hk => ⟨hk.2, ⟨hk.1.1, hk.1.2⟩⟩)⟩, ⟨by (with_reducible repeat (first | refine blk_drewN ?_ _ | refine blk_drew ?_ | refine blk_alloc ?_ _)); exact BK209.out⟩, ⟨by repeat (first | (with_reducible first | exact HB.out | apply below_alloc | apply pw_below_drewN | apply below_drew1 | refine below_set ?_ GE209.out) | exact HB.out)⟩⟩
                                    · rw [if_neg c24] at H
                                      exact absurd H (by simp)
                                · rw [if_neg c22] at H
                                  exact absurd H (by simp)
                              · rw [if_neg c21] at H
                                exact absurd H (by simp)
                            · rw [if_neg c20] at H
                              exact absurd H (by simp)
                          · rw [if_neg c19] at H
                            exact absurd H (by simp)
                        · rw [if_neg c18] at H
                          have c18b0 : decide (x38_3 < (x4_1.length : Int)) = false := decide_eq_false c18
                          clear c18
                          have H' := Aside0.mk H
                          clear H
                          go_wp2
                          go_meet
                          case rel => exact ⟨_, (x6_3), (t213), (t214), (.slice Ao15 t214.length co15), H', ⟨by have := HK1.out; have := HJ2.out; have := HK3.out; first | omega | exact Nat.le_refl _⟩, ⟨by (with_reducible repeat (first | apply Kd.R_alloc | apply Kd.R_drewN | apply Kd.R_drew)); exact Kd.R_mono HO_6.out (fun _ hk => trivial)⟩, ⟨by (with_reducible repeat (first | apply Kd.V_alloc | apply Kd.V_drewN | apply Kd.V_drew)); exact Kd.V_mono HO_210001.out (fun _ hk => ⟨hk.1, hk.2.2⟩)⟩, ⟨by (with_reducible repeat (first | refine blk_drewN ?_ _ | refine blk_drew ?_ | refine blk_alloc ?_ _)); exact BK209.out⟩, ⟨by repeat (first | (with_reducible first | exact HB.out | apply below_alloc | apply pw_below_drewN | apply below_drew1 | refine below_set ?_ GE209.out) | exact HB.out)⟩⟩
                  · rw [if_neg c9] at H
                    have c9b0 : decide (0 ≤ (rd l0 x5_1)) = false := decide_eq_false c9
                    clear c9
                    (first | rw [c9b0] | (simp only [i64_w, i32_w]; rw [c9b0]) | skip)
                    replace H := Option.bind_eq_some_iff.mp H
                    obtain ⟨⟨t222, t223, t226, t227⟩, A260, H⟩ := H
                    replace H : (if ((t227 == 0) != (decide ((x4_1.length : Int) < 64))) = true then (some false) else (if t227 = 0 then (if x4_1.length < 17592186044416 then (switchboardlaw10_LinkPlays.j3 kj2 l0 (x4_1 ++ [t226]) x5_1 t222 t223) else (none)) else (switchboardlaw10_LinkPlays.j3 kj2 l0 x4_1 x5_1 t222 t223))) = some true := H
                    have A26 := Aside0.mk A260
                    clear A260
                    by_cases c27 : ((t227 == 0) != (decide ((x4_1.length : Int) < 64))) = true
                    · rw [if_pos c27] at H
                      have c27b0 : ((t227 == 0) != (decide ((x4_1.length : Int) < 64))) = true := c27
                      (try (have c27b1 : decide ((t227 == 0) = (decide ((x4_1.length : Int) < 64))) = false := by simpa using c27))
                      (try (have c27b2 : ((t227 == 0) == (decide ((x4_1.length : Int) < 64))) = false := by simpa using c27))
                      (try (have c27b3 : ¬ ((t227 == 0) = (decide ((x4_1.length : Int) < 64))) := by simpa using c27))
                      clear c27
                      exact absurd H (by simp)
                    · rw [if_neg c27] at H
                      have c27b0 : ((t227 == 0) != (decide ((x4_1.length : Int) < 64))) = false := by simpa using c27
                      (try (have c27b1 : decide ((t227 == 0) = (decide ((x4_1.length : Int) < 64))) = true := by simpa using c27))
                      (try (have c27b2 : ((t227 == 0) == (decide ((x4_1.length : Int) < 64))) = true := by simpa using c27))
                      clear c27
                      by_cases c28 : t227 = 0
                      · rw [if_pos c28] at H
                        have c28b0 : (t227 == 0) = true := beq_iff_eq.mpr c28
                        have c28b1 : (t227 != 0) = false := bne_eq_false_iff_eq.mpr c28
                        have c28x : decide (x4_1.length < 64) = true := by have h_ := c27b0; rw [c28b0] at h_; simp at h_; rw [decide_eq_true_iff]; omega
                        have c28y : decide ((x4_1.length : Int) < 64) = true := by have h_ := c27b0; rw [c28b0] at h_; simp at h_; rw [decide_eq_true_iff]; omega
                        clear c28
                        by_cases c29 : x4_1.length < 17592186044416
                        · rw [if_pos c29] at H
                          have LMc29 := Aside0.mk c29
                          clear c29
                          obtain ⟨y229, hy229⟩ : ∃ y_ : List Int, y_ = (x4_1 ++ [t226]) := ⟨_, rfl⟩
                          replace H : (switchboardlaw10_LinkPlays.j3 kj2 l0 y229 x5_1 t222 t223) = some true := by first | (rw [hy229]; with_reducible exact H) | (have H2_ := (Option.bind_some _ _).symm.trans H; rw [hy229]; with_reducible exact H2_) | (have H2_ := (Option.bind_some _ _).symm.trans H; with_reducible exact H2_) | with_reducible exact H | (rw [hy229]; exact H) | exact H
                          have Ny229 := Aside0.mk hy229
                          clear hy229
                          have H' := Aside0.mk H
                          clear H
                          have hcz30_0 : wc.cell? ⟨gb209, 0, none⟩ = some (.int .i64 x210000_1) := (blk_cell BK209.out 0).trans rfl
                          have hcz30_1 : wc.cell? ⟨gb209, 1, none⟩ = some (u210001) := (blk_cell BK209.out 1).trans rfl
                          have hfz30_0 := blk_frozen BK209.out 0
                          have hfz30_1 := blk_frozen BK209.out 1
                          obtain ⟨Ao31, co31, eo31⟩ := Kd.V_slice HO_210001.out
                          subst eo31
                          go_wp2_with (first | ((with_reducible refine gate_callee (f := 10) rfl ?_); refine goesL_ (some 57) rfl rfl Try.func10 (by kernel_rfl) rfl #[.agg #[.int .i64 x210000_1, .slice Ao31 x210001_1.length co31], .string (⟨#[120]⟩ : ByteArray)] rfl (by (try simp only [List.map_toArray, List.map_cons, List.map_nil]); first | done | rfl | (simp only [List.length_drop, List.length_take]; rfl)) ?_; (with_reducible refine (link_Push.calls kj2 x210000_1 (fun k_ => (some k_ ≠ (u4 : Value).ownBlock ∧ k_ ≠ gb209)) _ _ x210001_1 (⟨#[120]⟩ : ByteArray) t222 t223 t226 t227 _ ?side1 A26.out).mono ?_); (case side1 => exact HO_210001.out); rintro e w32 ⟨v224, rfl, ho0, hb⟩; refine ⟨_, rfl, ?_⟩; have n0_ := Aside0.mk (Kd.R_below (by (with_reducible repeat (first | apply Kd.R_alloc | apply Kd.R_drewN | apply Kd.R_drew)); exact HO_4.out) hb); have n1_ := Aside0.mk (Kd.V_below (by (with_reducible repeat (first | apply Kd.V_alloc | apply Kd.V_drewN | apply Kd.V_drew)); exact HO_210001.out) hb); have n2_ := Aside0.mk (Kd.V_lower (Kd.V_mono (ok' := fun k_ => some k_ ≠ (u4 : Value).ownBlock ∧ k_ ≠ gb209) ho0 (fun k_ hk_ => ⟨Or.elim hk_ (fun hs_ => hs_.1) (fun hn_ => (Kd.fresh' (Kd.R_lt (by (with_reducible repeat (first | apply Kd.R_alloc | apply Kd.R_drewN | apply Kd.R_drew)); exact HO_4.out)) k_ hn_)), Or.elim hk_ (fun hs_ => hs_.2) (fun hn_ => (Kd.freshB (g := gb209) (o := .cells #[.int .i64 x210000_1, .slice Ao31 x210001_1.length co31] 24 (0, 0)) (by (with_reducible repeat (first | refine blk_drewN ?_ _ | refine blk_drew ?_ | refine blk_alloc ?_ _)); exact BK209.out) k_ hn_))⟩)) (below_size (by repeat (first | (with_reducible first | exact HB.out | apply below_alloc | apply pw_below_drewN | apply below_drew1 | refine below_set ?_ GE209.out) | exact HB.out)))); have n3_ := Aside0.mk (blk_below (g := gb209) (o := .cells #[.int .i64 x210000_1, .slice Ao31 x210001_1.length co31] 24 (0, 0)) (by (with_reducible repeat (first | refine blk_drewN ?_ _ | refine blk_drew ?_ | refine blk_alloc ?_ _)); exact BK209.out) hb); have n4_ := Aside0.mk (below_step (by repeat (first | (with_reducible first | exact HB.out | apply below_alloc | apply pw_below_drewN | apply below_drew1 | refine below_set ?_ GE209.out) | exact HB.out)) hb); clear HO_4; clear HO_210001; clear BK209; clear HB; have HO_4 := n0_; have HO_210001 := n1_; have HO225 := n2_; have BK209 := n3_; have HB := n4_; clear n0_ n1_ n2_ n3_ n4_; (try clear hb); (try clear hb2); (try clear hk); (try clear hi); (try clear ho0)) | ((with_reducible refine gate_dst (N := 9) rfl ?_); refine box_event ?hg (N := 9) ?hd (cs := #[.int .i64 0, .slice none 0 0]) (t := 24) ?hr ?_; (case hd => rfl); (case hg => rfl); (case hr => first | (go_simp; done) | (go_simp; rfl)); intro gb228 hg w33 hbox hb; have n0_ := Aside0.mk (Kd.R_below (by (with_reducible repeat (first | apply Kd.R_alloc | apply Kd.R_drewN | apply Kd.R_drew)); exact HO_4.out) hb); have n1_ := Aside0.mk (Kd.V_below (Kd.V_elderB (by (with_reducible repeat (first | apply Kd.V_alloc | apply Kd.V_drewN | apply Kd.V_drew)); exact HO_210001.out) gb228 (Nat.le_of_eq hg.symm)) hb); have n2_ := Aside0.mk (Kd.V_below (Kd.V_elderB (by (with_reducible repeat (first | apply Kd.V_alloc | apply Kd.V_drewN | apply Kd.V_drew)); exact HO225.out) gb228 (Nat.le_of_eq hg.symm)) hb); have n3_ := Aside0.mk (blk_below (g := gb209) (o := .cells #[.int .i64 x210000_1, .slice Ao31 x210001_1.length co31] 24 (0, 0)) (by (with_reducible repeat (first | refine blk_drewN ?_ _ | refine blk_drew ?_ | refine blk_alloc ?_ _)); exact BK209.out) hb); have n4_ := Aside0.mk (below_step (by repeat (first | (with_reducible first | exact HB.out | apply below_alloc | apply pw_below_drewN | apply below_drew1 | refine below_set ?_ GE209.out) | exact HB.out)) hb); have n5_ := Aside0.mk (hbox); have n6_ := Aside0.mk ((by rw [hg]; exact (below_size (by repeat (first | (with_reducible first | exact HB.out | apply below_alloc | apply pw_below_drewN | apply below_drew1 | refine below_set ?_ GE209.out) | exact HB.out))) : w.heap.size ≤ gb228)); have n7_ := Aside0.mk ((by rw [hg]; exact (below_size (by repeat (first | (with_reducible first | exact HB.out | apply below_alloc | apply pw_below_drewN | apply below_drew1 | refine below_set ?_ GE209.out) | exact HB.out))) : w.heap.size ≤ gb228)); have n8_ := Aside0.mk ((by rw [hg]; exact Nat.ne_of_lt (blk_lt (g := gb209) (o := .cells #[.int .i64 x210000_1, .slice Ao31 x210001_1.length co31] 24 (0, 0)) (by (with_reducible repeat (first | refine blk_drewN ?_ _ | refine blk_drew ?_ | refine blk_alloc ?_ _)); exact BK209.out)) : gb209 ≠ gb228)); have n9_ := Aside0.mk ((by rw [hg]; exact Nat.ne_of_gt (blk_lt (g := gb209) (o := .cells #[.int .i64 x210000_1, .slice Ao31 x210001_1.length co31] 24 (0, 0)) (by (with_reducible repeat (first | refine blk_drewN ?_ _ | refine blk_drew ?_ | refine blk_alloc ?_ _)); exact BK209.out)) : gb228 ≠ gb209)); clear HO_4; clear HO_210001; clear HO225; clear BK209; clear HB; have HO_4 := n0_; have HO_210001 := n1_; have HO225 := n2_; have BK209 := n3_; have HB := n4_; have BK228 := n5_; have GW228 := n6_; have GE228 := n7_; have NB209_228 := n8_; have NB228_209 := n9_; clear n0_ n1_ n2_ n3_ n4_ n5_ n6_ n7_ n8_ n9_; clear hb hbox hg; have hnb34 := NB228_209.out; have hnc34 := NB209_228.out; have hcz35_0 : w33.cell? ⟨gb228, 0, none⟩ = some (.int .i64 0) := (blk_cell BK228.out 0).trans rfl; have hcz35_1 : w33.cell? ⟨gb228, 1, none⟩ = some (.slice none 0 0) := (blk_cell BK228.out 1).trans rfl; have hfz35_0 := blk_frozen BK228.out 0; have hfz35_1 := blk_frozen BK228.out 1; obtain ⟨Ao36, co36, eo36⟩ := Kd.V_slice HO225.out; subst eo36; obtain ⟨Ao37, co37, eo37⟩ := Kd.R_slice HO_4.out; subst eo37) | ((with_reducible refine gate_builtin (b := .append) (xs := #[.tmp 69, .tmp 71]) rfl ?_); at_builtin; refine Kd.R_append (Kd.int .i64) (w0 := w) w.heap.size rfl (.tmp 69) (.tmp 71) 43 3 (.int .i64 0) 8 rfl Try.underlying43 info3 rfl (by decide) (by omega) (.slice Ao37 x4_1.length co37) x4_1 t226 [.int .i64 t226] (fun _ => True) (fun _ => False) rfl (by first | (go_simp; done) | (go_simp; rfl)) ?aP (fun _ hk => hk.elim) ?aF ?aO ?aB ?aS ?aL ?_; (case aP => exact rfl); (case aB => exact (by repeat (first | (with_reducible first | exact HB.out | apply below_alloc | apply pw_below_drewN | apply below_drew1 | refine below_set ?_ GE209.out | refine below_set ?_ GE228.out) | exact HB.out))); (case aF => exact (fun _ _ => trivial)); (case aO => exact (by (with_reducible repeat (first | apply Kd.R_alloc | apply Kd.R_drewN | apply Kd.R_drew)); exact Kd.R_mono (Kd.R_far (p := ⟨gb228, 1, none⟩) (Kd.R_far (p := ⟨gb228, 0, none⟩) (Kd.R_types HO_4.out BK228.out (by decide)) (fun _ hk => hk.2) (.int .i64 t222)) (fun _ hk => hk.2) (.slice Ao36 t223.length co36)) (fun _ hk => trivial))); (case aS => exact (below_size (by repeat (first | (with_reducible first | exact HB.out | apply below_alloc | apply pw_below_drewN | apply below_drew1 | refine below_set ?_ GE209.out | refine below_set ?_ GE228.out) | exact HB.out)))); (case aL => have := LMc29.out; omega); intro v230 w38 ho hb hg hat; rw [← Ny229.out] at ho; have n0_ := Aside0.mk (Kd.V_afterv (ok := (fun k_ => k_ ≠ gb209 ∧ k_ ≠ gb228)) (by (with_reducible repeat (first | apply Kd.V_alloc | apply Kd.V_drewN | apply Kd.V_drew)); exact Kd.V_mono (Kd.V_far (p := ⟨gb228, 1, none⟩) (Kd.V_far (p := ⟨gb228, 0, none⟩) (Kd.V_mono HO_210001.out (fun k_ hk => (⟨hk, hk.2⟩ : _ ∧ k_ ≠ gb228))) (fun _ hk => hk.2) (.int .i64 t222)) (fun _ hk => hk.2) (.slice Ao36 t223.length co36)) (fun _ hk => ⟨⟨hk.1.1.2, hk.1.2⟩, hk.1.1.1⟩)) hg hat); have n1_ := Aside0.mk (blk_grown (g := gb209) (o := .cells #[.int .i64 x210000_1, .slice Ao31 x210001_1.length co31] 24 (0, 0)) (by (with_reducible repeat (first | refine blk_drewN ?_ _ | refine blk_drew ?_ | refine blk_alloc ?_ _)); refine blk_far ?_ NB209_228.out _; (with_reducible repeat (first | refine blk_drewN ?_ _ | refine blk_drew ?_ | refine blk_alloc ?_ _)); refine blk_far ?_ NB209_228.out _; (with_reducible repeat (first | refine blk_drewN ?_ _ | refine blk_drew ?_ | refine blk_alloc ?_ _)); exact BK209.out) hg (Kd.R_ne HO_4.out BK209.out (by decide))); have n2_ := Aside0.mk (Kd.V_afterv (ok := (fun k_ => k_ ≠ gb209 ∧ k_ ≠ gb228)) (by (with_reducible repeat (first | apply Kd.V_alloc | apply Kd.V_drewN | apply Kd.V_drew)); exact Kd.V_mono (Kd.V_far (p := ⟨gb228, 1, none⟩) (Kd.V_far (p := ⟨gb228, 0, none⟩) (Kd.V_mono HO225.out (fun k_ hk => (⟨hk, hk.2⟩ : _ ∧ k_ ≠ gb228))) (fun _ hk => hk.2) (.int .i64 t222)) (fun _ hk => hk.2) (.slice Ao36 t223.length co36)) (fun _ hk => ⟨⟨hk.1.1.2, hk.1.2⟩, hk.1.1.1⟩)) hg hat); have n3_ := Aside0.mk (blk_grown (g := gb228) (o := .cells #[.int .i64 t222, .slice Ao36 t223.length co36] 24 (0, 0)) (by (with_reducible repeat (first | refine blk_drewN ?_ _ | refine blk_drew ?_ | refine blk_alloc ?_ _)); refine blk_put (cs := #[.int .i64 t222, .slice none 0 0]) ?_ 1 _ rfl; (with_reducible repeat (first | refine blk_drewN ?_ _ | refine blk_drew ?_ | refine blk_alloc ?_ _)); refine blk_put (cs := #[.int .i64 0, .slice none 0 0]) ?_ 0 _ rfl; (with_reducible repeat (first | refine blk_drewN ?_ _ | refine blk_drew ?_ | refine blk_alloc ?_ _)); exact BK228.out) hg (Kd.R_ne HO_4.out BK228.out (by decide))); have n4_ := Aside0.mk (hb); have n5_ := Aside0.mk (ho); clear HO_210001; clear BK209; clear HO225; clear BK228; clear HB; clear HO_4; have HO_210001 := n0_; have BK209 := n1_; have HO225 := n2_; have BK228 := n3_; have HB := n4_; have HO231 := n5_; clear n0_ n1_ n2_ n3_ n4_ n5_; clear ho hb hg hat; have hcz39_0 : w38.cell? ⟨gb228, 0, none⟩ = some (.int .i64 t222) := (blk_cell BK228.out 0).trans rfl; have hcz39_1 : w38.cell? ⟨gb228, 1, none⟩ = some (.slice Ao36 t223.length co36) := (blk_cell BK228.out 1).trans rfl; have hfz39_0 := blk_frozen BK228.out 0; have hfz39_1 := blk_frozen BK228.out 1; have hcz40_0 : w38.cell? ⟨gb209, 0, none⟩ = some (.int .i64 x210000_1) := (blk_cell BK209.out 0).trans rfl; have hcz40_1 : w38.cell? ⟨gb209, 1, none⟩ = some (.slice Ao31 x210001_1.length co31) := (blk_cell BK209.out 1).trans rfl; have hfz40_0 := blk_frozen BK209.out 0; have hfz40_1 := blk_frozen BK209.out 1))
                          go_meet
                          case rel => exact ⟨_, (y229), (t222), (t223), (.slice Ao36 t223.length co36), H', ⟨by have := HK1.out; have := HJ2.out; first | omega | exact Nat.le_refl _⟩, ⟨by (with_reducible repeat (first | apply Kd.R_alloc | apply Kd.R_drewN | apply Kd.R_drew)); exact Kd.R_mono (Kd.R_far (p := ⟨gb209, 1, none⟩) (Kd.R_far (p := ⟨gb209, 0, none⟩) (Kd.R_types HO231.out BK209.out (by decide)) (fun _ hk => hk.2) (.int .i64 t222)) (fun _ hk => hk.2) (.slice Ao36 t223.length co36)) (fun _ hk => trivial)⟩, ⟨by (with_reducible repeat (first | apply Kd.V_alloc | apply Kd.V_drewN | apply Kd.V_drew)); exact Kd.V_mono (Kd.V_far (p := ⟨gb209, 1, none⟩) (Kd.V_far (p := ⟨gb209, 0, none⟩) (Kd.V_mono HO225.out (fun k_ hk => (⟨hk, hk.1.1⟩ : _ ∧ k_ ≠ gb209))) (fun _ hk => hk.2) (.int .i64 t222)) (fun _ hk => hk.2) (.slice Ao36 t223.length co36)) (fun _ hk => ⟨hk.1.2, hk.1.1.1⟩)⟩, ⟨by (with_reducible repeat (first | refine blk_drewN ?_ _ | refine blk_drew ?_ | refine blk_alloc ?_ _)); refine blk_put (cs := #[.int .i64 t222, .slice Ao31 x210001_1.length co31]) ?_ 1 _ rfl; (with_reducible repeat (first | refine blk_drewN ?_ _ | refine blk_drew ?_ | refine blk_alloc ?_ _)); refine blk_put (cs := #[.int .i64 x210000_1, .slice Ao31 x210001_1.length co31]) ?_ 0 _ rfl; (with_reducible repeat (first | refine blk_drewN ?_ _ | refine blk_drew ?_ | refine blk_alloc ?_ _)); exact BK209.out⟩, ⟨by repeat (first | (with_reducible first | exact HB.out | apply below_alloc | apply pw_below_drewN | apply below_drew1 | refine below_set ?_ GE209.out | refine below_set ?_ GE228.out) | exact HB.out)⟩⟩
                        · rw [if_neg c29] at H
                          exact absurd H (by simp)
                      · rw [if_neg c28] at H
                        have c28b0 : (t227 == 0) = false := beq_eq_false_iff_ne.mpr c28
                        have c28b1 : (t227 != 0) = true := bne_iff_ne.mpr c28
                        have c28x : decide (x4_1.length < 64) = false := by have h_ := c27b0; rw [c28b0] at h_; simp at h_; rw [decide_eq_false_iff_not]; omega
                        have c28y : decide ((x4_1.length : Int) < 64) = false := by have h_ := c27b0; rw [c28b0] at h_; simp at h_; rw [decide_eq_false_iff_not]; omega
                        have H' := Aside0.mk H
                        clear H
                        have hcz41_0 : wc.cell? ⟨gb209, 0, none⟩ = some (.int .i64 x210000_1) := (blk_cell BK209.out 0).trans rfl
                        have hcz41_1 : wc.cell? ⟨gb209, 1, none⟩ = some (u210001) := (blk_cell BK209.out 1).trans rfl
                        have hfz41_0 := blk_frozen BK209.out 0
                        have hfz41_1 := blk_frozen BK209.out 1
                        obtain ⟨Ao42, co42, eo42⟩ := Kd.V_slice HO_210001.out
                        subst eo42
                        go_wp2_with (first | ((with_reducible refine gate_callee (f := 10) rfl ?_); refine goesL_ (some 57) rfl rfl Try.func10 (by kernel_rfl) rfl #[.agg #[.int .i64 x210000_1, .slice Ao42 x210001_1.length co42], .string (⟨#[120]⟩ : ByteArray)] rfl (by (try simp only [List.map_toArray, List.map_cons, List.map_nil]); first | done | rfl | (simp only [List.length_drop, List.length_take]; rfl)) ?_; (with_reducible refine (link_Push.calls kj2 x210000_1 (fun k_ => (some k_ ≠ (u4 : Value).ownBlock ∧ k_ ≠ gb209)) _ _ x210001_1 (⟨#[120]⟩ : ByteArray) t222 t223 t226 t227 _ ?side1 A26.out).mono ?_); (case side1 => exact HO_210001.out); rintro e w43 ⟨v224, rfl, ho0, hb⟩; refine ⟨_, rfl, ?_⟩; have n0_ := Aside0.mk (Kd.R_below (by (with_reducible repeat (first | apply Kd.R_alloc | apply Kd.R_drewN | apply Kd.R_drew)); exact HO_4.out) hb); have n1_ := Aside0.mk (Kd.V_below (by (with_reducible repeat (first | apply Kd.V_alloc | apply Kd.V_drewN | apply Kd.V_drew)); exact HO_210001.out) hb); have n2_ := Aside0.mk (Kd.V_lower (Kd.V_mono (ok' := fun k_ => some k_ ≠ (u4 : Value).ownBlock ∧ k_ ≠ gb209) ho0 (fun k_ hk_ => ⟨Or.elim hk_ (fun hs_ => hs_.1) (fun hn_ => (Kd.fresh' (Kd.R_lt (by (with_reducible repeat (first | apply Kd.R_alloc | apply Kd.R_drewN | apply Kd.R_drew)); exact HO_4.out)) k_ hn_)), Or.elim hk_ (fun hs_ => hs_.2) (fun hn_ => (Kd.freshB (g := gb209) (o := .cells #[.int .i64 x210000_1, .slice Ao42 x210001_1.length co42] 24 (0, 0)) (by (with_reducible repeat (first | refine blk_drewN ?_ _ | refine blk_drew ?_ | refine blk_alloc ?_ _)); exact BK209.out) k_ hn_))⟩)) (below_size (by repeat (first | (with_reducible first | exact HB.out | apply below_alloc | apply pw_below_drewN | apply below_drew1 | refine below_set ?_ GE209.out) | exact HB.out)))); have n3_ := Aside0.mk (blk_below (g := gb209) (o := .cells #[.int .i64 x210000_1, .slice Ao42 x210001_1.length co42] 24 (0, 0)) (by (with_reducible repeat (first | refine blk_drewN ?_ _ | refine blk_drew ?_ | refine blk_alloc ?_ _)); exact BK209.out) hb); have n4_ := Aside0.mk (below_step (by repeat (first | (with_reducible first | exact HB.out | apply below_alloc | apply pw_below_drewN | apply below_drew1 | refine below_set ?_ GE209.out) | exact HB.out)) hb); clear HO_4; clear HO_210001; clear BK209; clear HB; have HO_4 := n0_; have HO_210001 := n1_; have HO225 := n2_; have BK209 := n3_; have HB := n4_; clear n0_ n1_ n2_ n3_ n4_; (try clear hb); (try clear hb2); (try clear hk); (try clear hi); (try clear ho0)) | ((with_reducible refine gate_dst (N := 9) rfl ?_); refine box_event ?hg (N := 9) ?hd (cs := #[.int .i64 0, .slice none 0 0]) (t := 24) ?hr ?_; (case hd => rfl); (case hg => rfl); (case hr => first | (go_simp; done) | (go_simp; rfl)); intro gb228 hg w44 hbox hb; have n0_ := Aside0.mk (Kd.R_below (by (with_reducible repeat (first | apply Kd.R_alloc | apply Kd.R_drewN | apply Kd.R_drew)); exact HO_4.out) hb); have n1_ := Aside0.mk (Kd.V_below (Kd.V_elderB (by (with_reducible repeat (first | apply Kd.V_alloc | apply Kd.V_drewN | apply Kd.V_drew)); exact HO_210001.out) gb228 (Nat.le_of_eq hg.symm)) hb); have n2_ := Aside0.mk (Kd.V_below (Kd.V_elderB (by (with_reducible repeat (first | apply Kd.V_alloc | apply Kd.V_drewN | apply Kd.V_drew)); exact HO225.out) gb228 (Nat.le_of_eq hg.symm)) hb); have n3_ := Aside0.mk (blk_below (g := gb209) (o := .cells #[.int .i64 x210000_1, .slice Ao42 x210001_1.length co42] 24 (0, 0)) (by (with_reducible repeat (first | refine blk_drewN ?_ _ | refine blk_drew ?_ | refine blk_alloc ?_ _)); exact BK209.out) hb); have n4_ := Aside0.mk (below_step (by repeat (first | (with_reducible first | exact HB.out | apply below_alloc | apply pw_below_drewN | apply below_drew1 | refine below_set ?_ GE209.out) | exact HB.out)) hb); have n5_ := Aside0.mk (hbox); have n6_ := Aside0.mk ((by rw [hg]; exact (below_size (by repeat (first | (with_reducible first | exact HB.out | apply below_alloc | apply pw_below_drewN | apply below_drew1 | refine below_set ?_ GE209.out) | exact HB.out))) : w.heap.size ≤ gb228)); have n7_ := Aside0.mk ((by rw [hg]; exact (below_size (by repeat (first | (with_reducible first | exact HB.out | apply below_alloc | apply pw_below_drewN | apply below_drew1 | refine below_set ?_ GE209.out) | exact HB.out))) : w.heap.size ≤ gb228)); have n8_ := Aside0.mk ((by rw [hg]; exact Nat.ne_of_lt (blk_lt (g := gb209) (o := .cells #[.int .i64 x210000_1, .slice Ao42 x210001_1.length co42] 24 (0, 0)) (by (with_reducible repeat (first | refine blk_drewN ?_ _ | refine blk_drew ?_ | refine blk_alloc ?_ _)); exact BK209.out)) : gb209 ≠ gb228)); have n9_ := Aside0.mk ((by rw [hg]; exact Nat.ne_of_gt (blk_lt (g := gb209) (o := .cells #[.int .i64 x210000_1, .slice Ao42 x210001_1.length co42] 24 (0, 0)) (by (with_reducible repeat (first | refine blk_drewN ?_ _ | refine blk_drew ?_ | refine blk_alloc ?_ _)); exact BK209.out)) : gb228 ≠ gb209)); clear HO_4; clear HO_210001; clear HO225; clear BK209; clear HB; have HO_4 := n0_; have HO_210001 := n1_; have HO225 := n2_; have BK209 := n3_; have HB := n4_; have BK228 := n5_; have GW228 := n6_; have GE228 := n7_; have NB209_228 := n8_; have NB228_209 := n9_; clear n0_ n1_ n2_ n3_ n4_ n5_ n6_ n7_ n8_ n9_; clear hb hbox hg; have hnb45 := NB228_209.out; have hnc45 := NB209_228.out; have hcz46_0 : w44.cell? ⟨gb228, 0, none⟩ = some (.int .i64 0) := (blk_cell BK228.out 0).trans rfl; have hcz46_1 : w44.cell? ⟨gb228, 1, none⟩ = some (.slice none 0 0) := (blk_cell BK228.out 1).trans rfl; have hfz46_0 := blk_frozen BK228.out 0; have hfz46_1 := blk_frozen BK228.out 1; obtain ⟨Ao47, co47, eo47⟩ := Kd.V_slice HO225.out; subst eo47; obtain ⟨Ao48, co48, eo48⟩ := Kd.R_slice HO_4.out; subst eo48; have hcz49_0 : w44.cell? ⟨gb209, 0, none⟩ = some (.int .i64 x210000_1) := (blk_cell BK209.out 0).trans rfl; have hcz49_1 : w44.cell? ⟨gb209, 1, none⟩ = some (.slice Ao42 x210001_1.length co42) := (blk_cell BK209.out 1).trans rfl; have hfz49_0 := blk_frozen BK209.out 0; have hfz49_1 := blk_frozen BK209.out 1))
                        go_meet
                        case rel => exact ⟨_, (x4_1), (t222), (t223), (.slice Ao47 t223.length co47), H', ⟨by have := HK1.out; have := HJ2.out; first | omega | exact Nat.le_refl _⟩, ⟨by (with_reducible repeat (first | apply Kd.R_alloc | apply Kd.R_drewN | apply Kd.R_drew)); exact Kd.R_mono (Kd.R_far (p := ⟨gb209, 1, none⟩) (Kd.R_far (p := ⟨gb209, 0, none⟩) (Kd.R_far (p := ⟨gb228, 1, none⟩) (Kd.R_far (p := ⟨gb228, 0, none⟩) (Kd.R_types (Kd.R_types HO_4.out BK228.out (by decide)) BK209.out (by decide)) (fun _ hk => hk.1.2) (.int .i64 t222)) (fun _ hk => hk.1.2) (.slice Ao47 t223.length co47)) (fun _ hk => hk.2) (.int .i64 t222)) (fun _ hk => hk.2) (.slice Ao47 t223.length co47)) (fun _ hk => trivial)⟩, ⟨by (with_reducible repeat (first | apply Kd.V_alloc | apply Kd.V_drewN | apply Kd.V_drew)); exact Kd.V_mono (Kd.V_far (p := ⟨gb209, 1, none⟩) (Kd.V_far (p := ⟨gb209, 0, none⟩) (Kd.V_far (p := ⟨gb228, 1, none⟩) (Kd.V_far (p := ⟨gb228, 0, none⟩) (Kd.V_mono (Kd.V_mono HO225.out (fun k_ hk => (⟨hk, hk.2⟩ : _ ∧ k_ ≠ gb228))) (fun k_ hk => (⟨hk, hk.1.1.2⟩ : _ ∧ k_ ≠ gb209))) (fun _ hk => hk.1.2) (.int .i64 t222)) (fun _ hk => hk.1.2) (.slice Ao47 t223.length co47)) (fun _ hk => hk.2) (.int .i64 t222)) (fun _ hk => hk.2) (.slice Ao47 t223.length co47)) (fun _ hk => ⟨hk.1.1.1.1, hk.1.1.1.2⟩)⟩, ⟨by (with_reducible repeat (first | refine blk_drewN ?_ _ | refine blk_drew ?_ | refine blk_alloc ?_ _)); refine blk_put (cs := #[.int .i64 t222, .slice Ao42 x210001_1.length co42]) ?_ 1 _ rfl; (with_reducible repeat (first | refine blk_drewN ?_ _ | refine blk_drew ?_ | refine blk_alloc ?_ _)); refine blk_put (cs := #[.int .i64 x210000_1, .slice Ao42 x210001_1.length co42]) ?_ 0 _ rfl; (with_reducible repeat (first | refine blk_drewN ?_ _ | refine blk_drew ?_ | refine blk_alloc ?_ _)); refine blk_far ?_ NB209_228.out _; (with_reducible repeat (first | refine blk_drewN ?_ _ | refine blk_drew ?_ | refine blk_alloc ?_ _)); refine blk_far ?_ NB209_228.out _; (with_reducible repeat (first | refine blk_drewN ?_ _ | refine blk_drew ?_ | refine blk_alloc ?_ _)); exact BK209.out⟩, ⟨by repeat (first | (with_reducible first | exact HB.out | apply below_alloc | apply pw_below_drewN | apply below_drew1 | refine below_set ?_ GE209.out | refine below_set ?_ GE228.out) | exact HB.out)⟩⟩
                case rest =>
                  clear HC8
                  try clear c1
                  try clear c2
                  try clear p2
                  try clear q2
                  try clear hx2
                  try clear c3
                  try clear c4
                  try clear c4b0
                  try clear c5
                  try clear c6
                  try clear c6b0
                  try clear p6
                  try clear c7
                  try clear c7b0
                  try clear c9
                  try clear c9b0
                  try clear c10
                  try clear c11
                  try clear c18
                  try clear c18b0
                  try clear c19
                  try clear c19b0
                  try clear c20
                  try clear c20b0
                  try clear c21
                  try clear c21b0
                  try clear p21
                  try clear q21
                  try clear hx21
                  try clear c22
                  try clear c22b0
                  try clear c23
                  try clear c23b0
                  try clear c23b1
                  try clear c24
                  try clear c27
                  try clear c27b0
                  try clear c27b1
                  try clear c27b2
                  try clear c28
                  try clear c28b0
                  try clear c28b1
                  try clear c29
                  try clear c34
                  try clear c45
                  try clear hcz30_0
                  try clear hcz30_1
                  try clear hcz35_0
                  try clear hcz35_1
                  try clear hcz39_0
                  try clear hcz39_1
                  try clear hcz40_0
                  try clear hcz40_1
                  try clear hcz41_0
                  try clear hcz41_1
                  try clear hcz46_0
                  try clear hcz46_1
                  try clear hcz49_0
                  try clear hcz49_1
                  try clear hfz30_0
                  try clear hfz30_1
                  try clear hfz35_0
                  try clear hfz35_1
                  try clear hfz39_0
                  try clear hfz39_1
                  try clear hfz40_0
                  try clear hfz40_1
                  try clear hfz41_0
                  try clear hfz41_1
                  try clear hfz46_0
                  try clear hfz46_1
                  try clear hfz49_0
                  try clear hfz49_1
                  try clear hx211_0
                  try clear hx212_0
                  try clear hx217_0
                  try clear hx218_0
                  try clear p2
                  try clear p211
                  try clear p212
                  try clear p217
                  try clear p218
                  try clear p6
                  try clear q2
                  try clear q211
                  try clear q212
                  try clear q217
                  try clear q218
                  obtain ⟨kq, x4_7, x210000_7, x210001_7, u210001, HA, HJ7, HO_4, HO_210001, BK209, HB⟩ := hcut
                  cases kq with
                  | zero => exact absurd HA.out (by simp [switchboardlaw10_LinkPlays.j3])
                  | succ kj7 =>
                    have H := HA.out
                    clear HA
                    simp only [switchboardlaw10_LinkPlays.j3] at H
                    have HC50 := Aside0.mk H
                    clear H
                    go_upto_region 22 with (fail)
                    go_cut [84] (fun v84 wc => ∃ (kq : Nat) (x84_49 : Bool), v84 = .bool x84_49 ∧ Aside0 (switchboardlaw10_LinkPlays.j4 kq l0 x4_7 x5_1 x84_49 x210000_7 x210001_7 = some true) ∧ Aside0 (kq ≤ kj7) ∧ Aside0 (Kd.R (Kd.int .i64) 3 wc w.heap.size (fun _ => True) u4 x4_7) ∧ Aside0 (Kd.V k45 45 wc w.heap.size (fun k_ => some k_ ≠ (u4 : Value).ownBlock ∧ k_ ≠ gb209) u210001 x210001_7) ∧ Aside0 (wc.heap[gb209]? = some (.cells #[.int .i64 x210000_7, u210001] 24 (0, 0))) ∧ Aside0 (Below w.heap.size w wc))
                    case first =>
                      have H := HC50.out
                      clear HC50
                      by_cases c51 : (x210001_7.length : Int) = (x4_7.length : Int)
                      · rw [if_pos c51] at H
                        have c51b0 : ((x210001_7.length : Int) == (x4_7.length : Int)) = true := beq_iff_eq.mpr c51
                        have c51b1 : ((x210001_7.length : Int) != (x4_7.length : Int)) = false := bne_eq_false_iff_eq.mpr c51
                        have c51b2 : (x210001_7.length == x4_7.length) = true := by first | simpa using c51 | (simp at c51 ⊢; omega)
                        clear c51
                        (first | rw [c51b0] | (simp only [i64_w, i32_w]; rw [c51b0]) | skip)
                        replace H := Option.bind_eq_some_iff.mp H
                        obtain ⟨t232, A520, H⟩ := H
                        replace H : (switchboardlaw10_LinkPlays.j4 kj7 l0 x4_7 x5_1 (!t232) x210000_7 x210001_7) = some true := H
                        have A52 := Aside0.mk A520
                        clear A520
                        have H' := Aside0.mk H
                        clear H
                        have hcz53_0 : wc.cell? ⟨gb209, 0, none⟩ = some (.int .i64 x210000_7) := (blk_cell BK209.out 0).trans rfl
                        have hcz53_1 : wc.cell? ⟨gb209, 1, none⟩ = some (u210001) := (blk_cell BK209.out 1).trans rfl
                        have hfz53_0 := blk_frozen BK209.out 0
                        have hfz53_1 := blk_frozen BK209.out 1
                        obtain ⟨Ao54, co54, eo54⟩ := Kd.V_slice HO_210001.out
                        subst eo54
                        obtain ⟨Ao55, co55, eo55⟩ := Kd.R_slice HO_4.out
                        subst eo55
                        go_wp2_with (first | (go_at_call 14; (with_reducible refine (link_Right.calls kj7 x210000_7 _ _ x210001_7 t232 _ ?side1 ?side2 A52.out).mono ?_); (case side1 => repeat (first | exact (Kd.V_reads' HO_210001.out).2.2 | (with_reducible refine Kd.C_alloc ?_ _) | (with_reducible refine Kd.C_drewN ?_ _) | (with_reducible refine Kd.C_drew ?_))); (case side2 => exact (Kd.V_reads' HO_210001.out).2.1); rintro e w56 ⟨rfl, hb⟩; have n0_ := Aside0.mk (Kd.R_below (by (with_reducible repeat (first | apply Kd.R_alloc | apply Kd.R_drewN | apply Kd.R_drew)); exact HO_4.out) hb); have n1_ := Aside0.mk (Kd.V_below (by (with_reducible repeat (first | apply Kd.V_alloc | apply Kd.V_drewN | apply Kd.V_drew)); exact HO_210001.out) hb); have n2_ := Aside0.mk (blk_below (g := gb209) (o := .cells #[.int .i64 x210000_7, .slice Ao54 x210001_7.length co54] 24 (0, 0)) (by (with_reducible repeat (first | refine blk_drewN ?_ _ | refine blk_drew ?_ | refine blk_alloc ?_ _)); exact BK209.out) hb); have n3_ := Aside0.mk (below_step (by repeat (first | (with_reducible first | exact HB.out | apply below_alloc | apply pw_below_drewN | apply below_drew1 | refine below_set ?_ GE209.out) | exact HB.out)) hb); clear HO_4; clear HO_210001; clear BK209; clear HB; have HO_4 := n0_; have HO_210001 := n1_; have BK209 := n2_; have HB := n3_; clear n0_ n1_ n2_ n3_; (try clear hb); (try clear hb2); (try clear hk); (try clear hi)))
                        go_meet
                        case rel => exact ⟨_, (!t232), (by first | rfl | (simp; done) | (simp [*]; done)), H', ⟨by have := HK1.out; have := HJ2.out; have := HJ7.out; first | omega | exact Nat.le_refl _⟩, ⟨by (with_reducible repeat (first | apply Kd.R_alloc | apply Kd.R_drewN | apply Kd.R_drew)); exact HO_4.out⟩, ⟨by (with_reducible repeat (first | apply Kd.V_alloc | apply Kd.V_drewN | apply Kd.V_drew)); exact HO_210001.out⟩, ⟨by (with_reducible repeat (first | refine blk_drewN ?_ _ | refine blk_drew ?_ | refine blk_alloc ?_ _)); exact BK209.out⟩, ⟨by repeat (first | (with_reducible first | exact HB.out | apply below_alloc | apply pw_below_drewN | apply below_drew1 | refine below_set ?_ GE209.out) | exact HB.out)⟩⟩
                      · rw [if_neg c51] at H
                        have c51b0 : ((x210001_7.length : Int) == (x4_7.length : Int)) = false := beq_eq_false_iff_ne.mpr c51
                        have c51b1 : ((x210001_7.length : Int) != (x4_7.length : Int)) = true := bne_iff_ne.mpr c51
                        have c51b2 : (x210001_7.length == x4_7.length) = false := by first | simpa using c51 | (simp at c51 ⊢; omega)
                        (first | rw [c51b0] | (simp only [i64_w, i32_w]; rw [c51b0]) | skip)
                        have H' := Aside0.mk H
                        clear H
                        have hcz57_0 : wc.cell? ⟨gb209, 0, none⟩ = some (.int .i64 x210000_7) := (blk_cell BK209.out 0).trans rfl
                        have hcz57_1 : wc.cell? ⟨gb209, 1, none⟩ = some (u210001) := (blk_cell BK209.out 1).trans rfl
                        have hfz57_0 := blk_frozen BK209.out 0
                        have hfz57_1 := blk_frozen BK209.out 1
                        obtain ⟨Ao58, co58, eo58⟩ := Kd.V_slice HO_210001.out
                        subst eo58
                        obtain ⟨Ao59, co59, eo59⟩ := Kd.R_slice HO_4.out
                        subst eo59
                        go_wp2
                        go_meet
                        case rel => exact ⟨_, (true), (by first | rfl | (simp; done) | (simp [*]; done)), H', ⟨by have := HK1.out; have := HJ2.out; have := HJ7.out; first | omega | exact Nat.le_refl _⟩, ⟨by (with_reducible repeat (first | apply Kd.R_alloc | apply Kd.R_drewN | apply Kd.R_drew)); exact HO_4.out⟩, ⟨by (with_reducible repeat (first | apply Kd.V_alloc | apply Kd.V_drewN | apply Kd.V_drew)); exact HO_210001.out⟩, ⟨by (with_reducible repeat (first | refine blk_drewN ?_ _ | refine blk_drew ?_ | refine blk_alloc ?_ _)); exact BK209.out⟩, ⟨by repeat (first | (with_reducible first | exact HB.out | apply below_alloc | apply pw_below_drewN | apply below_drew1 | refine below_set ?_ GE209.out) | exact HB.out)⟩⟩
                    case rest =>
                      clear HC50
                      try clear c1
                      try clear c2
                      try clear p2
                      try clear q2
                      try clear hx2
                      try clear c3
                      try clear c4
                      try clear c4b0
                      try clear c5
                      try clear c6
                      try clear c6b0
                      try clear p6
                      try clear c7
                      try clear c7b0
                      try clear c9
                      try clear c9b0
                      try clear c10
                      try clear c11
                      try clear c18
                      try clear c18b0
                      try clear c19
                      try clear c19b0
                      try clear c20
                      try clear c20b0
                      try clear c21
                      try clear c21b0
                      try clear p21
                      try clear q21
                      try clear hx21
                      try clear c22
                      try clear c22b0
                      try clear c23
                      try clear c23b0
                      try clear c23b1
                      try clear c24
                      try clear c27
                      try clear c27b0
                      try clear c27b1
                      try clear c27b2
                      try clear c28
                      try clear c28b0
                      try clear c28b1
                      try clear c29
                      try clear c34
                      try clear c45
                      try clear c51
                      try clear c51b0
                      try clear c51b1
                      try clear c51b2
                      try clear hcz30_0
                      try clear hcz30_1
                      try clear hcz35_0
                      try clear hcz35_1
                      try clear hcz39_0
                      try clear hcz39_1
                      try clear hcz40_0
                      try clear hcz40_1
                      try clear hcz41_0
                      try clear hcz41_1
                      try clear hcz46_0
                      try clear hcz46_1
                      try clear hcz49_0
                      try clear hcz49_1
                      try clear hcz53_0
                      try clear hcz53_1
                      try clear hcz57_0
                      try clear hcz57_1
                      try clear hfz30_0
                      try clear hfz30_1
                      try clear hfz35_0
                      try clear hfz35_1
                      try clear hfz39_0
                      try clear hfz39_1
                      try clear hfz40_0
                      try clear hfz40_1
                      try clear hfz41_0
                      try clear hfz41_1
                      try clear hfz46_0
                      try clear hfz46_1
                      try clear hfz49_0
                      try clear hfz49_1
                      try clear hfz53_0
                      try clear hfz53_1
                      try clear hfz57_0
                      try clear hfz57_1
                      try clear hx211_0
                      try clear hx212_0
                      try clear hx217_0
                      try clear hx218_0
                      try clear p2
                      try clear p21
                      try clear p211
                      try clear p212
                      try clear p217
                      try clear p218
                      try clear p6
                      try clear q2
                      try clear q21
                      try clear q211
                      try clear q212
                      try clear q217
                      try clear q218
                      obtain ⟨kq, x84_49, rfl, HA, HJ49, HO_4, HO_210001, BK209, HB⟩ := hcut
                      cases kq with
                      | zero => exact absurd HA.out (by simp [switchboardlaw10_LinkPlays.j4])
                      | succ kj49 =>
                        have H := HA.out
                        clear HA
                        simp only [switchboardlaw10_LinkPlays.j4] at H
                        by_cases c60 : x84_49 = true
                        · subst c60
                          have H1 : (some false) = some true := by rw [if_pos rfl] at H; exact H
                          clear H
                          have H := H1
                          clear H1
                          exact absurd H (by simp)
                        · replace c60 := Bool.eq_false_iff.mpr c60
                          subst c60
                          have H1 : (switchboardlaw10_LinkPlays.l2 kj49 l0 x4_7 x5_1 x210001_7 (x210001_7.length : Int) 0 x210000_7 x210001_7) = some true := by rw [if_neg (show ¬ (false = true) by decide)] at H; exact H
                          clear H
                          have H := H1
                          clear H1
                          have H' := Aside0.mk H
                          clear H
                          have hcz61_0 : wc.cell? ⟨gb209, 0, none⟩ = some (.int .i64 x210000_7) := (blk_cell BK209.out 0).trans rfl
                          have hcz61_1 : wc.cell? ⟨gb209, 1, none⟩ = some (u210001) := (blk_cell BK209.out 1).trans rfl
                          have hfz61_0 := blk_frozen BK209.out 0
                          have hfz61_1 := blk_frozen BK209.out 1
                          obtain ⟨Ao62, co62, eo62⟩ := Kd.V_slice HO_210001.out
                          subst eo62
                          go_wp2
                          go_loopg [88] kj49 (fun kq v88 w' => ∃ (x88_5 : Int), v88 = .int .i64 x88_5 ∧ Aside0 (switchboardlaw10_LinkPlays.l2 kq l0 x4_7 x5_1 x210001_7 (x210001_7.length : Int) x88_5 x210000_7 x210001_7 = some true) ∧ Aside0 (kq ≤ kj49) ∧ Aside0 (Kd.R (Kd.int .i64) 3 w' w.heap.size (fun _ => True) u4 x4_7) ∧ Aside0 (Kd.V k45 45 w' w.heap.size (fun k_ => some k_ ≠ (u4 : Value).ownBlock ∧ k_ ≠ gb209) (.slice Ao62 x210001_7.length co62) x210001_7) ∧ Aside0 (Kd.V k45 45 w' w.heap.size (fun k_ => some k_ ≠ (u4 : Value).ownBlock ∧ k_ ≠ gb209) (.slice Ao62 x210001_7.length co62) x210001_7) ∧ Aside0 (w'.heap[gb209]? = some (.cells #[.int .i64 x210000_7, (.slice Ao62 x210001_7.length co62)] 24 (0, 0))) ∧ Aside0 (Below w.heap.size w w'))
                          case atStart => exact ⟨(0), (by first | rfl | (simp; done) | (simp [*]; done)), H', ⟨Nat.le_refl _⟩, ⟨by (with_reducible repeat (first | apply Kd.R_alloc | apply Kd.R_drewN | apply Kd.R_drew)); exact HO_4.out⟩, ⟨by (with_reducible repeat (first | apply Kd.V_alloc | apply Kd.V_drewN | apply Kd.V_drew)); exact HO_210001.out⟩, ⟨by (with_reducible repeat (first | apply Kd.V_alloc | apply Kd.V_drewN | apply Kd.V_drew)); exact HO_210001.out⟩, ⟨by (with_reducible repeat (first | refine blk_drewN ?_ _ | refine blk_drew ?_ | refine blk_alloc ?_ _)); exact BK209.out⟩, ⟨by repeat (first | (with_reducible first | exact HB.out | apply below_alloc | apply pw_below_drewN | apply below_drew1 | refine below_set ?_ GE209.out) | exact HB.out)⟩⟩
                          case round =>
                            clear H'
                            try clear c1
                            try clear c2
                            try clear p2
                            try clear q2
                            try clear hx2
                            try clear c3
                            try clear c4
                            try clear c4b0
                            try clear c5
                            try clear c6
                            try clear c6b0
                            try clear p6
                            try clear c7
                            try clear c7b0
                            try clear c9
                            try clear c9b0
                            try clear c10
                            try clear c11
                            try clear c18
                            try clear c18b0
                            try clear c19
                            try clear c19b0
                            try clear c20
                            try clear c20b0
                            try clear c21
                            try clear c21b0
                            try clear p21
                            try clear q21
                            try clear hx21
                            try clear c22
                            try clear c22b0
                            try clear c23
                            try clear c23b0
                            try clear c23b1
                            try clear c24
                            try clear c27
                            try clear c27b0
                            try clear c27b1
                            try clear c27b2
                            try clear c28
                            try clear c28b0
                            try clear c28b1
                            try clear c29
                            try clear c34
                            try clear c45
                            try clear c51
                            try clear c51b0
                            try clear c51b1
                            try clear c51b2
                            try clear c60
                            try clear hcz30_0
                            try clear hcz30_1
                            try clear hcz35_0
                            try clear hcz35_1
                            try clear hcz39_0
                            try clear hcz39_1
                            try clear hcz40_0
                            try clear hcz40_1
                            try clear hcz41_0
                            try clear hcz41_1
                            try clear hcz46_0
                            try clear hcz46_1
                            try clear hcz49_0
                            try clear hcz49_1
                            try clear hcz53_0
                            try clear hcz53_1
                            try clear hcz57_0
                            try clear hcz57_1
                            try clear hcz61_0
                            try clear hcz61_1
                            try clear hfz30_0
                            try clear hfz30_1
                            try clear hfz35_0
                            try clear hfz35_1
                            try clear hfz39_0
                            try clear hfz39_1
                            try clear hfz40_0
                            try clear hfz40_1
                            try clear hfz41_0
                            try clear hfz41_1
                            try clear hfz46_0
                            try clear hfz46_1
                            try clear hfz49_0
                            try clear hfz49_1
                            try clear hfz53_0
                            try clear hfz53_1
                            try clear hfz57_0
                            try clear hfz57_1
                            try clear hfz61_0
                            try clear hfz61_1
                            try clear hx211_0
                            try clear hx212_0
                            try clear hx217_0
                            try clear hx218_0
                            try clear p2
                            try clear p21
                            try clear p211
                            try clear p212
                            try clear p217
                            try clear p218
                            try clear p6
                            try clear q2
                            try clear q21
                            try clear q211
                            try clear q212
                            try clear q217
                            try clear q218
                            obtain ⟨x88_5, rfl, HA, HK5, HO_4, HO_86, HO_210001, BK209, HB⟩ := hrel
                            cases gk with
                            | zero => exact absurd HA.out (by simp [switchboardlaw10_LinkPlays.l2])
                            | succ k5 =>
                              have H := HA.out
                              clear HA
                              simp only [switchboardlaw10_LinkPlays.l2] at H
                              by_cases c63 : x88_5 < (x210001_7.length : Int)
                              · rw [if_pos c63] at H
                                have c63b0 : decide (x88_5 < (x210001_7.length : Int)) = true := decide_eq_true c63
                                clear c63
                                by_cases c64 : 0 ≤ x88_5
                                · rw [if_pos c64] at H
                                  have c64b0 : decide (0 ≤ x88_5) = true := decide_eq_true c64
                                  clear c64
                                  by_cases c65 : x88_5 < (x210001_7.length : Int)
                                  · rw [if_pos c65] at H
                                    have c65b0 : decide (x88_5 < (x210001_7.length : Int)) = true := decide_eq_true c65
                                    clear c65
                                    by_cases c66 : x88_5 < (x4_7.length : Int)
                                    · rw [if_pos c66] at H
                                      have c66b0 : decide (x88_5 < (x4_7.length : Int)) = true := decide_eq_true c66
                                      clear c66
                                      by_cases c67 : ((rd_T45 x210001_7 x88_5).f0) = (rd x4_7 x88_5)
                                      · rw [if_pos c67] at H
                                        have c67b0 : (((rd_T45 x210001_7 x88_5).f0) == (rd x4_7 x88_5)) = true := beq_iff_eq.mpr c67
                                        have c67b1 : (((rd_T45 x210001_7 x88_5).f0) != (rd x4_7 x88_5)) = false := bne_eq_false_iff_eq.mpr c67
                                        clear c67
                                        by_cases c68 : ((rd_T45 x210001_7 x88_5).f1).toList = ([120] : List UInt8)
                                        · rw [if_pos c68] at H
                                          have c68b0 : (((rd_T45 x210001_7 x88_5).f1).toList == ([120] : List UInt8)) = true := beq_iff_eq.mpr c68
                                          have c68b1 : (((rd_T45 x210001_7 x88_5).f1).toList != ([120] : List UInt8)) = false := bne_eq_false_iff_eq.mpr c68
                                          clear c68
                                          have H' := Aside0.mk H
                                          clear H
                                          have p233 : 0 ≤ (x88_5 : Int) := of_decide_eq_true (by first | (with_reducible assumption) | assumption)
                                          have q233 : x88_5 < (x210001_7.length : Int) := of_decide_eq_true (by first | (with_reducible assumption) | assumption)
                                          obtain ⟨ad233, e233, hx233_0, hx233_1⟩ := at_T45 (Kd.V_reads' HO_86.out).2.2 x88_5 p233 q233
                                          cases e233
                                          replace p233 := eq_true p233
                                          replace q233 := eq_true q233
                                          try go_wp2_with (first | ((with_reducible refine gate_dst (N := 13) rfl ?_); refine box_event ?hg (N := 13) ?hd (cs := #[.int .i64 0, .string (⟨#[]⟩ : ByteArray)]) (t := 45) ?hr ?_; (case hd => rfl); (case hg => rfl); (case hr => first | (go_simp; done) | (go_simp; rfl)); intro gb234 hg w69 hbox hb; have n0_ := Aside0.mk (Kd.R_below (by (with_reducible repeat (first | apply Kd.R_alloc | apply Kd.R_drewN | apply Kd.R_drew)); exact HO_4.out) hb); have n1_ := Aside0.mk (Kd.V_below (Kd.V_elderB (by (with_reducible repeat (first | apply Kd.V_alloc | apply Kd.V_drewN | apply Kd.V_drew)); exact HO_86.out) gb234 (Nat.le_of_eq hg.symm)) hb); have n2_ := Aside0.mk (Kd.V_below (Kd.V_elderB (by (with_reducible repeat (first | apply Kd.V_alloc | apply Kd.V_drewN | apply Kd.V_drew)); exact HO_210001.out) gb234 (Nat.le_of_eq hg.symm)) hb); have n3_ := Aside0.mk (blk_below (g := gb209) (o := .cells #[.int .i64 x210000_7, .slice (some ad233) x210001_7.length co62] 24 (0, 0)) (by (with_reducible repeat (first | refine blk_drewN ?_ _ | refine blk_drew ?_ | refine blk_alloc ?_ _)); exact BK209.out) hb); have n4_ := Aside0.mk (below_step (by repeat (first | (with_reducible first | exact HB.out | apply below_alloc | apply pw_below_drewN | apply below_drew1 | refine below_set ?_ GE209.out) | exact HB.out)) hb); have n5_ := Aside0.mk (hbox); have n6_ := Aside0.mk ((by rw [hg]; exact (below_size (by repeat (first | (with_reducible first | exact HB.out | apply below_alloc | apply pw_below_drewN | apply below_drew1 | refine below_set ?_ GE209.out) | exact HB.out))) : w.heap.size ≤ gb234)); have n7_ := Aside0.mk ((by rw [hg]; exact (below_size (by repeat (first | (with_reducible first | exact HB.out | apply below_alloc | apply pw_below_drewN | apply below_drew1 | refine below_set ?_ GE209.out) | exact HB.out))) : w.heap.size ≤ gb234)); have n8_ := Aside0.mk ((by rw [hg]; exact Nat.ne_of_lt (blk_lt (g := gb209) (o := .cells #[.int .i64 x210000_7, .slice (some ad233) x210001_7.length co62] 24 (0, 0)) (by (with_reducible repeat (first | refine blk_drewN ?_ _ | refine blk_drew ?_ | refine blk_alloc ?_ _)); exact BK209.out)) : gb209 ≠ gb234)); have n9_ := Aside0.mk ((by rw [hg]; exact Nat.ne_of_gt (blk_lt (g := gb209) (o := .cells #[.int .i64 x210000_7, .slice (some ad233) x210001_7.length co62] 24 (0, 0)) (by (with_reducible repeat (first | refine blk_drewN ?_ _ | refine blk_drew ?_ | refine blk_alloc ?_ _)); exact BK209.out)) : gb234 ≠ gb209)); clear HO_4; clear HO_86; clear HO_210001; clear BK209; clear HB; have HO_4 := n0_; have HO_86 := n1_; have HO_210001 := n2_; have BK209 := n3_; have HB := n4_; have BK234 := n5_; have GW234 := n6_; have GE234 := n7_; have NB209_234 := n8_; have NB234_209 := n9_; clear n0_ n1_ n2_ n3_ n4_ n5_ n6_ n7_ n8_ n9_; clear hb hbox hg; have hnb70 := NB234_209.out; have hnc70 := NB209_234.out; have hcz71_0 : w69.cell? ⟨gb234, 0, none⟩ = some (.int .i64 0) := (blk_cell BK234.out 0).trans rfl; have hcz71_1 : w69.cell? ⟨gb234, 1, none⟩ = some (.string (⟨#[]⟩ : ByteArray)) := (blk_cell BK234.out 1).trans rfl; have hfz71_0 := blk_frozen BK234.out 0; have hfz71_1 := blk_frozen BK234.out 1))
                                          have n0_ : Aside0 (Kd.R (Kd.int .i64) 3 ((w69.setCell ⟨gb234, 0, none⟩ (.int .i64 ((rd_T45 x210001_7 x88_5).f0))).setCell ⟨gb234, 1, none⟩ (.string ((rd_T45 x210001_7 x88_5).f1))) w.heap.size (fun _ => True) u4 x4_7) := ⟨by (with_reducible repeat (first | apply Kd.R_alloc | apply Kd.R_drewN | apply Kd.R_drew)); exact Kd.R_mono (Kd.R_far (p := ⟨gb234, 1, none⟩) (Kd.R_far (p := ⟨gb234, 0, none⟩) (Kd.R_types HO_4.out BK234.out (by decide)) (fun _ hk => hk.2) (.int .i64 ((rd_T45 x210001_7 x88_5).f0))) (fun _ hk => hk.2) (.string ((rd_T45 x210001_7 x88_5).f1))) (fun _ hk => trivial)⟩
                                          have n1_ : Aside0 (Kd.V k45 45 ((w69.setCell ⟨gb234, 0, none⟩ (.int .i64 ((rd_T45 x210001_7 x88_5).f0))).setCell ⟨gb234, 1, none⟩ (.string ((rd_T45 x210001_7 x88_5).f1))) w.heap.size (fun k_ => some k_ ≠ (u4 : Value).ownBlock ∧ k_ ≠ gb209 ∧ k_ ≠ gb234) (.slice (some ad233) x210001_7.length co62) x210001_7) := ⟨by (with_reducible repeat (first | apply Kd.V_alloc | apply Kd.V_drewN | apply Kd.V_drew)); exact Kd.V_mono (Kd.V_far (p := ⟨gb234, 1, none⟩) (Kd.V_far (p := ⟨gb234, 0, none⟩) (Kd.V_mono HO_86.out (fun k_ hk => (⟨hk, hk.2⟩ : _ ∧ k_ ≠ gb234))) (fun _ hk => hk.2) (.int .i64 ((rd_T45 x210001_7 x88_5).f0))) (fun _ hk => hk.2) (.string ((rd_T45 x210001_7 x88_5).f1))) (fun _ hk => ⟨hk.1.1.1, ⟨hk.1.1.2, hk.1.2⟩⟩)⟩
                                          have n2_ : Aside0 (Kd.V k45 45 ((w69.setCell ⟨gb234, 0, none⟩ (.int .i64 ((rd_T45 x210001_7 x88_5).f0))).setCell ⟨gb234, 1, none⟩ (.string ((rd_T45 x210001_7 x88_5).f1))) w.heap.size (fun k_ => some k_ ≠ (u4 : Value).ownBlock ∧ k_ ≠ gb209 ∧ k_ ≠ gb234) (.slice (some ad233) x210001_7.length co62) x210001_7) := ⟨by (with_reducible repeat (first | apply Kd.V_alloc | apply Kd.V_drewN | apply Kd.V_drew)); exact Kd.V_mono (Kd.V_far (p := ⟨gb234, 1, none⟩) (Kd.V_far (p := ⟨gb234, 0, none⟩) (Kd.V_mono HO_210001.out (fun k_ hk => (⟨hk, hk.2⟩ : _ ∧ k_ ≠ gb234))) (fun _ hk => hk.2) (.int .i64 ((rd_T45 x210001_7 x88_5).f0))) (fun _ hk => hk.2) (.string ((rd_T45 x210001_7 x88_5).f1))) (fun _ hk => ⟨hk.1.1.1, ⟨hk.1.1.2, hk.1.2⟩⟩)⟩
                                          have n3_ : Aside0 (((w69.setCell ⟨gb234, 0, none⟩ (.int .i64 ((rd_T45 x210001_7 x88_5).f0))).setCell ⟨gb234, 1, none⟩ (.string ((rd_T45 x210001_7 x88_5).f1))).heap[gb209]? = some (.cells #[.int .i64 x210000_7, .slice (some ad233) x210001_7.length co62] 24 (0, 0))) := ⟨by (with_reducible repeat (first | refine blk_drewN ?_ _ | refine blk_drew ?_ | refine blk_alloc ?_ _)); refine blk_far ?_ NB209_234.out _; (with_reducible repeat (first | refine blk_drewN ?_ _ | refine blk_drew ?_ | refine blk_alloc ?_ _)); refine blk_far ?_ NB209_234.out _; (with_reducible repeat (first | refine blk_drewN ?_ _ | refine blk_drew ?_ | refine blk_alloc ?_ _)); exact BK209.out⟩
                                          have n4_ : Aside0 (((w69.setCell ⟨gb234, 0, none⟩ (.int .i64 ((rd_T45 x210001_7 x88_5).f0))).setCell ⟨gb234, 1, none⟩ (.string ((rd_T45 x210001_7 x88_5).f1))).heap[gb234]? = some (.cells #[.int .i64 ((rd_T45 x210001_7 x88_5).f0), .string ((rd_T45 x210001_7 x88_5).f1)] 45 (0, 0))) := ⟨by (with_reducible repeat (first | refine blk_drewN ?_ _ | refine blk_drew ?_ | refine blk_alloc ?_ _)); refine blk_put (cs := #[.int .i64 ((rd_T45 x210001_7 x88_5).f0), .string (⟨#[]⟩ : ByteArray)]) ?_ 1 _ rfl; (with_reducible repeat (first | refine blk_drewN ?_ _ | refine blk_drew ?_ | refine blk_alloc ?_ _)); refine blk_put (cs := #[.int .i64 0, .string (⟨#[]⟩ : ByteArray)]) ?_ 0 _ rfl; (with_reducible repeat (first | refine blk_drewN ?_ _ | refine blk_drew ?_ | refine blk_alloc ?_ _)); exact BK234.out⟩
                                          have n5_ : Aside0 (Below w.heap.size w ((w69.setCell ⟨gb234, 0, none⟩ (.int .i64 ((rd_T45 x210001_7 x88_5).f0))).setCell ⟨gb234, 1, none⟩ (.string ((rd_T45 x210001_7 x88_5).f1)))) := ⟨by repeat (first | (with_reducible first | exact HB.out | apply below_alloc | apply pw_below_drewN | apply below_drew1 | refine below_set ?_ GE209.out | refine below_set ?_ GE234.out) | exact HB.out)⟩
                                          (try clear HO_4)
                                          (try clear HO_86)
                                          (try clear HO_210001)
                                          (try clear BK209)
                                          (try clear BK234)
                                          (try clear HB)
                                          generalize ((w69.setCell ⟨gb234, 0, none⟩ (.int .i64 ((rd_T45 x210001_7 x88_5).f0))).setCell ⟨gb234, 1, none⟩ (.string ((rd_T45 x210001_7 x88_5).f1))) = w72 at n0_ n1_ n2_ n3_ n4_ n5_ ⊢
                                          have HO_4 := n0_
                                          have HO_86 := n1_
                                          have HO_210001 := n2_
                                          have BK209 := n3_
                                          have BK234 := n4_
                                          have HB := n5_
                                          clear n0_ n1_ n2_ n3_ n4_ n5_
                                          have n0_ := Aside0.mk (Kd.R_drew HO_4.out)
                                          have n1_ := Aside0.mk (Kd.V_drew HO_86.out)
                                          have n2_ := Aside0.mk (Kd.V_drew HO_210001.out)
                                          have n3_ := Aside0.mk (blk_drew BK209.out)
                                          have n4_ := Aside0.mk (blk_drew BK234.out)
                                          have n5_ := Aside0.mk (below_drew1 HB.out)
                                          clear HO_4
                                          clear HO_86
                                          clear HO_210001
                                          clear BK209
                                          clear BK234
                                          clear HB
                                          have HO_4 := n0_
                                          have HO_86 := n1_
                                          have HO_210001 := n2_
                                          have BK209 := n3_
                                          have BK234 := n4_
                                          have HB := n5_
                                          clear n0_ n1_ n2_ n3_ n4_ n5_
                                          obtain ⟨Ao74, co74, eo74⟩ := Kd.R_slice HO_4.out
                                          (first | subst eo74 | (injection eo74 with f1_ f2_ f3_; have f4_ := f1_.symm; have f5_ := f3_.symm; clear f1_ f2_ f3_; subst f4_; subst f5_))
                                          have p235 : 0 ≤ (x88_5 : Int) := of_decide_eq_true (by first | (with_reducible assumption) | assumption)
                                          have q235 : x88_5 < (x4_7.length : Int) := of_decide_eq_true (by first | (with_reducible assumption) | assumption)
                                          obtain ⟨ad235, e235, hx235_0⟩ := Kd.at_int (Kd.R_reads' HO_4.out).2.2 x88_5 p235 q235
                                          cases e235
                                          replace p235 := eq_true p235
                                          replace q235 := eq_true q235
                                          refine start_ (n := 12) (S := fun w' => w'.cell? ⟨gb234, 0, none⟩ = some (.int .i64 ((rd_T45 x210001_7 x88_5).f0)) ∧ w'.cell? ⟨gb234, 1, none⟩ = some (.string ((rd_T45 x210001_7 x88_5).f1)) ∧ w'.cell? (ad235.add (x88_5).toNat) = some (.int .i64 (rd x4_7 x88_5))) (ds := []) #[false, false, false, false, false, false, false, false, false, false, false, false] (by kernel_rfl) rfl rfl ⟨(blk_cell BK234.out 0).trans rfl, (blk_cell BK234.out 1).trans rfl, hx235_0⟩ (fun hHeld => ?_); refine with_tabW switchboardlaw10_LinkPlays.tab27 switchboardlaw10_LinkPlays.bits27 (fun HT_ HW_ => ?_)
                                          generalize w72.drew = w73 at HO_4 HO_86 HO_210001 BK209 BK234 HB hx235_0 hHeld ⊢
                                          refine pure_ (i := 0) (N := some 93) (v := ?_) (a' := ?_) #[true, false, false, false, false, false, false, false, false, false, false, false] rfl rfl (any_of HT_.out (by kernel_rfl)) (fun _ _ _ h => h) (Or.inl ⟨by rfl, ?_⟩) ?_ ?_
                                          rotate_left
                                          · intro w'
                                            go_simp
                                            with_reducible rfl
                                          rotate_left
                                          · simp only [Act.put, List.setIfInBounds_toArray, List.set_cons_zero, List.set_cons_succ, i64_w, i32_w]
                                            rfl
                                          refine pure_ (i := 2) (N := some 95) (v := ?_) (a' := ?_) #[true, false, true, false, false, false, false, false, false, false, false, false] rfl rfl (any_of HT_.out (by kernel_rfl)) (fun _ _ _ h => h) (Or.inl ⟨by rfl, ?_⟩) ?_ ?_
                                          rotate_left
                                          · intro w'
                                            go_simp
                                            with_reducible rfl
                                          rotate_left
                                          · simp only [Act.put, List.setIfInBounds_toArray, List.set_cons_zero, List.set_cons_succ, i64_w, i32_w]
                                            rfl
                                          refine pure_ (i := 3) (N := some 96) (v := ?_) (a' := ?_) #[true, false, true, true, false, false, false, false, false, false, false, false] rfl rfl (any_of HT_.out (by kernel_rfl)) (fun _ _ _ h => h) (Or.inl ⟨by rfl, ?_⟩) ?_ ?_
                                          rotate_left
                                          · intro w'
                                            go_simp
                                            with_reducible rfl
                                          rotate_left
                                          · simp only [Act.put, List.setIfInBounds_toArray, List.set_cons_zero, List.set_cons_succ, i64_w, i32_w]
                                            rfl
                                          refine pure_ (i := 4) (N := some 97) (v := ?_) (a' := ?_) #[true, false, true, true, true, false, false, false, false, false, false, false] rfl rfl (any_of HT_.out (by kernel_rfl)) (fun _ _ _ h => h) (Or.inl ⟨by rfl, ?_⟩) ?_ ?_
                                          rotate_left
                                          · intro w'
                                            go_simp
                                            with_reducible rfl
                                          rotate_left
                                          · simp only [Act.put, List.setIfInBounds_toArray, List.set_cons_zero, List.set_cons_succ, i64_w, i32_w]
                                            rfl
                                          refine take_ (i := 1) (N := some 94) (v := ?_) (a' := ?_) #[true, true, true, true, true, false, false, false, false, false, false, false] rfl rfl (take_ofW HT_.out HW_.out (by kernel_rfl)) (fun _ _ _ h => h) (Or.inl ⟨by rfl, ?_⟩) hHeld ?_ ?_
                                          rotate_left
                                          · rintro w' ⟨s0, s1, s2⟩
                                            go_simp
                                            with_reducible rfl
                                          rotate_left
                                          · simp only [Act.put, List.setIfInBounds_toArray, List.set_cons_zero, List.set_cons_succ, i64_w, i32_w]
                                            rfl
                                          refine take_ (i := 5) (N := some 98) (v := ?_) (a' := ?_) #[true, true, true, true, true, true, false, false, false, false, false, false] rfl rfl (take_ofW HT_.out HW_.out (by kernel_rfl)) (fun _ _ _ h => h) (Or.inl ⟨by rfl, ?_⟩) hHeld ?_ ?_
                                          rotate_left
                                          · rintro w' ⟨s0, s1, s2⟩
                                            go_simp
                                            with_reducible rfl
                                          rotate_left
                                          · simp only [Act.put, List.setIfInBounds_toArray, List.set_cons_zero, List.set_cons_succ, i64_w, i32_w]
                                            rfl
                                          refine pure_ (i := 6) (N := some 99) (v := ?_) (a' := ?_) #[true, true, true, true, true, true, true, false, false, false, false, false] rfl rfl (any_of HT_.out (by kernel_rfl)) (fun _ _ _ h => h) (Or.inl ⟨by rfl, ?_⟩) ?_ ?_
                                          rotate_left
                                          · intro w'
                                            go_simp
                                            with_reducible rfl
                                          rotate_left
                                          · simp only [Act.put, List.setIfInBounds_toArray, List.set_cons_zero, List.set_cons_succ, i64_w, i32_w]
                                            rfl
                                          refine pure_ (i := 7) (N := some 100) (v := ?_) (a' := ?_) #[true, true, true, true, true, true, true, true, false, false, false, false] rfl rfl (any_of HT_.out (by kernel_rfl)) (fun _ _ _ h => h) (Or.inl ⟨by rfl, ?_⟩) ?_ ?_
                                          rotate_left
                                          · intro w'
                                            go_simp
                                            with_reducible rfl
                                          rotate_left
                                          · simp only [Act.put, List.setIfInBounds_toArray, List.set_cons_zero, List.set_cons_succ, i64_w, i32_w]
                                            rfl
                                          refine pure_ (i := 8) (N := some 101) (v := ?_) (a' := ?_) #[true, true, true, true, true, true, true, true, true, false, false, false] rfl rfl (any_of HT_.out (by kernel_rfl)) (fun _ _ _ h => h) (Or.inl ⟨by rfl, ?_⟩) ?_ ?_
                                          rotate_left
                                          · intro w'
                                            go_simp
                                            with_reducible rfl
                                          rotate_left
                                          · simp only [Act.put, List.setIfInBounds_toArray, List.set_cons_zero, List.set_cons_succ, i64_w, i32_w]
                                            rfl
                                          refine take_ (i := 9) (N := some 102) (v := ?_) (a' := ?_) #[true, true, true, true, true, true, true, true, true, true, false, false] rfl rfl (take_ofW HT_.out HW_.out (by kernel_rfl)) (fun _ _ _ h => h) (Or.inl ⟨by rfl, ?_⟩) hHeld ?_ ?_
                                          rotate_left
                                          · rintro w' ⟨s0, s1, s2⟩
                                            go_simp
                                            with_reducible rfl
                                          rotate_left
                                          · simp only [Act.put, List.setIfInBounds_toArray, List.set_cons_zero, List.set_cons_succ, i64_w, i32_w]
                                            rfl
                                          refine pure_ (i := 10) (N := some 103) (v := ?_) (a' := ?_) #[true, true, true, true, true, true, true, true, true, true, true, false] rfl rfl (any_of HT_.out (by kernel_rfl)) (fun _ _ _ h => h) (Or.inl ⟨by rfl, ?_⟩) ?_ ?_
                                          rotate_left
                                          · intro w'
                                            go_simp
                                            with_reducible rfl
                                          rotate_left
                                          · simp only [Act.put, List.setIfInBounds_toArray, List.set_cons_zero, List.set_cons_succ, i64_w, i32_w]
                                            rfl
                                          refine pure_ (i := 11) (N := some 104) (v := ?_) (a' := ?_) #[true, true, true, true, true, true, true, true, true, true, true, true] rfl rfl (any_of HT_.out (by kernel_rfl)) (fun _ _ _ h => h) (Or.inl ⟨by rfl, ?_⟩) ?_ ?_
                                          rotate_left
                                          · intro w'
                                            go_simp
                                            with_reducible rfl
                                          rotate_left
                                          · simp only [Act.put, List.setIfInBounds_toArray, List.set_cons_zero, List.set_cons_succ, i64_w, i32_w]
                                            rfl
                                          refine done_ (done_of HT_.out (by kernel_rfl)) ?_
                                          try go_wp2
                                          go_roundg k5
                                          case measure => have := HK1.out; have := HJ2.out; have := HJ7.out; have := HJ49.out; have := HK5.out; omega
                                          case rel => exact ⟨(wrap64 (x88_5 + 1)), (by first | rfl | (simp; done) | (simp [*]; done)), H', ⟨by have := HK1.out; have := HJ2.out; have := HJ7.out; have := HJ49.out; have := HK5.out; omega⟩, ⟨by (with_reducible repeat (first | apply Kd.R_alloc | apply Kd.R_drewN | apply Kd.R_drew)); exact HO_4.out⟩, ⟨by (with_reducible repeat (first | apply Kd.V_alloc | apply Kd.V_drewN | apply Kd.V_drew)); exact Kd.V_mono HO_86.out (fun _ hk => ⟨hk.1, hk.2.1⟩)⟩, ⟨by (with_reducible repeat (first | apply Kd.V_alloc | apply Kd.V_drewN | apply Kd.V_drew)); exact Kd.V_mono HO_210001.out (fun _ hk => ⟨hk.1, hk.2.1⟩)⟩, ⟨by (with_reducible repeat (first | refine blk_drewN ?_ _ | refine blk_drew ?_ | refine blk_alloc ?_ _)); exact BK209.out⟩, ⟨by repeat (first | (with_reducible first | exact HB.out | apply below_alloc | apply pw_below_drewN | apply below_drew1 | refine below_set ?_ GE209.out | refine below_set ?_ GE234.out) | exact HB.out)⟩⟩
                                        · rw [if_neg c68] at H
                                          have c68b0 : (((rd_T45 x210001_7 x88_5).f1).toList == ([120] : List UInt8)) = false := beq_eq_false_iff_ne.mpr c68
                                          have c68b1 : (((rd_T45 x210001_7 x88_5).f1).toList != ([120] : List UInt8)) = true := bne_iff_ne.mpr c68
                                          exact absurd H (by simp)
                                      · rw [if_neg c67] at H
                                        have c67b0 : (((rd_T45 x210001_7 x88_5).f0) == (rd x4_7 x88_5)) = false := beq_eq_false_iff_ne.mpr c67
                                        have c67b1 : (((rd_T45 x210001_7 x88_5).f0) != (rd x4_7 x88_5)) = true := bne_iff_ne.mpr c67
                                        exact absurd H (by simp)
                                    · rw [if_neg c66] at H
                                      exact absurd H (by simp)
                                  · rw [if_neg c65] at H
                                    exact absurd H (by simp)
                                · rw [if_neg c64] at H
                                  exact absurd H (by simp)
                              · rw [if_neg c63] at H
                                have c63b0 : decide (x88_5 < (x210001_7.length : Int)) = false := decide_eq_false c63
                                clear c63
                                have H' := Aside0.mk H
                                clear H
                                go_wp2
                                go_roundg k5
                                case measure => have := HK1.out; have := HJ2.out; have := HJ7.out; have := HJ49.out; have := HK5.out; omega
                                case rel => exact ⟨(x4_7), (wrap64 (x5_1 + 1)), (x210000_7), (x210001_7), (.slice Ao62 x210001_7.length co62), (by first | rfl | (simp; done) | (simp [*]; done)), H', ⟨by have := HK1.out; have := HJ2.out; have := HJ7.out; have := HJ49.out; have := HK5.out; omega⟩, ⟨by (with_reducible repeat (first | apply Kd.R_alloc | apply Kd.R_drewN | apply Kd.R_drew)); exact HO_4.out⟩, ⟨by (with_reducible repeat (first | apply Kd.V_alloc | apply Kd.V_drewN | apply Kd.V_drew)); exact HO_210001.out⟩, ⟨by (with_reducible repeat (first | refine blk_drewN ?_ _ | refine blk_drew ?_ | refine blk_alloc ?_ _)); exact BK209.out⟩, ⟨by repeat (first | (with_reducible first | exact HB.out | apply below_alloc | apply pw_below_drewN | apply below_drew1 | refine below_set ?_ GE209.out) | exact HB.out)⟩⟩
              · rw [if_neg c7] at H
                exact absurd H (by simp)
            · rw [if_neg c6] at H
              exact absurd H (by simp)
          · replace c5 := Bool.eq_false_iff.mpr c5
            subst c5
            have H1 : ((switchboardlaw10_awake.f kj2).bind fun t210 => (some t210)) = some true := by rw [if_neg (show ¬ (false = true) by decide)] at H; exact H
            clear H
            have H := H1
            clear H1
            replace H := Option.bind_eq_some_iff.mp H
            obtain ⟨t210, A750, H⟩ := H
            replace H : (some t210) = some true := H
            have A75 := Aside0.mk A750
            clear A750
            have hr_ := Aside0.mk (Option.some.inj H)
            go_wp2_with (first | ((with_reducible refine gate_callee (f := 9) rfl ?_); refine goesL_ (some 106) rfl rfl Try.func9 (by kernel_rfl) rfl #[] rfl (by (try simp only [List.map_toArray, List.map_cons, List.map_nil]); first | done | rfl | (simp only [List.length_drop, List.length_take]; rfl)) ?_; (with_reducible refine (switchboardlaw10_awake.calls kj2  t210 _ A75.out).mono ?_); rintro e w76 ⟨rfl, hb⟩; refine ⟨_, rfl, ?_⟩; have n0_ := Aside0.mk (Kd.R_below (by (with_reducible repeat (first | apply Kd.R_alloc | apply Kd.R_drewN | apply Kd.R_drew)); exact HO_4.out) hb); have n1_ := Aside0.mk (Kd.V_below (by (with_reducible repeat (first | apply Kd.V_alloc | apply Kd.V_drewN | apply Kd.V_drew)); exact HO_210001.out) hb); have n2_ := Aside0.mk (blk_below (g := gb209) (o := .cells #[.int .i64 x210000_1, u210001] 24 (0, 0)) (by (with_reducible repeat (first | refine blk_drewN ?_ _ | refine blk_drew ?_ | refine blk_alloc ?_ _)); exact BK209.out) hb); have n3_ := Aside0.mk (below_step (by repeat (first | (with_reducible first | exact HB.out | apply below_alloc | apply pw_below_drewN | apply below_drew1 | refine below_set ?_ GE209.out) | exact HB.out)) hb); clear HO_4; clear HO_210001; clear BK209; clear HB; have HO_4 := n0_; have HO_210001 := n1_; have BK209 := n2_; have HB := n3_; clear n0_ n1_ n2_ n3_; (try clear hb); (try clear hb2); (try clear hk); (try clear hi)))
            go_ret
            exact ⟨by first | rfl | exact congrArg (fun b_ => Ending.returned (Value.bool b_)) hr_.out | exact congrArg (fun b_ => Ending.returned (Value.bool b_)) hr_.out | (simp [errW_none, errW_some] <;> rfl) | (simp [*, errW_none, errW_some] <;> rfl), by repeat (first | (with_reducible first | exact HB.out | apply below_alloc | apply pw_below_drewN | apply below_drew1 | refine below_set ?_ GE209.out) | exact HB.out)⟩

end Go.Proofs.Ytikncbklhnaajaa.Pr
