-- Laid by wip/xprint.py, a program of this session that runs the kit's print with some contracts given by hand; not a text of print.sh. Lean checks it.
import Derived.Test.YtglcmnhaoeohdaaPr0
import Derived.Test.YtglcmnhaoeohdaaPr1
import Derived.Test.YtglcmnhaoeohdaaPr2
namespace Go.Proofs.Ytglcmnhaoeohdaa.Pr
open Go.RowKit Go.Proofs.YtglcmnhaoeohdaaW.PrintWords Go.Proofs.YtglcmnhaoeohdaaW.PrintLast Go.Proofs.YtglcmnhaoeohdaaW.PrintMore
attribute [local go_sem] max2_int min2_int max_two min_two max_three min_three max_four min_four   -- for this text's walks alone
set_option linter.unusedVariables false
set_option linter.unusedSimpArgs false

attribute [local go_sem high] eqA25
/-! ### switchboardlaw14_SlotsRoom: function 4 -/
mutual
def switchboardlaw14_SlotsRoom.j0 : Nat → List (S25) → Int → List (S25) → List (S25) → Bool → Option (Bool)
  | 0, _, _, _, _, _ => none
  | k + 1, x0, x2, x9, x10, x47 => if x47 = true then (some false) else (switchboardlaw14_SlotsRoom.l0 k x0 x2 x9 x10 (x9.length : Int) 0)
def switchboardlaw14_SlotsRoom.l0 : Nat → List (S25) → Int → List (S25) → List (S25) → Int → Int → Option (Bool)
  | 0, _, _, _, _, _, _ => none
  | k + 1, x0, x2, x9, x10, x49, x50 => if x50 < x49 then (if x50 < (x10.length : Int) then (if 0 ≤ x50 then (if x50 < (x9.length : Int) then (switchboardlaw14_SlotsRoom.j2 k x0 x2 x9 x10 x50 x49 x50 (!(((rd_T25 x10 x50).f0) == ((rd_T25 x9 x50).f0)) || (!(((rd_T25 x10 x50).f1) == ((rd_T25 x9 x50).f1))))) else (none)) else (none)) else (switchboardlaw14_SlotsRoom.j2 k x0 x2 x9 x10 x50 x49 x50 false)) else ((switchboardlaw14_awake.f).bind fun t130 => (some t130))
def switchboardlaw14_SlotsRoom.j2 : Nat → List (S25) → Int → List (S25) → List (S25) → Int → Int → Int → Bool → Option (Bool)
  | 0, _, _, _, _, _, _, _, _ => none
  | k + 1, x0, x2, x9, x10, x11, x49, x50, x67 => if x67 = true then (some false) else (switchboardlaw14_SlotsRoom.l1 k x0 x2 x9 x10 x11 x49 x50 0)
def switchboardlaw14_SlotsRoom.l1 : Nat → List (S25) → Int → List (S25) → List (S25) → Int → Int → Int → Int → Option (Bool)
  | 0, _, _, _, _, _, _, _, _ => none
  | k + 1, x0, x2, x9, x10, x11, x49, x50, x68 => if x68 < 2 then (if 0 ≤ x11 then (if x11 < (x9.length : Int) then (if 0 ≤ x68 then (if (pick2 ((rd_T25 x9 x11).f0) ((rd_T25 x9 x11).f1) x68) ≥ x2 then (switchboardlaw14_SlotsRoom.j4 k x0 x2 x9 x10 x11 x68 x49 x50 x68 (decide ((pick2 ((rd_T25 x9 x11).f0) ((rd_T25 x9 x11).f1) x68) ≥ 0))) else (switchboardlaw14_SlotsRoom.j4 k x0 x2 x9 x10 x11 x68 x49 x50 x68 false)) else (none)) else (none)) else (none)) else (switchboardlaw14_SlotsRoom.l0 k x0 x2 x9 x10 x49 (wrap64 (x50 + 1)))
def switchboardlaw14_SlotsRoom.j4 : Nat → List (S25) → Int → List (S25) → List (S25) → Int → Int → Int → Int → Int → Bool → Option (Bool)
  | 0, _, _, _, _, _, _, _, _, _, _ => none
  | k + 1, x0, x2, x9, x10, x11, x12, x49, x50, x68, x87 => if x87 = true then (some false) else (switchboardlaw14_SlotsRoom.l2 k x0 x2 x9 x10 x11 x12 x49 x50 x68 x11 0)
def switchboardlaw14_SlotsRoom.l2 : Nat → List (S25) → Int → List (S25) → List (S25) → Int → Int → Int → Int → Int → Int → Int → Option (Bool)
  | 0, _, _, _, _, _, _, _, _, _, _, _ => none
  | k + 1, x0, x2, x9, x10, x11, x12, x49, x50, x68, x88, x89 => if x89 < x88 then (switchboardlaw14_SlotsRoom.l3 k x0 x2 x9 x10 x11 x12 x89 x49 x50 x68 x88 x89 0) else (switchboardlaw14_SlotsRoom.l1 k x0 x2 x9 x10 x11 x49 x50 (wrap64 (x68 + 1)))
def switchboardlaw14_SlotsRoom.l3 : Nat → List (S25) → Int → List (S25) → List (S25) → Int → Int → Int → Int → Int → Int → Int → Int → Int → Option (Bool)
  | 0, _, _, _, _, _, _, _, _, _, _, _, _, _ => none
  | k + 1, x0, x2, x9, x10, x11, x12, x13, x49, x50, x68, x88, x89, x92 => if x92 < 2 then (if 0 ≤ x11 then (if x11 < (x9.length : Int) then (if 0 ≤ x12 then (if x12 < 2 then (if (pick2 ((rd_T25 x9 x11).f0) ((rd_T25 x9 x11).f1) x12) ≥ 0 then (if 0 ≤ x13 then (if x13 < (x9.length : Int) then (if 0 ≤ x92 then (if (pick2 ((rd_T25 x9 x11).f0) ((rd_T25 x9 x11).f1) x12) = (pick2 ((rd_T25 x9 x13).f0) ((rd_T25 x9 x13).f1) x92) then (if x11 < (x0.length : Int) then (if x13 < (x0.length : Int) then (if (pick2 ((rd_T25 x0 x11).f0) ((rd_T25 x0 x11).f1) x12) = (pick2 ((rd_T25 x0 x13).f0) ((rd_T25 x0 x13).f1) x92) then (some false) else (switchboardlaw14_SlotsRoom.l3 k x0 x2 x9 x10 x11 x12 x13 x49 x50 x68 x88 x89 (wrap64 (x92 + 1)))) else (none)) else (none)) else (switchboardlaw14_SlotsRoom.l3 k x0 x2 x9 x10 x11 x12 x13 x49 x50 x68 x88 x89 (wrap64 (x92 + 1)))) else (none)) else (none)) else (none)) else (switchboardlaw14_SlotsRoom.l3 k x0 x2 x9 x10 x11 x12 x13 x49 x50 x68 x88 x89 (wrap64 (x92 + 1)))) else (none)) else (none)) else (none)) else (none)) else (switchboardlaw14_SlotsRoom.l2 k x0 x2 x9 x10 x11 x12 x49 x50 x68 x88 (wrap64 (x89 + 1)))
end
def switchboardlaw14_SlotsRoom.f (k : Nat) (l0 : List (S25)) (a1 : Int) (a2 : Int) (a3 : Int) : Option (Bool) := if (l0.length : Int) > 60 then ((switchboardlaw14_awake.f).bind fun t119 => (some t119)) else ((slots_Assign.f l0 a1 a2).bind fun t120 => (if 0 ≤ (mn (wrap64 (a3)) (l0.length : Int)) then (if (mn (wrap64 (a3)) (l0.length : Int)) ≤ (l0.length : Int) then ((slots_Assign.f (l0.take ((mn (wrap64 (a3)) (l0.length : Int)) : Int).toNat) a1 a2).bind fun t127 => (if (t120.length : Int) = (l0.length : Int) then (switchboardlaw14_SlotsRoom.j0 k l0 a2 t120 t127 ((t127.length : Int) != (mn (wrap64 (a3)) (l0.length : Int)))) else (switchboardlaw14_SlotsRoom.j0 k l0 a2 t120 t127 true))) else (none)) else (none)))
theorem switchboardlaw14_SlotsRoom.mono_l : ∀ k, (∀ y0 y1 y2 y3 y4, LeO (switchboardlaw14_SlotsRoom.j0 k y0 y1 y2 y3 y4) (switchboardlaw14_SlotsRoom.j0 (k + 1) y0 y1 y2 y3 y4)) ∧ (∀ y0 y1 y2 y3 y4 y5, LeO (switchboardlaw14_SlotsRoom.l0 k y0 y1 y2 y3 y4 y5) (switchboardlaw14_SlotsRoom.l0 (k + 1) y0 y1 y2 y3 y4 y5)) ∧ (∀ y0 y1 y2 y3 y4 y5 y6 y7, LeO (switchboardlaw14_SlotsRoom.j2 k y0 y1 y2 y3 y4 y5 y6 y7) (switchboardlaw14_SlotsRoom.j2 (k + 1) y0 y1 y2 y3 y4 y5 y6 y7)) ∧ (∀ y0 y1 y2 y3 y4 y5 y6 y7, LeO (switchboardlaw14_SlotsRoom.l1 k y0 y1 y2 y3 y4 y5 y6 y7) (switchboardlaw14_SlotsRoom.l1 (k + 1) y0 y1 y2 y3 y4 y5 y6 y7)) ∧ (∀ y0 y1 y2 y3 y4 y5 y6 y7 y8 y9, LeO (switchboardlaw14_SlotsRoom.j4 k y0 y1 y2 y3 y4 y5 y6 y7 y8 y9) (switchboardlaw14_SlotsRoom.j4 (k + 1) y0 y1 y2 y3 y4 y5 y6 y7 y8 y9)) ∧ (∀ y0 y1 y2 y3 y4 y5 y6 y7 y8 y9 y10, LeO (switchboardlaw14_SlotsRoom.l2 k y0 y1 y2 y3 y4 y5 y6 y7 y8 y9 y10) (switchboardlaw14_SlotsRoom.l2 (k + 1) y0 y1 y2 y3 y4 y5 y6 y7 y8 y9 y10)) ∧ (∀ y0 y1 y2 y3 y4 y5 y6 y7 y8 y9 y10 y11 y12, LeO (switchboardlaw14_SlotsRoom.l3 k y0 y1 y2 y3 y4 y5 y6 y7 y8 y9 y10 y11 y12) (switchboardlaw14_SlotsRoom.l3 (k + 1) y0 y1 y2 y3 y4 y5 y6 y7 y8 y9 y10 y11 y12))
  | 0 => ⟨fun _ _ _ _ _ r h => by simp [switchboardlaw14_SlotsRoom.j0] at h, fun _ _ _ _ _ _ r h => by simp [switchboardlaw14_SlotsRoom.l0] at h, fun _ _ _ _ _ _ _ _ r h => by simp [switchboardlaw14_SlotsRoom.j2] at h, fun _ _ _ _ _ _ _ _ r h => by simp [switchboardlaw14_SlotsRoom.l1] at h, fun _ _ _ _ _ _ _ _ _ _ r h => by simp [switchboardlaw14_SlotsRoom.j4] at h, fun _ _ _ _ _ _ _ _ _ _ _ r h => by simp [switchboardlaw14_SlotsRoom.l2] at h, fun _ _ _ _ _ _ _ _ _ _ _ _ _ r h => by simp [switchboardlaw14_SlotsRoom.l3] at h⟩
  | k + 1 => by
    obtain ⟨ih0, ih1, ih2, ih3, ih4, ih5, ih6⟩ := switchboardlaw14_SlotsRoom.mono_l k
    refine ⟨?_, ?_, ?_, ?_, ?_, ?_, ?_⟩
    · intro y0 y1 y2 y3 y4
      unfold switchboardlaw14_SlotsRoom.j0
      repeat' first
      | (with_reducible exact ih0 _ _ _ _ _)
      | (with_reducible exact ih1 _ _ _ _ _ _)
      | (with_reducible exact ih2 _ _ _ _ _ _ _ _)
      | (with_reducible exact ih3 _ _ _ _ _ _ _ _)
      | (with_reducible exact ih4 _ _ _ _ _ _ _ _ _ _)
      | (with_reducible exact ih5 _ _ _ _ _ _ _ _ _ _ _)
      | (with_reducible exact ih6 _ _ _ _ _ _ _ _ _ _ _ _ _)
      | (with_reducible exact LeO.refl _)
      | (with_reducible exact LeO.none _)
      | (with_reducible refine LeO.ite ?_ ?_)
      | (with_reducible refine LeO.bind ?_ (fun _ => ?_))
      | exact ih0 _ _ _ _ _
      | exact ih1 _ _ _ _ _ _
      | exact ih2 _ _ _ _ _ _ _ _
      | exact ih3 _ _ _ _ _ _ _ _
      | exact ih4 _ _ _ _ _ _ _ _ _ _
      | exact ih5 _ _ _ _ _ _ _ _ _ _ _
      | exact ih6 _ _ _ _ _ _ _ _ _ _ _ _ _
      | exact LeO.none _
      | refine LeO.ite ?_ ?_
      | refine LeO.bind ?_ (fun _ => ?_)
    · intro y0 y1 y2 y3 y4 y5
      unfold switchboardlaw14_SlotsRoom.l0
      repeat' first
      | (with_reducible exact ih0 _ _ _ _ _)
      | (with_reducible exact ih1 _ _ _ _ _ _)
      | (with_reducible exact ih2 _ _ _ _ _ _ _ _)
      | (with_reducible exact ih3 _ _ _ _ _ _ _ _)
      | (with_reducible exact ih4 _ _ _ _ _ _ _ _ _ _)
      | (with_reducible exact ih5 _ _ _ _ _ _ _ _ _ _ _)
      | (with_reducible exact ih6 _ _ _ _ _ _ _ _ _ _ _ _ _)
      | (with_reducible exact LeO.refl _)
      | (with_reducible exact LeO.none _)
      | (with_reducible refine LeO.ite ?_ ?_)
      | (with_reducible refine LeO.bind ?_ (fun _ => ?_))
      | exact ih0 _ _ _ _ _
      | exact ih1 _ _ _ _ _ _
      | exact ih2 _ _ _ _ _ _ _ _
      | exact ih3 _ _ _ _ _ _ _ _
      | exact ih4 _ _ _ _ _ _ _ _ _ _
      | exact ih5 _ _ _ _ _ _ _ _ _ _ _
      | exact ih6 _ _ _ _ _ _ _ _ _ _ _ _ _
      | exact LeO.none _
      | refine LeO.ite ?_ ?_
      | refine LeO.bind ?_ (fun _ => ?_)
    · intro y0 y1 y2 y3 y4 y5 y6 y7
      unfold switchboardlaw14_SlotsRoom.j2
      repeat' first
      | (with_reducible exact ih0 _ _ _ _ _)
      | (with_reducible exact ih1 _ _ _ _ _ _)
      | (with_reducible exact ih2 _ _ _ _ _ _ _ _)
      | (with_reducible exact ih3 _ _ _ _ _ _ _ _)
      | (with_reducible exact ih4 _ _ _ _ _ _ _ _ _ _)
      | (with_reducible exact ih5 _ _ _ _ _ _ _ _ _ _ _)
      | (with_reducible exact ih6 _ _ _ _ _ _ _ _ _ _ _ _ _)
      | (with_reducible exact LeO.refl _)
      | (with_reducible exact LeO.none _)
      | (with_reducible refine LeO.ite ?_ ?_)
      | (with_reducible refine LeO.bind ?_ (fun _ => ?_))
      | exact ih0 _ _ _ _ _
      | exact ih1 _ _ _ _ _ _
      | exact ih2 _ _ _ _ _ _ _ _
      | exact ih3 _ _ _ _ _ _ _ _
      | exact ih4 _ _ _ _ _ _ _ _ _ _
      | exact ih5 _ _ _ _ _ _ _ _ _ _ _
      | exact ih6 _ _ _ _ _ _ _ _ _ _ _ _ _
      | exact LeO.none _
      | refine LeO.ite ?_ ?_
      | refine LeO.bind ?_ (fun _ => ?_)
    · intro y0 y1 y2 y3 y4 y5 y6 y7
      unfold switchboardlaw14_SlotsRoom.l1
      repeat' first
      | (with_reducible exact ih0 _ _ _ _ _)
      | (with_reducible exact ih1 _ _ _ _ _ _)
      | (with_reducible exact ih2 _ _ _ _ _ _ _ _)
      | (with_reducible exact ih3 _ _ _ _ _ _ _ _)
      | (with_reducible exact ih4 _ _ _ _ _ _ _ _ _ _)
      | (with_reducible exact ih5 _ _ _ _ _ _ _ _ _ _ _)
      | (with_reducible exact ih6 _ _ _ _ _ _ _ _ _ _ _ _ _)
      | (with_reducible exact LeO.refl _)
      | (with_reducible exact LeO.none _)
      | (with_reducible refine LeO.ite ?_ ?_)
      | (with_reducible refine LeO.bind ?_ (fun _ => ?_))
      | exact ih0 _ _ _ _ _
      | exact ih1 _ _ _ _ _ _
      | exact ih2 _ _ _ _ _ _ _ _
      | exact ih3 _ _ _ _ _ _ _ _
      | exact ih4 _ _ _ _ _ _ _ _ _ _
      | exact ih5 _ _ _ _ _ _ _ _ _ _ _
      | exact ih6 _ _ _ _ _ _ _ _ _ _ _ _ _
      | exact LeO.none _
      | refine LeO.ite ?_ ?_
      | refine LeO.bind ?_ (fun _ => ?_)
    · intro y0 y1 y2 y3 y4 y5 y6 y7 y8 y9
      unfold switchboardlaw14_SlotsRoom.j4
      repeat' first
      | (with_reducible exact ih0 _ _ _ _ _)
      | (with_reducible exact ih1 _ _ _ _ _ _)
      | (with_reducible exact ih2 _ _ _ _ _ _ _ _)
      | (with_reducible exact ih3 _ _ _ _ _ _ _ _)
      | (with_reducible exact ih4 _ _ _ _ _ _ _ _ _ _)
      | (with_reducible exact ih5 _ _ _ _ _ _ _ _ _ _ _)
      | (with_reducible exact ih6 _ _ _ _ _ _ _ _ _ _ _ _ _)
      | (with_reducible exact LeO.refl _)
      | (with_reducible exact LeO.none _)
      | (with_reducible refine LeO.ite ?_ ?_)
      | (with_reducible refine LeO.bind ?_ (fun _ => ?_))
      | exact ih0 _ _ _ _ _
      | exact ih1 _ _ _ _ _ _
      | exact ih2 _ _ _ _ _ _ _ _
      | exact ih3 _ _ _ _ _ _ _ _
      | exact ih4 _ _ _ _ _ _ _ _ _ _
      | exact ih5 _ _ _ _ _ _ _ _ _ _ _
      | exact ih6 _ _ _ _ _ _ _ _ _ _ _ _ _
      | exact LeO.none _
      | refine LeO.ite ?_ ?_
      | refine LeO.bind ?_ (fun _ => ?_)
    · intro y0 y1 y2 y3 y4 y5 y6 y7 y8 y9 y10
      unfold switchboardlaw14_SlotsRoom.l2
      repeat' first
      | (with_reducible exact ih0 _ _ _ _ _)
      | (with_reducible exact ih1 _ _ _ _ _ _)
      | (with_reducible exact ih2 _ _ _ _ _ _ _ _)
      | (with_reducible exact ih3 _ _ _ _ _ _ _ _)
      | (with_reducible exact ih4 _ _ _ _ _ _ _ _ _ _)
      | (with_reducible exact ih5 _ _ _ _ _ _ _ _ _ _ _)
      | (with_reducible exact ih6 _ _ _ _ _ _ _ _ _ _ _ _ _)
      | (with_reducible exact LeO.refl _)
      | (with_reducible exact LeO.none _)
      | (with_reducible refine LeO.ite ?_ ?_)
      | (with_reducible refine LeO.bind ?_ (fun _ => ?_))
      | exact ih0 _ _ _ _ _
      | exact ih1 _ _ _ _ _ _
      | exact ih2 _ _ _ _ _ _ _ _
      | exact ih3 _ _ _ _ _ _ _ _
      | exact ih4 _ _ _ _ _ _ _ _ _ _
      | exact ih5 _ _ _ _ _ _ _ _ _ _ _
      | exact ih6 _ _ _ _ _ _ _ _ _ _ _ _ _
      | exact LeO.none _
      | refine LeO.ite ?_ ?_
      | refine LeO.bind ?_ (fun _ => ?_)
    · intro y0 y1 y2 y3 y4 y5 y6 y7 y8 y9 y10 y11 y12
      unfold switchboardlaw14_SlotsRoom.l3
      repeat' first
      | (with_reducible exact ih0 _ _ _ _ _)
      | (with_reducible exact ih1 _ _ _ _ _ _)
      | (with_reducible exact ih2 _ _ _ _ _ _ _ _)
      | (with_reducible exact ih3 _ _ _ _ _ _ _ _)
      | (with_reducible exact ih4 _ _ _ _ _ _ _ _ _ _)
      | (with_reducible exact ih5 _ _ _ _ _ _ _ _ _ _ _)
      | (with_reducible exact ih6 _ _ _ _ _ _ _ _ _ _ _ _ _)
      | (with_reducible exact LeO.refl _)
      | (with_reducible exact LeO.none _)
      | (with_reducible refine LeO.ite ?_ ?_)
      | (with_reducible refine LeO.bind ?_ (fun _ => ?_))
      | exact ih0 _ _ _ _ _
      | exact ih1 _ _ _ _ _ _
      | exact ih2 _ _ _ _ _ _ _ _
      | exact ih3 _ _ _ _ _ _ _ _
      | exact ih4 _ _ _ _ _ _ _ _ _ _
      | exact ih5 _ _ _ _ _ _ _ _ _ _ _
      | exact ih6 _ _ _ _ _ _ _ _ _ _ _ _ _
      | exact LeO.none _
      | refine LeO.ite ?_ ?_
      | refine LeO.bind ?_ (fun _ => ?_)
theorem switchboardlaw14_SlotsRoom.mono : ∀ a0 a1 a2 a3 k, LeO (switchboardlaw14_SlotsRoom.f k a0 a1 a2 a3) (switchboardlaw14_SlotsRoom.f (k + 1) a0 a1 a2 a3) := by
  intro a0 a1 a2 a3 k
  obtain ⟨ih0, ih1, ih2, ih3, ih4, ih5, ih6⟩ := switchboardlaw14_SlotsRoom.mono_l k
  unfold switchboardlaw14_SlotsRoom.f
  repeat' first
      | (with_reducible exact ih0 _ _ _ _ _)
      | (with_reducible exact ih1 _ _ _ _ _ _)
      | (with_reducible exact ih2 _ _ _ _ _ _ _ _)
      | (with_reducible exact ih3 _ _ _ _ _ _ _ _)
      | (with_reducible exact ih4 _ _ _ _ _ _ _ _ _ _)
      | (with_reducible exact ih5 _ _ _ _ _ _ _ _ _ _ _)
      | (with_reducible exact ih6 _ _ _ _ _ _ _ _ _ _ _ _ _)
      | (with_reducible exact LeO.refl _)
      | (with_reducible exact LeO.none _)
      | (with_reducible refine LeO.ite ?_ ?_)
      | (with_reducible refine LeO.bind ?_ (fun _ => ?_))
      | exact ih0 _ _ _ _ _
      | exact ih1 _ _ _ _ _ _
      | exact ih2 _ _ _ _ _ _ _ _
      | exact ih3 _ _ _ _ _ _ _ _
      | exact ih4 _ _ _ _ _ _ _ _ _ _
      | exact ih5 _ _ _ _ _ _ _ _ _ _ _
      | exact ih6 _ _ _ _ _ _ _ _ _ _ _ _ _
      | exact LeO.none _
      | refine LeO.ite ?_ ?_
      | refine LeO.bind ?_ (fun _ => ?_)
set_option maxHeartbeats 8000000 in
set_option maxRecDepth 100000 in
theorem switchboardlaw14_SlotsRoom.calls (k : Nat) (A0 : Option Addr) (c0 : Nat) (l0 : List (S25)) (a1 : Int) (a2 : Int) (a3 : Int) (w : World) (hr0 : Kd.C k25 w A0 l0.length l0) (hc0 : l0.length ≤ c0) (h : switchboardlaw14_SlotsRoom.f k l0 a1 a2 a3 = some true) :
    Calls Try.prog 4 #[.slice A0 l0.length c0, .int .i64 a1, .int .i64 a2, .int .u8 a3] w fun e w' => e = .returned (.bool true) ∧ Below w.heap.size w w' := by
  have hu25 := Try.underlying25
  have HR0 := Aside0.mk hr0
  have HC0 := Aside0.mk hc0
  clear hr0 hc0
  have HB := Aside0.mk (Below.refl w.heap.size w)
  have H : (if (l0.length : Int) > 60 then ((switchboardlaw14_awake.f).bind fun t119 => (some t119)) else ((slots_Assign.f l0 a1 a2).bind fun t120 => (if 0 ≤ (mn (wrap64 (a3)) (l0.length : Int)) then (if (mn (wrap64 (a3)) (l0.length : Int)) ≤ (l0.length : Int) then ((slots_Assign.f (l0.take ((mn (wrap64 (a3)) (l0.length : Int)) : Int).toNat) a1 a2).bind fun t127 => (if (t120.length : Int) = (l0.length : Int) then (switchboardlaw14_SlotsRoom.j0 k l0 a2 t120 t127 ((t127.length : Int) != (mn (wrap64 (a3)) (l0.length : Int)))) else (switchboardlaw14_SlotsRoom.j0 k l0 a2 t120 t127 true))) else (none)) else (none)))) = some true := h
  clear h
  by_cases c5 : (l0.length : Int) > 60
  · rw [if_pos c5] at H
    have c5b0 : decide (60 < (l0.length : Int)) = true := decide_eq_true c5
    have c5b1 : decide (60 < l0.length) = true := decide_eq_true (by omega)
    clear c5
    replace H := Option.bind_eq_some_iff.mp H
    obtain ⟨t119, A60, H⟩ := H
    replace H : (some t119) = some true := H
    have A6 := Aside0.mk A60
    clear A60
    have hr_ := Aside0.mk (Option.some.inj H)
    go_enter Try.func4, Try.ntmps4
    go_wp2_with (first | (go_at_call 7; (with_reducible refine (switchboardlaw14_awake.calls  t119 _ A6.out).mono ?_); rintro e w7 ⟨rfl, hb⟩; have n0_ := Aside0.mk (below_step (by repeat (first | (with_reducible first | exact HB.out | apply below_alloc | apply pw_below_drewN | apply below_drew1) | exact HB.out)) hb); clear HB; have HB := n0_; clear n0_; (try clear hb); (try clear hb2); (try clear hk); (try clear hi)))
    repeat (go_quiet (first | (go_at_call 7; (with_reducible refine (switchboardlaw14_awake.calls  t119 _ A6.out).mono ?_); rintro e w7 ⟨rfl, hb⟩; have n0_ := Aside0.mk (below_step (by repeat (first | (with_reducible first | exact HB.out | apply below_alloc | apply pw_below_drewN | apply below_drew1) | exact HB.out)) hb); clear HB; have HB := n0_; clear n0_; (try clear hb); (try clear hb2); (try clear hk); (try clear hi))); try go_wp2_with (first | (go_at_call 7; (with_reducible refine (switchboardlaw14_awake.calls  t119 _ A6.out).mono ?_); rintro e w7 ⟨rfl, hb⟩; have n0_ := Aside0.mk (below_step (by repeat (first | (with_reducible first | exact HB.out | apply below_alloc | apply pw_below_drewN | apply below_drew1) | exact HB.out)) hb); clear HB; have HB := n0_; clear n0_; (try clear hb); (try clear hb2); (try clear hk); (try clear hi))))
    go_ret
    exact ⟨by first | rfl | exact congrArg (fun b_ => Ending.returned (Value.bool b_)) hr_.out | exact congrArg (fun b_ => Ending.returned (Value.bool b_)) hr_.out | (simp [errW_none, errW_some] <;> rfl) | (simp [*, errW_none, errW_some] <;> rfl), by repeat (first | (with_reducible first | exact HB.out | apply below_alloc | apply pw_below_drewN | apply below_drew1) | exact HB.out)⟩
  · rw [if_neg c5] at H
    have c5b0 : decide (60 < (l0.length : Int)) = false := decide_eq_false c5
    have c5b1 : decide (60 < l0.length) = false := decide_eq_false (by omega)
    clear c5
    replace H := Option.bind_eq_some_iff.mp H
    obtain ⟨t120, A80, H⟩ := H
    replace H : (if 0 ≤ (mn (wrap64 (a3)) (l0.length : Int)) then (if (mn (wrap64 (a3)) (l0.length : Int)) ≤ (l0.length : Int) then ((slots_Assign.f (l0.take ((mn (wrap64 (a3)) (l0.length : Int)) : Int).toNat) a1 a2).bind fun t127 => (if (t120.length : Int) = (l0.length : Int) then (switchboardlaw14_SlotsRoom.j0 k l0 a2 t120 t127 ((t127.length : Int) != (mn (wrap64 (a3)) (l0.length : Int)))) else (switchboardlaw14_SlotsRoom.j0 k l0 a2 t120 t127 true))) else (none)) else (none)) = some true := H
    have A8 := Aside0.mk A80
    clear A80
    obtain ⟨ji9, hji9⟩ : ∃ j_ : Int, (mn (wrap64 (a3)) (l0.length : Int)) = j_ := ⟨_, rfl⟩
    replace H : (if 0 ≤ (ji9) then (if (ji9) ≤ (l0.length : Int) then ((slots_Assign.f (l0.take ((ji9) : Int).toNat) a1 a2).bind fun t127 => (if (t120.length : Int) = (l0.length : Int) then (switchboardlaw14_SlotsRoom.j0 k l0 a2 t120 t127 ((t127.length : Int) != (ji9))) else (switchboardlaw14_SlotsRoom.j0 k l0 a2 t120 t127 true))) else (none)) else (none)) = some true := by first | (rw [hji9] at H; exact H) | (simp only [hji9] at H ⊢; exact H)
    (try rw [hji9] at A8)
    have hji9_ : (if (l0.length : Int) < (wrap64 (a3)) then (l0.length : Int) else (wrap64 (a3))) = ji9 := hji9
    by_cases c10 : 0 ≤ (ji9)
    · rw [if_pos c10] at H
      have c10b0 := eq_true c10
      have c10b1 : decide (0 ≤ (ji9)) = true := decide_eq_true c10
      clear c10
      by_cases c11 : (ji9) ≤ (l0.length : Int)
      · rw [if_pos c11] at H
        have c11b0 := eq_true c11
        have c11b1 : decide ((ji9) ≤ (l0.length : Int)) = true := decide_eq_true c11
        clear c11
        obtain ⟨y123, hy123⟩ : ∃ y_ : List (S25), y_ = (l0.take ((ji9) : Int).toNat) := ⟨_, rfl⟩
        replace H : ((slots_Assign.f y123 a1 a2).bind fun t127 => (if (t120.length : Int) = (l0.length : Int) then (switchboardlaw14_SlotsRoom.j0 k l0 a2 t120 t127 ((t127.length : Int) != (ji9))) else (switchboardlaw14_SlotsRoom.j0 k l0 a2 t120 t127 true))) = some true := by first | (rw [hy123]; with_reducible exact H) | (have H2_ := (Option.bind_some _ _).symm.trans H; rw [hy123]; with_reducible exact H2_) | (have H2_ := (Option.bind_some _ _).symm.trans H; with_reducible exact H2_) | with_reducible exact H | (rw [hy123]; exact H) | exact H
        have Ny123 := Aside0.mk hy123
        clear hy123
        replace H := Option.bind_eq_some_iff.mp H
        obtain ⟨t127, A120, H⟩ := H
        replace H : (if (t120.length : Int) = (l0.length : Int) then (switchboardlaw14_SlotsRoom.j0 k l0 a2 t120 t127 ((t127.length : Int) != (ji9))) else (switchboardlaw14_SlotsRoom.j0 k l0 a2 t120 t127 true)) = some true := H
        have A12 := Aside0.mk A120
        clear A120
        have HC13 := Aside0.mk H
        clear H
        go_enter Try.func4, Try.ntmps4
        go_upto_region 5 with (first | (go_at_call 8; (with_reducible refine (slots_Assign.calls _ _ l0 a1 a2 t120 _ ?side1 ?side2 A8.out).mono ?_); (case side1 => repeat (first | exact HR0.out | (with_reducible refine Kd.C_alloc ?_ _) | (with_reducible refine Kd.C_drewN ?_ _) | (with_reducible refine Kd.C_drew ?_))); (case side2 => exact HC0.out); rintro e w14 ⟨v121, rfl, ho0, hb⟩; have n0_ := Aside0.mk (Kd.R_lower ho0 (below_size (by repeat (first | (with_reducible first | exact HB.out | apply below_alloc | apply pw_below_drewN | apply below_drew1) | exact HB.out)))); have n1_ := Aside0.mk (below_step (by repeat (first | (with_reducible first | exact HB.out | apply below_alloc | apply pw_below_drewN | apply below_drew1) | exact HB.out)) hb); clear HB; have HO122 := n0_; have HB := n1_; clear n0_ n1_; (try clear hb); (try clear hb2); (try clear hk); (try clear hi); (try clear ho0); have q15 : ((ji9) : Int) ≤ ((l0.length : Int) : Int) := of_decide_eq_true (by first | (with_reducible assumption) | assumption); obtain ⟨i015, hi015, _, hsz15, _⟩ := info_parts info25; have hroom15 : l0.length ≤ c0 := HC0.out; have hC15 : Kd.C k25 _ A0 l0.length l0 := HR0.out; have hcut15 := cut_to (P := Try.prog) 22 25 .i64 Try.underlying22 hi015 A0 l0.length c0 (ji9) (of_decide_eq_true (by first | (with_reducible assumption) | assumption)) q15 hroom15; have hr15 := Kd.C_take (m := ((ji9) : Int).toNat) hC15 (by omega); have hy15 : y123.length = ((ji9) : Int).toNat := (by rw [Ny123.out, List.length_take]; omega); rw [← Ny123.out] at hr15; rw [← hy15] at hcut15; have HR126 := Aside0.mk hr15; have HC126 := Aside0.mk (show y123.length ≤ c0 from by omega); clear hr15 hC15 hroom15 hi015 hsz15; have KY15 := Aside0.mk hy15; clear hy15; replace q15 := eq_true q15) | (go_at_call 8; (with_reducible refine (slots_Assign.calls _ _ y123 a1 a2 t127 _ ?side1 ?side2 A12.out).mono ?_); (case side1 => repeat (first | exact (Kd.C_below HR126.out HB.out) | (with_reducible refine Kd.C_alloc ?_ _) | (with_reducible refine Kd.C_drewN ?_ _) | (with_reducible refine Kd.C_drew ?_))); (case side2 => exact HC126.out); rintro e w16 ⟨v128, rfl, ho0, hb⟩; have n0_ := Aside0.mk (Kd.R_elder' (by (with_reducible repeat (first | apply Kd.R_alloc | apply Kd.R_drewN | apply Kd.R_drew)); exact HO122.out) (Kd.R_base ho0) hb); have n1_ := Aside0.mk (Kd.R_lower (Kd.R_new' ho0 (Kd.R_lt (by (with_reducible repeat (first | apply Kd.R_alloc | apply Kd.R_drewN | apply Kd.R_drew)); exact HO122.out))) (below_size (by repeat (first | (with_reducible first | exact HB.out | apply below_alloc | apply pw_below_drewN | apply below_drew1) | exact HB.out)))); have n2_ := Aside0.mk (below_step (by repeat (first | (with_reducible first | exact HB.out | apply below_alloc | apply pw_below_drewN | apply below_drew1) | exact HB.out)) hb); clear HO122; clear HB; have HO122 := n0_; have HO129 := n1_; have HB := n2_; clear n0_ n1_ n2_; (try clear hb); (try clear hb2); (try clear hk); (try clear hi); (try clear ho0)))
        repeat (go_quiet (first | (go_at_call 8; (with_reducible refine (slots_Assign.calls _ _ l0 a1 a2 t120 _ ?side1 ?side2 A8.out).mono ?_); (case side1 => repeat (first | exact HR0.out | (with_reducible refine Kd.C_alloc ?_ _) | (with_reducible refine Kd.C_drewN ?_ _) | (with_reducible refine Kd.C_drew ?_))); (case side2 => exact HC0.out); rintro e w14 ⟨v121, rfl, ho0, hb⟩; have n0_ := Aside0.mk (Kd.R_lower ho0 (below_size (by repeat (first | (with_reducible first | exact HB.out | apply below_alloc | apply pw_below_drewN | apply below_drew1) | exact HB.out)))); have n1_ := Aside0.mk (below_step (by repeat (first | (with_reducible first | exact HB.out | apply below_alloc | apply pw_below_drewN | apply below_drew1) | exact HB.out)) hb); clear HB; have HO122 := n0_; have HB := n1_; clear n0_ n1_; (try clear hb); (try clear hb2); (try clear hk); (try clear hi); (try clear ho0); have q15 : ((ji9) : Int) ≤ ((l0.length : Int) : Int) := of_decide_eq_true (by first | (with_reducible assumption) | assumption); obtain ⟨i015, hi015, _, hsz15, _⟩ := info_parts info25; have hroom15 : l0.length ≤ c0 := HC0.out; have hC15 : Kd.C k25 _ A0 l0.length l0 := HR0.out; have hcut15 := cut_to (P := Try.prog) 22 25 .i64 Try.underlying22 hi015 A0 l0.length c0 (ji9) (of_decide_eq_true (by first | (with_reducible assumption) | assumption)) q15 hroom15; have hr15 := Kd.C_take (m := ((ji9) : Int).toNat) hC15 (by omega); have hy15 : y123.length = ((ji9) : Int).toNat := (by rw [Ny123.out, List.length_take]; omega); rw [← Ny123.out] at hr15; rw [← hy15] at hcut15; have HR126 := Aside0.mk hr15; have HC126 := Aside0.mk (show y123.length ≤ c0 from by omega); clear hr15 hC15 hroom15 hi015 hsz15; have KY15 := Aside0.mk hy15; clear hy15; replace q15 := eq_true q15) | (go_at_call 8; (with_reducible refine (slots_Assign.calls _ _ y123 a1 a2 t127 _ ?side1 ?side2 A12.out).mono ?_); (case side1 => repeat (first | exact (Kd.C_below HR126.out HB.out) | (with_reducible refine Kd.C_alloc ?_ _) | (with_reducible refine Kd.C_drewN ?_ _) | (with_reducible refine Kd.C_drew ?_))); (case side2 => exact HC126.out); rintro e w16 ⟨v128, rfl, ho0, hb⟩; have n0_ := Aside0.mk (Kd.R_elder' (by (with_reducible repeat (first | apply Kd.R_alloc | apply Kd.R_drewN | apply Kd.R_drew)); exact HO122.out) (Kd.R_base ho0) hb); have n1_ := Aside0.mk (Kd.R_lower (Kd.R_new' ho0 (Kd.R_lt (by (with_reducible repeat (first | apply Kd.R_alloc | apply Kd.R_drewN | apply Kd.R_drew)); exact HO122.out))) (below_size (by repeat (first | (with_reducible first | exact HB.out | apply below_alloc | apply pw_below_drewN | apply below_drew1) | exact HB.out)))); have n2_ := Aside0.mk (below_step (by repeat (first | (with_reducible first | exact HB.out | apply below_alloc | apply pw_below_drewN | apply below_drew1) | exact HB.out)) hb); clear HO122; clear HB; have HO122 := n0_; have HO129 := n1_; have HB := n2_; clear n0_ n1_ n2_; (try clear hb); (try clear hb2); (try clear hk); (try clear hi); (try clear ho0))); go_upto_region 5 with (first | (go_at_call 8; (with_reducible refine (slots_Assign.calls _ _ l0 a1 a2 t120 _ ?side1 ?side2 A8.out).mono ?_); (case side1 => repeat (first | exact HR0.out | (with_reducible refine Kd.C_alloc ?_ _) | (with_reducible refine Kd.C_drewN ?_ _) | (with_reducible refine Kd.C_drew ?_))); (case side2 => exact HC0.out); rintro e w14 ⟨v121, rfl, ho0, hb⟩; have n0_ := Aside0.mk (Kd.R_lower ho0 (below_size (by repeat (first | (with_reducible first | exact HB.out | apply below_alloc | apply pw_below_drewN | apply below_drew1) | exact HB.out)))); have n1_ := Aside0.mk (below_step (by repeat (first | (with_reducible first | exact HB.out | apply below_alloc | apply pw_below_drewN | apply below_drew1) | exact HB.out)) hb); clear HB; have HO122 := n0_; have HB := n1_; clear n0_ n1_; (try clear hb); (try clear hb2); (try clear hk); (try clear hi); (try clear ho0); have q15 : ((ji9) : Int) ≤ ((l0.length : Int) : Int) := of_decide_eq_true (by first | (with_reducible assumption) | assumption); obtain ⟨i015, hi015, _, hsz15, _⟩ := info_parts info25; have hroom15 : l0.length ≤ c0 := HC0.out; have hC15 : Kd.C k25 _ A0 l0.length l0 := HR0.out; have hcut15 := cut_to (P := Try.prog) 22 25 .i64 Try.underlying22 hi015 A0 l0.length c0 (ji9) (of_decide_eq_true (by first | (with_reducible assumption) | assumption)) q15 hroom15; have hr15 := Kd.C_take (m := ((ji9) : Int).toNat) hC15 (by omega); have hy15 : y123.length = ((ji9) : Int).toNat := (by rw [Ny123.out, List.length_take]; omega); rw [← Ny123.out] at hr15; rw [← hy15] at hcut15; have HR126 := Aside0.mk hr15; have HC126 := Aside0.mk (show y123.length ≤ c0 from by omega); clear hr15 hC15 hroom15 hi015 hsz15; have KY15 := Aside0.mk hy15; clear hy15; replace q15 := eq_true q15) | (go_at_call 8; (with_reducible refine (slots_Assign.calls _ _ y123 a1 a2 t127 _ ?side1 ?side2 A12.out).mono ?_); (case side1 => repeat (first | exact (Kd.C_below HR126.out HB.out) | (with_reducible refine Kd.C_alloc ?_ _) | (with_reducible refine Kd.C_drewN ?_ _) | (with_reducible refine Kd.C_drew ?_))); (case side2 => exact HC126.out); rintro e w16 ⟨v128, rfl, ho0, hb⟩; have n0_ := Aside0.mk (Kd.R_elder' (by (with_reducible repeat (first | apply Kd.R_alloc | apply Kd.R_drewN | apply Kd.R_drew)); exact HO122.out) (Kd.R_base ho0) hb); have n1_ := Aside0.mk (Kd.R_lower (Kd.R_new' ho0 (Kd.R_lt (by (with_reducible repeat (first | apply Kd.R_alloc | apply Kd.R_drewN | apply Kd.R_drew)); exact HO122.out))) (below_size (by repeat (first | (with_reducible first | exact HB.out | apply below_alloc | apply pw_below_drewN | apply below_drew1) | exact HB.out)))); have n2_ := Aside0.mk (below_step (by repeat (first | (with_reducible first | exact HB.out | apply below_alloc | apply pw_below_drewN | apply below_drew1) | exact HB.out)) hb); clear HO122; clear HB; have HO122 := n0_; have HO129 := n1_; have HB := n2_; clear n0_ n1_ n2_; (try clear hb); (try clear hb2); (try clear hk); (try clear hi); (try clear ho0))))
        (try simp only [Act.put, List.setIfInBounds_toArray, List.set_cons_zero, List.set_cons_succ])
        go_cut [47] (fun v47 wc => ∃ (kq : Nat) (x47_12 : Bool), v47 = .bool x47_12 ∧ Aside0 (switchboardlaw14_SlotsRoom.j0 kq l0 a2 t120 t127 x47_12 = some true) ∧ Aside0 (kq ≤ k) ∧ Aside0 (Kd.R k25 25 wc w.heap.size (fun k_ => some k_ ≠ (v128 : Value).ownBlock) v121 t120) ∧ Aside0 (Kd.R k25 25 wc w.heap.size (fun k_ => some k_ ≠ (v121 : Value).ownBlock) v128 t127) ∧ Aside0 (Below w.heap.size w wc))
        case first =>
          have H := HC13.out
          clear HC13
          by_cases c17 : (t120.length : Int) = (l0.length : Int)
          · rw [if_pos c17] at H
            have c17b0 : ((t120.length : Int) == (l0.length : Int)) = true := beq_iff_eq.mpr c17
            have c17b1 : ((t120.length : Int) != (l0.length : Int)) = false := bne_eq_false_iff_eq.mpr c17
            have c17b2 : (t120.length == l0.length) = true := by first | simpa using c17 | (simp at c17 ⊢; omega)
            clear c17
            (first | rw [c17b0] | (simp only [i64_w, i32_w]; rw [c17b0]) | skip)
            have H' := Aside0.mk H
            clear H
            obtain ⟨Ao19, co19, eo19⟩ := Kd.R_slice HO122.out
            subst eo19
            obtain ⟨Ao20, co20, eo20⟩ := Kd.R_slice HO129.out
            subst eo20
            go_wp2
            repeat (go_quiet (fail); try go_wp2)
            go_meet
            case rel => exact ⟨_, (((t127.length : Int) != (ji9))), (by first | rfl | (simp; done) | (simp only [← hji9] <;> (first | rfl | simp)) | (simp [*]; done)), H', ⟨by first | omega | exact Nat.le_refl _⟩, ⟨by (with_reducible repeat (first | apply Kd.R_alloc | apply Kd.R_drewN | apply Kd.R_drew)); exact Kd.R_mono HO122.out (fun _ hk => hk.2)⟩, ⟨by (with_reducible repeat (first | apply Kd.R_alloc | apply Kd.R_drewN | apply Kd.R_drew)); exact Kd.R_mono HO129.out (fun _ hk => hk.2)⟩, ⟨by repeat (first | (with_reducible first | exact HB.out | apply below_alloc | apply pw_below_drewN | apply below_drew1) | exact HB.out)⟩⟩
          · rw [if_neg c17] at H
            have c17b0 : ((t120.length : Int) == (l0.length : Int)) = false := beq_eq_false_iff_ne.mpr c17
            have c17b1 : ((t120.length : Int) != (l0.length : Int)) = true := bne_iff_ne.mpr c17
            have c17b2 : (t120.length == l0.length) = false := by first | simpa using c17 | (simp at c17 ⊢; omega)
            (first | rw [c17b0] | (simp only [i64_w, i32_w]; rw [c17b0]) | skip)
            have H' := Aside0.mk H
            clear H
            obtain ⟨Ao21, co21, eo21⟩ := Kd.R_slice HO122.out
            subst eo21
            go_wp2
            repeat (go_quiet (fail); try go_wp2)
            go_meet
            case rel => exact ⟨_, (true), (by first | rfl | (simp; done) | (simp [*]; done)), H', ⟨by first | omega | exact Nat.le_refl _⟩, ⟨by (with_reducible repeat (first | apply Kd.R_alloc | apply Kd.R_drewN | apply Kd.R_drew)); exact Kd.R_mono HO122.out (fun _ hk => hk.2)⟩, ⟨by (with_reducible repeat (first | apply Kd.R_alloc | apply Kd.R_drewN | apply Kd.R_drew)); exact Kd.R_mono HO129.out (fun _ hk => hk.2)⟩, ⟨by repeat (first | (with_reducible first | exact HB.out | apply below_alloc | apply pw_below_drewN | apply below_drew1) | exact HB.out)⟩⟩
        case rest =>
          clear HC13
          try clear c1
          try clear q1
          try clear p2
          try clear c4
          try clear c5
          try clear c5b0
          try clear c5b1
          try clear p6
          try clear c10
          try clear c10b0
          try clear c10b1
          try clear c11
          try clear c11b0
          try clear c11b1
          try clear q15
          try clear c17
          try clear c17b0
          try clear c17b1
          try clear c17b2
          try clear c18
          try clear c18b0
          try clear q15
          obtain ⟨kq, x47_12, rfl, HA, HJ12, HO_9, HO_10, HB⟩ := hcut
          cases kq with
          | zero => exact absurd HA.out (by simp [switchboardlaw14_SlotsRoom.j0])
          | succ kj12 =>
            have H := HA.out
            clear HA
            simp only [switchboardlaw14_SlotsRoom.j0] at H
            by_cases c22 : x47_12 = true
            · subst c22
              have H1 : (some false) = some true := by rw [if_pos rfl] at H; exact H
              clear H
              have H := H1
              clear H1
              exact absurd H (by simp)
            · replace c22 := Bool.eq_false_iff.mpr c22
              subst c22
              have H1 : (switchboardlaw14_SlotsRoom.l0 kj12 l0 a2 t120 t127 (t120.length : Int) 0) = some true := by rw [if_neg (show ¬ (false = true) by decide)] at H; exact H
              clear H
              have H := H1
              clear H1
              have H' := Aside0.mk H
              clear H
              obtain ⟨Ao23, co23, eo23⟩ := Kd.R_slice HO_9.out
              subst eo23
              go_wp2
              repeat (go_quiet (fail); try go_wp2)
              go_loopg [50] kj12 (fun kq v50 w' => ∃ (x50_2 : Int), v50 = .int .i64 x50_2 ∧ Aside0 (switchboardlaw14_SlotsRoom.l0 kq l0 a2 t120 t127 (t120.length : Int) x50_2 = some true) ∧ Aside0 (kq ≤ kj12) ∧ Aside0 (Kd.R k25 25 w' w.heap.size (fun k_ => some k_ ≠ (v128 : Value).ownBlock) (.slice Ao23 t120.length co23) t120) ∧ Aside0 (Kd.R k25 25 w' w.heap.size (fun k_ => some k_ ≠ ((.slice Ao23 t120.length co23) : Value).ownBlock) v128 t127) ∧ Aside0 (Below w.heap.size w w'))
              case atStart => exact ⟨(0), (by first | rfl | (simp; done) | (simp [*]; done)), H', ⟨Nat.le_refl _⟩, ⟨by (with_reducible repeat (first | apply Kd.R_alloc | apply Kd.R_drewN | apply Kd.R_drew)); exact HO_9.out⟩, ⟨by (with_reducible repeat (first | apply Kd.R_alloc | apply Kd.R_drewN | apply Kd.R_drew)); exact HO_10.out⟩, ⟨by repeat (first | (with_reducible first | exact HB.out | apply below_alloc | apply pw_below_drewN | apply below_drew1) | exact HB.out)⟩⟩
              case round =>
                clear H'
                try clear c1
                try clear q1
                try clear c2
                try clear p2
                try clear c4
                try clear c5
                try clear c5b0
                try clear c5b1
                try clear p6
                try clear c10
                try clear c10b0
                try clear c10b1
                try clear c11
                try clear c11b0
                try clear c11b1
                try clear q15
                try clear c17
                try clear c17b0
                try clear c17b1
                try clear c17b2
                try clear c18
                try clear c18b0
                try clear c22
                try clear p2
                try clear p6
                try clear q1
                try clear q15
                obtain ⟨x50_2, rfl, HA, HK2, HO_9, HO_10, HB⟩ := hrel
                cases gk with
                | zero => exact absurd HA.out (by simp [switchboardlaw14_SlotsRoom.l0])
                | succ k2 =>
                  have H := HA.out
                  clear HA
                  simp only [switchboardlaw14_SlotsRoom.l0] at H
                  by_cases c24 : x50_2 < (t120.length : Int)
                  · rw [if_pos c24] at H
                    have c24b0 : decide (x50_2 < (t120.length : Int)) = true := decide_eq_true c24
                    clear c24
                    have HC25 := Aside0.mk H
                    clear H
                    go_upto_region 10 with (fail)
                    repeat (go_quiet (fail); go_upto_region 10 with (fail))
                    go_cut [67] (fun v67 wc => ∃ (kq : Nat) (x67_24 : Bool), v67 = .bool x67_24 ∧ Aside0 (switchboardlaw14_SlotsRoom.j2 kq l0 a2 t120 t127 x50_2 (t120.length : Int) x50_2 x67_24 = some true) ∧ Aside0 (kq ≤ k2) ∧ Aside0 (Kd.R k25 25 wc w.heap.size (fun k_ => some k_ ≠ (v128 : Value).ownBlock) (.slice Ao23 t120.length co23) t120) ∧ Aside0 (Kd.R k25 25 wc w.heap.size (fun k_ => some k_ ≠ ((.slice Ao23 t120.length co23) : Value).ownBlock) v128 t127) ∧ Aside0 (Below w.heap.size w wc))
                    case first =>
                      have H := HC25.out
                      clear HC25
                      by_cases c26 : x50_2 < (t127.length : Int)
                      · rw [if_pos c26] at H
                        have c26b0 : decide (x50_2 < (t127.length : Int)) = true := decide_eq_true c26
                        clear c26
                        (first | rw [c26b0] | (simp only [i64_w, i32_w]; rw [c26b0]) | skip)
                        by_cases c27 : 0 ≤ x50_2
                        · rw [if_pos c27] at H
                          have c27b0 : decide (0 ≤ x50_2) = true := decide_eq_true c27
                          clear c27
                          by_cases c28 : x50_2 < (t120.length : Int)
                          · rw [if_pos c28] at H
                            have c28b0 : decide (x50_2 < (t120.length : Int)) = true := decide_eq_true c28
                            clear c28
                            have H' := Aside0.mk H
                            clear H
                            obtain ⟨Ao29, co29, eo29⟩ := Kd.R_slice HO_10.out
                            subst eo29
                            have p131 : 0 ≤ (x50_2 : Int) := of_decide_eq_true (by first | (with_reducible assumption) | assumption)
                            have q131 : x50_2 < (t127.length : Int) := of_decide_eq_true (by first | (with_reducible assumption) | assumption)
                            obtain ⟨ad131, e131, hx131_0, hx131_1⟩ := at_T25 (Kd.R_reads' HO_10.out).2.2 x50_2 p131 q131
                            cases e131
                            replace p131 := eq_true p131
                            replace q131 := eq_true q131
                            have p132 : 0 ≤ (x50_2 : Int) := of_decide_eq_true (by first | (with_reducible assumption) | assumption)
                            have q132 : x50_2 < (t120.length : Int) := of_decide_eq_true (by first | (with_reducible assumption) | assumption)
                            obtain ⟨ad132, e132, hx132_0, hx132_1⟩ := at_T25 (Kd.R_reads' HO_9.out).2.2 x50_2 p132 q132
                            cases e132
                            replace p132 := eq_true p132
                            replace q132 := eq_true q132
                            go_wp2
                            repeat (go_quiet (fail); try go_wp2)
                            go_meet
                            case rel => exact ⟨_, ((!(((rd_T25 t127 x50_2).f0) == ((rd_T25 t120 x50_2).f0)) || (!(((rd_T25 t127 x50_2).f1) == ((rd_T25 t120 x50_2).f1))))), (by first | rfl | (simp; done) | (simp [*]; done)), H', ⟨by have := HJ12.out; have := HK2.out; first | omega | exact Nat.le_refl _⟩, ⟨by (with_reducible repeat (first | apply Kd.R_alloc | apply Kd.R_drewN | apply Kd.R_drew)); exact HO_9.out⟩, ⟨by (with_reducible repeat (first | apply Kd.R_alloc | apply Kd.R_drewN | apply Kd.R_drew)); exact HO_10.out⟩, ⟨by repeat (first | (with_reducible first | exact HB.out | apply below_alloc | apply pw_below_drewN | apply below_drew1) | exact HB.out)⟩⟩
                          · rw [if_neg c28] at H
                            exact absurd H (by simp)
                        · rw [if_neg c27] at H
                          exact absurd H (by simp)
                      · rw [if_neg c26] at H
                        have c26b0 : decide (x50_2 < (t127.length : Int)) = false := decide_eq_false c26
                        clear c26
                        (first | rw [c26b0] | (simp only [i64_w, i32_w]; rw [c26b0]) | skip)
                        have H' := Aside0.mk H
                        clear H
                        obtain ⟨Ao30, co30, eo30⟩ := Kd.R_slice HO_10.out
                        subst eo30
                        go_wp2
                        repeat (go_quiet (fail); try go_wp2)
                        go_meet
                        case rel => exact ⟨_, (false), (by first | rfl | (simp; done) | (simp [*]; done)), H', ⟨by have := HJ12.out; have := HK2.out; first | omega | exact Nat.le_refl _⟩, ⟨by (with_reducible repeat (first | apply Kd.R_alloc | apply Kd.R_drewN | apply Kd.R_drew)); exact HO_9.out⟩, ⟨by (with_reducible repeat (first | apply Kd.R_alloc | apply Kd.R_drewN | apply Kd.R_drew)); exact HO_10.out⟩, ⟨by repeat (first | (with_reducible first | exact HB.out | apply below_alloc | apply pw_below_drewN | apply below_drew1) | exact HB.out)⟩⟩
                    case rest =>
                      clear HC25
                      try clear c1
                      try clear p1
                      try clear q1
                      try clear hx1
                      try clear c2
                      try clear p2
                      try clear c4
                      try clear c5
                      try clear c5b0
                      try clear c5b1
                      try clear p6
                      try clear c10
                      try clear c10b0
                      try clear c10b1
                      try clear c11
                      try clear c11b0
                      try clear c11b1
                      try clear p13
                      try clear q13
                      try clear hx13
                      try clear q15
                      try clear c17
                      try clear c17b0
                      try clear c17b1
                      try clear c17b2
                      try clear c18
                      try clear c18b0
                      try clear c22
                      try clear c24
                      try clear c24b0
                      try clear c26
                      try clear c26b0
                      try clear c27
                      try clear c27b0
                      try clear c28
                      try clear c28b0
                      try clear hx131_0
                      try clear hx131_1
                      try clear hx132_0
                      try clear hx132_1
                      try clear p131
                      try clear p132
                      try clear p2
                      try clear p6
                      try clear q1
                      try clear q131
                      try clear q132
                      try clear q15
                      obtain ⟨kq, x67_24, rfl, HA, HJ24, HO_9, HO_10, HB⟩ := hcut
                      cases kq with
                      | zero => exact absurd HA.out (by simp [switchboardlaw14_SlotsRoom.j2])
                      | succ kj24 =>
                        have H := HA.out
                        clear HA
                        simp only [switchboardlaw14_SlotsRoom.j2] at H
                        by_cases c31 : x67_24 = true
                        · subst c31
                          have H1 : (some false) = some true := by rw [if_pos rfl] at H; exact H
                          clear H
                          have H := H1
                          clear H1
                          exact absurd H (by simp)
                        · replace c31 := Bool.eq_false_iff.mpr c31
                          subst c31
                          have H1 : (switchboardlaw14_SlotsRoom.l1 kj24 l0 a2 t120 t127 x50_2 (t120.length : Int) x50_2 0) = some true := by rw [if_neg (show ¬ (false = true) by decide)] at H; exact H
                          clear H
                          have H := H1
                          clear H1
                          have H' := Aside0.mk H
                          clear H
                          go_wp2
                          repeat (go_quiet (fail); try go_wp2)
                          go_loopg [68] kj24 (fun kq v68 w' => ∃ (x68_4 : Int), v68 = .int .i64 x68_4 ∧ Aside0 (switchboardlaw14_SlotsRoom.l1 kq l0 a2 t120 t127 x50_2 (t120.length : Int) x50_2 x68_4 = some true) ∧ Aside0 (kq ≤ kj24) ∧ Aside0 (Kd.R k25 25 w' w.heap.size (fun k_ => some k_ ≠ (v128 : Value).ownBlock) (.slice Ao23 t120.length co23) t120) ∧ Aside0 (Kd.R k25 25 w' w.heap.size (fun k_ => some k_ ≠ ((.slice Ao23 t120.length co23) : Value).ownBlock) v128 t127) ∧ Aside0 (Below w.heap.size w w'))
                          case atStart => exact ⟨(0), (by first | rfl | (simp; done) | (simp [*]; done)), H', ⟨Nat.le_refl _⟩, ⟨by (with_reducible repeat (first | apply Kd.R_alloc | apply Kd.R_drewN | apply Kd.R_drew)); exact HO_9.out⟩, ⟨by (with_reducible repeat (first | apply Kd.R_alloc | apply Kd.R_drewN | apply Kd.R_drew)); exact HO_10.out⟩, ⟨by repeat (first | (with_reducible first | exact HB.out | apply below_alloc | apply pw_below_drewN | apply below_drew1) | exact HB.out)⟩⟩
                          case round =>
                            clear H'
                            try clear c1
                            try clear p1
                            try clear q1
                            try clear hx1
                            try clear c2
                            try clear p2
                            try clear c3
                            try clear c4
                            try clear c5
                            try clear c5b0
                            try clear c5b1
                            try clear p6
                            try clear c10
                            try clear c10b0
                            try clear c10b1
                            try clear c11
                            try clear c11b0
                            try clear c11b1
                            try clear p13
                            try clear q13
                            try clear hx13
                            try clear q15
                            try clear c17
                            try clear c17b0
                            try clear c17b1
                            try clear c17b2
                            try clear c18
                            try clear c18b0
                            try clear c22
                            try clear c24
                            try clear c24b0
                            try clear c26
                            try clear c26b0
                            try clear c27
                            try clear c27b0
                            try clear c28
                            try clear c28b0
                            try clear c31
                            try clear hx131_0
                            try clear hx131_1
                            try clear hx132_0
                            try clear hx132_1
                            try clear p1
                            try clear p13
                            try clear p131
                            try clear p132
                            try clear p2
                            try clear p6
                            try clear q1
                            try clear q13
                            try clear q131
                            try clear q132
                            try clear q15
                            obtain ⟨x68_4, rfl, HA, HK4, HO_9, HO_10, HB⟩ := hrel
                            cases gk with
                            | zero => exact absurd HA.out (by simp [switchboardlaw14_SlotsRoom.l1])
                            | succ k4 =>
                              have H := HA.out
                              clear HA
                              simp only [switchboardlaw14_SlotsRoom.l1] at H
                              by_cases c32 : x68_4 < 2
                              · rw [if_pos c32] at H
                                have c32b0 : decide (x68_4 < 2) = true := decide_eq_true c32
                                clear c32
                                have HC33 := Aside0.mk H
                                clear H
                                go_upto_region 15 with (fail)
                                repeat (go_quiet (fail); go_upto_region 15 with (fail))
                                go_cut [87] (fun v87 wc => ∃ (kq : Nat) (x87_32 : Bool), v87 = .bool x87_32 ∧ Aside0 (switchboardlaw14_SlotsRoom.j4 kq l0 a2 t120 t127 x50_2 x68_4 (t120.length : Int) x50_2 x68_4 x87_32 = some true) ∧ Aside0 (kq ≤ k4) ∧ Aside0 (Kd.R k25 25 wc w.heap.size (fun k_ => some k_ ≠ (v128 : Value).ownBlock) (.slice Ao23 t120.length co23) t120) ∧ Aside0 (Kd.R k25 25 wc w.heap.size (fun k_ => some k_ ≠ ((.slice Ao23 t120.length co23) : Value).ownBlock) v128 t127) ∧ Aside0 (Below w.heap.size w wc))
                                case first =>
                                  have H := HC33.out
                                  clear HC33
                                  by_cases c34 : 0 ≤ x50_2
                                  · rw [if_pos c34] at H
                                    have c34b0 : decide (0 ≤ x50_2) = true := decide_eq_true c34
                                    clear c34
                                    (first | rw [c34b0] | (simp only [i64_w, i32_w]; rw [c34b0]) | skip)
                                    by_cases c35 : x50_2 < (t120.length : Int)
                                    · rw [if_pos c35] at H
                                      have c35b0 : decide (x50_2 < (t120.length : Int)) = true := decide_eq_true c35
                                      clear c35
                                      by_cases c36 : 0 ≤ x68_4
                                      · rw [if_pos c36] at H
                                        have c36b0 : decide (0 ≤ x68_4) = true := decide_eq_true c36
                                        clear c36
                                        by_cases c38 : (pick2 ((rd_T25 t120 x50_2).f0) ((rd_T25 t120 x50_2).f1) x68_4) ≥ a2
                                        · rw [if_pos c38] at H
                                          have c38b0 : decide (a2 ≤ (pick2 ((rd_T25 t120 x50_2).f0) ((rd_T25 t120 x50_2).f1) x68_4)) = true := decide_eq_true c38
                                          clear c38
                                          have H' := Aside0.mk H
                                          clear H
                                          have p133 : 0 ≤ (x50_2 : Int) := of_decide_eq_true (by first | (with_reducible assumption) | assumption)
                                          have q133 : x50_2 < (t120.length : Int) := of_decide_eq_true (by first | (with_reducible assumption) | assumption)
                                          obtain ⟨ad133, e133, hx133_0, hx133_1⟩ := at_T25 (Kd.R_reads' HO_9.out).2.2 x50_2 p133 q133
                                          cases e133
                                          replace p133 := eq_true p133
                                          replace q133 := eq_true q133
                                          have p37 : 0 ≤ (x68_4 : Int) := of_decide_eq_true (by first | (with_reducible assumption) | assumption)
                                          have q37 : x68_4 < 2 := of_decide_eq_true (by first | (with_reducible assumption) | assumption)
                                          have hx37 := pick2_cell hx133_0 hx133_1 x68_4 p37 q37
                                          replace p37 := eq_true p37
                                          replace q37 := eq_true q37
                                          have p134 : 0 ≤ (x50_2 : Int) := of_decide_eq_true (by first | (with_reducible assumption) | assumption)
                                          have q134 : x50_2 < (t120.length : Int) := of_decide_eq_true (by first | (with_reducible assumption) | assumption)
                                          obtain ⟨ad134, e134, hx134_0, hx134_1⟩ := at_T25 (Kd.R_reads' HO_9.out).2.2 x50_2 p134 q134
                                          obtain rfl : ad133 = ad134 := (by injection e134)
                                          replace p134 := eq_true p134
                                          replace q134 := eq_true q134
                                          have p39 : 0 ≤ (x68_4 : Int) := of_decide_eq_true (by first | (with_reducible assumption) | assumption)
                                          have q39 : x68_4 < 2 := of_decide_eq_true (by first | (with_reducible assumption) | assumption)
                                          have hx39 := pick2_cell hx134_0 hx134_1 x68_4 p39 q39
                                          replace p39 := eq_true p39
                                          replace q39 := eq_true q39
                                          go_wp2
                                          repeat (go_quiet (fail); try go_wp2)
                                          go_meet
                                          case rel => exact ⟨_, (decide ((pick2 ((rd_T25 t120 x50_2).f0) ((rd_T25 t120 x50_2).f1) x68_4) ≥ 0)), (by first | rfl | (simp; done) | (simp [*]; done)), H', ⟨by have := HJ12.out; have := HK2.out; have := HJ24.out; have := HK4.out; first | omega | exact Nat.le_refl _⟩, ⟨by (with_reducible repeat (first | apply Kd.R_alloc | apply Kd.R_drewN | apply Kd.R_drew)); exact HO_9.out⟩, ⟨by (with_reducible repeat (first | apply Kd.R_alloc | apply Kd.R_drewN | apply Kd.R_drew)); exact HO_10.out⟩, ⟨by repeat (first | (with_reducible first | exact HB.out | apply below_alloc | apply pw_below_drewN | apply below_drew1) | exact HB.out)⟩⟩
                                        · rw [if_neg c38] at H
                                          have c38b0 : decide (a2 ≤ (pick2 ((rd_T25 t120 x50_2).f0) ((rd_T25 t120 x50_2).f1) x68_4)) = false := decide_eq_false c38
                                          clear c38
                                          have H' := Aside0.mk H
                                          clear H
                                          have p133 : 0 ≤ (x50_2 : Int) := of_decide_eq_true (by first | (with_reducible assumption) | assumption)
                                          have q133 : x50_2 < (t120.length : Int) := of_decide_eq_true (by first | (with_reducible assumption) | assumption)
                                          obtain ⟨ad133, e133, hx133_0, hx133_1⟩ := at_T25 (Kd.R_reads' HO_9.out).2.2 x50_2 p133 q133
                                          cases e133
                                          replace p133 := eq_true p133
                                          replace q133 := eq_true q133
                                          have p37 : 0 ≤ (x68_4 : Int) := of_decide_eq_true (by first | (with_reducible assumption) | assumption)
                                          have q37 : x68_4 < 2 := of_decide_eq_true (by first | (with_reducible assumption) | assumption)
                                          have hx37 := pick2_cell hx133_0 hx133_1 x68_4 p37 q37
                                          replace p37 := eq_true p37
                                          replace q37 := eq_true q37
                                          go_wp2
                                          repeat (go_quiet (fail); try go_wp2)
                                          go_meet
                                          case rel => exact ⟨_, (false), (by first | rfl | (simp; done) | (simp [*]; done)), H', ⟨by have := HJ12.out; have := HK2.out; have := HJ24.out; have := HK4.out; first | omega | exact Nat.le_refl _⟩, ⟨by (with_reducible repeat (first | apply Kd.R_alloc | apply Kd.R_drewN | apply Kd.R_drew)); exact HO_9.out⟩, ⟨by (with_reducible repeat (first | apply Kd.R_alloc | apply Kd.R_drewN | apply Kd.R_drew)); exact HO_10.out⟩, ⟨by repeat (first | (with_reducible first | exact HB.out | apply below_alloc | apply pw_below_drewN | apply below_drew1) | exact HB.out)⟩⟩
                                      · rw [if_neg c36] at H
                                        exact absurd H (by simp)
                                    · rw [if_neg c35] at H
                                      exact absurd H (by simp)
                                  · rw [if_neg c34] at H
                                    exact absurd H (by simp)
                                case rest =>
                                  clear HC33
                                  try clear c1
                                  try clear p1
                                  try clear q1
                                  try clear hx1
                                  try clear c2
                                  try clear p2
                                  try clear c3
                                  try clear p3
                                  try clear q3
                                  try clear hx3
                                  try clear c4
                                  try clear c5
                                  try clear c5b0
                                  try clear c5b1
                                  try clear p6
                                  try clear c10
                                  try clear c10b0
                                  try clear c10b1
                                  try clear c11
                                  try clear c11b0
                                  try clear c11b1
                                  try clear p13
                                  try clear q13
                                  try clear hx13
                                  try clear q15
                                  try clear c17
                                  try clear c17b0
                                  try clear c17b1
                                  try clear c17b2
                                  try clear c18
                                  try clear c18b0
                                  try clear c22
                                  try clear c24
                                  try clear c24b0
                                  try clear c26
                                  try clear c26b0
                                  try clear c27
                                  try clear c27b0
                                  try clear c28
                                  try clear c28b0
                                  try clear c31
                                  try clear c32
                                  try clear c32b0
                                  try clear c34
                                  try clear c34b0
                                  try clear c35
                                  try clear c35b0
                                  try clear c36
                                  try clear c36b0
                                  try clear p37
                                  try clear q37
                                  try clear hx37
                                  try clear c38
                                  try clear c38b0
                                  try clear p39
                                  try clear q39
                                  try clear hx39
                                  try clear hx131_0
                                  try clear hx131_1
                                  try clear hx132_0
                                  try clear hx132_1
                                  try clear hx133_0
                                  try clear hx133_1
                                  try clear hx134_0
                                  try clear hx134_1
                                  try clear p1
                                  try clear p13
                                  try clear p131
                                  try clear p132
                                  try clear p133
                                  try clear p134
                                  try clear p2
                                  try clear p37
                                  try clear p39
                                  try clear p6
                                  try clear q1
                                  try clear q13
                                  try clear q131
                                  try clear q132
                                  try clear q133
                                  try clear q134
                                  try clear q15
                                  try clear q37
                                  try clear q39
                                  obtain ⟨kq, x87_32, rfl, HA, HJ32, HO_9, HO_10, HB⟩ := hcut
                                  cases kq with
                                  | zero => exact absurd HA.out (by simp [switchboardlaw14_SlotsRoom.j4])
                                  | succ kj32 =>
                                    have H := HA.out
                                    clear HA
                                    simp only [switchboardlaw14_SlotsRoom.j4] at H
                                    by_cases c40 : x87_32 = true
                                    · subst c40
                                      have H1 : (some false) = some true := by rw [if_pos rfl] at H; exact H
                                      clear H
                                      have H := H1
                                      clear H1
                                      exact absurd H (by simp)
                                    · replace c40 := Bool.eq_false_iff.mpr c40
                                      subst c40
                                      have H1 : (switchboardlaw14_SlotsRoom.l2 kj32 l0 a2 t120 t127 x50_2 x68_4 (t120.length : Int) x50_2 x68_4 x50_2 0) = some true := by rw [if_neg (show ¬ (false = true) by decide)] at H; exact H
                                      clear H
                                      have H := H1
                                      clear H1
                                      have H' := Aside0.mk H
                                      clear H
                                      go_wp2
                                      repeat (go_quiet (fail); try go_wp2)
                                      go_loopg [89] kj32 (fun kq v89 w' => ∃ (x89_6 : Int), v89 = .int .i64 x89_6 ∧ Aside0 (switchboardlaw14_SlotsRoom.l2 kq l0 a2 t120 t127 x50_2 x68_4 (t120.length : Int) x50_2 x68_4 x50_2 x89_6 = some true) ∧ Aside0 (kq ≤ kj32) ∧ Aside0 (Kd.R k25 25 w' w.heap.size (fun k_ => some k_ ≠ (v128 : Value).ownBlock) (.slice Ao23 t120.length co23) t120) ∧ Aside0 (Kd.R k25 25 w' w.heap.size (fun k_ => some k_ ≠ ((.slice Ao23 t120.length co23) : Value).ownBlock) v128 t127) ∧ Aside0 (Below w.heap.size w w'))
                                      case atStart => exact ⟨(0), (by first | rfl | (simp; done) | (simp [*]; done)), H', ⟨Nat.le_refl _⟩, ⟨by (with_reducible repeat (first | apply Kd.R_alloc | apply Kd.R_drewN | apply Kd.R_drew)); exact HO_9.out⟩, ⟨by (with_reducible repeat (first | apply Kd.R_alloc | apply Kd.R_drewN | apply Kd.R_drew)); exact HO_10.out⟩, ⟨by repeat (first | (with_reducible first | exact HB.out | apply below_alloc | apply pw_below_drewN | apply below_drew1) | exact HB.out)⟩⟩
                                      case round =>
                                        clear H'
                                        try clear c1
                                        try clear p1
                                        try clear q1
                                        try clear hx1
                                        try clear c2
                                        try clear p2
                                        try clear c3
                                        try clear p3
                                        try clear q3
                                        try clear hx3
                                        try clear c4
                                        try clear c5
                                        try clear c5b0
                                        try clear c5b1
                                        try clear p6
                                        try clear c10
                                        try clear c10b0
                                        try clear c10b1
                                        try clear c11
                                        try clear c11b0
                                        try clear c11b1
                                        try clear p13
                                        try clear q13
                                        try clear hx13
                                        try clear q15
                                        try clear c17
                                        try clear c17b0
                                        try clear c17b1
                                        try clear c17b2
                                        try clear c18
                                        try clear c18b0
                                        try clear c22
                                        try clear c24
                                        try clear c24b0
                                        try clear c26
                                        try clear c26b0
                                        try clear c27
                                        try clear c27b0
                                        try clear c28
                                        try clear c28b0
                                        try clear c31
                                        try clear c32
                                        try clear c32b0
                                        try clear c34
                                        try clear c34b0
                                        try clear c35
                                        try clear c35b0
                                        try clear c36
                                        try clear c36b0
                                        try clear p37
                                        try clear q37
                                        try clear hx37
                                        try clear c38
                                        try clear c38b0
                                        try clear p39
                                        try clear q39
                                        try clear hx39
                                        try clear c40
                                        try clear hx131_0
                                        try clear hx131_1
                                        try clear hx132_0
                                        try clear hx132_1
                                        try clear hx133_0
                                        try clear hx133_1
                                        try clear hx134_0
                                        try clear hx134_1
                                        try clear p1
                                        try clear p13
                                        try clear p131
                                        try clear p132
                                        try clear p133
                                        try clear p134
                                        try clear p2
                                        try clear p3
                                        try clear p37
                                        try clear p39
                                        try clear p6
                                        try clear q1
                                        try clear q13
                                        try clear q131
                                        try clear q132
                                        try clear q133
                                        try clear q134
                                        try clear q15
                                        try clear q3
                                        try clear q37
                                        try clear q39
                                        obtain ⟨x89_6, rfl, HA, HK6, HO_9, HO_10, HB⟩ := hrel
                                        cases gk with
                                        | zero => exact absurd HA.out (by simp [switchboardlaw14_SlotsRoom.l2])
                                        | succ k6 =>
                                          have H := HA.out
                                          clear HA
                                          simp only [switchboardlaw14_SlotsRoom.l2] at H
                                          by_cases c41 : x89_6 < x50_2
                                          · rw [if_pos c41] at H
                                            have c41b0 : decide (x89_6 < x50_2) = true := decide_eq_true c41
                                            clear c41
                                            have H' := Aside0.mk H
                                            clear H
                                            go_wp2
                                            repeat (go_quiet (fail); try go_wp2)
                                            go_loopg [92] k6 (fun kq v92 w' => ∃ (x92_7 : Int), v92 = .int .i64 x92_7 ∧ Aside0 (switchboardlaw14_SlotsRoom.l3 kq l0 a2 t120 t127 x50_2 x68_4 x89_6 (t120.length : Int) x50_2 x68_4 x50_2 x89_6 x92_7 = some true) ∧ Aside0 (kq ≤ k6) ∧ Aside0 (Kd.R k25 25 w' w.heap.size (fun k_ => some k_ ≠ (v128 : Value).ownBlock) (.slice Ao23 t120.length co23) t120) ∧ Aside0 (Kd.R k25 25 w' w.heap.size (fun k_ => some k_ ≠ ((.slice Ao23 t120.length co23) : Value).ownBlock) v128 t127) ∧ Aside0 (Below w.heap.size w w'))
                                            case atStart => exact ⟨(0), (by first | rfl | (simp; done) | (simp [*]; done)), H', ⟨Nat.le_refl _⟩, ⟨by (with_reducible repeat (first | apply Kd.R_alloc | apply Kd.R_drewN | apply Kd.R_drew)); exact HO_9.out⟩, ⟨by (with_reducible repeat (first | apply Kd.R_alloc | apply Kd.R_drewN | apply Kd.R_drew)); exact HO_10.out⟩, ⟨by repeat (first | (with_reducible first | exact HB.out | apply below_alloc | apply pw_below_drewN | apply below_drew1) | exact HB.out)⟩⟩
                                            case round =>
                                              clear H'
                                              try clear c1
                                              try clear p1
                                              try clear q1
                                              try clear hx1
                                              try clear c2
                                              try clear p2
                                              try clear c3
                                              try clear p3
                                              try clear q3
                                              try clear hx3
                                              try clear c4
                                              try clear c5
                                              try clear c5b0
                                              try clear c5b1
                                              try clear p6
                                              try clear c10
                                              try clear c10b0
                                              try clear c10b1
                                              try clear c11
                                              try clear c11b0
                                              try clear c11b1
                                              try clear p13
                                              try clear q13
                                              try clear hx13
                                              try clear q15
                                              try clear c17
                                              try clear c17b0
                                              try clear c17b1
                                              try clear c17b2
                                              try clear c18
                                              try clear c18b0
                                              try clear c22
                                              try clear c24
                                              try clear c24b0
                                              try clear c26
                                              try clear c26b0
                                              try clear c27
                                              try clear c27b0
                                              try clear c28
                                              try clear c28b0
                                              try clear c31
                                              try clear c32
                                              try clear c32b0
                                              try clear c34
                                              try clear c34b0
                                              try clear c35
                                              try clear c35b0
                                              try clear c36
                                              try clear c36b0
                                              try clear p37
                                              try clear q37
                                              try clear hx37
                                              try clear c38
                                              try clear c38b0
                                              try clear p39
                                              try clear q39
                                              try clear hx39
                                              try clear c40
                                              try clear c41
                                              try clear c41b0
                                              try clear hx131_0
                                              try clear hx131_1
                                              try clear hx132_0
                                              try clear hx132_1
                                              try clear hx133_0
                                              try clear hx133_1
                                              try clear hx134_0
                                              try clear hx134_1
                                              try clear p1
                                              try clear p13
                                              try clear p131
                                              try clear p132
                                              try clear p133
                                              try clear p134
                                              try clear p2
                                              try clear p3
                                              try clear p37
                                              try clear p39
                                              try clear p6
                                              try clear q1
                                              try clear q13
                                              try clear q131
                                              try clear q132
                                              try clear q133
                                              try clear q134
                                              try clear q15
                                              try clear q3
                                              try clear q37
                                              try clear q39
                                              obtain ⟨x92_7, rfl, HA, HK7, HO_9, HO_10, HB⟩ := hrel
                                              cases gk with
                                              | zero => exact absurd HA.out (by simp [switchboardlaw14_SlotsRoom.l3])
                                              | succ k7 =>
                                                have H := HA.out
                                                clear HA
                                                simp only [switchboardlaw14_SlotsRoom.l3] at H
                                                by_cases c42 : x92_7 < 2
                                                · rw [if_pos c42] at H
                                                  have c42b0 : decide (x92_7 < 2) = true := decide_eq_true c42
                                                  clear c42
                                                  by_cases c43 : 0 ≤ x50_2
                                                  · rw [if_pos c43] at H
                                                    have c43b0 : decide (0 ≤ x50_2) = true := decide_eq_true c43
                                                    clear c43
                                                    by_cases c44 : x50_2 < (t120.length : Int)
                                                    · rw [if_pos c44] at H
                                                      have c44b0 : decide (x50_2 < (t120.length : Int)) = true := decide_eq_true c44
                                                      clear c44
                                                      by_cases c45 : 0 ≤ x68_4
                                                      · rw [if_pos c45] at H
                                                        have c45b0 : decide (0 ≤ x68_4) = true := decide_eq_true c45
                                                        clear c45
                                                        by_cases c46 : x68_4 < 2
                                                        · rw [if_pos c46] at H
                                                          have c46b0 : decide (x68_4 < 2) = true := decide_eq_true c46
                                                          clear c46
                                                          by_cases c48 : (pick2 ((rd_T25 t120 x50_2).f0) ((rd_T25 t120 x50_2).f1) x68_4) ≥ 0
                                                          · rw [if_pos c48] at H
                                                            have c48b0 : decide (0 ≤ (pick2 ((rd_T25 t120 x50_2).f0) ((rd_T25 t120 x50_2).f1) x68_4)) = true := decide_eq_true c48
                                                            clear c48
                                                            by_cases c50 : 0 ≤ x89_6
                                                            · rw [if_pos c50] at H
                                                              have c50b0 : decide (0 ≤ x89_6) = true := decide_eq_true c50
                                                              clear c50
                                                              by_cases c51 : x89_6 < (t120.length : Int)
                                                              · rw [if_pos c51] at H
                                                                have c51b0 : decide (x89_6 < (t120.length : Int)) = true := decide_eq_true c51
                                                                clear c51
                                                                by_cases c52 : 0 ≤ x92_7
                                                                · rw [if_pos c52] at H
                                                                  have c52b0 : decide (0 ≤ x92_7) = true := decide_eq_true c52
                                                                  clear c52
                                                                  by_cases c54 : (pick2 ((rd_T25 t120 x50_2).f0) ((rd_T25 t120 x50_2).f1) x68_4) = (pick2 ((rd_T25 t120 x89_6).f0) ((rd_T25 t120 x89_6).f1) x92_7)
                                                                  · rw [if_pos c54] at H
                                                                    have c54b0 : ((pick2 ((rd_T25 t120 x50_2).f0) ((rd_T25 t120 x50_2).f1) x68_4) == (pick2 ((rd_T25 t120 x89_6).f0) ((rd_T25 t120 x89_6).f1) x92_7)) = true := beq_iff_eq.mpr c54
                                                                    have c54b1 : ((pick2 ((rd_T25 t120 x50_2).f0) ((rd_T25 t120 x50_2).f1) x68_4) != (pick2 ((rd_T25 t120 x89_6).f0) ((rd_T25 t120 x89_6).f1) x92_7)) = false := bne_eq_false_iff_eq.mpr c54
                                                                    clear c54
                                                                    by_cases c55 : x50_2 < (l0.length : Int)
                                                                    · rw [if_pos c55] at H
                                                                      have c55b0 : decide (x50_2 < (l0.length : Int)) = true := decide_eq_true c55
                                                                      clear c55
                                                                      by_cases c57 : x89_6 < (l0.length : Int)
                                                                      · rw [if_pos c57] at H
                                                                        have c57b0 : decide (x89_6 < (l0.length : Int)) = true := decide_eq_true c57
                                                                        clear c57
                                                                        by_cases c59 : (pick2 ((rd_T25 l0 x50_2).f0) ((rd_T25 l0 x50_2).f1) x68_4) = (pick2 ((rd_T25 l0 x89_6).f0) ((rd_T25 l0 x89_6).f1) x92_7)
                                                                        · rw [if_pos c59] at H
                                                                          have c59b0 : ((pick2 ((rd_T25 l0 x50_2).f0) ((rd_T25 l0 x50_2).f1) x68_4) == (pick2 ((rd_T25 l0 x89_6).f0) ((rd_T25 l0 x89_6).f1) x92_7)) = true := beq_iff_eq.mpr c59
                                                                          have c59b1 : ((pick2 ((rd_T25 l0 x50_2).f0) ((rd_T25 l0 x50_2).f1) x68_4) != (pick2 ((rd_T25 l0 x89_6).f0) ((rd_T25 l0 x89_6).f1) x92_7)) = false := bne_eq_false_iff_eq.mpr c59
                                                                          clear c59
                                                                          exact absurd H (by simp)
                                                                        · rw [if_neg c59] at H
                                                                          have c59b0 : ((pick2 ((rd_T25 l0 x50_2).f0) ((rd_T25 l0 x50_2).f1) x68_4) == (pick2 ((rd_T25 l0 x89_6).f0) ((rd_T25 l0 x89_6).f1) x92_7)) = false := beq_eq_false_iff_ne.mpr c59
                                                                          have c59b1 : ((pick2 ((rd_T25 l0 x50_2).f0) ((rd_T25 l0 x50_2).f1) x68_4) != (pick2 ((rd_T25 l0 x89_6).f0) ((rd_T25 l0 x89_6).f1) x92_7)) = true := bne_iff_ne.mpr c59
                                                                          have H' := Aside0.mk H
                                                                          clear H
                                                                          have p135 : 0 ≤ (x50_2 : Int) := of_decide_eq_true (by first | (with_reducible assumption) | assumption)
                                                                          have q135 : x50_2 < (t120.length : Int) := of_decide_eq_true (by first | (with_reducible assumption) | assumption)
                                                                          obtain ⟨ad135, e135, hx135_0, hx135_1⟩ := at_T25 (Kd.R_reads' HO_9.out).2.2 x50_2 p135 q135
                                                                          cases e135
                                                                          replace p135 := eq_true p135
                                                                          replace q135 := eq_true q135
                                                                          have p47 : 0 ≤ (x68_4 : Int) := of_decide_eq_true (by first | (with_reducible assumption) | assumption)
                                                                          have q47 : x68_4 < 2 := of_decide_eq_true (by first | (with_reducible assumption) | assumption)
                                                                          have hx47 := pick2_cell hx135_0 hx135_1 x68_4 p47 q47
                                                                          replace p47 := eq_true p47
                                                                          replace q47 := eq_true q47
                                                                          have p136 : 0 ≤ (x50_2 : Int) := of_decide_eq_true (by first | (with_reducible assumption) | assumption)
                                                                          have q136 : x50_2 < (t120.length : Int) := of_decide_eq_true (by first | (with_reducible assumption) | assumption)
                                                                          obtain ⟨ad136, e136, hx136_0, hx136_1⟩ := at_T25 (Kd.R_reads' HO_9.out).2.2 x50_2 p136 q136
                                                                          obtain rfl : ad135 = ad136 := (by injection e136)
                                                                          replace p136 := eq_true p136
                                                                          replace q136 := eq_true q136
                                                                          have p49 : 0 ≤ (x68_4 : Int) := of_decide_eq_true (by first | (with_reducible assumption) | assumption)
                                                                          have q49 : x68_4 < 2 := of_decide_eq_true (by first | (with_reducible assumption) | assumption)
                                                                          have hx49 := pick2_cell hx136_0 hx136_1 x68_4 p49 q49
                                                                          replace p49 := eq_true p49
                                                                          replace q49 := eq_true q49
                                                                          have p137 : 0 ≤ (x89_6 : Int) := of_decide_eq_true (by first | (with_reducible assumption) | assumption)
                                                                          have q137 : x89_6 < (t120.length : Int) := of_decide_eq_true (by first | (with_reducible assumption) | assumption)
                                                                          obtain ⟨ad137, e137, hx137_0, hx137_1⟩ := at_T25 (Kd.R_reads' HO_9.out).2.2 x89_6 p137 q137
                                                                          obtain rfl : ad135 = ad137 := (by injection e137)
                                                                          replace p137 := eq_true p137
                                                                          replace q137 := eq_true q137
                                                                          have p53 : 0 ≤ (x92_7 : Int) := of_decide_eq_true (by first | (with_reducible assumption) | assumption)
                                                                          have q53 : x92_7 < 2 := of_decide_eq_true (by first | (with_reducible assumption) | assumption)
                                                                          have hx53 := pick2_cell hx137_0 hx137_1 x92_7 p53 q53
                                                                          replace p53 := eq_true p53
                                                                          replace q53 := eq_true q53
                                                                          have p138 : 0 ≤ (x50_2 : Int) := of_decide_eq_true (by first | (with_reducible assumption) | assumption)
                                                                          have q138 : x50_2 < (l0.length : Int) := of_decide_eq_true (by first | (with_reducible assumption) | assumption)
                                                                          obtain ⟨ad138, e138, hx138_0, hx138_1⟩ := at_T25 HR0.out x50_2 p138 q138
                                                                          cases e138
                                                                          replace hx138_0 := (HB.out.cell (World.block_lt_of_cell? w _ hx138_0)).trans hx138_0
                                                                          replace hx138_1 := (HB.out.cell (World.block_lt_of_cell? w _ hx138_1)).trans hx138_1
                                                                          replace p138 := eq_true p138
                                                                          replace q138 := eq_true q138
                                                                          have p56 : 0 ≤ (x68_4 : Int) := of_decide_eq_true (by first | (with_reducible assumption) | assumption)
                                                                          have q56 : x68_4 < 2 := of_decide_eq_true (by first | (with_reducible assumption) | assumption)
                                                                          have hx56 := pick2_cell hx138_0 hx138_1 x68_4 p56 q56
                                                                          replace p56 := eq_true p56
                                                                          replace q56 := eq_true q56
                                                                          have p139 : 0 ≤ (x89_6 : Int) := of_decide_eq_true (by first | (with_reducible assumption) | assumption)
                                                                          have q139 : x89_6 < (l0.length : Int) := of_decide_eq_true (by first | (with_reducible assumption) | assumption)
                                                                          obtain ⟨ad139, e139, hx139_0, hx139_1⟩ := at_T25 HR0.out x89_6 p139 q139
                                                                          obtain rfl : ad138 = ad139 := (by injection e139)
                                                                          replace hx139_0 := (HB.out.cell (World.block_lt_of_cell? w _ hx139_0)).trans hx139_0
                                                                          replace hx139_1 := (HB.out.cell (World.block_lt_of_cell? w _ hx139_1)).trans hx139_1
                                                                          replace p139 := eq_true p139
                                                                          replace q139 := eq_true q139
                                                                          have p58 : 0 ≤ (x92_7 : Int) := of_decide_eq_true (by first | (with_reducible assumption) | assumption)
                                                                          have q58 : x92_7 < 2 := of_decide_eq_true (by first | (with_reducible assumption) | assumption)
                                                                          have hx58 := pick2_cell hx139_0 hx139_1 x92_7 p58 q58
                                                                          replace p58 := eq_true p58
                                                                          replace q58 := eq_true q58
                                                                          go_wp2
                                                                          repeat (go_quiet (fail); try go_wp2)
                                                                          go_roundg k7
                                                                          case measure => have := HJ12.out; have := HK2.out; have := HJ24.out; have := HK4.out; have := HJ32.out; have := HK6.out; have := HK7.out; omega
                                                                          case rel => exact ⟨(wrap64 (x92_7 + 1)), (by first | rfl | (simp; done) | (simp [*]; done)), H', ⟨by have := HJ12.out; have := HK2.out; have := HJ24.out; have := HK4.out; have := HJ32.out; have := HK6.out; have := HK7.out; omega⟩, ⟨by (with_reducible repeat (first | apply Kd.R_alloc | apply Kd.R_drewN | apply Kd.R_drew)); exact HO_9.out⟩, ⟨by (with_reducible repeat (first | apply Kd.R_alloc | apply Kd.R_drewN | apply Kd.R_drew)); exact HO_10.out⟩, ⟨by repeat (first | (with_reducible first | exact HB.out | apply below_alloc | apply pw_below_drewN | apply below_drew1) | exact HB.out)⟩⟩
                                                                      · rw [if_neg c57] at H
                                                                        exact absurd H (by simp)
                                                                    · rw [if_neg c55] at H
                                                                      exact absurd H (by simp)
                                                                  · rw [if_neg c54] at H
                                                                    have c54b0 : ((pick2 ((rd_T25 t120 x50_2).f0) ((rd_T25 t120 x50_2).f1) x68_4) == (pick2 ((rd_T25 t120 x89_6).f0) ((rd_T25 t120 x89_6).f1) x92_7)) = false := beq_eq_false_iff_ne.mpr c54
                                                                    have c54b1 : ((pick2 ((rd_T25 t120 x50_2).f0) ((rd_T25 t120 x50_2).f1) x68_4) != (pick2 ((rd_T25 t120 x89_6).f0) ((rd_T25 t120 x89_6).f1) x92_7)) = true := bne_iff_ne.mpr c54
                                                                    have H' := Aside0.mk H
                                                                    clear H
                                                                    have p135 : 0 ≤ (x50_2 : Int) := of_decide_eq_true (by first | (with_reducible assumption) | assumption)
                                                                    have q135 : x50_2 < (t120.length : Int) := of_decide_eq_true (by first | (with_reducible assumption) | assumption)
                                                                    obtain ⟨ad135, e135, hx135_0, hx135_1⟩ := at_T25 (Kd.R_reads' HO_9.out).2.2 x50_2 p135 q135
                                                                    cases e135
                                                                    replace p135 := eq_true p135
                                                                    replace q135 := eq_true q135
                                                                    have p47 : 0 ≤ (x68_4 : Int) := of_decide_eq_true (by first | (with_reducible assumption) | assumption)
                                                                    have q47 : x68_4 < 2 := of_decide_eq_true (by first | (with_reducible assumption) | assumption)
                                                                    have hx47 := pick2_cell hx135_0 hx135_1 x68_4 p47 q47
                                                                    replace p47 := eq_true p47
                                                                    replace q47 := eq_true q47
                                                                    have p136 : 0 ≤ (x50_2 : Int) := of_decide_eq_true (by first | (with_reducible assumption) | assumption)
                                                                    have q136 : x50_2 < (t120.length : Int) := of_decide_eq_true (by first | (with_reducible assumption) | assumption)
                                                                    obtain ⟨ad136, e136, hx136_0, hx136_1⟩ := at_T25 (Kd.R_reads' HO_9.out).2.2 x50_2 p136 q136
                                                                    obtain rfl : ad135 = ad136 := (by injection e136)
                                                                    replace p136 := eq_true p136
                                                                    replace q136 := eq_true q136
                                                                    have p49 : 0 ≤ (x68_4 : Int) := of_decide_eq_true (by first | (with_reducible assumption) | assumption)
                                                                    have q49 : x68_4 < 2 := of_decide_eq_true (by first | (with_reducible assumption) | assumption)
                                                                    have hx49 := pick2_cell hx136_0 hx136_1 x68_4 p49 q49
                                                                    replace p49 := eq_true p49
                                                                    replace q49 := eq_true q49
                                                                    have p137 : 0 ≤ (x89_6 : Int) := of_decide_eq_true (by first | (with_reducible assumption) | assumption)
                                                                    have q137 : x89_6 < (t120.length : Int) := of_decide_eq_true (by first | (with_reducible assumption) | assumption)
                                                                    obtain ⟨ad137, e137, hx137_0, hx137_1⟩ := at_T25 (Kd.R_reads' HO_9.out).2.2 x89_6 p137 q137
                                                                    obtain rfl : ad135 = ad137 := (by injection e137)
                                                                    replace p137 := eq_true p137
                                                                    replace q137 := eq_true q137
                                                                    have p53 : 0 ≤ (x92_7 : Int) := of_decide_eq_true (by first | (with_reducible assumption) | assumption)
                                                                    have q53 : x92_7 < 2 := of_decide_eq_true (by first | (with_reducible assumption) | assumption)
                                                                    have hx53 := pick2_cell hx137_0 hx137_1 x92_7 p53 q53
                                                                    replace p53 := eq_true p53
                                                                    replace q53 := eq_true q53
                                                                    go_wp2
                                                                    repeat (go_quiet (fail); try go_wp2)
                                                                    go_roundg k7
                                                                    case measure => have := HJ12.out; have := HK2.out; have := HJ24.out; have := HK4.out; have := HJ32.out; have := HK6.out; have := HK7.out; omega
                                                                    case rel => exact ⟨(wrap64 (x92_7 + 1)), (by first | rfl | (simp; done) | (simp [*]; done)), H', ⟨by have := HJ12.out; have := HK2.out; have := HJ24.out; have := HK4.out; have := HJ32.out; have := HK6.out; have := HK7.out; omega⟩, ⟨by (with_reducible repeat (first | apply Kd.R_alloc | apply Kd.R_drewN | apply Kd.R_drew)); exact HO_9.out⟩, ⟨by (with_reducible repeat (first | apply Kd.R_alloc | apply Kd.R_drewN | apply Kd.R_drew)); exact HO_10.out⟩, ⟨by repeat (first | (with_reducible first | exact HB.out | apply below_alloc | apply pw_below_drewN | apply below_drew1) | exact HB.out)⟩⟩
                                                                · rw [if_neg c52] at H
                                                                  exact absurd H (by simp)
                                                              · rw [if_neg c51] at H
                                                                exact absurd H (by simp)
                                                            · rw [if_neg c50] at H
                                                              exact absurd H (by simp)
                                                          · rw [if_neg c48] at H
                                                            have c48b0 : decide (0 ≤ (pick2 ((rd_T25 t120 x50_2).f0) ((rd_T25 t120 x50_2).f1) x68_4)) = false := decide_eq_false c48
                                                            clear c48
                                                            have H' := Aside0.mk H
                                                            clear H
                                                            have p135 : 0 ≤ (x50_2 : Int) := of_decide_eq_true (by first | (with_reducible assumption) | assumption)
                                                            have q135 : x50_2 < (t120.length : Int) := of_decide_eq_true (by first | (with_reducible assumption) | assumption)
                                                            obtain ⟨ad135, e135, hx135_0, hx135_1⟩ := at_T25 (Kd.R_reads' HO_9.out).2.2 x50_2 p135 q135
                                                            cases e135
                                                            replace p135 := eq_true p135
                                                            replace q135 := eq_true q135
                                                            have p47 : 0 ≤ (x68_4 : Int) := of_decide_eq_true (by first | (with_reducible assumption) | assumption)
                                                            have q47 : x68_4 < 2 := of_decide_eq_true (by first | (with_reducible assumption) | assumption)
                                                            have hx47 := pick2_cell hx135_0 hx135_1 x68_4 p47 q47
                                                            replace p47 := eq_true p47
                                                            replace q47 := eq_true q47
                                                            go_wp2
                                                            repeat (go_quiet (fail); try go_wp2)
                                                            go_roundg k7
                                                            case measure => have := HJ12.out; have := HK2.out; have := HJ24.out; have := HK4.out; have := HJ32.out; have := HK6.out; have := HK7.out; omega
                                                            case rel => exact ⟨(wrap64 (x92_7 + 1)), (by first | rfl | (simp; done) | (simp [*]; done)), H', ⟨by have := HJ12.out; have := HK2.out; have := HJ24.out; have := HK4.out; have := HJ32.out; have := HK6.out; have := HK7.out; omega⟩, ⟨by (with_reducible repeat (first | apply Kd.R_alloc | apply Kd.R_drewN | apply Kd.R_drew)); exact HO_9.out⟩, ⟨by (with_reducible repeat (first | apply Kd.R_alloc | apply Kd.R_drewN | apply Kd.R_drew)); exact HO_10.out⟩, ⟨by repeat (first | (with_reducible first | exact HB.out | apply below_alloc | apply pw_below_drewN | apply below_drew1) | exact HB.out)⟩⟩
                                                        · rw [if_neg c46] at H
                                                          exact absurd H (by simp)
                                                      · rw [if_neg c45] at H
                                                        exact absurd H (by simp)
                                                    · rw [if_neg c44] at H
                                                      exact absurd H (by simp)
                                                  · rw [if_neg c43] at H
                                                    exact absurd H (by simp)
                                                · rw [if_neg c42] at H
                                                  have c42b0 : decide (x92_7 < 2) = false := decide_eq_false c42
                                                  clear c42
                                                  have H' := Aside0.mk H
                                                  clear H
                                                  go_wp2
                                                  repeat (go_quiet (fail); try go_wp2)
                                                  go_roundg k7
                                                  case measure => have := HJ12.out; have := HK2.out; have := HJ24.out; have := HK4.out; have := HJ32.out; have := HK6.out; have := HK7.out; omega
                                                  case rel => exact ⟨(wrap64 (x89_6 + 1)), (by first | rfl | (simp; done) | (simp [*]; done)), H', ⟨by have := HJ12.out; have := HK2.out; have := HJ24.out; have := HK4.out; have := HJ32.out; have := HK6.out; have := HK7.out; omega⟩, ⟨by (with_reducible repeat (first | apply Kd.R_alloc | apply Kd.R_drewN | apply Kd.R_drew)); exact HO_9.out⟩, ⟨by (with_reducible repeat (first | apply Kd.R_alloc | apply Kd.R_drewN | apply Kd.R_drew)); exact HO_10.out⟩, ⟨by repeat (first | (with_reducible first | exact HB.out | apply below_alloc | apply pw_below_drewN | apply below_drew1) | exact HB.out)⟩⟩
                                          · rw [if_neg c41] at H
                                            have c41b0 : decide (x89_6 < x50_2) = false := decide_eq_false c41
                                            clear c41
                                            have H' := Aside0.mk H
                                            clear H
                                            go_wp2
                                            repeat (go_quiet (fail); try go_wp2)
                                            go_roundg k6
                                            case measure => have := HJ12.out; have := HK2.out; have := HJ24.out; have := HK4.out; have := HJ32.out; have := HK6.out; omega
                                            case rel => exact ⟨(wrap64 (x68_4 + 1)), (by first | rfl | (simp; done) | (simp [*]; done)), H', ⟨by have := HJ12.out; have := HK2.out; have := HJ24.out; have := HK4.out; have := HJ32.out; have := HK6.out; omega⟩, ⟨by (with_reducible repeat (first | apply Kd.R_alloc | apply Kd.R_drewN | apply Kd.R_drew)); exact HO_9.out⟩, ⟨by (with_reducible repeat (first | apply Kd.R_alloc | apply Kd.R_drewN | apply Kd.R_drew)); exact HO_10.out⟩, ⟨by repeat (first | (with_reducible first | exact HB.out | apply below_alloc | apply pw_below_drewN | apply below_drew1) | exact HB.out)⟩⟩
                              · rw [if_neg c32] at H
                                have c32b0 : decide (x68_4 < 2) = false := decide_eq_false c32
                                clear c32
                                have H' := Aside0.mk H
                                clear H
                                go_wp2
                                repeat (go_quiet (fail); try go_wp2)
                                go_roundg k4
                                case measure => have := HJ12.out; have := HK2.out; have := HJ24.out; have := HK4.out; omega
                                case rel => exact ⟨(wrap64 (x50_2 + 1)), (by first | rfl | (simp; done) | (simp [*]; done)), H', ⟨by have := HJ12.out; have := HK2.out; have := HJ24.out; have := HK4.out; omega⟩, ⟨by (with_reducible repeat (first | apply Kd.R_alloc | apply Kd.R_drewN | apply Kd.R_drew)); exact HO_9.out⟩, ⟨by (with_reducible repeat (first | apply Kd.R_alloc | apply Kd.R_drewN | apply Kd.R_drew)); exact HO_10.out⟩, ⟨by repeat (first | (with_reducible first | exact HB.out | apply below_alloc | apply pw_below_drewN | apply below_drew1) | exact HB.out)⟩⟩
                  · rw [if_neg c24] at H
                    have c24b0 : decide (x50_2 < (t120.length : Int)) = false := decide_eq_false c24
                    clear c24
                    replace H := Option.bind_eq_some_iff.mp H
                    obtain ⟨t130, A600, H⟩ := H
                    replace H : (some t130) = some true := H
                    have A60 := Aside0.mk A600
                    clear A600
                    have hr_ := Aside0.mk (Option.some.inj H)
                    go_wp2_with (first | (go_at_call 7; (with_reducible refine (switchboardlaw14_awake.calls  t130 _ A60.out).mono ?_); rintro e w61 ⟨rfl, hb⟩; have n0_ := Aside0.mk (Kd.R_below (by (with_reducible repeat (first | apply Kd.R_alloc | apply Kd.R_drewN | apply Kd.R_drew)); exact HO_9.out) hb); have n1_ := Aside0.mk (Kd.R_below (by (with_reducible repeat (first | apply Kd.R_alloc | apply Kd.R_drewN | apply Kd.R_drew)); exact HO_10.out) hb); have n2_ := Aside0.mk (below_step (by repeat (first | (with_reducible first | exact HB.out | apply below_alloc | apply pw_below_drewN | apply below_drew1) | exact HB.out)) hb); clear HO_9; clear HO_10; clear HB; have HO_9 := n0_; have HO_10 := n1_; have HB := n2_; clear n0_ n1_ n2_; (try clear hb); (try clear hb2); (try clear hk); (try clear hi)))
                    repeat (go_quiet (first | (go_at_call 7; (with_reducible refine (switchboardlaw14_awake.calls  t130 _ A60.out).mono ?_); rintro e w61 ⟨rfl, hb⟩; have n0_ := Aside0.mk (Kd.R_below (by (with_reducible repeat (first | apply Kd.R_alloc | apply Kd.R_drewN | apply Kd.R_drew)); exact HO_9.out) hb); have n1_ := Aside0.mk (Kd.R_below (by (with_reducible repeat (first | apply Kd.R_alloc | apply Kd.R_drewN | apply Kd.R_drew)); exact HO_10.out) hb); have n2_ := Aside0.mk (below_step (by repeat (first | (with_reducible first | exact HB.out | apply below_alloc | apply pw_below_drewN | apply below_drew1) | exact HB.out)) hb); clear HO_9; clear HO_10; clear HB; have HO_9 := n0_; have HO_10 := n1_; have HB := n2_; clear n0_ n1_ n2_; (try clear hb); (try clear hb2); (try clear hk); (try clear hi))); try go_wp2_with (first | (go_at_call 7; (with_reducible refine (switchboardlaw14_awake.calls  t130 _ A60.out).mono ?_); rintro e w61 ⟨rfl, hb⟩; have n0_ := Aside0.mk (Kd.R_below (by (with_reducible repeat (first | apply Kd.R_alloc | apply Kd.R_drewN | apply Kd.R_drew)); exact HO_9.out) hb); have n1_ := Aside0.mk (Kd.R_below (by (with_reducible repeat (first | apply Kd.R_alloc | apply Kd.R_drewN | apply Kd.R_drew)); exact HO_10.out) hb); have n2_ := Aside0.mk (below_step (by repeat (first | (with_reducible first | exact HB.out | apply below_alloc | apply pw_below_drewN | apply below_drew1) | exact HB.out)) hb); clear HO_9; clear HO_10; clear HB; have HO_9 := n0_; have HO_10 := n1_; have HB := n2_; clear n0_ n1_ n2_; (try clear hb); (try clear hb2); (try clear hk); (try clear hi))))
                    go_ret
                    exact ⟨by first | rfl | exact congrArg (fun b_ => Ending.returned (Value.bool b_)) hr_.out | exact congrArg (fun b_ => Ending.returned (Value.bool b_)) hr_.out | (simp [errW_none, errW_some] <;> rfl) | (simp only [← hji9]; first | rfl | (simp [errW_none, errW_some] <;> rfl)) | (simp [*, errW_none, errW_some] <;> rfl), by repeat (first | (with_reducible first | exact HB.out | apply below_alloc | apply pw_below_drewN | apply below_drew1) | exact HB.out)⟩
      · rw [if_neg c11] at H
        exact absurd H (by simp)
    · rw [if_neg c10] at H
      exact absurd H (by simp)

end Go.Proofs.Ytglcmnhaoeohdaa.Pr
