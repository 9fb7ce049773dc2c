-- Laid by wip/xprint.py, a program of this session that runs the kit's print with some contracts given by hand; not a text of print.sh. Lean checks it.
import Derived.Test.YtcbngoldidhfmaaPr0
import Derived.Test.YtcbngoldidhfmaaPr1
import Derived.Test.YtcbngoldidhfmaaPr3
import Derived.Test.YtcbngoldidhfmaaPr4
namespace Go.Proofs.Ytcbngoldidhfmaa.Pr
open Go.RowKit Go.Proofs.YtcbngoldidhfmaaW.PrintWords Go.Proofs.YtcbngoldidhfmaaW.PrintLast Go.Proofs.YtcbngoldidhfmaaW.PrintMore
attribute [local go_sem] max2_int min2_int max_two min_two max_three min_three max_four min_four   -- for this text's walks alone
set_option linter.unusedVariables false
set_option linter.unusedSimpArgs false

attribute [local go_sem high] eqA24
/-! ### switchboardlaw12_LedgerExact: function 3 -/
mutual
def switchboardlaw12_LedgerExact.j0 : Nat → List (S29) → List Int → Bool → Int → Int → Int → Int → Option (Bool)
  | 0, _, _, _, _, _, _, _ => none
  | k + 1, x0, x2, x25, x151000, x151001, x151002, x151003 => if x25 = true then ((switchboardlaw12_awake.f).bind fun t151 => (some t151)) else (switchboardlaw12_LedgerExact.l0 k x0 x2 ([] : List (S32)) x0 (x0.length : Int) 0 x151000 x151001 x151002 x151003)
def switchboardlaw12_LedgerExact.l0 : Nat → List (S29) → List Int → List (S32) → List (S29) → Int → Int → Int → Int → Int → Int → Option (Bool)
  | 0, _, _, _, _, _, _, _, _, _, _ => none
  | k + 1, x0, x2, x7, x27, x28, x29, x151000, x151001, x151002, x151003 => if x29 < x28 then (if 0 ≤ x29 then (if x29 < (x27.length : Int) then (if (((rd_T29 x27 x29).f1).length : Int) > 30 then ((switchboardlaw12_awake.f).bind fun t154 => (some t154)) else (if x7.length < 2513169434916 then (switchboardlaw12_LedgerExact.l0 k x0 x2 (x7 ++ [(⟨(⟨(rd_T29 x27 x29).f0.f0, (rd_T29 x27 x29).f0.f1, (rd_T29 x27 x29).f0.f2, (rd_T29 x27 x29).f0.f3⟩ : S30), (rd_T29 x27 x29).f1⟩ : S32)]) x27 x28 (wrap64 (x29 + 1)) x151000 x151001 x151002 x151003) else (none))) else (none)) else (none)) else ((switchboardref12_Find.f k x7 x151000 x151001 x151002 x151003).bind fun t158 => ((ledger_Find.f x0 x151000 x151001 x151002 x151003).bind fun bt159 => ((ledger_Enter.f x0 x151000 x151001 x151002 x151003 x2).bind fun bt163 => (if t158 < 0 then (switchboardlaw12_LedgerExact.j2 k x0 x2 t158 bt159.1 bt159.2 bt163.1 bt163.2 (wrap64 ((x0.length : Int) + 1)) x151000 x151001 x151002 x151003) else (switchboardlaw12_LedgerExact.j2 k x0 x2 t158 bt159.1 bt159.2 bt163.1 bt163.2 (x0.length : Int) x151000 x151001 x151002 x151003)))))
def switchboardlaw12_LedgerExact.j2 : Nat → List (S29) → List Int → Int → List Int → Bool → List (S29) → Bool → Int → Int → Int → Int → Int → Option (Bool)
  | 0, _, _, _, _, _, _, _, _, _, _, _, _ => none
  | k + 1, x0, x2, x10, x11, x12, x13, x14, x15, x151000, x151001, x151002, x151003 => if (x12 != (decide (x10 ≥ 0))) = true then (switchboardlaw12_LedgerExact.j3 k x0 x2 x13 true x151000 x151001 x151002 x151003) else (if (x14 == x12) = true then (switchboardlaw12_LedgerExact.j3 k x0 x2 x13 true x151000 x151001 x151002 x151003) else (if (x13.length : Int) = x15 then (if x10 ≥ 0 then (if 0 ≤ x10 then (if x10 < (x0.length : Int) then ((switchboardref02_Same.f k x11 ((rd_T29 x0 x10).f1)).bind fun t168 => (if t168 = true then (if x10 < 0 then (switchboardlaw12_LedgerExact.j3 k x0 x2 x13 ((x11.length : Int) != 0) x151000 x151001 x151002 x151003) else (switchboardlaw12_LedgerExact.j3 k x0 x2 x13 false x151000 x151001 x151002 x151003)) else (switchboardlaw12_LedgerExact.j3 k x0 x2 x13 true x151000 x151001 x151002 x151003))) else (none)) else (none)) else (if x10 < 0 then (switchboardlaw12_LedgerExact.j3 k x0 x2 x13 ((x11.length : Int) != 0) x151000 x151001 x151002 x151003) else (switchboardlaw12_LedgerExact.j3 k x0 x2 x13 false x151000 x151001 x151002 x151003))) else (switchboardlaw12_LedgerExact.j3 k x0 x2 x13 true x151000 x151001 x151002 x151003)))
def switchboardlaw12_LedgerExact.j3 : Nat → List (S29) → List Int → List (S29) → Bool → Int → Int → Int → Int → Option (Bool)
  | 0, _, _, _, _, _, _, _, _ => none
  | k + 1, x0, x2, x13, x106, x151000, x151001, x151002, x151003 => if x106 = true then (some false) else (switchboardlaw12_LedgerExact.l1 k x0 x2 x13 (x13.length : Int) 0 x151000 x151001 x151002 x151003)
def switchboardlaw12_LedgerExact.l1 : Nat → List (S29) → List Int → List (S29) → Int → Int → Int → Int → Int → Int → Option (Bool)
  | 0, _, _, _, _, _, _, _, _, _ => none
  | k + 1, x0, x2, x107, x108, x109, x151000, x151001, x151002, x151003 => if x109 < x108 then (if 0 ≤ x109 then (if x109 < (x107.length : Int) then (if x109 < (x0.length : Int) then (if (!(((rd_T29 x107 x109).f0.f0) == ((rd_T29 x0 x109).f0.f0)) || (!(((rd_T29 x107 x109).f0.f1) == ((rd_T29 x0 x109).f0.f1)) || (!(((rd_T29 x107 x109).f0.f2) == ((rd_T29 x0 x109).f0.f2)) || (!(((rd_T29 x107 x109).f0.f3) == ((rd_T29 x0 x109).f0.f3)))))) = true then (some false) else ((switchboardref02_Same.f k ((rd_T29 x107 x109).f1) ((rd_T29 x0 x109).f1)).bind fun t174 => (if t174 = true then (if x109 = (x0.length : Int) then (if (!(((rd_T29 x107 x109).f0.f0) == x151000) || (!(((rd_T29 x107 x109).f0.f1) == x151001) || (!(((rd_T29 x107 x109).f0.f2) == x151002) || (!(((rd_T29 x107 x109).f0.f3) == x151003))))) = true then (some false) else ((switchboardref02_Same.f k ((rd_T29 x107 x109).f1) x2).bind fun t175 => (if t175 = true then (switchboardlaw12_LedgerExact.l1 k x0 x2 x107 x108 (wrap64 (x109 + 1)) x151000 x151001 x151002 x151003) else (some false)))) else (switchboardlaw12_LedgerExact.l1 k x0 x2 x107 x108 (wrap64 (x109 + 1)) x151000 x151001 x151002 x151003)) else (some false)))) else (if x109 = (x0.length : Int) then (if (!(((rd_T29 x107 x109).f0.f0) == x151000) || (!(((rd_T29 x107 x109).f0.f1) == x151001) || (!(((rd_T29 x107 x109).f0.f2) == x151002) || (!(((rd_T29 x107 x109).f0.f3) == x151003))))) = true then (some false) else ((switchboardref02_Same.f k ((rd_T29 x107 x109).f1) x2).bind fun t176 => (if t176 = true then (switchboardlaw12_LedgerExact.l1 k x0 x2 x107 x108 (wrap64 (x109 + 1)) x151000 x151001 x151002 x151003) else (some false)))) else (switchboardlaw12_LedgerExact.l1 k x0 x2 x107 x108 (wrap64 (x109 + 1)) x151000 x151001 x151002 x151003))) else (none)) else (none)) else ((switchboardlaw12_awake.f).bind fun t169 => (some t169))
end
def switchboardlaw12_LedgerExact.f (k : Nat) (l0 : List (S29)) (a1_0 : Int) (a1_1 : Int) (a1_2 : Int) (a1_3 : Int) (l2 : List Int) : Option (Bool) := if (l0.length : Int) > 60 then (switchboardlaw12_LedgerExact.j0 k l0 l2 true a1_0 a1_1 a1_2 a1_3) else (switchboardlaw12_LedgerExact.j0 k l0 l2 (decide ((l2.length : Int) > 30)) a1_0 a1_1 a1_2 a1_3)
theorem switchboardlaw12_LedgerExact.mono_l : ∀ k, (∀ y0 y1 y2 y3 y4 y5 y6, LeO (switchboardlaw12_LedgerExact.j0 k y0 y1 y2 y3 y4 y5 y6) (switchboardlaw12_LedgerExact.j0 (k + 1) y0 y1 y2 y3 y4 y5 y6)) ∧ (∀ y0 y1 y2 y3 y4 y5 y6 y7 y8 y9, LeO (switchboardlaw12_LedgerExact.l0 k y0 y1 y2 y3 y4 y5 y6 y7 y8 y9) (switchboardlaw12_LedgerExact.l0 (k + 1) y0 y1 y2 y3 y4 y5 y6 y7 y8 y9)) ∧ (∀ y0 y1 y2 y3 y4 y5 y6 y7 y8 y9 y10 y11, LeO (switchboardlaw12_LedgerExact.j2 k y0 y1 y2 y3 y4 y5 y6 y7 y8 y9 y10 y11) (switchboardlaw12_LedgerExact.j2 (k + 1) y0 y1 y2 y3 y4 y5 y6 y7 y8 y9 y10 y11)) ∧ (∀ y0 y1 y2 y3 y4 y5 y6 y7, LeO (switchboardlaw12_LedgerExact.j3 k y0 y1 y2 y3 y4 y5 y6 y7) (switchboardlaw12_LedgerExact.j3 (k + 1) y0 y1 y2 y3 y4 y5 y6 y7)) ∧ (∀ y0 y1 y2 y3 y4 y5 y6 y7 y8, LeO (switchboardlaw12_LedgerExact.l1 k y0 y1 y2 y3 y4 y5 y6 y7 y8) (switchboardlaw12_LedgerExact.l1 (k + 1) y0 y1 y2 y3 y4 y5 y6 y7 y8))
  | 0 => ⟨fun _ _ _ _ _ _ _ r h => by simp [switchboardlaw12_LedgerExact.j0] at h, fun _ _ _ _ _ _ _ _ _ _ r h => by simp [switchboardlaw12_LedgerExact.l0] at h, fun _ _ _ _ _ _ _ _ _ _ _ _ r h => by simp [switchboardlaw12_LedgerExact.j2] at h, fun _ _ _ _ _ _ _ _ r h => by simp [switchboardlaw12_LedgerExact.j3] at h, fun _ _ _ _ _ _ _ _ _ r h => by simp [switchboardlaw12_LedgerExact.l1] at h⟩
  | k + 1 => by
   obtain ⟨ih0, ih1, ih2, ih3, ih4⟩ := switchboardlaw12_LedgerExact.mono_l k
   refine ⟨?_, ?_, ?_, ?_, ?_⟩
   ·
    intro y0 y1 y2 y3 y4 y5 y6
    unfold switchboardlaw12_LedgerExact.j0
    repeat' first
    | (with_reducible exact ih0 _ _ _ _ _ _ _)
    | (with_reducible exact ih1 _ _ _ _ _ _ _ _ _ _)
    | (with_reducible exact ih2 _ _ _ _ _ _ _ _ _ _ _ _)
    | (with_reducible exact ih3 _ _ _ _ _ _ _ _)
    | (with_reducible exact ih4 _ _ _ _ _ _ _ _ _)
    | (with_reducible exact switchboardref02_Same.mono _ _ _)
    | (with_reducible exact switchboardref12_Find.mono _ _ _ _ _ _)
    | (with_reducible exact LeO.refl _)
    | (with_reducible exact LeO.none _)
    | (with_reducible refine LeO.ite ?_ ?_)
    | (with_reducible refine LeO.bind ?_ (fun _ => ?_))
    | exact ih0 _ _ _ _ _ _ _
    | exact ih1 _ _ _ _ _ _ _ _ _ _
    | exact ih2 _ _ _ _ _ _ _ _ _ _ _ _
    | exact ih3 _ _ _ _ _ _ _ _
    | exact ih4 _ _ _ _ _ _ _ _ _
    | exact switchboardref02_Same.mono _ _ _
    | exact switchboardref12_Find.mono _ _ _ _ _ _
    | exact LeO.none _
    | refine LeO.ite ?_ ?_
    | refine LeO.bind ?_ (fun _ => ?_)
   ·
    intro y0 y1 y2 y3 y4 y5 y6 y7 y8 y9
    unfold switchboardlaw12_LedgerExact.l0
    repeat' first
    | (with_reducible exact ih0 _ _ _ _ _ _ _)
    | (with_reducible exact ih1 _ _ _ _ _ _ _ _ _ _)
    | (with_reducible exact ih2 _ _ _ _ _ _ _ _ _ _ _ _)
    | (with_reducible exact ih3 _ _ _ _ _ _ _ _)
    | (with_reducible exact ih4 _ _ _ _ _ _ _ _ _)
    | (with_reducible exact switchboardref02_Same.mono _ _ _)
    | (with_reducible exact switchboardref12_Find.mono _ _ _ _ _ _)
    | (with_reducible exact LeO.refl _)
    | (with_reducible exact LeO.none _)
    | (with_reducible refine LeO.ite ?_ ?_)
    | (with_reducible refine LeO.bind ?_ (fun _ => ?_))
    | exact ih0 _ _ _ _ _ _ _
    | exact ih1 _ _ _ _ _ _ _ _ _ _
    | exact ih2 _ _ _ _ _ _ _ _ _ _ _ _
    | exact ih3 _ _ _ _ _ _ _ _
    | exact ih4 _ _ _ _ _ _ _ _ _
    | exact switchboardref02_Same.mono _ _ _
    | exact switchboardref12_Find.mono _ _ _ _ _ _
    | exact LeO.none _
    | refine LeO.ite ?_ ?_
    | refine LeO.bind ?_ (fun _ => ?_)
   ·
    intro y0 y1 y2 y3 y4 y5 y6 y7 y8 y9 y10 y11
    unfold switchboardlaw12_LedgerExact.j2
    repeat' first
    | (with_reducible exact ih0 _ _ _ _ _ _ _)
    | (with_reducible exact ih1 _ _ _ _ _ _ _ _ _ _)
    | (with_reducible exact ih2 _ _ _ _ _ _ _ _ _ _ _ _)
    | (with_reducible exact ih3 _ _ _ _ _ _ _ _)
    | (with_reducible exact ih4 _ _ _ _ _ _ _ _ _)
    | (with_reducible exact switchboardref02_Same.mono _ _ _)
    | (with_reducible exact switchboardref12_Find.mono _ _ _ _ _ _)
    | (with_reducible exact LeO.refl _)
    | (with_reducible exact LeO.none _)
    | (with_reducible refine LeO.ite ?_ ?_)
    | (with_reducible refine LeO.bind ?_ (fun _ => ?_))
    | exact ih0 _ _ _ _ _ _ _
    | exact ih1 _ _ _ _ _ _ _ _ _ _
    | exact ih2 _ _ _ _ _ _ _ _ _ _ _ _
    | exact ih3 _ _ _ _ _ _ _ _
    | exact ih4 _ _ _ _ _ _ _ _ _
    | exact switchboardref02_Same.mono _ _ _
    | exact switchboardref12_Find.mono _ _ _ _ _ _
    | exact LeO.none _
    | refine LeO.ite ?_ ?_
    | refine LeO.bind ?_ (fun _ => ?_)
   ·
    intro y0 y1 y2 y3 y4 y5 y6 y7
    unfold switchboardlaw12_LedgerExact.j3
    repeat' first
    | (with_reducible exact ih0 _ _ _ _ _ _ _)
    | (with_reducible exact ih1 _ _ _ _ _ _ _ _ _ _)
    | (with_reducible exact ih2 _ _ _ _ _ _ _ _ _ _ _ _)
    | (with_reducible exact ih3 _ _ _ _ _ _ _ _)
    | (with_reducible exact ih4 _ _ _ _ _ _ _ _ _)
    | (with_reducible exact switchboardref02_Same.mono _ _ _)
    | (with_reducible exact switchboardref12_Find.mono _ _ _ _ _ _)
    | (with_reducible exact LeO.refl _)
    | (with_reducible exact LeO.none _)
    | (with_reducible refine LeO.ite ?_ ?_)
    | (with_reducible refine LeO.bind ?_ (fun _ => ?_))
    | exact ih0 _ _ _ _ _ _ _
    | exact ih1 _ _ _ _ _ _ _ _ _ _
    | exact ih2 _ _ _ _ _ _ _ _ _ _ _ _
    | exact ih3 _ _ _ _ _ _ _ _
    | exact ih4 _ _ _ _ _ _ _ _ _
    | exact switchboardref02_Same.mono _ _ _
    | exact switchboardref12_Find.mono _ _ _ _ _ _
    | exact LeO.none _
    | refine LeO.ite ?_ ?_
    | refine LeO.bind ?_ (fun _ => ?_)
   ·
    intro y0 y1 y2 y3 y4 y5 y6 y7 y8
    unfold switchboardlaw12_LedgerExact.l1
    repeat' first
    | (with_reducible exact ih0 _ _ _ _ _ _ _)
    | (with_reducible exact ih1 _ _ _ _ _ _ _ _ _ _)
    | (with_reducible exact ih2 _ _ _ _ _ _ _ _ _ _ _ _)
    | (with_reducible exact ih3 _ _ _ _ _ _ _ _)
    | (with_reducible exact ih4 _ _ _ _ _ _ _ _ _)
    | (with_reducible exact switchboardref02_Same.mono _ _ _)
    | (with_reducible exact switchboardref12_Find.mono _ _ _ _ _ _)
    | (with_reducible exact LeO.refl _)
    | (with_reducible exact LeO.none _)
    | (with_reducible refine LeO.ite ?_ ?_)
    | (with_reducible refine LeO.bind ?_ (fun _ => ?_))
    | exact ih0 _ _ _ _ _ _ _
    | exact ih1 _ _ _ _ _ _ _ _ _ _
    | exact ih2 _ _ _ _ _ _ _ _ _ _ _ _
    | exact ih3 _ _ _ _ _ _ _ _
    | exact ih4 _ _ _ _ _ _ _ _ _
    | exact switchboardref02_Same.mono _ _ _
    | exact switchboardref12_Find.mono _ _ _ _ _ _
    | exact LeO.none _
    | refine LeO.ite ?_ ?_
    | refine LeO.bind ?_ (fun _ => ?_)
theorem switchboardlaw12_LedgerExact.mono : ∀ a0 a1 a2 a3 a4 a5 k, LeO (switchboardlaw12_LedgerExact.f k a0 a1 a2 a3 a4 a5) (switchboardlaw12_LedgerExact.f (k + 1) a0 a1 a2 a3 a4 a5) := by
  intro a0 a1 a2 a3 a4 a5 k
  obtain ⟨ih0, ih1, ih2, ih3, ih4⟩ := switchboardlaw12_LedgerExact.mono_l k
  unfold switchboardlaw12_LedgerExact.f
  repeat' first
    | (with_reducible exact ih0 _ _ _ _ _ _ _)
    | (with_reducible exact ih1 _ _ _ _ _ _ _ _ _ _)
    | (with_reducible exact ih2 _ _ _ _ _ _ _ _ _ _ _ _)
    | (with_reducible exact ih3 _ _ _ _ _ _ _ _)
    | (with_reducible exact ih4 _ _ _ _ _ _ _ _ _)
    | (with_reducible exact switchboardref02_Same.mono _ _ _)
    | (with_reducible exact switchboardref12_Find.mono _ _ _ _ _ _)
    | (with_reducible exact LeO.refl _)
    | (with_reducible exact LeO.none _)
    | (with_reducible refine LeO.ite ?_ ?_)
    | (with_reducible refine LeO.bind ?_ (fun _ => ?_))
    | exact ih0 _ _ _ _ _ _ _
    | exact ih1 _ _ _ _ _ _ _ _ _ _
    | exact ih2 _ _ _ _ _ _ _ _ _ _ _ _
    | exact ih3 _ _ _ _ _ _ _ _
    | exact ih4 _ _ _ _ _ _ _ _ _
    | exact switchboardref02_Same.mono _ _ _
    | exact switchboardref12_Find.mono _ _ _ _ _ _
    | exact LeO.none _
    | refine LeO.ite ?_ ?_
    | refine LeO.bind ?_ (fun _ => ?_)
def switchboardlaw12_LedgerExact.T22 : Bool × List (List Nat × List Nat) := (true, [([], []), ([], []), ([1], [1]), ([0, 2], [0, 2]), ([3], [3]), ([4], [4]), ([5, 4], [4, 5]), ([4], [4]), ([4], [4]), ([7, 8, 4], [4, 7, 8]), ([9, 4], [4, 9]), ([10, 4], [4, 10]), ([6, 11, 4], [4, 6, 11]), ([12, 4, 4], [4, 12]), ([13], [13]), ([14, 13], [13, 14]), ([13], [13]), ([13], [13]), ([16, 17, 13], [13, 16, 17]), ([18, 13], [13, 18]), ([19, 13], [13, 19]), ([15, 20, 13, 13], [13, 15, 20]), ([21, 13], [13, 21]), ([13, 22, 4], [4, 13, 22]), ([4, 23], [4, 23]), ([24, 21], [24]), ([25], [25]), ([25], [25]), ([27, 25], [25, 27]), ([26, 28, 25], [25, 26, 28]), ([29, 25, 25], [25, 29]), ([30], [30]), ([31, 30], [30, 31]), ([30], [30]), ([32, 33, 30], [30, 32, 33]), ([34, 30, 30], [30, 34]), ([35], [35]), ([36, 35], [35, 36]), ([35], [35]), ([37, 38, 35, 35], [35, 37, 38]), ([39, 35], [35, 39]), ([35, 40, 30], [30, 35, 40]), ([30, 41, 25], [25, 30, 41]), ([25, 42], [25, 42])])
def switchboardlaw12_LedgerExact.B22 : List Nat := [0, 0, 2, 7, 15, 31, 63, 31, 31, 415, 927, 1951, 4095, 8191, 16383, 32767, 16383, 16383, 212991, 475135, 999423, 2097151, 4194303, 8388607, 16777215, 33554431, 67108863, 67108863, 201326591, 536870911, 1073741823, 2147483647, 4294967295, 2147483647, 17179869183, 34359738367, 68719476735, 137438953471, 68719476735, 549755813887, 1099511627775, 2199023255551, 4398046511103, 8796093022207]
theorem switchboardlaw12_LedgerExact.tab22 : rtab .any (opsOf Try.f3 22) = switchboardlaw12_LedgerExact.T22 := by kernel_rfl
theorem switchboardlaw12_LedgerExact.bits22 : waitsOk switchboardlaw12_LedgerExact.T22.2 switchboardlaw12_LedgerExact.B22 = true := by kernel_rfl
set_option maxHeartbeats 8000000 in
set_option maxRecDepth 100000 in
theorem switchboardlaw12_LedgerExact.calls (k : Nat) (P0_ : Nat → Prop) (A0 : Option Addr) (c0 : Nat) (l0 : List (S29)) (a1_0 : Int) (a1_1 : Int) (a1_2 : Int) (a1_3 : Int) (A2 : Option Addr) (c2 : Nat) (l2 : List Int) (w : World) (hs0 : Kd.V k29 29 w w.heap.size (fun k_ => P0_ k_) (.slice A0 l0.length c0) l0) (hr2 : Kd.C (Kd.int .i64) w A2 l2.length l2) (hc2 : l2.length ≤ c2) (h : switchboardlaw12_LedgerExact.f k l0 a1_0 a1_1 a1_2 a1_3 l2 = some true) :
   Calls Try.prog 3 #[.slice A0 l0.length c0, .agg #[.int .i64 a1_0, .int .i64 a1_1, .int .i64 a1_2, .int .i64 a1_3], .slice A2 l2.length c2] w fun e w' => e = .returned (.bool true) ∧ Below w.heap.size w w' := by
  have hu24 := Try.underlying24
  have hu29 := Try.underlying29
  have hu32 := Try.underlying32
  have HO0 := Am (show Kd.V k29 29 w w.heap.size (fun k_ => (P0_ k_ ∨ w.heap.size ≤ k_)) (.slice A0 l0.length c0) l0 from Kd.V_mono hs0 (fun k_ hk => .inl hk))
  have HR2 := Am hr2
  have HC2 := Am hc2
  clear hr2 hc2
  have HB := Am (Below.refl w.heap.size w)
  have H : (if (l0.length : Int) > 60 then (switchboardlaw12_LedgerExact.j0 k l0 l2 true a1_0 a1_1 a1_2 a1_3) else (switchboardlaw12_LedgerExact.j0 k l0 l2 (decide ((l2.length : Int) > 30)) a1_0 a1_1 a1_2 a1_3)) = some true := h
  clear h
  have HC4 := Am H
  clear H
  go_enter Try.func3, Try.ntmps3
  go_upto_region 1 with (first | ((with_reducible refine gate_dst (N := 4) rfl ?_); (try (refine gate_guard (by rfl) ?_; dsimp only)); refine box_event ?hg (N := 4) ?hd (cs := #[.int .i64 a1_0, .int .i64 a1_1, .int .i64 a1_2, .int .i64 a1_3]) (t := 24) ?hr ?_; (case hd => rfl); (case hg => rfl); (case hr => first | (go_simp; done) | (go_simp; rfl)); intro gb150 hg w5 hbox hb; have n0_ := Am (Kd.V_below (Kd.V_elderB (by (with_reducible repeat (first | apply Kd.V_alloc | apply Kd.V_drewN | apply Kd.V_drew)); exact HO0.out) gb150 (Nat.le_of_eq hg.symm)) hb); have n1_ := Am (below_step (by repeat (first | (with_reducible first | exact HB.out | apply below_alloc | apply pw_below_drewN | apply below_drew1) | exact HB.out)) hb); have n2_ := Am (hbox); have n3_ := Am ((by rw [hg]; exact (below_size (by repeat (first | (with_reducible first | exact HB.out | apply below_alloc | apply pw_below_drewN | apply below_drew1) | exact HB.out))) : w.heap.size ≤ gb150)); have n4_ := Am ((by rw [hg]; exact (below_size (by repeat (first | (with_reducible first | exact HB.out | apply below_alloc | apply pw_below_drewN | apply below_drew1) | exact HB.out))) : w.heap.size ≤ gb150)); clear HO0; clear HB; have HO0 := n0_; have HB := n1_; have BK150 := n2_; have GW150 := n3_; have GE150 := n4_; clear n0_ n1_ n2_ n3_ n4_; clear hb hbox hg))
  (try simp only [Act.put, List.setIfInBounds_toArray, List.set_cons_zero, List.set_cons_succ])
  go_cut [25] (fun v25 wc => ∃ (kq : Nat) (x25_3 : Bool), v25 = .bool x25_3 ∧ Aside0 (switchboardlaw12_LedgerExact.j0 kq l0 l2 x25_3 a1_0 a1_1 a1_2 a1_3 = some true) ∧ Aside0 (kq ≤ k) ∧ Aside0 (Kd.V k29 29 wc w.heap.size (fun k_ => (P0_ k_ ∨ w.heap.size ≤ k_) ∧ k_ ≠ gb150) (.slice A0 l0.length c0) l0) ∧ Aside0 (wc.heap[gb150]? = some (.cells #[.int .i64 a1_0, .int .i64 a1_1, .int .i64 a1_2, .int .i64 a1_3] 24 (0, 0))) ∧ Aside0 (Below w.heap.size w wc))
  case first =>
   have H := HC4.out
   clear HC4
   by_cases c6 : (l0.length : Int) > 60
   ·
    rw [if_pos c6] at H
    have c6b0 : decide (60 < (l0.length : Int)) = true := decide_eq_true c6
    have c6b1 : decide (60 < l0.length) = true := decide_eq_true (by omega)
    clear c6
    (first | rw [c6b0] | (simp only [i64_w, i32_w]; rw [c6b0]) | skip)
    have H' := Am H
    clear H
    go_wp2
    go_meet
    case rel => exact ⟨_, (true), (by first | rfl | (simp; done) | (simp [*]; done)), H', ⟨by first | omega | exact Nat.le_refl _⟩, ⟨by (with_reducible repeat (first | apply Kd.V_alloc | apply Kd.V_drewN | apply Kd.V_drew)); exact HO0.out⟩, ⟨by (with_reducible repeat (first | refine blk_drewN ?_ _ | refine blk_drew ?_ | refine blk_alloc ?_ _)); exact BK150.out⟩, ⟨by repeat (first | (with_reducible first | exact HB.out | apply below_alloc | apply pw_below_drewN | apply below_drew1 | refine below_set ?_ GE150.out) | exact HB.out)⟩⟩
   ·
    rw [if_neg c6] at H
    have c6b0 : decide (60 < (l0.length : Int)) = false := decide_eq_false c6
    have c6b1 : decide (60 < l0.length) = false := decide_eq_false (by omega)
    clear c6
    (first | rw [c6b0] | (simp only [i64_w, i32_w]; rw [c6b0]) | skip)
    have H' := Am H
    clear H
    go_wp2
    go_meet
    case rel => exact ⟨_, (decide ((l2.length : Int) > 30)), (by first | rfl | (simp; done) | (simp [*]; done)), H', ⟨by first | omega | exact Nat.le_refl _⟩, ⟨by (with_reducible repeat (first | apply Kd.V_alloc | apply Kd.V_drewN | apply Kd.V_drew)); exact HO0.out⟩, ⟨by (with_reducible repeat (first | refine blk_drewN ?_ _ | refine blk_drew ?_ | refine blk_alloc ?_ _)); exact BK150.out⟩, ⟨by repeat (first | (with_reducible first | exact HB.out | apply below_alloc | apply pw_below_drewN | apply below_drew1 | refine below_set ?_ GE150.out) | exact HB.out)⟩⟩
  case rest =>
   clear HC4
   try clear c2
   try clear p2
   try clear c3
   try clear c6
   try clear c6b0
   try clear c6b1
   obtain ⟨kq, x25_3, rfl, HA, HJ3, HO_0, BK150, HB⟩ := hcut
   cases kq with
   | zero => exact absurd HA.out (by simp [switchboardlaw12_LedgerExact.j0])
   | succ kj3 =>
    have H := HA.out
    clear HA
    simp only [switchboardlaw12_LedgerExact.j0] at H
    by_cases c7 : x25_3 = true
    ·
     subst c7
     have H1 : ((switchboardlaw12_awake.f).bind fun t151 => (some t151)) = some true := by rw [if_pos rfl] at H; exact H
     clear H
     have H := H1
     clear H1
     replace H := Option.bind_eq_some_iff.mp H
     obtain ⟨t151, A80, H⟩ := H
     replace H : (some t151) = some true := H
     have A8 := Am A80
     clear A80
     have hr_ := Am (Option.some.inj H)
     go_wp2_with (first | ((with_reducible refine gate_callee (f := 7) rfl ?_); refine goesL_ (some 26) rfl rfl Try.func7 (by kernel_rfl) rfl #[] rfl (by (try simp only [List.map_toArray, List.map_cons, List.map_nil]); first | done | rfl | (simp only [List.length_drop, List.length_take]; rfl)) ?_; (with_reducible refine (switchboardlaw12_awake.calls  t151 _ A8.out).mono ?_); rintro e w9 ⟨rfl, hb⟩; refine ⟨_, rfl, ?_⟩; have n0_ := Am (Kd.V_below (by (with_reducible repeat (first | apply Kd.V_alloc | apply Kd.V_drewN | apply Kd.V_drew)); exact HO_0.out) hb); have n1_ := Am (blk_below (g := gb150) (o := .cells #[.int .i64 a1_0, .int .i64 a1_1, .int .i64 a1_2, .int .i64 a1_3] 24 (0, 0)) (by (with_reducible repeat (first | refine blk_drewN ?_ _ | refine blk_drew ?_ | refine blk_alloc ?_ _)); exact BK150.out) hb); have n2_ := Am (below_step (by repeat (first | (with_reducible first | exact HB.out | apply below_alloc | apply pw_below_drewN | apply below_drew1 | refine below_set ?_ GE150.out) | exact HB.out)) hb); clear HO_0; clear BK150; clear HB; have HO_0 := n0_; have BK150 := n1_; have HB := n2_; clear n0_ n1_ n2_; (try clear hb); (try clear hb2); (try clear hk); (try clear hi)))
     go_ret
     exact ⟨by first | rfl | exact congrArg (fun b_ => Ending.returned (Value.bool b_)) hr_.out | exact congrArg (fun b_ => Ending.returned (Value.bool b_)) hr_.out | (simp [errW_none, errW_some] <;> rfl) | (simp [*, errW_none, errW_some] <;> rfl), by repeat (first | (with_reducible first | exact HB.out | apply below_alloc | apply pw_below_drewN | apply below_drew1 | refine below_set ?_ GE150.out) | exact HB.out)⟩
    ·
     replace c7 := Bool.eq_false_iff.mpr c7
     subst c7
     have H1 : (switchboardlaw12_LedgerExact.l0 kj3 l0 l2 ([] : List (S32)) l0 (l0.length : Int) 0 a1_0 a1_1 a1_2 a1_3) = some true := by rw [if_neg (show ¬ (false = true) by decide)] at H; exact H
     clear H
     have H := H1
     clear H1
     have H' := Am H
     clear H
     go_wp2
     go_loopg [7, 29] kj3 (fun kq v7 v29 w' => ∃ (x7_2 : List (S32)) (x29_2 : Int), v29 = .int .i64 x29_2 ∧ Aside0 (switchboardlaw12_LedgerExact.l0 kq l0 l2 x7_2 l0 (l0.length : Int) x29_2 a1_0 a1_1 a1_2 a1_3 = some true) ∧ Aside0 (kq ≤ kj3) ∧ Aside0 (Kd.V k29 29 w' w.heap.size (fun k_ => (P0_ k_ ∨ w.heap.size ≤ k_) ∧ some k_ ≠ (v7 : Value).ownBlock ∧ k_ ≠ gb150) (.slice A0 l0.length c0) l0) ∧ Aside0 (Kd.N k32 32 w' w.heap.size (fun k_ => (P0_ k_ ∨ w.heap.size ≤ k_) ∧ k_ ≠ gb150) v7 x7_2) ∧ Aside0 (Kd.V k29 29 w' w.heap.size (fun k_ => (P0_ k_ ∨ w.heap.size ≤ k_) ∧ some k_ ≠ (v7 : Value).ownBlock ∧ k_ ≠ gb150) (.slice A0 l0.length c0) l0) ∧ Aside0 (w'.heap[gb150]? = some (.cells #[.int .i64 a1_0, .int .i64 a1_1, .int .i64 a1_2, .int .i64 a1_3] 24 (0, 0))) ∧ Aside0 (Below w.heap.size w w'))
     case atStart => exact ⟨(([] : List (S32))), (0), (by first | rfl | (simp; done) | (simp [*]; done)), H', ⟨Nat.le_refl _⟩, ⟨by (with_reducible repeat (first | apply Kd.V_alloc | apply Kd.V_drewN | apply Kd.V_drew)); exact Kd.V_mono HO_0.out (fun _ hk => ⟨hk.1, ⟨(by simp [Value.ownBlock]), hk.2⟩⟩)⟩, ⟨by first | exact Kd.S_nil _ _ _ _ _ | exact Kd.N_nil _ _ _ _ _ | exact Kd.V_nil _ _ _ _ _ | exact Kd.Q_nil _ _ _ _ _ | exact Kd.R_nil _ _ _ _ _⟩, ⟨by (with_reducible repeat (first | apply Kd.V_alloc | apply Kd.V_drewN | apply Kd.V_drew)); exact Kd.V_mono HO_0.out (fun _ hk => ⟨hk.1, ⟨(by simp [Value.ownBlock]), hk.2⟩⟩)⟩, ⟨by (with_reducible repeat (first | refine blk_drewN ?_ _ | refine blk_drew ?_ | refine blk_alloc ?_ _)); exact BK150.out⟩, ⟨by repeat (first | (with_reducible first | exact HB.out | apply below_alloc | apply pw_below_drewN | apply below_drew1 | refine below_set ?_ GE150.out) | exact HB.out)⟩⟩
     case round =>
      clear H'
      try clear c2
      try clear p2
      try clear c3
      try clear c6
      try clear c6b0
      try clear c6b1
      try clear c7
      try clear p2
      obtain ⟨x7_2, x29_2, rfl, HA, HK2, HO_0, HO_7, HO_27, BK150, HB⟩ := hrel
      cases gk with
      | zero => exact absurd HA.out (by simp [switchboardlaw12_LedgerExact.l0])
      | succ k2 =>
       have H := HA.out
       clear HA
       simp only [switchboardlaw12_LedgerExact.l0] at H
       by_cases c10 : x29_2 < (l0.length : Int)
       ·
        rw [if_pos c10] at H
        have c10b0 : decide (x29_2 < (l0.length : Int)) = true := decide_eq_true c10
        clear c10
        by_cases c11 : 0 ≤ x29_2
        ·
         rw [if_pos c11] at H
         have c11b0 : decide (0 ≤ x29_2) = true := decide_eq_true c11
         clear c11
         by_cases c12 : x29_2 < (l0.length : Int)
         ·
          rw [if_pos c12] at H
          have c12b0 : decide (x29_2 < (l0.length : Int)) = true := decide_eq_true c12
          clear c12
          by_cases c13 : (((rd_T29 l0 x29_2).f1).length : Int) > 30
          ·
           rw [if_pos c13] at H
           have c13b0 : decide (30 < (((rd_T29 l0 x29_2).f1).length : Int)) = true := decide_eq_true c13
           have c13b1 : decide (30 < ((rd_T29 l0 x29_2).f1).length) = true := decide_eq_true (by omega)
           clear c13
           replace H := Option.bind_eq_some_iff.mp H
           obtain ⟨t154, A140, H⟩ := H
           replace H : (some t154) = some true := H
           have A14 := Am A140
           clear A140
           have hr_ := Am (Option.some.inj H)
           have p152 : 0 ≤ (x29_2 : Int) := of_decide_eq_true (by first | (with_reducible assumption) | assumption)
           have q152 : x29_2 < (l0.length : Int) := of_decide_eq_true (by first | (with_reducible assumption) | assumption)
           obtain ⟨ad152, A152_4, c152_4, e152, hx152_0, hx152_1, hx152_2, hx152_3, hx152_4, hl152_4, hi152_4⟩ := at_T29 (Kd.V_reads' HO_27.out).2.2 x29_2 p152 q152
           cases e152
           obtain ⟨ce152, hce152, hMe152, hcc152⟩ := Kd.V_get HO_27.out z29 x29_2 p152 (by first | exact q152 | exact of_decide_eq_true (by first | (with_reducible assumption) | assumption) | (have e_ := (Kd.V_reads' HO_27.out).1; omega))
           obtain ⟨ua152_4, uc152_4, rfl, ul152_4, ge152_4⟩ := k29_openF hMe152
           have hv152_4 := hcc152 4 _ rfl
           rw [add_field _ _ 4 (by omega)] at hv152_4
           replace hv152_4 := Option.some.inj (hv152_4.symm.trans hx152_4)
           injection hv152_4 with hva_ hvn_ hvc_
           rw [hva_] at ge152_4
           rw [hvc_] at ul152_4
           have HL152_4 := Am (show Kd.V (Kd.int .i64) 3 _ w.heap.size _ _ ((rd_T29 l0 x29_2).f1) from Kd.V_mk ul152_4 ge152_4)
           clear hva_ hvn_ hvc_ ge152_4 ul152_4
           clear hcc152 hce152
           have HR152_4 := Am hi152_4
           have HC152_4 := Am hl152_4
           clear hi152_4 hl152_4
           replace p152 := eq_true p152
           replace q152 := eq_true q152
           go_wp2_with (first | ((with_reducible refine gate_dst (N := 9) rfl ?_); (try (refine gate_guard (by rfl) ?_; dsimp only)); refine box_event ?hg (N := 9) ?hd (cs := #[.int .i64 0, .int .i64 0, .int .i64 0, .int .i64 0, .slice none 0 0]) (t := 29) ?hr ?_; (case hd => rfl); (case hg => rfl); (case hr => first | (go_simp; done) | (go_simp; rfl)); intro gb153 hg w15 hbox hb; have n0_ := Am (Kd.V_below (Kd.V_elderB (by (with_reducible repeat (first | apply Kd.V_alloc | apply Kd.V_drewN | apply Kd.V_drew)); exact HO_0.out) gb153 (Nat.le_of_eq hg.symm)) hb); have n1_ := Am (Kd.N_below (Kd.N_elderB (by (with_reducible repeat (first | apply Kd.N_alloc | apply Kd.N_drewN | apply Kd.N_drew)); exact HO_7.out) gb153 (Nat.le_of_eq hg.symm)) hb); have n2_ := Am (Kd.V_below (Kd.V_elderB (by (with_reducible repeat (first | apply Kd.V_alloc | apply Kd.V_drewN | apply Kd.V_drew)); exact HO_27.out) gb153 (Nat.le_of_eq hg.symm)) hb); have n3_ := Am (Kd.V_below (Kd.V_elderB (by (with_reducible repeat (first | apply Kd.V_alloc | apply Kd.V_drewN | apply Kd.V_drew)); exact HL152_4.out) gb153 (Nat.le_of_eq hg.symm)) hb); have n4_ := Am (blk_below (g := gb150) (o := .cells #[.int .i64 a1_0, .int .i64 a1_1, .int .i64 a1_2, .int .i64 a1_3] 24 (0, 0)) (by (with_reducible repeat (first | refine blk_drewN ?_ _ | refine blk_drew ?_ | refine blk_alloc ?_ _)); exact BK150.out) hb); have n5_ := Am (Kd.C_below (by repeat (first | (with_reducible exact HR152_4.out) | (with_reducible refine Kd.C_alloc ?_ _) | (with_reducible refine Kd.C_drewN ?_ _) | (with_reducible refine Kd.C_drew ?_) | exact HR152_4.out)) hb); have n6_ := Am (below_step (by repeat (first | (with_reducible first | exact HB.out | apply below_alloc | apply pw_below_drewN | apply below_drew1 | refine below_set ?_ GE150.out) | exact HB.out)) hb); have n7_ := Am (hbox); have n8_ := Am ((by rw [hg]; exact (below_size (by repeat (first | (with_reducible first | exact HB.out | apply below_alloc | apply pw_below_drewN | apply below_drew1 | refine below_set ?_ GE150.out) | exact HB.out))) : w.heap.size ≤ gb153)); have n9_ := Am ((by rw [hg]; exact (below_size (by repeat (first | (with_reducible first | exact HB.out | apply below_alloc | apply pw_below_drewN | apply below_drew1 | refine below_set ?_ GE150.out) | exact HB.out))) : w.heap.size ≤ gb153)); have n10_ := Am ((by rw [hg]; exact Nat.ne_of_lt (blk_lt (g := gb150) (o := .cells #[.int .i64 a1_0, .int .i64 a1_1, .int .i64 a1_2, .int .i64 a1_3] 24 (0, 0)) (by (with_reducible repeat (first | refine blk_drewN ?_ _ | refine blk_drew ?_ | refine blk_alloc ?_ _)); exact BK150.out)) : gb150 ≠ gb153)); have n11_ := Am ((by rw [hg]; exact Nat.ne_of_gt (blk_lt (g := gb150) (o := .cells #[.int .i64 a1_0, .int .i64 a1_1, .int .i64 a1_2, .int .i64 a1_3] 24 (0, 0)) (by (with_reducible repeat (first | refine blk_drewN ?_ _ | refine blk_drew ?_ | refine blk_alloc ?_ _)); exact BK150.out)) : gb153 ≠ gb150)); clear HO_0; clear HO_7; clear HO_27; clear HL152_4; clear BK150; clear HR152_4; clear HB; have HO_0 := n0_; have HO_7 := n1_; have HO_27 := n2_; have HL152_4 := n3_; have BK150 := n4_; have HR152_4 := n5_; have HB := n6_; have BK153 := n7_; have GW153 := n8_; have GE153 := n9_; have NB150_153 := n10_; have NB153_150 := n11_; clear n0_ n1_ n2_ n3_ n4_ n5_ n6_ n7_ n8_ n9_ n10_ n11_; clear hb hbox hg; have hnb16 := NB153_150.out; have hnc16 := NB150_153.out; have hcz17_0 : w15.cell? ⟨gb153, 0, none⟩ = some (.int .i64 0) := (blk_cell BK153.out 0).trans rfl; have hcz17_1 : w15.cell? ⟨gb153, 1, none⟩ = some (.int .i64 0) := (blk_cell BK153.out 1).trans rfl; have hcz17_2 : w15.cell? ⟨gb153, 2, none⟩ = some (.int .i64 0) := (blk_cell BK153.out 2).trans rfl; have hcz17_3 : w15.cell? ⟨gb153, 3, none⟩ = some (.int .i64 0) := (blk_cell BK153.out 3).trans rfl; have hcz17_4 : w15.cell? ⟨gb153, 4, none⟩ = some (.slice none 0 0) := (blk_cell BK153.out 4).trans rfl; have hfz17_0 := blk_frozen BK153.out 0; have hfz17_1 := blk_frozen BK153.out 1; have hfz17_2 := blk_frozen BK153.out 2; have hfz17_3 := blk_frozen BK153.out 3; have hfz17_4 := blk_frozen BK153.out 4) | ((with_reducible refine gate_callee (f := 7) rfl ?_); refine goesL_ (some 37) rfl rfl Try.func7 (by kernel_rfl) rfl #[] rfl (by (try simp only [List.map_toArray, List.map_cons, List.map_nil]); first | done | rfl | (simp only [List.length_drop, List.length_take]; rfl)) ?_; (with_reducible refine (switchboardlaw12_awake.calls  t154 _ A14.out).mono ?_); rintro e w18 ⟨rfl, hb⟩; refine ⟨_, rfl, ?_⟩; have n0_ := Am (Kd.V_below (by (with_reducible repeat (first | apply Kd.V_alloc | apply Kd.V_drewN | apply Kd.V_drew)); exact (Kd.V_mono (Kd.V_far (p := ⟨gb153, 4, none⟩) (Kd.V_far (p := ⟨gb153, 3, none⟩) (Kd.V_far (p := ⟨gb153, 2, none⟩) (Kd.V_far (p := ⟨gb153, 1, none⟩) (Kd.V_far (p := ⟨gb153, 0, none⟩) (Kd.V_mono HO_0.out (fun k_ hk => (⟨hk, hk.2⟩ : _ ∧ k_ ≠ gb153))) (fun _ hk => hk.2) (.int .i64 ((rd_T29 l0 x29_2).f0.f0))) (fun _ hk => hk.2) (.int .i64 ((rd_T29 l0 x29_2).f0.f1))) (fun _ hk => hk.2) (.int .i64 ((rd_T29 l0 x29_2).f0.f2))) (fun _ hk => hk.2) (.int .i64 ((rd_T29 l0 x29_2).f0.f3))) (fun _ hk => hk.2) (.slice A152_4 ((rd_T29 l0 x29_2).f1).length c152_4)) (fun _ h_ => h_.1))) hb); have n1_ := Am (Kd.N_below (by (with_reducible repeat (first | apply Kd.N_alloc | apply Kd.N_drewN | apply Kd.N_drew)); exact (Kd.N_mono (Kd.N_far (p := ⟨gb153, 4, none⟩) (Kd.N_far (p := ⟨gb153, 3, none⟩) (Kd.N_far (p := ⟨gb153, 2, none⟩) (Kd.N_far (p := ⟨gb153, 1, none⟩) (Kd.N_far (p := ⟨gb153, 0, none⟩) (Kd.N_mono HO_7.out (fun k_ hk => (⟨hk, hk.2⟩ : _ ∧ k_ ≠ gb153))) (fun _ hk => hk.2) (.int .i64 ((rd_T29 l0 x29_2).f0.f0))) (fun _ hk => hk.2) (.int .i64 ((rd_T29 l0 x29_2).f0.f1))) (fun _ hk => hk.2) (.int .i64 ((rd_T29 l0 x29_2).f0.f2))) (fun _ hk => hk.2) (.int .i64 ((rd_T29 l0 x29_2).f0.f3))) (fun _ hk => hk.2) (.slice A152_4 ((rd_T29 l0 x29_2).f1).length c152_4)) (fun _ h_ => h_.1))) hb); have n2_ := Am (Kd.V_below (by (with_reducible repeat (first | apply Kd.V_alloc | apply Kd.V_drewN | apply Kd.V_drew)); exact (Kd.V_mono (Kd.V_far (p := ⟨gb153, 4, none⟩) (Kd.V_far (p := ⟨gb153, 3, none⟩) (Kd.V_far (p := ⟨gb153, 2, none⟩) (Kd.V_far (p := ⟨gb153, 1, none⟩) (Kd.V_far (p := ⟨gb153, 0, none⟩) (Kd.V_mono HO_27.out (fun k_ hk => (⟨hk, hk.2⟩ : _ ∧ k_ ≠ gb153))) (fun _ hk => hk.2) (.int .i64 ((rd_T29 l0 x29_2).f0.f0))) (fun _ hk => hk.2) (.int .i64 ((rd_T29 l0 x29_2).f0.f1))) (fun _ hk => hk.2) (.int .i64 ((rd_T29 l0 x29_2).f0.f2))) (fun _ hk => hk.2) (.int .i64 ((rd_T29 l0 x29_2).f0.f3))) (fun _ hk => hk.2) (.slice A152_4 ((rd_T29 l0 x29_2).f1).length c152_4)) (fun _ h_ => h_.1))) hb); have n3_ := Am (Kd.V_below (by (with_reducible repeat (first | apply Kd.V_alloc | apply Kd.V_drewN | apply Kd.V_drew)); exact (Kd.V_mono (Kd.V_far (p := ⟨gb153, 4, none⟩) (Kd.V_far (p := ⟨gb153, 3, none⟩) (Kd.V_far (p := ⟨gb153, 2, none⟩) (Kd.V_far (p := ⟨gb153, 1, none⟩) (Kd.V_far (p := ⟨gb153, 0, none⟩) (Kd.V_mono HL152_4.out (fun k_ hk => (⟨hk, hk.2⟩ : _ ∧ k_ ≠ gb153))) (fun _ hk => hk.2) (.int .i64 ((rd_T29 l0 x29_2).f0.f0))) (fun _ hk => hk.2) (.int .i64 ((rd_T29 l0 x29_2).f0.f1))) (fun _ hk => hk.2) (.int .i64 ((rd_T29 l0 x29_2).f0.f2))) (fun _ hk => hk.2) (.int .i64 ((rd_T29 l0 x29_2).f0.f3))) (fun _ hk => hk.2) (.slice A152_4 ((rd_T29 l0 x29_2).f1).length c152_4)) (fun _ h_ => h_.1))) hb); have n4_ := Am (blk_below (g := gb150) (o := .cells #[.int .i64 a1_0, .int .i64 a1_1, .int .i64 a1_2, .int .i64 a1_3] 24 (0, 0)) (by (with_reducible repeat (first | refine blk_drewN ?_ _ | refine blk_drew ?_ | refine blk_alloc ?_ _)); refine blk_far ?_ NB150_153.out _; (with_reducible repeat (first | refine blk_drewN ?_ _ | refine blk_drew ?_ | refine blk_alloc ?_ _)); refine blk_far ?_ NB150_153.out _; (with_reducible repeat (first | refine blk_drewN ?_ _ | refine blk_drew ?_ | refine blk_alloc ?_ _)); refine blk_far ?_ NB150_153.out _; (with_reducible repeat (first | refine blk_drewN ?_ _ | refine blk_drew ?_ | refine blk_alloc ?_ _)); refine blk_far ?_ NB150_153.out _; (with_reducible repeat (first | refine blk_drewN ?_ _ | refine blk_drew ?_ | refine blk_alloc ?_ _)); refine blk_far ?_ NB150_153.out _; (with_reducible repeat (first | refine blk_drewN ?_ _ | refine blk_drew ?_ | refine blk_alloc ?_ _)); exact BK150.out) hb); have n5_ := Am (Kd.C_below ((Kd.V_reads' (by (with_reducible repeat (first | apply Kd.V_alloc | apply Kd.V_drewN | apply Kd.V_drew)); exact (Kd.V_mono (Kd.V_far (p := ⟨gb153, 4, none⟩) (Kd.V_far (p := ⟨gb153, 3, none⟩) (Kd.V_far (p := ⟨gb153, 2, none⟩) (Kd.V_far (p := ⟨gb153, 1, none⟩) (Kd.V_far (p := ⟨gb153, 0, none⟩) (Kd.V_mono HL152_4.out (fun k_ hk => (⟨hk, hk.2⟩ : _ ∧ k_ ≠ gb153))) (fun _ hk => hk.2) (.int .i64 ((rd_T29 l0 x29_2).f0.f0))) (fun _ hk => hk.2) (.int .i64 ((rd_T29 l0 x29_2).f0.f1))) (fun _ hk => hk.2) (.int .i64 ((rd_T29 l0 x29_2).f0.f2))) (fun _ hk => hk.2) (.int .i64 ((rd_T29 l0 x29_2).f0.f3))) (fun _ hk => hk.2) (.slice A152_4 ((rd_T29 l0 x29_2).f1).length c152_4)) (fun _ h_ => h_.1)))).2.2) hb); have n6_ := Am (blk_below (g := gb153) (o := .cells #[.int .i64 ((rd_T29 l0 x29_2).f0.f0), .int .i64 ((rd_T29 l0 x29_2).f0.f1), .int .i64 ((rd_T29 l0 x29_2).f0.f2), .int .i64 ((rd_T29 l0 x29_2).f0.f3), .slice A152_4 ((rd_T29 l0 x29_2).f1).length c152_4] 29 (0, 0)) (by (with_reducible repeat (first | refine blk_drewN ?_ _ | refine blk_drew ?_ | refine blk_alloc ?_ _)); refine blk_put (cs := #[.int .i64 ((rd_T29 l0 x29_2).f0.f0), .int .i64 ((rd_T29 l0 x29_2).f0.f1), .int .i64 ((rd_T29 l0 x29_2).f0.f2), .int .i64 ((rd_T29 l0 x29_2).f0.f3), .slice none 0 0]) ?_ 4 _ rfl; (with_reducible repeat (first | refine blk_drewN ?_ _ | refine blk_drew ?_ | refine blk_alloc ?_ _)); refine blk_put (cs := #[.int .i64 ((rd_T29 l0 x29_2).f0.f0), .int .i64 ((rd_T29 l0 x29_2).f0.f1), .int .i64 ((rd_T29 l0 x29_2).f0.f2), .int .i64 0, .slice none 0 0]) ?_ 3 _ rfl; (with_reducible repeat (first | refine blk_drewN ?_ _ | refine blk_drew ?_ | refine blk_alloc ?_ _)); refine blk_put (cs := #[.int .i64 ((rd_T29 l0 x29_2).f0.f0), .int .i64 ((rd_T29 l0 x29_2).f0.f1), .int .i64 0, .int .i64 0, .slice none 0 0]) ?_ 2 _ rfl; (with_reducible repeat (first | refine blk_drewN ?_ _ | refine blk_drew ?_ | refine blk_alloc ?_ _)); refine blk_put (cs := #[.int .i64 ((rd_T29 l0 x29_2).f0.f0), .int .i64 0, .int .i64 0, .int .i64 0, .slice none 0 0]) ?_ 1 _ rfl; (with_reducible repeat (first | refine blk_drewN ?_ _ | refine blk_drew ?_ | refine blk_alloc ?_ _)); refine blk_put (cs := #[.int .i64 0, .int .i64 0, .int .i64 0, .int .i64 0, .slice none 0 0]) ?_ 0 _ rfl; (with_reducible repeat (first | refine blk_drewN ?_ _ | refine blk_drew ?_ | refine blk_alloc ?_ _)); exact BK153.out) hb); have n7_ := Am (below_step (by repeat (first | (with_reducible first | exact HB.out | apply below_alloc | apply pw_below_drewN | apply below_drew1 | refine below_set ?_ GE150.out | refine below_set ?_ GE153.out) | exact HB.out)) hb); clear HO_0; clear HO_7; clear HO_27; clear HL152_4; clear BK150; clear HR152_4; clear BK153; clear HB; have HO_0 := n0_; have HO_7 := n1_; have HO_27 := n2_; have HL152_4 := n3_; have BK150 := n4_; have HR152_4 := n5_; have BK153 := n6_; have HB := n7_; clear n0_ n1_ n2_ n3_ n4_ n5_ n6_ n7_; (try clear hb); (try clear hb2); (try clear hk); (try clear hi)))
           go_ret
           exact ⟨by first | rfl | exact congrArg (fun b_ => Ending.returned (Value.bool b_)) hr_.out | exact congrArg (fun b_ => Ending.returned (Value.bool b_)) hr_.out | (simp [errW_none, errW_some] <;> rfl) | (simp [*, errW_none, errW_some] <;> rfl), by repeat (first | (with_reducible first | exact HB.out | apply below_alloc | apply pw_below_drewN | apply below_drew1 | refine below_set ?_ GE150.out | refine below_set ?_ GE153.out) | exact HB.out)⟩
          ·
           rw [if_neg c13] at H
           have c13b0 : decide (30 < (((rd_T29 l0 x29_2).f1).length : Int)) = false := decide_eq_false c13
           have c13b1 : decide (30 < ((rd_T29 l0 x29_2).f1).length) = false := decide_eq_false (by omega)
           clear c13
           by_cases c19 : x7_2.length < 2513169434916
           ·
            rw [if_pos c19] at H
            have LMc19 := Am c19
            clear c19
            obtain ⟨y155, hy155⟩ : ∃ y_ : List (S32), y_ = (x7_2 ++ [(⟨(⟨(rd_T29 l0 x29_2).f0.f0, (rd_T29 l0 x29_2).f0.f1, (rd_T29 l0 x29_2).f0.f2, (rd_T29 l0 x29_2).f0.f3⟩ : S30), (rd_T29 l0 x29_2).f1⟩ : S32)]) := ⟨_, rfl⟩
            replace H : (switchboardlaw12_LedgerExact.l0 k2 l0 l2 y155 l0 (l0.length : Int) (wrap64 (x29_2 + 1)) a1_0 a1_1 a1_2 a1_3) = some true := by first | (rw [hy155]; with_reducible exact H) | (have H2_ := (Option.bind_some _ _).symm.trans H; rw [hy155]; with_reducible exact H2_) | (have H2_ := (Option.bind_some _ _).symm.trans H; with_reducible exact H2_) | with_reducible exact H | (rw [hy155]; exact H) | exact H
            have Ny155 := Am hy155
            clear hy155
            have H' := Am H
            clear H
            have p152 : 0 ≤ (x29_2 : Int) := of_decide_eq_true (by first | (with_reducible assumption) | assumption)
            have q152 : x29_2 < (l0.length : Int) := of_decide_eq_true (by first | (with_reducible assumption) | assumption)
            obtain ⟨ad152, A152_4, c152_4, e152, hx152_0, hx152_1, hx152_2, hx152_3, hx152_4, hl152_4, hi152_4⟩ := at_T29 (Kd.V_reads' HO_27.out).2.2 x29_2 p152 q152
            cases e152
            obtain ⟨ce152, hce152, hMe152, hcc152⟩ := Kd.V_get HO_27.out z29 x29_2 p152 (by first | exact q152 | exact of_decide_eq_true (by first | (with_reducible assumption) | assumption) | (have e_ := (Kd.V_reads' HO_27.out).1; omega))
            obtain ⟨ua152_4, uc152_4, rfl, ul152_4, ge152_4⟩ := k29_openF hMe152
            have hv152_4 := hcc152 4 _ rfl
            rw [add_field _ _ 4 (by omega)] at hv152_4
            replace hv152_4 := Option.some.inj (hv152_4.symm.trans hx152_4)
            injection hv152_4 with hva_ hvn_ hvc_
            rw [hva_] at ge152_4
            rw [hvc_] at ul152_4
            have HL152_4 := Am (show Kd.V (Kd.int .i64) 3 _ w.heap.size _ _ ((rd_T29 l0 x29_2).f1) from Kd.V_mk ul152_4 ge152_4)
            clear hva_ hvn_ hvc_ ge152_4 ul152_4
            clear hcc152 hce152
            have HR152_4 := Am hi152_4
            have HC152_4 := Am hl152_4
            clear hi152_4 hl152_4
            replace p152 := eq_true p152
            replace q152 := eq_true q152
            go_wp2_with (first | ((with_reducible refine gate_dst (N := 9) rfl ?_); (try (refine gate_guard (by rfl) ?_; dsimp only)); refine box_event ?hg (N := 9) ?hd (cs := #[.int .i64 0, .int .i64 0, .int .i64 0, .int .i64 0, .slice none 0 0]) (t := 29) ?hr ?_; (case hd => rfl); (case hg => rfl); (case hr => first | (go_simp; done) | (go_simp; rfl)); intro gb153 hg w20 hbox hb; have n0_ := Am (Kd.V_below (Kd.V_elderB (by (with_reducible repeat (first | apply Kd.V_alloc | apply Kd.V_drewN | apply Kd.V_drew)); exact HO_0.out) gb153 (Nat.le_of_eq hg.symm)) hb); have n1_ := Am (Kd.N_below (Kd.N_elderB (by (with_reducible repeat (first | apply Kd.N_alloc | apply Kd.N_drewN | apply Kd.N_drew)); exact HO_7.out) gb153 (Nat.le_of_eq hg.symm)) hb); have n2_ := Am (Kd.V_below (Kd.V_elderB (by (with_reducible repeat (first | apply Kd.V_alloc | apply Kd.V_drewN | apply Kd.V_drew)); exact HO_27.out) gb153 (Nat.le_of_eq hg.symm)) hb); have n3_ := Am (Kd.V_below (Kd.V_elderB (by (with_reducible repeat (first | apply Kd.V_alloc | apply Kd.V_drewN | apply Kd.V_drew)); exact HL152_4.out) gb153 (Nat.le_of_eq hg.symm)) hb); have n4_ := Am (blk_below (g := gb150) (o := .cells #[.int .i64 a1_0, .int .i64 a1_1, .int .i64 a1_2, .int .i64 a1_3] 24 (0, 0)) (by (with_reducible repeat (first | refine blk_drewN ?_ _ | refine blk_drew ?_ | refine blk_alloc ?_ _)); exact BK150.out) hb); have n5_ := Am (Kd.C_below (by repeat (first | (with_reducible exact HR152_4.out) | (with_reducible refine Kd.C_alloc ?_ _) | (with_reducible refine Kd.C_drewN ?_ _) | (with_reducible refine Kd.C_drew ?_) | exact HR152_4.out)) hb); have n6_ := Am (below_step (by repeat (first | (with_reducible first | exact HB.out | apply below_alloc | apply pw_below_drewN | apply below_drew1 | refine below_set ?_ GE150.out) | exact HB.out)) hb); have n7_ := Am (hbox); have n8_ := Am ((by rw [hg]; exact (below_size (by repeat (first | (with_reducible first | exact HB.out | apply below_alloc | apply pw_below_drewN | apply below_drew1 | refine below_set ?_ GE150.out) | exact HB.out))) : w.heap.size ≤ gb153)); have n9_ := Am ((by rw [hg]; exact (below_size (by repeat (first | (with_reducible first | exact HB.out | apply below_alloc | apply pw_below_drewN | apply below_drew1 | refine below_set ?_ GE150.out) | exact HB.out))) : w.heap.size ≤ gb153)); have n10_ := Am ((by rw [hg]; exact Nat.ne_of_lt (blk_lt (g := gb150) (o := .cells #[.int .i64 a1_0, .int .i64 a1_1, .int .i64 a1_2, .int .i64 a1_3] 24 (0, 0)) (by (with_reducible repeat (first | refine blk_drewN ?_ _ | refine blk_drew ?_ | refine blk_alloc ?_ _)); exact BK150.out)) : gb150 ≠ gb153)); have n11_ := Am ((by rw [hg]; exact Nat.ne_of_gt (blk_lt (g := gb150) (o := .cells #[.int .i64 a1_0, .int .i64 a1_1, .int .i64 a1_2, .int .i64 a1_3] 24 (0, 0)) (by (with_reducible repeat (first | refine blk_drewN ?_ _ | refine blk_drew ?_ | refine blk_alloc ?_ _)); exact BK150.out)) : gb153 ≠ gb150)); clear HO_0; clear HO_7; clear HO_27; clear HL152_4; clear BK150; clear HR152_4; clear HB; have HO_0 := n0_; have HO_7 := n1_; have HO_27 := n2_; have HL152_4 := n3_; have BK150 := n4_; have HR152_4 := n5_; have HB := n6_; have BK153 := n7_; have GW153 := n8_; have GE153 := n9_; have NB150_153 := n10_; have NB153_150 := n11_; clear n0_ n1_ n2_ n3_ n4_ n5_ n6_ n7_ n8_ n9_ n10_ n11_; clear hb hbox hg; have hnb21 := NB153_150.out; have hnc21 := NB150_153.out; have hcz22_0 : w20.cell? ⟨gb153, 0, none⟩ = some (.int .i64 0) := (blk_cell BK153.out 0).trans rfl; have hcz22_1 : w20.cell? ⟨gb153, 1, none⟩ = some (.int .i64 0) := (blk_cell BK153.out 1).trans rfl; have hcz22_2 : w20.cell? ⟨gb153, 2, none⟩ = some (.int .i64 0) := (blk_cell BK153.out 2).trans rfl; have hcz22_3 : w20.cell? ⟨gb153, 3, none⟩ = some (.int .i64 0) := (blk_cell BK153.out 3).trans rfl; have hcz22_4 : w20.cell? ⟨gb153, 4, none⟩ = some (.slice none 0 0) := (blk_cell BK153.out 4).trans rfl; have hfz22_0 := blk_frozen BK153.out 0; have hfz22_1 := blk_frozen BK153.out 1; have hfz22_2 := blk_frozen BK153.out 2; have hfz22_3 := blk_frozen BK153.out 3; have hfz22_4 := blk_frozen BK153.out 4) | ((with_reducible refine gate_store (t := 29) (p := 9) rfl ?_); refine store_event (t := 29) (p := 9) (v := ?vo_w23) (w1 := (((((w20.setCell ⟨gb153, 0, none⟩ (.int .i64 ((rd_T29 l0 x29_2).f0.f0))).setCell ⟨gb153, 1, none⟩ (.int .i64 ((rd_T29 l0 x29_2).f0.f1))).setCell ⟨gb153, 2, none⟩ (.int .i64 ((rd_T29 l0 x29_2).f0.f2))).setCell ⟨gb153, 3, none⟩ (.int .i64 ((rd_T29 l0 x29_2).f0.f3))).setCell ⟨gb153, 4, none⟩ (.slice A152_4 ((rd_T29 l0 x29_2).f1).length c152_4))) ?hg ?ho ?hn ?hr ?_; (case ho => rfl); (case hg => rfl); (case hn => rfl); (case hr => first | (go_simp; done) | (go_simp; rfl)); intro w23 hw; have n0_ : Aside0 (Kd.V k29 29 w23 w.heap.size (fun k_ => (P0_ k_ ∨ w.heap.size ≤ k_) ∧ some k_ ≠ (u7 : Value).ownBlock ∧ k_ ≠ gb150 ∧ k_ ≠ gb153) (.slice (some ad152) l0.length c0) l0) := ⟨(by rw [hw]; exact (by (with_reducible repeat (first | apply Kd.V_alloc | apply Kd.V_drewN | apply Kd.V_drew)); exact Kd.V_mono (Kd.V_far (p := ⟨gb153, 4, none⟩) (Kd.V_far (p := ⟨gb153, 3, none⟩) (Kd.V_far (p := ⟨gb153, 2, none⟩) (Kd.V_far (p := ⟨gb153, 1, none⟩) (Kd.V_far (p := ⟨gb153, 0, none⟩) (Kd.V_mono HO_0.out (fun k_ hk => (⟨hk, hk.2⟩ : _ ∧ k_ ≠ gb153))) (fun _ hk => hk.2) (.int .i64 ((rd_T29 l0 x29_2).f0.f0))) (fun _ hk => hk.2) (.int .i64 ((rd_T29 l0 x29_2).f0.f1))) (fun _ hk => hk.2) (.int .i64 ((rd_T29 l0 x29_2).f0.f2))) (fun _ hk => hk.2) (.int .i64 ((rd_T29 l0 x29_2).f0.f3))) (fun _ hk => hk.2) (.slice A152_4 ((rd_T29 l0 x29_2).f1).length c152_4)) (fun _ hk => ⟨hk.1.1.1, ⟨hk.1.1.2.1, ⟨hk.1.1.2.2, hk.1.2⟩⟩⟩)))⟩; have n1_ : Aside0 (Kd.N k32 32 w23 w.heap.size (fun k_ => (P0_ k_ ∨ w.heap.size ≤ k_) ∧ k_ ≠ gb150 ∧ k_ ≠ gb153) u7 x7_2) := ⟨(by rw [hw]; exact (by (with_reducible repeat (first | apply Kd.N_alloc | apply Kd.N_drewN | apply Kd.N_drew)); exact Kd.N_mono (Kd.N_far (p := ⟨gb153, 4, none⟩) (Kd.N_far (p := ⟨gb153, 3, none⟩) (Kd.N_far (p := ⟨gb153, 2, none⟩) (Kd.N_far (p := ⟨gb153, 1, none⟩) (Kd.N_far (p := ⟨gb153, 0, none⟩) (Kd.N_mono HO_7.out (fun k_ hk => (⟨hk, hk.2⟩ : _ ∧ k_ ≠ gb153))) (fun _ hk => hk.2) (.int .i64 ((rd_T29 l0 x29_2).f0.f0))) (fun _ hk => hk.2) (.int .i64 ((rd_T29 l0 x29_2).f0.f1))) (fun _ hk => hk.2) (.int .i64 ((rd_T29 l0 x29_2).f0.f2))) (fun _ hk => hk.2) (.int .i64 ((rd_T29 l0 x29_2).f0.f3))) (fun _ hk => hk.2) (.slice A152_4 ((rd_T29 l0 x29_2).f1).length c152_4)) (fun _ hk => ⟨hk.1.1.1, ⟨hk.1.1.2, hk.1.2⟩⟩)))⟩; have n2_ : Aside0 (Kd.V k29 29 w23 w.heap.size (fun k_ => (P0_ k_ ∨ w.heap.size ≤ k_) ∧ some k_ ≠ (u7 : Value).ownBlock ∧ k_ ≠ gb150 ∧ k_ ≠ gb153) (.slice (some ad152) l0.length c0) l0) := ⟨(by rw [hw]; exact (by (with_reducible repeat (first | apply Kd.V_alloc | apply Kd.V_drewN | apply Kd.V_drew)); exact Kd.V_mono (Kd.V_far (p := ⟨gb153, 4, none⟩) (Kd.V_far (p := ⟨gb153, 3, none⟩) (Kd.V_far (p := ⟨gb153, 2, none⟩) (Kd.V_far (p := ⟨gb153, 1, none⟩) (Kd.V_far (p := ⟨gb153, 0, none⟩) (Kd.V_mono HO_27.out (fun k_ hk => (⟨hk, hk.2⟩ : _ ∧ k_ ≠ gb153))) (fun _ hk => hk.2) (.int .i64 ((rd_T29 l0 x29_2).f0.f0))) (fun _ hk => hk.2) (.int .i64 ((rd_T29 l0 x29_2).f0.f1))) (fun _ hk => hk.2) (.int .i64 ((rd_T29 l0 x29_2).f0.f2))) (fun _ hk => hk.2) (.int .i64 ((rd_T29 l0 x29_2).f0.f3))) (fun _ hk => hk.2) (.slice A152_4 ((rd_T29 l0 x29_2).f1).length c152_4)) (fun _ hk => ⟨hk.1.1.1, ⟨hk.1.1.2.1, ⟨hk.1.1.2.2, hk.1.2⟩⟩⟩)))⟩; have n3_ : Aside0 (Kd.V (Kd.int .i64) 3 w23 w.heap.size (fun k_ => (P0_ k_ ∨ w.heap.size ≤ k_) ∧ some k_ ≠ (u7 : Value).ownBlock ∧ k_ ≠ gb150 ∧ k_ ≠ gb153) (.slice A152_4 ((rd_T29 l0 x29_2).f1).length c152_4) ((rd_T29 l0 x29_2).f1)) := ⟨(by rw [hw]; exact (by (with_reducible repeat (first | apply Kd.V_alloc | apply Kd.V_drewN | apply Kd.V_drew)); exact Kd.V_mono (Kd.V_far (p := ⟨gb153, 4, none⟩) (Kd.V_far (p := ⟨gb153, 3, none⟩) (Kd.V_far (p := ⟨gb153, 2, none⟩) (Kd.V_far (p := ⟨gb153, 1, none⟩) (Kd.V_far (p := ⟨gb153, 0, none⟩) (Kd.V_mono HL152_4.out (fun k_ hk => (⟨hk, hk.2⟩ : _ ∧ k_ ≠ gb153))) (fun _ hk => hk.2) (.int .i64 ((rd_T29 l0 x29_2).f0.f0))) (fun _ hk => hk.2) (.int .i64 ((rd_T29 l0 x29_2).f0.f1))) (fun _ hk => hk.2) (.int .i64 ((rd_T29 l0 x29_2).f0.f2))) (fun _ hk => hk.2) (.int .i64 ((rd_T29 l0 x29_2).f0.f3))) (fun _ hk => hk.2) (.slice A152_4 ((rd_T29 l0 x29_2).f1).length c152_4)) (fun _ hk => ⟨hk.1.1.1, ⟨hk.1.1.2.1, ⟨hk.1.1.2.2, hk.1.2⟩⟩⟩)))⟩; have n4_ : Aside0 (w23.heap[gb150]? = some (.cells #[.int .i64 a1_0, .int .i64 a1_1, .int .i64 a1_2, .int .i64 a1_3] 24 (0, 0))) := ⟨(by rw [hw]; exact (by (with_reducible repeat (first | refine blk_drewN ?_ _ | refine blk_drew ?_ | refine blk_alloc ?_ _)); refine blk_far ?_ NB150_153.out _; (with_reducible repeat (first | refine blk_drewN ?_ _ | refine blk_drew ?_ | refine blk_alloc ?_ _)); refine blk_far ?_ NB150_153.out _; (with_reducible repeat (first | refine blk_drewN ?_ _ | refine blk_drew ?_ | refine blk_alloc ?_ _)); refine blk_far ?_ NB150_153.out _; (with_reducible repeat (first | refine blk_drewN ?_ _ | refine blk_drew ?_ | refine blk_alloc ?_ _)); refine blk_far ?_ NB150_153.out _; (with_reducible repeat (first | refine blk_drewN ?_ _ | refine blk_drew ?_ | refine blk_alloc ?_ _)); refine blk_far ?_ NB150_153.out _; (with_reducible repeat (first | refine blk_drewN ?_ _ | refine blk_drew ?_ | refine blk_alloc ?_ _)); exact BK150.out))⟩; have n5_ : Aside0 (w23.heap[gb153]? = some (.cells #[.int .i64 ((rd_T29 l0 x29_2).f0.f0), .int .i64 ((rd_T29 l0 x29_2).f0.f1), .int .i64 ((rd_T29 l0 x29_2).f0.f2), .int .i64 ((rd_T29 l0 x29_2).f0.f3), .slice A152_4 ((rd_T29 l0 x29_2).f1).length c152_4] 29 (0, 0))) := ⟨(by rw [hw]; exact (by (with_reducible repeat (first | refine blk_drewN ?_ _ | refine blk_drew ?_ | refine blk_alloc ?_ _)); refine blk_put (cs := #[.int .i64 ((rd_T29 l0 x29_2).f0.f0), .int .i64 ((rd_T29 l0 x29_2).f0.f1), .int .i64 ((rd_T29 l0 x29_2).f0.f2), .int .i64 ((rd_T29 l0 x29_2).f0.f3), .slice none 0 0]) ?_ 4 _ rfl; (with_reducible repeat (first | refine blk_drewN ?_ _ | refine blk_drew ?_ | refine blk_alloc ?_ _)); refine blk_put (cs := #[.int .i64 ((rd_T29 l0 x29_2).f0.f0), .int .i64 ((rd_T29 l0 x29_2).f0.f1), .int .i64 ((rd_T29 l0 x29_2).f0.f2), .int .i64 0, .slice none 0 0]) ?_ 3 _ rfl; (with_reducible repeat (first | refine blk_drewN ?_ _ | refine blk_drew ?_ | refine blk_alloc ?_ _)); refine blk_put (cs := #[.int .i64 ((rd_T29 l0 x29_2).f0.f0), .int .i64 ((rd_T29 l0 x29_2).f0.f1), .int .i64 0, .int .i64 0, .slice none 0 0]) ?_ 2 _ rfl; (with_reducible repeat (first | refine blk_drewN ?_ _ | refine blk_drew ?_ | refine blk_alloc ?_ _)); refine blk_put (cs := #[.int .i64 ((rd_T29 l0 x29_2).f0.f0), .int .i64 0, .int .i64 0, .int .i64 0, .slice none 0 0]) ?_ 1 _ rfl; (with_reducible repeat (first | refine blk_drewN ?_ _ | refine blk_drew ?_ | refine blk_alloc ?_ _)); refine blk_put (cs := #[.int .i64 0, .int .i64 0, .int .i64 0, .int .i64 0, .slice none 0 0]) ?_ 0 _ rfl; (with_reducible repeat (first | refine blk_drewN ?_ _ | refine blk_drew ?_ | refine blk_alloc ?_ _)); exact BK153.out))⟩; have n6_ : Aside0 (Below w.heap.size w w23) := ⟨(by rw [hw]; exact (by repeat (first | (with_reducible first | exact HB.out | apply below_alloc | apply pw_below_drewN | apply below_drew1 | refine below_set ?_ GE150.out | refine below_set ?_ GE153.out) | exact HB.out)))⟩; clear hw; clear HO_0; clear HO_7; clear HO_27; clear HL152_4; clear BK150; clear BK153; clear HB; have HO_0 := n0_; have HO_7 := n1_; have HO_27 := n2_; have HL152_4 := n3_; have BK150 := n4_; have BK153 := n5_; have HB := n6_; clear n0_ n1_ n2_ n3_ n4_ n5_ n6_; have hcz24_0 : w23.cell? ⟨gb153, 0, none⟩ = some (.int .i64 ((rd_T29 l0 x29_2).f0.f0)) := (blk_cell BK153.out 0).trans rfl; have hcz24_1 : w23.cell? ⟨gb153, 1, none⟩ = some (.int .i64 ((rd_T29 l0 x29_2).f0.f1)) := (blk_cell BK153.out 1).trans rfl; have hcz24_2 : w23.cell? ⟨gb153, 2, none⟩ = some (.int .i64 ((rd_T29 l0 x29_2).f0.f2)) := (blk_cell BK153.out 2).trans rfl; have hcz24_3 : w23.cell? ⟨gb153, 3, none⟩ = some (.int .i64 ((rd_T29 l0 x29_2).f0.f3)) := (blk_cell BK153.out 3).trans rfl; have hcz24_4 : w23.cell? ⟨gb153, 4, none⟩ = some (.slice A152_4 ((rd_T29 l0 x29_2).f1).length c152_4) := (blk_cell BK153.out 4).trans rfl; have hfz24_0 := blk_frozen BK153.out 0; have hfz24_1 := blk_frozen BK153.out 1; have hfz24_2 := blk_frozen BK153.out 2; have hfz24_3 := blk_frozen BK153.out 3; have hfz24_4 := blk_frozen BK153.out 4) | ((with_reducible refine gate_builtin (b := .append) (xs := #[.tmp 38, .tmp 44]) rfl ?_); (try (refine gate_guard (by rfl) ?_; dsimp only)); at_builtin; refine Kd.N_append k32 (w0 := w) w.heap.size rfl (.tmp 38) (.tmp 44) 27 32 (.agg #[(.int .i64 0), (.int .i64 0), (.int .i64 0), (.int .i64 0), (.slice none 0 0)]) 56 rfl Try.underlying27 info32 rfl (by decide) (by omega) u7 x7_2 (⟨(⟨(rd_T29 l0 x29_2).f0.f0, (rd_T29 l0 x29_2).f0.f1, (rd_T29 l0 x29_2).f0.f2, (rd_T29 l0 x29_2).f0.f3⟩ : S30), (rd_T29 l0 x29_2).f1⟩ : S32) [.int .i64 ((rd_T29 l0 x29_2).f0.f0), .int .i64 ((rd_T29 l0 x29_2).f0.f1), .int .i64 ((rd_T29 l0 x29_2).f0.f2), .int .i64 ((rd_T29 l0 x29_2).f0.f3), .slice A152_4 ((rd_T29 l0 x29_2).f1).length c152_4] (fun k_ => (P0_ k_ ∨ w.heap.size ≤ k_) ∧ k_ ≠ gb150 ∧ k_ ≠ gb153) (fun k_ => ((fun k_ => (P0_ k_ ∨ w.heap.size ≤ k_) ∧ k_ ≠ gb150 ∧ k_ ≠ gb153)) k_ ∧ some k_ ≠ (u7 : Value).ownBlock) rfl rfl ?aP (fun _ hk => hk) ?aF ?aO ?aB ?aS ?aL ?_; (case aP => exact (k32_mkF _ _ (⟨(⟨(rd_T29 l0 x29_2).f0.f0, (rd_T29 l0 x29_2).f0.f1, (rd_T29 l0 x29_2).f0.f2, (rd_T29 l0 x29_2).f0.f3⟩ : S30), (rd_T29 l0 x29_2).f1⟩ : S32) (Kd.V_reads' (Kd.V_mono (ok' := (fun k_ => ((fun k_ => (P0_ k_ ∨ w.heap.size ≤ k_) ∧ k_ ≠ gb150 ∧ k_ ≠ gb153)) k_ ∧ some k_ ≠ (u7 : Value).ownBlock)) (HL152_4.out) (fun k_ hk => ⟨⟨hk.1, ⟨hk.2.2.1, hk.2.2.2⟩⟩, hk.2.1⟩))).2.1 (Kd.V_F (Kd.V_mono (ok' := (fun k_ => ((fun k_ => (P0_ k_ ∨ w.heap.size ≤ k_) ∧ k_ ≠ gb150 ∧ k_ ≠ gb153)) k_ ∧ some k_ ≠ (u7 : Value).ownBlock)) (HL152_4.out) (fun k_ hk => ⟨⟨hk.1, ⟨hk.2.2.1, hk.2.2.2⟩⟩, hk.2.1⟩))))); (case aB => exact (by repeat (first | (with_reducible first | exact HB.out | apply below_alloc | apply pw_below_drewN | apply below_drew1 | refine below_set ?_ GE150.out | refine below_set ?_ GE153.out) | exact HB.out))); (case aF => exact (fun k_ hk => ⟨(.inr (Nat.le_trans (below_size (by repeat (first | (with_reducible first | exact HB.out | apply below_alloc | apply pw_below_drewN | apply below_drew1 | refine below_set ?_ GE150.out | refine below_set ?_ GE153.out) | exact HB.out))) hk)), Kd.freshB (g := gb150) (o := .cells #[.int .i64 a1_0, .int .i64 a1_1, .int .i64 a1_2, .int .i64 a1_3] 24 (0, 0)) (by (with_reducible repeat (first | refine blk_drewN ?_ _ | refine blk_drew ?_ | refine blk_alloc ?_ _)); exact BK150.out) k_ hk, Kd.freshB (g := gb153) (o := .cells #[.int .i64 ((rd_T29 l0 x29_2).f0.f0), .int .i64 ((rd_T29 l0 x29_2).f0.f1), .int .i64 ((rd_T29 l0 x29_2).f0.f2), .int .i64 ((rd_T29 l0 x29_2).f0.f3), .slice A152_4 ((rd_T29 l0 x29_2).f1).length c152_4] 29 (0, 0)) (by (with_reducible repeat (first | refine blk_drewN ?_ _ | refine blk_drew ?_ | refine blk_alloc ?_ _)); exact BK153.out) k_ hk⟩)); (case aO => exact (by (with_reducible repeat (first | apply Kd.N_alloc | apply Kd.N_drewN | apply Kd.N_drew)); exact HO_7.out)); (case aS => exact (below_size (by repeat (first | (with_reducible first | exact HB.out | apply below_alloc | apply pw_below_drewN | apply below_drew1 | refine below_set ?_ GE150.out | refine below_set ?_ GE153.out) | exact HB.out)))); (case aL => have := LMc19.out; omega); intro v156 w25 ho hb hg hat; rw [← Ny155.out] at ho; have n0_ := Am (Kd.V_afterv (ok := (fun k_ => (P0_ k_ ∨ w.heap.size ≤ k_) ∧ k_ ≠ gb150 ∧ k_ ≠ gb153)) (by (with_reducible repeat (first | apply Kd.V_alloc | apply Kd.V_drewN | apply Kd.V_drew)); exact Kd.V_mono HO_0.out (fun _ hk => ⟨⟨hk.1, ⟨hk.2.2.1, hk.2.2.2⟩⟩, hk.2.1⟩)) hg hat); have n1_ := Am (Kd.V_afterv (ok := (fun k_ => (P0_ k_ ∨ w.heap.size ≤ k_) ∧ k_ ≠ gb150 ∧ k_ ≠ gb153)) (by (with_reducible repeat (first | apply Kd.V_alloc | apply Kd.V_drewN | apply Kd.V_drew)); exact Kd.V_mono HO_27.out (fun _ hk => ⟨⟨hk.1, ⟨hk.2.2.1, hk.2.2.2⟩⟩, hk.2.1⟩)) hg hat); have n2_ := Am (blk_grown (g := gb150) (o := .cells #[.int .i64 a1_0, .int .i64 a1_1, .int .i64 a1_2, .int .i64 a1_3] 24 (0, 0)) (by (with_reducible repeat (first | refine blk_drewN ?_ _ | refine blk_drew ?_ | refine blk_alloc ?_ _)); exact BK150.out) hg (Kd.N_ne HO_7.out BK150.out (by decide))); have n3_ := Am (Kd.V_afterv (ok := (fun k_ => (P0_ k_ ∨ w.heap.size ≤ k_) ∧ k_ ≠ gb150 ∧ k_ ≠ gb153)) (by (with_reducible repeat (first | apply Kd.V_alloc | apply Kd.V_drewN | apply Kd.V_drew)); exact Kd.V_mono HL152_4.out (fun _ hk => ⟨⟨hk.1, ⟨hk.2.2.1, hk.2.2.2⟩⟩, hk.2.1⟩)) hg hat); have n4_ := Am (blk_grown (g := gb153) (o := .cells #[.int .i64 ((rd_T29 l0 x29_2).f0.f0), .int .i64 ((rd_T29 l0 x29_2).f0.f1), .int .i64 ((rd_T29 l0 x29_2).f0.f2), .int .i64 ((rd_T29 l0 x29_2).f0.f3), .slice A152_4 ((rd_T29 l0 x29_2).f1).length c152_4] 29 (0, 0)) (by (with_reducible repeat (first | refine blk_drewN ?_ _ | refine blk_drew ?_ | refine blk_alloc ?_ _)); exact BK153.out) hg (Kd.N_ne HO_7.out BK153.out (by decide))); have n5_ := Am (hb); have n6_ := Am (ho); clear HO_0; clear HO_27; clear BK150; clear HL152_4; clear BK153; clear HB; clear HO_7; have HO_0 := n0_; have HO_27 := n1_; have BK150 := n2_; have HL152_4 := n3_; have BK153 := n4_; have HB := n5_; have HO157 := n6_; clear n0_ n1_ n2_ n3_ n4_ n5_ n6_; clear ho hb hg hat))
            go_roundg k2
            case measure => have := HJ3.out; have := HK2.out; omega
            case rel => exact ⟨(y155), (wrap64 (x29_2 + 1)), (by first | rfl | (simp; done) | (simp [*]; done)), H', ⟨by have := HJ3.out; have := HK2.out; omega⟩, ⟨by (with_reducible repeat (first | apply Kd.V_alloc | apply Kd.V_drewN | apply Kd.V_drew)); exact Kd.V_mono HO_0.out (fun _ hk => ⟨hk.1.1, ⟨hk.2, hk.1.2.1⟩⟩)⟩, ⟨by (with_reducible repeat (first | apply Kd.N_alloc | apply Kd.N_drewN | apply Kd.N_drew)); exact Kd.N_mono HO157.out (fun _ hk => ⟨hk.1, hk.2.1⟩)⟩, ⟨by (with_reducible repeat (first | apply Kd.V_alloc | apply Kd.V_drewN | apply Kd.V_drew)); exact Kd.V_mono HO_27.out (fun _ hk => ⟨hk.1.1, ⟨hk.2, hk.1.2.1⟩⟩)⟩, ⟨by (with_reducible repeat (first | refine blk_drewN ?_ _ | refine blk_drew ?_ | refine blk_alloc ?_ _)); exact BK150.out⟩, ⟨by repeat (first | (with_reducible first | exact HB.out | apply below_alloc | apply pw_below_drewN | apply below_drew1 | refine below_set ?_ GE150.out | refine below_set ?_ GE153.out) | exact HB.out)⟩⟩
           ·
            rw [if_neg c19] at H
            exact absurd H (by simp)
         ·
          rw [if_neg c12] at H
          exact absurd H (by simp)
        ·
         rw [if_neg c11] at H
         exact absurd H (by simp)
       ·
        rw [if_neg c10] at H
        have c10b0 : decide (x29_2 < (l0.length : Int)) = false := decide_eq_false c10
        clear c10
        replace H := Option.bind_eq_some_iff.mp H
        obtain ⟨t158, A260, H⟩ := H
        replace H : ((ledger_Find.f l0 a1_0 a1_1 a1_2 a1_3).bind fun bt159 => ((ledger_Enter.f l0 a1_0 a1_1 a1_2 a1_3 l2).bind fun bt163 => (if t158 < 0 then (switchboardlaw12_LedgerExact.j2 k2 l0 l2 t158 bt159.1 bt159.2 bt163.1 bt163.2 (wrap64 ((l0.length : Int) + 1)) a1_0 a1_1 a1_2 a1_3) else (switchboardlaw12_LedgerExact.j2 k2 l0 l2 t158 bt159.1 bt159.2 bt163.1 bt163.2 (l0.length : Int) a1_0 a1_1 a1_2 a1_3)))) = some true := H
        have A26 := Am A260
        clear A260
        replace H := Option.bind_eq_some_iff.mp H
        obtain ⟨⟨t159, t162⟩, A270, H⟩ := H
        replace H : ((ledger_Enter.f l0 a1_0 a1_1 a1_2 a1_3 l2).bind fun bt163 => (if t158 < 0 then (switchboardlaw12_LedgerExact.j2 k2 l0 l2 t158 t159 t162 bt163.1 bt163.2 (wrap64 ((l0.length : Int) + 1)) a1_0 a1_1 a1_2 a1_3) else (switchboardlaw12_LedgerExact.j2 k2 l0 l2 t158 t159 t162 bt163.1 bt163.2 (l0.length : Int) a1_0 a1_1 a1_2 a1_3))) = some true := H
        have A27 := Am A270
        clear A270
        replace H := Option.bind_eq_some_iff.mp H
        obtain ⟨⟨t163, t166⟩, A280, H⟩ := H
        replace H : (if t158 < 0 then (switchboardlaw12_LedgerExact.j2 k2 l0 l2 t158 t159 t162 t163 t166 (wrap64 ((l0.length : Int) + 1)) a1_0 a1_1 a1_2 a1_3) else (switchboardlaw12_LedgerExact.j2 k2 l0 l2 t158 t159 t162 t163 t166 (l0.length : Int) a1_0 a1_1 a1_2 a1_3)) = some true := H
        have A28 := Am A280
        clear A280
        have HC29 := Am H
        clear H
        have hcz30_0 : wr.cell? ⟨gb150, 0, none⟩ = some (.int .i64 a1_0) := (blk_cell BK150.out 0).trans rfl
        have hcz30_1 : wr.cell? ⟨gb150, 1, none⟩ = some (.int .i64 a1_1) := (blk_cell BK150.out 1).trans rfl
        have hcz30_2 : wr.cell? ⟨gb150, 2, none⟩ = some (.int .i64 a1_2) := (blk_cell BK150.out 2).trans rfl
        have hcz30_3 : wr.cell? ⟨gb150, 3, none⟩ = some (.int .i64 a1_3) := (blk_cell BK150.out 3).trans rfl
        have hfz30_0 := blk_frozen BK150.out 0
        have hfz30_1 := blk_frozen BK150.out 1
        have hfz30_2 := blk_frozen BK150.out 2
        have hfz30_3 := blk_frozen BK150.out 3
        obtain ⟨Ao31, co31, eo31⟩ := Kd.N_slice HO_7.out
        subst eo31
        go_upto_if 66 with (first | ((with_reducible refine gate_callee (f := 8) rfl ?_); refine goesL_ (some 49) rfl rfl Try.func8 (by kernel_rfl) rfl #[.slice Ao31 x7_2.length co31, .agg #[.int .i64 a1_0, .int .i64 a1_1, .int .i64 a1_2, .int .i64 a1_3]] rfl (by (try simp only [List.map_toArray, List.map_cons, List.map_nil]); first | done | rfl | (simp only [List.length_drop, List.length_take]; rfl)) ?_; (with_reducible refine (switchboardref12_Find.calls k2 _ _ x7_2 a1_0 a1_1 a1_2 a1_3 t158 _ ?side1 ?side2 A26.out).mono ?_); (case side1 => repeat (first | exact (Kd.N_reads' HO_7.out).2.2 | (with_reducible refine Kd.C_alloc ?_ _) | (with_reducible refine Kd.C_drewN ?_ _) | (with_reducible refine Kd.C_drew ?_))); (case side2 => exact (Kd.N_reads' HO_7.out).2.1); rintro e w32 ⟨rfl, hb⟩; refine ⟨_, rfl, ?_⟩; have n0_ := Am (Kd.V_below (by (with_reducible repeat (first | apply Kd.V_alloc | apply Kd.V_drewN | apply Kd.V_drew)); exact HO_0.out) hb); have n1_ := Am (Kd.N_below (by (with_reducible repeat (first | apply Kd.N_alloc | apply Kd.N_drewN | apply Kd.N_drew)); exact HO_7.out) hb); have n2_ := Am (Kd.V_below (by (with_reducible repeat (first | apply Kd.V_alloc | apply Kd.V_drewN | apply Kd.V_drew)); exact HO_27.out) hb); have n3_ := Am (blk_below (g := gb150) (o := .cells #[.int .i64 a1_0, .int .i64 a1_1, .int .i64 a1_2, .int .i64 a1_3] 24 (0, 0)) (by (with_reducible repeat (first | refine blk_drewN ?_ _ | refine blk_drew ?_ | refine blk_alloc ?_ _)); exact BK150.out) hb); have n4_ := Am (below_step (by repeat (first | (with_reducible first | exact HB.out | apply below_alloc | apply pw_below_drewN | apply below_drew1 | refine below_set ?_ GE150.out) | exact HB.out)) hb); clear HO_0; clear HO_7; clear HO_27; clear BK150; clear HB; have HO_0 := n0_; have HO_7 := n1_; have HO_27 := n2_; have BK150 := n3_; have HB := n4_; clear n0_ n1_ n2_ n3_ n4_; (try clear hb); (try clear hb2); (try clear hk); (try clear hi); have hcz33_0 : w32.cell? ⟨gb150, 0, none⟩ = some (.int .i64 a1_0) := (blk_cell BK150.out 0).trans rfl; have hcz33_1 : w32.cell? ⟨gb150, 1, none⟩ = some (.int .i64 a1_1) := (blk_cell BK150.out 1).trans rfl; have hcz33_2 : w32.cell? ⟨gb150, 2, none⟩ = some (.int .i64 a1_2) := (blk_cell BK150.out 2).trans rfl; have hcz33_3 : w32.cell? ⟨gb150, 3, none⟩ = some (.int .i64 a1_3) := (blk_cell BK150.out 3).trans rfl; have hfz33_0 := blk_frozen BK150.out 0; have hfz33_1 := blk_frozen BK150.out 1; have hfz33_2 := blk_frozen BK150.out 2; have hfz33_3 := blk_frozen BK150.out 3) | ((with_reducible refine gate_callee (f := 9) rfl ?_); refine goesL_ (some 53) rfl rfl Try.func9 (by kernel_rfl) rfl #[.slice A0 l0.length c0, .agg #[.int .i64 a1_0, .int .i64 a1_1, .int .i64 a1_2, .int .i64 a1_3]] rfl (by (try simp only [List.map_toArray, List.map_cons, List.map_nil]); first | done | rfl | (simp only [List.length_drop, List.length_take]; rfl)) ?_; (with_reducible refine (ledger_Find.calls _ _ l0 a1_0 a1_1 a1_2 a1_3 t159 t162 _ ?side1 ?side2 A27.out).mono ?_); (case side1 => repeat (first | exact (Kd.V_reads' HO_0.out).2.2 | (with_reducible refine Kd.C_alloc ?_ _) | (with_reducible refine Kd.C_drewN ?_ _) | (with_reducible refine Kd.C_drew ?_))); (case side2 => exact (Kd.V_reads' HO_0.out).2.1); rintro e w34 ⟨v160, rfl, ho0, hb⟩; refine ⟨_, rfl, ?_⟩; have n0_ := Am (Kd.V_elder' (by (with_reducible repeat (first | apply Kd.V_alloc | apply Kd.V_drewN | apply Kd.V_drew)); exact HO_0.out) (Kd.R_base ho0) hb); have n1_ := Am (Kd.N_elder' (by (with_reducible repeat (first | apply Kd.N_alloc | apply Kd.N_drewN | apply Kd.N_drew)); exact HO_7.out) (Kd.R_base ho0) hb); have n2_ := Am (Kd.V_elder' (by (with_reducible repeat (first | apply Kd.V_alloc | apply Kd.V_drewN | apply Kd.V_drew)); exact HO_27.out) (Kd.R_base ho0) hb); have n3_ := Am (Kd.R_lower (Kd.R_newM (M := fun k_ => (w.heap.size ≤ k_)) ho0 (below_size (by repeat (first | (with_reducible first | exact HB.out | apply below_alloc | apply pw_below_drewN | apply below_drew1 | refine below_set ?_ GE150.out) | exact HB.out))) (fun k_ h_ => h_)) (below_size (by repeat (first | (with_reducible first | exact HB.out | apply below_alloc | apply pw_below_drewN | apply below_drew1 | refine below_set ?_ GE150.out) | exact HB.out)))); have n4_ := Am (blk_below (g := gb150) (o := .cells #[.int .i64 a1_0, .int .i64 a1_1, .int .i64 a1_2, .int .i64 a1_3] 24 (0, 0)) (by (with_reducible repeat (first | refine blk_drewN ?_ _ | refine blk_drew ?_ | refine blk_alloc ?_ _)); exact BK150.out) hb); have n5_ := Am (below_step (by repeat (first | (with_reducible first | exact HB.out | apply below_alloc | apply pw_below_drewN | apply below_drew1 | refine below_set ?_ GE150.out) | exact HB.out)) hb); clear HO_0; clear HO_7; clear HO_27; clear BK150; clear HB; have HO_0 := n0_; have HO_7 := n1_; have HO_27 := n2_; have HO161 := n3_; have BK150 := n4_; have HB := n5_; clear n0_ n1_ n2_ n3_ n4_ n5_; (try clear hb); (try clear hb2); (try clear hk); (try clear hi); (try clear ho0); have hcz35_0 : w34.cell? ⟨gb150, 0, none⟩ = some (.int .i64 a1_0) := (blk_cell BK150.out 0).trans rfl; have hcz35_1 : w34.cell? ⟨gb150, 1, none⟩ = some (.int .i64 a1_1) := (blk_cell BK150.out 1).trans rfl; have hcz35_2 : w34.cell? ⟨gb150, 2, none⟩ = some (.int .i64 a1_2) := (blk_cell BK150.out 2).trans rfl; have hcz35_3 : w34.cell? ⟨gb150, 3, none⟩ = some (.int .i64 a1_3) := (blk_cell BK150.out 3).trans rfl; have hfz35_0 := blk_frozen BK150.out 0; have hfz35_1 := blk_frozen BK150.out 1; have hfz35_2 := blk_frozen BK150.out 2; have hfz35_3 := blk_frozen BK150.out 3) | ((with_reducible refine gate_callee (f := 10) rfl ?_); refine goesL_ (some 60) rfl rfl Try.func10 (by kernel_rfl) rfl #[.slice A0 l0.length c0, .agg #[.int .i64 a1_0, .int .i64 a1_1, .int .i64 a1_2, .int .i64 a1_3], .slice A2 l2.length c2] rfl (by (try simp only [List.map_toArray, List.map_cons, List.map_nil]); first | done | rfl | (simp only [List.length_drop, List.length_take]; rfl)) ?_; (with_reducible refine (ledger_Enter.calls (fun k_ => (((P0_ k_ ∨ w.heap.size ≤ k_) ∧ (some k_ ≠ (.slice Ao31 x7_2.length co31 : Value).ownBlock ∧ k_ ≠ gb150)) ∧ some k_ ≠ (v160 : Value).ownBlock)) _ _ l0 a1_0 a1_1 a1_2 a1_3 _ _ l2 t163 t166 _ ?side1 ?side2 ?side3 A28.out).mono ?_); (case side1 => exact HO_0.out); (case side2 => repeat (first | exact (Kd.C_below HR2.out HB.out) | (with_reducible refine Kd.C_alloc ?_ _) | (with_reducible refine Kd.C_drewN ?_ _) | (with_reducible refine Kd.C_drew ?_))); (case side3 => exact HC2.out); rintro e w36 ⟨v164, rfl, ho0, hb⟩; refine ⟨_, rfl, ?_⟩; have n0_ := Am (Kd.V_below (by (with_reducible repeat (first | apply Kd.V_alloc | apply Kd.V_drewN | apply Kd.V_drew)); exact HO_0.out) hb); have n1_ := Am (Kd.N_below (by (with_reducible repeat (first | apply Kd.N_alloc | apply Kd.N_drewN | apply Kd.N_drew)); exact HO_7.out) hb); have n2_ := Am (Kd.V_below (by (with_reducible repeat (first | apply Kd.V_alloc | apply Kd.V_drewN | apply Kd.V_drew)); exact HO_27.out) hb); have n3_ := Am (Kd.R_below (by (with_reducible repeat (first | apply Kd.R_alloc | apply Kd.R_drewN | apply Kd.R_drew)); exact HO161.out) hb); have n4_ := Am (Kd.V_lower (Kd.V_mono (ok' := fun k_ => (P0_ k_ ∨ w.heap.size ≤ k_) ∧ some k_ ≠ (.slice Ao31 x7_2.length co31 : Value).ownBlock ∧ some k_ ≠ (v160 : Value).ownBlock ∧ k_ ≠ gb150) ho0 (fun k_ hk_ => ⟨Or.elim hk_ (fun hs_ => hs_.1.1) (fun hn_ => (.inr (Nat.le_trans (below_size (by repeat (first | (with_reducible first | exact HB.out | apply below_alloc | apply pw_below_drewN | apply below_drew1 | refine below_set ?_ GE150.out) | exact HB.out))) hn_))), Or.elim hk_ (fun hs_ => hs_.1.2.1) (fun hn_ => (Kd.fresh' (Kd.N_lt (by (with_reducible repeat (first | apply Kd.N_alloc | apply Kd.N_drewN | apply Kd.N_drew)); exact HO_7.out)) k_ hn_)), Or.elim hk_ (fun hs_ => hs_.2) (fun hn_ => (Kd.fresh' (Kd.R_lt (by (with_reducible repeat (first | apply Kd.R_alloc | apply Kd.R_drewN | apply Kd.R_drew)); exact HO161.out)) k_ hn_)), Or.elim hk_ (fun hs_ => hs_.1.2.2) (fun hn_ => (Kd.freshB (g := gb150) (o := .cells #[.int .i64 a1_0, .int .i64 a1_1, .int .i64 a1_2, .int .i64 a1_3] 24 (0, 0)) (by (with_reducible repeat (first | refine blk_drewN ?_ _ | refine blk_drew ?_ | refine blk_alloc ?_ _)); exact BK150.out) k_ hn_))⟩)) (below_size (by repeat (first | (with_reducible first | exact HB.out | apply below_alloc | apply pw_below_drewN | apply below_drew1 | refine below_set ?_ GE150.out) | exact HB.out)))); have n5_ := Am (blk_below (g := gb150) (o := .cells #[.int .i64 a1_0, .int .i64 a1_1, .int .i64 a1_2, .int .i64 a1_3] 24 (0, 0)) (by (with_reducible repeat (first | refine blk_drewN ?_ _ | refine blk_drew ?_ | refine blk_alloc ?_ _)); exact BK150.out) hb); have n6_ := Am (below_step (by repeat (first | (with_reducible first | exact HB.out | apply below_alloc | apply pw_below_drewN | apply below_drew1 | refine below_set ?_ GE150.out) | exact HB.out)) hb); clear HO_0; clear HO_7; clear HO_27; clear HO161; clear BK150; clear HB; have HO_0 := n0_; have HO_7 := n1_; have HO_27 := n2_; have HO161 := n3_; have HO165 := n4_; have BK150 := n5_; have HB := n6_; clear n0_ n1_ n2_ n3_ n4_ n5_ n6_; (try clear hb); (try clear hb2); (try clear hk); (try clear hi); (try clear ho0)))
        (try simp only [Act.put, List.setIfInBounds_toArray, List.set_cons_zero, List.set_cons_succ])
        go_cut [15] (fun v15 wc => ∃ (kq : Nat) (x15_28 : Int), v15 = .int .i64 x15_28 ∧ Aside0 (switchboardlaw12_LedgerExact.j2 kq l0 l2 t158 t159 t162 t163 t166 x15_28 a1_0 a1_1 a1_2 a1_3 = some true) ∧ Aside0 (kq ≤ k2) ∧ Aside0 (Kd.V k29 29 wc w.heap.size (fun k_ => (P0_ k_ ∨ w.heap.size ≤ k_) ∧ some k_ ≠ (v160 : Value).ownBlock ∧ k_ ≠ gb150) (.slice A0 l0.length c0) l0) ∧ Aside0 (Kd.R (Kd.int .i64) 3 wc w.heap.size (fun k_ => (w.heap.size ≤ k_)) v160 t159) ∧ Aside0 (Kd.V k29 29 wc w.heap.size (fun k_ => (P0_ k_ ∨ w.heap.size ≤ k_) ∧ some k_ ≠ (v160 : Value).ownBlock ∧ k_ ≠ gb150) v164 t163) ∧ Aside0 (wc.heap[gb150]? = some (.cells #[.int .i64 a1_0, .int .i64 a1_1, .int .i64 a1_2, .int .i64 a1_3] 24 (0, 0))) ∧ Aside0 (Below w.heap.size w wc))
        case first =>
         have H := HC29.out
         clear HC29
         by_cases c37 : t158 < 0
         ·
          rw [if_pos c37] at H
          have c37b0 : decide (t158 < 0) = true := decide_eq_true c37
          clear c37
          (first | rw [c37b0] | (simp only [i64_w, i32_w]; rw [c37b0]) | skip)
          have H' := Am H
          clear H
          go_wp2
          go_meet
          case rel => exact ⟨_, (wrap64 ((l0.length : Int) + 1)), (by first | rfl | (simp; done) | (simp [*]; done)), H', ⟨by have := HJ3.out; have := HK2.out; first | omega | exact Nat.le_refl _⟩, ⟨by (with_reducible repeat (first | apply Kd.V_alloc | apply Kd.V_drewN | apply Kd.V_drew)); exact Kd.V_mono HO_0.out (fun _ hk => ⟨hk.1.1, ⟨hk.2, hk.1.2.2⟩⟩)⟩, ⟨by (with_reducible repeat (first | apply Kd.R_alloc | apply Kd.R_drewN | apply Kd.R_drew)); exact Kd.R_mono HO161.out (fun _ hk => hk.1)⟩, ⟨by (with_reducible repeat (first | apply Kd.V_alloc | apply Kd.V_drewN | apply Kd.V_drew)); exact Kd.V_mono HO165.out (fun _ hk => ⟨hk.1, ⟨hk.2.2.1, hk.2.2.2⟩⟩)⟩, ⟨by (with_reducible repeat (first | refine blk_drewN ?_ _ | refine blk_drew ?_ | refine blk_alloc ?_ _)); exact BK150.out⟩, ⟨by repeat (first | (with_reducible first | exact HB.out | apply below_alloc | apply pw_below_drewN | apply below_drew1 | refine below_set ?_ GE150.out) | exact HB.out)⟩⟩
         ·
          rw [if_neg c37] at H
          have c37b0 : decide (t158 < 0) = false := decide_eq_false c37
          clear c37
          (first | rw [c37b0] | (simp only [i64_w, i32_w]; rw [c37b0]) | skip)
          have H' := Am H
          clear H
          go_wp2
          go_meet
          case rel => exact ⟨_, ((l0.length : Int)), (by first | rfl | (simp; done) | (simp [*]; done)), H', ⟨by have := HJ3.out; have := HK2.out; first | omega | exact Nat.le_refl _⟩, ⟨by (with_reducible repeat (first | apply Kd.V_alloc | apply Kd.V_drewN | apply Kd.V_drew)); exact Kd.V_mono HO_0.out (fun _ hk => ⟨hk.1.1, ⟨hk.2, hk.1.2.2⟩⟩)⟩, ⟨by (with_reducible repeat (first | apply Kd.R_alloc | apply Kd.R_drewN | apply Kd.R_drew)); exact Kd.R_mono HO161.out (fun _ hk => hk.1)⟩, ⟨by (with_reducible repeat (first | apply Kd.V_alloc | apply Kd.V_drewN | apply Kd.V_drew)); exact Kd.V_mono HO165.out (fun _ hk => ⟨hk.1, ⟨hk.2.2.1, hk.2.2.2⟩⟩)⟩, ⟨by (with_reducible repeat (first | refine blk_drewN ?_ _ | refine blk_drew ?_ | refine blk_alloc ?_ _)); exact BK150.out⟩, ⟨by repeat (first | (with_reducible first | exact HB.out | apply below_alloc | apply pw_below_drewN | apply below_drew1 | refine below_set ?_ GE150.out) | exact HB.out)⟩⟩
        case rest =>
         clear HC29
         try clear c1
         try clear p1
         try clear q1
         try clear hx1
         try clear c2
         try clear p2
         try clear c3
         try clear c6
         try clear c6b0
         try clear c6b1
         try clear p6
         try clear c7
         try clear c8
         try clear c9
         try clear c10
         try clear c10b0
         try clear c11
         try clear c11b0
         try clear c12
         try clear c12b0
         try clear c13
         try clear c13b0
         try clear c13b1
         try clear c15
         try clear p15
         try clear q15
         try clear hx15
         try clear c16
         try clear c19
         try clear c21
         try clear c37
         try clear c37b0
         try clear hcz17_0
         try clear hcz17_1
         try clear hcz17_2
         try clear hcz17_3
         try clear hcz17_4
         try clear hcz22_0
         try clear hcz22_1
         try clear hcz22_2
         try clear hcz22_3
         try clear hcz22_4
         try clear hcz24_0
         try clear hcz24_1
         try clear hcz24_2
         try clear hcz24_3
         try clear hcz24_4
         try clear hcz30_0
         try clear hcz30_1
         try clear hcz30_2
         try clear hcz30_3
         try clear hcz33_0
         try clear hcz33_1
         try clear hcz33_2
         try clear hcz33_3
         try clear hcz35_0
         try clear hcz35_1
         try clear hcz35_2
         try clear hcz35_3
         try clear hfz17_0
         try clear hfz17_1
         try clear hfz17_2
         try clear hfz17_3
         try clear hfz17_4
         try clear hfz22_0
         try clear hfz22_1
         try clear hfz22_2
         try clear hfz22_3
         try clear hfz22_4
         try clear hfz24_0
         try clear hfz24_1
         try clear hfz24_2
         try clear hfz24_3
         try clear hfz24_4
         try clear hfz30_0
         try clear hfz30_1
         try clear hfz30_2
         try clear hfz30_3
         try clear hfz33_0
         try clear hfz33_1
         try clear hfz33_2
         try clear hfz33_3
         try clear hfz35_0
         try clear hfz35_1
         try clear hfz35_2
         try clear hfz35_3
         try clear hx152_0
         try clear hx152_1
         try clear hx152_2
         try clear hx152_3
         try clear hx152_4
         try clear p152
         try clear p2
         try clear q152
         obtain ⟨kq, x15_28, rfl, HA, HJ28, HO_0, HO_11, HO_13, BK150, HB⟩ := hcut
         cases kq with
         | zero => exact absurd HA.out (by simp [switchboardlaw12_LedgerExact.j2])
         | succ kj28 =>
          have H := HA.out
          clear HA
          simp only [switchboardlaw12_LedgerExact.j2] at H
          have HC38 := Am H
          clear H
          go_upto_region 17 with (fail)
          go_cut [106] (fun v106 wc => ∃ (kq : Nat) (x106_37 : Bool), v106 = .bool x106_37 ∧ Aside0 (switchboardlaw12_LedgerExact.j3 kq l0 l2 t163 x106_37 a1_0 a1_1 a1_2 a1_3 = some true) ∧ Aside0 (kq ≤ kj28) ∧ Aside0 (Kd.V k29 29 wc w.heap.size (fun k_ => (P0_ k_ ∨ w.heap.size ≤ k_) ∧ k_ ≠ gb150) (.slice A0 l0.length c0) l0) ∧ Aside0 (Kd.V k29 29 wc w.heap.size (fun k_ => (P0_ k_ ∨ w.heap.size ≤ k_) ∧ k_ ≠ gb150) v164 t163) ∧ Aside0 (wc.heap[gb150]? = some (.cells #[.int .i64 a1_0, .int .i64 a1_1, .int .i64 a1_2, .int .i64 a1_3] 24 (0, 0))) ∧ Aside0 (Below w.heap.size w wc))
          case first =>
           have H := HC38.out
           clear HC38
           by_cases c39 : (t162 != (decide (t158 ≥ 0))) = true
           ·
            rw [if_pos c39] at H
            have c39b0 : (t162 != (decide (t158 ≥ 0))) = true := c39
            (try (have c39b1 : decide (t162 = (decide (t158 ≥ 0))) = false := by simpa using c39))
            (try (have c39b2 : (t162 == (decide (t158 ≥ 0))) = false := by simpa using c39))
            (try (have c39b3 : ¬ (t162 = (decide (t158 ≥ 0))) := by simpa using c39))
            clear c39
            (first | rw [c39b0] | (simp only [i64_w, i32_w]; rw [c39b0]) | skip)
            have H' := Am H
            clear H
            go_wp2
            go_meet
            case rel => exact ⟨_, (true), (by first | rfl | (simp; done) | (simp [*]; done)), H', ⟨by have := HJ3.out; have := HK2.out; have := HJ28.out; first | omega | exact Nat.le_refl _⟩, ⟨by (with_reducible repeat (first | apply Kd.V_alloc | apply Kd.V_drewN | apply Kd.V_drew)); exact Kd.V_mono HO_0.out (fun _ hk => ⟨hk.1, hk.2.2⟩)⟩, ⟨by (with_reducible repeat (first | apply Kd.V_alloc | apply Kd.V_drewN | apply Kd.V_drew)); exact Kd.V_mono HO_13.out (fun _ hk => ⟨hk.1, hk.2.2⟩)⟩, ⟨by (with_reducible repeat (first | refine blk_drewN ?_ _ | refine blk_drew ?_ | refine blk_alloc ?_ _)); exact BK150.out⟩, ⟨by repeat (first | (with_reducible first | exact HB.out | apply below_alloc | apply pw_below_drewN | apply below_drew1 | refine below_set ?_ GE150.out) | exact HB.out)⟩⟩
           ·
            rw [if_neg c39] at H
            have c39b0 : (t162 != (decide (t158 ≥ 0))) = false := by simpa using c39
            (try (have c39b1 : decide (t162 = (decide (t158 ≥ 0))) = true := by simpa using c39))
            (try (have c39b2 : (t162 == (decide (t158 ≥ 0))) = true := by simpa using c39))
            clear c39
            (first | rw [c39b0] | (simp only [i64_w, i32_w]; rw [c39b0]) | skip)
            by_cases c40 : (t166 == t162) = true
            ·
             rw [if_pos c40] at H
             have c40b0 : (t166 == t162) = true := c40
             (try (have c40b1 : decide (t166 = t162) = true := by simpa using c40))
             (try (have c40b2 : (t166 == t162) = true := by simpa using c40))
             clear c40
             have H' := Am H
             clear H
             go_wp2
             go_meet
             case rel => exact ⟨_, (true), (by first | rfl | (simp; done) | (simp [*]; done)), H', ⟨by have := HJ3.out; have := HK2.out; have := HJ28.out; first | omega | exact Nat.le_refl _⟩, ⟨by (with_reducible repeat (first | apply Kd.V_alloc | apply Kd.V_drewN | apply Kd.V_drew)); exact Kd.V_mono HO_0.out (fun _ hk => ⟨hk.1, hk.2.2⟩)⟩, ⟨by (with_reducible repeat (first | apply Kd.V_alloc | apply Kd.V_drewN | apply Kd.V_drew)); exact Kd.V_mono HO_13.out (fun _ hk => ⟨hk.1, hk.2.2⟩)⟩, ⟨by (with_reducible repeat (first | refine blk_drewN ?_ _ | refine blk_drew ?_ | refine blk_alloc ?_ _)); exact BK150.out⟩, ⟨by repeat (first | (with_reducible first | exact HB.out | apply below_alloc | apply pw_below_drewN | apply below_drew1 | refine below_set ?_ GE150.out) | exact HB.out)⟩⟩
            ·
             rw [if_neg c40] at H
             have c40b0 : (t166 == t162) = false := by simpa using c40
             (try (have c40b1 : decide (t166 = t162) = false := by simpa using c40))
             (try (have c40b2 : (t166 == t162) = false := by simpa using c40))
             (try (have c40b3 : ¬ (t166 = t162) := by simpa using c40))
             clear c40
             by_cases c41 : (t163.length : Int) = x15_28
             ·
              rw [if_pos c41] at H
              have c41b0 : ((t163.length : Int) == x15_28) = true := beq_iff_eq.mpr c41
              have c41b1 : ((t163.length : Int) != x15_28) = false := bne_eq_false_iff_eq.mpr c41
              clear c41
              by_cases c42 : t158 ≥ 0
              ·
               rw [if_pos c42] at H
               have c42b0 : decide (0 ≤ t158) = true := decide_eq_true c42
               obtain rfl : t162 = true := by have h_ := c39b0; rw [show decide (t158 ≥ 0) = true from decide_eq_true c42] at h_; revert h_; cases t162 <;> simp
               obtain rfl : t166 = false := by have h_ := c40b0; revert h_; cases t166 <;> simp
               clear c42
               by_cases c43 : 0 ≤ t158
               ·
                rw [if_pos c43] at H
                have c43b0 : decide (0 ≤ t158) = true := decide_eq_true c43
                clear c43
                by_cases c44 : t158 < (l0.length : Int)
                ·
                 rw [if_pos c44] at H
                 have c44b0 : decide (t158 < (l0.length : Int)) = true := decide_eq_true c44
                 clear c44
                 replace H := Option.bind_eq_some_iff.mp H
                 obtain ⟨t168, A450, H⟩ := H
                 replace H : (if t168 = true then (if t158 < 0 then (switchboardlaw12_LedgerExact.j3 kj28 l0 l2 t163 ((t159.length : Int) != 0) a1_0 a1_1 a1_2 a1_3) else (switchboardlaw12_LedgerExact.j3 kj28 l0 l2 t163 false a1_0 a1_1 a1_2 a1_3)) else (switchboardlaw12_LedgerExact.j3 kj28 l0 l2 t163 true a1_0 a1_1 a1_2 a1_3)) = some true := H
                 have A45 := Am A450
                 clear A450
                 by_cases c46 : t168 = true
                 ·
                  subst c46
                  have H1 : (if t158 < 0 then (switchboardlaw12_LedgerExact.j3 kj28 l0 l2 t163 ((t159.length : Int) != 0) a1_0 a1_1 a1_2 a1_3) else (switchboardlaw12_LedgerExact.j3 kj28 l0 l2 t163 false a1_0 a1_1 a1_2 a1_3)) = some true := by rw [if_pos rfl] at H; exact H
                  clear H
                  have H := H1
                  clear H1
                  by_cases c47 : t158 < 0
                  ·
                   exact absurd c47 (by have h_ := of_decide_eq_true c42b0; omega)
                  ·
                   rw [if_neg c47] at H
                   have c47b0 : decide (t158 < 0) = false := decide_eq_false c47
                   clear c47
                   have H' := Am H
                   clear H
                   obtain ⟨Ao50, co50, eo50⟩ := Kd.V_slice HO_13.out
                   subst eo50
                   have p167 : 0 ≤ (t158 : Int) := of_decide_eq_true (by first | (with_reducible assumption) | assumption)
                   have q167 : t158 < (l0.length : Int) := of_decide_eq_true (by first | (with_reducible assumption) | assumption)
                   obtain ⟨ad167, A167_4, c167_4, e167, hx167_0, hx167_1, hx167_2, hx167_3, hx167_4, hl167_4, hi167_4⟩ := at_T29 (Kd.V_reads' HO_0.out).2.2 t158 p167 q167
                   cases e167
                   obtain ⟨ce167, hce167, hMe167, hcc167⟩ := Kd.V_get HO_0.out z29 t158 p167 (by first | exact q167 | exact of_decide_eq_true (by first | (with_reducible assumption) | assumption) | (have e_ := (Kd.V_reads' HO_0.out).1; omega))
                   obtain ⟨ua167_4, uc167_4, rfl, ul167_4, ge167_4⟩ := k29_openF hMe167
                   have hv167_4 := hcc167 4 _ rfl
                   rw [add_field _ _ 4 (by omega)] at hv167_4
                   replace hv167_4 := Option.some.inj (hv167_4.symm.trans hx167_4)
                   injection hv167_4 with hva_ hvn_ hvc_
                   rw [hva_] at ge167_4
                   rw [hvc_] at ul167_4
                   have HL167_4 := Am (show Kd.V (Kd.int .i64) 3 _ w.heap.size _ _ ((rd_T29 l0 t158).f1) from Kd.V_mk ul167_4 ge167_4)
                   clear hva_ hvn_ hvc_ ge167_4 ul167_4
                   clear hcc167 hce167
                   have HR167_4 := Am hi167_4
                   have HC167_4 := Am hl167_4
                   clear hi167_4 hl167_4
                   replace p167 := eq_true p167
                   replace q167 := eq_true q167
                   obtain ⟨Ao51, co51, eo51⟩ := Kd.R_slice HO_11.out
                   subst eo51
                   go_wp2_with (first | (go_at_call 11; (with_reducible refine (switchboardref02_Same.calls kj28 _ _ t159 _ _ ((rd_T29 l0 t158).f1) true _ ?side1 ?side2 ?side3 ?side4 A45.out).mono ?_); (case side1 => repeat (first | exact (Kd.R_reads' HO_11.out).2.2 | (with_reducible refine Kd.C_alloc ?_ _) | (with_reducible refine Kd.C_drewN ?_ _) | (with_reducible refine Kd.C_drew ?_))); (case side2 => exact (Kd.R_reads' HO_11.out).2.1); (case side3 => repeat (first | exact (by repeat (first | (with_reducible exact HR167_4.out) | (with_reducible refine Kd.C_alloc ?_ _) | (with_reducible refine Kd.C_drewN ?_ _) | (with_reducible refine Kd.C_drew ?_) | exact HR167_4.out)) | (with_reducible refine Kd.C_alloc ?_ _) | (with_reducible refine Kd.C_drewN ?_ _) | (with_reducible refine Kd.C_drew ?_))); (case side4 => exact HC167_4.out); rintro e w' ⟨rfl, ⟨nd, rfl⟩⟩))
                   go_meet
                   case rel => exact ⟨_, (false), (by first | rfl | (simp; done) | (simp [*]; done)), H', ⟨by have := HJ3.out; have := HK2.out; have := HJ28.out; first | omega | exact Nat.le_refl _⟩, ⟨by (with_reducible repeat (first | apply Kd.V_alloc | apply Kd.V_drewN | apply Kd.V_drew)); exact Kd.V_mono HO_0.out (fun _ hk => ⟨hk.1, hk.2.2⟩)⟩, ⟨by (with_reducible repeat (first | apply Kd.V_alloc | apply Kd.V_drewN | apply Kd.V_drew)); exact Kd.V_mono HO_13.out (fun _ hk => ⟨hk.1, hk.2.2⟩)⟩, ⟨by (with_reducible repeat (first | refine blk_drewN ?_ _ | refine blk_drew ?_ | refine blk_alloc ?_ _)); exact BK150.out⟩, ⟨by repeat (first | (with_reducible first | exact HB.out | apply below_alloc | apply pw_below_drewN | apply below_drew1 | refine below_set ?_ GE150.out) | exact HB.out)⟩⟩
                 ·
                  replace c46 := Bool.eq_false_iff.mpr c46
                  subst c46
                  have H1 : (switchboardlaw12_LedgerExact.j3 kj28 l0 l2 t163 true a1_0 a1_1 a1_2 a1_3) = some true := by rw [if_neg (show ¬ (false = true) by decide)] at H; exact H
                  clear H
                  have H := H1
                  clear H1
                  have H' := Am H
                  clear H
                  obtain ⟨Ao52, co52, eo52⟩ := Kd.V_slice HO_13.out
                  subst eo52
                  have p167 : 0 ≤ (t158 : Int) := of_decide_eq_true (by first | (with_reducible assumption) | assumption)
                  have q167 : t158 < (l0.length : Int) := of_decide_eq_true (by first | (with_reducible assumption) | assumption)
                  obtain ⟨ad167, A167_4, c167_4, e167, hx167_0, hx167_1, hx167_2, hx167_3, hx167_4, hl167_4, hi167_4⟩ := at_T29 (Kd.V_reads' HO_0.out).2.2 t158 p167 q167
                  cases e167
                  obtain ⟨ce167, hce167, hMe167, hcc167⟩ := Kd.V_get HO_0.out z29 t158 p167 (by first | exact q167 | exact of_decide_eq_true (by first | (with_reducible assumption) | assumption) | (have e_ := (Kd.V_reads' HO_0.out).1; omega))
                  obtain ⟨ua167_4, uc167_4, rfl, ul167_4, ge167_4⟩ := k29_openF hMe167
                  have hv167_4 := hcc167 4 _ rfl
                  rw [add_field _ _ 4 (by omega)] at hv167_4
                  replace hv167_4 := Option.some.inj (hv167_4.symm.trans hx167_4)
                  injection hv167_4 with hva_ hvn_ hvc_
                  rw [hva_] at ge167_4
                  rw [hvc_] at ul167_4
                  have HL167_4 := Am (show Kd.V (Kd.int .i64) 3 _ w.heap.size _ _ ((rd_T29 l0 t158).f1) from Kd.V_mk ul167_4 ge167_4)
                  clear hva_ hvn_ hvc_ ge167_4 ul167_4
                  clear hcc167 hce167
                  have HR167_4 := Am hi167_4
                  have HC167_4 := Am hl167_4
                  clear hi167_4 hl167_4
                  replace p167 := eq_true p167
                  replace q167 := eq_true q167
                  obtain ⟨Ao53, co53, eo53⟩ := Kd.R_slice HO_11.out
                  subst eo53
                  go_wp2_with (first | (go_at_call 11; (with_reducible refine (switchboardref02_Same.calls kj28 _ _ t159 _ _ ((rd_T29 l0 t158).f1) false _ ?side1 ?side2 ?side3 ?side4 A45.out).mono ?_); (case side1 => repeat (first | exact (Kd.R_reads' HO_11.out).2.2 | (with_reducible refine Kd.C_alloc ?_ _) | (with_reducible refine Kd.C_drewN ?_ _) | (with_reducible refine Kd.C_drew ?_))); (case side2 => exact (Kd.R_reads' HO_11.out).2.1); (case side3 => repeat (first | exact (by repeat (first | (with_reducible exact HR167_4.out) | (with_reducible refine Kd.C_alloc ?_ _) | (with_reducible refine Kd.C_drewN ?_ _) | (with_reducible refine Kd.C_drew ?_) | exact HR167_4.out)) | (with_reducible refine Kd.C_alloc ?_ _) | (with_reducible refine Kd.C_drewN ?_ _) | (with_reducible refine Kd.C_drew ?_))); (case side4 => exact HC167_4.out); rintro e w' ⟨rfl, ⟨nd, rfl⟩⟩))
                  go_meet
                  case rel => exact ⟨_, (true), (by first | rfl | (simp; done) | (simp [*]; done)), H', ⟨by have := HJ3.out; have := HK2.out; have := HJ28.out; first | omega | exact Nat.le_refl _⟩, ⟨by (with_reducible repeat (first | apply Kd.V_alloc | apply Kd.V_drewN | apply Kd.V_drew)); exact Kd.V_mono HO_0.out (fun _ hk => ⟨hk.1, hk.2.2⟩)⟩, ⟨by (with_reducible repeat (first | apply Kd.V_alloc | apply Kd.V_drewN | apply Kd.V_drew)); exact Kd.V_mono HO_13.out (fun _ hk => ⟨hk.1, hk.2.2⟩)⟩, ⟨by (with_reducible repeat (first | refine blk_drewN ?_ _ | refine blk_drew ?_ | refine blk_alloc ?_ _)); exact BK150.out⟩, ⟨by repeat (first | (with_reducible first | exact HB.out | apply below_alloc | apply pw_below_drewN | apply below_drew1 | refine below_set ?_ GE150.out) | exact HB.out)⟩⟩
                ·
                 rw [if_neg c44] at H
                 exact absurd H (by simp)
               ·
                rw [if_neg c43] at H
                exact absurd H (by simp)
              ·
               rw [if_neg c42] at H
               have c42b0 : decide (0 ≤ t158) = false := decide_eq_false c42
               obtain rfl : t162 = false := by have h_ := c39b0; rw [show decide (t158 ≥ 0) = false from decide_eq_false c42] at h_; revert h_; cases t162 <;> simp
               obtain rfl : t166 = true := by have h_ := c40b0; revert h_; cases t166 <;> simp
               clear c42
               by_cases c54 : t158 < 0
               ·
                rw [if_pos c54] at H
                have c54b0 : decide (t158 < 0) = true := decide_eq_true c54
                clear c54
                have H' := Am H
                clear H
                obtain ⟨Ao55, co55, eo55⟩ := Kd.V_slice HO_13.out
                subst eo55
                obtain ⟨Ao56, co56, eo56⟩ := Kd.R_slice HO_11.out
                subst eo56
                go_wp2
                go_meet
                case rel => exact ⟨_, (((t159.length : Int) != 0)), (by first | rfl | (simp; done) | (simp [*]; done)), H', ⟨by have := HJ3.out; have := HK2.out; have := HJ28.out; first | omega | exact Nat.le_refl _⟩, ⟨by (with_reducible repeat (first | apply Kd.V_alloc | apply Kd.V_drewN | apply Kd.V_drew)); exact Kd.V_mono HO_0.out (fun _ hk => ⟨hk.1, hk.2.2⟩)⟩, ⟨by (with_reducible repeat (first | apply Kd.V_alloc | apply Kd.V_drewN | apply Kd.V_drew)); exact Kd.V_mono HO_13.out (fun _ hk => ⟨hk.1, hk.2.2⟩)⟩, ⟨by (with_reducible repeat (first | refine blk_drewN ?_ _ | refine blk_drew ?_ | refine blk_alloc ?_ _)); exact BK150.out⟩, ⟨by repeat (first | (with_reducible first | exact HB.out | apply below_alloc | apply pw_below_drewN | apply below_drew1 | refine below_set ?_ GE150.out) | exact HB.out)⟩⟩
               ·
                rw [if_neg c54] at H
                have c54b0 : decide (t158 < 0) = false := decide_eq_false c54
                clear c54
                have H' := Am H
                clear H
                obtain ⟨Ao57, co57, eo57⟩ := Kd.V_slice HO_13.out
                subst eo57
                go_wp2
                go_meet
                case rel => exact ⟨_, (false), (by first | rfl | (simp; done) | (simp [*]; done)), H', ⟨by have := HJ3.out; have := HK2.out; have := HJ28.out; first | omega | exact Nat.le_refl _⟩, ⟨by (with_reducible repeat (first | apply Kd.V_alloc | apply Kd.V_drewN | apply Kd.V_drew)); exact Kd.V_mono HO_0.out (fun _ hk => ⟨hk.1, hk.2.2⟩)⟩, ⟨by (with_reducible repeat (first | apply Kd.V_alloc | apply Kd.V_drewN | apply Kd.V_drew)); exact Kd.V_mono HO_13.out (fun _ hk => ⟨hk.1, hk.2.2⟩)⟩, ⟨by (with_reducible repeat (first | refine blk_drewN ?_ _ | refine blk_drew ?_ | refine blk_alloc ?_ _)); exact BK150.out⟩, ⟨by repeat (first | (with_reducible first | exact HB.out | apply below_alloc | apply pw_below_drewN | apply below_drew1 | refine below_set ?_ GE150.out) | exact HB.out)⟩⟩
             ·
              rw [if_neg c41] at H
              have c41b0 : ((t163.length : Int) == x15_28) = false := beq_eq_false_iff_ne.mpr c41
              have c41b1 : ((t163.length : Int) != x15_28) = true := bne_iff_ne.mpr c41
              exact absurd H (by cases kj28 <;> simp [switchboardlaw12_LedgerExact.j3])
          case rest =>
           clear HC38
           try clear c1
           try clear p1
           try clear q1
           try clear hx1
           try clear c2
           try clear p2
           try clear c3
           try clear c4
           try clear c5
           try clear c6
           try clear c6b0
           try clear c6b1
           try clear p6
           try clear c7
           try clear c8
           try clear c9
           try clear c10
           try clear c10b0
           try clear c11
           try clear c11b0
           try clear c12
           try clear c12b0
           try clear c13
           try clear c13b0
           try clear c13b1
           try clear c15
           try clear p15
           try clear q15
           try clear hx15
           try clear c16
           try clear p16
           try clear q16
           try clear hx16
           try clear c19
           try clear c21
           try clear c37
           try clear c37b0
           try clear c39
           try clear c39b0
           try clear c39b1
           try clear c39b2
           try clear c40
           try clear c40b0
           try clear c40b1
           try clear c40b2
           try clear c41
           try clear c41b0
           try clear c41b1
           try clear c42
           try clear c42b0
           try clear c43
           try clear c43b0
           try clear c44
           try clear c44b0
           try clear c46
           try clear c47
           try clear c47b0
           try clear c54
           try clear c54b0
           try clear hcz17_0
           try clear hcz17_1
           try clear hcz17_2
           try clear hcz17_3
           try clear hcz17_4
           try clear hcz22_0
           try clear hcz22_1
           try clear hcz22_2
           try clear hcz22_3
           try clear hcz22_4
           try clear hcz24_0
           try clear hcz24_1
           try clear hcz24_2
           try clear hcz24_3
           try clear hcz24_4
           try clear hcz30_0
           try clear hcz30_1
           try clear hcz30_2
           try clear hcz30_3
           try clear hcz33_0
           try clear hcz33_1
           try clear hcz33_2
           try clear hcz33_3
           try clear hcz35_0
           try clear hcz35_1
           try clear hcz35_2
           try clear hcz35_3
           try clear hfz17_0
           try clear hfz17_1
           try clear hfz17_2
           try clear hfz17_3
           try clear hfz17_4
           try clear hfz22_0
           try clear hfz22_1
           try clear hfz22_2
           try clear hfz22_3
           try clear hfz22_4
           try clear hfz24_0
           try clear hfz24_1
           try clear hfz24_2
           try clear hfz24_3
           try clear hfz24_4
           try clear hfz30_0
           try clear hfz30_1
           try clear hfz30_2
           try clear hfz30_3
           try clear hfz33_0
           try clear hfz33_1
           try clear hfz33_2
           try clear hfz33_3
           try clear hfz35_0
           try clear hfz35_1
           try clear hfz35_2
           try clear hfz35_3
           try clear hx152_0
           try clear hx152_1
           try clear hx152_2
           try clear hx152_3
           try clear hx152_4
           try clear hx167_0
           try clear hx167_1
           try clear hx167_2
           try clear hx167_3
           try clear hx167_4
           try clear p1
           try clear p15
           try clear p152
           try clear p167
           try clear p2
           try clear p6
           try clear q1
           try clear q15
           try clear q152
           try clear q167
           obtain ⟨kq, x106_37, rfl, HA, HJ37, HO_0, HO_13, BK150, HB⟩ := hcut
           cases kq with
           | zero => exact absurd HA.out (by simp [switchboardlaw12_LedgerExact.j3])
           | succ kj37 =>
            have H := HA.out
            clear HA
            simp only [switchboardlaw12_LedgerExact.j3] at H
            by_cases c59 : x106_37 = true
            ·
             subst c59
             have H1 : (some false) = some true := by rw [if_pos rfl] at H; exact H
             clear H
             have H := H1
             clear H1
             exact absurd H (by simp)
            ·
             replace c59 := Bool.eq_false_iff.mpr c59
             subst c59
             have H1 : (switchboardlaw12_LedgerExact.l1 kj37 l0 l2 t163 (t163.length : Int) 0 a1_0 a1_1 a1_2 a1_3) = some true := by rw [if_neg (show ¬ (false = true) by decide)] at H; exact H
             clear H
             have H := H1
             clear H1
             have H' := Am H
             clear H
             obtain ⟨Ao60, co60, eo60⟩ := Kd.V_slice HO_13.out
             subst eo60
             go_wp2
             go_loopg [109] kj37 (fun kq v109 w' => ∃ (x109_5 : Int), v109 = .int .i64 x109_5 ∧ Aside0 (switchboardlaw12_LedgerExact.l1 kq l0 l2 t163 (t163.length : Int) x109_5 a1_0 a1_1 a1_2 a1_3 = some true) ∧ Aside0 (kq ≤ kj37) ∧ Aside0 (Kd.V k29 29 w' w.heap.size (fun k_ => (P0_ k_ ∨ w.heap.size ≤ k_) ∧ k_ ≠ gb150) (.slice A0 l0.length c0) l0) ∧ Aside0 (Kd.V k29 29 w' w.heap.size (fun k_ => (P0_ k_ ∨ w.heap.size ≤ k_) ∧ k_ ≠ gb150) (.slice Ao60 t163.length co60) t163) ∧ Aside0 (w'.heap[gb150]? = some (.cells #[.int .i64 a1_0, .int .i64 a1_1, .int .i64 a1_2, .int .i64 a1_3] 24 (0, 0))) ∧ Aside0 (Below w.heap.size w w'))
             case atStart => exact ⟨(0), (by first | rfl | (simp; done) | (simp [*]; done)), H', ⟨Nat.le_refl _⟩, ⟨by (with_reducible repeat (first | apply Kd.V_alloc | apply Kd.V_drewN | apply Kd.V_drew)); exact HO_0.out⟩, ⟨by (with_reducible repeat (first | apply Kd.V_alloc | apply Kd.V_drewN | apply Kd.V_drew)); exact HO_13.out⟩, ⟨by (with_reducible repeat (first | refine blk_drewN ?_ _ | refine blk_drew ?_ | refine blk_alloc ?_ _)); exact BK150.out⟩, ⟨by repeat (first | (with_reducible first | exact HB.out | apply below_alloc | apply pw_below_drewN | apply below_drew1 | refine below_set ?_ GE150.out) | exact HB.out)⟩⟩
             case round =>
              clear H'
              try clear c1
              try clear p1
              try clear q1
              try clear hx1
              try clear c2
              try clear p2
              try clear c3
              try clear c4
              try clear c5
              try clear c6
              try clear c6b0
              try clear c6b1
              try clear p6
              try clear c7
              try clear c8
              try clear c9
              try clear c10
              try clear c10b0
              try clear c11
              try clear c11b0
              try clear c12
              try clear c12b0
              try clear c13
              try clear c13b0
              try clear c13b1
              try clear c15
              try clear p15
              try clear q15
              try clear hx15
              try clear c16
              try clear p16
              try clear q16
              try clear hx16
              try clear c19
              try clear c21
              try clear c37
              try clear c37b0
              try clear c39
              try clear c39b0
              try clear c39b1
              try clear c39b2
              try clear c40
              try clear c40b0
              try clear c40b1
              try clear c40b2
              try clear c41
              try clear c41b0
              try clear c41b1
              try clear c42
              try clear c42b0
              try clear c43
              try clear c43b0
              try clear c44
              try clear c44b0
              try clear c46
              try clear c47
              try clear c47b0
              try clear c54
              try clear c54b0
              try clear c59
              try clear hcz17_0
              try clear hcz17_1
              try clear hcz17_2
              try clear hcz17_3
              try clear hcz17_4
              try clear hcz22_0
              try clear hcz22_1
              try clear hcz22_2
              try clear hcz22_3
              try clear hcz22_4
              try clear hcz24_0
              try clear hcz24_1
              try clear hcz24_2
              try clear hcz24_3
              try clear hcz24_4
              try clear hcz30_0
              try clear hcz30_1
              try clear hcz30_2
              try clear hcz30_3
              try clear hcz33_0
              try clear hcz33_1
              try clear hcz33_2
              try clear hcz33_3
              try clear hcz35_0
              try clear hcz35_1
              try clear hcz35_2
              try clear hcz35_3
              try clear hfz17_0
              try clear hfz17_1
              try clear hfz17_2
              try clear hfz17_3
              try clear hfz17_4
              try clear hfz22_0
              try clear hfz22_1
              try clear hfz22_2
              try clear hfz22_3
              try clear hfz22_4
              try clear hfz24_0
              try clear hfz24_1
              try clear hfz24_2
              try clear hfz24_3
              try clear hfz24_4
              try clear hfz30_0
              try clear hfz30_1
              try clear hfz30_2
              try clear hfz30_3
              try clear hfz33_0
              try clear hfz33_1
              try clear hfz33_2
              try clear hfz33_3
              try clear hfz35_0
              try clear hfz35_1
              try clear hfz35_2
              try clear hfz35_3
              try clear hx152_0
              try clear hx152_1
              try clear hx152_2
              try clear hx152_3
              try clear hx152_4
              try clear hx167_0
              try clear hx167_1
              try clear hx167_2
              try clear hx167_3
              try clear hx167_4
              try clear p1
              try clear p15
              try clear p152
              try clear p16
              try clear p167
              try clear p2
              try clear p6
              try clear q1
              try clear q15
              try clear q152
              try clear q16
              try clear q167
              obtain ⟨x109_5, rfl, HA, HK5, HO_0, HO_107, BK150, HB⟩ := hrel
              cases gk with
              | zero => exact absurd HA.out (by simp [switchboardlaw12_LedgerExact.l1])
              | succ k5 =>
               have H := HA.out
               clear HA
               simp only [switchboardlaw12_LedgerExact.l1] at H
               by_cases c61 : x109_5 < (t163.length : Int)
               ·
                rw [if_pos c61] at H
                have c61b0 : decide (x109_5 < (t163.length : Int)) = true := decide_eq_true c61
                clear c61
                by_cases c62 : 0 ≤ x109_5
                ·
                 rw [if_pos c62] at H
                 have c62b0 : decide (0 ≤ x109_5) = true := decide_eq_true c62
                 clear c62
                 by_cases c63 : x109_5 < (t163.length : Int)
                 ·
                  rw [if_pos c63] at H
                  have c63b0 : decide (x109_5 < (t163.length : Int)) = true := decide_eq_true c63
                  clear c63
                  by_cases c64 : x109_5 < (l0.length : Int)
                  ·
                   rw [if_pos c64] at H
                   have c64b0 : decide (x109_5 < (l0.length : Int)) = true := decide_eq_true c64
                   clear c64
                   by_cases c65 : (!(((rd_T29 t163 x109_5).f0.f0) == ((rd_T29 l0 x109_5).f0.f0)) || (!(((rd_T29 t163 x109_5).f0.f1) == ((rd_T29 l0 x109_5).f0.f1)) || (!(((rd_T29 t163 x109_5).f0.f2) == ((rd_T29 l0 x109_5).f0.f2)) || (!(((rd_T29 t163 x109_5).f0.f3) == ((rd_T29 l0 x109_5).f0.f3)))))) = true
                   ·
                    rw [if_pos c65] at H
                    have c65b0 : (!(((rd_T29 t163 x109_5).f0.f0) == ((rd_T29 l0 x109_5).f0.f0)) || (!(((rd_T29 t163 x109_5).f0.f1) == ((rd_T29 l0 x109_5).f0.f1)) || (!(((rd_T29 t163 x109_5).f0.f2) == ((rd_T29 l0 x109_5).f0.f2)) || (!(((rd_T29 t163 x109_5).f0.f3) == ((rd_T29 l0 x109_5).f0.f3)))))) = true := c65
                    clear c65
                    exact absurd H (by simp)
                   ·
                    rw [if_neg c65] at H
                    have c65b0 : (!(((rd_T29 t163 x109_5).f0.f0) == ((rd_T29 l0 x109_5).f0.f0)) || (!(((rd_T29 t163 x109_5).f0.f1) == ((rd_T29 l0 x109_5).f0.f1)) || (!(((rd_T29 t163 x109_5).f0.f2) == ((rd_T29 l0 x109_5).f0.f2)) || (!(((rd_T29 t163 x109_5).f0.f3) == ((rd_T29 l0 x109_5).f0.f3)))))) = false := by simpa using c65
                    clear c65
                    replace H := Option.bind_eq_some_iff.mp H
                    obtain ⟨t174, A660, H⟩ := H
                    replace H : (if t174 = true then (if x109_5 = (l0.length : Int) then (if (!(((rd_T29 t163 x109_5).f0.f0) == a1_0) || (!(((rd_T29 t163 x109_5).f0.f1) == a1_1) || (!(((rd_T29 t163 x109_5).f0.f2) == a1_2) || (!(((rd_T29 t163 x109_5).f0.f3) == a1_3))))) = true then (some false) else ((switchboardref02_Same.f k5 ((rd_T29 t163 x109_5).f1) l2).bind fun t175 => (if t175 = true then (switchboardlaw12_LedgerExact.l1 k5 l0 l2 t163 (t163.length : Int) (wrap64 (x109_5 + 1)) a1_0 a1_1 a1_2 a1_3) else (some false)))) else (switchboardlaw12_LedgerExact.l1 k5 l0 l2 t163 (t163.length : Int) (wrap64 (x109_5 + 1)) a1_0 a1_1 a1_2 a1_3)) else (some false)) = some true := H
                    have A66 := Am A660
                    clear A660
                    by_cases c67 : t174 = true
                    ·
                     subst c67
                     have H1 : (if x109_5 = (l0.length : Int) then (if (!(((rd_T29 t163 x109_5).f0.f0) == a1_0) || (!(((rd_T29 t163 x109_5).f0.f1) == a1_1) || (!(((rd_T29 t163 x109_5).f0.f2) == a1_2) || (!(((rd_T29 t163 x109_5).f0.f3) == a1_3))))) = true then (some false) else ((switchboardref02_Same.f k5 ((rd_T29 t163 x109_5).f1) l2).bind fun t175 => (if t175 = true then (switchboardlaw12_LedgerExact.l1 k5 l0 l2 t163 (t163.length : Int) (wrap64 (x109_5 + 1)) a1_0 a1_1 a1_2 a1_3) else (some false)))) else (switchboardlaw12_LedgerExact.l1 k5 l0 l2 t163 (t163.length : Int) (wrap64 (x109_5 + 1)) a1_0 a1_1 a1_2 a1_3)) = some true := by rw [if_pos rfl] at H; exact H
                     clear H
                     have H := H1
                     clear H1
                     by_cases c68 : x109_5 = (l0.length : Int)
                     ·
                      exact absurd c68 (by have h_ := of_decide_eq_true c64b0; omega)
                     ·
                      rw [if_neg c68] at H
                      have c68b0 : (x109_5 == (l0.length : Int)) = false := beq_eq_false_iff_ne.mpr c68
                      have c68b1 : (x109_5 != (l0.length : Int)) = true := bne_iff_ne.mpr c68
                      have H' := Am H
                      clear H
                      have p170 : 0 ≤ (x109_5 : Int) := of_decide_eq_true (by first | (with_reducible assumption) | assumption)
                      have q170 : x109_5 < (t163.length : Int) := of_decide_eq_true (by first | (with_reducible assumption) | assumption)
                      obtain ⟨ad170, A170_4, c170_4, e170, hx170_0, hx170_1, hx170_2, hx170_3, hx170_4, hl170_4, hi170_4⟩ := at_T29 (Kd.V_reads' HO_107.out).2.2 x109_5 p170 q170
                      cases e170
                      obtain ⟨ce170, hce170, hMe170, hcc170⟩ := Kd.V_get HO_107.out z29 x109_5 p170 (by first | exact q170 | exact of_decide_eq_true (by first | (with_reducible assumption) | assumption) | (have e_ := (Kd.V_reads' HO_107.out).1; omega))
                      obtain ⟨ua170_4, uc170_4, rfl, ul170_4, ge170_4⟩ := k29_openF hMe170
                      have hv170_4 := hcc170 4 _ rfl
                      rw [add_field _ _ 4 (by omega)] at hv170_4
                      replace hv170_4 := Option.some.inj (hv170_4.symm.trans hx170_4)
                      injection hv170_4 with hva_ hvn_ hvc_
                      rw [hva_] at ge170_4
                      rw [hvc_] at ul170_4
                      have HL170_4 := Am (show Kd.V (Kd.int .i64) 3 _ w.heap.size _ _ ((rd_T29 t163 x109_5).f1) from Kd.V_mk ul170_4 ge170_4)
                      clear hva_ hvn_ hvc_ ge170_4 ul170_4
                      clear hcc170 hce170
                      have HR170_4 := Am hi170_4
                      have HC170_4 := Am hl170_4
                      clear hi170_4 hl170_4
                      replace p170 := eq_true p170
                      replace q170 := eq_true q170
                      try go_wp2_with (first | ((with_reducible refine gate_dst (N := 17) rfl ?_); (try (refine gate_guard (by rfl) ?_; dsimp only)); refine box_event ?hg (N := 17) ?hd (cs := #[.int .i64 0, .int .i64 0, .int .i64 0, .int .i64 0, .slice none 0 0]) (t := 29) ?hr ?_; (case hd => rfl); (case hg => rfl); (case hr => first | (go_simp; done) | (go_simp; rfl)); intro gb171 hg w77 hbox hb; have n0_ := Am (Kd.V_below (Kd.V_elderB (by (with_reducible repeat (first | apply Kd.V_alloc | apply Kd.V_drewN | apply Kd.V_drew)); exact HO_0.out) gb171 (Nat.le_of_eq hg.symm)) hb); have n1_ := Am (Kd.V_below (Kd.V_elderB (by (with_reducible repeat (first | apply Kd.V_alloc | apply Kd.V_drewN | apply Kd.V_drew)); exact HO_107.out) gb171 (Nat.le_of_eq hg.symm)) hb); have n2_ := Am (Kd.V_below (Kd.V_elderB (by (with_reducible repeat (first | apply Kd.V_alloc | apply Kd.V_drewN | apply Kd.V_drew)); exact HL170_4.out) gb171 (Nat.le_of_eq hg.symm)) hb); have n3_ := Am (blk_below (g := gb150) (o := .cells #[.int .i64 a1_0, .int .i64 a1_1, .int .i64 a1_2, .int .i64 a1_3] 24 (0, 0)) (by (with_reducible repeat (first | refine blk_drewN ?_ _ | refine blk_drew ?_ | refine blk_alloc ?_ _)); exact BK150.out) hb); have n4_ := Am (Kd.C_below (by repeat (first | (with_reducible exact HR170_4.out) | (with_reducible refine Kd.C_alloc ?_ _) | (with_reducible refine Kd.C_drewN ?_ _) | (with_reducible refine Kd.C_drew ?_) | exact HR170_4.out)) hb); have n5_ := Am (below_step (by repeat (first | (with_reducible first | exact HB.out | apply below_alloc | apply pw_below_drewN | apply below_drew1 | refine below_set ?_ GE150.out) | exact HB.out)) hb); have n6_ := Am (hbox); have n7_ := Am ((by rw [hg]; exact (below_size (by repeat (first | (with_reducible first | exact HB.out | apply below_alloc | apply pw_below_drewN | apply below_drew1 | refine below_set ?_ GE150.out) | exact HB.out))) : w.heap.size ≤ gb171)); have n8_ := Am ((by rw [hg]; exact (below_size (by repeat (first | (with_reducible first | exact HB.out | apply below_alloc | apply pw_below_drewN | apply below_drew1 | refine below_set ?_ GE150.out) | exact HB.out))) : w.heap.size ≤ gb171)); have n9_ := Am ((by rw [hg]; exact Nat.ne_of_lt (blk_lt (g := gb150) (o := .cells #[.int .i64 a1_0, .int .i64 a1_1, .int .i64 a1_2, .int .i64 a1_3] 24 (0, 0)) (by (with_reducible repeat (first | refine blk_drewN ?_ _ | refine blk_drew ?_ | refine blk_alloc ?_ _)); exact BK150.out)) : gb150 ≠ gb171)); have n10_ := Am ((by rw [hg]; exact Nat.ne_of_gt (blk_lt (g := gb150) (o := .cells #[.int .i64 a1_0, .int .i64 a1_1, .int .i64 a1_2, .int .i64 a1_3] 24 (0, 0)) (by (with_reducible repeat (first | refine blk_drewN ?_ _ | refine blk_drew ?_ | refine blk_alloc ?_ _)); exact BK150.out)) : gb171 ≠ gb150)); clear HO_0; clear HO_107; clear HL170_4; clear BK150; clear HR170_4; clear HB; have HO_0 := n0_; have HO_107 := n1_; have HL170_4 := n2_; have BK150 := n3_; have HR170_4 := n4_; have HB := n5_; have BK171 := n6_; have GW171 := n7_; have GE171 := n8_; have NB150_171 := n9_; have NB171_150 := n10_; clear n0_ n1_ n2_ n3_ n4_ n5_ n6_ n7_ n8_ n9_ n10_; clear hb hbox hg; have hnb78 := NB171_150.out; have hnc78 := NB150_171.out; have hcz79_0 : w77.cell? ⟨gb171, 0, none⟩ = some (.int .i64 0) := (blk_cell BK171.out 0).trans rfl; have hcz79_1 : w77.cell? ⟨gb171, 1, none⟩ = some (.int .i64 0) := (blk_cell BK171.out 1).trans rfl; have hcz79_2 : w77.cell? ⟨gb171, 2, none⟩ = some (.int .i64 0) := (blk_cell BK171.out 2).trans rfl; have hcz79_3 : w77.cell? ⟨gb171, 3, none⟩ = some (.int .i64 0) := (blk_cell BK171.out 3).trans rfl; have hcz79_4 : w77.cell? ⟨gb171, 4, none⟩ = some (.slice none 0 0) := (blk_cell BK171.out 4).trans rfl; have hfz79_0 := blk_frozen BK171.out 0; have hfz79_1 := blk_frozen BK171.out 1; have hfz79_2 := blk_frozen BK171.out 2; have hfz79_3 := blk_frozen BK171.out 3; have hfz79_4 := blk_frozen BK171.out 4))
                      have n0_ : Aside0 (Kd.V k29 29 (((((w77.setCell ⟨gb171, 0, none⟩ (.int .i64 ((rd_T29 t163 x109_5).f0.f0))).setCell ⟨gb171, 1, none⟩ (.int .i64 ((rd_T29 t163 x109_5).f0.f1))).setCell ⟨gb171, 2, none⟩ (.int .i64 ((rd_T29 t163 x109_5).f0.f2))).setCell ⟨gb171, 3, none⟩ (.int .i64 ((rd_T29 t163 x109_5).f0.f3))).setCell ⟨gb171, 4, none⟩ (.slice A170_4 ((rd_T29 t163 x109_5).f1).length c170_4)) w.heap.size (fun k_ => (P0_ k_ ∨ w.heap.size ≤ k_) ∧ k_ ≠ gb150 ∧ k_ ≠ gb171) (.slice A0 l0.length c0) l0) := ⟨by (with_reducible repeat (first | apply Kd.V_alloc | apply Kd.V_drewN | apply Kd.V_drew)); exact Kd.V_mono (Kd.V_far (p := ⟨gb171, 4, none⟩) (Kd.V_far (p := ⟨gb171, 3, none⟩) (Kd.V_far (p := ⟨gb171, 2, none⟩) (Kd.V_far (p := ⟨gb171, 1, none⟩) (Kd.V_far (p := ⟨gb171, 0, none⟩) (Kd.V_mono HO_0.out (fun k_ hk => (⟨hk, hk.2⟩ : _ ∧ k_ ≠ gb171))) (fun _ hk => hk.2) (.int .i64 ((rd_T29 t163 x109_5).f0.f0))) (fun _ hk => hk.2) (.int .i64 ((rd_T29 t163 x109_5).f0.f1))) (fun _ hk => hk.2) (.int .i64 ((rd_T29 t163 x109_5).f0.f2))) (fun _ hk => hk.2) (.int .i64 ((rd_T29 t163 x109_5).f0.f3))) (fun _ hk => hk.2) (.slice A170_4 ((rd_T29 t163 x109_5).f1).length c170_4)) (fun _ hk => ⟨hk.1.1.1, ⟨hk.1.1.2, hk.1.2⟩⟩)⟩
                      have n1_ : Aside0 (Kd.V k29 29 (((((w77.setCell ⟨gb171, 0, none⟩ (.int .i64 ((rd_T29 t163 x109_5).f0.f0))).setCell ⟨gb171, 1, none⟩ (.int .i64 ((rd_T29 t163 x109_5).f0.f1))).setCell ⟨gb171, 2, none⟩ (.int .i64 ((rd_T29 t163 x109_5).f0.f2))).setCell ⟨gb171, 3, none⟩ (.int .i64 ((rd_T29 t163 x109_5).f0.f3))).setCell ⟨gb171, 4, none⟩ (.slice A170_4 ((rd_T29 t163 x109_5).f1).length c170_4)) w.heap.size (fun k_ => (P0_ k_ ∨ w.heap.size ≤ k_) ∧ k_ ≠ gb150 ∧ k_ ≠ gb171) (.slice (some ad170) t163.length co60) t163) := ⟨by (with_reducible repeat (first | apply Kd.V_alloc | apply Kd.V_drewN | apply Kd.V_drew)); exact Kd.V_mono (Kd.V_far (p := ⟨gb171, 4, none⟩) (Kd.V_far (p := ⟨gb171, 3, none⟩) (Kd.V_far (p := ⟨gb171, 2, none⟩) (Kd.V_far (p := ⟨gb171, 1, none⟩) (Kd.V_far (p := ⟨gb171, 0, none⟩) (Kd.V_mono HO_107.out (fun k_ hk => (⟨hk, hk.2⟩ : _ ∧ k_ ≠ gb171))) (fun _ hk => hk.2) (.int .i64 ((rd_T29 t163 x109_5).f0.f0))) (fun _ hk => hk.2) (.int .i64 ((rd_T29 t163 x109_5).f0.f1))) (fun _ hk => hk.2) (.int .i64 ((rd_T29 t163 x109_5).f0.f2))) (fun _ hk => hk.2) (.int .i64 ((rd_T29 t163 x109_5).f0.f3))) (fun _ hk => hk.2) (.slice A170_4 ((rd_T29 t163 x109_5).f1).length c170_4)) (fun _ hk => ⟨hk.1.1.1, ⟨hk.1.1.2, hk.1.2⟩⟩)⟩
                      have n2_ : Aside0 (Kd.V (Kd.int .i64) 3 (((((w77.setCell ⟨gb171, 0, none⟩ (.int .i64 ((rd_T29 t163 x109_5).f0.f0))).setCell ⟨gb171, 1, none⟩ (.int .i64 ((rd_T29 t163 x109_5).f0.f1))).setCell ⟨gb171, 2, none⟩ (.int .i64 ((rd_T29 t163 x109_5).f0.f2))).setCell ⟨gb171, 3, none⟩ (.int .i64 ((rd_T29 t163 x109_5).f0.f3))).setCell ⟨gb171, 4, none⟩ (.slice A170_4 ((rd_T29 t163 x109_5).f1).length c170_4)) w.heap.size (fun k_ => (P0_ k_ ∨ w.heap.size ≤ k_) ∧ k_ ≠ gb150 ∧ k_ ≠ gb171) (.slice A170_4 ((rd_T29 t163 x109_5).f1).length c170_4) ((rd_T29 t163 x109_5).f1)) := ⟨by (with_reducible repeat (first | apply Kd.V_alloc | apply Kd.V_drewN | apply Kd.V_drew)); exact Kd.V_mono (Kd.V_far (p := ⟨gb171, 4, none⟩) (Kd.V_far (p := ⟨gb171, 3, none⟩) (Kd.V_far (p := ⟨gb171, 2, none⟩) (Kd.V_far (p := ⟨gb171, 1, none⟩) (Kd.V_far (p := ⟨gb171, 0, none⟩) (Kd.V_mono HL170_4.out (fun k_ hk => (⟨hk, hk.2⟩ : _ ∧ k_ ≠ gb171))) (fun _ hk => hk.2) (.int .i64 ((rd_T29 t163 x109_5).f0.f0))) (fun _ hk => hk.2) (.int .i64 ((rd_T29 t163 x109_5).f0.f1))) (fun _ hk => hk.2) (.int .i64 ((rd_T29 t163 x109_5).f0.f2))) (fun _ hk => hk.2) (.int .i64 ((rd_T29 t163 x109_5).f0.f3))) (fun _ hk => hk.2) (.slice A170_4 ((rd_T29 t163 x109_5).f1).length c170_4)) (fun _ hk => ⟨hk.1.1.1, ⟨hk.1.1.2, hk.1.2⟩⟩)⟩
                      have n3_ : Aside0 ((((((w77.setCell ⟨gb171, 0, none⟩ (.int .i64 ((rd_T29 t163 x109_5).f0.f0))).setCell ⟨gb171, 1, none⟩ (.int .i64 ((rd_T29 t163 x109_5).f0.f1))).setCell ⟨gb171, 2, none⟩ (.int .i64 ((rd_T29 t163 x109_5).f0.f2))).setCell ⟨gb171, 3, none⟩ (.int .i64 ((rd_T29 t163 x109_5).f0.f3))).setCell ⟨gb171, 4, none⟩ (.slice A170_4 ((rd_T29 t163 x109_5).f1).length c170_4)).heap[gb150]? = some (.cells #[.int .i64 a1_0, .int .i64 a1_1, .int .i64 a1_2, .int .i64 a1_3] 24 (0, 0))) := ⟨by (with_reducible repeat (first | refine blk_drewN ?_ _ | refine blk_drew ?_ | refine blk_alloc ?_ _)); refine blk_far ?_ NB150_171.out _; (with_reducible repeat (first | refine blk_drewN ?_ _ | refine blk_drew ?_ | refine blk_alloc ?_ _)); refine blk_far ?_ NB150_171.out _; (with_reducible repeat (first | refine blk_drewN ?_ _ | refine blk_drew ?_ | refine blk_alloc ?_ _)); refine blk_far ?_ NB150_171.out _; (with_reducible repeat (first | refine blk_drewN ?_ _ | refine blk_drew ?_ | refine blk_alloc ?_ _)); refine blk_far ?_ NB150_171.out _; (with_reducible repeat (first | refine blk_drewN ?_ _ | refine blk_drew ?_ | refine blk_alloc ?_ _)); refine blk_far ?_ NB150_171.out _; (with_reducible repeat (first | refine blk_drewN ?_ _ | refine blk_drew ?_ | refine blk_alloc ?_ _)); exact BK150.out⟩
                      have n4_ : Aside0 ((((((w77.setCell ⟨gb171, 0, none⟩ (.int .i64 ((rd_T29 t163 x109_5).f0.f0))).setCell ⟨gb171, 1, none⟩ (.int .i64 ((rd_T29 t163 x109_5).f0.f1))).setCell ⟨gb171, 2, none⟩ (.int .i64 ((rd_T29 t163 x109_5).f0.f2))).setCell ⟨gb171, 3, none⟩ (.int .i64 ((rd_T29 t163 x109_5).f0.f3))).setCell ⟨gb171, 4, none⟩ (.slice A170_4 ((rd_T29 t163 x109_5).f1).length c170_4)).heap[gb171]? = some (.cells #[.int .i64 ((rd_T29 t163 x109_5).f0.f0), .int .i64 ((rd_T29 t163 x109_5).f0.f1), .int .i64 ((rd_T29 t163 x109_5).f0.f2), .int .i64 ((rd_T29 t163 x109_5).f0.f3), .slice A170_4 ((rd_T29 t163 x109_5).f1).length c170_4] 29 (0, 0))) := ⟨by (with_reducible repeat (first | refine blk_drewN ?_ _ | refine blk_drew ?_ | refine blk_alloc ?_ _)); refine blk_put (cs := #[.int .i64 ((rd_T29 t163 x109_5).f0.f0), .int .i64 ((rd_T29 t163 x109_5).f0.f1), .int .i64 ((rd_T29 t163 x109_5).f0.f2), .int .i64 ((rd_T29 t163 x109_5).f0.f3), .slice none 0 0]) ?_ 4 _ rfl; (with_reducible repeat (first | refine blk_drewN ?_ _ | refine blk_drew ?_ | refine blk_alloc ?_ _)); refine blk_put (cs := #[.int .i64 ((rd_T29 t163 x109_5).f0.f0), .int .i64 ((rd_T29 t163 x109_5).f0.f1), .int .i64 ((rd_T29 t163 x109_5).f0.f2), .int .i64 0, .slice none 0 0]) ?_ 3 _ rfl; (with_reducible repeat (first | refine blk_drewN ?_ _ | refine blk_drew ?_ | refine blk_alloc ?_ _)); refine blk_put (cs := #[.int .i64 ((rd_T29 t163 x109_5).f0.f0), .int .i64 ((rd_T29 t163 x109_5).f0.f1), .int .i64 0, .int .i64 0, .slice none 0 0]) ?_ 2 _ rfl; (with_reducible repeat (first | refine blk_drewN ?_ _ | refine blk_drew ?_ | refine blk_alloc ?_ _)); refine blk_put (cs := #[.int .i64 ((rd_T29 t163 x109_5).f0.f0), .int .i64 0, .int .i64 0, .int .i64 0, .slice none 0 0]) ?_ 1 _ rfl; (with_reducible repeat (first | refine blk_drewN ?_ _ | refine blk_drew ?_ | refine blk_alloc ?_ _)); refine blk_put (cs := #[.int .i64 0, .int .i64 0, .int .i64 0, .int .i64 0, .slice none 0 0]) ?_ 0 _ rfl; (with_reducible repeat (first | refine blk_drewN ?_ _ | refine blk_drew ?_ | refine blk_alloc ?_ _)); exact BK171.out⟩
                      have n5_ : Aside0 (Below w.heap.size w (((((w77.setCell ⟨gb171, 0, none⟩ (.int .i64 ((rd_T29 t163 x109_5).f0.f0))).setCell ⟨gb171, 1, none⟩ (.int .i64 ((rd_T29 t163 x109_5).f0.f1))).setCell ⟨gb171, 2, none⟩ (.int .i64 ((rd_T29 t163 x109_5).f0.f2))).setCell ⟨gb171, 3, none⟩ (.int .i64 ((rd_T29 t163 x109_5).f0.f3))).setCell ⟨gb171, 4, none⟩ (.slice A170_4 ((rd_T29 t163 x109_5).f1).length c170_4))) := ⟨by repeat (first | (with_reducible first | exact HB.out | apply below_alloc | apply pw_below_drewN | apply below_drew1 | refine below_set ?_ GE150.out | refine below_set ?_ GE171.out) | exact HB.out)⟩
                      (try clear HO_0)
                      (try clear HO_107)
                      (try clear HL170_4)
                      (try clear BK150)
                      (try clear BK171)
                      (try clear HB)
                      generalize (((((w77.setCell ⟨gb171, 0, none⟩ (.int .i64 ((rd_T29 t163 x109_5).f0.f0))).setCell ⟨gb171, 1, none⟩ (.int .i64 ((rd_T29 t163 x109_5).f0.f1))).setCell ⟨gb171, 2, none⟩ (.int .i64 ((rd_T29 t163 x109_5).f0.f2))).setCell ⟨gb171, 3, none⟩ (.int .i64 ((rd_T29 t163 x109_5).f0.f3))).setCell ⟨gb171, 4, none⟩ (.slice A170_4 ((rd_T29 t163 x109_5).f1).length c170_4)) = w80 at n0_ n1_ n2_ n3_ n4_ n5_ ⊢
                      have HO_0 := n0_
                      have HO_107 := n1_
                      have HL170_4 := n2_
                      have BK150 := n3_
                      have BK171 := n4_
                      have HB := n5_
                      clear n0_ n1_ n2_ n3_ n4_ n5_
                      have n0_ := Am (Kd.V_drew HO_0.out)
                      have n1_ := Am (Kd.V_drew HO_107.out)
                      have n2_ := Am (Kd.V_drew HL170_4.out)
                      have n3_ := Am (blk_drew BK150.out)
                      have n4_ := Am (blk_drew BK171.out)
                      have n5_ := Am (below_drew1 HB.out)
                      clear HO_0
                      clear HO_107
                      clear HL170_4
                      clear BK150
                      clear BK171
                      clear HB
                      have HO_0 := n0_
                      have HO_107 := n1_
                      have HL170_4 := n2_
                      have BK150 := n3_
                      have BK171 := n4_
                      have HB := n5_
                      clear n0_ n1_ n2_ n3_ n4_ n5_
                      have p172 : 0 ≤ (x109_5 : Int) := of_decide_eq_true (by first | (with_reducible assumption) | assumption)
                      have q172 : x109_5 < (l0.length : Int) := of_decide_eq_true (by first | (with_reducible assumption) | assumption)
                      obtain ⟨ad172, A172_4, c172_4, e172, hx172_0, hx172_1, hx172_2, hx172_3, hx172_4, hl172_4, hi172_4⟩ := at_T29 (Kd.V_reads' HO_0.out).2.2 x109_5 p172 q172
                      cases e172
                      obtain ⟨ce172, hce172, hMe172, hcc172⟩ := Kd.V_get HO_0.out z29 x109_5 p172 (by first | exact q172 | exact of_decide_eq_true (by first | (with_reducible assumption) | assumption) | (have e_ := (Kd.V_reads' HO_0.out).1; omega))
                      obtain ⟨ua172_4, uc172_4, rfl, ul172_4, ge172_4⟩ := k29_openF hMe172
                      have hv172_4 := hcc172 4 _ rfl
                      rw [add_field _ _ 4 (by omega)] at hv172_4
                      replace hv172_4 := Option.some.inj (hv172_4.symm.trans hx172_4)
                      injection hv172_4 with hva_ hvn_ hvc_
                      rw [hva_] at ge172_4
                      rw [hvc_] at ul172_4
                      have HL172_4 := Am (show Kd.V (Kd.int .i64) 3 _ w.heap.size _ _ ((rd_T29 l0 x109_5).f1) from Kd.V_mk ul172_4 ge172_4)
                      clear hva_ hvn_ hvc_ ge172_4 ul172_4
                      clear hcc172 hce172
                      have HR172_4 := Am hi172_4
                      have HC172_4 := Am hl172_4
                      clear hi172_4 hl172_4
                      replace p172 := eq_true p172
                      replace q172 := eq_true q172
                      have p173 : 0 ≤ (x109_5 : Int) := of_decide_eq_true (by first | (with_reducible assumption) | assumption)
                      have q173 : x109_5 < (l0.length : Int) := of_decide_eq_true (by first | (with_reducible assumption) | assumption)
                      obtain ⟨ad173, A173_4, c173_4, e173, hx173_0, hx173_1, hx173_2, hx173_3, hx173_4, hl173_4, hi173_4⟩ := at_T29 (Kd.V_reads' HO_0.out).2.2 x109_5 p173 q173
                      obtain rfl : ad172 = ad173 := (by injection e173)
                      obtain ⟨ce173, hce173, hMe173, hcc173⟩ := Kd.V_get HO_0.out z29 x109_5 p173 (by first | exact q173 | exact of_decide_eq_true (by first | (with_reducible assumption) | assumption) | (have e_ := (Kd.V_reads' HO_0.out).1; omega))
                      obtain ⟨ua173_4, uc173_4, rfl, ul173_4, ge173_4⟩ := k29_openF hMe173
                      have hv173_4 := hcc173 4 _ rfl
                      rw [add_field _ _ 4 (by omega)] at hv173_4
                      replace hv173_4 := Option.some.inj (hv173_4.symm.trans hx173_4)
                      injection hv173_4 with hva_ hvn_ hvc_
                      rw [hva_] at ge173_4
                      rw [hvc_] at ul173_4
                      have HL173_4 := Am (show Kd.V (Kd.int .i64) 3 _ w.heap.size _ _ ((rd_T29 l0 x109_5).f1) from Kd.V_mk ul173_4 ge173_4)
                      clear hva_ hvn_ hvc_ ge173_4 ul173_4
                      clear hcc173 hce173
                      have HR173_4 := Am hi173_4
                      have HC173_4 := Am hl173_4
                      clear hi173_4 hl173_4
                      replace p173 := eq_true p173
                      replace q173 := eq_true q173
                      have ea_ := Option.some.inj (hx172_4.symm.trans hx173_4)
                      injection ea_ with ea_ en_ ec_
                      subst ea_
                      subst ec_
                      clear en_
                      refine start_ (n := 44) (S := fun w' => w'.cell? ⟨gb171, 0, none⟩ = some (.int .i64 ((rd_T29 t163 x109_5).f0.f0)) ∧ w'.cell? ⟨gb171, 1, none⟩ = some (.int .i64 ((rd_T29 t163 x109_5).f0.f1)) ∧ w'.cell? ⟨gb171, 2, none⟩ = some (.int .i64 ((rd_T29 t163 x109_5).f0.f2)) ∧ w'.cell? ⟨gb171, 3, none⟩ = some (.int .i64 ((rd_T29 t163 x109_5).f0.f3)) ∧ w'.cell? ⟨gb171, 4, none⟩ = some (.slice A170_4 ((rd_T29 t163 x109_5).f1).length c170_4) ∧ w'.cell? (ad172.add ((x109_5).toNat * 5)) = some (.int .i64 ((rd_T29 l0 x109_5).f0.f0)) ∧ w'.cell? ⟨(ad172.add ((x109_5).toNat * 5)).block, (ad172.add ((x109_5).toNat * 5)).off + 1, none⟩ = some (.int .i64 ((rd_T29 l0 x109_5).f0.f1)) ∧ w'.cell? ⟨(ad172.add ((x109_5).toNat * 5)).block, (ad172.add ((x109_5).toNat * 5)).off + 2, none⟩ = some (.int .i64 ((rd_T29 l0 x109_5).f0.f2)) ∧ w'.cell? ⟨(ad172.add ((x109_5).toNat * 5)).block, (ad172.add ((x109_5).toNat * 5)).off + 3, none⟩ = some (.int .i64 ((rd_T29 l0 x109_5).f0.f3)) ∧ w'.cell? ⟨(ad172.add ((x109_5).toNat * 5)).block, (ad172.add ((x109_5).toNat * 5)).off + 4, none⟩ = some (.slice A172_4 ((rd_T29 l0 x109_5).f1).length c172_4) ∧ w'.cell? (ad172.add ((x109_5).toNat * 5)) = some (.int .i64 ((rd_T29 l0 x109_5).f0.f0)) ∧ w'.cell? ⟨(ad172.add ((x109_5).toNat * 5)).block, (ad172.add ((x109_5).toNat * 5)).off + 1, none⟩ = some (.int .i64 ((rd_T29 l0 x109_5).f0.f1)) ∧ w'.cell? ⟨(ad172.add ((x109_5).toNat * 5)).block, (ad172.add ((x109_5).toNat * 5)).off + 2, none⟩ = some (.int .i64 ((rd_T29 l0 x109_5).f0.f2)) ∧ w'.cell? ⟨(ad172.add ((x109_5).toNat * 5)).block, (ad172.add ((x109_5).toNat * 5)).off + 3, none⟩ = some (.int .i64 ((rd_T29 l0 x109_5).f0.f3)) ∧ w'.cell? ⟨(ad172.add ((x109_5).toNat * 5)).block, (ad172.add ((x109_5).toNat * 5)).off + 4, none⟩ = some (.slice A172_4 ((rd_T29 l0 x109_5).f1).length c172_4)) (ds := []) #[false, false, false, false, false, false, false, false, false, false, false, false, false, false, false, false, false, false, false, false, false, false, false, false, false, false, false, false, false, false, false, false, false, false, false, false, false, false, false, false, false, false, false, false] (by kernel_rfl) rfl rfl ⟨(blk_cell BK171.out 0).trans rfl, (blk_cell BK171.out 1).trans rfl, (blk_cell BK171.out 2).trans rfl, (blk_cell BK171.out 3).trans rfl, (blk_cell BK171.out 4).trans rfl, hx172_0, hx172_1, hx172_2, hx172_3, hx172_4, hx173_0, hx173_1, hx173_2, hx173_3, hx173_4⟩ (fun hHeld => ?_); refine with_tabW switchboardlaw12_LedgerExact.tab22 switchboardlaw12_LedgerExact.bits22 (fun HT_ HW_ => ?_)
                      generalize w80.drew = w81 at HO_0 HO_107 HL170_4 BK150 BK171 HB HL172_4 HL173_4 HR172_4 HR173_4 hx172_0 hx172_1 hx172_2 hx172_3 hx172_4 hx173_0 hx173_1 hx173_2 hx173_3 hx173_4 hHeld ⊢
                      refine pure_ (i := 0) (N := some 114) (v := ?_) (a' := ?_) #[true, false, false, false, false, false, false, false, false, false, false, false, false, false, false, false, false, false, false, false, false, false, false, false, false, false, false, false, false, false, false, false, false, false, false, false, false, false, false, false, false, false, false, false] rfl rfl (any_of HT_.out (by kernel_rfl)) (fun _ _ _ h => h) (Or.inl ⟨by rfl, ?_⟩) ?_ ?_
                      rotate_left
                      ·
                       intro w'
                       go_simp
                       with_reducible rfl
                      rotate_left
                      ·
                       simp only [Act.put, List.setIfInBounds_toArray, List.set_cons_zero, List.set_cons_succ, i64_w, i32_w]
                       rfl
                      refine pure_ (i := 1) (N := some 115) (v := ?_) (a' := ?_) #[true, true, false, false, false, false, false, false, false, false, false, false, false, false, false, false, false, false, false, false, false, false, false, false, false, false, false, false, false, false, false, false, false, false, false, false, false, false, false, false, false, false, false, false] rfl rfl (any_of HT_.out (by kernel_rfl)) (fun _ _ _ h => h) (Or.inl ⟨by rfl, ?_⟩) ?_ ?_
                      rotate_left
                      ·
                       intro w'
                       go_simp
                       with_reducible rfl
                      rotate_left
                      ·
                       simp only [Act.put, List.setIfInBounds_toArray, List.set_cons_zero, List.set_cons_succ, i64_w, i32_w]
                       rfl
                      refine pure_ (i := 2) (N := some 116) (v := ?_) (a' := ?_) #[true, true, true, false, false, false, false, false, false, false, false, false, false, false, false, false, false, false, false, false, false, false, false, false, false, false, false, false, false, false, false, false, false, false, false, false, false, false, false, false, false, false, false, false] rfl rfl (any_of HT_.out (by kernel_rfl)) (fun _ _ _ h => h) (Or.inl ⟨by rfl, ?_⟩) ?_ ?_
                      rotate_left
                      ·
                       intro w'
                       go_simp
                       with_reducible rfl
                      rotate_left
                      ·
                       simp only [Act.put, List.setIfInBounds_toArray, List.set_cons_zero, List.set_cons_succ, i64_w, i32_w]
                       rfl
                      refine pure_ (i := 3) (N := some 117) (v := ?_) (a' := ?_) #[true, true, true, true, false, false, false, false, false, false, false, false, false, false, false, false, false, false, false, false, false, false, false, false, false, false, false, false, false, false, false, false, false, false, false, false, false, false, false, false, false, false, false, false] rfl rfl (any_of HT_.out (by kernel_rfl)) (fun _ _ _ h => h) (Or.inl ⟨by rfl, ?_⟩) ?_ ?_
                      rotate_left
                      ·
                       intro w'
                       go_simp
                       with_reducible rfl
                      rotate_left
                      ·
                       simp only [Act.put, List.setIfInBounds_toArray, List.set_cons_zero, List.set_cons_succ, i64_w, i32_w]
                       rfl
                      refine pure_ (i := 4) (N := some 118) (v := ?_) (a' := ?_) #[true, true, true, true, true, false, false, false, false, false, false, false, false, false, false, false, false, false, false, false, false, false, false, false, false, false, false, false, false, false, false, false, false, false, false, false, false, false, false, false, false, false, false, false] rfl rfl (any_of HT_.out (by kernel_rfl)) (fun _ _ _ h => h) (Or.inl ⟨by rfl, ?_⟩) ?_ ?_
                      rotate_left
                      ·
                       intro w'
                       go_simp
                       with_reducible rfl
                      rotate_left
                      ·
                       simp only [Act.put, List.setIfInBounds_toArray, List.set_cons_zero, List.set_cons_succ, i64_w, i32_w]
                       rfl
                      refine pure_ (i := 5) (N := some 119) (v := ?_) (a' := ?_) #[true, true, true, true, true, true, false, false, false, false, false, false, false, false, false, false, false, false, false, false, false, false, false, false, false, false, false, false, false, false, false, false, false, false, false, false, false, false, false, false, false, false, false, false] rfl rfl (any_of HT_.out (by kernel_rfl)) (fun _ _ _ h => h) (Or.inl ⟨by rfl, ?_⟩) ?_ ?_
                      rotate_left
                      ·
                       intro w'
                       go_simp
                       with_reducible rfl
                      rotate_left
                      ·
                       simp only [Act.put, List.setIfInBounds_toArray, List.set_cons_zero, List.set_cons_succ, i64_w, i32_w]
                       rfl
                      refine pure_ (i := 7) (N := some 121) (v := ?_) (a' := ?_) #[true, true, true, true, true, true, false, true, false, false, false, false, false, false, false, false, false, false, false, false, false, false, false, false, false, false, false, false, false, false, false, false, false, false, false, false, false, false, false, false, false, false, false, false] rfl rfl (any_of HT_.out (by kernel_rfl)) (fun _ _ _ h => h) (Or.inl ⟨by rfl, ?_⟩) ?_ ?_
                      rotate_left
                      ·
                       intro w'
                       go_simp
                       with_reducible rfl
                      rotate_left
                      ·
                       simp only [Act.put, List.setIfInBounds_toArray, List.set_cons_zero, List.set_cons_succ, i64_w, i32_w]
                       rfl
                      refine pure_ (i := 8) (N := some 122) (v := ?_) (a' := ?_) #[true, true, true, true, true, true, false, true, true, false, false, false, false, false, false, false, false, false, false, false, false, false, false, false, false, false, false, false, false, false, false, false, false, false, false, false, false, false, false, false, false, false, false, false] rfl rfl (any_of HT_.out (by kernel_rfl)) (fun _ _ _ h => h) (Or.inl ⟨by rfl, ?_⟩) ?_ ?_
                      rotate_left
                      ·
                       intro w'
                       go_simp
                       with_reducible rfl
                      rotate_left
                      ·
                       simp only [Act.put, List.setIfInBounds_toArray, List.set_cons_zero, List.set_cons_succ, i64_w, i32_w]
                       rfl
                      refine pure_ (i := 9) (N := some 123) (v := ?_) (a' := ?_) #[true, true, true, true, true, true, false, true, true, true, false, false, false, false, false, false, false, false, false, false, false, false, false, false, false, false, false, false, false, false, false, false, false, false, false, false, false, false, false, false, false, false, false, false] rfl rfl (any_of HT_.out (by kernel_rfl)) (fun _ _ _ h => h) (Or.inl ⟨by rfl, ?_⟩) ?_ ?_
                      rotate_left
                      ·
                       intro w'
                       go_simp
                       with_reducible rfl
                      rotate_left
                      ·
                       simp only [Act.put, List.setIfInBounds_toArray, List.set_cons_zero, List.set_cons_succ, i64_w, i32_w]
                       rfl
                      refine pure_ (i := 10) (N := some 124) (v := ?_) (a' := ?_) #[true, true, true, true, true, true, false, true, true, true, true, false, false, false, false, false, false, false, false, false, false, false, false, false, false, false, false, false, false, false, false, false, false, false, false, false, false, false, false, false, false, false, false, false] rfl rfl (any_of HT_.out (by kernel_rfl)) (fun _ _ _ h => h) (Or.inl ⟨by rfl, ?_⟩) ?_ ?_
                      rotate_left
                      ·
                       intro w'
                       go_simp
                       with_reducible rfl
                      rotate_left
                      ·
                       simp only [Act.put, List.setIfInBounds_toArray, List.set_cons_zero, List.set_cons_succ, i64_w, i32_w]
                       rfl
                      refine take_ (i := 6) (N := some 120) (v := ?_) (a' := ?_) #[true, true, true, true, true, true, true, true, true, true, true, false, false, false, false, false, false, false, false, false, false, false, false, false, false, false, false, false, false, false, false, false, false, false, false, false, false, false, false, false, false, false, false, false] rfl rfl (take_ofW HT_.out HW_.out (by kernel_rfl)) (fun _ _ _ h => h) (Or.inl ⟨by rfl, ?_⟩) hHeld ?_ ?_
                      rotate_left
                      ·
                       rintro w' ⟨s0, s1, s2, s3, s4, s5, s6, s7, s8, s9, s10, s11, s12, s13, s14⟩
                       go_simp
                       with_reducible rfl
                      rotate_left
                      ·
                       simp only [Act.put, List.setIfInBounds_toArray, List.set_cons_zero, List.set_cons_succ, i64_w, i32_w]
                       rfl
                      refine take_ (i := 11) (N := some 125) (v := ?_) (a' := ?_) #[true, true, true, true, true, true, true, true, true, true, true, true, false, false, false, false, false, false, false, false, false, false, false, false, false, false, false, false, false, false, false, false, false, false, false, false, false, false, false, false, false, false, false, false] rfl rfl (take_ofW HT_.out HW_.out (by kernel_rfl)) (fun _ _ _ h => h) (Or.inl ⟨by rfl, ?_⟩) hHeld ?_ ?_
                      rotate_left
                      ·
                       rintro w' ⟨s0, s1, s2, s3, s4, s5, s6, s7, s8, s9, s10, s11, s12, s13, s14⟩
                       go_simp
                       with_reducible rfl
                      rotate_left
                      ·
                       simp only [Act.put, List.setIfInBounds_toArray, List.set_cons_zero, List.set_cons_succ, i64_w, i32_w]
                       rfl
                      refine pure_ (i := 12) (N := some 126) (v := ?_) (a' := ?_) #[true, true, true, true, true, true, true, true, true, true, true, true, true, false, false, false, false, false, false, false, false, false, false, false, false, false, false, false, false, false, false, false, false, false, false, false, false, false, false, false, false, false, false, false] rfl rfl (any_of HT_.out (by kernel_rfl)) (fun _ _ _ h => h) (Or.inl ⟨by rfl, ?_⟩) ?_ ?_
                      rotate_left
                      ·
                       intro w'
                       go_simp
                       with_reducible rfl
                      rotate_left
                      ·
                       simp only [Act.put, List.setIfInBounds_toArray, List.set_cons_zero, List.set_cons_succ, i64_w, i32_w]
                       rfl
                      refine pure_ (i := 13) (N := some 127) (v := ?_) (a' := ?_) #[true, true, true, true, true, true, true, true, true, true, true, true, true, true, false, false, false, false, false, false, false, false, false, false, false, false, false, false, false, false, false, false, false, false, false, false, false, false, false, false, false, false, false, false] rfl rfl (any_of HT_.out (by kernel_rfl)) (fun _ _ _ h => h) (Or.inl ⟨by rfl, ?_⟩) ?_ ?_
                      rotate_left
                      ·
                       intro w'
                       go_simp
                       with_reducible rfl
                      rotate_left
                      ·
                       simp only [Act.put, List.setIfInBounds_toArray, List.set_cons_zero, List.set_cons_succ, i64_w, i32_w]
                       rfl
                      refine pure_ (i := 14) (N := some 128) (v := ?_) (a' := ?_) #[true, true, true, true, true, true, true, true, true, true, true, true, true, true, true, false, false, false, false, false, false, false, false, false, false, false, false, false, false, false, false, false, false, false, false, false, false, false, false, false, false, false, false, false] rfl rfl (any_of HT_.out (by kernel_rfl)) (fun _ _ _ h => h) (Or.inl ⟨by rfl, ?_⟩) ?_ ?_
                      rotate_left
                      ·
                       intro w'
                       go_simp
                       with_reducible rfl
                      rotate_left
                      ·
                       simp only [Act.put, List.setIfInBounds_toArray, List.set_cons_zero, List.set_cons_succ, i64_w, i32_w]
                       rfl
                      refine pure_ (i := 16) (N := some 130) (v := ?_) (a' := ?_) #[true, true, true, true, true, true, true, true, true, true, true, true, true, true, true, false, true, false, false, false, false, false, false, false, false, false, false, false, false, false, false, false, false, false, false, false, false, false, false, false, false, false, false, false] rfl rfl (any_of HT_.out (by kernel_rfl)) (fun _ _ _ h => h) (Or.inl ⟨by rfl, ?_⟩) ?_ ?_
                      rotate_left
                      ·
                       intro w'
                       go_simp
                       with_reducible rfl
                      rotate_left
                      ·
                       simp only [Act.put, List.setIfInBounds_toArray, List.set_cons_zero, List.set_cons_succ, i64_w, i32_w]
                       rfl
                      refine pure_ (i := 17) (N := some 131) (v := ?_) (a' := ?_) #[true, true, true, true, true, true, true, true, true, true, true, true, true, true, true, false, true, true, false, false, false, false, false, false, false, false, false, false, false, false, false, false, false, false, false, false, false, false, false, false, false, false, false, false] rfl rfl (any_of HT_.out (by kernel_rfl)) (fun _ _ _ h => h) (Or.inl ⟨by rfl, ?_⟩) ?_ ?_
                      rotate_left
                      ·
                       intro w'
                       go_simp
                       with_reducible rfl
                      rotate_left
                      ·
                       simp only [Act.put, List.setIfInBounds_toArray, List.set_cons_zero, List.set_cons_succ, i64_w, i32_w]
                       rfl
                      refine pure_ (i := 18) (N := some 132) (v := ?_) (a' := ?_) #[true, true, true, true, true, true, true, true, true, true, true, true, true, true, true, false, true, true, true, false, false, false, false, false, false, false, false, false, false, false, false, false, false, false, false, false, false, false, false, false, false, false, false, false] rfl rfl (any_of HT_.out (by kernel_rfl)) (fun _ _ _ h => h) (Or.inl ⟨by rfl, ?_⟩) ?_ ?_
                      rotate_left
                      ·
                       intro w'
                       go_simp
                       with_reducible rfl
                      rotate_left
                      ·
                       simp only [Act.put, List.setIfInBounds_toArray, List.set_cons_zero, List.set_cons_succ, i64_w, i32_w]
                       rfl
                      refine pure_ (i := 19) (N := some 133) (v := ?_) (a' := ?_) #[true, true, true, true, true, true, true, true, true, true, true, true, true, true, true, false, true, true, true, true, false, false, false, false, false, false, false, false, false, false, false, false, false, false, false, false, false, false, false, false, false, false, false, false] rfl rfl (any_of HT_.out (by kernel_rfl)) (fun _ _ _ h => h) (Or.inl ⟨by rfl, ?_⟩) ?_ ?_
                      rotate_left
                      ·
                       intro w'
                       go_simp
                       with_reducible rfl
                      rotate_left
                      ·
                       simp only [Act.put, List.setIfInBounds_toArray, List.set_cons_zero, List.set_cons_succ, i64_w, i32_w]
                       rfl
                      refine take_ (i := 15) (N := some 129) (v := ?_) (a' := ?_) #[true, true, true, true, true, true, true, true, true, true, true, true, true, true, true, true, true, true, true, true, false, false, false, false, false, false, false, false, false, false, false, false, false, false, false, false, false, false, false, false, false, false, false, false] rfl rfl (take_ofW HT_.out HW_.out (by kernel_rfl)) (fun _ _ _ h => h) (Or.inl ⟨by rfl, ?_⟩) hHeld ?_ ?_
                      rotate_left
                      ·
                       rintro w' ⟨s0, s1, s2, s3, s4, s5, s6, s7, s8, s9, s10, s11, s12, s13, s14⟩
                       go_simp
                       with_reducible rfl
                      rotate_left
                      ·
                       simp only [Act.put, List.setIfInBounds_toArray, List.set_cons_zero, List.set_cons_succ, i64_w, i32_w]
                       rfl
                      refine take_ (i := 20) (N := some 134) (v := ?_) (a' := ?_) #[true, true, true, true, true, true, true, true, true, true, true, true, true, true, true, true, true, true, true, true, true, false, false, false, false, false, false, false, false, false, false, false, false, false, false, false, false, false, false, false, false, false, false, false] rfl rfl (take_ofW HT_.out HW_.out (by kernel_rfl)) (fun _ _ _ h => h) (Or.inl ⟨by rfl, ?_⟩) hHeld ?_ ?_
                      rotate_left
                      ·
                       rintro w' ⟨s0, s1, s2, s3, s4, s5, s6, s7, s8, s9, s10, s11, s12, s13, s14⟩
                       go_simp
                       with_reducible rfl
                      rotate_left
                      ·
                       simp only [Act.put, List.setIfInBounds_toArray, List.set_cons_zero, List.set_cons_succ, i64_w, i32_w]
                       rfl
                      refine one_ (i := 21) (N := some 135) #[true, true, true, true, true, true, true, true, true, true, true, true, true, true, true, true, true, true, true, true, true, true, false, false, false, false, false, false, false, false, false, false, false, false, false, false, false, false, false, false, false, false, false, false] rfl rfl (one_of HT_.out (by kernel_rfl)) (by decide) (fun K hK => ?_)
                      refine goes_ Try.func11 (by kernel_rfl) rfl #[.slice A170_4 ((rd_T29 t163 x109_5).f1).length c170_4, .slice A172_4 ((rd_T29 l0 x109_5).f1).length c172_4] (by rfl) rfl rfl (by (try simp only [List.map_toArray, List.map_cons, List.map_nil]); first | done | rfl | (simp only [List.length_drop, List.length_take]; rfl)) ?_
                      with_reducible refine (switchboardref02_Same.calls k5 _ _ ((rd_T29 t163 x109_5).f1) _ _ ((rd_T29 l0 x109_5).f1) true _ ?side1 ?side2 ?side3 ?side4 A66.out).mono ?_
                      (case side1 => repeat (first | exact ((Kd.V_reads' (by (with_reducible repeat (first | apply Kd.V_alloc | apply Kd.V_drewN | apply Kd.V_drew)); exact HL170_4.out)).2.2) | (with_reducible refine Kd.C_alloc ?_ _) | (with_reducible refine Kd.C_drewN ?_ _) | (with_reducible refine Kd.C_drew ?_)))
                      (case side2 => exact HC170_4.out)
                      (case side3 => repeat (first | exact (by repeat (first | (with_reducible exact HR173_4.out) | (with_reducible refine Kd.C_alloc ?_ _) | (with_reducible refine Kd.C_drewN ?_ _) | (with_reducible refine Kd.C_drew ?_) | exact HR173_4.out)) | (with_reducible refine Kd.C_alloc ?_ _) | (with_reducible refine Kd.C_drewN ?_ _) | (with_reducible refine Kd.C_drew ?_)))
                      (case side4 => exact HC173_4.out)
                      rintro e w' ⟨rfl, ⟨nd, rfl⟩⟩
                      refine ⟨_, rfl, ?_⟩
                      refine hK.out _ _ ⟨(blk_cell BK171.out 0).trans rfl, (blk_cell BK171.out 1).trans rfl, (blk_cell BK171.out 2).trans rfl, (blk_cell BK171.out 3).trans rfl, (blk_cell BK171.out 4).trans rfl, hHeld.2.2.2.2.2.1, hHeld.2.2.2.2.2.2.1, hHeld.2.2.2.2.2.2.2.1, hHeld.2.2.2.2.2.2.2.2.1, hHeld.2.2.2.2.2.2.2.2.2.1, hHeld.2.2.2.2.2.2.2.2.2.2.1, hHeld.2.2.2.2.2.2.2.2.2.2.2.1, hHeld.2.2.2.2.2.2.2.2.2.2.2.2.1, hHeld.2.2.2.2.2.2.2.2.2.2.2.2.2.1, hHeld.2.2.2.2.2.2.2.2.2.2.2.2.2.2⟩ (fun hHeld => ?_)
                      clear hK K
                      refine norm_ (a' := ?_) ?_ ?_
                      rotate_left
                      ·
                       show Act.put _ (some 135) _ = _
                       simp only [Act.put, List.setIfInBounds_toArray, List.set_cons_zero, List.set_cons_succ, i64_w, i32_w]
                       rfl
                      refine pure_ (i := 22) (N := some 136) (v := ?_) (a' := ?_) #[true, true, true, true, true, true, true, true, true, true, true, true, true, true, true, true, true, true, true, true, true, true, true, false, false, false, false, false, false, false, false, false, false, false, false, false, false, false, false, false, false, false, false, false] rfl rfl (any_of HT_.out (by kernel_rfl)) (fun _ _ _ h => h) (Or.inl ⟨by rfl, ?_⟩) ?_ ?_
                      rotate_left
                      ·
                       intro w'
                       go_simp
                       with_reducible rfl
                      rotate_left
                      ·
                       simp only [Act.put, List.setIfInBounds_toArray, List.set_cons_zero, List.set_cons_succ, i64_w, i32_w]
                       rfl
                      refine pure_ (i := 23) (N := some 137) (v := ?_) (a' := ?_) #[true, true, true, true, true, true, true, true, true, true, true, true, true, true, true, true, true, true, true, true, true, true, true, true, false, false, false, false, false, false, false, false, false, false, false, false, false, false, false, false, false, false, false, false] rfl rfl (any_of HT_.out (by kernel_rfl)) (fun _ _ _ h => h) (Or.inl ⟨by rfl, ?_⟩) ?_ ?_
                      rotate_left
                      ·
                       intro w'
                       go_simp
                       with_reducible rfl
                      rotate_left
                      ·
                       simp only [Act.put, List.setIfInBounds_toArray, List.set_cons_zero, List.set_cons_succ, i64_w, i32_w]
                       rfl
                      refine pure_ (i := 24) (N := some 138) (v := ?_) (a' := ?_) #[true, true, true, true, true, true, true, true, true, true, true, true, true, true, true, true, true, true, true, true, true, true, true, true, true, false, false, false, false, false, false, false, false, false, false, false, false, false, false, false, false, false, false, false] rfl rfl (any_of HT_.out (by kernel_rfl)) (fun _ _ _ h => h) (Or.inl ⟨by rfl, ?_⟩) ?_ ?_
                      rotate_left
                      ·
                       intro w'
                       go_simp
                       with_reducible rfl
                      rotate_left
                      ·
                       simp only [Act.put, List.setIfInBounds_toArray, List.set_cons_zero, List.set_cons_succ, i64_w, i32_w]
                       rfl
                      refine pure_ (i := 25) (N := some 139) (v := ?_) (a' := ?_) #[true, true, true, true, true, true, true, true, true, true, true, true, true, true, true, true, true, true, true, true, true, true, true, true, true, true, false, false, false, false, false, false, false, false, false, false, false, false, false, false, false, false, false, false] rfl rfl (any_of HT_.out (by kernel_rfl)) (fun _ _ _ h => h) (Or.inl ⟨by rfl, ?_⟩) ?_ ?_
                      rotate_left
                      ·
                       intro w'
                       go_simp
                       with_reducible rfl
                      rotate_left
                      ·
                       simp only [Act.put, List.setIfInBounds_toArray, List.set_cons_zero, List.set_cons_succ, i64_w, i32_w]
                       rfl
                      refine pure_ (i := 26) (N := some 140) (v := ?_) (a' := ?_) #[true, true, true, true, true, true, true, true, true, true, true, true, true, true, true, true, true, true, true, true, true, true, true, true, true, true, true, false, false, false, false, false, false, false, false, false, false, false, false, false, false, false, false, false] rfl rfl (any_of HT_.out (by kernel_rfl)) (fun _ _ _ h => h) (Or.inl ⟨by rfl, ?_⟩) ?_ ?_
                      rotate_left
                      ·
                       intro w'
                       go_simp
                       with_reducible rfl
                      rotate_left
                      ·
                       simp only [Act.put, List.setIfInBounds_toArray, List.set_cons_zero, List.set_cons_succ, i64_w, i32_w]
                       rfl
                      refine pure_ (i := 27) (N := some 141) (v := ?_) (a' := ?_) #[true, true, true, true, true, true, true, true, true, true, true, true, true, true, true, true, true, true, true, true, true, true, true, true, true, true, true, true, false, false, false, false, false, false, false, false, false, false, false, false, false, false, false, false] rfl rfl (any_of HT_.out (by kernel_rfl)) (fun _ _ _ h => h) (Or.inl ⟨by rfl, ?_⟩) ?_ ?_
                      rotate_left
                      ·
                       intro w'
                       go_simp
                       with_reducible rfl
                      rotate_left
                      ·
                       simp only [Act.put, List.setIfInBounds_toArray, List.set_cons_zero, List.set_cons_succ, i64_w, i32_w]
                       rfl
                      refine pure_ (i := 28) (N := some 142) (v := ?_) (a' := ?_) #[true, true, true, true, true, true, true, true, true, true, true, true, true, true, true, true, true, true, true, true, true, true, true, true, true, true, true, true, true, false, false, false, false, false, false, false, false, false, false, false, false, false, false, false] rfl rfl (any_of HT_.out (by kernel_rfl)) (fun _ _ _ h => h) (Or.inl ⟨by rfl, ?_⟩) ?_ ?_
                      rotate_left
                      ·
                       intro w'
                       go_simp
                       with_reducible rfl
                      rotate_left
                      ·
                       simp only [Act.put, List.setIfInBounds_toArray, List.set_cons_zero, List.set_cons_succ, i64_w, i32_w]
                       rfl
                      refine pure_ (i := 29) (N := some 143) (v := ?_) (a' := ?_) #[true, true, true, true, true, true, true, true, true, true, true, true, true, true, true, true, true, true, true, true, true, true, true, true, true, true, true, true, true, true, false, false, false, false, false, false, false, false, false, false, false, false, false, false] rfl rfl (any_of HT_.out (by kernel_rfl)) (fun _ _ _ h => h) (Or.inl ⟨by rfl, ?_⟩) ?_ ?_
                      rotate_left
                      ·
                       intro w'
                       go_simp
                       with_reducible rfl
                      rotate_left
                      ·
                       simp only [Act.put, List.setIfInBounds_toArray, List.set_cons_zero, List.set_cons_succ, i64_w, i32_w]
                       rfl
                      refine pure_ (i := 30) (N := some 144) (v := ?_) (a' := ?_) #[true, true, true, true, true, true, true, true, true, true, true, true, true, true, true, true, true, true, true, true, true, true, true, true, true, true, true, true, true, true, true, false, false, false, false, false, false, false, false, false, false, false, false, false] rfl rfl (any_of HT_.out (by kernel_rfl)) (fun _ _ _ h => h) (Or.inl ⟨by rfl, ?_⟩) ?_ ?_
                      rotate_left
                      ·
                       intro w'
                       go_simp
                       with_reducible rfl
                      rotate_left
                      ·
                       simp only [Act.put, List.setIfInBounds_toArray, List.set_cons_zero, List.set_cons_succ, i64_w, i32_w]
                       rfl
                      refine pure_ (i := 31) (N := some 145) (v := undef) (a' := ?_) #[true, true, true, true, true, true, true, true, true, true, true, true, true, true, true, true, true, true, true, true, true, true, true, true, true, true, true, true, true, true, true, true, false, false, false, false, false, false, false, false, false, false, false, false] rfl rfl (any_of HT_.out (by kernel_rfl)) (fun _ _ _ h => h) (Or.inr ⟨by rfl, rfl⟩) ?_ ?_
                      rotate_left
                      ·
                       simp only [Act.put, List.setIfInBounds_toArray, List.set_cons_zero, List.set_cons_succ, i64_w, i32_w]
                       rfl
                      refine pure_ (i := 32) (N := some 146) (v := undef) (a' := ?_) #[true, true, true, true, true, true, true, true, true, true, true, true, true, true, true, true, true, true, true, true, true, true, true, true, true, true, true, true, true, true, true, true, true, false, false, false, false, false, false, false, false, false, false, false] rfl rfl (any_of HT_.out (by kernel_rfl)) (fun _ _ _ h => h) (Or.inr ⟨by rfl, rfl⟩) ?_ ?_
                      rotate_left
                      ·
                       simp only [Act.put, List.setIfInBounds_toArray, List.set_cons_zero, List.set_cons_succ, i64_w, i32_w]
                       rfl
                      refine pure_ (i := 33) (N := some 147) (v := undef) (a' := ?_) #[true, true, true, true, true, true, true, true, true, true, true, true, true, true, true, true, true, true, true, true, true, true, true, true, true, true, true, true, true, true, true, true, true, true, false, false, false, false, false, false, false, false, false, false] rfl rfl (any_of HT_.out (by kernel_rfl)) (fun _ _ _ h => h) (Or.inr ⟨by rfl, rfl⟩) ?_ ?_
                      rotate_left
                      ·
                       simp only [Act.put, List.setIfInBounds_toArray, List.set_cons_zero, List.set_cons_succ, i64_w, i32_w]
                       rfl
                      refine pure_ (i := 34) (N := some 148) (v := undef) (a' := ?_) #[true, true, true, true, true, true, true, true, true, true, true, true, true, true, true, true, true, true, true, true, true, true, true, true, true, true, true, true, true, true, true, true, true, true, true, false, false, false, false, false, false, false, false, false] rfl rfl (any_of HT_.out (by kernel_rfl)) (fun _ _ _ h => h) (Or.inr ⟨by rfl, rfl⟩) ?_ ?_
                      rotate_left
                      ·
                       simp only [Act.put, List.setIfInBounds_toArray, List.set_cons_zero, List.set_cons_succ, i64_w, i32_w]
                       rfl
                      refine pure_ (i := 35) (N := some 149) (v := undef) (a' := ?_) #[true, true, true, true, true, true, true, true, true, true, true, true, true, true, true, true, true, true, true, true, true, true, true, true, true, true, true, true, true, true, true, true, true, true, true, true, false, false, false, false, false, false, false, false] rfl rfl (any_of HT_.out (by kernel_rfl)) (fun _ _ _ h => h) (Or.inr ⟨by rfl, rfl⟩) ?_ ?_
                      rotate_left
                      ·
                       simp only [Act.put, List.setIfInBounds_toArray, List.set_cons_zero, List.set_cons_succ, i64_w, i32_w]
                       rfl
                      refine pure_ (i := 36) (N := some 150) (v := undef) (a' := ?_) #[true, true, true, true, true, true, true, true, true, true, true, true, true, true, true, true, true, true, true, true, true, true, true, true, true, true, true, true, true, true, true, true, true, true, true, true, true, false, false, false, false, false, false, false] rfl rfl (any_of HT_.out (by kernel_rfl)) (fun _ _ _ h => h) (Or.inr ⟨by rfl, rfl⟩) ?_ ?_
                      rotate_left
                      ·
                       simp only [Act.put, List.setIfInBounds_toArray, List.set_cons_zero, List.set_cons_succ, i64_w, i32_w]
                       rfl
                      refine pure_ (i := 37) (N := some 151) (v := undef) (a' := ?_) #[true, true, true, true, true, true, true, true, true, true, true, true, true, true, true, true, true, true, true, true, true, true, true, true, true, true, true, true, true, true, true, true, true, true, true, true, true, true, false, false, false, false, false, false] rfl rfl (any_of HT_.out (by kernel_rfl)) (fun _ _ _ h => h) (Or.inr ⟨by rfl, rfl⟩) ?_ ?_
                      rotate_left
                      ·
                       simp only [Act.put, List.setIfInBounds_toArray, List.set_cons_zero, List.set_cons_succ, i64_w, i32_w]
                       rfl
                      refine pure_ (i := 38) (N := some 152) (v := undef) (a' := ?_) #[true, true, true, true, true, true, true, true, true, true, true, true, true, true, true, true, true, true, true, true, true, true, true, true, true, true, true, true, true, true, true, true, true, true, true, true, true, true, true, false, false, false, false, false] rfl rfl (any_of HT_.out (by kernel_rfl)) (fun _ _ _ h => h) (Or.inr ⟨by rfl, rfl⟩) ?_ ?_
                      rotate_left
                      ·
                       simp only [Act.put, List.setIfInBounds_toArray, List.set_cons_zero, List.set_cons_succ, i64_w, i32_w]
                       rfl
                      refine pure_ (i := 39) (N := some 153) (v := undef) (a' := ?_) #[true, true, true, true, true, true, true, true, true, true, true, true, true, true, true, true, true, true, true, true, true, true, true, true, true, true, true, true, true, true, true, true, true, true, true, true, true, true, true, true, false, false, false, false] rfl rfl (any_of HT_.out (by kernel_rfl)) (fun _ _ _ h => h) (Or.inr ⟨by rfl, rfl⟩) ?_ ?_
                      rotate_left
                      ·
                       simp only [Act.put, List.setIfInBounds_toArray, List.set_cons_zero, List.set_cons_succ, i64_w, i32_w]
                       rfl
                      refine pure_ (i := 40) (N := some 154) (v := undef) (a' := ?_) #[true, true, true, true, true, true, true, true, true, true, true, true, true, true, true, true, true, true, true, true, true, true, true, true, true, true, true, true, true, true, true, true, true, true, true, true, true, true, true, true, true, false, false, false] rfl rfl (any_of HT_.out (by kernel_rfl)) (fun _ _ _ h => h) (Or.inr ⟨by rfl, rfl⟩) ?_ ?_
                      rotate_left
                      ·
                       simp only [Act.put, List.setIfInBounds_toArray, List.set_cons_zero, List.set_cons_succ, i64_w, i32_w]
                       rfl
                      refine pure_ (i := 41) (N := some 155) (v := undef) (a' := ?_) #[true, true, true, true, true, true, true, true, true, true, true, true, true, true, true, true, true, true, true, true, true, true, true, true, true, true, true, true, true, true, true, true, true, true, true, true, true, true, true, true, true, true, false, false] rfl rfl (any_of HT_.out (by kernel_rfl)) (fun _ _ _ h => h) (Or.inr ⟨by rfl, rfl⟩) ?_ ?_
                      rotate_left
                      ·
                       simp only [Act.put, List.setIfInBounds_toArray, List.set_cons_zero, List.set_cons_succ, i64_w, i32_w]
                       rfl
                      refine pure_ (i := 42) (N := some 156) (v := ?_) (a' := ?_) #[true, true, true, true, true, true, true, true, true, true, true, true, true, true, true, true, true, true, true, true, true, true, true, true, true, true, true, true, true, true, true, true, true, true, true, true, true, true, true, true, true, true, true, false] rfl rfl (any_of HT_.out (by kernel_rfl)) (fun _ _ _ h => h) (Or.inl ⟨by rfl, ?_⟩) ?_ ?_
                      rotate_left
                      ·
                       intro w'
                       go_simp
                       with_reducible rfl
                      rotate_left
                      ·
                       simp only [Act.put, List.setIfInBounds_toArray, List.set_cons_zero, List.set_cons_succ, i64_w, i32_w]
                       rfl
                      refine pure_ (i := 43) (N := some 157) (v := ?_) (a' := ?_) #[true, true, true, true, true, true, true, true, true, true, true, true, true, true, true, true, true, true, true, true, true, true, true, true, true, true, true, true, true, true, true, true, true, true, true, true, true, true, true, true, true, true, true, true] rfl rfl (any_of HT_.out (by kernel_rfl)) (fun _ _ _ h => h) (Or.inl ⟨by rfl, ?_⟩) ?_ ?_
                      rotate_left
                      ·
                       intro w'
                       go_simp
                       with_reducible rfl
                      rotate_left
                      ·
                       simp only [Act.put, List.setIfInBounds_toArray, List.set_cons_zero, List.set_cons_succ, i64_w, i32_w]
                       rfl
                      refine done_ (done_of HT_.out (by kernel_rfl)) ?_
                      try go_wp2
                      go_roundg k5
                      case measure => have := HJ3.out; have := HK2.out; have := HJ28.out; have := HJ37.out; have := HK5.out; omega
                      case rel => exact ⟨(wrap64 (x109_5 + 1)), (by first | rfl | (simp; done) | (simp [*]; done)), H', ⟨by have := HJ3.out; have := HK2.out; have := HJ28.out; have := HJ37.out; have := HK5.out; omega⟩, ⟨by (with_reducible repeat (first | apply Kd.V_alloc | apply Kd.V_drewN | apply Kd.V_drew)); exact Kd.V_mono HO_0.out (fun _ hk => ⟨hk.1, hk.2.1⟩)⟩, ⟨by (with_reducible repeat (first | apply Kd.V_alloc | apply Kd.V_drewN | apply Kd.V_drew)); exact Kd.V_mono HO_107.out (fun _ hk => ⟨hk.1, hk.2.1⟩)⟩, ⟨by (with_reducible repeat (first | refine blk_drewN ?_ _ | refine blk_drew ?_ | refine blk_alloc ?_ _)); exact BK150.out⟩, ⟨by repeat (first | (with_reducible first | exact HB.out | apply below_alloc | apply pw_below_drewN | apply below_drew1 | refine below_set ?_ GE150.out | refine below_set ?_ GE171.out) | exact HB.out)⟩⟩
                    ·
                     replace c67 := Bool.eq_false_iff.mpr c67
                     subst c67
                     have H1 : (some false) = some true := by rw [if_neg (show ¬ (false = true) by decide)] at H; exact H
                     clear H
                     have H := H1
                     clear H1
                     exact absurd H (by simp)
                  ·
                   rw [if_neg c64] at H
                   have c64b0 : decide (x109_5 < (l0.length : Int)) = false := decide_eq_false c64
                   clear c64
                   by_cases c82 : x109_5 = (l0.length : Int)
                   ·
                    rw [if_pos c82] at H
                    have c82b0 : (x109_5 == (l0.length : Int)) = true := beq_iff_eq.mpr c82
                    have c82b1 : (x109_5 != (l0.length : Int)) = false := bne_eq_false_iff_eq.mpr c82
                    clear c82
                    by_cases c83 : (!(((rd_T29 t163 x109_5).f0.f0) == a1_0) || (!(((rd_T29 t163 x109_5).f0.f1) == a1_1) || (!(((rd_T29 t163 x109_5).f0.f2) == a1_2) || (!(((rd_T29 t163 x109_5).f0.f3) == a1_3))))) = true
                    ·
                     rw [if_pos c83] at H
                     have c83b0 : (!(((rd_T29 t163 x109_5).f0.f0) == a1_0) || (!(((rd_T29 t163 x109_5).f0.f1) == a1_1) || (!(((rd_T29 t163 x109_5).f0.f2) == a1_2) || (!(((rd_T29 t163 x109_5).f0.f3) == a1_3))))) = true := c83
                     clear c83
                     exact absurd H (by simp)
                    ·
                     rw [if_neg c83] at H
                     have c83b0 : (!(((rd_T29 t163 x109_5).f0.f0) == a1_0) || (!(((rd_T29 t163 x109_5).f0.f1) == a1_1) || (!(((rd_T29 t163 x109_5).f0.f2) == a1_2) || (!(((rd_T29 t163 x109_5).f0.f3) == a1_3))))) = false := by simpa using c83
                     clear c83
                     replace H := Option.bind_eq_some_iff.mp H
                     obtain ⟨t176, A840, H⟩ := H
                     replace H : (if t176 = true then (switchboardlaw12_LedgerExact.l1 k5 l0 l2 t163 (t163.length : Int) (wrap64 (x109_5 + 1)) a1_0 a1_1 a1_2 a1_3) else (some false)) = some true := H
                     have A84 := Am A840
                     clear A840
                     by_cases c85 : t176 = true
                     ·
                      subst c85
                      have H1 : (switchboardlaw12_LedgerExact.l1 k5 l0 l2 t163 (t163.length : Int) (wrap64 (x109_5 + 1)) a1_0 a1_1 a1_2 a1_3) = some true := by rw [if_pos rfl] at H; exact H
                      clear H
                      have H := H1
                      clear H1
                      have H' := Am H
                      clear H
                      have p170 : 0 ≤ (x109_5 : Int) := of_decide_eq_true (by first | (with_reducible assumption) | assumption)
                      have q170 : x109_5 < (t163.length : Int) := of_decide_eq_true (by first | (with_reducible assumption) | assumption)
                      obtain ⟨ad170, A170_4, c170_4, e170, hx170_0, hx170_1, hx170_2, hx170_3, hx170_4, hl170_4, hi170_4⟩ := at_T29 (Kd.V_reads' HO_107.out).2.2 x109_5 p170 q170
                      cases e170
                      obtain ⟨ce170, hce170, hMe170, hcc170⟩ := Kd.V_get HO_107.out z29 x109_5 p170 (by first | exact q170 | exact of_decide_eq_true (by first | (with_reducible assumption) | assumption) | (have e_ := (Kd.V_reads' HO_107.out).1; omega))
                      obtain ⟨ua170_4, uc170_4, rfl, ul170_4, ge170_4⟩ := k29_openF hMe170
                      have hv170_4 := hcc170 4 _ rfl
                      rw [add_field _ _ 4 (by omega)] at hv170_4
                      replace hv170_4 := Option.some.inj (hv170_4.symm.trans hx170_4)
                      injection hv170_4 with hva_ hvn_ hvc_
                      rw [hva_] at ge170_4
                      rw [hvc_] at ul170_4
                      have HL170_4 := Am (show Kd.V (Kd.int .i64) 3 _ w.heap.size _ _ ((rd_T29 t163 x109_5).f1) from Kd.V_mk ul170_4 ge170_4)
                      clear hva_ hvn_ hvc_ ge170_4 ul170_4
                      clear hcc170 hce170
                      have HR170_4 := Am hi170_4
                      have HC170_4 := Am hl170_4
                      clear hi170_4 hl170_4
                      replace p170 := eq_true p170
                      replace q170 := eq_true q170
                      try go_wp2_with (first | ((with_reducible refine gate_dst (N := 17) rfl ?_); (try (refine gate_guard (by rfl) ?_; dsimp only)); refine box_event ?hg (N := 17) ?hd (cs := #[.int .i64 0, .int .i64 0, .int .i64 0, .int .i64 0, .slice none 0 0]) (t := 29) ?hr ?_; (case hd => rfl); (case hg => rfl); (case hr => first | (go_simp; done) | (go_simp; rfl)); intro gb171 hg w86 hbox hb; have n0_ := Am (Kd.V_below (Kd.V_elderB (by (with_reducible repeat (first | apply Kd.V_alloc | apply Kd.V_drewN | apply Kd.V_drew)); exact HO_0.out) gb171 (Nat.le_of_eq hg.symm)) hb); have n1_ := Am (Kd.V_below (Kd.V_elderB (by (with_reducible repeat (first | apply Kd.V_alloc | apply Kd.V_drewN | apply Kd.V_drew)); exact HO_107.out) gb171 (Nat.le_of_eq hg.symm)) hb); have n2_ := Am (Kd.V_below (Kd.V_elderB (by (with_reducible repeat (first | apply Kd.V_alloc | apply Kd.V_drewN | apply Kd.V_drew)); exact HL170_4.out) gb171 (Nat.le_of_eq hg.symm)) hb); have n3_ := Am (blk_below (g := gb150) (o := .cells #[.int .i64 a1_0, .int .i64 a1_1, .int .i64 a1_2, .int .i64 a1_3] 24 (0, 0)) (by (with_reducible repeat (first | refine blk_drewN ?_ _ | refine blk_drew ?_ | refine blk_alloc ?_ _)); exact BK150.out) hb); have n4_ := Am (Kd.C_below (by repeat (first | (with_reducible exact HR170_4.out) | (with_reducible refine Kd.C_alloc ?_ _) | (with_reducible refine Kd.C_drewN ?_ _) | (with_reducible refine Kd.C_drew ?_) | exact HR170_4.out)) hb); have n5_ := Am (below_step (by repeat (first | (with_reducible first | exact HB.out | apply below_alloc | apply pw_below_drewN | apply below_drew1 | refine below_set ?_ GE150.out) | exact HB.out)) hb); have n6_ := Am (hbox); have n7_ := Am ((by rw [hg]; exact (below_size (by repeat (first | (with_reducible first | exact HB.out | apply below_alloc | apply pw_below_drewN | apply below_drew1 | refine below_set ?_ GE150.out) | exact HB.out))) : w.heap.size ≤ gb171)); have n8_ := Am ((by rw [hg]; exact (below_size (by repeat (first | (with_reducible first | exact HB.out | apply below_alloc | apply pw_below_drewN | apply below_drew1 | refine below_set ?_ GE150.out) | exact HB.out))) : w.heap.size ≤ gb171)); have n9_ := Am ((by rw [hg]; exact Nat.ne_of_lt (blk_lt (g := gb150) (o := .cells #[.int .i64 a1_0, .int .i64 a1_1, .int .i64 a1_2, .int .i64 a1_3] 24 (0, 0)) (by (with_reducible repeat (first | refine blk_drewN ?_ _ | refine blk_drew ?_ | refine blk_alloc ?_ _)); exact BK150.out)) : gb150 ≠ gb171)); have n10_ := Am ((by rw [hg]; exact Nat.ne_of_gt (blk_lt (g := gb150) (o := .cells #[.int .i64 a1_0, .int .i64 a1_1, .int .i64 a1_2, .int .i64 a1_3] 24 (0, 0)) (by (with_reducible repeat (first | refine blk_drewN ?_ _ | refine blk_drew ?_ | refine blk_alloc ?_ _)); exact BK150.out)) : gb171 ≠ gb150)); clear HO_0; clear HO_107; clear HL170_4; clear BK150; clear HR170_4; clear HB; have HO_0 := n0_; have HO_107 := n1_; have HL170_4 := n2_; have BK150 := n3_; have HR170_4 := n4_; have HB := n5_; have BK171 := n6_; have GW171 := n7_; have GE171 := n8_; have NB150_171 := n9_; have NB171_150 := n10_; clear n0_ n1_ n2_ n3_ n4_ n5_ n6_ n7_ n8_ n9_ n10_; clear hb hbox hg; have hnb87 := NB171_150.out; have hnc87 := NB150_171.out; have hcz88_0 : w86.cell? ⟨gb171, 0, none⟩ = some (.int .i64 0) := (blk_cell BK171.out 0).trans rfl; have hcz88_1 : w86.cell? ⟨gb171, 1, none⟩ = some (.int .i64 0) := (blk_cell BK171.out 1).trans rfl; have hcz88_2 : w86.cell? ⟨gb171, 2, none⟩ = some (.int .i64 0) := (blk_cell BK171.out 2).trans rfl; have hcz88_3 : w86.cell? ⟨gb171, 3, none⟩ = some (.int .i64 0) := (blk_cell BK171.out 3).trans rfl; have hcz88_4 : w86.cell? ⟨gb171, 4, none⟩ = some (.slice none 0 0) := (blk_cell BK171.out 4).trans rfl; have hfz88_0 := blk_frozen BK171.out 0; have hfz88_1 := blk_frozen BK171.out 1; have hfz88_2 := blk_frozen BK171.out 2; have hfz88_3 := blk_frozen BK171.out 3; have hfz88_4 := blk_frozen BK171.out 4))
                      have n0_ : Aside0 (Kd.V k29 29 (((((w86.setCell ⟨gb171, 0, none⟩ (.int .i64 ((rd_T29 t163 x109_5).f0.f0))).setCell ⟨gb171, 1, none⟩ (.int .i64 ((rd_T29 t163 x109_5).f0.f1))).setCell ⟨gb171, 2, none⟩ (.int .i64 ((rd_T29 t163 x109_5).f0.f2))).setCell ⟨gb171, 3, none⟩ (.int .i64 ((rd_T29 t163 x109_5).f0.f3))).setCell ⟨gb171, 4, none⟩ (.slice A170_4 ((rd_T29 t163 x109_5).f1).length c170_4)) w.heap.size (fun k_ => (P0_ k_ ∨ w.heap.size ≤ k_) ∧ k_ ≠ gb150 ∧ k_ ≠ gb171) (.slice A0 l0.length c0) l0) := ⟨by (with_reducible repeat (first | apply Kd.V_alloc | apply Kd.V_drewN | apply Kd.V_drew)); exact Kd.V_mono (Kd.V_far (p := ⟨gb171, 4, none⟩) (Kd.V_far (p := ⟨gb171, 3, none⟩) (Kd.V_far (p := ⟨gb171, 2, none⟩) (Kd.V_far (p := ⟨gb171, 1, none⟩) (Kd.V_far (p := ⟨gb171, 0, none⟩) (Kd.V_mono HO_0.out (fun k_ hk => (⟨hk, hk.2⟩ : _ ∧ k_ ≠ gb171))) (fun _ hk => hk.2) (.int .i64 ((rd_T29 t163 x109_5).f0.f0))) (fun _ hk => hk.2) (.int .i64 ((rd_T29 t163 x109_5).f0.f1))) (fun _ hk => hk.2) (.int .i64 ((rd_T29 t163 x109_5).f0.f2))) (fun _ hk => hk.2) (.int .i64 ((rd_T29 t163 x109_5).f0.f3))) (fun _ hk => hk.2) (.slice A170_4 ((rd_T29 t163 x109_5).f1).length c170_4)) (fun _ hk => ⟨hk.1.1.1, ⟨hk.1.1.2, hk.1.2⟩⟩)⟩
                      have n1_ : Aside0 (Kd.V k29 29 (((((w86.setCell ⟨gb171, 0, none⟩ (.int .i64 ((rd_T29 t163 x109_5).f0.f0))).setCell ⟨gb171, 1, none⟩ (.int .i64 ((rd_T29 t163 x109_5).f0.f1))).setCell ⟨gb171, 2, none⟩ (.int .i64 ((rd_T29 t163 x109_5).f0.f2))).setCell ⟨gb171, 3, none⟩ (.int .i64 ((rd_T29 t163 x109_5).f0.f3))).setCell ⟨gb171, 4, none⟩ (.slice A170_4 ((rd_T29 t163 x109_5).f1).length c170_4)) w.heap.size (fun k_ => (P0_ k_ ∨ w.heap.size ≤ k_) ∧ k_ ≠ gb150 ∧ k_ ≠ gb171) (.slice (some ad170) t163.length co60) t163) := ⟨by (with_reducible repeat (first | apply Kd.V_alloc | apply Kd.V_drewN | apply Kd.V_drew)); exact Kd.V_mono (Kd.V_far (p := ⟨gb171, 4, none⟩) (Kd.V_far (p := ⟨gb171, 3, none⟩) (Kd.V_far (p := ⟨gb171, 2, none⟩) (Kd.V_far (p := ⟨gb171, 1, none⟩) (Kd.V_far (p := ⟨gb171, 0, none⟩) (Kd.V_mono HO_107.out (fun k_ hk => (⟨hk, hk.2⟩ : _ ∧ k_ ≠ gb171))) (fun _ hk => hk.2) (.int .i64 ((rd_T29 t163 x109_5).f0.f0))) (fun _ hk => hk.2) (.int .i64 ((rd_T29 t163 x109_5).f0.f1))) (fun _ hk => hk.2) (.int .i64 ((rd_T29 t163 x109_5).f0.f2))) (fun _ hk => hk.2) (.int .i64 ((rd_T29 t163 x109_5).f0.f3))) (fun _ hk => hk.2) (.slice A170_4 ((rd_T29 t163 x109_5).f1).length c170_4)) (fun _ hk => ⟨hk.1.1.1, ⟨hk.1.1.2, hk.1.2⟩⟩)⟩
                      have n2_ : Aside0 (Kd.V (Kd.int .i64) 3 (((((w86.setCell ⟨gb171, 0, none⟩ (.int .i64 ((rd_T29 t163 x109_5).f0.f0))).setCell ⟨gb171, 1, none⟩ (.int .i64 ((rd_T29 t163 x109_5).f0.f1))).setCell ⟨gb171, 2, none⟩ (.int .i64 ((rd_T29 t163 x109_5).f0.f2))).setCell ⟨gb171, 3, none⟩ (.int .i64 ((rd_T29 t163 x109_5).f0.f3))).setCell ⟨gb171, 4, none⟩ (.slice A170_4 ((rd_T29 t163 x109_5).f1).length c170_4)) w.heap.size (fun k_ => (P0_ k_ ∨ w.heap.size ≤ k_) ∧ k_ ≠ gb150 ∧ k_ ≠ gb171) (.slice A170_4 ((rd_T29 t163 x109_5).f1).length c170_4) ((rd_T29 t163 x109_5).f1)) := ⟨by (with_reducible repeat (first | apply Kd.V_alloc | apply Kd.V_drewN | apply Kd.V_drew)); exact Kd.V_mono (Kd.V_far (p := ⟨gb171, 4, none⟩) (Kd.V_far (p := ⟨gb171, 3, none⟩) (Kd.V_far (p := ⟨gb171, 2, none⟩) (Kd.V_far (p := ⟨gb171, 1, none⟩) (Kd.V_far (p := ⟨gb171, 0, none⟩) (Kd.V_mono HL170_4.out (fun k_ hk => (⟨hk, hk.2⟩ : _ ∧ k_ ≠ gb171))) (fun _ hk => hk.2) (.int .i64 ((rd_T29 t163 x109_5).f0.f0))) (fun _ hk => hk.2) (.int .i64 ((rd_T29 t163 x109_5).f0.f1))) (fun _ hk => hk.2) (.int .i64 ((rd_T29 t163 x109_5).f0.f2))) (fun _ hk => hk.2) (.int .i64 ((rd_T29 t163 x109_5).f0.f3))) (fun _ hk => hk.2) (.slice A170_4 ((rd_T29 t163 x109_5).f1).length c170_4)) (fun _ hk => ⟨hk.1.1.1, ⟨hk.1.1.2, hk.1.2⟩⟩)⟩
                      have n3_ : Aside0 ((((((w86.setCell ⟨gb171, 0, none⟩ (.int .i64 ((rd_T29 t163 x109_5).f0.f0))).setCell ⟨gb171, 1, none⟩ (.int .i64 ((rd_T29 t163 x109_5).f0.f1))).setCell ⟨gb171, 2, none⟩ (.int .i64 ((rd_T29 t163 x109_5).f0.f2))).setCell ⟨gb171, 3, none⟩ (.int .i64 ((rd_T29 t163 x109_5).f0.f3))).setCell ⟨gb171, 4, none⟩ (.slice A170_4 ((rd_T29 t163 x109_5).f1).length c170_4)).heap[gb150]? = some (.cells #[.int .i64 a1_0, .int .i64 a1_1, .int .i64 a1_2, .int .i64 a1_3] 24 (0, 0))) := ⟨by (with_reducible repeat (first | refine blk_drewN ?_ _ | refine blk_drew ?_ | refine blk_alloc ?_ _)); refine blk_far ?_ NB150_171.out _; (with_reducible repeat (first | refine blk_drewN ?_ _ | refine blk_drew ?_ | refine blk_alloc ?_ _)); refine blk_far ?_ NB150_171.out _; (with_reducible repeat (first | refine blk_drewN ?_ _ | refine blk_drew ?_ | refine blk_alloc ?_ _)); refine blk_far ?_ NB150_171.out _; (with_reducible repeat (first | refine blk_drewN ?_ _ | refine blk_drew ?_ | refine blk_alloc ?_ _)); refine blk_far ?_ NB150_171.out _; (with_reducible repeat (first | refine blk_drewN ?_ _ | refine blk_drew ?_ | refine blk_alloc ?_ _)); refine blk_far ?_ NB150_171.out _; (with_reducible repeat (first | refine blk_drewN ?_ _ | refine blk_drew ?_ | refine blk_alloc ?_ _)); exact BK150.out⟩
                      have n4_ : Aside0 ((((((w86.setCell ⟨gb171, 0, none⟩ (.int .i64 ((rd_T29 t163 x109_5).f0.f0))).setCell ⟨gb171, 1, none⟩ (.int .i64 ((rd_T29 t163 x109_5).f0.f1))).setCell ⟨gb171, 2, none⟩ (.int .i64 ((rd_T29 t163 x109_5).f0.f2))).setCell ⟨gb171, 3, none⟩ (.int .i64 ((rd_T29 t163 x109_5).f0.f3))).setCell ⟨gb171, 4, none⟩ (.slice A170_4 ((rd_T29 t163 x109_5).f1).length c170_4)).heap[gb171]? = some (.cells #[.int .i64 ((rd_T29 t163 x109_5).f0.f0), .int .i64 ((rd_T29 t163 x109_5).f0.f1), .int .i64 ((rd_T29 t163 x109_5).f0.f2), .int .i64 ((rd_T29 t163 x109_5).f0.f3), .slice A170_4 ((rd_T29 t163 x109_5).f1).length c170_4] 29 (0, 0))) := ⟨by (with_reducible repeat (first | refine blk_drewN ?_ _ | refine blk_drew ?_ | refine blk_alloc ?_ _)); refine blk_put (cs := #[.int .i64 ((rd_T29 t163 x109_5).f0.f0), .int .i64 ((rd_T29 t163 x109_5).f0.f1), .int .i64 ((rd_T29 t163 x109_5).f0.f2), .int .i64 ((rd_T29 t163 x109_5).f0.f3), .slice none 0 0]) ?_ 4 _ rfl; (with_reducible repeat (first | refine blk_drewN ?_ _ | refine blk_drew ?_ | refine blk_alloc ?_ _)); refine blk_put (cs := #[.int .i64 ((rd_T29 t163 x109_5).f0.f0), .int .i64 ((rd_T29 t163 x109_5).f0.f1), .int .i64 ((rd_T29 t163 x109_5).f0.f2), .int .i64 0, .slice none 0 0]) ?_ 3 _ rfl; (with_reducible repeat (first | refine blk_drewN ?_ _ | refine blk_drew ?_ | refine blk_alloc ?_ _)); refine blk_put (cs := #[.int .i64 ((rd_T29 t163 x109_5).f0.f0), .int .i64 ((rd_T29 t163 x109_5).f0.f1), .int .i64 0, .int .i64 0, .slice none 0 0]) ?_ 2 _ rfl; (with_reducible repeat (first | refine blk_drewN ?_ _ | refine blk_drew ?_ | refine blk_alloc ?_ _)); refine blk_put (cs := #[.int .i64 ((rd_T29 t163 x109_5).f0.f0), .int .i64 0, .int .i64 0, .int .i64 0, .slice none 0 0]) ?_ 1 _ rfl; (with_reducible repeat (first | refine blk_drewN ?_ _ | refine blk_drew ?_ | refine blk_alloc ?_ _)); refine blk_put (cs := #[.int .i64 0, .int .i64 0, .int .i64 0, .int .i64 0, .slice none 0 0]) ?_ 0 _ rfl; (with_reducible repeat (first | refine blk_drewN ?_ _ | refine blk_drew ?_ | refine blk_alloc ?_ _)); exact BK171.out⟩
                      have n5_ : Aside0 (Below w.heap.size w (((((w86.setCell ⟨gb171, 0, none⟩ (.int .i64 ((rd_T29 t163 x109_5).f0.f0))).setCell ⟨gb171, 1, none⟩ (.int .i64 ((rd_T29 t163 x109_5).f0.f1))).setCell ⟨gb171, 2, none⟩ (.int .i64 ((rd_T29 t163 x109_5).f0.f2))).setCell ⟨gb171, 3, none⟩ (.int .i64 ((rd_T29 t163 x109_5).f0.f3))).setCell ⟨gb171, 4, none⟩ (.slice A170_4 ((rd_T29 t163 x109_5).f1).length c170_4))) := ⟨by repeat (first | (with_reducible first | exact HB.out | apply below_alloc | apply pw_below_drewN | apply below_drew1 | refine below_set ?_ GE150.out | refine below_set ?_ GE171.out) | exact HB.out)⟩
                      (try clear HO_0)
                      (try clear HO_107)
                      (try clear HL170_4)
                      (try clear BK150)
                      (try clear BK171)
                      (try clear HB)
                      generalize (((((w86.setCell ⟨gb171, 0, none⟩ (.int .i64 ((rd_T29 t163 x109_5).f0.f0))).setCell ⟨gb171, 1, none⟩ (.int .i64 ((rd_T29 t163 x109_5).f0.f1))).setCell ⟨gb171, 2, none⟩ (.int .i64 ((rd_T29 t163 x109_5).f0.f2))).setCell ⟨gb171, 3, none⟩ (.int .i64 ((rd_T29 t163 x109_5).f0.f3))).setCell ⟨gb171, 4, none⟩ (.slice A170_4 ((rd_T29 t163 x109_5).f1).length c170_4)) = w89 at n0_ n1_ n2_ n3_ n4_ n5_ ⊢
                      have HO_0 := n0_
                      have HO_107 := n1_
                      have HL170_4 := n2_
                      have BK150 := n3_
                      have BK171 := n4_
                      have HB := n5_
                      clear n0_ n1_ n2_ n3_ n4_ n5_
                      have n0_ := Am (Kd.V_drew HO_0.out)
                      have n1_ := Am (Kd.V_drew HO_107.out)
                      have n2_ := Am (Kd.V_drew HL170_4.out)
                      have n3_ := Am (blk_drew BK150.out)
                      have n4_ := Am (blk_drew BK171.out)
                      have n5_ := Am (below_drew1 HB.out)
                      clear HO_0
                      clear HO_107
                      clear HL170_4
                      clear BK150
                      clear BK171
                      clear HB
                      have HO_0 := n0_
                      have HO_107 := n1_
                      have HL170_4 := n2_
                      have BK150 := n3_
                      have BK171 := n4_
                      have HB := n5_
                      clear n0_ n1_ n2_ n3_ n4_ n5_
                      refine start_ (n := 44) (S := fun w' => w'.cell? ⟨gb171, 0, none⟩ = some (.int .i64 ((rd_T29 t163 x109_5).f0.f0)) ∧ w'.cell? ⟨gb171, 1, none⟩ = some (.int .i64 ((rd_T29 t163 x109_5).f0.f1)) ∧ w'.cell? ⟨gb171, 2, none⟩ = some (.int .i64 ((rd_T29 t163 x109_5).f0.f2)) ∧ w'.cell? ⟨gb171, 3, none⟩ = some (.int .i64 ((rd_T29 t163 x109_5).f0.f3)) ∧ w'.cell? ⟨gb171, 4, none⟩ = some (.slice A170_4 ((rd_T29 t163 x109_5).f1).length c170_4) ∧ w'.cell? ⟨gb150, 0, none⟩ = some (.int .i64 a1_0) ∧ w'.cell? ⟨gb150, 1, none⟩ = some (.int .i64 a1_1) ∧ w'.cell? ⟨gb150, 2, none⟩ = some (.int .i64 a1_2) ∧ w'.cell? ⟨gb150, 3, none⟩ = some (.int .i64 a1_3)) (ds := []) #[false, false, false, false, false, false, false, false, false, false, false, false, false, false, false, false, false, false, false, false, false, false, false, false, false, false, false, false, false, false, false, false, false, false, false, false, false, false, false, false, false, false, false, false] (by kernel_rfl) rfl rfl ⟨(blk_cell BK171.out 0).trans rfl, (blk_cell BK171.out 1).trans rfl, (blk_cell BK171.out 2).trans rfl, (blk_cell BK171.out 3).trans rfl, (blk_cell BK171.out 4).trans rfl, (blk_cell BK150.out 0).trans rfl, (blk_cell BK150.out 1).trans rfl, (blk_cell BK150.out 2).trans rfl, (blk_cell BK150.out 3).trans rfl⟩ (fun hHeld => ?_); refine with_tabW switchboardlaw12_LedgerExact.tab22 switchboardlaw12_LedgerExact.bits22 (fun HT_ HW_ => ?_)
                      generalize w89.drew = w90 at HO_0 HO_107 HL170_4 BK150 BK171 HB hHeld ⊢
                      refine pure_ (i := 0) (N := some 114) (v := ?_) (a' := ?_) #[true, false, false, false, false, false, false, false, false, false, false, false, false, false, false, false, false, false, false, false, false, false, false, false, false, false, false, false, false, false, false, false, false, false, false, false, false, false, false, false, false, false, false, false] rfl rfl (any_of HT_.out (by kernel_rfl)) (fun _ _ _ h => h) (Or.inl ⟨by rfl, ?_⟩) ?_ ?_
                      rotate_left
                      ·
                       intro w'
                       go_simp
                       with_reducible rfl
                      rotate_left
                      ·
                       simp only [Act.put, List.setIfInBounds_toArray, List.set_cons_zero, List.set_cons_succ, i64_w, i32_w]
                       rfl
                      refine pure_ (i := 1) (N := some 115) (v := ?_) (a' := ?_) #[true, true, false, false, false, false, false, false, false, false, false, false, false, false, false, false, false, false, false, false, false, false, false, false, false, false, false, false, false, false, false, false, false, false, false, false, false, false, false, false, false, false, false, false] rfl rfl (any_of HT_.out (by kernel_rfl)) (fun _ _ _ h => h) (Or.inl ⟨by rfl, ?_⟩) ?_ ?_
                      rotate_left
                      ·
                       intro w'
                       go_simp
                       with_reducible rfl
                      rotate_left
                      ·
                       simp only [Act.put, List.setIfInBounds_toArray, List.set_cons_zero, List.set_cons_succ, i64_w, i32_w]
                       rfl
                      refine pure_ (i := 2) (N := some 116) (v := ?_) (a' := ?_) #[true, true, true, false, false, false, false, false, false, false, false, false, false, false, false, false, false, false, false, false, false, false, false, false, false, false, false, false, false, false, false, false, false, false, false, false, false, false, false, false, false, false, false, false] rfl rfl (any_of HT_.out (by kernel_rfl)) (fun _ _ _ h => h) (Or.inl ⟨by rfl, ?_⟩) ?_ ?_
                      rotate_left
                      ·
                       intro w'
                       go_simp
                       with_reducible rfl
                      rotate_left
                      ·
                       simp only [Act.put, List.setIfInBounds_toArray, List.set_cons_zero, List.set_cons_succ, i64_w, i32_w]
                       rfl
                      refine pure_ (i := 3) (N := some 117) (v := ?_) (a' := ?_) #[true, true, true, true, false, false, false, false, false, false, false, false, false, false, false, false, false, false, false, false, false, false, false, false, false, false, false, false, false, false, false, false, false, false, false, false, false, false, false, false, false, false, false, false] rfl rfl (any_of HT_.out (by kernel_rfl)) (fun _ _ _ h => h) (Or.inl ⟨by rfl, ?_⟩) ?_ ?_
                      rotate_left
                      ·
                       intro w'
                       go_simp
                       with_reducible rfl
                      rotate_left
                      ·
                       simp only [Act.put, List.setIfInBounds_toArray, List.set_cons_zero, List.set_cons_succ, i64_w, i32_w]
                       rfl
                      refine pure_ (i := 4) (N := some 118) (v := ?_) (a' := ?_) #[true, true, true, true, true, false, false, false, false, false, false, false, false, false, false, false, false, false, false, false, false, false, false, false, false, false, false, false, false, false, false, false, false, false, false, false, false, false, false, false, false, false, false, false] rfl rfl (any_of HT_.out (by kernel_rfl)) (fun _ _ _ h => h) (Or.inl ⟨by rfl, ?_⟩) ?_ ?_
                      rotate_left
                      ·
                       intro w'
                       go_simp
                       with_reducible rfl
                      rotate_left
                      ·
                       simp only [Act.put, List.setIfInBounds_toArray, List.set_cons_zero, List.set_cons_succ, i64_w, i32_w]
                       rfl
                      refine pure_ (i := 5) (N := some 119) (v := undef) (a' := ?_) #[true, true, true, true, true, true, false, false, false, false, false, false, false, false, false, false, false, false, false, false, false, false, false, false, false, false, false, false, false, false, false, false, false, false, false, false, false, false, false, false, false, false, false, false] rfl rfl (any_of HT_.out (by kernel_rfl)) (fun _ _ _ h => h) (Or.inr ⟨by rfl, rfl⟩) ?_ ?_
                      rotate_left
                      ·
                       simp only [Act.put, List.setIfInBounds_toArray, List.set_cons_zero, List.set_cons_succ, i64_w, i32_w]
                       rfl
                      refine pure_ (i := 6) (N := some 120) (v := undef) (a' := ?_) #[true, true, true, true, true, true, true, false, false, false, false, false, false, false, false, false, false, false, false, false, false, false, false, false, false, false, false, false, false, false, false, false, false, false, false, false, false, false, false, false, false, false, false, false] rfl rfl (any_of HT_.out (by kernel_rfl)) (fun _ _ _ h => h) (Or.inr ⟨by rfl, rfl⟩) ?_ ?_
                      rotate_left
                      ·
                       simp only [Act.put, List.setIfInBounds_toArray, List.set_cons_zero, List.set_cons_succ, i64_w, i32_w]
                       rfl
                      refine pure_ (i := 7) (N := some 121) (v := undef) (a' := ?_) #[true, true, true, true, true, true, true, true, false, false, false, false, false, false, false, false, false, false, false, false, false, false, false, false, false, false, false, false, false, false, false, false, false, false, false, false, false, false, false, false, false, false, false, false] rfl rfl (any_of HT_.out (by kernel_rfl)) (fun _ _ _ h => h) (Or.inr ⟨by rfl, rfl⟩) ?_ ?_
                      rotate_left
                      ·
                       simp only [Act.put, List.setIfInBounds_toArray, List.set_cons_zero, List.set_cons_succ, i64_w, i32_w]
                       rfl
                      refine pure_ (i := 8) (N := some 122) (v := undef) (a' := ?_) #[true, true, true, true, true, true, true, true, true, false, false, false, false, false, false, false, false, false, false, false, false, false, false, false, false, false, false, false, false, false, false, false, false, false, false, false, false, false, false, false, false, false, false, false] rfl rfl (any_of HT_.out (by kernel_rfl)) (fun _ _ _ h => h) (Or.inr ⟨by rfl, rfl⟩) ?_ ?_
                      rotate_left
                      ·
                       simp only [Act.put, List.setIfInBounds_toArray, List.set_cons_zero, List.set_cons_succ, i64_w, i32_w]
                       rfl
                      refine pure_ (i := 9) (N := some 123) (v := undef) (a' := ?_) #[true, true, true, true, true, true, true, true, true, true, false, false, false, false, false, false, false, false, false, false, false, false, false, false, false, false, false, false, false, false, false, false, false, false, false, false, false, false, false, false, false, false, false, false] rfl rfl (any_of HT_.out (by kernel_rfl)) (fun _ _ _ h => h) (Or.inr ⟨by rfl, rfl⟩) ?_ ?_
                      rotate_left
                      ·
                       simp only [Act.put, List.setIfInBounds_toArray, List.set_cons_zero, List.set_cons_succ, i64_w, i32_w]
                       rfl
                      refine pure_ (i := 10) (N := some 124) (v := undef) (a' := ?_) #[true, true, true, true, true, true, true, true, true, true, true, false, false, false, false, false, false, false, false, false, false, false, false, false, false, false, false, false, false, false, false, false, false, false, false, false, false, false, false, false, false, false, false, false] rfl rfl (any_of HT_.out (by kernel_rfl)) (fun _ _ _ h => h) (Or.inr ⟨by rfl, rfl⟩) ?_ ?_
                      rotate_left
                      ·
                       simp only [Act.put, List.setIfInBounds_toArray, List.set_cons_zero, List.set_cons_succ, i64_w, i32_w]
                       rfl
                      refine pure_ (i := 11) (N := some 125) (v := undef) (a' := ?_) #[true, true, true, true, true, true, true, true, true, true, true, true, false, false, false, false, false, false, false, false, false, false, false, false, false, false, false, false, false, false, false, false, false, false, false, false, false, false, false, false, false, false, false, false] rfl rfl (any_of HT_.out (by kernel_rfl)) (fun _ _ _ h => h) (Or.inr ⟨by rfl, rfl⟩) ?_ ?_
                      rotate_left
                      ·
                       simp only [Act.put, List.setIfInBounds_toArray, List.set_cons_zero, List.set_cons_succ, i64_w, i32_w]
                       rfl
                      refine pure_ (i := 12) (N := some 126) (v := undef) (a' := ?_) #[true, true, true, true, true, true, true, true, true, true, true, true, true, false, false, false, false, false, false, false, false, false, false, false, false, false, false, false, false, false, false, false, false, false, false, false, false, false, false, false, false, false, false, false] rfl rfl (any_of HT_.out (by kernel_rfl)) (fun _ _ _ h => h) (Or.inr ⟨by rfl, rfl⟩) ?_ ?_
                      rotate_left
                      ·
                       simp only [Act.put, List.setIfInBounds_toArray, List.set_cons_zero, List.set_cons_succ, i64_w, i32_w]
                       rfl
                      refine pure_ (i := 13) (N := some 127) (v := undef) (a' := ?_) #[true, true, true, true, true, true, true, true, true, true, true, true, true, true, false, false, false, false, false, false, false, false, false, false, false, false, false, false, false, false, false, false, false, false, false, false, false, false, false, false, false, false, false, false] rfl rfl (any_of HT_.out (by kernel_rfl)) (fun _ _ _ h => h) (Or.inr ⟨by rfl, rfl⟩) ?_ ?_
                      rotate_left
                      ·
                       simp only [Act.put, List.setIfInBounds_toArray, List.set_cons_zero, List.set_cons_succ, i64_w, i32_w]
                       rfl
                      refine pure_ (i := 14) (N := some 128) (v := undef) (a' := ?_) #[true, true, true, true, true, true, true, true, true, true, true, true, true, true, true, false, false, false, false, false, false, false, false, false, false, false, false, false, false, false, false, false, false, false, false, false, false, false, false, false, false, false, false, false] rfl rfl (any_of HT_.out (by kernel_rfl)) (fun _ _ _ h => h) (Or.inr ⟨by rfl, rfl⟩) ?_ ?_
                      rotate_left
                      ·
                       simp only [Act.put, List.setIfInBounds_toArray, List.set_cons_zero, List.set_cons_succ, i64_w, i32_w]
                       rfl
                      refine pure_ (i := 15) (N := some 129) (v := undef) (a' := ?_) #[true, true, true, true, true, true, true, true, true, true, true, true, true, true, true, true, false, false, false, false, false, false, false, false, false, false, false, false, false, false, false, false, false, false, false, false, false, false, false, false, false, false, false, false] rfl rfl (any_of HT_.out (by kernel_rfl)) (fun _ _ _ h => h) (Or.inr ⟨by rfl, rfl⟩) ?_ ?_
                      rotate_left
                      ·
                       simp only [Act.put, List.setIfInBounds_toArray, List.set_cons_zero, List.set_cons_succ, i64_w, i32_w]
                       rfl
                      refine pure_ (i := 16) (N := some 130) (v := undef) (a' := ?_) #[true, true, true, true, true, true, true, true, true, true, true, true, true, true, true, true, true, false, false, false, false, false, false, false, false, false, false, false, false, false, false, false, false, false, false, false, false, false, false, false, false, false, false, false] rfl rfl (any_of HT_.out (by kernel_rfl)) (fun _ _ _ h => h) (Or.inr ⟨by rfl, rfl⟩) ?_ ?_
                      rotate_left
                      ·
                       simp only [Act.put, List.setIfInBounds_toArray, List.set_cons_zero, List.set_cons_succ, i64_w, i32_w]
                       rfl
                      refine pure_ (i := 17) (N := some 131) (v := undef) (a' := ?_) #[true, true, true, true, true, true, true, true, true, true, true, true, true, true, true, true, true, true, false, false, false, false, false, false, false, false, false, false, false, false, false, false, false, false, false, false, false, false, false, false, false, false, false, false] rfl rfl (any_of HT_.out (by kernel_rfl)) (fun _ _ _ h => h) (Or.inr ⟨by rfl, rfl⟩) ?_ ?_
                      rotate_left
                      ·
                       simp only [Act.put, List.setIfInBounds_toArray, List.set_cons_zero, List.set_cons_succ, i64_w, i32_w]
                       rfl
                      refine pure_ (i := 18) (N := some 132) (v := undef) (a' := ?_) #[true, true, true, true, true, true, true, true, true, true, true, true, true, true, true, true, true, true, true, false, false, false, false, false, false, false, false, false, false, false, false, false, false, false, false, false, false, false, false, false, false, false, false, false] rfl rfl (any_of HT_.out (by kernel_rfl)) (fun _ _ _ h => h) (Or.inr ⟨by rfl, rfl⟩) ?_ ?_
                      rotate_left
                      ·
                       simp only [Act.put, List.setIfInBounds_toArray, List.set_cons_zero, List.set_cons_succ, i64_w, i32_w]
                       rfl
                      refine pure_ (i := 19) (N := some 133) (v := undef) (a' := ?_) #[true, true, true, true, true, true, true, true, true, true, true, true, true, true, true, true, true, true, true, true, false, false, false, false, false, false, false, false, false, false, false, false, false, false, false, false, false, false, false, false, false, false, false, false] rfl rfl (any_of HT_.out (by kernel_rfl)) (fun _ _ _ h => h) (Or.inr ⟨by rfl, rfl⟩) ?_ ?_
                      rotate_left
                      ·
                       simp only [Act.put, List.setIfInBounds_toArray, List.set_cons_zero, List.set_cons_succ, i64_w, i32_w]
                       rfl
                      refine pure_ (i := 20) (N := some 134) (v := undef) (a' := ?_) #[true, true, true, true, true, true, true, true, true, true, true, true, true, true, true, true, true, true, true, true, true, false, false, false, false, false, false, false, false, false, false, false, false, false, false, false, false, false, false, false, false, false, false, false] rfl rfl (any_of HT_.out (by kernel_rfl)) (fun _ _ _ h => h) (Or.inr ⟨by rfl, rfl⟩) ?_ ?_
                      rotate_left
                      ·
                       simp only [Act.put, List.setIfInBounds_toArray, List.set_cons_zero, List.set_cons_succ, i64_w, i32_w]
                       rfl
                      refine pure_ (i := 21) (N := some 135) (v := undef) (a' := ?_) #[true, true, true, true, true, true, true, true, true, true, true, true, true, true, true, true, true, true, true, true, true, true, false, false, false, false, false, false, false, false, false, false, false, false, false, false, false, false, false, false, false, false, false, false] rfl rfl (any_of HT_.out (by kernel_rfl)) (fun _ _ _ h => h) (Or.inr ⟨by rfl, rfl⟩) ?_ ?_
                      rotate_left
                      ·
                       simp only [Act.put, List.setIfInBounds_toArray, List.set_cons_zero, List.set_cons_succ, i64_w, i32_w]
                       rfl
                      refine pure_ (i := 22) (N := some 136) (v := undef) (a' := ?_) #[true, true, true, true, true, true, true, true, true, true, true, true, true, true, true, true, true, true, true, true, true, true, true, false, false, false, false, false, false, false, false, false, false, false, false, false, false, false, false, false, false, false, false, false] rfl rfl (any_of HT_.out (by kernel_rfl)) (fun _ _ _ h => h) (Or.inr ⟨by rfl, rfl⟩) ?_ ?_
                      rotate_left
                      ·
                       simp only [Act.put, List.setIfInBounds_toArray, List.set_cons_zero, List.set_cons_succ, i64_w, i32_w]
                       rfl
                      refine pure_ (i := 23) (N := some 137) (v := undef) (a' := ?_) #[true, true, true, true, true, true, true, true, true, true, true, true, true, true, true, true, true, true, true, true, true, true, true, true, false, false, false, false, false, false, false, false, false, false, false, false, false, false, false, false, false, false, false, false] rfl rfl (any_of HT_.out (by kernel_rfl)) (fun _ _ _ h => h) (Or.inr ⟨by rfl, rfl⟩) ?_ ?_
                      rotate_left
                      ·
                       simp only [Act.put, List.setIfInBounds_toArray, List.set_cons_zero, List.set_cons_succ, i64_w, i32_w]
                       rfl
                      refine pure_ (i := 24) (N := some 138) (v := ?_) (a' := ?_) #[true, true, true, true, true, true, true, true, true, true, true, true, true, true, true, true, true, true, true, true, true, true, true, true, true, false, false, false, false, false, false, false, false, false, false, false, false, false, false, false, false, false, false, false] rfl rfl (any_of HT_.out (by kernel_rfl)) (fun _ _ _ h => h) (Or.inl ⟨by rfl, ?_⟩) ?_ ?_
                      rotate_left
                      ·
                       intro w'
                       go_simp
                       with_reducible rfl
                      rotate_left
                      ·
                       simp only [Act.put, List.setIfInBounds_toArray, List.set_cons_zero, List.set_cons_succ, i64_w, i32_w]
                       rfl
                      refine pure_ (i := 25) (N := some 139) (v := ?_) (a' := ?_) #[true, true, true, true, true, true, true, true, true, true, true, true, true, true, true, true, true, true, true, true, true, true, true, true, true, true, false, false, false, false, false, false, false, false, false, false, false, false, false, false, false, false, false, false] rfl rfl (any_of HT_.out (by kernel_rfl)) (fun _ _ _ h => h) (Or.inl ⟨by rfl, ?_⟩) ?_ ?_
                      rotate_left
                      ·
                       intro w'
                       go_simp
                       with_reducible rfl
                      rotate_left
                      ·
                       simp only [Act.put, List.setIfInBounds_toArray, List.set_cons_zero, List.set_cons_succ, i64_w, i32_w]
                       rfl
                      refine pure_ (i := 26) (N := some 140) (v := ?_) (a' := ?_) #[true, true, true, true, true, true, true, true, true, true, true, true, true, true, true, true, true, true, true, true, true, true, true, true, true, true, true, false, false, false, false, false, false, false, false, false, false, false, false, false, false, false, false, false] rfl rfl (any_of HT_.out (by kernel_rfl)) (fun _ _ _ h => h) (Or.inl ⟨by rfl, ?_⟩) ?_ ?_
                      rotate_left
                      ·
                       intro w'
                       go_simp
                       with_reducible rfl
                      rotate_left
                      ·
                       simp only [Act.put, List.setIfInBounds_toArray, List.set_cons_zero, List.set_cons_succ, i64_w, i32_w]
                       rfl
                      refine pure_ (i := 27) (N := some 141) (v := ?_) (a' := ?_) #[true, true, true, true, true, true, true, true, true, true, true, true, true, true, true, true, true, true, true, true, true, true, true, true, true, true, true, true, false, false, false, false, false, false, false, false, false, false, false, false, false, false, false, false] rfl rfl (any_of HT_.out (by kernel_rfl)) (fun _ _ _ h => h) (Or.inl ⟨by rfl, ?_⟩) ?_ ?_
                      rotate_left
                      ·
                       intro w'
                       go_simp
                       with_reducible rfl
                      rotate_left
                      ·
                       simp only [Act.put, List.setIfInBounds_toArray, List.set_cons_zero, List.set_cons_succ, i64_w, i32_w]
                       rfl
                      refine pure_ (i := 28) (N := some 142) (v := ?_) (a' := ?_) #[true, true, true, true, true, true, true, true, true, true, true, true, true, true, true, true, true, true, true, true, true, true, true, true, true, true, true, true, true, false, false, false, false, false, false, false, false, false, false, false, false, false, false, false] rfl rfl (any_of HT_.out (by kernel_rfl)) (fun _ _ _ h => h) (Or.inl ⟨by rfl, ?_⟩) ?_ ?_
                      rotate_left
                      ·
                       intro w'
                       go_simp
                       with_reducible rfl
                      rotate_left
                      ·
                       simp only [Act.put, List.setIfInBounds_toArray, List.set_cons_zero, List.set_cons_succ, i64_w, i32_w]
                       rfl
                      refine pure_ (i := 29) (N := some 143) (v := ?_) (a' := ?_) #[true, true, true, true, true, true, true, true, true, true, true, true, true, true, true, true, true, true, true, true, true, true, true, true, true, true, true, true, true, true, false, false, false, false, false, false, false, false, false, false, false, false, false, false] rfl rfl (any_of HT_.out (by kernel_rfl)) (fun _ _ _ h => h) (Or.inl ⟨by rfl, ?_⟩) ?_ ?_
                      rotate_left
                      ·
                       intro w'
                       go_simp
                       with_reducible rfl
                      rotate_left
                      ·
                       simp only [Act.put, List.setIfInBounds_toArray, List.set_cons_zero, List.set_cons_succ, i64_w, i32_w]
                       rfl
                      refine pure_ (i := 30) (N := some 144) (v := ?_) (a' := ?_) #[true, true, true, true, true, true, true, true, true, true, true, true, true, true, true, true, true, true, true, true, true, true, true, true, true, true, true, true, true, true, true, false, false, false, false, false, false, false, false, false, false, false, false, false] rfl rfl (any_of HT_.out (by kernel_rfl)) (fun _ _ _ h => h) (Or.inl ⟨by rfl, ?_⟩) ?_ ?_
                      rotate_left
                      ·
                       intro w'
                       go_simp
                       with_reducible rfl
                      rotate_left
                      ·
                       simp only [Act.put, List.setIfInBounds_toArray, List.set_cons_zero, List.set_cons_succ, i64_w, i32_w]
                       rfl
                      refine pure_ (i := 31) (N := some 145) (v := ?_) (a' := ?_) #[true, true, true, true, true, true, true, true, true, true, true, true, true, true, true, true, true, true, true, true, true, true, true, true, true, true, true, true, true, true, true, true, false, false, false, false, false, false, false, false, false, false, false, false] rfl rfl (any_of HT_.out (by kernel_rfl)) (fun _ _ _ h => h) (Or.inl ⟨by rfl, ?_⟩) ?_ ?_
                      rotate_left
                      ·
                       intro w'
                       go_simp
                       with_reducible rfl
                      rotate_left
                      ·
                       simp only [Act.put, List.setIfInBounds_toArray, List.set_cons_zero, List.set_cons_succ, i64_w, i32_w]
                       rfl
                      refine take_ (i := 32) (N := some 146) (v := ?_) (a' := ?_) #[true, true, true, true, true, true, true, true, true, true, true, true, true, true, true, true, true, true, true, true, true, true, true, true, true, true, true, true, true, true, true, true, true, false, false, false, false, false, false, false, false, false, false, false] rfl rfl (take_ofW HT_.out HW_.out (by kernel_rfl)) (fun _ _ _ h => h) (Or.inl ⟨by rfl, ?_⟩) hHeld ?_ ?_
                      rotate_left
                      ·
                       rintro w' ⟨s0, s1, s2, s3, s4, s5, s6, s7, s8⟩
                       go_simp
                       with_reducible rfl
                      rotate_left
                      ·
                       simp only [Act.put, List.setIfInBounds_toArray, List.set_cons_zero, List.set_cons_succ, i64_w, i32_w]
                       rfl
                      refine take_ (i := 33) (N := some 147) (v := ?_) (a' := ?_) #[true, true, true, true, true, true, true, true, true, true, true, true, true, true, true, true, true, true, true, true, true, true, true, true, true, true, true, true, true, true, true, true, true, true, false, false, false, false, false, false, false, false, false, false] rfl rfl (take_ofW HT_.out HW_.out (by kernel_rfl)) (fun _ _ _ h => h) (Or.inl ⟨by rfl, ?_⟩) hHeld ?_ ?_
                      rotate_left
                      ·
                       rintro w' ⟨s0, s1, s2, s3, s4, s5, s6, s7, s8⟩
                       go_simp
                       with_reducible rfl
                      rotate_left
                      ·
                       simp only [Act.put, List.setIfInBounds_toArray, List.set_cons_zero, List.set_cons_succ, i64_w, i32_w]
                       rfl
                      refine pure_ (i := 34) (N := some 148) (v := ?_) (a' := ?_) #[true, true, true, true, true, true, true, true, true, true, true, true, true, true, true, true, true, true, true, true, true, true, true, true, true, true, true, true, true, true, true, true, true, true, true, false, false, false, false, false, false, false, false, false] rfl rfl (any_of HT_.out (by kernel_rfl)) (fun _ _ _ h => h) (Or.inl ⟨by rfl, ?_⟩) ?_ ?_
                      rotate_left
                      ·
                       intro w'
                       go_simp
                       with_reducible rfl
                      rotate_left
                      ·
                       simp only [Act.put, List.setIfInBounds_toArray, List.set_cons_zero, List.set_cons_succ, i64_w, i32_w]
                       rfl
                      refine pure_ (i := 35) (N := some 149) (v := ?_) (a' := ?_) #[true, true, true, true, true, true, true, true, true, true, true, true, true, true, true, true, true, true, true, true, true, true, true, true, true, true, true, true, true, true, true, true, true, true, true, true, false, false, false, false, false, false, false, false] rfl rfl (any_of HT_.out (by kernel_rfl)) (fun _ _ _ h => h) (Or.inl ⟨by rfl, ?_⟩) ?_ ?_
                      rotate_left
                      ·
                       intro w'
                       go_simp
                       with_reducible rfl
                      rotate_left
                      ·
                       simp only [Act.put, List.setIfInBounds_toArray, List.set_cons_zero, List.set_cons_succ, i64_w, i32_w]
                       rfl
                      refine pure_ (i := 36) (N := some 150) (v := ?_) (a' := ?_) #[true, true, true, true, true, true, true, true, true, true, true, true, true, true, true, true, true, true, true, true, true, true, true, true, true, true, true, true, true, true, true, true, true, true, true, true, true, false, false, false, false, false, false, false] rfl rfl (any_of HT_.out (by kernel_rfl)) (fun _ _ _ h => h) (Or.inl ⟨by rfl, ?_⟩) ?_ ?_
                      rotate_left
                      ·
                       intro w'
                       go_simp
                       with_reducible rfl
                      rotate_left
                      ·
                       simp only [Act.put, List.setIfInBounds_toArray, List.set_cons_zero, List.set_cons_succ, i64_w, i32_w]
                       rfl
                      refine pure_ (i := 38) (N := some 152) (v := ?_) (a' := ?_) #[true, true, true, true, true, true, true, true, true, true, true, true, true, true, true, true, true, true, true, true, true, true, true, true, true, true, true, true, true, true, true, true, true, true, true, true, true, false, true, false, false, false, false, false] rfl rfl (any_of HT_.out (by kernel_rfl)) (fun _ _ _ h => h) (Or.inl ⟨by rfl, ?_⟩) ?_ ?_
                      rotate_left
                      ·
                       intro w'
                       go_simp
                       with_reducible rfl
                      rotate_left
                      ·
                       simp only [Act.put, List.setIfInBounds_toArray, List.set_cons_zero, List.set_cons_succ, i64_w, i32_w]
                       rfl
                      refine take_ (i := 37) (N := some 151) (v := ?_) (a' := ?_) #[true, true, true, true, true, true, true, true, true, true, true, true, true, true, true, true, true, true, true, true, true, true, true, true, true, true, true, true, true, true, true, true, true, true, true, true, true, true, true, false, false, false, false, false] rfl rfl (take_ofW HT_.out HW_.out (by kernel_rfl)) (fun _ _ _ h => h) (Or.inl ⟨by rfl, ?_⟩) hHeld ?_ ?_
                      rotate_left
                      ·
                       rintro w' ⟨s0, s1, s2, s3, s4, s5, s6, s7, s8⟩
                       go_simp
                       with_reducible rfl
                      rotate_left
                      ·
                       simp only [Act.put, List.setIfInBounds_toArray, List.set_cons_zero, List.set_cons_succ, i64_w, i32_w]
                       rfl
                      refine one_ (i := 39) (N := some 153) #[true, true, true, true, true, true, true, true, true, true, true, true, true, true, true, true, true, true, true, true, true, true, true, true, true, true, true, true, true, true, true, true, true, true, true, true, true, true, true, true, false, false, false, false] rfl rfl (one_of HT_.out (by kernel_rfl)) (by decide) (fun K hK => ?_)
                      refine goes_ Try.func11 (by kernel_rfl) rfl #[.slice A170_4 ((rd_T29 t163 x109_5).f1).length c170_4, .slice A2 l2.length c2] (by rfl) rfl rfl (by (try simp only [List.map_toArray, List.map_cons, List.map_nil]); first | done | rfl | (simp only [List.length_drop, List.length_take]; rfl)) ?_
                      with_reducible refine (switchboardref02_Same.calls k5 _ _ ((rd_T29 t163 x109_5).f1) _ _ l2 true _ ?side1 ?side2 ?side3 ?side4 A84.out).mono ?_
                      (case side1 => repeat (first | exact ((Kd.V_reads' (by (with_reducible repeat (first | apply Kd.V_alloc | apply Kd.V_drewN | apply Kd.V_drew)); exact HL170_4.out)).2.2) | (with_reducible refine Kd.C_alloc ?_ _) | (with_reducible refine Kd.C_drewN ?_ _) | (with_reducible refine Kd.C_drew ?_)))
                      (case side2 => exact HC170_4.out)
                      (case side3 => repeat (first | exact (Kd.C_below HR2.out HB.out) | (with_reducible refine Kd.C_alloc ?_ _) | (with_reducible refine Kd.C_drewN ?_ _) | (with_reducible refine Kd.C_drew ?_)))
                      (case side4 => exact HC2.out)
                      rintro e w' ⟨rfl, ⟨nd, rfl⟩⟩
                      refine ⟨_, rfl, ?_⟩
                      refine hK.out _ _ ⟨(blk_cell BK171.out 0).trans rfl, (blk_cell BK171.out 1).trans rfl, (blk_cell BK171.out 2).trans rfl, (blk_cell BK171.out 3).trans rfl, (blk_cell BK171.out 4).trans rfl, (blk_cell BK150.out 0).trans rfl, (blk_cell BK150.out 1).trans rfl, (blk_cell BK150.out 2).trans rfl, (blk_cell BK150.out 3).trans rfl⟩ (fun hHeld => ?_)
                      clear hK K
                      refine norm_ (a' := ?_) ?_ ?_
                      rotate_left
                      ·
                       show Act.put _ (some 153) _ = _
                       simp only [Act.put, List.setIfInBounds_toArray, List.set_cons_zero, List.set_cons_succ, i64_w, i32_w]
                       rfl
                      refine pure_ (i := 40) (N := some 154) (v := ?_) (a' := ?_) #[true, true, true, true, true, true, true, true, true, true, true, true, true, true, true, true, true, true, true, true, true, true, true, true, true, true, true, true, true, true, true, true, true, true, true, true, true, true, true, true, true, false, false, false] rfl rfl (any_of HT_.out (by kernel_rfl)) (fun _ _ _ h => h) (Or.inl ⟨by rfl, ?_⟩) ?_ ?_
                      rotate_left
                      ·
                       intro w'
                       go_simp
                       with_reducible rfl
                      rotate_left
                      ·
                       simp only [Act.put, List.setIfInBounds_toArray, List.set_cons_zero, List.set_cons_succ, i64_w, i32_w]
                       rfl
                      refine pure_ (i := 41) (N := some 155) (v := ?_) (a' := ?_) #[true, true, true, true, true, true, true, true, true, true, true, true, true, true, true, true, true, true, true, true, true, true, true, true, true, true, true, true, true, true, true, true, true, true, true, true, true, true, true, true, true, true, false, false] rfl rfl (any_of HT_.out (by kernel_rfl)) (fun _ _ _ h => h) (Or.inl ⟨by rfl, ?_⟩) ?_ ?_
                      rotate_left
                      ·
                       intro w'
                       go_simp
                       with_reducible rfl
                      rotate_left
                      ·
                       simp only [Act.put, List.setIfInBounds_toArray, List.set_cons_zero, List.set_cons_succ, i64_w, i32_w]
                       rfl
                      refine pure_ (i := 42) (N := some 156) (v := ?_) (a' := ?_) #[true, true, true, true, true, true, true, true, true, true, true, true, true, true, true, true, true, true, true, true, true, true, true, true, true, true, true, true, true, true, true, true, true, true, true, true, true, true, true, true, true, true, true, false] rfl rfl (any_of HT_.out (by kernel_rfl)) (fun _ _ _ h => h) (Or.inl ⟨by rfl, ?_⟩) ?_ ?_
                      rotate_left
                      ·
                       intro w'
                       go_simp
                       with_reducible rfl
                      rotate_left
                      ·
                       simp only [Act.put, List.setIfInBounds_toArray, List.set_cons_zero, List.set_cons_succ, i64_w, i32_w]
                       rfl
                      refine pure_ (i := 43) (N := some 157) (v := ?_) (a' := ?_) #[true, true, true, true, true, true, true, true, true, true, true, true, true, true, true, true, true, true, true, true, true, true, true, true, true, true, true, true, true, true, true, true, true, true, true, true, true, true, true, true, true, true, true, true] rfl rfl (any_of HT_.out (by kernel_rfl)) (fun _ _ _ h => h) (Or.inl ⟨by rfl, ?_⟩) ?_ ?_
                      rotate_left
                      ·
                       intro w'
                       go_simp
                       with_reducible rfl
                      rotate_left
                      ·
                       simp only [Act.put, List.setIfInBounds_toArray, List.set_cons_zero, List.set_cons_succ, i64_w, i32_w]
                       rfl
                      refine done_ (done_of HT_.out (by kernel_rfl)) ?_
                      try go_wp2
                      go_roundg k5
                      case measure => have := HJ3.out; have := HK2.out; have := HJ28.out; have := HJ37.out; have := HK5.out; omega
                      case rel => exact ⟨(wrap64 (x109_5 + 1)), (by first | rfl | (simp; done) | (simp [*]; done)), H', ⟨by have := HJ3.out; have := HK2.out; have := HJ28.out; have := HJ37.out; have := HK5.out; omega⟩, ⟨by (with_reducible repeat (first | apply Kd.V_alloc | apply Kd.V_drewN | apply Kd.V_drew)); exact Kd.V_mono HO_0.out (fun _ hk => ⟨hk.1, hk.2.1⟩)⟩, ⟨by (with_reducible repeat (first | apply Kd.V_alloc | apply Kd.V_drewN | apply Kd.V_drew)); exact Kd.V_mono HO_107.out (fun _ hk => ⟨hk.1, hk.2.1⟩)⟩, ⟨by (with_reducible repeat (first | refine blk_drewN ?_ _ | refine blk_drew ?_ | refine blk_alloc ?_ _)); exact BK150.out⟩, ⟨by repeat (first | (with_reducible first | exact HB.out | apply below_alloc | apply pw_below_drewN | apply below_drew1 | refine below_set ?_ GE150.out | refine below_set ?_ GE171.out) | exact HB.out)⟩⟩
                     ·
                      replace c85 := Bool.eq_false_iff.mpr c85
                      subst c85
                      have H1 : (some false) = some true := by rw [if_neg (show ¬ (false = true) by decide)] at H; exact H
                      clear H
                      have H := H1
                      clear H1
                      exact absurd H (by simp)
                   ·
                    rw [if_neg c82] at H
                    have c82b0 : (x109_5 == (l0.length : Int)) = false := beq_eq_false_iff_ne.mpr c82
                    have c82b1 : (x109_5 != (l0.length : Int)) = true := bne_iff_ne.mpr c82
                    have H' := Am H
                    clear H
                    have p170 : 0 ≤ (x109_5 : Int) := of_decide_eq_true (by first | (with_reducible assumption) | assumption)
                    have q170 : x109_5 < (t163.length : Int) := of_decide_eq_true (by first | (with_reducible assumption) | assumption)
                    obtain ⟨ad170, A170_4, c170_4, e170, hx170_0, hx170_1, hx170_2, hx170_3, hx170_4, hl170_4, hi170_4⟩ := at_T29 (Kd.V_reads' HO_107.out).2.2 x109_5 p170 q170
                    cases e170
                    obtain ⟨ce170, hce170, hMe170, hcc170⟩ := Kd.V_get HO_107.out z29 x109_5 p170 (by first | exact q170 | exact of_decide_eq_true (by first | (with_reducible assumption) | assumption) | (have e_ := (Kd.V_reads' HO_107.out).1; omega))
                    obtain ⟨ua170_4, uc170_4, rfl, ul170_4, ge170_4⟩ := k29_openF hMe170
                    have hv170_4 := hcc170 4 _ rfl
                    rw [add_field _ _ 4 (by omega)] at hv170_4
                    replace hv170_4 := Option.some.inj (hv170_4.symm.trans hx170_4)
                    injection hv170_4 with hva_ hvn_ hvc_
                    rw [hva_] at ge170_4
                    rw [hvc_] at ul170_4
                    have HL170_4 := Am (show Kd.V (Kd.int .i64) 3 _ w.heap.size _ _ ((rd_T29 t163 x109_5).f1) from Kd.V_mk ul170_4 ge170_4)
                    clear hva_ hvn_ hvc_ ge170_4 ul170_4
                    clear hcc170 hce170
                    have HR170_4 := Am hi170_4
                    have HC170_4 := Am hl170_4
                    clear hi170_4 hl170_4
                    replace p170 := eq_true p170
                    replace q170 := eq_true q170
                    try go_wp2_with (first | ((with_reducible refine gate_dst (N := 17) rfl ?_); (try (refine gate_guard (by rfl) ?_; dsimp only)); refine box_event ?hg (N := 17) ?hd (cs := #[.int .i64 0, .int .i64 0, .int .i64 0, .int .i64 0, .slice none 0 0]) (t := 29) ?hr ?_; (case hd => rfl); (case hg => rfl); (case hr => first | (go_simp; done) | (go_simp; rfl)); intro gb171 hg w91 hbox hb; have n0_ := Am (Kd.V_below (Kd.V_elderB (by (with_reducible repeat (first | apply Kd.V_alloc | apply Kd.V_drewN | apply Kd.V_drew)); exact HO_0.out) gb171 (Nat.le_of_eq hg.symm)) hb); have n1_ := Am (Kd.V_below (Kd.V_elderB (by (with_reducible repeat (first | apply Kd.V_alloc | apply Kd.V_drewN | apply Kd.V_drew)); exact HO_107.out) gb171 (Nat.le_of_eq hg.symm)) hb); have n2_ := Am (Kd.V_below (Kd.V_elderB (by (with_reducible repeat (first | apply Kd.V_alloc | apply Kd.V_drewN | apply Kd.V_drew)); exact HL170_4.out) gb171 (Nat.le_of_eq hg.symm)) hb); have n3_ := Am (blk_below (g := gb150) (o := .cells #[.int .i64 a1_0, .int .i64 a1_1, .int .i64 a1_2, .int .i64 a1_3] 24 (0, 0)) (by (with_reducible repeat (first | refine blk_drewN ?_ _ | refine blk_drew ?_ | refine blk_alloc ?_ _)); exact BK150.out) hb); have n4_ := Am (Kd.C_below (by repeat (first | (with_reducible exact HR170_4.out) | (with_reducible refine Kd.C_alloc ?_ _) | (with_reducible refine Kd.C_drewN ?_ _) | (with_reducible refine Kd.C_drew ?_) | exact HR170_4.out)) hb); have n5_ := Am (below_step (by repeat (first | (with_reducible first | exact HB.out | apply below_alloc | apply pw_below_drewN | apply below_drew1 | refine below_set ?_ GE150.out) | exact HB.out)) hb); have n6_ := Am (hbox); have n7_ := Am ((by rw [hg]; exact (below_size (by repeat (first | (with_reducible first | exact HB.out | apply below_alloc | apply pw_below_drewN | apply below_drew1 | refine below_set ?_ GE150.out) | exact HB.out))) : w.heap.size ≤ gb171)); have n8_ := Am ((by rw [hg]; exact (below_size (by repeat (first | (with_reducible first | exact HB.out | apply below_alloc | apply pw_below_drewN | apply below_drew1 | refine below_set ?_ GE150.out) | exact HB.out))) : w.heap.size ≤ gb171)); have n9_ := Am ((by rw [hg]; exact Nat.ne_of_lt (blk_lt (g := gb150) (o := .cells #[.int .i64 a1_0, .int .i64 a1_1, .int .i64 a1_2, .int .i64 a1_3] 24 (0, 0)) (by (with_reducible repeat (first | refine blk_drewN ?_ _ | refine blk_drew ?_ | refine blk_alloc ?_ _)); exact BK150.out)) : gb150 ≠ gb171)); have n10_ := Am ((by rw [hg]; exact Nat.ne_of_gt (blk_lt (g := gb150) (o := .cells #[.int .i64 a1_0, .int .i64 a1_1, .int .i64 a1_2, .int .i64 a1_3] 24 (0, 0)) (by (with_reducible repeat (first | refine blk_drewN ?_ _ | refine blk_drew ?_ | refine blk_alloc ?_ _)); exact BK150.out)) : gb171 ≠ gb150)); clear HO_0; clear HO_107; clear HL170_4; clear BK150; clear HR170_4; clear HB; have HO_0 := n0_; have HO_107 := n1_; have HL170_4 := n2_; have BK150 := n3_; have HR170_4 := n4_; have HB := n5_; have BK171 := n6_; have GW171 := n7_; have GE171 := n8_; have NB150_171 := n9_; have NB171_150 := n10_; clear n0_ n1_ n2_ n3_ n4_ n5_ n6_ n7_ n8_ n9_ n10_; clear hb hbox hg; have hnb92 := NB171_150.out; have hnc92 := NB150_171.out; have hcz93_0 : w91.cell? ⟨gb171, 0, none⟩ = some (.int .i64 0) := (blk_cell BK171.out 0).trans rfl; have hcz93_1 : w91.cell? ⟨gb171, 1, none⟩ = some (.int .i64 0) := (blk_cell BK171.out 1).trans rfl; have hcz93_2 : w91.cell? ⟨gb171, 2, none⟩ = some (.int .i64 0) := (blk_cell BK171.out 2).trans rfl; have hcz93_3 : w91.cell? ⟨gb171, 3, none⟩ = some (.int .i64 0) := (blk_cell BK171.out 3).trans rfl; have hcz93_4 : w91.cell? ⟨gb171, 4, none⟩ = some (.slice none 0 0) := (blk_cell BK171.out 4).trans rfl; have hfz93_0 := blk_frozen BK171.out 0; have hfz93_1 := blk_frozen BK171.out 1; have hfz93_2 := blk_frozen BK171.out 2; have hfz93_3 := blk_frozen BK171.out 3; have hfz93_4 := blk_frozen BK171.out 4))
                    have n0_ : Aside0 (Kd.V k29 29 (((((w91.setCell ⟨gb171, 0, none⟩ (.int .i64 ((rd_T29 t163 x109_5).f0.f0))).setCell ⟨gb171, 1, none⟩ (.int .i64 ((rd_T29 t163 x109_5).f0.f1))).setCell ⟨gb171, 2, none⟩ (.int .i64 ((rd_T29 t163 x109_5).f0.f2))).setCell ⟨gb171, 3, none⟩ (.int .i64 ((rd_T29 t163 x109_5).f0.f3))).setCell ⟨gb171, 4, none⟩ (.slice A170_4 ((rd_T29 t163 x109_5).f1).length c170_4)) w.heap.size (fun k_ => (P0_ k_ ∨ w.heap.size ≤ k_) ∧ k_ ≠ gb150 ∧ k_ ≠ gb171) (.slice A0 l0.length c0) l0) := ⟨by (with_reducible repeat (first | apply Kd.V_alloc | apply Kd.V_drewN | apply Kd.V_drew)); exact Kd.V_mono (Kd.V_far (p := ⟨gb171, 4, none⟩) (Kd.V_far (p := ⟨gb171, 3, none⟩) (Kd.V_far (p := ⟨gb171, 2, none⟩) (Kd.V_far (p := ⟨gb171, 1, none⟩) (Kd.V_far (p := ⟨gb171, 0, none⟩) (Kd.V_mono HO_0.out (fun k_ hk => (⟨hk, hk.2⟩ : _ ∧ k_ ≠ gb171))) (fun _ hk => hk.2) (.int .i64 ((rd_T29 t163 x109_5).f0.f0))) (fun _ hk => hk.2) (.int .i64 ((rd_T29 t163 x109_5).f0.f1))) (fun _ hk => hk.2) (.int .i64 ((rd_T29 t163 x109_5).f0.f2))) (fun _ hk => hk.2) (.int .i64 ((rd_T29 t163 x109_5).f0.f3))) (fun _ hk => hk.2) (.slice A170_4 ((rd_T29 t163 x109_5).f1).length c170_4)) (fun _ hk => ⟨hk.1.1.1, ⟨hk.1.1.2, hk.1.2⟩⟩)⟩
                    have n1_ : Aside0 (Kd.V k29 29 (((((w91.setCell ⟨gb171, 0, none⟩ (.int .i64 ((rd_T29 t163 x109_5).f0.f0))).setCell ⟨gb171, 1, none⟩ (.int .i64 ((rd_T29 t163 x109_5).f0.f1))).setCell ⟨gb171, 2, none⟩ (.int .i64 ((rd_T29 t163 x109_5).f0.f2))).setCell ⟨gb171, 3, none⟩ (.int .i64 ((rd_T29 t163 x109_5).f0.f3))).setCell ⟨gb171, 4, none⟩ (.slice A170_4 ((rd_T29 t163 x109_5).f1).length c170_4)) w.heap.size (fun k_ => (P0_ k_ ∨ w.heap.size ≤ k_) ∧ k_ ≠ gb150 ∧ k_ ≠ gb171) (.slice (some ad170) t163.length co60) t163) := ⟨by (with_reducible repeat (first | apply Kd.V_alloc | apply Kd.V_drewN | apply Kd.V_drew)); exact Kd.V_mono (Kd.V_far (p := ⟨gb171, 4, none⟩) (Kd.V_far (p := ⟨gb171, 3, none⟩) (Kd.V_far (p := ⟨gb171, 2, none⟩) (Kd.V_far (p := ⟨gb171, 1, none⟩) (Kd.V_far (p := ⟨gb171, 0, none⟩) (Kd.V_mono HO_107.out (fun k_ hk => (⟨hk, hk.2⟩ : _ ∧ k_ ≠ gb171))) (fun _ hk => hk.2) (.int .i64 ((rd_T29 t163 x109_5).f0.f0))) (fun _ hk => hk.2) (.int .i64 ((rd_T29 t163 x109_5).f0.f1))) (fun _ hk => hk.2) (.int .i64 ((rd_T29 t163 x109_5).f0.f2))) (fun _ hk => hk.2) (.int .i64 ((rd_T29 t163 x109_5).f0.f3))) (fun _ hk => hk.2) (.slice A170_4 ((rd_T29 t163 x109_5).f1).length c170_4)) (fun _ hk => ⟨hk.1.1.1, ⟨hk.1.1.2, hk.1.2⟩⟩)⟩
                    have n2_ : Aside0 (Kd.V (Kd.int .i64) 3 (((((w91.setCell ⟨gb171, 0, none⟩ (.int .i64 ((rd_T29 t163 x109_5).f0.f0))).setCell ⟨gb171, 1, none⟩ (.int .i64 ((rd_T29 t163 x109_5).f0.f1))).setCell ⟨gb171, 2, none⟩ (.int .i64 ((rd_T29 t163 x109_5).f0.f2))).setCell ⟨gb171, 3, none⟩ (.int .i64 ((rd_T29 t163 x109_5).f0.f3))).setCell ⟨gb171, 4, none⟩ (.slice A170_4 ((rd_T29 t163 x109_5).f1).length c170_4)) w.heap.size (fun k_ => (P0_ k_ ∨ w.heap.size ≤ k_) ∧ k_ ≠ gb150 ∧ k_ ≠ gb171) (.slice A170_4 ((rd_T29 t163 x109_5).f1).length c170_4) ((rd_T29 t163 x109_5).f1)) := ⟨by (with_reducible repeat (first | apply Kd.V_alloc | apply Kd.V_drewN | apply Kd.V_drew)); exact Kd.V_mono (Kd.V_far (p := ⟨gb171, 4, none⟩) (Kd.V_far (p := ⟨gb171, 3, none⟩) (Kd.V_far (p := ⟨gb171, 2, none⟩) (Kd.V_far (p := ⟨gb171, 1, none⟩) (Kd.V_far (p := ⟨gb171, 0, none⟩) (Kd.V_mono HL170_4.out (fun k_ hk => (⟨hk, hk.2⟩ : _ ∧ k_ ≠ gb171))) (fun _ hk => hk.2) (.int .i64 ((rd_T29 t163 x109_5).f0.f0))) (fun _ hk => hk.2) (.int .i64 ((rd_T29 t163 x109_5).f0.f1))) (fun _ hk => hk.2) (.int .i64 ((rd_T29 t163 x109_5).f0.f2))) (fun _ hk => hk.2) (.int .i64 ((rd_T29 t163 x109_5).f0.f3))) (fun _ hk => hk.2) (.slice A170_4 ((rd_T29 t163 x109_5).f1).length c170_4)) (fun _ hk => ⟨hk.1.1.1, ⟨hk.1.1.2, hk.1.2⟩⟩)⟩
                    have n3_ : Aside0 ((((((w91.setCell ⟨gb171, 0, none⟩ (.int .i64 ((rd_T29 t163 x109_5).f0.f0))).setCell ⟨gb171, 1, none⟩ (.int .i64 ((rd_T29 t163 x109_5).f0.f1))).setCell ⟨gb171, 2, none⟩ (.int .i64 ((rd_T29 t163 x109_5).f0.f2))).setCell ⟨gb171, 3, none⟩ (.int .i64 ((rd_T29 t163 x109_5).f0.f3))).setCell ⟨gb171, 4, none⟩ (.slice A170_4 ((rd_T29 t163 x109_5).f1).length c170_4)).heap[gb150]? = some (.cells #[.int .i64 a1_0, .int .i64 a1_1, .int .i64 a1_2, .int .i64 a1_3] 24 (0, 0))) := ⟨by (with_reducible repeat (first | refine blk_drewN ?_ _ | refine blk_drew ?_ | refine blk_alloc ?_ _)); refine blk_far ?_ NB150_171.out _; (with_reducible repeat (first | refine blk_drewN ?_ _ | refine blk_drew ?_ | refine blk_alloc ?_ _)); refine blk_far ?_ NB150_171.out _; (with_reducible repeat (first | refine blk_drewN ?_ _ | refine blk_drew ?_ | refine blk_alloc ?_ _)); refine blk_far ?_ NB150_171.out _; (with_reducible repeat (first | refine blk_drewN ?_ _ | refine blk_drew ?_ | refine blk_alloc ?_ _)); refine blk_far ?_ NB150_171.out _; (with_reducible repeat (first | refine blk_drewN ?_ _ | refine blk_drew ?_ | refine blk_alloc ?_ _)); refine blk_far ?_ NB150_171.out _; (with_reducible repeat (first | refine blk_drewN ?_ _ | refine blk_drew ?_ | refine blk_alloc ?_ _)); exact BK150.out⟩
                    have n4_ : Aside0 ((((((w91.setCell ⟨gb171, 0, none⟩ (.int .i64 ((rd_T29 t163 x109_5).f0.f0))).setCell ⟨gb171, 1, none⟩ (.int .i64 ((rd_T29 t163 x109_5).f0.f1))).setCell ⟨gb171, 2, none⟩ (.int .i64 ((rd_T29 t163 x109_5).f0.f2))).setCell ⟨gb171, 3, none⟩ (.int .i64 ((rd_T29 t163 x109_5).f0.f3))).setCell ⟨gb171, 4, none⟩ (.slice A170_4 ((rd_T29 t163 x109_5).f1).length c170_4)).heap[gb171]? = some (.cells #[.int .i64 ((rd_T29 t163 x109_5).f0.f0), .int .i64 ((rd_T29 t163 x109_5).f0.f1), .int .i64 ((rd_T29 t163 x109_5).f0.f2), .int .i64 ((rd_T29 t163 x109_5).f0.f3), .slice A170_4 ((rd_T29 t163 x109_5).f1).length c170_4] 29 (0, 0))) := ⟨by (with_reducible repeat (first | refine blk_drewN ?_ _ | refine blk_drew ?_ | refine blk_alloc ?_ _)); refine blk_put (cs := #[.int .i64 ((rd_T29 t163 x109_5).f0.f0), .int .i64 ((rd_T29 t163 x109_5).f0.f1), .int .i64 ((rd_T29 t163 x109_5).f0.f2), .int .i64 ((rd_T29 t163 x109_5).f0.f3), .slice none 0 0]) ?_ 4 _ rfl; (with_reducible repeat (first | refine blk_drewN ?_ _ | refine blk_drew ?_ | refine blk_alloc ?_ _)); refine blk_put (cs := #[.int .i64 ((rd_T29 t163 x109_5).f0.f0), .int .i64 ((rd_T29 t163 x109_5).f0.f1), .int .i64 ((rd_T29 t163 x109_5).f0.f2), .int .i64 0, .slice none 0 0]) ?_ 3 _ rfl; (with_reducible repeat (first | refine blk_drewN ?_ _ | refine blk_drew ?_ | refine blk_alloc ?_ _)); refine blk_put (cs := #[.int .i64 ((rd_T29 t163 x109_5).f0.f0), .int .i64 ((rd_T29 t163 x109_5).f0.f1), .int .i64 0, .int .i64 0, .slice none 0 0]) ?_ 2 _ rfl; (with_reducible repeat (first | refine blk_drewN ?_ _ | refine blk_drew ?_ | refine blk_alloc ?_ _)); refine blk_put (cs := #[.int .i64 ((rd_T29 t163 x109_5).f0.f0), .int .i64 0, .int .i64 0, .int .i64 0, .slice none 0 0]) ?_ 1 _ rfl; (with_reducible repeat (first | refine blk_drewN ?_ _ | refine blk_drew ?_ | refine blk_alloc ?_ _)); refine blk_put (cs := #[.int .i64 0, .int .i64 0, .int .i64 0, .int .i64 0, .slice none 0 0]) ?_ 0 _ rfl; (with_reducible repeat (first | refine blk_drewN ?_ _ | refine blk_drew ?_ | refine blk_alloc ?_ _)); exact BK171.out⟩
                    have n5_ : Aside0 (Below w.heap.size w (((((w91.setCell ⟨gb171, 0, none⟩ (.int .i64 ((rd_T29 t163 x109_5).f0.f0))).setCell ⟨gb171, 1, none⟩ (.int .i64 ((rd_T29 t163 x109_5).f0.f1))).setCell ⟨gb171, 2, none⟩ (.int .i64 ((rd_T29 t163 x109_5).f0.f2))).setCell ⟨gb171, 3, none⟩ (.int .i64 ((rd_T29 t163 x109_5).f0.f3))).setCell ⟨gb171, 4, none⟩ (.slice A170_4 ((rd_T29 t163 x109_5).f1).length c170_4))) := ⟨by repeat (first | (with_reducible first | exact HB.out | apply below_alloc | apply pw_below_drewN | apply below_drew1 | refine below_set ?_ GE150.out | refine below_set ?_ GE171.out) | exact HB.out)⟩
                    (try clear HO_0)
                    (try clear HO_107)
                    (try clear HL170_4)
                    (try clear BK150)
                    (try clear BK171)
                    (try clear HB)
                    generalize (((((w91.setCell ⟨gb171, 0, none⟩ (.int .i64 ((rd_T29 t163 x109_5).f0.f0))).setCell ⟨gb171, 1, none⟩ (.int .i64 ((rd_T29 t163 x109_5).f0.f1))).setCell ⟨gb171, 2, none⟩ (.int .i64 ((rd_T29 t163 x109_5).f0.f2))).setCell ⟨gb171, 3, none⟩ (.int .i64 ((rd_T29 t163 x109_5).f0.f3))).setCell ⟨gb171, 4, none⟩ (.slice A170_4 ((rd_T29 t163 x109_5).f1).length c170_4)) = w94 at n0_ n1_ n2_ n3_ n4_ n5_ ⊢
                    have HO_0 := n0_
                    have HO_107 := n1_
                    have HL170_4 := n2_
                    have BK150 := n3_
                    have BK171 := n4_
                    have HB := n5_
                    clear n0_ n1_ n2_ n3_ n4_ n5_
                    have n0_ := Am (Kd.V_drew HO_0.out)
                    have n1_ := Am (Kd.V_drew HO_107.out)
                    have n2_ := Am (Kd.V_drew HL170_4.out)
                    have n3_ := Am (blk_drew BK150.out)
                    have n4_ := Am (blk_drew BK171.out)
                    have n5_ := Am (below_drew1 HB.out)
                    clear HO_0
                    clear HO_107
                    clear HL170_4
                    clear BK150
                    clear BK171
                    clear HB
                    have HO_0 := n0_
                    have HO_107 := n1_
                    have HL170_4 := n2_
                    have BK150 := n3_
                    have BK171 := n4_
                    have HB := n5_
                    clear n0_ n1_ n2_ n3_ n4_ n5_
                    refine start_ (n := 44) (S := fun w' => True) (ds := []) #[false, false, false, false, false, false, false, false, false, false, false, false, false, false, false, false, false, false, false, false, false, false, false, false, false, false, false, false, false, false, false, false, false, false, false, false, false, false, false, false, false, false, false, false] (by kernel_rfl) rfl rfl trivial (fun hHeld => ?_); refine with_tabW switchboardlaw12_LedgerExact.tab22 switchboardlaw12_LedgerExact.bits22 (fun HT_ HW_ => ?_)
                    generalize w94.drew = w95 at HO_0 HO_107 HL170_4 BK150 BK171 HB hHeld ⊢
                    refine pure_ (i := 0) (N := some 114) (v := ?_) (a' := ?_) #[true, false, false, false, false, false, false, false, false, false, false, false, false, false, false, false, false, false, false, false, false, false, false, false, false, false, false, false, false, false, false, false, false, false, false, false, false, false, false, false, false, false, false, false] rfl rfl (any_of HT_.out (by kernel_rfl)) (fun _ _ _ h => h) (Or.inl ⟨by rfl, ?_⟩) ?_ ?_
                    rotate_left
                    ·
                     intro w'
                     go_simp
                     with_reducible rfl
                    rotate_left
                    ·
                     simp only [Act.put, List.setIfInBounds_toArray, List.set_cons_zero, List.set_cons_succ, i64_w, i32_w]
                     rfl
                    refine pure_ (i := 1) (N := some 115) (v := ?_) (a' := ?_) #[true, true, false, false, false, false, false, false, false, false, false, false, false, false, false, false, false, false, false, false, false, false, false, false, false, false, false, false, false, false, false, false, false, false, false, false, false, false, false, false, false, false, false, false] rfl rfl (any_of HT_.out (by kernel_rfl)) (fun _ _ _ h => h) (Or.inl ⟨by rfl, ?_⟩) ?_ ?_
                    rotate_left
                    ·
                     intro w'
                     go_simp
                     with_reducible rfl
                    rotate_left
                    ·
                     simp only [Act.put, List.setIfInBounds_toArray, List.set_cons_zero, List.set_cons_succ, i64_w, i32_w]
                     rfl
                    refine pure_ (i := 2) (N := some 116) (v := ?_) (a' := ?_) #[true, true, true, false, false, false, false, false, false, false, false, false, false, false, false, false, false, false, false, false, false, false, false, false, false, false, false, false, false, false, false, false, false, false, false, false, false, false, false, false, false, false, false, false] rfl rfl (any_of HT_.out (by kernel_rfl)) (fun _ _ _ h => h) (Or.inl ⟨by rfl, ?_⟩) ?_ ?_
                    rotate_left
                    ·
                     intro w'
                     go_simp
                     with_reducible rfl
                    rotate_left
                    ·
                     simp only [Act.put, List.setIfInBounds_toArray, List.set_cons_zero, List.set_cons_succ, i64_w, i32_w]
                     rfl
                    refine pure_ (i := 3) (N := some 117) (v := ?_) (a' := ?_) #[true, true, true, true, false, false, false, false, false, false, false, false, false, false, false, false, false, false, false, false, false, false, false, false, false, false, false, false, false, false, false, false, false, false, false, false, false, false, false, false, false, false, false, false] rfl rfl (any_of HT_.out (by kernel_rfl)) (fun _ _ _ h => h) (Or.inl ⟨by rfl, ?_⟩) ?_ ?_
                    rotate_left
                    ·
                     intro w'
                     go_simp
                     with_reducible rfl
                    rotate_left
                    ·
                     simp only [Act.put, List.setIfInBounds_toArray, List.set_cons_zero, List.set_cons_succ, i64_w, i32_w]
                     rfl
                    refine pure_ (i := 4) (N := some 118) (v := ?_) (a' := ?_) #[true, true, true, true, true, false, false, false, false, false, false, false, false, false, false, false, false, false, false, false, false, false, false, false, false, false, false, false, false, false, false, false, false, false, false, false, false, false, false, false, false, false, false, false] rfl rfl (any_of HT_.out (by kernel_rfl)) (fun _ _ _ h => h) (Or.inl ⟨by rfl, ?_⟩) ?_ ?_
                    rotate_left
                    ·
                     intro w'
                     go_simp
                     with_reducible rfl
                    rotate_left
                    ·
                     simp only [Act.put, List.setIfInBounds_toArray, List.set_cons_zero, List.set_cons_succ, i64_w, i32_w]
                     rfl
                    refine pure_ (i := 5) (N := some 119) (v := undef) (a' := ?_) #[true, true, true, true, true, true, false, false, false, false, false, false, false, false, false, false, false, false, false, false, false, false, false, false, false, false, false, false, false, false, false, false, false, false, false, false, false, false, false, false, false, false, false, false] rfl rfl (any_of HT_.out (by kernel_rfl)) (fun _ _ _ h => h) (Or.inr ⟨by rfl, rfl⟩) ?_ ?_
                    rotate_left
                    ·
                     simp only [Act.put, List.setIfInBounds_toArray, List.set_cons_zero, List.set_cons_succ, i64_w, i32_w]
                     rfl
                    refine pure_ (i := 6) (N := some 120) (v := undef) (a' := ?_) #[true, true, true, true, true, true, true, false, false, false, false, false, false, false, false, false, false, false, false, false, false, false, false, false, false, false, false, false, false, false, false, false, false, false, false, false, false, false, false, false, false, false, false, false] rfl rfl (any_of HT_.out (by kernel_rfl)) (fun _ _ _ h => h) (Or.inr ⟨by rfl, rfl⟩) ?_ ?_
                    rotate_left
                    ·
                     simp only [Act.put, List.setIfInBounds_toArray, List.set_cons_zero, List.set_cons_succ, i64_w, i32_w]
                     rfl
                    refine pure_ (i := 7) (N := some 121) (v := undef) (a' := ?_) #[true, true, true, true, true, true, true, true, false, false, false, false, false, false, false, false, false, false, false, false, false, false, false, false, false, false, false, false, false, false, false, false, false, false, false, false, false, false, false, false, false, false, false, false] rfl rfl (any_of HT_.out (by kernel_rfl)) (fun _ _ _ h => h) (Or.inr ⟨by rfl, rfl⟩) ?_ ?_
                    rotate_left
                    ·
                     simp only [Act.put, List.setIfInBounds_toArray, List.set_cons_zero, List.set_cons_succ, i64_w, i32_w]
                     rfl
                    refine pure_ (i := 8) (N := some 122) (v := undef) (a' := ?_) #[true, true, true, true, true, true, true, true, true, false, false, false, false, false, false, false, false, false, false, false, false, false, false, false, false, false, false, false, false, false, false, false, false, false, false, false, false, false, false, false, false, false, false, false] rfl rfl (any_of HT_.out (by kernel_rfl)) (fun _ _ _ h => h) (Or.inr ⟨by rfl, rfl⟩) ?_ ?_
                    rotate_left
                    ·
                     simp only [Act.put, List.setIfInBounds_toArray, List.set_cons_zero, List.set_cons_succ, i64_w, i32_w]
                     rfl
                    refine pure_ (i := 9) (N := some 123) (v := undef) (a' := ?_) #[true, true, true, true, true, true, true, true, true, true, false, false, false, false, false, false, false, false, false, false, false, false, false, false, false, false, false, false, false, false, false, false, false, false, false, false, false, false, false, false, false, false, false, false] rfl rfl (any_of HT_.out (by kernel_rfl)) (fun _ _ _ h => h) (Or.inr ⟨by rfl, rfl⟩) ?_ ?_
                    rotate_left
                    ·
                     simp only [Act.put, List.setIfInBounds_toArray, List.set_cons_zero, List.set_cons_succ, i64_w, i32_w]
                     rfl
                    refine pure_ (i := 10) (N := some 124) (v := undef) (a' := ?_) #[true, true, true, true, true, true, true, true, true, true, true, false, false, false, false, false, false, false, false, false, false, false, false, false, false, false, false, false, false, false, false, false, false, false, false, false, false, false, false, false, false, false, false, false] rfl rfl (any_of HT_.out (by kernel_rfl)) (fun _ _ _ h => h) (Or.inr ⟨by rfl, rfl⟩) ?_ ?_
                    rotate_left
                    ·
                     simp only [Act.put, List.setIfInBounds_toArray, List.set_cons_zero, List.set_cons_succ, i64_w, i32_w]
                     rfl
                    refine pure_ (i := 11) (N := some 125) (v := undef) (a' := ?_) #[true, true, true, true, true, true, true, true, true, true, true, true, false, false, false, false, false, false, false, false, false, false, false, false, false, false, false, false, false, false, false, false, false, false, false, false, false, false, false, false, false, false, false, false] rfl rfl (any_of HT_.out (by kernel_rfl)) (fun _ _ _ h => h) (Or.inr ⟨by rfl, rfl⟩) ?_ ?_
                    rotate_left
                    ·
                     simp only [Act.put, List.setIfInBounds_toArray, List.set_cons_zero, List.set_cons_succ, i64_w, i32_w]
                     rfl
                    refine pure_ (i := 12) (N := some 126) (v := undef) (a' := ?_) #[true, true, true, true, true, true, true, true, true, true, true, true, true, false, false, false, false, false, false, false, false, false, false, false, false, false, false, false, false, false, false, false, false, false, false, false, false, false, false, false, false, false, false, false] rfl rfl (any_of HT_.out (by kernel_rfl)) (fun _ _ _ h => h) (Or.inr ⟨by rfl, rfl⟩) ?_ ?_
                    rotate_left
                    ·
                     simp only [Act.put, List.setIfInBounds_toArray, List.set_cons_zero, List.set_cons_succ, i64_w, i32_w]
                     rfl
                    refine pure_ (i := 13) (N := some 127) (v := undef) (a' := ?_) #[true, true, true, true, true, true, true, true, true, true, true, true, true, true, false, false, false, false, false, false, false, false, false, false, false, false, false, false, false, false, false, false, false, false, false, false, false, false, false, false, false, false, false, false] rfl rfl (any_of HT_.out (by kernel_rfl)) (fun _ _ _ h => h) (Or.inr ⟨by rfl, rfl⟩) ?_ ?_
                    rotate_left
                    ·
                     simp only [Act.put, List.setIfInBounds_toArray, List.set_cons_zero, List.set_cons_succ, i64_w, i32_w]
                     rfl
                    refine pure_ (i := 14) (N := some 128) (v := undef) (a' := ?_) #[true, true, true, true, true, true, true, true, true, true, true, true, true, true, true, false, false, false, false, false, false, false, false, false, false, false, false, false, false, false, false, false, false, false, false, false, false, false, false, false, false, false, false, false] rfl rfl (any_of HT_.out (by kernel_rfl)) (fun _ _ _ h => h) (Or.inr ⟨by rfl, rfl⟩) ?_ ?_
                    rotate_left
                    ·
                     simp only [Act.put, List.setIfInBounds_toArray, List.set_cons_zero, List.set_cons_succ, i64_w, i32_w]
                     rfl
                    refine pure_ (i := 15) (N := some 129) (v := undef) (a' := ?_) #[true, true, true, true, true, true, true, true, true, true, true, true, true, true, true, true, false, false, false, false, false, false, false, false, false, false, false, false, false, false, false, false, false, false, false, false, false, false, false, false, false, false, false, false] rfl rfl (any_of HT_.out (by kernel_rfl)) (fun _ _ _ h => h) (Or.inr ⟨by rfl, rfl⟩) ?_ ?_
                    rotate_left
                    ·
                     simp only [Act.put, List.setIfInBounds_toArray, List.set_cons_zero, List.set_cons_succ, i64_w, i32_w]
                     rfl
                    refine pure_ (i := 16) (N := some 130) (v := undef) (a' := ?_) #[true, true, true, true, true, true, true, true, true, true, true, true, true, true, true, true, true, false, false, false, false, false, false, false, false, false, false, false, false, false, false, false, false, false, false, false, false, false, false, false, false, false, false, false] rfl rfl (any_of HT_.out (by kernel_rfl)) (fun _ _ _ h => h) (Or.inr ⟨by rfl, rfl⟩) ?_ ?_
                    rotate_left
                    ·
                     simp only [Act.put, List.setIfInBounds_toArray, List.set_cons_zero, List.set_cons_succ, i64_w, i32_w]
                     rfl
                    refine pure_ (i := 17) (N := some 131) (v := undef) (a' := ?_) #[true, true, true, true, true, true, true, true, true, true, true, true, true, true, true, true, true, true, false, false, false, false, false, false, false, false, false, false, false, false, false, false, false, false, false, false, false, false, false, false, false, false, false, false] rfl rfl (any_of HT_.out (by kernel_rfl)) (fun _ _ _ h => h) (Or.inr ⟨by rfl, rfl⟩) ?_ ?_
                    rotate_left
                    ·
                     simp only [Act.put, List.setIfInBounds_toArray, List.set_cons_zero, List.set_cons_succ, i64_w, i32_w]
                     rfl
                    refine pure_ (i := 18) (N := some 132) (v := undef) (a' := ?_) #[true, true, true, true, true, true, true, true, true, true, true, true, true, true, true, true, true, true, true, false, false, false, false, false, false, false, false, false, false, false, false, false, false, false, false, false, false, false, false, false, false, false, false, false] rfl rfl (any_of HT_.out (by kernel_rfl)) (fun _ _ _ h => h) (Or.inr ⟨by rfl, rfl⟩) ?_ ?_
                    rotate_left
                    ·
                     simp only [Act.put, List.setIfInBounds_toArray, List.set_cons_zero, List.set_cons_succ, i64_w, i32_w]
                     rfl
                    refine pure_ (i := 19) (N := some 133) (v := undef) (a' := ?_) #[true, true, true, true, true, true, true, true, true, true, true, true, true, true, true, true, true, true, true, true, false, false, false, false, false, false, false, false, false, false, false, false, false, false, false, false, false, false, false, false, false, false, false, false] rfl rfl (any_of HT_.out (by kernel_rfl)) (fun _ _ _ h => h) (Or.inr ⟨by rfl, rfl⟩) ?_ ?_
                    rotate_left
                    ·
                     simp only [Act.put, List.setIfInBounds_toArray, List.set_cons_zero, List.set_cons_succ, i64_w, i32_w]
                     rfl
                    refine pure_ (i := 20) (N := some 134) (v := undef) (a' := ?_) #[true, true, true, true, true, true, true, true, true, true, true, true, true, true, true, true, true, true, true, true, true, false, false, false, false, false, false, false, false, false, false, false, false, false, false, false, false, false, false, false, false, false, false, false] rfl rfl (any_of HT_.out (by kernel_rfl)) (fun _ _ _ h => h) (Or.inr ⟨by rfl, rfl⟩) ?_ ?_
                    rotate_left
                    ·
                     simp only [Act.put, List.setIfInBounds_toArray, List.set_cons_zero, List.set_cons_succ, i64_w, i32_w]
                     rfl
                    refine pure_ (i := 21) (N := some 135) (v := undef) (a' := ?_) #[true, true, true, true, true, true, true, true, true, true, true, true, true, true, true, true, true, true, true, true, true, true, false, false, false, false, false, false, false, false, false, false, false, false, false, false, false, false, false, false, false, false, false, false] rfl rfl (any_of HT_.out (by kernel_rfl)) (fun _ _ _ h => h) (Or.inr ⟨by rfl, rfl⟩) ?_ ?_
                    rotate_left
                    ·
                     simp only [Act.put, List.setIfInBounds_toArray, List.set_cons_zero, List.set_cons_succ, i64_w, i32_w]
                     rfl
                    refine pure_ (i := 22) (N := some 136) (v := undef) (a' := ?_) #[true, true, true, true, true, true, true, true, true, true, true, true, true, true, true, true, true, true, true, true, true, true, true, false, false, false, false, false, false, false, false, false, false, false, false, false, false, false, false, false, false, false, false, false] rfl rfl (any_of HT_.out (by kernel_rfl)) (fun _ _ _ h => h) (Or.inr ⟨by rfl, rfl⟩) ?_ ?_
                    rotate_left
                    ·
                     simp only [Act.put, List.setIfInBounds_toArray, List.set_cons_zero, List.set_cons_succ, i64_w, i32_w]
                     rfl
                    refine pure_ (i := 23) (N := some 137) (v := undef) (a' := ?_) #[true, true, true, true, true, true, true, true, true, true, true, true, true, true, true, true, true, true, true, true, true, true, true, true, false, false, false, false, false, false, false, false, false, false, false, false, false, false, false, false, false, false, false, false] rfl rfl (any_of HT_.out (by kernel_rfl)) (fun _ _ _ h => h) (Or.inr ⟨by rfl, rfl⟩) ?_ ?_
                    rotate_left
                    ·
                     simp only [Act.put, List.setIfInBounds_toArray, List.set_cons_zero, List.set_cons_succ, i64_w, i32_w]
                     rfl
                    refine pure_ (i := 24) (N := some 138) (v := ?_) (a' := ?_) #[true, true, true, true, true, true, true, true, true, true, true, true, true, true, true, true, true, true, true, true, true, true, true, true, true, false, false, false, false, false, false, false, false, false, false, false, false, false, false, false, false, false, false, false] rfl rfl (any_of HT_.out (by kernel_rfl)) (fun _ _ _ h => h) (Or.inl ⟨by rfl, ?_⟩) ?_ ?_
                    rotate_left
                    ·
                     intro w'
                     go_simp
                     with_reducible rfl
                    rotate_left
                    ·
                     simp only [Act.put, List.setIfInBounds_toArray, List.set_cons_zero, List.set_cons_succ, i64_w, i32_w]
                     rfl
                    refine pure_ (i := 25) (N := some 139) (v := ?_) (a' := ?_) #[true, true, true, true, true, true, true, true, true, true, true, true, true, true, true, true, true, true, true, true, true, true, true, true, true, true, false, false, false, false, false, false, false, false, false, false, false, false, false, false, false, false, false, false] rfl rfl (any_of HT_.out (by kernel_rfl)) (fun _ _ _ h => h) (Or.inl ⟨by rfl, ?_⟩) ?_ ?_
                    rotate_left
                    ·
                     intro w'
                     go_simp
                     with_reducible rfl
                    rotate_left
                    ·
                     simp only [Act.put, List.setIfInBounds_toArray, List.set_cons_zero, List.set_cons_succ, i64_w, i32_w]
                     rfl
                    refine pure_ (i := 26) (N := some 140) (v := ?_) (a' := ?_) #[true, true, true, true, true, true, true, true, true, true, true, true, true, true, true, true, true, true, true, true, true, true, true, true, true, true, true, false, false, false, false, false, false, false, false, false, false, false, false, false, false, false, false, false] rfl rfl (any_of HT_.out (by kernel_rfl)) (fun _ _ _ h => h) (Or.inl ⟨by rfl, ?_⟩) ?_ ?_
                    rotate_left
                    ·
                     intro w'
                     go_simp
                     with_reducible rfl
                    rotate_left
                    ·
                     simp only [Act.put, List.setIfInBounds_toArray, List.set_cons_zero, List.set_cons_succ, i64_w, i32_w]
                     rfl
                    refine pure_ (i := 27) (N := some 141) (v := ?_) (a' := ?_) #[true, true, true, true, true, true, true, true, true, true, true, true, true, true, true, true, true, true, true, true, true, true, true, true, true, true, true, true, false, false, false, false, false, false, false, false, false, false, false, false, false, false, false, false] rfl rfl (any_of HT_.out (by kernel_rfl)) (fun _ _ _ h => h) (Or.inl ⟨by rfl, ?_⟩) ?_ ?_
                    rotate_left
                    ·
                     intro w'
                     go_simp
                     with_reducible rfl
                    rotate_left
                    ·
                     simp only [Act.put, List.setIfInBounds_toArray, List.set_cons_zero, List.set_cons_succ, i64_w, i32_w]
                     rfl
                    refine pure_ (i := 28) (N := some 142) (v := ?_) (a' := ?_) #[true, true, true, true, true, true, true, true, true, true, true, true, true, true, true, true, true, true, true, true, true, true, true, true, true, true, true, true, true, false, false, false, false, false, false, false, false, false, false, false, false, false, false, false] rfl rfl (any_of HT_.out (by kernel_rfl)) (fun _ _ _ h => h) (Or.inl ⟨by rfl, ?_⟩) ?_ ?_
                    rotate_left
                    ·
                     intro w'
                     go_simp
                     with_reducible rfl
                    rotate_left
                    ·
                     simp only [Act.put, List.setIfInBounds_toArray, List.set_cons_zero, List.set_cons_succ, i64_w, i32_w]
                     rfl
                    refine pure_ (i := 29) (N := some 143) (v := ?_) (a' := ?_) #[true, true, true, true, true, true, true, true, true, true, true, true, true, true, true, true, true, true, true, true, true, true, true, true, true, true, true, true, true, true, false, false, false, false, false, false, false, false, false, false, false, false, false, false] rfl rfl (any_of HT_.out (by kernel_rfl)) (fun _ _ _ h => h) (Or.inl ⟨by rfl, ?_⟩) ?_ ?_
                    rotate_left
                    ·
                     intro w'
                     go_simp
                     with_reducible rfl
                    rotate_left
                    ·
                     simp only [Act.put, List.setIfInBounds_toArray, List.set_cons_zero, List.set_cons_succ, i64_w, i32_w]
                     rfl
                    refine pure_ (i := 30) (N := some 144) (v := ?_) (a' := ?_) #[true, true, true, true, true, true, true, true, true, true, true, true, true, true, true, true, true, true, true, true, true, true, true, true, true, true, true, true, true, true, true, false, false, false, false, false, false, false, false, false, false, false, false, false] rfl rfl (any_of HT_.out (by kernel_rfl)) (fun _ _ _ h => h) (Or.inl ⟨by rfl, ?_⟩) ?_ ?_
                    rotate_left
                    ·
                     intro w'
                     go_simp
                     with_reducible rfl
                    rotate_left
                    ·
                     simp only [Act.put, List.setIfInBounds_toArray, List.set_cons_zero, List.set_cons_succ, i64_w, i32_w]
                     rfl
                    refine pure_ (i := 31) (N := some 145) (v := undef) (a' := ?_) #[true, true, true, true, true, true, true, true, true, true, true, true, true, true, true, true, true, true, true, true, true, true, true, true, true, true, true, true, true, true, true, true, false, false, false, false, false, false, false, false, false, false, false, false] rfl rfl (any_of HT_.out (by kernel_rfl)) (fun _ _ _ h => h) (Or.inr ⟨by rfl, rfl⟩) ?_ ?_
                    rotate_left
                    ·
                     simp only [Act.put, List.setIfInBounds_toArray, List.set_cons_zero, List.set_cons_succ, i64_w, i32_w]
                     rfl
                    refine pure_ (i := 32) (N := some 146) (v := undef) (a' := ?_) #[true, true, true, true, true, true, true, true, true, true, true, true, true, true, true, true, true, true, true, true, true, true, true, true, true, true, true, true, true, true, true, true, true, false, false, false, false, false, false, false, false, false, false, false] rfl rfl (any_of HT_.out (by kernel_rfl)) (fun _ _ _ h => h) (Or.inr ⟨by rfl, rfl⟩) ?_ ?_
                    rotate_left
                    ·
                     simp only [Act.put, List.setIfInBounds_toArray, List.set_cons_zero, List.set_cons_succ, i64_w, i32_w]
                     rfl
                    refine pure_ (i := 33) (N := some 147) (v := undef) (a' := ?_) #[true, true, true, true, true, true, true, true, true, true, true, true, true, true, true, true, true, true, true, true, true, true, true, true, true, true, true, true, true, true, true, true, true, true, false, false, false, false, false, false, false, false, false, false] rfl rfl (any_of HT_.out (by kernel_rfl)) (fun _ _ _ h => h) (Or.inr ⟨by rfl, rfl⟩) ?_ ?_
                    rotate_left
                    ·
                     simp only [Act.put, List.setIfInBounds_toArray, List.set_cons_zero, List.set_cons_succ, i64_w, i32_w]
                     rfl
                    refine pure_ (i := 34) (N := some 148) (v := undef) (a' := ?_) #[true, true, true, true, true, true, true, true, true, true, true, true, true, true, true, true, true, true, true, true, true, true, true, true, true, true, true, true, true, true, true, true, true, true, true, false, false, false, false, false, false, false, false, false] rfl rfl (any_of HT_.out (by kernel_rfl)) (fun _ _ _ h => h) (Or.inr ⟨by rfl, rfl⟩) ?_ ?_
                    rotate_left
                    ·
                     simp only [Act.put, List.setIfInBounds_toArray, List.set_cons_zero, List.set_cons_succ, i64_w, i32_w]
                     rfl
                    refine pure_ (i := 35) (N := some 149) (v := undef) (a' := ?_) #[true, true, true, true, true, true, true, true, true, true, true, true, true, true, true, true, true, true, true, true, true, true, true, true, true, true, true, true, true, true, true, true, true, true, true, true, false, false, false, false, false, false, false, false] rfl rfl (any_of HT_.out (by kernel_rfl)) (fun _ _ _ h => h) (Or.inr ⟨by rfl, rfl⟩) ?_ ?_
                    rotate_left
                    ·
                     simp only [Act.put, List.setIfInBounds_toArray, List.set_cons_zero, List.set_cons_succ, i64_w, i32_w]
                     rfl
                    refine pure_ (i := 36) (N := some 150) (v := undef) (a' := ?_) #[true, true, true, true, true, true, true, true, true, true, true, true, true, true, true, true, true, true, true, true, true, true, true, true, true, true, true, true, true, true, true, true, true, true, true, true, true, false, false, false, false, false, false, false] rfl rfl (any_of HT_.out (by kernel_rfl)) (fun _ _ _ h => h) (Or.inr ⟨by rfl, rfl⟩) ?_ ?_
                    rotate_left
                    ·
                     simp only [Act.put, List.setIfInBounds_toArray, List.set_cons_zero, List.set_cons_succ, i64_w, i32_w]
                     rfl
                    refine pure_ (i := 37) (N := some 151) (v := undef) (a' := ?_) #[true, true, true, true, true, true, true, true, true, true, true, true, true, true, true, true, true, true, true, true, true, true, true, true, true, true, true, true, true, true, true, true, true, true, true, true, true, true, false, false, false, false, false, false] rfl rfl (any_of HT_.out (by kernel_rfl)) (fun _ _ _ h => h) (Or.inr ⟨by rfl, rfl⟩) ?_ ?_
                    rotate_left
                    ·
                     simp only [Act.put, List.setIfInBounds_toArray, List.set_cons_zero, List.set_cons_succ, i64_w, i32_w]
                     rfl
                    refine pure_ (i := 38) (N := some 152) (v := undef) (a' := ?_) #[true, true, true, true, true, true, true, true, true, true, true, true, true, true, true, true, true, true, true, true, true, true, true, true, true, true, true, true, true, true, true, true, true, true, true, true, true, true, true, false, false, false, false, false] rfl rfl (any_of HT_.out (by kernel_rfl)) (fun _ _ _ h => h) (Or.inr ⟨by rfl, rfl⟩) ?_ ?_
                    rotate_left
                    ·
                     simp only [Act.put, List.setIfInBounds_toArray, List.set_cons_zero, List.set_cons_succ, i64_w, i32_w]
                     rfl
                    refine pure_ (i := 39) (N := some 153) (v := undef) (a' := ?_) #[true, true, true, true, true, true, true, true, true, true, true, true, true, true, true, true, true, true, true, true, true, true, true, true, true, true, true, true, true, true, true, true, true, true, true, true, true, true, true, true, false, false, false, false] rfl rfl (any_of HT_.out (by kernel_rfl)) (fun _ _ _ h => h) (Or.inr ⟨by rfl, rfl⟩) ?_ ?_
                    rotate_left
                    ·
                     simp only [Act.put, List.setIfInBounds_toArray, List.set_cons_zero, List.set_cons_succ, i64_w, i32_w]
                     rfl
                    refine pure_ (i := 40) (N := some 154) (v := undef) (a' := ?_) #[true, true, true, true, true, true, true, true, true, true, true, true, true, true, true, true, true, true, true, true, true, true, true, true, true, true, true, true, true, true, true, true, true, true, true, true, true, true, true, true, true, false, false, false] rfl rfl (any_of HT_.out (by kernel_rfl)) (fun _ _ _ h => h) (Or.inr ⟨by rfl, rfl⟩) ?_ ?_
                    rotate_left
                    ·
                     simp only [Act.put, List.setIfInBounds_toArray, List.set_cons_zero, List.set_cons_succ, i64_w, i32_w]
                     rfl
                    refine pure_ (i := 41) (N := some 155) (v := undef) (a' := ?_) #[true, true, true, true, true, true, true, true, true, true, true, true, true, true, true, true, true, true, true, true, true, true, true, true, true, true, true, true, true, true, true, true, true, true, true, true, true, true, true, true, true, true, false, false] rfl rfl (any_of HT_.out (by kernel_rfl)) (fun _ _ _ h => h) (Or.inr ⟨by rfl, rfl⟩) ?_ ?_
                    rotate_left
                    ·
                     simp only [Act.put, List.setIfInBounds_toArray, List.set_cons_zero, List.set_cons_succ, i64_w, i32_w]
                     rfl
                    refine pure_ (i := 42) (N := some 156) (v := ?_) (a' := ?_) #[true, true, true, true, true, true, true, true, true, true, true, true, true, true, true, true, true, true, true, true, true, true, true, true, true, true, true, true, true, true, true, true, true, true, true, true, true, true, true, true, true, true, true, false] rfl rfl (any_of HT_.out (by kernel_rfl)) (fun _ _ _ h => h) (Or.inl ⟨by rfl, ?_⟩) ?_ ?_
                    rotate_left
                    ·
                     intro w'
                     go_simp
                     with_reducible rfl
                    rotate_left
                    ·
                     simp only [Act.put, List.setIfInBounds_toArray, List.set_cons_zero, List.set_cons_succ, i64_w, i32_w]
                     rfl
                    refine pure_ (i := 43) (N := some 157) (v := ?_) (a' := ?_) #[true, true, true, true, true, true, true, true, true, true, true, true, true, true, true, true, true, true, true, true, true, true, true, true, true, true, true, true, true, true, true, true, true, true, true, true, true, true, true, true, true, true, true, true] rfl rfl (any_of HT_.out (by kernel_rfl)) (fun _ _ _ h => h) (Or.inl ⟨by rfl, ?_⟩) ?_ ?_
                    rotate_left
                    ·
                     intro w'
                     go_simp
                     with_reducible rfl
                    rotate_left
                    ·
                     simp only [Act.put, List.setIfInBounds_toArray, List.set_cons_zero, List.set_cons_succ, i64_w, i32_w]
                     rfl
                    refine done_ (done_of HT_.out (by kernel_rfl)) ?_
                    try go_wp2
                    go_roundg k5
                    case measure => have := HJ3.out; have := HK2.out; have := HJ28.out; have := HJ37.out; have := HK5.out; omega
                    case rel => exact ⟨(wrap64 (x109_5 + 1)), (by first | rfl | (simp; done) | (simp [*]; done)), H', ⟨by have := HJ3.out; have := HK2.out; have := HJ28.out; have := HJ37.out; have := HK5.out; omega⟩, ⟨by (with_reducible repeat (first | apply Kd.V_alloc | apply Kd.V_drewN | apply Kd.V_drew)); exact Kd.V_mono HO_0.out (fun _ hk => ⟨hk.1, hk.2.1⟩)⟩, ⟨by (with_reducible repeat (first | apply Kd.V_alloc | apply Kd.V_drewN | apply Kd.V_drew)); exact Kd.V_mono HO_107.out (fun _ hk => ⟨hk.1, hk.2.1⟩)⟩, ⟨by (with_reducible repeat (first | refine blk_drewN ?_ _ | refine blk_drew ?_ | refine blk_alloc ?_ _)); exact BK150.out⟩, ⟨by repeat (first | (with_reducible first | exact HB.out | apply below_alloc | apply pw_below_drewN | apply below_drew1 | refine below_set ?_ GE150.out | refine below_set ?_ GE171.out) | exact HB.out)⟩⟩
                 ·
                  rw [if_neg c63] at H
                  exact absurd H (by simp)
                ·
                 rw [if_neg c62] at H
                 exact absurd H (by simp)
               ·
                rw [if_neg c61] at H
                have c61b0 : decide (x109_5 < (t163.length : Int)) = false := decide_eq_false c61
                clear c61
                replace H := Option.bind_eq_some_iff.mp H
                obtain ⟨t169, A960, H⟩ := H
                replace H : (some t169) = some true := H
                have A96 := Am A960
                clear A960
                have hr_ := Am (Option.some.inj H)
                go_wp2_with (first | ((with_reducible refine gate_callee (f := 7) rfl ?_); refine goesL_ (some 159) rfl rfl Try.func7 (by kernel_rfl) rfl #[] rfl (by (try simp only [List.map_toArray, List.map_cons, List.map_nil]); first | done | rfl | (simp only [List.length_drop, List.length_take]; rfl)) ?_; (with_reducible refine (switchboardlaw12_awake.calls  t169 _ A96.out).mono ?_); rintro e w97 ⟨rfl, hb⟩; refine ⟨_, rfl, ?_⟩; have n0_ := Am (Kd.V_below (by (with_reducible repeat (first | apply Kd.V_alloc | apply Kd.V_drewN | apply Kd.V_drew)); exact HO_0.out) hb); have n1_ := Am (Kd.V_below (by (with_reducible repeat (first | apply Kd.V_alloc | apply Kd.V_drewN | apply Kd.V_drew)); exact HO_107.out) hb); have n2_ := Am (blk_below (g := gb150) (o := .cells #[.int .i64 a1_0, .int .i64 a1_1, .int .i64 a1_2, .int .i64 a1_3] 24 (0, 0)) (by (with_reducible repeat (first | refine blk_drewN ?_ _ | refine blk_drew ?_ | refine blk_alloc ?_ _)); exact BK150.out) hb); have n3_ := Am (below_step (by repeat (first | (with_reducible first | exact HB.out | apply below_alloc | apply pw_below_drewN | apply below_drew1 | refine below_set ?_ GE150.out) | exact HB.out)) hb); clear HO_0; clear HO_107; clear BK150; clear HB; have HO_0 := n0_; have HO_107 := n1_; have BK150 := n2_; have HB := n3_; clear n0_ n1_ n2_ n3_; (try clear hb); (try clear hb2); (try clear hk); (try clear hi)))
                go_ret
                exact ⟨by first | rfl | exact congrArg (fun b_ => Ending.returned (Value.bool b_)) hr_.out | exact congrArg (fun b_ => Ending.returned (Value.bool b_)) hr_.out | (simp [errW_none, errW_some] <;> rfl) | (simp [*, errW_none, errW_some] <;> rfl), by repeat (first | (with_reducible first | exact HB.out | apply below_alloc | apply pw_below_drewN | apply below_drew1 | refine below_set ?_ GE150.out) | exact HB.out)⟩

end Go.Proofs.Ytcbngoldidhfmaa.Pr
