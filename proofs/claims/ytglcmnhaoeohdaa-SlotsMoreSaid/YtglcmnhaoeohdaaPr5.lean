-- Laid by wip/xprint.py, a program of this session that runs the kit's print with some contracts given by hand; not a text of print.sh. Lean checks it.
import Derived.Test.YtglcmnhaoeohdaaPr0
import Derived.Test.YtglcmnhaoeohdaaPr2
namespace Go.Proofs.Ytglcmnhaoeohdaa.Pr
open Go.RowKit Go.Proofs.YtglcmnhaoeohdaaW.PrintWords Go.Proofs.YtglcmnhaoeohdaaW.PrintLast Go.Proofs.YtglcmnhaoeohdaaW.PrintMore
attribute [local go_sem] max2_int min2_int max_two min_two max_three min_three max_four min_four   -- for this text's walks alone
set_option linter.unusedVariables false
set_option linter.unusedSimpArgs false

/-! ### switchboardlaw14_SlotsMore: function 5 -/
mutual
def switchboardlaw14_SlotsMore.j0 : Nat → List (S25) → Int → Int → Int → Bool → Option (Bool)
  | 0, _, _, _, _, _ => none
  | k + 1, x0, x1, x2, x3, x25 => if x25 = true then ((switchboardlaw14_awake.f).bind fun t140 => (some t140)) else ((slots_Assign.f x0 x1 x2).bind fun t141 => ((slots_Assign.f x0 x1 (wrap64 (x2 + (wrap64 (x3))))).bind fun t144 => ((slots_Assign.f x0 x1 1000).bind fun t147 => (if (t141.length : Int) = (x0.length : Int) then (if (t144.length : Int) = (x0.length : Int) then (switchboardlaw14_SlotsMore.j1 k x0 x1 t141 t144 t147 ((t147.length : Int) != (x0.length : Int))) else (switchboardlaw14_SlotsMore.j1 k x0 x1 t141 t144 t147 true)) else (switchboardlaw14_SlotsMore.j1 k x0 x1 t141 t144 t147 true)))))
def switchboardlaw14_SlotsMore.j1 : Nat → List (S25) → Int → List (S25) → List (S25) → List (S25) → Bool → Option (Bool)
  | 0, _, _, _, _, _, _ => none
  | k + 1, x0, x1, x9, x10, x11, x59 => if x59 = true then (some false) else (switchboardlaw14_SlotsMore.l0 k x0 x1 x9 x10 x11 (x9.length : Int) 0)
def switchboardlaw14_SlotsMore.l0 : Nat → List (S25) → Int → List (S25) → List (S25) → List (S25) → Int → Int → Option (Bool)
  | 0, _, _, _, _, _, _, _ => none
  | k + 1, x0, x1, x9, x10, x11, x61, x62 => if x62 < x61 then (switchboardlaw14_SlotsMore.l1 k x0 x1 x9 x10 x11 x62 x61 x62 0) else ((switchboardlaw14_awake.f).bind fun t150 => (some t150))
def switchboardlaw14_SlotsMore.l1 : Nat → List (S25) → Int → List (S25) → List (S25) → List (S25) → Int → Int → Int → Int → Option (Bool)
  | 0, _, _, _, _, _, _, _, _, _ => none
  | k + 1, x0, x1, x9, x10, x11, x12, x61, x62, x65 => if x65 < 2 then (if 0 ≤ x12 then (if x12 < (x0.length : Int) then (if 0 ≤ x65 then (if x12 < (x9.length : Int) then (if (pick2 ((rd_T25 x9 x12).f0) ((rd_T25 x9 x12).f1) x65) ≥ 0 then (if x12 < (x10.length : Int) then (if (pick2 ((rd_T25 x10 x12).f0) ((rd_T25 x10 x12).f1) x65) = (pick2 ((rd_T25 x9 x12).f0) ((rd_T25 x9 x12).f1) x65) then (if x12 < (x11.length : Int) then (if (pick2 ((rd_T25 x0 x12).f0) ((rd_T25 x0 x12).f1) x65) ≥ 0 then (if ((decide ((pick2 ((rd_T25 x11 x12).f0) ((rd_T25 x11 x12).f1) x65) ≥ 0)) != (decide ((pick2 ((rd_T25 x0 x12).f0) ((rd_T25 x0 x12).f1) x65) < x1))) = true then (some false) else (switchboardlaw14_SlotsMore.l1 k x0 x1 x9 x10 x11 x12 x61 x62 (wrap64 (x65 + 1)))) else (if ((decide ((pick2 ((rd_T25 x11 x12).f0) ((rd_T25 x11 x12).f1) x65) ≥ 0)) != false) = true then (some false) else (switchboardlaw14_SlotsMore.l1 k x0 x1 x9 x10 x11 x12 x61 x62 (wrap64 (x65 + 1))))) else (none)) else (some false)) else (none)) else (if x12 < (x11.length : Int) then (if (pick2 ((rd_T25 x0 x12).f0) ((rd_T25 x0 x12).f1) x65) ≥ 0 then (if ((decide ((pick2 ((rd_T25 x11 x12).f0) ((rd_T25 x11 x12).f1) x65) ≥ 0)) != (decide ((pick2 ((rd_T25 x0 x12).f0) ((rd_T25 x0 x12).f1) x65) < x1))) = true then (some false) else (switchboardlaw14_SlotsMore.l1 k x0 x1 x9 x10 x11 x12 x61 x62 (wrap64 (x65 + 1)))) else (if ((decide ((pick2 ((rd_T25 x11 x12).f0) ((rd_T25 x11 x12).f1) x65) ≥ 0)) != false) = true then (some false) else (switchboardlaw14_SlotsMore.l1 k x0 x1 x9 x10 x11 x12 x61 x62 (wrap64 (x65 + 1))))) else (none))) else (none)) else (none)) else (none)) else (none)) else (switchboardlaw14_SlotsMore.l0 k x0 x1 x9 x10 x11 x61 (wrap64 (x62 + 1)))
end
def switchboardlaw14_SlotsMore.f (k : Nat) (l0 : List (S25)) (a1 : Int) (a2 : Int) (a3 : Int) : Option (Bool) := if (l0.length : Int) > 60 then (switchboardlaw14_SlotsMore.j0 k l0 a1 a2 a3 true) else (if a2 > 1000 then (switchboardlaw14_SlotsMore.j0 k l0 a1 a2 a3 true) else (switchboardlaw14_SlotsMore.j0 k l0 a1 a2 a3 (decide (a2 < (-1000)))))
theorem switchboardlaw14_SlotsMore.mono_l : ∀ k, (∀ y0 y1 y2 y3 y4, LeO (switchboardlaw14_SlotsMore.j0 k y0 y1 y2 y3 y4) (switchboardlaw14_SlotsMore.j0 (k + 1) y0 y1 y2 y3 y4)) ∧ (∀ y0 y1 y2 y3 y4 y5, LeO (switchboardlaw14_SlotsMore.j1 k y0 y1 y2 y3 y4 y5) (switchboardlaw14_SlotsMore.j1 (k + 1) y0 y1 y2 y3 y4 y5)) ∧ (∀ y0 y1 y2 y3 y4 y5 y6, LeO (switchboardlaw14_SlotsMore.l0 k y0 y1 y2 y3 y4 y5 y6) (switchboardlaw14_SlotsMore.l0 (k + 1) y0 y1 y2 y3 y4 y5 y6)) ∧ (∀ y0 y1 y2 y3 y4 y5 y6 y7 y8, LeO (switchboardlaw14_SlotsMore.l1 k y0 y1 y2 y3 y4 y5 y6 y7 y8) (switchboardlaw14_SlotsMore.l1 (k + 1) y0 y1 y2 y3 y4 y5 y6 y7 y8))
  | 0 => ⟨fun _ _ _ _ _ r h => by simp [switchboardlaw14_SlotsMore.j0] at h, fun _ _ _ _ _ _ r h => by simp [switchboardlaw14_SlotsMore.j1] at h, fun _ _ _ _ _ _ _ r h => by simp [switchboardlaw14_SlotsMore.l0] at h, fun _ _ _ _ _ _ _ _ _ r h => by simp [switchboardlaw14_SlotsMore.l1] at h⟩
  | k + 1 => by
    obtain ⟨ih0, ih1, ih2, ih3⟩ := switchboardlaw14_SlotsMore.mono_l k
    refine ⟨?_, ?_, ?_, ?_⟩
    · intro y0 y1 y2 y3 y4
      unfold switchboardlaw14_SlotsMore.j0
      repeat' first
      | (with_reducible exact ih0 _ _ _ _ _)
      | (with_reducible exact ih1 _ _ _ _ _ _)
      | (with_reducible exact ih2 _ _ _ _ _ _ _)
      | (with_reducible exact ih3 _ _ _ _ _ _ _ _ _)
      | (with_reducible exact LeO.refl _)
      | (with_reducible exact LeO.none _)
      | (with_reducible refine LeO.ite ?_ ?_)
      | (with_reducible refine LeO.bind ?_ (fun _ => ?_))
      | exact ih0 _ _ _ _ _
      | exact ih1 _ _ _ _ _ _
      | exact ih2 _ _ _ _ _ _ _
      | exact ih3 _ _ _ _ _ _ _ _ _
      | exact LeO.none _
      | refine LeO.ite ?_ ?_
      | refine LeO.bind ?_ (fun _ => ?_)
    · intro y0 y1 y2 y3 y4 y5
      unfold switchboardlaw14_SlotsMore.j1
      repeat' first
      | (with_reducible exact ih0 _ _ _ _ _)
      | (with_reducible exact ih1 _ _ _ _ _ _)
      | (with_reducible exact ih2 _ _ _ _ _ _ _)
      | (with_reducible exact ih3 _ _ _ _ _ _ _ _ _)
      | (with_reducible exact LeO.refl _)
      | (with_reducible exact LeO.none _)
      | (with_reducible refine LeO.ite ?_ ?_)
      | (with_reducible refine LeO.bind ?_ (fun _ => ?_))
      | exact ih0 _ _ _ _ _
      | exact ih1 _ _ _ _ _ _
      | exact ih2 _ _ _ _ _ _ _
      | exact ih3 _ _ _ _ _ _ _ _ _
      | exact LeO.none _
      | refine LeO.ite ?_ ?_
      | refine LeO.bind ?_ (fun _ => ?_)
    · intro y0 y1 y2 y3 y4 y5 y6
      unfold switchboardlaw14_SlotsMore.l0
      repeat' first
      | (with_reducible exact ih0 _ _ _ _ _)
      | (with_reducible exact ih1 _ _ _ _ _ _)
      | (with_reducible exact ih2 _ _ _ _ _ _ _)
      | (with_reducible exact ih3 _ _ _ _ _ _ _ _ _)
      | (with_reducible exact LeO.refl _)
      | (with_reducible exact LeO.none _)
      | (with_reducible refine LeO.ite ?_ ?_)
      | (with_reducible refine LeO.bind ?_ (fun _ => ?_))
      | exact ih0 _ _ _ _ _
      | exact ih1 _ _ _ _ _ _
      | exact ih2 _ _ _ _ _ _ _
      | exact ih3 _ _ _ _ _ _ _ _ _
      | exact LeO.none _
      | refine LeO.ite ?_ ?_
      | refine LeO.bind ?_ (fun _ => ?_)
    · intro y0 y1 y2 y3 y4 y5 y6 y7 y8
      unfold switchboardlaw14_SlotsMore.l1
      repeat' first
      | (with_reducible exact ih0 _ _ _ _ _)
      | (with_reducible exact ih1 _ _ _ _ _ _)
      | (with_reducible exact ih2 _ _ _ _ _ _ _)
      | (with_reducible exact ih3 _ _ _ _ _ _ _ _ _)
      | (with_reducible exact LeO.refl _)
      | (with_reducible exact LeO.none _)
      | (with_reducible refine LeO.ite ?_ ?_)
      | (with_reducible refine LeO.bind ?_ (fun _ => ?_))
      | exact ih0 _ _ _ _ _
      | exact ih1 _ _ _ _ _ _
      | exact ih2 _ _ _ _ _ _ _
      | exact ih3 _ _ _ _ _ _ _ _ _
      | exact LeO.none _
      | refine LeO.ite ?_ ?_
      | refine LeO.bind ?_ (fun _ => ?_)
theorem switchboardlaw14_SlotsMore.mono : ∀ a0 a1 a2 a3 k, LeO (switchboardlaw14_SlotsMore.f k a0 a1 a2 a3) (switchboardlaw14_SlotsMore.f (k + 1) a0 a1 a2 a3) := by
  intro a0 a1 a2 a3 k
  obtain ⟨ih0, ih1, ih2, ih3⟩ := switchboardlaw14_SlotsMore.mono_l k
  unfold switchboardlaw14_SlotsMore.f
  repeat' first
      | (with_reducible exact ih0 _ _ _ _ _)
      | (with_reducible exact ih1 _ _ _ _ _ _)
      | (with_reducible exact ih2 _ _ _ _ _ _ _)
      | (with_reducible exact ih3 _ _ _ _ _ _ _ _ _)
      | (with_reducible exact LeO.refl _)
      | (with_reducible exact LeO.none _)
      | (with_reducible refine LeO.ite ?_ ?_)
      | (with_reducible refine LeO.bind ?_ (fun _ => ?_))
      | exact ih0 _ _ _ _ _
      | exact ih1 _ _ _ _ _ _
      | exact ih2 _ _ _ _ _ _ _
      | exact ih3 _ _ _ _ _ _ _ _ _
      | exact LeO.none _
      | refine LeO.ite ?_ ?_
      | refine LeO.bind ?_ (fun _ => ?_)
set_option maxHeartbeats 8000000 in
set_option maxRecDepth 100000 in
theorem switchboardlaw14_SlotsMore.calls (k : Nat) (A0 : Option Addr) (c0 : Nat) (l0 : List (S25)) (a1 : Int) (a2 : Int) (a3 : Int) (w : World) (hr0 : Kd.C k25 w A0 l0.length l0) (hc0 : l0.length ≤ c0) (h : switchboardlaw14_SlotsMore.f k l0 a1 a2 a3 = some true) :
    Calls Try.prog 5 #[.slice A0 l0.length c0, .int .i64 a1, .int .i64 a2, .int .u8 a3] w fun e w' => e = .returned (.bool true) ∧ Below w.heap.size w w' := by
  have HR0 := Aside0.mk hr0
  have HC0 := Aside0.mk hc0
  clear hr0 hc0
  have HB := Aside0.mk (Below.refl w.heap.size w)
  have H : (if (l0.length : Int) > 60 then (switchboardlaw14_SlotsMore.j0 k l0 a1 a2 a3 true) else (if a2 > 1000 then (switchboardlaw14_SlotsMore.j0 k l0 a1 a2 a3 true) else (switchboardlaw14_SlotsMore.j0 k l0 a1 a2 a3 (decide (a2 < (-1000)))))) = some true := h
  clear h
  have HC5 := Aside0.mk H
  clear H
  go_enter Try.func5, Try.ntmps5
  go_upto_region 1 with (fail)
  repeat (go_quiet (fail); go_upto_region 1 with (fail))
  go_cut [25] (fun v25 wc => ∃ (kq : Nat) (x25_4 : Bool), v25 = .bool x25_4 ∧ Aside0 (switchboardlaw14_SlotsMore.j0 kq l0 a1 a2 a3 x25_4 = some true) ∧ Aside0 (kq ≤ k) ∧ Aside0 (Below w.heap.size w wc))
  case first =>
    have H := HC5.out
    clear HC5
    by_cases c6 : (l0.length : Int) > 60
    · rw [if_pos c6] at H
      have c6b0 : decide (60 < (l0.length : Int)) = true := decide_eq_true c6
      have c6b1 : decide (60 < l0.length) = true := decide_eq_true (by omega)
      clear c6
      (first | rw [c6b0] | (simp only [i64_w, i32_w]; rw [c6b0]) | skip)
      have H' := Aside0.mk H
      clear H
      go_wp2
      repeat (go_quiet (fail); try go_wp2)
      go_meet
      case rel => exact ⟨_, (true), (by first | rfl | (simp; done) | (simp [*]; done)), H', ⟨by first | omega | exact Nat.le_refl _⟩, ⟨by repeat (first | (with_reducible first | exact HB.out | apply below_alloc | apply pw_below_drewN | apply below_drew1) | exact HB.out)⟩⟩
    · rw [if_neg c6] at H
      have c6b0 : decide (60 < (l0.length : Int)) = false := decide_eq_false c6
      have c6b1 : decide (60 < l0.length) = false := decide_eq_false (by omega)
      clear c6
      (first | rw [c6b0] | (simp only [i64_w, i32_w]; rw [c6b0]) | skip)
      by_cases c7 : a2 > 1000
      · rw [if_pos c7] at H
        have c7b0 : decide (1000 < a2) = true := decide_eq_true c7
        clear c7
        have H' := Aside0.mk H
        clear H
        go_wp2
        repeat (go_quiet (fail); try go_wp2)
        go_meet
        case rel => exact ⟨_, (true), (by first | rfl | (simp; done) | (simp [*]; done)), H', ⟨by first | omega | exact Nat.le_refl _⟩, ⟨by repeat (first | (with_reducible first | exact HB.out | apply below_alloc | apply pw_below_drewN | apply below_drew1) | exact HB.out)⟩⟩
      · rw [if_neg c7] at H
        have c7b0 : decide (1000 < a2) = false := decide_eq_false c7
        clear c7
        have H' := Aside0.mk H
        clear H
        go_wp2
        repeat (go_quiet (fail); try go_wp2)
        go_meet
        case rel => exact ⟨_, (decide (a2 < (-1000))), (by first | rfl | (simp; done) | (simp [*]; done)), H', ⟨by first | omega | exact Nat.le_refl _⟩, ⟨by repeat (first | (with_reducible first | exact HB.out | apply below_alloc | apply pw_below_drewN | apply below_drew1) | exact HB.out)⟩⟩
  case rest =>
    clear HC5
    try clear p2
    try clear c5
    try clear c6
    try clear c6b0
    try clear c6b1
    try clear c7
    try clear c7b0
    obtain ⟨kq, x25_4, rfl, HA, HJ4, HB⟩ := hcut
    cases kq with
    | zero => exact absurd HA.out (by simp [switchboardlaw14_SlotsMore.j0])
    | succ kj4 =>
      have H := HA.out
      clear HA
      simp only [switchboardlaw14_SlotsMore.j0] at H
      by_cases c8 : x25_4 = true
      · subst c8
        have H1 : ((switchboardlaw14_awake.f).bind fun t140 => (some t140)) = some true := by rw [if_pos rfl] at H; exact H
        clear H
        have H := H1
        clear H1
        replace H := Option.bind_eq_some_iff.mp H
        obtain ⟨t140, A90, H⟩ := H
        replace H : (some t140) = some true := H
        have A9 := Aside0.mk A90
        clear A90
        have hr_ := Aside0.mk (Option.some.inj H)
        go_wp2_with (first | (go_at_call 7; (with_reducible refine (switchboardlaw14_awake.calls  t140 _ A9.out).mono ?_); rintro e w10 ⟨rfl, hb⟩; have n0_ := Aside0.mk (below_step (by repeat (first | (with_reducible first | exact HB.out | apply below_alloc | apply pw_below_drewN | apply below_drew1) | exact HB.out)) hb); clear HB; have HB := n0_; clear n0_; (try clear hb); (try clear hb2); (try clear hk); (try clear hi)))
        repeat (go_quiet (first | (go_at_call 7; (with_reducible refine (switchboardlaw14_awake.calls  t140 _ A9.out).mono ?_); rintro e w10 ⟨rfl, hb⟩; have n0_ := Aside0.mk (below_step (by repeat (first | (with_reducible first | exact HB.out | apply below_alloc | apply pw_below_drewN | apply below_drew1) | exact HB.out)) hb); clear HB; have HB := n0_; clear n0_; (try clear hb); (try clear hb2); (try clear hk); (try clear hi))); try go_wp2_with (first | (go_at_call 7; (with_reducible refine (switchboardlaw14_awake.calls  t140 _ A9.out).mono ?_); rintro e w10 ⟨rfl, hb⟩; have n0_ := Aside0.mk (below_step (by repeat (first | (with_reducible first | exact HB.out | apply below_alloc | apply pw_below_drewN | apply below_drew1) | exact HB.out)) hb); clear HB; have HB := n0_; clear n0_; (try clear hb); (try clear hb2); (try clear hk); (try clear hi))))
        go_ret
        exact ⟨by first | rfl | exact congrArg (fun b_ => Ending.returned (Value.bool b_)) hr_.out | exact congrArg (fun b_ => Ending.returned (Value.bool b_)) hr_.out | (simp [errW_none, errW_some] <;> rfl) | (simp [*, errW_none, errW_some] <;> rfl), by repeat (first | (with_reducible first | exact HB.out | apply below_alloc | apply pw_below_drewN | apply below_drew1) | exact HB.out)⟩
      · replace c8 := Bool.eq_false_iff.mpr c8
        subst c8
        have H1 : ((slots_Assign.f l0 a1 a2).bind fun t141 => ((slots_Assign.f l0 a1 (wrap64 (a2 + (wrap64 (a3))))).bind fun t144 => ((slots_Assign.f l0 a1 1000).bind fun t147 => (if (t141.length : Int) = (l0.length : Int) then (if (t144.length : Int) = (l0.length : Int) then (switchboardlaw14_SlotsMore.j1 kj4 l0 a1 t141 t144 t147 ((t147.length : Int) != (l0.length : Int))) else (switchboardlaw14_SlotsMore.j1 kj4 l0 a1 t141 t144 t147 true)) else (switchboardlaw14_SlotsMore.j1 kj4 l0 a1 t141 t144 t147 true))))) = some true := by rw [if_neg (show ¬ (false = true) by decide)] at H; exact H
        clear H
        have H := H1
        clear H1
        replace H := Option.bind_eq_some_iff.mp H
        obtain ⟨t141, A110, H⟩ := H
        replace H : ((slots_Assign.f l0 a1 (wrap64 (a2 + (wrap64 (a3))))).bind fun t144 => ((slots_Assign.f l0 a1 1000).bind fun t147 => (if (t141.length : Int) = (l0.length : Int) then (if (t144.length : Int) = (l0.length : Int) then (switchboardlaw14_SlotsMore.j1 kj4 l0 a1 t141 t144 t147 ((t147.length : Int) != (l0.length : Int))) else (switchboardlaw14_SlotsMore.j1 kj4 l0 a1 t141 t144 t147 true)) else (switchboardlaw14_SlotsMore.j1 kj4 l0 a1 t141 t144 t147 true)))) = some true := H
        have A11 := Aside0.mk A110
        clear A110
        replace H := Option.bind_eq_some_iff.mp H
        obtain ⟨t144, A120, H⟩ := H
        replace H : ((slots_Assign.f l0 a1 1000).bind fun t147 => (if (t141.length : Int) = (l0.length : Int) then (if (t144.length : Int) = (l0.length : Int) then (switchboardlaw14_SlotsMore.j1 kj4 l0 a1 t141 t144 t147 ((t147.length : Int) != (l0.length : Int))) else (switchboardlaw14_SlotsMore.j1 kj4 l0 a1 t141 t144 t147 true)) else (switchboardlaw14_SlotsMore.j1 kj4 l0 a1 t141 t144 t147 true))) = some true := H
        have A12 := Aside0.mk A120
        clear A120
        replace H := Option.bind_eq_some_iff.mp H
        obtain ⟨t147, A130, H⟩ := H
        replace H : (if (t141.length : Int) = (l0.length : Int) then (if (t144.length : Int) = (l0.length : Int) then (switchboardlaw14_SlotsMore.j1 kj4 l0 a1 t141 t144 t147 ((t147.length : Int) != (l0.length : Int))) else (switchboardlaw14_SlotsMore.j1 kj4 l0 a1 t141 t144 t147 true)) else (switchboardlaw14_SlotsMore.j1 kj4 l0 a1 t141 t144 t147 true)) = some true := H
        have A13 := Aside0.mk A130
        clear A130
        have HC14 := Aside0.mk H
        clear H
        go_upto_region 6 with (first | (go_at_call 8; (with_reducible refine (slots_Assign.calls _ _ l0 a1 a2 t141 _ ?side1 ?side2 A11.out).mono ?_); (case side1 => repeat (first | exact (Kd.C_below HR0.out HB.out) | (with_reducible refine Kd.C_alloc ?_ _) | (with_reducible refine Kd.C_drewN ?_ _) | (with_reducible refine Kd.C_drew ?_))); (case side2 => exact HC0.out); rintro e w15 ⟨v142, rfl, ho0, hb⟩; have n0_ := Aside0.mk (Kd.R_lower ho0 (below_size (by repeat (first | (with_reducible first | exact HB.out | apply below_alloc | apply pw_below_drewN | apply below_drew1) | exact HB.out)))); have n1_ := Aside0.mk (below_step (by repeat (first | (with_reducible first | exact HB.out | apply below_alloc | apply pw_below_drewN | apply below_drew1) | exact HB.out)) hb); clear HB; have HO143 := n0_; have HB := n1_; clear n0_ n1_; (try clear hb); (try clear hb2); (try clear hk); (try clear hi); (try clear ho0)) | (go_at_call 8; (with_reducible refine (slots_Assign.calls _ _ l0 a1 (wrap64 (a2 + (wrap64 (a3)))) t144 _ ?side1 ?side2 A12.out).mono ?_); (case side1 => repeat (first | exact (Kd.C_below HR0.out HB.out) | (with_reducible refine Kd.C_alloc ?_ _) | (with_reducible refine Kd.C_drewN ?_ _) | (with_reducible refine Kd.C_drew ?_))); (case side2 => exact HC0.out); rintro e w16 ⟨v145, rfl, ho0, hb⟩; have n0_ := Aside0.mk (Kd.R_elder' (by (with_reducible repeat (first | apply Kd.R_alloc | apply Kd.R_drewN | apply Kd.R_drew)); exact HO143.out) (Kd.R_base ho0) hb); have n1_ := Aside0.mk (Kd.R_lower (Kd.R_new' ho0 (Kd.R_lt (by (with_reducible repeat (first | apply Kd.R_alloc | apply Kd.R_drewN | apply Kd.R_drew)); exact HO143.out))) (below_size (by repeat (first | (with_reducible first | exact HB.out | apply below_alloc | apply pw_below_drewN | apply below_drew1) | exact HB.out)))); have n2_ := Aside0.mk (below_step (by repeat (first | (with_reducible first | exact HB.out | apply below_alloc | apply pw_below_drewN | apply below_drew1) | exact HB.out)) hb); clear HO143; clear HB; have HO143 := n0_; have HO146 := n1_; have HB := n2_; clear n0_ n1_ n2_; (try clear hb); (try clear hb2); (try clear hk); (try clear hi); (try clear ho0)) | (go_at_call 8; (with_reducible refine (slots_Assign.calls _ _ l0 a1 1000 t147 _ ?side1 ?side2 A13.out).mono ?_); (case side1 => repeat (first | exact (Kd.C_below HR0.out HB.out) | (with_reducible refine Kd.C_alloc ?_ _) | (with_reducible refine Kd.C_drewN ?_ _) | (with_reducible refine Kd.C_drew ?_))); (case side2 => exact HC0.out); rintro e w17 ⟨v148, rfl, ho0, hb⟩; have n0_ := Aside0.mk (Kd.R_elder' (by (with_reducible repeat (first | apply Kd.R_alloc | apply Kd.R_drewN | apply Kd.R_drew)); exact HO143.out) (Kd.R_base ho0) hb); have n1_ := Aside0.mk (Kd.R_elder' (by (with_reducible repeat (first | apply Kd.R_alloc | apply Kd.R_drewN | apply Kd.R_drew)); exact HO146.out) (Kd.R_base ho0) hb); have n2_ := Aside0.mk (Kd.R_lower (Kd.R_new' (Kd.R_new' ho0 (Kd.R_lt (by (with_reducible repeat (first | apply Kd.R_alloc | apply Kd.R_drewN | apply Kd.R_drew)); exact HO143.out))) (Kd.R_lt (by (with_reducible repeat (first | apply Kd.R_alloc | apply Kd.R_drewN | apply Kd.R_drew)); exact HO146.out))) (below_size (by repeat (first | (with_reducible first | exact HB.out | apply below_alloc | apply pw_below_drewN | apply below_drew1) | exact HB.out)))); have n3_ := Aside0.mk (below_step (by repeat (first | (with_reducible first | exact HB.out | apply below_alloc | apply pw_below_drewN | apply below_drew1) | exact HB.out)) hb); clear HO143; clear HO146; clear HB; have HO143 := n0_; have HO146 := n1_; have HO149 := n2_; have HB := n3_; clear n0_ n1_ n2_ n3_; (try clear hb); (try clear hb2); (try clear hk); (try clear hi); (try clear ho0)))
        repeat (go_quiet (first | (go_at_call 8; (with_reducible refine (slots_Assign.calls _ _ l0 a1 a2 t141 _ ?side1 ?side2 A11.out).mono ?_); (case side1 => repeat (first | exact (Kd.C_below HR0.out HB.out) | (with_reducible refine Kd.C_alloc ?_ _) | (with_reducible refine Kd.C_drewN ?_ _) | (with_reducible refine Kd.C_drew ?_))); (case side2 => exact HC0.out); rintro e w15 ⟨v142, rfl, ho0, hb⟩; have n0_ := Aside0.mk (Kd.R_lower ho0 (below_size (by repeat (first | (with_reducible first | exact HB.out | apply below_alloc | apply pw_below_drewN | apply below_drew1) | exact HB.out)))); have n1_ := Aside0.mk (below_step (by repeat (first | (with_reducible first | exact HB.out | apply below_alloc | apply pw_below_drewN | apply below_drew1) | exact HB.out)) hb); clear HB; have HO143 := n0_; have HB := n1_; clear n0_ n1_; (try clear hb); (try clear hb2); (try clear hk); (try clear hi); (try clear ho0)) | (go_at_call 8; (with_reducible refine (slots_Assign.calls _ _ l0 a1 (wrap64 (a2 + (wrap64 (a3)))) t144 _ ?side1 ?side2 A12.out).mono ?_); (case side1 => repeat (first | exact (Kd.C_below HR0.out HB.out) | (with_reducible refine Kd.C_alloc ?_ _) | (with_reducible refine Kd.C_drewN ?_ _) | (with_reducible refine Kd.C_drew ?_))); (case side2 => exact HC0.out); rintro e w16 ⟨v145, rfl, ho0, hb⟩; have n0_ := Aside0.mk (Kd.R_elder' (by (with_reducible repeat (first | apply Kd.R_alloc | apply Kd.R_drewN | apply Kd.R_drew)); exact HO143.out) (Kd.R_base ho0) hb); have n1_ := Aside0.mk (Kd.R_lower (Kd.R_new' ho0 (Kd.R_lt (by (with_reducible repeat (first | apply Kd.R_alloc | apply Kd.R_drewN | apply Kd.R_drew)); exact HO143.out))) (below_size (by repeat (first | (with_reducible first | exact HB.out | apply below_alloc | apply pw_below_drewN | apply below_drew1) | exact HB.out)))); have n2_ := Aside0.mk (below_step (by repeat (first | (with_reducible first | exact HB.out | apply below_alloc | apply pw_below_drewN | apply below_drew1) | exact HB.out)) hb); clear HO143; clear HB; have HO143 := n0_; have HO146 := n1_; have HB := n2_; clear n0_ n1_ n2_; (try clear hb); (try clear hb2); (try clear hk); (try clear hi); (try clear ho0)) | (go_at_call 8; (with_reducible refine (slots_Assign.calls _ _ l0 a1 1000 t147 _ ?side1 ?side2 A13.out).mono ?_); (case side1 => repeat (first | exact (Kd.C_below HR0.out HB.out) | (with_reducible refine Kd.C_alloc ?_ _) | (with_reducible refine Kd.C_drewN ?_ _) | (with_reducible refine Kd.C_drew ?_))); (case side2 => exact HC0.out); rintro e w17 ⟨v148, rfl, ho0, hb⟩; have n0_ := Aside0.mk (Kd.R_elder' (by (with_reducible repeat (first | apply Kd.R_alloc | apply Kd.R_drewN | apply Kd.R_drew)); exact HO143.out) (Kd.R_base ho0) hb); have n1_ := Aside0.mk (Kd.R_elder' (by (with_reducible repeat (first | apply Kd.R_alloc | apply Kd.R_drewN | apply Kd.R_drew)); exact HO146.out) (Kd.R_base ho0) hb); have n2_ := Aside0.mk (Kd.R_lower (Kd.R_new' (Kd.R_new' ho0 (Kd.R_lt (by (with_reducible repeat (first | apply Kd.R_alloc | apply Kd.R_drewN | apply Kd.R_drew)); exact HO143.out))) (Kd.R_lt (by (with_reducible repeat (first | apply Kd.R_alloc | apply Kd.R_drewN | apply Kd.R_drew)); exact HO146.out))) (below_size (by repeat (first | (with_reducible first | exact HB.out | apply below_alloc | apply pw_below_drewN | apply below_drew1) | exact HB.out)))); have n3_ := Aside0.mk (below_step (by repeat (first | (with_reducible first | exact HB.out | apply below_alloc | apply pw_below_drewN | apply below_drew1) | exact HB.out)) hb); clear HO143; clear HO146; clear HB; have HO143 := n0_; have HO146 := n1_; have HO149 := n2_; have HB := n3_; clear n0_ n1_ n2_ n3_; (try clear hb); (try clear hb2); (try clear hk); (try clear hi); (try clear ho0))); go_upto_region 6 with (first | (go_at_call 8; (with_reducible refine (slots_Assign.calls _ _ l0 a1 a2 t141 _ ?side1 ?side2 A11.out).mono ?_); (case side1 => repeat (first | exact (Kd.C_below HR0.out HB.out) | (with_reducible refine Kd.C_alloc ?_ _) | (with_reducible refine Kd.C_drewN ?_ _) | (with_reducible refine Kd.C_drew ?_))); (case side2 => exact HC0.out); rintro e w15 ⟨v142, rfl, ho0, hb⟩; have n0_ := Aside0.mk (Kd.R_lower ho0 (below_size (by repeat (first | (with_reducible first | exact HB.out | apply below_alloc | apply pw_below_drewN | apply below_drew1) | exact HB.out)))); have n1_ := Aside0.mk (below_step (by repeat (first | (with_reducible first | exact HB.out | apply below_alloc | apply pw_below_drewN | apply below_drew1) | exact HB.out)) hb); clear HB; have HO143 := n0_; have HB := n1_; clear n0_ n1_; (try clear hb); (try clear hb2); (try clear hk); (try clear hi); (try clear ho0)) | (go_at_call 8; (with_reducible refine (slots_Assign.calls _ _ l0 a1 (wrap64 (a2 + (wrap64 (a3)))) t144 _ ?side1 ?side2 A12.out).mono ?_); (case side1 => repeat (first | exact (Kd.C_below HR0.out HB.out) | (with_reducible refine Kd.C_alloc ?_ _) | (with_reducible refine Kd.C_drewN ?_ _) | (with_reducible refine Kd.C_drew ?_))); (case side2 => exact HC0.out); rintro e w16 ⟨v145, rfl, ho0, hb⟩; have n0_ := Aside0.mk (Kd.R_elder' (by (with_reducible repeat (first | apply Kd.R_alloc | apply Kd.R_drewN | apply Kd.R_drew)); exact HO143.out) (Kd.R_base ho0) hb); have n1_ := Aside0.mk (Kd.R_lower (Kd.R_new' ho0 (Kd.R_lt (by (with_reducible repeat (first | apply Kd.R_alloc | apply Kd.R_drewN | apply Kd.R_drew)); exact HO143.out))) (below_size (by repeat (first | (with_reducible first | exact HB.out | apply below_alloc | apply pw_below_drewN | apply below_drew1) | exact HB.out)))); have n2_ := Aside0.mk (below_step (by repeat (first | (with_reducible first | exact HB.out | apply below_alloc | apply pw_below_drewN | apply below_drew1) | exact HB.out)) hb); clear HO143; clear HB; have HO143 := n0_; have HO146 := n1_; have HB := n2_; clear n0_ n1_ n2_; (try clear hb); (try clear hb2); (try clear hk); (try clear hi); (try clear ho0)) | (go_at_call 8; (with_reducible refine (slots_Assign.calls _ _ l0 a1 1000 t147 _ ?side1 ?side2 A13.out).mono ?_); (case side1 => repeat (first | exact (Kd.C_below HR0.out HB.out) | (with_reducible refine Kd.C_alloc ?_ _) | (with_reducible refine Kd.C_drewN ?_ _) | (with_reducible refine Kd.C_drew ?_))); (case side2 => exact HC0.out); rintro e w17 ⟨v148, rfl, ho0, hb⟩; have n0_ := Aside0.mk (Kd.R_elder' (by (with_reducible repeat (first | apply Kd.R_alloc | apply Kd.R_drewN | apply Kd.R_drew)); exact HO143.out) (Kd.R_base ho0) hb); have n1_ := Aside0.mk (Kd.R_elder' (by (with_reducible repeat (first | apply Kd.R_alloc | apply Kd.R_drewN | apply Kd.R_drew)); exact HO146.out) (Kd.R_base ho0) hb); have n2_ := Aside0.mk (Kd.R_lower (Kd.R_new' (Kd.R_new' ho0 (Kd.R_lt (by (with_reducible repeat (first | apply Kd.R_alloc | apply Kd.R_drewN | apply Kd.R_drew)); exact HO143.out))) (Kd.R_lt (by (with_reducible repeat (first | apply Kd.R_alloc | apply Kd.R_drewN | apply Kd.R_drew)); exact HO146.out))) (below_size (by repeat (first | (with_reducible first | exact HB.out | apply below_alloc | apply pw_below_drewN | apply below_drew1) | exact HB.out)))); have n3_ := Aside0.mk (below_step (by repeat (first | (with_reducible first | exact HB.out | apply below_alloc | apply pw_below_drewN | apply below_drew1) | exact HB.out)) hb); clear HO143; clear HO146; clear HB; have HO143 := n0_; have HO146 := n1_; have HO149 := n2_; have HB := n3_; clear n0_ n1_ n2_ n3_; (try clear hb); (try clear hb2); (try clear hk); (try clear hi); (try clear ho0))))
        (try simp only [Act.put, List.setIfInBounds_toArray, List.set_cons_zero, List.set_cons_succ])
        go_cut [59] (fun v59 wc => ∃ (kq : Nat) (x59_13 : Bool), v59 = .bool x59_13 ∧ Aside0 (switchboardlaw14_SlotsMore.j1 kq l0 a1 t141 t144 t147 x59_13 = some true) ∧ Aside0 (kq ≤ kj4) ∧ Aside0 (Kd.R k25 25 wc w.heap.size (fun k_ => some k_ ≠ (v145 : Value).ownBlock ∧ some k_ ≠ (v148 : Value).ownBlock) v142 t141) ∧ Aside0 (Kd.R k25 25 wc w.heap.size (fun k_ => some k_ ≠ (v142 : Value).ownBlock ∧ some k_ ≠ (v148 : Value).ownBlock) v145 t144) ∧ Aside0 (Kd.R k25 25 wc w.heap.size (fun k_ => some k_ ≠ (v142 : Value).ownBlock ∧ some k_ ≠ (v145 : Value).ownBlock) v148 t147) ∧ Aside0 (Below w.heap.size w wc))
        case first =>
          have H := HC14.out
          clear HC14
          by_cases c18 : (t141.length : Int) = (l0.length : Int)
          · rw [if_pos c18] at H
            have c18b0 : ((t141.length : Int) == (l0.length : Int)) = true := beq_iff_eq.mpr c18
            have c18b1 : ((t141.length : Int) != (l0.length : Int)) = false := bne_eq_false_iff_eq.mpr c18
            have c18b2 : (t141.length == l0.length) = true := by first | simpa using c18 | (simp at c18 ⊢; omega)
            clear c18
            (first | rw [c18b0] | (simp only [i64_w, i32_w]; rw [c18b0]) | skip)
            by_cases c19 : (t144.length : Int) = (l0.length : Int)
            · rw [if_pos c19] at H
              have c19b0 : ((t144.length : Int) == (l0.length : Int)) = true := beq_iff_eq.mpr c19
              have c19b1 : ((t144.length : Int) != (l0.length : Int)) = false := bne_eq_false_iff_eq.mpr c19
              have c19b2 : (t144.length == l0.length) = true := by first | simpa using c19 | (simp at c19 ⊢; omega)
              clear c19
              have H' := Aside0.mk H
              clear H
              obtain ⟨Ao20, co20, eo20⟩ := Kd.R_slice HO143.out
              subst eo20
              obtain ⟨Ao21, co21, eo21⟩ := Kd.R_slice HO146.out
              subst eo21
              obtain ⟨Ao22, co22, eo22⟩ := Kd.R_slice HO149.out
              subst eo22
              go_wp2
              repeat (go_quiet (fail); try go_wp2)
              go_meet
              case rel => exact ⟨_, (((t147.length : Int) != (l0.length : Int))), (by first | rfl | (simp; done) | (simp [*]; done)), H', ⟨by have := HJ4.out; first | omega | exact Nat.le_refl _⟩, ⟨by (with_reducible repeat (first | apply Kd.R_alloc | apply Kd.R_drewN | apply Kd.R_drew)); exact Kd.R_mono HO143.out (fun _ hk => ⟨hk.1.2, hk.2⟩)⟩, ⟨by (with_reducible repeat (first | apply Kd.R_alloc | apply Kd.R_drewN | apply Kd.R_drew)); exact Kd.R_mono HO146.out (fun _ hk => ⟨hk.1.2, hk.2⟩)⟩, ⟨by (with_reducible repeat (first | apply Kd.R_alloc | apply Kd.R_drewN | apply Kd.R_drew)); exact Kd.R_mono HO149.out (fun _ hk => ⟨hk.1.2, hk.2⟩)⟩, ⟨by repeat (first | (with_reducible first | exact HB.out | apply below_alloc | apply pw_below_drewN | apply below_drew1) | exact HB.out)⟩⟩
            · rw [if_neg c19] at H
              have c19b0 : ((t144.length : Int) == (l0.length : Int)) = false := beq_eq_false_iff_ne.mpr c19
              have c19b1 : ((t144.length : Int) != (l0.length : Int)) = true := bne_iff_ne.mpr c19
              have c19b2 : (t144.length == l0.length) = false := by first | simpa using c19 | (simp at c19 ⊢; omega)
              have H' := Aside0.mk H
              clear H
              obtain ⟨Ao23, co23, eo23⟩ := Kd.R_slice HO143.out
              subst eo23
              obtain ⟨Ao24, co24, eo24⟩ := Kd.R_slice HO146.out
              subst eo24
              go_wp2
              repeat (go_quiet (fail); try go_wp2)
              go_meet
              case rel => exact ⟨_, (true), (by first | rfl | (simp; done) | (simp [*]; done)), H', ⟨by have := HJ4.out; first | omega | exact Nat.le_refl _⟩, ⟨by (with_reducible repeat (first | apply Kd.R_alloc | apply Kd.R_drewN | apply Kd.R_drew)); exact Kd.R_mono HO143.out (fun _ hk => ⟨hk.1.2, hk.2⟩)⟩, ⟨by (with_reducible repeat (first | apply Kd.R_alloc | apply Kd.R_drewN | apply Kd.R_drew)); exact Kd.R_mono HO146.out (fun _ hk => ⟨hk.1.2, hk.2⟩)⟩, ⟨by (with_reducible repeat (first | apply Kd.R_alloc | apply Kd.R_drewN | apply Kd.R_drew)); exact Kd.R_mono HO149.out (fun _ hk => ⟨hk.1.2, hk.2⟩)⟩, ⟨by repeat (first | (with_reducible first | exact HB.out | apply below_alloc | apply pw_below_drewN | apply below_drew1) | exact HB.out)⟩⟩
          · rw [if_neg c18] at H
            have c18b0 : ((t141.length : Int) == (l0.length : Int)) = false := beq_eq_false_iff_ne.mpr c18
            have c18b1 : ((t141.length : Int) != (l0.length : Int)) = true := bne_iff_ne.mpr c18
            have c18b2 : (t141.length == l0.length) = false := by first | simpa using c18 | (simp at c18 ⊢; omega)
            (first | rw [c18b0] | (simp only [i64_w, i32_w]; rw [c18b0]) | skip)
            have H' := Aside0.mk H
            clear H
            obtain ⟨Ao25, co25, eo25⟩ := Kd.R_slice HO143.out
            subst eo25
            go_wp2
            repeat (go_quiet (fail); try go_wp2)
            go_meet
            case rel => exact ⟨_, (true), (by first | rfl | (simp; done) | (simp [*]; done)), H', ⟨by have := HJ4.out; first | omega | exact Nat.le_refl _⟩, ⟨by (with_reducible repeat (first | apply Kd.R_alloc | apply Kd.R_drewN | apply Kd.R_drew)); exact Kd.R_mono HO143.out (fun _ hk => ⟨hk.1.2, hk.2⟩)⟩, ⟨by (with_reducible repeat (first | apply Kd.R_alloc | apply Kd.R_drewN | apply Kd.R_drew)); exact Kd.R_mono HO146.out (fun _ hk => ⟨hk.1.2, hk.2⟩)⟩, ⟨by (with_reducible repeat (first | apply Kd.R_alloc | apply Kd.R_drewN | apply Kd.R_drew)); exact Kd.R_mono HO149.out (fun _ hk => ⟨hk.1.2, hk.2⟩)⟩, ⟨by repeat (first | (with_reducible first | exact HB.out | apply below_alloc | apply pw_below_drewN | apply below_drew1) | exact HB.out)⟩⟩
        case rest =>
          clear HC14
          try clear c1
          try clear p2
          try clear c5
          try clear c6
          try clear c6b0
          try clear c6b1
          try clear p6
          try clear c7
          try clear c7b0
          try clear c8
          try clear c18
          try clear c18b0
          try clear c18b1
          try clear c18b2
          try clear c19
          try clear c19b0
          try clear c19b1
          try clear c19b2
          try clear p2
          obtain ⟨kq, x59_13, rfl, HA, HJ13, HO_9, HO_10, HO_11, HB⟩ := hcut
          cases kq with
          | zero => exact absurd HA.out (by simp [switchboardlaw14_SlotsMore.j1])
          | succ kj13 =>
            have H := HA.out
            clear HA
            simp only [switchboardlaw14_SlotsMore.j1] at H
            by_cases c26 : x59_13 = true
            · subst c26
              have H1 : (some false) = some true := by rw [if_pos rfl] at H; exact H
              clear H
              have H := H1
              clear H1
              exact absurd H (by simp)
            · replace c26 := Bool.eq_false_iff.mpr c26
              subst c26
              have H1 : (switchboardlaw14_SlotsMore.l0 kj13 l0 a1 t141 t144 t147 (t141.length : Int) 0) = some true := by rw [if_neg (show ¬ (false = true) by decide)] at H; exact H
              clear H
              have H := H1
              clear H1
              have H' := Aside0.mk H
              clear H
              obtain ⟨Ao27, co27, eo27⟩ := Kd.R_slice HO_9.out
              subst eo27
              go_wp2
              repeat (go_quiet (fail); try go_wp2)
              go_loopg [62] kj13 (fun kq v62 w' => ∃ (x62_3 : Int), v62 = .int .i64 x62_3 ∧ Aside0 (switchboardlaw14_SlotsMore.l0 kq l0 a1 t141 t144 t147 (t141.length : Int) x62_3 = some true) ∧ Aside0 (kq ≤ kj13) ∧ Aside0 (Kd.R k25 25 w' w.heap.size (fun k_ => some k_ ≠ (v145 : Value).ownBlock ∧ some k_ ≠ (v148 : Value).ownBlock) (.slice Ao27 t141.length co27) t141) ∧ Aside0 (Kd.R k25 25 w' w.heap.size (fun k_ => some k_ ≠ ((.slice Ao27 t141.length co27) : Value).ownBlock ∧ some k_ ≠ (v148 : Value).ownBlock) v145 t144) ∧ Aside0 (Kd.R k25 25 w' w.heap.size (fun k_ => some k_ ≠ ((.slice Ao27 t141.length co27) : Value).ownBlock ∧ some k_ ≠ (v145 : Value).ownBlock) v148 t147) ∧ Aside0 (Below w.heap.size w w'))
              case atStart => exact ⟨(0), (by first | rfl | (simp; done) | (simp [*]; done)), H', ⟨Nat.le_refl _⟩, ⟨by (with_reducible repeat (first | apply Kd.R_alloc | apply Kd.R_drewN | apply Kd.R_drew)); exact HO_9.out⟩, ⟨by (with_reducible repeat (first | apply Kd.R_alloc | apply Kd.R_drewN | apply Kd.R_drew)); exact HO_10.out⟩, ⟨by (with_reducible repeat (first | apply Kd.R_alloc | apply Kd.R_drewN | apply Kd.R_drew)); exact HO_11.out⟩, ⟨by repeat (first | (with_reducible first | exact HB.out | apply below_alloc | apply pw_below_drewN | apply below_drew1) | exact HB.out)⟩⟩
              case round =>
                clear H'
                try clear c1
                try clear c2
                try clear p2
                try clear c5
                try clear c6
                try clear c6b0
                try clear c6b1
                try clear p6
                try clear c7
                try clear c7b0
                try clear c8
                try clear c18
                try clear c18b0
                try clear c18b1
                try clear c18b2
                try clear c19
                try clear c19b0
                try clear c19b1
                try clear c19b2
                try clear c26
                try clear p2
                try clear p6
                obtain ⟨x62_3, rfl, HA, HK3, HO_9, HO_10, HO_11, HB⟩ := hrel
                cases gk with
                | zero => exact absurd HA.out (by simp [switchboardlaw14_SlotsMore.l0])
                | succ k3 =>
                  have H := HA.out
                  clear HA
                  simp only [switchboardlaw14_SlotsMore.l0] at H
                  by_cases c28 : x62_3 < (t141.length : Int)
                  · rw [if_pos c28] at H
                    have c28b0 : decide (x62_3 < (t141.length : Int)) = true := decide_eq_true c28
                    clear c28
                    have H' := Aside0.mk H
                    clear H
                    go_wp2
                    repeat (go_quiet (fail); try go_wp2)
                    go_loopg [65] k3 (fun kq v65 w' => ∃ (x65_4 : Int), v65 = .int .i64 x65_4 ∧ Aside0 (switchboardlaw14_SlotsMore.l1 kq l0 a1 t141 t144 t147 x62_3 (t141.length : Int) x62_3 x65_4 = some true) ∧ Aside0 (kq ≤ k3) ∧ Aside0 (Kd.R k25 25 w' w.heap.size (fun k_ => some k_ ≠ (v145 : Value).ownBlock ∧ some k_ ≠ (v148 : Value).ownBlock) (.slice Ao27 t141.length co27) t141) ∧ Aside0 (Kd.R k25 25 w' w.heap.size (fun k_ => some k_ ≠ ((.slice Ao27 t141.length co27) : Value).ownBlock ∧ some k_ ≠ (v148 : Value).ownBlock) v145 t144) ∧ Aside0 (Kd.R k25 25 w' w.heap.size (fun k_ => some k_ ≠ ((.slice Ao27 t141.length co27) : Value).ownBlock ∧ some k_ ≠ (v145 : Value).ownBlock) v148 t147) ∧ Aside0 (Below w.heap.size w w'))
                    case atStart => exact ⟨(0), (by first | rfl | (simp; done) | (simp [*]; done)), H', ⟨Nat.le_refl _⟩, ⟨by (with_reducible repeat (first | apply Kd.R_alloc | apply Kd.R_drewN | apply Kd.R_drew)); exact HO_9.out⟩, ⟨by (with_reducible repeat (first | apply Kd.R_alloc | apply Kd.R_drewN | apply Kd.R_drew)); exact HO_10.out⟩, ⟨by (with_reducible repeat (first | apply Kd.R_alloc | apply Kd.R_drewN | apply Kd.R_drew)); exact HO_11.out⟩, ⟨by repeat (first | (with_reducible first | exact HB.out | apply below_alloc | apply pw_below_drewN | apply below_drew1) | exact HB.out)⟩⟩
                    case round =>
                      clear H'
                      try clear c1
                      try clear c2
                      try clear p2
                      try clear c5
                      try clear c6
                      try clear c6b0
                      try clear c6b1
                      try clear p6
                      try clear c7
                      try clear c7b0
                      try clear c8
                      try clear c18
                      try clear c18b0
                      try clear c18b1
                      try clear c18b2
                      try clear c19
                      try clear c19b0
                      try clear c19b1
                      try clear c19b2
                      try clear c26
                      try clear c28
                      try clear c28b0
                      try clear p2
                      try clear p6
                      obtain ⟨x65_4, rfl, HA, HK4, HO_9, HO_10, HO_11, HB⟩ := hrel
                      cases gk with
                      | zero => exact absurd HA.out (by simp [switchboardlaw14_SlotsMore.l1])
                      | succ k4 =>
                        have H := HA.out
                        clear HA
                        simp only [switchboardlaw14_SlotsMore.l1] at H
                        by_cases c29 : x65_4 < 2
                        · rw [if_pos c29] at H
                          have c29b0 : decide (x65_4 < 2) = true := decide_eq_true c29
                          clear c29
                          by_cases c30 : 0 ≤ x62_3
                          · rw [if_pos c30] at H
                            have c30b0 : decide (0 ≤ x62_3) = true := decide_eq_true c30
                            clear c30
                            by_cases c31 : x62_3 < (l0.length : Int)
                            · rw [if_pos c31] at H
                              have c31b0 : decide (x62_3 < (l0.length : Int)) = true := decide_eq_true c31
                              clear c31
                              by_cases c32 : 0 ≤ x65_4
                              · rw [if_pos c32] at H
                                have c32b0 : decide (0 ≤ x65_4) = true := decide_eq_true c32
                                clear c32
                                by_cases c34 : x62_3 < (t141.length : Int)
                                · rw [if_pos c34] at H
                                  have c34b0 : decide (x62_3 < (t141.length : Int)) = true := decide_eq_true c34
                                  clear c34
                                  by_cases c36 : (pick2 ((rd_T25 t141 x62_3).f0) ((rd_T25 t141 x62_3).f1) x65_4) ≥ 0
                                  · rw [if_pos c36] at H
                                    have c36b0 : decide (0 ≤ (pick2 ((rd_T25 t141 x62_3).f0) ((rd_T25 t141 x62_3).f1) x65_4)) = true := decide_eq_true c36
                                    clear c36
                                    by_cases c37 : x62_3 < (t144.length : Int)
                                    · rw [if_pos c37] at H
                                      have c37b0 : decide (x62_3 < (t144.length : Int)) = true := decide_eq_true c37
                                      clear c37
                                      by_cases c40 : (pick2 ((rd_T25 t144 x62_3).f0) ((rd_T25 t144 x62_3).f1) x65_4) = (pick2 ((rd_T25 t141 x62_3).f0) ((rd_T25 t141 x62_3).f1) x65_4)
                                      · rw [if_pos c40] at H
                                        have c40b0 : ((pick2 ((rd_T25 t144 x62_3).f0) ((rd_T25 t144 x62_3).f1) x65_4) == (pick2 ((rd_T25 t141 x62_3).f0) ((rd_T25 t141 x62_3).f1) x65_4)) = true := beq_iff_eq.mpr c40
                                        have c40b1 : ((pick2 ((rd_T25 t144 x62_3).f0) ((rd_T25 t144 x62_3).f1) x65_4) != (pick2 ((rd_T25 t141 x62_3).f0) ((rd_T25 t141 x62_3).f1) x65_4)) = false := bne_eq_false_iff_eq.mpr c40
                                        clear c40
                                        by_cases c41 : x62_3 < (t147.length : Int)
                                        · rw [if_pos c41] at H
                                          have c41b0 : decide (x62_3 < (t147.length : Int)) = true := decide_eq_true c41
                                          clear c41
                                          by_cases c43 : (pick2 ((rd_T25 l0 x62_3).f0) ((rd_T25 l0 x62_3).f1) x65_4) ≥ 0
                                          · rw [if_pos c43] at H
                                            have c43b0 : decide (0 ≤ (pick2 ((rd_T25 l0 x62_3).f0) ((rd_T25 l0 x62_3).f1) x65_4)) = true := decide_eq_true c43
                                            clear c43
                                            by_cases c44 : ((decide ((pick2 ((rd_T25 t147 x62_3).f0) ((rd_T25 t147 x62_3).f1) x65_4) ≥ 0)) != (decide ((pick2 ((rd_T25 l0 x62_3).f0) ((rd_T25 l0 x62_3).f1) x65_4) < a1))) = true
                                            · rw [if_pos c44] at H
                                              have c44b0 : ((decide ((pick2 ((rd_T25 t147 x62_3).f0) ((rd_T25 t147 x62_3).f1) x65_4) ≥ 0)) != (decide ((pick2 ((rd_T25 l0 x62_3).f0) ((rd_T25 l0 x62_3).f1) x65_4) < a1))) = true := c44
                                              (try (have c44b1 : decide ((decide ((pick2 ((rd_T25 t147 x62_3).f0) ((rd_T25 t147 x62_3).f1) x65_4) ≥ 0)) = (decide ((pick2 ((rd_T25 l0 x62_3).f0) ((rd_T25 l0 x62_3).f1) x65_4) < a1))) = false := by simpa using c44))
                                              (try (have c44b2 : ((decide ((pick2 ((rd_T25 t147 x62_3).f0) ((rd_T25 t147 x62_3).f1) x65_4) ≥ 0)) == (decide ((pick2 ((rd_T25 l0 x62_3).f0) ((rd_T25 l0 x62_3).f1) x65_4) < a1))) = false := by simpa using c44))
                                              (try (have c44b3 : ¬ ((decide ((pick2 ((rd_T25 t147 x62_3).f0) ((rd_T25 t147 x62_3).f1) x65_4) ≥ 0)) = (decide ((pick2 ((rd_T25 l0 x62_3).f0) ((rd_T25 l0 x62_3).f1) x65_4) < a1))) := by simpa using c44))
                                              clear c44
                                              exact absurd H (by simp)
                                            · rw [if_neg c44] at H
                                              have c44b0 : ((decide ((pick2 ((rd_T25 t147 x62_3).f0) ((rd_T25 t147 x62_3).f1) x65_4) ≥ 0)) != (decide ((pick2 ((rd_T25 l0 x62_3).f0) ((rd_T25 l0 x62_3).f1) x65_4) < a1))) = false := by simpa using c44
                                              (try (have c44b1 : decide ((decide ((pick2 ((rd_T25 t147 x62_3).f0) ((rd_T25 t147 x62_3).f1) x65_4) ≥ 0)) = (decide ((pick2 ((rd_T25 l0 x62_3).f0) ((rd_T25 l0 x62_3).f1) x65_4) < a1))) = true := by simpa using c44))
                                              (try (have c44b2 : ((decide ((pick2 ((rd_T25 t147 x62_3).f0) ((rd_T25 t147 x62_3).f1) x65_4) ≥ 0)) == (decide ((pick2 ((rd_T25 l0 x62_3).f0) ((rd_T25 l0 x62_3).f1) x65_4) < a1))) = true := by simpa using c44))
                                              clear c44
                                              have H' := Aside0.mk H
                                              clear H
                                              have p151 : 0 ≤ (x62_3 : Int) := of_decide_eq_true (by first | (with_reducible assumption) | assumption)
                                              have q151 : x62_3 < (l0.length : Int) := of_decide_eq_true (by first | (with_reducible assumption) | assumption)
                                              obtain ⟨ad151, e151, hx151_0, hx151_1⟩ := at_T25 HR0.out x62_3 p151 q151
                                              cases e151
                                              replace hx151_0 := (HB.out.cell (World.block_lt_of_cell? w _ hx151_0)).trans hx151_0
                                              replace hx151_1 := (HB.out.cell (World.block_lt_of_cell? w _ hx151_1)).trans hx151_1
                                              replace p151 := eq_true p151
                                              replace q151 := eq_true q151
                                              have p33 : 0 ≤ (x65_4 : Int) := of_decide_eq_true (by first | (with_reducible assumption) | assumption)
                                              have q33 : x65_4 < 2 := of_decide_eq_true (by first | (with_reducible assumption) | assumption)
                                              have hx33 := pick2_cell hx151_0 hx151_1 x65_4 p33 q33
                                              replace p33 := eq_true p33
                                              replace q33 := eq_true q33
                                              have p152 : 0 ≤ (x62_3 : Int) := of_decide_eq_true (by first | (with_reducible assumption) | assumption)
                                              have q152 : x62_3 < (t141.length : Int) := of_decide_eq_true (by first | (with_reducible assumption) | assumption)
                                              obtain ⟨ad152, e152, hx152_0, hx152_1⟩ := at_T25 (Kd.R_reads' HO_9.out).2.2 x62_3 p152 q152
                                              cases e152
                                              replace p152 := eq_true p152
                                              replace q152 := eq_true q152
                                              have p35 : 0 ≤ (x65_4 : Int) := of_decide_eq_true (by first | (with_reducible assumption) | assumption)
                                              have q35 : x65_4 < 2 := of_decide_eq_true (by first | (with_reducible assumption) | assumption)
                                              have hx35 := pick2_cell hx152_0 hx152_1 x65_4 p35 q35
                                              replace p35 := eq_true p35
                                              replace q35 := eq_true q35
                                              obtain ⟨Ao45, co45, eo45⟩ := Kd.R_slice HO_10.out
                                              subst eo45
                                              have p153 : 0 ≤ (x62_3 : Int) := of_decide_eq_true (by first | (with_reducible assumption) | assumption)
                                              have q153 : x62_3 < (t144.length : Int) := of_decide_eq_true (by first | (with_reducible assumption) | assumption)
                                              obtain ⟨ad153, e153, hx153_0, hx153_1⟩ := at_T25 (Kd.R_reads' HO_10.out).2.2 x62_3 p153 q153
                                              cases e153
                                              replace p153 := eq_true p153
                                              replace q153 := eq_true q153
                                              have p38 : 0 ≤ (x65_4 : Int) := of_decide_eq_true (by first | (with_reducible assumption) | assumption)
                                              have q38 : x65_4 < 2 := of_decide_eq_true (by first | (with_reducible assumption) | assumption)
                                              have hx38 := pick2_cell hx153_0 hx153_1 x65_4 p38 q38
                                              replace p38 := eq_true p38
                                              replace q38 := eq_true q38
                                              have p154 : 0 ≤ (x62_3 : Int) := of_decide_eq_true (by first | (with_reducible assumption) | assumption)
                                              have q154 : x62_3 < (t141.length : Int) := of_decide_eq_true (by first | (with_reducible assumption) | assumption)
                                              obtain ⟨ad154, e154, hx154_0, hx154_1⟩ := at_T25 (Kd.R_reads' HO_9.out).2.2 x62_3 p154 q154
                                              obtain rfl : ad152 = ad154 := (by injection e154)
                                              replace p154 := eq_true p154
                                              replace q154 := eq_true q154
                                              have p39 : 0 ≤ (x65_4 : Int) := of_decide_eq_true (by first | (with_reducible assumption) | assumption)
                                              have q39 : x65_4 < 2 := of_decide_eq_true (by first | (with_reducible assumption) | assumption)
                                              have hx39 := pick2_cell hx154_0 hx154_1 x65_4 p39 q39
                                              replace p39 := eq_true p39
                                              replace q39 := eq_true q39
                                              obtain ⟨Ao46, co46, eo46⟩ := Kd.R_slice HO_11.out
                                              subst eo46
                                              have p155 : 0 ≤ (x62_3 : Int) := of_decide_eq_true (by first | (with_reducible assumption) | assumption)
                                              have q155 : x62_3 < (t147.length : Int) := of_decide_eq_true (by first | (with_reducible assumption) | assumption)
                                              obtain ⟨ad155, e155, hx155_0, hx155_1⟩ := at_T25 (Kd.R_reads' HO_11.out).2.2 x62_3 p155 q155
                                              cases e155
                                              replace p155 := eq_true p155
                                              replace q155 := eq_true q155
                                              have p42 : 0 ≤ (x65_4 : Int) := of_decide_eq_true (by first | (with_reducible assumption) | assumption)
                                              have q42 : x65_4 < 2 := of_decide_eq_true (by first | (with_reducible assumption) | assumption)
                                              have hx42 := pick2_cell hx155_0 hx155_1 x65_4 p42 q42
                                              replace p42 := eq_true p42
                                              replace q42 := eq_true q42
                                              go_wp2
                                              repeat (go_quiet (fail); try go_wp2)
                                              go_roundg k4
                                              case measure => have := HJ4.out; have := HJ13.out; have := HK3.out; have := HK4.out; omega
                                              case rel => exact ⟨(wrap64 (x65_4 + 1)), (by first | rfl | (simp; done) | (simp [*]; done)), H', ⟨by have := HJ4.out; have := HJ13.out; have := HK3.out; have := HK4.out; omega⟩, ⟨by (with_reducible repeat (first | apply Kd.R_alloc | apply Kd.R_drewN | apply Kd.R_drew)); exact HO_9.out⟩, ⟨by (with_reducible repeat (first | apply Kd.R_alloc | apply Kd.R_drewN | apply Kd.R_drew)); exact HO_10.out⟩, ⟨by (with_reducible repeat (first | apply Kd.R_alloc | apply Kd.R_drewN | apply Kd.R_drew)); exact HO_11.out⟩, ⟨by repeat (first | (with_reducible first | exact HB.out | apply below_alloc | apply pw_below_drewN | apply below_drew1) | exact HB.out)⟩⟩
                                          · rw [if_neg c43] at H
                                            have c43b0 : decide (0 ≤ (pick2 ((rd_T25 l0 x62_3).f0) ((rd_T25 l0 x62_3).f1) x65_4)) = false := decide_eq_false c43
                                            clear c43
                                            by_cases c47 : ((decide ((pick2 ((rd_T25 t147 x62_3).f0) ((rd_T25 t147 x62_3).f1) x65_4) ≥ 0)) != false) = true
                                            · rw [if_pos c47] at H
                                              have c47b0 : ((decide ((pick2 ((rd_T25 t147 x62_3).f0) ((rd_T25 t147 x62_3).f1) x65_4) ≥ 0)) != false) = true := c47
                                              (try (have c47b1 : decide ((decide ((pick2 ((rd_T25 t147 x62_3).f0) ((rd_T25 t147 x62_3).f1) x65_4) ≥ 0)) = false) = false := by simpa using c47))
                                              (try (have c47b2 : ((decide ((pick2 ((rd_T25 t147 x62_3).f0) ((rd_T25 t147 x62_3).f1) x65_4) ≥ 0)) == false) = false := by simpa using c47))
                                              (try (have c47b3 : ¬ ((decide ((pick2 ((rd_T25 t147 x62_3).f0) ((rd_T25 t147 x62_3).f1) x65_4) ≥ 0)) = false) := by simpa using c47))
                                              clear c47
                                              exact absurd H (by simp)
                                            · rw [if_neg c47] at H
                                              have c47b0 : ((decide ((pick2 ((rd_T25 t147 x62_3).f0) ((rd_T25 t147 x62_3).f1) x65_4) ≥ 0)) != false) = false := by simpa using c47
                                              (try (have c47b1 : decide ((decide ((pick2 ((rd_T25 t147 x62_3).f0) ((rd_T25 t147 x62_3).f1) x65_4) ≥ 0)) = false) = true := by simpa using c47))
                                              (try (have c47b2 : ((decide ((pick2 ((rd_T25 t147 x62_3).f0) ((rd_T25 t147 x62_3).f1) x65_4) ≥ 0)) == false) = true := by simpa using c47))
                                              clear c47
                                              have H' := Aside0.mk H
                                              clear H
                                              have p151 : 0 ≤ (x62_3 : Int) := of_decide_eq_true (by first | (with_reducible assumption) | assumption)
                                              have q151 : x62_3 < (l0.length : Int) := of_decide_eq_true (by first | (with_reducible assumption) | assumption)
                                              obtain ⟨ad151, e151, hx151_0, hx151_1⟩ := at_T25 HR0.out x62_3 p151 q151
                                              cases e151
                                              replace hx151_0 := (HB.out.cell (World.block_lt_of_cell? w _ hx151_0)).trans hx151_0
                                              replace hx151_1 := (HB.out.cell (World.block_lt_of_cell? w _ hx151_1)).trans hx151_1
                                              replace p151 := eq_true p151
                                              replace q151 := eq_true q151
                                              have p33 : 0 ≤ (x65_4 : Int) := of_decide_eq_true (by first | (with_reducible assumption) | assumption)
                                              have q33 : x65_4 < 2 := of_decide_eq_true (by first | (with_reducible assumption) | assumption)
                                              have hx33 := pick2_cell hx151_0 hx151_1 x65_4 p33 q33
                                              replace p33 := eq_true p33
                                              replace q33 := eq_true q33
                                              have p152 : 0 ≤ (x62_3 : Int) := of_decide_eq_true (by first | (with_reducible assumption) | assumption)
                                              have q152 : x62_3 < (t141.length : Int) := of_decide_eq_true (by first | (with_reducible assumption) | assumption)
                                              obtain ⟨ad152, e152, hx152_0, hx152_1⟩ := at_T25 (Kd.R_reads' HO_9.out).2.2 x62_3 p152 q152
                                              cases e152
                                              replace p152 := eq_true p152
                                              replace q152 := eq_true q152
                                              have p35 : 0 ≤ (x65_4 : Int) := of_decide_eq_true (by first | (with_reducible assumption) | assumption)
                                              have q35 : x65_4 < 2 := of_decide_eq_true (by first | (with_reducible assumption) | assumption)
                                              have hx35 := pick2_cell hx152_0 hx152_1 x65_4 p35 q35
                                              replace p35 := eq_true p35
                                              replace q35 := eq_true q35
                                              obtain ⟨Ao48, co48, eo48⟩ := Kd.R_slice HO_10.out
                                              subst eo48
                                              have p153 : 0 ≤ (x62_3 : Int) := of_decide_eq_true (by first | (with_reducible assumption) | assumption)
                                              have q153 : x62_3 < (t144.length : Int) := of_decide_eq_true (by first | (with_reducible assumption) | assumption)
                                              obtain ⟨ad153, e153, hx153_0, hx153_1⟩ := at_T25 (Kd.R_reads' HO_10.out).2.2 x62_3 p153 q153
                                              cases e153
                                              replace p153 := eq_true p153
                                              replace q153 := eq_true q153
                                              have p38 : 0 ≤ (x65_4 : Int) := of_decide_eq_true (by first | (with_reducible assumption) | assumption)
                                              have q38 : x65_4 < 2 := of_decide_eq_true (by first | (with_reducible assumption) | assumption)
                                              have hx38 := pick2_cell hx153_0 hx153_1 x65_4 p38 q38
                                              replace p38 := eq_true p38
                                              replace q38 := eq_true q38
                                              have p154 : 0 ≤ (x62_3 : Int) := of_decide_eq_true (by first | (with_reducible assumption) | assumption)
                                              have q154 : x62_3 < (t141.length : Int) := of_decide_eq_true (by first | (with_reducible assumption) | assumption)
                                              obtain ⟨ad154, e154, hx154_0, hx154_1⟩ := at_T25 (Kd.R_reads' HO_9.out).2.2 x62_3 p154 q154
                                              obtain rfl : ad152 = ad154 := (by injection e154)
                                              replace p154 := eq_true p154
                                              replace q154 := eq_true q154
                                              have p39 : 0 ≤ (x65_4 : Int) := of_decide_eq_true (by first | (with_reducible assumption) | assumption)
                                              have q39 : x65_4 < 2 := of_decide_eq_true (by first | (with_reducible assumption) | assumption)
                                              have hx39 := pick2_cell hx154_0 hx154_1 x65_4 p39 q39
                                              replace p39 := eq_true p39
                                              replace q39 := eq_true q39
                                              obtain ⟨Ao49, co49, eo49⟩ := Kd.R_slice HO_11.out
                                              subst eo49
                                              have p155 : 0 ≤ (x62_3 : Int) := of_decide_eq_true (by first | (with_reducible assumption) | assumption)
                                              have q155 : x62_3 < (t147.length : Int) := of_decide_eq_true (by first | (with_reducible assumption) | assumption)
                                              obtain ⟨ad155, e155, hx155_0, hx155_1⟩ := at_T25 (Kd.R_reads' HO_11.out).2.2 x62_3 p155 q155
                                              cases e155
                                              replace p155 := eq_true p155
                                              replace q155 := eq_true q155
                                              have p42 : 0 ≤ (x65_4 : Int) := of_decide_eq_true (by first | (with_reducible assumption) | assumption)
                                              have q42 : x65_4 < 2 := of_decide_eq_true (by first | (with_reducible assumption) | assumption)
                                              have hx42 := pick2_cell hx155_0 hx155_1 x65_4 p42 q42
                                              replace p42 := eq_true p42
                                              replace q42 := eq_true q42
                                              go_wp2
                                              repeat (go_quiet (fail); try go_wp2)
                                              go_roundg k4
                                              case measure => have := HJ4.out; have := HJ13.out; have := HK3.out; have := HK4.out; omega
                                              case rel => exact ⟨(wrap64 (x65_4 + 1)), (by first | rfl | (simp; done) | (simp [*]; done)), H', ⟨by have := HJ4.out; have := HJ13.out; have := HK3.out; have := HK4.out; omega⟩, ⟨by (with_reducible repeat (first | apply Kd.R_alloc | apply Kd.R_drewN | apply Kd.R_drew)); exact HO_9.out⟩, ⟨by (with_reducible repeat (first | apply Kd.R_alloc | apply Kd.R_drewN | apply Kd.R_drew)); exact HO_10.out⟩, ⟨by (with_reducible repeat (first | apply Kd.R_alloc | apply Kd.R_drewN | apply Kd.R_drew)); exact HO_11.out⟩, ⟨by repeat (first | (with_reducible first | exact HB.out | apply below_alloc | apply pw_below_drewN | apply below_drew1) | exact HB.out)⟩⟩
                                        · rw [if_neg c41] at H
                                          exact absurd H (by simp)
                                      · rw [if_neg c40] at H
                                        have c40b0 : ((pick2 ((rd_T25 t144 x62_3).f0) ((rd_T25 t144 x62_3).f1) x65_4) == (pick2 ((rd_T25 t141 x62_3).f0) ((rd_T25 t141 x62_3).f1) x65_4)) = false := beq_eq_false_iff_ne.mpr c40
                                        have c40b1 : ((pick2 ((rd_T25 t144 x62_3).f0) ((rd_T25 t144 x62_3).f1) x65_4) != (pick2 ((rd_T25 t141 x62_3).f0) ((rd_T25 t141 x62_3).f1) x65_4)) = true := bne_iff_ne.mpr c40
                                        exact absurd H (by simp)
                                    · rw [if_neg c37] at H
                                      exact absurd H (by simp)
                                  · rw [if_neg c36] at H
                                    have c36b0 : decide (0 ≤ (pick2 ((rd_T25 t141 x62_3).f0) ((rd_T25 t141 x62_3).f1) x65_4)) = false := decide_eq_false c36
                                    clear c36
                                    by_cases c50 : x62_3 < (t147.length : Int)
                                    · rw [if_pos c50] at H
                                      have c50b0 : decide (x62_3 < (t147.length : Int)) = true := decide_eq_true c50
                                      clear c50
                                      by_cases c52 : (pick2 ((rd_T25 l0 x62_3).f0) ((rd_T25 l0 x62_3).f1) x65_4) ≥ 0
                                      · rw [if_pos c52] at H
                                        have c52b0 : decide (0 ≤ (pick2 ((rd_T25 l0 x62_3).f0) ((rd_T25 l0 x62_3).f1) x65_4)) = true := decide_eq_true c52
                                        clear c52
                                        by_cases c53 : ((decide ((pick2 ((rd_T25 t147 x62_3).f0) ((rd_T25 t147 x62_3).f1) x65_4) ≥ 0)) != (decide ((pick2 ((rd_T25 l0 x62_3).f0) ((rd_T25 l0 x62_3).f1) x65_4) < a1))) = true
                                        · rw [if_pos c53] at H
                                          have c53b0 : ((decide ((pick2 ((rd_T25 t147 x62_3).f0) ((rd_T25 t147 x62_3).f1) x65_4) ≥ 0)) != (decide ((pick2 ((rd_T25 l0 x62_3).f0) ((rd_T25 l0 x62_3).f1) x65_4) < a1))) = true := c53
                                          (try (have c53b1 : decide ((decide ((pick2 ((rd_T25 t147 x62_3).f0) ((rd_T25 t147 x62_3).f1) x65_4) ≥ 0)) = (decide ((pick2 ((rd_T25 l0 x62_3).f0) ((rd_T25 l0 x62_3).f1) x65_4) < a1))) = false := by simpa using c53))
                                          (try (have c53b2 : ((decide ((pick2 ((rd_T25 t147 x62_3).f0) ((rd_T25 t147 x62_3).f1) x65_4) ≥ 0)) == (decide ((pick2 ((rd_T25 l0 x62_3).f0) ((rd_T25 l0 x62_3).f1) x65_4) < a1))) = false := by simpa using c53))
                                          (try (have c53b3 : ¬ ((decide ((pick2 ((rd_T25 t147 x62_3).f0) ((rd_T25 t147 x62_3).f1) x65_4) ≥ 0)) = (decide ((pick2 ((rd_T25 l0 x62_3).f0) ((rd_T25 l0 x62_3).f1) x65_4) < a1))) := by simpa using c53))
                                          clear c53
                                          exact absurd H (by simp)
                                        · rw [if_neg c53] at H
                                          have c53b0 : ((decide ((pick2 ((rd_T25 t147 x62_3).f0) ((rd_T25 t147 x62_3).f1) x65_4) ≥ 0)) != (decide ((pick2 ((rd_T25 l0 x62_3).f0) ((rd_T25 l0 x62_3).f1) x65_4) < a1))) = false := by simpa using c53
                                          (try (have c53b1 : decide ((decide ((pick2 ((rd_T25 t147 x62_3).f0) ((rd_T25 t147 x62_3).f1) x65_4) ≥ 0)) = (decide ((pick2 ((rd_T25 l0 x62_3).f0) ((rd_T25 l0 x62_3).f1) x65_4) < a1))) = true := by simpa using c53))
                                          (try (have c53b2 : ((decide ((pick2 ((rd_T25 t147 x62_3).f0) ((rd_T25 t147 x62_3).f1) x65_4) ≥ 0)) == (decide ((pick2 ((rd_T25 l0 x62_3).f0) ((rd_T25 l0 x62_3).f1) x65_4) < a1))) = true := by simpa using c53))
                                          clear c53
                                          have H' := Aside0.mk H
                                          clear H
                                          have p151 : 0 ≤ (x62_3 : Int) := of_decide_eq_true (by first | (with_reducible assumption) | assumption)
                                          have q151 : x62_3 < (l0.length : Int) := of_decide_eq_true (by first | (with_reducible assumption) | assumption)
                                          obtain ⟨ad151, e151, hx151_0, hx151_1⟩ := at_T25 HR0.out x62_3 p151 q151
                                          cases e151
                                          replace hx151_0 := (HB.out.cell (World.block_lt_of_cell? w _ hx151_0)).trans hx151_0
                                          replace hx151_1 := (HB.out.cell (World.block_lt_of_cell? w _ hx151_1)).trans hx151_1
                                          replace p151 := eq_true p151
                                          replace q151 := eq_true q151
                                          have p33 : 0 ≤ (x65_4 : Int) := of_decide_eq_true (by first | (with_reducible assumption) | assumption)
                                          have q33 : x65_4 < 2 := of_decide_eq_true (by first | (with_reducible assumption) | assumption)
                                          have hx33 := pick2_cell hx151_0 hx151_1 x65_4 p33 q33
                                          replace p33 := eq_true p33
                                          replace q33 := eq_true q33
                                          have p152 : 0 ≤ (x62_3 : Int) := of_decide_eq_true (by first | (with_reducible assumption) | assumption)
                                          have q152 : x62_3 < (t141.length : Int) := of_decide_eq_true (by first | (with_reducible assumption) | assumption)
                                          obtain ⟨ad152, e152, hx152_0, hx152_1⟩ := at_T25 (Kd.R_reads' HO_9.out).2.2 x62_3 p152 q152
                                          cases e152
                                          replace p152 := eq_true p152
                                          replace q152 := eq_true q152
                                          have p35 : 0 ≤ (x65_4 : Int) := of_decide_eq_true (by first | (with_reducible assumption) | assumption)
                                          have q35 : x65_4 < 2 := of_decide_eq_true (by first | (with_reducible assumption) | assumption)
                                          have hx35 := pick2_cell hx152_0 hx152_1 x65_4 p35 q35
                                          replace p35 := eq_true p35
                                          replace q35 := eq_true q35
                                          obtain ⟨Ao54, co54, eo54⟩ := Kd.R_slice HO_11.out
                                          subst eo54
                                          have p156 : 0 ≤ (x62_3 : Int) := of_decide_eq_true (by first | (with_reducible assumption) | assumption)
                                          have q156 : x62_3 < (t147.length : Int) := of_decide_eq_true (by first | (with_reducible assumption) | assumption)
                                          obtain ⟨ad156, e156, hx156_0, hx156_1⟩ := at_T25 (Kd.R_reads' HO_11.out).2.2 x62_3 p156 q156
                                          cases e156
                                          replace p156 := eq_true p156
                                          replace q156 := eq_true q156
                                          have p51 : 0 ≤ (x65_4 : Int) := of_decide_eq_true (by first | (with_reducible assumption) | assumption)
                                          have q51 : x65_4 < 2 := of_decide_eq_true (by first | (with_reducible assumption) | assumption)
                                          have hx51 := pick2_cell hx156_0 hx156_1 x65_4 p51 q51
                                          replace p51 := eq_true p51
                                          replace q51 := eq_true q51
                                          go_wp2
                                          repeat (go_quiet (fail); try go_wp2)
                                          go_roundg k4
                                          case measure => have := HJ4.out; have := HJ13.out; have := HK3.out; have := HK4.out; omega
                                          case rel => exact ⟨(wrap64 (x65_4 + 1)), (by first | rfl | (simp; done) | (simp [*]; done)), H', ⟨by have := HJ4.out; have := HJ13.out; have := HK3.out; have := HK4.out; omega⟩, ⟨by (with_reducible repeat (first | apply Kd.R_alloc | apply Kd.R_drewN | apply Kd.R_drew)); exact HO_9.out⟩, ⟨by (with_reducible repeat (first | apply Kd.R_alloc | apply Kd.R_drewN | apply Kd.R_drew)); exact HO_10.out⟩, ⟨by (with_reducible repeat (first | apply Kd.R_alloc | apply Kd.R_drewN | apply Kd.R_drew)); exact HO_11.out⟩, ⟨by repeat (first | (with_reducible first | exact HB.out | apply below_alloc | apply pw_below_drewN | apply below_drew1) | exact HB.out)⟩⟩
                                      · rw [if_neg c52] at H
                                        have c52b0 : decide (0 ≤ (pick2 ((rd_T25 l0 x62_3).f0) ((rd_T25 l0 x62_3).f1) x65_4)) = false := decide_eq_false c52
                                        clear c52
                                        by_cases c55 : ((decide ((pick2 ((rd_T25 t147 x62_3).f0) ((rd_T25 t147 x62_3).f1) x65_4) ≥ 0)) != false) = true
                                        · rw [if_pos c55] at H
                                          have c55b0 : ((decide ((pick2 ((rd_T25 t147 x62_3).f0) ((rd_T25 t147 x62_3).f1) x65_4) ≥ 0)) != false) = true := c55
                                          (try (have c55b1 : decide ((decide ((pick2 ((rd_T25 t147 x62_3).f0) ((rd_T25 t147 x62_3).f1) x65_4) ≥ 0)) = false) = false := by simpa using c55))
                                          (try (have c55b2 : ((decide ((pick2 ((rd_T25 t147 x62_3).f0) ((rd_T25 t147 x62_3).f1) x65_4) ≥ 0)) == false) = false := by simpa using c55))
                                          (try (have c55b3 : ¬ ((decide ((pick2 ((rd_T25 t147 x62_3).f0) ((rd_T25 t147 x62_3).f1) x65_4) ≥ 0)) = false) := by simpa using c55))
                                          clear c55
                                          exact absurd H (by simp)
                                        · rw [if_neg c55] at H
                                          have c55b0 : ((decide ((pick2 ((rd_T25 t147 x62_3).f0) ((rd_T25 t147 x62_3).f1) x65_4) ≥ 0)) != false) = false := by simpa using c55
                                          (try (have c55b1 : decide ((decide ((pick2 ((rd_T25 t147 x62_3).f0) ((rd_T25 t147 x62_3).f1) x65_4) ≥ 0)) = false) = true := by simpa using c55))
                                          (try (have c55b2 : ((decide ((pick2 ((rd_T25 t147 x62_3).f0) ((rd_T25 t147 x62_3).f1) x65_4) ≥ 0)) == false) = true := by simpa using c55))
                                          clear c55
                                          have H' := Aside0.mk H
                                          clear H
                                          have p151 : 0 ≤ (x62_3 : Int) := of_decide_eq_true (by first | (with_reducible assumption) | assumption)
                                          have q151 : x62_3 < (l0.length : Int) := of_decide_eq_true (by first | (with_reducible assumption) | assumption)
                                          obtain ⟨ad151, e151, hx151_0, hx151_1⟩ := at_T25 HR0.out x62_3 p151 q151
                                          cases e151
                                          replace hx151_0 := (HB.out.cell (World.block_lt_of_cell? w _ hx151_0)).trans hx151_0
                                          replace hx151_1 := (HB.out.cell (World.block_lt_of_cell? w _ hx151_1)).trans hx151_1
                                          replace p151 := eq_true p151
                                          replace q151 := eq_true q151
                                          have p33 : 0 ≤ (x65_4 : Int) := of_decide_eq_true (by first | (with_reducible assumption) | assumption)
                                          have q33 : x65_4 < 2 := of_decide_eq_true (by first | (with_reducible assumption) | assumption)
                                          have hx33 := pick2_cell hx151_0 hx151_1 x65_4 p33 q33
                                          replace p33 := eq_true p33
                                          replace q33 := eq_true q33
                                          have p152 : 0 ≤ (x62_3 : Int) := of_decide_eq_true (by first | (with_reducible assumption) | assumption)
                                          have q152 : x62_3 < (t141.length : Int) := of_decide_eq_true (by first | (with_reducible assumption) | assumption)
                                          obtain ⟨ad152, e152, hx152_0, hx152_1⟩ := at_T25 (Kd.R_reads' HO_9.out).2.2 x62_3 p152 q152
                                          cases e152
                                          replace p152 := eq_true p152
                                          replace q152 := eq_true q152
                                          have p35 : 0 ≤ (x65_4 : Int) := of_decide_eq_true (by first | (with_reducible assumption) | assumption)
                                          have q35 : x65_4 < 2 := of_decide_eq_true (by first | (with_reducible assumption) | assumption)
                                          have hx35 := pick2_cell hx152_0 hx152_1 x65_4 p35 q35
                                          replace p35 := eq_true p35
                                          replace q35 := eq_true q35
                                          obtain ⟨Ao56, co56, eo56⟩ := Kd.R_slice HO_11.out
                                          subst eo56
                                          have p156 : 0 ≤ (x62_3 : Int) := of_decide_eq_true (by first | (with_reducible assumption) | assumption)
                                          have q156 : x62_3 < (t147.length : Int) := of_decide_eq_true (by first | (with_reducible assumption) | assumption)
                                          obtain ⟨ad156, e156, hx156_0, hx156_1⟩ := at_T25 (Kd.R_reads' HO_11.out).2.2 x62_3 p156 q156
                                          cases e156
                                          replace p156 := eq_true p156
                                          replace q156 := eq_true q156
                                          have p51 : 0 ≤ (x65_4 : Int) := of_decide_eq_true (by first | (with_reducible assumption) | assumption)
                                          have q51 : x65_4 < 2 := of_decide_eq_true (by first | (with_reducible assumption) | assumption)
                                          have hx51 := pick2_cell hx156_0 hx156_1 x65_4 p51 q51
                                          replace p51 := eq_true p51
                                          replace q51 := eq_true q51
                                          go_wp2
                                          repeat (go_quiet (fail); try go_wp2)
                                          go_roundg k4
                                          case measure => have := HJ4.out; have := HJ13.out; have := HK3.out; have := HK4.out; omega
                                          case rel => exact ⟨(wrap64 (x65_4 + 1)), (by first | rfl | (simp; done) | (simp [*]; done)), H', ⟨by have := HJ4.out; have := HJ13.out; have := HK3.out; have := HK4.out; omega⟩, ⟨by (with_reducible repeat (first | apply Kd.R_alloc | apply Kd.R_drewN | apply Kd.R_drew)); exact HO_9.out⟩, ⟨by (with_reducible repeat (first | apply Kd.R_alloc | apply Kd.R_drewN | apply Kd.R_drew)); exact HO_10.out⟩, ⟨by (with_reducible repeat (first | apply Kd.R_alloc | apply Kd.R_drewN | apply Kd.R_drew)); exact HO_11.out⟩, ⟨by repeat (first | (with_reducible first | exact HB.out | apply below_alloc | apply pw_below_drewN | apply below_drew1) | exact HB.out)⟩⟩
                                    · rw [if_neg c50] at H
                                      exact absurd H (by simp)
                                · rw [if_neg c34] at H
                                  exact absurd H (by simp)
                              · rw [if_neg c32] at H
                                exact absurd H (by simp)
                            · rw [if_neg c31] at H
                              exact absurd H (by simp)
                          · rw [if_neg c30] at H
                            exact absurd H (by simp)
                        · rw [if_neg c29] at H
                          have c29b0 : decide (x65_4 < 2) = false := decide_eq_false c29
                          clear c29
                          have H' := Aside0.mk H
                          clear H
                          go_wp2
                          repeat (go_quiet (fail); try go_wp2)
                          go_roundg k4
                          case measure => have := HJ4.out; have := HJ13.out; have := HK3.out; have := HK4.out; omega
                          case rel => exact ⟨(wrap64 (x62_3 + 1)), (by first | rfl | (simp; done) | (simp [*]; done)), H', ⟨by have := HJ4.out; have := HJ13.out; have := HK3.out; have := HK4.out; omega⟩, ⟨by (with_reducible repeat (first | apply Kd.R_alloc | apply Kd.R_drewN | apply Kd.R_drew)); exact HO_9.out⟩, ⟨by (with_reducible repeat (first | apply Kd.R_alloc | apply Kd.R_drewN | apply Kd.R_drew)); exact HO_10.out⟩, ⟨by (with_reducible repeat (first | apply Kd.R_alloc | apply Kd.R_drewN | apply Kd.R_drew)); exact HO_11.out⟩, ⟨by repeat (first | (with_reducible first | exact HB.out | apply below_alloc | apply pw_below_drewN | apply below_drew1) | exact HB.out)⟩⟩
                  · rw [if_neg c28] at H
                    have c28b0 : decide (x62_3 < (t141.length : Int)) = false := decide_eq_false c28
                    clear c28
                    replace H := Option.bind_eq_some_iff.mp H
                    obtain ⟨t150, A570, H⟩ := H
                    replace H : (some t150) = some true := H
                    have A57 := Aside0.mk A570
                    clear A570
                    have hr_ := Aside0.mk (Option.some.inj H)
                    go_wp2_with (first | (go_at_call 7; (with_reducible refine (switchboardlaw14_awake.calls  t150 _ A57.out).mono ?_); rintro e w58 ⟨rfl, hb⟩; have n0_ := Aside0.mk (Kd.R_below (by (with_reducible repeat (first | apply Kd.R_alloc | apply Kd.R_drewN | apply Kd.R_drew)); exact HO_9.out) hb); have n1_ := Aside0.mk (Kd.R_below (by (with_reducible repeat (first | apply Kd.R_alloc | apply Kd.R_drewN | apply Kd.R_drew)); exact HO_10.out) hb); have n2_ := Aside0.mk (Kd.R_below (by (with_reducible repeat (first | apply Kd.R_alloc | apply Kd.R_drewN | apply Kd.R_drew)); exact HO_11.out) hb); have n3_ := Aside0.mk (below_step (by repeat (first | (with_reducible first | exact HB.out | apply below_alloc | apply pw_below_drewN | apply below_drew1) | exact HB.out)) hb); clear HO_9; clear HO_10; clear HO_11; clear HB; have HO_9 := n0_; have HO_10 := n1_; have HO_11 := n2_; have HB := n3_; clear n0_ n1_ n2_ n3_; (try clear hb); (try clear hb2); (try clear hk); (try clear hi)))
                    repeat (go_quiet (first | (go_at_call 7; (with_reducible refine (switchboardlaw14_awake.calls  t150 _ A57.out).mono ?_); rintro e w58 ⟨rfl, hb⟩; have n0_ := Aside0.mk (Kd.R_below (by (with_reducible repeat (first | apply Kd.R_alloc | apply Kd.R_drewN | apply Kd.R_drew)); exact HO_9.out) hb); have n1_ := Aside0.mk (Kd.R_below (by (with_reducible repeat (first | apply Kd.R_alloc | apply Kd.R_drewN | apply Kd.R_drew)); exact HO_10.out) hb); have n2_ := Aside0.mk (Kd.R_below (by (with_reducible repeat (first | apply Kd.R_alloc | apply Kd.R_drewN | apply Kd.R_drew)); exact HO_11.out) hb); have n3_ := Aside0.mk (below_step (by repeat (first | (with_reducible first | exact HB.out | apply below_alloc | apply pw_below_drewN | apply below_drew1) | exact HB.out)) hb); clear HO_9; clear HO_10; clear HO_11; clear HB; have HO_9 := n0_; have HO_10 := n1_; have HO_11 := n2_; have HB := n3_; clear n0_ n1_ n2_ n3_; (try clear hb); (try clear hb2); (try clear hk); (try clear hi))); try go_wp2_with (first | (go_at_call 7; (with_reducible refine (switchboardlaw14_awake.calls  t150 _ A57.out).mono ?_); rintro e w58 ⟨rfl, hb⟩; have n0_ := Aside0.mk (Kd.R_below (by (with_reducible repeat (first | apply Kd.R_alloc | apply Kd.R_drewN | apply Kd.R_drew)); exact HO_9.out) hb); have n1_ := Aside0.mk (Kd.R_below (by (with_reducible repeat (first | apply Kd.R_alloc | apply Kd.R_drewN | apply Kd.R_drew)); exact HO_10.out) hb); have n2_ := Aside0.mk (Kd.R_below (by (with_reducible repeat (first | apply Kd.R_alloc | apply Kd.R_drewN | apply Kd.R_drew)); exact HO_11.out) hb); have n3_ := Aside0.mk (below_step (by repeat (first | (with_reducible first | exact HB.out | apply below_alloc | apply pw_below_drewN | apply below_drew1) | exact HB.out)) hb); clear HO_9; clear HO_10; clear HO_11; clear HB; have HO_9 := n0_; have HO_10 := n1_; have HO_11 := n2_; have HB := n3_; clear n0_ n1_ n2_ n3_; (try clear hb); (try clear hb2); (try clear hk); (try clear hi))))
                    go_ret
                    exact ⟨by first | rfl | exact congrArg (fun b_ => Ending.returned (Value.bool b_)) hr_.out | exact congrArg (fun b_ => Ending.returned (Value.bool b_)) hr_.out | (simp [errW_none, errW_some] <;> rfl) | (simp [*, errW_none, errW_some] <;> rfl), by repeat (first | (with_reducible first | exact HB.out | apply below_alloc | apply pw_below_drewN | apply below_drew1) | exact HB.out)⟩

end Go.Proofs.Ytglcmnhaoeohdaa.Pr
