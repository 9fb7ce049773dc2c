-- Laid by wip/xprint.py, a program of this session that runs the kit's print with some contracts given by hand; not a text of print.sh. Lean checks it.
import Derived.Test.YtglcmnhaoeohdaaPr0
import Derived.Test.YtglcmnhaoeohdaaPr2
namespace Go.Proofs.Ytglcmnhaoeohdaa.Pr
open Go.RowKit Go.Proofs.YtglcmnhaoeohdaaW.PrintWords Go.Proofs.YtglcmnhaoeohdaaW.PrintLast Go.Proofs.YtglcmnhaoeohdaaW.PrintMore
attribute [local go_sem] max2_int min2_int max_two min_two max_three min_three max_four min_four   -- for this text's walks alone
set_option linter.unusedVariables false
set_option linter.unusedSimpArgs false

/-! ### switchboardlaw14_SlotsExact: function 3 -/
mutual
def switchboardlaw14_SlotsExact.l0 : Nat → List (S25) → Int → Int → List (S25) → Int → Int → Option (Bool)
  | 0, _, _, _, _, _, _ => none
  | k + 1, x0, x1, x2, x7, x24, x25 => if x25 < x24 then (switchboardlaw14_SlotsExact.l1 k x0 x1 x2 x7 x25 x24 x25 0) else ((switchboardlaw14_awake.f).bind fun t116 => (some t116))
def switchboardlaw14_SlotsExact.l1 : Nat → List (S25) → Int → Int → List (S25) → Int → Int → Int → Int → Option (Bool)
  | 0, _, _, _, _, _, _, _, _ => none
  | k + 1, x0, x1, x2, x7, x8, x24, x25, x28 => if x28 < 2 then (if 0 ≤ x8 then (if x8 < (x7.length : Int) then (if 0 ≤ x28 then ((switchboardref14_Slot.f k x0 x1 x2 x8 x28).bind fun t118 => (if (pick2 ((rd_T25 x7 x8).f0) ((rd_T25 x7 x8).f1) x28) = t118 then (switchboardlaw14_SlotsExact.l1 k x0 x1 x2 x7 x8 x24 x25 (wrap64 (x28 + 1))) else (some false))) else (none)) else (none)) else (none)) else (switchboardlaw14_SlotsExact.l0 k x0 x1 x2 x7 x24 (wrap64 (x25 + 1)))
end
def switchboardlaw14_SlotsExact.f (k : Nat) (l0 : List (S25)) (a1 : Int) (a2 : Int) : Option (Bool) := if (l0.length : Int) > 60 then ((switchboardlaw14_awake.f).bind fun t112 => (some t112)) else ((slots_Assign.f l0 a1 a2).bind fun t113 => (if (t113.length : Int) = (l0.length : Int) then (switchboardlaw14_SlotsExact.l0 k l0 a1 a2 t113 (t113.length : Int) 0) else (some false)))
theorem switchboardlaw14_SlotsExact.mono_l : ∀ k, (∀ y0 y1 y2 y3 y4 y5, LeO (switchboardlaw14_SlotsExact.l0 k y0 y1 y2 y3 y4 y5) (switchboardlaw14_SlotsExact.l0 (k + 1) y0 y1 y2 y3 y4 y5)) ∧ (∀ y0 y1 y2 y3 y4 y5 y6 y7, LeO (switchboardlaw14_SlotsExact.l1 k y0 y1 y2 y3 y4 y5 y6 y7) (switchboardlaw14_SlotsExact.l1 (k + 1) y0 y1 y2 y3 y4 y5 y6 y7))
  | 0 => ⟨fun _ _ _ _ _ _ r h => by simp [switchboardlaw14_SlotsExact.l0] at h, fun _ _ _ _ _ _ _ _ r h => by simp [switchboardlaw14_SlotsExact.l1] at h⟩
  | k + 1 => by
    obtain ⟨ih0, ih1⟩ := switchboardlaw14_SlotsExact.mono_l k
    refine ⟨?_, ?_⟩
    · intro y0 y1 y2 y3 y4 y5
      unfold switchboardlaw14_SlotsExact.l0
      repeat' first
      | (with_reducible exact ih0 _ _ _ _ _ _)
      | (with_reducible exact ih1 _ _ _ _ _ _ _ _)
      | (with_reducible exact switchboardref14_Slot.mono _ _ _ _ _ _)
      | (with_reducible exact LeO.refl _)
      | (with_reducible exact LeO.none _)
      | (with_reducible refine LeO.ite ?_ ?_)
      | (with_reducible refine LeO.bind ?_ (fun _ => ?_))
      | exact ih0 _ _ _ _ _ _
      | exact ih1 _ _ _ _ _ _ _ _
      | exact switchboardref14_Slot.mono _ _ _ _ _ _
      | exact LeO.none _
      | refine LeO.ite ?_ ?_
      | refine LeO.bind ?_ (fun _ => ?_)
    · intro y0 y1 y2 y3 y4 y5 y6 y7
      unfold switchboardlaw14_SlotsExact.l1
      repeat' first
      | (with_reducible exact ih0 _ _ _ _ _ _)
      | (with_reducible exact ih1 _ _ _ _ _ _ _ _)
      | (with_reducible exact switchboardref14_Slot.mono _ _ _ _ _ _)
      | (with_reducible exact LeO.refl _)
      | (with_reducible exact LeO.none _)
      | (with_reducible refine LeO.ite ?_ ?_)
      | (with_reducible refine LeO.bind ?_ (fun _ => ?_))
      | exact ih0 _ _ _ _ _ _
      | exact ih1 _ _ _ _ _ _ _ _
      | exact switchboardref14_Slot.mono _ _ _ _ _ _
      | exact LeO.none _
      | refine LeO.ite ?_ ?_
      | refine LeO.bind ?_ (fun _ => ?_)
theorem switchboardlaw14_SlotsExact.mono : ∀ a0 a1 a2 k, LeO (switchboardlaw14_SlotsExact.f k a0 a1 a2) (switchboardlaw14_SlotsExact.f (k + 1) a0 a1 a2) := by
  intro a0 a1 a2 k
  obtain ⟨ih0, ih1⟩ := switchboardlaw14_SlotsExact.mono_l k
  unfold switchboardlaw14_SlotsExact.f
  repeat' first
      | (with_reducible exact ih0 _ _ _ _ _ _)
      | (with_reducible exact ih1 _ _ _ _ _ _ _ _)
      | (with_reducible exact switchboardref14_Slot.mono _ _ _ _ _ _)
      | (with_reducible exact LeO.refl _)
      | (with_reducible exact LeO.none _)
      | (with_reducible refine LeO.ite ?_ ?_)
      | (with_reducible refine LeO.bind ?_ (fun _ => ?_))
      | exact ih0 _ _ _ _ _ _
      | exact ih1 _ _ _ _ _ _ _ _
      | exact switchboardref14_Slot.mono _ _ _ _ _ _
      | exact LeO.none _
      | refine LeO.ite ?_ ?_
      | refine LeO.bind ?_ (fun _ => ?_)
set_option maxHeartbeats 8000000 in
set_option maxRecDepth 100000 in
theorem switchboardlaw14_SlotsExact.calls (k : Nat) (A0 : Option Addr) (c0 : Nat) (l0 : List (S25)) (a1 : Int) (a2 : Int) (w : World) (hr0 : Kd.C k25 w A0 l0.length l0) (hc0 : l0.length ≤ c0) (h : switchboardlaw14_SlotsExact.f k l0 a1 a2 = some true) :
    Calls Try.prog 3 #[.slice A0 l0.length c0, .int .i64 a1, .int .i64 a2] w fun e w' => e = .returned (.bool true) ∧ Below w.heap.size w w' := by
  have HR0 := Aside0.mk hr0
  have HC0 := Aside0.mk hc0
  clear hr0 hc0
  have HB := Aside0.mk (Below.refl w.heap.size w)
  have H : (if (l0.length : Int) > 60 then ((switchboardlaw14_awake.f).bind fun t112 => (some t112)) else ((slots_Assign.f l0 a1 a2).bind fun t113 => (if (t113.length : Int) = (l0.length : Int) then (switchboardlaw14_SlotsExact.l0 k l0 a1 a2 t113 (t113.length : Int) 0) else (some false)))) = some true := h
  clear h
  by_cases c4 : (l0.length : Int) > 60
  · rw [if_pos c4] at H
    have c4b0 : decide (60 < (l0.length : Int)) = true := decide_eq_true c4
    have c4b1 : decide (60 < l0.length) = true := decide_eq_true (by omega)
    clear c4
    replace H := Option.bind_eq_some_iff.mp H
    obtain ⟨t112, A50, H⟩ := H
    replace H : (some t112) = some true := H
    have A5 := Aside0.mk A50
    clear A50
    have hr_ := Aside0.mk (Option.some.inj H)
    go_enter Try.func3, Try.ntmps3
    go_wp2_with (first | (go_at_call 7; (with_reducible refine (switchboardlaw14_awake.calls  t112 _ A5.out).mono ?_); rintro e w6 ⟨rfl, hb⟩; have n0_ := Aside0.mk (below_step (by repeat (first | (with_reducible first | exact HB.out | apply below_alloc | apply pw_below_drewN | apply below_drew1) | exact HB.out)) hb); clear HB; have HB := n0_; clear n0_; (try clear hb); (try clear hb2); (try clear hk); (try clear hi)))
    repeat (go_quiet (first | (go_at_call 7; (with_reducible refine (switchboardlaw14_awake.calls  t112 _ A5.out).mono ?_); rintro e w6 ⟨rfl, hb⟩; have n0_ := Aside0.mk (below_step (by repeat (first | (with_reducible first | exact HB.out | apply below_alloc | apply pw_below_drewN | apply below_drew1) | exact HB.out)) hb); clear HB; have HB := n0_; clear n0_; (try clear hb); (try clear hb2); (try clear hk); (try clear hi))); try go_wp2_with (first | (go_at_call 7; (with_reducible refine (switchboardlaw14_awake.calls  t112 _ A5.out).mono ?_); rintro e w6 ⟨rfl, hb⟩; have n0_ := Aside0.mk (below_step (by repeat (first | (with_reducible first | exact HB.out | apply below_alloc | apply pw_below_drewN | apply below_drew1) | exact HB.out)) hb); clear HB; have HB := n0_; clear n0_; (try clear hb); (try clear hb2); (try clear hk); (try clear hi))))
    go_ret
    exact ⟨by first | rfl | exact congrArg (fun b_ => Ending.returned (Value.bool b_)) hr_.out | exact congrArg (fun b_ => Ending.returned (Value.bool b_)) hr_.out | (simp [errW_none, errW_some] <;> rfl) | (simp [*, errW_none, errW_some] <;> rfl), by repeat (first | (with_reducible first | exact HB.out | apply below_alloc | apply pw_below_drewN | apply below_drew1) | exact HB.out)⟩
  · rw [if_neg c4] at H
    have c4b0 : decide (60 < (l0.length : Int)) = false := decide_eq_false c4
    have c4b1 : decide (60 < l0.length) = false := decide_eq_false (by omega)
    clear c4
    replace H := Option.bind_eq_some_iff.mp H
    obtain ⟨t113, A70, H⟩ := H
    replace H : (if (t113.length : Int) = (l0.length : Int) then (switchboardlaw14_SlotsExact.l0 k l0 a1 a2 t113 (t113.length : Int) 0) else (some false)) = some true := H
    have A7 := Aside0.mk A70
    clear A70
    by_cases c8 : (t113.length : Int) = (l0.length : Int)
    · rw [if_pos c8] at H
      have c8b0 : ((t113.length : Int) == (l0.length : Int)) = true := beq_iff_eq.mpr c8
      have c8b1 : ((t113.length : Int) != (l0.length : Int)) = false := bne_eq_false_iff_eq.mpr c8
      have c8b2 : (t113.length == l0.length) = true := by first | simpa using c8 | (simp at c8 ⊢; omega)
      clear c8
      have H' := Aside0.mk H
      clear H
      go_enter Try.func3, Try.ntmps3
      go_wp2_with (first | (go_at_call 8; (with_reducible refine (slots_Assign.calls _ _ l0 a1 a2 t113 _ ?side1 ?side2 A7.out).mono ?_); (case side1 => repeat (first | exact HR0.out | (with_reducible refine Kd.C_alloc ?_ _) | (with_reducible refine Kd.C_drewN ?_ _) | (with_reducible refine Kd.C_drew ?_))); (case side2 => exact HC0.out); rintro e w9 ⟨v114, rfl, ho0, hb⟩; have n0_ := Aside0.mk (Kd.R_lower ho0 (below_size (by repeat (first | (with_reducible first | exact HB.out | apply below_alloc | apply pw_below_drewN | apply below_drew1) | exact HB.out)))); have n1_ := Aside0.mk (below_step (by repeat (first | (with_reducible first | exact HB.out | apply below_alloc | apply pw_below_drewN | apply below_drew1) | exact HB.out)) hb); clear HB; have HO115 := n0_; have HB := n1_; clear n0_ n1_; (try clear hb); (try clear hb2); (try clear hk); (try clear hi); (try clear ho0); obtain ⟨Ao10, co10, eo10⟩ := Kd.R_slice HO115.out; subst eo10))
      repeat (go_quiet (first | (go_at_call 8; (with_reducible refine (slots_Assign.calls _ _ l0 a1 a2 t113 _ ?side1 ?side2 A7.out).mono ?_); (case side1 => repeat (first | exact HR0.out | (with_reducible refine Kd.C_alloc ?_ _) | (with_reducible refine Kd.C_drewN ?_ _) | (with_reducible refine Kd.C_drew ?_))); (case side2 => exact HC0.out); rintro e w9 ⟨v114, rfl, ho0, hb⟩; have n0_ := Aside0.mk (Kd.R_lower ho0 (below_size (by repeat (first | (with_reducible first | exact HB.out | apply below_alloc | apply pw_below_drewN | apply below_drew1) | exact HB.out)))); have n1_ := Aside0.mk (below_step (by repeat (first | (with_reducible first | exact HB.out | apply below_alloc | apply pw_below_drewN | apply below_drew1) | exact HB.out)) hb); clear HB; have HO115 := n0_; have HB := n1_; clear n0_ n1_; (try clear hb); (try clear hb2); (try clear hk); (try clear hi); (try clear ho0); obtain ⟨Ao10, co10, eo10⟩ := Kd.R_slice HO115.out; subst eo10)); try go_wp2_with (first | (go_at_call 8; (with_reducible refine (slots_Assign.calls _ _ l0 a1 a2 t113 _ ?side1 ?side2 A7.out).mono ?_); (case side1 => repeat (first | exact HR0.out | (with_reducible refine Kd.C_alloc ?_ _) | (with_reducible refine Kd.C_drewN ?_ _) | (with_reducible refine Kd.C_drew ?_))); (case side2 => exact HC0.out); rintro e w9 ⟨v114, rfl, ho0, hb⟩; have n0_ := Aside0.mk (Kd.R_lower ho0 (below_size (by repeat (first | (with_reducible first | exact HB.out | apply below_alloc | apply pw_below_drewN | apply below_drew1) | exact HB.out)))); have n1_ := Aside0.mk (below_step (by repeat (first | (with_reducible first | exact HB.out | apply below_alloc | apply pw_below_drewN | apply below_drew1) | exact HB.out)) hb); clear HB; have HO115 := n0_; have HB := n1_; clear n0_ n1_; (try clear hb); (try clear hb2); (try clear hk); (try clear hi); (try clear ho0); obtain ⟨Ao10, co10, eo10⟩ := Kd.R_slice HO115.out; subst eo10)))
      go_loopg [25] k (fun kq v25 w' => ∃ (x25_1 : Int), v25 = .int .i64 x25_1 ∧ Aside0 (switchboardlaw14_SlotsExact.l0 kq l0 a1 a2 t113 (t113.length : Int) x25_1 = some true) ∧ Aside0 (kq ≤ k) ∧ Aside0 (Kd.R k25 25 w' w.heap.size (fun _ => True) (.slice Ao10 t113.length co10) t113) ∧ Aside0 (Below w.heap.size w w'))
      case atStart => exact ⟨(0), (by first | rfl | (simp; done) | (simp [*]; done)), H', ⟨Nat.le_refl _⟩, ⟨by (with_reducible repeat (first | apply Kd.R_alloc | apply Kd.R_drewN | apply Kd.R_drew)); exact HO115.out⟩, ⟨by repeat (first | (with_reducible first | exact HB.out | apply below_alloc | apply pw_below_drewN | apply below_drew1) | exact HB.out)⟩⟩
      case round =>
        clear H'
        try clear p2
        try clear c3
        try clear c4
        try clear c4b0
        try clear c4b1
        try clear c8
        try clear c8b0
        try clear c8b1
        try clear c8b2
        obtain ⟨x25_1, rfl, HA, HK1, HO_7, HB⟩ := hrel
        cases gk with
        | zero => exact absurd HA.out (by simp [switchboardlaw14_SlotsExact.l0])
        | succ k1 =>
          have H := HA.out
          clear HA
          simp only [switchboardlaw14_SlotsExact.l0] at H
          by_cases c11 : x25_1 < (t113.length : Int)
          · rw [if_pos c11] at H
            have c11b0 : decide (x25_1 < (t113.length : Int)) = true := decide_eq_true c11
            clear c11
            have H' := Aside0.mk H
            clear H
            go_wp2
            repeat (go_quiet (fail); try go_wp2)
            go_loopg [28] k1 (fun kq v28 w' => ∃ (x28_2 : Int), v28 = .int .i64 x28_2 ∧ Aside0 (switchboardlaw14_SlotsExact.l1 kq l0 a1 a2 t113 x25_1 (t113.length : Int) x25_1 x28_2 = some true) ∧ Aside0 (kq ≤ k1) ∧ Aside0 (Kd.R k25 25 w' w.heap.size (fun _ => True) (.slice Ao10 t113.length co10) t113) ∧ Aside0 (Below w.heap.size w w'))
            case atStart => exact ⟨(0), (by first | rfl | (simp; done) | (simp [*]; done)), H', ⟨Nat.le_refl _⟩, ⟨by (with_reducible repeat (first | apply Kd.R_alloc | apply Kd.R_drewN | apply Kd.R_drew)); exact HO_7.out⟩, ⟨by repeat (first | (with_reducible first | exact HB.out | apply below_alloc | apply pw_below_drewN | apply below_drew1) | exact HB.out)⟩⟩
            case round =>
              clear H'
              try clear c1
              try clear p2
              try clear c3
              try clear c4
              try clear c4b0
              try clear c4b1
              try clear c8
              try clear c8b0
              try clear c8b1
              try clear c8b2
              try clear c11
              try clear c11b0
              try clear p2
              obtain ⟨x28_2, rfl, HA, HK2, HO_7, HB⟩ := hrel
              cases gk with
              | zero => exact absurd HA.out (by simp [switchboardlaw14_SlotsExact.l1])
              | succ k2 =>
                have H := HA.out
                clear HA
                simp only [switchboardlaw14_SlotsExact.l1] at H
                by_cases c12 : x28_2 < 2
                · rw [if_pos c12] at H
                  have c12b0 : decide (x28_2 < 2) = true := decide_eq_true c12
                  clear c12
                  by_cases c13 : 0 ≤ x25_1
                  · rw [if_pos c13] at H
                    have c13b0 : decide (0 ≤ x25_1) = true := decide_eq_true c13
                    clear c13
                    by_cases c14 : x25_1 < (t113.length : Int)
                    · rw [if_pos c14] at H
                      have c14b0 : decide (x25_1 < (t113.length : Int)) = true := decide_eq_true c14
                      clear c14
                      by_cases c15 : 0 ≤ x28_2
                      · rw [if_pos c15] at H
                        have c15b0 : decide (0 ≤ x28_2) = true := decide_eq_true c15
                        clear c15
                        replace H := Option.bind_eq_some_iff.mp H
                        obtain ⟨t118, A170, H⟩ := H
                        replace H : (if (pick2 ((rd_T25 t113 x25_1).f0) ((rd_T25 t113 x25_1).f1) x28_2) = t118 then (switchboardlaw14_SlotsExact.l1 k2 l0 a1 a2 t113 x25_1 (t113.length : Int) x25_1 (wrap64 (x28_2 + 1))) else (some false)) = some true := H
                        have A17 := Aside0.mk A170
                        clear A170
                        by_cases c18 : (pick2 ((rd_T25 t113 x25_1).f0) ((rd_T25 t113 x25_1).f1) x28_2) = t118
                        · rw [if_pos c18] at H
                          have c18b0 : ((pick2 ((rd_T25 t113 x25_1).f0) ((rd_T25 t113 x25_1).f1) x28_2) == t118) = true := beq_iff_eq.mpr c18
                          have c18b1 : ((pick2 ((rd_T25 t113 x25_1).f0) ((rd_T25 t113 x25_1).f1) x28_2) != t118) = false := bne_eq_false_iff_eq.mpr c18
                          clear c18
                          have H' := Aside0.mk H
                          clear H
                          have p117 : 0 ≤ (x25_1 : Int) := of_decide_eq_true (by first | (with_reducible assumption) | assumption)
                          have q117 : x25_1 < (t113.length : Int) := of_decide_eq_true (by first | (with_reducible assumption) | assumption)
                          obtain ⟨ad117, e117, hx117_0, hx117_1⟩ := at_T25 (Kd.R_reads' HO_7.out).2.2 x25_1 p117 q117
                          cases e117
                          replace p117 := eq_true p117
                          replace q117 := eq_true q117
                          have p16 : 0 ≤ (x28_2 : Int) := of_decide_eq_true (by first | (with_reducible assumption) | assumption)
                          have q16 : x28_2 < 2 := of_decide_eq_true (by first | (with_reducible assumption) | assumption)
                          have hx16 := pick2_cell hx117_0 hx117_1 x28_2 p16 q16
                          replace p16 := eq_true p16
                          replace q16 := eq_true q16
                          go_wp2_with (first | (go_at_call 9; (with_reducible refine (switchboardref14_Slot.calls k2 _ _ l0 a1 a2 x25_1 x28_2 t118 _ ?side1 ?side2 A17.out).mono ?_); (case side1 => repeat (first | exact (Kd.C_below HR0.out HB.out) | (with_reducible refine Kd.C_alloc ?_ _) | (with_reducible refine Kd.C_drewN ?_ _) | (with_reducible refine Kd.C_drew ?_))); (case side2 => exact HC0.out); rintro e w' ⟨rfl, ⟨nd, rfl⟩⟩; (try first | exact ⟨rfl, _, World.drewN_drewN _ _ _⟩ | exact ⟨rfl, _, Eq.trans (World.drewN_drewN _ _ _) (congrArg (World.drewN _) (Nat.add_assoc _ _ _))⟩)))
                          repeat (go_quiet (first | (go_at_call 9; (with_reducible refine (switchboardref14_Slot.calls k2 _ _ l0 a1 a2 x25_1 x28_2 t118 _ ?side1 ?side2 A17.out).mono ?_); (case side1 => repeat (first | exact (Kd.C_below HR0.out HB.out) | (with_reducible refine Kd.C_alloc ?_ _) | (with_reducible refine Kd.C_drewN ?_ _) | (with_reducible refine Kd.C_drew ?_))); (case side2 => exact HC0.out); rintro e w' ⟨rfl, ⟨nd, rfl⟩⟩; (try first | exact ⟨rfl, _, World.drewN_drewN _ _ _⟩ | exact ⟨rfl, _, Eq.trans (World.drewN_drewN _ _ _) (congrArg (World.drewN _) (Nat.add_assoc _ _ _))⟩))); try go_wp2_with (first | (go_at_call 9; (with_reducible refine (switchboardref14_Slot.calls k2 _ _ l0 a1 a2 x25_1 x28_2 t118 _ ?side1 ?side2 A17.out).mono ?_); (case side1 => repeat (first | exact (Kd.C_below HR0.out HB.out) | (with_reducible refine Kd.C_alloc ?_ _) | (with_reducible refine Kd.C_drewN ?_ _) | (with_reducible refine Kd.C_drew ?_))); (case side2 => exact HC0.out); rintro e w' ⟨rfl, ⟨nd, rfl⟩⟩; (try first | exact ⟨rfl, _, World.drewN_drewN _ _ _⟩ | exact ⟨rfl, _, Eq.trans (World.drewN_drewN _ _ _) (congrArg (World.drewN _) (Nat.add_assoc _ _ _))⟩))))
                          go_roundg k2
                          case measure => have := HK1.out; have := HK2.out; omega
                          case rel => exact ⟨(wrap64 (x28_2 + 1)), (by first | rfl | (simp; done) | (simp [*]; done)), H', ⟨by have := HK1.out; have := HK2.out; omega⟩, ⟨by (with_reducible repeat (first | apply Kd.R_alloc | apply Kd.R_drewN | apply Kd.R_drew)); exact HO_7.out⟩, ⟨by repeat (first | (with_reducible first | exact HB.out | apply below_alloc | apply pw_below_drewN | apply below_drew1) | exact HB.out)⟩⟩
                        · rw [if_neg c18] at H
                          have c18b0 : ((pick2 ((rd_T25 t113 x25_1).f0) ((rd_T25 t113 x25_1).f1) x28_2) == t118) = false := beq_eq_false_iff_ne.mpr c18
                          have c18b1 : ((pick2 ((rd_T25 t113 x25_1).f0) ((rd_T25 t113 x25_1).f1) x28_2) != t118) = true := bne_iff_ne.mpr c18
                          exact absurd H (by simp)
                      · rw [if_neg c15] at H
                        exact absurd H (by simp)
                    · rw [if_neg c14] at H
                      exact absurd H (by simp)
                  · rw [if_neg c13] at H
                    exact absurd H (by simp)
                · rw [if_neg c12] at H
                  have c12b0 : decide (x28_2 < 2) = false := decide_eq_false c12
                  clear c12
                  have H' := Aside0.mk H
                  clear H
                  go_wp2
                  repeat (go_quiet (fail); try go_wp2)
                  go_roundg k2
                  case measure => have := HK1.out; have := HK2.out; omega
                  case rel => exact ⟨(wrap64 (x25_1 + 1)), (by first | rfl | (simp; done) | (simp [*]; done)), H', ⟨by have := HK1.out; have := HK2.out; omega⟩, ⟨by (with_reducible repeat (first | apply Kd.R_alloc | apply Kd.R_drewN | apply Kd.R_drew)); exact HO_7.out⟩, ⟨by repeat (first | (with_reducible first | exact HB.out | apply below_alloc | apply pw_below_drewN | apply below_drew1) | exact HB.out)⟩⟩
          · rw [if_neg c11] at H
            have c11b0 : decide (x25_1 < (t113.length : Int)) = false := decide_eq_false c11
            clear c11
            replace H := Option.bind_eq_some_iff.mp H
            obtain ⟨t116, A190, H⟩ := H
            replace H : (some t116) = some true := H
            have A19 := Aside0.mk A190
            clear A190
            have hr_ := Aside0.mk (Option.some.inj H)
            go_wp2_with (first | (go_at_call 7; (with_reducible refine (switchboardlaw14_awake.calls  t116 _ A19.out).mono ?_); rintro e w20 ⟨rfl, hb⟩; have n0_ := Aside0.mk (Kd.R_below (by (with_reducible repeat (first | apply Kd.R_alloc | apply Kd.R_drewN | apply Kd.R_drew)); exact HO_7.out) hb); have n1_ := Aside0.mk (below_step (by repeat (first | (with_reducible first | exact HB.out | apply below_alloc | apply pw_below_drewN | apply below_drew1) | exact HB.out)) hb); clear HO_7; clear HB; have HO_7 := n0_; have HB := n1_; clear n0_ n1_; (try clear hb); (try clear hb2); (try clear hk); (try clear hi)))
            repeat (go_quiet (first | (go_at_call 7; (with_reducible refine (switchboardlaw14_awake.calls  t116 _ A19.out).mono ?_); rintro e w20 ⟨rfl, hb⟩; have n0_ := Aside0.mk (Kd.R_below (by (with_reducible repeat (first | apply Kd.R_alloc | apply Kd.R_drewN | apply Kd.R_drew)); exact HO_7.out) hb); have n1_ := Aside0.mk (below_step (by repeat (first | (with_reducible first | exact HB.out | apply below_alloc | apply pw_below_drewN | apply below_drew1) | exact HB.out)) hb); clear HO_7; clear HB; have HO_7 := n0_; have HB := n1_; clear n0_ n1_; (try clear hb); (try clear hb2); (try clear hk); (try clear hi))); try go_wp2_with (first | (go_at_call 7; (with_reducible refine (switchboardlaw14_awake.calls  t116 _ A19.out).mono ?_); rintro e w20 ⟨rfl, hb⟩; have n0_ := Aside0.mk (Kd.R_below (by (with_reducible repeat (first | apply Kd.R_alloc | apply Kd.R_drewN | apply Kd.R_drew)); exact HO_7.out) hb); have n1_ := Aside0.mk (below_step (by repeat (first | (with_reducible first | exact HB.out | apply below_alloc | apply pw_below_drewN | apply below_drew1) | exact HB.out)) hb); clear HO_7; clear HB; have HO_7 := n0_; have HB := n1_; clear n0_ n1_; (try clear hb); (try clear hb2); (try clear hk); (try clear hi))))
            go_ret
            exact ⟨by first | rfl | exact congrArg (fun b_ => Ending.returned (Value.bool b_)) hr_.out | exact congrArg (fun b_ => Ending.returned (Value.bool b_)) hr_.out | (simp [errW_none, errW_some] <;> rfl) | (simp [*, errW_none, errW_some] <;> rfl), by repeat (first | (with_reducible first | exact HB.out | apply below_alloc | apply pw_below_drewN | apply below_drew1) | exact HB.out)⟩
    · rw [if_neg c8] at H
      have c8b0 : ((t113.length : Int) == (l0.length : Int)) = false := beq_eq_false_iff_ne.mpr c8
      have c8b1 : ((t113.length : Int) != (l0.length : Int)) = true := bne_iff_ne.mpr c8
      have c8b2 : (t113.length == l0.length) = false := by first | simpa using c8 | (simp at c8 ⊢; omega)
      exact absurd H (by simp)

end Go.Proofs.Ytglcmnhaoeohdaa.Pr
