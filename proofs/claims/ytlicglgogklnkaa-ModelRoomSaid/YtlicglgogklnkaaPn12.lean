-- Laid by wip/xprint.py, a program of this session that runs the kit's print with some contracts given by hand; not a text of print.sh. Lean checks it.
import Derived.Test.YtlicglgogklnkaaPn0
import Derived.Test.YtlicglgogklnkaaPn1
import Derived.Test.YtlicglgogklnkaaPn9
import Derived.Test.YtlicglgogklnkaaPn11
namespace Go.Proofs.Ytlicglgogklnkaa.Pn
open Go.RowKit Go.Proofs.YtlicglgogklnkaaW.PrintWords Go.Proofs.YtlicglgogklnkaaW.PrintLast Go.Proofs.YtlicglgogklnkaaW.PrintMore
attribute [local go_sem] max2_int min2_int max_two min_two max_three min_three max_four min_four   -- for this text's walks alone
set_option linter.unusedVariables false
set_option linter.unusedSimpArgs false

/-! ### switchboardref02_Same: function 37 -/
def switchboardref02_Same.l0 : Nat → List Int → List Int → Int → Option (Bool)
  | 0, _, _, _ => none
  | k + 1, x0, x1, x5 => if x5 < (x0.length : Int) then (if 0 ≤ x5 then (if x5 < (x1.length : Int) then (if (rd x0 x5) = (rd x1 x5) then (switchboardref02_Same.l0 k x0 x1 (wrap64 (x5 + 1))) else (some false)) else (none)) else (none)) else (some true)
def switchboardref02_Same.f (k : Nat) (l0 : List Int) (l1 : List Int) : Option (Bool) := if (l0.length : Int) = (l1.length : Int) then (switchboardref02_Same.l0 k l0 l1 0) else (some false)
theorem switchboardref02_Same.mono_l : ∀ k, (∀ y0 y1 y2, LeO (switchboardref02_Same.l0 k y0 y1 y2) (switchboardref02_Same.l0 (k + 1) y0 y1 y2))
  | 0 => fun _ _ _ r h => by simp [switchboardref02_Same.l0] at h
  | k + 1 => by
    have ih0 := switchboardref02_Same.mono_l k
    · intro y0 y1 y2
      unfold switchboardref02_Same.l0
      repeat' first
      | (with_reducible exact ih0 _ _ _)
      | (with_reducible exact LeO.refl _)
      | (with_reducible exact LeO.none _)
      | (with_reducible refine LeO.ite ?_ ?_)
      | (with_reducible refine LeO.bind ?_ (fun _ => ?_))
      | exact ih0 _ _ _
      | exact LeO.none _
      | refine LeO.ite ?_ ?_
      | refine LeO.bind ?_ (fun _ => ?_)
theorem switchboardref02_Same.mono : ∀ a0 a1 k, LeO (switchboardref02_Same.f k a0 a1) (switchboardref02_Same.f (k + 1) a0 a1) := by
  intro a0 a1 k
  have ih0 := switchboardref02_Same.mono_l k
  unfold switchboardref02_Same.f
  repeat' first
      | (with_reducible exact ih0 _ _ _)
      | (with_reducible exact LeO.refl _)
      | (with_reducible exact LeO.none _)
      | (with_reducible refine LeO.ite ?_ ?_)
      | (with_reducible refine LeO.bind ?_ (fun _ => ?_))
      | exact ih0 _ _ _
      | exact LeO.none _
      | refine LeO.ite ?_ ?_
      | refine LeO.bind ?_ (fun _ => ?_)
set_option maxHeartbeats 8000000 in
set_option maxRecDepth 100000 in
theorem switchboardref02_Same.calls (k : Nat) (A0 : Option Addr) (c0 : Nat) (l0 : List Int) (A1 : Option Addr) (c1 : Nat) (l1 : List Int) (r : Bool) (w : World) (hr0 : Kd.C (Kd.int .i64) w A0 l0.length l0) (hc0 : l0.length ≤ c0) (hr1 : Kd.C (Kd.int .i64) w A1 l1.length l1) (hc1 : l1.length ≤ c1) (h : switchboardref02_Same.f k l0 l1 = some r) :
    Calls Try.prog 37 #[.slice A0 l0.length c0, .slice A1 l1.length c1] w fun e w' => e = .returned (.bool r) ∧ Drawn0 w w' := by
  have HR0 := Aside0.mk hr0
  have HC0 := Aside0.mk hc0
  clear hr0 hc0
  have HR1 := Aside0.mk hr1
  have HC1 := Aside0.mk hc1
  clear hr1 hc1
  have H : (if (l0.length : Int) = (l1.length : Int) then (switchboardref02_Same.l0 k l0 l1 0) else (some false)) = some r := h
  clear h
  by_cases c3 : (l0.length : Int) = (l1.length : Int)
  · rw [if_pos c3] at H
    have c3b0 : ((l0.length : Int) == (l1.length : Int)) = true := beq_iff_eq.mpr c3
    have c3b1 : ((l0.length : Int) != (l1.length : Int)) = false := bne_eq_false_iff_eq.mpr c3
    have c3b2 : (l0.length == l1.length) = true := by first | simpa using c3 | (simp at c3 ⊢; omega)
    clear c3
    have H' := Aside0.mk H
    clear H
    go_enter Try.func37, Try.ntmps37
    go_wp2
    repeat (go_quiet (fail); try go_wp2)
    go_loopg [5] k (fun kq v5 w' => ∃ (x5_1 : Int), v5 = .int .i64 x5_1 ∧ Aside0 (switchboardref02_Same.l0 kq l0 l1 x5_1 = some r) ∧ Aside0 (kq ≤ k) ∧ Drawn0 w w')
    case atStart => exact ⟨(0), (by first | rfl | (simp; done) | (simp [*]; done)), H', ⟨Nat.le_refl _⟩, by repeat (first | exact Drawn0.refl _ | apply Drawn0.step)⟩
    case round =>
      clear H'
      try clear c1
      try clear p2
      try clear c3
      try clear c3b0
      try clear c3b1
      try clear c3b2
      obtain ⟨x5_1, rfl, HA, HK1, ⟨m1, rfl⟩⟩ := hrel
      cases gk with
      | zero => exact absurd HA.out (by simp [switchboardref02_Same.l0])
      | succ k1 =>
        have H := HA.out
        clear HA
        simp only [switchboardref02_Same.l0] at H
        by_cases c4 : x5_1 < (l0.length : Int)
        · rw [if_pos c4] at H
          have c4b0 : decide (x5_1 < (l0.length : Int)) = true := decide_eq_true c4
          clear c4
          by_cases c5 : 0 ≤ x5_1
          · rw [if_pos c5] at H
            have c5b0 : decide (0 ≤ x5_1) = true := decide_eq_true c5
            clear c5
            by_cases c6 : x5_1 < (l1.length : Int)
            · rw [if_pos c6] at H
              have c6b0 : decide (x5_1 < (l1.length : Int)) = true := decide_eq_true c6
              clear c6
              by_cases c7 : (rd l0 x5_1) = (rd l1 x5_1)
              · rw [if_pos c7] at H
                have c7b0 : ((rd l0 x5_1) == (rd l1 x5_1)) = true := beq_iff_eq.mpr c7
                have c7b1 : ((rd l0 x5_1) != (rd l1 x5_1)) = false := bne_eq_false_iff_eq.mpr c7
                clear c7
                have H' := Aside0.mk H
                clear H
                have p251 : 0 ≤ (x5_1 : Int) := of_decide_eq_true (by first | (with_reducible assumption) | assumption)
                have q251 : x5_1 < (l0.length : Int) := of_decide_eq_true (by first | (with_reducible assumption) | assumption)
                obtain ⟨ad251, e251, hx251_0⟩ := Kd.at_int HR0.out x5_1 p251 q251
                cases e251
                replace p251 := eq_true p251
                replace q251 := eq_true q251
                have p252 : 0 ≤ (x5_1 : Int) := of_decide_eq_true (by first | (with_reducible assumption) | assumption)
                have q252 : x5_1 < (l1.length : Int) := of_decide_eq_true (by first | (with_reducible assumption) | assumption)
                obtain ⟨ad252, e252, hx252_0⟩ := Kd.at_int HR1.out x5_1 p252 q252
                cases e252
                replace p252 := eq_true p252
                replace q252 := eq_true q252
                go_wp2
                repeat (go_quiet (fail); try go_wp2)
                go_roundg k1
                case measure => have := HK1.out; omega
                case rel => exact ⟨(wrap64 (x5_1 + 1)), (by first | rfl | (simp; done) | (simp [*]; done)), H', ⟨by have := HK1.out; omega⟩, by repeat (first | exact Drawn0.refl _ | apply Drawn0.step)⟩
              · rw [if_neg c7] at H
                have c7b0 : ((rd l0 x5_1) == (rd l1 x5_1)) = false := beq_eq_false_iff_ne.mpr c7
                have c7b1 : ((rd l0 x5_1) != (rd l1 x5_1)) = true := bne_iff_ne.mpr c7
                obtain rfl := Option.some.inj H
                have p251 : 0 ≤ (x5_1 : Int) := of_decide_eq_true (by first | (with_reducible assumption) | assumption)
                have q251 : x5_1 < (l0.length : Int) := of_decide_eq_true (by first | (with_reducible assumption) | assumption)
                obtain ⟨ad251, e251, hx251_0⟩ := Kd.at_int HR0.out x5_1 p251 q251
                cases e251
                replace p251 := eq_true p251
                replace q251 := eq_true q251
                have p252 : 0 ≤ (x5_1 : Int) := of_decide_eq_true (by first | (with_reducible assumption) | assumption)
                have q252 : x5_1 < (l1.length : Int) := of_decide_eq_true (by first | (with_reducible assumption) | assumption)
                obtain ⟨ad252, e252, hx252_0⟩ := Kd.at_int HR1.out x5_1 p252 q252
                cases e252
                replace p252 := eq_true p252
                replace q252 := eq_true q252
                go_wp2
                repeat (go_quiet (fail); try go_wp2)
                go_ret
                exact ⟨by first | rfl | (simp; done) | (simp [*]; done), by repeat (first | exact Drawn0.refl _ | apply Drawn0.step)⟩
            · rw [if_neg c6] at H
              exact absurd H (by simp)
          · rw [if_neg c5] at H
            exact absurd H (by simp)
        · rw [if_neg c4] at H
          have c4b0 : decide (x5_1 < (l0.length : Int)) = false := decide_eq_false c4
          clear c4
          obtain rfl := Option.some.inj H
          go_wp2
          repeat (go_quiet (fail); try go_wp2)
          go_ret
          exact ⟨by first | rfl | (simp; done) | (simp [*]; done), by repeat (first | exact Drawn0.refl _ | apply Drawn0.step)⟩
  · rw [if_neg c3] at H
    have c3b0 : ((l0.length : Int) == (l1.length : Int)) = false := beq_eq_false_iff_ne.mpr c3
    have c3b1 : ((l0.length : Int) != (l1.length : Int)) = true := bne_iff_ne.mpr c3
    have c3b2 : (l0.length == l1.length) = false := by first | simpa using c3 | (simp at c3 ⊢; omega)
    obtain rfl := Option.some.inj H
    go_enter Try.func37, Try.ntmps37
    go_wp2
    repeat (go_quiet (fail); try go_wp2)
    go_ret
    exact ⟨by first | rfl | (simp; done) | (simp [*]; done), by repeat (first | exact Drawn0.refl _ | apply Drawn0.step)⟩

/-! ### switchboardref15_Same: function 19 -/
def switchboardref15_Same.l0 : Nat → List (List Int) → List (List Int) → Int → Option (Bool)
  | 0, _, _, _ => none
  | k + 1, x0, x1, x5 => if x5 < (x0.length : Int) then (if 0 ≤ x5 then (if x5 < (x1.length : Int) then ((switchboardref02_Same.f k (rd_L1 x0 x5) (rd_L1 x1 x5)).bind fun t255 => (if t255 = true then (switchboardref15_Same.l0 k x0 x1 (wrap64 (x5 + 1))) else (some false))) else (none)) else (none)) else (some true)
def switchboardref15_Same.f (k : Nat) (l0 : List (List Int)) (l1 : List (List Int)) : Option (Bool) := if (l0.length : Int) = (l1.length : Int) then (switchboardref15_Same.l0 k l0 l1 0) else (some false)
theorem switchboardref15_Same.mono_l : ∀ k, (∀ y0 y1 y2, LeO (switchboardref15_Same.l0 k y0 y1 y2) (switchboardref15_Same.l0 (k + 1) y0 y1 y2))
  | 0 => fun _ _ _ r h => by simp [switchboardref15_Same.l0] at h
  | k + 1 => by
    have ih0 := switchboardref15_Same.mono_l k
    · intro y0 y1 y2
      unfold switchboardref15_Same.l0
      repeat' first
      | (with_reducible exact ih0 _ _ _)
      | (with_reducible exact switchboardref02_Same.mono _ _ _)
      | (with_reducible exact LeO.refl _)
      | (with_reducible exact LeO.none _)
      | (with_reducible refine LeO.ite ?_ ?_)
      | (with_reducible refine LeO.bind ?_ (fun _ => ?_))
      | exact ih0 _ _ _
      | exact switchboardref02_Same.mono _ _ _
      | exact LeO.none _
      | refine LeO.ite ?_ ?_
      | refine LeO.bind ?_ (fun _ => ?_)
theorem switchboardref15_Same.mono : ∀ a0 a1 k, LeO (switchboardref15_Same.f k a0 a1) (switchboardref15_Same.f (k + 1) a0 a1) := by
  intro a0 a1 k
  have ih0 := switchboardref15_Same.mono_l k
  unfold switchboardref15_Same.f
  repeat' first
      | (with_reducible exact ih0 _ _ _)
      | (with_reducible exact switchboardref02_Same.mono _ _ _)
      | (with_reducible exact LeO.refl _)
      | (with_reducible exact LeO.none _)
      | (with_reducible refine LeO.ite ?_ ?_)
      | (with_reducible refine LeO.bind ?_ (fun _ => ?_))
      | exact ih0 _ _ _
      | exact switchboardref02_Same.mono _ _ _
      | exact LeO.none _
      | refine LeO.ite ?_ ?_
      | refine LeO.bind ?_ (fun _ => ?_)
set_option maxHeartbeats 8000000 in
set_option maxRecDepth 100000 in
theorem switchboardref15_Same.calls (k : Nat) (A0 : Option Addr) (c0 : Nat) (l0 : List (List Int)) (A1 : Option Addr) (c1 : Nat) (l1 : List (List Int)) (r : Bool) (w : World) (hr0 : Kd.C (Kd.slice 3 (Kd.int .i64)) w A0 l0.length l0) (hc0 : l0.length ≤ c0) (hr1 : Kd.C (Kd.slice 3 (Kd.int .i64)) w A1 l1.length l1) (hc1 : l1.length ≤ c1) (h : switchboardref15_Same.f k l0 l1 = some r) :
    Calls Try.prog 19 #[.slice A0 l0.length c0, .slice A1 l1.length c1] w fun e w' => e = .returned (.bool r) ∧ Drawn0 w w' := by
  have HR0 := Aside0.mk hr0
  have HC0 := Aside0.mk hc0
  clear hr0 hc0
  have HR1 := Aside0.mk hr1
  have HC1 := Aside0.mk hc1
  clear hr1 hc1
  have H : (if (l0.length : Int) = (l1.length : Int) then (switchboardref15_Same.l0 k l0 l1 0) else (some false)) = some r := h
  clear h
  by_cases c3 : (l0.length : Int) = (l1.length : Int)
  · rw [if_pos c3] at H
    have c3b0 : ((l0.length : Int) == (l1.length : Int)) = true := beq_iff_eq.mpr c3
    have c3b1 : ((l0.length : Int) != (l1.length : Int)) = false := bne_eq_false_iff_eq.mpr c3
    have c3b2 : (l0.length == l1.length) = true := by first | simpa using c3 | (simp at c3 ⊢; omega)
    clear c3
    have H' := Aside0.mk H
    clear H
    go_enter Try.func19, Try.ntmps19
    go_wp2
    repeat (go_quiet (fail); try go_wp2)
    go_loopg [5] k (fun kq v5 w' => ∃ (x5_1 : Int), v5 = .int .i64 x5_1 ∧ Aside0 (switchboardref15_Same.l0 kq l0 l1 x5_1 = some r) ∧ Aside0 (kq ≤ k) ∧ Drawn0 w w')
    case atStart => exact ⟨(0), (by first | rfl | (simp; done) | (simp [*]; done)), H', ⟨Nat.le_refl _⟩, by repeat (first | exact Drawn0.refl _ | apply Drawn0.step)⟩
    case round =>
      clear H'
      try clear c1
      try clear p2
      try clear c3
      try clear c3b0
      try clear c3b1
      try clear c3b2
      obtain ⟨x5_1, rfl, HA, HK1, ⟨m1, rfl⟩⟩ := hrel
      cases gk with
      | zero => exact absurd HA.out (by simp [switchboardref15_Same.l0])
      | succ k1 =>
        have H := HA.out
        clear HA
        simp only [switchboardref15_Same.l0] at H
        by_cases c4 : x5_1 < (l0.length : Int)
        · rw [if_pos c4] at H
          have c4b0 : decide (x5_1 < (l0.length : Int)) = true := decide_eq_true c4
          clear c4
          by_cases c5 : 0 ≤ x5_1
          · rw [if_pos c5] at H
            have c5b0 : decide (0 ≤ x5_1) = true := decide_eq_true c5
            clear c5
            by_cases c6 : x5_1 < (l1.length : Int)
            · rw [if_pos c6] at H
              have c6b0 : decide (x5_1 < (l1.length : Int)) = true := decide_eq_true c6
              clear c6
              replace H := Option.bind_eq_some_iff.mp H
              obtain ⟨t255, A70, H⟩ := H
              replace H : (if t255 = true then (switchboardref15_Same.l0 k1 l0 l1 (wrap64 (x5_1 + 1))) else (some false)) = some r := H
              have A7 := Aside0.mk A70
              clear A70
              by_cases c8 : t255 = true
              · subst c8
                have H1 : (switchboardref15_Same.l0 k1 l0 l1 (wrap64 (x5_1 + 1))) = some r := by rw [if_pos rfl] at H; exact H
                clear H
                have H := H1
                clear H1
                have H' := Aside0.mk H
                clear H
                have p253 : 0 ≤ (x5_1 : Int) := of_decide_eq_true (by first | (with_reducible assumption) | assumption)
                have q253 : x5_1 < (l0.length : Int) := of_decide_eq_true (by first | (with_reducible assumption) | assumption)
                obtain ⟨ad253, A253_0, c253_0, e253, hx253_0, hl253_0, hi253_0⟩ := at_L1 HR0.out x5_1 p253 q253
                cases e253
                have HR253_0 := Aside0.mk hi253_0
                have HC253_0 := Aside0.mk hl253_0
                clear hi253_0 hl253_0
                replace p253 := eq_true p253
                replace q253 := eq_true q253
                have p254 : 0 ≤ (x5_1 : Int) := of_decide_eq_true (by first | (with_reducible assumption) | assumption)
                have q254 : x5_1 < (l1.length : Int) := of_decide_eq_true (by first | (with_reducible assumption) | assumption)
                obtain ⟨ad254, A254_0, c254_0, e254, hx254_0, hl254_0, hi254_0⟩ := at_L1 HR1.out x5_1 p254 q254
                cases e254
                have HR254_0 := Aside0.mk hi254_0
                have HC254_0 := Aside0.mk hl254_0
                clear hi254_0 hl254_0
                replace p254 := eq_true p254
                replace q254 := eq_true q254
                go_wp2_with (first | (go_at_call 37; (with_reducible refine (switchboardref02_Same.calls k1 _ _ (rd_L1 l0 x5_1) _ _ (rd_L1 l1 x5_1) true _ ?side1 ?side2 ?side3 ?side4 A7.out).mono ?_); (case side1 => repeat (first | exact HR253_0.out | (with_reducible refine Kd.C_alloc ?_ _) | (with_reducible refine Kd.C_drewN ?_ _) | (with_reducible refine Kd.C_drew ?_))); (case side2 => exact HC253_0.out); (case side3 => repeat (first | exact HR254_0.out | (with_reducible refine Kd.C_alloc ?_ _) | (with_reducible refine Kd.C_drewN ?_ _) | (with_reducible refine Kd.C_drew ?_))); (case side4 => exact HC254_0.out); rintro e w' ⟨rfl, ⟨nd, rfl⟩⟩; (try first | exact ⟨rfl, _, World.drewN_drewN _ _ _⟩ | exact ⟨rfl, _, Eq.trans (World.drewN_drewN _ _ _) (congrArg (World.drewN _) (Nat.add_assoc _ _ _))⟩)))
                repeat (go_quiet (first | (go_at_call 37; (with_reducible refine (switchboardref02_Same.calls k1 _ _ (rd_L1 l0 x5_1) _ _ (rd_L1 l1 x5_1) true _ ?side1 ?side2 ?side3 ?side4 A7.out).mono ?_); (case side1 => repeat (first | exact HR253_0.out | (with_reducible refine Kd.C_alloc ?_ _) | (with_reducible refine Kd.C_drewN ?_ _) | (with_reducible refine Kd.C_drew ?_))); (case side2 => exact HC253_0.out); (case side3 => repeat (first | exact HR254_0.out | (with_reducible refine Kd.C_alloc ?_ _) | (with_reducible refine Kd.C_drewN ?_ _) | (with_reducible refine Kd.C_drew ?_))); (case side4 => exact HC254_0.out); rintro e w' ⟨rfl, ⟨nd, rfl⟩⟩; (try first | exact ⟨rfl, _, World.drewN_drewN _ _ _⟩ | exact ⟨rfl, _, Eq.trans (World.drewN_drewN _ _ _) (congrArg (World.drewN _) (Nat.add_assoc _ _ _))⟩))); try go_wp2_with (first | (go_at_call 37; (with_reducible refine (switchboardref02_Same.calls k1 _ _ (rd_L1 l0 x5_1) _ _ (rd_L1 l1 x5_1) true _ ?side1 ?side2 ?side3 ?side4 A7.out).mono ?_); (case side1 => repeat (first | exact HR253_0.out | (with_reducible refine Kd.C_alloc ?_ _) | (with_reducible refine Kd.C_drewN ?_ _) | (with_reducible refine Kd.C_drew ?_))); (case side2 => exact HC253_0.out); (case side3 => repeat (first | exact HR254_0.out | (with_reducible refine Kd.C_alloc ?_ _) | (with_reducible refine Kd.C_drewN ?_ _) | (with_reducible refine Kd.C_drew ?_))); (case side4 => exact HC254_0.out); rintro e w' ⟨rfl, ⟨nd, rfl⟩⟩; (try first | exact ⟨rfl, _, World.drewN_drewN _ _ _⟩ | exact ⟨rfl, _, Eq.trans (World.drewN_drewN _ _ _) (congrArg (World.drewN _) (Nat.add_assoc _ _ _))⟩))))
                go_roundg k1
                case measure => have := HK1.out; omega
                case rel => exact ⟨(wrap64 (x5_1 + 1)), (by first | rfl | (simp; done) | (simp [*]; done)), H', ⟨by have := HK1.out; omega⟩, by repeat (first | exact Drawn0.refl _ | apply Drawn0.step)⟩
              · replace c8 := Bool.eq_false_iff.mpr c8
                subst c8
                have H1 : (some false) = some r := by rw [if_neg (show ¬ (false = true) by decide)] at H; exact H
                clear H
                have H := H1
                clear H1
                obtain rfl := Option.some.inj H
                have p253 : 0 ≤ (x5_1 : Int) := of_decide_eq_true (by first | (with_reducible assumption) | assumption)
                have q253 : x5_1 < (l0.length : Int) := of_decide_eq_true (by first | (with_reducible assumption) | assumption)
                obtain ⟨ad253, A253_0, c253_0, e253, hx253_0, hl253_0, hi253_0⟩ := at_L1 HR0.out x5_1 p253 q253
                cases e253
                have HR253_0 := Aside0.mk hi253_0
                have HC253_0 := Aside0.mk hl253_0
                clear hi253_0 hl253_0
                replace p253 := eq_true p253
                replace q253 := eq_true q253
                have p254 : 0 ≤ (x5_1 : Int) := of_decide_eq_true (by first | (with_reducible assumption) | assumption)
                have q254 : x5_1 < (l1.length : Int) := of_decide_eq_true (by first | (with_reducible assumption) | assumption)
                obtain ⟨ad254, A254_0, c254_0, e254, hx254_0, hl254_0, hi254_0⟩ := at_L1 HR1.out x5_1 p254 q254
                cases e254
                have HR254_0 := Aside0.mk hi254_0
                have HC254_0 := Aside0.mk hl254_0
                clear hi254_0 hl254_0
                replace p254 := eq_true p254
                replace q254 := eq_true q254
                go_wp2_with (first | (go_at_call 37; (with_reducible refine (switchboardref02_Same.calls k1 _ _ (rd_L1 l0 x5_1) _ _ (rd_L1 l1 x5_1) false _ ?side1 ?side2 ?side3 ?side4 A7.out).mono ?_); (case side1 => repeat (first | exact HR253_0.out | (with_reducible refine Kd.C_alloc ?_ _) | (with_reducible refine Kd.C_drewN ?_ _) | (with_reducible refine Kd.C_drew ?_))); (case side2 => exact HC253_0.out); (case side3 => repeat (first | exact HR254_0.out | (with_reducible refine Kd.C_alloc ?_ _) | (with_reducible refine Kd.C_drewN ?_ _) | (with_reducible refine Kd.C_drew ?_))); (case side4 => exact HC254_0.out); rintro e w' ⟨rfl, ⟨nd, rfl⟩⟩; (try first | exact ⟨rfl, _, World.drewN_drewN _ _ _⟩ | exact ⟨rfl, _, Eq.trans (World.drewN_drewN _ _ _) (congrArg (World.drewN _) (Nat.add_assoc _ _ _))⟩)))
                repeat (go_quiet (first | (go_at_call 37; (with_reducible refine (switchboardref02_Same.calls k1 _ _ (rd_L1 l0 x5_1) _ _ (rd_L1 l1 x5_1) false _ ?side1 ?side2 ?side3 ?side4 A7.out).mono ?_); (case side1 => repeat (first | exact HR253_0.out | (with_reducible refine Kd.C_alloc ?_ _) | (with_reducible refine Kd.C_drewN ?_ _) | (with_reducible refine Kd.C_drew ?_))); (case side2 => exact HC253_0.out); (case side3 => repeat (first | exact HR254_0.out | (with_reducible refine Kd.C_alloc ?_ _) | (with_reducible refine Kd.C_drewN ?_ _) | (with_reducible refine Kd.C_drew ?_))); (case side4 => exact HC254_0.out); rintro e w' ⟨rfl, ⟨nd, rfl⟩⟩; (try first | exact ⟨rfl, _, World.drewN_drewN _ _ _⟩ | exact ⟨rfl, _, Eq.trans (World.drewN_drewN _ _ _) (congrArg (World.drewN _) (Nat.add_assoc _ _ _))⟩))); try go_wp2_with (first | (go_at_call 37; (with_reducible refine (switchboardref02_Same.calls k1 _ _ (rd_L1 l0 x5_1) _ _ (rd_L1 l1 x5_1) false _ ?side1 ?side2 ?side3 ?side4 A7.out).mono ?_); (case side1 => repeat (first | exact HR253_0.out | (with_reducible refine Kd.C_alloc ?_ _) | (with_reducible refine Kd.C_drewN ?_ _) | (with_reducible refine Kd.C_drew ?_))); (case side2 => exact HC253_0.out); (case side3 => repeat (first | exact HR254_0.out | (with_reducible refine Kd.C_alloc ?_ _) | (with_reducible refine Kd.C_drewN ?_ _) | (with_reducible refine Kd.C_drew ?_))); (case side4 => exact HC254_0.out); rintro e w' ⟨rfl, ⟨nd, rfl⟩⟩; (try first | exact ⟨rfl, _, World.drewN_drewN _ _ _⟩ | exact ⟨rfl, _, Eq.trans (World.drewN_drewN _ _ _) (congrArg (World.drewN _) (Nat.add_assoc _ _ _))⟩))))
                go_ret
                exact ⟨by first | rfl | (simp; done) | (simp [*]; done), by repeat (first | exact Drawn0.refl _ | apply Drawn0.step)⟩
            · rw [if_neg c6] at H
              exact absurd H (by simp)
          · rw [if_neg c5] at H
            exact absurd H (by simp)
        · rw [if_neg c4] at H
          have c4b0 : decide (x5_1 < (l0.length : Int)) = false := decide_eq_false c4
          clear c4
          obtain rfl := Option.some.inj H
          go_wp2
          repeat (go_quiet (fail); try go_wp2)
          go_ret
          exact ⟨by first | rfl | (simp; done) | (simp [*]; done), by repeat (first | exact Drawn0.refl _ | apply Drawn0.step)⟩
  · rw [if_neg c3] at H
    have c3b0 : ((l0.length : Int) == (l1.length : Int)) = false := beq_eq_false_iff_ne.mpr c3
    have c3b1 : ((l0.length : Int) != (l1.length : Int)) = true := bne_iff_ne.mpr c3
    have c3b2 : (l0.length == l1.length) = false := by first | simpa using c3 | (simp at c3 ⊢; omega)
    obtain rfl := Option.some.inj H
    go_enter Try.func19, Try.ntmps19
    go_wp2
    repeat (go_quiet (fail); try go_wp2)
    go_ret
    exact ⟨by first | rfl | (simp; done) | (simp [*]; done), by repeat (first | exact Drawn0.refl _ | apply Drawn0.step)⟩

/-! ### switchboardlaw15_ModelFirst: function 7 -/
def switchboardlaw15_ModelFirst.j0 : Nat → List (List Int) → Int → Bool → Int → List (S37) → Option (Bool)
  | 0, _, _, _, _, _ => none
  | k + 1, x1, x2, x30, x257000, x257001 => if x30 = true then ((switchboardlaw15_awake.f).bind fun t261 => (some t261)) else (if (x1.length : Int) = 0 then (none) else ((model_Forward.f k x257000 x257001 x1).bind fun bt262 => (if 0 ≤ (wrap64 (1 + (Int.tmod (wrap64 (x2)) (x1.length : Int)))) then (if (wrap64 (1 + (Int.tmod (wrap64 (x2)) (x1.length : Int)))) ≤ (x1.length : Int) then ((model_Forward.f k x257000 x257001 (x1.take ((wrap64 (1 + (Int.tmod (wrap64 (x2)) (x1.length : Int)))) : Int).toNat)).bind fun bt270 => (if bt262.2 = 0 then (if bt270.2 = 0 then (if (bt262.1.length : Int) = (x1.length : Int) then (if (wrap64 (1 + (Int.tmod (wrap64 (x2)) (x1.length : Int)))) ≤ (bt262.1.length : Int) then ((switchboardref15_Same.f k (bt262.1.take ((wrap64 (1 + (Int.tmod (wrap64 (x2)) (x1.length : Int)))) : Int).toNat) bt270.1).bind fun t279 => (if t279 = true then ((switchboardlaw15_awake.f).bind fun t280 => (some t280)) else (some false))) else (none)) else (some false)) else (some false)) else (some false))) else (none)) else (none))))
def switchboardlaw15_ModelFirst.f (k : Nat) (a0_0 : Int) (l0_1 : List (S37)) (l1 : List (List Int)) (a2 : Int) : Option (Bool) := (switchboardref15_Small.f k a0_0 l0_1).bind fun t257 => (if t257 = true then ((switchboardref03_Small.f k l1).bind fun t258 => (if t258 = true then ((switchboardref15_Right.f k a0_0 l0_1).bind fun t259 => (if t259 = true then ((switchboardref15_Tokens.f k a0_0 l0_1 l1).bind fun t260 => (switchboardlaw15_ModelFirst.j0 k l1 a2 (!t260) a0_0 l0_1)) else (switchboardlaw15_ModelFirst.j0 k l1 a2 true a0_0 l0_1))) else (switchboardlaw15_ModelFirst.j0 k l1 a2 true a0_0 l0_1))) else (switchboardlaw15_ModelFirst.j0 k l1 a2 true a0_0 l0_1))
theorem switchboardlaw15_ModelFirst.mono_l : ∀ k, (∀ y0 y1 y2 y3 y4, LeO (switchboardlaw15_ModelFirst.j0 k y0 y1 y2 y3 y4) (switchboardlaw15_ModelFirst.j0 (k + 1) y0 y1 y2 y3 y4))
  | 0 => fun _ _ _ _ _ r h => by simp [switchboardlaw15_ModelFirst.j0] at h
  | k + 1 => by
    have ih0 := switchboardlaw15_ModelFirst.mono_l k
    · intro y0 y1 y2 y3 y4
      unfold switchboardlaw15_ModelFirst.j0
      repeat' first
      | (with_reducible exact ih0 _ _ _ _ _)
      | (with_reducible exact model_Forward.mono _ _ _ _)
      | (with_reducible exact switchboardref03_Small.mono _ _)
      | (with_reducible exact switchboardref15_Right.mono _ _ _)
      | (with_reducible exact switchboardref15_Same.mono _ _ _)
      | (with_reducible exact switchboardref15_Small.mono _ _ _)
      | (with_reducible exact switchboardref15_Tokens.mono _ _ _ _)
      | (with_reducible exact LeO.refl _)
      | (with_reducible exact LeO.none _)
      | (with_reducible refine LeO.ite ?_ ?_)
      | (with_reducible refine LeO.bind ?_ (fun _ => ?_))
      | exact ih0 _ _ _ _ _
      | exact model_Forward.mono _ _ _ _
      | exact switchboardref03_Small.mono _ _
      | exact switchboardref15_Right.mono _ _ _
      | exact switchboardref15_Same.mono _ _ _
      | exact switchboardref15_Small.mono _ _ _
      | exact switchboardref15_Tokens.mono _ _ _ _
      | exact LeO.none _
      | refine LeO.ite ?_ ?_
      | refine LeO.bind ?_ (fun _ => ?_)
theorem switchboardlaw15_ModelFirst.mono : ∀ a0 a1 a2 a3 k, LeO (switchboardlaw15_ModelFirst.f k a0 a1 a2 a3) (switchboardlaw15_ModelFirst.f (k + 1) a0 a1 a2 a3) := by
  intro a0 a1 a2 a3 k
  have ih0 := switchboardlaw15_ModelFirst.mono_l k
  unfold switchboardlaw15_ModelFirst.f
  repeat' first
      | (with_reducible exact ih0 _ _ _ _ _)
      | (with_reducible exact model_Forward.mono _ _ _ _)
      | (with_reducible exact switchboardref03_Small.mono _ _)
      | (with_reducible exact switchboardref15_Right.mono _ _ _)
      | (with_reducible exact switchboardref15_Same.mono _ _ _)
      | (with_reducible exact switchboardref15_Small.mono _ _ _)
      | (with_reducible exact switchboardref15_Tokens.mono _ _ _ _)
      | (with_reducible exact LeO.refl _)
      | (with_reducible exact LeO.none _)
      | (with_reducible refine LeO.ite ?_ ?_)
      | (with_reducible refine LeO.bind ?_ (fun _ => ?_))
      | exact ih0 _ _ _ _ _
      | exact model_Forward.mono _ _ _ _
      | exact switchboardref03_Small.mono _ _
      | exact switchboardref15_Right.mono _ _ _
      | exact switchboardref15_Same.mono _ _ _
      | exact switchboardref15_Small.mono _ _ _
      | exact switchboardref15_Tokens.mono _ _ _ _
      | exact LeO.none _
      | refine LeO.ite ?_ ?_
      | refine LeO.bind ?_ (fun _ => ?_)
def switchboardlaw15_ModelFirst.T5 : Bool × List (List Nat × List Nat) := (true, [([], []), ([], []), ([], []), ([1, 2], [1, 2]), ([0, 3], [0, 3]), ([4], [4]), ([5], [5]), ([5], [5]), ([6, 4, 0, 1, 2, 3, 4, 5, 6], [6]), ([7, 8, 0, 1, 2, 3, 4, 5, 6, 7, 8], [7])])
def switchboardlaw15_ModelFirst.B5 : List Nat := [0, 0, 0, 6, 15, 31, 63, 63, 127, 511]
theorem switchboardlaw15_ModelFirst.tab5 : rtab .any (opsOf Try.f7 5) = switchboardlaw15_ModelFirst.T5 := by kernel_rfl
theorem switchboardlaw15_ModelFirst.bits5 : waitsOk switchboardlaw15_ModelFirst.T5.2 switchboardlaw15_ModelFirst.B5 = true := by kernel_rfl
set_option maxHeartbeats 8000000 in
set_option maxRecDepth 100000 in
theorem switchboardlaw15_ModelFirst.calls (k : Nat) (a0_0 : Int) (A0_1 : Option Addr) (c0_1 : Nat) (l0_1 : List (S37)) (A1 : Option Addr) (c1 : Nat) (l1 : List (List Int)) (a2 : Int) (w : World) (hr0_1 : Kd.C k37 w A0_1 l0_1.length l0_1) (hc0_1 : l0_1.length ≤ c0_1) (hr1 : Kd.C (Kd.slice 3 (Kd.int .i64)) w A1 l1.length l1) (hc1 : l1.length ≤ c1) (h : switchboardlaw15_ModelFirst.f k a0_0 l0_1 l1 a2 = some true) :
    Calls Try.prog 7 #[.agg #[.int .i64 a0_0, .slice A0_1 l0_1.length c0_1], .slice A1 l1.length c1, .int .u8 a2] w fun e w' => e = .returned (.bool true) ∧ Below w.heap.size w w' := by
  have hu24 := Try.underlying24
  have HR0_1 := Aside0.mk hr0_1
  have HC0_1 := Aside0.mk hc0_1
  clear hr0_1 hc0_1
  have HR1 := Aside0.mk hr1
  have HC1 := Aside0.mk hc1
  clear hr1 hc1
  have HB := Aside0.mk (Below.refl w.heap.size w)
  have H : ((switchboardref15_Small.f k a0_0 l0_1).bind fun t257 => (if t257 = true then ((switchboardref03_Small.f k l1).bind fun t258 => (if t258 = true then ((switchboardref15_Right.f k a0_0 l0_1).bind fun t259 => (if t259 = true then ((switchboardref15_Tokens.f k a0_0 l0_1 l1).bind fun t260 => (switchboardlaw15_ModelFirst.j0 k l1 a2 (!t260) a0_0 l0_1)) else (switchboardlaw15_ModelFirst.j0 k l1 a2 true a0_0 l0_1))) else (switchboardlaw15_ModelFirst.j0 k l1 a2 true a0_0 l0_1))) else (switchboardlaw15_ModelFirst.j0 k l1 a2 true a0_0 l0_1))) = some true := h
  clear h
  have HC4 := Aside0.mk H
  clear H
  go_enter Try.func7, Try.ntmps7
  go_upto_region 1 with (first | ((with_reducible refine gate_dst (N := 3) rfl ?_); (try (refine gate_guard (by rfl) ?_; dsimp only)); refine box_event ?hg (N := 3) ?hd (cs := #[.int .i64 a0_0, .slice A0_1 l0_1.length c0_1]) (t := 24) ?hr ?_; (case hd => rfl); (case hg => rfl); (case hr => first | (go_simp; done) | (go_simp; rfl)); intro gb256 hg w5 hbox hb; have n0_ := Aside0.mk (below_step (by repeat (first | (with_reducible first | exact HB.out | apply below_alloc | apply pw_below_drewN | apply below_drew1) | exact HB.out)) hb); have n1_ := Aside0.mk (hbox); have n2_ := Aside0.mk ((by rw [hg]; exact (below_size (by repeat (first | (with_reducible first | exact HB.out | apply below_alloc | apply pw_below_drewN | apply below_drew1) | exact HB.out))) : w.heap.size ≤ gb256)); have n3_ := Aside0.mk ((by rw [hg]; exact (below_size (by repeat (first | (with_reducible first | exact HB.out | apply below_alloc | apply pw_below_drewN | apply below_drew1) | exact HB.out))) : w.heap.size ≤ gb256)); clear HB; have HB := n0_; have BK256 := n1_; have GW256 := n2_; have GE256 := n3_; clear n0_ n1_ n2_ n3_; clear hb hbox hg))
  (try simp only [Act.put, List.setIfInBounds_toArray, List.set_cons_zero, List.set_cons_succ])
  go_cut [30] (fun v30 wc => ∃ (kq : Nat) (x30_3 : Bool), v30 = .bool x30_3 ∧ Aside0 (switchboardlaw15_ModelFirst.j0 kq l1 a2 x30_3 a0_0 l0_1 = some true) ∧ Aside0 (kq ≤ k) ∧ Aside0 (wc.heap[gb256]? = some (.cells #[.int .i64 a0_0, (.slice A0_1 l0_1.length c0_1)] 24 (0, 0))) ∧ Aside0 (Below w.heap.size w wc))
  case first =>
    have H := HC4.out
    clear HC4
    replace H := Option.bind_eq_some_iff.mp H
    obtain ⟨t257, A60, H⟩ := H
    replace H : (if t257 = true then ((switchboardref03_Small.f k l1).bind fun t258 => (if t258 = true then ((switchboardref15_Right.f k a0_0 l0_1).bind fun t259 => (if t259 = true then ((switchboardref15_Tokens.f k a0_0 l0_1 l1).bind fun t260 => (switchboardlaw15_ModelFirst.j0 k l1 a2 (!t260) a0_0 l0_1)) else (switchboardlaw15_ModelFirst.j0 k l1 a2 true a0_0 l0_1))) else (switchboardlaw15_ModelFirst.j0 k l1 a2 true a0_0 l0_1))) else (switchboardlaw15_ModelFirst.j0 k l1 a2 true a0_0 l0_1)) = some true := H
    have A6 := Aside0.mk A60
    clear A60
    by_cases c7 : t257 = true
    · subst c7
      have H1 : ((switchboardref03_Small.f k l1).bind fun t258 => (if t258 = true then ((switchboardref15_Right.f k a0_0 l0_1).bind fun t259 => (if t259 = true then ((switchboardref15_Tokens.f k a0_0 l0_1 l1).bind fun t260 => (switchboardlaw15_ModelFirst.j0 k l1 a2 (!t260) a0_0 l0_1)) else (switchboardlaw15_ModelFirst.j0 k l1 a2 true a0_0 l0_1))) else (switchboardlaw15_ModelFirst.j0 k l1 a2 true a0_0 l0_1))) = some true := by rw [if_pos rfl] at H; exact H
      clear H
      have H := H1
      clear H1
      replace H := Option.bind_eq_some_iff.mp H
      obtain ⟨t258, A80, H⟩ := H
      replace H : (if t258 = true then ((switchboardref15_Right.f k a0_0 l0_1).bind fun t259 => (if t259 = true then ((switchboardref15_Tokens.f k a0_0 l0_1 l1).bind fun t260 => (switchboardlaw15_ModelFirst.j0 k l1 a2 (!t260) a0_0 l0_1)) else (switchboardlaw15_ModelFirst.j0 k l1 a2 true a0_0 l0_1))) else (switchboardlaw15_ModelFirst.j0 k l1 a2 true a0_0 l0_1)) = some true := H
      have A8 := Aside0.mk A80
      clear A80
      by_cases c9 : t258 = true
      · subst c9
        have H1 : ((switchboardref15_Right.f k a0_0 l0_1).bind fun t259 => (if t259 = true then ((switchboardref15_Tokens.f k a0_0 l0_1 l1).bind fun t260 => (switchboardlaw15_ModelFirst.j0 k l1 a2 (!t260) a0_0 l0_1)) else (switchboardlaw15_ModelFirst.j0 k l1 a2 true a0_0 l0_1))) = some true := by rw [if_pos rfl] at H; exact H
        clear H
        have H := H1
        clear H1
        replace H := Option.bind_eq_some_iff.mp H
        obtain ⟨t259, A100, H⟩ := H
        replace H : (if t259 = true then ((switchboardref15_Tokens.f k a0_0 l0_1 l1).bind fun t260 => (switchboardlaw15_ModelFirst.j0 k l1 a2 (!t260) a0_0 l0_1)) else (switchboardlaw15_ModelFirst.j0 k l1 a2 true a0_0 l0_1)) = some true := H
        have A10 := Aside0.mk A100
        clear A100
        by_cases c11 : t259 = true
        · subst c11
          have H1 : ((switchboardref15_Tokens.f k a0_0 l0_1 l1).bind fun t260 => (switchboardlaw15_ModelFirst.j0 k l1 a2 (!t260) a0_0 l0_1)) = some true := by rw [if_pos rfl] at H; exact H
          clear H
          have H := H1
          clear H1
          replace H := Option.bind_eq_some_iff.mp H
          obtain ⟨t260, A120, H⟩ := H
          replace H : (switchboardlaw15_ModelFirst.j0 k l1 a2 (!t260) a0_0 l0_1) = some true := H
          have A12 := Aside0.mk A120
          clear A120
          have H' := Aside0.mk H
          clear H
          have hcz13_0 : w5.cell? ⟨gb256, 0, none⟩ = some (.int .i64 a0_0) := (blk_cell BK256.out 0).trans rfl
          have hcz13_1 : w5.cell? ⟨gb256, 1, none⟩ = some (.slice A0_1 l0_1.length c0_1) := (blk_cell BK256.out 1).trans rfl
          have hfz13_0 := blk_frozen BK256.out 0
          have hfz13_1 := blk_frozen BK256.out 1
          go_wp2_with (first | ((with_reducible refine gate_callee (f := 9) rfl ?_); refine goesL_ (some 13) rfl rfl Try.func9 (by kernel_rfl) rfl #[.agg #[.int .i64 a0_0, .slice A0_1 l0_1.length c0_1]] rfl (by (try simp only [List.map_toArray, List.map_cons, List.map_nil]); first | done | rfl | (simp only [List.length_drop, List.length_take]; rfl)) ?_; (with_reducible refine (switchboardref15_Small.calls k a0_0 _ _ l0_1 true _ ?side1 ?side2 A6.out).mono ?_); (case side1 => repeat (first | exact (Kd.C_below HR0_1.out HB.out) | (with_reducible refine Kd.C_alloc ?_ _) | (with_reducible refine Kd.C_drewN ?_ _) | (with_reducible refine Kd.C_drew ?_))); (case side2 => exact HC0_1.out); rintro e w14 ⟨rfl, hb⟩; refine ⟨_, rfl, ?_⟩; have n0_ := Aside0.mk (blk_below (g := gb256) (o := .cells #[.int .i64 a0_0, .slice A0_1 l0_1.length c0_1] 24 (0, 0)) (by (with_reducible repeat (first | refine blk_drewN ?_ _ | refine blk_drew ?_ | refine blk_alloc ?_ _)); exact BK256.out) hb); have n1_ := Aside0.mk (below_step (by repeat (first | (with_reducible first | exact HB.out | apply below_alloc | apply pw_below_drewN | apply below_drew1 | refine below_set ?_ GE256.out) | exact HB.out)) hb); clear BK256; clear HB; have BK256 := n0_; have HB := n1_; clear n0_ n1_; (try clear hb); (try clear hb2); (try clear hk); (try clear hi)) | (go_at_call 10; (with_reducible refine (switchboardref03_Small.calls k _ _ l1 true _ ?side1 ?side2 A8.out).mono ?_); (case side1 => repeat (first | exact (Kd.C_below HR1.out HB.out) | (with_reducible refine Kd.C_alloc ?_ _) | (with_reducible refine Kd.C_drewN ?_ _) | (with_reducible refine Kd.C_drew ?_))); (case side2 => exact HC1.out); rintro e w' ⟨rfl, ⟨nd, rfl⟩⟩; have hcz15_0 : w14.cell? ⟨gb256, 0, none⟩ = some (.int .i64 a0_0) := (blk_cell BK256.out 0).trans rfl; have hcz15_1 : w14.cell? ⟨gb256, 1, none⟩ = some (.slice A0_1 l0_1.length c0_1) := (blk_cell BK256.out 1).trans rfl; have hfz15_0 := blk_frozen BK256.out 0; have hfz15_1 := blk_frozen BK256.out 1) | (go_at_call 13; (with_reducible refine (switchboardref15_Right.calls k a0_0 _ _ l0_1 true _ ?side1 ?side2 A10.out).mono ?_); (case side1 => repeat (first | exact (Kd.C_below HR0_1.out (by repeat (first | (with_reducible first | exact HB.out | apply below_alloc | apply pw_below_drewN | apply below_drew1 | refine below_set ?_ GE256.out) | exact HB.out))) | (with_reducible refine Kd.C_alloc ?_ _) | (with_reducible refine Kd.C_drewN ?_ _) | (with_reducible refine Kd.C_drew ?_))); (case side2 => exact HC0_1.out); rintro e w16 ⟨rfl, hb⟩; have n0_ := Aside0.mk (blk_below (g := gb256) (o := .cells #[.int .i64 a0_0, .slice A0_1 l0_1.length c0_1] 24 (0, 0)) (by (with_reducible repeat (first | refine blk_drewN ?_ _ | refine blk_drew ?_ | refine blk_alloc ?_ _)); exact BK256.out) hb); have n1_ := Aside0.mk (below_step (by repeat (first | (with_reducible first | exact HB.out | apply below_alloc | apply pw_below_drewN | apply below_drew1 | refine below_set ?_ GE256.out) | exact HB.out)) hb); clear BK256; clear HB; have BK256 := n0_; have HB := n1_; clear n0_ n1_; (try clear hb); (try clear hb2); (try clear hk); (try clear hi); have hcz17_0 : w16.cell? ⟨gb256, 0, none⟩ = some (.int .i64 a0_0) := (blk_cell BK256.out 0).trans rfl; have hcz17_1 : w16.cell? ⟨gb256, 1, none⟩ = some (.slice A0_1 l0_1.length c0_1) := (blk_cell BK256.out 1).trans rfl; have hfz17_0 := blk_frozen BK256.out 0; have hfz17_1 := blk_frozen BK256.out 1) | (go_at_call 14; (with_reducible refine (switchboardref15_Tokens.calls k a0_0 _ _ l0_1 _ _ l1 t260 _ ?side1 ?side2 ?side3 ?side4 A12.out).mono ?_); (case side1 => repeat (first | exact (Kd.C_below HR0_1.out HB.out) | (with_reducible refine Kd.C_alloc ?_ _) | (with_reducible refine Kd.C_drewN ?_ _) | (with_reducible refine Kd.C_drew ?_))); (case side2 => exact HC0_1.out); (case side3 => repeat (first | exact (Kd.C_below HR1.out HB.out) | (with_reducible refine Kd.C_alloc ?_ _) | (with_reducible refine Kd.C_drewN ?_ _) | (with_reducible refine Kd.C_drew ?_))); (case side4 => exact HC1.out); rintro e w18 ⟨rfl, hb⟩; have n0_ := Aside0.mk (blk_below (g := gb256) (o := .cells #[.int .i64 a0_0, .slice A0_1 l0_1.length c0_1] 24 (0, 0)) (by (with_reducible repeat (first | refine blk_drewN ?_ _ | refine blk_drew ?_ | refine blk_alloc ?_ _)); exact BK256.out) hb); have n1_ := Aside0.mk (below_step (by repeat (first | (with_reducible first | exact HB.out | apply below_alloc | apply pw_below_drewN | apply below_drew1 | refine below_set ?_ GE256.out) | exact HB.out)) hb); clear BK256; clear HB; have BK256 := n0_; have HB := n1_; clear n0_ n1_; (try clear hb); (try clear hb2); (try clear hk); (try clear hi)))
          go_meet
          case rel => exact ⟨_, (!t260), (by first | rfl | (simp; done) | (simp [*]; done)), H', ⟨by first | omega | exact Nat.le_refl _⟩, ⟨by (with_reducible repeat (first | refine blk_drewN ?_ _ | refine blk_drew ?_ | refine blk_alloc ?_ _)); exact BK256.out⟩, ⟨by repeat (first | (with_reducible first | exact HB.out | apply below_alloc | apply pw_below_drewN | apply below_drew1 | refine below_set ?_ GE256.out) | exact HB.out)⟩⟩
        · replace c11 := Bool.eq_false_iff.mpr c11
          subst c11
          have H1 : (switchboardlaw15_ModelFirst.j0 k l1 a2 true a0_0 l0_1) = some true := by rw [if_neg (show ¬ (false = true) by decide)] at H; exact H
          clear H
          have H := H1
          clear H1
          have H' := Aside0.mk H
          clear H
          have hcz19_0 : w5.cell? ⟨gb256, 0, none⟩ = some (.int .i64 a0_0) := (blk_cell BK256.out 0).trans rfl
          have hcz19_1 : w5.cell? ⟨gb256, 1, none⟩ = some (.slice A0_1 l0_1.length c0_1) := (blk_cell BK256.out 1).trans rfl
          have hfz19_0 := blk_frozen BK256.out 0
          have hfz19_1 := blk_frozen BK256.out 1
          go_wp2_with (first | ((with_reducible refine gate_callee (f := 9) rfl ?_); refine goesL_ (some 13) rfl rfl Try.func9 (by kernel_rfl) rfl #[.agg #[.int .i64 a0_0, .slice A0_1 l0_1.length c0_1]] rfl (by (try simp only [List.map_toArray, List.map_cons, List.map_nil]); first | done | rfl | (simp only [List.length_drop, List.length_take]; rfl)) ?_; (with_reducible refine (switchboardref15_Small.calls k a0_0 _ _ l0_1 true _ ?side1 ?side2 A6.out).mono ?_); (case side1 => repeat (first | exact (Kd.C_below HR0_1.out HB.out) | (with_reducible refine Kd.C_alloc ?_ _) | (with_reducible refine Kd.C_drewN ?_ _) | (with_reducible refine Kd.C_drew ?_))); (case side2 => exact HC0_1.out); rintro e w20 ⟨rfl, hb⟩; refine ⟨_, rfl, ?_⟩; have n0_ := Aside0.mk (blk_below (g := gb256) (o := .cells #[.int .i64 a0_0, .slice A0_1 l0_1.length c0_1] 24 (0, 0)) (by (with_reducible repeat (first | refine blk_drewN ?_ _ | refine blk_drew ?_ | refine blk_alloc ?_ _)); exact BK256.out) hb); have n1_ := Aside0.mk (below_step (by repeat (first | (with_reducible first | exact HB.out | apply below_alloc | apply pw_below_drewN | apply below_drew1 | refine below_set ?_ GE256.out) | exact HB.out)) hb); clear BK256; clear HB; have BK256 := n0_; have HB := n1_; clear n0_ n1_; (try clear hb); (try clear hb2); (try clear hk); (try clear hi)) | (go_at_call 10; (with_reducible refine (switchboardref03_Small.calls k _ _ l1 true _ ?side1 ?side2 A8.out).mono ?_); (case side1 => repeat (first | exact (Kd.C_below HR1.out HB.out) | (with_reducible refine Kd.C_alloc ?_ _) | (with_reducible refine Kd.C_drewN ?_ _) | (with_reducible refine Kd.C_drew ?_))); (case side2 => exact HC1.out); rintro e w' ⟨rfl, ⟨nd, rfl⟩⟩; have hcz21_0 : w20.cell? ⟨gb256, 0, none⟩ = some (.int .i64 a0_0) := (blk_cell BK256.out 0).trans rfl; have hcz21_1 : w20.cell? ⟨gb256, 1, none⟩ = some (.slice A0_1 l0_1.length c0_1) := (blk_cell BK256.out 1).trans rfl; have hfz21_0 := blk_frozen BK256.out 0; have hfz21_1 := blk_frozen BK256.out 1) | (go_at_call 13; (with_reducible refine (switchboardref15_Right.calls k a0_0 _ _ l0_1 false _ ?side1 ?side2 A10.out).mono ?_); (case side1 => repeat (first | exact (Kd.C_below HR0_1.out (by repeat (first | (with_reducible first | exact HB.out | apply below_alloc | apply pw_below_drewN | apply below_drew1 | refine below_set ?_ GE256.out) | exact HB.out))) | (with_reducible refine Kd.C_alloc ?_ _) | (with_reducible refine Kd.C_drewN ?_ _) | (with_reducible refine Kd.C_drew ?_))); (case side2 => exact HC0_1.out); rintro e w22 ⟨rfl, hb⟩; have n0_ := Aside0.mk (blk_below (g := gb256) (o := .cells #[.int .i64 a0_0, .slice A0_1 l0_1.length c0_1] 24 (0, 0)) (by (with_reducible repeat (first | refine blk_drewN ?_ _ | refine blk_drew ?_ | refine blk_alloc ?_ _)); exact BK256.out) hb); have n1_ := Aside0.mk (below_step (by repeat (first | (with_reducible first | exact HB.out | apply below_alloc | apply pw_below_drewN | apply below_drew1 | refine below_set ?_ GE256.out) | exact HB.out)) hb); clear BK256; clear HB; have BK256 := n0_; have HB := n1_; clear n0_ n1_; (try clear hb); (try clear hb2); (try clear hk); (try clear hi)))
          go_meet
          case rel => exact ⟨_, (true), (by first | rfl | (simp; done) | (simp [*]; done)), H', ⟨by first | omega | exact Nat.le_refl _⟩, ⟨by (with_reducible repeat (first | refine blk_drewN ?_ _ | refine blk_drew ?_ | refine blk_alloc ?_ _)); exact BK256.out⟩, ⟨by repeat (first | (with_reducible first | exact HB.out | apply below_alloc | apply pw_below_drewN | apply below_drew1 | refine below_set ?_ GE256.out) | exact HB.out)⟩⟩
      · replace c9 := Bool.eq_false_iff.mpr c9
        subst c9
        have H1 : (switchboardlaw15_ModelFirst.j0 k l1 a2 true a0_0 l0_1) = some true := by rw [if_neg (show ¬ (false = true) by decide)] at H; exact H
        clear H
        have H := H1
        clear H1
        have H' := Aside0.mk H
        clear H
        have hcz23_0 : w5.cell? ⟨gb256, 0, none⟩ = some (.int .i64 a0_0) := (blk_cell BK256.out 0).trans rfl
        have hcz23_1 : w5.cell? ⟨gb256, 1, none⟩ = some (.slice A0_1 l0_1.length c0_1) := (blk_cell BK256.out 1).trans rfl
        have hfz23_0 := blk_frozen BK256.out 0
        have hfz23_1 := blk_frozen BK256.out 1
        go_wp2_with (first | ((with_reducible refine gate_callee (f := 9) rfl ?_); refine goesL_ (some 13) rfl rfl Try.func9 (by kernel_rfl) rfl #[.agg #[.int .i64 a0_0, .slice A0_1 l0_1.length c0_1]] rfl (by (try simp only [List.map_toArray, List.map_cons, List.map_nil]); first | done | rfl | (simp only [List.length_drop, List.length_take]; rfl)) ?_; (with_reducible refine (switchboardref15_Small.calls k a0_0 _ _ l0_1 true _ ?side1 ?side2 A6.out).mono ?_); (case side1 => repeat (first | exact (Kd.C_below HR0_1.out HB.out) | (with_reducible refine Kd.C_alloc ?_ _) | (with_reducible refine Kd.C_drewN ?_ _) | (with_reducible refine Kd.C_drew ?_))); (case side2 => exact HC0_1.out); rintro e w24 ⟨rfl, hb⟩; refine ⟨_, rfl, ?_⟩; have n0_ := Aside0.mk (blk_below (g := gb256) (o := .cells #[.int .i64 a0_0, .slice A0_1 l0_1.length c0_1] 24 (0, 0)) (by (with_reducible repeat (first | refine blk_drewN ?_ _ | refine blk_drew ?_ | refine blk_alloc ?_ _)); exact BK256.out) hb); have n1_ := Aside0.mk (below_step (by repeat (first | (with_reducible first | exact HB.out | apply below_alloc | apply pw_below_drewN | apply below_drew1 | refine below_set ?_ GE256.out) | exact HB.out)) hb); clear BK256; clear HB; have BK256 := n0_; have HB := n1_; clear n0_ n1_; (try clear hb); (try clear hb2); (try clear hk); (try clear hi)) | (go_at_call 10; (with_reducible refine (switchboardref03_Small.calls k _ _ l1 false _ ?side1 ?side2 A8.out).mono ?_); (case side1 => repeat (first | exact (Kd.C_below HR1.out HB.out) | (with_reducible refine Kd.C_alloc ?_ _) | (with_reducible refine Kd.C_drewN ?_ _) | (with_reducible refine Kd.C_drew ?_))); (case side2 => exact HC1.out); rintro e w' ⟨rfl, ⟨nd, rfl⟩⟩))
        go_meet
        case rel => exact ⟨_, (true), (by first | rfl | (simp; done) | (simp [*]; done)), H', ⟨by first | omega | exact Nat.le_refl _⟩, ⟨by (with_reducible repeat (first | refine blk_drewN ?_ _ | refine blk_drew ?_ | refine blk_alloc ?_ _)); exact BK256.out⟩, ⟨by repeat (first | (with_reducible first | exact HB.out | apply below_alloc | apply pw_below_drewN | apply below_drew1 | refine below_set ?_ GE256.out) | exact HB.out)⟩⟩
    · replace c7 := Bool.eq_false_iff.mpr c7
      subst c7
      have H1 : (switchboardlaw15_ModelFirst.j0 k l1 a2 true a0_0 l0_1) = some true := by rw [if_neg (show ¬ (false = true) by decide)] at H; exact H
      clear H
      have H := H1
      clear H1
      have H' := Aside0.mk H
      clear H
      have hcz25_0 : w5.cell? ⟨gb256, 0, none⟩ = some (.int .i64 a0_0) := (blk_cell BK256.out 0).trans rfl
      have hcz25_1 : w5.cell? ⟨gb256, 1, none⟩ = some (.slice A0_1 l0_1.length c0_1) := (blk_cell BK256.out 1).trans rfl
      have hfz25_0 := blk_frozen BK256.out 0
      have hfz25_1 := blk_frozen BK256.out 1
      go_wp2_with (first | ((with_reducible refine gate_callee (f := 9) rfl ?_); refine goesL_ (some 13) rfl rfl Try.func9 (by kernel_rfl) rfl #[.agg #[.int .i64 a0_0, .slice A0_1 l0_1.length c0_1]] rfl (by (try simp only [List.map_toArray, List.map_cons, List.map_nil]); first | done | rfl | (simp only [List.length_drop, List.length_take]; rfl)) ?_; (with_reducible refine (switchboardref15_Small.calls k a0_0 _ _ l0_1 false _ ?side1 ?side2 A6.out).mono ?_); (case side1 => repeat (first | exact (Kd.C_below HR0_1.out HB.out) | (with_reducible refine Kd.C_alloc ?_ _) | (with_reducible refine Kd.C_drewN ?_ _) | (with_reducible refine Kd.C_drew ?_))); (case side2 => exact HC0_1.out); rintro e w26 ⟨rfl, hb⟩; refine ⟨_, rfl, ?_⟩; have n0_ := Aside0.mk (blk_below (g := gb256) (o := .cells #[.int .i64 a0_0, .slice A0_1 l0_1.length c0_1] 24 (0, 0)) (by (with_reducible repeat (first | refine blk_drewN ?_ _ | refine blk_drew ?_ | refine blk_alloc ?_ _)); exact BK256.out) hb); have n1_ := Aside0.mk (below_step (by repeat (first | (with_reducible first | exact HB.out | apply below_alloc | apply pw_below_drewN | apply below_drew1 | refine below_set ?_ GE256.out) | exact HB.out)) hb); clear BK256; clear HB; have BK256 := n0_; have HB := n1_; clear n0_ n1_; (try clear hb); (try clear hb2); (try clear hk); (try clear hi)))
      go_meet
      case rel => exact ⟨_, (true), (by first | rfl | (simp; done) | (simp [*]; done)), H', ⟨by first | omega | exact Nat.le_refl _⟩, ⟨by (with_reducible repeat (first | refine blk_drewN ?_ _ | refine blk_drew ?_ | refine blk_alloc ?_ _)); exact BK256.out⟩, ⟨by repeat (first | (with_reducible first | exact HB.out | apply below_alloc | apply pw_below_drewN | apply below_drew1 | refine below_set ?_ GE256.out) | exact HB.out)⟩⟩
  case rest =>
    clear HC4
    try clear c1
    try clear p2
    try clear c7
    try clear c9
    try clear c11
    try clear hcz13_0
    try clear hcz13_1
    try clear hcz15_0
    try clear hcz15_1
    try clear hcz17_0
    try clear hcz17_1
    try clear hcz19_0
    try clear hcz19_1
    try clear hcz21_0
    try clear hcz21_1
    try clear hcz23_0
    try clear hcz23_1
    try clear hcz25_0
    try clear hcz25_1
    try clear hfz13_0
    try clear hfz13_1
    try clear hfz15_0
    try clear hfz15_1
    try clear hfz17_0
    try clear hfz17_1
    try clear hfz19_0
    try clear hfz19_1
    try clear hfz21_0
    try clear hfz21_1
    try clear hfz23_0
    try clear hfz23_1
    try clear hfz25_0
    try clear hfz25_1
    obtain ⟨kq, x30_3, rfl, HA, HJ3, BK256, HB⟩ := hcut
    cases kq with
    | zero => exact absurd HA.out (by simp [switchboardlaw15_ModelFirst.j0])
    | succ kj3 =>
      have H := HA.out
      clear HA
      simp only [switchboardlaw15_ModelFirst.j0] at H
      by_cases c27 : x30_3 = true
      · subst c27
        have H1 : ((switchboardlaw15_awake.f).bind fun t261 => (some t261)) = some true := by rw [if_pos rfl] at H; exact H
        clear H
        have H := H1
        clear H1
        replace H := Option.bind_eq_some_iff.mp H
        obtain ⟨t261, A280, H⟩ := H
        replace H : (some t261) = some true := H
        have A28 := Aside0.mk A280
        clear A280
        have hr_ := Aside0.mk (Option.some.inj H)
        go_wp2_with (first | ((with_reducible refine gate_callee (f := 11) rfl ?_); refine goesL_ (some 31) rfl rfl Try.func11 (by kernel_rfl) rfl #[] rfl (by (try simp only [List.map_toArray, List.map_cons, List.map_nil]); first | done | rfl | (simp only [List.length_drop, List.length_take]; rfl)) ?_; (with_reducible refine (switchboardlaw15_awake.calls  t261 _ A28.out).mono ?_); rintro e w29 ⟨rfl, hb⟩; refine ⟨_, rfl, ?_⟩; have n0_ := Aside0.mk (blk_below (g := gb256) (o := .cells #[.int .i64 a0_0, .slice A0_1 l0_1.length c0_1] 24 (0, 0)) (by (with_reducible repeat (first | refine blk_drewN ?_ _ | refine blk_drew ?_ | refine blk_alloc ?_ _)); exact BK256.out) hb); have n1_ := Aside0.mk (below_step (by repeat (first | (with_reducible first | exact HB.out | apply below_alloc | apply pw_below_drewN | apply below_drew1 | refine below_set ?_ GE256.out) | exact HB.out)) hb); clear BK256; clear HB; have BK256 := n0_; have HB := n1_; clear n0_ n1_; (try clear hb); (try clear hb2); (try clear hk); (try clear hi)))
        go_ret
        exact ⟨by first | rfl | exact congrArg (fun b_ => Ending.returned (Value.bool b_)) hr_.out | exact congrArg (fun b_ => Ending.returned (Value.bool b_)) hr_.out | (simp [errW_none, errW_some] <;> rfl) | (simp [*, errW_none, errW_some] <;> rfl), by repeat (first | (with_reducible first | exact HB.out | apply below_alloc | apply pw_below_drewN | apply below_drew1 | refine below_set ?_ GE256.out) | exact HB.out)⟩
      · replace c27 := Bool.eq_false_iff.mpr c27
        subst c27
        have H1 : (if (l1.length : Int) = 0 then (none) else ((model_Forward.f kj3 a0_0 l0_1 l1).bind fun bt262 => (if 0 ≤ (wrap64 (1 + (Int.tmod (wrap64 (a2)) (l1.length : Int)))) then (if (wrap64 (1 + (Int.tmod (wrap64 (a2)) (l1.length : Int)))) ≤ (l1.length : Int) then ((model_Forward.f kj3 a0_0 l0_1 (l1.take ((wrap64 (1 + (Int.tmod (wrap64 (a2)) (l1.length : Int)))) : Int).toNat)).bind fun bt270 => (if bt262.2 = 0 then (if bt270.2 = 0 then (if (bt262.1.length : Int) = (l1.length : Int) then (if (wrap64 (1 + (Int.tmod (wrap64 (a2)) (l1.length : Int)))) ≤ (bt262.1.length : Int) then ((switchboardref15_Same.f kj3 (bt262.1.take ((wrap64 (1 + (Int.tmod (wrap64 (a2)) (l1.length : Int)))) : Int).toNat) bt270.1).bind fun t279 => (if t279 = true then ((switchboardlaw15_awake.f).bind fun t280 => (some t280)) else (some false))) else (none)) else (some false)) else (some false)) else (some false))) else (none)) else (none)))) = some true := by rw [if_neg (show ¬ (false = true) by decide)] at H; exact H
        clear H
        have H := H1
        clear H1
        by_cases c30 : (l1.length : Int) = 0
        · rw [if_pos c30] at H
          exact absurd H (by simp)
        · rw [if_neg c30] at H
          have c30b0 : ((l1.length : Int) == 0) = false := beq_eq_false_iff_ne.mpr c30
          have c30b1 : ((l1.length : Int) != 0) = true := bne_iff_ne.mpr c30
          have c30b2 : ¬ (l1 = []) := fun h_ => c30 (by rw [h_]; rfl)
          replace H := Option.bind_eq_some_iff.mp H
          obtain ⟨⟨t262, t265⟩, A310, H⟩ := H
          replace H : (if 0 ≤ (wrap64 (1 + (Int.tmod (wrap64 (a2)) (l1.length : Int)))) then (if (wrap64 (1 + (Int.tmod (wrap64 (a2)) (l1.length : Int)))) ≤ (l1.length : Int) then ((model_Forward.f kj3 a0_0 l0_1 (l1.take ((wrap64 (1 + (Int.tmod (wrap64 (a2)) (l1.length : Int)))) : Int).toNat)).bind fun bt270 => (if t265 = 0 then (if bt270.2 = 0 then (if (t262.length : Int) = (l1.length : Int) then (if (wrap64 (1 + (Int.tmod (wrap64 (a2)) (l1.length : Int)))) ≤ (t262.length : Int) then ((switchboardref15_Same.f kj3 (t262.take ((wrap64 (1 + (Int.tmod (wrap64 (a2)) (l1.length : Int)))) : Int).toNat) bt270.1).bind fun t279 => (if t279 = true then ((switchboardlaw15_awake.f).bind fun t280 => (some t280)) else (some false))) else (none)) else (some false)) else (some false)) else (some false))) else (none)) else (none)) = some true := H
          have A31 := Aside0.mk A310
          clear A310
          obtain ⟨ji32, hji32⟩ : ∃ j_ : Int, (wrap64 (1 + (Int.tmod (wrap64 (a2)) (l1.length : Int)))) = j_ := ⟨_, rfl⟩
          replace H : (if 0 ≤ (ji32) then (if (ji32) ≤ (l1.length : Int) then ((model_Forward.f kj3 a0_0 l0_1 (l1.take ((ji32) : Int).toNat)).bind fun bt270 => (if t265 = 0 then (if bt270.2 = 0 then (if (t262.length : Int) = (l1.length : Int) then (if (ji32) ≤ (t262.length : Int) then ((switchboardref15_Same.f kj3 (t262.take ((ji32) : Int).toNat) bt270.1).bind fun t279 => (if t279 = true then ((switchboardlaw15_awake.f).bind fun t280 => (some t280)) else (some false))) else (none)) else (some false)) else (some false)) else (some false))) else (none)) else (none)) = some true := by first | (rw [hji32] at H; exact H) | (simp only [hji32] at H ⊢; exact H)
          (try rw [hji32] at A31)
          have hji32w : (IntKind.i64.wrap (1 + (Int.tmod (wrap64 (a2)) (l1.length : Int)))) = ji32 := (i64_w _).trans hji32
          by_cases c33 : 0 ≤ (ji32)
          · rw [if_pos c33] at H
            have c33b0 := eq_true c33
            have c33b1 : decide (0 ≤ (ji32)) = true := decide_eq_true c33
            clear c33
            by_cases c34 : (ji32) ≤ (l1.length : Int)
            · rw [if_pos c34] at H
              have c34b0 := eq_true c34
              have c34b1 : decide ((ji32) ≤ (l1.length : Int)) = true := decide_eq_true c34
              clear c34
              obtain ⟨y266, hy266⟩ : ∃ y_ : List (List Int), y_ = (l1.take ((ji32) : Int).toNat) := ⟨_, rfl⟩
              replace H : ((model_Forward.f kj3 a0_0 l0_1 y266).bind fun bt270 => (if t265 = 0 then (if bt270.2 = 0 then (if (t262.length : Int) = (l1.length : Int) then (if (ji32) ≤ (t262.length : Int) then ((switchboardref15_Same.f kj3 (t262.take ((ji32) : Int).toNat) bt270.1).bind fun t279 => (if t279 = true then ((switchboardlaw15_awake.f).bind fun t280 => (some t280)) else (some false))) else (none)) else (some false)) else (some false)) else (some false))) = some true := by first | (rw [hy266]; with_reducible exact H) | (have H2_ := (Option.bind_some _ _).symm.trans H; rw [hy266]; with_reducible exact H2_) | (have H2_ := (Option.bind_some _ _).symm.trans H; with_reducible exact H2_) | with_reducible exact H | (rw [hy266]; exact H) | exact H
              have Ny266 := Aside0.mk hy266
              clear hy266
              replace H := Option.bind_eq_some_iff.mp H
              obtain ⟨⟨t270, t273⟩, A350, H⟩ := H
              replace H : (if t265 = 0 then (if t273 = 0 then (if (t262.length : Int) = (l1.length : Int) then (if (ji32) ≤ (t262.length : Int) then ((switchboardref15_Same.f kj3 (t262.take ((ji32) : Int).toNat) t270).bind fun t279 => (if t279 = true then ((switchboardlaw15_awake.f).bind fun t280 => (some t280)) else (some false))) else (none)) else (some false)) else (some false)) else (some false)) = some true := H
              have A35 := Aside0.mk A350
              clear A350
              by_cases c36 : t265 = 0
              · rw [if_pos c36] at H
                have c36b0 : (t265 == 0) = true := beq_iff_eq.mpr c36
                have c36b1 : (t265 != 0) = false := bne_eq_false_iff_eq.mpr c36
                clear c36
                by_cases c37 : t273 = 0
                · rw [if_pos c37] at H
                  have c37b0 : (t273 == 0) = true := beq_iff_eq.mpr c37
                  have c37b1 : (t273 != 0) = false := bne_eq_false_iff_eq.mpr c37
                  clear c37
                  by_cases c38 : (t262.length : Int) = (l1.length : Int)
                  · rw [if_pos c38] at H
                    have c38b0 : ((t262.length : Int) == (l1.length : Int)) = true := beq_iff_eq.mpr c38
                    have c38b1 : ((t262.length : Int) != (l1.length : Int)) = false := bne_eq_false_iff_eq.mpr c38
                    have c38b2 : (t262.length == l1.length) = true := by first | simpa using c38 | (simp at c38 ⊢; omega)
                    clear c38
                    have c39b0 := eq_true (of_decide_eq_true (by first | (with_reducible assumption) | assumption) : 0 ≤ (ji32))
                    by_cases c40 : (ji32) ≤ (t262.length : Int)
                    · rw [if_pos c40] at H
                      have c40b0 := eq_true c40
                      have c40b1 : decide ((ji32) ≤ (t262.length : Int)) = true := decide_eq_true c40
                      clear c40
                      obtain ⟨y274, hy274⟩ : ∃ y_ : List (List Int), y_ = (t262.take ((ji32) : Int).toNat) := ⟨_, rfl⟩
                      replace H : ((switchboardref15_Same.f kj3 y274 t270).bind fun t279 => (if t279 = true then ((switchboardlaw15_awake.f).bind fun t280 => (some t280)) else (some false))) = some true := by first | (rw [hy274]; with_reducible exact H) | (have H2_ := (Option.bind_some _ _).symm.trans H; rw [hy274]; with_reducible exact H2_) | (have H2_ := (Option.bind_some _ _).symm.trans H; with_reducible exact H2_) | with_reducible exact H | (rw [hy274]; exact H) | exact H
                      have Ny274 := Aside0.mk hy274
                      clear hy274
                      replace H := Option.bind_eq_some_iff.mp H
                      obtain ⟨t279, A410, H⟩ := H
                      replace H : (if t279 = true then ((switchboardlaw15_awake.f).bind fun t280 => (some t280)) else (some false)) = some true := H
                      have A41 := Aside0.mk A410
                      clear A410
                      by_cases c42 : t279 = true
                      · subst c42
                        have H1 : ((switchboardlaw15_awake.f).bind fun t280 => (some t280)) = some true := by rw [if_pos rfl] at H; exact H
                        clear H
                        have H := H1
                        clear H1
                        replace H := Option.bind_eq_some_iff.mp H
                        obtain ⟨t280, A430, H⟩ := H
                        replace H : (some t280) = some true := H
                        have A43 := Aside0.mk A430
                        clear A430
                        have hr_ := Aside0.mk (Option.some.inj H)
                        have hcz44_0 : wc.cell? ⟨gb256, 0, none⟩ = some (.int .i64 a0_0) := (blk_cell BK256.out 0).trans rfl
                        have hcz44_1 : wc.cell? ⟨gb256, 1, none⟩ = some (.slice A0_1 l0_1.length c0_1) := (blk_cell BK256.out 1).trans rfl
                        have hfz44_0 := blk_frozen BK256.out 0
                        have hfz44_1 := blk_frozen BK256.out 1
                        try go_wp2_with (first | ((with_reducible refine gate_callee (f := 12) rfl ?_); refine goesL_ (some 41) rfl rfl Try.func12 (by kernel_rfl) rfl #[.agg #[.int .i64 a0_0, .slice A0_1 l0_1.length c0_1], .slice A1 l1.length c1] rfl (by (try simp only [List.map_toArray, List.map_cons, List.map_nil]); first | done | rfl | (simp only [List.length_drop, List.length_take]; rfl)) ?_; (with_reducible refine (model_Forward.calls kj3 a0_0 _ _ l0_1 (fun k_ => k_ < w.heap.size) _ _ l1 t262 t265 _ ?side1 ?side2 ?side3 A31.out).mono ?_); (case side1 => repeat (first | exact (Kd.C_below HR0_1.out HB.out) | (with_reducible refine Kd.C_alloc ?_ _) | (with_reducible refine Kd.C_drewN ?_ _) | (with_reducible refine Kd.C_drew ?_))); (case side2 => exact HC0_1.out); (case side3 => exact Kd.V_mk HC1.out (Kd.F_below (Kd.C_F (Kd.heap_slice 3 (Kd.heap_int .i64)) HR1.out) (by repeat (first | (with_reducible first | exact HB.out | apply below_alloc | apply pw_below_drewN | apply below_drew1 | refine below_set ?_ GE256.out) | exact HB.out)))); rintro e w45 ⟨v263, rfl, ho0, hb⟩; refine ⟨_, rfl, ?_⟩; have n0_ := Aside0.mk (Kd.V_lower (Kd.V_mono (ok' := fun k_ => k_ ≠ gb256) ho0 (fun k_ hk_ => Or.elim hk_ (fun hs_ => fun e_ => Nat.not_le.2 hs_ (by rw [e_]; exact GW256.out)) (fun hn_ => (Kd.freshB (g := gb256) (o := .cells #[.int .i64 a0_0, .slice A0_1 l0_1.length c0_1] 24 (0, 0)) (by (with_reducible repeat (first | refine blk_drewN ?_ _ | refine blk_drew ?_ | refine blk_alloc ?_ _)); exact BK256.out) k_ hn_)))) (below_size (by repeat (first | (with_reducible first | exact HB.out | apply below_alloc | apply pw_below_drewN | apply below_drew1 | refine below_set ?_ GE256.out) | exact HB.out)))); have n1_ := Aside0.mk (blk_below (g := gb256) (o := .cells #[.int .i64 a0_0, .slice A0_1 l0_1.length c0_1] 24 (0, 0)) (by (with_reducible repeat (first | refine blk_drewN ?_ _ | refine blk_drew ?_ | refine blk_alloc ?_ _)); exact BK256.out) hb); have n2_ := Aside0.mk (below_step (by repeat (first | (with_reducible first | exact HB.out | apply below_alloc | apply pw_below_drewN | apply below_drew1 | refine below_set ?_ GE256.out) | exact HB.out)) hb); clear BK256; clear HB; have HO264 := n0_; have BK256 := n1_; have HB := n2_; clear n0_ n1_ n2_; (try clear hb); (try clear hb2); (try clear hk); (try clear hi); (try clear ho0)))
                        have n0_ := Aside0.mk (Kd.V_drew HO264.out)
                        have n1_ := Aside0.mk (blk_drew BK256.out)
                        have n2_ := Aside0.mk (below_drew1 HB.out)
                        clear HO264
                        clear BK256
                        clear HB
                        have HO264 := n0_
                        have BK256 := n1_
                        have HB := n2_
                        clear n0_ n1_ n2_
                        have q47 : ((ji32) : Int) ≤ ((l1.length : Int) : Int) := of_decide_eq_true (by first | (with_reducible assumption) | assumption)
                        obtain ⟨i047, hi047, _, hsz47, _⟩ := info_parts info47
                        have hroom47 : l1.length ≤ c1 := HC1.out
                        have hC47 : Kd.C (Kd.slice 3 (Kd.int .i64)) _ A1 l1.length l1 := HR1.out
                        have hcut47 := cut_to (P := Try.prog) 25 47 .i64 Try.underlying25 hi047 A1 l1.length c1 (ji32) (of_decide_eq_true (by first | (with_reducible assumption) | assumption)) q47 hroom47
                        have hr47 := Kd.C_take (m := ((ji32) : Int).toNat) hC47 (by omega)
                        have hy47 : y266.length = ((ji32) : Int).toNat := (by rw [Ny266.out, List.length_take]; omega)
                        rw [← Ny266.out] at hr47
                        rw [← hy47] at hcut47
                        have HR269 := Aside0.mk hr47
                        have HC269 := Aside0.mk (show y266.length ≤ c1 from by omega)
                        clear hr47 hC47 hroom47 hi047 hsz47
                        have KY47 := Aside0.mk hy47
                        clear hy47
                        replace q47 := eq_true q47
                        refine start_ (n := 10) (S := fun w' => w'.cell? ⟨gb256, 0, none⟩ = some (.int .i64 a0_0) ∧ w'.cell? ⟨gb256, 1, none⟩ = some (.slice A0_1 l0_1.length c0_1)) (ds := []) #[false, false, false, false, false, false, false, false, false, false] (by kernel_rfl) rfl rfl ⟨(blk_cell BK256.out 0).trans rfl, (blk_cell BK256.out 1).trans rfl⟩ (fun hHeld => ?_); refine with_tabW switchboardlaw15_ModelFirst.tab5 switchboardlaw15_ModelFirst.bits5 (fun HT_ HW_ => ?_)
                        generalize w45.drew = w46 at HO264 BK256 HB HR269 hHeld ⊢
                        refine pure_ (i := 1) (N := some 46) (v := ?_) (a' := ?_) #[false, true, false, false, false, false, false, false, false, false] rfl rfl (any_of HT_.out (by kernel_rfl)) (fun _ _ _ h => h) (Or.inl ⟨by rfl, ?_⟩) ?_ ?_
                        rotate_left
                        · intro w'
                          go_simp
                          with_reducible rfl
                        rotate_left
                        · simp only [Act.put, List.setIfInBounds_toArray, List.set_cons_zero, List.set_cons_succ, i64_w, i32_w]
                          rfl
                        refine pure_ (i := 2) (N := some 47) (v := ?_) (a' := ?_) #[false, true, true, false, false, false, false, false, false, false] rfl rfl (any_of HT_.out (by kernel_rfl)) (fun _ _ _ h => h) (Or.inl ⟨by rfl, ?_⟩) ?_ ?_
                        rotate_left
                        · intro w'
                          go_simp
                          with_reducible rfl
                        rotate_left
                        · simp only [Act.put, List.setIfInBounds_toArray, List.set_cons_zero, List.set_cons_succ, i64_w, i32_w]
                          rfl
                        refine pure_ (i := 3) (N := some 48) (v := ?_) (a' := ?_) #[false, true, true, true, false, false, false, false, false, false] rfl rfl (any_of HT_.out (by kernel_rfl)) (fun _ _ _ h => h) (Or.inl ⟨by rfl, ?_⟩) ?_ ?_
                        rotate_left
                        · intro w'
                          go_simp
                          with_reducible rfl
                        rotate_left
                        · simp only [Act.put, List.setIfInBounds_toArray, List.set_cons_zero, List.set_cons_succ, i64_w, i32_w]
                          rfl
                        refine take_ (i := 0) (N := some 45) (v := ?_) (a' := ?_) #[true, true, true, true, false, false, false, false, false, false] rfl rfl (take_ofW HT_.out HW_.out (by kernel_rfl)) (fun _ _ _ h => h) (Or.inl ⟨by rfl, ?_⟩) hHeld ?_ ?_
                        rotate_left
                        · rintro w' ⟨s0, s1⟩
                          go_simp
                          with_reducible rfl
                        rotate_left
                        · simp only [Act.put, List.setIfInBounds_toArray, List.set_cons_zero, List.set_cons_succ, i64_w, i32_w]
                          rfl
                        refine one_ (i := 4) (N := some 49) #[true, true, true, true, true, false, false, false, false, false] rfl rfl (one_of HT_.out (by kernel_rfl)) (by decide) (fun K hK => ?_)
                        refine goes_ Try.func12 (by kernel_rfl) rfl #[.agg #[.int .i64 a0_0, .slice A0_1 l0_1.length c0_1], .slice A1 y266.length c1] (by rfl) rfl rfl (by (try simp only [List.map_toArray, List.map_cons, List.map_nil]); first | done | rfl | (simp only [List.length_drop, List.length_take]; rfl)) ?_
                        with_reducible refine (model_Forward.calls kj3 a0_0 _ _ l0_1 (fun k_ => k_ < w.heap.size) _ _ y266 t270 t273 _ ?side1 ?side2 ?side3 A35.out).mono ?_
                        (case side1 => repeat (first | exact (Kd.C_below HR0_1.out HB.out) | (with_reducible refine Kd.C_alloc ?_ _) | (with_reducible refine Kd.C_drewN ?_ _) | (with_reducible refine Kd.C_drew ?_)))
                        (case side2 => exact HC0_1.out)
                        (case side3 => exact Kd.V_mk HC269.out (Kd.F_below (Kd.C_F (Kd.heap_slice 3 (Kd.heap_int .i64)) HR269.out) (by repeat (first | (with_reducible first | exact HB.out | apply below_alloc | apply pw_below_drewN | apply below_drew1 | refine below_set ?_ GE256.out) | exact HB.out))))
                        rintro e w48 ⟨v271, rfl, ho0, hb⟩
                        refine ⟨_, rfl, ?_⟩
                        have n0_ := Aside0.mk (Kd.V_below (by (with_reducible repeat (first | apply Kd.V_alloc | apply Kd.V_drewN | apply Kd.V_drew)); exact HO264.out) hb)
                        have n1_ := Aside0.mk (Kd.V_lower (Kd.V_mono (ok' := fun k_ => k_ ≠ gb256) ho0 (fun k_ hk_ => Or.elim hk_ (fun hs_ => fun e_ => Nat.not_le.2 hs_ (by rw [e_]; exact GW256.out)) (fun hn_ => (Kd.freshB (g := gb256) (o := .cells #[.int .i64 a0_0, .slice A0_1 l0_1.length c0_1] 24 (0, 0)) (by (with_reducible repeat (first | refine blk_drewN ?_ _ | refine blk_drew ?_ | refine blk_alloc ?_ _)); exact BK256.out) k_ hn_)))) (below_size (by repeat (first | (with_reducible first | exact HB.out | apply below_alloc | apply pw_below_drewN | apply below_drew1 | refine below_set ?_ GE256.out) | exact HB.out))))
                        have n2_ := Aside0.mk (blk_below (g := gb256) (o := .cells #[.int .i64 a0_0, .slice A0_1 l0_1.length c0_1] 24 (0, 0)) (by (with_reducible repeat (first | refine blk_drewN ?_ _ | refine blk_drew ?_ | refine blk_alloc ?_ _)); exact BK256.out) hb)
                        have n3_ := Aside0.mk (below_step (by repeat (first | (with_reducible first | exact HB.out | apply below_alloc | apply pw_below_drewN | apply below_drew1 | refine below_set ?_ GE256.out) | exact HB.out)) hb)
                        clear HO264
                        clear BK256
                        clear HB
                        have HO264 := n0_
                        have HO272 := n1_
                        have BK256 := n2_
                        have HB := n3_
                        clear n0_ n1_ n2_ n3_
                        (try clear hb)
                        (try clear hb2)
                        (try clear hk)
                        (try clear hi)
                        (try clear ho0)
                        refine hK.out _ _ ⟨(blk_cell BK256.out 0).trans rfl, (blk_cell BK256.out 1).trans rfl⟩ (fun hHeld => ?_)
                        clear hK K
                        refine norm_ (a' := ?_) ?_ ?_
                        rotate_left
                        · show Act.put _ (some 49) _ = _
                          simp only [Act.put, List.setIfInBounds_toArray, List.set_cons_zero, List.set_cons_succ, i64_w, i32_w]
                          rfl
                        refine pure_ (i := 5) (N := some 44) (v := ?_) (a' := ?_) #[true, true, true, true, true, true, false, false, false, false] rfl rfl (any_of HT_.out (by kernel_rfl)) (fun _ _ _ h => h) (Or.inl ⟨by rfl, ?_⟩) ?_ ?_
                        rotate_left
                        · intro w'
                          go_simp
                          with_reducible rfl
                        rotate_left
                        · simp only [Act.put, List.setIfInBounds_toArray, List.set_cons_zero, List.set_cons_succ, i64_w, i32_w]
                          rfl
                        refine pure_ (i := 6) (N := some 50) (v := ?_) (a' := ?_) #[true, true, true, true, true, true, true, false, false, false] rfl rfl (any_of HT_.out (by kernel_rfl)) (fun _ _ _ h => h) (Or.inl ⟨by rfl, ?_⟩) ?_ ?_
                        rotate_left
                        · intro w'
                          go_simp
                          with_reducible rfl
                        rotate_left
                        · simp only [Act.put, List.setIfInBounds_toArray, List.set_cons_zero, List.set_cons_succ, i64_w, i32_w]
                          rfl
                        refine pure_ (i := 7) (N := some 51) (v := ?_) (a' := ?_) #[true, true, true, true, true, true, true, true, false, false] rfl rfl (any_of HT_.out (by kernel_rfl)) (fun _ _ _ h => h) (Or.inl ⟨by rfl, ?_⟩) ?_ ?_
                        rotate_left
                        · intro w'
                          go_simp
                          with_reducible rfl
                        rotate_left
                        · simp only [Act.put, List.setIfInBounds_toArray, List.set_cons_zero, List.set_cons_succ, i64_w, i32_w]
                          rfl
                        refine pure_ (i := 8) (N := some 10) (v := ?_) (a' := ?_) #[true, true, true, true, true, true, true, true, true, false] rfl rfl (any_of HT_.out (by kernel_rfl)) (fun _ _ _ h => h) (Or.inl ⟨by rfl, ?_⟩) ?_ ?_
                        rotate_left
                        · intro w'
                          go_simp
                          with_reducible rfl
                        rotate_left
                        · simp only [Act.put, List.setIfInBounds_toArray, List.set_cons_zero, List.set_cons_succ, i64_w, i32_w]
                          rfl
                        refine pure_ (i := 9) (N := some 11) (v := ?_) (a' := ?_) #[true, true, true, true, true, true, true, true, true, true] rfl rfl (any_of HT_.out (by kernel_rfl)) (fun _ _ _ h => h) (Or.inl ⟨by rfl, ?_⟩) ?_ ?_
                        rotate_left
                        · intro w'
                          go_simp
                          with_reducible rfl
                        rotate_left
                        · simp only [Act.put, List.setIfInBounds_toArray, List.set_cons_zero, List.set_cons_succ, i64_w, i32_w]
                          rfl
                        refine done_ (done_of HT_.out (by kernel_rfl)) ?_
                        obtain ⟨Ao49, co49, eo49⟩ := Kd.V_slice HO264.out
                        subst eo49
                        have q50 : ((ji32) : Int) ≤ ((t262.length : Int) : Int) := of_decide_eq_true (by first | (with_reducible assumption) | assumption)
                        obtain ⟨i050, hi050, _, hsz50, _⟩ := info_parts info47
                        have hroom50 : t262.length ≤ co49 := (Kd.V_reads' HO264.out).2.1
                        have hC50 : Kd.F (Kd.slice 3 (Kd.int .i64)) _ _ Ao49 t262.length t262 := (Kd.V_at (base := w.heap.size) HO264.out).2.2
                        have hcut50 := cut_to (P := Try.prog) 25 47 .i64 Try.underlying25 hi050 Ao49 t262.length co49 (ji32) (of_decide_eq_true (by first | (with_reducible assumption) | assumption)) q50 hroom50
                        have hr50 := Kd.F_take (m := ((ji32) : Int).toNat) hC50 (by omega)
                        have hy50 : y274.length = ((ji32) : Int).toNat := (by rw [Ny274.out, List.length_take]; omega)
                        rw [← Ny274.out] at hr50
                        rw [← hy50] at hcut50
                        have HO278 := Aside0.mk (show Kd.V (Kd.slice 3 (Kd.int .i64)) 47 _ w.heap.size _ (.slice Ao49 y274.length co49) y274 from Kd.V_mk (by omega) hr50)
                        have HC278 := Aside0.mk (show y274.length ≤ co49 from by omega)
                        clear hr50 hC50 hroom50 hi050 hsz50
                        have KY50 := Aside0.mk hy50
                        clear hy50
                        replace q50 := eq_true q50
                        obtain ⟨Ao51, co51, eo51⟩ := Kd.V_slice HO272.out
                        subst eo51
                        try go_wp2_with (first | (go_at_call 19; (with_reducible refine (switchboardref15_Same.calls kj3 _ _ y274 _ _ t270 true _ ?side1 ?side2 ?side3 ?side4 A41.out).mono ?_); (case side1 => repeat (first | exact (Kd.V_reads' HO278.out).2.2 | (with_reducible refine Kd.C_alloc ?_ _) | (with_reducible refine Kd.C_drewN ?_ _) | (with_reducible refine Kd.C_drew ?_))); (case side2 => exact (Kd.V_reads' HO278.out).2.1); (case side3 => repeat (first | exact (Kd.V_reads' HO272.out).2.2 | (with_reducible refine Kd.C_alloc ?_ _) | (with_reducible refine Kd.C_drewN ?_ _) | (with_reducible refine Kd.C_drew ?_))); (case side4 => exact (Kd.V_reads' HO272.out).2.1); rintro e w' ⟨rfl, ⟨nd, rfl⟩⟩) | (go_at_call 11; (with_reducible refine (switchboardlaw15_awake.calls  t280 _ A43.out).mono ?_); rintro e w52 ⟨rfl, hb⟩; have n0_ := Aside0.mk (Kd.V_below (by (with_reducible repeat (first | apply Kd.V_alloc | apply Kd.V_drewN | apply Kd.V_drew)); exact HO264.out) hb); have n1_ := Aside0.mk (Kd.V_below (by (with_reducible repeat (first | apply Kd.V_alloc | apply Kd.V_drewN | apply Kd.V_drew)); exact HO272.out) hb); have n2_ := Aside0.mk (Kd.V_below (by (with_reducible repeat (first | apply Kd.V_alloc | apply Kd.V_drewN | apply Kd.V_drew)); exact HO278.out) hb); have n3_ := Aside0.mk (blk_below (g := gb256) (o := .cells #[.int .i64 a0_0, .slice A0_1 l0_1.length c0_1] 24 (0, 0)) (by (with_reducible repeat (first | refine blk_drewN ?_ _ | refine blk_drew ?_ | refine blk_alloc ?_ _)); exact BK256.out) hb); have n4_ := Aside0.mk (below_step (by repeat (first | (with_reducible first | exact HB.out | apply below_alloc | apply pw_below_drewN | apply below_drew1 | refine below_set ?_ GE256.out) | exact HB.out)) hb); clear HO264; clear HO272; clear HO278; clear BK256; clear HB; have HO264 := n0_; have HO272 := n1_; have HO278 := n2_; have BK256 := n3_; have HB := n4_; clear n0_ n1_ n2_ n3_ n4_; (try clear hb); (try clear hb2); (try clear hk); (try clear hi)))
                        go_ret
                        exact ⟨by first | rfl | exact congrArg (fun b_ => Ending.returned (Value.bool b_)) hr_.out | exact congrArg (fun b_ => Ending.returned (Value.bool b_)) hr_.out | (simp [errW_none, errW_some] <;> rfl) | (simp only [← hji32]; first | rfl | (simp [errW_none, errW_some] <;> rfl)) | (simp [*, errW_none, errW_some] <;> rfl), by repeat (first | (with_reducible first | exact HB.out | apply below_alloc | apply pw_below_drewN | apply below_drew1 | refine below_set ?_ GE256.out) | exact HB.out)⟩
                      · replace c42 := Bool.eq_false_iff.mpr c42
                        subst c42
                        have H1 : (some false) = some true := by rw [if_neg (show ¬ (false = true) by decide)] at H; exact H
                        clear H
                        have H := H1
                        clear H1
                        exact absurd H (by simp)
                    · rw [if_neg c40] at H
                      exact absurd H (by simp)
                  · rw [if_neg c38] at H
                    have c38b0 : ((t262.length : Int) == (l1.length : Int)) = false := beq_eq_false_iff_ne.mpr c38
                    have c38b1 : ((t262.length : Int) != (l1.length : Int)) = true := bne_iff_ne.mpr c38
                    have c38b2 : (t262.length == l1.length) = false := by first | simpa using c38 | (simp at c38 ⊢; omega)
                    exact absurd H (by simp)
                · rw [if_neg c37] at H
                  have c37b0 : (t273 == 0) = false := beq_eq_false_iff_ne.mpr c37
                  have c37b1 : (t273 != 0) = true := bne_iff_ne.mpr c37
                  exact absurd H (by simp)
              · rw [if_neg c36] at H
                have c36b0 : (t265 == 0) = false := beq_eq_false_iff_ne.mpr c36
                have c36b1 : (t265 != 0) = true := bne_iff_ne.mpr c36
                exact absurd H (by simp)
            · rw [if_neg c34] at H
              exact absurd H (by simp)
          · rw [if_neg c33] at H
            exact absurd H (by simp)

end Go.Proofs.Ytlicglgogklnkaa.Pn
