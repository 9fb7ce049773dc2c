-- Laid by wip/xprint.py, a program of this session that runs the kit's print with some contracts given by hand; not a text of print.sh. Lean checks it.
import Derived.Test.YtcbngoldidhfmaaPr0
import Derived.Test.YtcbngoldidhfmaaPr1
import Derived.Test.YtcbngoldidhfmaaPr3
import Derived.Test.YtcbngoldidhfmaaPr4
namespace Go.Proofs.Ytcbngoldidhfmaa.Pr
open Go.RowKit Go.Proofs.YtcbngoldidhfmaaW.PrintWords Go.Proofs.YtcbngoldidhfmaaW.PrintLast Go.Proofs.YtcbngoldidhfmaaW.PrintMore
attribute [local go_sem] max2_int min2_int max_two min_two max_three min_three max_four min_four   -- for this text's walks alone
set_option linter.unusedVariables false
set_option linter.unusedSimpArgs false

attribute [local go_sem high] eqA24
/-! ### switchboardlaw12_LedgerStill: function 6 -/
mutual
def switchboardlaw12_LedgerStill.j0 : Nat → List (S29) → Int → List Int → Bool → Option (Bool)
  | 0, _, _, _, _ => none
  | k + 1, x0, x1, x2, x27 => if x27 = true then ((switchboardlaw12_awake.f).bind fun t177 => (some t177)) else (switchboardlaw12_LedgerStill.l0 k x0 x1 x2 x0 (x0.length : Int) 0)
def switchboardlaw12_LedgerStill.l0 : Nat → List (S29) → Int → List Int → List (S29) → Int → Int → Option (Bool)
  | 0, _, _, _, _, _, _ => none
  | k + 1, x0, x1, x2, x29, x30, x31 => if x31 < x30 then (if 0 ≤ x31 then (if x31 < (x29.length : Int) then (if (((rd_T29 x29 x31).f1).length : Int) > 30 then ((switchboardlaw12_awake.f).bind fun t180 => (some t180)) else (switchboardlaw12_LedgerStill.l0 k x0 x1 x2 x29 x30 (wrap64 (x31 + 1)))) else (none)) else (none)) else (if (x0.length : Int) = 0 then (none) else (if 0 ≤ (Int.tmod (wrap64 (x1)) (x0.length : Int)) then (if (Int.tmod (wrap64 (x1)) (x0.length : Int)) < (x0.length : Int) then ((ledger_Enter.f x0 ((rd_T29 x0 (Int.tmod (wrap64 (x1)) (x0.length : Int))).f0.f0) ((rd_T29 x0 (Int.tmod (wrap64 (x1)) (x0.length : Int))).f0.f1) ((rd_T29 x0 (Int.tmod (wrap64 (x1)) (x0.length : Int))).f0.f2) ((rd_T29 x0 (Int.tmod (wrap64 (x1)) (x0.length : Int))).f0.f3) x2).bind fun bt183 => (if bt183.2 = true then (switchboardlaw12_LedgerStill.j2 k x0 bt183.1 true ((rd_T29 x0 (Int.tmod (wrap64 (x1)) (x0.length : Int))).f0.f0) ((rd_T29 x0 (Int.tmod (wrap64 (x1)) (x0.length : Int))).f0.f1) ((rd_T29 x0 (Int.tmod (wrap64 (x1)) (x0.length : Int))).f0.f2) ((rd_T29 x0 (Int.tmod (wrap64 (x1)) (x0.length : Int))).f0.f3)) else (switchboardlaw12_LedgerStill.j2 k x0 bt183.1 ((bt183.1.length : Int) != (x0.length : Int)) ((rd_T29 x0 (Int.tmod (wrap64 (x1)) (x0.length : Int))).f0.f0) ((rd_T29 x0 (Int.tmod (wrap64 (x1)) (x0.length : Int))).f0.f1) ((rd_T29 x0 (Int.tmod (wrap64 (x1)) (x0.length : Int))).f0.f2) ((rd_T29 x0 (Int.tmod (wrap64 (x1)) (x0.length : Int))).f0.f3)))) else (none)) else (none)))
def switchboardlaw12_LedgerStill.j2 : Nat → List (S29) → List (S29) → Bool → Int → Int → Int → Int → Option (Bool)
  | 0, _, _, _, _, _, _, _ => none
  | k + 1, x0, x10, x64, x183000, x183001, x183002, x183003 => if x64 = true then (some false) else (switchboardlaw12_LedgerStill.l1 k x0 x10 (x0.length : Int) 0 x183000 x183001 x183002 x183003)
def switchboardlaw12_LedgerStill.l1 : Nat → List (S29) → List (S29) → Int → Int → Int → Int → Int → Int → Option (Bool)
  | 0, _, _, _, _, _, _, _, _ => none
  | k + 1, x0, x10, x66, x67, x183000, x183001, x183002, x183003 => if x67 < x66 then (if 0 ≤ x67 then (if x67 < (x10.length : Int) then (if x67 < (x0.length : Int) then (if (!(((rd_T29 x10 x67).f0.f0) == ((rd_T29 x0 x67).f0.f0)) || (!(((rd_T29 x10 x67).f0.f1) == ((rd_T29 x0 x67).f0.f1)) || (!(((rd_T29 x10 x67).f0.f2) == ((rd_T29 x0 x67).f0.f2)) || (!(((rd_T29 x10 x67).f0.f3) == ((rd_T29 x0 x67).f0.f3)))))) = true then (some false) else ((switchboardref02_Same.f k ((rd_T29 x10 x67).f1) ((rd_T29 x0 x67).f1)).bind fun t191 => (if t191 = true then (switchboardlaw12_LedgerStill.l1 k x0 x10 x66 (wrap64 (x67 + 1)) x183000 x183001 x183002 x183003) else (some false)))) else (none)) else (none)) else (none)) else ((ledger_Find.f x0 x183000 x183001 x183002 x183003).bind fun bt192 => (if bt192.2 = true then ((switchboardlaw12_awake.f).bind fun t196 => (some t196)) else (some false)))
end
def switchboardlaw12_LedgerStill.f (k : Nat) (l0 : List (S29)) (a1 : Int) (l2 : List Int) : Option (Bool) := if (l0.length : Int) = 0 then (switchboardlaw12_LedgerStill.j0 k l0 a1 l2 true) else (if (l0.length : Int) > 60 then (switchboardlaw12_LedgerStill.j0 k l0 a1 l2 true) else (switchboardlaw12_LedgerStill.j0 k l0 a1 l2 (decide ((l2.length : Int) > 30))))
theorem switchboardlaw12_LedgerStill.mono_l : ∀ k, (∀ y0 y1 y2 y3, LeO (switchboardlaw12_LedgerStill.j0 k y0 y1 y2 y3) (switchboardlaw12_LedgerStill.j0 (k + 1) y0 y1 y2 y3)) ∧ (∀ y0 y1 y2 y3 y4 y5, LeO (switchboardlaw12_LedgerStill.l0 k y0 y1 y2 y3 y4 y5) (switchboardlaw12_LedgerStill.l0 (k + 1) y0 y1 y2 y3 y4 y5)) ∧ (∀ y0 y1 y2 y3 y4 y5 y6, LeO (switchboardlaw12_LedgerStill.j2 k y0 y1 y2 y3 y4 y5 y6) (switchboardlaw12_LedgerStill.j2 (k + 1) y0 y1 y2 y3 y4 y5 y6)) ∧ (∀ y0 y1 y2 y3 y4 y5 y6 y7, LeO (switchboardlaw12_LedgerStill.l1 k y0 y1 y2 y3 y4 y5 y6 y7) (switchboardlaw12_LedgerStill.l1 (k + 1) y0 y1 y2 y3 y4 y5 y6 y7))
  | 0 => ⟨fun _ _ _ _ r h => by simp [switchboardlaw12_LedgerStill.j0] at h, fun _ _ _ _ _ _ r h => by simp [switchboardlaw12_LedgerStill.l0] at h, fun _ _ _ _ _ _ _ r h => by simp [switchboardlaw12_LedgerStill.j2] at h, fun _ _ _ _ _ _ _ _ r h => by simp [switchboardlaw12_LedgerStill.l1] at h⟩
  | k + 1 => by
    obtain ⟨ih0, ih1, ih2, ih3⟩ := switchboardlaw12_LedgerStill.mono_l k
    refine ⟨?_, ?_, ?_, ?_⟩
    · intro y0 y1 y2 y3
      unfold switchboardlaw12_LedgerStill.j0
      repeat' first
      | (with_reducible exact ih0 _ _ _ _)
      | (with_reducible exact ih1 _ _ _ _ _ _)
      | (with_reducible exact ih2 _ _ _ _ _ _ _)
      | (with_reducible exact ih3 _ _ _ _ _ _ _ _)
      | (with_reducible exact switchboardref02_Same.mono _ _ _)
      | (with_reducible exact LeO.refl _)
      | (with_reducible exact LeO.none _)
      | (with_reducible refine LeO.ite ?_ ?_)
      | (with_reducible refine LeO.bind ?_ (fun _ => ?_))
      | exact ih0 _ _ _ _
      | exact ih1 _ _ _ _ _ _
      | exact ih2 _ _ _ _ _ _ _
      | exact ih3 _ _ _ _ _ _ _ _
      | exact switchboardref02_Same.mono _ _ _
      | exact LeO.none _
      | refine LeO.ite ?_ ?_
      | refine LeO.bind ?_ (fun _ => ?_)
    · intro y0 y1 y2 y3 y4 y5
      unfold switchboardlaw12_LedgerStill.l0
      repeat' first
      | (with_reducible exact ih0 _ _ _ _)
      | (with_reducible exact ih1 _ _ _ _ _ _)
      | (with_reducible exact ih2 _ _ _ _ _ _ _)
      | (with_reducible exact ih3 _ _ _ _ _ _ _ _)
      | (with_reducible exact switchboardref02_Same.mono _ _ _)
      | (with_reducible exact LeO.refl _)
      | (with_reducible exact LeO.none _)
      | (with_reducible refine LeO.ite ?_ ?_)
      | (with_reducible refine LeO.bind ?_ (fun _ => ?_))
      | exact ih0 _ _ _ _
      | exact ih1 _ _ _ _ _ _
      | exact ih2 _ _ _ _ _ _ _
      | exact ih3 _ _ _ _ _ _ _ _
      | exact switchboardref02_Same.mono _ _ _
      | exact LeO.none _
      | refine LeO.ite ?_ ?_
      | refine LeO.bind ?_ (fun _ => ?_)
    · intro y0 y1 y2 y3 y4 y5 y6
      unfold switchboardlaw12_LedgerStill.j2
      repeat' first
      | (with_reducible exact ih0 _ _ _ _)
      | (with_reducible exact ih1 _ _ _ _ _ _)
      | (with_reducible exact ih2 _ _ _ _ _ _ _)
      | (with_reducible exact ih3 _ _ _ _ _ _ _ _)
      | (with_reducible exact switchboardref02_Same.mono _ _ _)
      | (with_reducible exact LeO.refl _)
      | (with_reducible exact LeO.none _)
      | (with_reducible refine LeO.ite ?_ ?_)
      | (with_reducible refine LeO.bind ?_ (fun _ => ?_))
      | exact ih0 _ _ _ _
      | exact ih1 _ _ _ _ _ _
      | exact ih2 _ _ _ _ _ _ _
      | exact ih3 _ _ _ _ _ _ _ _
      | exact switchboardref02_Same.mono _ _ _
      | exact LeO.none _
      | refine LeO.ite ?_ ?_
      | refine LeO.bind ?_ (fun _ => ?_)
    · intro y0 y1 y2 y3 y4 y5 y6 y7
      unfold switchboardlaw12_LedgerStill.l1
      repeat' first
      | (with_reducible exact ih0 _ _ _ _)
      | (with_reducible exact ih1 _ _ _ _ _ _)
      | (with_reducible exact ih2 _ _ _ _ _ _ _)
      | (with_reducible exact ih3 _ _ _ _ _ _ _ _)
      | (with_reducible exact switchboardref02_Same.mono _ _ _)
      | (with_reducible exact LeO.refl _)
      | (with_reducible exact LeO.none _)
      | (with_reducible refine LeO.ite ?_ ?_)
      | (with_reducible refine LeO.bind ?_ (fun _ => ?_))
      | exact ih0 _ _ _ _
      | exact ih1 _ _ _ _ _ _
      | exact ih2 _ _ _ _ _ _ _
      | exact ih3 _ _ _ _ _ _ _ _
      | exact switchboardref02_Same.mono _ _ _
      | exact LeO.none _
      | refine LeO.ite ?_ ?_
      | refine LeO.bind ?_ (fun _ => ?_)
theorem switchboardlaw12_LedgerStill.mono : ∀ a0 a1 a2 k, LeO (switchboardlaw12_LedgerStill.f k a0 a1 a2) (switchboardlaw12_LedgerStill.f (k + 1) a0 a1 a2) := by
  intro a0 a1 a2 k
  obtain ⟨ih0, ih1, ih2, ih3⟩ := switchboardlaw12_LedgerStill.mono_l k
  unfold switchboardlaw12_LedgerStill.f
  repeat' first
      | (with_reducible exact ih0 _ _ _ _)
      | (with_reducible exact ih1 _ _ _ _ _ _)
      | (with_reducible exact ih2 _ _ _ _ _ _ _)
      | (with_reducible exact ih3 _ _ _ _ _ _ _ _)
      | (with_reducible exact switchboardref02_Same.mono _ _ _)
      | (with_reducible exact LeO.refl _)
      | (with_reducible exact LeO.none _)
      | (with_reducible refine LeO.ite ?_ ?_)
      | (with_reducible refine LeO.bind ?_ (fun _ => ?_))
      | exact ih0 _ _ _ _
      | exact ih1 _ _ _ _ _ _
      | exact ih2 _ _ _ _ _ _ _
      | exact ih3 _ _ _ _ _ _ _ _
      | exact switchboardref02_Same.mono _ _ _
      | exact LeO.none _
      | refine LeO.ite ?_ ?_
      | refine LeO.bind ?_ (fun _ => ?_)
set_option maxHeartbeats 8000000 in
set_option maxRecDepth 100000 in
theorem switchboardlaw12_LedgerStill.calls (k : Nat) (A0 : Option Addr) (c0 : Nat) (l0 : List (S29)) (a1 : Int) (A2 : Option Addr) (c2 : Nat) (l2 : List Int) (w : World) (hr0 : Kd.C k29 w A0 l0.length l0) (hc0 : l0.length ≤ c0) (hr2 : Kd.C (Kd.int .i64) w A2 l2.length l2) (hc2 : l2.length ≤ c2) (h : switchboardlaw12_LedgerStill.f k l0 a1 l2 = some true) :
    Calls Try.prog 6 #[.slice A0 l0.length c0, .int .u8 a1, .slice A2 l2.length c2] w fun e w' => e = .returned (.bool true) ∧ Below w.heap.size w w' := by
  have hu29 := Try.underlying29
  have hu24 := Try.underlying24
  have HR0 := Aside0.mk hr0
  have HC0 := Aside0.mk hc0
  clear hr0 hc0
  have HR2 := Aside0.mk hr2
  have HC2 := Aside0.mk hc2
  clear hr2 hc2
  have HB := Aside0.mk (Below.refl w.heap.size w)
  have H : (if (l0.length : Int) = 0 then (switchboardlaw12_LedgerStill.j0 k l0 a1 l2 true) else (if (l0.length : Int) > 60 then (switchboardlaw12_LedgerStill.j0 k l0 a1 l2 true) else (switchboardlaw12_LedgerStill.j0 k l0 a1 l2 (decide ((l2.length : Int) > 30))))) = some true := h
  clear h
  have HC4 := Aside0.mk H
  clear H
  go_enter Try.func6, Try.ntmps6
  go_upto_region 1 with (fail)
  repeat (go_quiet (fail); go_upto_region 1 with (fail))
  go_cut [27] (fun v27 wc => ∃ (kq : Nat) (x27_3 : Bool), v27 = .bool x27_3 ∧ Aside0 (switchboardlaw12_LedgerStill.j0 kq l0 a1 l2 x27_3 = some true) ∧ Aside0 (kq ≤ k) ∧ Aside0 (Below w.heap.size w wc))
  case first =>
    have H := HC4.out
    clear HC4
    by_cases c5 : (l0.length : Int) = 0
    · rw [if_pos c5] at H
      have c5b0 : ((l0.length : Int) == 0) = true := beq_iff_eq.mpr c5
      have c5b1 : ((l0.length : Int) != 0) = false := bne_eq_false_iff_eq.mpr c5
      clear c5
      (first | rw [c5b0] | (simp only [i64_w, i32_w]; rw [c5b0]) | skip)
      have H' := Aside0.mk H
      clear H
      go_wp2
      repeat (go_quiet (fail); try go_wp2)
      go_meet
      case rel => exact ⟨_, (true), (by first | rfl | (simp; done) | (simp [*]; done)), H', ⟨by first | omega | exact Nat.le_refl _⟩, ⟨by repeat (first | (with_reducible first | exact HB.out | apply below_alloc | apply pw_below_drewN | apply below_drew1) | exact HB.out)⟩⟩
    · rw [if_neg c5] at H
      have c5b0 : ((l0.length : Int) == 0) = false := beq_eq_false_iff_ne.mpr c5
      have c5b1 : ((l0.length : Int) != 0) = true := bne_iff_ne.mpr c5
      have c5b2 : ¬ (l0 = []) := fun h_ => c5 (by rw [h_]; rfl)
      (first | rw [c5b0] | (simp only [i64_w, i32_w]; rw [c5b0]) | skip)
      by_cases c6 : (l0.length : Int) > 60
      · rw [if_pos c6] at H
        have c6b0 : decide (60 < (l0.length : Int)) = true := decide_eq_true c6
        have c6b1 : decide (60 < l0.length) = true := decide_eq_true (by omega)
        clear c6
        have H' := Aside0.mk H
        clear H
        go_wp2
        repeat (go_quiet (fail); try go_wp2)
        go_meet
        case rel => exact ⟨_, (true), (by first | rfl | (simp; done) | (simp [*]; done)), H', ⟨by first | omega | exact Nat.le_refl _⟩, ⟨by repeat (first | (with_reducible first | exact HB.out | apply below_alloc | apply pw_below_drewN | apply below_drew1) | exact HB.out)⟩⟩
      · rw [if_neg c6] at H
        have c6b0 : decide (60 < (l0.length : Int)) = false := decide_eq_false c6
        have c6b1 : decide (60 < l0.length) = false := decide_eq_false (by omega)
        clear c6
        have H' := Aside0.mk H
        clear H
        go_wp2
        repeat (go_quiet (fail); try go_wp2)
        go_meet
        case rel => exact ⟨_, (decide ((l2.length : Int) > 30)), (by first | rfl | (simp; done) | (simp [*]; done)), H', ⟨by first | omega | exact Nat.le_refl _⟩, ⟨by repeat (first | (with_reducible first | exact HB.out | apply below_alloc | apply pw_below_drewN | apply below_drew1) | exact HB.out)⟩⟩
  case rest =>
    clear HC4
    try clear c2
    try clear p2
    try clear c5
    try clear c5b0
    try clear c5b1
    try clear c5b2
    try clear c6
    try clear c6b0
    try clear c6b1
    obtain ⟨kq, x27_3, rfl, HA, HJ3, HB⟩ := hcut
    cases kq with
    | zero => exact absurd HA.out (by simp [switchboardlaw12_LedgerStill.j0])
    | succ kj3 =>
      have H := HA.out
      clear HA
      simp only [switchboardlaw12_LedgerStill.j0] at H
      by_cases c7 : x27_3 = true
      · subst c7
        have H1 : ((switchboardlaw12_awake.f).bind fun t177 => (some t177)) = some true := by rw [if_pos rfl] at H; exact H
        clear H
        have H := H1
        clear H1
        replace H := Option.bind_eq_some_iff.mp H
        obtain ⟨t177, A80, H⟩ := H
        replace H : (some t177) = some true := H
        have A8 := Aside0.mk A80
        clear A80
        have hr_ := Aside0.mk (Option.some.inj H)
        go_wp2_with (first | (go_at_call 7; (with_reducible refine (switchboardlaw12_awake.calls  t177 _ A8.out).mono ?_); rintro e w9 ⟨rfl, hb⟩; have n0_ := Aside0.mk (below_step (by repeat (first | (with_reducible first | exact HB.out | apply below_alloc | apply pw_below_drewN | apply below_drew1) | exact HB.out)) hb); clear HB; have HB := n0_; clear n0_; (try clear hb); (try clear hb2); (try clear hk); (try clear hi)))
        repeat (go_quiet (first | (go_at_call 7; (with_reducible refine (switchboardlaw12_awake.calls  t177 _ A8.out).mono ?_); rintro e w9 ⟨rfl, hb⟩; have n0_ := Aside0.mk (below_step (by repeat (first | (with_reducible first | exact HB.out | apply below_alloc | apply pw_below_drewN | apply below_drew1) | exact HB.out)) hb); clear HB; have HB := n0_; clear n0_; (try clear hb); (try clear hb2); (try clear hk); (try clear hi))); try go_wp2_with (first | (go_at_call 7; (with_reducible refine (switchboardlaw12_awake.calls  t177 _ A8.out).mono ?_); rintro e w9 ⟨rfl, hb⟩; have n0_ := Aside0.mk (below_step (by repeat (first | (with_reducible first | exact HB.out | apply below_alloc | apply pw_below_drewN | apply below_drew1) | exact HB.out)) hb); clear HB; have HB := n0_; clear n0_; (try clear hb); (try clear hb2); (try clear hk); (try clear hi))))
        go_ret
        exact ⟨by first | rfl | exact congrArg (fun b_ => Ending.returned (Value.bool b_)) hr_.out | exact congrArg (fun b_ => Ending.returned (Value.bool b_)) hr_.out | (simp [errW_none, errW_some] <;> rfl) | (simp [*, errW_none, errW_some] <;> rfl), by repeat (first | (with_reducible first | exact HB.out | apply below_alloc | apply pw_below_drewN | apply below_drew1) | exact HB.out)⟩
      · replace c7 := Bool.eq_false_iff.mpr c7
        subst c7
        have H1 : (switchboardlaw12_LedgerStill.l0 kj3 l0 a1 l2 l0 (l0.length : Int) 0) = some true := by rw [if_neg (show ¬ (false = true) by decide)] at H; exact H
        clear H
        have H := H1
        clear H1
        have H' := Aside0.mk H
        clear H
        go_wp2
        repeat (go_quiet (fail); try go_wp2)
        go_loopg [31] kj3 (fun kq v31 w' => ∃ (x31_2 : Int), v31 = .int .i64 x31_2 ∧ Aside0 (switchboardlaw12_LedgerStill.l0 kq l0 a1 l2 l0 (l0.length : Int) x31_2 = some true) ∧ Aside0 (kq ≤ kj3) ∧ Aside0 (Below w.heap.size w w'))
        case atStart => exact ⟨(0), (by first | rfl | (simp; done) | (simp [*]; done)), H', ⟨Nat.le_refl _⟩, ⟨by repeat (first | (with_reducible first | exact HB.out | apply below_alloc | apply pw_below_drewN | apply below_drew1) | exact HB.out)⟩⟩
        case round =>
          clear H'
          try clear c2
          try clear p2
          try clear c5
          try clear c5b0
          try clear c5b1
          try clear c5b2
          try clear c6
          try clear c6b0
          try clear c6b1
          try clear c7
          try clear p2
          obtain ⟨x31_2, rfl, HA, HK2, HB⟩ := hrel
          cases gk with
          | zero => exact absurd HA.out (by simp [switchboardlaw12_LedgerStill.l0])
          | succ k2 =>
            have H := HA.out
            clear HA
            simp only [switchboardlaw12_LedgerStill.l0] at H
            by_cases c10 : x31_2 < (l0.length : Int)
            · rw [if_pos c10] at H
              have c10b0 : decide (x31_2 < (l0.length : Int)) = true := decide_eq_true c10
              clear c10
              by_cases c11 : 0 ≤ x31_2
              · rw [if_pos c11] at H
                have c11b0 : decide (0 ≤ x31_2) = true := decide_eq_true c11
                clear c11
                by_cases c12 : x31_2 < (l0.length : Int)
                · rw [if_pos c12] at H
                  have c12b0 : decide (x31_2 < (l0.length : Int)) = true := decide_eq_true c12
                  clear c12
                  by_cases c13 : (((rd_T29 l0 x31_2).f1).length : Int) > 30
                  · rw [if_pos c13] at H
                    have c13b0 : decide (30 < (((rd_T29 l0 x31_2).f1).length : Int)) = true := decide_eq_true c13
                    have c13b1 : decide (30 < ((rd_T29 l0 x31_2).f1).length) = true := decide_eq_true (by omega)
                    clear c13
                    replace H := Option.bind_eq_some_iff.mp H
                    obtain ⟨t180, A140, H⟩ := H
                    replace H : (some t180) = some true := H
                    have A14 := Aside0.mk A140
                    clear A140
                    have hr_ := Aside0.mk (Option.some.inj H)
                    have p178 : 0 ≤ (x31_2 : Int) := of_decide_eq_true (by first | (with_reducible assumption) | assumption)
                    have q178 : x31_2 < (l0.length : Int) := of_decide_eq_true (by first | (with_reducible assumption) | assumption)
                    obtain ⟨ad178, A178_4, c178_4, e178, hx178_0, hx178_1, hx178_2, hx178_3, hx178_4, hl178_4, hi178_4⟩ := at_T29 HR0.out x31_2 p178 q178
                    cases e178
                    replace hx178_0 := (HB.out.cell (World.block_lt_of_cell? w _ hx178_0)).trans hx178_0
                    replace hx178_1 := (HB.out.cell (World.block_lt_of_cell? w _ hx178_1)).trans hx178_1
                    replace hx178_2 := (HB.out.cell (World.block_lt_of_cell? w _ hx178_2)).trans hx178_2
                    replace hx178_3 := (HB.out.cell (World.block_lt_of_cell? w _ hx178_3)).trans hx178_3
                    replace hx178_4 := (HB.out.cell (World.block_lt_of_cell? w _ hx178_4)).trans hx178_4
                    have HR178_4 := Aside0.mk hi178_4
                    have HC178_4 := Aside0.mk hl178_4
                    clear hi178_4 hl178_4
                    replace p178 := eq_true p178
                    replace q178 := eq_true q178
                    go_wp2_with (first | ((with_reducible refine gate_dst (N := 8) rfl ?_); (try (refine gate_guard (by rfl) ?_; dsimp only)); refine box_event ?hg (N := 8) ?hd (cs := #[.int .i64 0, .int .i64 0, .int .i64 0, .int .i64 0, .slice none 0 0]) (t := 29) ?hr ?_; (case hd => rfl); (case hg => rfl); (case hr => first | (go_simp; done) | (go_simp; rfl)); intro gb179 hg w15 hbox hb; have n0_ := Aside0.mk (below_step (by repeat (first | (with_reducible first | exact HB.out | apply below_alloc | apply pw_below_drewN | apply below_drew1) | exact HB.out)) hb); have n1_ := Aside0.mk (hbox); have n2_ := Aside0.mk ((by rw [hg]; exact (below_size (by repeat (first | (with_reducible first | exact HB.out | apply below_alloc | apply pw_below_drewN | apply below_drew1) | exact HB.out))) : w.heap.size ≤ gb179)); have n3_ := Aside0.mk ((by rw [hg]; exact (below_size (by repeat (first | (with_reducible first | exact HB.out | apply below_alloc | apply pw_below_drewN | apply below_drew1) | exact HB.out))) : w.heap.size ≤ gb179)); clear HB; have HB := n0_; have BK179 := n1_; have GW179 := n2_; have GE179 := n3_; clear n0_ n1_ n2_ n3_; clear hb hbox hg; have hcz16_0 : w15.cell? ⟨gb179, 0, none⟩ = some (.int .i64 0) := (blk_cell BK179.out 0).trans rfl; have hcz16_1 : w15.cell? ⟨gb179, 1, none⟩ = some (.int .i64 0) := (blk_cell BK179.out 1).trans rfl; have hcz16_2 : w15.cell? ⟨gb179, 2, none⟩ = some (.int .i64 0) := (blk_cell BK179.out 2).trans rfl; have hcz16_3 : w15.cell? ⟨gb179, 3, none⟩ = some (.int .i64 0) := (blk_cell BK179.out 3).trans rfl; have hcz16_4 : w15.cell? ⟨gb179, 4, none⟩ = some (.slice none 0 0) := (blk_cell BK179.out 4).trans rfl; have hfz16_0 := blk_frozen BK179.out 0; have hfz16_1 := blk_frozen BK179.out 1; have hfz16_2 := blk_frozen BK179.out 2; have hfz16_3 := blk_frozen BK179.out 3; have hfz16_4 := blk_frozen BK179.out 4) | (go_at_call 7; (with_reducible refine (switchboardlaw12_awake.calls  t180 _ A14.out).mono ?_); rintro e w17 ⟨rfl, hb⟩; have n0_ := Aside0.mk (blk_below (g := gb179) (o := .cells #[.int .i64 ((rd_T29 l0 x31_2).f0.f0), .int .i64 ((rd_T29 l0 x31_2).f0.f1), .int .i64 ((rd_T29 l0 x31_2).f0.f2), .int .i64 ((rd_T29 l0 x31_2).f0.f3), .slice A178_4 ((rd_T29 l0 x31_2).f1).length c178_4] 29 (0, 0)) (by (with_reducible repeat (first | refine blk_drewN ?_ _ | refine blk_drew ?_ | refine blk_alloc ?_ _)); refine blk_put (cs := #[.int .i64 ((rd_T29 l0 x31_2).f0.f0), .int .i64 ((rd_T29 l0 x31_2).f0.f1), .int .i64 ((rd_T29 l0 x31_2).f0.f2), .int .i64 ((rd_T29 l0 x31_2).f0.f3), .slice none 0 0]) ?_ 4 _ rfl; (with_reducible repeat (first | refine blk_drewN ?_ _ | refine blk_drew ?_ | refine blk_alloc ?_ _)); refine blk_put (cs := #[.int .i64 ((rd_T29 l0 x31_2).f0.f0), .int .i64 ((rd_T29 l0 x31_2).f0.f1), .int .i64 ((rd_T29 l0 x31_2).f0.f2), .int .i64 0, .slice none 0 0]) ?_ 3 _ rfl; (with_reducible repeat (first | refine blk_drewN ?_ _ | refine blk_drew ?_ | refine blk_alloc ?_ _)); refine blk_put (cs := #[.int .i64 ((rd_T29 l0 x31_2).f0.f0), .int .i64 ((rd_T29 l0 x31_2).f0.f1), .int .i64 0, .int .i64 0, .slice none 0 0]) ?_ 2 _ rfl; (with_reducible repeat (first | refine blk_drewN ?_ _ | refine blk_drew ?_ | refine blk_alloc ?_ _)); refine blk_put (cs := #[.int .i64 ((rd_T29 l0 x31_2).f0.f0), .int .i64 0, .int .i64 0, .int .i64 0, .slice none 0 0]) ?_ 1 _ rfl; (with_reducible repeat (first | refine blk_drewN ?_ _ | refine blk_drew ?_ | refine blk_alloc ?_ _)); refine blk_put (cs := #[.int .i64 0, .int .i64 0, .int .i64 0, .int .i64 0, .slice none 0 0]) ?_ 0 _ rfl; (with_reducible repeat (first | refine blk_drewN ?_ _ | refine blk_drew ?_ | refine blk_alloc ?_ _)); exact BK179.out) hb); have n1_ := Aside0.mk (below_step (by repeat (first | (with_reducible first | exact HB.out | apply below_alloc | apply pw_below_drewN | apply below_drew1 | refine below_set ?_ GE179.out) | exact HB.out)) hb); clear BK179; clear HB; have BK179 := n0_; have HB := n1_; clear n0_ n1_; (try clear hb); (try clear hb2); (try clear hk); (try clear hi)))
                    repeat (go_quiet (first | ((with_reducible refine gate_dst (N := 8) rfl ?_); (try (refine gate_guard (by rfl) ?_; dsimp only)); refine box_event ?hg (N := 8) ?hd (cs := #[.int .i64 0, .int .i64 0, .int .i64 0, .int .i64 0, .slice none 0 0]) (t := 29) ?hr ?_; (case hd => rfl); (case hg => rfl); (case hr => first | (go_simp; done) | (go_simp; rfl)); intro gb179 hg w15 hbox hb; have n0_ := Aside0.mk (below_step (by repeat (first | (with_reducible first | exact HB.out | apply below_alloc | apply pw_below_drewN | apply below_drew1) | exact HB.out)) hb); have n1_ := Aside0.mk (hbox); have n2_ := Aside0.mk ((by rw [hg]; exact (below_size (by repeat (first | (with_reducible first | exact HB.out | apply below_alloc | apply pw_below_drewN | apply below_drew1) | exact HB.out))) : w.heap.size ≤ gb179)); have n3_ := Aside0.mk ((by rw [hg]; exact (below_size (by repeat (first | (with_reducible first | exact HB.out | apply below_alloc | apply pw_below_drewN | apply below_drew1) | exact HB.out))) : w.heap.size ≤ gb179)); clear HB; have HB := n0_; have BK179 := n1_; have GW179 := n2_; have GE179 := n3_; clear n0_ n1_ n2_ n3_; clear hb hbox hg; have hcz16_0 : w15.cell? ⟨gb179, 0, none⟩ = some (.int .i64 0) := (blk_cell BK179.out 0).trans rfl; have hcz16_1 : w15.cell? ⟨gb179, 1, none⟩ = some (.int .i64 0) := (blk_cell BK179.out 1).trans rfl; have hcz16_2 : w15.cell? ⟨gb179, 2, none⟩ = some (.int .i64 0) := (blk_cell BK179.out 2).trans rfl; have hcz16_3 : w15.cell? ⟨gb179, 3, none⟩ = some (.int .i64 0) := (blk_cell BK179.out 3).trans rfl; have hcz16_4 : w15.cell? ⟨gb179, 4, none⟩ = some (.slice none 0 0) := (blk_cell BK179.out 4).trans rfl; have hfz16_0 := blk_frozen BK179.out 0; have hfz16_1 := blk_frozen BK179.out 1; have hfz16_2 := blk_frozen BK179.out 2; have hfz16_3 := blk_frozen BK179.out 3; have hfz16_4 := blk_frozen BK179.out 4) | (go_at_call 7; (with_reducible refine (switchboardlaw12_awake.calls  t180 _ A14.out).mono ?_); rintro e w17 ⟨rfl, hb⟩; have n0_ := Aside0.mk (blk_below (g := gb179) (o := .cells #[.int .i64 ((rd_T29 l0 x31_2).f0.f0), .int .i64 ((rd_T29 l0 x31_2).f0.f1), .int .i64 ((rd_T29 l0 x31_2).f0.f2), .int .i64 ((rd_T29 l0 x31_2).f0.f3), .slice A178_4 ((rd_T29 l0 x31_2).f1).length c178_4] 29 (0, 0)) (by (with_reducible repeat (first | refine blk_drewN ?_ _ | refine blk_drew ?_ | refine blk_alloc ?_ _)); refine blk_put (cs := #[.int .i64 ((rd_T29 l0 x31_2).f0.f0), .int .i64 ((rd_T29 l0 x31_2).f0.f1), .int .i64 ((rd_T29 l0 x31_2).f0.f2), .int .i64 ((rd_T29 l0 x31_2).f0.f3), .slice none 0 0]) ?_ 4 _ rfl; (with_reducible repeat (first | refine blk_drewN ?_ _ | refine blk_drew ?_ | refine blk_alloc ?_ _)); refine blk_put (cs := #[.int .i64 ((rd_T29 l0 x31_2).f0.f0), .int .i64 ((rd_T29 l0 x31_2).f0.f1), .int .i64 ((rd_T29 l0 x31_2).f0.f2), .int .i64 0, .slice none 0 0]) ?_ 3 _ rfl; (with_reducible repeat (first | refine blk_drewN ?_ _ | refine blk_drew ?_ | refine blk_alloc ?_ _)); refine blk_put (cs := #[.int .i64 ((rd_T29 l0 x31_2).f0.f0), .int .i64 ((rd_T29 l0 x31_2).f0.f1), .int .i64 0, .int .i64 0, .slice none 0 0]) ?_ 2 _ rfl; (with_reducible repeat (first | refine blk_drewN ?_ _ | refine blk_drew ?_ | refine blk_alloc ?_ _)); refine blk_put (cs := #[.int .i64 ((rd_T29 l0 x31_2).f0.f0), .int .i64 0, .int .i64 0, .int .i64 0, .slice none 0 0]) ?_ 1 _ rfl; (with_reducible repeat (first | refine blk_drewN ?_ _ | refine blk_drew ?_ | refine blk_alloc ?_ _)); refine blk_put (cs := #[.int .i64 0, .int .i64 0, .int .i64 0, .int .i64 0, .slice none 0 0]) ?_ 0 _ rfl; (with_reducible repeat (first | refine blk_drewN ?_ _ | refine blk_drew ?_ | refine blk_alloc ?_ _)); exact BK179.out) hb); have n1_ := Aside0.mk (below_step (by repeat (first | (with_reducible first | exact HB.out | apply below_alloc | apply pw_below_drewN | apply below_drew1 | refine below_set ?_ GE179.out) | exact HB.out)) hb); clear BK179; clear HB; have BK179 := n0_; have HB := n1_; clear n0_ n1_; (try clear hb); (try clear hb2); (try clear hk); (try clear hi))); try go_wp2_with (first | ((with_reducible refine gate_dst (N := 8) rfl ?_); (try (refine gate_guard (by rfl) ?_; dsimp only)); refine box_event ?hg (N := 8) ?hd (cs := #[.int .i64 0, .int .i64 0, .int .i64 0, .int .i64 0, .slice none 0 0]) (t := 29) ?hr ?_; (case hd => rfl); (case hg => rfl); (case hr => first | (go_simp; done) | (go_simp; rfl)); intro gb179 hg w15 hbox hb; have n0_ := Aside0.mk (below_step (by repeat (first | (with_reducible first | exact HB.out | apply below_alloc | apply pw_below_drewN | apply below_drew1) | exact HB.out)) hb); have n1_ := Aside0.mk (hbox); have n2_ := Aside0.mk ((by rw [hg]; exact (below_size (by repeat (first | (with_reducible first | exact HB.out | apply below_alloc | apply pw_below_drewN | apply below_drew1) | exact HB.out))) : w.heap.size ≤ gb179)); have n3_ := Aside0.mk ((by rw [hg]; exact (below_size (by repeat (first | (with_reducible first | exact HB.out | apply below_alloc | apply pw_below_drewN | apply below_drew1) | exact HB.out))) : w.heap.size ≤ gb179)); clear HB; have HB := n0_; have BK179 := n1_; have GW179 := n2_; have GE179 := n3_; clear n0_ n1_ n2_ n3_; clear hb hbox hg; have hcz16_0 : w15.cell? ⟨gb179, 0, none⟩ = some (.int .i64 0) := (blk_cell BK179.out 0).trans rfl; have hcz16_1 : w15.cell? ⟨gb179, 1, none⟩ = some (.int .i64 0) := (blk_cell BK179.out 1).trans rfl; have hcz16_2 : w15.cell? ⟨gb179, 2, none⟩ = some (.int .i64 0) := (blk_cell BK179.out 2).trans rfl; have hcz16_3 : w15.cell? ⟨gb179, 3, none⟩ = some (.int .i64 0) := (blk_cell BK179.out 3).trans rfl; have hcz16_4 : w15.cell? ⟨gb179, 4, none⟩ = some (.slice none 0 0) := (blk_cell BK179.out 4).trans rfl; have hfz16_0 := blk_frozen BK179.out 0; have hfz16_1 := blk_frozen BK179.out 1; have hfz16_2 := blk_frozen BK179.out 2; have hfz16_3 := blk_frozen BK179.out 3; have hfz16_4 := blk_frozen BK179.out 4) | (go_at_call 7; (with_reducible refine (switchboardlaw12_awake.calls  t180 _ A14.out).mono ?_); rintro e w17 ⟨rfl, hb⟩; have n0_ := Aside0.mk (blk_below (g := gb179) (o := .cells #[.int .i64 ((rd_T29 l0 x31_2).f0.f0), .int .i64 ((rd_T29 l0 x31_2).f0.f1), .int .i64 ((rd_T29 l0 x31_2).f0.f2), .int .i64 ((rd_T29 l0 x31_2).f0.f3), .slice A178_4 ((rd_T29 l0 x31_2).f1).length c178_4] 29 (0, 0)) (by (with_reducible repeat (first | refine blk_drewN ?_ _ | refine blk_drew ?_ | refine blk_alloc ?_ _)); refine blk_put (cs := #[.int .i64 ((rd_T29 l0 x31_2).f0.f0), .int .i64 ((rd_T29 l0 x31_2).f0.f1), .int .i64 ((rd_T29 l0 x31_2).f0.f2), .int .i64 ((rd_T29 l0 x31_2).f0.f3), .slice none 0 0]) ?_ 4 _ rfl; (with_reducible repeat (first | refine blk_drewN ?_ _ | refine blk_drew ?_ | refine blk_alloc ?_ _)); refine blk_put (cs := #[.int .i64 ((rd_T29 l0 x31_2).f0.f0), .int .i64 ((rd_T29 l0 x31_2).f0.f1), .int .i64 ((rd_T29 l0 x31_2).f0.f2), .int .i64 0, .slice none 0 0]) ?_ 3 _ rfl; (with_reducible repeat (first | refine blk_drewN ?_ _ | refine blk_drew ?_ | refine blk_alloc ?_ _)); refine blk_put (cs := #[.int .i64 ((rd_T29 l0 x31_2).f0.f0), .int .i64 ((rd_T29 l0 x31_2).f0.f1), .int .i64 0, .int .i64 0, .slice none 0 0]) ?_ 2 _ rfl; (with_reducible repeat (first | refine blk_drewN ?_ _ | refine blk_drew ?_ | refine blk_alloc ?_ _)); refine blk_put (cs := #[.int .i64 ((rd_T29 l0 x31_2).f0.f0), .int .i64 0, .int .i64 0, .int .i64 0, .slice none 0 0]) ?_ 1 _ rfl; (with_reducible repeat (first | refine blk_drewN ?_ _ | refine blk_drew ?_ | refine blk_alloc ?_ _)); refine blk_put (cs := #[.int .i64 0, .int .i64 0, .int .i64 0, .int .i64 0, .slice none 0 0]) ?_ 0 _ rfl; (with_reducible repeat (first | refine blk_drewN ?_ _ | refine blk_drew ?_ | refine blk_alloc ?_ _)); exact BK179.out) hb); have n1_ := Aside0.mk (below_step (by repeat (first | (with_reducible first | exact HB.out | apply below_alloc | apply pw_below_drewN | apply below_drew1 | refine below_set ?_ GE179.out) | exact HB.out)) hb); clear BK179; clear HB; have BK179 := n0_; have HB := n1_; clear n0_ n1_; (try clear hb); (try clear hb2); (try clear hk); (try clear hi))))
                    go_ret
                    exact ⟨by first | rfl | exact congrArg (fun b_ => Ending.returned (Value.bool b_)) hr_.out | exact congrArg (fun b_ => Ending.returned (Value.bool b_)) hr_.out | (simp [errW_none, errW_some] <;> rfl) | (simp [*, errW_none, errW_some] <;> rfl), by repeat (first | (with_reducible first | exact HB.out | apply below_alloc | apply pw_below_drewN | apply below_drew1 | refine below_set ?_ GE179.out) | exact HB.out)⟩
                  · rw [if_neg c13] at H
                    have c13b0 : decide (30 < (((rd_T29 l0 x31_2).f1).length : Int)) = false := decide_eq_false c13
                    have c13b1 : decide (30 < ((rd_T29 l0 x31_2).f1).length) = false := decide_eq_false (by omega)
                    clear c13
                    have H' := Aside0.mk H
                    clear H
                    have p178 : 0 ≤ (x31_2 : Int) := of_decide_eq_true (by first | (with_reducible assumption) | assumption)
                    have q178 : x31_2 < (l0.length : Int) := of_decide_eq_true (by first | (with_reducible assumption) | assumption)
                    obtain ⟨ad178, A178_4, c178_4, e178, hx178_0, hx178_1, hx178_2, hx178_3, hx178_4, hl178_4, hi178_4⟩ := at_T29 HR0.out x31_2 p178 q178
                    cases e178
                    replace hx178_0 := (HB.out.cell (World.block_lt_of_cell? w _ hx178_0)).trans hx178_0
                    replace hx178_1 := (HB.out.cell (World.block_lt_of_cell? w _ hx178_1)).trans hx178_1
                    replace hx178_2 := (HB.out.cell (World.block_lt_of_cell? w _ hx178_2)).trans hx178_2
                    replace hx178_3 := (HB.out.cell (World.block_lt_of_cell? w _ hx178_3)).trans hx178_3
                    replace hx178_4 := (HB.out.cell (World.block_lt_of_cell? w _ hx178_4)).trans hx178_4
                    have HR178_4 := Aside0.mk hi178_4
                    have HC178_4 := Aside0.mk hl178_4
                    clear hi178_4 hl178_4
                    replace p178 := eq_true p178
                    replace q178 := eq_true q178
                    go_wp2_with (first | ((with_reducible refine gate_dst (N := 8) rfl ?_); (try (refine gate_guard (by rfl) ?_; dsimp only)); refine box_event ?hg (N := 8) ?hd (cs := #[.int .i64 0, .int .i64 0, .int .i64 0, .int .i64 0, .slice none 0 0]) (t := 29) ?hr ?_; (case hd => rfl); (case hg => rfl); (case hr => first | (go_simp; done) | (go_simp; rfl)); intro gb179 hg w18 hbox hb; have n0_ := Aside0.mk (below_step (by repeat (first | (with_reducible first | exact HB.out | apply below_alloc | apply pw_below_drewN | apply below_drew1) | exact HB.out)) hb); have n1_ := Aside0.mk (hbox); have n2_ := Aside0.mk ((by rw [hg]; exact (below_size (by repeat (first | (with_reducible first | exact HB.out | apply below_alloc | apply pw_below_drewN | apply below_drew1) | exact HB.out))) : w.heap.size ≤ gb179)); have n3_ := Aside0.mk ((by rw [hg]; exact (below_size (by repeat (first | (with_reducible first | exact HB.out | apply below_alloc | apply pw_below_drewN | apply below_drew1) | exact HB.out))) : w.heap.size ≤ gb179)); clear HB; have HB := n0_; have BK179 := n1_; have GW179 := n2_; have GE179 := n3_; clear n0_ n1_ n2_ n3_; clear hb hbox hg; have hcz19_0 : w18.cell? ⟨gb179, 0, none⟩ = some (.int .i64 0) := (blk_cell BK179.out 0).trans rfl; have hcz19_1 : w18.cell? ⟨gb179, 1, none⟩ = some (.int .i64 0) := (blk_cell BK179.out 1).trans rfl; have hcz19_2 : w18.cell? ⟨gb179, 2, none⟩ = some (.int .i64 0) := (blk_cell BK179.out 2).trans rfl; have hcz19_3 : w18.cell? ⟨gb179, 3, none⟩ = some (.int .i64 0) := (blk_cell BK179.out 3).trans rfl; have hcz19_4 : w18.cell? ⟨gb179, 4, none⟩ = some (.slice none 0 0) := (blk_cell BK179.out 4).trans rfl; have hfz19_0 := blk_frozen BK179.out 0; have hfz19_1 := blk_frozen BK179.out 1; have hfz19_2 := blk_frozen BK179.out 2; have hfz19_3 := blk_frozen BK179.out 3; have hfz19_4 := blk_frozen BK179.out 4))
                    repeat (go_quiet (first | ((with_reducible refine gate_dst (N := 8) rfl ?_); (try (refine gate_guard (by rfl) ?_; dsimp only)); refine box_event ?hg (N := 8) ?hd (cs := #[.int .i64 0, .int .i64 0, .int .i64 0, .int .i64 0, .slice none 0 0]) (t := 29) ?hr ?_; (case hd => rfl); (case hg => rfl); (case hr => first | (go_simp; done) | (go_simp; rfl)); intro gb179 hg w18 hbox hb; have n0_ := Aside0.mk (below_step (by repeat (first | (with_reducible first | exact HB.out | apply below_alloc | apply pw_below_drewN | apply below_drew1) | exact HB.out)) hb); have n1_ := Aside0.mk (hbox); have n2_ := Aside0.mk ((by rw [hg]; exact (below_size (by repeat (first | (with_reducible first | exact HB.out | apply below_alloc | apply pw_below_drewN | apply below_drew1) | exact HB.out))) : w.heap.size ≤ gb179)); have n3_ := Aside0.mk ((by rw [hg]; exact (below_size (by repeat (first | (with_reducible first | exact HB.out | apply below_alloc | apply pw_below_drewN | apply below_drew1) | exact HB.out))) : w.heap.size ≤ gb179)); clear HB; have HB := n0_; have BK179 := n1_; have GW179 := n2_; have GE179 := n3_; clear n0_ n1_ n2_ n3_; clear hb hbox hg; have hcz19_0 : w18.cell? ⟨gb179, 0, none⟩ = some (.int .i64 0) := (blk_cell BK179.out 0).trans rfl; have hcz19_1 : w18.cell? ⟨gb179, 1, none⟩ = some (.int .i64 0) := (blk_cell BK179.out 1).trans rfl; have hcz19_2 : w18.cell? ⟨gb179, 2, none⟩ = some (.int .i64 0) := (blk_cell BK179.out 2).trans rfl; have hcz19_3 : w18.cell? ⟨gb179, 3, none⟩ = some (.int .i64 0) := (blk_cell BK179.out 3).trans rfl; have hcz19_4 : w18.cell? ⟨gb179, 4, none⟩ = some (.slice none 0 0) := (blk_cell BK179.out 4).trans rfl; have hfz19_0 := blk_frozen BK179.out 0; have hfz19_1 := blk_frozen BK179.out 1; have hfz19_2 := blk_frozen BK179.out 2; have hfz19_3 := blk_frozen BK179.out 3; have hfz19_4 := blk_frozen BK179.out 4)); try go_wp2_with (first | ((with_reducible refine gate_dst (N := 8) rfl ?_); (try (refine gate_guard (by rfl) ?_; dsimp only)); refine box_event ?hg (N := 8) ?hd (cs := #[.int .i64 0, .int .i64 0, .int .i64 0, .int .i64 0, .slice none 0 0]) (t := 29) ?hr ?_; (case hd => rfl); (case hg => rfl); (case hr => first | (go_simp; done) | (go_simp; rfl)); intro gb179 hg w18 hbox hb; have n0_ := Aside0.mk (below_step (by repeat (first | (with_reducible first | exact HB.out | apply below_alloc | apply pw_below_drewN | apply below_drew1) | exact HB.out)) hb); have n1_ := Aside0.mk (hbox); have n2_ := Aside0.mk ((by rw [hg]; exact (below_size (by repeat (first | (with_reducible first | exact HB.out | apply below_alloc | apply pw_below_drewN | apply below_drew1) | exact HB.out))) : w.heap.size ≤ gb179)); have n3_ := Aside0.mk ((by rw [hg]; exact (below_size (by repeat (first | (with_reducible first | exact HB.out | apply below_alloc | apply pw_below_drewN | apply below_drew1) | exact HB.out))) : w.heap.size ≤ gb179)); clear HB; have HB := n0_; have BK179 := n1_; have GW179 := n2_; have GE179 := n3_; clear n0_ n1_ n2_ n3_; clear hb hbox hg; have hcz19_0 : w18.cell? ⟨gb179, 0, none⟩ = some (.int .i64 0) := (blk_cell BK179.out 0).trans rfl; have hcz19_1 : w18.cell? ⟨gb179, 1, none⟩ = some (.int .i64 0) := (blk_cell BK179.out 1).trans rfl; have hcz19_2 : w18.cell? ⟨gb179, 2, none⟩ = some (.int .i64 0) := (blk_cell BK179.out 2).trans rfl; have hcz19_3 : w18.cell? ⟨gb179, 3, none⟩ = some (.int .i64 0) := (blk_cell BK179.out 3).trans rfl; have hcz19_4 : w18.cell? ⟨gb179, 4, none⟩ = some (.slice none 0 0) := (blk_cell BK179.out 4).trans rfl; have hfz19_0 := blk_frozen BK179.out 0; have hfz19_1 := blk_frozen BK179.out 1; have hfz19_2 := blk_frozen BK179.out 2; have hfz19_3 := blk_frozen BK179.out 3; have hfz19_4 := blk_frozen BK179.out 4)))
                    go_roundg k2
                    case measure => have := HJ3.out; have := HK2.out; omega
                    case rel => exact ⟨(wrap64 (x31_2 + 1)), (by first | rfl | (simp; done) | (simp [*]; done)), H', ⟨by have := HJ3.out; have := HK2.out; omega⟩, ⟨by repeat (first | (with_reducible first | exact HB.out | apply below_alloc | apply pw_below_drewN | apply below_drew1 | refine below_set ?_ GE179.out) | exact HB.out)⟩⟩
                · rw [if_neg c12] at H
                  exact absurd H (by simp)
              · rw [if_neg c11] at H
                exact absurd H (by simp)
            · rw [if_neg c10] at H
              have c10b0 : decide (x31_2 < (l0.length : Int)) = false := decide_eq_false c10
              clear c10
              by_cases c20 : (l0.length : Int) = 0
              · rw [if_pos c20] at H
                exact absurd H (by simp)
              · rw [if_neg c20] at H
                have c20b0 : ((l0.length : Int) == 0) = false := beq_eq_false_iff_ne.mpr c20
                have c20b1 : ((l0.length : Int) != 0) = true := bne_iff_ne.mpr c20
                have c20b2 : ¬ (l0 = []) := fun h_ => c20 (by rw [h_]; rfl)
                obtain ⟨ji21, hji21⟩ : ∃ j_ : Int, (Int.tmod (wrap64 (a1)) (l0.length : Int)) = j_ := ⟨_, rfl⟩
                replace H : (if 0 ≤ (ji21) then (if (ji21) < (l0.length : Int) then ((ledger_Enter.f l0 ((rd_T29 l0 (ji21)).f0.f0) ((rd_T29 l0 (ji21)).f0.f1) ((rd_T29 l0 (ji21)).f0.f2) ((rd_T29 l0 (ji21)).f0.f3) l2).bind fun bt183 => (if bt183.2 = true then (switchboardlaw12_LedgerStill.j2 k2 l0 bt183.1 true ((rd_T29 l0 (ji21)).f0.f0) ((rd_T29 l0 (ji21)).f0.f1) ((rd_T29 l0 (ji21)).f0.f2) ((rd_T29 l0 (ji21)).f0.f3)) else (switchboardlaw12_LedgerStill.j2 k2 l0 bt183.1 ((bt183.1.length : Int) != (l0.length : Int)) ((rd_T29 l0 (ji21)).f0.f0) ((rd_T29 l0 (ji21)).f0.f1) ((rd_T29 l0 (ji21)).f0.f2) ((rd_T29 l0 (ji21)).f0.f3)))) else (none)) else (none)) = some true := by first | (rw [hji21] at H; exact H) | (simp only [hji21] at H ⊢; exact H)
                by_cases c22 : 0 ≤ (ji21)
                · rw [if_pos c22] at H
                  have c22b0 : decide (0 ≤ (ji21)) = true := decide_eq_true c22
                  clear c22
                  by_cases c23 : (ji21) < (l0.length : Int)
                  · rw [if_pos c23] at H
                    have c23b0 : decide ((ji21) < (l0.length : Int)) = true := decide_eq_true c23
                    clear c23
                    replace H := Option.bind_eq_some_iff.mp H
                    obtain ⟨⟨t183, t186⟩, A240, H⟩ := H
                    replace H : (if t186 = true then (switchboardlaw12_LedgerStill.j2 k2 l0 t183 true ((rd_T29 l0 (ji21)).f0.f0) ((rd_T29 l0 (ji21)).f0.f1) ((rd_T29 l0 (ji21)).f0.f2) ((rd_T29 l0 (ji21)).f0.f3)) else (switchboardlaw12_LedgerStill.j2 k2 l0 t183 ((t183.length : Int) != (l0.length : Int)) ((rd_T29 l0 (ji21)).f0.f0) ((rd_T29 l0 (ji21)).f0.f1) ((rd_T29 l0 (ji21)).f0.f2) ((rd_T29 l0 (ji21)).f0.f3))) = some true := H
                    have A24 := Aside0.mk A240
                    clear A240
                    have HC25 := Aside0.mk H
                    clear H
                    have p181 : 0 ≤ ((ji21) : Int) := of_decide_eq_true (by first | (with_reducible assumption) | assumption)
                    have q181 : (ji21) < (l0.length : Int) := of_decide_eq_true (by first | (with_reducible assumption) | assumption)
                    obtain ⟨ad181, A181_4, c181_4, e181, hx181_0, hx181_1, hx181_2, hx181_3, hx181_4, hl181_4, hi181_4⟩ := at_T29 HR0.out (ji21) p181 q181
                    cases e181
                    replace hx181_0 := (HB.out.cell (World.block_lt_of_cell? w _ hx181_0)).trans hx181_0
                    replace hx181_1 := (HB.out.cell (World.block_lt_of_cell? w _ hx181_1)).trans hx181_1
                    replace hx181_2 := (HB.out.cell (World.block_lt_of_cell? w _ hx181_2)).trans hx181_2
                    replace hx181_3 := (HB.out.cell (World.block_lt_of_cell? w _ hx181_3)).trans hx181_3
                    replace hx181_4 := (HB.out.cell (World.block_lt_of_cell? w _ hx181_4)).trans hx181_4
                    have HR181_4 := Aside0.mk hi181_4
                    have HC181_4 := Aside0.mk hl181_4
                    clear hi181_4 hl181_4
                    replace p181 := eq_true p181
                    replace q181 := eq_true q181
                    go_upto_region 11 with (first | ((with_reducible refine gate_dst (N := 9) rfl ?_); (try (refine gate_guard (by rfl) ?_; dsimp only)); refine box_event ?hg (N := 9) ?hd (cs := #[.int .i64 0, .int .i64 0, .int .i64 0, .int .i64 0]) (t := 24) ?hr ?_; (case hd => rfl); (case hg => rfl); (case hr => first | (go_simp; done) | (go_simp; rfl)); intro gb182 hg w26 hbox hb; have n0_ := Aside0.mk (below_step (by repeat (first | (with_reducible first | exact HB.out | apply below_alloc | apply pw_below_drewN | apply below_drew1) | exact HB.out)) hb); have n1_ := Aside0.mk (hbox); have n2_ := Aside0.mk ((by rw [hg]; exact (below_size (by repeat (first | (with_reducible first | exact HB.out | apply below_alloc | apply pw_below_drewN | apply below_drew1) | exact HB.out))) : w.heap.size ≤ gb182)); have n3_ := Aside0.mk ((by rw [hg]; exact (below_size (by repeat (first | (with_reducible first | exact HB.out | apply below_alloc | apply pw_below_drewN | apply below_drew1) | exact HB.out))) : w.heap.size ≤ gb182)); clear HB; have HB := n0_; have BK182 := n1_; have GW182 := n2_; have GE182 := n3_; clear n0_ n1_ n2_ n3_; clear hb hbox hg; have hcz27_0 : w26.cell? ⟨gb182, 0, none⟩ = some (.int .i64 0) := (blk_cell BK182.out 0).trans rfl; have hcz27_1 : w26.cell? ⟨gb182, 1, none⟩ = some (.int .i64 0) := (blk_cell BK182.out 1).trans rfl; have hcz27_2 : w26.cell? ⟨gb182, 2, none⟩ = some (.int .i64 0) := (blk_cell BK182.out 2).trans rfl; have hcz27_3 : w26.cell? ⟨gb182, 3, none⟩ = some (.int .i64 0) := (blk_cell BK182.out 3).trans rfl; have hfz27_0 := blk_frozen BK182.out 0; have hfz27_1 := blk_frozen BK182.out 1; have hfz27_2 := blk_frozen BK182.out 2; have hfz27_3 := blk_frozen BK182.out 3) | ((with_reducible refine gate_store (t := 24) (p := 9) rfl ?_); (try (rw [drewN_self w26]; generalize hq_ : World.drewN w26 _ = w26; have n0_ := Aside0.mk (blk_at hq_ BK182.out); have n1_ := Aside0.mk (below_at hq_ HB.out); clear hq_ BK182 HB; have BK182 := n0_; have HB := n1_; clear n0_ n1_)); refine store_event (t := 24) (p := 9) (v := ?vo_w28) (w1 := ((((w26.setCell ⟨gb182, 0, none⟩ (.int .i64 ((rd_T29 l0 (ji21)).f0.f0))).setCell ⟨gb182, 1, none⟩ (.int .i64 ((rd_T29 l0 (ji21)).f0.f1))).setCell ⟨gb182, 2, none⟩ (.int .i64 ((rd_T29 l0 (ji21)).f0.f2))).setCell ⟨gb182, 3, none⟩ (.int .i64 ((rd_T29 l0 (ji21)).f0.f3)))) ?hg ?ho ?hn ?hr ?_; (case ho => rfl); (case hg => rfl); (case hn => rfl); (case hr => first | (go_simp; done) | (go_simp; rfl)); intro w28 hw; have n0_ : Aside0 (w28.heap[gb182]? = some (.cells #[.int .i64 ((rd_T29 l0 (ji21)).f0.f0), .int .i64 ((rd_T29 l0 (ji21)).f0.f1), .int .i64 ((rd_T29 l0 (ji21)).f0.f2), .int .i64 ((rd_T29 l0 (ji21)).f0.f3)] 24 (0, 0))) := ⟨(by rw [hw]; exact (by (with_reducible repeat (first | refine blk_drewN ?_ _ | refine blk_drew ?_ | refine blk_alloc ?_ _)); refine blk_put (cs := #[.int .i64 ((rd_T29 l0 (ji21)).f0.f0), .int .i64 ((rd_T29 l0 (ji21)).f0.f1), .int .i64 ((rd_T29 l0 (ji21)).f0.f2), .int .i64 0]) ?_ 3 _ rfl; (with_reducible repeat (first | refine blk_drewN ?_ _ | refine blk_drew ?_ | refine blk_alloc ?_ _)); refine blk_put (cs := #[.int .i64 ((rd_T29 l0 (ji21)).f0.f0), .int .i64 ((rd_T29 l0 (ji21)).f0.f1), .int .i64 0, .int .i64 0]) ?_ 2 _ rfl; (with_reducible repeat (first | refine blk_drewN ?_ _ | refine blk_drew ?_ | refine blk_alloc ?_ _)); refine blk_put (cs := #[.int .i64 ((rd_T29 l0 (ji21)).f0.f0), .int .i64 0, .int .i64 0, .int .i64 0]) ?_ 1 _ rfl; (with_reducible repeat (first | refine blk_drewN ?_ _ | refine blk_drew ?_ | refine blk_alloc ?_ _)); refine blk_put (cs := #[.int .i64 0, .int .i64 0, .int .i64 0, .int .i64 0]) ?_ 0 _ rfl; (with_reducible repeat (first | refine blk_drewN ?_ _ | refine blk_drew ?_ | refine blk_alloc ?_ _)); exact BK182.out))⟩; have n1_ : Aside0 (Below w.heap.size w w28) := ⟨(by rw [hw]; exact (by repeat (first | (with_reducible first | exact HB.out | apply below_alloc | apply pw_below_drewN | apply below_drew1 | refine below_set ?_ GE182.out) | exact HB.out)))⟩; clear hw; clear BK182; clear HB; have BK182 := n0_; have HB := n1_; clear n0_ n1_; have hcz29_0 : w28.cell? ⟨gb182, 0, none⟩ = some (.int .i64 ((rd_T29 l0 (ji21)).f0.f0)) := (blk_cell BK182.out 0).trans rfl; have hcz29_1 : w28.cell? ⟨gb182, 1, none⟩ = some (.int .i64 ((rd_T29 l0 (ji21)).f0.f1)) := (blk_cell BK182.out 1).trans rfl; have hcz29_2 : w28.cell? ⟨gb182, 2, none⟩ = some (.int .i64 ((rd_T29 l0 (ji21)).f0.f2)) := (blk_cell BK182.out 2).trans rfl; have hcz29_3 : w28.cell? ⟨gb182, 3, none⟩ = some (.int .i64 ((rd_T29 l0 (ji21)).f0.f3)) := (blk_cell BK182.out 3).trans rfl; have hfz29_0 := blk_frozen BK182.out 0; have hfz29_1 := blk_frozen BK182.out 1; have hfz29_2 := blk_frozen BK182.out 2; have hfz29_3 := blk_frozen BK182.out 3) | (go_at_call 10; (with_reducible refine (ledger_Enter.calls (fun k_ => k_ < w.heap.size) _ _ l0 ((rd_T29 l0 (ji21)).f0.f0) ((rd_T29 l0 (ji21)).f0.f1) ((rd_T29 l0 (ji21)).f0.f2) ((rd_T29 l0 (ji21)).f0.f3) _ _ l2 t183 t186 _ ?side1 ?side2 ?side3 A24.out).mono ?_); (case side1 => exact Kd.V_mk HC0.out (Kd.F_below (Kd.C_F k29_heap HR0.out) (by repeat (first | (with_reducible first | exact HB.out | apply below_alloc | apply pw_below_drewN | apply below_drew1 | refine below_set ?_ GE182.out) | exact HB.out)))); (case side2 => repeat (first | exact (Kd.C_below HR2.out HB.out) | (with_reducible refine Kd.C_alloc ?_ _) | (with_reducible refine Kd.C_drewN ?_ _) | (with_reducible refine Kd.C_drew ?_))); (case side3 => exact HC2.out); rintro e w30 ⟨v184, rfl, ho0, hb⟩; have n0_ := Aside0.mk (Kd.V_lower (Kd.V_mono (ok' := fun k_ => k_ ≠ gb182) ho0 (fun k_ hk_ => Or.elim hk_ (fun hs_ => fun e_ => Nat.not_le.2 hs_ (by rw [e_]; exact GW182.out)) (fun hn_ => (Kd.freshB (g := gb182) (o := .cells #[.int .i64 ((rd_T29 l0 (ji21)).f0.f0), .int .i64 ((rd_T29 l0 (ji21)).f0.f1), .int .i64 ((rd_T29 l0 (ji21)).f0.f2), .int .i64 ((rd_T29 l0 (ji21)).f0.f3)] 24 (0, 0)) (by (with_reducible repeat (first | refine blk_drewN ?_ _ | refine blk_drew ?_ | refine blk_alloc ?_ _)); exact BK182.out) k_ hn_)))) (below_size (by repeat (first | (with_reducible first | exact HB.out | apply below_alloc | apply pw_below_drewN | apply below_drew1 | refine below_set ?_ GE182.out) | exact HB.out)))); have n1_ := Aside0.mk (blk_below (g := gb182) (o := .cells #[.int .i64 ((rd_T29 l0 (ji21)).f0.f0), .int .i64 ((rd_T29 l0 (ji21)).f0.f1), .int .i64 ((rd_T29 l0 (ji21)).f0.f2), .int .i64 ((rd_T29 l0 (ji21)).f0.f3)] 24 (0, 0)) (by (with_reducible repeat (first | refine blk_drewN ?_ _ | refine blk_drew ?_ | refine blk_alloc ?_ _)); exact BK182.out) hb); have n2_ := Aside0.mk (below_step (by repeat (first | (with_reducible first | exact HB.out | apply below_alloc | apply pw_below_drewN | apply below_drew1 | refine below_set ?_ GE182.out) | exact HB.out)) hb); clear BK182; clear HB; have HO185 := n0_; have BK182 := n1_; have HB := n2_; clear n0_ n1_ n2_; (try clear hb); (try clear hb2); (try clear hk); (try clear hi); (try clear ho0)))
                    repeat (go_quiet (first | ((with_reducible refine gate_dst (N := 9) rfl ?_); (try (refine gate_guard (by rfl) ?_; dsimp only)); refine box_event ?hg (N := 9) ?hd (cs := #[.int .i64 0, .int .i64 0, .int .i64 0, .int .i64 0]) (t := 24) ?hr ?_; (case hd => rfl); (case hg => rfl); (case hr => first | (go_simp; done) | (go_simp; rfl)); intro gb182 hg w26 hbox hb; have n0_ := Aside0.mk (below_step (by repeat (first | (with_reducible first | exact HB.out | apply below_alloc | apply pw_below_drewN | apply below_drew1) | exact HB.out)) hb); have n1_ := Aside0.mk (hbox); have n2_ := Aside0.mk ((by rw [hg]; exact (below_size (by repeat (first | (with_reducible first | exact HB.out | apply below_alloc | apply pw_below_drewN | apply below_drew1) | exact HB.out))) : w.heap.size ≤ gb182)); have n3_ := Aside0.mk ((by rw [hg]; exact (below_size (by repeat (first | (with_reducible first | exact HB.out | apply below_alloc | apply pw_below_drewN | apply below_drew1) | exact HB.out))) : w.heap.size ≤ gb182)); clear HB; have HB := n0_; have BK182 := n1_; have GW182 := n2_; have GE182 := n3_; clear n0_ n1_ n2_ n3_; clear hb hbox hg; have hcz27_0 : w26.cell? ⟨gb182, 0, none⟩ = some (.int .i64 0) := (blk_cell BK182.out 0).trans rfl; have hcz27_1 : w26.cell? ⟨gb182, 1, none⟩ = some (.int .i64 0) := (blk_cell BK182.out 1).trans rfl; have hcz27_2 : w26.cell? ⟨gb182, 2, none⟩ = some (.int .i64 0) := (blk_cell BK182.out 2).trans rfl; have hcz27_3 : w26.cell? ⟨gb182, 3, none⟩ = some (.int .i64 0) := (blk_cell BK182.out 3).trans rfl; have hfz27_0 := blk_frozen BK182.out 0; have hfz27_1 := blk_frozen BK182.out 1; have hfz27_2 := blk_frozen BK182.out 2; have hfz27_3 := blk_frozen BK182.out 3) | ((with_reducible refine gate_store (t := 24) (p := 9) rfl ?_); (try (rw [drewN_self w26]; generalize hq_ : World.drewN w26 _ = w26; have n0_ := Aside0.mk (blk_at hq_ BK182.out); have n1_ := Aside0.mk (below_at hq_ HB.out); clear hq_ BK182 HB; have BK182 := n0_; have HB := n1_; clear n0_ n1_)); refine store_event (t := 24) (p := 9) (v := ?vo_w28) (w1 := ((((w26.setCell ⟨gb182, 0, none⟩ (.int .i64 ((rd_T29 l0 (ji21)).f0.f0))).setCell ⟨gb182, 1, none⟩ (.int .i64 ((rd_T29 l0 (ji21)).f0.f1))).setCell ⟨gb182, 2, none⟩ (.int .i64 ((rd_T29 l0 (ji21)).f0.f2))).setCell ⟨gb182, 3, none⟩ (.int .i64 ((rd_T29 l0 (ji21)).f0.f3)))) ?hg ?ho ?hn ?hr ?_; (case ho => rfl); (case hg => rfl); (case hn => rfl); (case hr => first | (go_simp; done) | (go_simp; rfl)); intro w28 hw; have n0_ : Aside0 (w28.heap[gb182]? = some (.cells #[.int .i64 ((rd_T29 l0 (ji21)).f0.f0), .int .i64 ((rd_T29 l0 (ji21)).f0.f1), .int .i64 ((rd_T29 l0 (ji21)).f0.f2), .int .i64 ((rd_T29 l0 (ji21)).f0.f3)] 24 (0, 0))) := ⟨(by rw [hw]; exact (by (with_reducible repeat (first | refine blk_drewN ?_ _ | refine blk_drew ?_ | refine blk_alloc ?_ _)); refine blk_put (cs := #[.int .i64 ((rd_T29 l0 (ji21)).f0.f0), .int .i64 ((rd_T29 l0 (ji21)).f0.f1), .int .i64 ((rd_T29 l0 (ji21)).f0.f2), .int .i64 0]) ?_ 3 _ rfl; (with_reducible repeat (first | refine blk_drewN ?_ _ | refine blk_drew ?_ | refine blk_alloc ?_ _)); refine blk_put (cs := #[.int .i64 ((rd_T29 l0 (ji21)).f0.f0), .int .i64 ((rd_T29 l0 (ji21)).f0.f1), .int .i64 0, .int .i64 0]) ?_ 2 _ rfl; (with_reducible repeat (first | refine blk_drewN ?_ _ | refine blk_drew ?_ | refine blk_alloc ?_ _)); refine blk_put (cs := #[.int .i64 ((rd_T29 l0 (ji21)).f0.f0), .int .i64 0, .int .i64 0, .int .i64 0]) ?_ 1 _ rfl; (with_reducible repeat (first | refine blk_drewN ?_ _ | refine blk_drew ?_ | refine blk_alloc ?_ _)); refine blk_put (cs := #[.int .i64 0, .int .i64 0, .int .i64 0, .int .i64 0]) ?_ 0 _ rfl; (with_reducible repeat (first | refine blk_drewN ?_ _ | refine blk_drew ?_ | refine blk_alloc ?_ _)); exact BK182.out))⟩; have n1_ : Aside0 (Below w.heap.size w w28) := ⟨(by rw [hw]; exact (by repeat (first | (with_reducible first | exact HB.out | apply below_alloc | apply pw_below_drewN | apply below_drew1 | refine below_set ?_ GE182.out) | exact HB.out)))⟩; clear hw; clear BK182; clear HB; have BK182 := n0_; have HB := n1_; clear n0_ n1_; have hcz29_0 : w28.cell? ⟨gb182, 0, none⟩ = some (.int .i64 ((rd_T29 l0 (ji21)).f0.f0)) := (blk_cell BK182.out 0).trans rfl; have hcz29_1 : w28.cell? ⟨gb182, 1, none⟩ = some (.int .i64 ((rd_T29 l0 (ji21)).f0.f1)) := (blk_cell BK182.out 1).trans rfl; have hcz29_2 : w28.cell? ⟨gb182, 2, none⟩ = some (.int .i64 ((rd_T29 l0 (ji21)).f0.f2)) := (blk_cell BK182.out 2).trans rfl; have hcz29_3 : w28.cell? ⟨gb182, 3, none⟩ = some (.int .i64 ((rd_T29 l0 (ji21)).f0.f3)) := (blk_cell BK182.out 3).trans rfl; have hfz29_0 := blk_frozen BK182.out 0; have hfz29_1 := blk_frozen BK182.out 1; have hfz29_2 := blk_frozen BK182.out 2; have hfz29_3 := blk_frozen BK182.out 3) | (go_at_call 10; (with_reducible refine (ledger_Enter.calls (fun k_ => k_ < w.heap.size) _ _ l0 ((rd_T29 l0 (ji21)).f0.f0) ((rd_T29 l0 (ji21)).f0.f1) ((rd_T29 l0 (ji21)).f0.f2) ((rd_T29 l0 (ji21)).f0.f3) _ _ l2 t183 t186 _ ?side1 ?side2 ?side3 A24.out).mono ?_); (case side1 => exact Kd.V_mk HC0.out (Kd.F_below (Kd.C_F k29_heap HR0.out) (by repeat (first | (with_reducible first | exact HB.out | apply below_alloc | apply pw_below_drewN | apply below_drew1 | refine below_set ?_ GE182.out) | exact HB.out)))); (case side2 => repeat (first | exact (Kd.C_below HR2.out HB.out) | (with_reducible refine Kd.C_alloc ?_ _) | (with_reducible refine Kd.C_drewN ?_ _) | (with_reducible refine Kd.C_drew ?_))); (case side3 => exact HC2.out); rintro e w30 ⟨v184, rfl, ho0, hb⟩; have n0_ := Aside0.mk (Kd.V_lower (Kd.V_mono (ok' := fun k_ => k_ ≠ gb182) ho0 (fun k_ hk_ => Or.elim hk_ (fun hs_ => fun e_ => Nat.not_le.2 hs_ (by rw [e_]; exact GW182.out)) (fun hn_ => (Kd.freshB (g := gb182) (o := .cells #[.int .i64 ((rd_T29 l0 (ji21)).f0.f0), .int .i64 ((rd_T29 l0 (ji21)).f0.f1), .int .i64 ((rd_T29 l0 (ji21)).f0.f2), .int .i64 ((rd_T29 l0 (ji21)).f0.f3)] 24 (0, 0)) (by (with_reducible repeat (first | refine blk_drewN ?_ _ | refine blk_drew ?_ | refine blk_alloc ?_ _)); exact BK182.out) k_ hn_)))) (below_size (by repeat (first | (with_reducible first | exact HB.out | apply below_alloc | apply pw_below_drewN | apply below_drew1 | refine below_set ?_ GE182.out) | exact HB.out)))); have n1_ := Aside0.mk (blk_below (g := gb182) (o := .cells #[.int .i64 ((rd_T29 l0 (ji21)).f0.f0), .int .i64 ((rd_T29 l0 (ji21)).f0.f1), .int .i64 ((rd_T29 l0 (ji21)).f0.f2), .int .i64 ((rd_T29 l0 (ji21)).f0.f3)] 24 (0, 0)) (by (with_reducible repeat (first | refine blk_drewN ?_ _ | refine blk_drew ?_ | refine blk_alloc ?_ _)); exact BK182.out) hb); have n2_ := Aside0.mk (below_step (by repeat (first | (with_reducible first | exact HB.out | apply below_alloc | apply pw_below_drewN | apply below_drew1 | refine below_set ?_ GE182.out) | exact HB.out)) hb); clear BK182; clear HB; have HO185 := n0_; have BK182 := n1_; have HB := n2_; clear n0_ n1_ n2_; (try clear hb); (try clear hb2); (try clear hk); (try clear hi); (try clear ho0))); go_upto_region 11 with (first | ((with_reducible refine gate_dst (N := 9) rfl ?_); (try (refine gate_guard (by rfl) ?_; dsimp only)); refine box_event ?hg (N := 9) ?hd (cs := #[.int .i64 0, .int .i64 0, .int .i64 0, .int .i64 0]) (t := 24) ?hr ?_; (case hd => rfl); (case hg => rfl); (case hr => first | (go_simp; done) | (go_simp; rfl)); intro gb182 hg w26 hbox hb; have n0_ := Aside0.mk (below_step (by repeat (first | (with_reducible first | exact HB.out | apply below_alloc | apply pw_below_drewN | apply below_drew1) | exact HB.out)) hb); have n1_ := Aside0.mk (hbox); have n2_ := Aside0.mk ((by rw [hg]; exact (below_size (by repeat (first | (with_reducible first | exact HB.out | apply below_alloc | apply pw_below_drewN | apply below_drew1) | exact HB.out))) : w.heap.size ≤ gb182)); have n3_ := Aside0.mk ((by rw [hg]; exact (below_size (by repeat (first | (with_reducible first | exact HB.out | apply below_alloc | apply pw_below_drewN | apply below_drew1) | exact HB.out))) : w.heap.size ≤ gb182)); clear HB; have HB := n0_; have BK182 := n1_; have GW182 := n2_; have GE182 := n3_; clear n0_ n1_ n2_ n3_; clear hb hbox hg; have hcz27_0 : w26.cell? ⟨gb182, 0, none⟩ = some (.int .i64 0) := (blk_cell BK182.out 0).trans rfl; have hcz27_1 : w26.cell? ⟨gb182, 1, none⟩ = some (.int .i64 0) := (blk_cell BK182.out 1).trans rfl; have hcz27_2 : w26.cell? ⟨gb182, 2, none⟩ = some (.int .i64 0) := (blk_cell BK182.out 2).trans rfl; have hcz27_3 : w26.cell? ⟨gb182, 3, none⟩ = some (.int .i64 0) := (blk_cell BK182.out 3).trans rfl; have hfz27_0 := blk_frozen BK182.out 0; have hfz27_1 := blk_frozen BK182.out 1; have hfz27_2 := blk_frozen BK182.out 2; have hfz27_3 := blk_frozen BK182.out 3) | ((with_reducible refine gate_store (t := 24) (p := 9) rfl ?_); (try (rw [drewN_self w26]; generalize hq_ : World.drewN w26 _ = w26; have n0_ := Aside0.mk (blk_at hq_ BK182.out); have n1_ := Aside0.mk (below_at hq_ HB.out); clear hq_ BK182 HB; have BK182 := n0_; have HB := n1_; clear n0_ n1_)); refine store_event (t := 24) (p := 9) (v := ?vo_w28) (w1 := ((((w26.setCell ⟨gb182, 0, none⟩ (.int .i64 ((rd_T29 l0 (ji21)).f0.f0))).setCell ⟨gb182, 1, none⟩ (.int .i64 ((rd_T29 l0 (ji21)).f0.f1))).setCell ⟨gb182, 2, none⟩ (.int .i64 ((rd_T29 l0 (ji21)).f0.f2))).setCell ⟨gb182, 3, none⟩ (.int .i64 ((rd_T29 l0 (ji21)).f0.f3)))) ?hg ?ho ?hn ?hr ?_; (case ho => rfl); (case hg => rfl); (case hn => rfl); (case hr => first | (go_simp; done) | (go_simp; rfl)); intro w28 hw; have n0_ : Aside0 (w28.heap[gb182]? = some (.cells #[.int .i64 ((rd_T29 l0 (ji21)).f0.f0), .int .i64 ((rd_T29 l0 (ji21)).f0.f1), .int .i64 ((rd_T29 l0 (ji21)).f0.f2), .int .i64 ((rd_T29 l0 (ji21)).f0.f3)] 24 (0, 0))) := ⟨(by rw [hw]; exact (by (with_reducible repeat (first | refine blk_drewN ?_ _ | refine blk_drew ?_ | refine blk_alloc ?_ _)); refine blk_put (cs := #[.int .i64 ((rd_T29 l0 (ji21)).f0.f0), .int .i64 ((rd_T29 l0 (ji21)).f0.f1), .int .i64 ((rd_T29 l0 (ji21)).f0.f2), .int .i64 0]) ?_ 3 _ rfl; (with_reducible repeat (first | refine blk_drewN ?_ _ | refine blk_drew ?_ | refine blk_alloc ?_ _)); refine blk_put (cs := #[.int .i64 ((rd_T29 l0 (ji21)).f0.f0), .int .i64 ((rd_T29 l0 (ji21)).f0.f1), .int .i64 0, .int .i64 0]) ?_ 2 _ rfl; (with_reducible repeat (first | refine blk_drewN ?_ _ | refine blk_drew ?_ | refine blk_alloc ?_ _)); refine blk_put (cs := #[.int .i64 ((rd_T29 l0 (ji21)).f0.f0), .int .i64 0, .int .i64 0, .int .i64 0]) ?_ 1 _ rfl; (with_reducible repeat (first | refine blk_drewN ?_ _ | refine blk_drew ?_ | refine blk_alloc ?_ _)); refine blk_put (cs := #[.int .i64 0, .int .i64 0, .int .i64 0, .int .i64 0]) ?_ 0 _ rfl; (with_reducible repeat (first | refine blk_drewN ?_ _ | refine blk_drew ?_ | refine blk_alloc ?_ _)); exact BK182.out))⟩; have n1_ : Aside0 (Below w.heap.size w w28) := ⟨(by rw [hw]; exact (by repeat (first | (with_reducible first | exact HB.out | apply below_alloc | apply pw_below_drewN | apply below_drew1 | refine below_set ?_ GE182.out) | exact HB.out)))⟩; clear hw; clear BK182; clear HB; have BK182 := n0_; have HB := n1_; clear n0_ n1_; have hcz29_0 : w28.cell? ⟨gb182, 0, none⟩ = some (.int .i64 ((rd_T29 l0 (ji21)).f0.f0)) := (blk_cell BK182.out 0).trans rfl; have hcz29_1 : w28.cell? ⟨gb182, 1, none⟩ = some (.int .i64 ((rd_T29 l0 (ji21)).f0.f1)) := (blk_cell BK182.out 1).trans rfl; have hcz29_2 : w28.cell? ⟨gb182, 2, none⟩ = some (.int .i64 ((rd_T29 l0 (ji21)).f0.f2)) := (blk_cell BK182.out 2).trans rfl; have hcz29_3 : w28.cell? ⟨gb182, 3, none⟩ = some (.int .i64 ((rd_T29 l0 (ji21)).f0.f3)) := (blk_cell BK182.out 3).trans rfl; have hfz29_0 := blk_frozen BK182.out 0; have hfz29_1 := blk_frozen BK182.out 1; have hfz29_2 := blk_frozen BK182.out 2; have hfz29_3 := blk_frozen BK182.out 3) | (go_at_call 10; (with_reducible refine (ledger_Enter.calls (fun k_ => k_ < w.heap.size) _ _ l0 ((rd_T29 l0 (ji21)).f0.f0) ((rd_T29 l0 (ji21)).f0.f1) ((rd_T29 l0 (ji21)).f0.f2) ((rd_T29 l0 (ji21)).f0.f3) _ _ l2 t183 t186 _ ?side1 ?side2 ?side3 A24.out).mono ?_); (case side1 => exact Kd.V_mk HC0.out (Kd.F_below (Kd.C_F k29_heap HR0.out) (by repeat (first | (with_reducible first | exact HB.out | apply below_alloc | apply pw_below_drewN | apply below_drew1 | refine below_set ?_ GE182.out) | exact HB.out)))); (case side2 => repeat (first | exact (Kd.C_below HR2.out HB.out) | (with_reducible refine Kd.C_alloc ?_ _) | (with_reducible refine Kd.C_drewN ?_ _) | (with_reducible refine Kd.C_drew ?_))); (case side3 => exact HC2.out); rintro e w30 ⟨v184, rfl, ho0, hb⟩; have n0_ := Aside0.mk (Kd.V_lower (Kd.V_mono (ok' := fun k_ => k_ ≠ gb182) ho0 (fun k_ hk_ => Or.elim hk_ (fun hs_ => fun e_ => Nat.not_le.2 hs_ (by rw [e_]; exact GW182.out)) (fun hn_ => (Kd.freshB (g := gb182) (o := .cells #[.int .i64 ((rd_T29 l0 (ji21)).f0.f0), .int .i64 ((rd_T29 l0 (ji21)).f0.f1), .int .i64 ((rd_T29 l0 (ji21)).f0.f2), .int .i64 ((rd_T29 l0 (ji21)).f0.f3)] 24 (0, 0)) (by (with_reducible repeat (first | refine blk_drewN ?_ _ | refine blk_drew ?_ | refine blk_alloc ?_ _)); exact BK182.out) k_ hn_)))) (below_size (by repeat (first | (with_reducible first | exact HB.out | apply below_alloc | apply pw_below_drewN | apply below_drew1 | refine below_set ?_ GE182.out) | exact HB.out)))); have n1_ := Aside0.mk (blk_below (g := gb182) (o := .cells #[.int .i64 ((rd_T29 l0 (ji21)).f0.f0), .int .i64 ((rd_T29 l0 (ji21)).f0.f1), .int .i64 ((rd_T29 l0 (ji21)).f0.f2), .int .i64 ((rd_T29 l0 (ji21)).f0.f3)] 24 (0, 0)) (by (with_reducible repeat (first | refine blk_drewN ?_ _ | refine blk_drew ?_ | refine blk_alloc ?_ _)); exact BK182.out) hb); have n2_ := Aside0.mk (below_step (by repeat (first | (with_reducible first | exact HB.out | apply below_alloc | apply pw_below_drewN | apply below_drew1 | refine below_set ?_ GE182.out) | exact HB.out)) hb); clear BK182; clear HB; have HO185 := n0_; have BK182 := n1_; have HB := n2_; clear n0_ n1_ n2_; (try clear hb); (try clear hb2); (try clear hk); (try clear hi); (try clear ho0))))
                    (try simp only [Act.put, List.setIfInBounds_toArray, List.set_cons_zero, List.set_cons_succ])
                    go_cut [64] (fun v64 wc => ∃ (kq : Nat) (x64_24 : Bool), v64 = .bool x64_24 ∧ Aside0 (switchboardlaw12_LedgerStill.j2 kq l0 t183 x64_24 ((rd_T29 l0 (ji21)).f0.f0) ((rd_T29 l0 (ji21)).f0.f1) ((rd_T29 l0 (ji21)).f0.f2) ((rd_T29 l0 (ji21)).f0.f3) = some true) ∧ Aside0 (kq ≤ k2) ∧ Aside0 (Kd.V k29 29 wc w.heap.size (fun k_ => k_ ≠ gb182) v184 t183) ∧ Aside0 (wc.heap[gb182]? = some (.cells #[.int .i64 ((rd_T29 l0 (ji21)).f0.f0), .int .i64 ((rd_T29 l0 (ji21)).f0.f1), .int .i64 ((rd_T29 l0 (ji21)).f0.f2), .int .i64 ((rd_T29 l0 (ji21)).f0.f3)] 24 (0, 0))) ∧ Aside0 (Below w.heap.size w wc))
                    case first =>
                      have H := HC25.out
                      clear HC25
                      by_cases c31 : t186 = true
                      · subst c31
                        have H1 : (switchboardlaw12_LedgerStill.j2 k2 l0 t183 true ((rd_T29 l0 (ji21)).f0.f0) ((rd_T29 l0 (ji21)).f0.f1) ((rd_T29 l0 (ji21)).f0.f2) ((rd_T29 l0 (ji21)).f0.f3)) = some true := by rw [if_pos rfl] at H; exact H
                        clear H
                        have H := H1
                        clear H1
                        have H' := Aside0.mk H
                        clear H
                        go_wp2
                        repeat (go_quiet (fail); try go_wp2)
                        go_meet
                        case rel => exact ⟨_, (true), (by first | rfl | (simp; done) | (simp [*]; done)), H', ⟨by have := HJ3.out; have := HK2.out; first | omega | exact Nat.le_refl _⟩, ⟨by (with_reducible repeat (first | apply Kd.V_alloc | apply Kd.V_drewN | apply Kd.V_drew)); exact HO185.out⟩, ⟨by (with_reducible repeat (first | refine blk_drewN ?_ _ | refine blk_drew ?_ | refine blk_alloc ?_ _)); exact BK182.out⟩, ⟨by repeat (first | (with_reducible first | exact HB.out | apply below_alloc | apply pw_below_drewN | apply below_drew1 | refine below_set ?_ GE182.out) | exact HB.out)⟩⟩
                      · replace c31 := Bool.eq_false_iff.mpr c31
                        subst c31
                        have H1 : (switchboardlaw12_LedgerStill.j2 k2 l0 t183 ((t183.length : Int) != (l0.length : Int)) ((rd_T29 l0 (ji21)).f0.f0) ((rd_T29 l0 (ji21)).f0.f1) ((rd_T29 l0 (ji21)).f0.f2) ((rd_T29 l0 (ji21)).f0.f3)) = some true := by rw [if_neg (show ¬ (false = true) by decide)] at H; exact H
                        clear H
                        have H := H1
                        clear H1
                        have H' := Aside0.mk H
                        clear H
                        obtain ⟨Ao32, co32, eo32⟩ := Kd.V_slice HO185.out
                        subst eo32
                        go_wp2
                        repeat (go_quiet (fail); try go_wp2)
                        go_meet
                        case rel => exact ⟨_, (((t183.length : Int) != (l0.length : Int))), (by first | rfl | (simp; done) | (simp [*]; done)), H', ⟨by have := HJ3.out; have := HK2.out; first | omega | exact Nat.le_refl _⟩, ⟨by (with_reducible repeat (first | apply Kd.V_alloc | apply Kd.V_drewN | apply Kd.V_drew)); exact HO185.out⟩, ⟨by (with_reducible repeat (first | refine blk_drewN ?_ _ | refine blk_drew ?_ | refine blk_alloc ?_ _)); exact BK182.out⟩, ⟨by repeat (first | (with_reducible first | exact HB.out | apply below_alloc | apply pw_below_drewN | apply below_drew1 | refine below_set ?_ GE182.out) | exact HB.out)⟩⟩
                    case rest =>
                      clear HC25
                      try clear c1
                      try clear p1
                      try clear q1
                      try clear hx1
                      try clear c2
                      try clear p2
                      try clear c3
                      try clear c5
                      try clear c5b0
                      try clear c5b1
                      try clear c5b2
                      try clear c6
                      try clear c6b0
                      try clear c6b1
                      try clear p6
                      try clear c7
                      try clear c10
                      try clear c10b0
                      try clear c11
                      try clear c11b0
                      try clear c12
                      try clear c12b0
                      try clear c13
                      try clear c13b0
                      try clear c13b1
                      try clear c17
                      try clear p17
                      try clear q17
                      try clear hx17
                      try clear c18
                      try clear p18
                      try clear q18
                      try clear hx18
                      try clear c20
                      try clear c20b0
                      try clear c20b1
                      try clear c20b2
                      try clear c22
                      try clear c22b0
                      try clear c23
                      try clear c23b0
                      try clear c31
                      try clear hcz16_0
                      try clear hcz16_1
                      try clear hcz16_2
                      try clear hcz16_3
                      try clear hcz16_4
                      try clear hcz19_0
                      try clear hcz19_1
                      try clear hcz19_2
                      try clear hcz19_3
                      try clear hcz19_4
                      try clear hcz27_0
                      try clear hcz27_1
                      try clear hcz27_2
                      try clear hcz27_3
                      try clear hcz29_0
                      try clear hcz29_1
                      try clear hcz29_2
                      try clear hcz29_3
                      try clear hfz16_0
                      try clear hfz16_1
                      try clear hfz16_2
                      try clear hfz16_3
                      try clear hfz16_4
                      try clear hfz19_0
                      try clear hfz19_1
                      try clear hfz19_2
                      try clear hfz19_3
                      try clear hfz19_4
                      try clear hfz27_0
                      try clear hfz27_1
                      try clear hfz27_2
                      try clear hfz27_3
                      try clear hfz29_0
                      try clear hfz29_1
                      try clear hfz29_2
                      try clear hfz29_3
                      try clear hx178_0
                      try clear hx178_1
                      try clear hx178_2
                      try clear hx178_3
                      try clear hx178_4
                      try clear hx181_0
                      try clear hx181_1
                      try clear hx181_2
                      try clear hx181_3
                      try clear hx181_4
                      try clear p178
                      try clear p181
                      try clear p2
                      try clear q178
                      try clear q181
                      obtain ⟨kq, x64_24, rfl, HA, HJ24, HO_10, BK182, HB⟩ := hcut
                      cases kq with
                      | zero => exact absurd HA.out (by simp [switchboardlaw12_LedgerStill.j2])
                      | succ kj24 =>
                        have H := HA.out
                        clear HA
                        simp only [switchboardlaw12_LedgerStill.j2] at H
                        by_cases c33 : x64_24 = true
                        · subst c33
                          have H1 : (some false) = some true := by rw [if_pos rfl] at H; exact H
                          clear H
                          have H := H1
                          clear H1
                          exact absurd H (by simp)
                        · replace c33 := Bool.eq_false_iff.mpr c33
                          subst c33
                          have H1 : (switchboardlaw12_LedgerStill.l1 kj24 l0 t183 (l0.length : Int) 0 ((rd_T29 l0 (ji21)).f0.f0) ((rd_T29 l0 (ji21)).f0.f1) ((rd_T29 l0 (ji21)).f0.f2) ((rd_T29 l0 (ji21)).f0.f3)) = some true := by rw [if_neg (show ¬ (false = true) by decide)] at H; exact H
                          clear H
                          have H := H1
                          clear H1
                          have H' := Aside0.mk H
                          clear H
                          go_wp2
                          repeat (go_quiet (fail); try go_wp2)
                          go_loopg [67] kj24 (fun kq v67 w' => ∃ (x67_4 : Int), v67 = .int .i64 x67_4 ∧ Aside0 (switchboardlaw12_LedgerStill.l1 kq l0 t183 (l0.length : Int) x67_4 ((rd_T29 l0 (ji21)).f0.f0) ((rd_T29 l0 (ji21)).f0.f1) ((rd_T29 l0 (ji21)).f0.f2) ((rd_T29 l0 (ji21)).f0.f3) = some true) ∧ Aside0 (kq ≤ kj24) ∧ Aside0 (Kd.V k29 29 w' w.heap.size (fun k_ => k_ ≠ gb182) v184 t183) ∧ Aside0 (w'.heap[gb182]? = some (.cells #[.int .i64 ((rd_T29 l0 (ji21)).f0.f0), .int .i64 ((rd_T29 l0 (ji21)).f0.f1), .int .i64 ((rd_T29 l0 (ji21)).f0.f2), .int .i64 ((rd_T29 l0 (ji21)).f0.f3)] 24 (0, 0))) ∧ Aside0 (Below w.heap.size w w'))
                          case atStart => exact ⟨(0), (by first | rfl | (simp; done) | (simp [*]; done)), H', ⟨Nat.le_refl _⟩, ⟨by (with_reducible repeat (first | apply Kd.V_alloc | apply Kd.V_drewN | apply Kd.V_drew)); exact HO_10.out⟩, ⟨by (with_reducible repeat (first | refine blk_drewN ?_ _ | refine blk_drew ?_ | refine blk_alloc ?_ _)); exact BK182.out⟩, ⟨by repeat (first | (with_reducible first | exact HB.out | apply below_alloc | apply pw_below_drewN | apply below_drew1 | refine below_set ?_ GE182.out) | exact HB.out)⟩⟩
                          case round =>
                            clear H'
                            try clear c1
                            try clear p1
                            try clear q1
                            try clear hx1
                            try clear c2
                            try clear p2
                            try clear c3
                            try clear c5
                            try clear c5b0
                            try clear c5b1
                            try clear c5b2
                            try clear c6
                            try clear c6b0
                            try clear c6b1
                            try clear p6
                            try clear c7
                            try clear c10
                            try clear c10b0
                            try clear c11
                            try clear c11b0
                            try clear c12
                            try clear c12b0
                            try clear c13
                            try clear c13b0
                            try clear c13b1
                            try clear c17
                            try clear p17
                            try clear q17
                            try clear hx17
                            try clear c18
                            try clear p18
                            try clear q18
                            try clear hx18
                            try clear c20
                            try clear c20b0
                            try clear c20b1
                            try clear c20b2
                            try clear c22
                            try clear c22b0
                            try clear c23
                            try clear c23b0
                            try clear c31
                            try clear c33
                            try clear hcz16_0
                            try clear hcz16_1
                            try clear hcz16_2
                            try clear hcz16_3
                            try clear hcz16_4
                            try clear hcz19_0
                            try clear hcz19_1
                            try clear hcz19_2
                            try clear hcz19_3
                            try clear hcz19_4
                            try clear hcz27_0
                            try clear hcz27_1
                            try clear hcz27_2
                            try clear hcz27_3
                            try clear hcz29_0
                            try clear hcz29_1
                            try clear hcz29_2
                            try clear hcz29_3
                            try clear hfz16_0
                            try clear hfz16_1
                            try clear hfz16_2
                            try clear hfz16_3
                            try clear hfz16_4
                            try clear hfz19_0
                            try clear hfz19_1
                            try clear hfz19_2
                            try clear hfz19_3
                            try clear hfz19_4
                            try clear hfz27_0
                            try clear hfz27_1
                            try clear hfz27_2
                            try clear hfz27_3
                            try clear hfz29_0
                            try clear hfz29_1
                            try clear hfz29_2
                            try clear hfz29_3
                            try clear hx178_0
                            try clear hx178_1
                            try clear hx178_2
                            try clear hx178_3
                            try clear hx178_4
                            try clear hx181_0
                            try clear hx181_1
                            try clear hx181_2
                            try clear hx181_3
                            try clear hx181_4
                            try clear p1
                            try clear p17
                            try clear p178
                            try clear p18
                            try clear p181
                            try clear p2
                            try clear p6
                            try clear q1
                            try clear q17
                            try clear q178
                            try clear q18
                            try clear q181
                            obtain ⟨x67_4, rfl, HA, HK4, HO_10, BK182, HB⟩ := hrel
                            cases gk with
                            | zero => exact absurd HA.out (by simp [switchboardlaw12_LedgerStill.l1])
                            | succ k4 =>
                              have H := HA.out
                              clear HA
                              simp only [switchboardlaw12_LedgerStill.l1] at H
                              by_cases c34 : x67_4 < (l0.length : Int)
                              · rw [if_pos c34] at H
                                have c34b0 : decide (x67_4 < (l0.length : Int)) = true := decide_eq_true c34
                                clear c34
                                by_cases c35 : 0 ≤ x67_4
                                · rw [if_pos c35] at H
                                  have c35b0 : decide (0 ≤ x67_4) = true := decide_eq_true c35
                                  clear c35
                                  by_cases c36 : x67_4 < (t183.length : Int)
                                  · rw [if_pos c36] at H
                                    have c36b0 : decide (x67_4 < (t183.length : Int)) = true := decide_eq_true c36
                                    clear c36
                                    by_cases c37 : x67_4 < (l0.length : Int)
                                    · rw [if_pos c37] at H
                                      have c37b0 : decide (x67_4 < (l0.length : Int)) = true := decide_eq_true c37
                                      clear c37
                                      by_cases c38 : (!(((rd_T29 t183 x67_4).f0.f0) == ((rd_T29 l0 x67_4).f0.f0)) || (!(((rd_T29 t183 x67_4).f0.f1) == ((rd_T29 l0 x67_4).f0.f1)) || (!(((rd_T29 t183 x67_4).f0.f2) == ((rd_T29 l0 x67_4).f0.f2)) || (!(((rd_T29 t183 x67_4).f0.f3) == ((rd_T29 l0 x67_4).f0.f3)))))) = true
                                      · rw [if_pos c38] at H
                                        have c38b0 : (!(((rd_T29 t183 x67_4).f0.f0) == ((rd_T29 l0 x67_4).f0.f0)) || (!(((rd_T29 t183 x67_4).f0.f1) == ((rd_T29 l0 x67_4).f0.f1)) || (!(((rd_T29 t183 x67_4).f0.f2) == ((rd_T29 l0 x67_4).f0.f2)) || (!(((rd_T29 t183 x67_4).f0.f3) == ((rd_T29 l0 x67_4).f0.f3)))))) = true := c38
                                        clear c38
                                        exact absurd H (by simp)
                                      · rw [if_neg c38] at H
                                        have c38b0 : (!(((rd_T29 t183 x67_4).f0.f0) == ((rd_T29 l0 x67_4).f0.f0)) || (!(((rd_T29 t183 x67_4).f0.f1) == ((rd_T29 l0 x67_4).f0.f1)) || (!(((rd_T29 t183 x67_4).f0.f2) == ((rd_T29 l0 x67_4).f0.f2)) || (!(((rd_T29 t183 x67_4).f0.f3) == ((rd_T29 l0 x67_4).f0.f3)))))) = false := by simpa using c38
                                        clear c38
                                        replace H := Option.bind_eq_some_iff.mp H
                                        obtain ⟨t191, A390, H⟩ := H
                                        replace H : (if t191 = true then (switchboardlaw12_LedgerStill.l1 k4 l0 t183 (l0.length : Int) (wrap64 (x67_4 + 1)) ((rd_T29 l0 (ji21)).f0.f0) ((rd_T29 l0 (ji21)).f0.f1) ((rd_T29 l0 (ji21)).f0.f2) ((rd_T29 l0 (ji21)).f0.f3)) else (some false)) = some true := H
                                        have A39 := Aside0.mk A390
                                        clear A390
                                        by_cases c40 : t191 = true
                                        · subst c40
                                          have H1 : (switchboardlaw12_LedgerStill.l1 k4 l0 t183 (l0.length : Int) (wrap64 (x67_4 + 1)) ((rd_T29 l0 (ji21)).f0.f0) ((rd_T29 l0 (ji21)).f0.f1) ((rd_T29 l0 (ji21)).f0.f2) ((rd_T29 l0 (ji21)).f0.f3)) = some true := by rw [if_pos rfl] at H; exact H
                                          clear H
                                          have H := H1
                                          clear H1
                                          have H' := Aside0.mk H
                                          clear H
                                          obtain ⟨Ao41, co41, eo41⟩ := Kd.V_slice HO_10.out
                                          subst eo41
                                          have p187 : 0 ≤ (x67_4 : Int) := of_decide_eq_true (by first | (with_reducible assumption) | assumption)
                                          have q187 : x67_4 < (t183.length : Int) := of_decide_eq_true (by first | (with_reducible assumption) | assumption)
                                          obtain ⟨ad187, A187_4, c187_4, e187, hx187_0, hx187_1, hx187_2, hx187_3, hx187_4, hl187_4, hi187_4⟩ := at_T29 (Kd.V_reads' HO_10.out).2.2 x67_4 p187 q187
                                          cases e187
                                          obtain ⟨ce187, hce187, hMe187, hcc187⟩ := Kd.V_get HO_10.out z29 x67_4 p187 (by first | exact q187 | exact of_decide_eq_true (by first | (with_reducible assumption) | assumption) | (have e_ := (Kd.V_reads' HO_10.out).1; omega))
                                          obtain ⟨ua187_4, uc187_4, rfl, ul187_4, ge187_4⟩ := k29_openF hMe187
                                          have hv187_4 := hcc187 4 _ rfl
                                          rw [add_field _ _ 4 (by omega)] at hv187_4
                                          replace hv187_4 := Option.some.inj (hv187_4.symm.trans hx187_4)
                                          injection hv187_4 with hva_ hvn_ hvc_
                                          rw [hva_] at ge187_4
                                          rw [hvc_] at ul187_4
                                          have HL187_4 := Aside0.mk (show Kd.V (Kd.int .i64) 3 _ w.heap.size _ _ ((rd_T29 t183 x67_4).f1) from Kd.V_mk ul187_4 ge187_4)
                                          clear hva_ hvn_ hvc_ ge187_4 ul187_4
                                          clear hcc187 hce187
                                          have HR187_4 := Aside0.mk hi187_4
                                          have HC187_4 := Aside0.mk hl187_4
                                          clear hi187_4 hl187_4
                                          replace p187 := eq_true p187
                                          replace q187 := eq_true q187
                                          have p188 : 0 ≤ (x67_4 : Int) := of_decide_eq_true (by first | (with_reducible assumption) | assumption)
                                          have q188 : x67_4 < (l0.length : Int) := of_decide_eq_true (by first | (with_reducible assumption) | assumption)
                                          obtain ⟨ad188, A188_4, c188_4, e188, hx188_0, hx188_1, hx188_2, hx188_3, hx188_4, hl188_4, hi188_4⟩ := at_T29 HR0.out x67_4 p188 q188
                                          obtain rfl : ad181 = ad188 := (by injection e188)
                                          replace hx188_0 := (HB.out.cell (World.block_lt_of_cell? w _ hx188_0)).trans hx188_0
                                          replace hx188_1 := (HB.out.cell (World.block_lt_of_cell? w _ hx188_1)).trans hx188_1
                                          replace hx188_2 := (HB.out.cell (World.block_lt_of_cell? w _ hx188_2)).trans hx188_2
                                          replace hx188_3 := (HB.out.cell (World.block_lt_of_cell? w _ hx188_3)).trans hx188_3
                                          replace hx188_4 := (HB.out.cell (World.block_lt_of_cell? w _ hx188_4)).trans hx188_4
                                          have HR188_4 := Aside0.mk hi188_4
                                          have HC188_4 := Aside0.mk hl188_4
                                          clear hi188_4 hl188_4
                                          replace p188 := eq_true p188
                                          replace q188 := eq_true q188
                                          have p189 : 0 ≤ (x67_4 : Int) := of_decide_eq_true (by first | (with_reducible assumption) | assumption)
                                          have q189 : x67_4 < (t183.length : Int) := of_decide_eq_true (by first | (with_reducible assumption) | assumption)
                                          obtain ⟨ad189, A189_4, c189_4, e189, hx189_0, hx189_1, hx189_2, hx189_3, hx189_4, hl189_4, hi189_4⟩ := at_T29 (Kd.V_reads' HO_10.out).2.2 x67_4 p189 q189
                                          obtain rfl : ad187 = ad189 := (by injection e189)
                                          obtain ⟨ce189, hce189, hMe189, hcc189⟩ := Kd.V_get HO_10.out z29 x67_4 p189 (by first | exact q189 | exact of_decide_eq_true (by first | (with_reducible assumption) | assumption) | (have e_ := (Kd.V_reads' HO_10.out).1; omega))
                                          obtain ⟨ua189_4, uc189_4, rfl, ul189_4, ge189_4⟩ := k29_openF hMe189
                                          have hv189_4 := hcc189 4 _ rfl
                                          rw [add_field _ _ 4 (by omega)] at hv189_4
                                          replace hv189_4 := Option.some.inj (hv189_4.symm.trans hx189_4)
                                          injection hv189_4 with hva_ hvn_ hvc_
                                          rw [hva_] at ge189_4
                                          rw [hvc_] at ul189_4
                                          have HL189_4 := Aside0.mk (show Kd.V (Kd.int .i64) 3 _ w.heap.size _ _ ((rd_T29 t183 x67_4).f1) from Kd.V_mk ul189_4 ge189_4)
                                          clear hva_ hvn_ hvc_ ge189_4 ul189_4
                                          clear hcc189 hce189
                                          have HR189_4 := Aside0.mk hi189_4
                                          have HC189_4 := Aside0.mk hl189_4
                                          clear hi189_4 hl189_4
                                          replace p189 := eq_true p189
                                          replace q189 := eq_true q189
                                          have ea_ := Option.some.inj (hx187_4.symm.trans hx189_4)
                                          injection ea_ with ea_ en_ ec_
                                          subst ea_
                                          subst ec_
                                          clear en_
                                          have p190 : 0 ≤ (x67_4 : Int) := of_decide_eq_true (by first | (with_reducible assumption) | assumption)
                                          have q190 : x67_4 < (l0.length : Int) := of_decide_eq_true (by first | (with_reducible assumption) | assumption)
                                          obtain ⟨ad190, A190_4, c190_4, e190, hx190_0, hx190_1, hx190_2, hx190_3, hx190_4, hl190_4, hi190_4⟩ := at_T29 HR0.out x67_4 p190 q190
                                          obtain rfl : ad181 = ad190 := (by injection e190)
                                          replace hx190_0 := (HB.out.cell (World.block_lt_of_cell? w _ hx190_0)).trans hx190_0
                                          replace hx190_1 := (HB.out.cell (World.block_lt_of_cell? w _ hx190_1)).trans hx190_1
                                          replace hx190_2 := (HB.out.cell (World.block_lt_of_cell? w _ hx190_2)).trans hx190_2
                                          replace hx190_3 := (HB.out.cell (World.block_lt_of_cell? w _ hx190_3)).trans hx190_3
                                          replace hx190_4 := (HB.out.cell (World.block_lt_of_cell? w _ hx190_4)).trans hx190_4
                                          have HR190_4 := Aside0.mk hi190_4
                                          have HC190_4 := Aside0.mk hl190_4
                                          clear hi190_4 hl190_4
                                          replace p190 := eq_true p190
                                          replace q190 := eq_true q190
                                          have ea_ := Option.some.inj (hx188_4.symm.trans hx190_4)
                                          injection ea_ with ea_ en_ ec_
                                          subst ea_
                                          subst ec_
                                          clear en_
                                          go_wp2_with (first | (go_at_call 11; (with_reducible refine (switchboardref02_Same.calls k4 _ _ ((rd_T29 t183 x67_4).f1) _ _ ((rd_T29 l0 x67_4).f1) true _ ?side1 ?side2 ?side3 ?side4 A39.out).mono ?_); (case side1 => repeat (first | exact (by repeat (first | (with_reducible exact HR189_4.out) | (with_reducible refine Kd.C_alloc ?_ _) | (with_reducible refine Kd.C_drewN ?_ _) | (with_reducible refine Kd.C_drew ?_) | exact HR189_4.out)) | (with_reducible refine Kd.C_alloc ?_ _) | (with_reducible refine Kd.C_drewN ?_ _) | (with_reducible refine Kd.C_drew ?_))); (case side2 => exact HC189_4.out); (case side3 => repeat (first | exact (Kd.C_below HR190_4.out HB.out) | (with_reducible refine Kd.C_alloc ?_ _) | (with_reducible refine Kd.C_drewN ?_ _) | (with_reducible refine Kd.C_drew ?_))); (case side4 => exact HC190_4.out); rintro e w' ⟨rfl, ⟨nd, rfl⟩⟩; (try first | exact ⟨rfl, _, World.drewN_drewN _ _ _⟩ | exact ⟨rfl, _, Eq.trans (World.drewN_drewN _ _ _) (congrArg (World.drewN _) (Nat.add_assoc _ _ _))⟩)))
                                          repeat (go_quiet (first | (go_at_call 11; (with_reducible refine (switchboardref02_Same.calls k4 _ _ ((rd_T29 t183 x67_4).f1) _ _ ((rd_T29 l0 x67_4).f1) true _ ?side1 ?side2 ?side3 ?side4 A39.out).mono ?_); (case side1 => repeat (first | exact (by repeat (first | (with_reducible exact HR189_4.out) | (with_reducible refine Kd.C_alloc ?_ _) | (with_reducible refine Kd.C_drewN ?_ _) | (with_reducible refine Kd.C_drew ?_) | exact HR189_4.out)) | (with_reducible refine Kd.C_alloc ?_ _) | (with_reducible refine Kd.C_drewN ?_ _) | (with_reducible refine Kd.C_drew ?_))); (case side2 => exact HC189_4.out); (case side3 => repeat (first | exact (Kd.C_below HR190_4.out HB.out) | (with_reducible refine Kd.C_alloc ?_ _) | (with_reducible refine Kd.C_drewN ?_ _) | (with_reducible refine Kd.C_drew ?_))); (case side4 => exact HC190_4.out); rintro e w' ⟨rfl, ⟨nd, rfl⟩⟩; (try first | exact ⟨rfl, _, World.drewN_drewN _ _ _⟩ | exact ⟨rfl, _, Eq.trans (World.drewN_drewN _ _ _) (congrArg (World.drewN _) (Nat.add_assoc _ _ _))⟩))); try go_wp2_with (first | (go_at_call 11; (with_reducible refine (switchboardref02_Same.calls k4 _ _ ((rd_T29 t183 x67_4).f1) _ _ ((rd_T29 l0 x67_4).f1) true _ ?side1 ?side2 ?side3 ?side4 A39.out).mono ?_); (case side1 => repeat (first | exact (by repeat (first | (with_reducible exact HR189_4.out) | (with_reducible refine Kd.C_alloc ?_ _) | (with_reducible refine Kd.C_drewN ?_ _) | (with_reducible refine Kd.C_drew ?_) | exact HR189_4.out)) | (with_reducible refine Kd.C_alloc ?_ _) | (with_reducible refine Kd.C_drewN ?_ _) | (with_reducible refine Kd.C_drew ?_))); (case side2 => exact HC189_4.out); (case side3 => repeat (first | exact (Kd.C_below HR190_4.out HB.out) | (with_reducible refine Kd.C_alloc ?_ _) | (with_reducible refine Kd.C_drewN ?_ _) | (with_reducible refine Kd.C_drew ?_))); (case side4 => exact HC190_4.out); rintro e w' ⟨rfl, ⟨nd, rfl⟩⟩; (try first | exact ⟨rfl, _, World.drewN_drewN _ _ _⟩ | exact ⟨rfl, _, Eq.trans (World.drewN_drewN _ _ _) (congrArg (World.drewN _) (Nat.add_assoc _ _ _))⟩))))
                                          go_roundg k4
                                          case measure => have := HJ3.out; have := HK2.out; have := HJ24.out; have := HK4.out; omega
                                          case rel => exact ⟨(wrap64 (x67_4 + 1)), (by first | rfl | (simp; done) | (simp [*]; done)), H', ⟨by have := HJ3.out; have := HK2.out; have := HJ24.out; have := HK4.out; omega⟩, ⟨by (with_reducible repeat (first | apply Kd.V_alloc | apply Kd.V_drewN | apply Kd.V_drew)); exact HO_10.out⟩, ⟨by (with_reducible repeat (first | refine blk_drewN ?_ _ | refine blk_drew ?_ | refine blk_alloc ?_ _)); exact BK182.out⟩, ⟨by repeat (first | (with_reducible first | exact HB.out | apply below_alloc | apply pw_below_drewN | apply below_drew1 | refine below_set ?_ GE182.out) | exact HB.out)⟩⟩
                                        · replace c40 := Bool.eq_false_iff.mpr c40
                                          subst c40
                                          have H1 : (some false) = some true := by rw [if_neg (show ¬ (false = true) by decide)] at H; exact H
                                          clear H
                                          have H := H1
                                          clear H1
                                          exact absurd H (by simp)
                                    · rw [if_neg c37] at H
                                      exact absurd H (by simp)
                                  · rw [if_neg c36] at H
                                    exact absurd H (by simp)
                                · rw [if_neg c35] at H
                                  exact absurd H (by simp)
                              · rw [if_neg c34] at H
                                have c34b0 : decide (x67_4 < (l0.length : Int)) = false := decide_eq_false c34
                                clear c34
                                replace H := Option.bind_eq_some_iff.mp H
                                obtain ⟨⟨t192, t195⟩, A420, H⟩ := H
                                replace H : (if t195 = true then ((switchboardlaw12_awake.f).bind fun t196 => (some t196)) else (some false)) = some true := H
                                have A42 := Aside0.mk A420
                                clear A420
                                by_cases c43 : t195 = true
                                · subst c43
                                  have H1 : ((switchboardlaw12_awake.f).bind fun t196 => (some t196)) = some true := by rw [if_pos rfl] at H; exact H
                                  clear H
                                  have H := H1
                                  clear H1
                                  replace H := Option.bind_eq_some_iff.mp H
                                  obtain ⟨t196, A440, H⟩ := H
                                  replace H : (some t196) = some true := H
                                  have A44 := Aside0.mk A440
                                  clear A440
                                  have hr_ := Aside0.mk (Option.some.inj H)
                                  have hcz45_0 : wr.cell? ⟨gb182, 0, none⟩ = some (.int .i64 ((rd_T29 l0 (ji21)).f0.f0)) := (blk_cell BK182.out 0).trans rfl
                                  have hcz45_1 : wr.cell? ⟨gb182, 1, none⟩ = some (.int .i64 ((rd_T29 l0 (ji21)).f0.f1)) := (blk_cell BK182.out 1).trans rfl
                                  have hcz45_2 : wr.cell? ⟨gb182, 2, none⟩ = some (.int .i64 ((rd_T29 l0 (ji21)).f0.f2)) := (blk_cell BK182.out 2).trans rfl
                                  have hcz45_3 : wr.cell? ⟨gb182, 3, none⟩ = some (.int .i64 ((rd_T29 l0 (ji21)).f0.f3)) := (blk_cell BK182.out 3).trans rfl
                                  have hfz45_0 := blk_frozen BK182.out 0
                                  have hfz45_1 := blk_frozen BK182.out 1
                                  have hfz45_2 := blk_frozen BK182.out 2
                                  have hfz45_3 := blk_frozen BK182.out 3
                                  go_wp2_with (first | (go_at_call 9; (with_reducible refine (ledger_Find.calls _ _ l0 ((rd_T29 l0 (ji21)).f0.f0) ((rd_T29 l0 (ji21)).f0.f1) ((rd_T29 l0 (ji21)).f0.f2) ((rd_T29 l0 (ji21)).f0.f3) t192 true _ ?side1 ?side2 A42.out).mono ?_); (case side1 => repeat (first | exact (Kd.C_below HR0.out HB.out) | (with_reducible refine Kd.C_alloc ?_ _) | (with_reducible refine Kd.C_drewN ?_ _) | (with_reducible refine Kd.C_drew ?_))); (case side2 => exact HC0.out); rintro e w46 ⟨v193, rfl, ho0, hb⟩; have n0_ := Aside0.mk (Kd.V_elder' (by (with_reducible repeat (first | apply Kd.V_alloc | apply Kd.V_drewN | apply Kd.V_drew)); exact HO_10.out) (Kd.R_base ho0) hb); have n1_ := Aside0.mk (Kd.R_lower ho0 (below_size (by repeat (first | (with_reducible first | exact HB.out | apply below_alloc | apply pw_below_drewN | apply below_drew1 | refine below_set ?_ GE182.out) | exact HB.out)))); have n2_ := Aside0.mk (blk_below (g := gb182) (o := .cells #[.int .i64 ((rd_T29 l0 (ji21)).f0.f0), .int .i64 ((rd_T29 l0 (ji21)).f0.f1), .int .i64 ((rd_T29 l0 (ji21)).f0.f2), .int .i64 ((rd_T29 l0 (ji21)).f0.f3)] 24 (0, 0)) (by (with_reducible repeat (first | refine blk_drewN ?_ _ | refine blk_drew ?_ | refine blk_alloc ?_ _)); exact BK182.out) hb); have n3_ := Aside0.mk (below_step (by repeat (first | (with_reducible first | exact HB.out | apply below_alloc | apply pw_below_drewN | apply below_drew1 | refine below_set ?_ GE182.out) | exact HB.out)) hb); clear HO_10; clear BK182; clear HB; have HO_10 := n0_; have HO194 := n1_; have BK182 := n2_; have HB := n3_; clear n0_ n1_ n2_ n3_; (try clear hb); (try clear hb2); (try clear hk); (try clear hi); (try clear ho0)) | (go_at_call 7; (with_reducible refine (switchboardlaw12_awake.calls  t196 _ A44.out).mono ?_); rintro e w47 ⟨rfl, hb⟩; have n0_ := Aside0.mk (Kd.V_below (by (with_reducible repeat (first | apply Kd.V_alloc | apply Kd.V_drewN | apply Kd.V_drew)); exact HO_10.out) hb); have n1_ := Aside0.mk (Kd.R_below (by (with_reducible repeat (first | apply Kd.R_alloc | apply Kd.R_drewN | apply Kd.R_drew)); exact HO194.out) hb); have n2_ := Aside0.mk (blk_below (g := gb182) (o := .cells #[.int .i64 ((rd_T29 l0 (ji21)).f0.f0), .int .i64 ((rd_T29 l0 (ji21)).f0.f1), .int .i64 ((rd_T29 l0 (ji21)).f0.f2), .int .i64 ((rd_T29 l0 (ji21)).f0.f3)] 24 (0, 0)) (by (with_reducible repeat (first | refine blk_drewN ?_ _ | refine blk_drew ?_ | refine blk_alloc ?_ _)); exact BK182.out) hb); have n3_ := Aside0.mk (below_step (by repeat (first | (with_reducible first | exact HB.out | apply below_alloc | apply pw_below_drewN | apply below_drew1 | refine below_set ?_ GE182.out) | exact HB.out)) hb); clear HO_10; clear HO194; clear BK182; clear HB; have HO_10 := n0_; have HO194 := n1_; have BK182 := n2_; have HB := n3_; clear n0_ n1_ n2_ n3_; (try clear hb); (try clear hb2); (try clear hk); (try clear hi)))
                                  repeat (go_quiet (first | (go_at_call 9; (with_reducible refine (ledger_Find.calls _ _ l0 ((rd_T29 l0 (ji21)).f0.f0) ((rd_T29 l0 (ji21)).f0.f1) ((rd_T29 l0 (ji21)).f0.f2) ((rd_T29 l0 (ji21)).f0.f3) t192 true _ ?side1 ?side2 A42.out).mono ?_); (case side1 => repeat (first | exact (Kd.C_below HR0.out HB.out) | (with_reducible refine Kd.C_alloc ?_ _) | (with_reducible refine Kd.C_drewN ?_ _) | (with_reducible refine Kd.C_drew ?_))); (case side2 => exact HC0.out); rintro e w46 ⟨v193, rfl, ho0, hb⟩; have n0_ := Aside0.mk (Kd.V_elder' (by (with_reducible repeat (first | apply Kd.V_alloc | apply Kd.V_drewN | apply Kd.V_drew)); exact HO_10.out) (Kd.R_base ho0) hb); have n1_ := Aside0.mk (Kd.R_lower ho0 (below_size (by repeat (first | (with_reducible first | exact HB.out | apply below_alloc | apply pw_below_drewN | apply below_drew1 | refine below_set ?_ GE182.out) | exact HB.out)))); have n2_ := Aside0.mk (blk_below (g := gb182) (o := .cells #[.int .i64 ((rd_T29 l0 (ji21)).f0.f0), .int .i64 ((rd_T29 l0 (ji21)).f0.f1), .int .i64 ((rd_T29 l0 (ji21)).f0.f2), .int .i64 ((rd_T29 l0 (ji21)).f0.f3)] 24 (0, 0)) (by (with_reducible repeat (first | refine blk_drewN ?_ _ | refine blk_drew ?_ | refine blk_alloc ?_ _)); exact BK182.out) hb); have n3_ := Aside0.mk (below_step (by repeat (first | (with_reducible first | exact HB.out | apply below_alloc | apply pw_below_drewN | apply below_drew1 | refine below_set ?_ GE182.out) | exact HB.out)) hb); clear HO_10; clear BK182; clear HB; have HO_10 := n0_; have HO194 := n1_; have BK182 := n2_; have HB := n3_; clear n0_ n1_ n2_ n3_; (try clear hb); (try clear hb2); (try clear hk); (try clear hi); (try clear ho0)) | (go_at_call 7; (with_reducible refine (switchboardlaw12_awake.calls  t196 _ A44.out).mono ?_); rintro e w47 ⟨rfl, hb⟩; have n0_ := Aside0.mk (Kd.V_below (by (with_reducible repeat (first | apply Kd.V_alloc | apply Kd.V_drewN | apply Kd.V_drew)); exact HO_10.out) hb); have n1_ := Aside0.mk (Kd.R_below (by (with_reducible repeat (first | apply Kd.R_alloc | apply Kd.R_drewN | apply Kd.R_drew)); exact HO194.out) hb); have n2_ := Aside0.mk (blk_below (g := gb182) (o := .cells #[.int .i64 ((rd_T29 l0 (ji21)).f0.f0), .int .i64 ((rd_T29 l0 (ji21)).f0.f1), .int .i64 ((rd_T29 l0 (ji21)).f0.f2), .int .i64 ((rd_T29 l0 (ji21)).f0.f3)] 24 (0, 0)) (by (with_reducible repeat (first | refine blk_drewN ?_ _ | refine blk_drew ?_ | refine blk_alloc ?_ _)); exact BK182.out) hb); have n3_ := Aside0.mk (below_step (by repeat (first | (with_reducible first | exact HB.out | apply below_alloc | apply pw_below_drewN | apply below_drew1 | refine below_set ?_ GE182.out) | exact HB.out)) hb); clear HO_10; clear HO194; clear BK182; clear HB; have HO_10 := n0_; have HO194 := n1_; have BK182 := n2_; have HB := n3_; clear n0_ n1_ n2_ n3_; (try clear hb); (try clear hb2); (try clear hk); (try clear hi))); try go_wp2_with (first | (go_at_call 9; (with_reducible refine (ledger_Find.calls _ _ l0 ((rd_T29 l0 (ji21)).f0.f0) ((rd_T29 l0 (ji21)).f0.f1) ((rd_T29 l0 (ji21)).f0.f2) ((rd_T29 l0 (ji21)).f0.f3) t192 true _ ?side1 ?side2 A42.out).mono ?_); (case side1 => repeat (first | exact (Kd.C_below HR0.out HB.out) | (with_reducible refine Kd.C_alloc ?_ _) | (with_reducible refine Kd.C_drewN ?_ _) | (with_reducible refine Kd.C_drew ?_))); (case side2 => exact HC0.out); rintro e w46 ⟨v193, rfl, ho0, hb⟩; have n0_ := Aside0.mk (Kd.V_elder' (by (with_reducible repeat (first | apply Kd.V_alloc | apply Kd.V_drewN | apply Kd.V_drew)); exact HO_10.out) (Kd.R_base ho0) hb); have n1_ := Aside0.mk (Kd.R_lower ho0 (below_size (by repeat (first | (with_reducible first | exact HB.out | apply below_alloc | apply pw_below_drewN | apply below_drew1 | refine below_set ?_ GE182.out) | exact HB.out)))); have n2_ := Aside0.mk (blk_below (g := gb182) (o := .cells #[.int .i64 ((rd_T29 l0 (ji21)).f0.f0), .int .i64 ((rd_T29 l0 (ji21)).f0.f1), .int .i64 ((rd_T29 l0 (ji21)).f0.f2), .int .i64 ((rd_T29 l0 (ji21)).f0.f3)] 24 (0, 0)) (by (with_reducible repeat (first | refine blk_drewN ?_ _ | refine blk_drew ?_ | refine blk_alloc ?_ _)); exact BK182.out) hb); have n3_ := Aside0.mk (below_step (by repeat (first | (with_reducible first | exact HB.out | apply below_alloc | apply pw_below_drewN | apply below_drew1 | refine below_set ?_ GE182.out) | exact HB.out)) hb); clear HO_10; clear BK182; clear HB; have HO_10 := n0_; have HO194 := n1_; have BK182 := n2_; have HB := n3_; clear n0_ n1_ n2_ n3_; (try clear hb); (try clear hb2); (try clear hk); (try clear hi); (try clear ho0)) | (go_at_call 7; (with_reducible refine (switchboardlaw12_awake.calls  t196 _ A44.out).mono ?_); rintro e w47 ⟨rfl, hb⟩; have n0_ := Aside0.mk (Kd.V_below (by (with_reducible repeat (first | apply Kd.V_alloc | apply Kd.V_drewN | apply Kd.V_drew)); exact HO_10.out) hb); have n1_ := Aside0.mk (Kd.R_below (by (with_reducible repeat (first | apply Kd.R_alloc | apply Kd.R_drewN | apply Kd.R_drew)); exact HO194.out) hb); have n2_ := Aside0.mk (blk_below (g := gb182) (o := .cells #[.int .i64 ((rd_T29 l0 (ji21)).f0.f0), .int .i64 ((rd_T29 l0 (ji21)).f0.f1), .int .i64 ((rd_T29 l0 (ji21)).f0.f2), .int .i64 ((rd_T29 l0 (ji21)).f0.f3)] 24 (0, 0)) (by (with_reducible repeat (first | refine blk_drewN ?_ _ | refine blk_drew ?_ | refine blk_alloc ?_ _)); exact BK182.out) hb); have n3_ := Aside0.mk (below_step (by repeat (first | (with_reducible first | exact HB.out | apply below_alloc | apply pw_below_drewN | apply below_drew1 | refine below_set ?_ GE182.out) | exact HB.out)) hb); clear HO_10; clear HO194; clear BK182; clear HB; have HO_10 := n0_; have HO194 := n1_; have BK182 := n2_; have HB := n3_; clear n0_ n1_ n2_ n3_; (try clear hb); (try clear hb2); (try clear hk); (try clear hi))))
                                  go_ret
                                  exact ⟨by first | rfl | exact congrArg (fun b_ => Ending.returned (Value.bool b_)) hr_.out | exact congrArg (fun b_ => Ending.returned (Value.bool b_)) hr_.out | (simp [errW_none, errW_some] <;> rfl) | (simp only [← hji21]; first | rfl | (simp [errW_none, errW_some] <;> rfl)) | (simp [*, errW_none, errW_some] <;> rfl), by repeat (first | (with_reducible first | exact HB.out | apply below_alloc | apply pw_below_drewN | apply below_drew1 | refine below_set ?_ GE182.out) | exact HB.out)⟩
                                · replace c43 := Bool.eq_false_iff.mpr c43
                                  subst c43
                                  have H1 : (some false) = some true := by rw [if_neg (show ¬ (false = true) by decide)] at H; exact H
                                  clear H
                                  have H := H1
                                  clear H1
                                  exact absurd H (by simp)
                  · rw [if_neg c23] at H
                    exact absurd H (by simp)
                · rw [if_neg c22] at H
                  exact absurd H (by simp)

end Go.Proofs.Ytcbngoldidhfmaa.Pr
