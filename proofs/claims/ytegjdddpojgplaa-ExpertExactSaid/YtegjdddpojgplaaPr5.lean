-- Laid by wip/xprint.py, a program of this session that runs the kit's print with some contracts given by hand; not a text of print.sh. Lean checks it.
import Derived.Test.YtegjdddpojgplaaPr0
import Derived.Test.YtegjdddpojgplaaPr1
import Derived.Test.YtegjdddpojgplaaPr2
import Derived.Test.YtegjdddpojgplaaPr3
import Derived.Test.YtegjdddpojgplaaPr4
namespace Go.Proofs.Ytegjdddpojgplaa.Pr
open Go.RowKit Go.Proofs.YtegjdddpojgplaaW.PrintWords Go.Proofs.YtegjdddpojgplaaW.PrintLast Go.Proofs.YtegjdddpojgplaaW.PrintMore
attribute [local go_sem] max2_int min2_int max_two min_two max_three min_three max_four min_four   -- for this text's walks alone
set_option linter.unusedVariables false
set_option linter.unusedSimpArgs false

/-! ### switchboardlaw11_ExpertExact: function 3 -/
def switchboardlaw11_ExpertExact.j0 : Nat → List Int → Int → Bool → List (List Int) → List (List Int) → Option (Bool)
  | 0, _, _, _, _, _ => none
  | k + 1, x1, x2, x23, x212000, x212001 => if x23 = true then ((switchboardlaw11_awake.f k).bind fun t214 => (some t214)) else ((expert_Run.f k x212000 x212001 x1).bind fun bt215 => ((expert_Right.f x212000 x212001 x2).bind fun t219 => ((switchboardref11_Right.f k x212000 x212001 x2).bind fun t220 => (if (t219 != t220) = true then (some false) else ((switchboardref11_Right.f k x212000 x212001 (x1.length : Int)).bind fun t221 => (if t221 = true then ((switchboardref11_Run.f k x212000 x212001 x1).bind fun t222 => ((switchboardref02_Same.f k bt215.1 t222).bind fun t225 => (if t225 = true then (if bt215.2 = true then ((switchboardlaw11_awake.f k).bind fun t226 => (some t226)) else (some false)) else (some false)))) else (if (bt215.1.length : Int) = 0 then (if bt215.2 = true then (some false) else ((switchboardlaw11_awake.f k).bind fun t227 => (some t227))) else (some false))))))))
def switchboardlaw11_ExpertExact.f (k : Nat) (l0_0 : List (List Int)) (l0_1 : List (List Int)) (l1 : List Int) (a2 : Int) : Option (Bool) := (switchboardref03_Small.f k l0_0).bind fun t212 => (if t212 = true then ((switchboardref03_Small.f k l0_1).bind fun t213 => (if t213 = true then (switchboardlaw11_ExpertExact.j0 k l1 a2 (decide ((l1.length : Int) > 30)) l0_0 l0_1) else (switchboardlaw11_ExpertExact.j0 k l1 a2 true l0_0 l0_1))) else (switchboardlaw11_ExpertExact.j0 k l1 a2 true l0_0 l0_1))
theorem switchboardlaw11_ExpertExact.mono_l : ∀ k, (∀ y0 y1 y2 y3 y4, LeO (switchboardlaw11_ExpertExact.j0 k y0 y1 y2 y3 y4) (switchboardlaw11_ExpertExact.j0 (k + 1) y0 y1 y2 y3 y4))
  | 0 => fun _ _ _ _ _ r h => by simp [switchboardlaw11_ExpertExact.j0] at h
  | k + 1 => by
    have ih0 := switchboardlaw11_ExpertExact.mono_l k
    · intro y0 y1 y2 y3 y4
      unfold switchboardlaw11_ExpertExact.j0
      repeat' first
      | (with_reducible exact ih0 _ _ _ _ _)
      | (with_reducible exact expert_Run.mono _ _ _ _)
      | (with_reducible exact switchboardlaw11_awake.mono _)
      | (with_reducible exact switchboardref02_Same.mono _ _ _)
      | (with_reducible exact switchboardref03_Small.mono _ _)
      | (with_reducible exact switchboardref11_Right.mono _ _ _ _)
      | (with_reducible exact switchboardref11_Run.mono _ _ _ _)
      | (with_reducible exact LeO.refl _)
      | (with_reducible exact LeO.none _)
      | (with_reducible refine LeO.ite ?_ ?_)
      | (with_reducible refine LeO.bind ?_ (fun _ => ?_))
      | exact ih0 _ _ _ _ _
      | exact expert_Run.mono _ _ _ _
      | exact switchboardlaw11_awake.mono _
      | exact switchboardref02_Same.mono _ _ _
      | exact switchboardref03_Small.mono _ _
      | exact switchboardref11_Right.mono _ _ _ _
      | exact switchboardref11_Run.mono _ _ _ _
      | exact LeO.none _
      | refine LeO.ite ?_ ?_
      | refine LeO.bind ?_ (fun _ => ?_)
theorem switchboardlaw11_ExpertExact.mono : ∀ a0 a1 a2 a3 k, LeO (switchboardlaw11_ExpertExact.f k a0 a1 a2 a3) (switchboardlaw11_ExpertExact.f (k + 1) a0 a1 a2 a3) := by
  intro a0 a1 a2 a3 k
  have ih0 := switchboardlaw11_ExpertExact.mono_l k
  unfold switchboardlaw11_ExpertExact.f
  repeat' first
      | (with_reducible exact ih0 _ _ _ _ _)
      | (with_reducible exact expert_Run.mono _ _ _ _)
      | (with_reducible exact switchboardlaw11_awake.mono _)
      | (with_reducible exact switchboardref02_Same.mono _ _ _)
      | (with_reducible exact switchboardref03_Small.mono _ _)
      | (with_reducible exact switchboardref11_Right.mono _ _ _ _)
      | (with_reducible exact switchboardref11_Run.mono _ _ _ _)
      | (with_reducible exact LeO.refl _)
      | (with_reducible exact LeO.none _)
      | (with_reducible refine LeO.ite ?_ ?_)
      | (with_reducible refine LeO.bind ?_ (fun _ => ?_))
      | exact ih0 _ _ _ _ _
      | exact expert_Run.mono _ _ _ _
      | exact switchboardlaw11_awake.mono _
      | exact switchboardref02_Same.mono _ _ _
      | exact switchboardref03_Small.mono _ _
      | exact switchboardref11_Right.mono _ _ _ _
      | exact switchboardref11_Run.mono _ _ _ _
      | exact LeO.none _
      | refine LeO.ite ?_ ?_
      | refine LeO.bind ?_ (fun _ => ?_)
set_option maxHeartbeats 8000000 in
set_option maxRecDepth 100000 in
theorem switchboardlaw11_ExpertExact.calls (k : Nat) (A0_0 : Option Addr) (c0_0 : Nat) (l0_0 : List (List Int)) (A0_1 : Option Addr) (c0_1 : Nat) (l0_1 : List (List Int)) (A1 : Option Addr) (c1 : Nat) (l1 : List Int) (a2 : Int) (w : World) (hr0_0 : Kd.C (Kd.slice 3 (Kd.int .i64)) w A0_0 l0_0.length l0_0) (hc0_0 : l0_0.length ≤ c0_0) (hr0_1 : Kd.C (Kd.slice 3 (Kd.int .i64)) w A0_1 l0_1.length l0_1) (hc0_1 : l0_1.length ≤ c0_1) (hr1 : Kd.C (Kd.int .i64) w A1 l1.length l1) (hc1 : l1.length ≤ c1) (h : switchboardlaw11_ExpertExact.f k l0_0 l0_1 l1 a2 = some true) :
    Calls Try.prog 3 #[.agg #[.slice A0_0 l0_0.length c0_0, .slice A0_1 l0_1.length c0_1], .slice A1 l1.length c1, .int .i64 a2] w fun e w' => e = .returned (.bool true) ∧ Below w.heap.size w w' := by
  have hu24 := Try.underlying24
  have HR0_0 := Aside0.mk hr0_0
  have HC0_0 := Aside0.mk hc0_0
  clear hr0_0 hc0_0
  have HR0_1 := Aside0.mk hr0_1
  have HC0_1 := Aside0.mk hc0_1
  clear hr0_1 hc0_1
  have HR1 := Aside0.mk hr1
  have HC1 := Aside0.mk hc1
  clear hr1 hc1
  have HB := Aside0.mk (Below.refl w.heap.size w)
  have H : ((switchboardref03_Small.f k l0_0).bind fun t212 => (if t212 = true then ((switchboardref03_Small.f k l0_1).bind fun t213 => (if t213 = true then (switchboardlaw11_ExpertExact.j0 k l1 a2 (decide ((l1.length : Int) > 30)) l0_0 l0_1) else (switchboardlaw11_ExpertExact.j0 k l1 a2 true l0_0 l0_1))) else (switchboardlaw11_ExpertExact.j0 k l1 a2 true l0_0 l0_1))) = some true := h
  clear h
  have HC4 := Aside0.mk H
  clear H
  go_enter Try.func3, Try.ntmps3
  go_upto_region 1 with (first | ((with_reducible refine gate_dst (N := 3) rfl ?_); (try (refine gate_guard (by rfl) ?_; dsimp only)); refine box_event ?hg (N := 3) ?hd (cs := #[.slice A0_0 l0_0.length c0_0, .slice A0_1 l0_1.length c0_1]) (t := 24) ?hr ?_; (case hd => rfl); (case hg => rfl); (case hr => first | (go_simp; done) | (go_simp; rfl)); intro gb211 hg w5 hbox hb; have n0_ := Aside0.mk (below_step (by repeat (first | (with_reducible first | exact HB.out | apply below_alloc | apply pw_below_drewN | apply below_drew1) | exact HB.out)) hb); have n1_ := Aside0.mk (hbox); have n2_ := Aside0.mk ((by rw [hg]; exact (below_size (by repeat (first | (with_reducible first | exact HB.out | apply below_alloc | apply pw_below_drewN | apply below_drew1) | exact HB.out))) : w.heap.size ≤ gb211)); have n3_ := Aside0.mk ((by rw [hg]; exact (below_size (by repeat (first | (with_reducible first | exact HB.out | apply below_alloc | apply pw_below_drewN | apply below_drew1) | exact HB.out))) : w.heap.size ≤ gb211)); clear HB; have HB := n0_; have BK211 := n1_; have GW211 := n2_; have GE211 := n3_; clear n0_ n1_ n2_ n3_; clear hb hbox hg))
  (try simp only [Act.put, List.setIfInBounds_toArray, List.set_cons_zero, List.set_cons_succ])
  go_cut [23] (fun v23 wc => ∃ (kq : Nat) (x23_3 : Bool), v23 = .bool x23_3 ∧ Aside0 (switchboardlaw11_ExpertExact.j0 kq l1 a2 x23_3 l0_0 l0_1 = some true) ∧ Aside0 (kq ≤ k) ∧ Aside0 (wc.heap[gb211]? = some (.cells #[(.slice A0_0 l0_0.length c0_0), (.slice A0_1 l0_1.length c0_1)] 24 (0, 0))) ∧ Aside0 (Below w.heap.size w wc))
  case first =>
    have H := HC4.out
    clear HC4
    replace H := Option.bind_eq_some_iff.mp H
    obtain ⟨t212, A60, H⟩ := H
    replace H : (if t212 = true then ((switchboardref03_Small.f k l0_1).bind fun t213 => (if t213 = true then (switchboardlaw11_ExpertExact.j0 k l1 a2 (decide ((l1.length : Int) > 30)) l0_0 l0_1) else (switchboardlaw11_ExpertExact.j0 k l1 a2 true l0_0 l0_1))) else (switchboardlaw11_ExpertExact.j0 k l1 a2 true l0_0 l0_1)) = some true := H
    have A6 := Aside0.mk A60
    clear A60
    by_cases c7 : t212 = true
    · subst c7
      have H1 : ((switchboardref03_Small.f k l0_1).bind fun t213 => (if t213 = true then (switchboardlaw11_ExpertExact.j0 k l1 a2 (decide ((l1.length : Int) > 30)) l0_0 l0_1) else (switchboardlaw11_ExpertExact.j0 k l1 a2 true l0_0 l0_1))) = some true := by rw [if_pos rfl] at H; exact H
      clear H
      have H := H1
      clear H1
      replace H := Option.bind_eq_some_iff.mp H
      obtain ⟨t213, A80, H⟩ := H
      replace H : (if t213 = true then (switchboardlaw11_ExpertExact.j0 k l1 a2 (decide ((l1.length : Int) > 30)) l0_0 l0_1) else (switchboardlaw11_ExpertExact.j0 k l1 a2 true l0_0 l0_1)) = some true := H
      have A8 := Aside0.mk A80
      clear A80
      by_cases c9 : t213 = true
      · subst c9
        have H1 : (switchboardlaw11_ExpertExact.j0 k l1 a2 (decide ((l1.length : Int) > 30)) l0_0 l0_1) = some true := by rw [if_pos rfl] at H; exact H
        clear H
        have H := H1
        clear H1
        have H' := Aside0.mk H
        clear H
        have hcz10_0 : w5.cell? ⟨gb211, 0, none⟩ = some (.slice A0_0 l0_0.length c0_0) := (blk_cell BK211.out 0).trans rfl
        have hcz10_1 : w5.cell? ⟨gb211, 1, none⟩ = some (.slice A0_1 l0_1.length c0_1) := (blk_cell BK211.out 1).trans rfl
        have hfz10_0 := blk_frozen BK211.out 0
        have hfz10_1 := blk_frozen BK211.out 1
        go_wp2_with (first | ((with_reducible refine gate_callee (f := 7) rfl ?_); refine goesL_ (some 11) rfl rfl Try.func7 (by kernel_rfl) rfl #[.slice A0_0 l0_0.length c0_0] rfl (by (try simp only [List.map_toArray, List.map_cons, List.map_nil]); first | done | rfl | (simp only [List.length_drop, List.length_take]; rfl)) ?_; (with_reducible refine (switchboardref03_Small.calls k _ _ l0_0 true _ ?side1 ?side2 A6.out).mono ?_); (case side1 => repeat (first | exact (Kd.C_below HR0_0.out HB.out) | (with_reducible refine Kd.C_alloc ?_ _) | (with_reducible refine Kd.C_drewN ?_ _) | (with_reducible refine Kd.C_drew ?_))); (case side2 => exact HC0_0.out); rintro e w' ⟨rfl, ⟨nd, rfl⟩⟩; refine ⟨_, rfl, ?_⟩) | (go_at_call 7; (with_reducible refine (switchboardref03_Small.calls k _ _ l0_1 true _ ?side1 ?side2 A8.out).mono ?_); (case side1 => repeat (first | exact (Kd.C_below HR0_1.out (by repeat (first | (with_reducible first | exact HB.out | apply below_alloc | apply pw_below_drewN | apply below_drew1 | refine below_set ?_ GE211.out) | exact HB.out))) | (with_reducible refine Kd.C_alloc ?_ _) | (with_reducible refine Kd.C_drewN ?_ _) | (with_reducible refine Kd.C_drew ?_))); (case side2 => exact HC0_1.out); rintro e w' ⟨rfl, ⟨nd, rfl⟩⟩))
        go_meet
        case rel => exact ⟨_, (decide ((l1.length : Int) > 30)), (by first | rfl | (simp; done) | (simp [*]; done)), H', ⟨by first | omega | exact Nat.le_refl _⟩, ⟨by (with_reducible repeat (first | refine blk_drewN ?_ _ | refine blk_drew ?_ | refine blk_alloc ?_ _)); exact BK211.out⟩, ⟨by repeat (first | (with_reducible first | exact HB.out | apply below_alloc | apply pw_below_drewN | apply below_drew1 | refine below_set ?_ GE211.out) | exact HB.out)⟩⟩
      · replace c9 := Bool.eq_false_iff.mpr c9
        subst c9
        have H1 : (switchboardlaw11_ExpertExact.j0 k l1 a2 true l0_0 l0_1) = some true := by rw [if_neg (show ¬ (false = true) by decide)] at H; exact H
        clear H
        have H := H1
        clear H1
        have H' := Aside0.mk H
        clear H
        have hcz11_0 : w5.cell? ⟨gb211, 0, none⟩ = some (.slice A0_0 l0_0.length c0_0) := (blk_cell BK211.out 0).trans rfl
        have hcz11_1 : w5.cell? ⟨gb211, 1, none⟩ = some (.slice A0_1 l0_1.length c0_1) := (blk_cell BK211.out 1).trans rfl
        have hfz11_0 := blk_frozen BK211.out 0
        have hfz11_1 := blk_frozen BK211.out 1
        go_wp2_with (first | ((with_reducible refine gate_callee (f := 7) rfl ?_); refine goesL_ (some 11) rfl rfl Try.func7 (by kernel_rfl) rfl #[.slice A0_0 l0_0.length c0_0] rfl (by (try simp only [List.map_toArray, List.map_cons, List.map_nil]); first | done | rfl | (simp only [List.length_drop, List.length_take]; rfl)) ?_; (with_reducible refine (switchboardref03_Small.calls k _ _ l0_0 true _ ?side1 ?side2 A6.out).mono ?_); (case side1 => repeat (first | exact (Kd.C_below HR0_0.out HB.out) | (with_reducible refine Kd.C_alloc ?_ _) | (with_reducible refine Kd.C_drewN ?_ _) | (with_reducible refine Kd.C_drew ?_))); (case side2 => exact HC0_0.out); rintro e w' ⟨rfl, ⟨nd, rfl⟩⟩; refine ⟨_, rfl, ?_⟩) | (go_at_call 7; (with_reducible refine (switchboardref03_Small.calls k _ _ l0_1 false _ ?side1 ?side2 A8.out).mono ?_); (case side1 => repeat (first | exact (Kd.C_below HR0_1.out (by repeat (first | (with_reducible first | exact HB.out | apply below_alloc | apply pw_below_drewN | apply below_drew1 | refine below_set ?_ GE211.out) | exact HB.out))) | (with_reducible refine Kd.C_alloc ?_ _) | (with_reducible refine Kd.C_drewN ?_ _) | (with_reducible refine Kd.C_drew ?_))); (case side2 => exact HC0_1.out); rintro e w' ⟨rfl, ⟨nd, rfl⟩⟩))
        go_meet
        case rel => exact ⟨_, (true), (by first | rfl | (simp; done) | (simp [*]; done)), H', ⟨by first | omega | exact Nat.le_refl _⟩, ⟨by (with_reducible repeat (first | refine blk_drewN ?_ _ | refine blk_drew ?_ | refine blk_alloc ?_ _)); exact BK211.out⟩, ⟨by repeat (first | (with_reducible first | exact HB.out | apply below_alloc | apply pw_below_drewN | apply below_drew1 | refine below_set ?_ GE211.out) | exact HB.out)⟩⟩
    · replace c7 := Bool.eq_false_iff.mpr c7
      subst c7
      have H1 : (switchboardlaw11_ExpertExact.j0 k l1 a2 true l0_0 l0_1) = some true := by rw [if_neg (show ¬ (false = true) by decide)] at H; exact H
      clear H
      have H := H1
      clear H1
      have H' := Aside0.mk H
      clear H
      have hcz12_0 : w5.cell? ⟨gb211, 0, none⟩ = some (.slice A0_0 l0_0.length c0_0) := (blk_cell BK211.out 0).trans rfl
      have hcz12_1 : w5.cell? ⟨gb211, 1, none⟩ = some (.slice A0_1 l0_1.length c0_1) := (blk_cell BK211.out 1).trans rfl
      have hfz12_0 := blk_frozen BK211.out 0
      have hfz12_1 := blk_frozen BK211.out 1
      go_wp2_with (first | ((with_reducible refine gate_callee (f := 7) rfl ?_); refine goesL_ (some 11) rfl rfl Try.func7 (by kernel_rfl) rfl #[.slice A0_0 l0_0.length c0_0] rfl (by (try simp only [List.map_toArray, List.map_cons, List.map_nil]); first | done | rfl | (simp only [List.length_drop, List.length_take]; rfl)) ?_; (with_reducible refine (switchboardref03_Small.calls k _ _ l0_0 false _ ?side1 ?side2 A6.out).mono ?_); (case side1 => repeat (first | exact (Kd.C_below HR0_0.out HB.out) | (with_reducible refine Kd.C_alloc ?_ _) | (with_reducible refine Kd.C_drewN ?_ _) | (with_reducible refine Kd.C_drew ?_))); (case side2 => exact HC0_0.out); rintro e w' ⟨rfl, ⟨nd, rfl⟩⟩; refine ⟨_, rfl, ?_⟩))
      go_meet
      case rel => exact ⟨_, (true), (by first | rfl | (simp; done) | (simp [*]; done)), H', ⟨by first | omega | exact Nat.le_refl _⟩, ⟨by (with_reducible repeat (first | refine blk_drewN ?_ _ | refine blk_drew ?_ | refine blk_alloc ?_ _)); exact BK211.out⟩, ⟨by repeat (first | (with_reducible first | exact HB.out | apply below_alloc | apply pw_below_drewN | apply below_drew1 | refine below_set ?_ GE211.out) | exact HB.out)⟩⟩
  case rest =>
    clear HC4
    try clear c1
    try clear p2
    try clear c3
    try clear c7
    try clear c9
    try clear hcz10_0
    try clear hcz10_1
    try clear hcz11_0
    try clear hcz11_1
    try clear hcz12_0
    try clear hcz12_1
    try clear hfz10_0
    try clear hfz10_1
    try clear hfz11_0
    try clear hfz11_1
    try clear hfz12_0
    try clear hfz12_1
    obtain ⟨kq, x23_3, rfl, HA, HJ3, BK211, HB⟩ := hcut
    cases kq with
    | zero => exact absurd HA.out (by simp [switchboardlaw11_ExpertExact.j0])
    | succ kj3 =>
      have H := HA.out
      clear HA
      simp only [switchboardlaw11_ExpertExact.j0] at H
      by_cases c13 : x23_3 = true
      · subst c13
        have H1 : ((switchboardlaw11_awake.f kj3).bind fun t214 => (some t214)) = some true := by rw [if_pos rfl] at H; exact H
        clear H
        have H := H1
        clear H1
        replace H := Option.bind_eq_some_iff.mp H
        obtain ⟨t214, A140, H⟩ := H
        replace H : (some t214) = some true := H
        have A14 := Aside0.mk A140
        clear A140
        have hr_ := Aside0.mk (Option.some.inj H)
        go_wp2_with (first | ((with_reducible refine gate_callee (f := 8) rfl ?_); refine goesL_ (some 24) rfl rfl Try.func8 (by kernel_rfl) rfl #[] rfl (by (try simp only [List.map_toArray, List.map_cons, List.map_nil]); first | done | rfl | (simp only [List.length_drop, List.length_take]; rfl)) ?_; (with_reducible refine (switchboardlaw11_awake.calls kj3  t214 _ A14.out).mono ?_); rintro e w15 ⟨rfl, hb⟩; refine ⟨_, rfl, ?_⟩; have n0_ := Aside0.mk (blk_below (g := gb211) (o := .cells #[.slice A0_0 l0_0.length c0_0, .slice A0_1 l0_1.length c0_1] 24 (0, 0)) (by (with_reducible repeat (first | refine blk_drewN ?_ _ | refine blk_drew ?_ | refine blk_alloc ?_ _)); exact BK211.out) hb); have n1_ := Aside0.mk (below_step (by repeat (first | (with_reducible first | exact HB.out | apply below_alloc | apply pw_below_drewN | apply below_drew1 | refine below_set ?_ GE211.out) | exact HB.out)) hb); clear BK211; clear HB; have BK211 := n0_; have HB := n1_; clear n0_ n1_; (try clear hb); (try clear hb2); (try clear hk); (try clear hi)))
        go_ret
        exact ⟨by first | rfl | exact congrArg (fun b_ => Ending.returned (Value.bool b_)) hr_.out | exact congrArg (fun b_ => Ending.returned (Value.bool b_)) hr_.out | (simp [errW_none, errW_some] <;> rfl) | (simp [*, errW_none, errW_some] <;> rfl), by repeat (first | (with_reducible first | exact HB.out | apply below_alloc | apply pw_below_drewN | apply below_drew1 | refine below_set ?_ GE211.out) | exact HB.out)⟩
      · replace c13 := Bool.eq_false_iff.mpr c13
        subst c13
        have H1 : ((expert_Run.f kj3 l0_0 l0_1 l1).bind fun bt215 => ((expert_Right.f l0_0 l0_1 a2).bind fun t219 => ((switchboardref11_Right.f kj3 l0_0 l0_1 a2).bind fun t220 => (if (t219 != t220) = true then (some false) else ((switchboardref11_Right.f kj3 l0_0 l0_1 (l1.length : Int)).bind fun t221 => (if t221 = true then ((switchboardref11_Run.f kj3 l0_0 l0_1 l1).bind fun t222 => ((switchboardref02_Same.f kj3 bt215.1 t222).bind fun t225 => (if t225 = true then (if bt215.2 = true then ((switchboardlaw11_awake.f kj3).bind fun t226 => (some t226)) else (some false)) else (some false)))) else (if (bt215.1.length : Int) = 0 then (if bt215.2 = true then (some false) else ((switchboardlaw11_awake.f kj3).bind fun t227 => (some t227))) else (some false)))))))) = some true := by rw [if_neg (show ¬ (false = true) by decide)] at H; exact H
        clear H
        have H := H1
        clear H1
        replace H := Option.bind_eq_some_iff.mp H
        obtain ⟨⟨t215, t218⟩, A160, H⟩ := H
        replace H : ((expert_Right.f l0_0 l0_1 a2).bind fun t219 => ((switchboardref11_Right.f kj3 l0_0 l0_1 a2).bind fun t220 => (if (t219 != t220) = true then (some false) else ((switchboardref11_Right.f kj3 l0_0 l0_1 (l1.length : Int)).bind fun t221 => (if t221 = true then ((switchboardref11_Run.f kj3 l0_0 l0_1 l1).bind fun t222 => ((switchboardref02_Same.f kj3 t215 t222).bind fun t225 => (if t225 = true then (if t218 = true then ((switchboardlaw11_awake.f kj3).bind fun t226 => (some t226)) else (some false)) else (some false)))) else (if (t215.length : Int) = 0 then (if t218 = true then (some false) else ((switchboardlaw11_awake.f kj3).bind fun t227 => (some t227))) else (some false))))))) = some true := H
        have A16 := Aside0.mk A160
        clear A160
        replace H := Option.bind_eq_some_iff.mp H
        obtain ⟨t219, A170, H⟩ := H
        replace H : ((switchboardref11_Right.f kj3 l0_0 l0_1 a2).bind fun t220 => (if (t219 != t220) = true then (some false) else ((switchboardref11_Right.f kj3 l0_0 l0_1 (l1.length : Int)).bind fun t221 => (if t221 = true then ((switchboardref11_Run.f kj3 l0_0 l0_1 l1).bind fun t222 => ((switchboardref02_Same.f kj3 t215 t222).bind fun t225 => (if t225 = true then (if t218 = true then ((switchboardlaw11_awake.f kj3).bind fun t226 => (some t226)) else (some false)) else (some false)))) else (if (t215.length : Int) = 0 then (if t218 = true then (some false) else ((switchboardlaw11_awake.f kj3).bind fun t227 => (some t227))) else (some false)))))) = some true := H
        have A17 := Aside0.mk A170
        clear A170
        replace H := Option.bind_eq_some_iff.mp H
        obtain ⟨t220, A180, H⟩ := H
        replace H : (if (t219 != t220) = true then (some false) else ((switchboardref11_Right.f kj3 l0_0 l0_1 (l1.length : Int)).bind fun t221 => (if t221 = true then ((switchboardref11_Run.f kj3 l0_0 l0_1 l1).bind fun t222 => ((switchboardref02_Same.f kj3 t215 t222).bind fun t225 => (if t225 = true then (if t218 = true then ((switchboardlaw11_awake.f kj3).bind fun t226 => (some t226)) else (some false)) else (some false)))) else (if (t215.length : Int) = 0 then (if t218 = true then (some false) else ((switchboardlaw11_awake.f kj3).bind fun t227 => (some t227))) else (some false))))) = some true := H
        have A18 := Aside0.mk A180
        clear A180
        by_cases c19 : (t219 != t220) = true
        · rw [if_pos c19] at H
          have c19b0 : (t219 != t220) = true := c19
          (try (have c19b1 : decide (t219 = t220) = false := by simpa using c19))
          (try (have c19b2 : (t219 == t220) = false := by simpa using c19))
          (try (have c19b3 : ¬ (t219 = t220) := by simpa using c19))
          clear c19
          exact absurd H (by simp)
        · rw [if_neg c19] at H
          have c19b0 : (t219 != t220) = false := by simpa using c19
          (try (have c19b1 : decide (t219 = t220) = true := by simpa using c19))
          (try (have c19b2 : (t219 == t220) = true := by simpa using c19))
          clear c19
          replace H := Option.bind_eq_some_iff.mp H
          obtain ⟨t221, A200, H⟩ := H
          replace H : (if t221 = true then ((switchboardref11_Run.f kj3 l0_0 l0_1 l1).bind fun t222 => ((switchboardref02_Same.f kj3 t215 t222).bind fun t225 => (if t225 = true then (if t218 = true then ((switchboardlaw11_awake.f kj3).bind fun t226 => (some t226)) else (some false)) else (some false)))) else (if (t215.length : Int) = 0 then (if t218 = true then (some false) else ((switchboardlaw11_awake.f kj3).bind fun t227 => (some t227))) else (some false))) = some true := H
          have A20 := Aside0.mk A200
          clear A200
          by_cases c21 : t221 = true
          · subst c21
            have H1 : ((switchboardref11_Run.f kj3 l0_0 l0_1 l1).bind fun t222 => ((switchboardref02_Same.f kj3 t215 t222).bind fun t225 => (if t225 = true then (if t218 = true then ((switchboardlaw11_awake.f kj3).bind fun t226 => (some t226)) else (some false)) else (some false)))) = some true := by rw [if_pos rfl] at H; exact H
            clear H
            have H := H1
            clear H1
            replace H := Option.bind_eq_some_iff.mp H
            obtain ⟨t222, A220, H⟩ := H
            replace H : ((switchboardref02_Same.f kj3 t215 t222).bind fun t225 => (if t225 = true then (if t218 = true then ((switchboardlaw11_awake.f kj3).bind fun t226 => (some t226)) else (some false)) else (some false))) = some true := H
            have A22 := Aside0.mk A220
            clear A220
            replace H := Option.bind_eq_some_iff.mp H
            obtain ⟨t225, A230, H⟩ := H
            replace H : (if t225 = true then (if t218 = true then ((switchboardlaw11_awake.f kj3).bind fun t226 => (some t226)) else (some false)) else (some false)) = some true := H
            have A23 := Aside0.mk A230
            clear A230
            by_cases c24 : t225 = true
            · subst c24
              have H1 : (if t218 = true then ((switchboardlaw11_awake.f kj3).bind fun t226 => (some t226)) else (some false)) = some true := by rw [if_pos rfl] at H; exact H
              clear H
              have H := H1
              clear H1
              by_cases c25 : t218 = true
              · subst c25
                have H1 : ((switchboardlaw11_awake.f kj3).bind fun t226 => (some t226)) = some true := by rw [if_pos rfl] at H; exact H
                clear H
                have H := H1
                clear H1
                replace H := Option.bind_eq_some_iff.mp H
                obtain ⟨t226, A260, H⟩ := H
                replace H : (some t226) = some true := H
                have A26 := Aside0.mk A260
                clear A260
                have hr_ := Aside0.mk (Option.some.inj H)
                have hcz27_0 : wc.cell? ⟨gb211, 0, none⟩ = some (.slice A0_0 l0_0.length c0_0) := (blk_cell BK211.out 0).trans rfl
                have hcz27_1 : wc.cell? ⟨gb211, 1, none⟩ = some (.slice A0_1 l0_1.length c0_1) := (blk_cell BK211.out 1).trans rfl
                have hfz27_0 := blk_frozen BK211.out 0
                have hfz27_1 := blk_frozen BK211.out 1
                try go_wp2_with (first | ((with_reducible refine gate_callee (f := 9) rfl ?_); refine goesL_ (some 28) rfl rfl Try.func9 (by kernel_rfl) rfl #[.agg #[.slice A0_0 l0_0.length c0_0, .slice A0_1 l0_1.length c0_1], .slice A1 l1.length c1] rfl (by (try simp only [List.map_toArray, List.map_cons, List.map_nil]); first | done | rfl | (simp only [List.length_drop, List.length_take]; rfl)) ?_; (with_reducible refine (expert_Run.calls kj3 _ _ l0_0 _ _ l0_1 _ _ l1 t215 true _ ?side1 ?side2 ?side3 ?side4 ?side5 ?side6 A16.out).mono ?_); (case side1 => repeat (first | exact (Kd.C_below HR0_0.out HB.out) | (with_reducible refine Kd.C_alloc ?_ _) | (with_reducible refine Kd.C_drewN ?_ _) | (with_reducible refine Kd.C_drew ?_))); (case side2 => exact HC0_0.out); (case side3 => repeat (first | exact (Kd.C_below HR0_1.out HB.out) | (with_reducible refine Kd.C_alloc ?_ _) | (with_reducible refine Kd.C_drewN ?_ _) | (with_reducible refine Kd.C_drew ?_))); (case side4 => exact HC0_1.out); (case side5 => repeat (first | exact (Kd.C_below HR1.out HB.out) | (with_reducible refine Kd.C_alloc ?_ _) | (with_reducible refine Kd.C_drewN ?_ _) | (with_reducible refine Kd.C_drew ?_))); (case side6 => exact HC1.out); rintro e w28 ⟨v216, rfl, ho0, hb⟩; refine ⟨_, rfl, ?_⟩; have n0_ := Aside0.mk (Kd.R_lower ho0 (below_size (by repeat (first | (with_reducible first | exact HB.out | apply below_alloc | apply pw_below_drewN | apply below_drew1 | refine below_set ?_ GE211.out) | exact HB.out)))); have n1_ := Aside0.mk (blk_below (g := gb211) (o := .cells #[.slice A0_0 l0_0.length c0_0, .slice A0_1 l0_1.length c0_1] 24 (0, 0)) (by (with_reducible repeat (first | refine blk_drewN ?_ _ | refine blk_drew ?_ | refine blk_alloc ?_ _)); exact BK211.out) hb); have n2_ := Aside0.mk (below_step (by repeat (first | (with_reducible first | exact HB.out | apply below_alloc | apply pw_below_drewN | apply below_drew1 | refine below_set ?_ GE211.out) | exact HB.out)) hb); clear BK211; clear HB; have HO217 := n0_; have BK211 := n1_; have HB := n2_; clear n0_ n1_ n2_; (try clear hb); (try clear hb2); (try clear hk); (try clear hi); (try clear ho0)))
                have n0_ := Aside0.mk (Kd.R_drew HO217.out)
                have n1_ := Aside0.mk (blk_drew BK211.out)
                have n2_ := Aside0.mk (below_drew1 HB.out)
                clear HO217
                clear BK211
                clear HB
                have HO217 := n0_
                have BK211 := n1_
                have HB := n2_
                clear n0_ n1_ n2_
                refine start_ (n := 7) (S := fun w' => w'.cell? ⟨gb211, 0, none⟩ = some (.slice A0_0 l0_0.length c0_0) ∧ w'.cell? ⟨gb211, 1, none⟩ = some (.slice A0_1 l0_1.length c0_1)) (ds := []) #[false, false, false, false, false, false, false] (by kernel_rfl) rfl rfl ⟨(blk_cell BK211.out 0).trans rfl, (blk_cell BK211.out 1).trans rfl⟩ (fun hHeld => ?_)
                generalize w28.drew = w29 at HO217 BK211 HB hHeld ⊢
                refine pure_ (i := 1) (N := some 32) (v := ?_) (a' := ?_) #[false, true, false, false, false, false, false] rfl rfl (by kernel_rfl) (fun _ _ _ h => h) (Or.inl ⟨by rfl, ?_⟩) ?_ ?_
                rotate_left
                · intro w'
                  go_simp
                  with_reducible rfl
                rotate_left
                · simp only [Act.put, List.setIfInBounds_toArray, List.set_cons_zero, List.set_cons_succ, i64_w, i32_w]
                  rfl
                refine pure_ (i := 4) (N := some 35) (v := ?_) (a' := ?_) #[false, true, false, false, true, false, false] rfl rfl (by kernel_rfl) (fun _ _ _ h => h) (Or.inl ⟨by rfl, ?_⟩) ?_ ?_
                rotate_left
                · intro w'
                  go_simp
                  with_reducible rfl
                rotate_left
                · simp only [Act.put, List.setIfInBounds_toArray, List.set_cons_zero, List.set_cons_succ, i64_w, i32_w]
                  rfl
                refine take_ (i := 0) (N := some 31) (v := ?_) (a' := ?_) #[true, true, false, false, true, false, false] rfl rfl (by kernel_rfl) (fun _ _ _ h => h) (Or.inl ⟨by rfl, ?_⟩) hHeld ?_ ?_
                rotate_left
                · rintro w' ⟨s0, s1⟩
                  go_simp
                  with_reducible rfl
                rotate_left
                · simp only [Act.put, List.setIfInBounds_toArray, List.set_cons_zero, List.set_cons_succ, i64_w, i32_w]
                  rfl
                refine take_ (i := 3) (N := some 34) (v := ?_) (a' := ?_) #[true, true, false, true, true, false, false] rfl rfl (by kernel_rfl) (fun _ _ _ h => h) (Or.inl ⟨by rfl, ?_⟩) hHeld ?_ ?_
                rotate_left
                · rintro w' ⟨s0, s1⟩
                  go_simp
                  with_reducible rfl
                rotate_left
                · simp only [Act.put, List.setIfInBounds_toArray, List.set_cons_zero, List.set_cons_succ, i64_w, i32_w]
                  rfl
                refine one_ (i := 2) (N := some 33) #[true, true, true, true, true, false, false] rfl rfl (by kernel_rfl) (by decide) (fun K hK => ?_)
                refine goes_ Try.func10 (by kernel_rfl) rfl #[.agg #[.slice A0_0 l0_0.length c0_0, .slice A0_1 l0_1.length c0_1], .int .i64 a2] (by rfl) rfl rfl (by (try simp only [List.map_toArray, List.map_cons, List.map_nil]); first | done | rfl | (simp only [List.length_drop, List.length_take]; rfl)) ?_
                with_reducible refine (expert_Right.calls _ _ l0_0 _ _ l0_1 a2 t219 _ ?side1 ?side2 ?side3 ?side4 A17.out).mono ?_
                (case side1 => repeat (first | exact (Kd.C_below HR0_0.out HB.out) | (with_reducible refine Kd.C_alloc ?_ _) | (with_reducible refine Kd.C_drewN ?_ _) | (with_reducible refine Kd.C_drew ?_)))
                (case side2 => exact HC0_0.out)
                (case side3 => repeat (first | exact (Kd.C_below HR0_1.out HB.out) | (with_reducible refine Kd.C_alloc ?_ _) | (with_reducible refine Kd.C_drewN ?_ _) | (with_reducible refine Kd.C_drew ?_)))
                (case side4 => exact HC0_1.out)
                rintro e w30 ⟨rfl, hb⟩
                refine ⟨_, rfl, ?_⟩
                have n0_ := Aside0.mk (Kd.R_below (by (with_reducible repeat (first | apply Kd.R_alloc | apply Kd.R_drewN | apply Kd.R_drew)); exact HO217.out) hb)
                have n1_ := Aside0.mk (blk_below (g := gb211) (o := .cells #[.slice A0_0 l0_0.length c0_0, .slice A0_1 l0_1.length c0_1] 24 (0, 0)) (by (with_reducible repeat (first | refine blk_drewN ?_ _ | refine blk_drew ?_ | refine blk_alloc ?_ _)); exact BK211.out) hb)
                have n2_ := Aside0.mk (below_step (by repeat (first | (with_reducible first | exact HB.out | apply below_alloc | apply pw_below_drewN | apply below_drew1 | refine below_set ?_ GE211.out) | exact HB.out)) hb)
                clear HO217
                clear BK211
                clear HB
                have HO217 := n0_
                have BK211 := n1_
                have HB := n2_
                clear n0_ n1_ n2_
                (try clear hb)
                (try clear hb2)
                (try clear hk)
                (try clear hi)
                refine hK.out _ _ ⟨(blk_cell BK211.out 0).trans rfl, (blk_cell BK211.out 1).trans rfl⟩ (fun hHeld => ?_)
                clear hK K
                refine norm_ (a' := ?_) ?_ ?_
                rotate_left
                · show Act.put _ (some 33) _ = _
                  simp only [Act.put, List.setIfInBounds_toArray, List.set_cons_zero, List.set_cons_succ, i64_w, i32_w]
                  rfl
                refine one_ (i := 5) (N := some 36) #[true, true, true, true, true, true, false] rfl rfl (by kernel_rfl) (by decide) (fun K hK => ?_)
                refine goes_ Try.func11 (by kernel_rfl) rfl #[.agg #[.slice A0_0 l0_0.length c0_0, .slice A0_1 l0_1.length c0_1], .int .i64 a2] (by rfl) rfl rfl (by (try simp only [List.map_toArray, List.map_cons, List.map_nil]); first | done | rfl | (simp only [List.length_drop, List.length_take]; rfl)) ?_
                with_reducible refine (switchboardref11_Right.calls kj3 _ _ l0_0 _ _ l0_1 a2 t220 _ ?side1 ?side2 ?side3 ?side4 A18.out).mono ?_
                (case side1 => repeat (first | exact (Kd.C_below HR0_0.out HB.out) | (with_reducible refine Kd.C_alloc ?_ _) | (with_reducible refine Kd.C_drewN ?_ _) | (with_reducible refine Kd.C_drew ?_)))
                (case side2 => exact HC0_0.out)
                (case side3 => repeat (first | exact (Kd.C_below HR0_1.out HB.out) | (with_reducible refine Kd.C_alloc ?_ _) | (with_reducible refine Kd.C_drewN ?_ _) | (with_reducible refine Kd.C_drew ?_)))
                (case side4 => exact HC0_1.out)
                rintro e w31 ⟨rfl, hb⟩
                refine ⟨_, rfl, ?_⟩
                have n0_ := Aside0.mk (Kd.R_below (by (with_reducible repeat (first | apply Kd.R_alloc | apply Kd.R_drewN | apply Kd.R_drew)); exact HO217.out) hb)
                have n1_ := Aside0.mk (blk_below (g := gb211) (o := .cells #[.slice A0_0 l0_0.length c0_0, .slice A0_1 l0_1.length c0_1] 24 (0, 0)) (by (with_reducible repeat (first | refine blk_drewN ?_ _ | refine blk_drew ?_ | refine blk_alloc ?_ _)); exact BK211.out) hb)
                have n2_ := Aside0.mk (below_step (by repeat (first | (with_reducible first | exact HB.out | apply below_alloc | apply pw_below_drewN | apply below_drew1 | refine below_set ?_ GE211.out) | exact HB.out)) hb)
                clear HO217
                clear BK211
                clear HB
                have HO217 := n0_
                have BK211 := n1_
                have HB := n2_
                clear n0_ n1_ n2_
                (try clear hb)
                (try clear hb2)
                (try clear hk)
                (try clear hi)
                refine hK.out _ _ ⟨(blk_cell BK211.out 0).trans rfl, (blk_cell BK211.out 1).trans rfl⟩ (fun hHeld => ?_)
                clear hK K
                refine norm_ (a' := ?_) ?_ ?_
                rotate_left
                · show Act.put _ (some 36) _ = _
                  simp only [Act.put, List.setIfInBounds_toArray, List.set_cons_zero, List.set_cons_succ, i64_w, i32_w]
                  rfl
                refine pure_ (i := 6) (N := some 37) (v := ?_) (a' := ?_) #[true, true, true, true, true, true, true] rfl rfl (by kernel_rfl) (fun _ _ _ h => h) (Or.inl ⟨by rfl, ?_⟩) ?_ ?_
                rotate_left
                · intro w'
                  go_simp
                  with_reducible rfl
                rotate_left
                · simp only [Act.put, List.setIfInBounds_toArray, List.set_cons_zero, List.set_cons_succ, i64_w, i32_w]
                  rfl
                refine done_ (by kernel_rfl) ?_
                have hcz32_0 : w31.cell? ⟨gb211, 0, none⟩ = some (.slice A0_0 l0_0.length c0_0) := (blk_cell BK211.out 0).trans rfl
                have hcz32_1 : w31.cell? ⟨gb211, 1, none⟩ = some (.slice A0_1 l0_1.length c0_1) := (blk_cell BK211.out 1).trans rfl
                have hfz32_0 := blk_frozen BK211.out 0
                have hfz32_1 := blk_frozen BK211.out 1
                try go_wp2_with (first | ((with_reducible refine gate_callee (f := 11) rfl ?_); refine goesL_ (some 41) rfl rfl Try.func11 (by kernel_rfl) rfl #[.agg #[.slice A0_0 l0_0.length c0_0, .slice A0_1 l0_1.length c0_1], .int .i64 (l1.length : Int)] rfl (by (try simp only [List.map_toArray, List.map_cons, List.map_nil]); first | done | rfl | (simp only [List.length_drop, List.length_take]; rfl)) ?_; (with_reducible refine (switchboardref11_Right.calls kj3 _ _ l0_0 _ _ l0_1 (l1.length : Int) true _ ?side1 ?side2 ?side3 ?side4 A20.out).mono ?_); (case side1 => repeat (first | exact (Kd.C_below HR0_0.out HB.out) | (with_reducible refine Kd.C_alloc ?_ _) | (with_reducible refine Kd.C_drewN ?_ _) | (with_reducible refine Kd.C_drew ?_))); (case side2 => exact HC0_0.out); (case side3 => repeat (first | exact (Kd.C_below HR0_1.out HB.out) | (with_reducible refine Kd.C_alloc ?_ _) | (with_reducible refine Kd.C_drewN ?_ _) | (with_reducible refine Kd.C_drew ?_))); (case side4 => exact HC0_1.out); rintro e w33 ⟨rfl, hb⟩; refine ⟨_, rfl, ?_⟩; have n0_ := Aside0.mk (Kd.R_below (by (with_reducible repeat (first | apply Kd.R_alloc | apply Kd.R_drewN | apply Kd.R_drew)); exact HO217.out) hb); have n1_ := Aside0.mk (blk_below (g := gb211) (o := .cells #[.slice A0_0 l0_0.length c0_0, .slice A0_1 l0_1.length c0_1] 24 (0, 0)) (by (with_reducible repeat (first | refine blk_drewN ?_ _ | refine blk_drew ?_ | refine blk_alloc ?_ _)); exact BK211.out) hb); have n2_ := Aside0.mk (below_step (by repeat (first | (with_reducible first | exact HB.out | apply below_alloc | apply pw_below_drewN | apply below_drew1 | refine below_set ?_ GE211.out) | exact HB.out)) hb); clear HO217; clear BK211; clear HB; have HO217 := n0_; have BK211 := n1_; have HB := n2_; clear n0_ n1_ n2_; (try clear hb); (try clear hb2); (try clear hk); (try clear hi); have hcz34_0 : w33.cell? ⟨gb211, 0, none⟩ = some (.slice A0_0 l0_0.length c0_0) := (blk_cell BK211.out 0).trans rfl; have hcz34_1 : w33.cell? ⟨gb211, 1, none⟩ = some (.slice A0_1 l0_1.length c0_1) := (blk_cell BK211.out 1).trans rfl; have hfz34_0 := blk_frozen BK211.out 0; have hfz34_1 := blk_frozen BK211.out 1) | ((with_reducible refine gate_callee (f := 13) rfl ?_); refine goesL_ (some 56) rfl rfl Try.func13 (by kernel_rfl) rfl #[.agg #[.slice A0_0 l0_0.length c0_0, .slice A0_1 l0_1.length c0_1], .slice A1 l1.length c1] rfl (by (try simp only [List.map_toArray, List.map_cons, List.map_nil]); first | done | rfl | (simp only [List.length_drop, List.length_take]; rfl)) ?_; (with_reducible refine (switchboardref11_Run.calls kj3 _ _ l0_0 _ _ l0_1 _ _ l1 t222 _ ?side1 ?side2 ?side3 ?side4 ?side5 ?side6 A22.out).mono ?_); (case side1 => repeat (first | exact (Kd.C_below HR0_0.out HB.out) | (with_reducible refine Kd.C_alloc ?_ _) | (with_reducible refine Kd.C_drewN ?_ _) | (with_reducible refine Kd.C_drew ?_))); (case side2 => exact HC0_0.out); (case side3 => repeat (first | exact (Kd.C_below HR0_1.out HB.out) | (with_reducible refine Kd.C_alloc ?_ _) | (with_reducible refine Kd.C_drewN ?_ _) | (with_reducible refine Kd.C_drew ?_))); (case side4 => exact HC0_1.out); (case side5 => repeat (first | exact (Kd.C_below HR1.out HB.out) | (with_reducible refine Kd.C_alloc ?_ _) | (with_reducible refine Kd.C_drewN ?_ _) | (with_reducible refine Kd.C_drew ?_))); (case side6 => exact HC1.out); rintro e w35 ⟨v223, rfl, ho0, hb⟩; refine ⟨_, rfl, ?_⟩; have n0_ := Aside0.mk (Kd.R_elder' (by (with_reducible repeat (first | apply Kd.R_alloc | apply Kd.R_drewN | apply Kd.R_drew)); exact HO217.out) (Kd.R_base ho0) hb); have n1_ := Aside0.mk (Kd.R_lower (Kd.R_new' ho0 (Kd.R_lt (by (with_reducible repeat (first | apply Kd.R_alloc | apply Kd.R_drewN | apply Kd.R_drew)); exact HO217.out))) (below_size (by repeat (first | (with_reducible first | exact HB.out | apply below_alloc | apply pw_below_drewN | apply below_drew1 | refine below_set ?_ GE211.out) | exact HB.out)))); have n2_ := Aside0.mk (blk_below (g := gb211) (o := .cells #[.slice A0_0 l0_0.length c0_0, .slice A0_1 l0_1.length c0_1] 24 (0, 0)) (by (with_reducible repeat (first | refine blk_drewN ?_ _ | refine blk_drew ?_ | refine blk_alloc ?_ _)); exact BK211.out) hb); have n3_ := Aside0.mk (below_step (by repeat (first | (with_reducible first | exact HB.out | apply below_alloc | apply pw_below_drewN | apply below_drew1 | refine below_set ?_ GE211.out) | exact HB.out)) hb); clear HO217; clear BK211; clear HB; have HO217 := n0_; have HO224 := n1_; have BK211 := n2_; have HB := n3_; clear n0_ n1_ n2_ n3_; (try clear hb); (try clear hb2); (try clear hk); (try clear hi); (try clear ho0); obtain ⟨Ao36, co36, eo36⟩ := Kd.R_slice HO217.out; subst eo36; obtain ⟨Ao37, co37, eo37⟩ := Kd.R_slice HO224.out; subst eo37) | ((with_reducible refine gate_callee (f := 12) rfl ?_); refine goesL_ (some 57) rfl rfl Try.func12 (by kernel_rfl) rfl #[.slice Ao36 t215.length co36, .slice Ao37 t222.length co37] rfl (by (try simp only [List.map_toArray, List.map_cons, List.map_nil]); first | done | rfl | (simp only [List.length_drop, List.length_take]; rfl)) ?_; (with_reducible refine (switchboardref02_Same.calls kj3 _ _ t215 _ _ t222 true _ ?side1 ?side2 ?side3 ?side4 A23.out).mono ?_); (case side1 => repeat (first | exact (Kd.R_reads' HO217.out).2.2 | (with_reducible refine Kd.C_alloc ?_ _) | (with_reducible refine Kd.C_drewN ?_ _) | (with_reducible refine Kd.C_drew ?_))); (case side2 => exact (Kd.R_reads' HO217.out).2.1); (case side3 => repeat (first | exact (Kd.R_reads' HO224.out).2.2 | (with_reducible refine Kd.C_alloc ?_ _) | (with_reducible refine Kd.C_drewN ?_ _) | (with_reducible refine Kd.C_drew ?_))); (case side4 => exact (Kd.R_reads' HO224.out).2.1); rintro e w' ⟨rfl, ⟨nd, rfl⟩⟩; refine ⟨_, rfl, ?_⟩) | (go_at_call 8; (with_reducible refine (switchboardlaw11_awake.calls kj3  t226 _ A26.out).mono ?_); rintro e w38 ⟨rfl, hb⟩; have n0_ := Aside0.mk (Kd.R_below (by (with_reducible repeat (first | apply Kd.R_alloc | apply Kd.R_drewN | apply Kd.R_drew)); exact HO217.out) hb); have n1_ := Aside0.mk (Kd.R_below (by (with_reducible repeat (first | apply Kd.R_alloc | apply Kd.R_drewN | apply Kd.R_drew)); exact HO224.out) hb); have n2_ := Aside0.mk (blk_below (g := gb211) (o := .cells #[.slice A0_0 l0_0.length c0_0, .slice A0_1 l0_1.length c0_1] 24 (0, 0)) (by (with_reducible repeat (first | refine blk_drewN ?_ _ | refine blk_drew ?_ | refine blk_alloc ?_ _)); exact BK211.out) hb); have n3_ := Aside0.mk (below_step (by repeat (first | (with_reducible first | exact HB.out | apply below_alloc | apply pw_below_drewN | apply below_drew1 | refine below_set ?_ GE211.out) | exact HB.out)) hb); clear HO217; clear HO224; clear BK211; clear HB; have HO217 := n0_; have HO224 := n1_; have BK211 := n2_; have HB := n3_; clear n0_ n1_ n2_ n3_; (try clear hb); (try clear hb2); (try clear hk); (try clear hi)))
                go_ret
                exact ⟨by first | rfl | exact congrArg (fun b_ => Ending.returned (Value.bool b_)) hr_.out | exact congrArg (fun b_ => Ending.returned (Value.bool b_)) hr_.out | (simp [errW_none, errW_some] <;> rfl) | (simp [*, errW_none, errW_some] <;> rfl), by repeat (first | (with_reducible first | exact HB.out | apply below_alloc | apply pw_below_drewN | apply below_drew1 | refine below_set ?_ GE211.out) | exact HB.out)⟩
              · replace c25 := Bool.eq_false_iff.mpr c25
                subst c25
                have H1 : (some false) = some true := by rw [if_neg (show ¬ (false = true) by decide)] at H; exact H
                clear H
                have H := H1
                clear H1
                exact absurd H (by simp)
            · replace c24 := Bool.eq_false_iff.mpr c24
              subst c24
              have H1 : (some false) = some true := by rw [if_neg (show ¬ (false = true) by decide)] at H; exact H
              clear H
              have H := H1
              clear H1
              exact absurd H (by simp)
          · replace c21 := Bool.eq_false_iff.mpr c21
            subst c21
            have H1 : (if (t215.length : Int) = 0 then (if t218 = true then (some false) else ((switchboardlaw11_awake.f kj3).bind fun t227 => (some t227))) else (some false)) = some true := by rw [if_neg (show ¬ (false = true) by decide)] at H; exact H
            clear H
            have H := H1
            clear H1
            by_cases c39 : (t215.length : Int) = 0
            · rw [if_pos c39] at H
              have c39b0 : ((t215.length : Int) == 0) = true := beq_iff_eq.mpr c39
              have c39b1 : ((t215.length : Int) != 0) = false := bne_eq_false_iff_eq.mpr c39
              clear c39
              by_cases c40 : t218 = true
              · subst c40
                have H1 : (some false) = some true := by rw [if_pos rfl] at H; exact H
                clear H
                have H := H1
                clear H1
                exact absurd H (by simp)
              · replace c40 := Bool.eq_false_iff.mpr c40
                subst c40
                have H1 : ((switchboardlaw11_awake.f kj3).bind fun t227 => (some t227)) = some true := by rw [if_neg (show ¬ (false = true) by decide)] at H; exact H
                clear H
                have H := H1
                clear H1
                replace H := Option.bind_eq_some_iff.mp H
                obtain ⟨t227, A410, H⟩ := H
                replace H : (some t227) = some true := H
                have A41 := Aside0.mk A410
                clear A410
                have hr_ := Aside0.mk (Option.some.inj H)
                have hcz42_0 : wc.cell? ⟨gb211, 0, none⟩ = some (.slice A0_0 l0_0.length c0_0) := (blk_cell BK211.out 0).trans rfl
                have hcz42_1 : wc.cell? ⟨gb211, 1, none⟩ = some (.slice A0_1 l0_1.length c0_1) := (blk_cell BK211.out 1).trans rfl
                have hfz42_0 := blk_frozen BK211.out 0
                have hfz42_1 := blk_frozen BK211.out 1
                try go_wp2_with (first | ((with_reducible refine gate_callee (f := 9) rfl ?_); refine goesL_ (some 28) rfl rfl Try.func9 (by kernel_rfl) rfl #[.agg #[.slice A0_0 l0_0.length c0_0, .slice A0_1 l0_1.length c0_1], .slice A1 l1.length c1] rfl (by (try simp only [List.map_toArray, List.map_cons, List.map_nil]); first | done | rfl | (simp only [List.length_drop, List.length_take]; rfl)) ?_; (with_reducible refine (expert_Run.calls kj3 _ _ l0_0 _ _ l0_1 _ _ l1 t215 false _ ?side1 ?side2 ?side3 ?side4 ?side5 ?side6 A16.out).mono ?_); (case side1 => repeat (first | exact (Kd.C_below HR0_0.out HB.out) | (with_reducible refine Kd.C_alloc ?_ _) | (with_reducible refine Kd.C_drewN ?_ _) | (with_reducible refine Kd.C_drew ?_))); (case side2 => exact HC0_0.out); (case side3 => repeat (first | exact (Kd.C_below HR0_1.out HB.out) | (with_reducible refine Kd.C_alloc ?_ _) | (with_reducible refine Kd.C_drewN ?_ _) | (with_reducible refine Kd.C_drew ?_))); (case side4 => exact HC0_1.out); (case side5 => repeat (first | exact (Kd.C_below HR1.out HB.out) | (with_reducible refine Kd.C_alloc ?_ _) | (with_reducible refine Kd.C_drewN ?_ _) | (with_reducible refine Kd.C_drew ?_))); (case side6 => exact HC1.out); rintro e w43 ⟨v216, rfl, ho0, hb⟩; refine ⟨_, rfl, ?_⟩; have n0_ := Aside0.mk (Kd.R_lower ho0 (below_size (by repeat (first | (with_reducible first | exact HB.out | apply below_alloc | apply pw_below_drewN | apply below_drew1 | refine below_set ?_ GE211.out) | exact HB.out)))); have n1_ := Aside0.mk (blk_below (g := gb211) (o := .cells #[.slice A0_0 l0_0.length c0_0, .slice A0_1 l0_1.length c0_1] 24 (0, 0)) (by (with_reducible repeat (first | refine blk_drewN ?_ _ | refine blk_drew ?_ | refine blk_alloc ?_ _)); exact BK211.out) hb); have n2_ := Aside0.mk (below_step (by repeat (first | (with_reducible first | exact HB.out | apply below_alloc | apply pw_below_drewN | apply below_drew1 | refine below_set ?_ GE211.out) | exact HB.out)) hb); clear BK211; clear HB; have HO217 := n0_; have BK211 := n1_; have HB := n2_; clear n0_ n1_ n2_; (try clear hb); (try clear hb2); (try clear hk); (try clear hi); (try clear ho0)))
                have n0_ := Aside0.mk (Kd.R_drew HO217.out)
                have n1_ := Aside0.mk (blk_drew BK211.out)
                have n2_ := Aside0.mk (below_drew1 HB.out)
                clear HO217
                clear BK211
                clear HB
                have HO217 := n0_
                have BK211 := n1_
                have HB := n2_
                clear n0_ n1_ n2_
                refine start_ (n := 7) (S := fun w' => w'.cell? ⟨gb211, 0, none⟩ = some (.slice A0_0 l0_0.length c0_0) ∧ w'.cell? ⟨gb211, 1, none⟩ = some (.slice A0_1 l0_1.length c0_1)) (ds := []) #[false, false, false, false, false, false, false] (by kernel_rfl) rfl rfl ⟨(blk_cell BK211.out 0).trans rfl, (blk_cell BK211.out 1).trans rfl⟩ (fun hHeld => ?_)
                generalize w43.drew = w44 at HO217 BK211 HB hHeld ⊢
                refine pure_ (i := 1) (N := some 32) (v := ?_) (a' := ?_) #[false, true, false, false, false, false, false] rfl rfl (by kernel_rfl) (fun _ _ _ h => h) (Or.inl ⟨by rfl, ?_⟩) ?_ ?_
                rotate_left
                · intro w'
                  go_simp
                  with_reducible rfl
                rotate_left
                · simp only [Act.put, List.setIfInBounds_toArray, List.set_cons_zero, List.set_cons_succ, i64_w, i32_w]
                  rfl
                refine pure_ (i := 4) (N := some 35) (v := ?_) (a' := ?_) #[false, true, false, false, true, false, false] rfl rfl (by kernel_rfl) (fun _ _ _ h => h) (Or.inl ⟨by rfl, ?_⟩) ?_ ?_
                rotate_left
                · intro w'
                  go_simp
                  with_reducible rfl
                rotate_left
                · simp only [Act.put, List.setIfInBounds_toArray, List.set_cons_zero, List.set_cons_succ, i64_w, i32_w]
                  rfl
                refine take_ (i := 0) (N := some 31) (v := ?_) (a' := ?_) #[true, true, false, false, true, false, false] rfl rfl (by kernel_rfl) (fun _ _ _ h => h) (Or.inl ⟨by rfl, ?_⟩) hHeld ?_ ?_
                rotate_left
                · rintro w' ⟨s0, s1⟩
                  go_simp
                  with_reducible rfl
                rotate_left
                · simp only [Act.put, List.setIfInBounds_toArray, List.set_cons_zero, List.set_cons_succ, i64_w, i32_w]
                  rfl
                refine take_ (i := 3) (N := some 34) (v := ?_) (a' := ?_) #[true, true, false, true, true, false, false] rfl rfl (by kernel_rfl) (fun _ _ _ h => h) (Or.inl ⟨by rfl, ?_⟩) hHeld ?_ ?_
                rotate_left
                · rintro w' ⟨s0, s1⟩
                  go_simp
                  with_reducible rfl
                rotate_left
                · simp only [Act.put, List.setIfInBounds_toArray, List.set_cons_zero, List.set_cons_succ, i64_w, i32_w]
                  rfl
                refine one_ (i := 2) (N := some 33) #[true, true, true, true, true, false, false] rfl rfl (by kernel_rfl) (by decide) (fun K hK => ?_)
                refine goes_ Try.func10 (by kernel_rfl) rfl #[.agg #[.slice A0_0 l0_0.length c0_0, .slice A0_1 l0_1.length c0_1], .int .i64 a2] (by rfl) rfl rfl (by (try simp only [List.map_toArray, List.map_cons, List.map_nil]); first | done | rfl | (simp only [List.length_drop, List.length_take]; rfl)) ?_
                with_reducible refine (expert_Right.calls _ _ l0_0 _ _ l0_1 a2 t219 _ ?side1 ?side2 ?side3 ?side4 A17.out).mono ?_
                (case side1 => repeat (first | exact (Kd.C_below HR0_0.out HB.out) | (with_reducible refine Kd.C_alloc ?_ _) | (with_reducible refine Kd.C_drewN ?_ _) | (with_reducible refine Kd.C_drew ?_)))
                (case side2 => exact HC0_0.out)
                (case side3 => repeat (first | exact (Kd.C_below HR0_1.out HB.out) | (with_reducible refine Kd.C_alloc ?_ _) | (with_reducible refine Kd.C_drewN ?_ _) | (with_reducible refine Kd.C_drew ?_)))
                (case side4 => exact HC0_1.out)
                rintro e w45 ⟨rfl, hb⟩
                refine ⟨_, rfl, ?_⟩
                have n0_ := Aside0.mk (Kd.R_below (by (with_reducible repeat (first | apply Kd.R_alloc | apply Kd.R_drewN | apply Kd.R_drew)); exact HO217.out) hb)
                have n1_ := Aside0.mk (blk_below (g := gb211) (o := .cells #[.slice A0_0 l0_0.length c0_0, .slice A0_1 l0_1.length c0_1] 24 (0, 0)) (by (with_reducible repeat (first | refine blk_drewN ?_ _ | refine blk_drew ?_ | refine blk_alloc ?_ _)); exact BK211.out) hb)
                have n2_ := Aside0.mk (below_step (by repeat (first | (with_reducible first | exact HB.out | apply below_alloc | apply pw_below_drewN | apply below_drew1 | refine below_set ?_ GE211.out) | exact HB.out)) hb)
                clear HO217
                clear BK211
                clear HB
                have HO217 := n0_
                have BK211 := n1_
                have HB := n2_
                clear n0_ n1_ n2_
                (try clear hb)
                (try clear hb2)
                (try clear hk)
                (try clear hi)
                refine hK.out _ _ ⟨(blk_cell BK211.out 0).trans rfl, (blk_cell BK211.out 1).trans rfl⟩ (fun hHeld => ?_)
                clear hK K
                refine norm_ (a' := ?_) ?_ ?_
                rotate_left
                · show Act.put _ (some 33) _ = _
                  simp only [Act.put, List.setIfInBounds_toArray, List.set_cons_zero, List.set_cons_succ, i64_w, i32_w]
                  rfl
                refine one_ (i := 5) (N := some 36) #[true, true, true, true, true, true, false] rfl rfl (by kernel_rfl) (by decide) (fun K hK => ?_)
                refine goes_ Try.func11 (by kernel_rfl) rfl #[.agg #[.slice A0_0 l0_0.length c0_0, .slice A0_1 l0_1.length c0_1], .int .i64 a2] (by rfl) rfl rfl (by (try simp only [List.map_toArray, List.map_cons, List.map_nil]); first | done | rfl | (simp only [List.length_drop, List.length_take]; rfl)) ?_
                with_reducible refine (switchboardref11_Right.calls kj3 _ _ l0_0 _ _ l0_1 a2 t220 _ ?side1 ?side2 ?side3 ?side4 A18.out).mono ?_
                (case side1 => repeat (first | exact (Kd.C_below HR0_0.out HB.out) | (with_reducible refine Kd.C_alloc ?_ _) | (with_reducible refine Kd.C_drewN ?_ _) | (with_reducible refine Kd.C_drew ?_)))
                (case side2 => exact HC0_0.out)
                (case side3 => repeat (first | exact (Kd.C_below HR0_1.out HB.out) | (with_reducible refine Kd.C_alloc ?_ _) | (with_reducible refine Kd.C_drewN ?_ _) | (with_reducible refine Kd.C_drew ?_)))
                (case side4 => exact HC0_1.out)
                rintro e w46 ⟨rfl, hb⟩
                refine ⟨_, rfl, ?_⟩
                have n0_ := Aside0.mk (Kd.R_below (by (with_reducible repeat (first | apply Kd.R_alloc | apply Kd.R_drewN | apply Kd.R_drew)); exact HO217.out) hb)
                have n1_ := Aside0.mk (blk_below (g := gb211) (o := .cells #[.slice A0_0 l0_0.length c0_0, .slice A0_1 l0_1.length c0_1] 24 (0, 0)) (by (with_reducible repeat (first | refine blk_drewN ?_ _ | refine blk_drew ?_ | refine blk_alloc ?_ _)); exact BK211.out) hb)
                have n2_ := Aside0.mk (below_step (by repeat (first | (with_reducible first | exact HB.out | apply below_alloc | apply pw_below_drewN | apply below_drew1 | refine below_set ?_ GE211.out) | exact HB.out)) hb)
                clear HO217
                clear BK211
                clear HB
                have HO217 := n0_
                have BK211 := n1_
                have HB := n2_
                clear n0_ n1_ n2_
                (try clear hb)
                (try clear hb2)
                (try clear hk)
                (try clear hi)
                refine hK.out _ _ ⟨(blk_cell BK211.out 0).trans rfl, (blk_cell BK211.out 1).trans rfl⟩ (fun hHeld => ?_)
                clear hK K
                refine norm_ (a' := ?_) ?_ ?_
                rotate_left
                · show Act.put _ (some 36) _ = _
                  simp only [Act.put, List.setIfInBounds_toArray, List.set_cons_zero, List.set_cons_succ, i64_w, i32_w]
                  rfl
                refine pure_ (i := 6) (N := some 37) (v := ?_) (a' := ?_) #[true, true, true, true, true, true, true] rfl rfl (by kernel_rfl) (fun _ _ _ h => h) (Or.inl ⟨by rfl, ?_⟩) ?_ ?_
                rotate_left
                · intro w'
                  go_simp
                  with_reducible rfl
                rotate_left
                · simp only [Act.put, List.setIfInBounds_toArray, List.set_cons_zero, List.set_cons_succ, i64_w, i32_w]
                  rfl
                refine done_ (by kernel_rfl) ?_
                have hcz47_0 : w46.cell? ⟨gb211, 0, none⟩ = some (.slice A0_0 l0_0.length c0_0) := (blk_cell BK211.out 0).trans rfl
                have hcz47_1 : w46.cell? ⟨gb211, 1, none⟩ = some (.slice A0_1 l0_1.length c0_1) := (blk_cell BK211.out 1).trans rfl
                have hfz47_0 := blk_frozen BK211.out 0
                have hfz47_1 := blk_frozen BK211.out 1
                try go_wp2_with (first | ((with_reducible refine gate_callee (f := 11) rfl ?_); refine goesL_ (some 41) rfl rfl Try.func11 (by kernel_rfl) rfl #[.agg #[.slice A0_0 l0_0.length c0_0, .slice A0_1 l0_1.length c0_1], .int .i64 (l1.length : Int)] rfl (by (try simp only [List.map_toArray, List.map_cons, List.map_nil]); first | done | rfl | (simp only [List.length_drop, List.length_take]; rfl)) ?_; (with_reducible refine (switchboardref11_Right.calls kj3 _ _ l0_0 _ _ l0_1 (l1.length : Int) false _ ?side1 ?side2 ?side3 ?side4 A20.out).mono ?_); (case side1 => repeat (first | exact (Kd.C_below HR0_0.out HB.out) | (with_reducible refine Kd.C_alloc ?_ _) | (with_reducible refine Kd.C_drewN ?_ _) | (with_reducible refine Kd.C_drew ?_))); (case side2 => exact HC0_0.out); (case side3 => repeat (first | exact (Kd.C_below HR0_1.out HB.out) | (with_reducible refine Kd.C_alloc ?_ _) | (with_reducible refine Kd.C_drewN ?_ _) | (with_reducible refine Kd.C_drew ?_))); (case side4 => exact HC0_1.out); rintro e w48 ⟨rfl, hb⟩; refine ⟨_, rfl, ?_⟩; have n0_ := Aside0.mk (Kd.R_below (by (with_reducible repeat (first | apply Kd.R_alloc | apply Kd.R_drewN | apply Kd.R_drew)); exact HO217.out) hb); have n1_ := Aside0.mk (blk_below (g := gb211) (o := .cells #[.slice A0_0 l0_0.length c0_0, .slice A0_1 l0_1.length c0_1] 24 (0, 0)) (by (with_reducible repeat (first | refine blk_drewN ?_ _ | refine blk_drew ?_ | refine blk_alloc ?_ _)); exact BK211.out) hb); have n2_ := Aside0.mk (below_step (by repeat (first | (with_reducible first | exact HB.out | apply below_alloc | apply pw_below_drewN | apply below_drew1 | refine below_set ?_ GE211.out) | exact HB.out)) hb); clear HO217; clear BK211; clear HB; have HO217 := n0_; have BK211 := n1_; have HB := n2_; clear n0_ n1_ n2_; (try clear hb); (try clear hb2); (try clear hk); (try clear hi); obtain ⟨Ao49, co49, eo49⟩ := Kd.R_slice HO217.out; subst eo49) | (go_at_call 8; (with_reducible refine (switchboardlaw11_awake.calls kj3  t227 _ A41.out).mono ?_); rintro e w50 ⟨rfl, hb⟩; have n0_ := Aside0.mk (Kd.R_below (by (with_reducible repeat (first | apply Kd.R_alloc | apply Kd.R_drewN | apply Kd.R_drew)); exact HO217.out) hb); have n1_ := Aside0.mk (blk_below (g := gb211) (o := .cells #[.slice A0_0 l0_0.length c0_0, .slice A0_1 l0_1.length c0_1] 24 (0, 0)) (by (with_reducible repeat (first | refine blk_drewN ?_ _ | refine blk_drew ?_ | refine blk_alloc ?_ _)); exact BK211.out) hb); have n2_ := Aside0.mk (below_step (by repeat (first | (with_reducible first | exact HB.out | apply below_alloc | apply pw_below_drewN | apply below_drew1 | refine below_set ?_ GE211.out) | exact HB.out)) hb); clear HO217; clear BK211; clear HB; have HO217 := n0_; have BK211 := n1_; have HB := n2_; clear n0_ n1_ n2_; (try clear hb); (try clear hb2); (try clear hk); (try clear hi)))
                go_ret
                exact ⟨by first | rfl | exact congrArg (fun b_ => Ending.returned (Value.bool b_)) hr_.out | exact congrArg (fun b_ => Ending.returned (Value.bool b_)) hr_.out | (simp [errW_none, errW_some] <;> rfl) | (simp [*, errW_none, errW_some] <;> rfl), by repeat (first | (with_reducible first | exact HB.out | apply below_alloc | apply pw_below_drewN | apply below_drew1 | refine below_set ?_ GE211.out) | exact HB.out)⟩
            · rw [if_neg c39] at H
              have c39b0 : ((t215.length : Int) == 0) = false := beq_eq_false_iff_ne.mpr c39
              have c39b1 : ((t215.length : Int) != 0) = true := bne_iff_ne.mpr c39
              have c39b2 : ¬ (t215 = []) := fun h_ => c39 (by rw [h_]; rfl)
              exact absurd H (by simp)

end Go.Proofs.Ytegjdddpojgplaa.Pr
