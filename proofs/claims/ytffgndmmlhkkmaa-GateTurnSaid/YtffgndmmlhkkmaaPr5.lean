-- Laid by wip/xprint.py, a program of this session that runs the kit's print with some contracts given by hand; not a text of print.sh. Lean checks it.
import Derived.Test.YtffgndmmlhkkmaaPr0
import Derived.Test.YtffgndmmlhkkmaaPr1
import Derived.Test.YtffgndmmlhkkmaaPr2
import Derived.Test.YtffgndmmlhkkmaaPr3
import Derived.Test.YtffgndmmlhkkmaaPr4
namespace Go.Proofs.Ytffgndmmlhkkmaa.Pr
open Go.RowKit Go.Proofs.YtffgndmmlhkkmaaW.PrintWords Go.Proofs.YtffgndmmlhkkmaaW.PrintLast Go.Proofs.YtffgndmmlhkkmaaW.PrintMore
attribute [local go_sem] max2_int min2_int max_two min_two max_three min_three max_four min_four   -- for this text's walks alone
set_option linter.unusedVariables false
set_option linter.unusedSimpArgs false

attribute [local go_sem high] eqA27
/-! ### switchboardlaw13_GateExact: function 3 -/
def switchboardlaw13_GateExact.j0 : Nat → List (List Int) → List Int → Bool → Option (Bool)
  | 0, _, _, _ => none
  | k + 1, x0, x1, x16 => if x16 = true then ((switchboardlaw13_awake.f k).bind fun t195 => (some t195)) else ((gate_Choose.f k x0 x1).bind fun bt196 => ((switchboardref13_Choose.f k x0 x1).bind fun bt202 => (if (bt196.1 == bt202.1 && (bt196.2.1 == bt202.2.1 && (bt196.2.2.1 == bt202.2.2.1 && (bt196.2.2.2.1 == bt202.2.2.2.1)))) = true then (if (bt196.2.2.2.2 == bt202.2.2.2.2) = true then ((switchboardlaw13_awake.f k).bind fun t208 => (some t208)) else (some false)) else (some false))))
def switchboardlaw13_GateExact.f (k : Nat) (l0 : List (List Int)) (l1 : List Int) : Option (Bool) := (switchboardref03_Small.f k l0).bind fun t194 => (if t194 = true then (switchboardlaw13_GateExact.j0 k l0 l1 (decide ((l1.length : Int) > 30))) else (switchboardlaw13_GateExact.j0 k l0 l1 true))
theorem switchboardlaw13_GateExact.mono_l : ∀ k, (∀ y0 y1 y2, LeO (switchboardlaw13_GateExact.j0 k y0 y1 y2) (switchboardlaw13_GateExact.j0 (k + 1) y0 y1 y2))
  | 0 => fun _ _ _ r h => by simp [switchboardlaw13_GateExact.j0] at h
  | k + 1 => by
    have ih0 := switchboardlaw13_GateExact.mono_l k
    · intro y0 y1 y2
      unfold switchboardlaw13_GateExact.j0
      repeat' first
      | (with_reducible exact ih0 _ _ _)
      | (with_reducible exact gate_Choose.mono _ _ _)
      | (with_reducible exact switchboardlaw13_awake.mono _)
      | (with_reducible exact switchboardref03_Small.mono _ _)
      | (with_reducible exact switchboardref13_Choose.mono _ _ _)
      | (with_reducible exact LeO.refl _)
      | (with_reducible exact LeO.none _)
      | (with_reducible refine LeO.ite ?_ ?_)
      | (with_reducible refine LeO.bind ?_ (fun _ => ?_))
      | exact ih0 _ _ _
      | exact gate_Choose.mono _ _ _
      | exact switchboardlaw13_awake.mono _
      | exact switchboardref03_Small.mono _ _
      | exact switchboardref13_Choose.mono _ _ _
      | exact LeO.none _
      | refine LeO.ite ?_ ?_
      | refine LeO.bind ?_ (fun _ => ?_)
theorem switchboardlaw13_GateExact.mono : ∀ a0 a1 k, LeO (switchboardlaw13_GateExact.f k a0 a1) (switchboardlaw13_GateExact.f (k + 1) a0 a1) := by
  intro a0 a1 k
  have ih0 := switchboardlaw13_GateExact.mono_l k
  unfold switchboardlaw13_GateExact.f
  repeat' first
      | (with_reducible exact ih0 _ _ _)
      | (with_reducible exact gate_Choose.mono _ _ _)
      | (with_reducible exact switchboardlaw13_awake.mono _)
      | (with_reducible exact switchboardref03_Small.mono _ _)
      | (with_reducible exact switchboardref13_Choose.mono _ _ _)
      | (with_reducible exact LeO.refl _)
      | (with_reducible exact LeO.none _)
      | (with_reducible refine LeO.ite ?_ ?_)
      | (with_reducible refine LeO.bind ?_ (fun _ => ?_))
      | exact ih0 _ _ _
      | exact gate_Choose.mono _ _ _
      | exact switchboardlaw13_awake.mono _
      | exact switchboardref03_Small.mono _ _
      | exact switchboardref13_Choose.mono _ _ _
      | exact LeO.none _
      | refine LeO.ite ?_ ?_
      | refine LeO.bind ?_ (fun _ => ?_)
set_option maxHeartbeats 8000000 in
set_option maxRecDepth 100000 in
theorem switchboardlaw13_GateExact.calls (k : Nat) (A0 : Option Addr) (c0 : Nat) (l0 : List (List Int)) (A1 : Option Addr) (c1 : Nat) (l1 : List Int) (w : World) (hr0 : Kd.C (Kd.slice 3 (Kd.int .i64)) w A0 l0.length l0) (hc0 : l0.length ≤ c0) (hr1 : Kd.C (Kd.int .i64) w A1 l1.length l1) (hc1 : l1.length ≤ c1) (h : switchboardlaw13_GateExact.f k l0 l1 = some true) :
    Calls Try.prog 3 #[.slice A0 l0.length c0, .slice A1 l1.length c1] w fun e w' => e = .returned (.bool true) ∧ Below w.heap.size w w' := by
  have hu27 := Try.underlying27
  have hu30 := Try.underlying30
  have HR0 := Aside0.mk hr0
  have HC0 := Aside0.mk hc0
  clear hr0 hc0
  have HR1 := Aside0.mk hr1
  have HC1 := Aside0.mk hc1
  clear hr1 hc1
  have HB := Aside0.mk (Below.refl w.heap.size w)
  have H : ((switchboardref03_Small.f k l0).bind fun t194 => (if t194 = true then (switchboardlaw13_GateExact.j0 k l0 l1 (decide ((l1.length : Int) > 30))) else (switchboardlaw13_GateExact.j0 k l0 l1 true))) = some true := h
  clear h
  have HC3 := Aside0.mk H
  clear H
  go_enter Try.func3, Try.ntmps3
  go_upto_region 1 with (fail)
  go_cut [16] (fun v16 wc => ∃ (kq : Nat) (x16_2 : Bool), v16 = .bool x16_2 ∧ Aside0 (switchboardlaw13_GateExact.j0 kq l0 l1 x16_2 = some true) ∧ Aside0 (kq ≤ k) ∧ Aside0 (Below w.heap.size w wc))
  case first =>
    have H := HC3.out
    clear HC3
    replace H := Option.bind_eq_some_iff.mp H
    obtain ⟨t194, A40, H⟩ := H
    replace H : (if t194 = true then (switchboardlaw13_GateExact.j0 k l0 l1 (decide ((l1.length : Int) > 30))) else (switchboardlaw13_GateExact.j0 k l0 l1 true)) = some true := H
    have A4 := Aside0.mk A40
    clear A40
    by_cases c5 : t194 = true
    · subst c5
      have H1 : (switchboardlaw13_GateExact.j0 k l0 l1 (decide ((l1.length : Int) > 30))) = some true := by rw [if_pos rfl] at H; exact H
      clear H
      have H := H1
      clear H1
      have H' := Aside0.mk H
      clear H
      go_wp2_with (first | ((with_reducible refine gate_callee (f := 7) rfl ?_); refine goesL_ (some 10) rfl rfl Try.func7 (by kernel_rfl) rfl #[.slice A0 l0.length c0] rfl (by (try simp only [List.map_toArray, List.map_cons, List.map_nil]); first | done | rfl | (simp only [List.length_drop, List.length_take]; rfl)) ?_; (with_reducible refine (switchboardref03_Small.calls k _ _ l0 true _ ?side1 ?side2 A4.out).mono ?_); (case side1 => repeat (first | exact (Kd.C_below HR0.out HB.out) | (with_reducible refine Kd.C_alloc ?_ _) | (with_reducible refine Kd.C_drewN ?_ _) | (with_reducible refine Kd.C_drew ?_))); (case side2 => exact HC0.out); rintro e w' ⟨rfl, ⟨nd, rfl⟩⟩; refine ⟨_, rfl, ?_⟩))
      go_meet
      case rel => exact ⟨_, (decide ((l1.length : Int) > 30)), (by first | rfl | (simp; done) | (simp [*]; done)), H', ⟨by first | omega | exact Nat.le_refl _⟩, ⟨by repeat (first | (with_reducible first | exact HB.out | apply below_alloc | apply pw_below_drewN | apply below_drew1) | exact HB.out)⟩⟩
    · replace c5 := Bool.eq_false_iff.mpr c5
      subst c5
      have H1 : (switchboardlaw13_GateExact.j0 k l0 l1 true) = some true := by rw [if_neg (show ¬ (false = true) by decide)] at H; exact H
      clear H
      have H := H1
      clear H1
      have H' := Aside0.mk H
      clear H
      go_wp2_with (first | ((with_reducible refine gate_callee (f := 7) rfl ?_); refine goesL_ (some 10) rfl rfl Try.func7 (by kernel_rfl) rfl #[.slice A0 l0.length c0] rfl (by (try simp only [List.map_toArray, List.map_cons, List.map_nil]); first | done | rfl | (simp only [List.length_drop, List.length_take]; rfl)) ?_; (with_reducible refine (switchboardref03_Small.calls k _ _ l0 false _ ?side1 ?side2 A4.out).mono ?_); (case side1 => repeat (first | exact (Kd.C_below HR0.out HB.out) | (with_reducible refine Kd.C_alloc ?_ _) | (with_reducible refine Kd.C_drewN ?_ _) | (with_reducible refine Kd.C_drew ?_))); (case side2 => exact HC0.out); rintro e w' ⟨rfl, ⟨nd, rfl⟩⟩; refine ⟨_, rfl, ?_⟩))
      go_meet
      case rel => exact ⟨_, (true), (by first | rfl | (simp; done) | (simp [*]; done)), H', ⟨by first | omega | exact Nat.le_refl _⟩, ⟨by repeat (first | (with_reducible first | exact HB.out | apply below_alloc | apply pw_below_drewN | apply below_drew1) | exact HB.out)⟩⟩
  case rest =>
    clear HC3
    try clear c1
    try clear p2
    try clear c3
    try clear c5
    obtain ⟨kq, x16_2, rfl, HA, HJ2, HB⟩ := hcut
    cases kq with
    | zero => exact absurd HA.out (by simp [switchboardlaw13_GateExact.j0])
    | succ kj2 =>
      have H := HA.out
      clear HA
      simp only [switchboardlaw13_GateExact.j0] at H
      by_cases c6 : x16_2 = true
      · subst c6
        have H1 : ((switchboardlaw13_awake.f kj2).bind fun t195 => (some t195)) = some true := by rw [if_pos rfl] at H; exact H
        clear H
        have H := H1
        clear H1
        replace H := Option.bind_eq_some_iff.mp H
        obtain ⟨t195, A70, H⟩ := H
        replace H : (some t195) = some true := H
        have A7 := Aside0.mk A70
        clear A70
        have hr_ := Aside0.mk (Option.some.inj H)
        go_wp2_with (first | ((with_reducible refine gate_callee (f := 8) rfl ?_); refine goesL_ (some 17) rfl rfl Try.func8 (by kernel_rfl) rfl #[] rfl (by (try simp only [List.map_toArray, List.map_cons, List.map_nil]); first | done | rfl | (simp only [List.length_drop, List.length_take]; rfl)) ?_; (with_reducible refine (switchboardlaw13_awake.calls kj2  t195 _ A7.out).mono ?_); rintro e w8 ⟨rfl, hb⟩; refine ⟨_, rfl, ?_⟩; have n0_ := Aside0.mk (below_step (by repeat (first | (with_reducible first | exact HB.out | apply below_alloc | apply pw_below_drewN | apply below_drew1) | exact HB.out)) hb); clear HB; have HB := n0_; clear n0_; (try clear hb); (try clear hb2); (try clear hk); (try clear hi)))
        go_ret
        exact ⟨by first | rfl | exact congrArg (fun b_ => Ending.returned (Value.bool b_)) hr_.out | exact congrArg (fun b_ => Ending.returned (Value.bool b_)) hr_.out | (simp [errW_none, errW_some] <;> rfl) | (simp [*, errW_none, errW_some] <;> rfl), by repeat (first | (with_reducible first | exact HB.out | apply below_alloc | apply pw_below_drewN | apply below_drew1) | exact HB.out)⟩
      · replace c6 := Bool.eq_false_iff.mpr c6
        subst c6
        have H1 : ((gate_Choose.f kj2 l0 l1).bind fun bt196 => ((switchboardref13_Choose.f kj2 l0 l1).bind fun bt202 => (if (bt196.1 == bt202.1 && (bt196.2.1 == bt202.2.1 && (bt196.2.2.1 == bt202.2.2.1 && (bt196.2.2.2.1 == bt202.2.2.2.1)))) = true then (if (bt196.2.2.2.2 == bt202.2.2.2.2) = true then ((switchboardlaw13_awake.f kj2).bind fun t208 => (some t208)) else (some false)) else (some false)))) = some true := by rw [if_neg (show ¬ (false = true) by decide)] at H; exact H
        clear H
        have H := H1
        clear H1
        replace H := Option.bind_eq_some_iff.mp H
        obtain ⟨⟨t196, t197, t198, t199, t200⟩, A90, H⟩ := H
        replace H : ((switchboardref13_Choose.f kj2 l0 l1).bind fun bt202 => (if (t196 == bt202.1 && (t197 == bt202.2.1 && (t198 == bt202.2.2.1 && (t199 == bt202.2.2.2.1)))) = true then (if (t200 == bt202.2.2.2.2) = true then ((switchboardlaw13_awake.f kj2).bind fun t208 => (some t208)) else (some false)) else (some false))) = some true := H
        have A9 := Aside0.mk A90
        clear A90
        replace H := Option.bind_eq_some_iff.mp H
        obtain ⟨⟨t202, t203, t204, t205, t206⟩, A100, H⟩ := H
        replace H : (if (t196 == t202 && (t197 == t203 && (t198 == t204 && (t199 == t205)))) = true then (if (t200 == t206) = true then ((switchboardlaw13_awake.f kj2).bind fun t208 => (some t208)) else (some false)) else (some false)) = some true := H
        have A10 := Aside0.mk A100
        clear A100
        by_cases c11 : (t196 == t202 && (t197 == t203 && (t198 == t204 && (t199 == t205)))) = true
        · rw [if_pos c11] at H
          simp only [Bool.and_eq_true, beq_iff_eq] at c11
          obtain ⟨he0_, he1_, he2_, he3_⟩ := c11
          subst he0_
          subst he1_
          subst he2_
          subst he3_
          by_cases c12 : (t200 == t206) = true
          · rw [if_pos c12] at H
            have he0_ := eq_of_beq c12
            clear c12
            subst he0_
            replace H := Option.bind_eq_some_iff.mp H
            obtain ⟨t208, A130, H⟩ := H
            replace H : (some t208) = some true := H
            have A13 := Aside0.mk A130
            clear A130
            have hr_ := Aside0.mk (Option.some.inj H)
            go_wp2_with (first | ((with_reducible refine gate_callee (f := 9) rfl ?_); refine goesL_ (some 21) rfl rfl Try.func9 (by kernel_rfl) rfl #[.slice A0 l0.length c0, .slice A1 l1.length c1] rfl (by (try simp only [List.map_toArray, List.map_cons, List.map_nil]); first | done | rfl | (simp only [List.length_drop, List.length_take]; rfl)) ?_; (with_reducible refine (gate_Choose.calls kj2 _ _ l0 _ _ l1 t196 t197 t198 t199 t200 _ ?side1 ?side2 ?side3 ?side4 A9.out).mono ?_); (case side1 => repeat (first | exact (Kd.C_below HR0.out HB.out) | (with_reducible refine Kd.C_alloc ?_ _) | (with_reducible refine Kd.C_drewN ?_ _) | (with_reducible refine Kd.C_drew ?_))); (case side2 => exact HC0.out); (case side3 => repeat (first | exact (Kd.C_below HR1.out HB.out) | (with_reducible refine Kd.C_alloc ?_ _) | (with_reducible refine Kd.C_drewN ?_ _) | (with_reducible refine Kd.C_drew ?_))); (case side4 => exact HC1.out); rintro e w14 ⟨rfl, hb⟩; refine ⟨_, rfl, ?_⟩; have n0_ := Aside0.mk (below_step (by repeat (first | (with_reducible first | exact HB.out | apply below_alloc | apply pw_below_drewN | apply below_drew1) | exact HB.out)) hb); clear HB; have HB := n0_; clear n0_; (try clear hb); (try clear hb2); (try clear hk); (try clear hi)) | ((with_reducible refine gate_dst (N := 5) rfl ?_); (try (refine gate_guard (by rfl) ?_; dsimp only)); refine box_event ?hg (N := 5) ?hd (cs := #[.int .i64 0, .int .i64 0, .int .i64 0, .int .i64 0]) (t := 27) ?hr ?_; (case hd => rfl); (case hg => rfl); (case hr => first | (go_simp; done) | (go_simp; rfl)); intro gb201 hg w15 hbox hb; have n0_ := Aside0.mk (below_step (by repeat (first | (with_reducible first | exact HB.out | apply below_alloc | apply pw_below_drewN | apply below_drew1) | exact HB.out)) hb); have n1_ := Aside0.mk (hbox); have n2_ := Aside0.mk ((by rw [hg]; exact (below_size (by repeat (first | (with_reducible first | exact HB.out | apply below_alloc | apply pw_below_drewN | apply below_drew1) | exact HB.out))) : w.heap.size ≤ gb201)); have n3_ := Aside0.mk ((by rw [hg]; exact (below_size (by repeat (first | (with_reducible first | exact HB.out | apply below_alloc | apply pw_below_drewN | apply below_drew1) | exact HB.out))) : w.heap.size ≤ gb201)); clear HB; have HB := n0_; have BK201 := n1_; have GW201 := n2_; have GE201 := n3_; clear n0_ n1_ n2_ n3_; clear hb hbox hg; have hcz16_0 : w15.cell? ⟨gb201, 0, none⟩ = some (.int .i64 0) := (blk_cell BK201.out 0).trans rfl; have hcz16_1 : w15.cell? ⟨gb201, 1, none⟩ = some (.int .i64 0) := (blk_cell BK201.out 1).trans rfl; have hcz16_2 : w15.cell? ⟨gb201, 2, none⟩ = some (.int .i64 0) := (blk_cell BK201.out 2).trans rfl; have hcz16_3 : w15.cell? ⟨gb201, 3, none⟩ = some (.int .i64 0) := (blk_cell BK201.out 3).trans rfl; have hfz16_0 := blk_frozen BK201.out 0; have hfz16_1 := blk_frozen BK201.out 1; have hfz16_2 := blk_frozen BK201.out 2; have hfz16_3 := blk_frozen BK201.out 3) | ((with_reducible refine gate_callee (f := 10) rfl ?_); refine goesL_ (some 27) rfl rfl Try.func10 (by kernel_rfl) rfl #[.slice A0 l0.length c0, .slice A1 l1.length c1] rfl (by (try simp only [List.map_toArray, List.map_cons, List.map_nil]); first | done | rfl | (simp only [List.length_drop, List.length_take]; rfl)) ?_; (with_reducible refine (switchboardref13_Choose.calls kj2 _ _ l0 _ _ l1 t196 t197 t198 t199 t200 _ ?side1 ?side2 ?side3 ?side4 A10.out).mono ?_); (case side1 => exact Kd.C_below HR0.out (by repeat (first | (with_reducible first | exact HB.out | apply below_alloc | apply pw_below_drewN | apply below_drew1 | refine below_set ?_ GE201.out) | exact HB.out))); (case side2 => exact HC0.out); (case side3 => exact Kd.C_below HR1.out (by repeat (first | (with_reducible first | exact HB.out | apply below_alloc | apply pw_below_drewN | apply below_drew1 | refine below_set ?_ GE201.out) | exact HB.out))); (case side4 => exact HC1.out); rintro e w17 ⟨rfl, hb⟩; refine ⟨_, rfl, ?_⟩; have n0_ := Aside0.mk (blk_below (g := gb201) (o := .cells #[.int .i64 t196, .int .i64 t197, .int .i64 t198, .int .i64 t199] 27 (0, 0)) (by (with_reducible repeat (first | refine blk_drewN ?_ _ | refine blk_drew ?_ | refine blk_alloc ?_ _)); refine blk_put (cs := #[.int .i64 t196, .int .i64 t197, .int .i64 t198, .int .i64 0]) ?_ 3 _ rfl; (with_reducible repeat (first | refine blk_drewN ?_ _ | refine blk_drew ?_ | refine blk_alloc ?_ _)); refine blk_put (cs := #[.int .i64 t196, .int .i64 t197, .int .i64 0, .int .i64 0]) ?_ 2 _ rfl; (with_reducible repeat (first | refine blk_drewN ?_ _ | refine blk_drew ?_ | refine blk_alloc ?_ _)); refine blk_put (cs := #[.int .i64 t196, .int .i64 0, .int .i64 0, .int .i64 0]) ?_ 1 _ rfl; (with_reducible repeat (first | refine blk_drewN ?_ _ | refine blk_drew ?_ | refine blk_alloc ?_ _)); refine blk_put (cs := #[.int .i64 0, .int .i64 0, .int .i64 0, .int .i64 0]) ?_ 0 _ rfl; (with_reducible repeat (first | refine blk_drewN ?_ _ | refine blk_drew ?_ | refine blk_alloc ?_ _)); exact BK201.out) hb); have n1_ := Aside0.mk (below_step (by repeat (first | (with_reducible first | exact HB.out | apply below_alloc | apply pw_below_drewN | apply below_drew1 | refine below_set ?_ GE201.out) | exact HB.out)) hb); clear BK201; clear HB; have BK201 := n0_; have HB := n1_; clear n0_ n1_; (try clear hb); (try clear hb2); (try clear hk); (try clear hi)) | ((with_reducible refine gate_dst (N := 7) rfl ?_); (try (refine gate_guard (by rfl) ?_; dsimp only)); refine box_event ?hg (N := 7) ?hd (cs := #[.int .i64 0, .int .i64 0, .int .i64 0, .int .i64 0]) (t := 30) ?hr ?_; (case hd => rfl); (case hg => rfl); (case hr => first | (go_simp; done) | (go_simp; rfl)); intro gb207 hg w18 hbox hb; have n0_ := Aside0.mk (blk_below (g := gb201) (o := .cells #[.int .i64 t196, .int .i64 t197, .int .i64 t198, .int .i64 t199] 27 (0, 0)) (by (with_reducible repeat (first | refine blk_drewN ?_ _ | refine blk_drew ?_ | refine blk_alloc ?_ _)); exact BK201.out) hb); have n1_ := Aside0.mk (below_step (by repeat (first | (with_reducible first | exact HB.out | apply below_alloc | apply pw_below_drewN | apply below_drew1 | refine below_set ?_ GE201.out) | exact HB.out)) hb); have n2_ := Aside0.mk (hbox); have n3_ := Aside0.mk ((by rw [hg]; exact (below_size (by repeat (first | (with_reducible first | exact HB.out | apply below_alloc | apply pw_below_drewN | apply below_drew1 | refine below_set ?_ GE201.out) | exact HB.out))) : w.heap.size ≤ gb207)); have n4_ := Aside0.mk ((by rw [hg]; exact (below_size (by repeat (first | (with_reducible first | exact HB.out | apply below_alloc | apply pw_below_drewN | apply below_drew1 | refine below_set ?_ GE201.out) | exact HB.out))) : w.heap.size ≤ gb207)); have n5_ := Aside0.mk ((by rw [hg]; exact Nat.ne_of_lt (blk_lt (g := gb201) (o := .cells #[.int .i64 t196, .int .i64 t197, .int .i64 t198, .int .i64 t199] 27 (0, 0)) (by (with_reducible repeat (first | refine blk_drewN ?_ _ | refine blk_drew ?_ | refine blk_alloc ?_ _)); exact BK201.out)) : gb201 ≠ gb207)); have n6_ := Aside0.mk ((by rw [hg]; exact Nat.ne_of_gt (blk_lt (g := gb201) (o := .cells #[.int .i64 t196, .int .i64 t197, .int .i64 t198, .int .i64 t199] 27 (0, 0)) (by (with_reducible repeat (first | refine blk_drewN ?_ _ | refine blk_drew ?_ | refine blk_alloc ?_ _)); exact BK201.out)) : gb207 ≠ gb201)); clear BK201; clear HB; have BK201 := n0_; have HB := n1_; have BK207 := n2_; have GW207 := n3_; have GE207 := n4_; have NB201_207 := n5_; have NB207_201 := n6_; clear n0_ n1_ n2_ n3_ n4_ n5_ n6_; clear hb hbox hg; have hnb19 := NB207_201.out; have hnc19 := NB201_207.out; have hcz20_0 : w18.cell? ⟨gb207, 0, none⟩ = some (.int .i64 0) := (blk_cell BK207.out 0).trans rfl; have hcz20_1 : w18.cell? ⟨gb207, 1, none⟩ = some (.int .i64 0) := (blk_cell BK207.out 1).trans rfl; have hcz20_2 : w18.cell? ⟨gb207, 2, none⟩ = some (.int .i64 0) := (blk_cell BK207.out 2).trans rfl; have hcz20_3 : w18.cell? ⟨gb207, 3, none⟩ = some (.int .i64 0) := (blk_cell BK207.out 3).trans rfl; have hfz20_0 := blk_frozen BK207.out 0; have hfz20_1 := blk_frozen BK207.out 1; have hfz20_2 := blk_frozen BK207.out 2; have hfz20_3 := blk_frozen BK207.out 3; have hcz21_0 : w18.cell? ⟨gb201, 0, none⟩ = some (.int .i64 t196) := (blk_cell BK201.out 0).trans rfl; have hcz21_1 : w18.cell? ⟨gb201, 1, none⟩ = some (.int .i64 t197) := (blk_cell BK201.out 1).trans rfl; have hcz21_2 : w18.cell? ⟨gb201, 2, none⟩ = some (.int .i64 t198) := (blk_cell BK201.out 2).trans rfl; have hcz21_3 : w18.cell? ⟨gb201, 3, none⟩ = some (.int .i64 t199) := (blk_cell BK201.out 3).trans rfl; have hfz21_0 := blk_frozen BK201.out 0; have hfz21_1 := blk_frozen BK201.out 1; have hfz21_2 := blk_frozen BK201.out 2; have hfz21_3 := blk_frozen BK201.out 3) | (go_at_call 8; (with_reducible refine (switchboardlaw13_awake.calls kj2  t208 _ A13.out).mono ?_); rintro e w22 ⟨rfl, hb⟩; have n0_ := Aside0.mk (blk_below (g := gb201) (o := .cells #[.int .i64 t196, .int .i64 t197, .int .i64 t198, .int .i64 t199] 27 (0, 0)) (by (with_reducible repeat (first | refine blk_drewN ?_ _ | refine blk_drew ?_ | refine blk_alloc ?_ _)); refine blk_far ?_ NB201_207.out _; (with_reducible repeat (first | refine blk_drewN ?_ _ | refine blk_drew ?_ | refine blk_alloc ?_ _)); refine blk_far ?_ NB201_207.out _; (with_reducible repeat (first | refine blk_drewN ?_ _ | refine blk_drew ?_ | refine blk_alloc ?_ _)); refine blk_far ?_ NB201_207.out _; (with_reducible repeat (first | refine blk_drewN ?_ _ | refine blk_drew ?_ | refine blk_alloc ?_ _)); refine blk_far ?_ NB201_207.out _; (with_reducible repeat (first | refine blk_drewN ?_ _ | refine blk_drew ?_ | refine blk_alloc ?_ _)); exact BK201.out) hb); have n1_ := Aside0.mk (blk_below (g := gb207) (o := .cells #[.int .i64 t196, .int .i64 t197, .int .i64 t198, .int .i64 t199] 30 (0, 0)) (by (with_reducible repeat (first | refine blk_drewN ?_ _ | refine blk_drew ?_ | refine blk_alloc ?_ _)); refine blk_put (cs := #[.int .i64 t196, .int .i64 t197, .int .i64 t198, .int .i64 0]) ?_ 3 _ rfl; (with_reducible repeat (first | refine blk_drewN ?_ _ | refine blk_drew ?_ | refine blk_alloc ?_ _)); refine blk_put (cs := #[.int .i64 t196, .int .i64 t197, .int .i64 0, .int .i64 0]) ?_ 2 _ rfl; (with_reducible repeat (first | refine blk_drewN ?_ _ | refine blk_drew ?_ | refine blk_alloc ?_ _)); refine blk_put (cs := #[.int .i64 t196, .int .i64 0, .int .i64 0, .int .i64 0]) ?_ 1 _ rfl; (with_reducible repeat (first | refine blk_drewN ?_ _ | refine blk_drew ?_ | refine blk_alloc ?_ _)); refine blk_put (cs := #[.int .i64 0, .int .i64 0, .int .i64 0, .int .i64 0]) ?_ 0 _ rfl; (with_reducible repeat (first | refine blk_drewN ?_ _ | refine blk_drew ?_ | refine blk_alloc ?_ _)); exact BK207.out) hb); have n2_ := Aside0.mk (below_step (by repeat (first | (with_reducible first | exact HB.out | apply below_alloc | apply pw_below_drewN | apply below_drew1 | refine below_set ?_ GE201.out | refine below_set ?_ GE207.out) | exact HB.out)) hb); clear BK201; clear BK207; clear HB; have BK201 := n0_; have BK207 := n1_; have HB := n2_; clear n0_ n1_ n2_; (try clear hb); (try clear hb2); (try clear hk); (try clear hi)))
            go_ret
            exact ⟨by first | rfl | exact congrArg (fun b_ => Ending.returned (Value.bool b_)) hr_.out | exact congrArg (fun b_ => Ending.returned (Value.bool b_)) hr_.out | (simp [errW_none, errW_some] <;> rfl) | (simp [*, errW_none, errW_some] <;> rfl), by repeat (first | (with_reducible first | exact HB.out | apply below_alloc | apply pw_below_drewN | apply below_drew1 | refine below_set ?_ GE201.out | refine below_set ?_ GE207.out) | exact HB.out)⟩
          · rw [if_neg c12] at H
            have c12b0 : (t200 == t206) = false := by simpa using c12
            (try (have c12b1 : decide (t200 = t206) = false := by simpa using c12))
            (try (have c12b2 : (t200 == t206) = false := by simpa using c12))
            (try (have c12b3 : ¬ (t200 = t206) := by simpa using c12))
            clear c12
            exact absurd H (by simp)
        · rw [if_neg c11] at H
          have c11b0 : (t196 == t202 && (t197 == t203 && (t198 == t204 && (t199 == t205)))) = false := by simpa using c11
          (try (have c11b1 : decide (t196 = t202 && (t197 == t203 && (t198 == t204 && (t199 == t205)))) = false := by simpa using c11))
          (try (have c11b2 : (t196 == t202 && (t197 == t203 && (t198 == t204 && (t199 == t205)))) = false := by simpa using c11))
          (try (have c11b3 : ¬ (t196 = t202 && (t197 == t203 && (t198 == t204 && (t199 == t205)))) := by simpa using c11))
          clear c11
          exact absurd H (by simp)

/-! ### switchboardlaw13_GateFair: function 4 -/
def switchboardlaw13_GateFair.j0 : Nat → List (List Int) → List Int → Bool → Option (Bool)
  | 0, _, _, _ => none
  | k + 1, x0, x1, x14 => if x14 = true then ((switchboardlaw13_awake.f k).bind fun t210 => (some t210)) else ((gate_Choose.f k x0 x1).bind fun bt211 => (if bt211.2.2.2.2 = true then (if (wrap64 (bt211.2.2.1 + bt211.2.2.2.1)) = 65536 then (if bt211.2.2.1 ≥ bt211.2.2.2.1 then (if bt211.2.2.2.1 ≥ 0 then (if bt211.1 ≥ 0 then (if bt211.1 < (x0.length : Int) then (if bt211.2.1 < (x0.length : Int) then (if bt211.1 = bt211.2.1 then (some false) else (if ((decide (bt211.2.1 ≥ 0)) == (decide ((x0.length : Int) > 1))) = true then ((switchboardlaw13_awake.f k).bind fun t217 => (some t217)) else (some false))) else (some false)) else (some false)) else (some false)) else (some false)) else (some false)) else (some false)) else (if (bt211.1 == 0 && (bt211.2.1 == 0 && (bt211.2.2.1 == 0 && (bt211.2.2.2.1 == 0)))) = true then ((switchboardlaw13_awake.f k).bind fun t218 => (some t218)) else (some false))))
def switchboardlaw13_GateFair.f (k : Nat) (l0 : List (List Int)) (l1 : List Int) : Option (Bool) := (switchboardref03_Small.f k l0).bind fun t209 => (if t209 = true then (switchboardlaw13_GateFair.j0 k l0 l1 (decide ((l1.length : Int) > 30))) else (switchboardlaw13_GateFair.j0 k l0 l1 true))
theorem switchboardlaw13_GateFair.mono_l : ∀ k, (∀ y0 y1 y2, LeO (switchboardlaw13_GateFair.j0 k y0 y1 y2) (switchboardlaw13_GateFair.j0 (k + 1) y0 y1 y2))
  | 0 => fun _ _ _ r h => by simp [switchboardlaw13_GateFair.j0] at h
  | k + 1 => by
    have ih0 := switchboardlaw13_GateFair.mono_l k
    · intro y0 y1 y2
      unfold switchboardlaw13_GateFair.j0
      repeat' first
      | (with_reducible exact ih0 _ _ _)
      | (with_reducible exact gate_Choose.mono _ _ _)
      | (with_reducible exact switchboardlaw13_awake.mono _)
      | (with_reducible exact switchboardref03_Small.mono _ _)
      | (with_reducible exact LeO.refl _)
      | (with_reducible exact LeO.none _)
      | (with_reducible refine LeO.ite ?_ ?_)
      | (with_reducible refine LeO.bind ?_ (fun _ => ?_))
      | exact ih0 _ _ _
      | exact gate_Choose.mono _ _ _
      | exact switchboardlaw13_awake.mono _
      | exact switchboardref03_Small.mono _ _
      | exact LeO.none _
      | refine LeO.ite ?_ ?_
      | refine LeO.bind ?_ (fun _ => ?_)
theorem switchboardlaw13_GateFair.mono : ∀ a0 a1 k, LeO (switchboardlaw13_GateFair.f k a0 a1) (switchboardlaw13_GateFair.f (k + 1) a0 a1) := by
  intro a0 a1 k
  have ih0 := switchboardlaw13_GateFair.mono_l k
  unfold switchboardlaw13_GateFair.f
  repeat' first
      | (with_reducible exact ih0 _ _ _)
      | (with_reducible exact gate_Choose.mono _ _ _)
      | (with_reducible exact switchboardlaw13_awake.mono _)
      | (with_reducible exact switchboardref03_Small.mono _ _)
      | (with_reducible exact LeO.refl _)
      | (with_reducible exact LeO.none _)
      | (with_reducible refine LeO.ite ?_ ?_)
      | (with_reducible refine LeO.bind ?_ (fun _ => ?_))
      | exact ih0 _ _ _
      | exact gate_Choose.mono _ _ _
      | exact switchboardlaw13_awake.mono _
      | exact switchboardref03_Small.mono _ _
      | exact LeO.none _
      | refine LeO.ite ?_ ?_
      | refine LeO.bind ?_ (fun _ => ?_)
set_option maxHeartbeats 8000000 in
set_option maxRecDepth 100000 in
theorem switchboardlaw13_GateFair.calls (k : Nat) (A0 : Option Addr) (c0 : Nat) (l0 : List (List Int)) (A1 : Option Addr) (c1 : Nat) (l1 : List Int) (w : World) (hr0 : Kd.C (Kd.slice 3 (Kd.int .i64)) w A0 l0.length l0) (hc0 : l0.length ≤ c0) (hr1 : Kd.C (Kd.int .i64) w A1 l1.length l1) (hc1 : l1.length ≤ c1) (h : switchboardlaw13_GateFair.f k l0 l1 = some true) :
    Calls Try.prog 4 #[.slice A0 l0.length c0, .slice A1 l1.length c1] w fun e w' => e = .returned (.bool true) ∧ Below w.heap.size w w' := by
  have hu27 := Try.underlying27
  have HR0 := Aside0.mk hr0
  have HC0 := Aside0.mk hc0
  clear hr0 hc0
  have HR1 := Aside0.mk hr1
  have HC1 := Aside0.mk hc1
  clear hr1 hc1
  have HB := Aside0.mk (Below.refl w.heap.size w)
  have H : ((switchboardref03_Small.f k l0).bind fun t209 => (if t209 = true then (switchboardlaw13_GateFair.j0 k l0 l1 (decide ((l1.length : Int) > 30))) else (switchboardlaw13_GateFair.j0 k l0 l1 true))) = some true := h
  clear h
  have HC3 := Aside0.mk H
  clear H
  go_enter Try.func4, Try.ntmps4
  go_upto_region 1 with (fail)
  go_cut [14] (fun v14 wc => ∃ (kq : Nat) (x14_2 : Bool), v14 = .bool x14_2 ∧ Aside0 (switchboardlaw13_GateFair.j0 kq l0 l1 x14_2 = some true) ∧ Aside0 (kq ≤ k) ∧ Aside0 (Below w.heap.size w wc))
  case first =>
    have H := HC3.out
    clear HC3
    replace H := Option.bind_eq_some_iff.mp H
    obtain ⟨t209, A40, H⟩ := H
    replace H : (if t209 = true then (switchboardlaw13_GateFair.j0 k l0 l1 (decide ((l1.length : Int) > 30))) else (switchboardlaw13_GateFair.j0 k l0 l1 true)) = some true := H
    have A4 := Aside0.mk A40
    clear A40
    by_cases c5 : t209 = true
    · subst c5
      have H1 : (switchboardlaw13_GateFair.j0 k l0 l1 (decide ((l1.length : Int) > 30))) = some true := by rw [if_pos rfl] at H; exact H
      clear H
      have H := H1
      clear H1
      have H' := Aside0.mk H
      clear H
      go_wp2_with (first | ((with_reducible refine gate_callee (f := 7) rfl ?_); refine goesL_ (some 8) rfl rfl Try.func7 (by kernel_rfl) rfl #[.slice A0 l0.length c0] rfl (by (try simp only [List.map_toArray, List.map_cons, List.map_nil]); first | done | rfl | (simp only [List.length_drop, List.length_take]; rfl)) ?_; (with_reducible refine (switchboardref03_Small.calls k _ _ l0 true _ ?side1 ?side2 A4.out).mono ?_); (case side1 => repeat (first | exact (Kd.C_below HR0.out HB.out) | (with_reducible refine Kd.C_alloc ?_ _) | (with_reducible refine Kd.C_drewN ?_ _) | (with_reducible refine Kd.C_drew ?_))); (case side2 => exact HC0.out); rintro e w' ⟨rfl, ⟨nd, rfl⟩⟩; refine ⟨_, rfl, ?_⟩))
      go_meet
      case rel => exact ⟨_, (decide ((l1.length : Int) > 30)), (by first | rfl | (simp; done) | (simp [*]; done)), H', ⟨by first | omega | exact Nat.le_refl _⟩, ⟨by repeat (first | (with_reducible first | exact HB.out | apply below_alloc | apply pw_below_drewN | apply below_drew1) | exact HB.out)⟩⟩
    · replace c5 := Bool.eq_false_iff.mpr c5
      subst c5
      have H1 : (switchboardlaw13_GateFair.j0 k l0 l1 true) = some true := by rw [if_neg (show ¬ (false = true) by decide)] at H; exact H
      clear H
      have H := H1
      clear H1
      have H' := Aside0.mk H
      clear H
      go_wp2_with (first | ((with_reducible refine gate_callee (f := 7) rfl ?_); refine goesL_ (some 8) rfl rfl Try.func7 (by kernel_rfl) rfl #[.slice A0 l0.length c0] rfl (by (try simp only [List.map_toArray, List.map_cons, List.map_nil]); first | done | rfl | (simp only [List.length_drop, List.length_take]; rfl)) ?_; (with_reducible refine (switchboardref03_Small.calls k _ _ l0 false _ ?side1 ?side2 A4.out).mono ?_); (case side1 => repeat (first | exact (Kd.C_below HR0.out HB.out) | (with_reducible refine Kd.C_alloc ?_ _) | (with_reducible refine Kd.C_drewN ?_ _) | (with_reducible refine Kd.C_drew ?_))); (case side2 => exact HC0.out); rintro e w' ⟨rfl, ⟨nd, rfl⟩⟩; refine ⟨_, rfl, ?_⟩))
      go_meet
      case rel => exact ⟨_, (true), (by first | rfl | (simp; done) | (simp [*]; done)), H', ⟨by first | omega | exact Nat.le_refl _⟩, ⟨by repeat (first | (with_reducible first | exact HB.out | apply below_alloc | apply pw_below_drewN | apply below_drew1) | exact HB.out)⟩⟩
  case rest =>
    clear HC3
    try clear c1
    try clear p2
    try clear c4
    try clear c5
    obtain ⟨kq, x14_2, rfl, HA, HJ2, HB⟩ := hcut
    cases kq with
    | zero => exact absurd HA.out (by simp [switchboardlaw13_GateFair.j0])
    | succ kj2 =>
      have H := HA.out
      clear HA
      simp only [switchboardlaw13_GateFair.j0] at H
      by_cases c6 : x14_2 = true
      · subst c6
        have H1 : ((switchboardlaw13_awake.f kj2).bind fun t210 => (some t210)) = some true := by rw [if_pos rfl] at H; exact H
        clear H
        have H := H1
        clear H1
        replace H := Option.bind_eq_some_iff.mp H
        obtain ⟨t210, A70, H⟩ := H
        replace H : (some t210) = some true := H
        have A7 := Aside0.mk A70
        clear A70
        have hr_ := Aside0.mk (Option.some.inj H)
        go_wp2_with (first | ((with_reducible refine gate_callee (f := 8) rfl ?_); refine goesL_ (some 15) rfl rfl Try.func8 (by kernel_rfl) rfl #[] rfl (by (try simp only [List.map_toArray, List.map_cons, List.map_nil]); first | done | rfl | (simp only [List.length_drop, List.length_take]; rfl)) ?_; (with_reducible refine (switchboardlaw13_awake.calls kj2  t210 _ A7.out).mono ?_); rintro e w8 ⟨rfl, hb⟩; refine ⟨_, rfl, ?_⟩; have n0_ := Aside0.mk (below_step (by repeat (first | (with_reducible first | exact HB.out | apply below_alloc | apply pw_below_drewN | apply below_drew1) | exact HB.out)) hb); clear HB; have HB := n0_; clear n0_; (try clear hb); (try clear hb2); (try clear hk); (try clear hi)))
        go_ret
        exact ⟨by first | rfl | exact congrArg (fun b_ => Ending.returned (Value.bool b_)) hr_.out | exact congrArg (fun b_ => Ending.returned (Value.bool b_)) hr_.out | (simp [errW_none, errW_some] <;> rfl) | (simp [*, errW_none, errW_some] <;> rfl), by repeat (first | (with_reducible first | exact HB.out | apply below_alloc | apply pw_below_drewN | apply below_drew1) | exact HB.out)⟩
      · replace c6 := Bool.eq_false_iff.mpr c6
        subst c6
        have H1 : ((gate_Choose.f kj2 l0 l1).bind fun bt211 => (if bt211.2.2.2.2 = true then (if (wrap64 (bt211.2.2.1 + bt211.2.2.2.1)) = 65536 then (if bt211.2.2.1 ≥ bt211.2.2.2.1 then (if bt211.2.2.2.1 ≥ 0 then (if bt211.1 ≥ 0 then (if bt211.1 < (l0.length : Int) then (if bt211.2.1 < (l0.length : Int) then (if bt211.1 = bt211.2.1 then (some false) else (if ((decide (bt211.2.1 ≥ 0)) == (decide ((l0.length : Int) > 1))) = true then ((switchboardlaw13_awake.f kj2).bind fun t217 => (some t217)) else (some false))) else (some false)) else (some false)) else (some false)) else (some false)) else (some false)) else (some false)) else (if (bt211.1 == 0 && (bt211.2.1 == 0 && (bt211.2.2.1 == 0 && (bt211.2.2.2.1 == 0)))) = true then ((switchboardlaw13_awake.f kj2).bind fun t218 => (some t218)) else (some false)))) = some true := by rw [if_neg (show ¬ (false = true) by decide)] at H; exact H
        clear H
        have H := H1
        clear H1
        replace H := Option.bind_eq_some_iff.mp H
        obtain ⟨⟨t211, t212, t213, t214, t215⟩, A90, H⟩ := H
        replace H : (if t215 = true then (if (wrap64 (t213 + t214)) = 65536 then (if t213 ≥ t214 then (if t214 ≥ 0 then (if t211 ≥ 0 then (if t211 < (l0.length : Int) then (if t212 < (l0.length : Int) then (if t211 = t212 then (some false) else (if ((decide (t212 ≥ 0)) == (decide ((l0.length : Int) > 1))) = true then ((switchboardlaw13_awake.f kj2).bind fun t217 => (some t217)) else (some false))) else (some false)) else (some false)) else (some false)) else (some false)) else (some false)) else (some false)) else (if (t211 == 0 && (t212 == 0 && (t213 == 0 && (t214 == 0)))) = true then ((switchboardlaw13_awake.f kj2).bind fun t218 => (some t218)) else (some false))) = some true := H
        have A9 := Aside0.mk A90
        clear A90
        by_cases c10 : t215 = true
        · subst c10
          have H1 : (if (wrap64 (t213 + t214)) = 65536 then (if t213 ≥ t214 then (if t214 ≥ 0 then (if t211 ≥ 0 then (if t211 < (l0.length : Int) then (if t212 < (l0.length : Int) then (if t211 = t212 then (some false) else (if ((decide (t212 ≥ 0)) == (decide ((l0.length : Int) > 1))) = true then ((switchboardlaw13_awake.f kj2).bind fun t217 => (some t217)) else (some false))) else (some false)) else (some false)) else (some false)) else (some false)) else (some false)) else (some false)) = some true := by rw [if_pos rfl] at H; exact H
          clear H
          have H := H1
          clear H1
          by_cases c11 : (wrap64 (t213 + t214)) = 65536
          · rw [if_pos c11] at H
            have c11b0 : ((wrap64 (t213 + t214)) == 65536) = true := beq_iff_eq.mpr c11
            have c11b1 : ((wrap64 (t213 + t214)) != 65536) = false := bne_eq_false_iff_eq.mpr c11
            clear c11
            by_cases c12 : t213 ≥ t214
            · rw [if_pos c12] at H
              have c12b0 : decide (t214 ≤ t213) = true := decide_eq_true c12
              clear c12
              by_cases c13 : t214 ≥ 0
              · rw [if_pos c13] at H
                have c13b0 : decide (0 ≤ t214) = true := decide_eq_true c13
                clear c13
                by_cases c14 : t211 ≥ 0
                · rw [if_pos c14] at H
                  have c14b0 : decide (0 ≤ t211) = true := decide_eq_true c14
                  clear c14
                  by_cases c15 : t211 < (l0.length : Int)
                  · rw [if_pos c15] at H
                    have c15b0 : decide (t211 < (l0.length : Int)) = true := decide_eq_true c15
                    clear c15
                    by_cases c16 : t212 < (l0.length : Int)
                    · rw [if_pos c16] at H
                      have c16b0 : decide (t212 < (l0.length : Int)) = true := decide_eq_true c16
                      clear c16
                      by_cases c17 : t211 = t212
                      · rw [if_pos c17] at H
                        have c17b0 : (t211 == t212) = true := beq_iff_eq.mpr c17
                        have c17b1 : (t211 != t212) = false := bne_eq_false_iff_eq.mpr c17
                        clear c17
                        exact absurd H (by simp)
                      · rw [if_neg c17] at H
                        have c17b0 : (t211 == t212) = false := beq_eq_false_iff_ne.mpr c17
                        have c17b1 : (t211 != t212) = true := bne_iff_ne.mpr c17
                        by_cases c18 : ((decide (t212 ≥ 0)) == (decide ((l0.length : Int) > 1))) = true
                        · rw [if_pos c18] at H
                          have c18b0 : ((decide (t212 ≥ 0)) == (decide ((l0.length : Int) > 1))) = true := c18
                          (try (have c18b1 : decide ((decide (t212 ≥ 0)) = (decide ((l0.length : Int) > 1))) = true := by simpa using c18))
                          (try (have c18b2 : ((decide (t212 ≥ 0)) == (decide ((l0.length : Int) > 1))) = true := by simpa using c18))
                          clear c18
                          replace H := Option.bind_eq_some_iff.mp H
                          obtain ⟨t217, A190, H⟩ := H
                          replace H : (some t217) = some true := H
                          have A19 := Aside0.mk A190
                          clear A190
                          have hr_ := Aside0.mk (Option.some.inj H)
                          go_wp2_with (first | ((with_reducible refine gate_callee (f := 9) rfl ?_); refine goesL_ (some 19) rfl rfl Try.func9 (by kernel_rfl) rfl #[.slice A0 l0.length c0, .slice A1 l1.length c1] rfl (by (try simp only [List.map_toArray, List.map_cons, List.map_nil]); first | done | rfl | (simp only [List.length_drop, List.length_take]; rfl)) ?_; (with_reducible refine (gate_Choose.calls kj2 _ _ l0 _ _ l1 t211 t212 t213 t214 true _ ?side1 ?side2 ?side3 ?side4 A9.out).mono ?_); (case side1 => repeat (first | exact (Kd.C_below HR0.out HB.out) | (with_reducible refine Kd.C_alloc ?_ _) | (with_reducible refine Kd.C_drewN ?_ _) | (with_reducible refine Kd.C_drew ?_))); (case side2 => exact HC0.out); (case side3 => repeat (first | exact (Kd.C_below HR1.out HB.out) | (with_reducible refine Kd.C_alloc ?_ _) | (with_reducible refine Kd.C_drewN ?_ _) | (with_reducible refine Kd.C_drew ?_))); (case side4 => exact HC1.out); rintro e w20 ⟨rfl, hb⟩; refine ⟨_, rfl, ?_⟩; have n0_ := Aside0.mk (below_step (by repeat (first | (with_reducible first | exact HB.out | apply below_alloc | apply pw_below_drewN | apply below_drew1) | exact HB.out)) hb); clear HB; have HB := n0_; clear n0_; (try clear hb); (try clear hb2); (try clear hk); (try clear hi)) | ((with_reducible refine gate_dst (N := 5) rfl ?_); (try (refine gate_guard (by rfl) ?_; dsimp only)); refine box_event ?hg (N := 5) ?hd (cs := #[.int .i64 0, .int .i64 0, .int .i64 0, .int .i64 0]) (t := 27) ?hr ?_; (case hd => rfl); (case hg => rfl); (case hr => first | (go_simp; done) | (go_simp; rfl)); intro gb216 hg w21 hbox hb; have n0_ := Aside0.mk (below_step (by repeat (first | (with_reducible first | exact HB.out | apply below_alloc | apply pw_below_drewN | apply below_drew1) | exact HB.out)) hb); have n1_ := Aside0.mk (hbox); have n2_ := Aside0.mk ((by rw [hg]; exact (below_size (by repeat (first | (with_reducible first | exact HB.out | apply below_alloc | apply pw_below_drewN | apply below_drew1) | exact HB.out))) : w.heap.size ≤ gb216)); have n3_ := Aside0.mk ((by rw [hg]; exact (below_size (by repeat (first | (with_reducible first | exact HB.out | apply below_alloc | apply pw_below_drewN | apply below_drew1) | exact HB.out))) : w.heap.size ≤ gb216)); clear HB; have HB := n0_; have BK216 := n1_; have GW216 := n2_; have GE216 := n3_; clear n0_ n1_ n2_ n3_; clear hb hbox hg; have hcz22_0 : w21.cell? ⟨gb216, 0, none⟩ = some (.int .i64 0) := (blk_cell BK216.out 0).trans rfl; have hcz22_1 : w21.cell? ⟨gb216, 1, none⟩ = some (.int .i64 0) := (blk_cell BK216.out 1).trans rfl; have hcz22_2 : w21.cell? ⟨gb216, 2, none⟩ = some (.int .i64 0) := (blk_cell BK216.out 2).trans rfl; have hcz22_3 : w21.cell? ⟨gb216, 3, none⟩ = some (.int .i64 0) := (blk_cell BK216.out 3).trans rfl; have hfz22_0 := blk_frozen BK216.out 0; have hfz22_1 := blk_frozen BK216.out 1; have hfz22_2 := blk_frozen BK216.out 2; have hfz22_3 := blk_frozen BK216.out 3) | (go_at_call 8; (with_reducible refine (switchboardlaw13_awake.calls kj2  t217 _ A19.out).mono ?_); rintro e w23 ⟨rfl, hb⟩; have n0_ := Aside0.mk (blk_below (g := gb216) (o := .cells #[.int .i64 t211, .int .i64 t212, .int .i64 t213, .int .i64 t214] 27 (0, 0)) (by (with_reducible repeat (first | refine blk_drewN ?_ _ | refine blk_drew ?_ | refine blk_alloc ?_ _)); refine blk_put (cs := #[.int .i64 t211, .int .i64 t212, .int .i64 t213, .int .i64 0]) ?_ 3 _ rfl; (with_reducible repeat (first | refine blk_drewN ?_ _ | refine blk_drew ?_ | refine blk_alloc ?_ _)); refine blk_put (cs := #[.int .i64 t211, .int .i64 t212, .int .i64 0, .int .i64 0]) ?_ 2 _ rfl; (with_reducible repeat (first | refine blk_drewN ?_ _ | refine blk_drew ?_ | refine blk_alloc ?_ _)); refine blk_put (cs := #[.int .i64 t211, .int .i64 0, .int .i64 0, .int .i64 0]) ?_ 1 _ rfl; (with_reducible repeat (first | refine blk_drewN ?_ _ | refine blk_drew ?_ | refine blk_alloc ?_ _)); refine blk_put (cs := #[.int .i64 0, .int .i64 0, .int .i64 0, .int .i64 0]) ?_ 0 _ rfl; (with_reducible repeat (first | refine blk_drewN ?_ _ | refine blk_drew ?_ | refine blk_alloc ?_ _)); exact BK216.out) hb); have n1_ := Aside0.mk (below_step (by repeat (first | (with_reducible first | exact HB.out | apply below_alloc | apply pw_below_drewN | apply below_drew1 | refine below_set ?_ GE216.out) | exact HB.out)) hb); clear BK216; clear HB; have BK216 := n0_; have HB := n1_; clear n0_ n1_; (try clear hb); (try clear hb2); (try clear hk); (try clear hi)))
                          go_ret
                          exact ⟨by first | rfl | exact congrArg (fun b_ => Ending.returned (Value.bool b_)) hr_.out | exact congrArg (fun b_ => Ending.returned (Value.bool b_)) hr_.out | (simp [errW_none, errW_some] <;> rfl) | (simp [*, errW_none, errW_some] <;> rfl), by repeat (first | (with_reducible first | exact HB.out | apply below_alloc | apply pw_below_drewN | apply below_drew1 | refine below_set ?_ GE216.out) | exact HB.out)⟩
                        · rw [if_neg c18] at H
                          have c18b0 : ((decide (t212 ≥ 0)) == (decide ((l0.length : Int) > 1))) = false := by simpa using c18
                          (try (have c18b1 : decide ((decide (t212 ≥ 0)) = (decide ((l0.length : Int) > 1))) = false := by simpa using c18))
                          (try (have c18b2 : ((decide (t212 ≥ 0)) == (decide ((l0.length : Int) > 1))) = false := by simpa using c18))
                          (try (have c18b3 : ¬ ((decide (t212 ≥ 0)) = (decide ((l0.length : Int) > 1))) := by simpa using c18))
                          clear c18
                          exact absurd H (by simp)
                    · rw [if_neg c16] at H
                      have c16b0 : decide (t212 < (l0.length : Int)) = false := decide_eq_false c16
                      clear c16
                      exact absurd H (by simp)
                  · rw [if_neg c15] at H
                    have c15b0 : decide (t211 < (l0.length : Int)) = false := decide_eq_false c15
                    clear c15
                    exact absurd H (by simp)
                · rw [if_neg c14] at H
                  have c14b0 : decide (0 ≤ t211) = false := decide_eq_false c14
                  clear c14
                  exact absurd H (by simp)
              · rw [if_neg c13] at H
                have c13b0 : decide (0 ≤ t214) = false := decide_eq_false c13
                clear c13
                exact absurd H (by simp)
            · rw [if_neg c12] at H
              have c12b0 : decide (t214 ≤ t213) = false := decide_eq_false c12
              clear c12
              exact absurd H (by simp)
          · rw [if_neg c11] at H
            have c11b0 : ((wrap64 (t213 + t214)) == 65536) = false := beq_eq_false_iff_ne.mpr c11
            have c11b1 : ((wrap64 (t213 + t214)) != 65536) = true := bne_iff_ne.mpr c11
            exact absurd H (by simp)
        · replace c10 := Bool.eq_false_iff.mpr c10
          subst c10
          have H1 : (if (t211 == 0 && (t212 == 0 && (t213 == 0 && (t214 == 0)))) = true then ((switchboardlaw13_awake.f kj2).bind fun t218 => (some t218)) else (some false)) = some true := by rw [if_neg (show ¬ (false = true) by decide)] at H; exact H
          clear H
          have H := H1
          clear H1
          by_cases c24 : (t211 == 0 && (t212 == 0 && (t213 == 0 && (t214 == 0)))) = true
          · rw [if_pos c24] at H
            have c24b0 : (t211 == 0 && (t212 == 0 && (t213 == 0 && (t214 == 0)))) = true := c24
            (try (have c24b1 : decide (t211 = 0 && (t212 == 0 && (t213 == 0 && (t214 == 0)))) = true := by simpa using c24))
            (try (have c24b2 : (t211 == 0 && (t212 == 0 && (t213 == 0 && (t214 == 0)))) = true := by simpa using c24))
            clear c24
            replace H := Option.bind_eq_some_iff.mp H
            obtain ⟨t218, A250, H⟩ := H
            replace H : (some t218) = some true := H
            have A25 := Aside0.mk A250
            clear A250
            have hr_ := Aside0.mk (Option.some.inj H)
            go_wp2_with (first | ((with_reducible refine gate_callee (f := 9) rfl ?_); refine goesL_ (some 19) rfl rfl Try.func9 (by kernel_rfl) rfl #[.slice A0 l0.length c0, .slice A1 l1.length c1] rfl (by (try simp only [List.map_toArray, List.map_cons, List.map_nil]); first | done | rfl | (simp only [List.length_drop, List.length_take]; rfl)) ?_; (with_reducible refine (gate_Choose.calls kj2 _ _ l0 _ _ l1 t211 t212 t213 t214 false _ ?side1 ?side2 ?side3 ?side4 A9.out).mono ?_); (case side1 => repeat (first | exact (Kd.C_below HR0.out HB.out) | (with_reducible refine Kd.C_alloc ?_ _) | (with_reducible refine Kd.C_drewN ?_ _) | (with_reducible refine Kd.C_drew ?_))); (case side2 => exact HC0.out); (case side3 => repeat (first | exact (Kd.C_below HR1.out HB.out) | (with_reducible refine Kd.C_alloc ?_ _) | (with_reducible refine Kd.C_drewN ?_ _) | (with_reducible refine Kd.C_drew ?_))); (case side4 => exact HC1.out); rintro e w26 ⟨rfl, hb⟩; refine ⟨_, rfl, ?_⟩; have n0_ := Aside0.mk (below_step (by repeat (first | (with_reducible first | exact HB.out | apply below_alloc | apply pw_below_drewN | apply below_drew1) | exact HB.out)) hb); clear HB; have HB := n0_; clear n0_; (try clear hb); (try clear hb2); (try clear hk); (try clear hi)) | ((with_reducible refine gate_dst (N := 5) rfl ?_); (try (refine gate_guard (by rfl) ?_; dsimp only)); refine box_event ?hg (N := 5) ?hd (cs := #[.int .i64 0, .int .i64 0, .int .i64 0, .int .i64 0]) (t := 27) ?hr ?_; (case hd => rfl); (case hg => rfl); (case hr => first | (go_simp; done) | (go_simp; rfl)); intro gb216 hg w27 hbox hb; have n0_ := Aside0.mk (below_step (by repeat (first | (with_reducible first | exact HB.out | apply below_alloc | apply pw_below_drewN | apply below_drew1) | exact HB.out)) hb); have n1_ := Aside0.mk (hbox); have n2_ := Aside0.mk ((by rw [hg]; exact (below_size (by repeat (first | (with_reducible first | exact HB.out | apply below_alloc | apply pw_below_drewN | apply below_drew1) | exact HB.out))) : w.heap.size ≤ gb216)); have n3_ := Aside0.mk ((by rw [hg]; exact (below_size (by repeat (first | (with_reducible first | exact HB.out | apply below_alloc | apply pw_below_drewN | apply below_drew1) | exact HB.out))) : w.heap.size ≤ gb216)); clear HB; have HB := n0_; have BK216 := n1_; have GW216 := n2_; have GE216 := n3_; clear n0_ n1_ n2_ n3_; clear hb hbox hg; have hcz28_0 : w27.cell? ⟨gb216, 0, none⟩ = some (.int .i64 0) := (blk_cell BK216.out 0).trans rfl; have hcz28_1 : w27.cell? ⟨gb216, 1, none⟩ = some (.int .i64 0) := (blk_cell BK216.out 1).trans rfl; have hcz28_2 : w27.cell? ⟨gb216, 2, none⟩ = some (.int .i64 0) := (blk_cell BK216.out 2).trans rfl; have hcz28_3 : w27.cell? ⟨gb216, 3, none⟩ = some (.int .i64 0) := (blk_cell BK216.out 3).trans rfl; have hfz28_0 := blk_frozen BK216.out 0; have hfz28_1 := blk_frozen BK216.out 1; have hfz28_2 := blk_frozen BK216.out 2; have hfz28_3 := blk_frozen BK216.out 3) | (go_at_call 8; (with_reducible refine (switchboardlaw13_awake.calls kj2  t218 _ A25.out).mono ?_); rintro e w29 ⟨rfl, hb⟩; have n0_ := Aside0.mk (blk_below (g := gb216) (o := .cells #[.int .i64 t211, .int .i64 t212, .int .i64 t213, .int .i64 t214] 27 (0, 0)) (by (with_reducible repeat (first | refine blk_drewN ?_ _ | refine blk_drew ?_ | refine blk_alloc ?_ _)); refine blk_put (cs := #[.int .i64 t211, .int .i64 t212, .int .i64 t213, .int .i64 0]) ?_ 3 _ rfl; (with_reducible repeat (first | refine blk_drewN ?_ _ | refine blk_drew ?_ | refine blk_alloc ?_ _)); refine blk_put (cs := #[.int .i64 t211, .int .i64 t212, .int .i64 0, .int .i64 0]) ?_ 2 _ rfl; (with_reducible repeat (first | refine blk_drewN ?_ _ | refine blk_drew ?_ | refine blk_alloc ?_ _)); refine blk_put (cs := #[.int .i64 t211, .int .i64 0, .int .i64 0, .int .i64 0]) ?_ 1 _ rfl; (with_reducible repeat (first | refine blk_drewN ?_ _ | refine blk_drew ?_ | refine blk_alloc ?_ _)); refine blk_put (cs := #[.int .i64 0, .int .i64 0, .int .i64 0, .int .i64 0]) ?_ 0 _ rfl; (with_reducible repeat (first | refine blk_drewN ?_ _ | refine blk_drew ?_ | refine blk_alloc ?_ _)); exact BK216.out) hb); have n1_ := Aside0.mk (below_step (by repeat (first | (with_reducible first | exact HB.out | apply below_alloc | apply pw_below_drewN | apply below_drew1 | refine below_set ?_ GE216.out) | exact HB.out)) hb); clear BK216; clear HB; have BK216 := n0_; have HB := n1_; clear n0_ n1_; (try clear hb); (try clear hb2); (try clear hk); (try clear hi)))
            go_ret
            exact ⟨by first | rfl | exact congrArg (fun b_ => Ending.returned (Value.bool b_)) hr_.out | exact congrArg (fun b_ => Ending.returned (Value.bool b_)) hr_.out | (simp [errW_none, errW_some] <;> rfl) | (simp [*, errW_none, errW_some] <;> rfl), by repeat (first | (with_reducible first | exact HB.out | apply below_alloc | apply pw_below_drewN | apply below_drew1 | refine below_set ?_ GE216.out) | exact HB.out)⟩
          · rw [if_neg c24] at H
            have c24b0 : (t211 == 0 && (t212 == 0 && (t213 == 0 && (t214 == 0)))) = false := by simpa using c24
            (try (have c24b1 : decide (t211 = 0 && (t212 == 0 && (t213 == 0 && (t214 == 0)))) = false := by simpa using c24))
            (try (have c24b2 : (t211 == 0 && (t212 == 0 && (t213 == 0 && (t214 == 0)))) = false := by simpa using c24))
            (try (have c24b3 : ¬ (t211 = 0 && (t212 == 0 && (t213 == 0 && (t214 == 0)))) := by simpa using c24))
            clear c24
            exact absurd H (by simp)

/-! ### switchboardlaw13_GateTurn: function 5 -/
mutual
def switchboardlaw13_GateTurn.j0 : Nat → List (List Int) → List Int → Bool → Option (Bool)
  | 0, _, _, _ => none
  | k + 1, x0, x1, x19 => if x19 = true then ((switchboardlaw13_awake.f k).bind fun t220 => (some t220)) else ((gate_Choose.f k x0 x1).bind fun bt221 => (switchboardlaw13_GateTurn.l0 k x1 bt221.2.2.2.2 ([] : List (List Int)) x0 (x0.length : Int) 0 bt221.1 bt221.2.1 bt221.2.2.1 bt221.2.2.2.1))
def switchboardlaw13_GateTurn.l0 : Nat → List Int → Bool → List (List Int) → List (List Int) → Int → Int → Int → Int → Int → Int → Option (Bool)
  | 0, _, _, _, _, _, _, _, _, _, _ => none
  | k + 1, x1, x6, x7, x27, x28, x29, x227000, x227001, x227002, x227003 => if x29 < x28 then (if 0 ≤ x29 then (if x29 < (x27.length : Int) then (if ((rd_L1 x27 x29).length : Int) > 15 then ((switchboardlaw13_awake.f k).bind fun t228 => (some t228)) else ((some (([] : List Int) : List Int)).bind fun y229 => (if y229.length + (rd_L1 x27 x29).length < 17592186044416 then ((some (y229 ++ (rd_L1 x27 x29) : List Int)).bind fun y232 => (if 0 ≤ (x1.length : Int) then (if y232.length + ((x1.length : Int) : Int).toNat < 17592186044416 then (if x7.length < 5864062014805 then (switchboardlaw13_GateTurn.l0 k x1 x6 (x7 ++ [(y232 ++ List.replicate ((x1.length : Int) : Int).toNat 0)]) x27 x28 (wrap64 (x29 + 1)) x227000 x227001 x227002 x227003) else (none)) else (none)) else (none))) else (none)))) else (none)) else (none)) else ((some (([] : List Int) : List Int)).bind fun y241 => (if y241.length + x1.length < 17592186044416 then ((some (y241 ++ x1 : List Int)).bind fun y244 => (if y244.length + x1.length < 17592186044416 then ((gate_Choose.f k x7 (y244 ++ x1)).bind fun bt250 => (if (x227000 == bt250.1 && (x227001 == bt250.2.1 && (x227002 == bt250.2.2.1 && (x227003 == bt250.2.2.2.1)))) = true then (if (x6 == bt250.2.2.2.2) = true then ((switchboardlaw13_awake.f k).bind fun t256 => (some t256)) else (some false)) else (some false))) else (none))) else (none)))
end
def switchboardlaw13_GateTurn.f (k : Nat) (l0 : List (List Int)) (l1 : List Int) : Option (Bool) := (switchboardref03_Small.f k l0).bind fun t219 => (if t219 = true then (switchboardlaw13_GateTurn.j0 k l0 l1 (decide ((l1.length : Int) > 15))) else (switchboardlaw13_GateTurn.j0 k l0 l1 true))
theorem switchboardlaw13_GateTurn.mono_l : ∀ k, (∀ y0 y1 y2, LeO (switchboardlaw13_GateTurn.j0 k y0 y1 y2) (switchboardlaw13_GateTurn.j0 (k + 1) y0 y1 y2)) ∧ (∀ y0 y1 y2 y3 y4 y5 y6 y7 y8 y9, LeO (switchboardlaw13_GateTurn.l0 k y0 y1 y2 y3 y4 y5 y6 y7 y8 y9) (switchboardlaw13_GateTurn.l0 (k + 1) y0 y1 y2 y3 y4 y5 y6 y7 y8 y9))
  | 0 => ⟨fun _ _ _ r h => by simp [switchboardlaw13_GateTurn.j0] at h, fun _ _ _ _ _ _ _ _ _ _ r h => by simp [switchboardlaw13_GateTurn.l0] at h⟩
  | k + 1 => by
    obtain ⟨ih0, ih1⟩ := switchboardlaw13_GateTurn.mono_l k
    refine ⟨?_, ?_⟩
    · intro y0 y1 y2
      unfold switchboardlaw13_GateTurn.j0
      repeat' first
      | (with_reducible exact ih0 _ _ _)
      | (with_reducible exact ih1 _ _ _ _ _ _ _ _ _ _)
      | (with_reducible exact gate_Choose.mono _ _ _)
      | (with_reducible exact switchboardlaw13_awake.mono _)
      | (with_reducible exact switchboardref03_Small.mono _ _)
      | (with_reducible exact LeO.refl _)
      | (with_reducible exact LeO.none _)
      | (with_reducible refine LeO.ite ?_ ?_)
      | (with_reducible refine LeO.bind ?_ (fun _ => ?_))
      | exact ih0 _ _ _
      | exact ih1 _ _ _ _ _ _ _ _ _ _
      | exact gate_Choose.mono _ _ _
      | exact switchboardlaw13_awake.mono _
      | exact switchboardref03_Small.mono _ _
      | exact LeO.none _
      | refine LeO.ite ?_ ?_
      | refine LeO.bind ?_ (fun _ => ?_)
    · intro y0 y1 y2 y3 y4 y5 y6 y7 y8 y9
      unfold switchboardlaw13_GateTurn.l0
      repeat' first
      | (with_reducible exact ih0 _ _ _)
      | (with_reducible exact ih1 _ _ _ _ _ _ _ _ _ _)
      | (with_reducible exact gate_Choose.mono _ _ _)
      | (with_reducible exact switchboardlaw13_awake.mono _)
      | (with_reducible exact switchboardref03_Small.mono _ _)
      | (with_reducible exact LeO.refl _)
      | (with_reducible exact LeO.none _)
      | (with_reducible refine LeO.ite ?_ ?_)
      | (with_reducible refine LeO.bind ?_ (fun _ => ?_))
      | exact ih0 _ _ _
      | exact ih1 _ _ _ _ _ _ _ _ _ _
      | exact gate_Choose.mono _ _ _
      | exact switchboardlaw13_awake.mono _
      | exact switchboardref03_Small.mono _ _
      | exact LeO.none _
      | refine LeO.ite ?_ ?_
      | refine LeO.bind ?_ (fun _ => ?_)
theorem switchboardlaw13_GateTurn.mono : ∀ a0 a1 k, LeO (switchboardlaw13_GateTurn.f k a0 a1) (switchboardlaw13_GateTurn.f (k + 1) a0 a1) := by
  intro a0 a1 k
  obtain ⟨ih0, ih1⟩ := switchboardlaw13_GateTurn.mono_l k
  unfold switchboardlaw13_GateTurn.f
  repeat' first
      | (with_reducible exact ih0 _ _ _)
      | (with_reducible exact ih1 _ _ _ _ _ _ _ _ _ _)
      | (with_reducible exact gate_Choose.mono _ _ _)
      | (with_reducible exact switchboardlaw13_awake.mono _)
      | (with_reducible exact switchboardref03_Small.mono _ _)
      | (with_reducible exact LeO.refl _)
      | (with_reducible exact LeO.none _)
      | (with_reducible refine LeO.ite ?_ ?_)
      | (with_reducible refine LeO.bind ?_ (fun _ => ?_))
      | exact ih0 _ _ _
      | exact ih1 _ _ _ _ _ _ _ _ _ _
      | exact gate_Choose.mono _ _ _
      | exact switchboardlaw13_awake.mono _
      | exact switchboardref03_Small.mono _ _
      | exact LeO.none _
      | refine LeO.ite ?_ ?_
      | refine LeO.bind ?_ (fun _ => ?_)
set_option maxHeartbeats 8000000 in
set_option maxRecDepth 100000 in
theorem switchboardlaw13_GateTurn.calls (k : Nat) (A0 : Option Addr) (c0 : Nat) (l0 : List (List Int)) (A1 : Option Addr) (c1 : Nat) (l1 : List Int) (w : World) (hr0 : Kd.C (Kd.slice 3 (Kd.int .i64)) w A0 l0.length l0) (hc0 : l0.length ≤ c0) (hr1 : Kd.C (Kd.int .i64) w A1 l1.length l1) (hc1 : l1.length ≤ c1) (h : switchboardlaw13_GateTurn.f k l0 l1 = some true) :
    Calls Try.prog 5 #[.slice A0 l0.length c0, .slice A1 l1.length c1] w fun e w' => e = .returned (.bool true) ∧ Below w.heap.size w w' := by
  have hu27 := Try.underlying27
  have HR0 := Aside0.mk hr0
  have HC0 := Aside0.mk hc0
  clear hr0 hc0
  have HR1 := Aside0.mk hr1
  have HC1 := Aside0.mk hc1
  clear hr1 hc1
  have HB := Aside0.mk (Below.refl w.heap.size w)
  have H : ((switchboardref03_Small.f k l0).bind fun t219 => (if t219 = true then (switchboardlaw13_GateTurn.j0 k l0 l1 (decide ((l1.length : Int) > 15))) else (switchboardlaw13_GateTurn.j0 k l0 l1 true))) = some true := h
  clear h
  have HC3 := Aside0.mk H
  clear H
  go_enter Try.func5, Try.ntmps5
  go_upto_region 1 with (fail)
  go_cut [19] (fun v19 wc => ∃ (kq : Nat) (x19_2 : Bool), v19 = .bool x19_2 ∧ Aside0 (switchboardlaw13_GateTurn.j0 kq l0 l1 x19_2 = some true) ∧ Aside0 (kq ≤ k) ∧ Aside0 (Below w.heap.size w wc))
  case first =>
    have H := HC3.out
    clear HC3
    replace H := Option.bind_eq_some_iff.mp H
    obtain ⟨t219, A40, H⟩ := H
    replace H : (if t219 = true then (switchboardlaw13_GateTurn.j0 k l0 l1 (decide ((l1.length : Int) > 15))) else (switchboardlaw13_GateTurn.j0 k l0 l1 true)) = some true := H
    have A4 := Aside0.mk A40
    clear A40
    by_cases c5 : t219 = true
    · subst c5
      have H1 : (switchboardlaw13_GateTurn.j0 k l0 l1 (decide ((l1.length : Int) > 15))) = some true := by rw [if_pos rfl] at H; exact H
      clear H
      have H := H1
      clear H1
      have H' := Aside0.mk H
      clear H
      go_wp2_with (first | ((with_reducible refine gate_callee (f := 7) rfl ?_); refine goesL_ (some 13) rfl rfl Try.func7 (by kernel_rfl) rfl #[.slice A0 l0.length c0] rfl (by (try simp only [List.map_toArray, List.map_cons, List.map_nil]); first | done | rfl | (simp only [List.length_drop, List.length_take]; rfl)) ?_; (with_reducible refine (switchboardref03_Small.calls k _ _ l0 true _ ?side1 ?side2 A4.out).mono ?_); (case side1 => repeat (first | exact (Kd.C_below HR0.out HB.out) | (with_reducible refine Kd.C_alloc ?_ _) | (with_reducible refine Kd.C_drewN ?_ _) | (with_reducible refine Kd.C_drew ?_))); (case side2 => exact HC0.out); rintro e w' ⟨rfl, ⟨nd, rfl⟩⟩; refine ⟨_, rfl, ?_⟩))
      go_meet
      case rel => exact ⟨_, (decide ((l1.length : Int) > 15)), (by first | rfl | (simp; done) | (simp [*]; done)), H', ⟨by first | omega | exact Nat.le_refl _⟩, ⟨by repeat (first | (with_reducible first | exact HB.out | apply below_alloc | apply pw_below_drewN | apply below_drew1) | exact HB.out)⟩⟩
    · replace c5 := Bool.eq_false_iff.mpr c5
      subst c5
      have H1 : (switchboardlaw13_GateTurn.j0 k l0 l1 true) = some true := by rw [if_neg (show ¬ (false = true) by decide)] at H; exact H
      clear H
      have H := H1
      clear H1
      have H' := Aside0.mk H
      clear H
      go_wp2_with (first | ((with_reducible refine gate_callee (f := 7) rfl ?_); refine goesL_ (some 13) rfl rfl Try.func7 (by kernel_rfl) rfl #[.slice A0 l0.length c0] rfl (by (try simp only [List.map_toArray, List.map_cons, List.map_nil]); first | done | rfl | (simp only [List.length_drop, List.length_take]; rfl)) ?_; (with_reducible refine (switchboardref03_Small.calls k _ _ l0 false _ ?side1 ?side2 A4.out).mono ?_); (case side1 => repeat (first | exact (Kd.C_below HR0.out HB.out) | (with_reducible refine Kd.C_alloc ?_ _) | (with_reducible refine Kd.C_drewN ?_ _) | (with_reducible refine Kd.C_drew ?_))); (case side2 => exact HC0.out); rintro e w' ⟨rfl, ⟨nd, rfl⟩⟩; refine ⟨_, rfl, ?_⟩))
      go_meet
      case rel => exact ⟨_, (true), (by first | rfl | (simp; done) | (simp [*]; done)), H', ⟨by first | omega | exact Nat.le_refl _⟩, ⟨by repeat (first | (with_reducible first | exact HB.out | apply below_alloc | apply pw_below_drewN | apply below_drew1) | exact HB.out)⟩⟩
  case rest =>
    clear HC3
    try clear c1
    try clear p2
    try clear c5
    obtain ⟨kq, x19_2, rfl, HA, HJ2, HB⟩ := hcut
    cases kq with
    | zero => exact absurd HA.out (by simp [switchboardlaw13_GateTurn.j0])
    | succ kj2 =>
      have H := HA.out
      clear HA
      simp only [switchboardlaw13_GateTurn.j0] at H
      by_cases c6 : x19_2 = true
      · subst c6
        have H1 : ((switchboardlaw13_awake.f kj2).bind fun t220 => (some t220)) = some true := by rw [if_pos rfl] at H; exact H
        clear H
        have H := H1
        clear H1
        replace H := Option.bind_eq_some_iff.mp H
        obtain ⟨t220, A70, H⟩ := H
        replace H : (some t220) = some true := H
        have A7 := Aside0.mk A70
        clear A70
        have hr_ := Aside0.mk (Option.some.inj H)
        go_wp2_with (first | ((with_reducible refine gate_callee (f := 8) rfl ?_); refine goesL_ (some 20) rfl rfl Try.func8 (by kernel_rfl) rfl #[] rfl (by (try simp only [List.map_toArray, List.map_cons, List.map_nil]); first | done | rfl | (simp only [List.length_drop, List.length_take]; rfl)) ?_; (with_reducible refine (switchboardlaw13_awake.calls kj2  t220 _ A7.out).mono ?_); rintro e w8 ⟨rfl, hb⟩; refine ⟨_, rfl, ?_⟩; have n0_ := Aside0.mk (below_step (by repeat (first | (with_reducible first | exact HB.out | apply below_alloc | apply pw_below_drewN | apply below_drew1) | exact HB.out)) hb); clear HB; have HB := n0_; clear n0_; (try clear hb); (try clear hb2); (try clear hk); (try clear hi)))
        go_ret
        exact ⟨by first | rfl | exact congrArg (fun b_ => Ending.returned (Value.bool b_)) hr_.out | exact congrArg (fun b_ => Ending.returned (Value.bool b_)) hr_.out | (simp [errW_none, errW_some] <;> rfl) | (simp [*, errW_none, errW_some] <;> rfl), by repeat (first | (with_reducible first | exact HB.out | apply below_alloc | apply pw_below_drewN | apply below_drew1) | exact HB.out)⟩
      · replace c6 := Bool.eq_false_iff.mpr c6
        subst c6
        have H1 : ((gate_Choose.f kj2 l0 l1).bind fun bt221 => (switchboardlaw13_GateTurn.l0 kj2 l1 bt221.2.2.2.2 ([] : List (List Int)) l0 (l0.length : Int) 0 bt221.1 bt221.2.1 bt221.2.2.1 bt221.2.2.2.1)) = some true := by rw [if_neg (show ¬ (false = true) by decide)] at H; exact H
        clear H
        have H := H1
        clear H1
        replace H := Option.bind_eq_some_iff.mp H
        obtain ⟨⟨t221, t222, t223, t224, t225⟩, A90, H⟩ := H
        replace H : (switchboardlaw13_GateTurn.l0 kj2 l1 t225 ([] : List (List Int)) l0 (l0.length : Int) 0 t221 t222 t223 t224) = some true := H
        have A9 := Aside0.mk A90
        clear A90
        have H' := Aside0.mk H
        clear H
        go_wp2_with (first | ((with_reducible refine gate_callee (f := 9) rfl ?_); refine goesL_ (some 24) rfl rfl Try.func9 (by kernel_rfl) rfl #[.slice A0 l0.length c0, .slice A1 l1.length c1] rfl (by (try simp only [List.map_toArray, List.map_cons, List.map_nil]); first | done | rfl | (simp only [List.length_drop, List.length_take]; rfl)) ?_; (with_reducible refine (gate_Choose.calls kj2 _ _ l0 _ _ l1 t221 t222 t223 t224 t225 _ ?side1 ?side2 ?side3 ?side4 A9.out).mono ?_); (case side1 => repeat (first | exact (Kd.C_below HR0.out HB.out) | (with_reducible refine Kd.C_alloc ?_ _) | (with_reducible refine Kd.C_drewN ?_ _) | (with_reducible refine Kd.C_drew ?_))); (case side2 => exact HC0.out); (case side3 => repeat (first | exact (Kd.C_below HR1.out HB.out) | (with_reducible refine Kd.C_alloc ?_ _) | (with_reducible refine Kd.C_drewN ?_ _) | (with_reducible refine Kd.C_drew ?_))); (case side4 => exact HC1.out); rintro e w10 ⟨rfl, hb⟩; refine ⟨_, rfl, ?_⟩; have n0_ := Aside0.mk (below_step (by repeat (first | (with_reducible first | exact HB.out | apply below_alloc | apply pw_below_drewN | apply below_drew1) | exact HB.out)) hb); clear HB; have HB := n0_; clear n0_; (try clear hb); (try clear hb2); (try clear hk); (try clear hi)) | ((with_reducible refine gate_dst (N := 5) rfl ?_); (try (refine gate_guard (by rfl) ?_; dsimp only)); refine box_event ?hg (N := 5) ?hd (cs := #[.int .i64 0, .int .i64 0, .int .i64 0, .int .i64 0]) (t := 27) ?hr ?_; (case hd => rfl); (case hg => rfl); (case hr => first | (go_simp; done) | (go_simp; rfl)); intro gb226 hg w11 hbox hb; have n0_ := Aside0.mk (below_step (by repeat (first | (with_reducible first | exact HB.out | apply below_alloc | apply pw_below_drewN | apply below_drew1) | exact HB.out)) hb); have n1_ := Aside0.mk (hbox); have n2_ := Aside0.mk ((by rw [hg]; exact (below_size (by repeat (first | (with_reducible first | exact HB.out | apply below_alloc | apply pw_below_drewN | apply below_drew1) | exact HB.out))) : w.heap.size ≤ gb226)); have n3_ := Aside0.mk ((by rw [hg]; exact (below_size (by repeat (first | (with_reducible first | exact HB.out | apply below_alloc | apply pw_below_drewN | apply below_drew1) | exact HB.out))) : w.heap.size ≤ gb226)); clear HB; have HB := n0_; have BK226 := n1_; have GW226 := n2_; have GE226 := n3_; clear n0_ n1_ n2_ n3_; clear hb hbox hg; have hcz12_0 : w11.cell? ⟨gb226, 0, none⟩ = some (.int .i64 0) := (blk_cell BK226.out 0).trans rfl; have hcz12_1 : w11.cell? ⟨gb226, 1, none⟩ = some (.int .i64 0) := (blk_cell BK226.out 1).trans rfl; have hcz12_2 : w11.cell? ⟨gb226, 2, none⟩ = some (.int .i64 0) := (blk_cell BK226.out 2).trans rfl; have hcz12_3 : w11.cell? ⟨gb226, 3, none⟩ = some (.int .i64 0) := (blk_cell BK226.out 3).trans rfl; have hfz12_0 := blk_frozen BK226.out 0; have hfz12_1 := blk_frozen BK226.out 1; have hfz12_2 := blk_frozen BK226.out 2; have hfz12_3 := blk_frozen BK226.out 3))
        go_loopg [7, 29] kj2 (fun kq v7 v29 w' => ∃ (x7_2 : List (List Int)) (x29_2 : Int), v29 = .int .i64 x29_2 ∧ Aside0 (switchboardlaw13_GateTurn.l0 kq l1 t225 x7_2 l0 (l0.length : Int) x29_2 t221 t222 t223 t224 = some true) ∧ Aside0 (kq ≤ kj2) ∧ Aside0 (Kd.S (Kd.slice 3 (Kd.int .i64)) 23 w' w.heap.size (fun _ => True) v7 x7_2) ∧ Aside0 (w'.heap[gb226]? = some (.cells #[.int .i64 t221, .int .i64 t222, .int .i64 t223, .int .i64 t224] 27 (0, 0))) ∧ Aside0 (Below w.heap.size w w'))
        case atStart => exact ⟨(([] : List (List Int))), (0), (by first | rfl | (simp; done) | (simp [*]; done)), H', ⟨Nat.le_refl _⟩, ⟨by first | exact Kd.S_nil _ _ _ _ _ | exact Kd.N_nil _ _ _ _ _ | exact Kd.V_nil _ _ _ _ _ | exact Kd.Q_nil _ _ _ _ _ | exact Kd.R_nil _ _ _ _ _⟩, ⟨by (with_reducible repeat (first | refine blk_drewN ?_ _ | refine blk_drew ?_ | refine blk_alloc ?_ _)); refine blk_put (cs := #[.int .i64 t221, .int .i64 t222, .int .i64 t223, .int .i64 0]) ?_ 3 _ rfl; (with_reducible repeat (first | refine blk_drewN ?_ _ | refine blk_drew ?_ | refine blk_alloc ?_ _)); refine blk_put (cs := #[.int .i64 t221, .int .i64 t222, .int .i64 0, .int .i64 0]) ?_ 2 _ rfl; (with_reducible repeat (first | refine blk_drewN ?_ _ | refine blk_drew ?_ | refine blk_alloc ?_ _)); refine blk_put (cs := #[.int .i64 t221, .int .i64 0, .int .i64 0, .int .i64 0]) ?_ 1 _ rfl; (with_reducible repeat (first | refine blk_drewN ?_ _ | refine blk_drew ?_ | refine blk_alloc ?_ _)); refine blk_put (cs := #[.int .i64 0, .int .i64 0, .int .i64 0, .int .i64 0]) ?_ 0 _ rfl; (with_reducible repeat (first | refine blk_drewN ?_ _ | refine blk_drew ?_ | refine blk_alloc ?_ _)); exact BK226.out⟩, ⟨by repeat (first | (with_reducible first | exact HB.out | apply below_alloc | apply pw_below_drewN | apply below_drew1 | refine below_set ?_ GE226.out) | exact HB.out)⟩⟩
        case round =>
          clear H'
          try clear c1
          try clear p2
          try clear c5
          try clear c6
          try clear c7
          try clear c8
          try clear c9
          try clear hcz12_0
          try clear hcz12_1
          try clear hcz12_2
          try clear hcz12_3
          try clear hfz12_0
          try clear hfz12_1
          try clear hfz12_2
          try clear hfz12_3
          try clear p2
          obtain ⟨x7_2, x29_2, rfl, HA, HK2, HO_7, BK226, HB⟩ := hrel
          cases gk with
          | zero => exact absurd HA.out (by simp [switchboardlaw13_GateTurn.l0])
          | succ k2 =>
            have H := HA.out
            clear HA
            simp only [switchboardlaw13_GateTurn.l0] at H
            by_cases c13 : x29_2 < (l0.length : Int)
            · rw [if_pos c13] at H
              have c13b0 : decide (x29_2 < (l0.length : Int)) = true := decide_eq_true c13
              clear c13
              by_cases c14 : 0 ≤ x29_2
              · rw [if_pos c14] at H
                have c14b0 : decide (0 ≤ x29_2) = true := decide_eq_true c14
                clear c14
                by_cases c15 : x29_2 < (l0.length : Int)
                · rw [if_pos c15] at H
                  have c15b0 : decide (x29_2 < (l0.length : Int)) = true := decide_eq_true c15
                  clear c15
                  by_cases c16 : ((rd_L1 l0 x29_2).length : Int) > 15
                  · rw [if_pos c16] at H
                    have c16b0 : decide (15 < ((rd_L1 l0 x29_2).length : Int)) = true := decide_eq_true c16
                    have c16b1 : decide (15 < (rd_L1 l0 x29_2).length) = true := decide_eq_true (by omega)
                    clear c16
                    replace H := Option.bind_eq_some_iff.mp H
                    obtain ⟨t228, A170, H⟩ := H
                    replace H : (some t228) = some true := H
                    have A17 := Aside0.mk A170
                    clear A170
                    have hr_ := Aside0.mk (Option.some.inj H)
                    have p227 : 0 ≤ (x29_2 : Int) := of_decide_eq_true (by first | (with_reducible assumption) | assumption)
                    have q227 : x29_2 < (l0.length : Int) := of_decide_eq_true (by first | (with_reducible assumption) | assumption)
                    obtain ⟨ad227, A227_0, c227_0, e227, hx227_0, hl227_0, hi227_0⟩ := at_L1 HR0.out x29_2 p227 q227
                    cases e227
                    replace hx227_0 := (HB.out.cell (World.block_lt_of_cell? w _ hx227_0)).trans hx227_0
                    have HR227_0 := Aside0.mk hi227_0
                    have HC227_0 := Aside0.mk hl227_0
                    clear hi227_0 hl227_0
                    replace p227 := eq_true p227
                    replace q227 := eq_true q227
                    go_wp2_with (first | ((with_reducible refine gate_callee (f := 8) rfl ?_); refine goesL_ (some 36) rfl rfl Try.func8 (by kernel_rfl) rfl #[] rfl (by (try simp only [List.map_toArray, List.map_cons, List.map_nil]); first | done | rfl | (simp only [List.length_drop, List.length_take]; rfl)) ?_; (with_reducible refine (switchboardlaw13_awake.calls k2  t228 _ A17.out).mono ?_); rintro e w18 ⟨rfl, hb⟩; refine ⟨_, rfl, ?_⟩; have n0_ := Aside0.mk (Kd.S_below (by (with_reducible repeat (first | apply Kd.S_alloc | apply Kd.S_drewN | apply Kd.S_drew)); exact HO_7.out) hb); have n1_ := Aside0.mk (blk_below (g := gb226) (o := .cells #[.int .i64 t221, .int .i64 t222, .int .i64 t223, .int .i64 t224] 27 (0, 0)) (by (with_reducible repeat (first | refine blk_drewN ?_ _ | refine blk_drew ?_ | refine blk_alloc ?_ _)); exact BK226.out) hb); have n2_ := Aside0.mk (below_step (by repeat (first | (with_reducible first | exact HB.out | apply below_alloc | apply pw_below_drewN | apply below_drew1 | refine below_set ?_ GE226.out) | exact HB.out)) hb); clear HO_7; clear BK226; clear HB; have HO_7 := n0_; have BK226 := n1_; have HB := n2_; clear n0_ n1_ n2_; (try clear hb); (try clear hb2); (try clear hk); (try clear hi)))
                    go_ret
                    exact ⟨by first | rfl | exact congrArg (fun b_ => Ending.returned (Value.bool b_)) hr_.out | exact congrArg (fun b_ => Ending.returned (Value.bool b_)) hr_.out | (simp [errW_none, errW_some] <;> rfl) | (simp [*, errW_none, errW_some] <;> rfl), by repeat (first | (with_reducible first | exact HB.out | apply below_alloc | apply pw_below_drewN | apply below_drew1 | refine below_set ?_ GE226.out) | exact HB.out)⟩
                  · rw [if_neg c16] at H
                    have c16b0 : decide (15 < ((rd_L1 l0 x29_2).length : Int)) = false := decide_eq_false c16
                    have c16b1 : decide (15 < (rd_L1 l0 x29_2).length) = false := decide_eq_false (by omega)
                    clear c16
                    obtain ⟨y229, hy229⟩ : ∃ y_ : List Int, y_ = (([] : List Int)) := ⟨_, rfl⟩
                    replace H : (if y229.length + (rd_L1 l0 x29_2).length < 17592186044416 then ((some (y229 ++ (rd_L1 l0 x29_2) : List Int)).bind fun y232 => (if 0 ≤ (l1.length : Int) then (if y232.length + ((l1.length : Int) : Int).toNat < 17592186044416 then (if x7_2.length < 5864062014805 then (switchboardlaw13_GateTurn.l0 k2 l1 t225 (x7_2 ++ [(y232 ++ List.replicate ((l1.length : Int) : Int).toNat 0)]) l0 (l0.length : Int) (wrap64 (x29_2 + 1)) t221 t222 t223 t224) else (none)) else (none)) else (none))) else (none)) = some true := by first | (rw [hy229]; with_reducible exact H) | (have H2_ := (Option.bind_some _ _).symm.trans H; rw [hy229]; with_reducible exact H2_) | (have H2_ := (Option.bind_some _ _).symm.trans H; with_reducible exact H2_) | with_reducible exact H | (rw [hy229]; exact H) | exact H
                    have Ny229 := Aside0.mk hy229
                    clear hy229
                    by_cases c19 : y229.length + (rd_L1 l0 x29_2).length < 17592186044416
                    · rw [if_pos c19] at H
                      have LMc19 := Aside0.mk c19
                      clear c19
                      obtain ⟨y232, hy232⟩ : ∃ y_ : List Int, y_ = (y229 ++ (rd_L1 l0 x29_2)) := ⟨_, rfl⟩
                      replace H : (if 0 ≤ (l1.length : Int) then (if y232.length + ((l1.length : Int) : Int).toNat < 17592186044416 then (if x7_2.length < 5864062014805 then (switchboardlaw13_GateTurn.l0 k2 l1 t225 (x7_2 ++ [(y232 ++ List.replicate ((l1.length : Int) : Int).toNat 0)]) l0 (l0.length : Int) (wrap64 (x29_2 + 1)) t221 t222 t223 t224) else (none)) else (none)) else (none)) = some true := by first | (rw [hy232]; with_reducible exact H) | (have H2_ := (Option.bind_some _ _).symm.trans H; rw [hy232]; with_reducible exact H2_) | (have H2_ := (Option.bind_some _ _).symm.trans H; with_reducible exact H2_) | with_reducible exact H | (rw [hy232]; exact H) | exact H
                      have Ny232 := Aside0.mk hy232
                      clear hy232
                      by_cases c20 : 0 ≤ (l1.length : Int)
                      · rw [if_pos c20] at H
                        have c20b0 := eq_true c20
                        have c20b1 : decide (0 ≤ (l1.length : Int)) = true := decide_eq_true c20
                        clear c20
                        by_cases c21 : y232.length + ((l1.length : Int) : Int).toNat < 17592186044416
                        · rw [if_pos c21] at H
                          have LMc21 := Aside0.mk c21
                          clear c21
                          obtain ⟨y235, hy235⟩ : ∃ y_ : List Int, y_ = (y232 ++ List.replicate ((l1.length : Int) : Int).toNat 0) := ⟨_, rfl⟩
                          replace H : (if x7_2.length < 5864062014805 then (switchboardlaw13_GateTurn.l0 k2 l1 t225 (x7_2 ++ [y235]) l0 (l0.length : Int) (wrap64 (x29_2 + 1)) t221 t222 t223 t224) else (none)) = some true := by first | (rw [hy235]; with_reducible exact H) | (have H2_ := (Option.bind_some _ _).symm.trans H; rw [hy235]; with_reducible exact H2_) | (have H2_ := (Option.bind_some _ _).symm.trans H; with_reducible exact H2_) | with_reducible exact H | (rw [hy235]; exact H) | exact H
                          have Ny235 := Aside0.mk hy235
                          clear hy235
                          by_cases c22 : x7_2.length < 5864062014805
                          · rw [if_pos c22] at H
                            have LMc22 := Aside0.mk c22
                            clear c22
                            obtain ⟨y238, hy238⟩ : ∃ y_ : List (List Int), y_ = (x7_2 ++ [y235]) := ⟨_, rfl⟩
                            replace H : (switchboardlaw13_GateTurn.l0 k2 l1 t225 y238 l0 (l0.length : Int) (wrap64 (x29_2 + 1)) t221 t222 t223 t224) = some true := by first | (rw [hy238]; with_reducible exact H) | (have H2_ := (Option.bind_some _ _).symm.trans H; rw [hy238]; with_reducible exact H2_) | (have H2_ := (Option.bind_some _ _).symm.trans H; with_reducible exact H2_) | with_reducible exact H | (rw [hy238]; exact H) | exact H
                            have Ny238 := Aside0.mk hy238
                            clear hy238
                            have H' := Aside0.mk H
                            clear H
                            have p227 : 0 ≤ (x29_2 : Int) := of_decide_eq_true (by first | (with_reducible assumption) | assumption)
                            have q227 : x29_2 < (l0.length : Int) := of_decide_eq_true (by first | (with_reducible assumption) | assumption)
                            obtain ⟨ad227, A227_0, c227_0, e227, hx227_0, hl227_0, hi227_0⟩ := at_L1 HR0.out x29_2 p227 q227
                            cases e227
                            replace hx227_0 := (HB.out.cell (World.block_lt_of_cell? w _ hx227_0)).trans hx227_0
                            have HR227_0 := Aside0.mk hi227_0
                            have HC227_0 := Aside0.mk hl227_0
                            clear hi227_0 hl227_0
                            replace p227 := eq_true p227
                            replace q227 := eq_true q227
                            go_wp2_with (first | ((with_reducible refine gate_dst (N := 38) rfl ?_); (try (refine gate_guard (by rfl) ?_; dsimp only)); refine Kd.R_lit (Kd.int .i64) _ 3 ?hg (N := 38) ?hd (xs := ([] : List Int)) (inner := []) (ok := fun _ => True) (okp := fun _ => True) ?hr ?hp (fun _ hk => hk) trivial (Below.refl _ _) (Nat.le_refl _) (by simp) ?_; (case hd => rfl); (case hg => rfl); (case hr => first | (go_simp; done) | (go_simp; rfl)); (case hp => exact (Reps.none _ _)); intro v230 w23 ho24 hb hg_ hnew_; clear hg_ hnew_; (first | rw [← Ny229.out] at ho24 | (simp only [Int.reduceToNat] at ho24; rw [← Ny229.out] at ho24)); have n0_ := Aside0.mk (Kd.S_elder' (by (with_reducible repeat (first | apply Kd.S_alloc | apply Kd.S_drewN | apply Kd.S_drew)); exact HO_7.out) (Kd.R_base ho24) hb); have n1_ := Aside0.mk (Kd.R_lower ho24 (below_size (by repeat (first | (with_reducible first | exact HB.out | apply below_alloc | apply pw_below_drewN | apply below_drew1 | refine below_set ?_ GE226.out) | exact HB.out)))); have n2_ := Aside0.mk (blk_below (g := gb226) (o := .cells #[.int .i64 t221, .int .i64 t222, .int .i64 t223, .int .i64 t224] 27 (0, 0)) (by (with_reducible repeat (first | refine blk_drewN ?_ _ | refine blk_drew ?_ | refine blk_alloc ?_ _)); exact BK226.out) hb); have n3_ := Aside0.mk (below_step (by repeat (first | (with_reducible first | exact HB.out | apply below_alloc | apply pw_below_drewN | apply below_drew1 | refine below_set ?_ GE226.out) | exact HB.out)) hb); clear HO_7; clear BK226; clear HB; have HO_7 := n0_; have HO231 := n1_; have BK226 := n2_; have HB := n3_; clear n0_ n1_ n2_ n3_; clear hb ho24) | ((with_reducible refine gate_builtin (b := .append) (xs := #[.tmp 38, .tmp 39]) rfl ?_); (try (refine gate_guard (by rfl) ?_; dsimp only)); at_builtin; refine Kd.R_append_rows (Kd.int .i64) (w0 := w) w.heap.size rfl (.tmp 38) (.tmp 39) 23 3 (.int .i64 0) 8 rfl Try.underlying23 info3 rfl (by decide) (by omega) v230 y229 (rd_L1 l0 x29_2) _ _ _ (fun _ => True) (fun _ => False) rfl rfl ?aO ?aR (fun _ _ h => h) (fun _ h => h.elim) ?aF ?aB ?aS ?aL ?_; (case aR => repeat (first | exact (Kd.C_below HR227_0.out HB.out) | (with_reducible refine Kd.C_alloc ?_ _) | (with_reducible refine Kd.C_drewN ?_ _) | (with_reducible refine Kd.C_drew ?_))); (case aB => exact (by repeat (first | (with_reducible first | exact HB.out | apply below_alloc | apply pw_below_drewN | apply below_drew1 | refine below_set ?_ GE226.out) | exact HB.out))); (case aF => exact (fun _ _ => trivial)); (case aO => exact (by (with_reducible repeat (first | apply Kd.R_alloc | apply Kd.R_drewN | apply Kd.R_drew)); exact HO231.out)); (case aS => exact (below_size (by repeat (first | (with_reducible first | exact HB.out | apply below_alloc | apply pw_below_drewN | apply below_drew1 | refine below_set ?_ GE226.out) | exact HB.out)))); (case aL => have := LMc19.out; omega); intro v233 w25 ho hb hg hat; rw [← Ny232.out] at ho; have n0_ := Aside0.mk (Kd.S_after (ok := (fun _ => True)) (by (with_reducible repeat (first | apply Kd.S_alloc | apply Kd.S_drewN | apply Kd.S_drew)); exact HO_7.out) hg hat); have n1_ := Aside0.mk (blk_grown (g := gb226) (o := .cells #[.int .i64 t221, .int .i64 t222, .int .i64 t223, .int .i64 t224] 27 (0, 0)) (by (with_reducible repeat (first | refine blk_drewN ?_ _ | refine blk_drew ?_ | refine blk_alloc ?_ _)); exact BK226.out) hg (Kd.R_ne HO231.out BK226.out (by decide))); have n2_ := Aside0.mk (hb); have n3_ := Aside0.mk (ho); clear HO_7; clear BK226; clear HB; clear HO231; have HO_7 := n0_; have BK226 := n1_; have HB := n2_; have HO234 := n3_; clear n0_ n1_ n2_ n3_; clear ho hb hg hat) | (at_builtin; refine Kd.R_append_zeros (Kd.int .i64) (w0 := w) w.heap.size rfl (.tmp 40) (.tmp 42) 23 3 3 (.int .i64 0) 8 rfl Try.underlying23 Try.underlying3 info3 rfl (by decide) (by omega) v233 y232 0 ((l1.length : Int) : Int) (fun _ => True) rfl rfl rfl ?aF ?aO (of_decide_eq_true (by first | (with_reducible assumption) | assumption)) ?aB ?aS ?aL ?_; (case aB => exact (by repeat (first | (with_reducible first | exact HB.out | apply below_alloc | apply pw_below_drewN | apply below_drew1 | refine below_set ?_ GE226.out) | exact HB.out))); (case aF => exact (fun _ _ => trivial)); (case aO => exact (by (with_reducible repeat (first | apply Kd.R_alloc | apply Kd.R_drewN | apply Kd.R_drew)); exact HO234.out)); (case aS => exact (below_size (by repeat (first | (with_reducible first | exact HB.out | apply below_alloc | apply pw_below_drewN | apply below_drew1 | refine below_set ?_ GE226.out) | exact HB.out)))); (case aL => have := LMc21.out; omega); intro v236 w26 ho hb hg hat; rw [← Ny235.out] at ho; have n0_ := Aside0.mk (Kd.S_after (ok := (fun _ => True)) (by (with_reducible repeat (first | apply Kd.S_alloc | apply Kd.S_drewN | apply Kd.S_drew)); exact HO_7.out) hg hat); have n1_ := Aside0.mk (blk_grown (g := gb226) (o := .cells #[.int .i64 t221, .int .i64 t222, .int .i64 t223, .int .i64 t224] 27 (0, 0)) (by (with_reducible repeat (first | refine blk_drewN ?_ _ | refine blk_drew ?_ | refine blk_alloc ?_ _)); exact BK226.out) hg (Kd.R_ne HO234.out BK226.out (by decide))); have n2_ := Aside0.mk (hb); have n3_ := Aside0.mk (ho); clear HO_7; clear BK226; clear HB; clear HO234; have HO_7 := n0_; have BK226 := n1_; have HB := n2_; have HO237 := n3_; clear n0_ n1_ n2_ n3_; clear ho hb hg hat; obtain ⟨Ao28, co28, eo28⟩ := Kd.R_slice HO237.out; subst eo28) | ((with_reducible refine gate_builtin (b := .append) (xs := #[.tmp 37, .tmp 44]) rfl ?_); (try (refine gate_guard (by rfl) ?_; dsimp only)); at_builtin; refine Kd.S_append (Kd.slice 3 (Kd.int .i64)) (w0 := w) w.heap.size rfl (.tmp 37) (.tmp 44) 22 23 (.slice none 0 0) 24 rfl Try.underlying22 info23 rfl (by decide) (by omega) u7 x7_2 y235 [.slice Ao28 y235.length co28] (fun _ => True) (fun k_ => some k_ = (.slice Ao28 y235.length co28 : Value).ownBlock) rfl rfl ?aP (fun k_ hk_ => ((Kd.R_mono (ok' := fun k_ => ((fun _ => True)) k_ ∧ some k_ ≠ (u7 : Value).ownBlock) (Kd.R_apart' (HO237.out) (Kd.S_typed HO_7.out) (by decide)) (fun k_ hk => ⟨trivial, hk.2⟩))).1 k_ hk_.symm) ?aF ?aO ?aB ?aS ?aL ?_; (case aP => exact Kd.M_row (Kd.R_mono (Kd.R_tight rfl (Kd.R_mono (ok' := fun k_ => ((fun _ => True)) k_ ∧ some k_ ≠ (u7 : Value).ownBlock) (Kd.R_apart' (HO237.out) (Kd.S_typed HO_7.out) (by decide)) (fun k_ hk => ⟨trivial, hk.2⟩))) (fun _ h_ => h_))); (case aB => exact (by repeat (first | (with_reducible first | exact HB.out | apply below_alloc | apply pw_below_drewN | apply below_drew1 | refine below_set ?_ GE226.out) | exact HB.out))); (case aF => exact (fun _ _ => trivial)); (case aO => exact (by (with_reducible repeat (first | apply Kd.S_alloc | apply Kd.S_drewN | apply Kd.S_drew)); exact Kd.S_mono HO_7.out (fun k_ hk => ⟨trivial, fun e_ => hk.2 e_⟩))); (case aS => exact (below_size (by repeat (first | (with_reducible first | exact HB.out | apply below_alloc | apply pw_below_drewN | apply below_drew1 | refine below_set ?_ GE226.out) | exact HB.out)))); (case aL => have := LMc22.out; omega); intro v239 w27 ho hb hg hat; rw [← Ny238.out] at ho; have n0_ := Aside0.mk (blk_grown (g := gb226) (o := .cells #[.int .i64 t221, .int .i64 t222, .int .i64 t223, .int .i64 t224] 27 (0, 0)) (by (with_reducible repeat (first | refine blk_drewN ?_ _ | refine blk_drew ?_ | refine blk_alloc ?_ _)); exact BK226.out) hg (Kd.S_ne HO_7.out BK226.out (by decide))); have n1_ := Aside0.mk (hb); have n2_ := Aside0.mk (ho); clear BK226; clear HB; clear HO_7; clear HO237; have BK226 := n0_; have HB := n1_; have HO240 := n2_; clear n0_ n1_ n2_; clear ho hb hg hat))
                            go_roundg k2
                            case measure => have := HJ2.out; have := HK2.out; omega
                            case rel => exact ⟨(y238), (wrap64 (x29_2 + 1)), (by first | rfl | (simp; done) | (simp [*]; done)), H', ⟨by have := HJ2.out; have := HK2.out; omega⟩, ⟨by (with_reducible repeat (first | apply Kd.S_alloc | apply Kd.S_drewN | apply Kd.S_drew)); exact HO240.out⟩, ⟨by (with_reducible repeat (first | refine blk_drewN ?_ _ | refine blk_drew ?_ | refine blk_alloc ?_ _)); exact BK226.out⟩, ⟨by repeat (first | (with_reducible first | exact HB.out | apply below_alloc | apply pw_below_drewN | apply below_drew1 | refine below_set ?_ GE226.out) | exact HB.out)⟩⟩
                          · rw [if_neg c22] at H
                            exact absurd H (by simp)
                        · rw [if_neg c21] at H
                          exact absurd H (by simp)
                      · rw [if_neg c20] at H
                        exact absurd H (by simp)
                    · rw [if_neg c19] at H
                      exact absurd H (by simp)
                · rw [if_neg c15] at H
                  exact absurd H (by simp)
              · rw [if_neg c14] at H
                exact absurd H (by simp)
            · rw [if_neg c13] at H
              have c13b0 : decide (x29_2 < (l0.length : Int)) = false := decide_eq_false c13
              clear c13
              obtain ⟨y241, hy241⟩ : ∃ y_ : List Int, y_ = (([] : List Int)) := ⟨_, rfl⟩
              replace H : (if y241.length + l1.length < 17592186044416 then ((some (y241 ++ l1 : List Int)).bind fun y244 => (if y244.length + l1.length < 17592186044416 then ((gate_Choose.f k2 x7_2 (y244 ++ l1)).bind fun bt250 => (if (t221 == bt250.1 && (t222 == bt250.2.1 && (t223 == bt250.2.2.1 && (t224 == bt250.2.2.2.1)))) = true then (if (t225 == bt250.2.2.2.2) = true then ((switchboardlaw13_awake.f k2).bind fun t256 => (some t256)) else (some false)) else (some false))) else (none))) else (none)) = some true := by first | (rw [hy241]; with_reducible exact H) | (have H2_ := (Option.bind_some _ _).symm.trans H; rw [hy241]; with_reducible exact H2_) | (have H2_ := (Option.bind_some _ _).symm.trans H; with_reducible exact H2_) | with_reducible exact H | (rw [hy241]; exact H) | exact H
              have Ny241 := Aside0.mk hy241
              clear hy241
              by_cases c29 : y241.length + l1.length < 17592186044416
              · rw [if_pos c29] at H
                have LMc29 := Aside0.mk c29
                clear c29
                obtain ⟨y244, hy244⟩ : ∃ y_ : List Int, y_ = (y241 ++ l1) := ⟨_, rfl⟩
                replace H : (if y244.length + l1.length < 17592186044416 then ((gate_Choose.f k2 x7_2 (y244 ++ l1)).bind fun bt250 => (if (t221 == bt250.1 && (t222 == bt250.2.1 && (t223 == bt250.2.2.1 && (t224 == bt250.2.2.2.1)))) = true then (if (t225 == bt250.2.2.2.2) = true then ((switchboardlaw13_awake.f k2).bind fun t256 => (some t256)) else (some false)) else (some false))) else (none)) = some true := by first | (rw [hy244]; with_reducible exact H) | (have H2_ := (Option.bind_some _ _).symm.trans H; rw [hy244]; with_reducible exact H2_) | (have H2_ := (Option.bind_some _ _).symm.trans H; with_reducible exact H2_) | with_reducible exact H | (rw [hy244]; exact H) | exact H
                have Ny244 := Aside0.mk hy244
                clear hy244
                by_cases c30 : y244.length + l1.length < 17592186044416
                · rw [if_pos c30] at H
                  have LMc30 := Aside0.mk c30
                  clear c30
                  obtain ⟨y247, hy247⟩ : ∃ y_ : List Int, y_ = (y244 ++ l1) := ⟨_, rfl⟩
                  replace H : ((gate_Choose.f k2 x7_2 y247).bind fun bt250 => (if (t221 == bt250.1 && (t222 == bt250.2.1 && (t223 == bt250.2.2.1 && (t224 == bt250.2.2.2.1)))) = true then (if (t225 == bt250.2.2.2.2) = true then ((switchboardlaw13_awake.f k2).bind fun t256 => (some t256)) else (some false)) else (some false))) = some true := by first | (rw [hy247]; with_reducible exact H) | (have H2_ := (Option.bind_some _ _).symm.trans H; rw [hy247]; with_reducible exact H2_) | (have H2_ := (Option.bind_some _ _).symm.trans H; with_reducible exact H2_) | with_reducible exact H | (rw [hy247]; exact H) | exact H
                  have Ny247 := Aside0.mk hy247
                  clear hy247
                  replace H := Option.bind_eq_some_iff.mp H
                  obtain ⟨⟨t250, t251, t252, t253, t254⟩, A310, H⟩ := H
                  replace H : (if (t221 == t250 && (t222 == t251 && (t223 == t252 && (t224 == t253)))) = true then (if (t225 == t254) = true then ((switchboardlaw13_awake.f k2).bind fun t256 => (some t256)) else (some false)) else (some false)) = some true := H
                  have A31 := Aside0.mk A310
                  clear A310
                  by_cases c32 : (t221 == t250 && (t222 == t251 && (t223 == t252 && (t224 == t253)))) = true
                  · rw [if_pos c32] at H
                    simp only [Bool.and_eq_true, beq_iff_eq] at c32
                    obtain ⟨he0_, he1_, he2_, he3_⟩ := c32
                    subst he0_
                    subst he1_
                    subst he2_
                    subst he3_
                    by_cases c33 : (t225 == t254) = true
                    · rw [if_pos c33] at H
                      have he0_ := eq_of_beq c33
                      clear c33
                      subst he0_
                      replace H := Option.bind_eq_some_iff.mp H
                      obtain ⟨t256, A340, H⟩ := H
                      replace H : (some t256) = some true := H
                      have A34 := Aside0.mk A340
                      clear A340
                      have hr_ := Aside0.mk (Option.some.inj H)
                      go_wp2_with (first | ((with_reducible refine gate_dst (N := 49) rfl ?_); (try (refine gate_guard (by rfl) ?_; dsimp only)); refine Kd.R_lit (Kd.int .i64) _ 3 ?hg (N := 49) ?hd (xs := ([] : List Int)) (inner := []) (ok := fun _ => True) (okp := fun _ => True) ?hr ?hp (fun _ hk => hk) trivial (Below.refl _ _) (Nat.le_refl _) (by simp) ?_; (case hd => rfl); (case hg => rfl); (case hr => first | (go_simp; done) | (go_simp; rfl)); (case hp => exact (Reps.none _ _)); intro v242 w35 ho36 hb hg_ hnew_; clear hg_ hnew_; (first | rw [← Ny241.out] at ho36 | (simp only [Int.reduceToNat] at ho36; rw [← Ny241.out] at ho36)); have n0_ := Aside0.mk (Kd.S_elder' (by (with_reducible repeat (first | apply Kd.S_alloc | apply Kd.S_drewN | apply Kd.S_drew)); exact HO_7.out) (Kd.R_base ho36) hb); have n1_ := Aside0.mk (Kd.R_lower ho36 (below_size (by repeat (first | (with_reducible first | exact HB.out | apply below_alloc | apply pw_below_drewN | apply below_drew1 | refine below_set ?_ GE226.out) | exact HB.out)))); have n2_ := Aside0.mk (blk_below (g := gb226) (o := .cells #[.int .i64 t221, .int .i64 t222, .int .i64 t223, .int .i64 t224] 27 (0, 0)) (by (with_reducible repeat (first | refine blk_drewN ?_ _ | refine blk_drew ?_ | refine blk_alloc ?_ _)); exact BK226.out) hb); have n3_ := Aside0.mk (below_step (by repeat (first | (with_reducible first | exact HB.out | apply below_alloc | apply pw_below_drewN | apply below_drew1 | refine below_set ?_ GE226.out) | exact HB.out)) hb); clear HO_7; clear BK226; clear HB; have HO_7 := n0_; have HO243 := n1_; have BK226 := n2_; have HB := n3_; clear n0_ n1_ n2_ n3_; clear hb ho36) | ((with_reducible refine gate_builtin (b := .append) (xs := #[.tmp 49, .tmp 50]) rfl ?_); (try (refine gate_guard (by rfl) ?_; dsimp only)); at_builtin; refine Kd.R_append_rows (Kd.int .i64) (w0 := w) w.heap.size rfl (.tmp 49) (.tmp 50) 23 3 (.int .i64 0) 8 rfl Try.underlying23 info3 rfl (by decide) (by omega) v242 y241 l1 _ _ _ (fun _ => True) (fun _ => False) rfl rfl ?aO ?aR (fun _ _ h => h) (fun _ h => h.elim) ?aF ?aB ?aS ?aL ?_; (case aR => repeat (first | exact (Kd.C_below HR1.out HB.out) | (with_reducible refine Kd.C_alloc ?_ _) | (with_reducible refine Kd.C_drewN ?_ _) | (with_reducible refine Kd.C_drew ?_))); (case aB => exact (by repeat (first | (with_reducible first | exact HB.out | apply below_alloc | apply pw_below_drewN | apply below_drew1 | refine below_set ?_ GE226.out) | exact HB.out))); (case aF => exact (fun _ _ => trivial)); (case aO => exact (by (with_reducible repeat (first | apply Kd.R_alloc | apply Kd.R_drewN | apply Kd.R_drew)); exact HO243.out)); (case aS => exact (below_size (by repeat (first | (with_reducible first | exact HB.out | apply below_alloc | apply pw_below_drewN | apply below_drew1 | refine below_set ?_ GE226.out) | exact HB.out)))); (case aL => have := LMc29.out; omega); intro v245 w37 ho hb hg hat; rw [← Ny244.out] at ho; have n0_ := Aside0.mk (Kd.S_after (ok := (fun _ => True)) (by (with_reducible repeat (first | apply Kd.S_alloc | apply Kd.S_drewN | apply Kd.S_drew)); exact HO_7.out) hg hat); have n1_ := Aside0.mk (blk_grown (g := gb226) (o := .cells #[.int .i64 t221, .int .i64 t222, .int .i64 t223, .int .i64 t224] 27 (0, 0)) (by (with_reducible repeat (first | refine blk_drewN ?_ _ | refine blk_drew ?_ | refine blk_alloc ?_ _)); exact BK226.out) hg (Kd.R_ne HO243.out BK226.out (by decide))); have n2_ := Aside0.mk (hb); have n3_ := Aside0.mk (ho); clear HO_7; clear BK226; clear HB; clear HO243; have HO_7 := n0_; have BK226 := n1_; have HB := n2_; have HO246 := n3_; clear n0_ n1_ n2_ n3_; clear ho hb hg hat) | ((with_reducible refine gate_builtin (b := .append) (xs := #[.tmp 51, .tmp 52]) rfl ?_); (try (refine gate_guard (by rfl) ?_; dsimp only)); at_builtin; refine Kd.R_append_rows (Kd.int .i64) (w0 := w) w.heap.size rfl (.tmp 51) (.tmp 52) 23 3 (.int .i64 0) 8 rfl Try.underlying23 info3 rfl (by decide) (by omega) v245 y244 l1 _ _ _ (fun _ => True) (fun _ => False) rfl rfl ?aO ?aR (fun _ _ h => h) (fun _ h => h.elim) ?aF ?aB ?aS ?aL ?_; (case aR => repeat (first | exact (Kd.C_below HR1.out HB.out) | (with_reducible refine Kd.C_alloc ?_ _) | (with_reducible refine Kd.C_drewN ?_ _) | (with_reducible refine Kd.C_drew ?_))); (case aB => exact (by repeat (first | (with_reducible first | exact HB.out | apply below_alloc | apply pw_below_drewN | apply below_drew1 | refine below_set ?_ GE226.out) | exact HB.out))); (case aF => exact (fun _ _ => trivial)); (case aO => exact (by (with_reducible repeat (first | apply Kd.R_alloc | apply Kd.R_drewN | apply Kd.R_drew)); exact HO246.out)); (case aS => exact (below_size (by repeat (first | (with_reducible first | exact HB.out | apply below_alloc | apply pw_below_drewN | apply below_drew1 | refine below_set ?_ GE226.out) | exact HB.out)))); (case aL => have := LMc30.out; omega); intro v248 w38 ho hb hg hat; rw [← Ny247.out] at ho; have n0_ := Aside0.mk (Kd.S_after (ok := (fun _ => True)) (by (with_reducible repeat (first | apply Kd.S_alloc | apply Kd.S_drewN | apply Kd.S_drew)); exact HO_7.out) hg hat); have n1_ := Aside0.mk (blk_grown (g := gb226) (o := .cells #[.int .i64 t221, .int .i64 t222, .int .i64 t223, .int .i64 t224] 27 (0, 0)) (by (with_reducible repeat (first | refine blk_drewN ?_ _ | refine blk_drew ?_ | refine blk_alloc ?_ _)); exact BK226.out) hg (Kd.R_ne HO246.out BK226.out (by decide))); have n2_ := Aside0.mk (hb); have n3_ := Aside0.mk (ho); clear HO_7; clear BK226; clear HB; clear HO246; have HO_7 := n0_; have BK226 := n1_; have HB := n2_; have HO249 := n3_; clear n0_ n1_ n2_ n3_; clear ho hb hg hat; obtain ⟨Ao39, co39, eo39⟩ := Kd.S_slice HO_7.out; subst eo39; obtain ⟨Ao40, co40, eo40⟩ := Kd.R_slice HO249.out; subst eo40) | ((with_reducible refine gate_callee (f := 9) rfl ?_); refine goesL_ (some 54) rfl rfl Try.func9 (by kernel_rfl) rfl #[.slice Ao39 x7_2.length co39, .slice Ao40 y247.length co40] rfl (by (try simp only [List.map_toArray, List.map_cons, List.map_nil]); first | done | rfl | (simp only [List.length_drop, List.length_take]; rfl)) ?_; (with_reducible refine (gate_Choose.calls k2 _ _ x7_2 _ _ y247 t221 t222 t223 t224 t225 _ ?side1 ?side2 ?side3 ?side4 A31.out).mono ?_); (case side1 => repeat (first | exact (Kd.S_reads' HO_7.out).2.2 | (with_reducible refine Kd.C_alloc ?_ _) | (with_reducible refine Kd.C_drewN ?_ _) | (with_reducible refine Kd.C_drew ?_))); (case side2 => exact (Kd.S_reads' HO_7.out).2.1); (case side3 => repeat (first | exact (Kd.R_reads' HO249.out).2.2 | (with_reducible refine Kd.C_alloc ?_ _) | (with_reducible refine Kd.C_drewN ?_ _) | (with_reducible refine Kd.C_drew ?_))); (case side4 => exact (Kd.R_reads' HO249.out).2.1); rintro e w41 ⟨rfl, hb⟩; refine ⟨_, rfl, ?_⟩; have n0_ := Aside0.mk (Kd.S_below (by (with_reducible repeat (first | apply Kd.S_alloc | apply Kd.S_drewN | apply Kd.S_drew)); exact HO_7.out) hb); have n1_ := Aside0.mk (Kd.R_below (by (with_reducible repeat (first | apply Kd.R_alloc | apply Kd.R_drewN | apply Kd.R_drew)); exact HO249.out) hb); have n2_ := Aside0.mk (blk_below (g := gb226) (o := .cells #[.int .i64 t221, .int .i64 t222, .int .i64 t223, .int .i64 t224] 27 (0, 0)) (by (with_reducible repeat (first | refine blk_drewN ?_ _ | refine blk_drew ?_ | refine blk_alloc ?_ _)); exact BK226.out) hb); have n3_ := Aside0.mk (below_step (by repeat (first | (with_reducible first | exact HB.out | apply below_alloc | apply pw_below_drewN | apply below_drew1 | refine below_set ?_ GE226.out) | exact HB.out)) hb); clear HO_7; clear HO249; clear BK226; clear HB; have HO_7 := n0_; have HO249 := n1_; have BK226 := n2_; have HB := n3_; clear n0_ n1_ n2_ n3_; (try clear hb); (try clear hb2); (try clear hk); (try clear hi)) | ((with_reducible refine gate_dst (N := 10) rfl ?_); (try (refine gate_guard (by rfl) ?_; dsimp only)); refine box_event ?hg (N := 10) ?hd (cs := #[.int .i64 0, .int .i64 0, .int .i64 0, .int .i64 0]) (t := 27) ?hr ?_; (case hd => rfl); (case hg => rfl); (case hr => first | (go_simp; done) | (go_simp; rfl)); intro gb255 hg w42 hbox hb; have n0_ := Aside0.mk (Kd.S_below (by (with_reducible repeat (first | apply Kd.S_alloc | apply Kd.S_drewN | apply Kd.S_drew)); exact HO_7.out) hb); have n1_ := Aside0.mk (Kd.R_below (by (with_reducible repeat (first | apply Kd.R_alloc | apply Kd.R_drewN | apply Kd.R_drew)); exact HO249.out) hb); have n2_ := Aside0.mk (blk_below (g := gb226) (o := .cells #[.int .i64 t221, .int .i64 t222, .int .i64 t223, .int .i64 t224] 27 (0, 0)) (by (with_reducible repeat (first | refine blk_drewN ?_ _ | refine blk_drew ?_ | refine blk_alloc ?_ _)); exact BK226.out) hb); have n3_ := Aside0.mk (below_step (by repeat (first | (with_reducible first | exact HB.out | apply below_alloc | apply pw_below_drewN | apply below_drew1 | refine below_set ?_ GE226.out) | exact HB.out)) hb); have n4_ := Aside0.mk (hbox); have n5_ := Aside0.mk ((by rw [hg]; exact (below_size (by repeat (first | (with_reducible first | exact HB.out | apply below_alloc | apply pw_below_drewN | apply below_drew1 | refine below_set ?_ GE226.out) | exact HB.out))) : w.heap.size ≤ gb255)); have n6_ := Aside0.mk ((by rw [hg]; exact (below_size (by repeat (first | (with_reducible first | exact HB.out | apply below_alloc | apply pw_below_drewN | apply below_drew1 | refine below_set ?_ GE226.out) | exact HB.out))) : w.heap.size ≤ gb255)); have n7_ := Aside0.mk ((by rw [hg]; exact Nat.ne_of_lt (blk_lt (g := gb226) (o := .cells #[.int .i64 t221, .int .i64 t222, .int .i64 t223, .int .i64 t224] 27 (0, 0)) (by (with_reducible repeat (first | refine blk_drewN ?_ _ | refine blk_drew ?_ | refine blk_alloc ?_ _)); exact BK226.out)) : gb226 ≠ gb255)); have n8_ := Aside0.mk ((by rw [hg]; exact Nat.ne_of_gt (blk_lt (g := gb226) (o := .cells #[.int .i64 t221, .int .i64 t222, .int .i64 t223, .int .i64 t224] 27 (0, 0)) (by (with_reducible repeat (first | refine blk_drewN ?_ _ | refine blk_drew ?_ | refine blk_alloc ?_ _)); exact BK226.out)) : gb255 ≠ gb226)); clear HO_7; clear HO249; clear BK226; clear HB; have HO_7 := n0_; have HO249 := n1_; have BK226 := n2_; have HB := n3_; have BK255 := n4_; have GW255 := n5_; have GE255 := n6_; have NB226_255 := n7_; have NB255_226 := n8_; clear n0_ n1_ n2_ n3_ n4_ n5_ n6_ n7_ n8_; clear hb hbox hg; have hnb43 := NB255_226.out; have hnc43 := NB226_255.out; have hcz44_0 : w42.cell? ⟨gb255, 0, none⟩ = some (.int .i64 0) := (blk_cell BK255.out 0).trans rfl; have hcz44_1 : w42.cell? ⟨gb255, 1, none⟩ = some (.int .i64 0) := (blk_cell BK255.out 1).trans rfl; have hcz44_2 : w42.cell? ⟨gb255, 2, none⟩ = some (.int .i64 0) := (blk_cell BK255.out 2).trans rfl; have hcz44_3 : w42.cell? ⟨gb255, 3, none⟩ = some (.int .i64 0) := (blk_cell BK255.out 3).trans rfl; have hfz44_0 := blk_frozen BK255.out 0; have hfz44_1 := blk_frozen BK255.out 1; have hfz44_2 := blk_frozen BK255.out 2; have hfz44_3 := blk_frozen BK255.out 3; have hcz45_0 : w42.cell? ⟨gb226, 0, none⟩ = some (.int .i64 t221) := (blk_cell BK226.out 0).trans rfl; have hcz45_1 : w42.cell? ⟨gb226, 1, none⟩ = some (.int .i64 t222) := (blk_cell BK226.out 1).trans rfl; have hcz45_2 : w42.cell? ⟨gb226, 2, none⟩ = some (.int .i64 t223) := (blk_cell BK226.out 2).trans rfl; have hcz45_3 : w42.cell? ⟨gb226, 3, none⟩ = some (.int .i64 t224) := (blk_cell BK226.out 3).trans rfl; have hfz45_0 := blk_frozen BK226.out 0; have hfz45_1 := blk_frozen BK226.out 1; have hfz45_2 := blk_frozen BK226.out 2; have hfz45_3 := blk_frozen BK226.out 3) | (go_at_call 8; (with_reducible refine (switchboardlaw13_awake.calls k2  t256 _ A34.out).mono ?_); rintro e w46 ⟨rfl, hb⟩; have n0_ := Aside0.mk (Kd.S_below (by (with_reducible repeat (first | apply Kd.S_alloc | apply Kd.S_drewN | apply Kd.S_drew)); exact (Kd.S_mono (Kd.S_far (p := ⟨gb255, 3, none⟩) (Kd.S_far (p := ⟨gb255, 2, none⟩) (Kd.S_far (p := ⟨gb255, 1, none⟩) (Kd.S_far (p := ⟨gb255, 0, none⟩) (Kd.S_types HO_7.out BK255.out (by decide)) (fun _ hk => hk.2) (.int .i64 t221)) (fun _ hk => hk.2) (.int .i64 t222)) (fun _ hk => hk.2) (.int .i64 t223)) (fun _ hk => hk.2) (.int .i64 t224)) (fun _ h_ => h_.1))) hb); have n1_ := Aside0.mk (Kd.R_below (by (with_reducible repeat (first | apply Kd.R_alloc | apply Kd.R_drewN | apply Kd.R_drew)); exact (Kd.R_mono (Kd.R_far (p := ⟨gb255, 3, none⟩) (Kd.R_far (p := ⟨gb255, 2, none⟩) (Kd.R_far (p := ⟨gb255, 1, none⟩) (Kd.R_far (p := ⟨gb255, 0, none⟩) (Kd.R_types HO249.out BK255.out (by decide)) (fun _ hk => hk.2) (.int .i64 t221)) (fun _ hk => hk.2) (.int .i64 t222)) (fun _ hk => hk.2) (.int .i64 t223)) (fun _ hk => hk.2) (.int .i64 t224)) (fun _ h_ => h_.1))) hb); have n2_ := Aside0.mk (blk_below (g := gb226) (o := .cells #[.int .i64 t221, .int .i64 t222, .int .i64 t223, .int .i64 t224] 27 (0, 0)) (by (with_reducible repeat (first | refine blk_drewN ?_ _ | refine blk_drew ?_ | refine blk_alloc ?_ _)); refine blk_far ?_ NB226_255.out _; (with_reducible repeat (first | refine blk_drewN ?_ _ | refine blk_drew ?_ | refine blk_alloc ?_ _)); refine blk_far ?_ NB226_255.out _; (with_reducible repeat (first | refine blk_drewN ?_ _ | refine blk_drew ?_ | refine blk_alloc ?_ _)); refine blk_far ?_ NB226_255.out _; (with_reducible repeat (first | refine blk_drewN ?_ _ | refine blk_drew ?_ | refine blk_alloc ?_ _)); refine blk_far ?_ NB226_255.out _; (with_reducible repeat (first | refine blk_drewN ?_ _ | refine blk_drew ?_ | refine blk_alloc ?_ _)); exact BK226.out) hb); have n3_ := Aside0.mk (blk_below (g := gb255) (o := .cells #[.int .i64 t221, .int .i64 t222, .int .i64 t223, .int .i64 t224] 27 (0, 0)) (by (with_reducible repeat (first | refine blk_drewN ?_ _ | refine blk_drew ?_ | refine blk_alloc ?_ _)); refine blk_put (cs := #[.int .i64 t221, .int .i64 t222, .int .i64 t223, .int .i64 0]) ?_ 3 _ rfl; (with_reducible repeat (first | refine blk_drewN ?_ _ | refine blk_drew ?_ | refine blk_alloc ?_ _)); refine blk_put (cs := #[.int .i64 t221, .int .i64 t222, .int .i64 0, .int .i64 0]) ?_ 2 _ rfl; (with_reducible repeat (first | refine blk_drewN ?_ _ | refine blk_drew ?_ | refine blk_alloc ?_ _)); refine blk_put (cs := #[.int .i64 t221, .int .i64 0, .int .i64 0, .int .i64 0]) ?_ 1 _ rfl; (with_reducible repeat (first | refine blk_drewN ?_ _ | refine blk_drew ?_ | refine blk_alloc ?_ _)); refine blk_put (cs := #[.int .i64 0, .int .i64 0, .int .i64 0, .int .i64 0]) ?_ 0 _ rfl; (with_reducible repeat (first | refine blk_drewN ?_ _ | refine blk_drew ?_ | refine blk_alloc ?_ _)); exact BK255.out) hb); have n4_ := Aside0.mk (below_step (by repeat (first | (with_reducible first | exact HB.out | apply below_alloc | apply pw_below_drewN | apply below_drew1 | refine below_set ?_ GE226.out | refine below_set ?_ GE255.out) | exact HB.out)) hb); clear HO_7; clear HO249; clear BK226; clear BK255; clear HB; have HO_7 := n0_; have HO249 := n1_; have BK226 := n2_; have BK255 := n3_; have HB := n4_; clear n0_ n1_ n2_ n3_ n4_; (try clear hb); (try clear hb2); (try clear hk); (try clear hi)))
                      go_ret
                      exact ⟨by first | rfl | exact congrArg (fun b_ => Ending.returned (Value.bool b_)) hr_.out | exact congrArg (fun b_ => Ending.returned (Value.bool b_)) hr_.out | (simp [errW_none, errW_some] <;> rfl) | (simp [*, errW_none, errW_some] <;> rfl), by repeat (first | (with_reducible first | exact HB.out | apply below_alloc | apply pw_below_drewN | apply below_drew1 | refine below_set ?_ GE226.out | refine below_set ?_ GE255.out) | exact HB.out)⟩
                    · rw [if_neg c33] at H
                      have c33b0 : (t225 == t254) = false := by simpa using c33
                      (try (have c33b1 : decide (t225 = t254) = false := by simpa using c33))
                      (try (have c33b2 : (t225 == t254) = false := by simpa using c33))
                      (try (have c33b3 : ¬ (t225 = t254) := by simpa using c33))
                      clear c33
                      exact absurd H (by simp)
                  · rw [if_neg c32] at H
                    have c32b0 : (t221 == t250 && (t222 == t251 && (t223 == t252 && (t224 == t253)))) = false := by simpa using c32
                    (try (have c32b1 : decide (t221 = t250 && (t222 == t251 && (t223 == t252 && (t224 == t253)))) = false := by simpa using c32))
                    (try (have c32b2 : (t221 == t250 && (t222 == t251 && (t223 == t252 && (t224 == t253)))) = false := by simpa using c32))
                    (try (have c32b3 : ¬ (t221 = t250 && (t222 == t251 && (t223 == t252 && (t224 == t253)))) := by simpa using c32))
                    clear c32
                    exact absurd H (by simp)
                · rw [if_neg c30] at H
                  exact absurd H (by simp)
              · rw [if_neg c29] at H
                exact absurd H (by simp)

end Go.Proofs.Ytffgndmmlhkkmaa.Pr
