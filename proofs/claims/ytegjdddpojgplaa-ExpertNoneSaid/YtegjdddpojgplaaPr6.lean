-- Laid by wip/xprint.py, a program of this session that runs the kit's print with some contracts given by hand; not a text of print.sh. Lean checks it.
import Derived.Test.YtegjdddpojgplaaPr0
import Derived.Test.YtegjdddpojgplaaPr1
import Derived.Test.YtegjdddpojgplaaPr2
import Derived.Test.YtegjdddpojgplaaPr3
namespace Go.Proofs.Ytegjdddpojgplaa.Pr
open Go.RowKit Go.Proofs.YtegjdddpojgplaaW.PrintWords Go.Proofs.YtegjdddpojgplaaW.PrintLast Go.Proofs.YtegjdddpojgplaaW.PrintMore
attribute [local go_sem] max2_int min2_int max_two min_two max_three min_three max_four min_four   -- for this text's walks alone
set_option linter.unusedVariables false
set_option linter.unusedSimpArgs false

/-! ### switchboardlaw11_ExpertNone: function 4 -/
mutual
def switchboardlaw11_ExpertNone.j0 : Nat → List Int → Bool → List (List Int) → List (List Int) → Option (Bool)
  | 0, _, _, _, _ => none
  | k + 1, x1, x33, x229000, x229001 => if x33 = true then ((switchboardlaw11_awake.f k).bind fun t232 => (some t232)) else (if 0 ≤ (x1.length : Int) then (if ((x1.length : Int) : Int).toNat ≤ 35184372088832 then ((expert_Run.f k x229000 x229001 (List.replicate ((x1.length : Int) : Int).toNat 0)).bind fun bt236 => ((some (([] : List (List Int)) : List (List Int))).bind fun y240 => (if y240.length + x229001.length < 5864062014805 then ((some (y240 ++ x229001 : List (List Int))).bind fun y243 => (if 0 ≤ (x229000.length : Int) then (if ((x229000.length : Int) : Int).toNat ≤ 35184372088832 then (if 0 < (y243.length : Int) then ((expert_Run.f k x229000 (y243.set (0 : Int).toNat (List.replicate ((x229000.length : Int) : Int).toNat 0)) x1).bind fun bt250 => (switchboardlaw11_ExpertNone.l0 k x1 bt236.1 bt236.2 bt250.1 bt250.2 bt236.1 (bt236.1.length : Int) 0)) else (none)) else (none)) else (none))) else (none)))) else (none)) else (none))
def switchboardlaw11_ExpertNone.l0 : Nat → List Int → List Int → Bool → List Int → Bool → List Int → Int → Int → Option (Bool)
  | 0, _, _, _, _, _, _, _, _ => none
  | k + 1, x1, x5, x6, x8, x9, x62, x63, x64 => if x64 < x63 then (if 0 ≤ x64 then (if x64 < (x62.length : Int) then (if (rd x62 x64) = 0 then (switchboardlaw11_ExpertNone.l0 k x1 x5 x6 x8 x9 x62 x63 (wrap64 (x64 + 1))) else (some false)) else (none)) else (none)) else (if (x5.length : Int) = (x1.length : Int) then (if x6 = true then (if x9 = true then (if (x8.length : Int) = (x1.length : Int) then (if 0 < (x8.length : Int) then (if (rd x8 0) = 0 then ((switchboardlaw11_awake.f k).bind fun t256 => (some t256)) else (some false)) else (none)) else (some false)) else (some false)) else (some false)) else (some false))
end
def switchboardlaw11_ExpertNone.f (k : Nat) (l0_0 : List (List Int)) (l0_1 : List (List Int)) (l1 : List Int) : Option (Bool) := (switchboardref03_Small.f k l0_0).bind fun t229 => (if t229 = true then ((switchboardref03_Small.f k l0_1).bind fun t230 => (if t230 = true then (if (l1.length : Int) > 30 then (switchboardlaw11_ExpertNone.j0 k l1 true l0_0 l0_1) else ((switchboardref11_Right.f k l0_0 l0_1 (l1.length : Int)).bind fun t231 => (switchboardlaw11_ExpertNone.j0 k l1 (!t231) l0_0 l0_1))) else (switchboardlaw11_ExpertNone.j0 k l1 true l0_0 l0_1))) else (switchboardlaw11_ExpertNone.j0 k l1 true l0_0 l0_1))
theorem switchboardlaw11_ExpertNone.mono_l : ∀ k, (∀ y0 y1 y2 y3, LeO (switchboardlaw11_ExpertNone.j0 k y0 y1 y2 y3) (switchboardlaw11_ExpertNone.j0 (k + 1) y0 y1 y2 y3)) ∧ (∀ y0 y1 y2 y3 y4 y5 y6 y7, LeO (switchboardlaw11_ExpertNone.l0 k y0 y1 y2 y3 y4 y5 y6 y7) (switchboardlaw11_ExpertNone.l0 (k + 1) y0 y1 y2 y3 y4 y5 y6 y7))
  | 0 => ⟨fun _ _ _ _ r h => by simp [switchboardlaw11_ExpertNone.j0] at h, fun _ _ _ _ _ _ _ _ r h => by simp [switchboardlaw11_ExpertNone.l0] at h⟩
  | k + 1 => by
    obtain ⟨ih0, ih1⟩ := switchboardlaw11_ExpertNone.mono_l k
    refine ⟨?_, ?_⟩
    · intro y0 y1 y2 y3
      unfold switchboardlaw11_ExpertNone.j0
      repeat' first
      | (with_reducible exact ih0 _ _ _ _)
      | (with_reducible exact ih1 _ _ _ _ _ _ _ _)
      | (with_reducible exact expert_Run.mono _ _ _ _)
      | (with_reducible exact switchboardlaw11_awake.mono _)
      | (with_reducible exact switchboardref03_Small.mono _ _)
      | (with_reducible exact switchboardref11_Right.mono _ _ _ _)
      | (with_reducible exact LeO.refl _)
      | (with_reducible exact LeO.none _)
      | (with_reducible refine LeO.ite ?_ ?_)
      | (with_reducible refine LeO.bind ?_ (fun _ => ?_))
      | exact ih0 _ _ _ _
      | exact ih1 _ _ _ _ _ _ _ _
      | exact expert_Run.mono _ _ _ _
      | exact switchboardlaw11_awake.mono _
      | exact switchboardref03_Small.mono _ _
      | exact switchboardref11_Right.mono _ _ _ _
      | exact LeO.none _
      | refine LeO.ite ?_ ?_
      | refine LeO.bind ?_ (fun _ => ?_)
    · intro y0 y1 y2 y3 y4 y5 y6 y7
      unfold switchboardlaw11_ExpertNone.l0
      repeat' first
      | (with_reducible exact ih0 _ _ _ _)
      | (with_reducible exact ih1 _ _ _ _ _ _ _ _)
      | (with_reducible exact expert_Run.mono _ _ _ _)
      | (with_reducible exact switchboardlaw11_awake.mono _)
      | (with_reducible exact switchboardref03_Small.mono _ _)
      | (with_reducible exact switchboardref11_Right.mono _ _ _ _)
      | (with_reducible exact LeO.refl _)
      | (with_reducible exact LeO.none _)
      | (with_reducible refine LeO.ite ?_ ?_)
      | (with_reducible refine LeO.bind ?_ (fun _ => ?_))
      | exact ih0 _ _ _ _
      | exact ih1 _ _ _ _ _ _ _ _
      | exact expert_Run.mono _ _ _ _
      | exact switchboardlaw11_awake.mono _
      | exact switchboardref03_Small.mono _ _
      | exact switchboardref11_Right.mono _ _ _ _
      | exact LeO.none _
      | refine LeO.ite ?_ ?_
      | refine LeO.bind ?_ (fun _ => ?_)
theorem switchboardlaw11_ExpertNone.mono : ∀ a0 a1 a2 k, LeO (switchboardlaw11_ExpertNone.f k a0 a1 a2) (switchboardlaw11_ExpertNone.f (k + 1) a0 a1 a2) := by
  intro a0 a1 a2 k
  obtain ⟨ih0, ih1⟩ := switchboardlaw11_ExpertNone.mono_l k
  unfold switchboardlaw11_ExpertNone.f
  repeat' first
      | (with_reducible exact ih0 _ _ _ _)
      | (with_reducible exact ih1 _ _ _ _ _ _ _ _)
      | (with_reducible exact expert_Run.mono _ _ _ _)
      | (with_reducible exact switchboardlaw11_awake.mono _)
      | (with_reducible exact switchboardref03_Small.mono _ _)
      | (with_reducible exact switchboardref11_Right.mono _ _ _ _)
      | (with_reducible exact LeO.refl _)
      | (with_reducible exact LeO.none _)
      | (with_reducible refine LeO.ite ?_ ?_)
      | (with_reducible refine LeO.bind ?_ (fun _ => ?_))
      | exact ih0 _ _ _ _
      | exact ih1 _ _ _ _ _ _ _ _
      | exact expert_Run.mono _ _ _ _
      | exact switchboardlaw11_awake.mono _
      | exact switchboardref03_Small.mono _ _
      | exact switchboardref11_Right.mono _ _ _ _
      | exact LeO.none _
      | refine LeO.ite ?_ ?_
      | refine LeO.bind ?_ (fun _ => ?_)
def switchboardlaw11_ExpertNone.T3 : Bool × List (List Nat × List Nat) := (true, [([], []), ([], []), ([1], [1]), ([2, 2], [2]), ([0, 3], [0, 3]), ([4], [4]), ([5], [5]), ([5], [5]), ([6, 4, 0, 1, 2, 3, 4, 5, 6], [6]), ([7, 8, 0, 1, 2, 3, 4, 5, 6, 7, 8], [7])])
def switchboardlaw11_ExpertNone.B3 : List Nat := [0, 0, 2, 6, 15, 31, 63, 63, 127, 511]
theorem switchboardlaw11_ExpertNone.tab3 : rtab .any (opsOf Try.f4 3) = switchboardlaw11_ExpertNone.T3 := by kernel_rfl
theorem switchboardlaw11_ExpertNone.bits3 : waitsOk switchboardlaw11_ExpertNone.T3.2 switchboardlaw11_ExpertNone.B3 = true := by kernel_rfl
set_option maxHeartbeats 8000000 in
set_option maxRecDepth 100000 in
theorem switchboardlaw11_ExpertNone.calls (k : Nat) (A0_0 : Option Addr) (c0_0 : Nat) (l0_0 : List (List Int)) (P0_1_ : Nat → Prop) (A0_1 : Option Addr) (c0_1 : Nat) (l0_1 : List (List Int)) (A1 : Option Addr) (c1 : Nat) (l1 : List Int) (w : World) (hr0_0 : Kd.C (Kd.slice 3 (Kd.int .i64)) w A0_0 l0_0.length l0_0) (hc0_0 : l0_0.length ≤ c0_0) (hs0_1 : Kd.V (Kd.slice 3 (Kd.int .i64)) 25 w w.heap.size (fun k_ => P0_1_ k_) (.slice A0_1 l0_1.length c0_1) l0_1) (hr1 : Kd.C (Kd.int .i64) w A1 l1.length l1) (hc1 : l1.length ≤ c1) (h : switchboardlaw11_ExpertNone.f k l0_0 l0_1 l1 = some true) :
    Calls Try.prog 4 #[.agg #[.slice A0_0 l0_0.length c0_0, .slice A0_1 l0_1.length c0_1], .slice A1 l1.length c1] w fun e w' => e = .returned (.bool true) ∧ Below w.heap.size w w' := by
  have hu24 := Try.underlying24
  have HR0_0 := Aside0.mk hr0_0
  have HC0_0 := Aside0.mk hc0_0
  clear hr0_0 hc0_0
  have HO0_1 := Aside0.mk (show Kd.V (Kd.slice 3 (Kd.int .i64)) 25 w w.heap.size (fun k_ => (P0_1_ k_ ∨ w.heap.size ≤ k_)) (.slice A0_1 l0_1.length c0_1) l0_1 from Kd.V_mono hs0_1 (fun k_ hk => .inl hk))
  have HR1 := Aside0.mk hr1
  have HC1 := Aside0.mk hc1
  clear hr1 hc1
  have HB := Aside0.mk (Below.refl w.heap.size w)
  have H : ((switchboardref03_Small.f k l0_0).bind fun t229 => (if t229 = true then ((switchboardref03_Small.f k l0_1).bind fun t230 => (if t230 = true then (if (l1.length : Int) > 30 then (switchboardlaw11_ExpertNone.j0 k l1 true l0_0 l0_1) else ((switchboardref11_Right.f k l0_0 l0_1 (l1.length : Int)).bind fun t231 => (switchboardlaw11_ExpertNone.j0 k l1 (!t231) l0_0 l0_1))) else (switchboardlaw11_ExpertNone.j0 k l1 true l0_0 l0_1))) else (switchboardlaw11_ExpertNone.j0 k l1 true l0_0 l0_1))) = some true := h
  clear h
  have HC3 := Aside0.mk H
  clear H
  go_enter Try.func4, Try.ntmps4
  go_upto_region 1 with (first | ((with_reducible refine gate_dst (N := 2) rfl ?_); (try (refine gate_guard (by rfl) ?_; dsimp only)); refine box_event ?hg (N := 2) ?hd (cs := #[.slice A0_0 l0_0.length c0_0, .slice A0_1 l0_1.length c0_1]) (t := 24) ?hr ?_; (case hd => rfl); (case hg => rfl); (case hr => first | (go_simp; done) | (go_simp; rfl)); intro gb228 hg w4 hbox hb; have n0_ := Aside0.mk (Kd.V_below (Kd.V_elderB (by (with_reducible repeat (first | apply Kd.V_alloc | apply Kd.V_drewN | apply Kd.V_drew)); exact HO0_1.out) gb228 (Nat.le_of_eq hg.symm)) hb); have n1_ := Aside0.mk (below_step (by repeat (first | (with_reducible first | exact HB.out | apply below_alloc | apply pw_below_drewN | apply below_drew1) | exact HB.out)) hb); have n2_ := Aside0.mk (hbox); have n3_ := Aside0.mk ((by rw [hg]; exact (below_size (by repeat (first | (with_reducible first | exact HB.out | apply below_alloc | apply pw_below_drewN | apply below_drew1) | exact HB.out))) : w.heap.size ≤ gb228)); have n4_ := Aside0.mk ((by rw [hg]; exact (below_size (by repeat (first | (with_reducible first | exact HB.out | apply below_alloc | apply pw_below_drewN | apply below_drew1) | exact HB.out))) : w.heap.size ≤ gb228)); clear HO0_1; clear HB; have HO0_1 := n0_; have HB := n1_; have BK228 := n2_; have GW228 := n3_; have GE228 := n4_; clear n0_ n1_ n2_ n3_ n4_; clear hb hbox hg))
  (try simp only [Act.put, List.setIfInBounds_toArray, List.set_cons_zero, List.set_cons_succ])
  go_cut [33] (fun v33 wc => ∃ (kq : Nat) (x33_2 : Bool), v33 = .bool x33_2 ∧ Aside0 (switchboardlaw11_ExpertNone.j0 kq l1 x33_2 l0_0 l0_1 = some true) ∧ Aside0 (kq ≤ k) ∧ Aside0 (Kd.V (Kd.slice 3 (Kd.int .i64)) 25 wc w.heap.size (fun k_ => (P0_1_ k_ ∨ w.heap.size ≤ k_) ∧ k_ ≠ gb228) (.slice A0_1 l0_1.length c0_1) l0_1) ∧ Aside0 (wc.heap[gb228]? = some (.cells #[(.slice A0_0 l0_0.length c0_0), (.slice A0_1 l0_1.length c0_1)] 24 (0, 0))) ∧ Aside0 (Below w.heap.size w wc))
  case first =>
    have H := HC3.out
    clear HC3
    replace H := Option.bind_eq_some_iff.mp H
    obtain ⟨t229, A50, H⟩ := H
    replace H : (if t229 = true then ((switchboardref03_Small.f k l0_1).bind fun t230 => (if t230 = true then (if (l1.length : Int) > 30 then (switchboardlaw11_ExpertNone.j0 k l1 true l0_0 l0_1) else ((switchboardref11_Right.f k l0_0 l0_1 (l1.length : Int)).bind fun t231 => (switchboardlaw11_ExpertNone.j0 k l1 (!t231) l0_0 l0_1))) else (switchboardlaw11_ExpertNone.j0 k l1 true l0_0 l0_1))) else (switchboardlaw11_ExpertNone.j0 k l1 true l0_0 l0_1)) = some true := H
    have A5 := Aside0.mk A50
    clear A50
    by_cases c6 : t229 = true
    · subst c6
      have H1 : ((switchboardref03_Small.f k l0_1).bind fun t230 => (if t230 = true then (if (l1.length : Int) > 30 then (switchboardlaw11_ExpertNone.j0 k l1 true l0_0 l0_1) else ((switchboardref11_Right.f k l0_0 l0_1 (l1.length : Int)).bind fun t231 => (switchboardlaw11_ExpertNone.j0 k l1 (!t231) l0_0 l0_1))) else (switchboardlaw11_ExpertNone.j0 k l1 true l0_0 l0_1))) = some true := by rw [if_pos rfl] at H; exact H
      clear H
      have H := H1
      clear H1
      replace H := Option.bind_eq_some_iff.mp H
      obtain ⟨t230, A70, H⟩ := H
      replace H : (if t230 = true then (if (l1.length : Int) > 30 then (switchboardlaw11_ExpertNone.j0 k l1 true l0_0 l0_1) else ((switchboardref11_Right.f k l0_0 l0_1 (l1.length : Int)).bind fun t231 => (switchboardlaw11_ExpertNone.j0 k l1 (!t231) l0_0 l0_1))) else (switchboardlaw11_ExpertNone.j0 k l1 true l0_0 l0_1)) = some true := H
      have A7 := Aside0.mk A70
      clear A70
      by_cases c8 : t230 = true
      · subst c8
        have H1 : (if (l1.length : Int) > 30 then (switchboardlaw11_ExpertNone.j0 k l1 true l0_0 l0_1) else ((switchboardref11_Right.f k l0_0 l0_1 (l1.length : Int)).bind fun t231 => (switchboardlaw11_ExpertNone.j0 k l1 (!t231) l0_0 l0_1))) = some true := by rw [if_pos rfl] at H; exact H
        clear H
        have H := H1
        clear H1
        by_cases c9 : (l1.length : Int) > 30
        · rw [if_pos c9] at H
          have c9b0 : decide (30 < (l1.length : Int)) = true := decide_eq_true c9
          have c9b1 : decide (30 < l1.length) = true := decide_eq_true (by omega)
          clear c9
          (first | rw [c9b0] | (simp only [i64_w, i32_w]; rw [c9b0]) | skip)
          have H' := Aside0.mk H
          clear H
          have hcz10_0 : w4.cell? ⟨gb228, 0, none⟩ = some (.slice A0_0 l0_0.length c0_0) := (blk_cell BK228.out 0).trans rfl
          have hcz10_1 : w4.cell? ⟨gb228, 1, none⟩ = some (.slice A0_1 l0_1.length c0_1) := (blk_cell BK228.out 1).trans rfl
          have hfz10_0 := blk_frozen BK228.out 0
          have hfz10_1 := blk_frozen BK228.out 1
          go_wp2_with (first | ((with_reducible refine gate_callee (f := 7) rfl ?_); refine goesL_ (some 14) rfl rfl Try.func7 (by kernel_rfl) rfl #[.slice A0_0 l0_0.length c0_0] rfl (by (try simp only [List.map_toArray, List.map_cons, List.map_nil]); first | done | rfl | (simp only [List.length_drop, List.length_take]; rfl)) ?_; (with_reducible refine (switchboardref03_Small.calls k _ _ l0_0 true _ ?side1 ?side2 A5.out).mono ?_); (case side1 => repeat (first | exact (Kd.C_below HR0_0.out HB.out) | (with_reducible refine Kd.C_alloc ?_ _) | (with_reducible refine Kd.C_drewN ?_ _) | (with_reducible refine Kd.C_drew ?_))); (case side2 => exact HC0_0.out); rintro e w' ⟨rfl, ⟨nd, rfl⟩⟩; refine ⟨_, rfl, ?_⟩) | (go_at_call 7; (with_reducible refine (switchboardref03_Small.calls k _ _ l0_1 true _ ?side1 ?side2 A7.out).mono ?_); (case side1 => repeat (first | exact (Kd.V_reads' HO0_1.out).2.2 | (with_reducible refine Kd.C_alloc ?_ _) | (with_reducible refine Kd.C_drewN ?_ _) | (with_reducible refine Kd.C_drew ?_))); (case side2 => exact (Kd.V_reads' HO0_1.out).2.1); rintro e w' ⟨rfl, ⟨nd, rfl⟩⟩))
          go_meet
          case rel => exact ⟨_, (true), (by first | rfl | (simp; done) | (simp [*]; done)), H', ⟨by first | omega | exact Nat.le_refl _⟩, ⟨by (with_reducible repeat (first | apply Kd.V_alloc | apply Kd.V_drewN | apply Kd.V_drew)); exact HO0_1.out⟩, ⟨by (with_reducible repeat (first | refine blk_drewN ?_ _ | refine blk_drew ?_ | refine blk_alloc ?_ _)); exact BK228.out⟩, ⟨by repeat (first | (with_reducible first | exact HB.out | apply below_alloc | apply pw_below_drewN | apply below_drew1 | refine below_set ?_ GE228.out) | exact HB.out)⟩⟩
        · rw [if_neg c9] at H
          have c9b0 : decide (30 < (l1.length : Int)) = false := decide_eq_false c9
          have c9b1 : decide (30 < l1.length) = false := decide_eq_false (by omega)
          clear c9
          (first | rw [c9b0] | (simp only [i64_w, i32_w]; rw [c9b0]) | skip)
          replace H := Option.bind_eq_some_iff.mp H
          obtain ⟨t231, A110, H⟩ := H
          replace H : (switchboardlaw11_ExpertNone.j0 k l1 (!t231) l0_0 l0_1) = some true := H
          have A11 := Aside0.mk A110
          clear A110
          have H' := Aside0.mk H
          clear H
          have hcz12_0 : w4.cell? ⟨gb228, 0, none⟩ = some (.slice A0_0 l0_0.length c0_0) := (blk_cell BK228.out 0).trans rfl
          have hcz12_1 : w4.cell? ⟨gb228, 1, none⟩ = some (.slice A0_1 l0_1.length c0_1) := (blk_cell BK228.out 1).trans rfl
          have hfz12_0 := blk_frozen BK228.out 0
          have hfz12_1 := blk_frozen BK228.out 1
          go_wp2_with (first | ((with_reducible refine gate_callee (f := 7) rfl ?_); refine goesL_ (some 14) rfl rfl Try.func7 (by kernel_rfl) rfl #[.slice A0_0 l0_0.length c0_0] rfl (by (try simp only [List.map_toArray, List.map_cons, List.map_nil]); first | done | rfl | (simp only [List.length_drop, List.length_take]; rfl)) ?_; (with_reducible refine (switchboardref03_Small.calls k _ _ l0_0 true _ ?side1 ?side2 A5.out).mono ?_); (case side1 => repeat (first | exact (Kd.C_below HR0_0.out HB.out) | (with_reducible refine Kd.C_alloc ?_ _) | (with_reducible refine Kd.C_drewN ?_ _) | (with_reducible refine Kd.C_drew ?_))); (case side2 => exact HC0_0.out); rintro e w' ⟨rfl, ⟨nd, rfl⟩⟩; refine ⟨_, rfl, ?_⟩) | (go_at_call 7; (with_reducible refine (switchboardref03_Small.calls k _ _ l0_1 true _ ?side1 ?side2 A7.out).mono ?_); (case side1 => repeat (first | exact (Kd.V_reads' HO0_1.out).2.2 | (with_reducible refine Kd.C_alloc ?_ _) | (with_reducible refine Kd.C_drewN ?_ _) | (with_reducible refine Kd.C_drew ?_))); (case side2 => exact (Kd.V_reads' HO0_1.out).2.1); rintro e w' ⟨rfl, ⟨nd, rfl⟩⟩) | (go_at_call 11; (with_reducible refine (switchboardref11_Right.calls k _ _ l0_0 _ _ l0_1 (l1.length : Int) t231 _ ?side1 ?side2 ?side3 ?side4 A11.out).mono ?_); (case side1 => repeat (first | exact (Kd.C_below HR0_0.out (by repeat (first | (with_reducible first | exact HB.out | apply below_alloc | apply pw_below_drewN | apply below_drew1 | refine below_set ?_ GE228.out) | exact HB.out))) | (with_reducible refine Kd.C_alloc ?_ _) | (with_reducible refine Kd.C_drewN ?_ _) | (with_reducible refine Kd.C_drew ?_))); (case side2 => exact HC0_0.out); (case side3 => repeat (first | exact (Kd.V_reads' HO0_1.out).2.2 | (with_reducible refine Kd.C_alloc ?_ _) | (with_reducible refine Kd.C_drewN ?_ _) | (with_reducible refine Kd.C_drew ?_))); (case side4 => exact (Kd.V_reads' HO0_1.out).2.1); rintro e w13 ⟨rfl, hb⟩; have n0_ := Aside0.mk (Kd.V_below (by (with_reducible repeat (first | apply Kd.V_alloc | apply Kd.V_drewN | apply Kd.V_drew)); exact HO0_1.out) hb); have n1_ := Aside0.mk (blk_below (g := gb228) (o := .cells #[.slice A0_0 l0_0.length c0_0, .slice A0_1 l0_1.length c0_1] 24 (0, 0)) (by (with_reducible repeat (first | refine blk_drewN ?_ _ | refine blk_drew ?_ | refine blk_alloc ?_ _)); exact BK228.out) hb); have n2_ := Aside0.mk (below_step (by repeat (first | (with_reducible first | exact HB.out | apply below_alloc | apply pw_below_drewN | apply below_drew1 | refine below_set ?_ GE228.out) | exact HB.out)) hb); clear HO0_1; clear BK228; clear HB; have HO0_1 := n0_; have BK228 := n1_; have HB := n2_; clear n0_ n1_ n2_; (try clear hb); (try clear hb2); (try clear hk); (try clear hi)))
          go_meet
          case rel => exact ⟨_, (!t231), (by first | rfl | (simp; done) | (simp [*]; done)), H', ⟨by first | omega | exact Nat.le_refl _⟩, ⟨by (with_reducible repeat (first | apply Kd.V_alloc | apply Kd.V_drewN | apply Kd.V_drew)); exact HO0_1.out⟩, ⟨by (with_reducible repeat (first | refine blk_drewN ?_ _ | refine blk_drew ?_ | refine blk_alloc ?_ _)); exact BK228.out⟩, ⟨by repeat (first | (with_reducible first | exact HB.out | apply below_alloc | apply pw_below_drewN | apply below_drew1 | refine below_set ?_ GE228.out) | exact HB.out)⟩⟩
      · replace c8 := Bool.eq_false_iff.mpr c8
        subst c8
        have H1 : (switchboardlaw11_ExpertNone.j0 k l1 true l0_0 l0_1) = some true := by rw [if_neg (show ¬ (false = true) by decide)] at H; exact H
        clear H
        have H := H1
        clear H1
        have H' := Aside0.mk H
        clear H
        have hcz14_0 : w4.cell? ⟨gb228, 0, none⟩ = some (.slice A0_0 l0_0.length c0_0) := (blk_cell BK228.out 0).trans rfl
        have hcz14_1 : w4.cell? ⟨gb228, 1, none⟩ = some (.slice A0_1 l0_1.length c0_1) := (blk_cell BK228.out 1).trans rfl
        have hfz14_0 := blk_frozen BK228.out 0
        have hfz14_1 := blk_frozen BK228.out 1
        go_wp2_with (first | ((with_reducible refine gate_callee (f := 7) rfl ?_); refine goesL_ (some 14) rfl rfl Try.func7 (by kernel_rfl) rfl #[.slice A0_0 l0_0.length c0_0] rfl (by (try simp only [List.map_toArray, List.map_cons, List.map_nil]); first | done | rfl | (simp only [List.length_drop, List.length_take]; rfl)) ?_; (with_reducible refine (switchboardref03_Small.calls k _ _ l0_0 true _ ?side1 ?side2 A5.out).mono ?_); (case side1 => repeat (first | exact (Kd.C_below HR0_0.out HB.out) | (with_reducible refine Kd.C_alloc ?_ _) | (with_reducible refine Kd.C_drewN ?_ _) | (with_reducible refine Kd.C_drew ?_))); (case side2 => exact HC0_0.out); rintro e w' ⟨rfl, ⟨nd, rfl⟩⟩; refine ⟨_, rfl, ?_⟩) | (go_at_call 7; (with_reducible refine (switchboardref03_Small.calls k _ _ l0_1 false _ ?side1 ?side2 A7.out).mono ?_); (case side1 => repeat (first | exact (Kd.V_reads' HO0_1.out).2.2 | (with_reducible refine Kd.C_alloc ?_ _) | (with_reducible refine Kd.C_drewN ?_ _) | (with_reducible refine Kd.C_drew ?_))); (case side2 => exact (Kd.V_reads' HO0_1.out).2.1); rintro e w' ⟨rfl, ⟨nd, rfl⟩⟩))
        go_meet
        case rel => exact ⟨_, (true), (by first | rfl | (simp; done) | (simp [*]; done)), H', ⟨by first | omega | exact Nat.le_refl _⟩, ⟨by (with_reducible repeat (first | apply Kd.V_alloc | apply Kd.V_drewN | apply Kd.V_drew)); exact HO0_1.out⟩, ⟨by (with_reducible repeat (first | refine blk_drewN ?_ _ | refine blk_drew ?_ | refine blk_alloc ?_ _)); exact BK228.out⟩, ⟨by repeat (first | (with_reducible first | exact HB.out | apply below_alloc | apply pw_below_drewN | apply below_drew1 | refine below_set ?_ GE228.out) | exact HB.out)⟩⟩
    · replace c6 := Bool.eq_false_iff.mpr c6
      subst c6
      have H1 : (switchboardlaw11_ExpertNone.j0 k l1 true l0_0 l0_1) = some true := by rw [if_neg (show ¬ (false = true) by decide)] at H; exact H
      clear H
      have H := H1
      clear H1
      have H' := Aside0.mk H
      clear H
      have hcz15_0 : w4.cell? ⟨gb228, 0, none⟩ = some (.slice A0_0 l0_0.length c0_0) := (blk_cell BK228.out 0).trans rfl
      have hcz15_1 : w4.cell? ⟨gb228, 1, none⟩ = some (.slice A0_1 l0_1.length c0_1) := (blk_cell BK228.out 1).trans rfl
      have hfz15_0 := blk_frozen BK228.out 0
      have hfz15_1 := blk_frozen BK228.out 1
      go_wp2_with (first | ((with_reducible refine gate_callee (f := 7) rfl ?_); refine goesL_ (some 14) rfl rfl Try.func7 (by kernel_rfl) rfl #[.slice A0_0 l0_0.length c0_0] rfl (by (try simp only [List.map_toArray, List.map_cons, List.map_nil]); first | done | rfl | (simp only [List.length_drop, List.length_take]; rfl)) ?_; (with_reducible refine (switchboardref03_Small.calls k _ _ l0_0 false _ ?side1 ?side2 A5.out).mono ?_); (case side1 => repeat (first | exact (Kd.C_below HR0_0.out HB.out) | (with_reducible refine Kd.C_alloc ?_ _) | (with_reducible refine Kd.C_drewN ?_ _) | (with_reducible refine Kd.C_drew ?_))); (case side2 => exact HC0_0.out); rintro e w' ⟨rfl, ⟨nd, rfl⟩⟩; refine ⟨_, rfl, ?_⟩))
      go_meet
      case rel => exact ⟨_, (true), (by first | rfl | (simp; done) | (simp [*]; done)), H', ⟨by first | omega | exact Nat.le_refl _⟩, ⟨by (with_reducible repeat (first | apply Kd.V_alloc | apply Kd.V_drewN | apply Kd.V_drew)); exact HO0_1.out⟩, ⟨by (with_reducible repeat (first | refine blk_drewN ?_ _ | refine blk_drew ?_ | refine blk_alloc ?_ _)); exact BK228.out⟩, ⟨by repeat (first | (with_reducible first | exact HB.out | apply below_alloc | apply pw_below_drewN | apply below_drew1 | refine below_set ?_ GE228.out) | exact HB.out)⟩⟩
  case rest =>
    clear HC3
    try clear c1
    try clear p2
    try clear c4
    try clear c6
    try clear c7
    try clear c8
    try clear c9
    try clear c9b0
    try clear c9b1
    try clear hcz10_0
    try clear hcz10_1
    try clear hcz12_0
    try clear hcz12_1
    try clear hcz14_0
    try clear hcz14_1
    try clear hcz15_0
    try clear hcz15_1
    try clear hfz10_0
    try clear hfz10_1
    try clear hfz12_0
    try clear hfz12_1
    try clear hfz14_0
    try clear hfz14_1
    try clear hfz15_0
    try clear hfz15_1
    obtain ⟨kq, x33_2, rfl, HA, HJ2, HO_229001, BK228, HB⟩ := hcut
    cases kq with
    | zero => exact absurd HA.out (by simp [switchboardlaw11_ExpertNone.j0])
    | succ kj2 =>
      have H := HA.out
      clear HA
      simp only [switchboardlaw11_ExpertNone.j0] at H
      by_cases c16 : x33_2 = true
      · subst c16
        have H1 : ((switchboardlaw11_awake.f kj2).bind fun t232 => (some t232)) = some true := by rw [if_pos rfl] at H; exact H
        clear H
        have H := H1
        clear H1
        replace H := Option.bind_eq_some_iff.mp H
        obtain ⟨t232, A170, H⟩ := H
        replace H : (some t232) = some true := H
        have A17 := Aside0.mk A170
        clear A170
        have hr_ := Aside0.mk (Option.some.inj H)
        go_wp2_with (first | ((with_reducible refine gate_callee (f := 8) rfl ?_); refine goesL_ (some 34) rfl rfl Try.func8 (by kernel_rfl) rfl #[] rfl (by (try simp only [List.map_toArray, List.map_cons, List.map_nil]); first | done | rfl | (simp only [List.length_drop, List.length_take]; rfl)) ?_; (with_reducible refine (switchboardlaw11_awake.calls kj2  t232 _ A17.out).mono ?_); rintro e w18 ⟨rfl, hb⟩; refine ⟨_, rfl, ?_⟩; have n0_ := Aside0.mk (Kd.V_below (by (with_reducible repeat (first | apply Kd.V_alloc | apply Kd.V_drewN | apply Kd.V_drew)); exact HO_229001.out) hb); have n1_ := Aside0.mk (blk_below (g := gb228) (o := .cells #[.slice A0_0 l0_0.length c0_0, .slice A0_1 l0_1.length c0_1] 24 (0, 0)) (by (with_reducible repeat (first | refine blk_drewN ?_ _ | refine blk_drew ?_ | refine blk_alloc ?_ _)); exact BK228.out) hb); have n2_ := Aside0.mk (below_step (by repeat (first | (with_reducible first | exact HB.out | apply below_alloc | apply pw_below_drewN | apply below_drew1 | refine below_set ?_ GE228.out) | exact HB.out)) hb); clear HO_229001; clear BK228; clear HB; have HO_229001 := n0_; have BK228 := n1_; have HB := n2_; clear n0_ n1_ n2_; (try clear hb); (try clear hb2); (try clear hk); (try clear hi)))
        go_ret
        exact ⟨by first | rfl | exact congrArg (fun b_ => Ending.returned (Value.bool b_)) hr_.out | exact congrArg (fun b_ => Ending.returned (Value.bool b_)) hr_.out | (simp [errW_none, errW_some] <;> rfl) | (simp [*, errW_none, errW_some] <;> rfl), by repeat (first | (with_reducible first | exact HB.out | apply below_alloc | apply pw_below_drewN | apply below_drew1 | refine below_set ?_ GE228.out) | exact HB.out)⟩
      · replace c16 := Bool.eq_false_iff.mpr c16
        subst c16
        have H1 : (if 0 ≤ (l1.length : Int) then (if ((l1.length : Int) : Int).toNat ≤ 35184372088832 then ((expert_Run.f kj2 l0_0 l0_1 (List.replicate ((l1.length : Int) : Int).toNat 0)).bind fun bt236 => ((some (([] : List (List Int)) : List (List Int))).bind fun y240 => (if y240.length + l0_1.length < 5864062014805 then ((some (y240 ++ l0_1 : List (List Int))).bind fun y243 => (if 0 ≤ (l0_0.length : Int) then (if ((l0_0.length : Int) : Int).toNat ≤ 35184372088832 then (if 0 < (y243.length : Int) then ((expert_Run.f kj2 l0_0 (y243.set (0 : Int).toNat (List.replicate ((l0_0.length : Int) : Int).toNat 0)) l1).bind fun bt250 => (switchboardlaw11_ExpertNone.l0 kj2 l1 bt236.1 bt236.2 bt250.1 bt250.2 bt236.1 (bt236.1.length : Int) 0)) else (none)) else (none)) else (none))) else (none)))) else (none)) else (none)) = some true := by rw [if_neg (show ¬ (false = true) by decide)] at H; exact H
        clear H
        have H := H1
        clear H1
        by_cases c19 : 0 ≤ (l1.length : Int)
        · rw [if_pos c19] at H
          have c19b0 := eq_true c19
          have c19b1 : decide (0 ≤ (l1.length : Int)) = true := decide_eq_true c19
          clear c19
          by_cases c20 : ((l1.length : Int) : Int).toNat ≤ 35184372088832
          · rw [if_pos c20] at H
            have c20b0 := eq_true c20
            have c20b1 : decide (((l1.length : Int) : Int).toNat ≤ 35184372088832) = true := decide_eq_true c20
            clear c20
            obtain ⟨y233, hy233⟩ : ∃ y_ : List Int, y_ = (List.replicate ((l1.length : Int) : Int).toNat 0) := ⟨_, rfl⟩
            replace H : ((expert_Run.f kj2 l0_0 l0_1 y233).bind fun bt236 => ((some (([] : List (List Int)) : List (List Int))).bind fun y240 => (if y240.length + l0_1.length < 5864062014805 then ((some (y240 ++ l0_1 : List (List Int))).bind fun y243 => (if 0 ≤ (l0_0.length : Int) then (if ((l0_0.length : Int) : Int).toNat ≤ 35184372088832 then (if 0 < (y243.length : Int) then ((expert_Run.f kj2 l0_0 (y243.set (0 : Int).toNat (List.replicate ((l0_0.length : Int) : Int).toNat 0)) l1).bind fun bt250 => (switchboardlaw11_ExpertNone.l0 kj2 l1 bt236.1 bt236.2 bt250.1 bt250.2 bt236.1 (bt236.1.length : Int) 0)) else (none)) else (none)) else (none))) else (none)))) = some true := by first | (rw [hy233]; with_reducible exact H) | (have H2_ := (Option.bind_some _ _).symm.trans H; rw [hy233]; with_reducible exact H2_) | (have H2_ := (Option.bind_some _ _).symm.trans H; with_reducible exact H2_) | with_reducible exact H | (rw [hy233]; exact H) | exact H
            have Ny233 := Aside0.mk hy233
            clear hy233
            replace H := Option.bind_eq_some_iff.mp H
            obtain ⟨⟨t236, t239⟩, A210, H⟩ := H
            replace H : ((some (([] : List (List Int)) : List (List Int))).bind fun y240 => (if y240.length + l0_1.length < 5864062014805 then ((some (y240 ++ l0_1 : List (List Int))).bind fun y243 => (if 0 ≤ (l0_0.length : Int) then (if ((l0_0.length : Int) : Int).toNat ≤ 35184372088832 then (if 0 < (y243.length : Int) then ((expert_Run.f kj2 l0_0 (y243.set (0 : Int).toNat (List.replicate ((l0_0.length : Int) : Int).toNat 0)) l1).bind fun bt250 => (switchboardlaw11_ExpertNone.l0 kj2 l1 t236 t239 bt250.1 bt250.2 t236 (t236.length : Int) 0)) else (none)) else (none)) else (none))) else (none))) = some true := H
            have A21 := Aside0.mk A210
            clear A210
            obtain ⟨y240, hy240⟩ : ∃ y_ : List (List Int), y_ = (([] : List (List Int))) := ⟨_, rfl⟩
            replace H : (if y240.length + l0_1.length < 5864062014805 then ((some (y240 ++ l0_1 : List (List Int))).bind fun y243 => (if 0 ≤ (l0_0.length : Int) then (if ((l0_0.length : Int) : Int).toNat ≤ 35184372088832 then (if 0 < (y243.length : Int) then ((expert_Run.f kj2 l0_0 (y243.set (0 : Int).toNat (List.replicate ((l0_0.length : Int) : Int).toNat 0)) l1).bind fun bt250 => (switchboardlaw11_ExpertNone.l0 kj2 l1 t236 t239 bt250.1 bt250.2 t236 (t236.length : Int) 0)) else (none)) else (none)) else (none))) else (none)) = some true := by first | (rw [hy240]; with_reducible exact H) | (have H2_ := (Option.bind_some _ _).symm.trans H; rw [hy240]; with_reducible exact H2_) | (have H2_ := (Option.bind_some _ _).symm.trans H; with_reducible exact H2_) | with_reducible exact H | (rw [hy240]; exact H) | exact H
            have Ny240 := Aside0.mk hy240
            clear hy240
            by_cases c22 : y240.length + l0_1.length < 5864062014805
            · rw [if_pos c22] at H
              have LMc22 := Aside0.mk c22
              clear c22
              obtain ⟨y243, hy243⟩ : ∃ y_ : List (List Int), y_ = (y240 ++ l0_1) := ⟨_, rfl⟩
              replace H : (if 0 ≤ (l0_0.length : Int) then (if ((l0_0.length : Int) : Int).toNat ≤ 35184372088832 then (if 0 < (y243.length : Int) then ((expert_Run.f kj2 l0_0 (y243.set (0 : Int).toNat (List.replicate ((l0_0.length : Int) : Int).toNat 0)) l1).bind fun bt250 => (switchboardlaw11_ExpertNone.l0 kj2 l1 t236 t239 bt250.1 bt250.2 t236 (t236.length : Int) 0)) else (none)) else (none)) else (none)) = some true := by first | (rw [hy243]; with_reducible exact H) | (have H2_ := (Option.bind_some _ _).symm.trans H; rw [hy243]; with_reducible exact H2_) | (have H2_ := (Option.bind_some _ _).symm.trans H; with_reducible exact H2_) | with_reducible exact H | (rw [hy243]; exact H) | exact H
              have Ny243 := Aside0.mk hy243
              clear hy243
              by_cases c23 : 0 ≤ (l0_0.length : Int)
              · rw [if_pos c23] at H
                have c23b0 := eq_true c23
                have c23b1 : decide (0 ≤ (l0_0.length : Int)) = true := decide_eq_true c23
                clear c23
                by_cases c24 : ((l0_0.length : Int) : Int).toNat ≤ 35184372088832
                · rw [if_pos c24] at H
                  have c24b0 := eq_true c24
                  have c24b1 : decide (((l0_0.length : Int) : Int).toNat ≤ 35184372088832) = true := decide_eq_true c24
                  clear c24
                  obtain ⟨y246, hy246⟩ : ∃ y_ : List Int, y_ = (List.replicate ((l0_0.length : Int) : Int).toNat 0) := ⟨_, rfl⟩
                  replace H : (if 0 < (y243.length : Int) then ((expert_Run.f kj2 l0_0 (y243.set (0 : Int).toNat y246) l1).bind fun bt250 => (switchboardlaw11_ExpertNone.l0 kj2 l1 t236 t239 bt250.1 bt250.2 t236 (t236.length : Int) 0)) else (none)) = some true := by first | (rw [hy246]; with_reducible exact H) | (have H2_ := (Option.bind_some _ _).symm.trans H; rw [hy246]; with_reducible exact H2_) | (have H2_ := (Option.bind_some _ _).symm.trans H; with_reducible exact H2_) | with_reducible exact H | (rw [hy246]; exact H) | exact H
                  have Ny246 := Aside0.mk hy246
                  clear hy246
                  by_cases c25 : 0 < (y243.length : Int)
                  · rw [if_pos c25] at H
                    have c25b0 : decide (0 < (y243.length : Int)) = true := decide_eq_true c25
                    have c25b1 : decide (0 < y243.length) = true := decide_eq_true (by omega)
                    clear c25
                    obtain ⟨y249, hy249⟩ : ∃ y_ : List (List Int), y_ = (y243.set (0 : Int).toNat y246) := ⟨_, rfl⟩
                    replace H : ((expert_Run.f kj2 l0_0 y249 l1).bind fun bt250 => (switchboardlaw11_ExpertNone.l0 kj2 l1 t236 t239 bt250.1 bt250.2 t236 (t236.length : Int) 0)) = some true := by first | (rw [hy249]; with_reducible exact H) | (have H2_ := (Option.bind_some _ _).symm.trans H; rw [hy249]; with_reducible exact H2_) | (have H2_ := (Option.bind_some _ _).symm.trans H; with_reducible exact H2_) | with_reducible exact H | (rw [hy249]; exact H) | exact H
                    have Ny249 := Aside0.mk hy249
                    clear hy249
                    replace H := Option.bind_eq_some_iff.mp H
                    obtain ⟨⟨t250, t253⟩, A270, H⟩ := H
                    replace H : (switchboardlaw11_ExpertNone.l0 kj2 l1 t236 t239 t250 t253 t236 (t236.length : Int) 0) = some true := H
                    have A27 := Aside0.mk A270
                    clear A270
                    have H' := Aside0.mk H
                    clear H
                    try go_wp2
                    have n0_ := Aside0.mk (Kd.V_drew HO_229001.out)
                    have n1_ := Aside0.mk (blk_drew BK228.out)
                    have n2_ := Aside0.mk (below_drew1 HB.out)
                    clear HO_229001
                    clear BK228
                    clear HB
                    have HO_229001 := n0_
                    have BK228 := n1_
                    have HB := n2_
                    clear n0_ n1_ n2_
                    refine start_ (n := 10) (S := fun w' => w'.cell? ⟨gb228, 0, none⟩ = some (.slice A0_0 l0_0.length c0_0) ∧ w'.cell? ⟨gb228, 1, none⟩ = some (.slice A0_1 l0_1.length c0_1)) (ds := []) #[false, false, false, false, false, false, false, false, false, false] (by kernel_rfl) rfl rfl ⟨(blk_cell BK228.out 0).trans rfl, (blk_cell BK228.out 1).trans rfl⟩ (fun hHeld => ?_); refine with_tabW switchboardlaw11_ExpertNone.tab3 switchboardlaw11_ExpertNone.bits3 (fun HT_ HW_ => ?_)
                    generalize wc.drew = w28 at HO_229001 BK228 HB hHeld ⊢
                    refine pure_ (i := 1) (N := some 37) (v := ?_) (a' := ?_) #[false, true, false, false, false, false, false, false, false, false] rfl rfl (any_of HT_.out (by kernel_rfl)) (fun _ _ _ h => h) (Or.inl ⟨by rfl, ?_⟩) ?_ ?_
                    rotate_left
                    · intro w'
                      go_simp
                      with_reducible rfl
                    rotate_left
                    · simp only [Act.put, List.setIfInBounds_toArray, List.set_cons_zero, List.set_cons_succ, i64_w, i32_w]
                      rfl
                    refine pure_ (i := 2) (N := some 38) (v := ?_) (a' := ?_) #[false, true, true, false, false, false, false, false, false, false] rfl rfl (any_of HT_.out (by kernel_rfl)) (fun _ _ _ h => h) (Or.inl ⟨by rfl, ?_⟩) ?_ ?_
                    rotate_left
                    · intro w'
                      go_simp
                      with_reducible rfl
                    rotate_left
                    · simp only [Act.put, List.setIfInBounds_toArray, List.set_cons_zero, List.set_cons_succ, i64_w, i32_w]
                      rfl
                    refine take_ (i := 0) (N := some 36) (v := ?_) (a' := ?_) #[true, true, true, false, false, false, false, false, false, false] rfl rfl (take_ofW HT_.out HW_.out (by kernel_rfl)) (fun _ _ _ h => h) (Or.inl ⟨by rfl, ?_⟩) hHeld ?_ ?_
                    rotate_left
                    · rintro w' ⟨s0, s1⟩
                      go_simp
                      with_reducible rfl
                    rotate_left
                    · simp only [Act.put, List.setIfInBounds_toArray, List.set_cons_zero, List.set_cons_succ, i64_w, i32_w]
                      rfl
                    refine one_ (i := 3) (N := some 39) #[true, true, true, true, false, false, false, false, false, false] rfl rfl (one_of HT_.out (by kernel_rfl)) (by decide) (fun K hK => ?_)
                    refine Kd.R_make_step (Kd.int .i64) _ 3 (by rfl) (N := 39) rfl 25 _ _ rfl (l1.length : Int) rfl rfl Try.underlying25 (.int .i64 0) 8 info3 rfl (by decide) (by omega) 0 (ok := fun _ => True) (okp := fun _ => True) rfl (fun _ hk => hk) trivial (of_decide_eq_true (by first | (with_reducible assumption) | assumption)) (Nat.le_trans (Nat.mul_le_mul_right _ (of_decide_eq_true (by first | (with_reducible assumption) | assumption) : (l1.length : Int).toNat ≤ 35184372088832)) (by omega)) (Below.refl _ _) (Nat.le_refl _) ?_
                    intro v234 w29 ho30 hb hg_ hnew_
                    clear hg_ hnew_
                    (first | rw [← Ny233.out] at ho30 | (simp only [Int.reduceToNat] at ho30; rw [← Ny233.out] at ho30))
                    have n0_ := Aside0.mk (Kd.V_elder' (by (with_reducible repeat (first | apply Kd.V_alloc | apply Kd.V_drewN | apply Kd.V_drew)); exact HO_229001.out) (Kd.R_base ho30) hb)
                    have n1_ := Aside0.mk (Kd.R_lower (Kd.R_newM (M := fun k_ => (w.heap.size ≤ k_)) ho30 (below_size (by repeat (first | (with_reducible first | exact HB.out | apply below_alloc | apply pw_below_drewN | apply below_drew1 | refine below_set ?_ GE228.out) | exact HB.out))) (fun k_ h_ => h_)) (below_size (by repeat (first | (with_reducible first | exact HB.out | apply below_alloc | apply pw_below_drewN | apply below_drew1 | refine below_set ?_ GE228.out) | exact HB.out))))
                    have n2_ := Aside0.mk (blk_below (g := gb228) (o := .cells #[.slice A0_0 l0_0.length c0_0, .slice A0_1 l0_1.length c0_1] 24 (0, 0)) (by (with_reducible repeat (first | refine blk_drewN ?_ _ | refine blk_drew ?_ | refine blk_alloc ?_ _)); exact BK228.out) hb)
                    have n3_ := Aside0.mk (below_step (by repeat (first | (with_reducible first | exact HB.out | apply below_alloc | apply pw_below_drewN | apply below_drew1 | refine below_set ?_ GE228.out) | exact HB.out)) hb)
                    clear HO_229001
                    clear BK228
                    clear HB
                    have HO_229001 := n0_
                    have HO235 := n1_
                    have BK228 := n2_
                    have HB := n3_
                    clear n0_ n1_ n2_ n3_
                    clear hb ho30
                    obtain ⟨Ao31, co31, eo31⟩ := Kd.R_slice HO235.out
                    (first | subst eo31 | (injection eo31 with f1_ f2_ f3_; have f4_ := f1_.symm; have f5_ := f3_.symm; clear f1_ f2_ f3_; subst f4_; subst f5_))
                    refine hK.out _ _ ⟨(blk_cell BK228.out 0).trans rfl, (blk_cell BK228.out 1).trans rfl⟩ (fun hHeld => ?_)
                    clear hK K
                    refine norm_ (a' := ?_) ?_ ?_
                    rotate_left
                    · show Act.put _ (some 39) _ = _
                      simp only [Act.put, List.setIfInBounds_toArray, List.set_cons_zero, List.set_cons_succ, i64_w, i32_w]
                      rfl
                    refine one_ (i := 4) (N := some 40) #[true, true, true, true, true, false, false, false, false, false] rfl rfl (one_of HT_.out (by kernel_rfl)) (by decide) (fun K hK => ?_)
                    refine goes_ Try.func9 (by kernel_rfl) rfl #[.agg #[.slice A0_0 l0_0.length c0_0, .slice A0_1 l0_1.length c0_1], .slice Ao31 y233.length co31] (by rfl) rfl rfl (by (try simp only [List.map_toArray, List.map_cons, List.map_nil]); first | done | rfl | (simp only [List.length_drop, List.length_take]; rfl)) ?_
                    with_reducible refine (expert_Run.calls kj2 _ _ l0_0 _ _ l0_1 _ _ y233 t236 t239 _ ?side1 ?side2 ?side3 ?side4 ?side5 ?side6 A21.out).mono ?_
                    (case side1 => repeat (first | exact (Kd.C_below HR0_0.out HB.out) | (with_reducible refine Kd.C_alloc ?_ _) | (with_reducible refine Kd.C_drewN ?_ _) | (with_reducible refine Kd.C_drew ?_)))
                    (case side2 => exact HC0_0.out)
                    (case side3 => repeat (first | exact (Kd.V_reads' HO_229001.out).2.2 | (with_reducible refine Kd.C_alloc ?_ _) | (with_reducible refine Kd.C_drewN ?_ _) | (with_reducible refine Kd.C_drew ?_)))
                    (case side4 => exact (Kd.V_reads' HO_229001.out).2.1)
                    (case side5 => repeat (first | exact (Kd.R_reads' HO235.out).2.2 | (with_reducible refine Kd.C_alloc ?_ _) | (with_reducible refine Kd.C_drewN ?_ _) | (with_reducible refine Kd.C_drew ?_)))
                    (case side6 => exact (Kd.R_reads' HO235.out).2.1)
                    rintro e w32 ⟨v237, rfl, ho0, hb⟩
                    refine ⟨_, rfl, ?_⟩
                    have n0_ := Aside0.mk (Kd.V_elder' (by (with_reducible repeat (first | apply Kd.V_alloc | apply Kd.V_drewN | apply Kd.V_drew)); exact HO_229001.out) (Kd.R_base ho0) hb)
                    have n1_ := Aside0.mk (Kd.R_elder' (by (with_reducible repeat (first | apply Kd.R_alloc | apply Kd.R_drewN | apply Kd.R_drew)); exact HO235.out) (Kd.R_base ho0) hb)
                    have n2_ := Aside0.mk (Kd.R_lower (Kd.R_new' (Kd.R_newM (M := fun k_ => (w.heap.size ≤ k_)) ho0 (below_size (by repeat (first | (with_reducible first | exact HB.out | apply below_alloc | apply pw_below_drewN | apply below_drew1 | refine below_set ?_ GE228.out) | exact HB.out))) (fun k_ h_ => h_)) (Kd.R_lt (by (with_reducible repeat (first | apply Kd.R_alloc | apply Kd.R_drewN | apply Kd.R_drew)); exact HO235.out))) (below_size (by repeat (first | (with_reducible first | exact HB.out | apply below_alloc | apply pw_below_drewN | apply below_drew1 | refine below_set ?_ GE228.out) | exact HB.out))))
                    have n3_ := Aside0.mk (blk_below (g := gb228) (o := .cells #[.slice A0_0 l0_0.length c0_0, .slice A0_1 l0_1.length c0_1] 24 (0, 0)) (by (with_reducible repeat (first | refine blk_drewN ?_ _ | refine blk_drew ?_ | refine blk_alloc ?_ _)); exact BK228.out) hb)
                    have n4_ := Aside0.mk (below_step (by repeat (first | (with_reducible first | exact HB.out | apply below_alloc | apply pw_below_drewN | apply below_drew1 | refine below_set ?_ GE228.out) | exact HB.out)) hb)
                    clear HO_229001
                    clear HO235
                    clear BK228
                    clear HB
                    have HO_229001 := n0_
                    have HO235 := n1_
                    have HO238 := n2_
                    have BK228 := n3_
                    have HB := n4_
                    clear n0_ n1_ n2_ n3_ n4_
                    (try clear hb)
                    (try clear hb2)
                    (try clear hk)
                    (try clear hi)
                    (try clear ho0)
                    refine hK.out _ _ ⟨(blk_cell BK228.out 0).trans rfl, (blk_cell BK228.out 1).trans rfl⟩ (fun hHeld => ?_)
                    clear hK K
                    refine norm_ (a' := ?_) ?_ ?_
                    rotate_left
                    · show Act.put _ (some 40) _ = _
                      simp only [Act.put, List.setIfInBounds_toArray, List.set_cons_zero, List.set_cons_succ, i64_w, i32_w]
                      rfl
                    refine pure_ (i := 5) (N := some 35) (v := ?_) (a' := ?_) #[true, true, true, true, true, true, false, false, false, false] rfl rfl (any_of HT_.out (by kernel_rfl)) (fun _ _ _ h => h) (Or.inl ⟨by rfl, ?_⟩) ?_ ?_
                    rotate_left
                    · intro w'
                      go_simp
                      with_reducible rfl
                    rotate_left
                    · simp only [Act.put, List.setIfInBounds_toArray, List.set_cons_zero, List.set_cons_succ, i64_w, i32_w]
                      rfl
                    refine pure_ (i := 6) (N := some 41) (v := ?_) (a' := ?_) #[true, true, true, true, true, true, true, false, false, false] rfl rfl (any_of HT_.out (by kernel_rfl)) (fun _ _ _ h => h) (Or.inl ⟨by rfl, ?_⟩) ?_ ?_
                    rotate_left
                    · intro w'
                      go_simp
                      with_reducible rfl
                    rotate_left
                    · simp only [Act.put, List.setIfInBounds_toArray, List.set_cons_zero, List.set_cons_succ, i64_w, i32_w]
                      rfl
                    refine pure_ (i := 7) (N := some 42) (v := ?_) (a' := ?_) #[true, true, true, true, true, true, true, true, false, false] rfl rfl (any_of HT_.out (by kernel_rfl)) (fun _ _ _ h => h) (Or.inl ⟨by rfl, ?_⟩) ?_ ?_
                    rotate_left
                    · intro w'
                      go_simp
                      with_reducible rfl
                    rotate_left
                    · simp only [Act.put, List.setIfInBounds_toArray, List.set_cons_zero, List.set_cons_succ, i64_w, i32_w]
                      rfl
                    refine pure_ (i := 8) (N := some 5) (v := ?_) (a' := ?_) #[true, true, true, true, true, true, true, true, true, false] rfl rfl (any_of HT_.out (by kernel_rfl)) (fun _ _ _ h => h) (Or.inl ⟨by rfl, ?_⟩) ?_ ?_
                    rotate_left
                    · intro w'
                      go_simp
                      with_reducible rfl
                    rotate_left
                    · simp only [Act.put, List.setIfInBounds_toArray, List.set_cons_zero, List.set_cons_succ, i64_w, i32_w]
                      rfl
                    refine pure_ (i := 9) (N := some 6) (v := ?_) (a' := ?_) #[true, true, true, true, true, true, true, true, true, true] rfl rfl (any_of HT_.out (by kernel_rfl)) (fun _ _ _ h => h) (Or.inl ⟨by rfl, ?_⟩) ?_ ?_
                    rotate_left
                    · intro w'
                      go_simp
                      with_reducible rfl
                    rotate_left
                    · simp only [Act.put, List.setIfInBounds_toArray, List.set_cons_zero, List.set_cons_succ, i64_w, i32_w]
                      rfl
                    refine done_ (done_of HT_.out (by kernel_rfl)) ?_
                    try go_wp2_with (first | ((with_reducible refine gate_dst (N := 43) rfl ?_); (try (refine gate_guard (by rfl) ?_; dsimp only)); refine Kd.N_lit (Kd.slice 3 (Kd.int .i64)) _ 25 ?hg (N' := 43) ?hd (xs := ([] : List (List Int))) (inner := []) (ok := (fun k_ => (P0_1_ k_ ∨ w.heap.size ≤ k_) ∧ some k_ ≠ (.slice Ao31 y233.length co31 : Value).ownBlock ∧ some k_ ≠ (v237 : Value).ownBlock ∧ k_ ≠ gb228)) (okp := (fun k_ => (P0_1_ k_ ∨ w.heap.size ≤ k_) ∧ some k_ ≠ (.slice Ao31 y233.length co31 : Value).ownBlock ∧ some k_ ≠ (v237 : Value).ownBlock ∧ k_ ≠ gb228)) ?hr ?hp (fun _ hk => hk) ((show ∀ k_, w32.heap.size ≤ k_ → (fun k_ => (P0_1_ k_ ∨ w.heap.size ≤ k_) ∧ some k_ ≠ (.slice Ao31 y233.length co31 : Value).ownBlock ∧ some k_ ≠ (v237 : Value).ownBlock ∧ k_ ≠ gb228) k_ from fun k_ hk => ⟨(.inr (Nat.le_trans (below_size (by repeat (first | (with_reducible first | exact HB.out | apply below_alloc | apply pw_below_drewN | apply below_drew1 | refine below_set ?_ GE228.out) | exact HB.out))) hk)), Kd.fresh' (Kd.R_lt (by (with_reducible repeat (first | apply Kd.R_alloc | apply Kd.R_drewN | apply Kd.R_drew)); exact HO235.out)) k_ hk, Kd.fresh' (Kd.R_lt (by (with_reducible repeat (first | apply Kd.R_alloc | apply Kd.R_drewN | apply Kd.R_drew)); exact HO238.out)) k_ hk, Kd.freshB (g := gb228) (o := .cells #[.slice A0_0 l0_0.length c0_0, .slice A0_1 l0_1.length c0_1] 24 (0, 0)) (by (with_reducible repeat (first | refine blk_drewN ?_ _ | refine blk_drew ?_ | refine blk_alloc ?_ _)); exact BK228.out) k_ hk⟩) _ (Nat.le_refl _)) (Below.refl _ _) (Nat.le_refl _) (by simp) ?_; (case hd => rfl); (case hg => rfl); (case hr => first | (go_simp; done) | (go_simp; rfl)); (case hp => exact (Reps.none _ _)); intro v241 w33 ho34 hb hg_ hnew_; clear hg_ hnew_; (first | rw [← Ny240.out] at ho34 | (simp only [Int.reduceToNat] at ho34; rw [← Ny240.out] at ho34)); have n0_ := Aside0.mk (Kd.V_elder' (by (with_reducible repeat (first | apply Kd.V_alloc | apply Kd.V_drewN | apply Kd.V_drew)); exact HO_229001.out) (Kd.N_base ho34) hb); have n1_ := Aside0.mk (Kd.R_below (by (with_reducible repeat (first | apply Kd.R_alloc | apply Kd.R_drewN | apply Kd.R_drew)); exact HO235.out) hb); have n2_ := Aside0.mk (Kd.R_below (by (with_reducible repeat (first | apply Kd.R_alloc | apply Kd.R_drewN | apply Kd.R_drew)); exact HO238.out) hb); have n3_ := Aside0.mk (Kd.N_lower ho34 (below_size (by repeat (first | (with_reducible first | exact HB.out | apply below_alloc | apply pw_below_drewN | apply below_drew1 | refine below_set ?_ GE228.out) | exact HB.out)))); have n4_ := Aside0.mk (blk_below (g := gb228) (o := .cells #[.slice A0_0 l0_0.length c0_0, .slice A0_1 l0_1.length c0_1] 24 (0, 0)) (by (with_reducible repeat (first | refine blk_drewN ?_ _ | refine blk_drew ?_ | refine blk_alloc ?_ _)); exact BK228.out) hb); have n5_ := Aside0.mk (below_step (by repeat (first | (with_reducible first | exact HB.out | apply below_alloc | apply pw_below_drewN | apply below_drew1 | refine below_set ?_ GE228.out) | exact HB.out)) hb); clear HO_229001; clear HO235; clear HO238; clear BK228; clear HB; have HO_229001 := n0_; have HO235 := n1_; have HO238 := n2_; have HO242 := n3_; have BK228 := n4_; have HB := n5_; clear n0_ n1_ n2_ n3_ n4_ n5_; clear hb ho34; have hcz35_0 : w33.cell? ⟨gb228, 0, none⟩ = some (.slice A0_0 l0_0.length c0_0) := (blk_cell BK228.out 0).trans rfl; have hcz35_1 : w33.cell? ⟨gb228, 1, none⟩ = some (.slice A0_1 l0_1.length c0_1) := (blk_cell BK228.out 1).trans rfl; have hfz35_0 := blk_frozen BK228.out 0; have hfz35_1 := blk_frozen BK228.out 1) | ((with_reducible refine gate_builtin (b := .append) (xs := #[.tmp 43, .tmp 45]) rfl ?_); (try (refine gate_guard (by rfl) ?_; dsimp only)); at_builtin; refine Kd.N_append_rows (Kd.slice 3 (Kd.int .i64)) (w0 := w) w.heap.size rfl (.tmp 43) (.tmp 45) 22 25 (.slice none 0 0) 24 rfl Try.underlying22 info25 rfl (by decide) (by omega) v241 y240 l0_1 _ _ _ (fun k_ => (P0_1_ k_ ∨ w.heap.size ≤ k_) ∧ some k_ ≠ (.slice Ao31 y233.length co31 : Value).ownBlock ∧ some k_ ≠ (v237 : Value).ownBlock ∧ k_ ≠ gb228) (fun k_ => ((fun k_ => (P0_1_ k_ ∨ w.heap.size ≤ k_) ∧ some k_ ≠ (.slice Ao31 y233.length co31 : Value).ownBlock ∧ some k_ ≠ (v237 : Value).ownBlock ∧ k_ ≠ gb228)) k_ ∧ some k_ ≠ (v241 : Value).ownBlock) rfl rfl ?aO ?aR (fun _ hk => hk) ?aF ?aB ?aS ?aL ?_; (case aR => exact (by skip; exact Kd.V_F (Kd.V_mono (ok' := (fun k_ => ((fun k_ => (P0_1_ k_ ∨ w.heap.size ≤ k_) ∧ some k_ ≠ (.slice Ao31 y233.length co31 : Value).ownBlock ∧ some k_ ≠ (v237 : Value).ownBlock ∧ k_ ≠ gb228)) k_ ∧ some k_ ≠ (v241 : Value).ownBlock)) (HO_229001.out) (fun k_ hk => ⟨⟨hk.1.1.1.1, ⟨hk.1.1.2, ⟨hk.1.2, hk.1.1.1.2⟩⟩⟩, hk.2⟩)))); (case aB => exact (by repeat (first | (with_reducible first | exact HB.out | apply below_alloc | apply pw_below_drewN | apply below_drew1 | refine below_set ?_ GE228.out) | exact HB.out))); (case aF => exact (fun k_ hk => ⟨(.inr (Nat.le_trans (below_size (by repeat (first | (with_reducible first | exact HB.out | apply below_alloc | apply pw_below_drewN | apply below_drew1 | refine below_set ?_ GE228.out) | exact HB.out))) hk)), Kd.fresh' (Kd.R_lt (by (with_reducible repeat (first | apply Kd.R_alloc | apply Kd.R_drewN | apply Kd.R_drew)); exact HO235.out)) k_ hk, Kd.fresh' (Kd.R_lt (by (with_reducible repeat (first | apply Kd.R_alloc | apply Kd.R_drewN | apply Kd.R_drew)); exact HO238.out)) k_ hk, Kd.freshB (g := gb228) (o := .cells #[.slice A0_0 l0_0.length c0_0, .slice A0_1 l0_1.length c0_1] 24 (0, 0)) (by (with_reducible repeat (first | refine blk_drewN ?_ _ | refine blk_drew ?_ | refine blk_alloc ?_ _)); exact BK228.out) k_ hk⟩)); (case aO => exact (by (with_reducible repeat (first | apply Kd.N_alloc | apply Kd.N_drewN | apply Kd.N_drew)); exact HO242.out)); (case aS => exact (below_size (by repeat (first | (with_reducible first | exact HB.out | apply below_alloc | apply pw_below_drewN | apply below_drew1 | refine below_set ?_ GE228.out) | exact HB.out)))); (case aL => have := LMc22.out; omega); intro v244 w36 ho hb hg hat; rw [← Ny243.out] at ho; have n0_ := Aside0.mk (Kd.V_afterv (ok := (fun k_ => (P0_1_ k_ ∨ w.heap.size ≤ k_) ∧ some k_ ≠ (.slice Ao31 y233.length co31 : Value).ownBlock ∧ some k_ ≠ (v237 : Value).ownBlock ∧ k_ ≠ gb228)) (by (with_reducible repeat (first | apply Kd.V_alloc | apply Kd.V_drewN | apply Kd.V_drew)); exact Kd.V_mono HO_229001.out (fun _ hk => ⟨⟨hk.1.1.1.1, ⟨hk.1.1.2, ⟨hk.1.2, hk.1.1.1.2⟩⟩⟩, hk.2⟩)) hg hat); have n1_ := Aside0.mk (blk_grown (g := gb228) (o := .cells #[.slice A0_0 l0_0.length c0_0, .slice A0_1 l0_1.length c0_1] 24 (0, 0)) (by (with_reducible repeat (first | refine blk_drewN ?_ _ | refine blk_drew ?_ | refine blk_alloc ?_ _)); exact BK228.out) hg (Kd.N_ne HO242.out BK228.out (by decide))); have n2_ := Aside0.mk (Kd.R_over' (by (with_reducible repeat (first | apply Kd.R_alloc | apply Kd.R_drewN | apply Kd.R_drew)); exact HO235.out) (Kd.N_typed (by (with_reducible repeat (first | apply Kd.N_alloc | apply Kd.N_drewN | apply Kd.N_drew)); exact HO242.out)) (by decide) hg); have n3_ := Aside0.mk (Kd.R_over' (by (with_reducible repeat (first | apply Kd.R_alloc | apply Kd.R_drewN | apply Kd.R_drew)); exact HO238.out) (Kd.N_typed (by (with_reducible repeat (first | apply Kd.N_alloc | apply Kd.N_drewN | apply Kd.N_drew)); exact HO242.out)) (by decide) hg); have n4_ := Aside0.mk (hb); have n5_ := Aside0.mk (ho); clear HO_229001; clear BK228; clear HO235; clear HO238; clear HB; clear HO242; have HO_229001 := n0_; have BK228 := n1_; have HO235 := n2_; have HO238 := n3_; have HB := n4_; have HO245 := n5_; clear n0_ n1_ n2_ n3_ n4_ n5_; clear ho hb hg hat; have hcz37_0 : w36.cell? ⟨gb228, 0, none⟩ = some (.slice A0_0 l0_0.length c0_0) := (blk_cell BK228.out 0).trans rfl; have hcz37_1 : w36.cell? ⟨gb228, 1, none⟩ = some (.slice A0_1 l0_1.length c0_1) := (blk_cell BK228.out 1).trans rfl; have hfz37_0 := blk_frozen BK228.out 0; have hfz37_1 := blk_frozen BK228.out 1) | ((with_reducible refine gate_dst (N := 51) rfl ?_); (try (refine gate_guard (by rfl) ?_; dsimp only)); refine Kd.R_make (Kd.int .i64) _ 3 rfl (N := 51) rfl 25 _ _ rfl (l0_0.length : Int) rfl rfl Try.underlying25 (.int .i64 0) 8 info3 rfl (by decide) (by omega) 0 (ok := fun _ => True) (okp := fun _ => True) rfl (fun _ hk => hk) trivial (of_decide_eq_true (by first | (with_reducible assumption) | assumption)) (Nat.le_trans (Nat.mul_le_mul_right _ (of_decide_eq_true (by first | (with_reducible assumption) | assumption) : (l0_0.length : Int).toNat ≤ 35184372088832)) (by omega)) (Below.refl _ _) (Nat.le_refl _) ?_; intro v247 w38 ho39 hb hg_ hnew_; clear hg_ hnew_; (first | rw [← Ny246.out] at ho39 | (simp only [Int.reduceToNat] at ho39; rw [← Ny246.out] at ho39)); have n0_ := Aside0.mk (Kd.V_elder' (by (with_reducible repeat (first | apply Kd.V_alloc | apply Kd.V_drewN | apply Kd.V_drew)); exact HO_229001.out) (Kd.R_base ho39) hb); have n1_ := Aside0.mk (Kd.R_elder' (by (with_reducible repeat (first | apply Kd.R_alloc | apply Kd.R_drewN | apply Kd.R_drew)); exact HO235.out) (Kd.R_base ho39) hb); have n2_ := Aside0.mk (Kd.R_elder' (by (with_reducible repeat (first | apply Kd.R_alloc | apply Kd.R_drewN | apply Kd.R_drew)); exact HO238.out) (Kd.R_base ho39) hb); have n3_ := Aside0.mk (Kd.N_elder' (by (with_reducible repeat (first | apply Kd.N_alloc | apply Kd.N_drewN | apply Kd.N_drew)); exact HO245.out) (Kd.R_base ho39) hb); have n4_ := Aside0.mk (Kd.R_lower (Kd.R_new' (Kd.R_new' (Kd.R_newM (M := fun k_ => (w.heap.size ≤ k_)) ho39 (below_size (by repeat (first | (with_reducible first | exact HB.out | apply below_alloc | apply pw_below_drewN | apply below_drew1 | refine below_set ?_ GE228.out) | exact HB.out))) (fun k_ h_ => h_)) (Kd.R_lt (by (with_reducible repeat (first | apply Kd.R_alloc | apply Kd.R_drewN | apply Kd.R_drew)); exact HO235.out))) (Kd.R_lt (by (with_reducible repeat (first | apply Kd.R_alloc | apply Kd.R_drewN | apply Kd.R_drew)); exact HO238.out))) (below_size (by repeat (first | (with_reducible first | exact HB.out | apply below_alloc | apply pw_below_drewN | apply below_drew1 | refine below_set ?_ GE228.out) | exact HB.out)))); have n5_ := Aside0.mk (blk_below (g := gb228) (o := .cells #[.slice A0_0 l0_0.length c0_0, .slice A0_1 l0_1.length c0_1] 24 (0, 0)) (by (with_reducible repeat (first | refine blk_drewN ?_ _ | refine blk_drew ?_ | refine blk_alloc ?_ _)); exact BK228.out) hb); have n6_ := Aside0.mk (below_step (by repeat (first | (with_reducible first | exact HB.out | apply below_alloc | apply pw_below_drewN | apply below_drew1 | refine below_set ?_ GE228.out) | exact HB.out)) hb); clear HO_229001; clear HO235; clear HO238; clear HO245; clear BK228; clear HB; have HO_229001 := n0_; have HO235 := n1_; have HO238 := n2_; have HO245 := n3_; have HO248 := n4_; have hcl_HO248 := R_cells HO248.out; unfold Value.cells at hcl_HO248; have hst_HO248 := R_stores (P := Try.prog) HO248.out; have BK228 := n5_; have HB := n6_; clear n0_ n1_ n2_ n3_ n4_ n5_ n6_; clear hb ho39; have p26 : 0 ≤ (0 : Int) := (by omega); have q26 : (0 : Int) < ((y243.length : Int) : Int) := of_decide_eq_true (by first | (with_reducible assumption) | assumption); have qi26 : (0 < y243.length) = True := eq_true (by omega); obtain ⟨go26, co26, eo26, gb26, gl26, cl26, HG26⟩ := Kd.N_form HO245.out (by omega); (first | cases eo26 | (injection eo26 with ea_ en_ ec_; (first | subst ea_ | (injection ea_ with ea_; subst ea_)); subst ec_; clear en_)); have GB26 := Aside0.mk gb26; have GG26 := Aside0.mk HG26; clear gb26 gl26 HG26; obtain ⟨ce26, hcl26, hM26, hcc26, hfr26⟩ := Kd.N_elem HO245.out [] (0 : Int) p26 q26; obtain ⟨ua26_0, uc26_0, rfl, ul26_0, ge26_0⟩ := Kd.FK_slice_open hM26; have hx26_0 := hcc26 0 _ rfl; have hf26_0 := hfr26 0; (try simp only [show ((Kd.slice 3 (Kd.int .i64))).sz = 1 from rfl, Nat.mul_one, Nat.add_zero] at hx26_0); (try simp only [show ((Kd.slice 3 (Kd.int .i64))).sz = 1 from rfl, Nat.mul_one, Nat.add_zero] at hf26_0); clear hcl26 hcc26 hfr26 hM26; (try rw [show ((0 : Int)).toNat = 0 from rfl] at hx26_0); (try simp only [Nat.reduceMul, Nat.zero_mul, Nat.zero_add, Nat.reduceAdd] at hx26_0); (try rw [show ((0 : Int)).toNat = 0 from rfl] at hf26_0); (try simp only [Nat.reduceMul, Nat.zero_mul, Nat.zero_add, Nat.reduceAdd] at hf26_0); replace p26 := eq_true p26; replace q26 := eq_true q26; have n_ := Aside0.mk (Kd.N_mono (ok' := (fun k_ => (P0_1_ k_ ∨ w.heap.size ≤ k_) ∧ some k_ ≠ (.slice Ao31 y233.length co31 : Value).ownBlock ∧ some k_ ≠ (v237 : Value).ownBlock ∧ some k_ ≠ (v247 : Value).ownBlock ∧ k_ ≠ gb228)) HO245.out (fun k_ hk => ⟨hk.1.1, ⟨hk.1.2.1, ⟨hk.1.2.2.1, ⟨hk.2, hk.1.2.2.2⟩⟩⟩⟩)); clear HO245; have HO245 := n_; clear n_; have HX40 := Aside0.mk (show Kd.N (Kd.slice 3 (Kd.int .i64)) 25 w38 w.heap.size (fun k_ => (P0_1_ k_ ∨ w.heap.size ≤ k_) ∧ some k_ ≠ (.slice Ao31 y233.length co31 : Value).ownBlock ∧ some k_ ≠ (v237 : Value).ownBlock ∧ k_ ≠ gb228) (.slice (some ⟨go26, 0, none⟩) y243.length co26) y243 from (by (with_reducible repeat (first | apply Kd.N_alloc | apply Kd.N_drewN | apply Kd.N_drew)); exact Kd.N_mono HO245.out (fun _ hk => ⟨hk.1, ⟨hk.2.1, ⟨hk.2.2.1, hk.2.2.2.2⟩⟩⟩))); obtain ⟨ce40, hcl40, hM40, hcc40, hfr40⟩ := Kd.N_elem HX40.out [] (0 : Int) (by omega) (by have h_ : (0 : Int) < ((y243.length : Int) : Int) := of_decide_eq_true (by first | (with_reducible assumption) | assumption); first | exact h_ | (have e_ := (Kd.N_reads' HO245.out).1; omega) | simpa using h_); obtain ⟨ua40_0, uc40_0, rfl, ul40_0, ge40_0⟩ := Kd.FK_slice_open hM40; have HP40 := Kd.N_seg HX40.out (0 : Int) (by omega) (by have h_ : (0 : Int) < ((y243.length : Int) : Int) := of_decide_eq_true (by first | (with_reducible assumption) | assumption); first | exact h_ | (have e_ := (Kd.N_reads' HO245.out).1; omega) | simpa using h_) (seg := [v247]) (j := 0) hcl40 hcc40 (show 1 ≤ 1 from by decide) (x' := y246) (FK_slice_own (Kd.R_mono (ok' := (fun k_ => ((fun k_ => (P0_1_ k_ ∨ w.heap.size ≤ k_) ∧ some k_ ≠ (.slice Ao31 y233.length co31 : Value).ownBlock ∧ some k_ ≠ (v237 : Value).ownBlock ∧ k_ ≠ gb228)) k_ ∧ k_ ≠ go26)) (Kd.R_types (Kd.R_apart' (HO248.out) (Kd.N_typed HO245.out) (by decide)) BK228.out (by decide)) (fun k_ hk => ⟨⟨(.inr (hk.1.1.1.1.1)), ⟨hk.1.1.1.2, ⟨hk.1.1.2, hk.2⟩⟩⟩, fun e_ => (hk.1.2) (by rw [e_]; rfl)⟩))) (fun _ hk => hk); have hx40_0 := hcc40 0 _ rfl; (try simp only [show ((Kd.slice 3 (Kd.int .i64))).sz = 1 from rfl, Nat.mul_one, Nat.add_zero] at hx40_0); (try rw [show ((0 : Int)).toNat = 0 from rfl] at hx40_0); (try simp only [Nat.reduceMul, Nat.zero_mul, Nat.zero_add, Nat.reduceAdd] at hx40_0); have hf40_0 := hfr40 0; (try simp only [show ((Kd.slice 3 (Kd.int .i64))).sz = 1 from rfl, Nat.mul_one, Nat.add_zero] at hf40_0); (try rw [show ((0 : Int)).toNat = 0 from rfl] at hf40_0); (try simp only [Nat.reduceMul, Nat.zero_mul, Nat.zero_add, Nat.reduceAdd] at hf40_0); clear hcl40 hcc40 hfr40 hM40; (try simp only [show ((Kd.slice 3 (Kd.int .i64))).sz = 1 from rfl, Nat.mul_one, Nat.add_zero] at HP40); (try simp only [show ((Kd.slice 3 (Kd.int .i64))).sz = 1 from rfl, Nat.mul_one, Nat.add_zero] at HP40)) | ((with_reducible refine gate_store (t := 25) (p := 52) rfl ?_); refine store_event (t := 25) (p := 52) (v := ?vo_w41) (w1 := (w38.setCell ⟨go26, 0, none⟩ (v247))) ?hg ?ho ?hn ?hr ?_; (case ho => rfl); (case hg => rfl); (case hn => rfl); (case hr => first | (go_simp; done) | (go_simp; rfl)); intro w41 hw; have hg : w38.grownBy w41 (some go26) := (by rw [hw]; exact HP40.2); have hp_ : Kd.N (Kd.slice 3 (Kd.int .i64)) 25 w41 w.heap.size (fun k_ => (P0_1_ k_ ∨ w.heap.size ≤ k_) ∧ some k_ ≠ (.slice Ao31 y233.length co31 : Value).ownBlock ∧ some k_ ≠ (v237 : Value).ownBlock ∧ k_ ≠ gb228) (.slice (some ⟨go26, 0, none⟩) y243.length co26) y249 := (by rw [hw, Ny249.out]; exact HP40.1); clear HP40; have n0_ := Aside0.mk (Kd.V_afterv (v := (.slice (some ⟨go26, 0, none⟩) y243.length co26)) (v1 := (.slice (some ⟨go26, 0, none⟩) y243.length co26)) (ok := (fun k_ => (P0_1_ k_ ∨ w.heap.size ≤ k_) ∧ some k_ ≠ (.slice Ao31 y233.length co31 : Value).ownBlock ∧ some k_ ≠ (v237 : Value).ownBlock ∧ some k_ ≠ (v247 : Value).ownBlock ∧ k_ ≠ gb228)) (by (with_reducible repeat (first | apply Kd.V_alloc | apply Kd.V_drewN | apply Kd.V_drew)); exact Kd.V_mono HO_229001.out (fun _ hk => ⟨⟨hk.1.1.1, ⟨hk.1.1.2.1, ⟨hk.1.1.2.2.1, ⟨hk.2, hk.1.1.2.2.2⟩⟩⟩⟩, hk.1.2⟩)) hg (.inl rfl)); have n1_ := Aside0.mk (blk_grown (g := gb228) (o := .cells #[.slice A0_0 l0_0.length c0_0, .slice A0_1 l0_1.length c0_1] 24 (0, 0)) (by (with_reducible repeat (first | refine blk_drewN ?_ _ | refine blk_drew ?_ | refine blk_alloc ?_ _)); exact BK228.out) hg (Kd.N_ne HO245.out BK228.out (by decide))); have n2_ := Aside0.mk (Kd.R_over' (v := (.slice (some ⟨go26, 0, none⟩) y243.length co26)) (by (with_reducible repeat (first | apply Kd.R_alloc | apply Kd.R_drewN | apply Kd.R_drew)); exact HO235.out) (Kd.N_typed HO245.out) (by decide) hg); have n3_ := Aside0.mk (Kd.R_over' (v := (.slice (some ⟨go26, 0, none⟩) y243.length co26)) (by (with_reducible repeat (first | apply Kd.R_alloc | apply Kd.R_drewN | apply Kd.R_drew)); exact HO238.out) (Kd.N_typed HO245.out) (by decide) hg); have n4_ := Aside0.mk (hp_); have n5_ := Aside0.mk ((by rw [hw]; exact below_set (HB.out) GB26.out : Below w.heap.size w w41)); clear HO_229001; clear BK228; clear HO235; clear HO238; clear HO245; clear HB; clear HO248; have HO_229001 := n0_; have BK228 := n1_; have HO235 := n2_; have HO238 := n3_; have HO245 := n4_; have HB := n5_; clear n0_ n1_ n2_ n3_ n4_ n5_; clear hg hw hp_; have hcz42_0 : w41.cell? ⟨gb228, 0, none⟩ = some (.slice A0_0 l0_0.length c0_0) := (blk_cell BK228.out 0).trans rfl; have hcz42_1 : w41.cell? ⟨gb228, 1, none⟩ = some (.slice A0_1 l0_1.length c0_1) := (blk_cell BK228.out 1).trans rfl; have hfz42_0 := blk_frozen BK228.out 0; have hfz42_1 := blk_frozen BK228.out 1) | ((with_reducible refine gate_callee (f := 9) rfl ?_); refine goesL_ (some 59) rfl rfl Try.func9 (by kernel_rfl) rfl #[.agg #[.slice A0_0 l0_0.length c0_0, .slice (some ⟨go26, 0, none⟩) y249.length co26], .slice A1 l1.length c1] rfl (by (try simp only [List.map_toArray, List.map_cons, List.map_nil]); first | done | (rw [show y249.length = y243.length from (Kd.N_reads' HO245.out).1.symm] <;> rfl) | rfl | (simp only [List.length_drop, List.length_take]; rfl)) ?_; (with_reducible refine (expert_Run.calls kj2 _ _ l0_0 _ _ y249 _ _ l1 t250 t253 _ ?side1 ?side2 ?side3 ?side4 ?side5 ?side6 A27.out).mono ?_); (case side1 => repeat (first | exact (Kd.C_below HR0_0.out HB.out) | (with_reducible refine Kd.C_alloc ?_ _) | (with_reducible refine Kd.C_drewN ?_ _) | (with_reducible refine Kd.C_drew ?_))); (case side2 => exact HC0_0.out); (case side3 => repeat (first | exact (Kd.N_reads' HO245.out).2.2 | (with_reducible refine Kd.C_alloc ?_ _) | (with_reducible refine Kd.C_drewN ?_ _) | (with_reducible refine Kd.C_drew ?_))); (case side4 => rw [show y249.length = y243.length from (Kd.N_reads' HO245.out).1.symm]; exact (Kd.N_reads' HO245.out).2.1); (case side5 => repeat (first | exact (Kd.C_below HR1.out HB.out) | (with_reducible refine Kd.C_alloc ?_ _) | (with_reducible refine Kd.C_drewN ?_ _) | (with_reducible refine Kd.C_drew ?_))); (case side6 => exact HC1.out); rintro e w43 ⟨v251, rfl, ho0, hb⟩; refine ⟨_, rfl, ?_⟩; have n0_ := Aside0.mk (Kd.V_elder' (by (with_reducible repeat (first | apply Kd.V_alloc | apply Kd.V_drewN | apply Kd.V_drew)); exact HO_229001.out) (Kd.R_base ho0) hb); have n1_ := Aside0.mk (Kd.R_elder' (by (with_reducible repeat (first | apply Kd.R_alloc | apply Kd.R_drewN | apply Kd.R_drew)); exact HO235.out) (Kd.R_base ho0) hb); have n2_ := Aside0.mk (Kd.R_elder' (by (with_reducible repeat (first | apply Kd.R_alloc | apply Kd.R_drewN | apply Kd.R_drew)); exact HO238.out) (Kd.R_base ho0) hb); have n3_ := Aside0.mk (Kd.N_elder' (by (with_reducible repeat (first | apply Kd.N_alloc | apply Kd.N_drewN | apply Kd.N_drew)); exact HO245.out) (Kd.R_base ho0) hb); have n4_ := Aside0.mk (Kd.R_lower (Kd.R_new' (Kd.R_new' (Kd.R_newM (M := fun k_ => (w.heap.size ≤ k_)) ho0 (below_size (by repeat (first | (with_reducible first | exact HB.out | apply below_alloc | apply pw_below_drewN | apply below_drew1 | refine below_set ?_ GE228.out) | exact HB.out))) (fun k_ h_ => h_)) (Kd.R_lt (by (with_reducible repeat (first | apply Kd.R_alloc | apply Kd.R_drewN | apply Kd.R_drew)); exact HO235.out))) (Kd.R_lt (by (with_reducible repeat (first | apply Kd.R_alloc | apply Kd.R_drewN | apply Kd.R_drew)); exact HO238.out))) (below_size (by repeat (first | (with_reducible first | exact HB.out | apply below_alloc | apply pw_below_drewN | apply below_drew1 | refine below_set ?_ GE228.out) | exact HB.out)))); have n5_ := Aside0.mk (blk_below (g := gb228) (o := .cells #[.slice A0_0 l0_0.length c0_0, .slice A0_1 l0_1.length c0_1] 24 (0, 0)) (by (with_reducible repeat (first | refine blk_drewN ?_ _ | refine blk_drew ?_ | refine blk_alloc ?_ _)); exact BK228.out) hb); have n6_ := Aside0.mk (below_step (by repeat (first | (with_reducible first | exact HB.out | apply below_alloc | apply pw_below_drewN | apply below_drew1 | refine below_set ?_ GE228.out) | exact HB.out)) hb); clear HO_229001; clear HO235; clear HO238; clear HO245; clear BK228; clear HB; have HO_229001 := n0_; have HO235 := n1_; have HO238 := n2_; have HO245 := n3_; have HO252 := n4_; have BK228 := n5_; have HB := n6_; clear n0_ n1_ n2_ n3_ n4_ n5_ n6_; (try clear hb); (try clear hb2); (try clear hk); (try clear hi); (try clear ho0); obtain ⟨Ao44, co44, eo44⟩ := Kd.R_slice HO238.out; subst eo44))
                    go_loopg [64] kj2 (fun kq v64 w' => ∃ (x64_2 : Int), v64 = .int .i64 x64_2 ∧ Aside0 (switchboardlaw11_ExpertNone.l0 kq l1 t236 t239 t250 t253 t236 (t236.length : Int) x64_2 = some true) ∧ Aside0 (kq ≤ kj2) ∧ Aside0 (Kd.R (Kd.int .i64) 3 w' w.heap.size (fun k_ => (w.heap.size ≤ k_) ∧ some k_ ≠ (v251 : Value).ownBlock) (.slice Ao44 t236.length co44) t236) ∧ Aside0 (Kd.R (Kd.int .i64) 3 w' w.heap.size (fun k_ => (w.heap.size ≤ k_) ∧ some k_ ≠ ((.slice Ao44 t236.length co44) : Value).ownBlock ∧ some k_ ≠ ((.slice Ao44 t236.length co44) : Value).ownBlock) v251 t250) ∧ Aside0 (Kd.R (Kd.int .i64) 3 w' w.heap.size (fun k_ => (w.heap.size ≤ k_) ∧ some k_ ≠ (v251 : Value).ownBlock) (.slice Ao44 t236.length co44) t236) ∧ Aside0 (Kd.V (Kd.slice 3 (Kd.int .i64)) 25 w' w.heap.size (fun k_ => (P0_1_ k_ ∨ w.heap.size ≤ k_) ∧ some k_ ≠ ((.slice Ao44 t236.length co44) : Value).ownBlock ∧ some k_ ≠ (v251 : Value).ownBlock ∧ some k_ ≠ ((.slice Ao44 t236.length co44) : Value).ownBlock ∧ k_ ≠ gb228) (.slice A0_1 l0_1.length c0_1) l0_1) ∧ Aside0 (w'.heap[gb228]? = some (.cells #[(.slice A0_0 l0_0.length c0_0), (.slice A0_1 l0_1.length c0_1)] 24 (0, 0))) ∧ Aside0 (Below w.heap.size w w'))
                    case atStart => exact ⟨(0), (by first | rfl | (simp; done) | (simp [*]; done)), H', ⟨Nat.le_refl _⟩, ⟨by (with_reducible repeat (first | apply Kd.R_alloc | apply Kd.R_drewN | apply Kd.R_drew)); exact Kd.R_mono HO238.out (fun _ hk => ⟨hk.1.1.1.1, hk.2⟩)⟩, ⟨by (with_reducible repeat (first | apply Kd.R_alloc | apply Kd.R_drewN | apply Kd.R_drew)); exact Kd.R_mono HO252.out (fun _ hk => ⟨hk.1.1.1, ⟨hk.2, hk.2⟩⟩)⟩, ⟨by (with_reducible repeat (first | apply Kd.R_alloc | apply Kd.R_drewN | apply Kd.R_drew)); exact Kd.R_mono HO238.out (fun _ hk => ⟨hk.1.1.1.1, hk.2⟩)⟩, ⟨by (with_reducible repeat (first | apply Kd.V_alloc | apply Kd.V_drewN | apply Kd.V_drew)); exact Kd.V_mono HO_229001.out (fun _ hk => ⟨hk.1.1.1, ⟨hk.1.1.2.2.1, ⟨hk.2, ⟨hk.1.1.2.2.1, hk.1.1.2.2.2.2⟩⟩⟩⟩)⟩, ⟨by (with_reducible repeat (first | refine blk_drewN ?_ _ | refine blk_drew ?_ | refine blk_alloc ?_ _)); exact BK228.out⟩, ⟨by repeat (first | (with_reducible first | exact HB.out | apply below_alloc | apply pw_below_drewN | apply below_drew1 | refine below_set ?_ GE228.out) | exact HB.out)⟩⟩
                    case round =>
                      clear H'
                      try clear c1
                      try clear c2
                      try clear p2
                      try clear q2
                      try clear hx2
                      try clear qi2
                      try clear hf2
                      try clear c4
                      try clear hx4
                      try clear hf4
                      try clear c6
                      try clear c7
                      try clear c8
                      try clear c9
                      try clear c9b0
                      try clear c9b1
                      try clear c16
                      try clear c19
                      try clear c19b0
                      try clear c19b1
                      try clear c20
                      try clear c20b0
                      try clear c20b1
                      try clear c22
                      try clear c23
                      try clear c23b0
                      try clear c23b1
                      try clear c24
                      try clear c24b0
                      try clear c24b1
                      try clear c25
                      try clear c25b0
                      try clear c25b1
                      try clear c26
                      try clear p26
                      try clear q26
                      try clear hx26
                      try clear qi26
                      try clear hf26
                      try clear c40
                      try clear hx40
                      try clear hf40
                      try clear hcz10_0
                      try clear hcz10_1
                      try clear hcz12_0
                      try clear hcz12_1
                      try clear hcz14_0
                      try clear hcz14_1
                      try clear hcz15_0
                      try clear hcz15_1
                      try clear hcz35_0
                      try clear hcz35_1
                      try clear hcz37_0
                      try clear hcz37_1
                      try clear hcz42_0
                      try clear hcz42_1
                      try clear hfz10_0
                      try clear hfz10_1
                      try clear hfz12_0
                      try clear hfz12_1
                      try clear hfz14_0
                      try clear hfz14_1
                      try clear hfz15_0
                      try clear hfz15_1
                      try clear hfz35_0
                      try clear hfz35_1
                      try clear hfz37_0
                      try clear hfz37_1
                      try clear hfz42_0
                      try clear hfz42_1
                      try clear hx26_0
                      try clear hx40_0
                      try clear p2
                      try clear p26
                      try clear q26
                      obtain ⟨x64_2, rfl, HA, HK2, HO_5, HO_8, HO_62, HO_229001, BK228, HB⟩ := hrel
                      cases gk with
                      | zero => exact absurd HA.out (by simp [switchboardlaw11_ExpertNone.l0])
                      | succ k2 =>
                        have H := HA.out
                        clear HA
                        simp only [switchboardlaw11_ExpertNone.l0] at H
                        by_cases c45 : x64_2 < (t236.length : Int)
                        · rw [if_pos c45] at H
                          have c45b0 : decide (x64_2 < (t236.length : Int)) = true := decide_eq_true c45
                          clear c45
                          by_cases c46 : 0 ≤ x64_2
                          · rw [if_pos c46] at H
                            have c46b0 : decide (0 ≤ x64_2) = true := decide_eq_true c46
                            clear c46
                            by_cases c47 : x64_2 < (t236.length : Int)
                            · rw [if_pos c47] at H
                              have c47b0 : decide (x64_2 < (t236.length : Int)) = true := decide_eq_true c47
                              clear c47
                              by_cases c48 : (rd t236 x64_2) = 0
                              · rw [if_pos c48] at H
                                have c48b0 : ((rd t236 x64_2) == 0) = true := beq_iff_eq.mpr c48
                                have c48b1 : ((rd t236 x64_2) != 0) = false := bne_eq_false_iff_eq.mpr c48
                                clear c48
                                have H' := Aside0.mk H
                                clear H
                                have p254 : 0 ≤ (x64_2 : Int) := of_decide_eq_true (by first | (with_reducible assumption) | assumption)
                                have q254 : x64_2 < (t236.length : Int) := of_decide_eq_true (by first | (with_reducible assumption) | assumption)
                                obtain ⟨ad254, e254, hx254_0⟩ := Kd.at_int (Kd.R_reads' HO_62.out).2.2 x64_2 p254 q254
                                cases e254
                                replace p254 := eq_true p254
                                replace q254 := eq_true q254
                                go_wp2
                                go_roundg k2
                                case measure => have := HJ2.out; have := HK2.out; omega
                                case rel => exact ⟨(wrap64 (x64_2 + 1)), (by first | rfl | (simp; done) | (simp [*]; done)), H', ⟨by have := HJ2.out; have := HK2.out; omega⟩, ⟨by (with_reducible repeat (first | apply Kd.R_alloc | apply Kd.R_drewN | apply Kd.R_drew)); exact HO_5.out⟩, ⟨by (with_reducible repeat (first | apply Kd.R_alloc | apply Kd.R_drewN | apply Kd.R_drew)); exact HO_8.out⟩, ⟨by (with_reducible repeat (first | apply Kd.R_alloc | apply Kd.R_drewN | apply Kd.R_drew)); exact HO_62.out⟩, ⟨by (with_reducible repeat (first | apply Kd.V_alloc | apply Kd.V_drewN | apply Kd.V_drew)); exact HO_229001.out⟩, ⟨by (with_reducible repeat (first | refine blk_drewN ?_ _ | refine blk_drew ?_ | refine blk_alloc ?_ _)); exact BK228.out⟩, ⟨by repeat (first | (with_reducible first | exact HB.out | apply below_alloc | apply pw_below_drewN | apply below_drew1 | refine below_set ?_ GE228.out) | exact HB.out)⟩⟩
                              · rw [if_neg c48] at H
                                have c48b0 : ((rd t236 x64_2) == 0) = false := beq_eq_false_iff_ne.mpr c48
                                have c48b1 : ((rd t236 x64_2) != 0) = true := bne_iff_ne.mpr c48
                                exact absurd H (by simp)
                            · rw [if_neg c47] at H
                              exact absurd H (by simp)
                          · rw [if_neg c46] at H
                            exact absurd H (by simp)
                        · rw [if_neg c45] at H
                          have c45b0 : decide (x64_2 < (t236.length : Int)) = false := decide_eq_false c45
                          clear c45
                          by_cases c49 : (t236.length : Int) = (l1.length : Int)
                          · rw [if_pos c49] at H
                            have c49b0 : ((t236.length : Int) == (l1.length : Int)) = true := beq_iff_eq.mpr c49
                            have c49b1 : ((t236.length : Int) != (l1.length : Int)) = false := bne_eq_false_iff_eq.mpr c49
                            have c49b2 : (t236.length == l1.length) = true := by first | simpa using c49 | (simp at c49 ⊢; omega)
                            clear c49
                            by_cases c50 : t239 = true
                            · subst c50
                              have H1 : (if t253 = true then (if (t250.length : Int) = (l1.length : Int) then (if 0 < (t250.length : Int) then (if (rd t250 0) = 0 then ((switchboardlaw11_awake.f k2).bind fun t256 => (some t256)) else (some false)) else (none)) else (some false)) else (some false)) = some true := by rw [if_pos rfl] at H; exact H
                              clear H
                              have H := H1
                              clear H1
                              by_cases c51 : t253 = true
                              · subst c51
                                have H1 : (if (t250.length : Int) = (l1.length : Int) then (if 0 < (t250.length : Int) then (if (rd t250 0) = 0 then ((switchboardlaw11_awake.f k2).bind fun t256 => (some t256)) else (some false)) else (none)) else (some false)) = some true := by rw [if_pos rfl] at H; exact H
                                clear H
                                have H := H1
                                clear H1
                                by_cases c52 : (t250.length : Int) = (l1.length : Int)
                                · rw [if_pos c52] at H
                                  have c52b0 : ((t250.length : Int) == (l1.length : Int)) = true := beq_iff_eq.mpr c52
                                  have c52b1 : ((t250.length : Int) != (l1.length : Int)) = false := bne_eq_false_iff_eq.mpr c52
                                  have c52b2 : (t250.length == l1.length) = true := by first | simpa using c52 | (simp at c52 ⊢; omega)
                                  clear c52
                                  by_cases c53 : 0 < (t250.length : Int)
                                  · rw [if_pos c53] at H
                                    have c53b0 : decide (0 < (t250.length : Int)) = true := decide_eq_true c53
                                    have c53b1 : decide (0 < t250.length) = true := decide_eq_true (by omega)
                                    clear c53
                                    by_cases c54 : (rd t250 0) = 0
                                    · rw [if_pos c54] at H
                                      have c54b0 : ((rd t250 0) == 0) = true := beq_iff_eq.mpr c54
                                      have c54b1 : ((rd t250 0) != 0) = false := bne_eq_false_iff_eq.mpr c54
                                      clear c54
                                      replace H := Option.bind_eq_some_iff.mp H
                                      obtain ⟨t256, A550, H⟩ := H
                                      replace H : (some t256) = some true := H
                                      have A55 := Aside0.mk A550
                                      clear A550
                                      have hr_ := Aside0.mk (Option.some.inj H)
                                      obtain ⟨Ao56, co56, eo56⟩ := Kd.R_slice HO_8.out
                                      subst eo56
                                      have p255 : 0 ≤ (0 : Int) := (by omega)
                                      have q255 : 0 < (t250.length : Int) := of_decide_eq_true (by first | (with_reducible assumption) | assumption)
                                      obtain ⟨ad255, e255, hx255_0⟩ := Kd.at_int (Kd.R_reads' HO_8.out).2.2 0 p255 q255
                                      cases e255
                                      have qi255 : (0 < t250.length) = True := eq_true (by omega)
                                      (try rw [show ((0 : Int)).toNat = 0 from rfl] at hx255_0)
                                      (try rw [Addr.add_zero'] at hx255_0)
                                      replace p255 := eq_true p255
                                      replace q255 := eq_true q255
                                      go_wp2_with (first | (go_at_call 8; (with_reducible refine (switchboardlaw11_awake.calls k2  t256 _ A55.out).mono ?_); rintro e w57 ⟨rfl, hb⟩; have n0_ := Aside0.mk (Kd.R_below (by (with_reducible repeat (first | apply Kd.R_alloc | apply Kd.R_drewN | apply Kd.R_drew)); exact HO_5.out) hb); have n1_ := Aside0.mk (Kd.R_below (by (with_reducible repeat (first | apply Kd.R_alloc | apply Kd.R_drewN | apply Kd.R_drew)); exact HO_8.out) hb); have n2_ := Aside0.mk (Kd.R_below (by (with_reducible repeat (first | apply Kd.R_alloc | apply Kd.R_drewN | apply Kd.R_drew)); exact HO_62.out) hb); have n3_ := Aside0.mk (Kd.V_below (by (with_reducible repeat (first | apply Kd.V_alloc | apply Kd.V_drewN | apply Kd.V_drew)); exact HO_229001.out) hb); have n4_ := Aside0.mk (blk_below (g := gb228) (o := .cells #[.slice A0_0 l0_0.length c0_0, .slice A0_1 l0_1.length c0_1] 24 (0, 0)) (by (with_reducible repeat (first | refine blk_drewN ?_ _ | refine blk_drew ?_ | refine blk_alloc ?_ _)); exact BK228.out) hb); have n5_ := Aside0.mk (below_step (by repeat (first | (with_reducible first | exact HB.out | apply below_alloc | apply pw_below_drewN | apply below_drew1 | refine below_set ?_ GE228.out) | exact HB.out)) hb); clear HO_5; clear HO_8; clear HO_62; clear HO_229001; clear BK228; clear HB; have HO_5 := n0_; have HO_8 := n1_; have HO_62 := n2_; have HO_229001 := n3_; have BK228 := n4_; have HB := n5_; clear n0_ n1_ n2_ n3_ n4_ n5_; (try clear hb); (try clear hb2); (try clear hk); (try clear hi)))
                                      go_ret
                                      exact ⟨by first | rfl | exact congrArg (fun b_ => Ending.returned (Value.bool b_)) hr_.out | exact congrArg (fun b_ => Ending.returned (Value.bool b_)) hr_.out | (simp [errW_none, errW_some] <;> rfl) | (simp [*, errW_none, errW_some] <;> rfl), by repeat (first | (with_reducible first | exact HB.out | apply below_alloc | apply pw_below_drewN | apply below_drew1 | refine below_set ?_ GE228.out) | exact HB.out)⟩
                                    · rw [if_neg c54] at H
                                      have c54b0 : ((rd t250 0) == 0) = false := beq_eq_false_iff_ne.mpr c54
                                      have c54b1 : ((rd t250 0) != 0) = true := bne_iff_ne.mpr c54
                                      exact absurd H (by simp)
                                  · rw [if_neg c53] at H
                                    exact absurd H (by simp)
                                · rw [if_neg c52] at H
                                  have c52b0 : ((t250.length : Int) == (l1.length : Int)) = false := beq_eq_false_iff_ne.mpr c52
                                  have c52b1 : ((t250.length : Int) != (l1.length : Int)) = true := bne_iff_ne.mpr c52
                                  have c52b2 : (t250.length == l1.length) = false := by first | simpa using c52 | (simp at c52 ⊢; omega)
                                  exact absurd H (by simp)
                              · replace c51 := Bool.eq_false_iff.mpr c51
                                subst c51
                                have H1 : (some false) = some true := by rw [if_neg (show ¬ (false = true) by decide)] at H; exact H
                                clear H
                                have H := H1
                                clear H1
                                exact absurd H (by simp)
                            · replace c50 := Bool.eq_false_iff.mpr c50
                              subst c50
                              have H1 : (some false) = some true := by rw [if_neg (show ¬ (false = true) by decide)] at H; exact H
                              clear H
                              have H := H1
                              clear H1
                              exact absurd H (by simp)
                          · rw [if_neg c49] at H
                            have c49b0 : ((t236.length : Int) == (l1.length : Int)) = false := beq_eq_false_iff_ne.mpr c49
                            have c49b1 : ((t236.length : Int) != (l1.length : Int)) = true := bne_iff_ne.mpr c49
                            have c49b2 : (t236.length == l1.length) = false := by first | simpa using c49 | (simp at c49 ⊢; omega)
                            exact absurd H (by simp)
                  · rw [if_neg c25] at H
                    exact absurd H (by simp)
                · rw [if_neg c24] at H
                  exact absurd H (by simp)
              · rw [if_neg c23] at H
                exact absurd H (by simp)
            · rw [if_neg c22] at H
              exact absurd H (by simp)
          · rw [if_neg c20] at H
            exact absurd H (by simp)
        · rw [if_neg c19] at H
          exact absurd H (by simp)

end Go.Proofs.Ytegjdddpojgplaa.Pr
