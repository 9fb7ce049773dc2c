-- Laid by wip/xprint.py, a program of this session that runs the kit's print with some contracts given by hand; not a text of print.sh. Lean checks it.
import Derived.Test.YtikncbklhnaajaaPr0
namespace Go.Proofs.Ytikncbklhnaajaa.Pr
open Go.RowKit Go.Proofs.YtikncbklhnaajaaW.PrintWords Go.Proofs.YtikncbklhnaajaaW.PrintLast Go.Proofs.YtikncbklhnaajaaW.PrintMore
attribute [local go_sem] max2_int min2_int max_two min_two max_three min_three max_four min_four   -- for this text's walks alone
set_option linter.unusedVariables false
set_option linter.unusedSimpArgs false

/-! ### switchboardlaw10_ref: function 8 -/
def switchboardlaw10_ref.l0 : Nat → List (S45) → Int → Int → Int → List (S40) → Option (Int × (List (S40)) × Bool)
  | 0, _, _, _, _, _ => none
  | k + 1, x16, x17, x18, x104000, x104001 => if x18 < x17 then (if 0 ≤ x18 then (if x18 < (x16.length : Int) then (if (((rd_T45 x16 x18).f1).size : Int) > 100 then (some (x104000, x104001, false)) else (if x104001.length < 5864062014805 then (switchboardlaw10_ref.l0 k x16 x17 (wrap64 (x18 + 1)) x104000 (x104001 ++ [(⟨(rd_T45 x16 x18).f0, (rd_T45 x16 x18).f1⟩ : S40)])) else (none))) else (none)) else (none)) else (some (x104000, x104001, true))
def switchboardlaw10_ref.f (k : Nat) (a0_0 : Int) (l0_1 : List (S45)) : Option (Int × (List (S40)) × Bool) := if (l0_1.length : Int) > 100 then (some (a0_0, ([] : List (S40)), false)) else (switchboardlaw10_ref.l0 k l0_1 (l0_1.length : Int) 0 a0_0 ([] : List (S40)))
theorem switchboardlaw10_ref.mono_l : ∀ k, (∀ y0 y1 y2 y3 y4, LeO (switchboardlaw10_ref.l0 k y0 y1 y2 y3 y4) (switchboardlaw10_ref.l0 (k + 1) y0 y1 y2 y3 y4))
  | 0 => fun _ _ _ _ _ r h => by simp [switchboardlaw10_ref.l0] at h
  | k + 1 => by
    have ih0 := switchboardlaw10_ref.mono_l k
    · intro y0 y1 y2 y3 y4
      unfold switchboardlaw10_ref.l0
      repeat' first
      | (with_reducible exact ih0 _ _ _ _ _)
      | (with_reducible exact LeO.refl _)
      | (with_reducible exact LeO.none _)
      | (with_reducible refine LeO.ite ?_ ?_)
      | (with_reducible refine LeO.bind ?_ (fun _ => ?_))
      | exact ih0 _ _ _ _ _
      | exact LeO.none _
      | refine LeO.ite ?_ ?_
      | refine LeO.bind ?_ (fun _ => ?_)
theorem switchboardlaw10_ref.mono : ∀ a0 a1 k, LeO (switchboardlaw10_ref.f k a0 a1) (switchboardlaw10_ref.f (k + 1) a0 a1) := by
  intro a0 a1 k
  have ih0 := switchboardlaw10_ref.mono_l k
  unfold switchboardlaw10_ref.f
  repeat' first
      | (with_reducible exact ih0 _ _ _ _ _)
      | (with_reducible exact LeO.refl _)
      | (with_reducible exact LeO.none _)
      | (with_reducible refine LeO.ite ?_ ?_)
      | (with_reducible refine LeO.bind ?_ (fun _ => ?_))
      | exact ih0 _ _ _ _ _
      | exact LeO.none _
      | refine LeO.ite ?_ ?_
      | refine LeO.bind ?_ (fun _ => ?_)
set_option maxHeartbeats 8000000 in
set_option maxRecDepth 100000 in
theorem switchboardlaw10_ref.calls (k : Nat) (a0_0 : Int) (A0_1 : Option Addr) (c0_1 : Nat) (l0_1 : List (S45)) (r1 : Int) (r2 : List (S40)) (r3 : Bool) (w : World) (hr0_1 : Kd.C k45 w A0_1 l0_1.length l0_1) (hc0_1 : l0_1.length ≤ c0_1) (h : switchboardlaw10_ref.f k a0_0 l0_1 = some (r1, r2, r3)) :
    Calls Try.prog 8 #[.agg #[.int .i64 a0_0, .slice A0_1 l0_1.length c0_1]] w fun e w' => ∃ v1_ : Value, e = .returned (.tuple #[.agg #[.int .i64 r1, v1_], .bool r3]) ∧ Kd.R k40 40 w' w.heap.size (fun _ => True) v1_ r2 ∧ Below w.heap.size w w' := by
  have hu24 := Try.underlying24
  have hu27 := Try.underlying27
  have hu45 := Try.underlying45
  have HR0_1 := Aside0.mk hr0_1
  have HC0_1 := Aside0.mk hc0_1
  clear hr0_1 hc0_1
  have HB := Aside0.mk (Below.refl w.heap.size w)
  have H : (if (l0_1.length : Int) > 100 then (some (a0_0, ([] : List (S40)), false)) else (switchboardlaw10_ref.l0 k l0_1 (l0_1.length : Int) 0 a0_0 ([] : List (S40)))) = some (r1, r2, r3) := h
  clear h
  by_cases c2 : (l0_1.length : Int) > 100
  · rw [if_pos c2] at H
    have c2b0 : decide (100 < (l0_1.length : Int)) = true := decide_eq_true c2
    have c2b1 : decide (100 < l0_1.length) = true := decide_eq_true (by omega)
    clear c2
    simp only [Option.some.injEq, Prod.mk.injEq] at H
    obtain ⟨rfl, rfl, rfl⟩ := H
    go_enter Try.func8, Try.ntmps8
    go_wp2_with (first | ((with_reducible refine gate_dst (N := 1) rfl ?_); refine box_event ?hg (N := 1) ?hd (cs := #[.int .i64 a0_0, .slice A0_1 l0_1.length c0_1]) (t := 24) ?hr ?_; (case hd => rfl); (case hg => rfl); (case hr => first | (go_simp; done) | (go_simp; rfl)); intro gb101 hg w3 hbox hb; have n0_ := Aside0.mk (below_step (by repeat (first | (with_reducible first | exact HB.out | apply below_alloc | apply pw_below_drewN | apply below_drew1) | exact HB.out)) hb); have n1_ := Aside0.mk (hbox); have n2_ := Aside0.mk ((by rw [hg]; exact (below_size (by repeat (first | (with_reducible first | exact HB.out | apply below_alloc | apply pw_below_drewN | apply below_drew1) | exact HB.out))) : w.heap.size ≤ gb101)); have n3_ := Aside0.mk ((by rw [hg]; exact (below_size (by repeat (first | (with_reducible first | exact HB.out | apply below_alloc | apply pw_below_drewN | apply below_drew1) | exact HB.out))) : w.heap.size ≤ gb101)); clear HB; have HB := n0_; have BK101 := n1_; have GW101 := n2_; have GE101 := n3_; clear n0_ n1_ n2_ n3_; clear hb hbox hg) | ((with_reducible refine gate_dst (N := 2) rfl ?_); refine box_event ?hg (N := 2) ?hd (cs := #[.int .i64 0, .slice none 0 0]) (t := 27) ?hr ?_; (case hd => rfl); (case hg => rfl); (case hr => first | (go_simp; done) | (go_simp; rfl)); intro gb102 hg w4 hbox hb; have n0_ := Aside0.mk (blk_below (g := gb101) (o := .cells #[.int .i64 a0_0, .slice A0_1 l0_1.length c0_1] 24 (0, 0)) (by (with_reducible repeat (first | refine blk_drewN ?_ _ | refine blk_drew ?_ | refine blk_alloc ?_ _)); exact BK101.out) hb); have n1_ := Aside0.mk (below_step (by repeat (first | (with_reducible first | exact HB.out | apply below_alloc | apply pw_below_drewN | apply below_drew1 | refine below_set ?_ GE101.out) | exact HB.out)) hb); have n2_ := Aside0.mk (hbox); have n3_ := Aside0.mk ((by rw [hg]; exact (below_size (by repeat (first | (with_reducible first | exact HB.out | apply below_alloc | apply pw_below_drewN | apply below_drew1 | refine below_set ?_ GE101.out) | exact HB.out))) : w.heap.size ≤ gb102)); have n4_ := Aside0.mk ((by rw [hg]; exact (below_size (by repeat (first | (with_reducible first | exact HB.out | apply below_alloc | apply pw_below_drewN | apply below_drew1 | refine below_set ?_ GE101.out) | exact HB.out))) : w.heap.size ≤ gb102)); have n5_ := Aside0.mk ((by rw [hg]; exact Nat.ne_of_lt (blk_lt (g := gb101) (o := .cells #[.int .i64 a0_0, .slice A0_1 l0_1.length c0_1] 24 (0, 0)) (by (with_reducible repeat (first | refine blk_drewN ?_ _ | refine blk_drew ?_ | refine blk_alloc ?_ _)); exact BK101.out)) : gb101 ≠ gb102)); have n6_ := Aside0.mk ((by rw [hg]; exact Nat.ne_of_gt (blk_lt (g := gb101) (o := .cells #[.int .i64 a0_0, .slice A0_1 l0_1.length c0_1] 24 (0, 0)) (by (with_reducible repeat (first | refine blk_drewN ?_ _ | refine blk_drew ?_ | refine blk_alloc ?_ _)); exact BK101.out)) : gb102 ≠ gb101)); clear BK101; clear HB; have BK101 := n0_; have HB := n1_; have BK102 := n2_; have GW102 := n3_; have GE102 := n4_; have NB101_102 := n5_; have NB102_101 := n6_; clear n0_ n1_ n2_ n3_ n4_ n5_ n6_; clear hb hbox hg; have hnb5 := NB101_102.out; have hnc5 := NB102_101.out; have hcz6_0 : w4.cell? ⟨gb101, 0, none⟩ = some (.int .i64 a0_0) := (blk_cell BK101.out 0).trans rfl; have hcz6_1 : w4.cell? ⟨gb101, 1, none⟩ = some (.slice A0_1 l0_1.length c0_1) := (blk_cell BK101.out 1).trans rfl; have hfz6_0 := blk_frozen BK101.out 0; have hfz6_1 := blk_frozen BK101.out 1) | ((with_reducible refine gate_dst (N := 4) rfl ?_); refine box_event ?hg (N := 4) ?hd (cs := #[.int .i64 0, .slice none 0 0]) (t := 27) ?hr ?_; (case hd => rfl); (case hg => rfl); (case hr => first | (go_simp; done) | (go_simp; rfl)); intro gb103 hg w7 hbox hb; have n0_ := Aside0.mk (blk_below (g := gb101) (o := .cells #[.int .i64 a0_0, .slice A0_1 l0_1.length c0_1] 24 (0, 0)) (by (with_reducible repeat (first | refine blk_drewN ?_ _ | refine blk_drew ?_ | refine blk_alloc ?_ _)); exact BK101.out) hb); have n1_ := Aside0.mk (blk_below (g := gb102) (o := .cells #[.int .i64 0, .slice none 0 0] 27 (0, 0)) (by (with_reducible repeat (first | refine blk_drewN ?_ _ | refine blk_drew ?_ | refine blk_alloc ?_ _)); exact BK102.out) hb); have n2_ := Aside0.mk (below_step (by repeat (first | (with_reducible first | exact HB.out | apply below_alloc | apply pw_below_drewN | apply below_drew1 | refine below_set ?_ GE101.out | refine below_set ?_ GE102.out) | exact HB.out)) hb); have n3_ := Aside0.mk (hbox); have n4_ := Aside0.mk ((by rw [hg]; exact (below_size (by repeat (first | (with_reducible first | exact HB.out | apply below_alloc | apply pw_below_drewN | apply below_drew1 | refine below_set ?_ GE101.out | refine below_set ?_ GE102.out) | exact HB.out))) : w.heap.size ≤ gb103)); have n5_ := Aside0.mk ((by rw [hg]; exact (below_size (by repeat (first | (with_reducible first | exact HB.out | apply below_alloc | apply pw_below_drewN | apply below_drew1 | refine below_set ?_ GE101.out | refine below_set ?_ GE102.out) | exact HB.out))) : w.heap.size ≤ gb103)); have n6_ := Aside0.mk ((by rw [hg]; exact Nat.ne_of_lt (blk_lt (g := gb101) (o := .cells #[.int .i64 a0_0, .slice A0_1 l0_1.length c0_1] 24 (0, 0)) (by (with_reducible repeat (first | refine blk_drewN ?_ _ | refine blk_drew ?_ | refine blk_alloc ?_ _)); exact BK101.out)) : gb101 ≠ gb103)); have n7_ := Aside0.mk ((by rw [hg]; exact Nat.ne_of_gt (blk_lt (g := gb101) (o := .cells #[.int .i64 a0_0, .slice A0_1 l0_1.length c0_1] 24 (0, 0)) (by (with_reducible repeat (first | refine blk_drewN ?_ _ | refine blk_drew ?_ | refine blk_alloc ?_ _)); exact BK101.out)) : gb103 ≠ gb101)); have n8_ := Aside0.mk ((by rw [hg]; exact Nat.ne_of_lt (blk_lt (g := gb102) (o := .cells #[.int .i64 0, .slice none 0 0] 27 (0, 0)) (by (with_reducible repeat (first | refine blk_drewN ?_ _ | refine blk_drew ?_ | refine blk_alloc ?_ _)); exact BK102.out)) : gb102 ≠ gb103)); have n9_ := Aside0.mk ((by rw [hg]; exact Nat.ne_of_gt (blk_lt (g := gb102) (o := .cells #[.int .i64 0, .slice none 0 0] 27 (0, 0)) (by (with_reducible repeat (first | refine blk_drewN ?_ _ | refine blk_drew ?_ | refine blk_alloc ?_ _)); exact BK102.out)) : gb103 ≠ gb102)); clear BK101; clear BK102; clear HB; have BK101 := n0_; have BK102 := n1_; have HB := n2_; have BK103 := n3_; have GW103 := n4_; have GE103 := n5_; have NB101_103 := n6_; have NB103_101 := n7_; have NB102_103 := n8_; have NB103_102 := n9_; clear n0_ n1_ n2_ n3_ n4_ n5_ n6_ n7_ n8_ n9_; clear hb hbox hg; have hnb8 := NB103_101.out; have hnc8 := NB101_103.out; have hnb9 := NB103_102.out; have hnc9 := NB102_103.out; have hcz10_0 : w7.cell? ⟨gb103, 0, none⟩ = some (.int .i64 0) := (blk_cell BK103.out 0).trans rfl; have hcz10_1 : w7.cell? ⟨gb103, 1, none⟩ = some (.slice none 0 0) := (blk_cell BK103.out 1).trans rfl; have hfz10_0 := blk_frozen BK103.out 0; have hfz10_1 := blk_frozen BK103.out 1; have hcz11_0 : w7.cell? ⟨gb101, 0, none⟩ = some (.int .i64 a0_0) := (blk_cell BK101.out 0).trans rfl; have hcz11_1 : w7.cell? ⟨gb101, 1, none⟩ = some (.slice A0_1 l0_1.length c0_1) := (blk_cell BK101.out 1).trans rfl; have hfz11_0 := blk_frozen BK101.out 0; have hfz11_1 := blk_frozen BK101.out 1; have hcz12_0 : w7.cell? ⟨gb102, 0, none⟩ = some (.int .i64 0) := (blk_cell BK102.out 0).trans rfl; have hcz12_1 : w7.cell? ⟨gb102, 1, none⟩ = some (.slice none 0 0) := (blk_cell BK102.out 1).trans rfl; have hfz12_0 := blk_frozen BK102.out 0; have hfz12_1 := blk_frozen BK102.out 1))
    refine bodyPost_ret (results_ct rfl _ _ gb102 27 #[.int .i64 a0_0, .slice none 0 0] (0, 0) _ rfl (by (with_reducible repeat (first | refine blk_drewN ?_ _ | refine blk_drew ?_ | refine blk_alloc ?_ _)); refine blk_put (cs := #[.int .i64 a0_0, .slice none 0 0]) ?_ 1 _ rfl; (with_reducible repeat (first | refine blk_drewN ?_ _ | refine blk_drew ?_ | refine blk_alloc ?_ _)); refine blk_put (cs := #[.int .i64 0, .slice none 0 0]) ?_ 0 _ rfl; (with_reducible repeat (first | refine blk_drewN ?_ _ | refine blk_drew ?_ | refine blk_alloc ?_ _)); refine blk_far ?_ NB102_103.out _; (with_reducible repeat (first | refine blk_drewN ?_ _ | refine blk_drew ?_ | refine blk_alloc ?_ _)); refine blk_far ?_ NB102_103.out _; (with_reducible repeat (first | refine blk_drewN ?_ _ | refine blk_drew ?_ | refine blk_alloc ?_ _)); exact BK102.out) Try.underlying27 rfl (by kernel_rfl)) rfl ?_
    exact ⟨_, by first | rfl | (simp [errW_none, errW_some] <;> rfl) | (simp [*, errW_none, errW_some] <;> rfl), by first | exact Kd.R_nil _ _ _ _ _ | exact Kd.N_nil _ _ _ _ _ | exact Kd.V_nil _ _ _ _ _ | exact Kd.Q_nil _ _ _ _ _ | exact Kd.S_nil _ _ _ _ _, by repeat (first | (with_reducible first | exact HB.out | apply below_alloc | apply pw_below_drewN | apply below_drew1 | refine below_set ?_ GE101.out | refine below_set ?_ GE102.out | refine below_set ?_ GE103.out) | exact HB.out)⟩
  · rw [if_neg c2] at H
    have c2b0 : decide (100 < (l0_1.length : Int)) = false := decide_eq_false c2
    have c2b1 : decide (100 < l0_1.length) = false := decide_eq_false (by omega)
    clear c2
    have H' := Aside0.mk H
    clear H
    go_enter Try.func8, Try.ntmps8
    go_wp2_with (first | ((with_reducible refine gate_dst (N := 1) rfl ?_); refine box_event ?hg (N := 1) ?hd (cs := #[.int .i64 a0_0, .slice A0_1 l0_1.length c0_1]) (t := 24) ?hr ?_; (case hd => rfl); (case hg => rfl); (case hr => first | (go_simp; done) | (go_simp; rfl)); intro gb101 hg w13 hbox hb; have n0_ := Aside0.mk (below_step (by repeat (first | (with_reducible first | exact HB.out | apply below_alloc | apply pw_below_drewN | apply below_drew1) | exact HB.out)) hb); have n1_ := Aside0.mk (hbox); have n2_ := Aside0.mk ((by rw [hg]; exact (below_size (by repeat (first | (with_reducible first | exact HB.out | apply below_alloc | apply pw_below_drewN | apply below_drew1) | exact HB.out))) : w.heap.size ≤ gb101)); have n3_ := Aside0.mk ((by rw [hg]; exact (below_size (by repeat (first | (with_reducible first | exact HB.out | apply below_alloc | apply pw_below_drewN | apply below_drew1) | exact HB.out))) : w.heap.size ≤ gb101)); clear HB; have HB := n0_; have BK101 := n1_; have GW101 := n2_; have GE101 := n3_; clear n0_ n1_ n2_ n3_; clear hb hbox hg) | ((with_reducible refine gate_dst (N := 2) rfl ?_); refine box_event ?hg (N := 2) ?hd (cs := #[.int .i64 0, .slice none 0 0]) (t := 27) ?hr ?_; (case hd => rfl); (case hg => rfl); (case hr => first | (go_simp; done) | (go_simp; rfl)); intro gb102 hg w14 hbox hb; have n0_ := Aside0.mk (blk_below (g := gb101) (o := .cells #[.int .i64 a0_0, .slice A0_1 l0_1.length c0_1] 24 (0, 0)) (by (with_reducible repeat (first | refine blk_drewN ?_ _ | refine blk_drew ?_ | refine blk_alloc ?_ _)); exact BK101.out) hb); have n1_ := Aside0.mk (below_step (by repeat (first | (with_reducible first | exact HB.out | apply below_alloc | apply pw_below_drewN | apply below_drew1 | refine below_set ?_ GE101.out) | exact HB.out)) hb); have n2_ := Aside0.mk (hbox); have n3_ := Aside0.mk ((by rw [hg]; exact (below_size (by repeat (first | (with_reducible first | exact HB.out | apply below_alloc | apply pw_below_drewN | apply below_drew1 | refine below_set ?_ GE101.out) | exact HB.out))) : w.heap.size ≤ gb102)); have n4_ := Aside0.mk ((by rw [hg]; exact (below_size (by repeat (first | (with_reducible first | exact HB.out | apply below_alloc | apply pw_below_drewN | apply below_drew1 | refine below_set ?_ GE101.out) | exact HB.out))) : w.heap.size ≤ gb102)); have n5_ := Aside0.mk ((by rw [hg]; exact Nat.ne_of_lt (blk_lt (g := gb101) (o := .cells #[.int .i64 a0_0, .slice A0_1 l0_1.length c0_1] 24 (0, 0)) (by (with_reducible repeat (first | refine blk_drewN ?_ _ | refine blk_drew ?_ | refine blk_alloc ?_ _)); exact BK101.out)) : gb101 ≠ gb102)); have n6_ := Aside0.mk ((by rw [hg]; exact Nat.ne_of_gt (blk_lt (g := gb101) (o := .cells #[.int .i64 a0_0, .slice A0_1 l0_1.length c0_1] 24 (0, 0)) (by (with_reducible repeat (first | refine blk_drewN ?_ _ | refine blk_drew ?_ | refine blk_alloc ?_ _)); exact BK101.out)) : gb102 ≠ gb101)); clear BK101; clear HB; have BK101 := n0_; have HB := n1_; have BK102 := n2_; have GW102 := n3_; have GE102 := n4_; have NB101_102 := n5_; have NB102_101 := n6_; clear n0_ n1_ n2_ n3_ n4_ n5_ n6_; clear hb hbox hg; have hnb15 := NB101_102.out; have hnc15 := NB102_101.out; have hcz16_0 : w14.cell? ⟨gb101, 0, none⟩ = some (.int .i64 a0_0) := (blk_cell BK101.out 0).trans rfl; have hcz16_1 : w14.cell? ⟨gb101, 1, none⟩ = some (.slice A0_1 l0_1.length c0_1) := (blk_cell BK101.out 1).trans rfl; have hfz16_0 := blk_frozen BK101.out 0; have hfz16_1 := blk_frozen BK101.out 1) | ((with_reducible refine gate_dst (N := 4) rfl ?_); refine box_event ?hg (N := 4) ?hd (cs := #[.int .i64 0, .slice none 0 0]) (t := 27) ?hr ?_; (case hd => rfl); (case hg => rfl); (case hr => first | (go_simp; done) | (go_simp; rfl)); intro gb103 hg w17 hbox hb; have n0_ := Aside0.mk (blk_below (g := gb101) (o := .cells #[.int .i64 a0_0, .slice A0_1 l0_1.length c0_1] 24 (0, 0)) (by (with_reducible repeat (first | refine blk_drewN ?_ _ | refine blk_drew ?_ | refine blk_alloc ?_ _)); exact BK101.out) hb); have n1_ := Aside0.mk (blk_below (g := gb102) (o := .cells #[.int .i64 0, .slice none 0 0] 27 (0, 0)) (by (with_reducible repeat (first | refine blk_drewN ?_ _ | refine blk_drew ?_ | refine blk_alloc ?_ _)); exact BK102.out) hb); have n2_ := Aside0.mk (below_step (by repeat (first | (with_reducible first | exact HB.out | apply below_alloc | apply pw_below_drewN | apply below_drew1 | refine below_set ?_ GE101.out | refine below_set ?_ GE102.out) | exact HB.out)) hb); have n3_ := Aside0.mk (hbox); have n4_ := Aside0.mk ((by rw [hg]; exact (below_size (by repeat (first | (with_reducible first | exact HB.out | apply below_alloc | apply pw_below_drewN | apply below_drew1 | refine below_set ?_ GE101.out | refine below_set ?_ GE102.out) | exact HB.out))) : w.heap.size ≤ gb103)); have n5_ := Aside0.mk ((by rw [hg]; exact (below_size (by repeat (first | (with_reducible first | exact HB.out | apply below_alloc | apply pw_below_drewN | apply below_drew1 | refine below_set ?_ GE101.out | refine below_set ?_ GE102.out) | exact HB.out))) : w.heap.size ≤ gb103)); have n6_ := Aside0.mk ((by rw [hg]; exact Nat.ne_of_lt (blk_lt (g := gb101) (o := .cells #[.int .i64 a0_0, .slice A0_1 l0_1.length c0_1] 24 (0, 0)) (by (with_reducible repeat (first | refine blk_drewN ?_ _ | refine blk_drew ?_ | refine blk_alloc ?_ _)); exact BK101.out)) : gb101 ≠ gb103)); have n7_ := Aside0.mk ((by rw [hg]; exact Nat.ne_of_gt (blk_lt (g := gb101) (o := .cells #[.int .i64 a0_0, .slice A0_1 l0_1.length c0_1] 24 (0, 0)) (by (with_reducible repeat (first | refine blk_drewN ?_ _ | refine blk_drew ?_ | refine blk_alloc ?_ _)); exact BK101.out)) : gb103 ≠ gb101)); have n8_ := Aside0.mk ((by rw [hg]; exact Nat.ne_of_lt (blk_lt (g := gb102) (o := .cells #[.int .i64 0, .slice none 0 0] 27 (0, 0)) (by (with_reducible repeat (first | refine blk_drewN ?_ _ | refine blk_drew ?_ | refine blk_alloc ?_ _)); exact BK102.out)) : gb102 ≠ gb103)); have n9_ := Aside0.mk ((by rw [hg]; exact Nat.ne_of_gt (blk_lt (g := gb102) (o := .cells #[.int .i64 0, .slice none 0 0] 27 (0, 0)) (by (with_reducible repeat (first | refine blk_drewN ?_ _ | refine blk_drew ?_ | refine blk_alloc ?_ _)); exact BK102.out)) : gb103 ≠ gb102)); clear BK101; clear BK102; clear HB; have BK101 := n0_; have BK102 := n1_; have HB := n2_; have BK103 := n3_; have GW103 := n4_; have GE103 := n5_; have NB101_103 := n6_; have NB103_101 := n7_; have NB102_103 := n8_; have NB103_102 := n9_; clear n0_ n1_ n2_ n3_ n4_ n5_ n6_ n7_ n8_ n9_; clear hb hbox hg; have hnb18 := NB103_101.out; have hnc18 := NB101_103.out; have hnb19 := NB103_102.out; have hnc19 := NB102_103.out; have hcz20_0 : w17.cell? ⟨gb103, 0, none⟩ = some (.int .i64 0) := (blk_cell BK103.out 0).trans rfl; have hcz20_1 : w17.cell? ⟨gb103, 1, none⟩ = some (.slice none 0 0) := (blk_cell BK103.out 1).trans rfl; have hfz20_0 := blk_frozen BK103.out 0; have hfz20_1 := blk_frozen BK103.out 1; have hcz21_0 : w17.cell? ⟨gb101, 0, none⟩ = some (.int .i64 a0_0) := (blk_cell BK101.out 0).trans rfl; have hcz21_1 : w17.cell? ⟨gb101, 1, none⟩ = some (.slice A0_1 l0_1.length c0_1) := (blk_cell BK101.out 1).trans rfl; have hfz21_0 := blk_frozen BK101.out 0; have hfz21_1 := blk_frozen BK101.out 1))
    go_loopg [18] k (fun kq v18 w' => ∃ (x18_1 : Int) (x103000_1 : Int) (x104001_1 : List (S40)) (u104001 : Value), v18 = .int .i64 x18_1 ∧ Aside0 (switchboardlaw10_ref.l0 kq l0_1 (l0_1.length : Int) x18_1 a0_0 x104001_1 = some (r1, r2, r3)) ∧ Aside0 (kq ≤ k) ∧ Aside0 (Kd.R k40 40 w' w.heap.size (fun _ => True) u104001 x104001_1) ∧ Aside0 (w'.heap[gb101]? = some (.cells #[.int .i64 a0_0, (.slice A0_1 l0_1.length c0_1)] 24 (0, 0))) ∧ Aside0 (w'.heap[gb102]? = some (.cells #[.int .i64 x103000_1, (.slice none 0 0)] 27 (0, 0))) ∧ Aside0 (w'.heap[gb103]? = some (.cells #[.int .i64 a0_0, u104001] 27 (0, 0))) ∧ Aside0 (Below w.heap.size w w'))
    case atStart => exact ⟨(0), (0), (([] : List (S40))), (.slice none 0 0), (by first | rfl | (simp; done) | (simp [*]; done)), H', ⟨Nat.le_refl _⟩, ⟨by first | exact Kd.R_nil _ _ _ _ _ | exact Kd.N_nil _ _ _ _ _ | exact Kd.V_nil _ _ _ _ _ | exact Kd.Q_nil _ _ _ _ _ | exact Kd.S_nil _ _ _ _ _⟩, ⟨by (with_reducible repeat (first | refine blk_drewN ?_ _ | refine blk_drew ?_ | refine blk_alloc ?_ _)); refine blk_far ?_ NB101_103.out _; (with_reducible repeat (first | refine blk_drewN ?_ _ | refine blk_drew ?_ | refine blk_alloc ?_ _)); refine blk_far ?_ NB101_103.out _; (with_reducible repeat (first | refine blk_drewN ?_ _ | refine blk_drew ?_ | refine blk_alloc ?_ _)); exact BK101.out⟩, ⟨by (with_reducible repeat (first | refine blk_drewN ?_ _ | refine blk_drew ?_ | refine blk_alloc ?_ _)); refine blk_far ?_ NB102_103.out _; (with_reducible repeat (first | refine blk_drewN ?_ _ | refine blk_drew ?_ | refine blk_alloc ?_ _)); refine blk_far ?_ NB102_103.out _; (with_reducible repeat (first | refine blk_drewN ?_ _ | refine blk_drew ?_ | refine blk_alloc ?_ _)); exact BK102.out⟩, ⟨by (with_reducible repeat (first | refine blk_drewN ?_ _ | refine blk_drew ?_ | refine blk_alloc ?_ _)); refine blk_put (cs := #[.int .i64 a0_0, .slice none 0 0]) ?_ 1 _ rfl; (with_reducible repeat (first | refine blk_drewN ?_ _ | refine blk_drew ?_ | refine blk_alloc ?_ _)); refine blk_put (cs := #[.int .i64 0, .slice none 0 0]) ?_ 0 _ rfl; (with_reducible repeat (first | refine blk_drewN ?_ _ | refine blk_drew ?_ | refine blk_alloc ?_ _)); exact BK103.out⟩, ⟨by repeat (first | (with_reducible first | exact HB.out | apply below_alloc | apply pw_below_drewN | apply below_drew1 | refine below_set ?_ GE101.out | refine below_set ?_ GE102.out | refine below_set ?_ GE103.out) | exact HB.out)⟩⟩
    case round =>
      clear H'
      try clear c1
      try clear c2
      try clear c2b0
      try clear c2b1
      try clear p2
      try clear c5
      try clear c8
      try clear c9
      try clear c15
      try clear c18
      try clear c19
      try clear hcz10_0
      try clear hcz10_1
      try clear hcz11_0
      try clear hcz11_1
      try clear hcz12_0
      try clear hcz12_1
      try clear hcz16_0
      try clear hcz16_1
      try clear hcz20_0
      try clear hcz20_1
      try clear hcz21_0
      try clear hcz21_1
      try clear hcz6_0
      try clear hcz6_1
      try clear hfz10_0
      try clear hfz10_1
      try clear hfz11_0
      try clear hfz11_1
      try clear hfz12_0
      try clear hfz12_1
      try clear hfz16_0
      try clear hfz16_1
      try clear hfz20_0
      try clear hfz20_1
      try clear hfz21_0
      try clear hfz21_1
      try clear hfz6_0
      try clear hfz6_1
      obtain ⟨x18_1, x103000_1, x104001_1, u104001, rfl, HA, HK1, HO_104001, BK101, BK102, BK103, HB⟩ := hrel
      cases gk with
      | zero => exact absurd HA.out (by simp [switchboardlaw10_ref.l0])
      | succ k1 =>
        have H := HA.out
        clear HA
        simp only [switchboardlaw10_ref.l0] at H
        by_cases c22 : x18_1 < (l0_1.length : Int)
        · rw [if_pos c22] at H
          have c22b0 : decide (x18_1 < (l0_1.length : Int)) = true := decide_eq_true c22
          clear c22
          by_cases c23 : 0 ≤ x18_1
          · rw [if_pos c23] at H
            have c23b0 : decide (0 ≤ x18_1) = true := decide_eq_true c23
            clear c23
            by_cases c24 : x18_1 < (l0_1.length : Int)
            · rw [if_pos c24] at H
              have c24b0 : decide (x18_1 < (l0_1.length : Int)) = true := decide_eq_true c24
              clear c24
              by_cases c25 : (((rd_T45 l0_1 x18_1).f1).size : Int) > 100
              · rw [if_pos c25] at H
                have c25b0 : decide (100 < (((rd_T45 l0_1 x18_1).f1).size : Int)) = true := decide_eq_true c25
                have c25b1 : decide (100 < ((rd_T45 l0_1 x18_1).f1).size) = true := decide_eq_true (by omega)
                clear c25
                simp only [Option.some.injEq, Prod.mk.injEq] at H
                obtain ⟨rfl, rfl, rfl⟩ := H
                have p104 : 0 ≤ (x18_1 : Int) := of_decide_eq_true (by first | (with_reducible assumption) | assumption)
                have q104 : x18_1 < (l0_1.length : Int) := of_decide_eq_true (by first | (with_reducible assumption) | assumption)
                obtain ⟨ad104, e104, hx104_0, hx104_1⟩ := at_T45 HR0_1.out x18_1 p104 q104
                cases e104
                replace hx104_0 := (HB.out.cell (World.block_lt_of_cell? w _ hx104_0)).trans hx104_0
                replace hx104_1 := (HB.out.cell (World.block_lt_of_cell? w _ hx104_1)).trans hx104_1
                replace p104 := eq_true p104
                replace q104 := eq_true q104
                go_wp2_with (first | ((with_reducible refine gate_dst (N := 6) rfl ?_); refine box_event ?hg (N := 6) ?hd (cs := #[.int .i64 0, .string (⟨#[]⟩ : ByteArray)]) (t := 45) ?hr ?_; (case hd => rfl); (case hg => rfl); (case hr => first | (go_simp; done) | (go_simp; rfl)); intro gb105 hg w26 hbox hb; have n0_ := Aside0.mk (Kd.R_below (by (with_reducible repeat (first | apply Kd.R_alloc | apply Kd.R_drewN | apply Kd.R_drew)); exact HO_104001.out) hb); have n1_ := Aside0.mk (blk_below (g := gb101) (o := .cells #[.int .i64 a0_0, .slice (some ad104) l0_1.length c0_1] 24 (0, 0)) (by (with_reducible repeat (first | refine blk_drewN ?_ _ | refine blk_drew ?_ | refine blk_alloc ?_ _)); exact BK101.out) hb); have n2_ := Aside0.mk (blk_below (g := gb102) (o := .cells #[.int .i64 x103000_1, .slice none 0 0] 27 (0, 0)) (by (with_reducible repeat (first | refine blk_drewN ?_ _ | refine blk_drew ?_ | refine blk_alloc ?_ _)); exact BK102.out) hb); have n3_ := Aside0.mk (blk_below (g := gb103) (o := .cells #[.int .i64 a0_0, u104001] 27 (0, 0)) (by (with_reducible repeat (first | refine blk_drewN ?_ _ | refine blk_drew ?_ | refine blk_alloc ?_ _)); exact BK103.out) hb); have n4_ := Aside0.mk (below_step (by repeat (first | (with_reducible first | exact HB.out | apply below_alloc | apply pw_below_drewN | apply below_drew1 | refine below_set ?_ GE101.out | refine below_set ?_ GE102.out | refine below_set ?_ GE103.out) | exact HB.out)) hb); have n5_ := Aside0.mk (hbox); have n6_ := Aside0.mk ((by rw [hg]; exact (below_size (by repeat (first | (with_reducible first | exact HB.out | apply below_alloc | apply pw_below_drewN | apply below_drew1 | refine below_set ?_ GE101.out | refine below_set ?_ GE102.out | refine below_set ?_ GE103.out) | exact HB.out))) : w.heap.size ≤ gb105)); have n7_ := Aside0.mk ((by rw [hg]; exact (below_size (by repeat (first | (with_reducible first | exact HB.out | apply below_alloc | apply pw_below_drewN | apply below_drew1 | refine below_set ?_ GE101.out | refine below_set ?_ GE102.out | refine below_set ?_ GE103.out) | exact HB.out))) : w.heap.size ≤ gb105)); have n8_ := Aside0.mk ((by rw [hg]; exact Nat.ne_of_lt (blk_lt (g := gb101) (o := .cells #[.int .i64 a0_0, .slice (some ad104) l0_1.length c0_1] 24 (0, 0)) (by (with_reducible repeat (first | refine blk_drewN ?_ _ | refine blk_drew ?_ | refine blk_alloc ?_ _)); exact BK101.out)) : gb101 ≠ gb105)); have n9_ := Aside0.mk ((by rw [hg]; exact Nat.ne_of_gt (blk_lt (g := gb101) (o := .cells #[.int .i64 a0_0, .slice (some ad104) l0_1.length c0_1] 24 (0, 0)) (by (with_reducible repeat (first | refine blk_drewN ?_ _ | refine blk_drew ?_ | refine blk_alloc ?_ _)); exact BK101.out)) : gb105 ≠ gb101)); have n10_ := Aside0.mk ((by rw [hg]; exact Nat.ne_of_lt (blk_lt (g := gb102) (o := .cells #[.int .i64 x103000_1, .slice none 0 0] 27 (0, 0)) (by (with_reducible repeat (first | refine blk_drewN ?_ _ | refine blk_drew ?_ | refine blk_alloc ?_ _)); exact BK102.out)) : gb102 ≠ gb105)); have n11_ := Aside0.mk ((by rw [hg]; exact Nat.ne_of_gt (blk_lt (g := gb102) (o := .cells #[.int .i64 x103000_1, .slice none 0 0] 27 (0, 0)) (by (with_reducible repeat (first | refine blk_drewN ?_ _ | refine blk_drew ?_ | refine blk_alloc ?_ _)); exact BK102.out)) : gb105 ≠ gb102)); have n12_ := Aside0.mk ((by rw [hg]; exact Nat.ne_of_lt (blk_lt (g := gb103) (o := .cells #[.int .i64 a0_0, u104001] 27 (0, 0)) (by (with_reducible repeat (first | refine blk_drewN ?_ _ | refine blk_drew ?_ | refine blk_alloc ?_ _)); exact BK103.out)) : gb103 ≠ gb105)); have n13_ := Aside0.mk ((by rw [hg]; exact Nat.ne_of_gt (blk_lt (g := gb103) (o := .cells #[.int .i64 a0_0, u104001] 27 (0, 0)) (by (with_reducible repeat (first | refine blk_drewN ?_ _ | refine blk_drew ?_ | refine blk_alloc ?_ _)); exact BK103.out)) : gb105 ≠ gb103)); clear HO_104001; clear BK101; clear BK102; clear BK103; clear HB; have HO_104001 := n0_; have BK101 := n1_; have BK102 := n2_; have BK103 := n3_; have HB := n4_; have BK105 := n5_; have GW105 := n6_; have GE105 := n7_; have NB101_105 := n8_; have NB105_101 := n9_; have NB102_105 := n10_; have NB105_102 := n11_; have NB103_105 := n12_; have NB105_103 := n13_; clear n0_ n1_ n2_ n3_ n4_ n5_ n6_ n7_ n8_ n9_ n10_ n11_ n12_ n13_; clear hb hbox hg; have hnb27 := NB105_101.out; have hnc27 := NB101_105.out; have hnb28 := NB105_102.out; have hnc28 := NB102_105.out; have hnb29 := NB105_103.out; have hnc29 := NB103_105.out; have hcz30_0 : w26.cell? ⟨gb105, 0, none⟩ = some (.int .i64 0) := (blk_cell BK105.out 0).trans rfl; have hcz30_1 : w26.cell? ⟨gb105, 1, none⟩ = some (.string (⟨#[]⟩ : ByteArray)) := (blk_cell BK105.out 1).trans rfl; have hfz30_0 := blk_frozen BK105.out 0; have hfz30_1 := blk_frozen BK105.out 1; have hnb31 := NB103_101.out; have hnc31 := NB101_103.out; have hnb32 := NB103_102.out; have hnc32 := NB102_103.out; have hcz33_0 : w26.cell? ⟨gb103, 0, none⟩ = some (.int .i64 a0_0) := (blk_cell BK103.out 0).trans rfl; have hcz33_1 : w26.cell? ⟨gb103, 1, none⟩ = some (u104001) := (blk_cell BK103.out 1).trans rfl; have hfz33_0 := blk_frozen BK103.out 0; have hfz33_1 := blk_frozen BK103.out 1; have hnb34 := NB102_101.out; have hnc34 := NB101_102.out; have hcz35_0 : w26.cell? ⟨gb102, 0, none⟩ = some (.int .i64 x103000_1) := (blk_cell BK102.out 0).trans rfl; have hcz35_1 : w26.cell? ⟨gb102, 1, none⟩ = some (.slice none 0 0) := (blk_cell BK102.out 1).trans rfl; have hfz35_0 := blk_frozen BK102.out 0; have hfz35_1 := blk_frozen BK102.out 1; obtain ⟨Ao36, co36, eo36⟩ := Kd.R_slice HO_104001.out; subst eo36))
                refine bodyPost_ret (results_ct rfl _ _ gb102 27 #[.int .i64 a0_0, .slice Ao36 x104001_1.length co36] (0, 0) _ rfl (by (with_reducible repeat (first | refine blk_drewN ?_ _ | refine blk_drew ?_ | refine blk_alloc ?_ _)); refine blk_put (cs := #[.int .i64 a0_0, .slice none 0 0]) ?_ 1 _ rfl; (with_reducible repeat (first | refine blk_drewN ?_ _ | refine blk_drew ?_ | refine blk_alloc ?_ _)); refine blk_put (cs := #[.int .i64 x103000_1, .slice none 0 0]) ?_ 0 _ rfl; (with_reducible repeat (first | refine blk_drewN ?_ _ | refine blk_drew ?_ | refine blk_alloc ?_ _)); refine blk_far ?_ NB102_105.out _; (with_reducible repeat (first | refine blk_drewN ?_ _ | refine blk_drew ?_ | refine blk_alloc ?_ _)); refine blk_far ?_ NB102_105.out _; (with_reducible repeat (first | refine blk_drewN ?_ _ | refine blk_drew ?_ | refine blk_alloc ?_ _)); exact BK102.out) Try.underlying27 rfl (by kernel_rfl)) rfl ?_
                exact ⟨_, by first | rfl | (simp [errW_none, errW_some] <;> rfl) | (simp [*, errW_none, errW_some] <;> rfl), by (with_reducible repeat (first | apply Kd.R_alloc | apply Kd.R_drewN | apply Kd.R_drew)); exact Kd.R_mono (Kd.R_far (p := ⟨gb102, 1, none⟩) (Kd.R_far (p := ⟨gb102, 0, none⟩) (Kd.R_far (p := ⟨gb105, 1, none⟩) (Kd.R_far (p := ⟨gb105, 0, none⟩) (Kd.R_types (Kd.R_types HO_104001.out BK105.out (by decide)) BK102.out (by decide)) (fun _ hk => hk.1.2) (.int .i64 ((rd_T45 l0_1 x18_1).f0))) (fun _ hk => hk.1.2) (.string ((rd_T45 l0_1 x18_1).f1))) (fun _ hk => hk.2) (.int .i64 a0_0)) (fun _ hk => hk.2) (.slice Ao36 x104001_1.length co36)) (fun _ hk => trivial), by repeat (first | (with_reducible first | exact HB.out | apply below_alloc | apply pw_below_drewN | apply below_drew1 | refine below_set ?_ GE101.out | refine below_set ?_ GE102.out | refine below_set ?_ GE103.out | refine below_set ?_ GE105.out) | exact HB.out)⟩
              · rw [if_neg c25] at H
                have c25b0 : decide (100 < (((rd_T45 l0_1 x18_1).f1).size : Int)) = false := decide_eq_false c25
                have c25b1 : decide (100 < ((rd_T45 l0_1 x18_1).f1).size) = false := decide_eq_false (by omega)
                clear c25
                by_cases c37 : x104001_1.length < 5864062014805
                · rw [if_pos c37] at H
                  have LMc37 := Aside0.mk c37
                  clear c37
                  obtain ⟨y106, hy106⟩ : ∃ y_ : List (S40), y_ = (x104001_1 ++ [(⟨(rd_T45 l0_1 x18_1).f0, (rd_T45 l0_1 x18_1).f1⟩ : S40)]) := ⟨_, rfl⟩
                  replace H : (switchboardlaw10_ref.l0 k1 l0_1 (l0_1.length : Int) (wrap64 (x18_1 + 1)) a0_0 y106) = some (r1, r2, r3) := by first | (rw [hy106]; with_reducible exact H) | (have H2_ := (Option.bind_some _ _).symm.trans H; rw [hy106]; with_reducible exact H2_) | (have H2_ := (Option.bind_some _ _).symm.trans H; with_reducible exact H2_) | with_reducible exact H | (rw [hy106]; exact H) | exact H
                  have Ny106 := Aside0.mk hy106
                  clear hy106
                  have H' := Aside0.mk H
                  clear H
                  have p104 : 0 ≤ (x18_1 : Int) := of_decide_eq_true (by first | (with_reducible assumption) | assumption)
                  have q104 : x18_1 < (l0_1.length : Int) := of_decide_eq_true (by first | (with_reducible assumption) | assumption)
                  obtain ⟨ad104, e104, hx104_0, hx104_1⟩ := at_T45 HR0_1.out x18_1 p104 q104
                  cases e104
                  replace hx104_0 := (HB.out.cell (World.block_lt_of_cell? w _ hx104_0)).trans hx104_0
                  replace hx104_1 := (HB.out.cell (World.block_lt_of_cell? w _ hx104_1)).trans hx104_1
                  replace p104 := eq_true p104
                  replace q104 := eq_true q104
                  go_wp2_with (first | ((with_reducible refine gate_dst (N := 6) rfl ?_); refine box_event ?hg (N := 6) ?hd (cs := #[.int .i64 0, .string (⟨#[]⟩ : ByteArray)]) (t := 45) ?hr ?_; (case hd => rfl); (case hg => rfl); (case hr => first | (go_simp; done) | (go_simp; rfl)); intro gb105 hg w38 hbox hb; have n0_ := Aside0.mk (Kd.R_below (by (with_reducible repeat (first | apply Kd.R_alloc | apply Kd.R_drewN | apply Kd.R_drew)); exact HO_104001.out) hb); have n1_ := Aside0.mk (blk_below (g := gb101) (o := .cells #[.int .i64 a0_0, .slice (some ad104) l0_1.length c0_1] 24 (0, 0)) (by (with_reducible repeat (first | refine blk_drewN ?_ _ | refine blk_drew ?_ | refine blk_alloc ?_ _)); exact BK101.out) hb); have n2_ := Aside0.mk (blk_below (g := gb102) (o := .cells #[.int .i64 x103000_1, .slice none 0 0] 27 (0, 0)) (by (with_reducible repeat (first | refine blk_drewN ?_ _ | refine blk_drew ?_ | refine blk_alloc ?_ _)); exact BK102.out) hb); have n3_ := Aside0.mk (blk_below (g := gb103) (o := .cells #[.int .i64 a0_0, u104001] 27 (0, 0)) (by (with_reducible repeat (first | refine blk_drewN ?_ _ | refine blk_drew ?_ | refine blk_alloc ?_ _)); exact BK103.out) hb); have n4_ := Aside0.mk (below_step (by repeat (first | (with_reducible first | exact HB.out | apply below_alloc | apply pw_below_drewN | apply below_drew1 | refine below_set ?_ GE101.out | refine below_set ?_ GE102.out | refine below_set ?_ GE103.out) | exact HB.out)) hb); have n5_ := Aside0.mk (hbox); have n6_ := Aside0.mk ((by rw [hg]; exact (below_size (by repeat (first | (with_reducible first | exact HB.out | apply below_alloc | apply pw_below_drewN | apply below_drew1 | refine below_set ?_ GE101.out | refine below_set ?_ GE102.out | refine below_set ?_ GE103.out) | exact HB.out))) : w.heap.size ≤ gb105)); have n7_ := Aside0.mk ((by rw [hg]; exact (below_size (by repeat (first | (with_reducible first | exact HB.out | apply below_alloc | apply pw_below_drewN | apply below_drew1 | refine below_set ?_ GE101.out | refine below_set ?_ GE102.out | refine below_set ?_ GE103.out) | exact HB.out))) : w.heap.size ≤ gb105)); have n8_ := Aside0.mk ((by rw [hg]; exact Nat.ne_of_lt (blk_lt (g := gb101) (o := .cells #[.int .i64 a0_0, .slice (some ad104) l0_1.length c0_1] 24 (0, 0)) (by (with_reducible repeat (first | refine blk_drewN ?_ _ | refine blk_drew ?_ | refine blk_alloc ?_ _)); exact BK101.out)) : gb101 ≠ gb105)); have n9_ := Aside0.mk ((by rw [hg]; exact Nat.ne_of_gt (blk_lt (g := gb101) (o := .cells #[.int .i64 a0_0, .slice (some ad104) l0_1.length c0_1] 24 (0, 0)) (by (with_reducible repeat (first | refine blk_drewN ?_ _ | refine blk_drew ?_ | refine blk_alloc ?_ _)); exact BK101.out)) : gb105 ≠ gb101)); have n10_ := Aside0.mk ((by rw [hg]; exact Nat.ne_of_lt (blk_lt (g := gb102) (o := .cells #[.int .i64 x103000_1, .slice none 0 0] 27 (0, 0)) (by (with_reducible repeat (first | refine blk_drewN ?_ _ | refine blk_drew ?_ | refine blk_alloc ?_ _)); exact BK102.out)) : gb102 ≠ gb105)); have n11_ := Aside0.mk ((by rw [hg]; exact Nat.ne_of_gt (blk_lt (g := gb102) (o := .cells #[.int .i64 x103000_1, .slice none 0 0] 27 (0, 0)) (by (with_reducible repeat (first | refine blk_drewN ?_ _ | refine blk_drew ?_ | refine blk_alloc ?_ _)); exact BK102.out)) : gb105 ≠ gb102)); have n12_ := Aside0.mk ((by rw [hg]; exact Nat.ne_of_lt (blk_lt (g := gb103) (o := .cells #[.int .i64 a0_0, u104001] 27 (0, 0)) (by (with_reducible repeat (first | refine blk_drewN ?_ _ | refine blk_drew ?_ | refine blk_alloc ?_ _)); exact BK103.out)) : gb103 ≠ gb105)); have n13_ := Aside0.mk ((by rw [hg]; exact Nat.ne_of_gt (blk_lt (g := gb103) (o := .cells #[.int .i64 a0_0, u104001] 27 (0, 0)) (by (with_reducible repeat (first | refine blk_drewN ?_ _ | refine blk_drew ?_ | refine blk_alloc ?_ _)); exact BK103.out)) : gb105 ≠ gb103)); clear HO_104001; clear BK101; clear BK102; clear BK103; clear HB; have HO_104001 := n0_; have BK101 := n1_; have BK102 := n2_; have BK103 := n3_; have HB := n4_; have BK105 := n5_; have GW105 := n6_; have GE105 := n7_; have NB101_105 := n8_; have NB105_101 := n9_; have NB102_105 := n10_; have NB105_102 := n11_; have NB103_105 := n12_; have NB105_103 := n13_; clear n0_ n1_ n2_ n3_ n4_ n5_ n6_ n7_ n8_ n9_ n10_ n11_ n12_ n13_; clear hb hbox hg; have hnb39 := NB105_101.out; have hnc39 := NB101_105.out; have hnb40 := NB105_102.out; have hnc40 := NB102_105.out; have hnb41 := NB105_103.out; have hnc41 := NB103_105.out; have hcz42_0 : w38.cell? ⟨gb105, 0, none⟩ = some (.int .i64 0) := (blk_cell BK105.out 0).trans rfl; have hcz42_1 : w38.cell? ⟨gb105, 1, none⟩ = some (.string (⟨#[]⟩ : ByteArray)) := (blk_cell BK105.out 1).trans rfl; have hfz42_0 := blk_frozen BK105.out 0; have hfz42_1 := blk_frozen BK105.out 1; have hnb43 := NB103_101.out; have hnc43 := NB101_103.out; have hnb44 := NB103_102.out; have hnc44 := NB102_103.out; have hcz45_0 : w38.cell? ⟨gb103, 0, none⟩ = some (.int .i64 a0_0) := (blk_cell BK103.out 0).trans rfl; have hcz45_1 : w38.cell? ⟨gb103, 1, none⟩ = some (u104001) := (blk_cell BK103.out 1).trans rfl; have hfz45_0 := blk_frozen BK103.out 0; have hfz45_1 := blk_frozen BK103.out 1) | ((with_reducible refine gate_builtin (b := .append) (xs := #[.tmp 28, .tmp 30]) rfl ?_); at_builtin; refine Kd.R_append k40 (w0 := w) w.heap.size rfl (.tmp 28) (.tmp 30) 25 40 (.agg #[(.int .i64 0), (.string ⟨#[]⟩)]) 24 rfl Try.underlying25 info40 rfl (by decide) (by omega) u104001 x104001_1 (⟨(rd_T45 l0_1 x18_1).f0, (rd_T45 l0_1 x18_1).f1⟩ : S40) [.int .i64 ((rd_T45 l0_1 x18_1).f0), .string ((rd_T45 l0_1 x18_1).f1)] (fun _ => True) (fun _ => False) rfl (by first | (go_simp; done) | (go_simp; rfl)) ?aP (fun _ hk => hk.elim) ?aF ?aO ?aB ?aS ?aL ?_; (case aP => exact k40_mkM _ _ _ (⟨(rd_T45 l0_1 x18_1).f0, (rd_T45 l0_1 x18_1).f1⟩ : S40)); (case aB => exact (by repeat (first | (with_reducible first | exact HB.out | apply below_alloc | apply pw_below_drewN | apply below_drew1 | refine below_set ?_ GE101.out | refine below_set ?_ GE102.out | refine below_set ?_ GE103.out | refine below_set ?_ GE105.out) | exact HB.out))); (case aF => exact (fun _ _ => trivial)); (case aO => exact (by (with_reducible repeat (first | apply Kd.R_alloc | apply Kd.R_drewN | apply Kd.R_drew)); exact Kd.R_mono (Kd.R_far (p := ⟨gb105, 1, none⟩) (Kd.R_far (p := ⟨gb105, 0, none⟩) (Kd.R_types HO_104001.out BK105.out (by decide)) (fun _ hk => hk.2) (.int .i64 ((rd_T45 l0_1 x18_1).f0))) (fun _ hk => hk.2) (.string ((rd_T45 l0_1 x18_1).f1))) (fun _ hk => trivial))); (case aS => exact (below_size (by repeat (first | (with_reducible first | exact HB.out | apply below_alloc | apply pw_below_drewN | apply below_drew1 | refine below_set ?_ GE101.out | refine below_set ?_ GE102.out | refine below_set ?_ GE103.out | refine below_set ?_ GE105.out) | exact HB.out)))); (case aL => have := LMc37.out; omega); intro v107 w46 ho hb hg hat; rw [← Ny106.out] at ho; have n0_ := Aside0.mk (blk_grown (g := gb101) (o := .cells #[.int .i64 a0_0, .slice (some ad104) l0_1.length c0_1] 24 (0, 0)) (by (with_reducible repeat (first | refine blk_drewN ?_ _ | refine blk_drew ?_ | refine blk_alloc ?_ _)); refine blk_far ?_ NB101_105.out _; (with_reducible repeat (first | refine blk_drewN ?_ _ | refine blk_drew ?_ | refine blk_alloc ?_ _)); refine blk_far ?_ NB101_105.out _; (with_reducible repeat (first | refine blk_drewN ?_ _ | refine blk_drew ?_ | refine blk_alloc ?_ _)); exact BK101.out) hg (Kd.R_ne HO_104001.out BK101.out (by decide))); have n1_ := Aside0.mk (blk_grown (g := gb102) (o := .cells #[.int .i64 x103000_1, .slice none 0 0] 27 (0, 0)) (by (with_reducible repeat (first | refine blk_drewN ?_ _ | refine blk_drew ?_ | refine blk_alloc ?_ _)); refine blk_far ?_ NB102_105.out _; (with_reducible repeat (first | refine blk_drewN ?_ _ | refine blk_drew ?_ | refine blk_alloc ?_ _)); refine blk_far ?_ NB102_105.out _; (with_reducible repeat (first | refine blk_drewN ?_ _ | refine blk_drew ?_ | refine blk_alloc ?_ _)); exact BK102.out) hg (Kd.R_ne HO_104001.out BK102.out (by decide))); have n2_ := Aside0.mk (blk_grown (g := gb103) (o := .cells #[.int .i64 a0_0, u104001] 27 (0, 0)) (by (with_reducible repeat (first | refine blk_drewN ?_ _ | refine blk_drew ?_ | refine blk_alloc ?_ _)); refine blk_far ?_ NB103_105.out _; (with_reducible repeat (first | refine blk_drewN ?_ _ | refine blk_drew ?_ | refine blk_alloc ?_ _)); refine blk_far ?_ NB103_105.out _; (with_reducible repeat (first | refine blk_drewN ?_ _ | refine blk_drew ?_ | refine blk_alloc ?_ _)); exact BK103.out) hg (Kd.R_ne HO_104001.out BK103.out (by decide))); have n3_ := Aside0.mk (blk_grown (g := gb105) (o := .cells #[.int .i64 ((rd_T45 l0_1 x18_1).f0), .string ((rd_T45 l0_1 x18_1).f1)] 45 (0, 0)) (by (with_reducible repeat (first | refine blk_drewN ?_ _ | refine blk_drew ?_ | refine blk_alloc ?_ _)); refine blk_put (cs := #[.int .i64 ((rd_T45 l0_1 x18_1).f0), .string (⟨#[]⟩ : ByteArray)]) ?_ 1 _ rfl; (with_reducible repeat (first | refine blk_drewN ?_ _ | refine blk_drew ?_ | refine blk_alloc ?_ _)); refine blk_put (cs := #[.int .i64 0, .string (⟨#[]⟩ : ByteArray)]) ?_ 0 _ rfl; (with_reducible repeat (first | refine blk_drewN ?_ _ | refine blk_drew ?_ | refine blk_alloc ?_ _)); exact BK105.out) hg (Kd.R_ne HO_104001.out BK105.out (by decide))); have n4_ := Aside0.mk (hb); have n5_ := Aside0.mk (ho); clear BK101; clear BK102; clear BK103; clear BK105; clear HB; clear HO_104001; have BK101 := n0_; have BK102 := n1_; have BK103 := n2_; have BK105 := n3_; have HB := n4_; have HO108 := n5_; clear n0_ n1_ n2_ n3_ n4_ n5_; clear ho hb hg hat; obtain ⟨Ao47, co47, eo47⟩ := Kd.R_slice HO108.out; subst eo47; have hcz48_0 : w46.cell? ⟨gb103, 0, none⟩ = some (.int .i64 a0_0) := (blk_cell BK103.out 0).trans rfl; have hcz48_1 : w46.cell? ⟨gb103, 1, none⟩ = some (u104001) := (blk_cell BK103.out 1).trans rfl; have hfz48_0 := blk_frozen BK103.out 0; have hfz48_1 := blk_frozen BK103.out 1))
                  go_roundg k1
                  case measure => have := HK1.out; omega
                  case rel => exact ⟨(wrap64 (x18_1 + 1)), (x103000_1), (y106), (.slice Ao47 y106.length co47), (by first | rfl | (simp; done) | (simp [*]; done)), H', ⟨by have := HK1.out; omega⟩, ⟨by (with_reducible repeat (first | apply Kd.R_alloc | apply Kd.R_drewN | apply Kd.R_drew)); exact Kd.R_mono (Kd.R_far (p := ⟨gb103, 1, none⟩) (Kd.R_types HO108.out BK103.out (by decide)) (fun _ hk => hk.2) (.slice Ao47 y106.length co47)) (fun _ hk => trivial)⟩, ⟨by (with_reducible repeat (first | refine blk_drewN ?_ _ | refine blk_drew ?_ | refine blk_alloc ?_ _)); refine blk_far ?_ NB101_103.out _; (with_reducible repeat (first | refine blk_drewN ?_ _ | refine blk_drew ?_ | refine blk_alloc ?_ _)); exact BK101.out⟩, ⟨by (with_reducible repeat (first | refine blk_drewN ?_ _ | refine blk_drew ?_ | refine blk_alloc ?_ _)); refine blk_far ?_ NB102_103.out _; (with_reducible repeat (first | refine blk_drewN ?_ _ | refine blk_drew ?_ | refine blk_alloc ?_ _)); exact BK102.out⟩, ⟨by (with_reducible repeat (first | refine blk_drewN ?_ _ | refine blk_drew ?_ | refine blk_alloc ?_ _)); refine blk_put (cs := #[.int .i64 a0_0, u104001]) ?_ 1 _ rfl; (with_reducible repeat (first | refine blk_drewN ?_ _ | refine blk_drew ?_ | refine blk_alloc ?_ _)); exact BK103.out⟩, ⟨by repeat (first | (with_reducible first | exact HB.out | apply below_alloc | apply pw_below_drewN | apply below_drew1 | refine below_set ?_ GE101.out | refine below_set ?_ GE102.out | refine below_set ?_ GE103.out | refine below_set ?_ GE105.out) | exact HB.out)⟩⟩
                · rw [if_neg c37] at H
                  exact absurd H (by simp)
            · rw [if_neg c24] at H
              exact absurd H (by simp)
          · rw [if_neg c23] at H
            exact absurd H (by simp)
        · rw [if_neg c22] at H
          have c22b0 : decide (x18_1 < (l0_1.length : Int)) = false := decide_eq_false c22
          clear c22
          simp only [Option.some.injEq, Prod.mk.injEq] at H
          obtain ⟨rfl, rfl, rfl⟩ := H
          have hnb49 := NB103_101.out
          have hnc49 := NB101_103.out
          have hnb50 := NB103_102.out
          have hnc50 := NB102_103.out
          have hcz51_0 : wr.cell? ⟨gb103, 0, none⟩ = some (.int .i64 a0_0) := (blk_cell BK103.out 0).trans rfl
          have hcz51_1 : wr.cell? ⟨gb103, 1, none⟩ = some (u104001) := (blk_cell BK103.out 1).trans rfl
          have hfz51_0 := blk_frozen BK103.out 0
          have hfz51_1 := blk_frozen BK103.out 1
          have hnb52 := NB102_101.out
          have hnc52 := NB101_102.out
          have hcz53_0 : wr.cell? ⟨gb102, 0, none⟩ = some (.int .i64 x103000_1) := (blk_cell BK102.out 0).trans rfl
          have hcz53_1 : wr.cell? ⟨gb102, 1, none⟩ = some (.slice none 0 0) := (blk_cell BK102.out 1).trans rfl
          have hfz53_0 := blk_frozen BK102.out 0
          have hfz53_1 := blk_frozen BK102.out 1
          obtain ⟨Ao54, co54, eo54⟩ := Kd.R_slice HO_104001.out
          subst eo54
          go_wp2
          refine bodyPost_ret (results_ct rfl _ _ gb102 27 #[.int .i64 a0_0, .slice Ao54 x104001_1.length co54] (0, 0) _ rfl (by (with_reducible repeat (first | refine blk_drewN ?_ _ | refine blk_drew ?_ | refine blk_alloc ?_ _)); refine blk_put (cs := #[.int .i64 a0_0, .slice none 0 0]) ?_ 1 _ rfl; (with_reducible repeat (first | refine blk_drewN ?_ _ | refine blk_drew ?_ | refine blk_alloc ?_ _)); refine blk_put (cs := #[.int .i64 x103000_1, .slice none 0 0]) ?_ 0 _ rfl; (with_reducible repeat (first | refine blk_drewN ?_ _ | refine blk_drew ?_ | refine blk_alloc ?_ _)); exact BK102.out) Try.underlying27 rfl (by kernel_rfl)) rfl ?_
          exact ⟨_, by first | rfl | (simp [errW_none, errW_some] <;> rfl) | (simp [*, errW_none, errW_some] <;> rfl), by (with_reducible repeat (first | apply Kd.R_alloc | apply Kd.R_drewN | apply Kd.R_drew)); exact Kd.R_mono (Kd.R_far (p := ⟨gb102, 1, none⟩) (Kd.R_far (p := ⟨gb102, 0, none⟩) (Kd.R_types HO_104001.out BK102.out (by decide)) (fun _ hk => hk.2) (.int .i64 a0_0)) (fun _ hk => hk.2) (.slice Ao54 x104001_1.length co54)) (fun _ hk => trivial), by repeat (first | (with_reducible first | exact HB.out | apply below_alloc | apply pw_below_drewN | apply below_drew1 | refine below_set ?_ GE101.out | refine below_set ?_ GE102.out | refine below_set ?_ GE103.out) | exact HB.out)⟩

/-! ### link_Right: function 14 -/
def link_Right.l0 : Nat → Int → List (S45) → Int → Int → Int → List (S45) → Option (Bool)
  | 0, _, _, _, _, _, _ => none
  | k + 1, x3, x7, x8, x9, x110000, x110001 => if x9 < x8 then (if 0 ≤ x9 then (if x9 < (x7.length : Int) then (if ((rd_T45 x7 x9).f0) ≤ x3 then (some false) else (if ((rd_T45 x7 x9).f0) ≥ x110000 then (some false) else (link_Right.l0 k ((rd_T45 x7 x9).f0) x7 x8 (wrap64 (x9 + 1)) x110000 x110001))) else (none)) else (none)) else (if x110000 ≥ 0 then (if x110000 ≤ 2147483647 then (some (decide ((x110001.length : Int) ≤ 64))) else (some false)) else (some false))
def link_Right.f (k : Nat) (a0_0 : Int) (l0_1 : List (S45)) : Option (Bool) := link_Right.l0 k (-1) l0_1 (l0_1.length : Int) 0 a0_0 l0_1
theorem link_Right.mono_l : ∀ k, (∀ y0 y1 y2 y3 y4 y5, LeO (link_Right.l0 k y0 y1 y2 y3 y4 y5) (link_Right.l0 (k + 1) y0 y1 y2 y3 y4 y5))
  | 0 => fun _ _ _ _ _ _ r h => by simp [link_Right.l0] at h
  | k + 1 => by
    have ih0 := link_Right.mono_l k
    · intro y0 y1 y2 y3 y4 y5
      unfold link_Right.l0
      repeat' first
      | (with_reducible exact ih0 _ _ _ _ _ _)
      | (with_reducible exact LeO.refl _)
      | (with_reducible exact LeO.none _)
      | (with_reducible refine LeO.ite ?_ ?_)
      | (with_reducible refine LeO.bind ?_ (fun _ => ?_))
      | exact ih0 _ _ _ _ _ _
      | exact LeO.none _
      | refine LeO.ite ?_ ?_
      | refine LeO.bind ?_ (fun _ => ?_)
theorem link_Right.mono : ∀ a0 a1 k, LeO (link_Right.f k a0 a1) (link_Right.f (k + 1) a0 a1) := by
  intro a0 a1 k
  have ih0 := link_Right.mono_l k
  unfold link_Right.f
  repeat' first
      | (with_reducible exact ih0 _ _ _ _ _ _)
      | (with_reducible exact LeO.refl _)
      | (with_reducible exact LeO.none _)
      | (with_reducible refine LeO.ite ?_ ?_)
      | (with_reducible refine LeO.bind ?_ (fun _ => ?_))
      | exact ih0 _ _ _ _ _ _
      | exact LeO.none _
      | refine LeO.ite ?_ ?_
      | refine LeO.bind ?_ (fun _ => ?_)
set_option maxHeartbeats 8000000 in
set_option maxRecDepth 100000 in
theorem link_Right.calls (k : Nat) (a0_0 : Int) (A0_1 : Option Addr) (c0_1 : Nat) (l0_1 : List (S45)) (r : Bool) (w : World) (hr0_1 : Kd.C k45 w A0_1 l0_1.length l0_1) (hc0_1 : l0_1.length ≤ c0_1) (h : link_Right.f k a0_0 l0_1 = some r) :
    Calls Try.prog 14 #[.agg #[.int .i64 a0_0, .slice A0_1 l0_1.length c0_1]] w fun e w' => e = .returned (.bool r) ∧ Below w.heap.size w w' := by
  have hu24 := Try.underlying24
  have hu45 := Try.underlying45
  have HR0_1 := Aside0.mk hr0_1
  have HC0_1 := Aside0.mk hc0_1
  clear hr0_1 hc0_1
  have HB := Aside0.mk (Below.refl w.heap.size w)
  have H : (link_Right.l0 k (-1) l0_1 (l0_1.length : Int) 0 a0_0 l0_1) = some r := h
  clear h
  have H' := Aside0.mk H
  clear H
  go_enter Try.func14, Try.ntmps14
  go_wp2_with (first | ((with_reducible refine gate_dst (N := 1) rfl ?_); (try (refine gate_guard (by rfl) ?_; dsimp only)); refine box_event ?hg (N := 1) ?hd (cs := #[.int .i64 a0_0, .slice A0_1 l0_1.length c0_1]) (t := 24) ?hr ?_; (case hd => rfl); (case hg => rfl); (case hr => first | (go_simp; done) | (go_simp; rfl)); intro gb109 hg w2 hbox hb; have n0_ := Aside0.mk (below_step (by repeat (first | (with_reducible first | exact HB.out | apply below_alloc | apply pw_below_drewN | apply below_drew1) | exact HB.out)) hb); have n1_ := Aside0.mk (hbox); have n2_ := Aside0.mk ((by rw [hg]; exact (below_size (by repeat (first | (with_reducible first | exact HB.out | apply below_alloc | apply pw_below_drewN | apply below_drew1) | exact HB.out))) : w.heap.size ≤ gb109)); have n3_ := Aside0.mk ((by rw [hg]; exact (below_size (by repeat (first | (with_reducible first | exact HB.out | apply below_alloc | apply pw_below_drewN | apply below_drew1) | exact HB.out))) : w.heap.size ≤ gb109)); clear HB; have HB := n0_; have BK109 := n1_; have GW109 := n2_; have GE109 := n3_; clear n0_ n1_ n2_ n3_; clear hb hbox hg; have hcz3_0 : w2.cell? ⟨gb109, 0, none⟩ = some (.int .i64 a0_0) := (blk_cell BK109.out 0).trans rfl; have hcz3_1 : w2.cell? ⟨gb109, 1, none⟩ = some (.slice A0_1 l0_1.length c0_1) := (blk_cell BK109.out 1).trans rfl; have hfz3_0 := blk_frozen BK109.out 0; have hfz3_1 := blk_frozen BK109.out 1))
  go_loopg [3, 9] k (fun kq v3 v9 w' => ∃ (x3_1 : Int) (x9_1 : Int), v3 = .int .i64 x3_1 ∧ v9 = .int .i64 x9_1 ∧ Aside0 (link_Right.l0 kq x3_1 l0_1 (l0_1.length : Int) x9_1 a0_0 l0_1 = some r) ∧ Aside0 (kq ≤ k) ∧ Aside0 (w'.heap[gb109]? = some (.cells #[.int .i64 a0_0, (.slice A0_1 l0_1.length c0_1)] 24 (0, 0))) ∧ Aside0 (Below w.heap.size w w'))
  case atStart => exact ⟨((-1)), (0), (by first | rfl | (simp; done) | (simp [*]; done)), (by first | rfl | (simp; done) | (simp [*]; done)), H', ⟨Nat.le_refl _⟩, ⟨by (with_reducible repeat (first | refine blk_drewN ?_ _ | refine blk_drew ?_ | refine blk_alloc ?_ _)); exact BK109.out⟩, ⟨by repeat (first | (with_reducible first | exact HB.out | apply below_alloc | apply pw_below_drewN | apply below_drew1 | refine below_set ?_ GE109.out) | exact HB.out)⟩⟩
  case round =>
    clear H'
    try clear c1
    try clear p2
    try clear hcz3_0
    try clear hcz3_1
    try clear hfz3_0
    try clear hfz3_1
    obtain ⟨x3_1, x9_1, rfl, rfl, HA, HK1, BK109, HB⟩ := hrel
    cases gk with
    | zero => exact absurd HA.out (by simp [link_Right.l0])
    | succ k1 =>
      have H := HA.out
      clear HA
      simp only [link_Right.l0] at H
      by_cases c4 : x9_1 < (l0_1.length : Int)
      · rw [if_pos c4] at H
        have c4b0 : decide (x9_1 < (l0_1.length : Int)) = true := decide_eq_true c4
        clear c4
        by_cases c5 : 0 ≤ x9_1
        · rw [if_pos c5] at H
          have c5b0 : decide (0 ≤ x9_1) = true := decide_eq_true c5
          clear c5
          by_cases c6 : x9_1 < (l0_1.length : Int)
          · rw [if_pos c6] at H
            have c6b0 : decide (x9_1 < (l0_1.length : Int)) = true := decide_eq_true c6
            clear c6
            by_cases c7 : ((rd_T45 l0_1 x9_1).f0) ≤ x3_1
            · rw [if_pos c7] at H
              have c7b0 : decide (((rd_T45 l0_1 x9_1).f0) ≤ x3_1) = true := decide_eq_true c7
              clear c7
              obtain rfl := Option.some.inj H
              have p110 : 0 ≤ (x9_1 : Int) := of_decide_eq_true (by first | (with_reducible assumption) | assumption)
              have q110 : x9_1 < (l0_1.length : Int) := of_decide_eq_true (by first | (with_reducible assumption) | assumption)
              obtain ⟨ad110, e110, hx110_0, hx110_1⟩ := at_T45 HR0_1.out x9_1 p110 q110
              cases e110
              replace hx110_0 := (HB.out.cell (World.block_lt_of_cell? w _ hx110_0)).trans hx110_0
              replace hx110_1 := (HB.out.cell (World.block_lt_of_cell? w _ hx110_1)).trans hx110_1
              replace p110 := eq_true p110
              replace q110 := eq_true q110
              go_wp2_with (first | ((with_reducible refine gate_dst (N := 5) rfl ?_); (try (refine gate_guard (by rfl) ?_; dsimp only)); refine box_event ?hg (N := 5) ?hd (cs := #[.int .i64 0, .string (⟨#[]⟩ : ByteArray)]) (t := 45) ?hr ?_; (case hd => rfl); (case hg => rfl); (case hr => first | (go_simp; done) | (go_simp; rfl)); intro gb111 hg w8 hbox hb; have n0_ := Aside0.mk (blk_below (g := gb109) (o := .cells #[.int .i64 a0_0, .slice (some ad110) l0_1.length c0_1] 24 (0, 0)) (by (with_reducible repeat (first | refine blk_drewN ?_ _ | refine blk_drew ?_ | refine blk_alloc ?_ _)); exact BK109.out) hb); have n1_ := Aside0.mk (below_step (by repeat (first | (with_reducible first | exact HB.out | apply below_alloc | apply pw_below_drewN | apply below_drew1 | refine below_set ?_ GE109.out) | exact HB.out)) hb); have n2_ := Aside0.mk (hbox); have n3_ := Aside0.mk ((by rw [hg]; exact (below_size (by repeat (first | (with_reducible first | exact HB.out | apply below_alloc | apply pw_below_drewN | apply below_drew1 | refine below_set ?_ GE109.out) | exact HB.out))) : w.heap.size ≤ gb111)); have n4_ := Aside0.mk ((by rw [hg]; exact (below_size (by repeat (first | (with_reducible first | exact HB.out | apply below_alloc | apply pw_below_drewN | apply below_drew1 | refine below_set ?_ GE109.out) | exact HB.out))) : w.heap.size ≤ gb111)); have n5_ := Aside0.mk ((by rw [hg]; exact Nat.ne_of_lt (blk_lt (g := gb109) (o := .cells #[.int .i64 a0_0, .slice (some ad110) l0_1.length c0_1] 24 (0, 0)) (by (with_reducible repeat (first | refine blk_drewN ?_ _ | refine blk_drew ?_ | refine blk_alloc ?_ _)); exact BK109.out)) : gb109 ≠ gb111)); have n6_ := Aside0.mk ((by rw [hg]; exact Nat.ne_of_gt (blk_lt (g := gb109) (o := .cells #[.int .i64 a0_0, .slice (some ad110) l0_1.length c0_1] 24 (0, 0)) (by (with_reducible repeat (first | refine blk_drewN ?_ _ | refine blk_drew ?_ | refine blk_alloc ?_ _)); exact BK109.out)) : gb111 ≠ gb109)); clear BK109; clear HB; have BK109 := n0_; have HB := n1_; have BK111 := n2_; have GW111 := n3_; have GE111 := n4_; have NB109_111 := n5_; have NB111_109 := n6_; clear n0_ n1_ n2_ n3_ n4_ n5_ n6_; clear hb hbox hg; have hnb9 := NB111_109.out; have hnc9 := NB109_111.out; have hcz10_0 : w8.cell? ⟨gb111, 0, none⟩ = some (.int .i64 0) := (blk_cell BK111.out 0).trans rfl; have hcz10_1 : w8.cell? ⟨gb111, 1, none⟩ = some (.string (⟨#[]⟩ : ByteArray)) := (blk_cell BK111.out 1).trans rfl; have hfz10_0 := blk_frozen BK111.out 0; have hfz10_1 := blk_frozen BK111.out 1))
              go_ret
              exact ⟨by first | rfl | (simp [errW_none, errW_some] <;> rfl) | (simp [*, errW_none, errW_some] <;> rfl), by repeat (first | (with_reducible first | exact HB.out | apply below_alloc | apply pw_below_drewN | apply below_drew1 | refine below_set ?_ GE109.out | refine below_set ?_ GE111.out) | exact HB.out)⟩
            · rw [if_neg c7] at H
              have c7b0 : decide (((rd_T45 l0_1 x9_1).f0) ≤ x3_1) = false := decide_eq_false c7
              clear c7
              by_cases c11 : ((rd_T45 l0_1 x9_1).f0) ≥ a0_0
              · rw [if_pos c11] at H
                have c11b0 : decide (a0_0 ≤ ((rd_T45 l0_1 x9_1).f0)) = true := decide_eq_true c11
                clear c11
                obtain rfl := Option.some.inj H
                have p110 : 0 ≤ (x9_1 : Int) := of_decide_eq_true (by first | (with_reducible assumption) | assumption)
                have q110 : x9_1 < (l0_1.length : Int) := of_decide_eq_true (by first | (with_reducible assumption) | assumption)
                obtain ⟨ad110, e110, hx110_0, hx110_1⟩ := at_T45 HR0_1.out x9_1 p110 q110
                cases e110
                replace hx110_0 := (HB.out.cell (World.block_lt_of_cell? w _ hx110_0)).trans hx110_0
                replace hx110_1 := (HB.out.cell (World.block_lt_of_cell? w _ hx110_1)).trans hx110_1
                replace p110 := eq_true p110
                replace q110 := eq_true q110
                go_wp2_with (first | ((with_reducible refine gate_dst (N := 5) rfl ?_); (try (refine gate_guard (by rfl) ?_; dsimp only)); refine box_event ?hg (N := 5) ?hd (cs := #[.int .i64 0, .string (⟨#[]⟩ : ByteArray)]) (t := 45) ?hr ?_; (case hd => rfl); (case hg => rfl); (case hr => first | (go_simp; done) | (go_simp; rfl)); intro gb111 hg w12 hbox hb; have n0_ := Aside0.mk (blk_below (g := gb109) (o := .cells #[.int .i64 a0_0, .slice (some ad110) l0_1.length c0_1] 24 (0, 0)) (by (with_reducible repeat (first | refine blk_drewN ?_ _ | refine blk_drew ?_ | refine blk_alloc ?_ _)); exact BK109.out) hb); have n1_ := Aside0.mk (below_step (by repeat (first | (with_reducible first | exact HB.out | apply below_alloc | apply pw_below_drewN | apply below_drew1 | refine below_set ?_ GE109.out) | exact HB.out)) hb); have n2_ := Aside0.mk (hbox); have n3_ := Aside0.mk ((by rw [hg]; exact (below_size (by repeat (first | (with_reducible first | exact HB.out | apply below_alloc | apply pw_below_drewN | apply below_drew1 | refine below_set ?_ GE109.out) | exact HB.out))) : w.heap.size ≤ gb111)); have n4_ := Aside0.mk ((by rw [hg]; exact (below_size (by repeat (first | (with_reducible first | exact HB.out | apply below_alloc | apply pw_below_drewN | apply below_drew1 | refine below_set ?_ GE109.out) | exact HB.out))) : w.heap.size ≤ gb111)); have n5_ := Aside0.mk ((by rw [hg]; exact Nat.ne_of_lt (blk_lt (g := gb109) (o := .cells #[.int .i64 a0_0, .slice (some ad110) l0_1.length c0_1] 24 (0, 0)) (by (with_reducible repeat (first | refine blk_drewN ?_ _ | refine blk_drew ?_ | refine blk_alloc ?_ _)); exact BK109.out)) : gb109 ≠ gb111)); have n6_ := Aside0.mk ((by rw [hg]; exact Nat.ne_of_gt (blk_lt (g := gb109) (o := .cells #[.int .i64 a0_0, .slice (some ad110) l0_1.length c0_1] 24 (0, 0)) (by (with_reducible repeat (first | refine blk_drewN ?_ _ | refine blk_drew ?_ | refine blk_alloc ?_ _)); exact BK109.out)) : gb111 ≠ gb109)); clear BK109; clear HB; have BK109 := n0_; have HB := n1_; have BK111 := n2_; have GW111 := n3_; have GE111 := n4_; have NB109_111 := n5_; have NB111_109 := n6_; clear n0_ n1_ n2_ n3_ n4_ n5_ n6_; clear hb hbox hg; have hnb13 := NB111_109.out; have hnc13 := NB109_111.out; have hcz14_0 : w12.cell? ⟨gb111, 0, none⟩ = some (.int .i64 0) := (blk_cell BK111.out 0).trans rfl; have hcz14_1 : w12.cell? ⟨gb111, 1, none⟩ = some (.string (⟨#[]⟩ : ByteArray)) := (blk_cell BK111.out 1).trans rfl; have hfz14_0 := blk_frozen BK111.out 0; have hfz14_1 := blk_frozen BK111.out 1; have hcz15_0 : w12.cell? ⟨gb109, 0, none⟩ = some (.int .i64 a0_0) := (blk_cell BK109.out 0).trans rfl; have hcz15_1 : w12.cell? ⟨gb109, 1, none⟩ = some (.slice (some ad110) l0_1.length c0_1) := (blk_cell BK109.out 1).trans rfl; have hfz15_0 := blk_frozen BK109.out 0; have hfz15_1 := blk_frozen BK109.out 1))
                go_ret
                exact ⟨by first | rfl | (simp [errW_none, errW_some] <;> rfl) | (simp [*, errW_none, errW_some] <;> rfl), by repeat (first | (with_reducible first | exact HB.out | apply below_alloc | apply pw_below_drewN | apply below_drew1 | refine below_set ?_ GE109.out | refine below_set ?_ GE111.out) | exact HB.out)⟩
              · rw [if_neg c11] at H
                have c11b0 : decide (a0_0 ≤ ((rd_T45 l0_1 x9_1).f0)) = false := decide_eq_false c11
                clear c11
                have H' := Aside0.mk H
                clear H
                have p110 : 0 ≤ (x9_1 : Int) := of_decide_eq_true (by first | (with_reducible assumption) | assumption)
                have q110 : x9_1 < (l0_1.length : Int) := of_decide_eq_true (by first | (with_reducible assumption) | assumption)
                obtain ⟨ad110, e110, hx110_0, hx110_1⟩ := at_T45 HR0_1.out x9_1 p110 q110
                cases e110
                replace hx110_0 := (HB.out.cell (World.block_lt_of_cell? w _ hx110_0)).trans hx110_0
                replace hx110_1 := (HB.out.cell (World.block_lt_of_cell? w _ hx110_1)).trans hx110_1
                replace p110 := eq_true p110
                replace q110 := eq_true q110
                go_wp2_with (first | ((with_reducible refine gate_dst (N := 5) rfl ?_); (try (refine gate_guard (by rfl) ?_; dsimp only)); refine box_event ?hg (N := 5) ?hd (cs := #[.int .i64 0, .string (⟨#[]⟩ : ByteArray)]) (t := 45) ?hr ?_; (case hd => rfl); (case hg => rfl); (case hr => first | (go_simp; done) | (go_simp; rfl)); intro gb111 hg w16 hbox hb; have n0_ := Aside0.mk (blk_below (g := gb109) (o := .cells #[.int .i64 a0_0, .slice (some ad110) l0_1.length c0_1] 24 (0, 0)) (by (with_reducible repeat (first | refine blk_drewN ?_ _ | refine blk_drew ?_ | refine blk_alloc ?_ _)); exact BK109.out) hb); have n1_ := Aside0.mk (below_step (by repeat (first | (with_reducible first | exact HB.out | apply below_alloc | apply pw_below_drewN | apply below_drew1 | refine below_set ?_ GE109.out) | exact HB.out)) hb); have n2_ := Aside0.mk (hbox); have n3_ := Aside0.mk ((by rw [hg]; exact (below_size (by repeat (first | (with_reducible first | exact HB.out | apply below_alloc | apply pw_below_drewN | apply below_drew1 | refine below_set ?_ GE109.out) | exact HB.out))) : w.heap.size ≤ gb111)); have n4_ := Aside0.mk ((by rw [hg]; exact (below_size (by repeat (first | (with_reducible first | exact HB.out | apply below_alloc | apply pw_below_drewN | apply below_drew1 | refine below_set ?_ GE109.out) | exact HB.out))) : w.heap.size ≤ gb111)); have n5_ := Aside0.mk ((by rw [hg]; exact Nat.ne_of_lt (blk_lt (g := gb109) (o := .cells #[.int .i64 a0_0, .slice (some ad110) l0_1.length c0_1] 24 (0, 0)) (by (with_reducible repeat (first | refine blk_drewN ?_ _ | refine blk_drew ?_ | refine blk_alloc ?_ _)); exact BK109.out)) : gb109 ≠ gb111)); have n6_ := Aside0.mk ((by rw [hg]; exact Nat.ne_of_gt (blk_lt (g := gb109) (o := .cells #[.int .i64 a0_0, .slice (some ad110) l0_1.length c0_1] 24 (0, 0)) (by (with_reducible repeat (first | refine blk_drewN ?_ _ | refine blk_drew ?_ | refine blk_alloc ?_ _)); exact BK109.out)) : gb111 ≠ gb109)); clear BK109; clear HB; have BK109 := n0_; have HB := n1_; have BK111 := n2_; have GW111 := n3_; have GE111 := n4_; have NB109_111 := n5_; have NB111_109 := n6_; clear n0_ n1_ n2_ n3_ n4_ n5_ n6_; clear hb hbox hg; have hnb17 := NB111_109.out; have hnc17 := NB109_111.out; have hcz18_0 : w16.cell? ⟨gb111, 0, none⟩ = some (.int .i64 0) := (blk_cell BK111.out 0).trans rfl; have hcz18_1 : w16.cell? ⟨gb111, 1, none⟩ = some (.string (⟨#[]⟩ : ByteArray)) := (blk_cell BK111.out 1).trans rfl; have hfz18_0 := blk_frozen BK111.out 0; have hfz18_1 := blk_frozen BK111.out 1; have hcz19_0 : w16.cell? ⟨gb109, 0, none⟩ = some (.int .i64 a0_0) := (blk_cell BK109.out 0).trans rfl; have hcz19_1 : w16.cell? ⟨gb109, 1, none⟩ = some (.slice (some ad110) l0_1.length c0_1) := (blk_cell BK109.out 1).trans rfl; have hfz19_0 := blk_frozen BK109.out 0; have hfz19_1 := blk_frozen BK109.out 1))
                go_roundg k1
                case measure => have := HK1.out; omega
                case rel => exact ⟨((rd_T45 l0_1 x9_1).f0), (wrap64 (x9_1 + 1)), (by first | rfl | (simp; done) | (simp [*]; done)), (by first | rfl | (simp; done) | (simp [*]; done)), H', ⟨by have := HK1.out; omega⟩, ⟨by (with_reducible repeat (first | refine blk_drewN ?_ _ | refine blk_drew ?_ | refine blk_alloc ?_ _)); refine blk_far ?_ NB109_111.out _; (with_reducible repeat (first | refine blk_drewN ?_ _ | refine blk_drew ?_ | refine blk_alloc ?_ _)); refine blk_far ?_ NB109_111.out _; (with_reducible repeat (first | refine blk_drewN ?_ _ | refine blk_drew ?_ | refine blk_alloc ?_ _)); exact BK109.out⟩, ⟨by repeat (first | (with_reducible first | exact HB.out | apply below_alloc | apply pw_below_drewN | apply below_drew1 | refine below_set ?_ GE109.out | refine below_set ?_ GE111.out) | exact HB.out)⟩⟩
          · rw [if_neg c6] at H
            exact absurd H (by simp)
        · rw [if_neg c5] at H
          exact absurd H (by simp)
      · rw [if_neg c4] at H
        have c4b0 : decide (x9_1 < (l0_1.length : Int)) = false := decide_eq_false c4
        clear c4
        by_cases c20 : a0_0 ≥ 0
        · rw [if_pos c20] at H
          have c20b0 : decide (0 ≤ a0_0) = true := decide_eq_true c20
          clear c20
          by_cases c21 : a0_0 ≤ 2147483647
          · rw [if_pos c21] at H
            have c21b0 : decide (a0_0 ≤ 2147483647) = true := decide_eq_true c21
            clear c21
            obtain rfl := Option.some.inj H
            have hcz22_0 : wr.cell? ⟨gb109, 0, none⟩ = some (.int .i64 a0_0) := (blk_cell BK109.out 0).trans rfl
            have hcz22_1 : wr.cell? ⟨gb109, 1, none⟩ = some (.slice A0_1 l0_1.length c0_1) := (blk_cell BK109.out 1).trans rfl
            have hfz22_0 := blk_frozen BK109.out 0
            have hfz22_1 := blk_frozen BK109.out 1
            go_wp2
            go_ret
            exact ⟨by first | rfl | (simp [errW_none, errW_some] <;> rfl) | (simp [*, errW_none, errW_some] <;> rfl), by repeat (first | (with_reducible first | exact HB.out | apply below_alloc | apply pw_below_drewN | apply below_drew1 | refine below_set ?_ GE109.out) | exact HB.out)⟩
          · rw [if_neg c21] at H
            have c21b0 : decide (a0_0 ≤ 2147483647) = false := decide_eq_false c21
            clear c21
            obtain rfl := Option.some.inj H
            have hcz23_0 : wr.cell? ⟨gb109, 0, none⟩ = some (.int .i64 a0_0) := (blk_cell BK109.out 0).trans rfl
            have hcz23_1 : wr.cell? ⟨gb109, 1, none⟩ = some (.slice A0_1 l0_1.length c0_1) := (blk_cell BK109.out 1).trans rfl
            have hfz23_0 := blk_frozen BK109.out 0
            have hfz23_1 := blk_frozen BK109.out 1
            go_wp2
            go_ret
            exact ⟨by first | rfl | (simp [errW_none, errW_some] <;> rfl) | (simp [*, errW_none, errW_some] <;> rfl), by repeat (first | (with_reducible first | exact HB.out | apply below_alloc | apply pw_below_drewN | apply below_drew1 | refine below_set ?_ GE109.out) | exact HB.out)⟩
        · rw [if_neg c20] at H
          have c20b0 : decide (0 ≤ a0_0) = false := decide_eq_false c20
          clear c20
          obtain rfl := Option.some.inj H
          have hcz24_0 : wr.cell? ⟨gb109, 0, none⟩ = some (.int .i64 a0_0) := (blk_cell BK109.out 0).trans rfl
          have hcz24_1 : wr.cell? ⟨gb109, 1, none⟩ = some (.slice A0_1 l0_1.length c0_1) := (blk_cell BK109.out 1).trans rfl
          have hfz24_0 := blk_frozen BK109.out 0
          have hfz24_1 := blk_frozen BK109.out 1
          go_wp2
          go_ret
          exact ⟨by first | rfl | (simp [errW_none, errW_some] <;> rfl) | (simp [*, errW_none, errW_some] <;> rfl), by repeat (first | (with_reducible first | exact HB.out | apply below_alloc | apply pw_below_drewN | apply below_drew1 | refine below_set ?_ GE109.out) | exact HB.out)⟩

/-! ### link_Frame_16: function 16 -/
def link_Frame_16.f (l0 : List (S45)) : Option ((List (S45))) := (some (([] : List (S45)) : List (S45))).bind fun y112 => (if y112.length + l0.length < 5864062014805 then (some (y112 ++ l0)) else (none))
set_option maxHeartbeats 8000000 in
set_option maxRecDepth 100000 in
theorem link_Frame_16.calls (A0 : Option Addr) (c0 : Nat) (l0 : List (S45)) (r : List (S45)) (w : World) (hr0 : Kd.C k45 w A0 l0.length l0) (hc0 : l0.length ≤ c0) (h : link_Frame_16.f l0 = some r) :
    Calls Try.prog 16 #[.slice A0 l0.length c0] w fun e w' => ∃ v0_ : Value, e = .returned (v0_) ∧ Kd.R k45 45 w' w.heap.size (fun _ => True) v0_ r ∧ Below w.heap.size w w' := by
  by_cases hA0_ : A0 = none
  · subst hA0_
    obtain rfl : l0 = [] := by
      refine List.eq_nil_of_length_eq_zero (Classical.byContradiction fun hz => ?_)
      obtain ⟨_, he_, _⟩ := hr0.2.2 (by omega)
      cases he_
    have hrn_ : r = [] := by
      unfold link_Frame_16.f at h
      simp at h
      exact h
    subst hrn_
    have hqn_ : ∀ (W : World) (n c : Nat), (binOp .eql 22 (.slice none n c) (.slice none 0 0)).run Try.prog W = .ok (.bool true) W := fun W n c => Lib.run_eql_slice_nil (P := Try.prog) W 22 45 none n c 0 0 Try.underlying22
    go_enter Try.func16, Try.ntmps16
    go_wp2
    go_ret
    exact ⟨_, rfl, by first | exact Kd.R_nil _ _ _ _ _ | exact Kd.N_nil _ _ _ _ _ | exact Kd.V_nil _ _ _ _ _, Below.refl _ _⟩
  have hq0_ : ∀ (W : World) (n c : Nat), (binOp .eql 22 (.slice A0 n c) (.slice none 0 0)).run Try.prog W = .ok (.bool false) W := fun W n c => by
    rw [Lib.run_eql_slice_nil (P := Try.prog) W 22 45 A0 n c 0 0 Try.underlying22]
    cases A0
    · exact absurd rfl hA0_
    · rfl
  clear hA0_
  have HR0 := Aside0.mk hr0
  have HC0 := Aside0.mk hc0
  clear hr0 hc0
  have HB := Aside0.mk (Below.refl w.heap.size w)
  have H : ((some (([] : List (S45)) : List (S45))).bind fun y112 => (if y112.length + l0.length < 5864062014805 then (some (y112 ++ l0)) else (none))) = some r := h
  clear h
  obtain ⟨y112, hy112⟩ : ∃ y_ : List (S45), y_ = (([] : List (S45))) := ⟨_, rfl⟩
  replace H : (if y112.length + l0.length < 5864062014805 then (some (y112 ++ l0)) else (none)) = some r := by first | (rw [hy112]; with_reducible exact H) | (have H2_ := (Option.bind_some _ _).symm.trans H; rw [hy112]; with_reducible exact H2_) | (have H2_ := (Option.bind_some _ _).symm.trans H; with_reducible exact H2_) | with_reducible exact H | (rw [hy112]; exact H) | exact H
  have Ny112 := Aside0.mk hy112
  clear hy112
  by_cases c2 : y112.length + l0.length < 5864062014805
  · rw [if_pos c2] at H
    have LMc2 := Aside0.mk c2
    clear c2
    obtain ⟨y115, hy115⟩ : ∃ y_ : List (S45), y_ = (y112 ++ l0) := ⟨_, rfl⟩
    replace H : (some y115) = some r := by first | (rw [hy115]; with_reducible exact H) | (have H2_ := (Option.bind_some _ _).symm.trans H; rw [hy115]; with_reducible exact H2_) | (have H2_ := (Option.bind_some _ _).symm.trans H; with_reducible exact H2_) | with_reducible exact H | (rw [hy115]; exact H) | exact H
    have Ny115 := Aside0.mk hy115
    clear hy115
    obtain rfl := Option.some.inj H
    go_enter Try.func16, Try.ntmps16
    go_wp2_with (first | ((with_reducible refine gate_dst (N := 5) rfl ?_); refine Kd.R_lit k45 _ 45 ?hg (N := 5) ?hd (xs := ([] : List (S45))) (inner := []) (ok := fun _ => True) (okp := fun _ => True) ?hr ?hp (fun _ hk => hk) trivial (Below.refl _ _) (Nat.le_refl _) (by simp) ?_; (case hd => rfl); (case hg => rfl); (case hr => first | (go_simp; done) | (go_simp; rfl)); (case hp => exact (Reps.none _ _)); intro v113 w3 ho4 hb hg_ hnew_; clear hg_ hnew_; (first | rw [← Ny112.out] at ho4 | (simp only [Int.reduceToNat] at ho4; rw [← Ny112.out] at ho4)); have n0_ := Aside0.mk (Kd.R_lower ho4 (below_size (by repeat (first | (with_reducible first | exact HB.out | apply below_alloc | apply pw_below_drewN | apply below_drew1) | exact HB.out)))); have n1_ := Aside0.mk (below_step (by repeat (first | (with_reducible first | exact HB.out | apply below_alloc | apply pw_below_drewN | apply below_drew1) | exact HB.out)) hb); clear HB; have HO114 := n0_; have HB := n1_; clear n0_ n1_; clear hb ho4) | ((with_reducible refine gate_builtin (b := .append) (xs := #[.tmp 5, .tmp 6]) rfl ?_); at_builtin; refine Kd.R_append_rows k45 (w0 := w) w.heap.size rfl (.tmp 5) (.tmp 6) 22 45 (.agg #[(.int .i64 0), (.string ⟨#[]⟩)]) 24 rfl Try.underlying22 info45 rfl (by decide) (by omega) v113 y112 l0 _ _ _ (fun _ => True) (fun _ => False) rfl rfl ?aO ?aR (fun _ _ h => h) (fun _ h => h.elim) ?aF ?aB ?aS ?aL ?_; (case aR => repeat (first | exact (Kd.C_below HR0.out HB.out) | (with_reducible refine Kd.C_alloc ?_ _) | (with_reducible refine Kd.C_drewN ?_ _) | (with_reducible refine Kd.C_drew ?_))); (case aB => exact (by repeat (first | (with_reducible first | exact HB.out | apply below_alloc | apply pw_below_drewN | apply below_drew1) | exact HB.out))); (case aF => exact (fun _ _ => trivial)); (case aO => exact (by (with_reducible repeat (first | apply Kd.R_alloc | apply Kd.R_drewN | apply Kd.R_drew)); exact HO114.out)); (case aS => exact (below_size (by repeat (first | (with_reducible first | exact HB.out | apply below_alloc | apply pw_below_drewN | apply below_drew1) | exact HB.out)))); (case aL => have := LMc2.out; omega); intro v116 w5 ho hb hg hat; rw [← Ny115.out] at ho; have n0_ := Aside0.mk (hb); have n1_ := Aside0.mk (ho); clear HB; clear HO114; have HB := n0_; have HO117 := n1_; clear n0_ n1_; clear ho hb hg hat))
    go_ret
    exact ⟨_, by first | rfl | (simp [errW_none, errW_some] <;> rfl) | (simp [*, errW_none, errW_some] <;> rfl), by (with_reducible repeat (first | apply Kd.R_alloc | apply Kd.R_drewN | apply Kd.R_drew)); exact HO117.out, by repeat (first | (with_reducible first | exact HB.out | apply below_alloc | apply pw_below_drewN | apply below_drew1) | exact HB.out)⟩
  · rw [if_neg c2] at H
    exact absurd H (by simp)

/-! ### link_Push: function 10 -/
def link_Push.j0 : Nat → ByteArray → Bool → Int → List (S45) → Option (Int × (List (S45)) × Int × Int)
  | 0, _, _, _, _ => none
  | k + 1, x1, x8, x119000, x119001 => if x8 = true then (some (x119000, x119001, 0, 1)) else (if (x119001.length : Int) = 64 then (some (x119000, x119001, 0, 8)) else ((link_Frame_16.f x119001).bind fun t121 => (if t121.length < 5864062014805 then (some (wrap64 (x119000 + 1), (t121 ++ [(⟨x119000, x1⟩ : S45)]), x119000, 0)) else (none))))
def link_Push.f (k : Nat) (a0_0 : Int) (l0_1 : List (S45)) (a1 : ByteArray) : Option (Int × (List (S45)) × Int × Int) := (link_Right.f k a0_0 l0_1).bind fun t120 => (if t120 = true then (link_Push.j0 k a1 (a0_0 == 2147483647) a0_0 l0_1) else (link_Push.j0 k a1 true a0_0 l0_1))
theorem link_Push.mono_l : ∀ k, (∀ y0 y1 y2 y3, LeO (link_Push.j0 k y0 y1 y2 y3) (link_Push.j0 (k + 1) y0 y1 y2 y3))
  | 0 => fun _ _ _ _ r h => by simp [link_Push.j0] at h
  | k + 1 => by
    have ih0 := link_Push.mono_l k
    · intro y0 y1 y2 y3
      unfold link_Push.j0
      repeat' first
      | (with_reducible exact ih0 _ _ _ _)
      | (with_reducible exact link_Right.mono _ _ _)
      | (with_reducible exact LeO.refl _)
      | (with_reducible exact LeO.none _)
      | (with_reducible refine LeO.ite ?_ ?_)
      | (with_reducible refine LeO.bind ?_ (fun _ => ?_))
      | exact ih0 _ _ _ _
      | exact link_Right.mono _ _ _
      | exact LeO.none _
      | refine LeO.ite ?_ ?_
      | refine LeO.bind ?_ (fun _ => ?_)
theorem link_Push.mono : ∀ a0 a1 a2 k, LeO (link_Push.f k a0 a1 a2) (link_Push.f (k + 1) a0 a1 a2) := by
  intro a0 a1 a2 k
  have ih0 := link_Push.mono_l k
  unfold link_Push.f
  repeat' first
      | (with_reducible exact ih0 _ _ _ _)
      | (with_reducible exact link_Right.mono _ _ _)
      | (with_reducible exact LeO.refl _)
      | (with_reducible exact LeO.none _)
      | (with_reducible refine LeO.ite ?_ ?_)
      | (with_reducible refine LeO.bind ?_ (fun _ => ?_))
      | exact ih0 _ _ _ _
      | exact link_Right.mono _ _ _
      | exact LeO.none _
      | refine LeO.ite ?_ ?_
      | refine LeO.bind ?_ (fun _ => ?_)
set_option maxHeartbeats 8000000 in
set_option maxRecDepth 100000 in
theorem link_Push.calls (k : Nat) (a0_0 : Int) (P0_1_ : Nat → Prop) (A0_1 : Option Addr) (c0_1 : Nat) (l0_1 : List (S45)) (a1 : ByteArray) (r1 : Int) (r2 : List (S45)) (r3 : Int) (r4 : Int) (w : World) (hs0_1 : Kd.V k45 45 w w.heap.size (fun k_ => P0_1_ k_) (.slice A0_1 l0_1.length c0_1) l0_1) (h : link_Push.f k a0_0 l0_1 a1 = some (r1, r2, r3, r4)) :
    Calls Try.prog 10 #[.agg #[.int .i64 a0_0, .slice A0_1 l0_1.length c0_1], .string a1] w fun e w' => ∃ v1_ : Value, e = .returned (.tuple #[.agg #[.int .i64 r1, v1_], .int .i64 r3, .int .i64 r4]) ∧ Kd.V k45 45 w' w.heap.size (fun k_ => (P0_1_ k_ ∨ w.heap.size ≤ k_)) v1_ r2 ∧ Below w.heap.size w w' := by
  have hu24 := Try.underlying24
  have hu45 := Try.underlying45
  have HO0_1 := Aside0.mk (show Kd.V k45 45 w w.heap.size (fun k_ => (P0_1_ k_ ∨ w.heap.size ≤ k_)) (.slice A0_1 l0_1.length c0_1) l0_1 from Kd.V_mono hs0_1 (fun k_ hk => .inl hk))
  have HB := Aside0.mk (Below.refl w.heap.size w)
  have H : ((link_Right.f k a0_0 l0_1).bind fun t120 => (if t120 = true then (link_Push.j0 k a1 (a0_0 == 2147483647) a0_0 l0_1) else (link_Push.j0 k a1 true a0_0 l0_1))) = some (r1, r2, r3, r4) := h
  clear h
  have HC3 := Aside0.mk H
  clear H
  go_enter Try.func10, Try.ntmps10
  go_upto_region 1 with (first | ((with_reducible refine gate_dst (N := 2) rfl ?_); refine box_event ?hg (N := 2) ?hd (cs := #[.int .i64 a0_0, .slice A0_1 l0_1.length c0_1]) (t := 24) ?hr ?_; (case hd => rfl); (case hg => rfl); (case hr => first | (go_simp; done) | (go_simp; rfl)); intro gb118 hg w4 hbox hb; have n0_ := Aside0.mk (Kd.V_below (Kd.V_elderB (by (with_reducible repeat (first | apply Kd.V_alloc | apply Kd.V_drewN | apply Kd.V_drew)); exact HO0_1.out) gb118 (Nat.le_of_eq hg.symm)) hb); have n1_ := Aside0.mk (below_step (by repeat (first | (with_reducible first | exact HB.out | apply below_alloc | apply pw_below_drewN | apply below_drew1) | exact HB.out)) hb); have n2_ := Aside0.mk (hbox); have n3_ := Aside0.mk ((by rw [hg]; exact (below_size (by repeat (first | (with_reducible first | exact HB.out | apply below_alloc | apply pw_below_drewN | apply below_drew1) | exact HB.out))) : w.heap.size ≤ gb118)); have n4_ := Aside0.mk ((by rw [hg]; exact (below_size (by repeat (first | (with_reducible first | exact HB.out | apply below_alloc | apply pw_below_drewN | apply below_drew1) | exact HB.out))) : w.heap.size ≤ gb118)); clear HO0_1; clear HB; have HO0_1 := n0_; have HB := n1_; have BK118 := n2_; have GW118 := n3_; have GE118 := n4_; clear n0_ n1_ n2_ n3_ n4_; clear hb hbox hg) | ((with_reducible refine gate_dst (N := 4) rfl ?_); refine box_event ?hg (N := 4) ?hd (cs := #[.int .i64 0, .slice none 0 0]) (t := 24) ?hr ?_; (case hd => rfl); (case hg => rfl); (case hr => first | (go_simp; done) | (go_simp; rfl)); intro gb119 hg w5 hbox hb; have n0_ := Aside0.mk (Kd.V_below (Kd.V_elderB (by (with_reducible repeat (first | apply Kd.V_alloc | apply Kd.V_drewN | apply Kd.V_drew)); exact HO0_1.out) gb119 (Nat.le_of_eq hg.symm)) hb); have n1_ := Aside0.mk (blk_below (g := gb118) (o := .cells #[.int .i64 a0_0, .slice A0_1 l0_1.length c0_1] 24 (0, 0)) (by (with_reducible repeat (first | refine blk_drewN ?_ _ | refine blk_drew ?_ | refine blk_alloc ?_ _)); exact BK118.out) hb); have n2_ := Aside0.mk (below_step (by repeat (first | (with_reducible first | exact HB.out | apply below_alloc | apply pw_below_drewN | apply below_drew1 | refine below_set ?_ GE118.out) | exact HB.out)) hb); have n3_ := Aside0.mk (hbox); have n4_ := Aside0.mk ((by rw [hg]; exact (below_size (by repeat (first | (with_reducible first | exact HB.out | apply below_alloc | apply pw_below_drewN | apply below_drew1 | refine below_set ?_ GE118.out) | exact HB.out))) : w.heap.size ≤ gb119)); have n5_ := Aside0.mk ((by rw [hg]; exact (below_size (by repeat (first | (with_reducible first | exact HB.out | apply below_alloc | apply pw_below_drewN | apply below_drew1 | refine below_set ?_ GE118.out) | exact HB.out))) : w.heap.size ≤ gb119)); have n6_ := Aside0.mk ((by rw [hg]; exact Nat.ne_of_lt (blk_lt (g := gb118) (o := .cells #[.int .i64 a0_0, .slice A0_1 l0_1.length c0_1] 24 (0, 0)) (by (with_reducible repeat (first | refine blk_drewN ?_ _ | refine blk_drew ?_ | refine blk_alloc ?_ _)); exact BK118.out)) : gb118 ≠ gb119)); have n7_ := Aside0.mk ((by rw [hg]; exact Nat.ne_of_gt (blk_lt (g := gb118) (o := .cells #[.int .i64 a0_0, .slice A0_1 l0_1.length c0_1] 24 (0, 0)) (by (with_reducible repeat (first | refine blk_drewN ?_ _ | refine blk_drew ?_ | refine blk_alloc ?_ _)); exact BK118.out)) : gb119 ≠ gb118)); clear HO0_1; clear BK118; clear HB; have HO0_1 := n0_; have BK118 := n1_; have HB := n2_; have BK119 := n3_; have GW119 := n4_; have GE119 := n5_; have NB118_119 := n6_; have NB119_118 := n7_; clear n0_ n1_ n2_ n3_ n4_ n5_ n6_ n7_; clear hb hbox hg))
  (try simp only [Act.put, List.setIfInBounds_toArray, List.set_cons_zero, List.set_cons_succ])
  go_cut [8] (fun v8 wc => ∃ (kq : Nat) (x8_2 : Bool), v8 = .bool x8_2 ∧ Aside0 (link_Push.j0 kq a1 x8_2 a0_0 l0_1 = some (r1, r2, r3, r4)) ∧ Aside0 (kq ≤ k) ∧ Aside0 (Kd.V k45 45 wc w.heap.size (fun k_ => (P0_1_ k_ ∨ w.heap.size ≤ k_) ∧ k_ ≠ gb118 ∧ k_ ≠ gb119) (.slice A0_1 l0_1.length c0_1) l0_1) ∧ Aside0 (wc.heap[gb118]? = some (.cells #[.int .i64 a0_0, (.slice A0_1 l0_1.length c0_1)] 24 (0, 0))) ∧ Aside0 (wc.heap[gb119]? = some (.cells #[.int .i64 0, (.slice none 0 0)] 24 (0, 0))) ∧ Aside0 (Below w.heap.size w wc))
  case first =>
    have H := HC3.out
    clear HC3
    replace H := Option.bind_eq_some_iff.mp H
    obtain ⟨t120, A60, H⟩ := H
    replace H : (if t120 = true then (link_Push.j0 k a1 (a0_0 == 2147483647) a0_0 l0_1) else (link_Push.j0 k a1 true a0_0 l0_1)) = some (r1, r2, r3, r4) := H
    have A6 := Aside0.mk A60
    clear A60
    by_cases c7 : t120 = true
    · subst c7
      have H1 : (link_Push.j0 k a1 (a0_0 == 2147483647) a0_0 l0_1) = some (r1, r2, r3, r4) := by rw [if_pos rfl] at H; exact H
      clear H
      have H := H1
      clear H1
      have H' := Aside0.mk H
      clear H
      have hnb8 := NB118_119.out
      have hnc8 := NB119_118.out
      have hcz9_0 : w5.cell? ⟨gb118, 0, none⟩ = some (.int .i64 a0_0) := (blk_cell BK118.out 0).trans rfl
      have hcz9_1 : w5.cell? ⟨gb118, 1, none⟩ = some (.slice A0_1 l0_1.length c0_1) := (blk_cell BK118.out 1).trans rfl
      have hfz9_0 := blk_frozen BK118.out 0
      have hfz9_1 := blk_frozen BK118.out 1
      go_wp2_with (first | ((with_reducible refine gate_callee (f := 14) rfl ?_); refine goesL_ (some 10) rfl rfl Try.func14 (by kernel_rfl) rfl #[.agg #[.int .i64 a0_0, .slice A0_1 l0_1.length c0_1]] rfl (by (try simp only [List.map_toArray, List.map_cons, List.map_nil]); first | done | rfl | (simp only [List.length_drop, List.length_take]; rfl)) ?_; (with_reducible refine (link_Right.calls k a0_0 _ _ l0_1 true _ ?side1 ?side2 A6.out).mono ?_); (case side1 => repeat (first | exact (Kd.V_reads' HO0_1.out).2.2 | (with_reducible refine Kd.C_alloc ?_ _) | (with_reducible refine Kd.C_drewN ?_ _) | (with_reducible refine Kd.C_drew ?_))); (case side2 => exact (Kd.V_reads' HO0_1.out).2.1); rintro e w10 ⟨rfl, hb⟩; refine ⟨_, rfl, ?_⟩; have n0_ := Aside0.mk (Kd.V_below (by (with_reducible repeat (first | apply Kd.V_alloc | apply Kd.V_drewN | apply Kd.V_drew)); exact HO0_1.out) hb); have n1_ := Aside0.mk (blk_below (g := gb118) (o := .cells #[.int .i64 a0_0, .slice A0_1 l0_1.length c0_1] 24 (0, 0)) (by (with_reducible repeat (first | refine blk_drewN ?_ _ | refine blk_drew ?_ | refine blk_alloc ?_ _)); exact BK118.out) hb); have n2_ := Aside0.mk (blk_below (g := gb119) (o := .cells #[.int .i64 0, .slice none 0 0] 24 (0, 0)) (by (with_reducible repeat (first | refine blk_drewN ?_ _ | refine blk_drew ?_ | refine blk_alloc ?_ _)); exact BK119.out) hb); have n3_ := Aside0.mk (below_step (by repeat (first | (with_reducible first | exact HB.out | apply below_alloc | apply pw_below_drewN | apply below_drew1 | refine below_set ?_ GE118.out | refine below_set ?_ GE119.out) | exact HB.out)) hb); clear HO0_1; clear BK118; clear BK119; clear HB; have HO0_1 := n0_; have BK118 := n1_; have BK119 := n2_; have HB := n3_; clear n0_ n1_ n2_ n3_; (try clear hb); (try clear hb2); (try clear hk); (try clear hi); have hcz11_0 : w10.cell? ⟨gb118, 0, none⟩ = some (.int .i64 a0_0) := (blk_cell BK118.out 0).trans rfl; have hcz11_1 : w10.cell? ⟨gb118, 1, none⟩ = some (.slice A0_1 l0_1.length c0_1) := (blk_cell BK118.out 1).trans rfl; have hfz11_0 := blk_frozen BK118.out 0; have hfz11_1 := blk_frozen BK118.out 1))
      go_meet
      case rel => exact ⟨_, ((a0_0 == 2147483647)), (by first | rfl | (simp; done) | (simp [*]; done)), H', ⟨by first | omega | exact Nat.le_refl _⟩, ⟨by (with_reducible repeat (first | apply Kd.V_alloc | apply Kd.V_drewN | apply Kd.V_drew)); exact Kd.V_mono HO0_1.out (fun _ hk => ⟨hk.1.1, ⟨hk.1.2, hk.2⟩⟩)⟩, ⟨by (with_reducible repeat (first | refine blk_drewN ?_ _ | refine blk_drew ?_ | refine blk_alloc ?_ _)); exact BK118.out⟩, ⟨by (with_reducible repeat (first | refine blk_drewN ?_ _ | refine blk_drew ?_ | refine blk_alloc ?_ _)); exact BK119.out⟩, ⟨by repeat (first | (with_reducible first | exact HB.out | apply below_alloc | apply pw_below_drewN | apply below_drew1 | refine below_set ?_ GE118.out | refine below_set ?_ GE119.out) | exact HB.out)⟩⟩
    · replace c7 := Bool.eq_false_iff.mpr c7
      subst c7
      have H1 : (link_Push.j0 k a1 true a0_0 l0_1) = some (r1, r2, r3, r4) := by rw [if_neg (show ¬ (false = true) by decide)] at H; exact H
      clear H
      have H := H1
      clear H1
      have H' := Aside0.mk H
      clear H
      have hnb12 := NB118_119.out
      have hnc12 := NB119_118.out
      have hcz13_0 : w5.cell? ⟨gb118, 0, none⟩ = some (.int .i64 a0_0) := (blk_cell BK118.out 0).trans rfl
      have hcz13_1 : w5.cell? ⟨gb118, 1, none⟩ = some (.slice A0_1 l0_1.length c0_1) := (blk_cell BK118.out 1).trans rfl
      have hfz13_0 := blk_frozen BK118.out 0
      have hfz13_1 := blk_frozen BK118.out 1
      go_wp2_with (first | ((with_reducible refine gate_callee (f := 14) rfl ?_); refine goesL_ (some 10) rfl rfl Try.func14 (by kernel_rfl) rfl #[.agg #[.int .i64 a0_0, .slice A0_1 l0_1.length c0_1]] rfl (by (try simp only [List.map_toArray, List.map_cons, List.map_nil]); first | done | rfl | (simp only [List.length_drop, List.length_take]; rfl)) ?_; (with_reducible refine (link_Right.calls k a0_0 _ _ l0_1 false _ ?side1 ?side2 A6.out).mono ?_); (case side1 => repeat (first | exact (Kd.V_reads' HO0_1.out).2.2 | (with_reducible refine Kd.C_alloc ?_ _) | (with_reducible refine Kd.C_drewN ?_ _) | (with_reducible refine Kd.C_drew ?_))); (case side2 => exact (Kd.V_reads' HO0_1.out).2.1); rintro e w14 ⟨rfl, hb⟩; refine ⟨_, rfl, ?_⟩; have n0_ := Aside0.mk (Kd.V_below (by (with_reducible repeat (first | apply Kd.V_alloc | apply Kd.V_drewN | apply Kd.V_drew)); exact HO0_1.out) hb); have n1_ := Aside0.mk (blk_below (g := gb118) (o := .cells #[.int .i64 a0_0, .slice A0_1 l0_1.length c0_1] 24 (0, 0)) (by (with_reducible repeat (first | refine blk_drewN ?_ _ | refine blk_drew ?_ | refine blk_alloc ?_ _)); exact BK118.out) hb); have n2_ := Aside0.mk (blk_below (g := gb119) (o := .cells #[.int .i64 0, .slice none 0 0] 24 (0, 0)) (by (with_reducible repeat (first | refine blk_drewN ?_ _ | refine blk_drew ?_ | refine blk_alloc ?_ _)); exact BK119.out) hb); have n3_ := Aside0.mk (below_step (by repeat (first | (with_reducible first | exact HB.out | apply below_alloc | apply pw_below_drewN | apply below_drew1 | refine below_set ?_ GE118.out | refine below_set ?_ GE119.out) | exact HB.out)) hb); clear HO0_1; clear BK118; clear BK119; clear HB; have HO0_1 := n0_; have BK118 := n1_; have BK119 := n2_; have HB := n3_; clear n0_ n1_ n2_ n3_; (try clear hb); (try clear hb2); (try clear hk); (try clear hi)))
      go_meet
      case rel => exact ⟨_, (true), (by first | rfl | (simp; done) | (simp [*]; done)), H', ⟨by first | omega | exact Nat.le_refl _⟩, ⟨by (with_reducible repeat (first | apply Kd.V_alloc | apply Kd.V_drewN | apply Kd.V_drew)); exact Kd.V_mono HO0_1.out (fun _ hk => ⟨hk.1.1, ⟨hk.1.2, hk.2⟩⟩)⟩, ⟨by (with_reducible repeat (first | refine blk_drewN ?_ _ | refine blk_drew ?_ | refine blk_alloc ?_ _)); exact BK118.out⟩, ⟨by (with_reducible repeat (first | refine blk_drewN ?_ _ | refine blk_drew ?_ | refine blk_alloc ?_ _)); exact BK119.out⟩, ⟨by repeat (first | (with_reducible first | exact HB.out | apply below_alloc | apply pw_below_drewN | apply below_drew1 | refine below_set ?_ GE118.out | refine below_set ?_ GE119.out) | exact HB.out)⟩⟩
  case rest =>
    clear HC3
    try clear c1
    try clear p2
    try clear c7
    try clear c8
    try clear c10
    try clear c12
    try clear c14
    try clear hcz11_0
    try clear hcz11_1
    try clear hcz13_0
    try clear hcz13_1
    try clear hcz9_0
    try clear hcz9_1
    try clear hfz11_0
    try clear hfz11_1
    try clear hfz13_0
    try clear hfz13_1
    try clear hfz9_0
    try clear hfz9_1
    obtain ⟨kq, x8_2, rfl, HA, HJ2, HO_119001, BK118, BK119, HB⟩ := hcut
    cases kq with
    | zero => exact absurd HA.out (by simp [link_Push.j0])
    | succ kj2 =>
      have H := HA.out
      clear HA
      simp only [link_Push.j0] at H
      by_cases c15 : x8_2 = true
      · subst c15
        have H1 : (some (a0_0, l0_1, 0, 1)) = some (r1, r2, r3, r4) := by rw [if_pos rfl] at H; exact H
        clear H
        have H := H1
        clear H1
        simp only [Option.some.injEq, Prod.mk.injEq] at H
        obtain ⟨rfl, rfl, rfl, rfl⟩ := H
        have hnb16 := NB118_119.out
        have hnc16 := NB119_118.out
        have hcz17_0 : wc.cell? ⟨gb118, 0, none⟩ = some (.int .i64 a0_0) := (blk_cell BK118.out 0).trans rfl
        have hcz17_1 : wc.cell? ⟨gb118, 1, none⟩ = some (.slice A0_1 l0_1.length c0_1) := (blk_cell BK118.out 1).trans rfl
        have hfz17_0 := blk_frozen BK118.out 0
        have hfz17_1 := blk_frozen BK118.out 1
        have hcz18_0 : wc.cell? ⟨gb119, 0, none⟩ = some (.int .i64 0) := (blk_cell BK119.out 0).trans rfl
        have hcz18_1 : wc.cell? ⟨gb119, 1, none⟩ = some (.slice none 0 0) := (blk_cell BK119.out 1).trans rfl
        have hfz18_0 := blk_frozen BK119.out 0
        have hfz18_1 := blk_frozen BK119.out 1
        go_wp2
        refine bodyPost_ret (results_ctt rfl _ _ gb119 24 #[.int .i64 a0_0, .slice A0_1 l0_1.length c0_1] (0, 0) _ rfl (by (with_reducible repeat (first | refine blk_drewN ?_ _ | refine blk_drew ?_ | refine blk_alloc ?_ _)); refine blk_put (cs := #[.int .i64 a0_0, .slice none 0 0]) ?_ 1 _ rfl; (with_reducible repeat (first | refine blk_drewN ?_ _ | refine blk_drew ?_ | refine blk_alloc ?_ _)); refine blk_put (cs := #[.int .i64 0, .slice none 0 0]) ?_ 0 _ rfl; (with_reducible repeat (first | refine blk_drewN ?_ _ | refine blk_drew ?_ | refine blk_alloc ?_ _)); exact BK119.out) Try.underlying24 rfl (by kernel_rfl)) rfl ?_
        exact ⟨_, by first | rfl | (simp [errW_none, errW_some] <;> rfl) | (simp [*, errW_none, errW_some] <;> rfl), by (with_reducible repeat (first | apply Kd.V_alloc | apply Kd.V_drewN | apply Kd.V_drew)); exact Kd.V_mono (Kd.V_far (p := ⟨gb119, 1, none⟩) (Kd.V_far (p := ⟨gb119, 0, none⟩) (Kd.V_mono HO_119001.out (fun k_ hk => (⟨hk, hk.2.2⟩ : _ ∧ k_ ≠ gb119))) (fun _ hk => hk.2) (.int .i64 a0_0)) (fun _ hk => hk.2) (.slice A0_1 l0_1.length c0_1)) (fun _ hk => hk.1.1), by repeat (first | (with_reducible first | exact HB.out | apply below_alloc | apply pw_below_drewN | apply below_drew1 | refine below_set ?_ GE118.out | refine below_set ?_ GE119.out) | exact HB.out)⟩
      · replace c15 := Bool.eq_false_iff.mpr c15
        subst c15
        have H1 : (if (l0_1.length : Int) = 64 then (some (a0_0, l0_1, 0, 8)) else ((link_Frame_16.f l0_1).bind fun t121 => (if t121.length < 5864062014805 then (some (wrap64 (a0_0 + 1), (t121 ++ [(⟨a0_0, a1⟩ : S45)]), a0_0, 0)) else (none)))) = some (r1, r2, r3, r4) := by rw [if_neg (show ¬ (false = true) by decide)] at H; exact H
        clear H
        have H := H1
        clear H1
        by_cases c19 : (l0_1.length : Int) = 64
        · rw [if_pos c19] at H
          have c19b0 : ((l0_1.length : Int) == 64) = true := beq_iff_eq.mpr c19
          have c19b1 : ((l0_1.length : Int) != 64) = false := bne_eq_false_iff_eq.mpr c19
          clear c19
          simp only [Option.some.injEq, Prod.mk.injEq] at H
          obtain ⟨rfl, rfl, rfl, rfl⟩ := H
          have hnb20 := NB118_119.out
          have hnc20 := NB119_118.out
          have hcz21_0 : wc.cell? ⟨gb118, 0, none⟩ = some (.int .i64 a0_0) := (blk_cell BK118.out 0).trans rfl
          have hcz21_1 : wc.cell? ⟨gb118, 1, none⟩ = some (.slice A0_1 l0_1.length c0_1) := (blk_cell BK118.out 1).trans rfl
          have hfz21_0 := blk_frozen BK118.out 0
          have hfz21_1 := blk_frozen BK118.out 1
          have hcz22_0 : wc.cell? ⟨gb119, 0, none⟩ = some (.int .i64 0) := (blk_cell BK119.out 0).trans rfl
          have hcz22_1 : wc.cell? ⟨gb119, 1, none⟩ = some (.slice none 0 0) := (blk_cell BK119.out 1).trans rfl
          have hfz22_0 := blk_frozen BK119.out 0
          have hfz22_1 := blk_frozen BK119.out 1
          go_wp2
          refine bodyPost_ret (results_ctt rfl _ _ gb119 24 #[.int .i64 a0_0, .slice A0_1 l0_1.length c0_1] (0, 0) _ rfl (by (with_reducible repeat (first | refine blk_drewN ?_ _ | refine blk_drew ?_ | refine blk_alloc ?_ _)); refine blk_put (cs := #[.int .i64 a0_0, .slice none 0 0]) ?_ 1 _ rfl; (with_reducible repeat (first | refine blk_drewN ?_ _ | refine blk_drew ?_ | refine blk_alloc ?_ _)); refine blk_put (cs := #[.int .i64 0, .slice none 0 0]) ?_ 0 _ rfl; (with_reducible repeat (first | refine blk_drewN ?_ _ | refine blk_drew ?_ | refine blk_alloc ?_ _)); exact BK119.out) Try.underlying24 rfl (by kernel_rfl)) rfl ?_
          exact ⟨_, by first | rfl | (simp [errW_none, errW_some] <;> rfl) | (simp [*, errW_none, errW_some] <;> rfl), by (with_reducible repeat (first | apply Kd.V_alloc | apply Kd.V_drewN | apply Kd.V_drew)); exact Kd.V_mono (Kd.V_far (p := ⟨gb119, 1, none⟩) (Kd.V_far (p := ⟨gb119, 0, none⟩) (Kd.V_mono HO_119001.out (fun k_ hk => (⟨hk, hk.2.2⟩ : _ ∧ k_ ≠ gb119))) (fun _ hk => hk.2) (.int .i64 a0_0)) (fun _ hk => hk.2) (.slice A0_1 l0_1.length c0_1)) (fun _ hk => hk.1.1), by repeat (first | (with_reducible first | exact HB.out | apply below_alloc | apply pw_below_drewN | apply below_drew1 | refine below_set ?_ GE118.out | refine below_set ?_ GE119.out) | exact HB.out)⟩
        · rw [if_neg c19] at H
          have c19b0 : ((l0_1.length : Int) == 64) = false := beq_eq_false_iff_ne.mpr c19
          have c19b1 : ((l0_1.length : Int) != 64) = true := bne_iff_ne.mpr c19
          replace H := Option.bind_eq_some_iff.mp H
          obtain ⟨t121, A230, H⟩ := H
          replace H : (if t121.length < 5864062014805 then (some (wrap64 (a0_0 + 1), (t121 ++ [(⟨a0_0, a1⟩ : S45)]), a0_0, 0)) else (none)) = some (r1, r2, r3, r4) := H
          have A23 := Aside0.mk A230
          clear A230
          by_cases c24 : t121.length < 5864062014805
          · rw [if_pos c24] at H
            have LMc24 := Aside0.mk c24
            clear c24
            obtain ⟨y124, hy124⟩ : ∃ y_ : List (S45), y_ = (t121 ++ [(⟨a0_0, a1⟩ : S45)]) := ⟨_, rfl⟩
            replace H : (some (wrap64 (a0_0 + 1), y124, a0_0, 0)) = some (r1, r2, r3, r4) := by first | (rw [hy124]; with_reducible exact H) | (have H2_ := (Option.bind_some _ _).symm.trans H; rw [hy124]; with_reducible exact H2_) | (have H2_ := (Option.bind_some _ _).symm.trans H; with_reducible exact H2_) | with_reducible exact H | (rw [hy124]; exact H) | exact H
            have Ny124 := Aside0.mk hy124
            clear hy124
            simp only [Option.some.injEq, Prod.mk.injEq] at H
            obtain ⟨rfl, rfl, rfl, rfl⟩ := H
            have hnb25 := NB118_119.out
            have hnc25 := NB119_118.out
            have hcz26_0 : wc.cell? ⟨gb118, 0, none⟩ = some (.int .i64 a0_0) := (blk_cell BK118.out 0).trans rfl
            have hcz26_1 : wc.cell? ⟨gb118, 1, none⟩ = some (.slice A0_1 l0_1.length c0_1) := (blk_cell BK118.out 1).trans rfl
            have hfz26_0 := blk_frozen BK118.out 0
            have hfz26_1 := blk_frozen BK118.out 1
            go_wp2_with (first | ((with_reducible refine gate_callee (f := 16) rfl ?_); refine goesL_ (some 30) rfl rfl Try.func16 (by kernel_rfl) rfl #[.slice A0_1 l0_1.length c0_1] rfl (by (try simp only [List.map_toArray, List.map_cons, List.map_nil]); first | done | rfl | (simp only [List.length_drop, List.length_take]; rfl)) ?_; (with_reducible refine (link_Frame_16.calls _ _ l0_1 t121 _ ?side1 ?side2 A23.out).mono ?_); (case side1 => repeat (first | exact (Kd.V_reads' HO_119001.out).2.2 | (with_reducible refine Kd.C_alloc ?_ _) | (with_reducible refine Kd.C_drewN ?_ _) | (with_reducible refine Kd.C_drew ?_))); (case side2 => exact (Kd.V_reads' HO_119001.out).2.1); rintro e w27 ⟨v122, rfl, ho0, hb⟩; refine ⟨_, rfl, ?_⟩; have n0_ := Aside0.mk (Kd.V_elder' (by (with_reducible repeat (first | apply Kd.V_alloc | apply Kd.V_drewN | apply Kd.V_drew)); exact HO_119001.out) (Kd.R_base ho0) hb); have n1_ := Aside0.mk (Kd.R_lower (Kd.R_newM (M := fun k_ => (w.heap.size ≤ k_)) ho0 (below_size (by repeat (first | (with_reducible first | exact HB.out | apply below_alloc | apply pw_below_drewN | apply below_drew1 | refine below_set ?_ GE118.out | refine below_set ?_ GE119.out) | exact HB.out))) (fun k_ h_ => h_)) (below_size (by repeat (first | (with_reducible first | exact HB.out | apply below_alloc | apply pw_below_drewN | apply below_drew1 | refine below_set ?_ GE118.out | refine below_set ?_ GE119.out) | exact HB.out)))); have n2_ := Aside0.mk (blk_below (g := gb118) (o := .cells #[.int .i64 a0_0, .slice A0_1 l0_1.length c0_1] 24 (0, 0)) (by (with_reducible repeat (first | refine blk_drewN ?_ _ | refine blk_drew ?_ | refine blk_alloc ?_ _)); exact BK118.out) hb); have n3_ := Aside0.mk (blk_below (g := gb119) (o := .cells #[.int .i64 0, .slice none 0 0] 24 (0, 0)) (by (with_reducible repeat (first | refine blk_drewN ?_ _ | refine blk_drew ?_ | refine blk_alloc ?_ _)); exact BK119.out) hb); have n4_ := Aside0.mk (below_step (by repeat (first | (with_reducible first | exact HB.out | apply below_alloc | apply pw_below_drewN | apply below_drew1 | refine below_set ?_ GE118.out | refine below_set ?_ GE119.out) | exact HB.out)) hb); clear HO_119001; clear BK118; clear BK119; clear HB; have HO_119001 := n0_; have HO123 := n1_; have BK118 := n2_; have BK119 := n3_; have HB := n4_; clear n0_ n1_ n2_ n3_ n4_; (try clear hb); (try clear hb2); (try clear hk); (try clear hi); (try clear ho0)) | ((with_reducible refine gate_builtin (b := .append) (xs := #[.tmp 30, .tmp 34]) rfl ?_); at_builtin; refine Kd.R_append k45 (w0 := w) w.heap.size rfl (.tmp 30) (.tmp 34) 22 45 (.agg #[(.int .i64 0), (.string ⟨#[]⟩)]) 24 rfl Try.underlying22 info45 rfl (by decide) (by omega) v122 t121 (⟨a0_0, a1⟩ : S45) [.int .i64 a0_0, .string a1] (fun k_ => (w.heap.size ≤ k_)) (fun _ => False) rfl rfl ?aP (fun _ hk => hk.elim) ?aF ?aO ?aB ?aS ?aL ?_; (case aP => exact k45_mkM _ _ _ (⟨a0_0, a1⟩ : S45)); (case aB => exact (by repeat (first | (with_reducible first | exact HB.out | apply below_alloc | apply pw_below_drewN | apply below_drew1 | refine below_set ?_ GE118.out | refine below_set ?_ GE119.out) | exact HB.out))); (case aF => exact (fun k_ hk => (Nat.le_trans (below_size (by repeat (first | (with_reducible first | exact HB.out | apply below_alloc | apply pw_below_drewN | apply below_drew1 | refine below_set ?_ GE118.out | refine below_set ?_ GE119.out) | exact HB.out))) hk))); (case aO => exact (by (with_reducible repeat (first | apply Kd.R_alloc | apply Kd.R_drewN | apply Kd.R_drew)); exact Kd.R_mono HO123.out (fun _ hk => hk.1))); (case aS => exact (below_size (by repeat (first | (with_reducible first | exact HB.out | apply below_alloc | apply pw_below_drewN | apply below_drew1 | refine below_set ?_ GE118.out | refine below_set ?_ GE119.out) | exact HB.out)))); (case aL => have := LMc24.out; omega); intro v125 w28 ho hb hg hat; rw [← Ny124.out] at ho; have n0_ := Aside0.mk (Kd.V_afterv (ok := (fun k_ => (P0_1_ k_ ∨ w.heap.size ≤ k_) ∧ k_ ≠ gb118 ∧ k_ ≠ gb119)) (by (with_reducible repeat (first | apply Kd.V_alloc | apply Kd.V_drewN | apply Kd.V_drew)); exact HO_119001.out) hg hat); have n1_ := Aside0.mk (blk_grown (g := gb118) (o := .cells #[.int .i64 a0_0, .slice A0_1 l0_1.length c0_1] 24 (0, 0)) (by (with_reducible repeat (first | refine blk_drewN ?_ _ | refine blk_drew ?_ | refine blk_alloc ?_ _)); exact BK118.out) hg (Kd.R_ne HO123.out BK118.out (by decide))); have n2_ := Aside0.mk (blk_grown (g := gb119) (o := .cells #[.int .i64 0, .slice none 0 0] 24 (0, 0)) (by (with_reducible repeat (first | refine blk_drewN ?_ _ | refine blk_drew ?_ | refine blk_alloc ?_ _)); exact BK119.out) hg (Kd.R_ne HO123.out BK119.out (by decide))); have n3_ := Aside0.mk (hb); have n4_ := Aside0.mk (ho); clear HO_119001; clear BK118; clear BK119; clear HB; clear HO123; have HO_119001 := n0_; have BK118 := n1_; have BK119 := n2_; have HB := n3_; have HO126 := n4_; clear n0_ n1_ n2_ n3_ n4_; clear ho hb hg hat; obtain ⟨Ao29, co29, eo29⟩ := Kd.R_slice HO126.out; subst eo29; have hcz30_0 : w28.cell? ⟨gb119, 0, none⟩ = some (.int .i64 0) := (blk_cell BK119.out 0).trans rfl; have hcz30_1 : w28.cell? ⟨gb119, 1, none⟩ = some (.slice none 0 0) := (blk_cell BK119.out 1).trans rfl; have hfz30_0 := blk_frozen BK119.out 0; have hfz30_1 := blk_frozen BK119.out 1))
            refine bodyPost_ret (results_ctt rfl _ _ gb119 24 #[.int .i64 (wrap64 (a0_0 + 1)), .slice Ao29 y124.length co29] (0, 0) _ rfl (by (with_reducible repeat (first | refine blk_drewN ?_ _ | refine blk_drew ?_ | refine blk_alloc ?_ _)); refine blk_put (cs := #[.int .i64 (wrap64 (a0_0 + 1)), .slice none 0 0]) ?_ 1 _ rfl; (with_reducible repeat (first | refine blk_drewN ?_ _ | refine blk_drew ?_ | refine blk_alloc ?_ _)); refine blk_put (cs := #[.int .i64 0, .slice none 0 0]) ?_ 0 _ rfl; (with_reducible repeat (first | refine blk_drewN ?_ _ | refine blk_drew ?_ | refine blk_alloc ?_ _)); exact BK119.out) Try.underlying24 rfl (by kernel_rfl)) rfl ?_
            exact ⟨_, by first | rfl | (simp [errW_none, errW_some] <;> rfl) | (simp [*, errW_none, errW_some] <;> rfl), Kd.V_mono (Kd.R_V (by (with_reducible repeat (first | apply Kd.R_alloc | apply Kd.R_drewN | apply Kd.R_drew)); exact Kd.R_mono (Kd.R_far (p := ⟨gb119, 1, none⟩) (Kd.R_far (p := ⟨gb119, 0, none⟩) (Kd.R_types HO126.out BK119.out (by decide)) (fun _ hk => hk.2) (.int .i64 (wrap64 (a0_0 + 1)))) (fun _ hk => hk.2) (.slice Ao29 y124.length co29)) (fun _ hk => hk.1))) (fun k_ hk => by first | exact ⟨(.inr (hk.1)), hk.2⟩ | exact (.inr (hk))), by repeat (first | (with_reducible first | exact HB.out | apply below_alloc | apply pw_below_drewN | apply below_drew1 | refine below_set ?_ GE118.out | refine below_set ?_ GE119.out) | exact HB.out)⟩
          · rw [if_neg c24] at H
            exact absurd H (by simp)

/-! ### link_Frame_19: function 19 (given by hand) -/
/-- The place of the first element for which p holds, counted from i on; -1: there is none. -/
def idxFrom19 {α : Type} (p : α → Bool) : List α → Nat → Int
  | [], _ => -1
  | x :: r, i => if p x = true then (i : Int) else idxFrom19 p r (i + 1)
theorem drop_at19 {α : Type} (l : List α) (k : Nat) (h : k < l.length) : l.drop k = l[k] :: l.drop (k + 1) := List.drop_eq_getElem_cons h
set_option maxHeartbeats 8000000 in
set_option maxRecDepth 100000 in
theorem idx19_calls (g : Nat) {fn : Func} (hfn : Try.prog.funcs[g]? = some fn) (hname : (fn.name == "runtime.NumGoroutine") = false) (hbody : fn.body.isSome = true) (lb : Array Value) (p : S45 → Bool)
    (A0 : Option Addr) (c0 : Nat) (l0 : List S45) (w : World) (hr0 : Kd.C k45 w A0 l0.length l0)
    (hP : ∀ (x : S45) (W : World), Below w.heap.size w W → Calls Try.prog g (#[.agg #[.int .i64 x.f0, .string x.f1]] ++ lb) W fun e w' => e = .returned (.bool (p x)) ∧ Below W.heap.size W w') :
    Calls Try.prog 19 #[.slice A0 l0.length c0, .func (.func g) #[] lb] w fun e w' => e = .returned (.int .i64 (idxFrom19 p l0 0)) ∧ Below w.heap.size w w' := by
  have HR0 := Aside0.mk hr0
  have HP := Aside0.mk hP
  clear hr0 hP
  have HB := Aside0.mk (Below.refl w.heap.size w)
  have hmax : l0.length ≤ 9223372036854775807 := HR0.out.2.1
  have eg : ∀ (args : Array Value) (w : World), (callFunc g args).run Try.prog w = .ok (.enter g args) w := fun args w => enters_ hfn hname hbody args w
  go_enter Try.func19, Try.ntmps19
  go_wp2
  go_loopw [8] (fun v8 w' => ∃ k : Nat, Aside0 (k ≤ l0.length) ∧ v8 = .int .i64 (k : Int) ∧ Aside0 (idxFrom19 p (l0.drop k) k = idxFrom19 p l0 0) ∧ Aside0 (Below w.heap.size w w')) (fun v8 _ => l0.length - (intOf v8).toNat)
  case atStart => exact ⟨0, ⟨Nat.zero_le _⟩, rfl, ⟨rfl⟩, HB⟩
  case round =>
    obtain ⟨k, HK, rfl, HI, HB⟩ := hrel
    by_cases hlt : k < l0.length
    · obtain ⟨ad, hA, hx0, hx1⟩ := at_T45 HR0.out (k : Int) (by omega) (by omega)
      cases hA
      have hget : rd_T45 l0 (k : Int) = l0[k] := by
        unfold rd_T45
        rw [Int.toNat_natCast, List.getD_eq_getElem?_getD, List.getElem?_eq_getElem hlt]
        rfl
      rw [hget, Int.toNat_natCast] at hx0 hx1
      replace hx0 := (HB.out.cell (World.block_lt_of_cell? w _ hx0)).trans hx0
      replace hx1 := (HB.out.cell (World.block_lt_of_cell? w _ hx1)).trans hx1
      have hc : decide (k < l0.length) = true := decide_eq_true hlt
      have HC := Aside0.mk (fun W => HP.out l0[k] W)
      have HD := Aside0.mk (drop_at19 l0 k hlt)
      clear hget
      cases hp : p l0[k]
      · have HC1 : Aside0 (∀ W : World, Below w.heap.size w W → Calls Try.prog g (#[.agg #[.int .i64 l0[k].f0, .string l0[k].f1]] ++ lb) W fun e w' => e = .returned (.bool false) ∧ Below W.heap.size W w') := ⟨fun W hW => by have := HC.out W hW; rwa [hp] at this⟩
        have HN : Aside0 (idxFrom19 p (l0.drop (k + 1)) (k + 1) = idxFrom19 p l0 0) := ⟨by have := HI.out; rw [HD.out] at this; simp only [idxFrom19, hp] at this; exact this⟩
        clear HC HI HD hp
        go_wp2_with (go_at_fn g; refine (HC1.out _ ?cb).mono ?_; (case cb => exact HB.out); rintro e w' ⟨rfl, hb0⟩; have n1_ := Aside0.mk (below_step HB.out hb0); clear hb0; clear HB; have HB := n1_; clear n1_)
        go_roundw
        case rel => exact ⟨k + 1, ⟨by omega⟩, by go_num, HN, HB⟩
        case measure => simp [intOf]; omega
      · have HC1 : Aside0 (∀ W : World, Below w.heap.size w W → Calls Try.prog g (#[.agg #[.int .i64 l0[k].f0, .string l0[k].f1]] ++ lb) W fun e w' => e = .returned (.bool true) ∧ Below W.heap.size W w') := ⟨fun W hW => by have := HC.out W hW; rwa [hp] at this⟩
        have HN : Aside0 (((k : Nat) : Int) = idxFrom19 p l0 0) := ⟨by have := HI.out; rw [HD.out] at this; simp only [idxFrom19, hp] at this; exact this⟩
        clear HC HI HD hp
        go_wp2_with (go_at_fn g; refine (HC1.out _ ?cb).mono ?_; (case cb => exact HB.out); rintro e w' ⟨rfl, hb0⟩; have n1_ := Aside0.mk (below_step HB.out hb0); clear hb0; clear HB; have HB := n1_; clear n1_)
        go_ret
        exact ⟨by rw [← HN.out]; rfl, HB.out⟩
    · have hc : decide (k < l0.length) = false := decide_eq_false hlt
      have hk : k = l0.length := by have := HK.out; omega
      have HN : Aside0 ((-1 : Int) = idxFrom19 p l0 0) := ⟨by have := HI.out; rw [hk, List.drop_length] at this; exact this⟩
      clear hk
      go_wp2
      go_ret
      exact ⟨by rw [← HN.out]; rfl, HB.out⟩

/-! ### link_Frame_17: function 17 (given by hand) -/
theorem idxSpec17 (p : S45 → Bool) : ∀ (l : List S45) (i : Nat), (idxFrom19 p l i = -1 ∧ l.filter (fun x => !p x) = l) ∨ ∃ k, ∃ h : k < l.length, idxFrom19 p l i = ((i + k : Nat) : Int) ∧ p l[k] = true ∧ (l.take k).filter (fun x => !p x) = l.take k := by
  intro l
  induction l with
  | nil => intro i; exact .inl ⟨rfl, rfl⟩
  | cons x r ih =>
    intro i
    by_cases h : p x = true
    · refine .inr ⟨0, by simp, ?_, h, rfl⟩
      simp only [idxFrom19, if_pos h]
      rfl
    · have hp : p x = false := Bool.eq_false_iff.mpr h
      have hs : idxFrom19 p (x :: r) i = idxFrom19 p r (i + 1) := by simp only [idxFrom19]; rw [if_neg h]
      rw [hs]
      rcases ih (i + 1) with ⟨e, hf⟩ | ⟨k, hk, e, ht, hf⟩
      · exact .inl ⟨e, by rw [List.filter_cons]; simp [hp, hf]⟩
      · refine .inr ⟨k + 1, by simp; exact hk, by rw [e]; congr 1; omega, by simpa using ht, ?_⟩
        rw [List.take_succ_cons, List.filter_cons]
        simp [hp, hf]
theorem take_set17 {α : Type} (l : List α) (i : Nat) (x : α) (h : i < l.length) : (l.set i x).take (i + 1) = l.take i ++ [x] := by
  rw [List.take_set, List.take_succ_eq_append_getElem h, List.set_append_right _ _ (by rw [List.length_take]; omega), show i - (l.take i).length = 0 by rw [List.length_take]; omega]
  rfl
theorem clear17 {W : World} {base g n c i : Nat} {ok : Nat → Prop} {xs : List S45} (HO : Kd.R k45 45 W base ok (.slice (some ⟨g, 0, none⟩) n c) xs) (hi : i < n) :
    ∃ w1, (∀ c2, (Builtin.clear_ #[22] 0 #[.slice (some ⟨g, i * 2, none⟩) (n - i) c2]).run Try.prog W = .ok (.tuple #[]) w1) ∧ Kd.R k45 45 w1 base ok (.slice (some ⟨g, 0, none⟩) i c) (xs.take i) ∧ W.grownBy w1 (some g) := by
  have hn : n = xs.length := (Kd.R_reads' HO).1
  have HO1 := HO
  obtain ⟨z, hz⟩ : ∃ z : Value, z = .agg #[.int .i64 0, .string ⟨#[]⟩] := ⟨_, rfl⟩
  have hzc : z.cells = #[.int .i64 0, .string ⟨#[]⟩] := by rw [hz]; rfl
  have hlen : (Builtin.zeroCells z.cells (n - i)).toList.length = (n - i) * 2 := by rw [hzc]; simp [Builtin.zeroCells]
  have hone : ∀ v ∈ (Builtin.zeroCells z.cells (n - i)).toList, v.oneCell' = true := by
    rw [hzc]
    intro v hv
    simp only [Builtin.zeroCells, Array.toList_map, List.mem_map] at hv
    obtain ⟨q, _, rfl⟩ := hv
    have : q % 2 = 0 ∨ q % 2 = 1 := by omega
    show (#[Value.int .i64 0, .string ⟨#[]⟩][q % 2]!).oneCell' = true
    rcases this with h | h <;> rw [h] <;> rfl
  obtain ⟨_, inner0, ho0, _⟩ := HO
  rcases ho0 with ⟨_, ⟨hv, _⟩ | ⟨g', cap', cur, hv, hb, hh, hnc, hcm, hcs, _⟩⟩
  · cases hv
  injection hv with ha _ hc
  injection ha with ha
  injection ha with hg
  subst hg; subst hc
  have hsz : k45.sz = 2 := rfl
  rw [hsz] at hcs
  have hfit : i * 2 + (Builtin.zeroCells z.cells (n - i)).toList.length ≤ cur.size := by rw [hlen, hcs]; omega
  have hst := run_storeCells_cells (P := Try.prog) g (i * 2) (Builtin.zeroCells z.cells (n - i)).toList 0 W (fun j hj => by rw [cell_of_row W g _ cur 45 (0, 0) hh]; simp; omega) (fun j _ => blk_frozen hh _) hone
  simp only [Nat.add_zero] at hst
  refine ⟨W.setCells g (i * 2) (Builtin.zeroCells z.cells (n - i)).toList, fun c2 => ?_, ?_, ?_⟩
  · obtain ⟨m, hm⟩ : ∃ m, n - i = m + 1 := ⟨n - i - 1, by omega⟩
    have hv : ∀ w, (zeroValue 45).run Try.prog w = .ok z w := fun w => by rw [hz]; kernel_rfl
    rw [hm] at hst ⊢
    simp [Builtin.clear_, run_underlying Try.underlying22, hv, hst]
  · obtain ⟨h0, inner, ho, hr⟩ := Kd.R_take HO1 (m := i) (by omega)
    rcases ho with ⟨hl, ⟨hv2, _⟩ | ⟨g2, cap2, cur2, hv2, hb2, hh2, hnc2, hcm2, hcs2, ht2⟩⟩
    · cases hv2
    injection hv2 with ha2 _ hc2
    injection ha2 with ha2
    injection ha2 with hg2
    subst hg2; subst hc2
    rw [hsz] at hcs2 hl ht2
    rw [hh] at hh2
    obtain rfl : cur = cur2 := by injection hh2 with h; injection h
    obtain ⟨cur', h3, h4, h5⟩ := setCells_row (Builtin.zeroCells z.cells (n - i)).toList (i * 2) W cur hh hfit
    have hil : (xs.take i).length = i := by rw [List.length_take]; omega
    rw [hil] at hl ht2
    refine ⟨h0, inner, ⟨by rw [hsz, hil]; exact hl, .inr ⟨g, c, cur', by rw [hil], hb, h3, by rw [hil]; omega, hcm, by rw [h4, hsz]; exact hcs, ?_⟩⟩, ?_⟩
    · rw [hil, hsz, h5, List.append_assoc, List.take_append_of_le_length (by rw [List.length_take, Array.length_toList]; omega), List.take_take, Nat.min_self]
      exact ht2
    · exact hr.imp_ (fun _ _ hp => k45.M_move (fun k hk => setCells_far _ _ k (fun he => hk.2 (by rw [he]; rfl))) hp)
  · obtain ⟨s1, s2, s3, s4⟩ := setCells_same g (Builtin.zeroCells z.cells (n - i)).toList (i * 2) W
    exact ⟨s1, s2, s3, by rw [s4]; exact Nat.le_refl _, fun k _ hk => setCells_far _ _ k (fun he => hk (by rw [he]))⟩
set_option maxHeartbeats 8000000 in
set_option maxRecDepth 100000 in
theorem del17_calls (g : Nat) {fn : Func} (hfn : Try.prog.funcs[g]? = some fn) (hname : (fn.name == "runtime.NumGoroutine") = false) (hbody : fn.body.isSome = true) (lb : Array Value) (p : S45 → Bool) (base : Nat) (ok : Nat → Prop) (v : Value) (xs : List S45) (w0 W : World)
    (HO0 : Kd.R k45 45 W base ok v xs) (HB0 : Below base w0 W) (hbase : base ≤ w0.heap.size)
    (hP : ∀ (x : S45) (W' : World), Below base w0 W' → Calls Try.prog g (#[.agg #[.int .i64 x.f0, .string x.f1]] ++ lb) W' fun e w' => e = .returned (.bool (p x)) ∧ Below W'.heap.size W' w') :
    Calls Try.prog 17 #[v, .func (.func g) #[] lb] W fun e w' => ∃ v' : Value, e = .returned v' ∧ Kd.R k45 45 w' base ok v' (xs.filter (fun x => !p x)) ∧ Below base w0 w' := by
  have eg : ∀ (args : Array Value) (w : World), (callFunc g args).run Try.prog w = .ok (.enter g args) w := fun args w => enters_ hfn hname hbody args w
  obtain ⟨A, c, rfl, hcap, hC⟩ := Kd.R_reads HO0
  have HP := Aside0.mk hP
  have hbW : base ≤ W.heap.size := Nat.le_trans hbase HB0.size
  have hmax : xs.length ≤ 9223372036854775807 := Kd.C_max hC
  have HO := Aside0.mk HO0
  have HB := Aside0.mk HB0
  have HC := Aside0.mk hC
  have hIX := Aside0.mk (idx19_calls g hfn hname hbody lb p A c xs W hC (fun x W' hb => hP x W' (below_then HB0 hbW hb)))
  clear hP hC
  rcases idxSpec17 p xs 0 with ⟨e1, hf⟩ | ⟨k0, hk0, e1, hp0, hf⟩
  · have HF := Aside0.mk hf
    have HE := Aside0.mk e1
    clear hf e1 HO0 HB0
    go_enter Try.func17, Try.ntmps17
    go_wp2_with (go_at_call 19; refine hIX.out.mono ?_; rw [HE.out]; rintro e w1 ⟨rfl, hb⟩; have HB1 := Aside0.mk hb; clear hb)
    go_ret
    exact ⟨_, rfl, by rw [HF.out]; exact Kd.R_below HO.out HB1.out, below_then HB.out hbW HB1.out⟩
  · obtain ⟨g0, rfl⟩ : ∃ g0, A = some ⟨g0, 0, none⟩ := by
      obtain ⟨_, inner0, ho0, _⟩ := HO0
      rcases ho0 with ⟨_, ⟨hv, _⟩ | ⟨g', cap', cur, hv, _⟩⟩
      · injection hv with h1 h2
        omega
      · injection hv with h1
        exact ⟨g', h1⟩
    have hg0 : base ≤ g0 := Kd.R_base HO0 g0 (by simp [Value.ownBlock])
    rw [Nat.zero_add] at e1
    have HE := Aside0.mk e1
    have HF : Aside0 (((xs.take (k0 + 1)).filter (fun x => !p x)).length = k0 ∧ xs.take k0 = (xs.take (k0 + 1)).filter (fun x => !p x)) := by
      have h : (xs.take (k0 + 1)).filter (fun x => !p x) = xs.take k0 := by
        rw [List.take_succ_eq_append_getElem hk0, List.filter_append, hf]
        simp [hp0]
      exact ⟨by rw [h, List.length_take]; omega, h.symm⟩
    have hne : ((k0 : Int) == -1) = false := beq_eq_false_iff_ne.2 (by omega)
    have hwr : IntKind.i64.wrap ((k0 : Int) + 1) = ((k0 + 1 : Nat) : Int) := by rw [IntKind.wrap_i64]; omega
    have HK0 := Aside0.mk hk0
    clear hf e1 hp0 HO0 HB0 hk0
    go_enter Try.func17, Try.ntmps17
    go_wp2_with (go_at_call 19; refine hIX.out.mono ?_; rw [HE.out]; rintro e w1 ⟨rfl, hb⟩; have HB1 := Aside0.mk hb; clear hb)
    go_loopw [5, 6] (fun v5 v6 w' => ∃ (i j : Nat) (cur : List S45), v5 = .int .i64 (i : Int) ∧ v6 = .int .i64 (j : Int) ∧ Aside0 (i < j) ∧ Aside0 (j ≤ xs.length) ∧ Aside0 (cur.length = xs.length) ∧ Aside0 (cur.take i = (xs.take j).filter (fun x => !p x)) ∧ Aside0 (((xs.take j).filter (fun x => !p x)).length = i) ∧ Aside0 (cur.drop j = xs.drop j) ∧ Aside0 (Kd.R k45 45 w' base ok (.slice (some ⟨g0, 0, none⟩) xs.length c) cur) ∧ Aside0 (Below base w0 w')) (fun _ v6 _ => xs.length - (intOf v6).toNat)
    case atStart => exact ⟨k0, k0 + 1, xs, rfl, rfl, ⟨by omega⟩, ⟨HK0.out⟩, ⟨rfl⟩, ⟨HF.out.2⟩, ⟨HF.out.1⟩, ⟨rfl⟩, ⟨Kd.R_below HO.out HB1.out⟩, ⟨below_then HB.out hbW HB1.out⟩⟩
    case round =>
      clear HB1 HE HF HO HB HC hIX HK0 hne hwr
      obtain ⟨i, j, cur, rfl, rfl, HI, HJ, HL, HT, HN, HD, HO, HB⟩ := hrel
      by_cases hlt : j < xs.length
      · have hc : decide (j < xs.length) = true := decide_eq_true hlt
        have hjc : j < cur.length := by rw [HL.out]; exact hlt
        have hget : cur[j] = xs[j] := by
          have h1 := List.drop_eq_getElem_cons hjc
          have h2 := List.drop_eq_getElem_cons hlt
          have h3 := HD.out
          rw [h1, h2] at h3
          exact (List.cons.inj h3).1
        have HD1 : Aside0 (cur.drop (j + 1) = xs.drop (j + 1)) := ⟨by
          have h1 := List.drop_eq_getElem_cons hjc
          have h2 := List.drop_eq_getElem_cons hlt
          have h3 := HD.out
          rw [h1, h2] at h3
          exact (List.cons.inj h3).2⟩
        obtain ⟨x, hx⟩ : ∃ x, x = xs[j] := ⟨_, rfl⟩
        have hC := (Kd.R_reads' HO.out).2.2
        obtain ⟨ad, hA, hx0, hx1⟩ := at_T45 hC (j : Int) (by omega) (by omega)
        cases hA
        have hrd : rd_T45 cur (j : Int) = x := by
          unfold rd_T45
          rw [Int.toNat_natCast, List.getD_eq_getElem?_getD, List.getElem?_eq_getElem hjc]
          exact hget.trans hx.symm
        have e0 : (⟨g0, 0, none⟩ : Addr).add (j * 2) = ⟨g0, j * 2, none⟩ := by unfold Addr.add; simp; omega
        rw [hrd, Int.toNat_natCast, e0] at hx0 hx1
        dsimp only at hx1
        clear e0
        have hg0lt : g0 < wr.heap.size := by
          obtain ⟨_, inner0, ho0, _⟩ := HO.out
          exact own_lt ho0 g0 (by simp [Value.ownBlock])
        have hbr : base ≤ wr.heap.size := Nat.le_trans hbase HB.out.size
        have hit : i < xs.length := by have := HI.out; omega
        have HTK : (xs.take (j + 1)).filter (fun x => !p x) = (xs.take j).filter (fun x => !p x) ++ (if p x then [] else [x]) := by
          rw [List.take_succ_eq_append_getElem hlt, List.filter_append, ← hx]
          cases hp : p x <;> simp [hp]
        have HJJ := Aside0.mk hlt
        have HIT := Aside0.mk hit
        have hw1 : IntKind.i64.wrap ((j : Int) + 1) = ((j + 1 : Nat) : Int) := by rw [IntKind.wrap_i64]; omega
        have hw2 : IntKind.i64.wrap ((i : Int) + 1) = ((i + 1 : Nat) : Int) := by rw [IntKind.wrap_i64]; omega
        cases hp : p x
        · have HC1 : Aside0 (∀ W' : World, Below base w0 W' → Calls Try.prog g (#[.agg #[.int .i64 x.f0, .string x.f1]] ++ lb) W' fun e w' => e = .returned (.bool false) ∧ Below W'.heap.size W' w') := ⟨fun W' hW => by have := HP.out x W' hW; rwa [hp] at this⟩
          have HTK1 : Aside0 ((xs.take (j + 1)).filter (fun x => !p x) = (xs.take j).filter (fun x => !p x) ++ [x]) := ⟨by rw [HTK, hp]; rfl⟩
          clear hget hx hrd hp HTK hjc hC HD
          go_wp2_with (first
            | ((with_reducible refine gate_dst (N := 7) rfl ?_); refine box_event ?hg (N := 7) ?hd (cs := #[.int .i64 0, .string (⟨#[]⟩ : ByteArray)]) (t := 45) ?hr ?_; (case hd => rfl); (case hg => rfl); (case hr => first | (go_simp; done) | (go_simp; rfl)); intro gb hgb w38 hbox hb; have BK := Aside0.mk hbox; have HBr := Aside0.mk hb; have GE : Aside0 (wr.heap.size ≤ gb) := ⟨by rw [hgb]; exact Nat.le_refl _⟩; clear hgb hbox hb; have hcz0 : w38.cell? ⟨gb, 0, none⟩ = some (.int .i64 0) := (blk_cell BK.out 0).trans rfl; have hcz1 : w38.cell? ⟨gb, 1, none⟩ = some (.string (⟨#[]⟩ : ByteArray)) := (blk_cell BK.out 1).trans rfl; have hfz0 := blk_frozen BK.out 0; have hfz1 := blk_frozen BK.out 1)
            | (go_at_fn g; refine (HC1.out _ ?cb).mono ?_; (case cb => exact below_then HB.out hbr ((HBr.out.setCell GE.out _).setCell GE.out _)); rintro e w3 ⟨rfl, hb0⟩; have hb3 := Aside0.mk (below_then ((HBr.out.setCell (p := ⟨gb, 0, none⟩) GE.out (.int .i64 x.f0)).setCell (p := ⟨gb, 1, none⟩) GE.out (.string x.f1)) ((HBr.out.setCell (p := ⟨gb, 0, none⟩) GE.out (.int .i64 x.f0)).setCell (p := ⟨gb, 1, none⟩) GE.out (.string x.f1)).size hb0); have BK3 := Aside0.mk (blk_below (g := gb) (o := .cells #[.int .i64 x.f0, .string x.f1] 45 (0, 0)) (blk_put (cs := #[.int .i64 x.f0, .string (⟨#[]⟩ : ByteArray)]) (blk_put (cs := #[.int .i64 0, .string (⟨#[]⟩ : ByteArray)]) BK.out 0 _ rfl) 1 _ rfl) hb0); clear hb0; have hcy0 : w3.cell? ⟨gb, 0, none⟩ = some (.int .i64 x.f0) := (blk_cell BK3.out 0).trans rfl; have hcy1 : w3.cell? ⟨gb, 1, none⟩ = some (.string x.f1) := (blk_cell BK3.out 1).trans rfl; have HO3 := Aside0.mk (Kd.R_below HO.out hb3.out); have HB3 := Aside0.mk (below_then HB.out hbr hb3.out); obtain ⟨cs, hcl, _, hcc, _⟩ := Kd.R_elem HO3.out z45 (i : Int) (by omega) (by have := HIT.out; omega))
            | ((with_reducible refine gate_ (.store 45 (.tmp 33) (.tmp 32)) rfl ?_); refine Kd.R_store k45 (w0 := w0) base rfl rfl 45 (.tmp 33) (.tmp 32) rfl 45 (g := g0) (n := xs.length) (cap := c) (i : Int) 0 cur x (.agg #[.int .i64 x.f0, .string x.f1]) [.int .i64 x.f0, .string x.f1] cs ok (fun k => ok k ∧ k ≠ g0) rfl ?hoff rfl rfl ?ht ?h1 HO3.out (by omega) (by have := HIT.out; omega) hcl hcc ?hj ?hM (fun _ hk => hk) HB3.out ?_; (case hoff => first | rfl | (simp; done) | (simp [show k45.sz = 2 from rfl]; done)); (case ht => kernel_rfl); (case h1 => (intro q hq; simp at hq; rcases hq with rfl | rfl <;> rfl)); (case hj => exact Nat.le_of_eq rfl); (case hM => (obtain ⟨c0, c1, rfl⟩ : ∃ c0 c1, cs = [c0, c1] := (match cs, hcl with | [c0, c1], _ => ⟨c0, c1, rfl⟩); exact k45_mkM _ _ _ x)); intro w5 ho5 hb5 _; have HO5 := Aside0.mk ho5; have HB5 := Aside0.mk hb5; clear ho5 hb5 HO3 HB3 hcc hcl))
          go_roundw
          case rel => exact ⟨i + 1, j + 1, cur.set i x, by go_num, by go_num, ⟨by have := HI.out; omega⟩, ⟨HJJ.out⟩, ⟨by rw [List.length_set]; exact HL.out⟩, ⟨by rw [HTK1.out, ← HT.out]; exact take_set17 cur i x (by have := HL.out; have := HIT.out; omega)⟩, ⟨by rw [HTK1.out, List.length_append, HN.out]; rfl⟩, ⟨by rw [List.drop_set_of_lt (by have := HI.out; omega)]; exact HD1.out⟩, HO5, HB5⟩
          case measure => simp [intOf]; have := HJJ.out; omega
        · have HC1 : Aside0 (∀ W' : World, Below base w0 W' → Calls Try.prog g (#[.agg #[.int .i64 x.f0, .string x.f1]] ++ lb) W' fun e w' => e = .returned (.bool true) ∧ Below W'.heap.size W' w') := ⟨fun W' hW => by have := HP.out x W' hW; rwa [hp] at this⟩
          have HTK1 : Aside0 ((xs.take (j + 1)).filter (fun x => !p x) = (xs.take j).filter (fun x => !p x)) := ⟨by rw [HTK, hp]; simp⟩
          clear hget hx hrd hp HTK hjc hC HD
          go_wp2_with (first
            | ((with_reducible refine gate_dst (N := 7) rfl ?_); refine box_event ?hg (N := 7) ?hd (cs := #[.int .i64 0, .string (⟨#[]⟩ : ByteArray)]) (t := 45) ?hr ?_; (case hd => rfl); (case hg => rfl); (case hr => first | (go_simp; done) | (go_simp; rfl)); intro gb hgb w38 hbox hb; have BK := Aside0.mk hbox; have HBr := Aside0.mk hb; have GE : Aside0 (wr.heap.size ≤ gb) := ⟨by rw [hgb]; exact Nat.le_refl _⟩; clear hgb hbox hb; have hcz0 : w38.cell? ⟨gb, 0, none⟩ = some (.int .i64 0) := (blk_cell BK.out 0).trans rfl; have hcz1 : w38.cell? ⟨gb, 1, none⟩ = some (.string (⟨#[]⟩ : ByteArray)) := (blk_cell BK.out 1).trans rfl; have hfz0 := blk_frozen BK.out 0; have hfz1 := blk_frozen BK.out 1)
            | (go_at_fn g; refine (HC1.out _ ?cb).mono ?_; (case cb => exact below_then HB.out hbr ((HBr.out.setCell GE.out _).setCell GE.out _)); rintro e w3 ⟨rfl, hb0⟩; have hb3 := Aside0.mk (below_then ((HBr.out.setCell (p := ⟨gb, 0, none⟩) GE.out (.int .i64 x.f0)).setCell (p := ⟨gb, 1, none⟩) GE.out (.string x.f1)) ((HBr.out.setCell (p := ⟨gb, 0, none⟩) GE.out (.int .i64 x.f0)).setCell (p := ⟨gb, 1, none⟩) GE.out (.string x.f1)).size hb0); clear hb0; have HO3 := Aside0.mk (Kd.R_below HO.out hb3.out); have HB3 := Aside0.mk (below_then HB.out hbr hb3.out)))
          go_roundw
          case rel => exact ⟨i, j + 1, cur, rfl, by go_num, ⟨by have := HI.out; omega⟩, ⟨HJJ.out⟩, HL, ⟨by rw [HTK1.out]; exact HT.out⟩, ⟨by rw [HTK1.out]; exact HN.out⟩, HD1, HO3, HB3⟩
          case measure => simp [intOf]; have := HJJ.out; omega
      · have hc : decide (j < xs.length) = false := decide_eq_false hlt
        obtain rfl : j = xs.length := by have := HJ.out; omega
        have hin : i < xs.length := HI.out
        have hfil : cur.take i = xs.filter (fun x => !p x) := by rw [HT.out, List.take_length]
        obtain ⟨w5, hclr, ho5, hg5⟩ := clear17 HO.out hin
        rw [hfil] at ho5
        have HO5 := Aside0.mk ho5
        have HB5 := Aside0.mk (HB.out.grown hg5 (Nat.le_trans hbase HB.out.size) (fun k hk => by injection hk with hk; subst hk; exact hg0))
        have hci : (c = i) = False := eq_false (by omega)
        have hic : i ≤ c := by omega
        have hil : (i : Int) ≤ (xs.length : Int) := by omega
        have hil2 : i ≤ xs.length := by omega
        clear ho5 hg5 hfil HD HT HN hlt HP
        go_wp2
        go_ret
        exact ⟨_, rfl, HO5.out, HB5.out⟩

end Go.Proofs.Ytikncbklhnaajaa.Pr
