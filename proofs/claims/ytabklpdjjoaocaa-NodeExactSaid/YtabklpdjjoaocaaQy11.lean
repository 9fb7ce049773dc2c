-- Laid by wip/xprint.py, a program of this session that runs the kit's print with some contracts given by hand; not a text of print.sh. Lean checks it.
import Derived.Test.YtabklpdjjoaocaaQy0
namespace Go.Proofs.Ytabklpdjjoaocaa.Qy
open Go.RowKit Go.Proofs.YtabklpdjjoaocaaW.PrintWords Go.Proofs.YtabklpdjjoaocaaW.PrintLast Go.Proofs.YtabklpdjjoaocaaW.PrintMore
attribute [local go_sem] max2_int min2_int max_two min_two max_three min_three max_four min_four   -- for this text's walks alone
set_option linter.unusedVariables false
set_option linter.unusedSimpArgs false

/-! ### switchboardref17_Right: function 22 -/
mutual
def switchboardref17_Right.j0 : Nat → Bool → Int → List (List Int) → Option (Bool)
 | 0, _, _, _ => none
 | k + 1, x19, x284000, x284001 => if x19 = true then (some false) else (switchboardref17_Right.l0 k 0 x284000 x284001)
def switchboardref17_Right.l0 : Nat → Int → Int → List (List Int) → Option (Bool)
 | 0, _, _, _ => none
 | k + 1, x3, x284000, x284001 => if x3 < (x284001.length : Int) then (if 0 ≤ x3 then (if ((rd_L1 x284001 x3).length : Int) = 0 then (some false) else (switchboardref17_Right.l1 k x3 (rd_L1 x284001 x3) 0 x284000 x284001)) else (none)) else (some true)
def switchboardref17_Right.l1 : Nat → Int → List Int → Int → Int → List (List Int) → Option (Bool)
 | 0, _, _, _, _, _ => none
 | k + 1, x3, x4, x5, x284000, x284001 => if x5 < (x4.length : Int) then (if 0 ≤ x5 then (if (rd x4 x5) < 1 then (some false) else (if (rd x4 x5) > 4 then (some false) else (if x5 > 0 then (if 0 ≤ (wrap64 (x5 - 1)) then (if (wrap64 (x5 - 1)) < (x4.length : Int) then (if (rd x4 x5) ≤ (rd x4 (wrap64 (x5 - 1))) then (some false) else (switchboardref17_Right.l1 k x3 x4 (wrap64 (x5 + 1)) x284000 x284001)) else (none)) else (none)) else (switchboardref17_Right.l1 k x3 x4 (wrap64 (x5 + 1)) x284000 x284001)))) else (none)) else (switchboardref17_Right.l0 k (wrap64 (x3 + 1)) x284000 x284001)
end
def switchboardref17_Right.f (k : Nat) (a0_0 : Int) (l0_1 : List (List Int)) : Option (Bool) := if a0_0 < 0 then (switchboardref17_Right.j0 k true a0_0 l0_1) else (if a0_0 > 2147483647 then (switchboardref17_Right.j0 k true a0_0 l0_1) else (switchboardref17_Right.j0 k (decide ((l0_1.length : Int) > 8)) a0_0 l0_1))
theorem switchboardref17_Right.mono_l : ∀ k, (∀ y0 y1 y2, LeO (switchboardref17_Right.j0 k y0 y1 y2) (switchboardref17_Right.j0 (k + 1) y0 y1 y2)) ∧ (∀ y0 y1 y2, LeO (switchboardref17_Right.l0 k y0 y1 y2) (switchboardref17_Right.l0 (k + 1) y0 y1 y2)) ∧ (∀ y0 y1 y2 y3 y4, LeO (switchboardref17_Right.l1 k y0 y1 y2 y3 y4) (switchboardref17_Right.l1 (k + 1) y0 y1 y2 y3 y4))
 | 0 => ⟨fun _ _ _ r h => by simp [switchboardref17_Right.j0] at h, fun _ _ _ r h => by simp [switchboardref17_Right.l0] at h, fun _ _ _ _ _ r h => by simp [switchboardref17_Right.l1] at h⟩
 | k + 1 => by
  obtain ⟨ih0, ih1, ih2⟩ := switchboardref17_Right.mono_l k
  refine ⟨?_, ?_, ?_⟩
  ·
   intro y0 y1 y2
   unfold switchboardref17_Right.j0
   repeat' first
   | (with_reducible exact ih0 _ _ _)
   | (with_reducible exact ih1 _ _ _)
   | (with_reducible exact ih2 _ _ _ _ _)
   | (with_reducible exact LeO.refl _)
   | (with_reducible exact LeO.none _)
   | (with_reducible refine LeO.ite ?_ ?_)
   | (with_reducible refine LeO.bind ?_ (fun _ => ?_))
   | exact ih0 _ _ _
   | exact ih1 _ _ _
   | exact ih2 _ _ _ _ _
   | exact LeO.none _
   | refine LeO.ite ?_ ?_
   | refine LeO.bind ?_ (fun _ => ?_)
  ·
   intro y0 y1 y2
   unfold switchboardref17_Right.l0
   repeat' first
   | (with_reducible exact ih0 _ _ _)
   | (with_reducible exact ih1 _ _ _)
   | (with_reducible exact ih2 _ _ _ _ _)
   | (with_reducible exact LeO.refl _)
   | (with_reducible exact LeO.none _)
   | (with_reducible refine LeO.ite ?_ ?_)
   | (with_reducible refine LeO.bind ?_ (fun _ => ?_))
   | exact ih0 _ _ _
   | exact ih1 _ _ _
   | exact ih2 _ _ _ _ _
   | exact LeO.none _
   | refine LeO.ite ?_ ?_
   | refine LeO.bind ?_ (fun _ => ?_)
  ·
   intro y0 y1 y2 y3 y4
   unfold switchboardref17_Right.l1
   repeat' first
   | (with_reducible exact ih0 _ _ _)
   | (with_reducible exact ih1 _ _ _)
   | (with_reducible exact ih2 _ _ _ _ _)
   | (with_reducible exact LeO.refl _)
   | (with_reducible exact LeO.none _)
   | (with_reducible refine LeO.ite ?_ ?_)
   | (with_reducible refine LeO.bind ?_ (fun _ => ?_))
   | exact ih0 _ _ _
   | exact ih1 _ _ _
   | exact ih2 _ _ _ _ _
   | exact LeO.none _
   | refine LeO.ite ?_ ?_
   | refine LeO.bind ?_ (fun _ => ?_)
theorem switchboardref17_Right.mono : ∀ a0 a1 k, LeO (switchboardref17_Right.f k a0 a1) (switchboardref17_Right.f (k + 1) a0 a1) := by
 intro a0 a1 k
 obtain ⟨ih0, ih1, ih2⟩ := switchboardref17_Right.mono_l k
 unfold switchboardref17_Right.f
 repeat' first
  | (with_reducible exact ih0 _ _ _)
  | (with_reducible exact ih1 _ _ _)
  | (with_reducible exact ih2 _ _ _ _ _)
  | (with_reducible exact LeO.refl _)
  | (with_reducible exact LeO.none _)
  | (with_reducible refine LeO.ite ?_ ?_)
  | (with_reducible refine LeO.bind ?_ (fun _ => ?_))
  | exact ih0 _ _ _
  | exact ih1 _ _ _
  | exact ih2 _ _ _ _ _
  | exact LeO.none _
  | refine LeO.ite ?_ ?_
  | refine LeO.bind ?_ (fun _ => ?_)
set_option maxHeartbeats 8000000 in
set_option maxRecDepth 100000 in
theorem switchboardref17_Right.calls (k : Nat) (a0_0 : Int) (A0_1 : Option Addr) (c0_1 : Nat) (l0_1 : List (List Int)) (r : Bool) (w : World) (hr0_1 : Kd.C (Kd.slice 3 (Kd.int .i64)) w A0_1 l0_1.length l0_1) (hc0_1 : l0_1.length ≤ c0_1) (h : switchboardref17_Right.f k a0_0 l0_1 = some r) :
 Calls Try.prog 22 #[.agg #[.int .i64 a0_0, .slice A0_1 l0_1.length c0_1]] w fun e w' => e = .returned (.bool r) ∧ Below w.heap.size w w' := by
 have hu45 := Try.underlying45; have HR0_1 := Aside0.mk hr0_1; have HC0_1 := Aside0.mk hc0_1; clear hr0_1 hc0_1
 have HB := Aside0.mk (Below.refl w.heap.size w)
 have H : (if a0_0 < 0 then (switchboardref17_Right.j0 k true a0_0 l0_1) else (if a0_0 > 2147483647 then (switchboardref17_Right.j0 k true a0_0 l0_1) else (switchboardref17_Right.j0 k (decide ((l0_1.length : Int) > 8)) a0_0 l0_1))) = some r := h
 clear h; have HC2 := Aside0.mk H; clear H
 go_enter Try.func22, Try.ntmps22
 go_upto_region 1 with (first | ((with_reducible refine gate_dst (N := 1) rfl ?_); (try (refine gate_guard (by rfl) ?_; dsimp only)); refine box_event ?hg (N := 1) ?hd (cs := #[.int .i64 a0_0, .slice A0_1 l0_1.length c0_1]) (t := 45) ?hr ?_; (case hd => rfl); (case hg => rfl); (case hr => first | (go_simp; done) | (go_simp; rfl)); intro gb283 hg w3 hbox hb; have n0_ := Aside0.mk (below_step (by repeat (first | (with_reducible first | exact HB.out | apply below_alloc | apply pw_below_drewN | apply below_drew1) | exact HB.out)) hb); have n1_ := Aside0.mk (hbox); have n2_ := Aside0.mk ((by rw [hg]; exact (below_size (by repeat (first | (with_reducible first | exact HB.out | apply below_alloc | apply pw_below_drewN | apply below_drew1) | exact HB.out))) : w.heap.size ≤ gb283)); have n3_ := Aside0.mk ((by rw [hg]; exact (below_size (by repeat (first | (with_reducible first | exact HB.out | apply below_alloc | apply pw_below_drewN | apply below_drew1) | exact HB.out))) : w.heap.size ≤ gb283)); clear HB; have HB := n0_; have BK283 := n1_; have GW283 := n2_; have GE283 := n3_; clear n0_ n1_ n2_ n3_; clear hb hbox hg))
 repeat (go_quiet (first | ((with_reducible refine gate_dst (N := 1) rfl ?_); (try (refine gate_guard (by rfl) ?_; dsimp only)); refine box_event ?hg (N := 1) ?hd (cs := #[.int .i64 a0_0, .slice A0_1 l0_1.length c0_1]) (t := 45) ?hr ?_; (case hd => rfl); (case hg => rfl); (case hr => first | (go_simp; done) | (go_simp; rfl)); intro gb283 hg w3 hbox hb; have n0_ := Aside0.mk (below_step (by repeat (first | (with_reducible first | exact HB.out | apply below_alloc | apply pw_below_drewN | apply below_drew1) | exact HB.out)) hb); have n1_ := Aside0.mk (hbox); have n2_ := Aside0.mk ((by rw [hg]; exact (below_size (by repeat (first | (with_reducible first | exact HB.out | apply below_alloc | apply pw_below_drewN | apply below_drew1) | exact HB.out))) : w.heap.size ≤ gb283)); have n3_ := Aside0.mk ((by rw [hg]; exact (below_size (by repeat (first | (with_reducible first | exact HB.out | apply below_alloc | apply pw_below_drewN | apply below_drew1) | exact HB.out))) : w.heap.size ≤ gb283)); clear HB; have HB := n0_; have BK283 := n1_; have GW283 := n2_; have GE283 := n3_; clear n0_ n1_ n2_ n3_; clear hb hbox hg)); go_upto_region 1 with (first | ((with_reducible refine gate_dst (N := 1) rfl ?_); (try (refine gate_guard (by rfl) ?_; dsimp only)); refine box_event ?hg (N := 1) ?hd (cs := #[.int .i64 a0_0, .slice A0_1 l0_1.length c0_1]) (t := 45) ?hr ?_; (case hd => rfl); (case hg => rfl); (case hr => first | (go_simp; done) | (go_simp; rfl)); intro gb283 hg w3 hbox hb; have n0_ := Aside0.mk (below_step (by repeat (first | (with_reducible first | exact HB.out | apply below_alloc | apply pw_below_drewN | apply below_drew1) | exact HB.out)) hb); have n1_ := Aside0.mk (hbox); have n2_ := Aside0.mk ((by rw [hg]; exact (below_size (by repeat (first | (with_reducible first | exact HB.out | apply below_alloc | apply pw_below_drewN | apply below_drew1) | exact HB.out))) : w.heap.size ≤ gb283)); have n3_ := Aside0.mk ((by rw [hg]; exact (below_size (by repeat (first | (with_reducible first | exact HB.out | apply below_alloc | apply pw_below_drewN | apply below_drew1) | exact HB.out))) : w.heap.size ≤ gb283)); clear HB; have HB := n0_; have BK283 := n1_; have GW283 := n2_; have GE283 := n3_; clear n0_ n1_ n2_ n3_; clear hb hbox hg)))
 (try simp only [Act.put, List.setIfInBounds_toArray, List.set_cons_zero, List.set_cons_succ])
 go_cut [19] (fun v19 wc => ∃ (kq : Nat) (x19_1 : Bool), v19 = .bool x19_1 ∧ Aside0 (switchboardref17_Right.j0 kq x19_1 a0_0 l0_1 = some r) ∧ Aside0 (kq ≤ k) ∧ Aside0 (wc.heap[gb283]? = some (.cells #[.int .i64 a0_0, (.slice A0_1 l0_1.length c0_1)] 45 (0, 0))) ∧ Aside0 (Below w.heap.size w wc))
 case first =>
  have H := HC2.out; clear HC2
  by_cases c4 : a0_0 < 0
  ·
   rw [if_pos c4] at H
   have c4b0 : decide (a0_0 < 0) = true := decide_eq_true c4
   clear c4
   (first | rw [c4b0] | (simp only [i64_w, i32_w]; rw [c4b0]) | skip)
   have H' := Aside0.mk H; clear H
   have hcz5_0 : w3.cell? ⟨gb283, 0, none⟩ = some (.int .i64 a0_0) := (blk_cell BK283.out 0).trans rfl
   have hcz5_1 : w3.cell? ⟨gb283, 1, none⟩ = some (.slice A0_1 l0_1.length c0_1) := (blk_cell BK283.out 1).trans rfl
   have hfz5_0 := blk_frozen BK283.out 0
   have hfz5_1 := blk_frozen BK283.out 1
   go_wp2
   repeat (go_quiet (fail); try go_wp2)
   go_meet
   case rel => exact ⟨_, (true), (by first | rfl | (simp; done) | (simp [*]; done)), H', ⟨by first | omega | exact Nat.le_refl _⟩, ⟨by (with_reducible repeat (first | refine blk_drewN ?_ _ | refine blk_drew ?_ | refine blk_alloc ?_ _)); exact BK283.out⟩, ⟨by repeat (first | (with_reducible first | exact HB.out | apply below_alloc | apply pw_below_drewN | apply below_drew1 | refine below_set ?_ GE283.out) | exact HB.out)⟩⟩
  ·
   rw [if_neg c4] at H
   have c4b0 : decide (a0_0 < 0) = false := decide_eq_false c4
   clear c4
   (first | rw [c4b0] | (simp only [i64_w, i32_w]; rw [c4b0]) | skip)
   by_cases c6 : a0_0 > 2147483647
   ·
    rw [if_pos c6] at H
    have c6b0 : decide (2147483647 < a0_0) = true := decide_eq_true c6
    clear c6; have H' := Aside0.mk H; clear H
    have hcz7_0 : w3.cell? ⟨gb283, 0, none⟩ = some (.int .i64 a0_0) := (blk_cell BK283.out 0).trans rfl
    have hcz7_1 : w3.cell? ⟨gb283, 1, none⟩ = some (.slice A0_1 l0_1.length c0_1) := (blk_cell BK283.out 1).trans rfl
    have hfz7_0 := blk_frozen BK283.out 0
    have hfz7_1 := blk_frozen BK283.out 1
    go_wp2
    repeat (go_quiet (fail); try go_wp2)
    go_meet
    case rel => exact ⟨_, (true), (by first | rfl | (simp; done) | (simp [*]; done)), H', ⟨by first | omega | exact Nat.le_refl _⟩, ⟨by (with_reducible repeat (first | refine blk_drewN ?_ _ | refine blk_drew ?_ | refine blk_alloc ?_ _)); exact BK283.out⟩, ⟨by repeat (first | (with_reducible first | exact HB.out | apply below_alloc | apply pw_below_drewN | apply below_drew1 | refine below_set ?_ GE283.out) | exact HB.out)⟩⟩
   ·
    rw [if_neg c6] at H
    have c6b0 : decide (2147483647 < a0_0) = false := decide_eq_false c6
    clear c6; have H' := Aside0.mk H; clear H
    have hcz8_0 : w3.cell? ⟨gb283, 0, none⟩ = some (.int .i64 a0_0) := (blk_cell BK283.out 0).trans rfl
    have hcz8_1 : w3.cell? ⟨gb283, 1, none⟩ = some (.slice A0_1 l0_1.length c0_1) := (blk_cell BK283.out 1).trans rfl
    have hfz8_0 := blk_frozen BK283.out 0
    have hfz8_1 := blk_frozen BK283.out 1
    go_wp2
    repeat (go_quiet (fail); try go_wp2)
    go_meet
    case rel => exact ⟨_, (decide ((l0_1.length : Int) > 8)), (by first | rfl | (simp; done) | (simp [*]; done)), H', ⟨by first | omega | exact Nat.le_refl _⟩, ⟨by (with_reducible repeat (first | refine blk_drewN ?_ _ | refine blk_drew ?_ | refine blk_alloc ?_ _)); exact BK283.out⟩, ⟨by repeat (first | (with_reducible first | exact HB.out | apply below_alloc | apply pw_below_drewN | apply below_drew1 | refine below_set ?_ GE283.out) | exact HB.out)⟩⟩
 case rest =>
  clear HC2; try clear c2; try clear p2; try clear c4; try clear c4b0; try clear c6; try clear c6b0; try clear hcz5_0; try clear hcz5_1; try clear hcz7_0; try clear hcz7_1; try clear hcz8_0; try clear hcz8_1; try clear hfz5_0; try clear hfz5_1; try clear hfz7_0; try clear hfz7_1; try clear hfz8_0; try clear hfz8_1
  obtain ⟨kq, x19_1, rfl, HA, HJ1, BK283, HB⟩ := hcut
  cases kq with
  | zero => exact absurd HA.out (by simp [switchboardref17_Right.j0])
  | succ kj1 =>
   have H := HA.out; clear HA
   simp only [switchboardref17_Right.j0] at H
   by_cases c9 : x19_1 = true
   ·
    subst c9
    have H1 : (some false) = some r := by rw [if_pos rfl] at H; exact H
    clear H; have H := H1; clear H1
    obtain rfl := Option.some.inj H
    go_wp2
    repeat (go_quiet (fail); try go_wp2)
    go_ret
    exact ⟨by first | rfl | (simp [errW_none, errW_some] <;> rfl) | (simp [*, errW_none, errW_some] <;> rfl), by repeat (first | (with_reducible first | exact HB.out | apply below_alloc | apply pw_below_drewN | apply below_drew1 | refine below_set ?_ GE283.out) | exact HB.out)⟩
   ·
    replace c9 := Bool.eq_false_iff.mpr c9
    subst c9
    have H1 : (switchboardref17_Right.l0 kj1 0 a0_0 l0_1) = some r := by rw [if_neg (show ¬ (false = true) by decide)] at H; exact H
    clear H; have H := H1; clear H1; have H' := Aside0.mk H; clear H
    go_wp2
    repeat (go_quiet (fail); try go_wp2)
    go_loopg [3] kj1 (fun kq v3 w' => ∃ (x3_2 : Int), v3 = .int .i64 x3_2 ∧ Aside0 (switchboardref17_Right.l0 kq x3_2 a0_0 l0_1 = some r) ∧ Aside0 (kq ≤ kj1) ∧ Aside0 (w'.heap[gb283]? = some (.cells #[.int .i64 a0_0, (.slice A0_1 l0_1.length c0_1)] 45 (0, 0))) ∧ Aside0 (Below w.heap.size w w'))
    case atStart => exact ⟨(0), (by first | rfl | (simp; done) | (simp [*]; done)), H', ⟨Nat.le_refl _⟩, ⟨by (with_reducible repeat (first | refine blk_drewN ?_ _ | refine blk_drew ?_ | refine blk_alloc ?_ _)); exact BK283.out⟩, ⟨by repeat (first | (with_reducible first | exact HB.out | apply below_alloc | apply pw_below_drewN | apply below_drew1 | refine below_set ?_ GE283.out) | exact HB.out)⟩⟩
    case round =>
     clear H'; try clear c2; try clear p2; try clear c4; try clear c4b0; try clear c6; try clear c6b0; try clear c9; try clear hcz5_0; try clear hcz5_1; try clear hcz7_0; try clear hcz7_1; try clear hcz8_0; try clear hcz8_1; try clear hfz5_0; try clear hfz5_1; try clear hfz7_0; try clear hfz7_1; try clear hfz8_0; try clear hfz8_1; try clear p2
     obtain ⟨x3_2, rfl, HA, HK2, BK283, HB⟩ := hrel
     cases gk with
     | zero => exact absurd HA.out (by simp [switchboardref17_Right.l0])
     | succ k2 =>
      have H := HA.out; clear HA
      simp only [switchboardref17_Right.l0] at H
      by_cases c10 : x3_2 < (l0_1.length : Int)
      ·
       rw [if_pos c10] at H
       have c10b0 : decide (x3_2 < (l0_1.length : Int)) = true := decide_eq_true c10
       clear c10
       by_cases c11 : 0 ≤ x3_2
       ·
        rw [if_pos c11] at H
        have c11b0 : decide (0 ≤ x3_2) = true := decide_eq_true c11
        clear c11
        by_cases c12 : ((rd_L1 l0_1 x3_2).length : Int) = 0
        ·
         rw [if_pos c12] at H
         have c12b0 : (((rd_L1 l0_1 x3_2).length : Int) == 0) = true := beq_iff_eq.mpr c12
         have c12b1 : (((rd_L1 l0_1 x3_2).length : Int) != 0) = false := bne_eq_false_iff_eq.mpr c12
         clear c12
         obtain rfl := Option.some.inj H
         have hcz13_0 : wr.cell? ⟨gb283, 0, none⟩ = some (.int .i64 a0_0) := (blk_cell BK283.out 0).trans rfl
         have hcz13_1 : wr.cell? ⟨gb283, 1, none⟩ = some (.slice A0_1 l0_1.length c0_1) := (blk_cell BK283.out 1).trans rfl
         have hfz13_0 := blk_frozen BK283.out 0
         have hfz13_1 := blk_frozen BK283.out 1
         have p284 : 0 ≤ (x3_2 : Int) := of_decide_eq_true (by first | (with_reducible assumption) | assumption)
         have q284 : x3_2 < (l0_1.length : Int) := of_decide_eq_true (by first | (with_reducible assumption) | assumption)
         obtain ⟨ad284, A284_0, c284_0, e284, hx284_0, hl284_0, hi284_0⟩ := at_L1 HR0_1.out x3_2 p284 q284
         cases e284
         replace hx284_0 := (HB.out.cell (World.block_lt_of_cell? w _ hx284_0)).trans hx284_0
         have HR284_0 := Aside0.mk hi284_0; have HC284_0 := Aside0.mk hl284_0; clear hi284_0 hl284_0; replace p284 := eq_true p284; replace q284 := eq_true q284
         go_wp2
         repeat (go_quiet (fail); try go_wp2)
         go_ret
         exact ⟨by first | rfl | (simp [errW_none, errW_some] <;> rfl) | (simp [*, errW_none, errW_some] <;> rfl), by repeat (first | (with_reducible first | exact HB.out | apply below_alloc | apply pw_below_drewN | apply below_drew1 | refine below_set ?_ GE283.out) | exact HB.out)⟩
        ·
         rw [if_neg c12] at H
         have c12b0 : (((rd_L1 l0_1 x3_2).length : Int) == 0) = false := beq_eq_false_iff_ne.mpr c12
         have c12b1 : (((rd_L1 l0_1 x3_2).length : Int) != 0) = true := bne_iff_ne.mpr c12
         have c12b2 : ¬ ((rd_L1 l0_1 x3_2) = []) := fun h_ => c12 (by rw [h_]; rfl)
         have H' := Aside0.mk H; clear H
         have hcz14_0 : wr.cell? ⟨gb283, 0, none⟩ = some (.int .i64 a0_0) := (blk_cell BK283.out 0).trans rfl
         have hcz14_1 : wr.cell? ⟨gb283, 1, none⟩ = some (.slice A0_1 l0_1.length c0_1) := (blk_cell BK283.out 1).trans rfl
         have hfz14_0 := blk_frozen BK283.out 0
         have hfz14_1 := blk_frozen BK283.out 1
         have p284 : 0 ≤ (x3_2 : Int) := of_decide_eq_true (by first | (with_reducible assumption) | assumption)
         have q284 : x3_2 < (l0_1.length : Int) := of_decide_eq_true (by first | (with_reducible assumption) | assumption)
         obtain ⟨ad284, A284_0, c284_0, e284, hx284_0, hl284_0, hi284_0⟩ := at_L1 HR0_1.out x3_2 p284 q284
         cases e284
         replace hx284_0 := (HB.out.cell (World.block_lt_of_cell? w _ hx284_0)).trans hx284_0
         have HR284_0 := Aside0.mk hi284_0; have HC284_0 := Aside0.mk hl284_0; clear hi284_0 hl284_0; replace p284 := eq_true p284; replace q284 := eq_true q284
         go_wp2
         repeat (go_quiet (fail); try go_wp2)
         go_loopg [5] k2 (fun kq v5 w' => ∃ (x5_3 : Int), v5 = .int .i64 x5_3 ∧ Aside0 (switchboardref17_Right.l1 kq x3_2 (rd_L1 l0_1 x3_2) x5_3 a0_0 l0_1 = some r) ∧ Aside0 (kq ≤ k2) ∧ Aside0 (w'.heap[gb283]? = some (.cells #[.int .i64 a0_0, (.slice (some ad284) l0_1.length c0_1)] 45 (0, 0))) ∧ Aside0 (Below w.heap.size w w'))
         case atStart => exact ⟨(0), (by first | rfl | (simp; done) | (simp [*]; done)), H', ⟨Nat.le_refl _⟩, ⟨by (with_reducible repeat (first | refine blk_drewN ?_ _ | refine blk_drew ?_ | refine blk_alloc ?_ _)); exact BK283.out⟩, ⟨by repeat (first | (with_reducible first | exact HB.out | apply below_alloc | apply pw_below_drewN | apply below_drew1 | refine below_set ?_ GE283.out) | exact HB.out)⟩⟩
         case round =>
          clear H'; try clear c1; try clear c2; try clear p2; try clear q2; try clear hx2; try clear c4; try clear c4b0; try clear c6; try clear c6b0; try clear c9; try clear c10; try clear c10b0; try clear c11; try clear c11b0; try clear c12; try clear c12b0; try clear c12b1; try clear c12b2; try clear hcz13_0; try clear hcz13_1; try clear hcz14_0; try clear hcz14_1; try clear hcz5_0; try clear hcz5_1; try clear hcz7_0; try clear hcz7_1; try clear hcz8_0; try clear hcz8_1; try clear hfz13_0; try clear hfz13_1; try clear hfz14_0; try clear hfz14_1; try clear hfz5_0; try clear hfz5_1; try clear hfz7_0; try clear hfz7_1; try clear hfz8_0; try clear hfz8_1; try clear hx284_0; try clear p2; try clear p284; try clear q284
          obtain ⟨x5_3, rfl, HA, HK3, BK283, HB⟩ := hrel
          cases gk with
          | zero => exact absurd HA.out (by simp [switchboardref17_Right.l1])
          | succ k3 =>
           have H := HA.out; clear HA
           simp only [switchboardref17_Right.l1] at H
           by_cases c15 : x5_3 < ((rd_L1 l0_1 x3_2).length : Int)
           ·
            rw [if_pos c15] at H
            have c15b0 : decide (x5_3 < ((rd_L1 l0_1 x3_2).length : Int)) = true := decide_eq_true c15
            clear c15
            by_cases c16 : 0 ≤ x5_3
            ·
             rw [if_pos c16] at H
             have c16b0 : decide (0 ≤ x5_3) = true := decide_eq_true c16
             clear c16
             by_cases c17 : (rd (rd_L1 l0_1 x3_2) x5_3) < 1
             ·
              rw [if_pos c17] at H
              have c17b0 : decide ((rd (rd_L1 l0_1 x3_2) x5_3) < 1) = true := decide_eq_true c17
              clear c17
              obtain rfl := Option.some.inj H
              have p285 : 0 ≤ (x5_3 : Int) := of_decide_eq_true (by first | (with_reducible assumption) | assumption)
              have q285 : x5_3 < ((rd_L1 l0_1 x3_2).length : Int) := of_decide_eq_true (by first | (with_reducible assumption) | assumption)
              obtain ⟨ad285, e285, hx285_0⟩ := Kd.at_int HR284_0.out x5_3 p285 q285
              cases e285
              replace hx285_0 := (HB.out.cell (World.block_lt_of_cell? w _ hx285_0)).trans hx285_0
              replace p285 := eq_true p285; replace q285 := eq_true q285
              go_wp2
              repeat (go_quiet (fail); try go_wp2)
              go_ret
              exact ⟨by first | rfl | (simp [errW_none, errW_some] <;> rfl) | (simp [*, errW_none, errW_some] <;> rfl), by repeat (first | (with_reducible first | exact HB.out | apply below_alloc | apply pw_below_drewN | apply below_drew1 | refine below_set ?_ GE283.out) | exact HB.out)⟩
             ·
              rw [if_neg c17] at H
              have c17b0 : decide ((rd (rd_L1 l0_1 x3_2) x5_3) < 1) = false := decide_eq_false c17
              clear c17
              by_cases c18 : (rd (rd_L1 l0_1 x3_2) x5_3) > 4
              ·
               rw [if_pos c18] at H
               have c18b0 : decide (4 < (rd (rd_L1 l0_1 x3_2) x5_3)) = true := decide_eq_true c18
               clear c18
               obtain rfl := Option.some.inj H
               have p285 : 0 ≤ (x5_3 : Int) := of_decide_eq_true (by first | (with_reducible assumption) | assumption)
               have q285 : x5_3 < ((rd_L1 l0_1 x3_2).length : Int) := of_decide_eq_true (by first | (with_reducible assumption) | assumption)
               obtain ⟨ad285, e285, hx285_0⟩ := Kd.at_int HR284_0.out x5_3 p285 q285
               cases e285
               replace hx285_0 := (HB.out.cell (World.block_lt_of_cell? w _ hx285_0)).trans hx285_0
               replace p285 := eq_true p285; replace q285 := eq_true q285
               have p286 : 0 ≤ (x5_3 : Int) := of_decide_eq_true (by first | (with_reducible assumption) | assumption)
               have q286 : x5_3 < ((rd_L1 l0_1 x3_2).length : Int) := of_decide_eq_true (by first | (with_reducible assumption) | assumption)
               obtain ⟨ad286, e286, hx286_0⟩ := Kd.at_int HR284_0.out x5_3 p286 q286
               obtain rfl : ad285 = ad286 := (by injection e286)
               replace hx286_0 := (HB.out.cell (World.block_lt_of_cell? w _ hx286_0)).trans hx286_0
               replace p286 := eq_true p286; replace q286 := eq_true q286
               go_wp2
               repeat (go_quiet (fail); try go_wp2)
               go_ret
               exact ⟨by first | rfl | (simp [errW_none, errW_some] <;> rfl) | (simp [*, errW_none, errW_some] <;> rfl), by repeat (first | (with_reducible first | exact HB.out | apply below_alloc | apply pw_below_drewN | apply below_drew1 | refine below_set ?_ GE283.out) | exact HB.out)⟩
              ·
               rw [if_neg c18] at H
               have c18b0 : decide (4 < (rd (rd_L1 l0_1 x3_2) x5_3)) = false := decide_eq_false c18
               clear c18
               by_cases c19 : x5_3 > 0
               ·
                rw [if_pos c19] at H
                have c19b0 : decide (0 < x5_3) = true := decide_eq_true c19
                clear c19
                obtain ⟨ji20, hji20⟩ : ∃ j_ : Int, (wrap64 (x5_3 - 1)) = j_ := ⟨_, rfl⟩
                replace H : (if 0 ≤ (ji20) then (if (ji20) < ((rd_L1 l0_1 x3_2).length : Int) then (if (rd (rd_L1 l0_1 x3_2) x5_3) ≤ (rd (rd_L1 l0_1 x3_2) (ji20)) then (some false) else (switchboardref17_Right.l1 k3 x3_2 (rd_L1 l0_1 x3_2) (wrap64 (x5_3 + 1)) a0_0 l0_1)) else (none)) else (none)) = some r := by first | (rw [hji20] at H; exact H) | (simp only [hji20] at H ⊢; exact H)
                have hji20w : (IntKind.i64.wrap (x5_3 - 1)) = ji20 := (i64_w _).trans hji20
                by_cases c21 : 0 ≤ (ji20)
                ·
                 rw [if_pos c21] at H
                 have c21b0 : decide (0 ≤ (ji20)) = true := decide_eq_true c21
                 clear c21
                 by_cases c22 : (ji20) < ((rd_L1 l0_1 x3_2).length : Int)
                 ·
                  rw [if_pos c22] at H
                  have c22b0 : decide ((ji20) < ((rd_L1 l0_1 x3_2).length : Int)) = true := decide_eq_true c22
                  clear c22
                  by_cases c23 : (rd (rd_L1 l0_1 x3_2) x5_3) ≤ (rd (rd_L1 l0_1 x3_2) (ji20))
                  ·
                   rw [if_pos c23] at H
                   have c23b0 : decide ((rd (rd_L1 l0_1 x3_2) x5_3) ≤ (rd (rd_L1 l0_1 x3_2) (ji20))) = true := decide_eq_true c23
                   clear c23
                   obtain rfl := Option.some.inj H
                   have p285 : 0 ≤ (x5_3 : Int) := of_decide_eq_true (by first | (with_reducible assumption) | assumption)
                   have q285 : x5_3 < ((rd_L1 l0_1 x3_2).length : Int) := of_decide_eq_true (by first | (with_reducible assumption) | assumption)
                   obtain ⟨ad285, e285, hx285_0⟩ := Kd.at_int HR284_0.out x5_3 p285 q285
                   cases e285
                   replace hx285_0 := (HB.out.cell (World.block_lt_of_cell? w _ hx285_0)).trans hx285_0
                   replace p285 := eq_true p285; replace q285 := eq_true q285
                   have p286 : 0 ≤ (x5_3 : Int) := of_decide_eq_true (by first | (with_reducible assumption) | assumption)
                   have q286 : x5_3 < ((rd_L1 l0_1 x3_2).length : Int) := of_decide_eq_true (by first | (with_reducible assumption) | assumption)
                   obtain ⟨ad286, e286, hx286_0⟩ := Kd.at_int HR284_0.out x5_3 p286 q286
                   obtain rfl : ad285 = ad286 := (by injection e286)
                   replace hx286_0 := (HB.out.cell (World.block_lt_of_cell? w _ hx286_0)).trans hx286_0
                   replace p286 := eq_true p286; replace q286 := eq_true q286
                   have p287 : 0 ≤ (x5_3 : Int) := of_decide_eq_true (by first | (with_reducible assumption) | assumption)
                   have q287 : x5_3 < ((rd_L1 l0_1 x3_2).length : Int) := of_decide_eq_true (by first | (with_reducible assumption) | assumption)
                   obtain ⟨ad287, e287, hx287_0⟩ := Kd.at_int HR284_0.out x5_3 p287 q287
                   obtain rfl : ad285 = ad287 := (by injection e287)
                   replace hx287_0 := (HB.out.cell (World.block_lt_of_cell? w _ hx287_0)).trans hx287_0
                   replace p287 := eq_true p287; replace q287 := eq_true q287
                   have p288 : 0 ≤ ((ji20) : Int) := of_decide_eq_true (by first | (with_reducible assumption) | assumption)
                   have q288 : (ji20) < ((rd_L1 l0_1 x3_2).length : Int) := of_decide_eq_true (by first | (with_reducible assumption) | assumption)
                   obtain ⟨ad288, e288, hx288_0⟩ := Kd.at_int HR284_0.out (ji20) p288 q288
                   obtain rfl : ad285 = ad288 := (by injection e288)
                   replace hx288_0 := (HB.out.cell (World.block_lt_of_cell? w _ hx288_0)).trans hx288_0
                   replace p288 := eq_true p288; replace q288 := eq_true q288
                   go_wp2
                   repeat (go_quiet (fail); try go_wp2)
                   go_ret
                   exact ⟨by first | rfl | (simp [errW_none, errW_some] <;> rfl) | (simp only [← hji20]; first | rfl | (simp [errW_none, errW_some] <;> rfl)) | (simp [*, errW_none, errW_some] <;> rfl), by repeat (first | (with_reducible first | exact HB.out | apply below_alloc | apply pw_below_drewN | apply below_drew1 | refine below_set ?_ GE283.out) | exact HB.out)⟩
                  ·
                   rw [if_neg c23] at H
                   have c23b0 : decide ((rd (rd_L1 l0_1 x3_2) x5_3) ≤ (rd (rd_L1 l0_1 x3_2) (ji20))) = false := decide_eq_false c23
                   clear c23; have H' := Aside0.mk H; clear H
                   have p285 : 0 ≤ (x5_3 : Int) := of_decide_eq_true (by first | (with_reducible assumption) | assumption)
                   have q285 : x5_3 < ((rd_L1 l0_1 x3_2).length : Int) := of_decide_eq_true (by first | (with_reducible assumption) | assumption)
                   obtain ⟨ad285, e285, hx285_0⟩ := Kd.at_int HR284_0.out x5_3 p285 q285
                   cases e285
                   replace hx285_0 := (HB.out.cell (World.block_lt_of_cell? w _ hx285_0)).trans hx285_0
                   replace p285 := eq_true p285; replace q285 := eq_true q285
                   have p286 : 0 ≤ (x5_3 : Int) := of_decide_eq_true (by first | (with_reducible assumption) | assumption)
                   have q286 : x5_3 < ((rd_L1 l0_1 x3_2).length : Int) := of_decide_eq_true (by first | (with_reducible assumption) | assumption)
                   obtain ⟨ad286, e286, hx286_0⟩ := Kd.at_int HR284_0.out x5_3 p286 q286
                   obtain rfl : ad285 = ad286 := (by injection e286)
                   replace hx286_0 := (HB.out.cell (World.block_lt_of_cell? w _ hx286_0)).trans hx286_0
                   replace p286 := eq_true p286; replace q286 := eq_true q286
                   have p287 : 0 ≤ (x5_3 : Int) := of_decide_eq_true (by first | (with_reducible assumption) | assumption)
                   have q287 : x5_3 < ((rd_L1 l0_1 x3_2).length : Int) := of_decide_eq_true (by first | (with_reducible assumption) | assumption)
                   obtain ⟨ad287, e287, hx287_0⟩ := Kd.at_int HR284_0.out x5_3 p287 q287
                   obtain rfl : ad285 = ad287 := (by injection e287)
                   replace hx287_0 := (HB.out.cell (World.block_lt_of_cell? w _ hx287_0)).trans hx287_0
                   replace p287 := eq_true p287; replace q287 := eq_true q287
                   have p288 : 0 ≤ ((ji20) : Int) := of_decide_eq_true (by first | (with_reducible assumption) | assumption)
                   have q288 : (ji20) < ((rd_L1 l0_1 x3_2).length : Int) := of_decide_eq_true (by first | (with_reducible assumption) | assumption)
                   obtain ⟨ad288, e288, hx288_0⟩ := Kd.at_int HR284_0.out (ji20) p288 q288
                   obtain rfl : ad285 = ad288 := (by injection e288)
                   replace hx288_0 := (HB.out.cell (World.block_lt_of_cell? w _ hx288_0)).trans hx288_0
                   replace p288 := eq_true p288; replace q288 := eq_true q288
                   go_wp2
                   repeat (go_quiet (fail); try go_wp2)
                   go_roundg k3
                   case measure => have := HJ1.out; have := HK2.out; have := HK3.out; omega
                   case rel => exact ⟨(wrap64 (x5_3 + 1)), (by first | rfl | (simp; done) | (simp [*]; done)), H', ⟨by have := HJ1.out; have := HK2.out; have := HK3.out; omega⟩, ⟨by (with_reducible repeat (first | refine blk_drewN ?_ _ | refine blk_drew ?_ | refine blk_alloc ?_ _)); exact BK283.out⟩, ⟨by repeat (first | (with_reducible first | exact HB.out | apply below_alloc | apply pw_below_drewN | apply below_drew1 | refine below_set ?_ GE283.out) | exact HB.out)⟩⟩
                 ·
                  rw [if_neg c22] at H
                  exact absurd H (by simp)
                ·
                 rw [if_neg c21] at H
                 exact absurd H (by simp)
               ·
                rw [if_neg c19] at H
                have c19b0 : decide (0 < x5_3) = false := decide_eq_false c19
                clear c19; have H' := Aside0.mk H; clear H
                have p285 : 0 ≤ (x5_3 : Int) := of_decide_eq_true (by first | (with_reducible assumption) | assumption)
                have q285 : x5_3 < ((rd_L1 l0_1 x3_2).length : Int) := of_decide_eq_true (by first | (with_reducible assumption) | assumption)
                obtain ⟨ad285, e285, hx285_0⟩ := Kd.at_int HR284_0.out x5_3 p285 q285
                cases e285
                replace hx285_0 := (HB.out.cell (World.block_lt_of_cell? w _ hx285_0)).trans hx285_0
                replace p285 := eq_true p285; replace q285 := eq_true q285
                have p286 : 0 ≤ (x5_3 : Int) := of_decide_eq_true (by first | (with_reducible assumption) | assumption)
                have q286 : x5_3 < ((rd_L1 l0_1 x3_2).length : Int) := of_decide_eq_true (by first | (with_reducible assumption) | assumption)
                obtain ⟨ad286, e286, hx286_0⟩ := Kd.at_int HR284_0.out x5_3 p286 q286
                obtain rfl : ad285 = ad286 := (by injection e286)
                replace hx286_0 := (HB.out.cell (World.block_lt_of_cell? w _ hx286_0)).trans hx286_0
                replace p286 := eq_true p286; replace q286 := eq_true q286
                go_wp2
                repeat (go_quiet (fail); try go_wp2)
                go_roundg k3
                case measure => have := HJ1.out; have := HK2.out; have := HK3.out; omega
                case rel => exact ⟨(wrap64 (x5_3 + 1)), (by first | rfl | (simp; done) | (simp [*]; done)), H', ⟨by have := HJ1.out; have := HK2.out; have := HK3.out; omega⟩, ⟨by (with_reducible repeat (first | refine blk_drewN ?_ _ | refine blk_drew ?_ | refine blk_alloc ?_ _)); exact BK283.out⟩, ⟨by repeat (first | (with_reducible first | exact HB.out | apply below_alloc | apply pw_below_drewN | apply below_drew1 | refine below_set ?_ GE283.out) | exact HB.out)⟩⟩
            ·
             rw [if_neg c16] at H
             exact absurd H (by simp)
           ·
            rw [if_neg c15] at H
            have c15b0 : decide (x5_3 < ((rd_L1 l0_1 x3_2).length : Int)) = false := decide_eq_false c15
            clear c15; have H' := Aside0.mk H; clear H
            go_wp2
            repeat (go_quiet (fail); try go_wp2)
            go_roundg k3
            case measure => have := HJ1.out; have := HK2.out; have := HK3.out; omega
            case rel => exact ⟨(wrap64 (x3_2 + 1)), (by first | rfl | (simp; done) | (simp [*]; done)), H', ⟨by have := HJ1.out; have := HK2.out; have := HK3.out; omega⟩, ⟨by (with_reducible repeat (first | refine blk_drewN ?_ _ | refine blk_drew ?_ | refine blk_alloc ?_ _)); exact BK283.out⟩, ⟨by repeat (first | (with_reducible first | exact HB.out | apply below_alloc | apply pw_below_drewN | apply below_drew1 | refine below_set ?_ GE283.out) | exact HB.out)⟩⟩
       ·
        rw [if_neg c11] at H
        exact absurd H (by simp)
      ·
       rw [if_neg c10] at H
       have c10b0 : decide (x3_2 < (l0_1.length : Int)) = false := decide_eq_false c10
       clear c10
       obtain rfl := Option.some.inj H
       have hcz24_0 : wr.cell? ⟨gb283, 0, none⟩ = some (.int .i64 a0_0) := (blk_cell BK283.out 0).trans rfl
       have hcz24_1 : wr.cell? ⟨gb283, 1, none⟩ = some (.slice A0_1 l0_1.length c0_1) := (blk_cell BK283.out 1).trans rfl
       have hfz24_0 := blk_frozen BK283.out 0
       have hfz24_1 := blk_frozen BK283.out 1
       go_wp2
       repeat (go_quiet (fail); try go_wp2)
       go_ret
       exact ⟨by first | rfl | (simp [errW_none, errW_some] <;> rfl) | (simp [*, errW_none, errW_some] <;> rfl), by repeat (first | (with_reducible first | exact HB.out | apply below_alloc | apply pw_below_drewN | apply below_drew1 | refine below_set ?_ GE283.out) | exact HB.out)⟩

/-! ### switchboardref07_List: function 25 -/
def switchboardref07_List.f (a0_0 : Int) (a0_1 : Int) (a0_2 : Int) (a0_3 : Int) (a0_4 : Int) (a0_5 : Int) (a0_6 : Int) (a0_7 : Int) (a0_8 : Int) (a0_9 : Int) (l0_10 : List Int) : Option (List Int) := (some (([a0_0, a0_1, a0_2, a0_3, a0_4, a0_5, a0_6, a0_7, a0_8, a0_9, (l0_10.length : Int)] : List Int) : List Int)).bind fun y290 => (if y290.length + l0_10.length < 17592186044416 then (some (y290 ++ l0_10)) else (none))
set_option maxHeartbeats 8000000 in
set_option maxRecDepth 100000 in
theorem switchboardref07_List.calls (a0_0 : Int) (a0_1 : Int) (a0_2 : Int) (a0_3 : Int) (a0_4 : Int) (a0_5 : Int) (a0_6 : Int) (a0_7 : Int) (a0_8 : Int) (a0_9 : Int) (A0_10 : Option Addr) (c0_10 : Nat) (l0_10 : List Int) (r : List Int) (w : World) (hr0_10 : Kd.C (Kd.int .i64) w A0_10 l0_10.length l0_10) (hc0_10 : l0_10.length ≤ c0_10) (h : switchboardref07_List.f a0_0 a0_1 a0_2 a0_3 a0_4 a0_5 a0_6 a0_7 a0_8 a0_9 l0_10 = some r) :
 Calls Try.prog 25 #[.agg #[.int .i64 a0_0, .int .i64 a0_1, .int .i64 a0_2, .int .i64 a0_3, .int .i64 a0_4, .int .i64 a0_5, .int .i64 a0_6, .int .i64 a0_7, .int .i64 a0_8, .int .i64 a0_9, .slice A0_10 l0_10.length c0_10]] w fun e w' => ∃ v0_ : Value, e = .returned (v0_) ∧ Kd.R (Kd.int .i64) 3 w' w.heap.size (fun _ => True) v0_ r ∧ Below w.heap.size w w' := by
 have hu31 := Try.underlying31; have HR0_10 := Aside0.mk hr0_10; have HC0_10 := Aside0.mk hc0_10; clear hr0_10 hc0_10
 have HB := Aside0.mk (Below.refl w.heap.size w)
 have H : ((some (([a0_0, a0_1, a0_2, a0_3, a0_4, a0_5, a0_6, a0_7, a0_8, a0_9, (l0_10.length : Int)] : List Int) : List Int)).bind fun y290 => (if y290.length + l0_10.length < 17592186044416 then (some (y290 ++ l0_10)) else (none))) = some r := h
 clear h
 obtain ⟨y290, hy290⟩ : ∃ y_ : List Int, y_ = (([a0_0, a0_1, a0_2, a0_3, a0_4, a0_5, a0_6, a0_7, a0_8, a0_9, (l0_10.length : Int)] : List Int)) := ⟨_, rfl⟩
 replace H : (if y290.length + l0_10.length < 17592186044416 then (some (y290 ++ l0_10)) else (none)) = some r := by first | (rw [hy290]; with_reducible exact H) | (have H2_ := (Option.bind_some _ _).symm.trans H; rw [hy290]; with_reducible exact H2_) | (have H2_ := (Option.bind_some _ _).symm.trans H; with_reducible exact H2_) | with_reducible exact H | (rw [hy290]; exact H) | exact H
 have Ny290 := Aside0.mk hy290; clear hy290
 by_cases c2 : y290.length + l0_10.length < 17592186044416
 ·
  rw [if_pos c2] at H
  have LMc2 := Aside0.mk c2; clear c2
  obtain ⟨y293, hy293⟩ : ∃ y_ : List Int, y_ = (y290 ++ l0_10) := ⟨_, rfl⟩
  replace H : (some y293) = some r := by first | (rw [hy293]; with_reducible exact H) | (have H2_ := (Option.bind_some _ _).symm.trans H; rw [hy293]; with_reducible exact H2_) | (have H2_ := (Option.bind_some _ _).symm.trans H; with_reducible exact H2_) | with_reducible exact H | (rw [hy293]; exact H) | exact H
  have Ny293 := Aside0.mk hy293; clear hy293
  obtain rfl := Option.some.inj H
  go_enter Try.func25, Try.ntmps25
  go_wp2_with (first | ((with_reducible refine gate_dst (N := 1) rfl ?_); refine box_event ?hg (N := 1) ?hd (cs := #[.int .i64 a0_0, .int .i64 a0_1, .int .i64 a0_2, .int .i64 a0_3, .int .i64 a0_4, .int .i64 a0_5, .int .i64 a0_6, .int .i64 a0_7, .int .i64 a0_8, .int .i64 a0_9, .slice A0_10 l0_10.length c0_10]) (t := 31) ?hr ?_; (case hd => rfl); (case hg => rfl); (case hr => first | (go_simp; done) | (go_simp; rfl)); intro gb289 hg w3 hbox hb; have n0_ := Aside0.mk (below_step (by repeat (first | (with_reducible first | exact HB.out | apply below_alloc | apply pw_below_drewN | apply below_drew1) | exact HB.out)) hb); have n1_ := Aside0.mk (hbox); have n2_ := Aside0.mk ((by rw [hg]; exact (below_size (by repeat (first | (with_reducible first | exact HB.out | apply below_alloc | apply pw_below_drewN | apply below_drew1) | exact HB.out))) : w.heap.size ≤ gb289)); have n3_ := Aside0.mk ((by rw [hg]; exact (below_size (by repeat (first | (with_reducible first | exact HB.out | apply below_alloc | apply pw_below_drewN | apply below_drew1) | exact HB.out))) : w.heap.size ≤ gb289)); clear HB; have HB := n0_; have BK289 := n1_; have GW289 := n2_; have GE289 := n3_; clear n0_ n1_ n2_ n3_; clear hb hbox hg; have hcz4_0 : w3.cell? ⟨gb289, 0, none⟩ = some (.int .i64 a0_0) := (blk_cell BK289.out 0).trans rfl; have hcz4_1 : w3.cell? ⟨gb289, 1, none⟩ = some (.int .i64 a0_1) := (blk_cell BK289.out 1).trans rfl; have hcz4_2 : w3.cell? ⟨gb289, 2, none⟩ = some (.int .i64 a0_2) := (blk_cell BK289.out 2).trans rfl; have hcz4_3 : w3.cell? ⟨gb289, 3, none⟩ = some (.int .i64 a0_3) := (blk_cell BK289.out 3).trans rfl; have hcz4_4 : w3.cell? ⟨gb289, 4, none⟩ = some (.int .i64 a0_4) := (blk_cell BK289.out 4).trans rfl; have hcz4_5 : w3.cell? ⟨gb289, 5, none⟩ = some (.int .i64 a0_5) := (blk_cell BK289.out 5).trans rfl; have hcz4_6 : w3.cell? ⟨gb289, 6, none⟩ = some (.int .i64 a0_6) := (blk_cell BK289.out 6).trans rfl; have hcz4_7 : w3.cell? ⟨gb289, 7, none⟩ = some (.int .i64 a0_7) := (blk_cell BK289.out 7).trans rfl; have hcz4_8 : w3.cell? ⟨gb289, 8, none⟩ = some (.int .i64 a0_8) := (blk_cell BK289.out 8).trans rfl; have hcz4_9 : w3.cell? ⟨gb289, 9, none⟩ = some (.int .i64 a0_9) := (blk_cell BK289.out 9).trans rfl; have hcz4_10 : w3.cell? ⟨gb289, 10, none⟩ = some (.slice A0_10 l0_10.length c0_10) := (blk_cell BK289.out 10).trans rfl; have hfz4_0 := blk_frozen BK289.out 0; have hfz4_1 := blk_frozen BK289.out 1; have hfz4_2 := blk_frozen BK289.out 2; have hfz4_3 := blk_frozen BK289.out 3; have hfz4_4 := blk_frozen BK289.out 4; have hfz4_5 := blk_frozen BK289.out 5; have hfz4_6 := blk_frozen BK289.out 6; have hfz4_7 := blk_frozen BK289.out 7; have hfz4_8 := blk_frozen BK289.out 8; have hfz4_9 := blk_frozen BK289.out 9; have hfz4_10 := blk_frozen BK289.out 10) | ((with_reducible refine gate_dst (N := 27) rfl ?_); refine Kd.R_lit (Kd.int .i64) _ 3 ?hg (N := 27) ?hd (xs := ([a0_0, a0_1, a0_2, a0_3, a0_4, a0_5, a0_6, a0_7, a0_8, a0_9, (l0_10.length : Int)] : List Int)) (inner := [.int .i64 a0_0, .int .i64 a0_1, .int .i64 a0_2, .int .i64 a0_3, .int .i64 a0_4, .int .i64 a0_5, .int .i64 a0_6, .int .i64 a0_7, .int .i64 a0_8, .int .i64 a0_9, .int .i64 (l0_10.length : Int)]) (ok := fun _ => True) (okp := fun _ => True) ?hr ?hp (fun _ hk => hk) trivial (Below.refl _ _) (Nat.le_refl _) (by simp) ?_; (case hd => rfl); (case hg => rfl); (case hr => first | (go_simp; done) | (go_simp; rfl)); (case hp => exact (Reps.one (show Kd.M (Kd.int .i64) _ _ _ a0_0 [.int .i64 a0_0] from rfl) (Reps.one (show Kd.M (Kd.int .i64) _ _ _ a0_1 [.int .i64 a0_1] from rfl) (Reps.one (show Kd.M (Kd.int .i64) _ _ _ a0_2 [.int .i64 a0_2] from rfl) (Reps.one (show Kd.M (Kd.int .i64) _ _ _ a0_3 [.int .i64 a0_3] from rfl) (Reps.one (show Kd.M (Kd.int .i64) _ _ _ a0_4 [.int .i64 a0_4] from rfl) (Reps.one (show Kd.M (Kd.int .i64) _ _ _ a0_5 [.int .i64 a0_5] from rfl) (Reps.one (show Kd.M (Kd.int .i64) _ _ _ a0_6 [.int .i64 a0_6] from rfl) (Reps.one (show Kd.M (Kd.int .i64) _ _ _ a0_7 [.int .i64 a0_7] from rfl) (Reps.one (show Kd.M (Kd.int .i64) _ _ _ a0_8 [.int .i64 a0_8] from rfl) (Reps.one (show Kd.M (Kd.int .i64) _ _ _ a0_9 [.int .i64 a0_9] from rfl) (Reps.one (show Kd.M (Kd.int .i64) _ _ _ (l0_10.length : Int) [.int .i64 (l0_10.length : Int)] from rfl) (Reps.none _ _))))))))))))); intro v291 w5 ho6 hb hg_ hnew_; clear hg_ hnew_; (first | rw [← Ny290.out] at ho6 | (simp only [Int.reduceToNat] at ho6; rw [← Ny290.out] at ho6)); have n0_ := Aside0.mk (Kd.R_lower ho6 (below_size (by repeat (first | (with_reducible first | exact HB.out | apply below_alloc | apply pw_below_drewN | apply below_drew1 | refine below_set ?_ GE289.out) | exact HB.out)))); have n1_ := Aside0.mk (blk_below (g := gb289) (o := .cells #[.int .i64 a0_0, .int .i64 a0_1, .int .i64 a0_2, .int .i64 a0_3, .int .i64 a0_4, .int .i64 a0_5, .int .i64 a0_6, .int .i64 a0_7, .int .i64 a0_8, .int .i64 a0_9, .slice A0_10 l0_10.length c0_10] 31 (0, 0)) (by (with_reducible repeat (first | refine blk_drewN ?_ _ | refine blk_drew ?_ | refine blk_alloc ?_ _)); exact BK289.out) hb); have n2_ := Aside0.mk (below_step (by repeat (first | (with_reducible first | exact HB.out | apply below_alloc | apply pw_below_drewN | apply below_drew1 | refine below_set ?_ GE289.out) | exact HB.out)) hb); clear BK289; clear HB; have HO292 := n0_; have BK289 := n1_; have HB := n2_; clear n0_ n1_ n2_; clear hb ho6; have hcz7_0 : w5.cell? ⟨gb289, 0, none⟩ = some (.int .i64 a0_0) := (blk_cell BK289.out 0).trans rfl; have hcz7_1 : w5.cell? ⟨gb289, 1, none⟩ = some (.int .i64 a0_1) := (blk_cell BK289.out 1).trans rfl; have hcz7_2 : w5.cell? ⟨gb289, 2, none⟩ = some (.int .i64 a0_2) := (blk_cell BK289.out 2).trans rfl; have hcz7_3 : w5.cell? ⟨gb289, 3, none⟩ = some (.int .i64 a0_3) := (blk_cell BK289.out 3).trans rfl; have hcz7_4 : w5.cell? ⟨gb289, 4, none⟩ = some (.int .i64 a0_4) := (blk_cell BK289.out 4).trans rfl; have hcz7_5 : w5.cell? ⟨gb289, 5, none⟩ = some (.int .i64 a0_5) := (blk_cell BK289.out 5).trans rfl; have hcz7_6 : w5.cell? ⟨gb289, 6, none⟩ = some (.int .i64 a0_6) := (blk_cell BK289.out 6).trans rfl; have hcz7_7 : w5.cell? ⟨gb289, 7, none⟩ = some (.int .i64 a0_7) := (blk_cell BK289.out 7).trans rfl; have hcz7_8 : w5.cell? ⟨gb289, 8, none⟩ = some (.int .i64 a0_8) := (blk_cell BK289.out 8).trans rfl; have hcz7_9 : w5.cell? ⟨gb289, 9, none⟩ = some (.int .i64 a0_9) := (blk_cell BK289.out 9).trans rfl; have hcz7_10 : w5.cell? ⟨gb289, 10, none⟩ = some (.slice A0_10 l0_10.length c0_10) := (blk_cell BK289.out 10).trans rfl; have hfz7_0 := blk_frozen BK289.out 0; have hfz7_1 := blk_frozen BK289.out 1; have hfz7_2 := blk_frozen BK289.out 2; have hfz7_3 := blk_frozen BK289.out 3; have hfz7_4 := blk_frozen BK289.out 4; have hfz7_5 := blk_frozen BK289.out 5; have hfz7_6 := blk_frozen BK289.out 6; have hfz7_7 := blk_frozen BK289.out 7; have hfz7_8 := blk_frozen BK289.out 8; have hfz7_9 := blk_frozen BK289.out 9; have hfz7_10 := blk_frozen BK289.out 10) | ((with_reducible refine gate_builtin (b := .append) (xs := #[.tmp 28, .tmp 30]) rfl ?_); at_builtin; refine Kd.R_append_rows (Kd.int .i64) (w0 := w) w.heap.size rfl (.tmp 28) (.tmp 30) 29 3 (.int .i64 0) 8 rfl Try.underlying29 info3 rfl (by decide) (by omega) v291 y290 l0_10 _ _ _ (fun _ => True) (fun _ => False) rfl rfl ?aO ?aR (fun _ _ h => h) (fun _ h => h.elim) ?aF ?aB ?aS ?aL ?_; (case aR => repeat (first | exact (Kd.C_below HR0_10.out HB.out) | (with_reducible refine Kd.C_alloc ?_ _) | (with_reducible refine Kd.C_drewN ?_ _) | (with_reducible refine Kd.C_drew ?_))); (case aB => exact (by repeat (first | (with_reducible first | exact HB.out | apply below_alloc | apply pw_below_drewN | apply below_drew1 | refine below_set ?_ GE289.out) | exact HB.out))); (case aF => exact (fun _ _ => trivial)); (case aO => exact (by (with_reducible repeat (first | apply Kd.R_alloc | apply Kd.R_drewN | apply Kd.R_drew)); exact HO292.out)); (case aS => exact (below_size (by repeat (first | (with_reducible first | exact HB.out | apply below_alloc | apply pw_below_drewN | apply below_drew1 | refine below_set ?_ GE289.out) | exact HB.out)))); (case aL => have := LMc2.out; omega); intro v294 w8 ho hb hg hat; rw [← Ny293.out] at ho; have n0_ := Aside0.mk (blk_grown (g := gb289) (o := .cells #[.int .i64 a0_0, .int .i64 a0_1, .int .i64 a0_2, .int .i64 a0_3, .int .i64 a0_4, .int .i64 a0_5, .int .i64 a0_6, .int .i64 a0_7, .int .i64 a0_8, .int .i64 a0_9, .slice A0_10 l0_10.length c0_10] 31 (0, 0)) (by (with_reducible repeat (first | refine blk_drewN ?_ _ | refine blk_drew ?_ | refine blk_alloc ?_ _)); exact BK289.out) hg (Kd.R_ne HO292.out BK289.out (by decide))); have n1_ := Aside0.mk (hb); have n2_ := Aside0.mk (ho); clear BK289; clear HB; clear HO292; have BK289 := n0_; have HB := n1_; have HO295 := n2_; clear n0_ n1_ n2_; clear ho hb hg hat))
  go_ret
  exact ⟨_, by first | rfl | (simp [errW_none, errW_some] <;> rfl) | (simp [*, errW_none, errW_some] <;> rfl), by (with_reducible repeat (first | apply Kd.R_alloc | apply Kd.R_drewN | apply Kd.R_drew)); exact HO295.out, by repeat (first | (with_reducible first | exact HB.out | apply below_alloc | apply pw_below_drewN | apply below_drew1 | refine below_set ?_ GE289.out) | exact HB.out)⟩
 ·
  rw [if_neg c2] at H
  exact absurd H (by simp)

/-! ### switchboardref07_Right: function 23 -/
def switchboardref07_Right.l0 : Nat → List Int → Int → Int → Int → Int → Int → Int → Int → Int → Int → Int → Int → List Int → Option (Bool)
 | 0, _, _, _, _, _, _, _, _, _, _, _, _, _ => none
 | k + 1, x3, x4, x297000, x297001, x297002, x297003, x297004, x297005, x297006, x297007, x297008, x297009, x297010 => if x4 < (x3.length : Int) then (if 0 ≤ x4 then (if (rd x3 x4) > 2147483647 then (some false) else (if (rd x3 x4) < (-2147483648) then (some false) else (if x4 < 11 then (if (rd x3 x4) < 0 then (some false) else (switchboardref07_Right.l0 k x3 (wrap64 (x4 + 1)) x297000 x297001 x297002 x297003 x297004 x297005 x297006 x297007 x297008 x297009 x297010)) else (switchboardref07_Right.l0 k x3 (wrap64 (x4 + 1)) x297000 x297001 x297002 x297003 x297004 x297005 x297006 x297007 x297008 x297009 x297010)))) else (none)) else (if x297000 > 0 then (if x297000 < 5 then (some (decide ((x297010.length : Int) < 9))) else (some false)) else (some false))
def switchboardref07_Right.f (k : Nat) (a0_0 : Int) (a0_1 : Int) (a0_2 : Int) (a0_3 : Int) (a0_4 : Int) (a0_5 : Int) (a0_6 : Int) (a0_7 : Int) (a0_8 : Int) (a0_9 : Int) (l0_10 : List Int) : Option (Bool) := (switchboardref07_List.f a0_0 a0_1 a0_2 a0_3 a0_4 a0_5 a0_6 a0_7 a0_8 a0_9 l0_10).bind fun t297 => (switchboardref07_Right.l0 k t297 0 a0_0 a0_1 a0_2 a0_3 a0_4 a0_5 a0_6 a0_7 a0_8 a0_9 l0_10)
theorem switchboardref07_Right.mono_l : ∀ k, (∀ y0 y1 y2 y3 y4 y5 y6 y7 y8 y9 y10 y11 y12, LeO (switchboardref07_Right.l0 k y0 y1 y2 y3 y4 y5 y6 y7 y8 y9 y10 y11 y12) (switchboardref07_Right.l0 (k + 1) y0 y1 y2 y3 y4 y5 y6 y7 y8 y9 y10 y11 y12))
 | 0 => fun _ _ _ _ _ _ _ _ _ _ _ _ _ r h => by simp [switchboardref07_Right.l0] at h
 | k + 1 => by
  have ih0 := switchboardref07_Right.mono_l k
  ·
   intro y0 y1 y2 y3 y4 y5 y6 y7 y8 y9 y10 y11 y12
   unfold switchboardref07_Right.l0
   repeat' first
   | (with_reducible exact ih0 _ _ _ _ _ _ _ _ _ _ _ _ _)
   | (with_reducible exact LeO.refl _)
   | (with_reducible exact LeO.none _)
   | (with_reducible refine LeO.ite ?_ ?_)
   | (with_reducible refine LeO.bind ?_ (fun _ => ?_))
   | exact ih0 _ _ _ _ _ _ _ _ _ _ _ _ _
   | exact LeO.none _
   | refine LeO.ite ?_ ?_
   | refine LeO.bind ?_ (fun _ => ?_)
theorem switchboardref07_Right.mono : ∀ a0 a1 a2 a3 a4 a5 a6 a7 a8 a9 a10 k, LeO (switchboardref07_Right.f k a0 a1 a2 a3 a4 a5 a6 a7 a8 a9 a10) (switchboardref07_Right.f (k + 1) a0 a1 a2 a3 a4 a5 a6 a7 a8 a9 a10) := by
 intro a0 a1 a2 a3 a4 a5 a6 a7 a8 a9 a10 k
 have ih0 := switchboardref07_Right.mono_l k
 unfold switchboardref07_Right.f
 repeat' first
  | (with_reducible exact ih0 _ _ _ _ _ _ _ _ _ _ _ _ _)
  | (with_reducible exact LeO.refl _)
  | (with_reducible exact LeO.none _)
  | (with_reducible refine LeO.ite ?_ ?_)
  | (with_reducible refine LeO.bind ?_ (fun _ => ?_))
  | exact ih0 _ _ _ _ _ _ _ _ _ _ _ _ _
  | exact LeO.none _
  | refine LeO.ite ?_ ?_
  | refine LeO.bind ?_ (fun _ => ?_)
set_option maxHeartbeats 8000000 in
set_option maxRecDepth 100000 in
theorem switchboardref07_Right.calls (k : Nat) (a0_0 : Int) (a0_1 : Int) (a0_2 : Int) (a0_3 : Int) (a0_4 : Int) (a0_5 : Int) (a0_6 : Int) (a0_7 : Int) (a0_8 : Int) (a0_9 : Int) (A0_10 : Option Addr) (c0_10 : Nat) (l0_10 : List Int) (r : Bool) (w : World) (hr0_10 : Kd.C (Kd.int .i64) w A0_10 l0_10.length l0_10) (hc0_10 : l0_10.length ≤ c0_10) (h : switchboardref07_Right.f k a0_0 a0_1 a0_2 a0_3 a0_4 a0_5 a0_6 a0_7 a0_8 a0_9 l0_10 = some r) :
 Calls Try.prog 23 #[.agg #[.int .i64 a0_0, .int .i64 a0_1, .int .i64 a0_2, .int .i64 a0_3, .int .i64 a0_4, .int .i64 a0_5, .int .i64 a0_6, .int .i64 a0_7, .int .i64 a0_8, .int .i64 a0_9, .slice A0_10 l0_10.length c0_10]] w fun e w' => e = .returned (.bool r) ∧ Below w.heap.size w w' := by
 have hu31 := Try.underlying31; have HR0_10 := Aside0.mk hr0_10; have HC0_10 := Aside0.mk hc0_10; clear hr0_10 hc0_10
 have HB := Aside0.mk (Below.refl w.heap.size w)
 have H : ((switchboardref07_List.f a0_0 a0_1 a0_2 a0_3 a0_4 a0_5 a0_6 a0_7 a0_8 a0_9 l0_10).bind fun t297 => (switchboardref07_Right.l0 k t297 0 a0_0 a0_1 a0_2 a0_3 a0_4 a0_5 a0_6 a0_7 a0_8 a0_9 l0_10)) = some r := h
 clear h; replace H := Option.bind_eq_some_iff.mp H; obtain ⟨t297, A20, H⟩ := H
 replace H : (switchboardref07_Right.l0 k t297 0 a0_0 a0_1 a0_2 a0_3 a0_4 a0_5 a0_6 a0_7 a0_8 a0_9 l0_10) = some r := H
 have A2 := Aside0.mk A20; clear A20; have H' := Aside0.mk H; clear H
 go_enter Try.func23, Try.ntmps23
 go_wp2_with (first | ((with_reducible refine gate_dst (N := 1) rfl ?_); (try (refine gate_guard (by rfl) ?_; dsimp only)); refine box_event ?hg (N := 1) ?hd (cs := #[.int .i64 a0_0, .int .i64 a0_1, .int .i64 a0_2, .int .i64 a0_3, .int .i64 a0_4, .int .i64 a0_5, .int .i64 a0_6, .int .i64 a0_7, .int .i64 a0_8, .int .i64 a0_9, .slice A0_10 l0_10.length c0_10]) (t := 31) ?hr ?_; (case hd => rfl); (case hg => rfl); (case hr => first | (go_simp; done) | (go_simp; rfl)); intro gb296 hg w3 hbox hb; have n0_ := Aside0.mk (below_step (by repeat (first | (with_reducible first | exact HB.out | apply below_alloc | apply pw_below_drewN | apply below_drew1) | exact HB.out)) hb); have n1_ := Aside0.mk (hbox); have n2_ := Aside0.mk ((by rw [hg]; exact (below_size (by repeat (first | (with_reducible first | exact HB.out | apply below_alloc | apply pw_below_drewN | apply below_drew1) | exact HB.out))) : w.heap.size ≤ gb296)); have n3_ := Aside0.mk ((by rw [hg]; exact (below_size (by repeat (first | (with_reducible first | exact HB.out | apply below_alloc | apply pw_below_drewN | apply below_drew1) | exact HB.out))) : w.heap.size ≤ gb296)); clear HB; have HB := n0_; have BK296 := n1_; have GW296 := n2_; have GE296 := n3_; clear n0_ n1_ n2_ n3_; clear hb hbox hg; have hcz4_0 : w3.cell? ⟨gb296, 0, none⟩ = some (.int .i64 a0_0) := (blk_cell BK296.out 0).trans rfl; have hcz4_1 : w3.cell? ⟨gb296, 1, none⟩ = some (.int .i64 a0_1) := (blk_cell BK296.out 1).trans rfl; have hcz4_2 : w3.cell? ⟨gb296, 2, none⟩ = some (.int .i64 a0_2) := (blk_cell BK296.out 2).trans rfl; have hcz4_3 : w3.cell? ⟨gb296, 3, none⟩ = some (.int .i64 a0_3) := (blk_cell BK296.out 3).trans rfl; have hcz4_4 : w3.cell? ⟨gb296, 4, none⟩ = some (.int .i64 a0_4) := (blk_cell BK296.out 4).trans rfl; have hcz4_5 : w3.cell? ⟨gb296, 5, none⟩ = some (.int .i64 a0_5) := (blk_cell BK296.out 5).trans rfl; have hcz4_6 : w3.cell? ⟨gb296, 6, none⟩ = some (.int .i64 a0_6) := (blk_cell BK296.out 6).trans rfl; have hcz4_7 : w3.cell? ⟨gb296, 7, none⟩ = some (.int .i64 a0_7) := (blk_cell BK296.out 7).trans rfl; have hcz4_8 : w3.cell? ⟨gb296, 8, none⟩ = some (.int .i64 a0_8) := (blk_cell BK296.out 8).trans rfl; have hcz4_9 : w3.cell? ⟨gb296, 9, none⟩ = some (.int .i64 a0_9) := (blk_cell BK296.out 9).trans rfl; have hcz4_10 : w3.cell? ⟨gb296, 10, none⟩ = some (.slice A0_10 l0_10.length c0_10) := (blk_cell BK296.out 10).trans rfl; have hfz4_0 := blk_frozen BK296.out 0; have hfz4_1 := blk_frozen BK296.out 1; have hfz4_2 := blk_frozen BK296.out 2; have hfz4_3 := blk_frozen BK296.out 3; have hfz4_4 := blk_frozen BK296.out 4; have hfz4_5 := blk_frozen BK296.out 5; have hfz4_6 := blk_frozen BK296.out 6; have hfz4_7 := blk_frozen BK296.out 7; have hfz4_8 := blk_frozen BK296.out 8; have hfz4_9 := blk_frozen BK296.out 9; have hfz4_10 := blk_frozen BK296.out 10) | ((with_reducible refine gate_callee (f := 25) rfl ?_); refine goesL_ (some 6) rfl rfl Try.func25 (by kernel_rfl) rfl #[.agg #[.int .i64 a0_0, .int .i64 a0_1, .int .i64 a0_2, .int .i64 a0_3, .int .i64 a0_4, .int .i64 a0_5, .int .i64 a0_6, .int .i64 a0_7, .int .i64 a0_8, .int .i64 a0_9, .slice A0_10 l0_10.length c0_10]] rfl (by (try simp only [List.map_toArray, List.map_cons, List.map_nil]); first | done | rfl | (simp only [List.length_drop, List.length_take]; rfl)) ?_; (with_reducible refine (switchboardref07_List.calls a0_0 a0_1 a0_2 a0_3 a0_4 a0_5 a0_6 a0_7 a0_8 a0_9 _ _ l0_10 t297 _ ?side1 ?side2 A2.out).mono ?_); (case side1 => repeat (first | exact (Kd.C_below HR0_10.out HB.out) | (with_reducible refine Kd.C_alloc ?_ _) | (with_reducible refine Kd.C_drewN ?_ _) | (with_reducible refine Kd.C_drew ?_))); (case side2 => exact HC0_10.out); rintro e w5 ⟨v298, rfl, ho0, hb⟩; refine ⟨_, rfl, ?_⟩; have n0_ := Aside0.mk (Kd.R_lower ho0 (below_size (by repeat (first | (with_reducible first | exact HB.out | apply below_alloc | apply pw_below_drewN | apply below_drew1 | refine below_set ?_ GE296.out) | exact HB.out)))); have n1_ := Aside0.mk (blk_below (g := gb296) (o := .cells #[.int .i64 a0_0, .int .i64 a0_1, .int .i64 a0_2, .int .i64 a0_3, .int .i64 a0_4, .int .i64 a0_5, .int .i64 a0_6, .int .i64 a0_7, .int .i64 a0_8, .int .i64 a0_9, .slice A0_10 l0_10.length c0_10] 31 (0, 0)) (by (with_reducible repeat (first | refine blk_drewN ?_ _ | refine blk_drew ?_ | refine blk_alloc ?_ _)); exact BK296.out) hb); have n2_ := Aside0.mk (below_step (by repeat (first | (with_reducible first | exact HB.out | apply below_alloc | apply pw_below_drewN | apply below_drew1 | refine below_set ?_ GE296.out) | exact HB.out)) hb); clear BK296; clear HB; have HO299 := n0_; have BK296 := n1_; have HB := n2_; clear n0_ n1_ n2_; (try clear hb); (try clear hb2); (try clear hk); (try clear hi); (try clear ho0)))
 go_loopg [4] k (fun kq v4 w' => ∃ (x4_1 : Int), v4 = .int .i64 x4_1 ∧ Aside0 (switchboardref07_Right.l0 kq t297 x4_1 a0_0 a0_1 a0_2 a0_3 a0_4 a0_5 a0_6 a0_7 a0_8 a0_9 l0_10 = some r) ∧ Aside0 (kq ≤ k) ∧ Aside0 (Kd.R (Kd.int .i64) 3 w' w.heap.size (fun _ => True) v298 t297) ∧ Aside0 (w'.heap[gb296]? = some (.cells #[.int .i64 a0_0, .int .i64 a0_1, .int .i64 a0_2, .int .i64 a0_3, .int .i64 a0_4, .int .i64 a0_5, .int .i64 a0_6, .int .i64 a0_7, .int .i64 a0_8, .int .i64 a0_9, (.slice A0_10 l0_10.length c0_10)] 31 (0, 0))) ∧ Aside0 (Below w.heap.size w w'))
 case atStart => exact ⟨(0), (by first | rfl | (simp; done) | (simp [*]; done)), H', ⟨Nat.le_refl _⟩, ⟨by (with_reducible repeat (first | apply Kd.R_alloc | apply Kd.R_drewN | apply Kd.R_drew)); exact HO299.out⟩, ⟨by (with_reducible repeat (first | refine blk_drewN ?_ _ | refine blk_drew ?_ | refine blk_alloc ?_ _)); exact BK296.out⟩, ⟨by repeat (first | (with_reducible first | exact HB.out | apply below_alloc | apply pw_below_drewN | apply below_drew1 | refine below_set ?_ GE296.out) | exact HB.out)⟩⟩
 case round =>
  clear H'; try clear c2; try clear p2; try clear hcz4_0; try clear hcz4_1; try clear hcz4_10; try clear hcz4_2; try clear hcz4_3; try clear hcz4_4; try clear hcz4_5; try clear hcz4_6; try clear hcz4_7; try clear hcz4_8; try clear hcz4_9; try clear hfz4_0; try clear hfz4_1; try clear hfz4_10; try clear hfz4_2; try clear hfz4_3; try clear hfz4_4; try clear hfz4_5; try clear hfz4_6; try clear hfz4_7; try clear hfz4_8; try clear hfz4_9
  obtain ⟨x4_1, rfl, HA, HK1, HO_3, BK296, HB⟩ := hrel
  cases gk with
  | zero => exact absurd HA.out (by simp [switchboardref07_Right.l0])
  | succ k1 =>
   have H := HA.out; clear HA
   simp only [switchboardref07_Right.l0] at H
   by_cases c6 : x4_1 < (t297.length : Int)
   ·
    rw [if_pos c6] at H
    have c6b0 : decide (x4_1 < (t297.length : Int)) = true := decide_eq_true c6
    clear c6
    by_cases c7 : 0 ≤ x4_1
    ·
     rw [if_pos c7] at H
     have c7b0 : decide (0 ≤ x4_1) = true := decide_eq_true c7
     clear c7
     by_cases c8 : (rd t297 x4_1) > 2147483647
     ·
      rw [if_pos c8] at H
      have c8b0 : decide (2147483647 < (rd t297 x4_1)) = true := decide_eq_true c8
      clear c8
      obtain rfl := Option.some.inj H
      obtain ⟨Ao9, co9, eo9⟩ := Kd.R_slice HO_3.out
      subst eo9
      have p300 : 0 ≤ (x4_1 : Int) := of_decide_eq_true (by first | (with_reducible assumption) | assumption)
      have q300 : x4_1 < (t297.length : Int) := of_decide_eq_true (by first | (with_reducible assumption) | assumption)
      obtain ⟨ad300, e300, hx300_0⟩ := Kd.at_int (Kd.R_reads' HO_3.out).2.2 x4_1 p300 q300
      cases e300; replace p300 := eq_true p300; replace q300 := eq_true q300
      go_wp2
      go_ret
      exact ⟨by first | rfl | (simp [errW_none, errW_some] <;> rfl) | (simp [*, errW_none, errW_some] <;> rfl), by repeat (first | (with_reducible first | exact HB.out | apply below_alloc | apply pw_below_drewN | apply below_drew1 | refine below_set ?_ GE296.out) | exact HB.out)⟩
     ·
      rw [if_neg c8] at H
      have c8b0 : decide (2147483647 < (rd t297 x4_1)) = false := decide_eq_false c8
      clear c8
      by_cases c10 : (rd t297 x4_1) < (-2147483648)
      ·
       rw [if_pos c10] at H
       have c10b0 : decide ((rd t297 x4_1) < (-2147483648)) = true := decide_eq_true c10
       clear c10
       obtain rfl := Option.some.inj H
       obtain ⟨Ao11, co11, eo11⟩ := Kd.R_slice HO_3.out
       subst eo11
       have p300 : 0 ≤ (x4_1 : Int) := of_decide_eq_true (by first | (with_reducible assumption) | assumption)
       have q300 : x4_1 < (t297.length : Int) := of_decide_eq_true (by first | (with_reducible assumption) | assumption)
       obtain ⟨ad300, e300, hx300_0⟩ := Kd.at_int (Kd.R_reads' HO_3.out).2.2 x4_1 p300 q300
       cases e300; replace p300 := eq_true p300; replace q300 := eq_true q300
       have p301 : 0 ≤ (x4_1 : Int) := of_decide_eq_true (by first | (with_reducible assumption) | assumption)
       have q301 : x4_1 < (t297.length : Int) := of_decide_eq_true (by first | (with_reducible assumption) | assumption)
       obtain ⟨ad301, e301, hx301_0⟩ := Kd.at_int (Kd.R_reads' HO_3.out).2.2 x4_1 p301 q301
       obtain rfl : ad300 = ad301 := (by injection e301)
       replace p301 := eq_true p301; replace q301 := eq_true q301
       go_wp2
       go_ret
       exact ⟨by first | rfl | (simp [errW_none, errW_some] <;> rfl) | (simp [*, errW_none, errW_some] <;> rfl), by repeat (first | (with_reducible first | exact HB.out | apply below_alloc | apply pw_below_drewN | apply below_drew1 | refine below_set ?_ GE296.out) | exact HB.out)⟩
      ·
       rw [if_neg c10] at H
       have c10b0 : decide ((rd t297 x4_1) < (-2147483648)) = false := decide_eq_false c10
       clear c10
       by_cases c12 : x4_1 < 11
       ·
        rw [if_pos c12] at H
        have c12b0 : decide (x4_1 < 11) = true := decide_eq_true c12
        clear c12
        by_cases c13 : (rd t297 x4_1) < 0
        ·
         rw [if_pos c13] at H
         have c13b0 : decide ((rd t297 x4_1) < 0) = true := decide_eq_true c13
         clear c13
         obtain rfl := Option.some.inj H
         obtain ⟨Ao14, co14, eo14⟩ := Kd.R_slice HO_3.out
         subst eo14
         have p300 : 0 ≤ (x4_1 : Int) := of_decide_eq_true (by first | (with_reducible assumption) | assumption)
         have q300 : x4_1 < (t297.length : Int) := of_decide_eq_true (by first | (with_reducible assumption) | assumption)
         obtain ⟨ad300, e300, hx300_0⟩ := Kd.at_int (Kd.R_reads' HO_3.out).2.2 x4_1 p300 q300
         cases e300; replace p300 := eq_true p300; replace q300 := eq_true q300
         have p301 : 0 ≤ (x4_1 : Int) := of_decide_eq_true (by first | (with_reducible assumption) | assumption)
         have q301 : x4_1 < (t297.length : Int) := of_decide_eq_true (by first | (with_reducible assumption) | assumption)
         obtain ⟨ad301, e301, hx301_0⟩ := Kd.at_int (Kd.R_reads' HO_3.out).2.2 x4_1 p301 q301
         obtain rfl : ad300 = ad301 := (by injection e301)
         replace p301 := eq_true p301; replace q301 := eq_true q301
         have p302 : 0 ≤ (x4_1 : Int) := of_decide_eq_true (by first | (with_reducible assumption) | assumption)
         have q302 : x4_1 < (t297.length : Int) := of_decide_eq_true (by first | (with_reducible assumption) | assumption)
         obtain ⟨ad302, e302, hx302_0⟩ := Kd.at_int (Kd.R_reads' HO_3.out).2.2 x4_1 p302 q302
         obtain rfl : ad300 = ad302 := (by injection e302)
         replace p302 := eq_true p302; replace q302 := eq_true q302
         go_wp2
         go_ret
         exact ⟨by first | rfl | (simp [errW_none, errW_some] <;> rfl) | (simp [*, errW_none, errW_some] <;> rfl), by repeat (first | (with_reducible first | exact HB.out | apply below_alloc | apply pw_below_drewN | apply below_drew1 | refine below_set ?_ GE296.out) | exact HB.out)⟩
        ·
         rw [if_neg c13] at H
         have c13b0 : decide ((rd t297 x4_1) < 0) = false := decide_eq_false c13
         clear c13; have H' := Aside0.mk H; clear H
         obtain ⟨Ao15, co15, eo15⟩ := Kd.R_slice HO_3.out
         subst eo15
         have p300 : 0 ≤ (x4_1 : Int) := of_decide_eq_true (by first | (with_reducible assumption) | assumption)
         have q300 : x4_1 < (t297.length : Int) := of_decide_eq_true (by first | (with_reducible assumption) | assumption)
         obtain ⟨ad300, e300, hx300_0⟩ := Kd.at_int (Kd.R_reads' HO_3.out).2.2 x4_1 p300 q300
         cases e300; replace p300 := eq_true p300; replace q300 := eq_true q300
         have p301 : 0 ≤ (x4_1 : Int) := of_decide_eq_true (by first | (with_reducible assumption) | assumption)
         have q301 : x4_1 < (t297.length : Int) := of_decide_eq_true (by first | (with_reducible assumption) | assumption)
         obtain ⟨ad301, e301, hx301_0⟩ := Kd.at_int (Kd.R_reads' HO_3.out).2.2 x4_1 p301 q301
         obtain rfl : ad300 = ad301 := (by injection e301)
         replace p301 := eq_true p301; replace q301 := eq_true q301
         have p302 : 0 ≤ (x4_1 : Int) := of_decide_eq_true (by first | (with_reducible assumption) | assumption)
         have q302 : x4_1 < (t297.length : Int) := of_decide_eq_true (by first | (with_reducible assumption) | assumption)
         obtain ⟨ad302, e302, hx302_0⟩ := Kd.at_int (Kd.R_reads' HO_3.out).2.2 x4_1 p302 q302
         obtain rfl : ad300 = ad302 := (by injection e302)
         replace p302 := eq_true p302; replace q302 := eq_true q302
         go_wp2
         go_roundg k1
         case measure => have := HK1.out; omega
         case rel => exact ⟨(wrap64 (x4_1 + 1)), (by first | rfl | (simp; done) | (simp [*]; done)), H', ⟨by have := HK1.out; omega⟩, ⟨by (with_reducible repeat (first | apply Kd.R_alloc | apply Kd.R_drewN | apply Kd.R_drew)); exact HO_3.out⟩, ⟨by (with_reducible repeat (first | refine blk_drewN ?_ _ | refine blk_drew ?_ | refine blk_alloc ?_ _)); exact BK296.out⟩, ⟨by repeat (first | (with_reducible first | exact HB.out | apply below_alloc | apply pw_below_drewN | apply below_drew1 | refine below_set ?_ GE296.out) | exact HB.out)⟩⟩
       ·
        rw [if_neg c12] at H
        have c12b0 : decide (x4_1 < 11) = false := decide_eq_false c12
        clear c12; have H' := Aside0.mk H; clear H
        obtain ⟨Ao16, co16, eo16⟩ := Kd.R_slice HO_3.out
        subst eo16
        have p300 : 0 ≤ (x4_1 : Int) := of_decide_eq_true (by first | (with_reducible assumption) | assumption)
        have q300 : x4_1 < (t297.length : Int) := of_decide_eq_true (by first | (with_reducible assumption) | assumption)
        obtain ⟨ad300, e300, hx300_0⟩ := Kd.at_int (Kd.R_reads' HO_3.out).2.2 x4_1 p300 q300
        cases e300; replace p300 := eq_true p300; replace q300 := eq_true q300
        have p301 : 0 ≤ (x4_1 : Int) := of_decide_eq_true (by first | (with_reducible assumption) | assumption)
        have q301 : x4_1 < (t297.length : Int) := of_decide_eq_true (by first | (with_reducible assumption) | assumption)
        obtain ⟨ad301, e301, hx301_0⟩ := Kd.at_int (Kd.R_reads' HO_3.out).2.2 x4_1 p301 q301
        obtain rfl : ad300 = ad301 := (by injection e301)
        replace p301 := eq_true p301; replace q301 := eq_true q301
        go_wp2
        go_roundg k1
        case measure => have := HK1.out; omega
        case rel => exact ⟨(wrap64 (x4_1 + 1)), (by first | rfl | (simp; done) | (simp [*]; done)), H', ⟨by have := HK1.out; omega⟩, ⟨by (with_reducible repeat (first | apply Kd.R_alloc | apply Kd.R_drewN | apply Kd.R_drew)); exact HO_3.out⟩, ⟨by (with_reducible repeat (first | refine blk_drewN ?_ _ | refine blk_drew ?_ | refine blk_alloc ?_ _)); exact BK296.out⟩, ⟨by repeat (first | (with_reducible first | exact HB.out | apply below_alloc | apply pw_below_drewN | apply below_drew1 | refine below_set ?_ GE296.out) | exact HB.out)⟩⟩
    ·
     rw [if_neg c7] at H
     exact absurd H (by simp)
   ·
    rw [if_neg c6] at H
    have c6b0 : decide (x4_1 < (t297.length : Int)) = false := decide_eq_false c6
    clear c6
    by_cases c17 : a0_0 > 0
    ·
     rw [if_pos c17] at H
     have c17b0 : decide (0 < a0_0) = true := decide_eq_true c17
     clear c17
     by_cases c18 : a0_0 < 5
     ·
      rw [if_pos c18] at H
      have c18b0 : decide (a0_0 < 5) = true := decide_eq_true c18
      clear c18
      obtain rfl := Option.some.inj H
      obtain ⟨Ao19, co19, eo19⟩ := Kd.R_slice HO_3.out
      subst eo19
      have hcz20_0 : wr.cell? ⟨gb296, 0, none⟩ = some (.int .i64 a0_0) := (blk_cell BK296.out 0).trans rfl
      have hcz20_1 : wr.cell? ⟨gb296, 1, none⟩ = some (.int .i64 a0_1) := (blk_cell BK296.out 1).trans rfl
      have hcz20_2 : wr.cell? ⟨gb296, 2, none⟩ = some (.int .i64 a0_2) := (blk_cell BK296.out 2).trans rfl
      have hcz20_3 : wr.cell? ⟨gb296, 3, none⟩ = some (.int .i64 a0_3) := (blk_cell BK296.out 3).trans rfl
      have hcz20_4 : wr.cell? ⟨gb296, 4, none⟩ = some (.int .i64 a0_4) := (blk_cell BK296.out 4).trans rfl
      have hcz20_5 : wr.cell? ⟨gb296, 5, none⟩ = some (.int .i64 a0_5) := (blk_cell BK296.out 5).trans rfl
      have hcz20_6 : wr.cell? ⟨gb296, 6, none⟩ = some (.int .i64 a0_6) := (blk_cell BK296.out 6).trans rfl
      have hcz20_7 : wr.cell? ⟨gb296, 7, none⟩ = some (.int .i64 a0_7) := (blk_cell BK296.out 7).trans rfl
      have hcz20_8 : wr.cell? ⟨gb296, 8, none⟩ = some (.int .i64 a0_8) := (blk_cell BK296.out 8).trans rfl
      have hcz20_9 : wr.cell? ⟨gb296, 9, none⟩ = some (.int .i64 a0_9) := (blk_cell BK296.out 9).trans rfl
      have hcz20_10 : wr.cell? ⟨gb296, 10, none⟩ = some (.slice A0_10 l0_10.length c0_10) := (blk_cell BK296.out 10).trans rfl
      have hfz20_0 := blk_frozen BK296.out 0
      have hfz20_1 := blk_frozen BK296.out 1
      have hfz20_2 := blk_frozen BK296.out 2
      have hfz20_3 := blk_frozen BK296.out 3
      have hfz20_4 := blk_frozen BK296.out 4
      have hfz20_5 := blk_frozen BK296.out 5
      have hfz20_6 := blk_frozen BK296.out 6
      have hfz20_7 := blk_frozen BK296.out 7
      have hfz20_8 := blk_frozen BK296.out 8
      have hfz20_9 := blk_frozen BK296.out 9
      have hfz20_10 := blk_frozen BK296.out 10
      go_wp2
      go_ret
      exact ⟨by first | rfl | (simp [errW_none, errW_some] <;> rfl) | (simp [*, errW_none, errW_some] <;> rfl), by repeat (first | (with_reducible first | exact HB.out | apply below_alloc | apply pw_below_drewN | apply below_drew1 | refine below_set ?_ GE296.out) | exact HB.out)⟩
     ·
      rw [if_neg c18] at H
      have c18b0 : decide (a0_0 < 5) = false := decide_eq_false c18
      clear c18
      obtain rfl := Option.some.inj H
      obtain ⟨Ao21, co21, eo21⟩ := Kd.R_slice HO_3.out
      subst eo21
      have hcz22_0 : wr.cell? ⟨gb296, 0, none⟩ = some (.int .i64 a0_0) := (blk_cell BK296.out 0).trans rfl
      have hcz22_1 : wr.cell? ⟨gb296, 1, none⟩ = some (.int .i64 a0_1) := (blk_cell BK296.out 1).trans rfl
      have hcz22_2 : wr.cell? ⟨gb296, 2, none⟩ = some (.int .i64 a0_2) := (blk_cell BK296.out 2).trans rfl
      have hcz22_3 : wr.cell? ⟨gb296, 3, none⟩ = some (.int .i64 a0_3) := (blk_cell BK296.out 3).trans rfl
      have hcz22_4 : wr.cell? ⟨gb296, 4, none⟩ = some (.int .i64 a0_4) := (blk_cell BK296.out 4).trans rfl
      have hcz22_5 : wr.cell? ⟨gb296, 5, none⟩ = some (.int .i64 a0_5) := (blk_cell BK296.out 5).trans rfl
      have hcz22_6 : wr.cell? ⟨gb296, 6, none⟩ = some (.int .i64 a0_6) := (blk_cell BK296.out 6).trans rfl
      have hcz22_7 : wr.cell? ⟨gb296, 7, none⟩ = some (.int .i64 a0_7) := (blk_cell BK296.out 7).trans rfl
      have hcz22_8 : wr.cell? ⟨gb296, 8, none⟩ = some (.int .i64 a0_8) := (blk_cell BK296.out 8).trans rfl
      have hcz22_9 : wr.cell? ⟨gb296, 9, none⟩ = some (.int .i64 a0_9) := (blk_cell BK296.out 9).trans rfl
      have hcz22_10 : wr.cell? ⟨gb296, 10, none⟩ = some (.slice A0_10 l0_10.length c0_10) := (blk_cell BK296.out 10).trans rfl
      have hfz22_0 := blk_frozen BK296.out 0
      have hfz22_1 := blk_frozen BK296.out 1
      have hfz22_2 := blk_frozen BK296.out 2
      have hfz22_3 := blk_frozen BK296.out 3
      have hfz22_4 := blk_frozen BK296.out 4
      have hfz22_5 := blk_frozen BK296.out 5
      have hfz22_6 := blk_frozen BK296.out 6
      have hfz22_7 := blk_frozen BK296.out 7
      have hfz22_8 := blk_frozen BK296.out 8
      have hfz22_9 := blk_frozen BK296.out 9
      have hfz22_10 := blk_frozen BK296.out 10
      go_wp2
      go_ret
      exact ⟨by first | rfl | (simp [errW_none, errW_some] <;> rfl) | (simp [*, errW_none, errW_some] <;> rfl), by repeat (first | (with_reducible first | exact HB.out | apply below_alloc | apply pw_below_drewN | apply below_drew1 | refine below_set ?_ GE296.out) | exact HB.out)⟩
    ·
     rw [if_neg c17] at H
     have c17b0 : decide (0 < a0_0) = false := decide_eq_false c17
     clear c17
     obtain rfl := Option.some.inj H
     obtain ⟨Ao23, co23, eo23⟩ := Kd.R_slice HO_3.out
     subst eo23
     have hcz24_0 : wr.cell? ⟨gb296, 0, none⟩ = some (.int .i64 a0_0) := (blk_cell BK296.out 0).trans rfl
     have hcz24_1 : wr.cell? ⟨gb296, 1, none⟩ = some (.int .i64 a0_1) := (blk_cell BK296.out 1).trans rfl
     have hcz24_2 : wr.cell? ⟨gb296, 2, none⟩ = some (.int .i64 a0_2) := (blk_cell BK296.out 2).trans rfl
     have hcz24_3 : wr.cell? ⟨gb296, 3, none⟩ = some (.int .i64 a0_3) := (blk_cell BK296.out 3).trans rfl
     have hcz24_4 : wr.cell? ⟨gb296, 4, none⟩ = some (.int .i64 a0_4) := (blk_cell BK296.out 4).trans rfl
     have hcz24_5 : wr.cell? ⟨gb296, 5, none⟩ = some (.int .i64 a0_5) := (blk_cell BK296.out 5).trans rfl
     have hcz24_6 : wr.cell? ⟨gb296, 6, none⟩ = some (.int .i64 a0_6) := (blk_cell BK296.out 6).trans rfl
     have hcz24_7 : wr.cell? ⟨gb296, 7, none⟩ = some (.int .i64 a0_7) := (blk_cell BK296.out 7).trans rfl
     have hcz24_8 : wr.cell? ⟨gb296, 8, none⟩ = some (.int .i64 a0_8) := (blk_cell BK296.out 8).trans rfl
     have hcz24_9 : wr.cell? ⟨gb296, 9, none⟩ = some (.int .i64 a0_9) := (blk_cell BK296.out 9).trans rfl
     have hcz24_10 : wr.cell? ⟨gb296, 10, none⟩ = some (.slice A0_10 l0_10.length c0_10) := (blk_cell BK296.out 10).trans rfl
     have hfz24_0 := blk_frozen BK296.out 0
     have hfz24_1 := blk_frozen BK296.out 1
     have hfz24_2 := blk_frozen BK296.out 2
     have hfz24_3 := blk_frozen BK296.out 3
     have hfz24_4 := blk_frozen BK296.out 4
     have hfz24_5 := blk_frozen BK296.out 5
     have hfz24_6 := blk_frozen BK296.out 6
     have hfz24_7 := blk_frozen BK296.out 7
     have hfz24_8 := blk_frozen BK296.out 8
     have hfz24_9 := blk_frozen BK296.out 9
     have hfz24_10 := blk_frozen BK296.out 10
     go_wp2
     go_ret
     exact ⟨by first | rfl | (simp [errW_none, errW_some] <;> rfl) | (simp [*, errW_none, errW_some] <;> rfl), by repeat (first | (with_reducible first | exact HB.out | apply below_alloc | apply pw_below_drewN | apply below_drew1 | refine below_set ?_ GE296.out) | exact HB.out)⟩

end Go.Proofs.Ytabklpdjjoaocaa.Qy
