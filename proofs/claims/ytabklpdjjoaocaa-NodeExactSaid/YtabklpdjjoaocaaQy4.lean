-- Laid by wip/xprint.py, a program of this session that runs the kit's print with some contracts given by hand; not a text of print.sh. Lean checks it.
import Derived.Test.YtabklpdjjoaocaaQy0
import Derived.Test.YtabklpdjjoaocaaQy2
import Derived.Test.YtabklpdjjoaocaaQy3
namespace Go.Proofs.Ytabklpdjjoaocaa.Qy
open Go.RowKit Go.Proofs.YtabklpdjjoaocaaW.PrintWords Go.Proofs.YtabklpdjjoaocaaW.PrintLast Go.Proofs.YtabklpdjjoaocaaW.PrintMore
attribute [local go_sem] max2_int min2_int max_two min_two max_three min_three max_four min_four   -- for this text's walks alone
set_option linter.unusedVariables false
set_option linter.unusedSimpArgs false

/-! ### place_Right: function 30 -/
mutual
def place_Right.l0 : Nat → List (List Int) → Int → Int → Int → List (List Int) → Option (Bool)
 | 0, _, _, _, _, _ => none
 | k + 1, x9, x10, x11, x114000, x114001 => if x11 < x10 then (if 0 ≤ x11 then (if x11 < (x9.length : Int) then (place_Right.l1 k (rd_L1 x9 x11) 0 x9 x10 x11 (rd_L1 x9 x11) ((rd_L1 x9 x11).length : Int) 0 x114000 x114001) else (none)) else (none)) else (if x114000 ≥ 0 then (if x114000 ≤ 2147483647 then (some (decide ((x114001.length : Int) ≤ 8))) else (some false)) else (some false))
def place_Right.l1 : Nat → List Int → Int → List (List Int) → Int → Int → List Int → Int → Int → Int → List (List Int) → Option (Bool)
 | 0, _, _, _, _, _, _, _, _, _, _ => none
 | k + 1, x4, x5, x9, x10, x11, x15, x16, x17, x114000, x114001 => if x17 < x16 then (if 0 ≤ x17 then (if x17 < (x15.length : Int) then (if (rd x15 x17) ≤ x5 then (some false) else (if (rd x15 x17) > 4 then (some false) else (place_Right.l1 k x4 (rd x15 x17) x9 x10 x11 x15 x16 (wrap64 (x17 + 1)) x114000 x114001))) else (none)) else (none)) else (if (x4.length : Int) = 0 then (some false) else (place_Right.l0 k x9 x10 (wrap64 (x11 + 1)) x114000 x114001))
end
def place_Right.f (k : Nat) (a0_0 : Int) (l0_1 : List (List Int)) : Option (Bool) := place_Right.l0 k l0_1 (l0_1.length : Int) 0 a0_0 l0_1
theorem place_Right.mono_l : ∀ k, (∀ y0 y1 y2 y3 y4, LeO (place_Right.l0 k y0 y1 y2 y3 y4) (place_Right.l0 (k + 1) y0 y1 y2 y3 y4)) ∧ (∀ y0 y1 y2 y3 y4 y5 y6 y7 y8 y9, LeO (place_Right.l1 k y0 y1 y2 y3 y4 y5 y6 y7 y8 y9) (place_Right.l1 (k + 1) y0 y1 y2 y3 y4 y5 y6 y7 y8 y9))
 | 0 => ⟨fun _ _ _ _ _ r h => by simp [place_Right.l0] at h, fun _ _ _ _ _ _ _ _ _ _ r h => by simp [place_Right.l1] at h⟩
 | k + 1 => by
  obtain ⟨ih0, ih1⟩ := place_Right.mono_l k
  refine ⟨?_, ?_⟩
  ·
   intro y0 y1 y2 y3 y4
   unfold place_Right.l0
   repeat' first
   | (with_reducible exact ih0 _ _ _ _ _)
   | (with_reducible exact ih1 _ _ _ _ _ _ _ _ _ _)
   | (with_reducible exact LeO.refl _)
   | (with_reducible exact LeO.none _)
   | (with_reducible refine LeO.ite ?_ ?_)
   | (with_reducible refine LeO.bind ?_ (fun _ => ?_))
   | exact ih0 _ _ _ _ _
   | exact ih1 _ _ _ _ _ _ _ _ _ _
   | exact LeO.none _
   | refine LeO.ite ?_ ?_
   | refine LeO.bind ?_ (fun _ => ?_)
  ·
   intro y0 y1 y2 y3 y4 y5 y6 y7 y8 y9
   unfold place_Right.l1
   repeat' first
   | (with_reducible exact ih0 _ _ _ _ _)
   | (with_reducible exact ih1 _ _ _ _ _ _ _ _ _ _)
   | (with_reducible exact LeO.refl _)
   | (with_reducible exact LeO.none _)
   | (with_reducible refine LeO.ite ?_ ?_)
   | (with_reducible refine LeO.bind ?_ (fun _ => ?_))
   | exact ih0 _ _ _ _ _
   | exact ih1 _ _ _ _ _ _ _ _ _ _
   | exact LeO.none _
   | refine LeO.ite ?_ ?_
   | refine LeO.bind ?_ (fun _ => ?_)
theorem place_Right.mono : ∀ a0 a1 k, LeO (place_Right.f k a0 a1) (place_Right.f (k + 1) a0 a1) := by
 intro a0 a1 k
 obtain ⟨ih0, ih1⟩ := place_Right.mono_l k
 unfold place_Right.f
 repeat' first
  | (with_reducible exact ih0 _ _ _ _ _)
  | (with_reducible exact ih1 _ _ _ _ _ _ _ _ _ _)
  | (with_reducible exact LeO.refl _)
  | (with_reducible exact LeO.none _)
  | (with_reducible refine LeO.ite ?_ ?_)
  | (with_reducible refine LeO.bind ?_ (fun _ => ?_))
  | exact ih0 _ _ _ _ _
  | exact ih1 _ _ _ _ _ _ _ _ _ _
  | exact LeO.none _
  | refine LeO.ite ?_ ?_
  | refine LeO.bind ?_ (fun _ => ?_)
set_option maxHeartbeats 8000000 in
set_option maxRecDepth 100000 in
theorem place_Right.calls (k : Nat) (a0_0 : Int) (A0_1 : Option Addr) (c0_1 : Nat) (l0_1 : List (List Int)) (r : Bool) (w : World) (hr0_1 : Kd.C (Kd.slice 3 (Kd.int .i64)) w A0_1 l0_1.length l0_1) (hc0_1 : l0_1.length ≤ c0_1) (h : place_Right.f k a0_0 l0_1 = some r) :
 Calls Try.prog 30 #[.agg #[.int .i64 a0_0, .slice A0_1 l0_1.length c0_1]] w fun e w' => e = .returned (.bool r) ∧ Below w.heap.size w w' := by
 have hu27 := Try.underlying27; have HR0_1 := Aside0.mk hr0_1; have HC0_1 := Aside0.mk hc0_1; clear hr0_1 hc0_1
 have HB := Aside0.mk (Below.refl w.heap.size w)
 have H : (place_Right.l0 k l0_1 (l0_1.length : Int) 0 a0_0 l0_1) = some r := h
 clear h; have H' := Aside0.mk H; clear H
 go_enter Try.func30, Try.ntmps30
 go_wp2_with (first | ((with_reducible refine gate_dst (N := 1) rfl ?_); (try (refine gate_guard (by rfl) ?_; dsimp only)); refine box_event ?hg (N := 1) ?hd (cs := #[.int .i64 a0_0, .slice A0_1 l0_1.length c0_1]) (t := 27) ?hr ?_; (case hd => rfl); (case hg => rfl); (case hr => first | (go_simp; done) | (go_simp; rfl)); intro gb113 hg w2 hbox hb; have n0_ := Aside0.mk (below_step (by repeat (first | (with_reducible first | exact HB.out | apply below_alloc | apply pw_below_drewN | apply below_drew1) | exact HB.out)) hb); have n1_ := Aside0.mk (hbox); have n2_ := Aside0.mk ((by rw [hg]; exact (below_size (by repeat (first | (with_reducible first | exact HB.out | apply below_alloc | apply pw_below_drewN | apply below_drew1) | exact HB.out))) : w.heap.size ≤ gb113)); have n3_ := Aside0.mk ((by rw [hg]; exact (below_size (by repeat (first | (with_reducible first | exact HB.out | apply below_alloc | apply pw_below_drewN | apply below_drew1) | exact HB.out))) : w.heap.size ≤ gb113)); clear HB; have HB := n0_; have BK113 := n1_; have GW113 := n2_; have GE113 := n3_; clear n0_ n1_ n2_ n3_; clear hb hbox hg; have hcz3_0 : w2.cell? ⟨gb113, 0, none⟩ = some (.int .i64 a0_0) := (blk_cell BK113.out 0).trans rfl; have hcz3_1 : w2.cell? ⟨gb113, 1, none⟩ = some (.slice A0_1 l0_1.length c0_1) := (blk_cell BK113.out 1).trans rfl; have hfz3_0 := blk_frozen BK113.out 0; have hfz3_1 := blk_frozen BK113.out 1))
 go_loopg [11] k (fun kq v11 w' => ∃ (x11_1 : Int), v11 = .int .i64 x11_1 ∧ Aside0 (place_Right.l0 kq l0_1 (l0_1.length : Int) x11_1 a0_0 l0_1 = some r) ∧ Aside0 (kq ≤ k) ∧ Aside0 (w'.heap[gb113]? = some (.cells #[.int .i64 a0_0, (.slice A0_1 l0_1.length c0_1)] 27 (0, 0))) ∧ Aside0 (Below w.heap.size w w'))
 case atStart => exact ⟨(0), (by first | rfl | (simp; done) | (simp [*]; done)), H', ⟨Nat.le_refl _⟩, ⟨by (with_reducible repeat (first | refine blk_drewN ?_ _ | refine blk_drew ?_ | refine blk_alloc ?_ _)); exact BK113.out⟩, ⟨by repeat (first | (with_reducible first | exact HB.out | apply below_alloc | apply pw_below_drewN | apply below_drew1 | refine below_set ?_ GE113.out) | exact HB.out)⟩⟩
 case round =>
  clear H'; try clear p2; try clear c3; try clear hcz3_0; try clear hcz3_1; try clear hfz3_0; try clear hfz3_1
  obtain ⟨x11_1, rfl, HA, HK1, BK113, HB⟩ := hrel
  cases gk with
  | zero => exact absurd HA.out (by simp [place_Right.l0])
  | succ k1 =>
   have H := HA.out; clear HA
   simp only [place_Right.l0] at H
   by_cases c4 : x11_1 < (l0_1.length : Int)
   ·
    rw [if_pos c4] at H
    have c4b0 : decide (x11_1 < (l0_1.length : Int)) = true := decide_eq_true c4
    clear c4
    by_cases c5 : 0 ≤ x11_1
    ·
     rw [if_pos c5] at H
     have c5b0 : decide (0 ≤ x11_1) = true := decide_eq_true c5
     clear c5
     by_cases c6 : x11_1 < (l0_1.length : Int)
     ·
      rw [if_pos c6] at H
      have c6b0 : decide (x11_1 < (l0_1.length : Int)) = true := decide_eq_true c6
      clear c6; have H' := Aside0.mk H; clear H
      have p114 : 0 ≤ (x11_1 : Int) := of_decide_eq_true (by first | (with_reducible assumption) | assumption)
      have q114 : x11_1 < (l0_1.length : Int) := of_decide_eq_true (by first | (with_reducible assumption) | assumption)
      obtain ⟨ad114, A114_0, c114_0, e114, hx114_0, hl114_0, hi114_0⟩ := at_L1 HR0_1.out x11_1 p114 q114
      cases e114
      replace hx114_0 := (HB.out.cell (World.block_lt_of_cell? w _ hx114_0)).trans hx114_0
      have HR114_0 := Aside0.mk hi114_0; have HC114_0 := Aside0.mk hl114_0; clear hi114_0 hl114_0; replace p114 := eq_true p114; replace q114 := eq_true q114
      go_wp2
      go_loopg [5, 17] k1 (fun kq v5 v17 w' => ∃ (x5_2 : Int) (x17_2 : Int), v5 = .int .i64 x5_2 ∧ v17 = .int .i64 x17_2 ∧ Aside0 (place_Right.l1 kq (rd_L1 l0_1 x11_1) x5_2 l0_1 (l0_1.length : Int) x11_1 (rd_L1 l0_1 x11_1) ((rd_L1 l0_1 x11_1).length : Int) x17_2 a0_0 l0_1 = some r) ∧ Aside0 (kq ≤ k1) ∧ Aside0 (w'.heap[gb113]? = some (.cells #[.int .i64 a0_0, (.slice (some ad114) l0_1.length c0_1)] 27 (0, 0))) ∧ Aside0 (Below w.heap.size w w'))
      case atStart => exact ⟨(0), (0), (by first | rfl | (simp; done) | (simp [*]; done)), (by first | rfl | (simp; done) | (simp [*]; done)), H', ⟨Nat.le_refl _⟩, ⟨by (with_reducible repeat (first | refine blk_drewN ?_ _ | refine blk_drew ?_ | refine blk_alloc ?_ _)); exact BK113.out⟩, ⟨by repeat (first | (with_reducible first | exact HB.out | apply below_alloc | apply pw_below_drewN | apply below_drew1 | refine below_set ?_ GE113.out) | exact HB.out)⟩⟩
      case round =>
       clear H'; try clear c1; try clear p1; try clear q1; try clear hx1; try clear p2; try clear c3; try clear c4; try clear c4b0; try clear c5; try clear c5b0; try clear c6; try clear c6b0; try clear hcz3_0; try clear hcz3_1; try clear hfz3_0; try clear hfz3_1; try clear hx114_0; try clear p114; try clear p2; try clear q114
       obtain ⟨x5_2, x17_2, rfl, rfl, HA, HK2, BK113, HB⟩ := hrel
       cases gk with
       | zero => exact absurd HA.out (by simp [place_Right.l1])
       | succ k2 =>
        have H := HA.out; clear HA
        simp only [place_Right.l1] at H
        by_cases c7 : x17_2 < ((rd_L1 l0_1 x11_1).length : Int)
        ·
         rw [if_pos c7] at H
         have c7b0 : decide (x17_2 < ((rd_L1 l0_1 x11_1).length : Int)) = true := decide_eq_true c7
         clear c7
         by_cases c8 : 0 ≤ x17_2
         ·
          rw [if_pos c8] at H
          have c8b0 : decide (0 ≤ x17_2) = true := decide_eq_true c8
          clear c8
          by_cases c9 : x17_2 < ((rd_L1 l0_1 x11_1).length : Int)
          ·
           rw [if_pos c9] at H
           have c9b0 : decide (x17_2 < ((rd_L1 l0_1 x11_1).length : Int)) = true := decide_eq_true c9
           clear c9
           by_cases c10 : (rd (rd_L1 l0_1 x11_1) x17_2) ≤ x5_2
           ·
            rw [if_pos c10] at H
            have c10b0 : decide ((rd (rd_L1 l0_1 x11_1) x17_2) ≤ x5_2) = true := decide_eq_true c10
            clear c10
            obtain rfl := Option.some.inj H
            have p115 : 0 ≤ (x17_2 : Int) := of_decide_eq_true (by first | (with_reducible assumption) | assumption)
            have q115 : x17_2 < ((rd_L1 l0_1 x11_1).length : Int) := of_decide_eq_true (by first | (with_reducible assumption) | assumption)
            obtain ⟨ad115, e115, hx115_0⟩ := Kd.at_int HR114_0.out x17_2 p115 q115
            cases e115
            replace hx115_0 := (HB.out.cell (World.block_lt_of_cell? w _ hx115_0)).trans hx115_0
            replace p115 := eq_true p115; replace q115 := eq_true q115
            go_wp2
            go_ret
            exact ⟨by first | rfl | (simp [errW_none, errW_some] <;> rfl) | (simp [*, errW_none, errW_some] <;> rfl), by repeat (first | (with_reducible first | exact HB.out | apply below_alloc | apply pw_below_drewN | apply below_drew1 | refine below_set ?_ GE113.out) | exact HB.out)⟩
           ·
            rw [if_neg c10] at H
            have c10b0 : decide ((rd (rd_L1 l0_1 x11_1) x17_2) ≤ x5_2) = false := decide_eq_false c10
            clear c10
            by_cases c11 : (rd (rd_L1 l0_1 x11_1) x17_2) > 4
            ·
             rw [if_pos c11] at H
             have c11b0 : decide (4 < (rd (rd_L1 l0_1 x11_1) x17_2)) = true := decide_eq_true c11
             clear c11
             obtain rfl := Option.some.inj H
             have p115 : 0 ≤ (x17_2 : Int) := of_decide_eq_true (by first | (with_reducible assumption) | assumption)
             have q115 : x17_2 < ((rd_L1 l0_1 x11_1).length : Int) := of_decide_eq_true (by first | (with_reducible assumption) | assumption)
             obtain ⟨ad115, e115, hx115_0⟩ := Kd.at_int HR114_0.out x17_2 p115 q115
             cases e115
             replace hx115_0 := (HB.out.cell (World.block_lt_of_cell? w _ hx115_0)).trans hx115_0
             replace p115 := eq_true p115; replace q115 := eq_true q115
             go_wp2
             go_ret
             exact ⟨by first | rfl | (simp [errW_none, errW_some] <;> rfl) | (simp [*, errW_none, errW_some] <;> rfl), by repeat (first | (with_reducible first | exact HB.out | apply below_alloc | apply pw_below_drewN | apply below_drew1 | refine below_set ?_ GE113.out) | exact HB.out)⟩
            ·
             rw [if_neg c11] at H
             have c11b0 : decide (4 < (rd (rd_L1 l0_1 x11_1) x17_2)) = false := decide_eq_false c11
             clear c11; have H' := Aside0.mk H; clear H
             have p115 : 0 ≤ (x17_2 : Int) := of_decide_eq_true (by first | (with_reducible assumption) | assumption)
             have q115 : x17_2 < ((rd_L1 l0_1 x11_1).length : Int) := of_decide_eq_true (by first | (with_reducible assumption) | assumption)
             obtain ⟨ad115, e115, hx115_0⟩ := Kd.at_int HR114_0.out x17_2 p115 q115
             cases e115
             replace hx115_0 := (HB.out.cell (World.block_lt_of_cell? w _ hx115_0)).trans hx115_0
             replace p115 := eq_true p115; replace q115 := eq_true q115
             go_wp2
             go_roundg k2
             case measure => have := HK1.out; have := HK2.out; omega
             case rel => exact ⟨(rd (rd_L1 l0_1 x11_1) x17_2), (wrap64 (x17_2 + 1)), (by first | rfl | (simp; done) | (simp [*]; done)), (by first | rfl | (simp; done) | (simp [*]; done)), H', ⟨by have := HK1.out; have := HK2.out; omega⟩, ⟨by (with_reducible repeat (first | refine blk_drewN ?_ _ | refine blk_drew ?_ | refine blk_alloc ?_ _)); exact BK113.out⟩, ⟨by repeat (first | (with_reducible first | exact HB.out | apply below_alloc | apply pw_below_drewN | apply below_drew1 | refine below_set ?_ GE113.out) | exact HB.out)⟩⟩
          ·
           rw [if_neg c9] at H
           exact absurd H (by simp)
         ·
          rw [if_neg c8] at H
          exact absurd H (by simp)
        ·
         rw [if_neg c7] at H
         have c7b0 : decide (x17_2 < ((rd_L1 l0_1 x11_1).length : Int)) = false := decide_eq_false c7
         clear c7
         by_cases c12 : ((rd_L1 l0_1 x11_1).length : Int) = 0
         ·
          rw [if_pos c12] at H
          have c12b0 : (((rd_L1 l0_1 x11_1).length : Int) == 0) = true := beq_iff_eq.mpr c12
          have c12b1 : (((rd_L1 l0_1 x11_1).length : Int) != 0) = false := bne_eq_false_iff_eq.mpr c12
          clear c12
          obtain rfl := Option.some.inj H
          go_wp2
          go_ret
          exact ⟨by first | rfl | (simp [errW_none, errW_some] <;> rfl) | (simp [*, errW_none, errW_some] <;> rfl), by repeat (first | (with_reducible first | exact HB.out | apply below_alloc | apply pw_below_drewN | apply below_drew1 | refine below_set ?_ GE113.out) | exact HB.out)⟩
         ·
          rw [if_neg c12] at H
          have c12b0 : (((rd_L1 l0_1 x11_1).length : Int) == 0) = false := beq_eq_false_iff_ne.mpr c12
          have c12b1 : (((rd_L1 l0_1 x11_1).length : Int) != 0) = true := bne_iff_ne.mpr c12
          have c12b2 : ¬ ((rd_L1 l0_1 x11_1) = []) := fun h_ => c12 (by rw [h_]; rfl)
          have H' := Aside0.mk H; clear H
          go_wp2
          go_roundg k2
          case measure => have := HK1.out; have := HK2.out; omega
          case rel => exact ⟨(wrap64 (x11_1 + 1)), (by first | rfl | (simp; done) | (simp [*]; done)), H', ⟨by have := HK1.out; have := HK2.out; omega⟩, ⟨by (with_reducible repeat (first | refine blk_drewN ?_ _ | refine blk_drew ?_ | refine blk_alloc ?_ _)); exact BK113.out⟩, ⟨by repeat (first | (with_reducible first | exact HB.out | apply below_alloc | apply pw_below_drewN | apply below_drew1 | refine below_set ?_ GE113.out) | exact HB.out)⟩⟩
     ·
      rw [if_neg c6] at H
      exact absurd H (by simp)
    ·
     rw [if_neg c5] at H
     exact absurd H (by simp)
   ·
    rw [if_neg c4] at H
    have c4b0 : decide (x11_1 < (l0_1.length : Int)) = false := decide_eq_false c4
    clear c4
    by_cases c13 : a0_0 ≥ 0
    ·
     rw [if_pos c13] at H
     have c13b0 : decide (0 ≤ a0_0) = true := decide_eq_true c13
     clear c13
     by_cases c14 : a0_0 ≤ 2147483647
     ·
      rw [if_pos c14] at H
      have c14b0 : decide (a0_0 ≤ 2147483647) = true := decide_eq_true c14
      clear c14
      obtain rfl := Option.some.inj H
      have hcz15_0 : wr.cell? ⟨gb113, 0, none⟩ = some (.int .i64 a0_0) := (blk_cell BK113.out 0).trans rfl
      have hcz15_1 : wr.cell? ⟨gb113, 1, none⟩ = some (.slice A0_1 l0_1.length c0_1) := (blk_cell BK113.out 1).trans rfl
      have hfz15_0 := blk_frozen BK113.out 0
      have hfz15_1 := blk_frozen BK113.out 1
      go_wp2
      go_ret
      exact ⟨by first | rfl | (simp [errW_none, errW_some] <;> rfl) | (simp [*, errW_none, errW_some] <;> rfl), by repeat (first | (with_reducible first | exact HB.out | apply below_alloc | apply pw_below_drewN | apply below_drew1 | refine below_set ?_ GE113.out) | exact HB.out)⟩
     ·
      rw [if_neg c14] at H
      have c14b0 : decide (a0_0 ≤ 2147483647) = false := decide_eq_false c14
      clear c14
      obtain rfl := Option.some.inj H
      have hcz16_0 : wr.cell? ⟨gb113, 0, none⟩ = some (.int .i64 a0_0) := (blk_cell BK113.out 0).trans rfl
      have hcz16_1 : wr.cell? ⟨gb113, 1, none⟩ = some (.slice A0_1 l0_1.length c0_1) := (blk_cell BK113.out 1).trans rfl
      have hfz16_0 := blk_frozen BK113.out 0
      have hfz16_1 := blk_frozen BK113.out 1
      go_wp2
      go_ret
      exact ⟨by first | rfl | (simp [errW_none, errW_some] <;> rfl) | (simp [*, errW_none, errW_some] <;> rfl), by repeat (first | (with_reducible first | exact HB.out | apply below_alloc | apply pw_below_drewN | apply below_drew1 | refine below_set ?_ GE113.out) | exact HB.out)⟩
    ·
     rw [if_neg c13] at H
     have c13b0 : decide (0 ≤ a0_0) = false := decide_eq_false c13
     clear c13
     obtain rfl := Option.some.inj H
     have hcz17_0 : wr.cell? ⟨gb113, 0, none⟩ = some (.int .i64 a0_0) := (blk_cell BK113.out 0).trans rfl
     have hcz17_1 : wr.cell? ⟨gb113, 1, none⟩ = some (.slice A0_1 l0_1.length c0_1) := (blk_cell BK113.out 1).trans rfl
     have hfz17_0 := blk_frozen BK113.out 0
     have hfz17_1 := blk_frozen BK113.out 1
     go_wp2
     go_ret
     exact ⟨by first | rfl | (simp [errW_none, errW_some] <;> rfl) | (simp [*, errW_none, errW_some] <;> rfl), by repeat (first | (with_reducible first | exact HB.out | apply below_alloc | apply pw_below_drewN | apply below_drew1 | refine below_set ?_ GE113.out) | exact HB.out)⟩

/-! ### wire_numbers: function 48 -/
def wire_numbers.f (a0_0 : Int) (a0_1 : Int) (a0_2 : Int) (a0_3 : Int) (a0_4 : Int) (a0_5 : Int) (a0_6 : Int) (a0_7 : Int) (a0_8 : Int) (a0_9 : Int) (l0_10 : List Int) : Option (List Int) := some (([a0_0, a0_1, a0_2, a0_3, a0_4, a0_5, a0_6, a0_7, a0_8, a0_9] : List Int))
set_option maxHeartbeats 8000000 in
set_option maxRecDepth 100000 in
theorem wire_numbers.calls (a0_0 : Int) (a0_1 : Int) (a0_2 : Int) (a0_3 : Int) (a0_4 : Int) (a0_5 : Int) (a0_6 : Int) (a0_7 : Int) (a0_8 : Int) (a0_9 : Int) (A0_10 : Option Addr) (c0_10 : Nat) (l0_10 : List Int) (r : List Int) (w : World) (hr0_10 : Kd.C (Kd.int .i64) w A0_10 l0_10.length l0_10) (hc0_10 : l0_10.length ≤ c0_10) (h : wire_numbers.f a0_0 a0_1 a0_2 a0_3 a0_4 a0_5 a0_6 a0_7 a0_8 a0_9 l0_10 = some r) :
 Calls Try.prog 48 #[.agg #[.int .i64 a0_0, .int .i64 a0_1, .int .i64 a0_2, .int .i64 a0_3, .int .i64 a0_4, .int .i64 a0_5, .int .i64 a0_6, .int .i64 a0_7, .int .i64 a0_8, .int .i64 a0_9, .slice A0_10 l0_10.length c0_10]] w fun e w' => ∃ v0_ : Value, e = .returned (v0_) ∧ Kd.R (Kd.int .i64) 3 w' w.heap.size (fun _ => True) v0_ r ∧ Below w.heap.size w w' := by
 have hu31 := Try.underlying31; have HR0_10 := Aside0.mk hr0_10; have HC0_10 := Aside0.mk hc0_10; clear hr0_10 hc0_10
 have HB := Aside0.mk (Below.refl w.heap.size w)
 have H : (some (([a0_0, a0_1, a0_2, a0_3, a0_4, a0_5, a0_6, a0_7, a0_8, a0_9] : List Int))) = some r := h
 clear h
 obtain ⟨y117, hy117⟩ : ∃ y_ : List Int, y_ = (([a0_0, a0_1, a0_2, a0_3, a0_4, a0_5, a0_6, a0_7, a0_8, a0_9] : List Int)) := ⟨_, rfl⟩
 replace H : (some y117) = some r := by first | (rw [hy117]; with_reducible exact H) | (have H2_ := (Option.bind_some _ _).symm.trans H; rw [hy117]; with_reducible exact H2_) | (have H2_ := (Option.bind_some _ _).symm.trans H; with_reducible exact H2_) | with_reducible exact H | (rw [hy117]; exact H) | exact H
 have Ny117 := Aside0.mk hy117; clear hy117
 obtain rfl := Option.some.inj H
 go_enter Try.func48, Try.ntmps48
 go_wp2_with (first | ((with_reducible refine gate_dst (N := 1) rfl ?_); refine box_event ?hg (N := 1) ?hd (cs := #[.int .i64 a0_0, .int .i64 a0_1, .int .i64 a0_2, .int .i64 a0_3, .int .i64 a0_4, .int .i64 a0_5, .int .i64 a0_6, .int .i64 a0_7, .int .i64 a0_8, .int .i64 a0_9, .slice A0_10 l0_10.length c0_10]) (t := 31) ?hr ?_; (case hd => rfl); (case hg => rfl); (case hr => first | (go_simp; done) | (go_simp; rfl)); intro gb116 hg w2 hbox hb; have n0_ := Aside0.mk (below_step (by repeat (first | (with_reducible first | exact HB.out | apply below_alloc | apply pw_below_drewN | apply below_drew1) | exact HB.out)) hb); have n1_ := Aside0.mk (hbox); have n2_ := Aside0.mk ((by rw [hg]; exact (below_size (by repeat (first | (with_reducible first | exact HB.out | apply below_alloc | apply pw_below_drewN | apply below_drew1) | exact HB.out))) : w.heap.size ≤ gb116)); have n3_ := Aside0.mk ((by rw [hg]; exact (below_size (by repeat (first | (with_reducible first | exact HB.out | apply below_alloc | apply pw_below_drewN | apply below_drew1) | exact HB.out))) : w.heap.size ≤ gb116)); clear HB; have HB := n0_; have BK116 := n1_; have GW116 := n2_; have GE116 := n3_; clear n0_ n1_ n2_ n3_; clear hb hbox hg; have hcz3_0 : w2.cell? ⟨gb116, 0, none⟩ = some (.int .i64 a0_0) := (blk_cell BK116.out 0).trans rfl; have hcz3_1 : w2.cell? ⟨gb116, 1, none⟩ = some (.int .i64 a0_1) := (blk_cell BK116.out 1).trans rfl; have hcz3_2 : w2.cell? ⟨gb116, 2, none⟩ = some (.int .i64 a0_2) := (blk_cell BK116.out 2).trans rfl; have hcz3_3 : w2.cell? ⟨gb116, 3, none⟩ = some (.int .i64 a0_3) := (blk_cell BK116.out 3).trans rfl; have hcz3_4 : w2.cell? ⟨gb116, 4, none⟩ = some (.int .i64 a0_4) := (blk_cell BK116.out 4).trans rfl; have hcz3_5 : w2.cell? ⟨gb116, 5, none⟩ = some (.int .i64 a0_5) := (blk_cell BK116.out 5).trans rfl; have hcz3_6 : w2.cell? ⟨gb116, 6, none⟩ = some (.int .i64 a0_6) := (blk_cell BK116.out 6).trans rfl; have hcz3_7 : w2.cell? ⟨gb116, 7, none⟩ = some (.int .i64 a0_7) := (blk_cell BK116.out 7).trans rfl; have hcz3_8 : w2.cell? ⟨gb116, 8, none⟩ = some (.int .i64 a0_8) := (blk_cell BK116.out 8).trans rfl; have hcz3_9 : w2.cell? ⟨gb116, 9, none⟩ = some (.int .i64 a0_9) := (blk_cell BK116.out 9).trans rfl; have hcz3_10 : w2.cell? ⟨gb116, 10, none⟩ = some (.slice A0_10 l0_10.length c0_10) := (blk_cell BK116.out 10).trans rfl; have hfz3_0 := blk_frozen BK116.out 0; have hfz3_1 := blk_frozen BK116.out 1; have hfz3_2 := blk_frozen BK116.out 2; have hfz3_3 := blk_frozen BK116.out 3; have hfz3_4 := blk_frozen BK116.out 4; have hfz3_5 := blk_frozen BK116.out 5; have hfz3_6 := blk_frozen BK116.out 6; have hfz3_7 := blk_frozen BK116.out 7; have hfz3_8 := blk_frozen BK116.out 8; have hfz3_9 := blk_frozen BK116.out 9; have hfz3_10 := blk_frozen BK116.out 10) | ((with_reducible refine gate_dst (N := 23) rfl ?_); refine Kd.R_lit (Kd.int .i64) _ 3 ?hg (N := 23) ?hd (xs := ([a0_0, a0_1, a0_2, a0_3, a0_4, a0_5, a0_6, a0_7, a0_8, a0_9] : List Int)) (inner := [.int .i64 a0_0, .int .i64 a0_1, .int .i64 a0_2, .int .i64 a0_3, .int .i64 a0_4, .int .i64 a0_5, .int .i64 a0_6, .int .i64 a0_7, .int .i64 a0_8, .int .i64 a0_9]) (ok := fun _ => True) (okp := fun _ => True) ?hr ?hp (fun _ hk => hk) trivial (Below.refl _ _) (Nat.le_refl _) (by simp) ?_; (case hd => rfl); (case hg => rfl); (case hr => first | (go_simp; done) | (go_simp; rfl)); (case hp => exact (Reps.one (show Kd.M (Kd.int .i64) _ _ _ a0_0 [.int .i64 a0_0] from rfl) (Reps.one (show Kd.M (Kd.int .i64) _ _ _ a0_1 [.int .i64 a0_1] from rfl) (Reps.one (show Kd.M (Kd.int .i64) _ _ _ a0_2 [.int .i64 a0_2] from rfl) (Reps.one (show Kd.M (Kd.int .i64) _ _ _ a0_3 [.int .i64 a0_3] from rfl) (Reps.one (show Kd.M (Kd.int .i64) _ _ _ a0_4 [.int .i64 a0_4] from rfl) (Reps.one (show Kd.M (Kd.int .i64) _ _ _ a0_5 [.int .i64 a0_5] from rfl) (Reps.one (show Kd.M (Kd.int .i64) _ _ _ a0_6 [.int .i64 a0_6] from rfl) (Reps.one (show Kd.M (Kd.int .i64) _ _ _ a0_7 [.int .i64 a0_7] from rfl) (Reps.one (show Kd.M (Kd.int .i64) _ _ _ a0_8 [.int .i64 a0_8] from rfl) (Reps.one (show Kd.M (Kd.int .i64) _ _ _ a0_9 [.int .i64 a0_9] from rfl) (Reps.none _ _)))))))))))); intro v118 w4 ho5 hb hg_ hnew_; clear hg_ hnew_; (first | rw [← Ny117.out] at ho5 | (simp only [Int.reduceToNat] at ho5; rw [← Ny117.out] at ho5)); have n0_ := Aside0.mk (Kd.R_lower ho5 (below_size (by repeat (first | (with_reducible first | exact HB.out | apply below_alloc | apply pw_below_drewN | apply below_drew1 | refine below_set ?_ GE116.out) | exact HB.out)))); have n1_ := Aside0.mk (blk_below (g := gb116) (o := .cells #[.int .i64 a0_0, .int .i64 a0_1, .int .i64 a0_2, .int .i64 a0_3, .int .i64 a0_4, .int .i64 a0_5, .int .i64 a0_6, .int .i64 a0_7, .int .i64 a0_8, .int .i64 a0_9, .slice A0_10 l0_10.length c0_10] 31 (0, 0)) (by (with_reducible repeat (first | refine blk_drewN ?_ _ | refine blk_drew ?_ | refine blk_alloc ?_ _)); exact BK116.out) hb); have n2_ := Aside0.mk (below_step (by repeat (first | (with_reducible first | exact HB.out | apply below_alloc | apply pw_below_drewN | apply below_drew1 | refine below_set ?_ GE116.out) | exact HB.out)) hb); clear BK116; clear HB; have HO119 := n0_; have BK116 := n1_; have HB := n2_; clear n0_ n1_ n2_; clear hb ho5))
 go_ret
 exact ⟨_, by first | rfl | (simp [errW_none, errW_some] <;> rfl) | (simp [*, errW_none, errW_some] <;> rfl), by (with_reducible repeat (first | apply Kd.R_alloc | apply Kd.R_drewN | apply Kd.R_drew)); exact HO119.out, by repeat (first | (with_reducible first | exact HB.out | apply below_alloc | apply pw_below_drewN | apply below_drew1 | refine below_set ?_ GE116.out) | exact HB.out)⟩

/-! ### wire_Right: function 31 -/
mutual
def wire_Right.l0 : Nat → List Int → Int → Int → Int → Int → Int → Int → Int → Int → Int → Int → Int → Int → List Int → Option (Bool)
 | 0, _, _, _, _, _, _, _, _, _, _, _, _, _, _ => none
 | k + 1, x8, x9, x10, x121000, x121001, x121002, x121003, x121004, x121005, x121006, x121007, x121008, x121009, x121010 => if x10 < x9 then (if 0 ≤ x10 then (if x10 < (x8.length : Int) then (if (rd x8 x10) < 0 then (some false) else (if (rd x8 x10) > 2147483647 then (some false) else (wire_Right.l0 k x8 x9 (wrap64 (x10 + 1)) x121000 x121001 x121002 x121003 x121004 x121005 x121006 x121007 x121008 x121009 x121010))) else (none)) else (none)) else (wire_Right.l1 k x121010 (x121010.length : Int) 0 x121000 x121001 x121002 x121003 x121004 x121005 x121006 x121007 x121008 x121009 x121010)
def wire_Right.l1 : Nat → List Int → Int → Int → Int → Int → Int → Int → Int → Int → Int → Int → Int → Int → List Int → Option (Bool)
 | 0, _, _, _, _, _, _, _, _, _, _, _, _, _, _ => none
 | k + 1, x22, x23, x24, x121000, x121001, x121002, x121003, x121004, x121005, x121006, x121007, x121008, x121009, x121010 => if x24 < x23 then (if 0 ≤ x24 then (if x24 < (x22.length : Int) then (if (rd x22 x24) < (-2147483648) then (some false) else (if (rd x22 x24) > 2147483647 then (some false) else (wire_Right.l1 k x22 x23 (wrap64 (x24 + 1)) x121000 x121001 x121002 x121003 x121004 x121005 x121006 x121007 x121008 x121009 x121010))) else (none)) else (none)) else (if x121000 ≥ 1 then (if x121000 ≤ 4 then (some (decide ((x121010.length : Int) ≤ 8))) else (some false)) else (some false))
end
def wire_Right.f (k : Nat) (a0_0 : Int) (a0_1 : Int) (a0_2 : Int) (a0_3 : Int) (a0_4 : Int) (a0_5 : Int) (a0_6 : Int) (a0_7 : Int) (a0_8 : Int) (a0_9 : Int) (l0_10 : List Int) : Option (Bool) := (wire_numbers.f a0_0 a0_1 a0_2 a0_3 a0_4 a0_5 a0_6 a0_7 a0_8 a0_9 l0_10).bind fun t121 => (wire_Right.l0 k t121 (t121.length : Int) 0 a0_0 a0_1 a0_2 a0_3 a0_4 a0_5 a0_6 a0_7 a0_8 a0_9 l0_10)
theorem wire_Right.mono_l : ∀ k, (∀ y0 y1 y2 y3 y4 y5 y6 y7 y8 y9 y10 y11 y12 y13, LeO (wire_Right.l0 k y0 y1 y2 y3 y4 y5 y6 y7 y8 y9 y10 y11 y12 y13) (wire_Right.l0 (k + 1) y0 y1 y2 y3 y4 y5 y6 y7 y8 y9 y10 y11 y12 y13)) ∧ (∀ y0 y1 y2 y3 y4 y5 y6 y7 y8 y9 y10 y11 y12 y13, LeO (wire_Right.l1 k y0 y1 y2 y3 y4 y5 y6 y7 y8 y9 y10 y11 y12 y13) (wire_Right.l1 (k + 1) y0 y1 y2 y3 y4 y5 y6 y7 y8 y9 y10 y11 y12 y13))
 | 0 => ⟨fun _ _ _ _ _ _ _ _ _ _ _ _ _ _ r h => by simp [wire_Right.l0] at h, fun _ _ _ _ _ _ _ _ _ _ _ _ _ _ r h => by simp [wire_Right.l1] at h⟩
 | k + 1 => by
  obtain ⟨ih0, ih1⟩ := wire_Right.mono_l k
  refine ⟨?_, ?_⟩
  ·
   intro y0 y1 y2 y3 y4 y5 y6 y7 y8 y9 y10 y11 y12 y13
   unfold wire_Right.l0
   repeat' first
   | (with_reducible exact ih0 _ _ _ _ _ _ _ _ _ _ _ _ _ _)
   | (with_reducible exact ih1 _ _ _ _ _ _ _ _ _ _ _ _ _ _)
   | (with_reducible exact LeO.refl _)
   | (with_reducible exact LeO.none _)
   | (with_reducible refine LeO.ite ?_ ?_)
   | (with_reducible refine LeO.bind ?_ (fun _ => ?_))
   | exact ih0 _ _ _ _ _ _ _ _ _ _ _ _ _ _
   | exact ih1 _ _ _ _ _ _ _ _ _ _ _ _ _ _
   | exact LeO.none _
   | refine LeO.ite ?_ ?_
   | refine LeO.bind ?_ (fun _ => ?_)
  ·
   intro y0 y1 y2 y3 y4 y5 y6 y7 y8 y9 y10 y11 y12 y13
   unfold wire_Right.l1
   repeat' first
   | (with_reducible exact ih0 _ _ _ _ _ _ _ _ _ _ _ _ _ _)
   | (with_reducible exact ih1 _ _ _ _ _ _ _ _ _ _ _ _ _ _)
   | (with_reducible exact LeO.refl _)
   | (with_reducible exact LeO.none _)
   | (with_reducible refine LeO.ite ?_ ?_)
   | (with_reducible refine LeO.bind ?_ (fun _ => ?_))
   | exact ih0 _ _ _ _ _ _ _ _ _ _ _ _ _ _
   | exact ih1 _ _ _ _ _ _ _ _ _ _ _ _ _ _
   | exact LeO.none _
   | refine LeO.ite ?_ ?_
   | refine LeO.bind ?_ (fun _ => ?_)
theorem wire_Right.mono : ∀ a0 a1 a2 a3 a4 a5 a6 a7 a8 a9 a10 k, LeO (wire_Right.f k a0 a1 a2 a3 a4 a5 a6 a7 a8 a9 a10) (wire_Right.f (k + 1) a0 a1 a2 a3 a4 a5 a6 a7 a8 a9 a10) := by
 intro a0 a1 a2 a3 a4 a5 a6 a7 a8 a9 a10 k
 obtain ⟨ih0, ih1⟩ := wire_Right.mono_l k
 unfold wire_Right.f
 repeat' first
  | (with_reducible exact ih0 _ _ _ _ _ _ _ _ _ _ _ _ _ _)
  | (with_reducible exact ih1 _ _ _ _ _ _ _ _ _ _ _ _ _ _)
  | (with_reducible exact LeO.refl _)
  | (with_reducible exact LeO.none _)
  | (with_reducible refine LeO.ite ?_ ?_)
  | (with_reducible refine LeO.bind ?_ (fun _ => ?_))
  | exact ih0 _ _ _ _ _ _ _ _ _ _ _ _ _ _
  | exact ih1 _ _ _ _ _ _ _ _ _ _ _ _ _ _
  | exact LeO.none _
  | refine LeO.ite ?_ ?_
  | refine LeO.bind ?_ (fun _ => ?_)
set_option maxHeartbeats 8000000 in
set_option maxRecDepth 100000 in
theorem wire_Right.calls (k : Nat) (a0_0 : Int) (a0_1 : Int) (a0_2 : Int) (a0_3 : Int) (a0_4 : Int) (a0_5 : Int) (a0_6 : Int) (a0_7 : Int) (a0_8 : Int) (a0_9 : Int) (A0_10 : Option Addr) (c0_10 : Nat) (l0_10 : List Int) (r : Bool) (w : World) (hr0_10 : Kd.C (Kd.int .i64) w A0_10 l0_10.length l0_10) (hc0_10 : l0_10.length ≤ c0_10) (h : wire_Right.f k a0_0 a0_1 a0_2 a0_3 a0_4 a0_5 a0_6 a0_7 a0_8 a0_9 l0_10 = some r) :
 Calls Try.prog 31 #[.agg #[.int .i64 a0_0, .int .i64 a0_1, .int .i64 a0_2, .int .i64 a0_3, .int .i64 a0_4, .int .i64 a0_5, .int .i64 a0_6, .int .i64 a0_7, .int .i64 a0_8, .int .i64 a0_9, .slice A0_10 l0_10.length c0_10]] w fun e w' => e = .returned (.bool r) ∧ Below w.heap.size w w' := by
 have hu31 := Try.underlying31; have HR0_10 := Aside0.mk hr0_10; have HC0_10 := Aside0.mk hc0_10; clear hr0_10 hc0_10
 have HB := Aside0.mk (Below.refl w.heap.size w)
 have H : ((wire_numbers.f a0_0 a0_1 a0_2 a0_3 a0_4 a0_5 a0_6 a0_7 a0_8 a0_9 l0_10).bind fun t121 => (wire_Right.l0 k t121 (t121.length : Int) 0 a0_0 a0_1 a0_2 a0_3 a0_4 a0_5 a0_6 a0_7 a0_8 a0_9 l0_10)) = some r := h
 clear h; replace H := Option.bind_eq_some_iff.mp H; obtain ⟨t121, A20, H⟩ := H
 replace H : (wire_Right.l0 k t121 (t121.length : Int) 0 a0_0 a0_1 a0_2 a0_3 a0_4 a0_5 a0_6 a0_7 a0_8 a0_9 l0_10) = some r := H
 have A2 := Aside0.mk A20; clear A20; have H' := Aside0.mk H; clear H
 go_enter Try.func31, Try.ntmps31
 go_wp2_with (first | ((with_reducible refine gate_dst (N := 1) rfl ?_); (try (refine gate_guard (by rfl) ?_; dsimp only)); refine box_event ?hg (N := 1) ?hd (cs := #[.int .i64 a0_0, .int .i64 a0_1, .int .i64 a0_2, .int .i64 a0_3, .int .i64 a0_4, .int .i64 a0_5, .int .i64 a0_6, .int .i64 a0_7, .int .i64 a0_8, .int .i64 a0_9, .slice A0_10 l0_10.length c0_10]) (t := 31) ?hr ?_; (case hd => rfl); (case hg => rfl); (case hr => first | (go_simp; done) | (go_simp; rfl)); intro gb120 hg w3 hbox hb; have n0_ := Aside0.mk (below_step (by repeat (first | (with_reducible first | exact HB.out | apply below_alloc | apply pw_below_drewN | apply below_drew1) | exact HB.out)) hb); have n1_ := Aside0.mk (hbox); have n2_ := Aside0.mk ((by rw [hg]; exact (below_size (by repeat (first | (with_reducible first | exact HB.out | apply below_alloc | apply pw_below_drewN | apply below_drew1) | exact HB.out))) : w.heap.size ≤ gb120)); have n3_ := Aside0.mk ((by rw [hg]; exact (below_size (by repeat (first | (with_reducible first | exact HB.out | apply below_alloc | apply pw_below_drewN | apply below_drew1) | exact HB.out))) : w.heap.size ≤ gb120)); clear HB; have HB := n0_; have BK120 := n1_; have GW120 := n2_; have GE120 := n3_; clear n0_ n1_ n2_ n3_; clear hb hbox hg; have hcz4_0 : w3.cell? ⟨gb120, 0, none⟩ = some (.int .i64 a0_0) := (blk_cell BK120.out 0).trans rfl; have hcz4_1 : w3.cell? ⟨gb120, 1, none⟩ = some (.int .i64 a0_1) := (blk_cell BK120.out 1).trans rfl; have hcz4_2 : w3.cell? ⟨gb120, 2, none⟩ = some (.int .i64 a0_2) := (blk_cell BK120.out 2).trans rfl; have hcz4_3 : w3.cell? ⟨gb120, 3, none⟩ = some (.int .i64 a0_3) := (blk_cell BK120.out 3).trans rfl; have hcz4_4 : w3.cell? ⟨gb120, 4, none⟩ = some (.int .i64 a0_4) := (blk_cell BK120.out 4).trans rfl; have hcz4_5 : w3.cell? ⟨gb120, 5, none⟩ = some (.int .i64 a0_5) := (blk_cell BK120.out 5).trans rfl; have hcz4_6 : w3.cell? ⟨gb120, 6, none⟩ = some (.int .i64 a0_6) := (blk_cell BK120.out 6).trans rfl; have hcz4_7 : w3.cell? ⟨gb120, 7, none⟩ = some (.int .i64 a0_7) := (blk_cell BK120.out 7).trans rfl; have hcz4_8 : w3.cell? ⟨gb120, 8, none⟩ = some (.int .i64 a0_8) := (blk_cell BK120.out 8).trans rfl; have hcz4_9 : w3.cell? ⟨gb120, 9, none⟩ = some (.int .i64 a0_9) := (blk_cell BK120.out 9).trans rfl; have hcz4_10 : w3.cell? ⟨gb120, 10, none⟩ = some (.slice A0_10 l0_10.length c0_10) := (blk_cell BK120.out 10).trans rfl; have hfz4_0 := blk_frozen BK120.out 0; have hfz4_1 := blk_frozen BK120.out 1; have hfz4_2 := blk_frozen BK120.out 2; have hfz4_3 := blk_frozen BK120.out 3; have hfz4_4 := blk_frozen BK120.out 4; have hfz4_5 := blk_frozen BK120.out 5; have hfz4_6 := blk_frozen BK120.out 6; have hfz4_7 := blk_frozen BK120.out 7; have hfz4_8 := blk_frozen BK120.out 8; have hfz4_9 := blk_frozen BK120.out 9; have hfz4_10 := blk_frozen BK120.out 10) | ((with_reducible refine gate_callee (f := 48) rfl ?_); refine goesL_ (some 8) rfl rfl Try.func48 (by kernel_rfl) rfl #[.agg #[.int .i64 a0_0, .int .i64 a0_1, .int .i64 a0_2, .int .i64 a0_3, .int .i64 a0_4, .int .i64 a0_5, .int .i64 a0_6, .int .i64 a0_7, .int .i64 a0_8, .int .i64 a0_9, .slice A0_10 l0_10.length c0_10]] rfl (by (try simp only [List.map_toArray, List.map_cons, List.map_nil]); first | done | rfl | (simp only [List.length_drop, List.length_take]; rfl)) ?_; (with_reducible refine (wire_numbers.calls a0_0 a0_1 a0_2 a0_3 a0_4 a0_5 a0_6 a0_7 a0_8 a0_9 _ _ l0_10 t121 _ ?side1 ?side2 A2.out).mono ?_); (case side1 => repeat (first | exact (Kd.C_below HR0_10.out HB.out) | (with_reducible refine Kd.C_alloc ?_ _) | (with_reducible refine Kd.C_drewN ?_ _) | (with_reducible refine Kd.C_drew ?_))); (case side2 => exact HC0_10.out); rintro e w5 ⟨v122, rfl, ho0, hb⟩; refine ⟨_, rfl, ?_⟩; have n0_ := Aside0.mk (Kd.R_lower ho0 (below_size (by repeat (first | (with_reducible first | exact HB.out | apply below_alloc | apply pw_below_drewN | apply below_drew1 | refine below_set ?_ GE120.out) | exact HB.out)))); have n1_ := Aside0.mk (blk_below (g := gb120) (o := .cells #[.int .i64 a0_0, .int .i64 a0_1, .int .i64 a0_2, .int .i64 a0_3, .int .i64 a0_4, .int .i64 a0_5, .int .i64 a0_6, .int .i64 a0_7, .int .i64 a0_8, .int .i64 a0_9, .slice A0_10 l0_10.length c0_10] 31 (0, 0)) (by (with_reducible repeat (first | refine blk_drewN ?_ _ | refine blk_drew ?_ | refine blk_alloc ?_ _)); exact BK120.out) hb); have n2_ := Aside0.mk (below_step (by repeat (first | (with_reducible first | exact HB.out | apply below_alloc | apply pw_below_drewN | apply below_drew1 | refine below_set ?_ GE120.out) | exact HB.out)) hb); clear BK120; clear HB; have HO123 := n0_; have BK120 := n1_; have HB := n2_; clear n0_ n1_ n2_; (try clear hb); (try clear hb2); (try clear hk); (try clear hi); (try clear ho0); obtain ⟨Ao6, co6, eo6⟩ := Kd.R_slice HO123.out; subst eo6))
 go_loopg [10] k (fun kq v10 w' => ∃ (x10_1 : Int), v10 = .int .i64 x10_1 ∧ Aside0 (wire_Right.l0 kq t121 (t121.length : Int) x10_1 a0_0 a0_1 a0_2 a0_3 a0_4 a0_5 a0_6 a0_7 a0_8 a0_9 l0_10 = some r) ∧ Aside0 (kq ≤ k) ∧ Aside0 (Kd.R (Kd.int .i64) 3 w' w.heap.size (fun _ => True) (.slice Ao6 t121.length co6) t121) ∧ Aside0 (w'.heap[gb120]? = some (.cells #[.int .i64 a0_0, .int .i64 a0_1, .int .i64 a0_2, .int .i64 a0_3, .int .i64 a0_4, .int .i64 a0_5, .int .i64 a0_6, .int .i64 a0_7, .int .i64 a0_8, .int .i64 a0_9, (.slice A0_10 l0_10.length c0_10)] 31 (0, 0))) ∧ Aside0 (Below w.heap.size w w'))
 case atStart => exact ⟨(0), (by first | rfl | (simp; done) | (simp [*]; done)), H', ⟨Nat.le_refl _⟩, ⟨by (with_reducible repeat (first | apply Kd.R_alloc | apply Kd.R_drewN | apply Kd.R_drew)); exact HO123.out⟩, ⟨by (with_reducible repeat (first | refine blk_drewN ?_ _ | refine blk_drew ?_ | refine blk_alloc ?_ _)); exact BK120.out⟩, ⟨by repeat (first | (with_reducible first | exact HB.out | apply below_alloc | apply pw_below_drewN | apply below_drew1 | refine below_set ?_ GE120.out) | exact HB.out)⟩⟩
 case round =>
  clear H'; try clear p2; try clear c3; try clear c4; try clear hcz4_0; try clear hcz4_1; try clear hcz4_10; try clear hcz4_2; try clear hcz4_3; try clear hcz4_4; try clear hcz4_5; try clear hcz4_6; try clear hcz4_7; try clear hcz4_8; try clear hcz4_9; try clear hfz4_0; try clear hfz4_1; try clear hfz4_10; try clear hfz4_2; try clear hfz4_3; try clear hfz4_4; try clear hfz4_5; try clear hfz4_6; try clear hfz4_7; try clear hfz4_8; try clear hfz4_9
  obtain ⟨x10_1, rfl, HA, HK1, HO_8, BK120, HB⟩ := hrel
  cases gk with
  | zero => exact absurd HA.out (by simp [wire_Right.l0])
  | succ k1 =>
   have H := HA.out; clear HA
   simp only [wire_Right.l0] at H
   by_cases c7 : x10_1 < (t121.length : Int)
   ·
    rw [if_pos c7] at H
    have c7b0 : decide (x10_1 < (t121.length : Int)) = true := decide_eq_true c7
    clear c7
    by_cases c8 : 0 ≤ x10_1
    ·
     rw [if_pos c8] at H
     have c8b0 : decide (0 ≤ x10_1) = true := decide_eq_true c8
     clear c8
     by_cases c9 : x10_1 < (t121.length : Int)
     ·
      rw [if_pos c9] at H
      have c9b0 : decide (x10_1 < (t121.length : Int)) = true := decide_eq_true c9
      clear c9
      by_cases c10 : (rd t121 x10_1) < 0
      ·
       rw [if_pos c10] at H
       have c10b0 : decide ((rd t121 x10_1) < 0) = true := decide_eq_true c10
       clear c10
       obtain rfl := Option.some.inj H
       have p124 : 0 ≤ (x10_1 : Int) := of_decide_eq_true (by first | (with_reducible assumption) | assumption)
       have q124 : x10_1 < (t121.length : Int) := of_decide_eq_true (by first | (with_reducible assumption) | assumption)
       obtain ⟨ad124, e124, hx124_0⟩ := Kd.at_int (Kd.R_reads' HO_8.out).2.2 x10_1 p124 q124
       cases e124; replace p124 := eq_true p124; replace q124 := eq_true q124
       go_wp2
       go_ret
       exact ⟨by first | rfl | (simp [errW_none, errW_some] <;> rfl) | (simp [*, errW_none, errW_some] <;> rfl), by repeat (first | (with_reducible first | exact HB.out | apply below_alloc | apply pw_below_drewN | apply below_drew1 | refine below_set ?_ GE120.out) | exact HB.out)⟩
      ·
       rw [if_neg c10] at H
       have c10b0 : decide ((rd t121 x10_1) < 0) = false := decide_eq_false c10
       clear c10
       by_cases c11 : (rd t121 x10_1) > 2147483647
       ·
        rw [if_pos c11] at H
        have c11b0 : decide (2147483647 < (rd t121 x10_1)) = true := decide_eq_true c11
        clear c11
        obtain rfl := Option.some.inj H
        have p124 : 0 ≤ (x10_1 : Int) := of_decide_eq_true (by first | (with_reducible assumption) | assumption)
        have q124 : x10_1 < (t121.length : Int) := of_decide_eq_true (by first | (with_reducible assumption) | assumption)
        obtain ⟨ad124, e124, hx124_0⟩ := Kd.at_int (Kd.R_reads' HO_8.out).2.2 x10_1 p124 q124
        cases e124; replace p124 := eq_true p124; replace q124 := eq_true q124
        go_wp2
        go_ret
        exact ⟨by first | rfl | (simp [errW_none, errW_some] <;> rfl) | (simp [*, errW_none, errW_some] <;> rfl), by repeat (first | (with_reducible first | exact HB.out | apply below_alloc | apply pw_below_drewN | apply below_drew1 | refine below_set ?_ GE120.out) | exact HB.out)⟩
       ·
        rw [if_neg c11] at H
        have c11b0 : decide (2147483647 < (rd t121 x10_1)) = false := decide_eq_false c11
        clear c11; have H' := Aside0.mk H; clear H
        have p124 : 0 ≤ (x10_1 : Int) := of_decide_eq_true (by first | (with_reducible assumption) | assumption)
        have q124 : x10_1 < (t121.length : Int) := of_decide_eq_true (by first | (with_reducible assumption) | assumption)
        obtain ⟨ad124, e124, hx124_0⟩ := Kd.at_int (Kd.R_reads' HO_8.out).2.2 x10_1 p124 q124
        cases e124; replace p124 := eq_true p124; replace q124 := eq_true q124
        go_wp2
        go_roundg k1
        case measure => have := HK1.out; omega
        case rel => exact ⟨(wrap64 (x10_1 + 1)), (by first | rfl | (simp; done) | (simp [*]; done)), H', ⟨by have := HK1.out; omega⟩, ⟨by (with_reducible repeat (first | apply Kd.R_alloc | apply Kd.R_drewN | apply Kd.R_drew)); exact HO_8.out⟩, ⟨by (with_reducible repeat (first | refine blk_drewN ?_ _ | refine blk_drew ?_ | refine blk_alloc ?_ _)); exact BK120.out⟩, ⟨by repeat (first | (with_reducible first | exact HB.out | apply below_alloc | apply pw_below_drewN | apply below_drew1 | refine below_set ?_ GE120.out) | exact HB.out)⟩⟩
     ·
      rw [if_neg c9] at H
      exact absurd H (by simp)
    ·
     rw [if_neg c8] at H
     exact absurd H (by simp)
   ·
    rw [if_neg c7] at H
    have c7b0 : decide (x10_1 < (t121.length : Int)) = false := decide_eq_false c7
    clear c7; have H' := Aside0.mk H; clear H
    have hcz12_0 : wr.cell? ⟨gb120, 0, none⟩ = some (.int .i64 a0_0) := (blk_cell BK120.out 0).trans rfl
    have hcz12_1 : wr.cell? ⟨gb120, 1, none⟩ = some (.int .i64 a0_1) := (blk_cell BK120.out 1).trans rfl
    have hcz12_2 : wr.cell? ⟨gb120, 2, none⟩ = some (.int .i64 a0_2) := (blk_cell BK120.out 2).trans rfl
    have hcz12_3 : wr.cell? ⟨gb120, 3, none⟩ = some (.int .i64 a0_3) := (blk_cell BK120.out 3).trans rfl
    have hcz12_4 : wr.cell? ⟨gb120, 4, none⟩ = some (.int .i64 a0_4) := (blk_cell BK120.out 4).trans rfl
    have hcz12_5 : wr.cell? ⟨gb120, 5, none⟩ = some (.int .i64 a0_5) := (blk_cell BK120.out 5).trans rfl
    have hcz12_6 : wr.cell? ⟨gb120, 6, none⟩ = some (.int .i64 a0_6) := (blk_cell BK120.out 6).trans rfl
    have hcz12_7 : wr.cell? ⟨gb120, 7, none⟩ = some (.int .i64 a0_7) := (blk_cell BK120.out 7).trans rfl
    have hcz12_8 : wr.cell? ⟨gb120, 8, none⟩ = some (.int .i64 a0_8) := (blk_cell BK120.out 8).trans rfl
    have hcz12_9 : wr.cell? ⟨gb120, 9, none⟩ = some (.int .i64 a0_9) := (blk_cell BK120.out 9).trans rfl
    have hcz12_10 : wr.cell? ⟨gb120, 10, none⟩ = some (.slice A0_10 l0_10.length c0_10) := (blk_cell BK120.out 10).trans rfl
    have hfz12_0 := blk_frozen BK120.out 0
    have hfz12_1 := blk_frozen BK120.out 1
    have hfz12_2 := blk_frozen BK120.out 2
    have hfz12_3 := blk_frozen BK120.out 3
    have hfz12_4 := blk_frozen BK120.out 4
    have hfz12_5 := blk_frozen BK120.out 5
    have hfz12_6 := blk_frozen BK120.out 6
    have hfz12_7 := blk_frozen BK120.out 7
    have hfz12_8 := blk_frozen BK120.out 8
    have hfz12_9 := blk_frozen BK120.out 9
    have hfz12_10 := blk_frozen BK120.out 10
    go_wp2
    go_loopg [24] k1 (fun kq v24 w' => ∃ (x24_2 : Int), v24 = .int .i64 x24_2 ∧ Aside0 (wire_Right.l1 kq l0_10 (l0_10.length : Int) x24_2 a0_0 a0_1 a0_2 a0_3 a0_4 a0_5 a0_6 a0_7 a0_8 a0_9 l0_10 = some r) ∧ Aside0 (kq ≤ k1) ∧ Aside0 (w'.heap[gb120]? = some (.cells #[.int .i64 a0_0, .int .i64 a0_1, .int .i64 a0_2, .int .i64 a0_3, .int .i64 a0_4, .int .i64 a0_5, .int .i64 a0_6, .int .i64 a0_7, .int .i64 a0_8, .int .i64 a0_9, (.slice A0_10 l0_10.length c0_10)] 31 (0, 0))) ∧ Aside0 (Below w.heap.size w w'))
    case atStart => exact ⟨(0), (by first | rfl | (simp; done) | (simp [*]; done)), H', ⟨Nat.le_refl _⟩, ⟨by (with_reducible repeat (first | refine blk_drewN ?_ _ | refine blk_drew ?_ | refine blk_alloc ?_ _)); exact BK120.out⟩, ⟨by repeat (first | (with_reducible first | exact HB.out | apply below_alloc | apply pw_below_drewN | apply below_drew1 | refine below_set ?_ GE120.out) | exact HB.out)⟩⟩
    case round =>
     clear H'; try clear c1; try clear p1; try clear q1; try clear hx1; try clear p2; try clear c3; try clear c4; try clear p6; try clear c7; try clear c7b0; try clear c8; try clear c8b0; try clear c9; try clear c9b0; try clear c10; try clear c10b0; try clear c11; try clear c11b0; try clear p12; try clear q12; try clear hx12; try clear hcz12_0; try clear hcz12_1; try clear hcz12_10; try clear hcz12_2; try clear hcz12_3; try clear hcz12_4; try clear hcz12_5; try clear hcz12_6; try clear hcz12_7; try clear hcz12_8; try clear hcz12_9; try clear hcz4_0; try clear hcz4_1; try clear hcz4_10; try clear hcz4_2; try clear hcz4_3; try clear hcz4_4; try clear hcz4_5; try clear hcz4_6; try clear hcz4_7; try clear hcz4_8; try clear hcz4_9; try clear hfz12_0; try clear hfz12_1; try clear hfz12_10; try clear hfz12_2; try clear hfz12_3; try clear hfz12_4; try clear hfz12_5; try clear hfz12_6; try clear hfz12_7; try clear hfz12_8; try clear hfz12_9; try clear hfz4_0; try clear hfz4_1; try clear hfz4_10; try clear hfz4_2; try clear hfz4_3; try clear hfz4_4; try clear hfz4_5; try clear hfz4_6; try clear hfz4_7; try clear hfz4_8; try clear hfz4_9; try clear hx124_0; try clear p124; try clear p2; try clear q124
     obtain ⟨x24_2, rfl, HA, HK2, BK120, HB⟩ := hrel
     cases gk with
     | zero => exact absurd HA.out (by simp [wire_Right.l1])
     | succ k2 =>
      have H := HA.out; clear HA
      simp only [wire_Right.l1] at H
      by_cases c13 : x24_2 < (l0_10.length : Int)
      ·
       rw [if_pos c13] at H
       have c13b0 : decide (x24_2 < (l0_10.length : Int)) = true := decide_eq_true c13
       clear c13
       by_cases c14 : 0 ≤ x24_2
       ·
        rw [if_pos c14] at H
        have c14b0 : decide (0 ≤ x24_2) = true := decide_eq_true c14
        clear c14
        by_cases c15 : x24_2 < (l0_10.length : Int)
        ·
         rw [if_pos c15] at H
         have c15b0 : decide (x24_2 < (l0_10.length : Int)) = true := decide_eq_true c15
         clear c15
         by_cases c16 : (rd l0_10 x24_2) < (-2147483648)
         ·
          rw [if_pos c16] at H
          have c16b0 : decide ((rd l0_10 x24_2) < (-2147483648)) = true := decide_eq_true c16
          clear c16
          obtain rfl := Option.some.inj H
          have p125 : 0 ≤ (x24_2 : Int) := of_decide_eq_true (by first | (with_reducible assumption) | assumption)
          have q125 : x24_2 < (l0_10.length : Int) := of_decide_eq_true (by first | (with_reducible assumption) | assumption)
          obtain ⟨ad125, e125, hx125_0⟩ := Kd.at_int HR0_10.out x24_2 p125 q125
          cases e125
          replace hx125_0 := (HB.out.cell (World.block_lt_of_cell? w _ hx125_0)).trans hx125_0
          replace p125 := eq_true p125; replace q125 := eq_true q125
          go_wp2
          go_ret
          exact ⟨by first | rfl | (simp [errW_none, errW_some] <;> rfl) | (simp [*, errW_none, errW_some] <;> rfl), by repeat (first | (with_reducible first | exact HB.out | apply below_alloc | apply pw_below_drewN | apply below_drew1 | refine below_set ?_ GE120.out) | exact HB.out)⟩
         ·
          rw [if_neg c16] at H
          have c16b0 : decide ((rd l0_10 x24_2) < (-2147483648)) = false := decide_eq_false c16
          clear c16
          by_cases c17 : (rd l0_10 x24_2) > 2147483647
          ·
           rw [if_pos c17] at H
           have c17b0 : decide (2147483647 < (rd l0_10 x24_2)) = true := decide_eq_true c17
           clear c17
           obtain rfl := Option.some.inj H
           have p125 : 0 ≤ (x24_2 : Int) := of_decide_eq_true (by first | (with_reducible assumption) | assumption)
           have q125 : x24_2 < (l0_10.length : Int) := of_decide_eq_true (by first | (with_reducible assumption) | assumption)
           obtain ⟨ad125, e125, hx125_0⟩ := Kd.at_int HR0_10.out x24_2 p125 q125
           cases e125
           replace hx125_0 := (HB.out.cell (World.block_lt_of_cell? w _ hx125_0)).trans hx125_0
           replace p125 := eq_true p125; replace q125 := eq_true q125
           go_wp2
           go_ret
           exact ⟨by first | rfl | (simp [errW_none, errW_some] <;> rfl) | (simp [*, errW_none, errW_some] <;> rfl), by repeat (first | (with_reducible first | exact HB.out | apply below_alloc | apply pw_below_drewN | apply below_drew1 | refine below_set ?_ GE120.out) | exact HB.out)⟩
          ·
           rw [if_neg c17] at H
           have c17b0 : decide (2147483647 < (rd l0_10 x24_2)) = false := decide_eq_false c17
           clear c17; have H' := Aside0.mk H; clear H
           have p125 : 0 ≤ (x24_2 : Int) := of_decide_eq_true (by first | (with_reducible assumption) | assumption)
           have q125 : x24_2 < (l0_10.length : Int) := of_decide_eq_true (by first | (with_reducible assumption) | assumption)
           obtain ⟨ad125, e125, hx125_0⟩ := Kd.at_int HR0_10.out x24_2 p125 q125
           cases e125
           replace hx125_0 := (HB.out.cell (World.block_lt_of_cell? w _ hx125_0)).trans hx125_0
           replace p125 := eq_true p125; replace q125 := eq_true q125
           go_wp2
           go_roundg k2
           case measure => have := HK1.out; have := HK2.out; omega
           case rel => exact ⟨(wrap64 (x24_2 + 1)), (by first | rfl | (simp; done) | (simp [*]; done)), H', ⟨by have := HK1.out; have := HK2.out; omega⟩, ⟨by (with_reducible repeat (first | refine blk_drewN ?_ _ | refine blk_drew ?_ | refine blk_alloc ?_ _)); exact BK120.out⟩, ⟨by repeat (first | (with_reducible first | exact HB.out | apply below_alloc | apply pw_below_drewN | apply below_drew1 | refine below_set ?_ GE120.out) | exact HB.out)⟩⟩
        ·
         rw [if_neg c15] at H
         exact absurd H (by simp)
       ·
        rw [if_neg c14] at H
        exact absurd H (by simp)
      ·
       rw [if_neg c13] at H
       have c13b0 : decide (x24_2 < (l0_10.length : Int)) = false := decide_eq_false c13
       clear c13
       by_cases c18 : a0_0 ≥ 1
       ·
        rw [if_pos c18] at H
        have c18b0 : decide (1 ≤ a0_0) = true := decide_eq_true c18
        clear c18
        by_cases c19 : a0_0 ≤ 4
        ·
         rw [if_pos c19] at H
         have c19b0 : decide (a0_0 ≤ 4) = true := decide_eq_true c19
         clear c19
         obtain rfl := Option.some.inj H
         have hcz20_0 : wr.cell? ⟨gb120, 0, none⟩ = some (.int .i64 a0_0) := (blk_cell BK120.out 0).trans rfl
         have hcz20_1 : wr.cell? ⟨gb120, 1, none⟩ = some (.int .i64 a0_1) := (blk_cell BK120.out 1).trans rfl
         have hcz20_2 : wr.cell? ⟨gb120, 2, none⟩ = some (.int .i64 a0_2) := (blk_cell BK120.out 2).trans rfl
         have hcz20_3 : wr.cell? ⟨gb120, 3, none⟩ = some (.int .i64 a0_3) := (blk_cell BK120.out 3).trans rfl
         have hcz20_4 : wr.cell? ⟨gb120, 4, none⟩ = some (.int .i64 a0_4) := (blk_cell BK120.out 4).trans rfl
         have hcz20_5 : wr.cell? ⟨gb120, 5, none⟩ = some (.int .i64 a0_5) := (blk_cell BK120.out 5).trans rfl
         have hcz20_6 : wr.cell? ⟨gb120, 6, none⟩ = some (.int .i64 a0_6) := (blk_cell BK120.out 6).trans rfl
         have hcz20_7 : wr.cell? ⟨gb120, 7, none⟩ = some (.int .i64 a0_7) := (blk_cell BK120.out 7).trans rfl
         have hcz20_8 : wr.cell? ⟨gb120, 8, none⟩ = some (.int .i64 a0_8) := (blk_cell BK120.out 8).trans rfl
         have hcz20_9 : wr.cell? ⟨gb120, 9, none⟩ = some (.int .i64 a0_9) := (blk_cell BK120.out 9).trans rfl
         have hcz20_10 : wr.cell? ⟨gb120, 10, none⟩ = some (.slice A0_10 l0_10.length c0_10) := (blk_cell BK120.out 10).trans rfl
         have hfz20_0 := blk_frozen BK120.out 0
         have hfz20_1 := blk_frozen BK120.out 1
         have hfz20_2 := blk_frozen BK120.out 2
         have hfz20_3 := blk_frozen BK120.out 3
         have hfz20_4 := blk_frozen BK120.out 4
         have hfz20_5 := blk_frozen BK120.out 5
         have hfz20_6 := blk_frozen BK120.out 6
         have hfz20_7 := blk_frozen BK120.out 7
         have hfz20_8 := blk_frozen BK120.out 8
         have hfz20_9 := blk_frozen BK120.out 9
         have hfz20_10 := blk_frozen BK120.out 10
         go_wp2
         go_ret
         exact ⟨by first | rfl | (simp [errW_none, errW_some] <;> rfl) | (simp [*, errW_none, errW_some] <;> rfl), by repeat (first | (with_reducible first | exact HB.out | apply below_alloc | apply pw_below_drewN | apply below_drew1 | refine below_set ?_ GE120.out) | exact HB.out)⟩
        ·
         rw [if_neg c19] at H
         have c19b0 : decide (a0_0 ≤ 4) = false := decide_eq_false c19
         clear c19
         obtain rfl := Option.some.inj H
         have hcz21_0 : wr.cell? ⟨gb120, 0, none⟩ = some (.int .i64 a0_0) := (blk_cell BK120.out 0).trans rfl
         have hcz21_1 : wr.cell? ⟨gb120, 1, none⟩ = some (.int .i64 a0_1) := (blk_cell BK120.out 1).trans rfl
         have hcz21_2 : wr.cell? ⟨gb120, 2, none⟩ = some (.int .i64 a0_2) := (blk_cell BK120.out 2).trans rfl
         have hcz21_3 : wr.cell? ⟨gb120, 3, none⟩ = some (.int .i64 a0_3) := (blk_cell BK120.out 3).trans rfl
         have hcz21_4 : wr.cell? ⟨gb120, 4, none⟩ = some (.int .i64 a0_4) := (blk_cell BK120.out 4).trans rfl
         have hcz21_5 : wr.cell? ⟨gb120, 5, none⟩ = some (.int .i64 a0_5) := (blk_cell BK120.out 5).trans rfl
         have hcz21_6 : wr.cell? ⟨gb120, 6, none⟩ = some (.int .i64 a0_6) := (blk_cell BK120.out 6).trans rfl
         have hcz21_7 : wr.cell? ⟨gb120, 7, none⟩ = some (.int .i64 a0_7) := (blk_cell BK120.out 7).trans rfl
         have hcz21_8 : wr.cell? ⟨gb120, 8, none⟩ = some (.int .i64 a0_8) := (blk_cell BK120.out 8).trans rfl
         have hcz21_9 : wr.cell? ⟨gb120, 9, none⟩ = some (.int .i64 a0_9) := (blk_cell BK120.out 9).trans rfl
         have hcz21_10 : wr.cell? ⟨gb120, 10, none⟩ = some (.slice A0_10 l0_10.length c0_10) := (blk_cell BK120.out 10).trans rfl
         have hfz21_0 := blk_frozen BK120.out 0
         have hfz21_1 := blk_frozen BK120.out 1
         have hfz21_2 := blk_frozen BK120.out 2
         have hfz21_3 := blk_frozen BK120.out 3
         have hfz21_4 := blk_frozen BK120.out 4
         have hfz21_5 := blk_frozen BK120.out 5
         have hfz21_6 := blk_frozen BK120.out 6
         have hfz21_7 := blk_frozen BK120.out 7
         have hfz21_8 := blk_frozen BK120.out 8
         have hfz21_9 := blk_frozen BK120.out 9
         have hfz21_10 := blk_frozen BK120.out 10
         go_wp2
         go_ret
         exact ⟨by first | rfl | (simp [errW_none, errW_some] <;> rfl) | (simp [*, errW_none, errW_some] <;> rfl), by repeat (first | (with_reducible first | exact HB.out | apply below_alloc | apply pw_below_drewN | apply below_drew1 | refine below_set ?_ GE120.out) | exact HB.out)⟩
       ·
        rw [if_neg c18] at H
        have c18b0 : decide (1 ≤ a0_0) = false := decide_eq_false c18
        clear c18
        obtain rfl := Option.some.inj H
        have hcz22_0 : wr.cell? ⟨gb120, 0, none⟩ = some (.int .i64 a0_0) := (blk_cell BK120.out 0).trans rfl
        have hcz22_1 : wr.cell? ⟨gb120, 1, none⟩ = some (.int .i64 a0_1) := (blk_cell BK120.out 1).trans rfl
        have hcz22_2 : wr.cell? ⟨gb120, 2, none⟩ = some (.int .i64 a0_2) := (blk_cell BK120.out 2).trans rfl
        have hcz22_3 : wr.cell? ⟨gb120, 3, none⟩ = some (.int .i64 a0_3) := (blk_cell BK120.out 3).trans rfl
        have hcz22_4 : wr.cell? ⟨gb120, 4, none⟩ = some (.int .i64 a0_4) := (blk_cell BK120.out 4).trans rfl
        have hcz22_5 : wr.cell? ⟨gb120, 5, none⟩ = some (.int .i64 a0_5) := (blk_cell BK120.out 5).trans rfl
        have hcz22_6 : wr.cell? ⟨gb120, 6, none⟩ = some (.int .i64 a0_6) := (blk_cell BK120.out 6).trans rfl
        have hcz22_7 : wr.cell? ⟨gb120, 7, none⟩ = some (.int .i64 a0_7) := (blk_cell BK120.out 7).trans rfl
        have hcz22_8 : wr.cell? ⟨gb120, 8, none⟩ = some (.int .i64 a0_8) := (blk_cell BK120.out 8).trans rfl
        have hcz22_9 : wr.cell? ⟨gb120, 9, none⟩ = some (.int .i64 a0_9) := (blk_cell BK120.out 9).trans rfl
        have hcz22_10 : wr.cell? ⟨gb120, 10, none⟩ = some (.slice A0_10 l0_10.length c0_10) := (blk_cell BK120.out 10).trans rfl
        have hfz22_0 := blk_frozen BK120.out 0
        have hfz22_1 := blk_frozen BK120.out 1
        have hfz22_2 := blk_frozen BK120.out 2
        have hfz22_3 := blk_frozen BK120.out 3
        have hfz22_4 := blk_frozen BK120.out 4
        have hfz22_5 := blk_frozen BK120.out 5
        have hfz22_6 := blk_frozen BK120.out 6
        have hfz22_7 := blk_frozen BK120.out 7
        have hfz22_8 := blk_frozen BK120.out 8
        have hfz22_9 := blk_frozen BK120.out 9
        have hfz22_10 := blk_frozen BK120.out 10
        go_wp2
        go_ret
        exact ⟨by first | rfl | (simp [errW_none, errW_some] <;> rfl) | (simp [*, errW_none, errW_some] <;> rfl), by repeat (first | (with_reducible first | exact HB.out | apply below_alloc | apply pw_below_drewN | apply below_drew1 | refine below_set ?_ GE120.out) | exact HB.out)⟩

/-! ### model_Tokens: function 32 (given by hand) -/
set_option maxHeartbeats 8000000 in
set_option maxRecDepth 100000 in
theorem model_Tokens_1_1.calls (x : Int) (W : World) :
 Calls Try.prog 52 #[.int .i64 x] W fun e w' => e = .returned (.bool (notHeld x)) ∧ Below W.heap.size W w' := by
 unfold notHeld
 by_cases c : holdR x = x
 ·
  have e : decide (¬ holdR x = x) = false := by simp [c]
  rw [e]
  have hq : (holdR x == x) = true := beq_iff_eq.2 c
  have hq2 : (holdR x != x) = false := by rw [bne, hq]; rfl
  clear c e
  go_enter Try.func52, Try.ntmps52
  go_wp2_with (go_at_call 53; refine (fix_Hold.calls x (holdR x) _ (holdR_f _)).mono ?_; rintro e w' ⟨rfl, hb⟩)
  go_ret
  exact ⟨rfl, hb⟩
 ·
  have e : decide (¬ holdR x = x) = true := by simp [c]
  rw [e]
  have hq : (holdR x == x) = false := beq_eq_false_iff_ne.2 c
  have hq2 : (holdR x != x) = true := by rw [bne, hq]; rfl
  clear c e
  go_enter Try.func52, Try.ntmps52
  go_wp2_with (go_at_call 53; refine (fix_Hold.calls x (holdR x) _ (holdR_f _)).mono ?_; rintro e w' ⟨rfl, hb⟩)
  go_ret
  exact ⟨rfl, hb⟩
set_option maxHeartbeats 8000000 in
set_option maxRecDepth 100000 in
theorem model_Tokens_1.calls (A : Option Addr) (c : Nat) (r : List Int) (n : Int) (B : Nat) (W : World) (hr : Kd.C (Kd.int .i64) W A r.length r) (hx : W.cell? ⟨B, 0, none⟩ = some (.int .i64 n)) :
 Calls Try.prog 50 #[.slice A r.length c, .pointer (some ⟨B, 0, none⟩)] W fun e w' => e = .returned (.bool (rowWrong n r)) ∧ Below W.heap.size W w' := by
 have HR := Aside0.mk hr; have hu2 := Try.underlying24; clear hr
 unfold rowWrong
 by_cases k : (r.length : Int) = n
 ·
  have e : decide (¬ ((r.length : Int) = n)) = false := by simp [k]
  rw [e, Bool.false_or]
  have hq : ((r.length : Int) == n) = true := beq_iff_eq.2 k
  have hq2 : ((r.length : Int) != n) = false := by rw [bne, hq]; rfl
  clear k e
  go_enter Try.func50, Try.ntmps50
  go_wp2_with (go_at_call 51; refine (has51_calls (Kd.int .i64) rfl 52 Try.func52 rfl rfl #[] notHeld A c r _ HR.out ?s2).mono ?_; (case s2 => (intro x v W' _ hk _; obtain rfl : v = .int .i64 x := (List.cons.inj hk).1; exact model_Tokens_1_1.calls x W')); rintro e w1 ⟨rfl, hb⟩; have HB := Aside0.mk hb; clear hb)
  go_ret
  exact ⟨rfl, HB.out⟩
 ·
  have e : decide (¬ ((r.length : Int) = n)) = true := by simp [k]
  rw [e, Bool.true_or]
  have hq : ((r.length : Int) == n) = false := beq_eq_false_iff_ne.2 k
  have hq2 : ((r.length : Int) != n) = true := by rw [bne, hq]; rfl
  clear k e
  go_enter Try.func50, Try.ntmps50
  go_wp2
  go_ret
  exact ⟨rfl, Below.refl _ _⟩
/-- Are tokens right? -/
def tokOk (n : Int) (l : List (List Int)) : Bool := if (l.length : Int) ≥ 1 then (if (l.length : Int) ≤ 16 then !(l.any (rowWrong n)) else false) else false
def model_Tokens.f (a0_0 : Int) (l0_1 : List S61) (l1 : List (List Int)) : Option Bool := some (tokOk a0_0 l1)
set_option maxHeartbeats 8000000 in
set_option maxRecDepth 100000 in
theorem model_Tokens.calls (a0_0 : Int) (A0_1 : Option Addr) (c0_1 : Nat) (l0_1 : List S61) (A1 : Option Addr) (c1 : Nat) (l1 : List (List Int)) (r : Bool) (w : World) (hr0_1 : Kd.C k61 w A0_1 l0_1.length l0_1) (hc0_1 : l0_1.length ≤ c0_1) (hr1 : Kd.C (Kd.slice 3 (Kd.int .i64)) w A1 l1.length l1) (hc1 : l1.length ≤ c1) (h : model_Tokens.f a0_0 l0_1 l1 = some r) :
 Calls Try.prog 32 #[.agg #[.int .i64 a0_0, .slice A0_1 l0_1.length c0_1], .slice A1 l1.length c1] w fun e w' => e = .returned (.bool r) ∧ Below w.heap.size w w' := by
 have hmf : ∀ (fn : Fn) (first cap : Array Value) (w : World), (Instr.makeFunc fn first cap).run Try.prog w = .ok (.func fn first cap) w := fun _ _ _ _ => rfl
 have hu := Try.underlying24
 unfold model_Tokens.f at h
 obtain rfl := Option.some.inj h
 have H1 := Aside0.mk hr1; have L1 := Aside0.mk hc1; clear hr0_1 hc0_1 hr1 hc1 h
 unfold tokOk
 by_cases c0_ : (l1.length : Int) ≥ 1
 case neg =>
  rw [if_neg c0_]
  have k0_0 : decide (1 ≤ (l1.length : Int)) = false := decide_eq_false (by omega); have k0_1 : decide (1 ≤ l1.length) = false := decide_eq_false (by omega); clear c0_
  go_enter Try.func32, Try.ntmps32
  go_wp2
  go_ret
  exact ⟨rfl, below_alloc (Below.refl _ _) _⟩
 rw [if_pos c0_]
 have k0_0 : decide (1 ≤ (l1.length : Int)) = true := decide_eq_true (by omega); have k0_1 : decide (1 ≤ l1.length) = true := decide_eq_true (by omega); clear c0_
 by_cases c1_ : (l1.length : Int) ≤ 16
 case neg =>
  rw [if_neg c1_]
  have k1_0 : decide ((l1.length : Int) ≤ 16) = false := decide_eq_false (by omega); have k1_1 : decide (l1.length ≤ 16) = false := decide_eq_false (by omega); clear c1_
  go_enter Try.func32, Try.ntmps32
  go_wp2
  go_ret
  exact ⟨rfl, below_alloc (Below.refl _ _) _⟩
 rw [if_pos c1_]
 have k1_0 : decide ((l1.length : Int) ≤ 16) = true := decide_eq_true (by omega); have k1_1 : decide (l1.length ≤ 16) = true := decide_eq_true (by omega); clear c1_
 cases hany : l1.any (rowWrong a0_0)
 all_goals
  have HANY := Aside0.mk hany; clear hany
  go_enter Try.func32, Try.ntmps32
  go_wp2_with (go_at_call 49; refine (has49_calls (Kd.slice 3 (Kd.int .i64)) rfl 50 Try.func50 rfl rfl #[.pointer (some ⟨w.heap.size, 0, none⟩)] (rowWrong a0_0) A1 c1 l1 _ ?s1 ?s2).mono ?_; (case s1 => exact Kd.C_alloc H1.out _); (case s2 => (intro x v W' _ hk hb; obtain ⟨A, c, hv, _, hc⟩ := hk; obtain rfl : v = .slice A x.length c := (List.cons.inj hv).1; exact model_Tokens_1.calls A c x a0_0 w.heap.size W' (Kd.C_below hc hb) ((hb.cell (p := ⟨w.heap.size, 0, none⟩) (by simp)).trans (by rw [World.cell?_alloc_at _ _ _ _ rfl]; rfl)))); rw [HANY.out]; rintro e w1 ⟨rfl, hb⟩; have HB := Aside0.mk hb; clear hb)
  go_ret
  exact ⟨rfl, (below_alloc (Below.refl _ _) _).trans (HB.out.mono (by simp))⟩

end Go.Proofs.Ytabklpdjjoaocaa.Qy
