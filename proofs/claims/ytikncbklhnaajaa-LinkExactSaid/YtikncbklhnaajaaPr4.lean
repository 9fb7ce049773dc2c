-- Laid by wip/xprint.py, a program of this session that runs the kit's print with some contracts given by hand; not a text of print.sh. Lean checks it.
import Derived.Test.YtikncbklhnaajaaPr0
namespace Go.Proofs.Ytikncbklhnaajaa.Pr
open Go.RowKit Go.Proofs.YtikncbklhnaajaaW.PrintWords Go.Proofs.YtikncbklhnaajaaW.PrintLast Go.Proofs.YtikncbklhnaajaaW.PrintMore
attribute [local go_sem] max2_int min2_int max_two min_two max_three min_three max_four min_four   -- for this text's walks alone
set_option linter.unusedVariables false
set_option linter.unusedSimpArgs false

/-! ### switchboardref10_Right: function 15 -/
def switchboardref10_Right.l0 : Nat → Int → Int → List (S40) → Option (Bool)
  | 0, _, _, _ => none
  | k + 1, x3, x159000, x159001 => if x3 < (x159001.length : Int) then (if 0 ≤ x3 then (if ((rd_T40 x159001 x3).f0) < 0 then (some false) else (if ((rd_T40 x159001 x3).f0) ≥ x159000 then (some false) else (if x3 > 0 then (if 0 ≤ (wrap64 (x3 - 1)) then (if (wrap64 (x3 - 1)) < (x159001.length : Int) then (if ((rd_T40 x159001 x3).f0) ≤ ((rd_T40 x159001 (wrap64 (x3 - 1))).f0) then (some false) else (switchboardref10_Right.l0 k (wrap64 (x3 + 1)) x159000 x159001)) else (none)) else (none)) else (switchboardref10_Right.l0 k (wrap64 (x3 + 1)) x159000 x159001)))) else (none)) else (if x159000 ≥ 0 then (if x159000 < 2147483648 then (some (decide ((x159001.length : Int) < 65))) else (some false)) else (some false))
def switchboardref10_Right.f (k : Nat) (a0_0 : Int) (l0_1 : List (S40)) : Option (Bool) := switchboardref10_Right.l0 k 0 a0_0 l0_1
theorem switchboardref10_Right.mono_l : ∀ k, (∀ y0 y1 y2, LeO (switchboardref10_Right.l0 k y0 y1 y2) (switchboardref10_Right.l0 (k + 1) y0 y1 y2))
  | 0 => fun _ _ _ r h => by simp [switchboardref10_Right.l0] at h
  | k + 1 => by
    have ih0 := switchboardref10_Right.mono_l k
    · intro y0 y1 y2
      unfold switchboardref10_Right.l0
      repeat' first
      | (with_reducible exact ih0 _ _ _)
      | (with_reducible exact LeO.refl _)
      | (with_reducible exact LeO.none _)
      | (with_reducible refine LeO.ite ?_ ?_)
      | (with_reducible refine LeO.bind ?_ (fun _ => ?_))
      | exact ih0 _ _ _
      | exact LeO.none _
      | refine LeO.ite ?_ ?_
      | refine LeO.bind ?_ (fun _ => ?_)
theorem switchboardref10_Right.mono : ∀ a0 a1 k, LeO (switchboardref10_Right.f k a0 a1) (switchboardref10_Right.f (k + 1) a0 a1) := by
  intro a0 a1 k
  have ih0 := switchboardref10_Right.mono_l k
  unfold switchboardref10_Right.f
  repeat' first
      | (with_reducible exact ih0 _ _ _)
      | (with_reducible exact LeO.refl _)
      | (with_reducible exact LeO.none _)
      | (with_reducible refine LeO.ite ?_ ?_)
      | (with_reducible refine LeO.bind ?_ (fun _ => ?_))
      | exact ih0 _ _ _
      | exact LeO.none _
      | refine LeO.ite ?_ ?_
      | refine LeO.bind ?_ (fun _ => ?_)
set_option maxHeartbeats 8000000 in
set_option maxRecDepth 100000 in
theorem switchboardref10_Right.calls (k : Nat) (a0_0 : Int) (A0_1 : Option Addr) (c0_1 : Nat) (l0_1 : List (S40)) (r : Bool) (w : World) (hr0_1 : Kd.C k40 w A0_1 l0_1.length l0_1) (hc0_1 : l0_1.length ≤ c0_1) (h : switchboardref10_Right.f k a0_0 l0_1 = some r) :
    Calls Try.prog 15 #[.agg #[.int .i64 a0_0, .slice A0_1 l0_1.length c0_1]] w fun e w' => e = .returned (.bool r) ∧ Below w.heap.size w w' := by
  have hu27 := Try.underlying27
  have HR0_1 := Aside0.mk hr0_1
  have HC0_1 := Aside0.mk hc0_1
  clear hr0_1 hc0_1
  have HB := Aside0.mk (Below.refl w.heap.size w)
  have H : (switchboardref10_Right.l0 k 0 a0_0 l0_1) = some r := h
  clear h
  have H' := Aside0.mk H
  clear H
  go_enter Try.func15, Try.ntmps15
  go_wp2_with (first | ((with_reducible refine gate_dst (N := 1) rfl ?_); (try (refine gate_guard (by rfl) ?_; dsimp only)); refine box_event ?hg (N := 1) ?hd (cs := #[.int .i64 a0_0, .slice A0_1 l0_1.length c0_1]) (t := 27) ?hr ?_; (case hd => rfl); (case hg => rfl); (case hr => first | (go_simp; done) | (go_simp; rfl)); intro gb158 hg w2 hbox hb; have n0_ := Aside0.mk (below_step (by repeat (first | (with_reducible first | exact HB.out | apply below_alloc | apply pw_below_drewN | apply below_drew1) | exact HB.out)) hb); have n1_ := Aside0.mk (hbox); have n2_ := Aside0.mk ((by rw [hg]; exact (below_size (by repeat (first | (with_reducible first | exact HB.out | apply below_alloc | apply pw_below_drewN | apply below_drew1) | exact HB.out))) : w.heap.size ≤ gb158)); have n3_ := Aside0.mk ((by rw [hg]; exact (below_size (by repeat (first | (with_reducible first | exact HB.out | apply below_alloc | apply pw_below_drewN | apply below_drew1) | exact HB.out))) : w.heap.size ≤ gb158)); clear HB; have HB := n0_; have BK158 := n1_; have GW158 := n2_; have GE158 := n3_; clear n0_ n1_ n2_ n3_; clear hb hbox hg))
  repeat (go_quiet (first | ((with_reducible refine gate_dst (N := 1) rfl ?_); (try (refine gate_guard (by rfl) ?_; dsimp only)); refine box_event ?hg (N := 1) ?hd (cs := #[.int .i64 a0_0, .slice A0_1 l0_1.length c0_1]) (t := 27) ?hr ?_; (case hd => rfl); (case hg => rfl); (case hr => first | (go_simp; done) | (go_simp; rfl)); intro gb158 hg w2 hbox hb; have n0_ := Aside0.mk (below_step (by repeat (first | (with_reducible first | exact HB.out | apply below_alloc | apply pw_below_drewN | apply below_drew1) | exact HB.out)) hb); have n1_ := Aside0.mk (hbox); have n2_ := Aside0.mk ((by rw [hg]; exact (below_size (by repeat (first | (with_reducible first | exact HB.out | apply below_alloc | apply pw_below_drewN | apply below_drew1) | exact HB.out))) : w.heap.size ≤ gb158)); have n3_ := Aside0.mk ((by rw [hg]; exact (below_size (by repeat (first | (with_reducible first | exact HB.out | apply below_alloc | apply pw_below_drewN | apply below_drew1) | exact HB.out))) : w.heap.size ≤ gb158)); clear HB; have HB := n0_; have BK158 := n1_; have GW158 := n2_; have GE158 := n3_; clear n0_ n1_ n2_ n3_; clear hb hbox hg)); try go_wp2_with (first | ((with_reducible refine gate_dst (N := 1) rfl ?_); (try (refine gate_guard (by rfl) ?_; dsimp only)); refine box_event ?hg (N := 1) ?hd (cs := #[.int .i64 a0_0, .slice A0_1 l0_1.length c0_1]) (t := 27) ?hr ?_; (case hd => rfl); (case hg => rfl); (case hr => first | (go_simp; done) | (go_simp; rfl)); intro gb158 hg w2 hbox hb; have n0_ := Aside0.mk (below_step (by repeat (first | (with_reducible first | exact HB.out | apply below_alloc | apply pw_below_drewN | apply below_drew1) | exact HB.out)) hb); have n1_ := Aside0.mk (hbox); have n2_ := Aside0.mk ((by rw [hg]; exact (below_size (by repeat (first | (with_reducible first | exact HB.out | apply below_alloc | apply pw_below_drewN | apply below_drew1) | exact HB.out))) : w.heap.size ≤ gb158)); have n3_ := Aside0.mk ((by rw [hg]; exact (below_size (by repeat (first | (with_reducible first | exact HB.out | apply below_alloc | apply pw_below_drewN | apply below_drew1) | exact HB.out))) : w.heap.size ≤ gb158)); clear HB; have HB := n0_; have BK158 := n1_; have GW158 := n2_; have GE158 := n3_; clear n0_ n1_ n2_ n3_; clear hb hbox hg)))
  go_loopg [3] k (fun kq v3 w' => ∃ (x3_1 : Int), v3 = .int .i64 x3_1 ∧ Aside0 (switchboardref10_Right.l0 kq x3_1 a0_0 l0_1 = some r) ∧ Aside0 (kq ≤ k) ∧ Aside0 (w'.heap[gb158]? = some (.cells #[.int .i64 a0_0, (.slice A0_1 l0_1.length c0_1)] 27 (0, 0))) ∧ Aside0 (Below w.heap.size w w'))
  case atStart => exact ⟨(0), (by first | rfl | (simp; done) | (simp [*]; done)), H', ⟨Nat.le_refl _⟩, ⟨by (with_reducible repeat (first | refine blk_drewN ?_ _ | refine blk_drew ?_ | refine blk_alloc ?_ _)); exact BK158.out⟩, ⟨by repeat (first | (with_reducible first | exact HB.out | apply below_alloc | apply pw_below_drewN | apply below_drew1 | refine below_set ?_ GE158.out) | exact HB.out)⟩⟩
  case round =>
    clear H'
    try clear c1
    try clear p2
    obtain ⟨x3_1, rfl, HA, HK1, BK158, HB⟩ := hrel
    cases gk with
    | zero => exact absurd HA.out (by simp [switchboardref10_Right.l0])
    | succ k1 =>
      have H := HA.out
      clear HA
      simp only [switchboardref10_Right.l0] at H
      by_cases c3 : x3_1 < (l0_1.length : Int)
      · rw [if_pos c3] at H
        have c3b0 : decide (x3_1 < (l0_1.length : Int)) = true := decide_eq_true c3
        clear c3
        by_cases c4 : 0 ≤ x3_1
        · rw [if_pos c4] at H
          have c4b0 : decide (0 ≤ x3_1) = true := decide_eq_true c4
          clear c4
          by_cases c5 : ((rd_T40 l0_1 x3_1).f0) < 0
          · rw [if_pos c5] at H
            have c5b0 : decide (((rd_T40 l0_1 x3_1).f0) < 0) = true := decide_eq_true c5
            clear c5
            obtain rfl := Option.some.inj H
            have hcz6_0 : wr.cell? ⟨gb158, 0, none⟩ = some (.int .i64 a0_0) := (blk_cell BK158.out 0).trans rfl
            have hcz6_1 : wr.cell? ⟨gb158, 1, none⟩ = some (.slice A0_1 l0_1.length c0_1) := (blk_cell BK158.out 1).trans rfl
            have hfz6_0 := blk_frozen BK158.out 0
            have hfz6_1 := blk_frozen BK158.out 1
            have p159 : 0 ≤ (x3_1 : Int) := of_decide_eq_true (by first | (with_reducible assumption) | assumption)
            have q159 : x3_1 < (l0_1.length : Int) := of_decide_eq_true (by first | (with_reducible assumption) | assumption)
            obtain ⟨ad159, e159, hx159_0, hx159_1⟩ := at_T40 HR0_1.out x3_1 p159 q159
            cases e159
            replace hx159_0 := (HB.out.cell (World.block_lt_of_cell? w _ hx159_0)).trans hx159_0
            replace hx159_1 := (HB.out.cell (World.block_lt_of_cell? w _ hx159_1)).trans hx159_1
            replace p159 := eq_true p159
            replace q159 := eq_true q159
            go_wp2
            repeat (go_quiet (fail); try go_wp2)
            go_ret
            exact ⟨by first | rfl | (simp [errW_none, errW_some] <;> rfl) | (simp [*, errW_none, errW_some] <;> rfl), by repeat (first | (with_reducible first | exact HB.out | apply below_alloc | apply pw_below_drewN | apply below_drew1 | refine below_set ?_ GE158.out) | exact HB.out)⟩
          · rw [if_neg c5] at H
            have c5b0 : decide (((rd_T40 l0_1 x3_1).f0) < 0) = false := decide_eq_false c5
            clear c5
            by_cases c7 : ((rd_T40 l0_1 x3_1).f0) ≥ a0_0
            · rw [if_pos c7] at H
              have c7b0 : decide (a0_0 ≤ ((rd_T40 l0_1 x3_1).f0)) = true := decide_eq_true c7
              clear c7
              obtain rfl := Option.some.inj H
              have hcz8_0 : wr.cell? ⟨gb158, 0, none⟩ = some (.int .i64 a0_0) := (blk_cell BK158.out 0).trans rfl
              have hcz8_1 : wr.cell? ⟨gb158, 1, none⟩ = some (.slice A0_1 l0_1.length c0_1) := (blk_cell BK158.out 1).trans rfl
              have hfz8_0 := blk_frozen BK158.out 0
              have hfz8_1 := blk_frozen BK158.out 1
              have p159 : 0 ≤ (x3_1 : Int) := of_decide_eq_true (by first | (with_reducible assumption) | assumption)
              have q159 : x3_1 < (l0_1.length : Int) := of_decide_eq_true (by first | (with_reducible assumption) | assumption)
              obtain ⟨ad159, e159, hx159_0, hx159_1⟩ := at_T40 HR0_1.out x3_1 p159 q159
              cases e159
              replace hx159_0 := (HB.out.cell (World.block_lt_of_cell? w _ hx159_0)).trans hx159_0
              replace hx159_1 := (HB.out.cell (World.block_lt_of_cell? w _ hx159_1)).trans hx159_1
              replace p159 := eq_true p159
              replace q159 := eq_true q159
              have p160 : 0 ≤ (x3_1 : Int) := of_decide_eq_true (by first | (with_reducible assumption) | assumption)
              have q160 : x3_1 < (l0_1.length : Int) := of_decide_eq_true (by first | (with_reducible assumption) | assumption)
              obtain ⟨ad160, e160, hx160_0, hx160_1⟩ := at_T40 HR0_1.out x3_1 p160 q160
              obtain rfl : ad159 = ad160 := (by injection e160)
              replace hx160_0 := (HB.out.cell (World.block_lt_of_cell? w _ hx160_0)).trans hx160_0
              replace hx160_1 := (HB.out.cell (World.block_lt_of_cell? w _ hx160_1)).trans hx160_1
              replace p160 := eq_true p160
              replace q160 := eq_true q160
              go_wp2
              repeat (go_quiet (fail); try go_wp2)
              go_ret
              exact ⟨by first | rfl | (simp [errW_none, errW_some] <;> rfl) | (simp [*, errW_none, errW_some] <;> rfl), by repeat (first | (with_reducible first | exact HB.out | apply below_alloc | apply pw_below_drewN | apply below_drew1 | refine below_set ?_ GE158.out) | exact HB.out)⟩
            · rw [if_neg c7] at H
              have c7b0 : decide (a0_0 ≤ ((rd_T40 l0_1 x3_1).f0)) = false := decide_eq_false c7
              clear c7
              by_cases c9 : x3_1 > 0
              · rw [if_pos c9] at H
                have c9b0 : decide (0 < x3_1) = true := decide_eq_true c9
                clear c9
                obtain ⟨ji10, hji10⟩ : ∃ j_ : Int, (wrap64 (x3_1 - 1)) = j_ := ⟨_, rfl⟩
                replace H : (if 0 ≤ (ji10) then (if (ji10) < (l0_1.length : Int) then (if ((rd_T40 l0_1 x3_1).f0) ≤ ((rd_T40 l0_1 (ji10)).f0) then (some false) else (switchboardref10_Right.l0 k1 (wrap64 (x3_1 + 1)) a0_0 l0_1)) else (none)) else (none)) = some r := by first | (rw [hji10] at H; exact H) | (simp only [hji10] at H ⊢; exact H)
                have hji10w : (IntKind.i64.wrap (x3_1 - 1)) = ji10 := (i64_w _).trans hji10
                by_cases c11 : 0 ≤ (ji10)
                · rw [if_pos c11] at H
                  have c11b0 : decide (0 ≤ (ji10)) = true := decide_eq_true c11
                  clear c11
                  by_cases c12 : (ji10) < (l0_1.length : Int)
                  · rw [if_pos c12] at H
                    have c12b0 : decide ((ji10) < (l0_1.length : Int)) = true := decide_eq_true c12
                    clear c12
                    by_cases c13 : ((rd_T40 l0_1 x3_1).f0) ≤ ((rd_T40 l0_1 (ji10)).f0)
                    · rw [if_pos c13] at H
                      have c13b0 : decide (((rd_T40 l0_1 x3_1).f0) ≤ ((rd_T40 l0_1 (ji10)).f0)) = true := decide_eq_true c13
                      clear c13
                      obtain rfl := Option.some.inj H
                      have hcz14_0 : wr.cell? ⟨gb158, 0, none⟩ = some (.int .i64 a0_0) := (blk_cell BK158.out 0).trans rfl
                      have hcz14_1 : wr.cell? ⟨gb158, 1, none⟩ = some (.slice A0_1 l0_1.length c0_1) := (blk_cell BK158.out 1).trans rfl
                      have hfz14_0 := blk_frozen BK158.out 0
                      have hfz14_1 := blk_frozen BK158.out 1
                      have p159 : 0 ≤ (x3_1 : Int) := of_decide_eq_true (by first | (with_reducible assumption) | assumption)
                      have q159 : x3_1 < (l0_1.length : Int) := of_decide_eq_true (by first | (with_reducible assumption) | assumption)
                      obtain ⟨ad159, e159, hx159_0, hx159_1⟩ := at_T40 HR0_1.out x3_1 p159 q159
                      cases e159
                      replace hx159_0 := (HB.out.cell (World.block_lt_of_cell? w _ hx159_0)).trans hx159_0
                      replace hx159_1 := (HB.out.cell (World.block_lt_of_cell? w _ hx159_1)).trans hx159_1
                      replace p159 := eq_true p159
                      replace q159 := eq_true q159
                      have p160 : 0 ≤ (x3_1 : Int) := of_decide_eq_true (by first | (with_reducible assumption) | assumption)
                      have q160 : x3_1 < (l0_1.length : Int) := of_decide_eq_true (by first | (with_reducible assumption) | assumption)
                      obtain ⟨ad160, e160, hx160_0, hx160_1⟩ := at_T40 HR0_1.out x3_1 p160 q160
                      obtain rfl : ad159 = ad160 := (by injection e160)
                      replace hx160_0 := (HB.out.cell (World.block_lt_of_cell? w _ hx160_0)).trans hx160_0
                      replace hx160_1 := (HB.out.cell (World.block_lt_of_cell? w _ hx160_1)).trans hx160_1
                      replace p160 := eq_true p160
                      replace q160 := eq_true q160
                      have p161 : 0 ≤ (x3_1 : Int) := of_decide_eq_true (by first | (with_reducible assumption) | assumption)
                      have q161 : x3_1 < (l0_1.length : Int) := of_decide_eq_true (by first | (with_reducible assumption) | assumption)
                      obtain ⟨ad161, e161, hx161_0, hx161_1⟩ := at_T40 HR0_1.out x3_1 p161 q161
                      obtain rfl : ad159 = ad161 := (by injection e161)
                      replace hx161_0 := (HB.out.cell (World.block_lt_of_cell? w _ hx161_0)).trans hx161_0
                      replace hx161_1 := (HB.out.cell (World.block_lt_of_cell? w _ hx161_1)).trans hx161_1
                      replace p161 := eq_true p161
                      replace q161 := eq_true q161
                      have p162 : 0 ≤ ((ji10) : Int) := of_decide_eq_true (by first | (with_reducible assumption) | assumption)
                      have q162 : (ji10) < (l0_1.length : Int) := of_decide_eq_true (by first | (with_reducible assumption) | assumption)
                      obtain ⟨ad162, e162, hx162_0, hx162_1⟩ := at_T40 HR0_1.out (ji10) p162 q162
                      obtain rfl : ad159 = ad162 := (by injection e162)
                      replace hx162_0 := (HB.out.cell (World.block_lt_of_cell? w _ hx162_0)).trans hx162_0
                      replace hx162_1 := (HB.out.cell (World.block_lt_of_cell? w _ hx162_1)).trans hx162_1
                      replace p162 := eq_true p162
                      replace q162 := eq_true q162
                      go_wp2
                      repeat (go_quiet (fail); try go_wp2)
                      go_ret
                      exact ⟨by first | rfl | (simp [errW_none, errW_some] <;> rfl) | (simp only [← hji10]; first | rfl | (simp [errW_none, errW_some] <;> rfl)) | (simp [*, errW_none, errW_some] <;> rfl), by repeat (first | (with_reducible first | exact HB.out | apply below_alloc | apply pw_below_drewN | apply below_drew1 | refine below_set ?_ GE158.out) | exact HB.out)⟩
                    · rw [if_neg c13] at H
                      have c13b0 : decide (((rd_T40 l0_1 x3_1).f0) ≤ ((rd_T40 l0_1 (ji10)).f0)) = false := decide_eq_false c13
                      clear c13
                      have H' := Aside0.mk H
                      clear H
                      have hcz15_0 : wr.cell? ⟨gb158, 0, none⟩ = some (.int .i64 a0_0) := (blk_cell BK158.out 0).trans rfl
                      have hcz15_1 : wr.cell? ⟨gb158, 1, none⟩ = some (.slice A0_1 l0_1.length c0_1) := (blk_cell BK158.out 1).trans rfl
                      have hfz15_0 := blk_frozen BK158.out 0
                      have hfz15_1 := blk_frozen BK158.out 1
                      have p159 : 0 ≤ (x3_1 : Int) := of_decide_eq_true (by first | (with_reducible assumption) | assumption)
                      have q159 : x3_1 < (l0_1.length : Int) := of_decide_eq_true (by first | (with_reducible assumption) | assumption)
                      obtain ⟨ad159, e159, hx159_0, hx159_1⟩ := at_T40 HR0_1.out x3_1 p159 q159
                      cases e159
                      replace hx159_0 := (HB.out.cell (World.block_lt_of_cell? w _ hx159_0)).trans hx159_0
                      replace hx159_1 := (HB.out.cell (World.block_lt_of_cell? w _ hx159_1)).trans hx159_1
                      replace p159 := eq_true p159
                      replace q159 := eq_true q159
                      have p160 : 0 ≤ (x3_1 : Int) := of_decide_eq_true (by first | (with_reducible assumption) | assumption)
                      have q160 : x3_1 < (l0_1.length : Int) := of_decide_eq_true (by first | (with_reducible assumption) | assumption)
                      obtain ⟨ad160, e160, hx160_0, hx160_1⟩ := at_T40 HR0_1.out x3_1 p160 q160
                      obtain rfl : ad159 = ad160 := (by injection e160)
                      replace hx160_0 := (HB.out.cell (World.block_lt_of_cell? w _ hx160_0)).trans hx160_0
                      replace hx160_1 := (HB.out.cell (World.block_lt_of_cell? w _ hx160_1)).trans hx160_1
                      replace p160 := eq_true p160
                      replace q160 := eq_true q160
                      have p161 : 0 ≤ (x3_1 : Int) := of_decide_eq_true (by first | (with_reducible assumption) | assumption)
                      have q161 : x3_1 < (l0_1.length : Int) := of_decide_eq_true (by first | (with_reducible assumption) | assumption)
                      obtain ⟨ad161, e161, hx161_0, hx161_1⟩ := at_T40 HR0_1.out x3_1 p161 q161
                      obtain rfl : ad159 = ad161 := (by injection e161)
                      replace hx161_0 := (HB.out.cell (World.block_lt_of_cell? w _ hx161_0)).trans hx161_0
                      replace hx161_1 := (HB.out.cell (World.block_lt_of_cell? w _ hx161_1)).trans hx161_1
                      replace p161 := eq_true p161
                      replace q161 := eq_true q161
                      have p162 : 0 ≤ ((ji10) : Int) := of_decide_eq_true (by first | (with_reducible assumption) | assumption)
                      have q162 : (ji10) < (l0_1.length : Int) := of_decide_eq_true (by first | (with_reducible assumption) | assumption)
                      obtain ⟨ad162, e162, hx162_0, hx162_1⟩ := at_T40 HR0_1.out (ji10) p162 q162
                      obtain rfl : ad159 = ad162 := (by injection e162)
                      replace hx162_0 := (HB.out.cell (World.block_lt_of_cell? w _ hx162_0)).trans hx162_0
                      replace hx162_1 := (HB.out.cell (World.block_lt_of_cell? w _ hx162_1)).trans hx162_1
                      replace p162 := eq_true p162
                      replace q162 := eq_true q162
                      go_wp2
                      repeat (go_quiet (fail); try go_wp2)
                      go_roundg k1
                      case measure => have := HK1.out; omega
                      case rel => exact ⟨(wrap64 (x3_1 + 1)), (by first | rfl | (simp; done) | (simp [*]; done)), H', ⟨by have := HK1.out; omega⟩, ⟨by (with_reducible repeat (first | refine blk_drewN ?_ _ | refine blk_drew ?_ | refine blk_alloc ?_ _)); exact BK158.out⟩, ⟨by repeat (first | (with_reducible first | exact HB.out | apply below_alloc | apply pw_below_drewN | apply below_drew1 | refine below_set ?_ GE158.out) | exact HB.out)⟩⟩
                  · rw [if_neg c12] at H
                    exact absurd H (by simp)
                · rw [if_neg c11] at H
                  exact absurd H (by simp)
              · rw [if_neg c9] at H
                have c9b0 : decide (0 < x3_1) = false := decide_eq_false c9
                clear c9
                have H' := Aside0.mk H
                clear H
                have hcz16_0 : wr.cell? ⟨gb158, 0, none⟩ = some (.int .i64 a0_0) := (blk_cell BK158.out 0).trans rfl
                have hcz16_1 : wr.cell? ⟨gb158, 1, none⟩ = some (.slice A0_1 l0_1.length c0_1) := (blk_cell BK158.out 1).trans rfl
                have hfz16_0 := blk_frozen BK158.out 0
                have hfz16_1 := blk_frozen BK158.out 1
                have p159 : 0 ≤ (x3_1 : Int) := of_decide_eq_true (by first | (with_reducible assumption) | assumption)
                have q159 : x3_1 < (l0_1.length : Int) := of_decide_eq_true (by first | (with_reducible assumption) | assumption)
                obtain ⟨ad159, e159, hx159_0, hx159_1⟩ := at_T40 HR0_1.out x3_1 p159 q159
                cases e159
                replace hx159_0 := (HB.out.cell (World.block_lt_of_cell? w _ hx159_0)).trans hx159_0
                replace hx159_1 := (HB.out.cell (World.block_lt_of_cell? w _ hx159_1)).trans hx159_1
                replace p159 := eq_true p159
                replace q159 := eq_true q159
                have p160 : 0 ≤ (x3_1 : Int) := of_decide_eq_true (by first | (with_reducible assumption) | assumption)
                have q160 : x3_1 < (l0_1.length : Int) := of_decide_eq_true (by first | (with_reducible assumption) | assumption)
                obtain ⟨ad160, e160, hx160_0, hx160_1⟩ := at_T40 HR0_1.out x3_1 p160 q160
                obtain rfl : ad159 = ad160 := (by injection e160)
                replace hx160_0 := (HB.out.cell (World.block_lt_of_cell? w _ hx160_0)).trans hx160_0
                replace hx160_1 := (HB.out.cell (World.block_lt_of_cell? w _ hx160_1)).trans hx160_1
                replace p160 := eq_true p160
                replace q160 := eq_true q160
                go_wp2
                repeat (go_quiet (fail); try go_wp2)
                go_roundg k1
                case measure => have := HK1.out; omega
                case rel => exact ⟨(wrap64 (x3_1 + 1)), (by first | rfl | (simp; done) | (simp [*]; done)), H', ⟨by have := HK1.out; omega⟩, ⟨by (with_reducible repeat (first | refine blk_drewN ?_ _ | refine blk_drew ?_ | refine blk_alloc ?_ _)); exact BK158.out⟩, ⟨by repeat (first | (with_reducible first | exact HB.out | apply below_alloc | apply pw_below_drewN | apply below_drew1 | refine below_set ?_ GE158.out) | exact HB.out)⟩⟩
        · rw [if_neg c4] at H
          exact absurd H (by simp)
      · rw [if_neg c3] at H
        have c3b0 : decide (x3_1 < (l0_1.length : Int)) = false := decide_eq_false c3
        clear c3
        by_cases c17 : a0_0 ≥ 0
        · rw [if_pos c17] at H
          have c17b0 : decide (0 ≤ a0_0) = true := decide_eq_true c17
          clear c17
          by_cases c18 : a0_0 < 2147483648
          · rw [if_pos c18] at H
            have c18b0 : decide (a0_0 < 2147483648) = true := decide_eq_true c18
            clear c18
            obtain rfl := Option.some.inj H
            have hcz19_0 : wr.cell? ⟨gb158, 0, none⟩ = some (.int .i64 a0_0) := (blk_cell BK158.out 0).trans rfl
            have hcz19_1 : wr.cell? ⟨gb158, 1, none⟩ = some (.slice A0_1 l0_1.length c0_1) := (blk_cell BK158.out 1).trans rfl
            have hfz19_0 := blk_frozen BK158.out 0
            have hfz19_1 := blk_frozen BK158.out 1
            go_wp2
            repeat (go_quiet (fail); try go_wp2)
            go_ret
            exact ⟨by first | rfl | (simp [errW_none, errW_some] <;> rfl) | (simp [*, errW_none, errW_some] <;> rfl), by repeat (first | (with_reducible first | exact HB.out | apply below_alloc | apply pw_below_drewN | apply below_drew1 | refine below_set ?_ GE158.out) | exact HB.out)⟩
          · rw [if_neg c18] at H
            have c18b0 : decide (a0_0 < 2147483648) = false := decide_eq_false c18
            clear c18
            obtain rfl := Option.some.inj H
            have hcz20_0 : wr.cell? ⟨gb158, 0, none⟩ = some (.int .i64 a0_0) := (blk_cell BK158.out 0).trans rfl
            have hcz20_1 : wr.cell? ⟨gb158, 1, none⟩ = some (.slice A0_1 l0_1.length c0_1) := (blk_cell BK158.out 1).trans rfl
            have hfz20_0 := blk_frozen BK158.out 0
            have hfz20_1 := blk_frozen BK158.out 1
            go_wp2
            repeat (go_quiet (fail); try go_wp2)
            go_ret
            exact ⟨by first | rfl | (simp [errW_none, errW_some] <;> rfl) | (simp [*, errW_none, errW_some] <;> rfl), by repeat (first | (with_reducible first | exact HB.out | apply below_alloc | apply pw_below_drewN | apply below_drew1 | refine below_set ?_ GE158.out) | exact HB.out)⟩
        · rw [if_neg c17] at H
          have c17b0 : decide (0 ≤ a0_0) = false := decide_eq_false c17
          clear c17
          obtain rfl := Option.some.inj H
          have hcz21_0 : wr.cell? ⟨gb158, 0, none⟩ = some (.int .i64 a0_0) := (blk_cell BK158.out 0).trans rfl
          have hcz21_1 : wr.cell? ⟨gb158, 1, none⟩ = some (.slice A0_1 l0_1.length c0_1) := (blk_cell BK158.out 1).trans rfl
          have hfz21_0 := blk_frozen BK158.out 0
          have hfz21_1 := blk_frozen BK158.out 1
          go_wp2
          repeat (go_quiet (fail); try go_wp2)
          go_ret
          exact ⟨by first | rfl | (simp [errW_none, errW_some] <;> rfl) | (simp [*, errW_none, errW_some] <;> rfl), by repeat (first | (with_reducible first | exact HB.out | apply below_alloc | apply pw_below_drewN | apply below_drew1 | refine below_set ?_ GE158.out) | exact HB.out)⟩

end Go.Proofs.Ytikncbklhnaajaa.Pr
