-- Laid by wip/xprint.py, a program of this session that runs the kit's print with some contracts given by hand; not a text of print.sh. Lean checks it.
import Derived.Test.YtfipiohchnaglaaPu0
import Derived.Test.YtfipiohchnaglaaPu12
namespace Go.Proofs.Ytfipiohchnaglaa.Pu
open Go.RowKit Go.Proofs.YtfipiohchnaglaaW.PrintWords Go.Proofs.YtfipiohchnaglaaW.PrintLast Go.Proofs.YtfipiohchnaglaaW.PrintMore
attribute [local go_sem] max2_int min2_int max_two min_two max_three min_three max_four min_four   -- for this text's walks alone
set_option linter.unusedVariables false
set_option linter.unusedSimpArgs false

/-! ### wire_Right: function 89 -/
mutual
def wire_Right.l0 : Nat → List Int → Int → Int → Int → Int → Int → Int → Int → Int → Int → Int → Int → Int → List Int → Option (Bool)
  | 0, _, _, _, _, _, _, _, _, _, _, _, _, _, _ => none
  | k + 1, x8, x9, x10, x303000, x303001, x303002, x303003, x303004, x303005, x303006, x303007, x303008, x303009, x303010 => if x10 < x9 then (if 0 ≤ x10 then (if x10 < (x8.length : Int) then (if (rd x8 x10) < 0 then (some false) else (if (rd x8 x10) > 2147483647 then (some false) else (wire_Right.l0 k x8 x9 (wrap64 (x10 + 1)) x303000 x303001 x303002 x303003 x303004 x303005 x303006 x303007 x303008 x303009 x303010))) else (none)) else (none)) else (wire_Right.l1 k x303010 (x303010.length : Int) 0 x303000 x303001 x303002 x303003 x303004 x303005 x303006 x303007 x303008 x303009 x303010)
def wire_Right.l1 : Nat → List Int → Int → Int → Int → Int → Int → Int → Int → Int → Int → Int → Int → Int → List Int → Option (Bool)
  | 0, _, _, _, _, _, _, _, _, _, _, _, _, _, _ => none
  | k + 1, x22, x23, x24, x303000, x303001, x303002, x303003, x303004, x303005, x303006, x303007, x303008, x303009, x303010 => if x24 < x23 then (if 0 ≤ x24 then (if x24 < (x22.length : Int) then (if (rd x22 x24) < (-2147483648) then (some false) else (if (rd x22 x24) > 2147483647 then (some false) else (wire_Right.l1 k x22 x23 (wrap64 (x24 + 1)) x303000 x303001 x303002 x303003 x303004 x303005 x303006 x303007 x303008 x303009 x303010))) else (none)) else (none)) else (if x303000 ≥ 1 then (if x303000 ≤ 4 then (some (decide ((x303010.length : Int) ≤ 8))) else (some false)) else (some false))
end
def wire_Right.f (k : Nat) (a0_0 : Int) (a0_1 : Int) (a0_2 : Int) (a0_3 : Int) (a0_4 : Int) (a0_5 : Int) (a0_6 : Int) (a0_7 : Int) (a0_8 : Int) (a0_9 : Int) (l0_10 : List Int) : Option (Bool) := (wire_numbers.f a0_0 a0_1 a0_2 a0_3 a0_4 a0_5 a0_6 a0_7 a0_8 a0_9 l0_10).bind fun t303 => (wire_Right.l0 k t303 (t303.length : Int) 0 a0_0 a0_1 a0_2 a0_3 a0_4 a0_5 a0_6 a0_7 a0_8 a0_9 l0_10)
set_option maxHeartbeats 8000000 in
set_option maxRecDepth 100000 in
theorem wire_Right.calls (k : Nat) (a0_0 : Int) (a0_1 : Int) (a0_2 : Int) (a0_3 : Int) (a0_4 : Int) (a0_5 : Int) (a0_6 : Int) (a0_7 : Int) (a0_8 : Int) (a0_9 : Int) (A0_10 : Option Addr) (c0_10 : Nat) (l0_10 : List Int) (r : Bool) (w : World) (hr0_10 : Kd.C (Kd.int .i64) w A0_10 l0_10.length l0_10) (hc0_10 : l0_10.length ≤ c0_10) (h : wire_Right.f k a0_0 a0_1 a0_2 a0_3 a0_4 a0_5 a0_6 a0_7 a0_8 a0_9 l0_10 = some r) :
    Calls Try.prog 89 #[.agg #[.int .i64 a0_0, .int .i64 a0_1, .int .i64 a0_2, .int .i64 a0_3, .int .i64 a0_4, .int .i64 a0_5, .int .i64 a0_6, .int .i64 a0_7, .int .i64 a0_8, .int .i64 a0_9, .slice A0_10 l0_10.length c0_10]] w fun e w' => e = .returned (.bool r) ∧ Below w.heap.size w w' := by
  have hu121 := Try.underlying121
  have HR0_10 := Aside0.mk hr0_10
  have HC0_10 := Aside0.mk hc0_10
  clear hr0_10 hc0_10
  have HB := Aside0.mk (Below.refl w.heap.size w)
  have H : ((wire_numbers.f a0_0 a0_1 a0_2 a0_3 a0_4 a0_5 a0_6 a0_7 a0_8 a0_9 l0_10).bind fun t303 => (wire_Right.l0 k t303 (t303.length : Int) 0 a0_0 a0_1 a0_2 a0_3 a0_4 a0_5 a0_6 a0_7 a0_8 a0_9 l0_10)) = some r := h
  clear h
  replace H := Option.bind_eq_some_iff.mp H
  obtain ⟨t303, A20, H⟩ := H
  replace H : (wire_Right.l0 k t303 (t303.length : Int) 0 a0_0 a0_1 a0_2 a0_3 a0_4 a0_5 a0_6 a0_7 a0_8 a0_9 l0_10) = some r := H
  have A2 := Aside0.mk A20
  clear A20
  have H' := Aside0.mk H
  clear H
  go_enter Try.func89, Try.ntmps89
  go_wp2_with (first | ((with_reducible refine gate_dst (N := 1) rfl ?_); (try (refine gate_guard (by rfl) ?_; dsimp only)); refine box_event ?hg (N := 1) ?hd (cs := #[.int .i64 a0_0, .int .i64 a0_1, .int .i64 a0_2, .int .i64 a0_3, .int .i64 a0_4, .int .i64 a0_5, .int .i64 a0_6, .int .i64 a0_7, .int .i64 a0_8, .int .i64 a0_9, .slice A0_10 l0_10.length c0_10]) (t := 121) ?hr ?_; (case hd => rfl); (case hg => rfl); (case hr => first | (go_simp; done) | (go_simp; rfl)); intro gb302 hg w3 hbox hb; have n0_ := Aside0.mk (below_step (by repeat (first | (with_reducible first | exact HB.out | apply below_alloc | apply pw_below_drewN | apply below_drew1) | exact HB.out)) hb); have n1_ := Aside0.mk (hbox); have n2_ := Aside0.mk ((by rw [hg]; exact (below_size (by repeat (first | (with_reducible first | exact HB.out | apply below_alloc | apply pw_below_drewN | apply below_drew1) | exact HB.out))) : w.heap.size ≤ gb302)); have n3_ := Aside0.mk ((by rw [hg]; exact (below_size (by repeat (first | (with_reducible first | exact HB.out | apply below_alloc | apply pw_below_drewN | apply below_drew1) | exact HB.out))) : w.heap.size ≤ gb302)); clear HB; have HB := n0_; have BK302 := n1_; have GW302 := n2_; have GE302 := n3_; clear n0_ n1_ n2_ n3_; clear hb hbox hg; have hcz4_0 : w3.cell? ⟨gb302, 0, none⟩ = some (.int .i64 a0_0) := (blk_cell BK302.out 0).trans rfl; have hcz4_1 : w3.cell? ⟨gb302, 1, none⟩ = some (.int .i64 a0_1) := (blk_cell BK302.out 1).trans rfl; have hcz4_2 : w3.cell? ⟨gb302, 2, none⟩ = some (.int .i64 a0_2) := (blk_cell BK302.out 2).trans rfl; have hcz4_3 : w3.cell? ⟨gb302, 3, none⟩ = some (.int .i64 a0_3) := (blk_cell BK302.out 3).trans rfl; have hcz4_4 : w3.cell? ⟨gb302, 4, none⟩ = some (.int .i64 a0_4) := (blk_cell BK302.out 4).trans rfl; have hcz4_5 : w3.cell? ⟨gb302, 5, none⟩ = some (.int .i64 a0_5) := (blk_cell BK302.out 5).trans rfl; have hcz4_6 : w3.cell? ⟨gb302, 6, none⟩ = some (.int .i64 a0_6) := (blk_cell BK302.out 6).trans rfl; have hcz4_7 : w3.cell? ⟨gb302, 7, none⟩ = some (.int .i64 a0_7) := (blk_cell BK302.out 7).trans rfl; have hcz4_8 : w3.cell? ⟨gb302, 8, none⟩ = some (.int .i64 a0_8) := (blk_cell BK302.out 8).trans rfl; have hcz4_9 : w3.cell? ⟨gb302, 9, none⟩ = some (.int .i64 a0_9) := (blk_cell BK302.out 9).trans rfl; have hcz4_10 : w3.cell? ⟨gb302, 10, none⟩ = some (.slice A0_10 l0_10.length c0_10) := (blk_cell BK302.out 10).trans rfl; have hfz4_0 := blk_frozen BK302.out 0; have hfz4_1 := blk_frozen BK302.out 1; have hfz4_2 := blk_frozen BK302.out 2; have hfz4_3 := blk_frozen BK302.out 3; have hfz4_4 := blk_frozen BK302.out 4; have hfz4_5 := blk_frozen BK302.out 5; have hfz4_6 := blk_frozen BK302.out 6; have hfz4_7 := blk_frozen BK302.out 7; have hfz4_8 := blk_frozen BK302.out 8; have hfz4_9 := blk_frozen BK302.out 9; have hfz4_10 := blk_frozen BK302.out 10) | ((with_reducible refine gate_callee (f := 104) rfl ?_); refine goesL_ (some 8) rfl rfl Try.func104 (by kernel_rfl) rfl #[.agg #[.int .i64 a0_0, .int .i64 a0_1, .int .i64 a0_2, .int .i64 a0_3, .int .i64 a0_4, .int .i64 a0_5, .int .i64 a0_6, .int .i64 a0_7, .int .i64 a0_8, .int .i64 a0_9, .slice A0_10 l0_10.length c0_10]] rfl (by (try simp only [List.map_toArray, List.map_cons, List.map_nil]); first | done | rfl | (simp only [List.length_drop, List.length_take]; rfl)) ?_; (with_reducible refine (wire_numbers.calls a0_0 a0_1 a0_2 a0_3 a0_4 a0_5 a0_6 a0_7 a0_8 a0_9 _ _ l0_10 t303 _ ?side1 ?side2 A2.out).mono ?_); (case side1 => repeat (first | exact (Kd.C_below HR0_10.out HB.out) | (with_reducible refine Kd.C_alloc ?_ _) | (with_reducible refine Kd.C_drewN ?_ _) | (with_reducible refine Kd.C_drew ?_))); (case side2 => exact HC0_10.out); rintro e w5 ⟨v304, rfl, ho0, hb⟩; refine ⟨_, rfl, ?_⟩; have n0_ := Aside0.mk (Kd.R_lower ho0 (below_size (by repeat (first | (with_reducible first | exact HB.out | apply below_alloc | apply pw_below_drewN | apply below_drew1 | refine below_set ?_ GE302.out) | exact HB.out)))); have n1_ := Aside0.mk (blk_below (g := gb302) (o := .cells #[.int .i64 a0_0, .int .i64 a0_1, .int .i64 a0_2, .int .i64 a0_3, .int .i64 a0_4, .int .i64 a0_5, .int .i64 a0_6, .int .i64 a0_7, .int .i64 a0_8, .int .i64 a0_9, .slice A0_10 l0_10.length c0_10] 121 (0, 0)) (by (with_reducible repeat (first | refine blk_drewN ?_ _ | refine blk_drew ?_ | refine blk_alloc ?_ _)); exact BK302.out) hb); have n2_ := Aside0.mk (below_step (by repeat (first | (with_reducible first | exact HB.out | apply below_alloc | apply pw_below_drewN | apply below_drew1 | refine below_set ?_ GE302.out) | exact HB.out)) hb); clear BK302; clear HB; have HO305 := n0_; have BK302 := n1_; have HB := n2_; clear n0_ n1_ n2_; (try clear hb); (try clear hb2); (try clear hk); (try clear hi); (try clear ho0); obtain ⟨Ao6, co6, eo6⟩ := Kd.R_slice HO305.out; subst eo6))
  go_loopg [10] k (fun kq v10 w' => ∃ (x10_1 : Int), v10 = .int .i64 x10_1 ∧ Aside0 (wire_Right.l0 kq t303 (t303.length : Int) x10_1 a0_0 a0_1 a0_2 a0_3 a0_4 a0_5 a0_6 a0_7 a0_8 a0_9 l0_10 = some r) ∧ Aside0 (kq ≤ k) ∧ Aside0 (Kd.R (Kd.int .i64) 3 w' w.heap.size (fun _ => True) (.slice Ao6 t303.length co6) t303) ∧ Aside0 (w'.heap[gb302]? = some (.cells #[.int .i64 a0_0, .int .i64 a0_1, .int .i64 a0_2, .int .i64 a0_3, .int .i64 a0_4, .int .i64 a0_5, .int .i64 a0_6, .int .i64 a0_7, .int .i64 a0_8, .int .i64 a0_9, (.slice A0_10 l0_10.length c0_10)] 121 (0, 0))) ∧ Aside0 (Below w.heap.size w w'))
  case atStart => exact ⟨(0), (by first | rfl | (simp; done) | (simp [*]; done)), H', ⟨Nat.le_refl _⟩, ⟨by (with_reducible repeat (first | apply Kd.R_alloc | apply Kd.R_drewN | apply Kd.R_drew)); exact HO305.out⟩, ⟨by (with_reducible repeat (first | refine blk_drewN ?_ _ | refine blk_drew ?_ | refine blk_alloc ?_ _)); exact BK302.out⟩, ⟨by repeat (first | (with_reducible first | exact HB.out | apply below_alloc | apply pw_below_drewN | apply below_drew1 | refine below_set ?_ GE302.out) | exact HB.out)⟩⟩
  case round =>
    clear H'
    try clear c1
    try clear p2
    try clear hcz4_0
    try clear hcz4_1
    try clear hcz4_10
    try clear hcz4_2
    try clear hcz4_3
    try clear hcz4_4
    try clear hcz4_5
    try clear hcz4_6
    try clear hcz4_7
    try clear hcz4_8
    try clear hcz4_9
    try clear hfz4_0
    try clear hfz4_1
    try clear hfz4_10
    try clear hfz4_2
    try clear hfz4_3
    try clear hfz4_4
    try clear hfz4_5
    try clear hfz4_6
    try clear hfz4_7
    try clear hfz4_8
    try clear hfz4_9
    obtain ⟨x10_1, rfl, HA, HK1, HO_8, BK302, HB⟩ := hrel
    cases gk with
    | zero => exact absurd HA.out (by simp [wire_Right.l0])
    | succ k1 =>
      have H := HA.out
      clear HA
      simp only [wire_Right.l0] at H
      by_cases c7 : x10_1 < (t303.length : Int)
      · rw [if_pos c7] at H
        have c7b0 : decide (x10_1 < (t303.length : Int)) = true := decide_eq_true c7
        clear c7
        by_cases c8 : 0 ≤ x10_1
        · rw [if_pos c8] at H
          have c8b0 : decide (0 ≤ x10_1) = true := decide_eq_true c8
          clear c8
          by_cases c9 : x10_1 < (t303.length : Int)
          · rw [if_pos c9] at H
            have c9b0 : decide (x10_1 < (t303.length : Int)) = true := decide_eq_true c9
            clear c9
            by_cases c10 : (rd t303 x10_1) < 0
            · rw [if_pos c10] at H
              have c10b0 : decide ((rd t303 x10_1) < 0) = true := decide_eq_true c10
              clear c10
              obtain rfl := Option.some.inj H
              have p306 : 0 ≤ (x10_1 : Int) := of_decide_eq_true (by first | (with_reducible assumption) | assumption)
              have q306 : x10_1 < (t303.length : Int) := of_decide_eq_true (by first | (with_reducible assumption) | assumption)
              obtain ⟨ad306, e306, hx306_0⟩ := Kd.at_int (Kd.R_reads' HO_8.out).2.2 x10_1 p306 q306
              cases e306
              replace p306 := eq_true p306
              replace q306 := eq_true q306
              go_wp2
              go_ret
              exact ⟨by first | rfl | (simp [errW_none, errW_some] <;> rfl) | (simp [*, errW_none, errW_some] <;> rfl), by repeat (first | (with_reducible first | exact HB.out | apply below_alloc | apply pw_below_drewN | apply below_drew1 | refine below_set ?_ GE302.out) | exact HB.out)⟩
            · rw [if_neg c10] at H
              have c10b0 : decide ((rd t303 x10_1) < 0) = false := decide_eq_false c10
              clear c10
              by_cases c11 : (rd t303 x10_1) > 2147483647
              · rw [if_pos c11] at H
                have c11b0 : decide (2147483647 < (rd t303 x10_1)) = true := decide_eq_true c11
                clear c11
                obtain rfl := Option.some.inj H
                have p306 : 0 ≤ (x10_1 : Int) := of_decide_eq_true (by first | (with_reducible assumption) | assumption)
                have q306 : x10_1 < (t303.length : Int) := of_decide_eq_true (by first | (with_reducible assumption) | assumption)
                obtain ⟨ad306, e306, hx306_0⟩ := Kd.at_int (Kd.R_reads' HO_8.out).2.2 x10_1 p306 q306
                cases e306
                replace p306 := eq_true p306
                replace q306 := eq_true q306
                go_wp2
                go_ret
                exact ⟨by first | rfl | (simp [errW_none, errW_some] <;> rfl) | (simp [*, errW_none, errW_some] <;> rfl), by repeat (first | (with_reducible first | exact HB.out | apply below_alloc | apply pw_below_drewN | apply below_drew1 | refine below_set ?_ GE302.out) | exact HB.out)⟩
              · rw [if_neg c11] at H
                have c11b0 : decide (2147483647 < (rd t303 x10_1)) = false := decide_eq_false c11
                clear c11
                have H' := Aside0.mk H
                clear H
                have p306 : 0 ≤ (x10_1 : Int) := of_decide_eq_true (by first | (with_reducible assumption) | assumption)
                have q306 : x10_1 < (t303.length : Int) := of_decide_eq_true (by first | (with_reducible assumption) | assumption)
                obtain ⟨ad306, e306, hx306_0⟩ := Kd.at_int (Kd.R_reads' HO_8.out).2.2 x10_1 p306 q306
                cases e306
                replace p306 := eq_true p306
                replace q306 := eq_true q306
                go_wp2
                go_roundg k1
                case measure => have := HK1.out; omega
                case rel => exact ⟨(wrap64 (x10_1 + 1)), (by first | rfl | (simp; done) | (simp [*]; done)), H', ⟨by have := HK1.out; omega⟩, ⟨by (with_reducible repeat (first | apply Kd.R_alloc | apply Kd.R_drewN | apply Kd.R_drew)); exact HO_8.out⟩, ⟨by (with_reducible repeat (first | refine blk_drewN ?_ _ | refine blk_drew ?_ | refine blk_alloc ?_ _)); exact BK302.out⟩, ⟨by repeat (first | (with_reducible first | exact HB.out | apply below_alloc | apply pw_below_drewN | apply below_drew1 | refine below_set ?_ GE302.out) | exact HB.out)⟩⟩
          · rw [if_neg c9] at H
            exact absurd H (by simp)
        · rw [if_neg c8] at H
          exact absurd H (by simp)
      · rw [if_neg c7] at H
        have c7b0 : decide (x10_1 < (t303.length : Int)) = false := decide_eq_false c7
        clear c7
        have H' := Aside0.mk H
        clear H
        have hcz12_0 : wr.cell? ⟨gb302, 0, none⟩ = some (.int .i64 a0_0) := (blk_cell BK302.out 0).trans rfl
        have hcz12_1 : wr.cell? ⟨gb302, 1, none⟩ = some (.int .i64 a0_1) := (blk_cell BK302.out 1).trans rfl
        have hcz12_2 : wr.cell? ⟨gb302, 2, none⟩ = some (.int .i64 a0_2) := (blk_cell BK302.out 2).trans rfl
        have hcz12_3 : wr.cell? ⟨gb302, 3, none⟩ = some (.int .i64 a0_3) := (blk_cell BK302.out 3).trans rfl
        have hcz12_4 : wr.cell? ⟨gb302, 4, none⟩ = some (.int .i64 a0_4) := (blk_cell BK302.out 4).trans rfl
        have hcz12_5 : wr.cell? ⟨gb302, 5, none⟩ = some (.int .i64 a0_5) := (blk_cell BK302.out 5).trans rfl
        have hcz12_6 : wr.cell? ⟨gb302, 6, none⟩ = some (.int .i64 a0_6) := (blk_cell BK302.out 6).trans rfl
        have hcz12_7 : wr.cell? ⟨gb302, 7, none⟩ = some (.int .i64 a0_7) := (blk_cell BK302.out 7).trans rfl
        have hcz12_8 : wr.cell? ⟨gb302, 8, none⟩ = some (.int .i64 a0_8) := (blk_cell BK302.out 8).trans rfl
        have hcz12_9 : wr.cell? ⟨gb302, 9, none⟩ = some (.int .i64 a0_9) := (blk_cell BK302.out 9).trans rfl
        have hcz12_10 : wr.cell? ⟨gb302, 10, none⟩ = some (.slice A0_10 l0_10.length c0_10) := (blk_cell BK302.out 10).trans rfl
        have hfz12_0 := blk_frozen BK302.out 0
        have hfz12_1 := blk_frozen BK302.out 1
        have hfz12_2 := blk_frozen BK302.out 2
        have hfz12_3 := blk_frozen BK302.out 3
        have hfz12_4 := blk_frozen BK302.out 4
        have hfz12_5 := blk_frozen BK302.out 5
        have hfz12_6 := blk_frozen BK302.out 6
        have hfz12_7 := blk_frozen BK302.out 7
        have hfz12_8 := blk_frozen BK302.out 8
        have hfz12_9 := blk_frozen BK302.out 9
        have hfz12_10 := blk_frozen BK302.out 10
        go_wp2
        go_loopg [24] k1 (fun kq v24 w' => ∃ (x24_2 : Int), v24 = .int .i64 x24_2 ∧ Aside0 (wire_Right.l1 kq l0_10 (l0_10.length : Int) x24_2 a0_0 a0_1 a0_2 a0_3 a0_4 a0_5 a0_6 a0_7 a0_8 a0_9 l0_10 = some r) ∧ Aside0 (kq ≤ k1) ∧ Aside0 (w'.heap[gb302]? = some (.cells #[.int .i64 a0_0, .int .i64 a0_1, .int .i64 a0_2, .int .i64 a0_3, .int .i64 a0_4, .int .i64 a0_5, .int .i64 a0_6, .int .i64 a0_7, .int .i64 a0_8, .int .i64 a0_9, (.slice A0_10 l0_10.length c0_10)] 121 (0, 0))) ∧ Aside0 (Below w.heap.size w w'))
        case atStart => exact ⟨(0), (by first | rfl | (simp; done) | (simp [*]; done)), H', ⟨Nat.le_refl _⟩, ⟨by (with_reducible repeat (first | refine blk_drewN ?_ _ | refine blk_drew ?_ | refine blk_alloc ?_ _)); exact BK302.out⟩, ⟨by repeat (first | (with_reducible first | exact HB.out | apply below_alloc | apply pw_below_drewN | apply below_drew1 | refine below_set ?_ GE302.out) | exact HB.out)⟩⟩
        case round =>
          clear H'
          try clear c1
          try clear p2
          try clear p3
          try clear q3
          try clear hx3
          try clear p6
          try clear c7
          try clear c7b0
          try clear c8
          try clear c8b0
          try clear c9
          try clear c9b0
          try clear c10
          try clear c10b0
          try clear c11
          try clear c11b0
          try clear hcz12_0
          try clear hcz12_1
          try clear hcz12_10
          try clear hcz12_2
          try clear hcz12_3
          try clear hcz12_4
          try clear hcz12_5
          try clear hcz12_6
          try clear hcz12_7
          try clear hcz12_8
          try clear hcz12_9
          try clear hcz4_0
          try clear hcz4_1
          try clear hcz4_10
          try clear hcz4_2
          try clear hcz4_3
          try clear hcz4_4
          try clear hcz4_5
          try clear hcz4_6
          try clear hcz4_7
          try clear hcz4_8
          try clear hcz4_9
          try clear hfz12_0
          try clear hfz12_1
          try clear hfz12_10
          try clear hfz12_2
          try clear hfz12_3
          try clear hfz12_4
          try clear hfz12_5
          try clear hfz12_6
          try clear hfz12_7
          try clear hfz12_8
          try clear hfz12_9
          try clear hfz4_0
          try clear hfz4_1
          try clear hfz4_10
          try clear hfz4_2
          try clear hfz4_3
          try clear hfz4_4
          try clear hfz4_5
          try clear hfz4_6
          try clear hfz4_7
          try clear hfz4_8
          try clear hfz4_9
          try clear hx306_0
          try clear p2
          try clear p306
          try clear q306
          obtain ⟨x24_2, rfl, HA, HK2, BK302, HB⟩ := hrel
          cases gk with
          | zero => exact absurd HA.out (by simp [wire_Right.l1])
          | succ k2 =>
            have H := HA.out
            clear HA
            simp only [wire_Right.l1] at H
            by_cases c13 : x24_2 < (l0_10.length : Int)
            · rw [if_pos c13] at H
              have c13b0 : decide (x24_2 < (l0_10.length : Int)) = true := decide_eq_true c13
              clear c13
              by_cases c14 : 0 ≤ x24_2
              · rw [if_pos c14] at H
                have c14b0 : decide (0 ≤ x24_2) = true := decide_eq_true c14
                clear c14
                by_cases c15 : x24_2 < (l0_10.length : Int)
                · rw [if_pos c15] at H
                  have c15b0 : decide (x24_2 < (l0_10.length : Int)) = true := decide_eq_true c15
                  clear c15
                  by_cases c16 : (rd l0_10 x24_2) < (-2147483648)
                  · rw [if_pos c16] at H
                    have c16b0 : decide ((rd l0_10 x24_2) < (-2147483648)) = true := decide_eq_true c16
                    clear c16
                    obtain rfl := Option.some.inj H
                    have p307 : 0 ≤ (x24_2 : Int) := of_decide_eq_true (by first | (with_reducible assumption) | assumption)
                    have q307 : x24_2 < (l0_10.length : Int) := of_decide_eq_true (by first | (with_reducible assumption) | assumption)
                    obtain ⟨ad307, e307, hx307_0⟩ := Kd.at_int HR0_10.out x24_2 p307 q307
                    cases e307
                    replace hx307_0 := (HB.out.cell (World.block_lt_of_cell? w _ hx307_0)).trans hx307_0
                    replace p307 := eq_true p307
                    replace q307 := eq_true q307
                    go_wp2
                    go_ret
                    exact ⟨by first | rfl | (simp [errW_none, errW_some] <;> rfl) | (simp [*, errW_none, errW_some] <;> rfl), by repeat (first | (with_reducible first | exact HB.out | apply below_alloc | apply pw_below_drewN | apply below_drew1 | refine below_set ?_ GE302.out) | exact HB.out)⟩
                  · rw [if_neg c16] at H
                    have c16b0 : decide ((rd l0_10 x24_2) < (-2147483648)) = false := decide_eq_false c16
                    clear c16
                    by_cases c17 : (rd l0_10 x24_2) > 2147483647
                    · rw [if_pos c17] at H
                      have c17b0 : decide (2147483647 < (rd l0_10 x24_2)) = true := decide_eq_true c17
                      clear c17
                      obtain rfl := Option.some.inj H
                      have p307 : 0 ≤ (x24_2 : Int) := of_decide_eq_true (by first | (with_reducible assumption) | assumption)
                      have q307 : x24_2 < (l0_10.length : Int) := of_decide_eq_true (by first | (with_reducible assumption) | assumption)
                      obtain ⟨ad307, e307, hx307_0⟩ := Kd.at_int HR0_10.out x24_2 p307 q307
                      cases e307
                      replace hx307_0 := (HB.out.cell (World.block_lt_of_cell? w _ hx307_0)).trans hx307_0
                      replace p307 := eq_true p307
                      replace q307 := eq_true q307
                      go_wp2
                      go_ret
                      exact ⟨by first | rfl | (simp [errW_none, errW_some] <;> rfl) | (simp [*, errW_none, errW_some] <;> rfl), by repeat (first | (with_reducible first | exact HB.out | apply below_alloc | apply pw_below_drewN | apply below_drew1 | refine below_set ?_ GE302.out) | exact HB.out)⟩
                    · rw [if_neg c17] at H
                      have c17b0 : decide (2147483647 < (rd l0_10 x24_2)) = false := decide_eq_false c17
                      clear c17
                      have H' := Aside0.mk H
                      clear H
                      have p307 : 0 ≤ (x24_2 : Int) := of_decide_eq_true (by first | (with_reducible assumption) | assumption)
                      have q307 : x24_2 < (l0_10.length : Int) := of_decide_eq_true (by first | (with_reducible assumption) | assumption)
                      obtain ⟨ad307, e307, hx307_0⟩ := Kd.at_int HR0_10.out x24_2 p307 q307
                      cases e307
                      replace hx307_0 := (HB.out.cell (World.block_lt_of_cell? w _ hx307_0)).trans hx307_0
                      replace p307 := eq_true p307
                      replace q307 := eq_true q307
                      go_wp2
                      go_roundg k2
                      case measure => have := HK1.out; have := HK2.out; omega
                      case rel => exact ⟨(wrap64 (x24_2 + 1)), (by first | rfl | (simp; done) | (simp [*]; done)), H', ⟨by have := HK1.out; have := HK2.out; omega⟩, ⟨by (with_reducible repeat (first | refine blk_drewN ?_ _ | refine blk_drew ?_ | refine blk_alloc ?_ _)); exact BK302.out⟩, ⟨by repeat (first | (with_reducible first | exact HB.out | apply below_alloc | apply pw_below_drewN | apply below_drew1 | refine below_set ?_ GE302.out) | exact HB.out)⟩⟩
                · rw [if_neg c15] at H
                  exact absurd H (by simp)
              · rw [if_neg c14] at H
                exact absurd H (by simp)
            · rw [if_neg c13] at H
              have c13b0 : decide (x24_2 < (l0_10.length : Int)) = false := decide_eq_false c13
              clear c13
              by_cases c18 : a0_0 ≥ 1
              · rw [if_pos c18] at H
                have c18b0 : decide (1 ≤ a0_0) = true := decide_eq_true c18
                clear c18
                by_cases c19 : a0_0 ≤ 4
                · rw [if_pos c19] at H
                  have c19b0 : decide (a0_0 ≤ 4) = true := decide_eq_true c19
                  clear c19
                  obtain rfl := Option.some.inj H
                  have hcz20_0 : wr.cell? ⟨gb302, 0, none⟩ = some (.int .i64 a0_0) := (blk_cell BK302.out 0).trans rfl
                  have hcz20_1 : wr.cell? ⟨gb302, 1, none⟩ = some (.int .i64 a0_1) := (blk_cell BK302.out 1).trans rfl
                  have hcz20_2 : wr.cell? ⟨gb302, 2, none⟩ = some (.int .i64 a0_2) := (blk_cell BK302.out 2).trans rfl
                  have hcz20_3 : wr.cell? ⟨gb302, 3, none⟩ = some (.int .i64 a0_3) := (blk_cell BK302.out 3).trans rfl
                  have hcz20_4 : wr.cell? ⟨gb302, 4, none⟩ = some (.int .i64 a0_4) := (blk_cell BK302.out 4).trans rfl
                  have hcz20_5 : wr.cell? ⟨gb302, 5, none⟩ = some (.int .i64 a0_5) := (blk_cell BK302.out 5).trans rfl
                  have hcz20_6 : wr.cell? ⟨gb302, 6, none⟩ = some (.int .i64 a0_6) := (blk_cell BK302.out 6).trans rfl
                  have hcz20_7 : wr.cell? ⟨gb302, 7, none⟩ = some (.int .i64 a0_7) := (blk_cell BK302.out 7).trans rfl
                  have hcz20_8 : wr.cell? ⟨gb302, 8, none⟩ = some (.int .i64 a0_8) := (blk_cell BK302.out 8).trans rfl
                  have hcz20_9 : wr.cell? ⟨gb302, 9, none⟩ = some (.int .i64 a0_9) := (blk_cell BK302.out 9).trans rfl
                  have hcz20_10 : wr.cell? ⟨gb302, 10, none⟩ = some (.slice A0_10 l0_10.length c0_10) := (blk_cell BK302.out 10).trans rfl
                  have hfz20_0 := blk_frozen BK302.out 0
                  have hfz20_1 := blk_frozen BK302.out 1
                  have hfz20_2 := blk_frozen BK302.out 2
                  have hfz20_3 := blk_frozen BK302.out 3
                  have hfz20_4 := blk_frozen BK302.out 4
                  have hfz20_5 := blk_frozen BK302.out 5
                  have hfz20_6 := blk_frozen BK302.out 6
                  have hfz20_7 := blk_frozen BK302.out 7
                  have hfz20_8 := blk_frozen BK302.out 8
                  have hfz20_9 := blk_frozen BK302.out 9
                  have hfz20_10 := blk_frozen BK302.out 10
                  go_wp2
                  go_ret
                  exact ⟨by first | rfl | (simp [errW_none, errW_some] <;> rfl) | (simp [*, errW_none, errW_some] <;> rfl), by repeat (first | (with_reducible first | exact HB.out | apply below_alloc | apply pw_below_drewN | apply below_drew1 | refine below_set ?_ GE302.out) | exact HB.out)⟩
                · rw [if_neg c19] at H
                  have c19b0 : decide (a0_0 ≤ 4) = false := decide_eq_false c19
                  clear c19
                  obtain rfl := Option.some.inj H
                  have hcz21_0 : wr.cell? ⟨gb302, 0, none⟩ = some (.int .i64 a0_0) := (blk_cell BK302.out 0).trans rfl
                  have hcz21_1 : wr.cell? ⟨gb302, 1, none⟩ = some (.int .i64 a0_1) := (blk_cell BK302.out 1).trans rfl
                  have hcz21_2 : wr.cell? ⟨gb302, 2, none⟩ = some (.int .i64 a0_2) := (blk_cell BK302.out 2).trans rfl
                  have hcz21_3 : wr.cell? ⟨gb302, 3, none⟩ = some (.int .i64 a0_3) := (blk_cell BK302.out 3).trans rfl
                  have hcz21_4 : wr.cell? ⟨gb302, 4, none⟩ = some (.int .i64 a0_4) := (blk_cell BK302.out 4).trans rfl
                  have hcz21_5 : wr.cell? ⟨gb302, 5, none⟩ = some (.int .i64 a0_5) := (blk_cell BK302.out 5).trans rfl
                  have hcz21_6 : wr.cell? ⟨gb302, 6, none⟩ = some (.int .i64 a0_6) := (blk_cell BK302.out 6).trans rfl
                  have hcz21_7 : wr.cell? ⟨gb302, 7, none⟩ = some (.int .i64 a0_7) := (blk_cell BK302.out 7).trans rfl
                  have hcz21_8 : wr.cell? ⟨gb302, 8, none⟩ = some (.int .i64 a0_8) := (blk_cell BK302.out 8).trans rfl
                  have hcz21_9 : wr.cell? ⟨gb302, 9, none⟩ = some (.int .i64 a0_9) := (blk_cell BK302.out 9).trans rfl
                  have hcz21_10 : wr.cell? ⟨gb302, 10, none⟩ = some (.slice A0_10 l0_10.length c0_10) := (blk_cell BK302.out 10).trans rfl
                  have hfz21_0 := blk_frozen BK302.out 0
                  have hfz21_1 := blk_frozen BK302.out 1
                  have hfz21_2 := blk_frozen BK302.out 2
                  have hfz21_3 := blk_frozen BK302.out 3
                  have hfz21_4 := blk_frozen BK302.out 4
                  have hfz21_5 := blk_frozen BK302.out 5
                  have hfz21_6 := blk_frozen BK302.out 6
                  have hfz21_7 := blk_frozen BK302.out 7
                  have hfz21_8 := blk_frozen BK302.out 8
                  have hfz21_9 := blk_frozen BK302.out 9
                  have hfz21_10 := blk_frozen BK302.out 10
                  go_wp2
                  go_ret
                  exact ⟨by first | rfl | (simp [errW_none, errW_some] <;> rfl) | (simp [*, errW_none, errW_some] <;> rfl), by repeat (first | (with_reducible first | exact HB.out | apply below_alloc | apply pw_below_drewN | apply below_drew1 | refine below_set ?_ GE302.out) | exact HB.out)⟩
              · rw [if_neg c18] at H
                have c18b0 : decide (1 ≤ a0_0) = false := decide_eq_false c18
                clear c18
                obtain rfl := Option.some.inj H
                have hcz22_0 : wr.cell? ⟨gb302, 0, none⟩ = some (.int .i64 a0_0) := (blk_cell BK302.out 0).trans rfl
                have hcz22_1 : wr.cell? ⟨gb302, 1, none⟩ = some (.int .i64 a0_1) := (blk_cell BK302.out 1).trans rfl
                have hcz22_2 : wr.cell? ⟨gb302, 2, none⟩ = some (.int .i64 a0_2) := (blk_cell BK302.out 2).trans rfl
                have hcz22_3 : wr.cell? ⟨gb302, 3, none⟩ = some (.int .i64 a0_3) := (blk_cell BK302.out 3).trans rfl
                have hcz22_4 : wr.cell? ⟨gb302, 4, none⟩ = some (.int .i64 a0_4) := (blk_cell BK302.out 4).trans rfl
                have hcz22_5 : wr.cell? ⟨gb302, 5, none⟩ = some (.int .i64 a0_5) := (blk_cell BK302.out 5).trans rfl
                have hcz22_6 : wr.cell? ⟨gb302, 6, none⟩ = some (.int .i64 a0_6) := (blk_cell BK302.out 6).trans rfl
                have hcz22_7 : wr.cell? ⟨gb302, 7, none⟩ = some (.int .i64 a0_7) := (blk_cell BK302.out 7).trans rfl
                have hcz22_8 : wr.cell? ⟨gb302, 8, none⟩ = some (.int .i64 a0_8) := (blk_cell BK302.out 8).trans rfl
                have hcz22_9 : wr.cell? ⟨gb302, 9, none⟩ = some (.int .i64 a0_9) := (blk_cell BK302.out 9).trans rfl
                have hcz22_10 : wr.cell? ⟨gb302, 10, none⟩ = some (.slice A0_10 l0_10.length c0_10) := (blk_cell BK302.out 10).trans rfl
                have hfz22_0 := blk_frozen BK302.out 0
                have hfz22_1 := blk_frozen BK302.out 1
                have hfz22_2 := blk_frozen BK302.out 2
                have hfz22_3 := blk_frozen BK302.out 3
                have hfz22_4 := blk_frozen BK302.out 4
                have hfz22_5 := blk_frozen BK302.out 5
                have hfz22_6 := blk_frozen BK302.out 6
                have hfz22_7 := blk_frozen BK302.out 7
                have hfz22_8 := blk_frozen BK302.out 8
                have hfz22_9 := blk_frozen BK302.out 9
                have hfz22_10 := blk_frozen BK302.out 10
                go_wp2
                go_ret
                exact ⟨by first | rfl | (simp [errW_none, errW_some] <;> rfl) | (simp [*, errW_none, errW_some] <;> rfl), by repeat (first | (with_reducible first | exact HB.out | apply below_alloc | apply pw_below_drewN | apply below_drew1 | refine below_set ?_ GE302.out) | exact HB.out)⟩

/-! ### wire_four: function 110 -/
def wire_four.f (a0 : Int) : Option (ByteArray) := some (strOfNums (([(a0) % 256, (a0 / 256) % 256, (a0 / 65536) % 256, (a0 / 16777216) % 256] : List Int)))
set_option maxHeartbeats 8000000 in
set_option maxRecDepth 100000 in
theorem wire_four.calls (a0 : Int) (r : ByteArray) (w : World) (h : wire_four.f a0 = some r) :
    Calls Try.prog 110 #[.int .i64 a0] w fun e w' => e = .returned (.string r) ∧ Below w.heap.size w w' := by
  have HB := Aside0.mk (Below.refl w.heap.size w)
  have H : (some (strOfNums (([(a0) % 256, (a0 / 256) % 256, (a0 / 65536) % 256, (a0 / 16777216) % 256] : List Int)))) = some r := h
  clear h
  obtain ⟨y308, hy308⟩ : ∃ y_ : List Int, y_ = (([(a0) % 256, (a0 / 256) % 256, (a0 / 65536) % 256, (a0 / 16777216) % 256] : List Int)) := ⟨_, rfl⟩
  replace H : (some (strOfNums y308)) = some r := by first | (rw [hy308]; with_reducible exact H) | (have H2_ := (Option.bind_some _ _).symm.trans H; rw [hy308]; with_reducible exact H2_) | (have H2_ := (Option.bind_some _ _).symm.trans H; with_reducible exact H2_) | with_reducible exact H | (rw [hy308]; exact H) | exact H
  have Ny308 := Aside0.mk hy308
  clear hy308
  obtain rfl := Option.some.inj H
  go_enter Try.func110, Try.ntmps110
  go_wp2_with (first | ((with_reducible refine gate_dst (N := 14) rfl ?_); refine Kd.R_lit (Kd.int .u8) _ 5 ?hg (N := 14) ?hd (xs := ([(a0) % 256, (a0 / 256) % 256, (a0 / 65536) % 256, (a0 / 16777216) % 256] : List Int)) (inner := [.int .u8 ((a0) % 256), .int .u8 ((a0 / 256) % 256), .int .u8 ((a0 / 65536) % 256), .int .u8 ((a0 / 16777216) % 256)]) (ok := fun _ => True) (okp := fun _ => True) ?hr ?hp (fun _ hk => hk) trivial (Below.refl _ _) (Nat.le_refl _) (by simp) ?_; (case hd => rfl); (case hg => rfl); (case hr => first | (go_simp; done) | (go_simp; rfl)); (case hp => exact (Reps.one (show Kd.M (Kd.int .u8) _ _ _ ((a0) % 256) [.int .u8 ((a0) % 256)] from rfl) (Reps.one (show Kd.M (Kd.int .u8) _ _ _ ((a0 / 256) % 256) [.int .u8 ((a0 / 256) % 256)] from rfl) (Reps.one (show Kd.M (Kd.int .u8) _ _ _ ((a0 / 65536) % 256) [.int .u8 ((a0 / 65536) % 256)] from rfl) (Reps.one (show Kd.M (Kd.int .u8) _ _ _ ((a0 / 16777216) % 256) [.int .u8 ((a0 / 16777216) % 256)] from rfl) (Reps.none _ _)))))); intro v309 w2 ho3 hb hg_ hnew_; clear hg_ hnew_; (first | rw [← Ny308.out] at ho3 | (simp only [Int.reduceToNat] at ho3; rw [← Ny308.out] at ho3)); have n0_ := Aside0.mk (Kd.R_lower ho3 (below_size (by repeat (first | (with_reducible first | exact HB.out | apply below_alloc | apply pw_below_drewN | apply below_drew1) | exact HB.out)))); have n1_ := Aside0.mk (below_step (by repeat (first | (with_reducible first | exact HB.out | apply below_alloc | apply pw_below_drewN | apply below_drew1) | exact HB.out)) hb); clear HB; have HO310 := n0_; have HB := n1_; clear n0_ n1_; clear hb ho3; have hcv4 := own_string (P := Try.prog) Try.underlying58 Try.underlying5 Try.underlying9 (Kd.own_of_R HO310.out)))
  go_ret
  exact ⟨by first | rfl | (simp [errW_none, errW_some] <;> rfl) | (simp [*, errW_none, errW_some] <;> rfl), by repeat (first | (with_reducible first | exact HB.out | apply below_alloc | apply pw_below_drewN | apply below_drew1) | exact HB.out)⟩

end Go.Proofs.Ytfipiohchnaglaa.Pu
