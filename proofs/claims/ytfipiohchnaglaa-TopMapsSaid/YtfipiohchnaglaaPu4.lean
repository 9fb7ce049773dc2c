-- Laid by wip/xprint.py, a program of this session that runs the kit's print with some contracts given by hand; not a text of print.sh. Lean checks it.
import Derived.Test.YtfipiohchnaglaaPu0
import Derived.Test.YtfipiohchnaglaaPu3
namespace Go.Proofs.Ytfipiohchnaglaa.Pu
open Go.RowKit Go.Proofs.YtfipiohchnaglaaW.PrintWords Go.Proofs.YtfipiohchnaglaaW.PrintLast Go.Proofs.YtfipiohchnaglaaW.PrintMore
attribute [local go_sem] max2_int min2_int max_two min_two max_three min_three max_four min_four   -- for this text's walks alone
set_option linter.unusedVariables false
set_option linter.unusedSimpArgs false

/-! ### gate_Choose: function 49 -/
def gate_Choose.j0 : Nat → List Int → Bool → Option (Int × Int × Int × Int × Bool)
  | 0, _, _ => none
  | k + 1, x6, x21 => if x21 = true then (some (0, 0, 0, 0, false)) else ((top_Two.f k x6).bind fun bt142 => (if bt142.2 ≥ 0 then (if 0 ≤ bt142.1 then (if bt142.1 < (x6.length : Int) then (if 0 ≤ bt142.2 then (if bt142.2 < (x6.length : Int) then ((share_Shares.f (rd x6 bt142.1) (rd x6 bt142.2)).bind fun bt146 => (some (bt142.1, bt142.2, bt146.1, bt146.2, true))) else (none)) else (none)) else (none)) else (none)) else (some (bt142.1, bt142.2, 65536, 0, true))))
def gate_Choose.f (k : Nat) (l0 : List (List Int)) (l1 : List Int) : Option (Int × Int × Int × Int × Bool) := (mat_Apply.f k l0 l1).bind fun bt137 => (if bt137.2 = true then (gate_Choose.j0 k bt137.1 ((l0.length : Int) == 0)) else (gate_Choose.j0 k bt137.1 true))
def gate_Choose.T7 : Bool × List (List Nat × List Nat) := (true, [([], []), ([], []), ([1], [1]), ([0, 2], [0, 2]), ([3], [3]), ([], []), ([], []), ([6], [6]), ([5, 7], [5, 7]), ([8], [8]), ([4, 9], [4, 9]), ([10], [10]), ([11], [11]), ([11], [11]), ([0, 1, 2, 3, 4, 5, 6, 7, 8, 9, 10, 11, 12], []), ([14, 12, 10, 0, 1, 2, 3, 4, 5, 6, 7, 8, 9, 10, 11, 12], [12, 14]), ([0, 1, 2, 3, 4, 5, 6, 7, 8, 9, 10, 11, 12, 13, 14, 15], []), ([16, 13, 15, 0, 1, 2, 3, 4, 5, 6, 7, 8, 9, 10, 11, 12, 13, 14, 15], [13, 16])])
def gate_Choose.B7 : List Nat := [0, 0, 2, 7, 15, 0, 0, 64, 224, 480, 1023, 2047, 4095, 4095, 8191, 24575, 65535, 131071]
theorem gate_Choose.tab7 : rtab .any (opsOf Try.f49 7) = gate_Choose.T7 := by kernel_rfl
theorem gate_Choose.bits7 : waitsOk gate_Choose.T7.2 gate_Choose.B7 = true := by kernel_rfl
set_option maxHeartbeats 8000000 in
set_option maxRecDepth 100000 in
theorem gate_Choose.calls (k : Nat) (A0 : Option Addr) (c0 : Nat) (l0 : List (List Int)) (A1 : Option Addr) (c1 : Nat) (l1 : List Int) (r1 : Int) (r2 : Int) (r3 : Int) (r4 : Int) (r5 : Bool) (w : World) (hr0 : Kd.C (Kd.slice 3 (Kd.int .i64)) w A0 l0.length l0) (hc0 : l0.length ≤ c0) (hr1 : Kd.C (Kd.int .i64) w A1 l1.length l1) (hc1 : l1.length ≤ c1) (h : gate_Choose.f k l0 l1 = some (r1, r2, r3, r4, r5)) :
    Calls Try.prog 49 #[.slice A0 l0.length c0, .slice A1 l1.length c1] w fun e w' => e = .returned (.tuple #[.agg #[.int .i64 r1, .int .i64 r2, .int .i64 r3, .int .i64 r4], .bool r5]) ∧ Below w.heap.size w w' := by
  have hu102 := Try.underlying102
  have HR0 := Aside0.mk hr0
  have HC0 := Aside0.mk hc0
  clear hr0 hc0
  have HR1 := Aside0.mk hr1
  have HC1 := Aside0.mk hc1
  clear hr1 hc1
  have HB := Aside0.mk (Below.refl w.heap.size w)
  have H : ((mat_Apply.f k l0 l1).bind fun bt137 => (if bt137.2 = true then (gate_Choose.j0 k bt137.1 ((l0.length : Int) == 0)) else (gate_Choose.j0 k bt137.1 true))) = some (r1, r2, r3, r4, r5) := h
  clear h
  replace H := Option.bind_eq_some_iff.mp H
  obtain ⟨⟨t137, t138⟩, A30, H⟩ := H
  replace H : (if t138 = true then (gate_Choose.j0 k t137 ((l0.length : Int) == 0)) else (gate_Choose.j0 k t137 true)) = some (r1, r2, r3, r4, r5) := H
  have A3 := Aside0.mk A30
  clear A30
  have HC4 := Aside0.mk H
  clear H
  go_enter Try.func49, Try.ntmps49
  go_upto_region 2 with (first | ((with_reducible refine gate_dst (N := 4) rfl ?_); (try (refine gate_guard (by rfl) ?_; dsimp only)); refine box_event ?hg (N := 4) ?hd (cs := #[.int .i64 0, .int .i64 0, .int .i64 0, .int .i64 0]) (t := 102) ?hr ?_; (case hd => rfl); (case hg => rfl); (case hr => first | (go_simp; done) | (go_simp; rfl)); intro gb136 hg w5 hbox hb; have n0_ := Aside0.mk (below_step (by repeat (first | (with_reducible first | exact HB.out | apply below_alloc | apply pw_below_drewN | apply below_drew1) | exact HB.out)) hb); have n1_ := Aside0.mk (hbox); have n2_ := Aside0.mk ((by rw [hg]; exact (below_size (by repeat (first | (with_reducible first | exact HB.out | apply below_alloc | apply pw_below_drewN | apply below_drew1) | exact HB.out))) : w.heap.size ≤ gb136)); have n3_ := Aside0.mk ((by rw [hg]; exact (below_size (by repeat (first | (with_reducible first | exact HB.out | apply below_alloc | apply pw_below_drewN | apply below_drew1) | exact HB.out))) : w.heap.size ≤ gb136)); clear HB; have HB := n0_; have BK136 := n1_; have GW136 := n2_; have GE136 := n3_; clear n0_ n1_ n2_ n3_; clear hb hbox hg) | ((with_reducible refine gate_callee (f := 51) rfl ?_); refine goesL_ (some 12) rfl rfl Try.func51 (by kernel_rfl) rfl #[.slice A0 l0.length c0, .slice A1 l1.length c1] rfl (by (try simp only [List.map_toArray, List.map_cons, List.map_nil]); first | done | rfl | (simp only [List.length_drop, List.length_take]; rfl)) ?_; (with_reducible refine (mat_Apply.calls k _ _ l0 _ _ l1 t137 t138 _ ?side1 ?side2 ?side3 ?side4 A3.out).mono ?_); (case side1 => repeat (first | exact (Kd.C_below HR0.out HB.out) | (with_reducible refine Kd.C_alloc ?_ _) | (with_reducible refine Kd.C_drewN ?_ _) | (with_reducible refine Kd.C_drew ?_))); (case side2 => exact HC0.out); (case side3 => repeat (first | exact (Kd.C_below HR1.out HB.out) | (with_reducible refine Kd.C_alloc ?_ _) | (with_reducible refine Kd.C_drewN ?_ _) | (with_reducible refine Kd.C_drew ?_))); (case side4 => exact HC1.out); rintro e w6 ⟨v139, rfl, ho0, hb⟩; refine ⟨_, rfl, ?_⟩; have n0_ := Aside0.mk (Kd.R_lower ho0 (below_size (by repeat (first | (with_reducible first | exact HB.out | apply below_alloc | apply pw_below_drewN | apply below_drew1 | refine below_set ?_ GE136.out) | exact HB.out)))); have n1_ := Aside0.mk (blk_below (g := gb136) (o := .cells #[.int .i64 0, .int .i64 0, .int .i64 0, .int .i64 0] 102 (0, 0)) (by (with_reducible repeat (first | refine blk_drewN ?_ _ | refine blk_drew ?_ | refine blk_alloc ?_ _)); exact BK136.out) hb); have n2_ := Aside0.mk (below_step (by repeat (first | (with_reducible first | exact HB.out | apply below_alloc | apply pw_below_drewN | apply below_drew1 | refine below_set ?_ GE136.out) | exact HB.out)) hb); clear BK136; clear HB; have HO140 := n0_; have BK136 := n1_; have HB := n2_; clear n0_ n1_ n2_; (try clear hb); (try clear hb2); (try clear hk); (try clear hi); (try clear ho0)))
  (try simp only [Act.put, List.setIfInBounds_toArray, List.set_cons_zero, List.set_cons_succ])
  go_cut [21] (fun v21 wc => ∃ (kq : Nat) (x21_3 : Bool), v21 = .bool x21_3 ∧ Aside0 (gate_Choose.j0 kq t137 x21_3 = some (r1, r2, r3, r4, r5)) ∧ Aside0 (kq ≤ k) ∧ Aside0 (Kd.R (Kd.int .i64) 3 wc w.heap.size (fun _ => True) v139 t137) ∧ Aside0 (wc.heap[gb136]? = some (.cells #[.int .i64 0, .int .i64 0, .int .i64 0, .int .i64 0] 102 (0, 0))) ∧ Aside0 (Below w.heap.size w wc))
  case first =>
    have H := HC4.out
    clear HC4
    by_cases c7 : t138 = true
    · subst c7
      have H1 : (gate_Choose.j0 k t137 ((l0.length : Int) == 0)) = some (r1, r2, r3, r4, r5) := by rw [if_pos rfl] at H; exact H
      clear H
      have H := H1
      clear H1
      have H' := Aside0.mk H
      clear H
      go_wp2
      go_meet
      case rel => exact ⟨_, (((l0.length : Int) == 0)), (by first | rfl | (simp; done) | (simp [*]; done)), H', ⟨by first | omega | exact Nat.le_refl _⟩, ⟨by (with_reducible repeat (first | apply Kd.R_alloc | apply Kd.R_drewN | apply Kd.R_drew)); exact HO140.out⟩, ⟨by (with_reducible repeat (first | refine blk_drewN ?_ _ | refine blk_drew ?_ | refine blk_alloc ?_ _)); exact BK136.out⟩, ⟨by repeat (first | (with_reducible first | exact HB.out | apply below_alloc | apply pw_below_drewN | apply below_drew1 | refine below_set ?_ GE136.out) | exact HB.out)⟩⟩
    · replace c7 := Bool.eq_false_iff.mpr c7
      subst c7
      have H1 : (gate_Choose.j0 k t137 true) = some (r1, r2, r3, r4, r5) := by rw [if_neg (show ¬ (false = true) by decide)] at H; exact H
      clear H
      have H := H1
      clear H1
      have H' := Aside0.mk H
      clear H
      go_wp2
      go_meet
      case rel => exact ⟨_, (true), (by first | rfl | (simp; done) | (simp [*]; done)), H', ⟨by first | omega | exact Nat.le_refl _⟩, ⟨by (with_reducible repeat (first | apply Kd.R_alloc | apply Kd.R_drewN | apply Kd.R_drew)); exact HO140.out⟩, ⟨by (with_reducible repeat (first | refine blk_drewN ?_ _ | refine blk_drew ?_ | refine blk_alloc ?_ _)); exact BK136.out⟩, ⟨by repeat (first | (with_reducible first | exact HB.out | apply below_alloc | apply pw_below_drewN | apply below_drew1 | refine below_set ?_ GE136.out) | exact HB.out)⟩⟩
  case rest =>
    clear HC4
    try clear c1
    try clear p2
    try clear c4
    try clear c5
    try clear c7
    obtain ⟨kq, x21_3, rfl, HA, HJ3, HO_6, BK136, HB⟩ := hcut
    cases kq with
    | zero => exact absurd HA.out (by simp [gate_Choose.j0])
    | succ kj3 =>
      have H := HA.out
      clear HA
      simp only [gate_Choose.j0] at H
      by_cases c8 : x21_3 = true
      · subst c8
        have H1 : (some (0, 0, 0, 0, false)) = some (r1, r2, r3, r4, r5) := by rw [if_pos rfl] at H; exact H
        clear H
        have H := H1
        clear H1
        simp only [Option.some.injEq, Prod.mk.injEq] at H
        obtain ⟨rfl, rfl, rfl, rfl, rfl⟩ := H
        have hcz9_0 : wc.cell? ⟨gb136, 0, none⟩ = some (.int .i64 0) := (blk_cell BK136.out 0).trans rfl
        have hcz9_1 : wc.cell? ⟨gb136, 1, none⟩ = some (.int .i64 0) := (blk_cell BK136.out 1).trans rfl
        have hcz9_2 : wc.cell? ⟨gb136, 2, none⟩ = some (.int .i64 0) := (blk_cell BK136.out 2).trans rfl
        have hcz9_3 : wc.cell? ⟨gb136, 3, none⟩ = some (.int .i64 0) := (blk_cell BK136.out 3).trans rfl
        have hfz9_0 := blk_frozen BK136.out 0
        have hfz9_1 := blk_frozen BK136.out 1
        have hfz9_2 := blk_frozen BK136.out 2
        have hfz9_3 := blk_frozen BK136.out 3
        go_wp2
        refine bodyPost_ret (results_ct rfl _ _ gb136 102 #[.int .i64 0, .int .i64 0, .int .i64 0, .int .i64 0] (0, 0) _ rfl (by (with_reducible repeat (first | refine blk_drewN ?_ _ | refine blk_drew ?_ | refine blk_alloc ?_ _)); refine blk_put (cs := #[.int .i64 0, .int .i64 0, .int .i64 0, .int .i64 0]) ?_ 3 _ rfl; (with_reducible repeat (first | refine blk_drewN ?_ _ | refine blk_drew ?_ | refine blk_alloc ?_ _)); refine blk_put (cs := #[.int .i64 0, .int .i64 0, .int .i64 0, .int .i64 0]) ?_ 2 _ rfl; (with_reducible repeat (first | refine blk_drewN ?_ _ | refine blk_drew ?_ | refine blk_alloc ?_ _)); refine blk_put (cs := #[.int .i64 0, .int .i64 0, .int .i64 0, .int .i64 0]) ?_ 1 _ rfl; (with_reducible repeat (first | refine blk_drewN ?_ _ | refine blk_drew ?_ | refine blk_alloc ?_ _)); refine blk_put (cs := #[.int .i64 0, .int .i64 0, .int .i64 0, .int .i64 0]) ?_ 0 _ rfl; (with_reducible repeat (first | refine blk_drewN ?_ _ | refine blk_drew ?_ | refine blk_alloc ?_ _)); exact BK136.out) Try.underlying102 rfl (by kernel_rfl)) rfl ?_
        exact ⟨by first | rfl | (simp [errW_none, errW_some] <;> rfl) | (simp [*, errW_none, errW_some] <;> rfl), by repeat (first | (with_reducible first | exact HB.out | apply below_alloc | apply pw_below_drewN | apply below_drew1 | refine below_set ?_ GE136.out) | exact HB.out)⟩
      · replace c8 := Bool.eq_false_iff.mpr c8
        subst c8
        have H1 : ((top_Two.f kj3 t137).bind fun bt142 => (if bt142.2 ≥ 0 then (if 0 ≤ bt142.1 then (if bt142.1 < (t137.length : Int) then (if 0 ≤ bt142.2 then (if bt142.2 < (t137.length : Int) then ((share_Shares.f (rd t137 bt142.1) (rd t137 bt142.2)).bind fun bt146 => (some (bt142.1, bt142.2, bt146.1, bt146.2, true))) else (none)) else (none)) else (none)) else (none)) else (some (bt142.1, bt142.2, 65536, 0, true)))) = some (r1, r2, r3, r4, r5) := by rw [if_neg (show ¬ (false = true) by decide)] at H; exact H
        clear H
        have H := H1
        clear H1
        replace H := Option.bind_eq_some_iff.mp H
        obtain ⟨⟨t142, t143⟩, A100, H⟩ := H
        replace H : (if t143 ≥ 0 then (if 0 ≤ t142 then (if t142 < (t137.length : Int) then (if 0 ≤ t143 then (if t143 < (t137.length : Int) then ((share_Shares.f (rd t137 t142) (rd t137 t143)).bind fun bt146 => (some (t142, t143, bt146.1, bt146.2, true))) else (none)) else (none)) else (none)) else (none)) else (some (t142, t143, 65536, 0, true))) = some (r1, r2, r3, r4, r5) := H
        have A10 := Aside0.mk A100
        clear A100
        by_cases c11 : t143 ≥ 0
        · rw [if_pos c11] at H
          have c11b0 : decide (0 ≤ t143) = true := decide_eq_true c11
          clear c11
          by_cases c12 : 0 ≤ t142
          · rw [if_pos c12] at H
            have c12b0 : decide (0 ≤ t142) = true := decide_eq_true c12
            clear c12
            by_cases c13 : t142 < (t137.length : Int)
            · rw [if_pos c13] at H
              have c13b0 : decide (t142 < (t137.length : Int)) = true := decide_eq_true c13
              clear c13
              by_cases c14 : 0 ≤ t143
              · rw [if_pos c14] at H
                have c14b0 : decide (0 ≤ t143) = true := decide_eq_true c14
                clear c14
                by_cases c15 : t143 < (t137.length : Int)
                · rw [if_pos c15] at H
                  have c15b0 : decide (t143 < (t137.length : Int)) = true := decide_eq_true c15
                  clear c15
                  replace H := Option.bind_eq_some_iff.mp H
                  obtain ⟨⟨t146, t147⟩, A160, H⟩ := H
                  replace H : (some (t142, t143, t146, t147, true)) = some (r1, r2, r3, r4, r5) := H
                  have A16 := Aside0.mk A160
                  clear A160
                  simp only [Option.some.injEq, Prod.mk.injEq] at H
                  obtain ⟨rfl, rfl, rfl, rfl, rfl⟩ := H
                  try go_wp2_with (first | ((with_reducible refine gate_dst (N := 8) rfl ?_); (try (refine gate_guard (by rfl) ?_; dsimp only)); refine box_event ?hg (N := 8) ?hd (cs := #[.int .i64 0, .int .i64 0, .int .i64 0, .int .i64 0]) (t := 102) ?hr ?_; (case hd => rfl); (case hg => rfl); (case hr => first | (go_simp; done) | (go_simp; rfl)); intro gb141 hg w17 hbox hb; have n0_ := Aside0.mk (Kd.R_below (by (with_reducible repeat (first | apply Kd.R_alloc | apply Kd.R_drewN | apply Kd.R_drew)); exact HO_6.out) hb); have n1_ := Aside0.mk (blk_below (g := gb136) (o := .cells #[.int .i64 0, .int .i64 0, .int .i64 0, .int .i64 0] 102 (0, 0)) (by (with_reducible repeat (first | refine blk_drewN ?_ _ | refine blk_drew ?_ | refine blk_alloc ?_ _)); exact BK136.out) hb); have n2_ := Aside0.mk (below_step (by repeat (first | (with_reducible first | exact HB.out | apply below_alloc | apply pw_below_drewN | apply below_drew1 | refine below_set ?_ GE136.out) | exact HB.out)) hb); have n3_ := Aside0.mk (hbox); have n4_ := Aside0.mk ((by rw [hg]; exact (below_size (by repeat (first | (with_reducible first | exact HB.out | apply below_alloc | apply pw_below_drewN | apply below_drew1 | refine below_set ?_ GE136.out) | exact HB.out))) : w.heap.size ≤ gb141)); have n5_ := Aside0.mk ((by rw [hg]; exact (below_size (by repeat (first | (with_reducible first | exact HB.out | apply below_alloc | apply pw_below_drewN | apply below_drew1 | refine below_set ?_ GE136.out) | exact HB.out))) : w.heap.size ≤ gb141)); have n6_ := Aside0.mk ((by rw [hg]; exact Nat.ne_of_lt (blk_lt (g := gb136) (o := .cells #[.int .i64 0, .int .i64 0, .int .i64 0, .int .i64 0] 102 (0, 0)) (by (with_reducible repeat (first | refine blk_drewN ?_ _ | refine blk_drew ?_ | refine blk_alloc ?_ _)); exact BK136.out)) : gb136 ≠ gb141)); have n7_ := Aside0.mk ((by rw [hg]; exact Nat.ne_of_gt (blk_lt (g := gb136) (o := .cells #[.int .i64 0, .int .i64 0, .int .i64 0, .int .i64 0] 102 (0, 0)) (by (with_reducible repeat (first | refine blk_drewN ?_ _ | refine blk_drew ?_ | refine blk_alloc ?_ _)); exact BK136.out)) : gb141 ≠ gb136)); clear HO_6; clear BK136; clear HB; have HO_6 := n0_; have BK136 := n1_; have HB := n2_; have BK141 := n3_; have GW141 := n4_; have GE141 := n5_; have NB136_141 := n6_; have NB141_136 := n7_; clear n0_ n1_ n2_ n3_ n4_ n5_ n6_ n7_; clear hb hbox hg; have hnb18 := NB141_136.out; have hnc18 := NB136_141.out; have hcz19_0 : w17.cell? ⟨gb141, 0, none⟩ = some (.int .i64 0) := (blk_cell BK141.out 0).trans rfl; have hcz19_1 : w17.cell? ⟨gb141, 1, none⟩ = some (.int .i64 0) := (blk_cell BK141.out 1).trans rfl; have hcz19_2 : w17.cell? ⟨gb141, 2, none⟩ = some (.int .i64 0) := (blk_cell BK141.out 2).trans rfl; have hcz19_3 : w17.cell? ⟨gb141, 3, none⟩ = some (.int .i64 0) := (blk_cell BK141.out 3).trans rfl; have hfz19_0 := blk_frozen BK141.out 0; have hfz19_1 := blk_frozen BK141.out 1; have hfz19_2 := blk_frozen BK141.out 2; have hfz19_3 := blk_frozen BK141.out 3; obtain ⟨Ao20, co20, eo20⟩ := Kd.R_slice HO_6.out; subst eo20) | ((with_reducible refine gate_callee (f := 74) rfl ?_); refine goesL_ (some 26) rfl rfl Try.func74 (by kernel_rfl) rfl #[.slice Ao20 t137.length co20] rfl (by (try simp only [List.map_toArray, List.map_cons, List.map_nil]); first | done | rfl | (simp only [List.length_drop, List.length_take]; rfl)) ?_; (with_reducible refine (top_Two.calls kj3 _ _ t137 t142 t143 _ ?side1 ?side2 A10.out).mono ?_); (case side1 => refine (Kd.R_reads' (e := 3) (base := w.heap.size) (ok := fun k_ => True) (n := t137.length) (c := co20) ?_).2.2; exact (by (with_reducible repeat (first | apply Kd.R_alloc | apply Kd.R_drewN | apply Kd.R_drew)); exact (Kd.R_mono (Kd.R_far (p := ⟨gb141, 3, none⟩) (Kd.R_far (p := ⟨gb141, 2, none⟩) (Kd.R_far (p := ⟨gb141, 1, none⟩) (Kd.R_far (p := ⟨gb141, 0, none⟩) (Kd.R_types HO_6.out BK141.out (by decide)) (fun _ hk => hk.2) (.int .i64 0)) (fun _ hk => hk.2) (.int .i64 0)) (fun _ hk => hk.2) (.int .i64 65536)) (fun _ hk => hk.2) (.int .i64 0)) (fun _ h_ => h_.1)))); (case side2 => exact (Kd.R_reads' HO_6.out).2.1); rintro e w' ⟨rfl, ⟨nd, rfl⟩⟩; refine ⟨_, rfl, ?_⟩; have bq0 := blk_set (blk_set (blk_set (blk_set BK141.out 0 (.int .i64 0)) 1 (.int .i64 0)) 2 (.int .i64 65536)) 3 (.int .i64 0); have hq0 : (((((w17.setCell ⟨gb141, 0, none⟩ (.int .i64 0)).setCell ⟨gb141, 1, none⟩ (.int .i64 0)).setCell ⟨gb141, 2, none⟩ (.int .i64 65536)).setCell ⟨gb141, 3, none⟩ (.int .i64 0))).cell? ⟨gb141, 0, none⟩ = some (.int .i64 0) := (blk_cell bq0 0).trans rfl; have hq1 : (((((w17.setCell ⟨gb141, 0, none⟩ (.int .i64 0)).setCell ⟨gb141, 1, none⟩ (.int .i64 0)).setCell ⟨gb141, 2, none⟩ (.int .i64 65536)).setCell ⟨gb141, 3, none⟩ (.int .i64 0))).cell? ⟨gb141, 1, none⟩ = some (.int .i64 0) := (blk_cell bq0 1).trans rfl; have hq2 : (((((w17.setCell ⟨gb141, 0, none⟩ (.int .i64 0)).setCell ⟨gb141, 1, none⟩ (.int .i64 0)).setCell ⟨gb141, 2, none⟩ (.int .i64 65536)).setCell ⟨gb141, 3, none⟩ (.int .i64 0))).cell? ⟨gb141, 2, none⟩ = some (.int .i64 65536) := (blk_cell bq0 2).trans rfl; have hq3 : (((((w17.setCell ⟨gb141, 0, none⟩ (.int .i64 0)).setCell ⟨gb141, 1, none⟩ (.int .i64 0)).setCell ⟨gb141, 2, none⟩ (.int .i64 65536)).setCell ⟨gb141, 3, none⟩ (.int .i64 0))).cell? ⟨gb141, 3, none⟩ = some (.int .i64 0) := (blk_cell bq0 3).trans rfl; clear bq0))
                  have n0_ : Aside0 (Kd.R (Kd.int .i64) 3 (((((((w17.setCell ⟨gb141, 0, none⟩ (.int .i64 0)).setCell ⟨gb141, 1, none⟩ (.int .i64 0)).setCell ⟨gb141, 2, none⟩ (.int .i64 65536)).setCell ⟨gb141, 3, none⟩ (.int .i64 0)).drewN nd).setCell ⟨gb141, 0, none⟩ (.int .i64 t142)).setCell ⟨gb141, 1, none⟩ (.int .i64 t143)) w.heap.size (fun _ => True) (.slice Ao20 t137.length co20) t137) := ⟨by (with_reducible repeat (first | apply Kd.R_alloc | apply Kd.R_drewN | apply Kd.R_drew)); exact Kd.R_mono (Kd.R_far (p := ⟨gb141, 1, none⟩) (Kd.R_far (p := ⟨gb141, 0, none⟩) (Kd.R_drewN (Kd.R_far (p := ⟨gb141, 3, none⟩) (Kd.R_far (p := ⟨gb141, 2, none⟩) (Kd.R_far (p := ⟨gb141, 1, none⟩) (Kd.R_far (p := ⟨gb141, 0, none⟩) (Kd.R_types HO_6.out BK141.out (by decide)) (fun _ hk => hk.2) (.int .i64 0)) (fun _ hk => hk.2) (.int .i64 0)) (fun _ hk => hk.2) (.int .i64 65536)) (fun _ hk => hk.2) (.int .i64 0)) nd) (fun _ hk => hk.2) (.int .i64 t142)) (fun _ hk => hk.2) (.int .i64 t143)) (fun _ hk => trivial)⟩
                  have n1_ : Aside0 ((((((((w17.setCell ⟨gb141, 0, none⟩ (.int .i64 0)).setCell ⟨gb141, 1, none⟩ (.int .i64 0)).setCell ⟨gb141, 2, none⟩ (.int .i64 65536)).setCell ⟨gb141, 3, none⟩ (.int .i64 0)).drewN nd).setCell ⟨gb141, 0, none⟩ (.int .i64 t142)).setCell ⟨gb141, 1, none⟩ (.int .i64 t143)).heap[gb136]? = some (.cells #[.int .i64 0, .int .i64 0, .int .i64 0, .int .i64 0] 102 (0, 0))) := ⟨by (with_reducible repeat (first | refine blk_drewN ?_ _ | refine blk_drew ?_ | refine blk_alloc ?_ _)); refine blk_far ?_ NB136_141.out _; (with_reducible repeat (first | refine blk_drewN ?_ _ | refine blk_drew ?_ | refine blk_alloc ?_ _)); refine blk_far ?_ NB136_141.out _; (with_reducible repeat (first | refine blk_drewN ?_ _ | refine blk_drew ?_ | refine blk_alloc ?_ _)); refine blk_far ?_ NB136_141.out _; (with_reducible repeat (first | refine blk_drewN ?_ _ | refine blk_drew ?_ | refine blk_alloc ?_ _)); refine blk_far ?_ NB136_141.out _; (with_reducible repeat (first | refine blk_drewN ?_ _ | refine blk_drew ?_ | refine blk_alloc ?_ _)); refine blk_far ?_ NB136_141.out _; (with_reducible repeat (first | refine blk_drewN ?_ _ | refine blk_drew ?_ | refine blk_alloc ?_ _)); refine blk_far ?_ NB136_141.out _; (with_reducible repeat (first | refine blk_drewN ?_ _ | refine blk_drew ?_ | refine blk_alloc ?_ _)); exact BK136.out⟩
                  have n2_ : Aside0 ((((((((w17.setCell ⟨gb141, 0, none⟩ (.int .i64 0)).setCell ⟨gb141, 1, none⟩ (.int .i64 0)).setCell ⟨gb141, 2, none⟩ (.int .i64 65536)).setCell ⟨gb141, 3, none⟩ (.int .i64 0)).drewN nd).setCell ⟨gb141, 0, none⟩ (.int .i64 t142)).setCell ⟨gb141, 1, none⟩ (.int .i64 t143)).heap[gb141]? = some (.cells #[.int .i64 t142, .int .i64 t143, .int .i64 65536, .int .i64 0] 102 (0, 0))) := ⟨by (with_reducible repeat (first | refine blk_drewN ?_ _ | refine blk_drew ?_ | refine blk_alloc ?_ _)); refine blk_put (cs := #[.int .i64 t142, .int .i64 0, .int .i64 65536, .int .i64 0]) ?_ 1 _ rfl; (with_reducible repeat (first | refine blk_drewN ?_ _ | refine blk_drew ?_ | refine blk_alloc ?_ _)); refine blk_put (cs := #[.int .i64 0, .int .i64 0, .int .i64 65536, .int .i64 0]) ?_ 0 _ rfl; (with_reducible repeat (first | refine blk_drewN ?_ _ | refine blk_drew ?_ | refine blk_alloc ?_ _)); refine blk_put (cs := #[.int .i64 0, .int .i64 0, .int .i64 65536, .int .i64 0]) ?_ 3 _ rfl; (with_reducible repeat (first | refine blk_drewN ?_ _ | refine blk_drew ?_ | refine blk_alloc ?_ _)); refine blk_put (cs := #[.int .i64 0, .int .i64 0, .int .i64 0, .int .i64 0]) ?_ 2 _ rfl; (with_reducible repeat (first | refine blk_drewN ?_ _ | refine blk_drew ?_ | refine blk_alloc ?_ _)); refine blk_put (cs := #[.int .i64 0, .int .i64 0, .int .i64 0, .int .i64 0]) ?_ 1 _ rfl; (with_reducible repeat (first | refine blk_drewN ?_ _ | refine blk_drew ?_ | refine blk_alloc ?_ _)); refine blk_put (cs := #[.int .i64 0, .int .i64 0, .int .i64 0, .int .i64 0]) ?_ 0 _ rfl; (with_reducible repeat (first | refine blk_drewN ?_ _ | refine blk_drew ?_ | refine blk_alloc ?_ _)); exact BK141.out⟩
                  have n3_ : Aside0 (Below w.heap.size w (((((((w17.setCell ⟨gb141, 0, none⟩ (.int .i64 0)).setCell ⟨gb141, 1, none⟩ (.int .i64 0)).setCell ⟨gb141, 2, none⟩ (.int .i64 65536)).setCell ⟨gb141, 3, none⟩ (.int .i64 0)).drewN nd).setCell ⟨gb141, 0, none⟩ (.int .i64 t142)).setCell ⟨gb141, 1, none⟩ (.int .i64 t143))) := ⟨by repeat (first | (with_reducible first | exact HB.out | apply below_alloc | apply pw_below_drewN | apply below_drew1 | refine below_set ?_ GE136.out | refine below_set ?_ GE141.out) | exact HB.out)⟩
                  (try clear HO_6)
                  (try clear BK136)
                  (try clear BK141)
                  (try clear HB)
                  generalize (((((((w17.setCell ⟨gb141, 0, none⟩ (.int .i64 0)).setCell ⟨gb141, 1, none⟩ (.int .i64 0)).setCell ⟨gb141, 2, none⟩ (.int .i64 65536)).setCell ⟨gb141, 3, none⟩ (.int .i64 0)).drewN nd).setCell ⟨gb141, 0, none⟩ (.int .i64 t142)).setCell ⟨gb141, 1, none⟩ (.int .i64 t143)) = w21 at n0_ n1_ n2_ n3_ ⊢
                  have HO_6 := n0_
                  have BK136 := n1_
                  have BK141 := n2_
                  have HB := n3_
                  clear n0_ n1_ n2_ n3_
                  (try (rw [drewN_self w21]; generalize hq_ : World.drewN w21 _ = w21; have n0_ : Aside0 (Kd.R (Kd.int .i64) 3 w21 w.heap.size (fun _ => True) (.slice Ao20 t137.length co20) t137) := ⟨by rw [← hq_]; exact (by (with_reducible repeat (first | apply Kd.R_alloc | apply Kd.R_drewN | apply Kd.R_drew)); exact HO_6.out)⟩; have n1_ : Aside0 (w21.heap[gb136]? = some (.cells #[.int .i64 0, .int .i64 0, .int .i64 0, .int .i64 0] 102 (0, 0))) := ⟨by rw [← hq_]; exact (by (with_reducible repeat (first | refine blk_drewN ?_ _ | refine blk_drew ?_ | refine blk_alloc ?_ _)); exact BK136.out)⟩; have n2_ : Aside0 (w21.heap[gb141]? = some (.cells #[.int .i64 t142, .int .i64 t143, .int .i64 65536, .int .i64 0] 102 (0, 0))) := ⟨by rw [← hq_]; exact (by (with_reducible repeat (first | refine blk_drewN ?_ _ | refine blk_drew ?_ | refine blk_alloc ?_ _)); exact BK141.out)⟩; have n3_ : Aside0 (Below w.heap.size w w21) := ⟨by rw [← hq_]; exact (by repeat (first | (with_reducible first | exact HB.out | apply below_alloc | apply pw_below_drewN | apply below_drew1 | refine below_set ?_ GE136.out | refine below_set ?_ GE141.out) | exact HB.out))⟩; clear HO_6 BK136 BK141 HB hq_; have HO_6 := n0_; have BK136 := n1_; have BK141 := n2_; have HB := n3_; clear n0_ n1_ n2_ n3_))
                  have n0_ := Aside0.mk (Kd.R_drew HO_6.out)
                  have n1_ := Aside0.mk (blk_drew BK136.out)
                  have n2_ := Aside0.mk (blk_drew BK141.out)
                  have n3_ := Aside0.mk (below_drew1 HB.out)
                  clear HO_6
                  clear BK136
                  clear BK141
                  clear HB
                  have HO_6 := n0_
                  have BK136 := n1_
                  have BK141 := n2_
                  have HB := n3_
                  clear n0_ n1_ n2_ n3_
                  have p144 : 0 ≤ (t142 : Int) := of_decide_eq_true (by first | (with_reducible assumption) | assumption)
                  have q144 : t142 < (t137.length : Int) := of_decide_eq_true (by first | (with_reducible assumption) | assumption)
                  obtain ⟨ad144, e144, hx144_0⟩ := Kd.at_int (Kd.R_reads' HO_6.out).2.2 t142 p144 q144
                  cases e144
                  replace p144 := eq_true p144
                  replace q144 := eq_true q144
                  have p145 : 0 ≤ (t143 : Int) := of_decide_eq_true (by first | (with_reducible assumption) | assumption)
                  have q145 : t143 < (t137.length : Int) := of_decide_eq_true (by first | (with_reducible assumption) | assumption)
                  obtain ⟨ad145, e145, hx145_0⟩ := Kd.at_int (Kd.R_reads' HO_6.out).2.2 t143 p145 q145
                  obtain rfl : ad144 = ad145 := (by injection e145)
                  replace p145 := eq_true p145
                  replace q145 := eq_true q145
                  refine start_ (n := 18) (S := fun w' => w'.cell? ⟨gb141, 0, none⟩ = some (.int .i64 t142) ∧ w'.cell? ⟨gb141, 1, none⟩ = some (.int .i64 t143) ∧ w'.cell? ⟨gb141, 2, none⟩ = some (.int .i64 65536) ∧ w'.cell? ⟨gb141, 3, none⟩ = some (.int .i64 0) ∧ w'.cell? (ad144.add (t142).toNat) = some (.int .i64 (rd t137 t142)) ∧ w'.cell? (ad144.add (t143).toNat) = some (.int .i64 (rd t137 t143))) (ds := [15, 17]) #[false, false, false, false, false, false, false, false, false, false, false, false, false, false, false, false, false, false] (by kernel_rfl) rfl rfl ⟨(blk_cell BK141.out 0).trans rfl, (blk_cell BK141.out 1).trans rfl, (blk_cell BK141.out 2).trans rfl, (blk_cell BK141.out 3).trans rfl, hx144_0, hx145_0⟩ (fun hHeld => ?_); refine with_tabW gate_Choose.tab7 gate_Choose.bits7 (fun HT_ HW_ => ?_)
                  generalize w21.drew = w22 at HO_6 BK136 BK141 HB hx144_0 hx145_0 hHeld ⊢
                  refine pure_ (i := 0) (N := some 35) (v := ?_) (a' := ?_) #[true, false, false, false, false, false, false, false, false, false, false, false, false, false, false, false, false, false] rfl rfl (any_of HT_.out (by kernel_rfl)) (fun _ _ _ h => h) (Or.inl ⟨by rfl, ?_⟩) ?_ ?_
                  rotate_left
                  · intro w'
                    go_simp
                    with_reducible rfl
                  rotate_left
                  · simp only [Act.put, List.setIfInBounds_toArray, List.set_cons_zero, List.set_cons_succ, i64_w, i32_w]
                    rfl
                  refine pure_ (i := 1) (N := some 36) (v := ?_) (a' := ?_) #[true, true, false, false, false, false, false, false, false, false, false, false, false, false, false, false, false, false] rfl rfl (any_of HT_.out (by kernel_rfl)) (fun _ _ _ h => h) (Or.inl ⟨by rfl, ?_⟩) ?_ ?_
                  rotate_left
                  · intro w'
                    go_simp
                    with_reducible rfl
                  rotate_left
                  · simp only [Act.put, List.setIfInBounds_toArray, List.set_cons_zero, List.set_cons_succ, i64_w, i32_w]
                    rfl
                  refine pure_ (i := 5) (N := some 40) (v := ?_) (a' := ?_) #[true, true, false, false, false, true, false, false, false, false, false, false, false, false, false, false, false, false] rfl rfl (any_of HT_.out (by kernel_rfl)) (fun _ _ _ h => h) (Or.inl ⟨by rfl, ?_⟩) ?_ ?_
                  rotate_left
                  · intro w'
                    go_simp
                    with_reducible rfl
                  rotate_left
                  · simp only [Act.put, List.setIfInBounds_toArray, List.set_cons_zero, List.set_cons_succ, i64_w, i32_w]
                    rfl
                  refine pure_ (i := 6) (N := some 41) (v := ?_) (a' := ?_) #[true, true, false, false, false, true, true, false, false, false, false, false, false, false, false, false, false, false] rfl rfl (any_of HT_.out (by kernel_rfl)) (fun _ _ _ h => h) (Or.inl ⟨by rfl, ?_⟩) ?_ ?_
                  rotate_left
                  · intro w'
                    go_simp
                    with_reducible rfl
                  rotate_left
                  · simp only [Act.put, List.setIfInBounds_toArray, List.set_cons_zero, List.set_cons_succ, i64_w, i32_w]
                    rfl
                  refine take_ (i := 2) (N := some 37) (v := ?_) (a' := ?_) #[true, true, true, false, false, true, true, false, false, false, false, false, false, false, false, false, false, false] rfl rfl (take_ofW HT_.out HW_.out (by kernel_rfl)) (fun _ _ _ h => h) (Or.inl ⟨by rfl, ?_⟩) hHeld ?_ ?_
                  rotate_left
                  · rintro w' ⟨s0, s1, s2, s3, s4, s5⟩
                    go_simp
                    with_reducible rfl
                  rotate_left
                  · simp only [Act.put, List.setIfInBounds_toArray, List.set_cons_zero, List.set_cons_succ, i64_w, i32_w]
                    rfl
                  refine pure_ (i := 3) (N := some 38) (v := ?_) (a' := ?_) #[true, true, true, true, false, true, true, false, false, false, false, false, false, false, false, false, false, false] rfl rfl (any_of HT_.out (by kernel_rfl)) (fun _ _ _ h => h) (Or.inl ⟨by rfl, ?_⟩) ?_ ?_
                  rotate_left
                  · intro w'
                    go_simp
                    with_reducible rfl
                  rotate_left
                  · simp only [Act.put, List.setIfInBounds_toArray, List.set_cons_zero, List.set_cons_succ, i64_w, i32_w]
                    rfl
                  refine take_ (i := 4) (N := some 39) (v := ?_) (a' := ?_) #[true, true, true, true, true, true, true, false, false, false, false, false, false, false, false, false, false, false] rfl rfl (take_ofW HT_.out HW_.out (by kernel_rfl)) (fun _ _ _ h => h) (Or.inl ⟨by rfl, ?_⟩) hHeld ?_ ?_
                  rotate_left
                  · rintro w' ⟨s0, s1, s2, s3, s4, s5⟩
                    go_simp
                    with_reducible rfl
                  rotate_left
                  · simp only [Act.put, List.setIfInBounds_toArray, List.set_cons_zero, List.set_cons_succ, i64_w, i32_w]
                    rfl
                  refine take_ (i := 7) (N := some 42) (v := ?_) (a' := ?_) #[true, true, true, true, true, true, true, true, false, false, false, false, false, false, false, false, false, false] rfl rfl (take_ofW HT_.out HW_.out (by kernel_rfl)) (fun _ _ _ h => h) (Or.inl ⟨by rfl, ?_⟩) hHeld ?_ ?_
                  rotate_left
                  · rintro w' ⟨s0, s1, s2, s3, s4, s5⟩
                    go_simp
                    with_reducible rfl
                  rotate_left
                  · simp only [Act.put, List.setIfInBounds_toArray, List.set_cons_zero, List.set_cons_succ, i64_w, i32_w]
                    rfl
                  refine pure_ (i := 8) (N := some 43) (v := ?_) (a' := ?_) #[true, true, true, true, true, true, true, true, true, false, false, false, false, false, false, false, false, false] rfl rfl (any_of HT_.out (by kernel_rfl)) (fun _ _ _ h => h) (Or.inl ⟨by rfl, ?_⟩) ?_ ?_
                  rotate_left
                  · intro w'
                    go_simp
                    with_reducible rfl
                  rotate_left
                  · simp only [Act.put, List.setIfInBounds_toArray, List.set_cons_zero, List.set_cons_succ, i64_w, i32_w]
                    rfl
                  refine take_ (i := 9) (N := some 44) (v := ?_) (a' := ?_) #[true, true, true, true, true, true, true, true, true, true, false, false, false, false, false, false, false, false] rfl rfl (take_ofW HT_.out HW_.out (by kernel_rfl)) (fun _ _ _ h => h) (Or.inl ⟨by rfl, ?_⟩) hHeld ?_ ?_
                  rotate_left
                  · rintro w' ⟨s0, s1, s2, s3, s4, s5⟩
                    go_simp
                    with_reducible rfl
                  rotate_left
                  · simp only [Act.put, List.setIfInBounds_toArray, List.set_cons_zero, List.set_cons_succ, i64_w, i32_w]
                    rfl
                  refine one_ (i := 10) (N := some 45) #[true, true, true, true, true, true, true, true, true, true, true, false, false, false, false, false, false, false] rfl rfl (one_of HT_.out (by kernel_rfl)) (by decide) (fun K hK => ?_)
                  refine goes_ Try.func75 (by kernel_rfl) rfl #[.int .i64 (rd t137 t142), .int .i64 (rd t137 t143)] (by rfl) rfl rfl (by (try simp only [List.map_toArray, List.map_cons, List.map_nil]); first | done | rfl | (simp only [List.length_drop, List.length_take]; rfl)) ?_
                  with_reducible refine (share_Shares.calls (rd t137 t142) (rd t137 t143) t146 t147 _ A16.out).mono ?_
                  rintro e w23 ⟨rfl, hb⟩
                  have HS4_ := (hb.cell (World.block_lt_of_cell? _ _ (hHeld.2.2.2.2.1))).trans (hHeld.2.2.2.2.1)
                  have HS5_ := (hb.cell (World.block_lt_of_cell? _ _ (hHeld.2.2.2.2.2))).trans (hHeld.2.2.2.2.2)
                  refine ⟨_, rfl, ?_⟩
                  have n0_ := Aside0.mk (Kd.R_below (by (with_reducible repeat (first | apply Kd.R_alloc | apply Kd.R_drewN | apply Kd.R_drew)); exact HO_6.out) hb)
                  have n1_ := Aside0.mk (blk_below (g := gb136) (o := .cells #[.int .i64 0, .int .i64 0, .int .i64 0, .int .i64 0] 102 (0, 0)) (by (with_reducible repeat (first | refine blk_drewN ?_ _ | refine blk_drew ?_ | refine blk_alloc ?_ _)); exact BK136.out) hb)
                  have n2_ := Aside0.mk (blk_below (g := gb141) (o := .cells #[.int .i64 t142, .int .i64 t143, .int .i64 65536, .int .i64 0] 102 (0, 0)) (by (with_reducible repeat (first | refine blk_drewN ?_ _ | refine blk_drew ?_ | refine blk_alloc ?_ _)); exact BK141.out) hb)
                  have n3_ := Aside0.mk (below_step (by repeat (first | (with_reducible first | exact HB.out | apply below_alloc | apply pw_below_drewN | apply below_drew1 | refine below_set ?_ GE136.out | refine below_set ?_ GE141.out) | exact HB.out)) hb)
                  clear HO_6
                  clear BK136
                  clear BK141
                  clear HB
                  have HO_6 := n0_
                  have BK136 := n1_
                  have BK141 := n2_
                  have HB := n3_
                  clear n0_ n1_ n2_ n3_
                  (try clear hb)
                  (try clear hb2)
                  (try clear hk)
                  (try clear hi)
                  refine hK.out _ _ ⟨(blk_cell BK141.out 0).trans rfl, (blk_cell BK141.out 1).trans rfl, (blk_cell BK141.out 2).trans rfl, (blk_cell BK141.out 3).trans rfl, HS4_, HS5_⟩ (fun hHeld => ?_)
                  clear hK K
                  refine norm_ (a' := ?_) ?_ ?_
                  rotate_left
                  · show Act.put _ (some 45) _ = _
                    simp only [Act.put, List.setIfInBounds_toArray, List.set_cons_zero, List.set_cons_succ, i64_w, i32_w]
                    rfl
                  refine pure_ (i := 11) (N := some 34) (v := ?_) (a' := ?_) #[true, true, true, true, true, true, true, true, true, true, true, true, false, false, false, false, false, false] rfl rfl (any_of HT_.out (by kernel_rfl)) (fun _ _ _ h => h) (Or.inl ⟨by rfl, ?_⟩) ?_ ?_
                  rotate_left
                  · intro w'
                    go_simp
                    with_reducible rfl
                  rotate_left
                  · simp only [Act.put, List.setIfInBounds_toArray, List.set_cons_zero, List.set_cons_succ, i64_w, i32_w]
                    rfl
                  refine pure_ (i := 12) (N := some 46) (v := ?_) (a' := ?_) #[true, true, true, true, true, true, true, true, true, true, true, true, true, false, false, false, false, false] rfl rfl (any_of HT_.out (by kernel_rfl)) (fun _ _ _ h => h) (Or.inl ⟨by rfl, ?_⟩) ?_ ?_
                  rotate_left
                  · intro w'
                    go_simp
                    with_reducible rfl
                  rotate_left
                  · simp only [Act.put, List.setIfInBounds_toArray, List.set_cons_zero, List.set_cons_succ, i64_w, i32_w]
                    rfl
                  refine pure_ (i := 13) (N := some 47) (v := ?_) (a' := ?_) #[true, true, true, true, true, true, true, true, true, true, true, true, true, true, false, false, false, false] rfl rfl (any_of HT_.out (by kernel_rfl)) (fun _ _ _ h => h) (Or.inl ⟨by rfl, ?_⟩) ?_ ?_
                  rotate_left
                  · intro w'
                    go_simp
                    with_reducible rfl
                  rotate_left
                  · simp only [Act.put, List.setIfInBounds_toArray, List.set_cons_zero, List.set_cons_succ, i64_w, i32_w]
                    rfl
                  refine pure_ (i := 14) (N := some 48) (v := ?_) (a' := ?_) #[true, true, true, true, true, true, true, true, true, true, true, true, true, true, true, false, false, false] rfl rfl (any_of HT_.out (by kernel_rfl)) (fun _ _ _ h => h) (Or.inl ⟨by rfl, ?_⟩) ?_ ?_
                  rotate_left
                  · intro w'
                    go_simp
                    with_reducible rfl
                  rotate_left
                  · simp only [Act.put, List.setIfInBounds_toArray, List.set_cons_zero, List.set_cons_succ, i64_w, i32_w]
                    rfl
                  refine last_ (i := 15) (N := none) #[true, true, true, true, true, true, true, true, true, true, true, true, true, true, true, true, false, false] rfl rfl (one_of HT_.out (by kernel_rfl)) (by decide) (fun K hK => ?_)
                  have hs24 : w23.cell? ⟨gb141, 2, none⟩ = some (.int .i64 65536) := (blk_cell BK141.out 2).trans rfl
                  have hfs24 := blk_frozen BK141.out 2
                  have hns24_0 := NB136_141.out
                  have hms24_0 := NB141_136.out
                  refine skip_ (w1 := ?_) (by rfl) rfl ?_ ?_
                  rotate_left
                  · go_simp
                    rfl
                  refine hK.out _ _ ?_
                  clear hK K
                  refine pure_ (i := 16) (N := some 49) (v := ?_) (a' := ?_) #[true, true, true, true, true, true, true, true, true, true, true, true, true, true, true, true, true, false] rfl rfl (any_of HT_.out (by kernel_rfl)) (fun _ _ _ h => h) (Or.inl ⟨by rfl, ?_⟩) ?_ ?_
                  rotate_left
                  · intro w'
                    go_simp
                    with_reducible rfl
                  rotate_left
                  · simp only [Act.put, List.setIfInBounds_toArray, List.set_cons_zero, List.set_cons_succ, i64_w, i32_w]
                    rfl
                  refine last_ (i := 17) (N := none) #[true, true, true, true, true, true, true, true, true, true, true, true, true, true, true, true, true, true] rfl rfl (one_of HT_.out (by kernel_rfl)) (by decide) (fun K hK => ?_)
                  have hs25 : w23.cell? ⟨gb141, 3, none⟩ = some (.int .i64 0) := (blk_cell BK141.out 3).trans rfl
                  have hfs25 := blk_frozen BK141.out 3
                  have hns25_0 := NB136_141.out
                  have hms25_0 := NB141_136.out
                  refine skip_ (w1 := ?_) (by rfl) rfl ?_ ?_
                  rotate_left
                  · go_simp
                    rfl
                  refine hK.out _ _ ?_
                  clear hK K
                  refine done_ (done_of HT_.out (by kernel_rfl)) ?_
                  have hcz26_0 : w23.cell? ⟨gb141, 0, none⟩ = some (.int .i64 t142) := (blk_cell BK141.out 0).trans rfl
                  have hcz26_1 : w23.cell? ⟨gb141, 1, none⟩ = some (.int .i64 t143) := (blk_cell BK141.out 1).trans rfl
                  have hcz26_2 : w23.cell? ⟨gb141, 2, none⟩ = some (.int .i64 65536) := (blk_cell BK141.out 2).trans rfl
                  have hcz26_3 : w23.cell? ⟨gb141, 3, none⟩ = some (.int .i64 0) := (blk_cell BK141.out 3).trans rfl
                  have hfz26_0 := blk_frozen BK141.out 0
                  have hfz26_1 := blk_frozen BK141.out 1
                  have hfz26_2 := blk_frozen BK141.out 2
                  have hfz26_3 := blk_frozen BK141.out 3
                  have hcz27_0 : w23.cell? ⟨gb136, 0, none⟩ = some (.int .i64 0) := (blk_cell BK136.out 0).trans rfl
                  have hcz27_1 : w23.cell? ⟨gb136, 1, none⟩ = some (.int .i64 0) := (blk_cell BK136.out 1).trans rfl
                  have hcz27_2 : w23.cell? ⟨gb136, 2, none⟩ = some (.int .i64 0) := (blk_cell BK136.out 2).trans rfl
                  have hcz27_3 : w23.cell? ⟨gb136, 3, none⟩ = some (.int .i64 0) := (blk_cell BK136.out 3).trans rfl
                  have hfz27_0 := blk_frozen BK136.out 0
                  have hfz27_1 := blk_frozen BK136.out 1
                  have hfz27_2 := blk_frozen BK136.out 2
                  have hfz27_3 := blk_frozen BK136.out 3
                  try go_wp2
                  refine bodyPost_ret (results_ct rfl _ _ gb136 102 #[.int .i64 t142, .int .i64 t143, .int .i64 t146, .int .i64 t147] (0, 0) _ rfl (by (with_reducible repeat (first | refine blk_drewN ?_ _ | refine blk_drew ?_ | refine blk_alloc ?_ _)); refine blk_put (cs := #[.int .i64 t142, .int .i64 t143, .int .i64 t146, .int .i64 0]) ?_ 3 _ rfl; (with_reducible repeat (first | refine blk_drewN ?_ _ | refine blk_drew ?_ | refine blk_alloc ?_ _)); refine blk_put (cs := #[.int .i64 t142, .int .i64 t143, .int .i64 0, .int .i64 0]) ?_ 2 _ rfl; (with_reducible repeat (first | refine blk_drewN ?_ _ | refine blk_drew ?_ | refine blk_alloc ?_ _)); refine blk_put (cs := #[.int .i64 t142, .int .i64 0, .int .i64 0, .int .i64 0]) ?_ 1 _ rfl; (with_reducible repeat (first | refine blk_drewN ?_ _ | refine blk_drew ?_ | refine blk_alloc ?_ _)); refine blk_put (cs := #[.int .i64 0, .int .i64 0, .int .i64 0, .int .i64 0]) ?_ 0 _ rfl; (with_reducible repeat (first | refine blk_drewN ?_ _ | refine blk_drew ?_ | refine blk_alloc ?_ _)); refine blk_far ?_ NB136_141.out _; (with_reducible repeat (first | refine blk_drewN ?_ _ | refine blk_drew ?_ | refine blk_alloc ?_ _)); refine blk_far ?_ NB136_141.out _; (with_reducible repeat (first | refine blk_drewN ?_ _ | refine blk_drew ?_ | refine blk_alloc ?_ _)); exact BK136.out) Try.underlying102 rfl (by kernel_rfl)) rfl ?_
                  exact ⟨by first | rfl | (simp [errW_none, errW_some] <;> rfl) | (simp [*, errW_none, errW_some] <;> rfl), by repeat (first | (with_reducible first | exact HB.out | apply below_alloc | apply pw_below_drewN | apply below_drew1 | refine below_set ?_ GE136.out | refine below_set ?_ GE141.out) | exact HB.out)⟩
                · rw [if_neg c15] at H
                  exact absurd H (by simp)
              · rw [if_neg c14] at H
                exact absurd H (by simp)
            · rw [if_neg c13] at H
              exact absurd H (by simp)
          · rw [if_neg c12] at H
            exact absurd H (by simp)
        · rw [if_neg c11] at H
          have c11b0 : decide (0 ≤ t143) = false := decide_eq_false c11
          clear c11
          simp only [Option.some.injEq, Prod.mk.injEq] at H
          obtain ⟨rfl, rfl, rfl, rfl, rfl⟩ := H
          go_wp2_with (first | ((with_reducible refine gate_dst (N := 8) rfl ?_); (try (refine gate_guard (by rfl) ?_; dsimp only)); refine box_event ?hg (N := 8) ?hd (cs := #[.int .i64 0, .int .i64 0, .int .i64 0, .int .i64 0]) (t := 102) ?hr ?_; (case hd => rfl); (case hg => rfl); (case hr => first | (go_simp; done) | (go_simp; rfl)); intro gb141 hg w28 hbox hb; have n0_ := Aside0.mk (Kd.R_below (by (with_reducible repeat (first | apply Kd.R_alloc | apply Kd.R_drewN | apply Kd.R_drew)); exact HO_6.out) hb); have n1_ := Aside0.mk (blk_below (g := gb136) (o := .cells #[.int .i64 0, .int .i64 0, .int .i64 0, .int .i64 0] 102 (0, 0)) (by (with_reducible repeat (first | refine blk_drewN ?_ _ | refine blk_drew ?_ | refine blk_alloc ?_ _)); exact BK136.out) hb); have n2_ := Aside0.mk (below_step (by repeat (first | (with_reducible first | exact HB.out | apply below_alloc | apply pw_below_drewN | apply below_drew1 | refine below_set ?_ GE136.out) | exact HB.out)) hb); have n3_ := Aside0.mk (hbox); have n4_ := Aside0.mk ((by rw [hg]; exact (below_size (by repeat (first | (with_reducible first | exact HB.out | apply below_alloc | apply pw_below_drewN | apply below_drew1 | refine below_set ?_ GE136.out) | exact HB.out))) : w.heap.size ≤ gb141)); have n5_ := Aside0.mk ((by rw [hg]; exact (below_size (by repeat (first | (with_reducible first | exact HB.out | apply below_alloc | apply pw_below_drewN | apply below_drew1 | refine below_set ?_ GE136.out) | exact HB.out))) : w.heap.size ≤ gb141)); have n6_ := Aside0.mk ((by rw [hg]; exact Nat.ne_of_lt (blk_lt (g := gb136) (o := .cells #[.int .i64 0, .int .i64 0, .int .i64 0, .int .i64 0] 102 (0, 0)) (by (with_reducible repeat (first | refine blk_drewN ?_ _ | refine blk_drew ?_ | refine blk_alloc ?_ _)); exact BK136.out)) : gb136 ≠ gb141)); have n7_ := Aside0.mk ((by rw [hg]; exact Nat.ne_of_gt (blk_lt (g := gb136) (o := .cells #[.int .i64 0, .int .i64 0, .int .i64 0, .int .i64 0] 102 (0, 0)) (by (with_reducible repeat (first | refine blk_drewN ?_ _ | refine blk_drew ?_ | refine blk_alloc ?_ _)); exact BK136.out)) : gb141 ≠ gb136)); clear HO_6; clear BK136; clear HB; have HO_6 := n0_; have BK136 := n1_; have HB := n2_; have BK141 := n3_; have GW141 := n4_; have GE141 := n5_; have NB136_141 := n6_; have NB141_136 := n7_; clear n0_ n1_ n2_ n3_ n4_ n5_ n6_ n7_; clear hb hbox hg; have hnb29 := NB141_136.out; have hnc29 := NB136_141.out; have hcz30_0 : w28.cell? ⟨gb141, 0, none⟩ = some (.int .i64 0) := (blk_cell BK141.out 0).trans rfl; have hcz30_1 : w28.cell? ⟨gb141, 1, none⟩ = some (.int .i64 0) := (blk_cell BK141.out 1).trans rfl; have hcz30_2 : w28.cell? ⟨gb141, 2, none⟩ = some (.int .i64 0) := (blk_cell BK141.out 2).trans rfl; have hcz30_3 : w28.cell? ⟨gb141, 3, none⟩ = some (.int .i64 0) := (blk_cell BK141.out 3).trans rfl; have hfz30_0 := blk_frozen BK141.out 0; have hfz30_1 := blk_frozen BK141.out 1; have hfz30_2 := blk_frozen BK141.out 2; have hfz30_3 := blk_frozen BK141.out 3; obtain ⟨Ao31, co31, eo31⟩ := Kd.R_slice HO_6.out; subst eo31) | ((with_reducible refine gate_callee (f := 74) rfl ?_); refine goesL_ (some 26) rfl rfl Try.func74 (by kernel_rfl) rfl #[.slice Ao31 t137.length co31] rfl (by (try simp only [List.map_toArray, List.map_cons, List.map_nil]); first | done | rfl | (simp only [List.length_drop, List.length_take]; rfl)) ?_; (with_reducible refine (top_Two.calls kj3 _ _ t137 t142 t143 _ ?side1 ?side2 A10.out).mono ?_); (case side1 => refine (Kd.R_reads' (e := 3) (base := w.heap.size) (ok := fun k_ => True) (n := t137.length) (c := co31) ?_).2.2; exact (by (with_reducible repeat (first | apply Kd.R_alloc | apply Kd.R_drewN | apply Kd.R_drew)); exact (Kd.R_mono (Kd.R_far (p := ⟨gb141, 3, none⟩) (Kd.R_far (p := ⟨gb141, 2, none⟩) (Kd.R_far (p := ⟨gb141, 1, none⟩) (Kd.R_far (p := ⟨gb141, 0, none⟩) (Kd.R_types HO_6.out BK141.out (by decide)) (fun _ hk => hk.2) (.int .i64 0)) (fun _ hk => hk.2) (.int .i64 0)) (fun _ hk => hk.2) (.int .i64 65536)) (fun _ hk => hk.2) (.int .i64 0)) (fun _ h_ => h_.1)))); (case side2 => exact (Kd.R_reads' HO_6.out).2.1); rintro e w' ⟨rfl, ⟨nd, rfl⟩⟩; refine ⟨_, rfl, ?_⟩; have bq0 := blk_set (blk_set (blk_set (blk_set BK141.out 0 (.int .i64 0)) 1 (.int .i64 0)) 2 (.int .i64 65536)) 3 (.int .i64 0); have hq0 : (((((w28.setCell ⟨gb141, 0, none⟩ (.int .i64 0)).setCell ⟨gb141, 1, none⟩ (.int .i64 0)).setCell ⟨gb141, 2, none⟩ (.int .i64 65536)).setCell ⟨gb141, 3, none⟩ (.int .i64 0))).cell? ⟨gb141, 0, none⟩ = some (.int .i64 0) := (blk_cell bq0 0).trans rfl; have hq1 : (((((w28.setCell ⟨gb141, 0, none⟩ (.int .i64 0)).setCell ⟨gb141, 1, none⟩ (.int .i64 0)).setCell ⟨gb141, 2, none⟩ (.int .i64 65536)).setCell ⟨gb141, 3, none⟩ (.int .i64 0))).cell? ⟨gb141, 1, none⟩ = some (.int .i64 0) := (blk_cell bq0 1).trans rfl; have hq2 : (((((w28.setCell ⟨gb141, 0, none⟩ (.int .i64 0)).setCell ⟨gb141, 1, none⟩ (.int .i64 0)).setCell ⟨gb141, 2, none⟩ (.int .i64 65536)).setCell ⟨gb141, 3, none⟩ (.int .i64 0))).cell? ⟨gb141, 2, none⟩ = some (.int .i64 65536) := (blk_cell bq0 2).trans rfl; have hq3 : (((((w28.setCell ⟨gb141, 0, none⟩ (.int .i64 0)).setCell ⟨gb141, 1, none⟩ (.int .i64 0)).setCell ⟨gb141, 2, none⟩ (.int .i64 65536)).setCell ⟨gb141, 3, none⟩ (.int .i64 0))).cell? ⟨gb141, 3, none⟩ = some (.int .i64 0) := (blk_cell bq0 3).trans rfl; clear bq0; have hcz32_0 : w28.cell? ⟨gb136, 0, none⟩ = some (.int .i64 0) := (blk_cell BK136.out 0).trans rfl; have hcz32_1 : w28.cell? ⟨gb136, 1, none⟩ = some (.int .i64 0) := (blk_cell BK136.out 1).trans rfl; have hcz32_2 : w28.cell? ⟨gb136, 2, none⟩ = some (.int .i64 0) := (blk_cell BK136.out 2).trans rfl; have hcz32_3 : w28.cell? ⟨gb136, 3, none⟩ = some (.int .i64 0) := (blk_cell BK136.out 3).trans rfl; have hfz32_0 := blk_frozen BK136.out 0; have hfz32_1 := blk_frozen BK136.out 1; have hfz32_2 := blk_frozen BK136.out 2; have hfz32_3 := blk_frozen BK136.out 3))
          refine bodyPost_ret (results_ct rfl _ _ gb136 102 #[.int .i64 t142, .int .i64 t143, .int .i64 65536, .int .i64 0] (0, 0) _ rfl (by (with_reducible repeat (first | refine blk_drewN ?_ _ | refine blk_drew ?_ | refine blk_alloc ?_ _)); refine blk_put (cs := #[.int .i64 t142, .int .i64 t143, .int .i64 65536, .int .i64 0]) ?_ 3 _ rfl; (with_reducible repeat (first | refine blk_drewN ?_ _ | refine blk_drew ?_ | refine blk_alloc ?_ _)); refine blk_put (cs := #[.int .i64 t142, .int .i64 t143, .int .i64 0, .int .i64 0]) ?_ 2 _ rfl; (with_reducible repeat (first | refine blk_drewN ?_ _ | refine blk_drew ?_ | refine blk_alloc ?_ _)); refine blk_put (cs := #[.int .i64 t142, .int .i64 0, .int .i64 0, .int .i64 0]) ?_ 1 _ rfl; (with_reducible repeat (first | refine blk_drewN ?_ _ | refine blk_drew ?_ | refine blk_alloc ?_ _)); refine blk_put (cs := #[.int .i64 0, .int .i64 0, .int .i64 0, .int .i64 0]) ?_ 0 _ rfl; (with_reducible repeat (first | refine blk_drewN ?_ _ | refine blk_drew ?_ | refine blk_alloc ?_ _)); refine blk_far ?_ NB136_141.out _; (with_reducible repeat (first | refine blk_drewN ?_ _ | refine blk_drew ?_ | refine blk_alloc ?_ _)); refine blk_far ?_ NB136_141.out _; (with_reducible repeat (first | refine blk_drewN ?_ _ | refine blk_drew ?_ | refine blk_alloc ?_ _)); refine blk_far ?_ NB136_141.out _; (with_reducible repeat (first | refine blk_drewN ?_ _ | refine blk_drew ?_ | refine blk_alloc ?_ _)); refine blk_far ?_ NB136_141.out _; (with_reducible repeat (first | refine blk_drewN ?_ _ | refine blk_drew ?_ | refine blk_alloc ?_ _)); refine blk_far ?_ NB136_141.out _; (with_reducible repeat (first | refine blk_drewN ?_ _ | refine blk_drew ?_ | refine blk_alloc ?_ _)); refine blk_far ?_ NB136_141.out _; (with_reducible repeat (first | refine blk_drewN ?_ _ | refine blk_drew ?_ | refine blk_alloc ?_ _)); exact BK136.out) Try.underlying102 rfl (by kernel_rfl)) rfl ?_
          exact ⟨by first | rfl | (simp [errW_none, errW_some] <;> rfl) | (simp [*, errW_none, errW_some] <;> rfl), by repeat (first | (with_reducible first | exact HB.out | apply below_alloc | apply pw_below_drewN | apply below_drew1 | refine below_set ?_ GE136.out | refine below_set ?_ GE141.out) | exact HB.out)⟩

/-! ### slots_Assign: function 50 (given by hand) -/
/-- The slot of a part; the parts given behind it. -/
def slotOne (e c : Int) (g : Int → Int) (x : Int) : Int := if x < 0 then -1 else if x ≥ e then -1 else if g x ≥ c then -1 else g x
def slotUp (e c : Int) (g : Int → Int) (x : Int) : Int → Int := if x < 0 then g else if x ≥ e then g else if g x ≥ c then g else fun y => if y = x then g x + 1 else g y
def assignL (e c : Int) : (Int → Int) → List S105 → List S105
  | _, [] => []
  | g, p :: r => (⟨slotOne e c g p.f0, slotOne e c (slotUp e c g p.f0) p.f1⟩ : S105) :: assignL e c (slotUp e c (slotUp e c g p.f0) p.f1) r
def assignG (e c : Int) : (Int → Int) → List S105 → (Int → Int)
  | g, [] => g
  | g, p :: r => assignG e c (slotUp e c (slotUp e c g p.f0) p.f1) r
theorem assignL_snoc (e c : Int) (p : S105) : ∀ (l : List S105) (g : Int → Int), assignL e c g (l ++ [p]) = assignL e c g l ++ [(⟨slotOne e c (assignG e c g l) p.f0, slotOne e c (slotUp e c (assignG e c g l) p.f0) p.f1⟩ : S105)]
  | [], g => rfl
  | q :: r, g => by simp only [List.cons_append, assignL, assignG, assignL_snoc e c p r]
theorem assignG_snoc (e c : Int) (p : S105) : ∀ (l : List S105) (g : Int → Int), assignG e c g (l ++ [p]) = slotUp e c (slotUp e c (assignG e c g l) p.f0) p.f1
  | [], g => rfl
  | q :: r, g => by simp only [List.cons_append, assignG, assignG_snoc e c p r]
theorem assignL_length (e c : Int) : ∀ (l : List S105) (g : Int → Int), (assignL e c g l).length = l.length
  | [], g => rfl
  | q :: r, g => by simp only [assignL, List.length_cons, assignL_length e c r]
theorem slotUp_range (e c : Int) {g : Int → Int} {n : Int} (h : ∀ y, 0 ≤ g y ∧ g y ≤ n) (x y : Int) : 0 ≤ slotUp e c g x y ∧ slotUp e c g x y ≤ n + 1 := by
  have h1 := h x
  have h2 := h y
  unfold slotUp
  split
  · omega
  · split
    · omega
    · split
      · omega
      · dsimp only; split <;> omega
theorem assignG_range (e c : Int) : ∀ (l : List S105) (g : Int → Int) (n : Int), (∀ y, 0 ≤ g y ∧ g y ≤ n) → ∀ y, 0 ≤ assignG e c g l y ∧ assignG e c g l y ≤ n + 2 * l.length
  | [], g, n, h, y => by have := h y; simp only [assignG, List.length_nil]; omega
  | q :: r, g, n, h, y => by
    have := assignG_range e c r _ _ (fun y => slotUp_range e c (fun y => slotUp_range e c h q.f0 y) q.f1 y) y
    simp only [assignG, List.length_cons]
    omega
/-- Block b of w is a map of at most n entries that tells g x for x. -/
def MapIs (w : World) (b n : Nat) (g : Int → Int) : Prop := ∃ D : DataW Unit, w.ownsMap Try.prog 3 (plainElem Try.prog 3) b n D ∧ Maps.IsMap D ∧ ∀ x, (Lit.int .i64 x).wf = true → D.atKey (.int .i64 x) (.lit (.int .i64 0)) = .lit (.int .i64 (g x))
theorem MapIs.made (w : World) : MapIs (w.alloc (.map #[] 0)) w.heap.size 0 (fun _ => 0) := ⟨.map [], World.ownsMap_made _ _ _ _, Maps.isMap_empty, fun x _ => rfl⟩
theorem MapIs.kept {w w' : World} {b n : Nat} {g : Int → Int} {row : Option Nat} (h : MapIs w b n g) (hg : w.grownBy w' row) (hne : some b ≠ row) : MapIs w' b n g := by
  obtain ⟨D, h1, h2⟩ := h
  exact ⟨D, h1.kept hg hne, h2⟩
theorem MapIs.below {w w' : World} {b n : Nat} {g : Int → Int} (h : MapIs w b n g) (hb : Below w.heap.size w w') : MapIs w' b n g := h.kept (grown_of_below hb none) (by simp)
theorem MapIs.alloc {w : World} {b n : Nat} {g : Int → Int} (h : MapIs w b n g) (o : Obj) : MapIs (w.alloc o) b n g := h.below (below_alloc (Below.refl _ _) o)
theorem MapIs.mono {w : World} {b n m : Nat} {g : Int → Int} (h : MapIs w b n g) (hm : n ≤ m) : MapIs w b m g := by
  obtain ⟨D, h1, h2⟩ := h
  exact ⟨D, h1.mono hm, h2⟩
theorem MapIs.lt {w : World} {b n : Nat} {g : Int → Int} (h : MapIs w b n g) : b < w.heap.size := by
  obtain ⟨D, h1, _⟩ := h
  exact h1.lt
theorem MapIs.far {w : World} {b n : Nat} {g : Int → Int} (h : MapIs w b n g) {p : Addr} (hne : b ≠ p.block) (u : Value) : MapIs (w.setCell p u) b n g := by
  obtain ⟨D, ⟨es, clock, hb, h1⟩, h2⟩ := h
  exact ⟨D, ⟨es, clock, (Below.heap_setCell w p u b hne).trans hb, h1⟩, h2⟩
set_option maxRecDepth 100000 in
theorem mapZero (w : World) : (zeroValue 3).run Try.prog w = .ok (.int .i64 0) w := by kernel_rfl
set_option maxRecDepth 100000 in
theorem MapIs.lookup {w : World} {b n : Nat} {g : Int → Int} (h : MapIs w b n g) {x : Int} (hx : (Lit.int .i64 x).wf = true) : (Instr.lookup 137 (.map (some b)) (.int .i64 x) false).run Try.prog w = .ok (.int .i64 (g x)) w := by
  obtain ⟨D, h1, _, h3⟩ := h
  obtain ⟨c, hrun, hat, _⟩ := h1.lookup_int (Maps.int_keyed Try.underlying3) Try.underlying137 Try.underlying3 (mapZero w) (Maps.keyOf_int_mk Try.underlying3 hx)
  rw [h3 x hx] at hat
  obtain rfl : g x = c := by injection hat with h; injection h
  exact hrun
set_option maxRecDepth 100000 in
theorem MapIs.update {w : World} {b n : Nat} {g : Int → Int} (h : MapIs w b n g) (hn : n < maxLen) {x v : Int} (hx : (Lit.int .i64 x).wf = true) (hv : (Lit.int .i64 v).wf = true) : ∃ w', (Instr.mapUpdate 137 (.map (some b)) (.int .i64 x) (.int .i64 v)).run Try.prog w = .ok () w' ∧ MapIs w' b (n + 1) (fun y => if y = x then v else g y) ∧ w.grownBy w' (some b) := by
  obtain ⟨D, h1, h2, h3⟩ := h
  obtain ⟨w', hrun, ho, hg⟩ := h1.update (Maps.int_keyed Try.underlying3) Try.underlying137 hn (Maps.keyOf_int_mk Try.underlying3 hx) (plainElem_int Try.underlying3 hv)
  refine ⟨w', hrun, ⟨_, ho, h2.put _ _, fun y hy => ?_⟩, hg⟩
  by_cases e : y = x
  · subst e
    rw [Maps.atKey_put_same h2 (by trivial)]
    simp
  · rw [Maps.atKey_put_other (by intro e'; injection e' with _ e'; exact e e'), h3 y hy]
    simp [e]
def slots_Assign.f (l0 : List S105) (a1 : Int) (a2 : Int) : Option (List S105) := if a1 ≤ 9223372036854775807 ∧ l0.length < 8796093022208 then some (assignL a1 a2 (fun _ => 0) l0) else none
theorem slotOne_no {e c : Int} {g : Int → Int} {x : Int} (h : x < 0 ∨ x ≥ e ∨ g x ≥ c) : slotOne e c g x = -1 ∧ slotUp e c g x = g := by
  unfold slotOne slotUp
  by_cases h1 : x < 0
  · rw [if_pos h1, if_pos h1]; exact ⟨rfl, rfl⟩
  rw [if_neg h1, if_neg h1]
  by_cases h2 : x ≥ e
  · rw [if_pos h2, if_pos h2]; exact ⟨rfl, rfl⟩
  rw [if_neg h2, if_neg h2]
  by_cases h3 : g x ≥ c
  · rw [if_pos h3, if_pos h3]; exact ⟨rfl, rfl⟩
  · omega
theorem slotOne_yes {e c : Int} {g : Int → Int} {x : Int} (h1 : ¬ x < 0) (h2 : ¬ x ≥ e) (h3 : ¬ g x ≥ c) : slotOne e c g x = g x ∧ slotUp e c g x = (fun y => if y = x then g x + 1 else g y) := by
  unfold slotOne slotUp
  rw [if_neg h1, if_neg h2, if_neg h3, if_neg h1, if_neg h2, if_neg h3]
  exact ⟨rfl, rfl⟩
theorem infoAssign : (Try.prog.info? 105).map (fun i => (i.zero, i.size, i.bytes)) = some (some (.agg #[.int .i64 0, .int .i64 0]), 2, 16) := by kernel_rfl
set_option maxHeartbeats 8000000 in
set_option maxRecDepth 100000 in
theorem slots_Assign.calls (A0 : Option Addr) (c0 : Nat) (l0 : List S105) (a1 : Int) (a2 : Int) (r : List S105) (w : World) (hr0 : Kd.C k105 w A0 l0.length l0) (hc0 : l0.length ≤ c0) (h : slots_Assign.f l0 a1 a2 = some r) :
    Calls Try.prog 50 #[.slice A0 l0.length c0, .int .i64 a1, .int .i64 a2] w fun e w' => ∃ v0_ : Value, e = .returned (v0_) ∧ Kd.R k105 105 w' w.heap.size (fun _ => True) v0_ r ∧ Below w.heap.size w w' := by
  unfold slots_Assign.f at h
  by_cases hA : a1 ≤ 9223372036854775807 ∧ l0.length < 8796093022208
  case neg => rw [if_neg hA] at h; cases h
  rw [if_pos hA] at h
  obtain rfl := Option.some.inj h
  have HR := Aside0.mk hr0
  have HC := Aside0.mk hc0
  have HA := Aside0.mk hA
  have hmax : l0.length ≤ 9223372036854775807 := by omega
  clear hr0 hc0 h hA
  have hmm := @run_makeMap Try.prog
  have hu := Try.underlying137
  have hu2 := Try.underlying105
  go_enter Try.func50, Try.ntmps50
  go_wp2
  go_loopw [8, 17] (fun v8 v17 W => ∃ k : Nat, Aside0 (k ≤ l0.length) ∧ v17 = .int .i64 (k : Int) ∧ Aside0 (Kd.R k105 105 W w.heap.size (fun b => b ≠ w.heap.size) v8 (assignL a1 a2 (fun _ => 0) (l0.take k))) ∧ Aside0 (MapIs W w.heap.size (2 * k) (assignG a1 a2 (fun _ => 0) (l0.take k))) ∧ Aside0 (Below w.heap.size w W)) (fun _ v17 _ => l0.length - (intOf v17).toNat)
  case atStart => exact ⟨0, ⟨Nat.zero_le _⟩, rfl, ⟨Kd.R_nil _ _ _ _ _⟩, ⟨MapIs.made w⟩, ⟨below_alloc (Below.refl _ _) _⟩⟩
  case round =>
    obtain ⟨k, HK, rfl, HO, HM, HB⟩ := hrel
    obtain ⟨wo, rfl⟩ : ∃ wo : World, wo = wr := ⟨_, rfl⟩
    by_cases hlt : k < l0.length
    · obtain ⟨ad, hAd, hx0, hx1⟩ := at_T105 HR.out (k : Int) (by omega) (by omega)
      cases hAd
      have hget : rd_T105 l0 (k : Int) = l0[k] := by
        unfold rd_T105
        rw [Int.toNat_natCast, List.getD_eq_getElem?_getD, List.getElem?_eq_getElem hlt]
        rfl
      have hts : l0.take (k + 1) = l0.take k ++ [l0[k]] := List.take_succ_eq_append_getElem hlt
      rw [hget, Int.toNat_natCast] at hx0 hx1
      replace hx0 := (HB.out.cell (World.block_lt_of_cell? w _ hx0)).trans hx0
      replace hx1 := (HB.out.cell (World.block_lt_of_cell? w _ hx1)).trans hx1
      have hgr := assignG_range a1 a2 (l0.take k) (fun _ => 0) 0 (fun _ => ⟨Int.le_refl _, Int.le_refl _⟩)
      have hlk : (l0.take k).length = k := by rw [List.length_take]; omega
      have hll : (assignL a1 a2 (fun _ => 0) (l0.take k)).length = k := by rw [assignL_length, hlk]
      have hsL := assignL_snoc a1 a2 l0[k] (l0.take k) (fun _ => 0)
      have hsG := assignG_snoc a1 a2 l0[k] (l0.take k) (fun _ => 0)
      rw [← hts] at hsL hsG
      rw [hlk] at hgr
      obtain ⟨p, hp⟩ : ∃ p, p = l0[k] := ⟨_, rfl⟩
      obtain ⟨g, hg⟩ : ∃ g, g = assignG a1 a2 (fun _ => 0) (l0.take k) := ⟨_, rfl⟩
      obtain ⟨o, ho⟩ : ∃ o, o = assignL a1 a2 (fun _ => 0) (l0.take k) := ⟨_, rfl⟩
      rw [← hp] at hx0 hx1
      rw [← hp, ← hg, ← ho] at hsL
      rw [← hp, ← hg] at hsG
      rw [← hg] at hgr HM
      rw [← ho] at HO hll
      have HSL := Aside0.mk hsL
      have HSG := Aside0.mk hsG
      have HGR : Aside0 (∀ y, 0 ≤ g y ∧ g y ≤ 2 * (k : Int)) := ⟨fun y => by have := hgr y; omega⟩
      have HLL := Aside0.mk hll
      have hc : decide (k < l0.length) = true := decide_eq_true hlt
      have HK2 : Aside0 (2 * k + 2 < maxLen) := ⟨by have := HA.out.2; unfold maxLen; omega⟩
      clear hget hts hgr hlk hll hsL hsG hp hg ho
      obtain ⟨p0, p1⟩ := p
      dsimp only at hx0 hx1 HSL HSG
      go_wp2
      have HGM : Aside0 (w.heap.size < wo.heap.size) := ⟨HM.out.lt⟩
      go_loopw [23] (fun v23 W => ∃ j : Int, Aside0 (j = 0 ∨ j = 1 ∨ j = 2) ∧ v23 = .int .i64 j ∧ Aside0 (W.heap[wo.heap.size + 1]? = some (.cells #[.int .i64 (if j = 0 then -1 else slotOne a1 a2 g p0), .int .i64 (if j = 2 then slotOne a1 a2 (slotUp a1 a2 g p0) p1 else -1)] 105 (0, 0))) ∧ Aside0 (MapIs W w.heap.size (2 * k + j.toNat) (if j = 0 then g else if j = 1 then slotUp a1 a2 g p0 else slotUp a1 a2 (slotUp a1 a2 g p0) p1)) ∧ Aside0 (Kd.R k105 105 W w.heap.size (fun b => b ≠ w.heap.size ∧ b ≠ wo.heap.size + 1) u8 o) ∧ Aside0 (Below w.heap.size w W)) (fun v23 _ => 2 - (intOf v23).toNat)
      case atStart => exact ⟨0, ⟨.inl rfl⟩, rfl, ⟨by have h_ := heap_alloc_new (wo.alloc (.cells #[.int .i64 p0, .int .i64 p1] 105)) (.cells #[.int .i64 (-1), .int .i64 (-1)] 105); simpa using h_⟩, ⟨(HM.out.alloc _).alloc _⟩, ⟨Kd.R_alloc (Kd.R_alloc (Kd.R_elderB HO.out (wo.heap.size + 1) (by omega)) _) _⟩, ⟨below_alloc (below_alloc HB.out _) _⟩⟩
      case round =>
        obtain ⟨j, HJ, rfl, HS, HM2, HO2, HB2⟩ := hrel
        rcases HJ.out with rfl | rfl | rfl
        · have i0 : ∀ W : World, (Instr.index 105 (.agg #[.int .i64 p0, .int .i64 p1]) (.int .i64 0)).run Try.prog W = .ok (.int .i64 p0) W := fun _ => by kernel_rfl
          have hS := HS.out
          have hM := HM2.out
          rw [if_pos rfl, if_neg (by decide)] at hS
          rw [if_pos rfl] at hM
          obtain ⟨g1, hg1⟩ : ∃ g1, g1 = g := ⟨_, rfl⟩
          have hgr : ∀ y, 0 ≤ g1 y ∧ g1 y ≤ 2 * (k : Int) + 1 := fun y => by have := HGR.out y; rw [hg1]; omega
          rw [← hg1] at hM
          obtain ⟨s0, hs0⟩ : ∃ s0 : Int, s0 = -1 := ⟨_, rfl⟩
          have HS1 := Aside0.mk hS
          have HM1 := Aside0.mk hM
          have HG1 := Aside0.mk hg1
          have HS0 := Aside0.mk hs0
          have hq0 : wr.cell? ⟨wo.heap.size + 1, 0, none⟩ = some (.int .i64 (-1)) := (blk_cell hS 0).trans rfl
          have hf0 : wr.frozen? ⟨wo.heap.size + 1, 0, none⟩ = false := blk_frozen hS 0
          have hgx := hgr p0
          clear hS hM HS HM2 HJ hg1 hs0 hgr
          by_cases h1 : p0 < 0
          · have hno := slotOne_no (e := a1) (c := a2) (g := g1) (x := p0) (.inl h1)
            have NO := Aside0.mk hno
            have c1 : decide (p0 < 0) = true := decide_eq_true h1
            clear hno
            go_wp2
            go_roundw
            case rel => exact ⟨1, ⟨by omega⟩, rfl, ⟨by rw [if_neg (by decide), if_neg (by decide), ← HG1.out, NO.out.1]; exact HS1.out⟩, ⟨by rw [if_neg (by decide), if_pos rfl, ← HG1.out, NO.out.2]; exact HM1.out.mono (show 2 * k + 0 ≤ 2 * k + 1 by omega)⟩, HO2, HB2⟩
            case measure => simp [intOf]
          have c1 : decide (p0 < 0) = false := decide_eq_false h1
          by_cases h2 : p0 ≥ a1
          · have hno := slotOne_no (e := a1) (c := a2) (g := g1) (x := p0) (.inr (.inl h2))
            have NO := Aside0.mk hno
            have c2 : decide (a1 ≤ p0) = true := decide_eq_true h2
            clear hno
            go_wp2
            go_roundw
            case rel => exact ⟨1, ⟨by omega⟩, rfl, ⟨by rw [if_neg (by decide), if_neg (by decide), ← HG1.out, NO.out.1]; exact HS1.out⟩, ⟨by rw [if_neg (by decide), if_pos rfl, ← HG1.out, NO.out.2]; exact HM1.out.mono (show 2 * k + 0 ≤ 2 * k + 1 by omega)⟩, HO2, HB2⟩
            case measure => simp [intOf]
          have c2 : decide (a1 ≤ p0) = false := decide_eq_false h2
          have hwf : (Lit.int .i64 p0).wf = true := WalkArith.wf_i64 (by have := HA.out.1; omega)
          have hl := HM1.out.lookup hwf
          by_cases h3 : g1 p0 ≥ a2
          · have hno := slotOne_no (e := a1) (c := a2) (g := g1) (x := p0) (.inr (.inr h3))
            have NO := Aside0.mk hno
            have c3 : decide (a2 ≤ g1 p0) = true := decide_eq_true h3
            clear hno
            go_wp2
            go_roundw
            case rel => exact ⟨1, ⟨by omega⟩, rfl, ⟨by rw [if_neg (by decide), if_neg (by decide), ← HG1.out, NO.out.1]; exact HS1.out⟩, ⟨by rw [if_neg (by decide), if_pos rfl, ← HG1.out, NO.out.2]; exact HM1.out.mono (show 2 * k + 0 ≤ 2 * k + 1 by omega)⟩, HO2, HB2⟩
            case measure => simp [intOf]
          have c3 : decide (a2 ≤ g1 p0) = false := decide_eq_false h3
          have hyes := slotOne_yes (e := a1) (c := a2) (g := g1) (x := p0) h1 h2 h3
          have YES := Aside0.mk hyes
          have hM4 := HM1.out.far (p := ⟨wo.heap.size + 1, 0, none⟩) (by have := HGM.out; show w.heap.size ≠ wo.heap.size + 1; omega) (.int .i64 (g1 p0))
          have hl2 := hM4.lookup hwf
          obtain ⟨w2, hrun, hM5, hgw⟩ := hM4.update (v := g1 p0 + 1) (by have := HK2.out; omega) hwf (WalkArith.wf_i64 (by have := HK2.out; unfold maxLen at this; omega))
          have HM5 := Aside0.mk hM5
          have HGW := Aside0.mk hgw
          have hk60 : 2 * (k : Int) + 2 < 9223372036854775807 := by have := HK2.out; unfold maxLen at this; omega
          clear hyes hM4 hM5 hgw
          go_wp2
          go_roundw
          case rel => exact ⟨1, ⟨by omega⟩, rfl, ⟨by rw [if_neg (by decide), if_neg (by decide), ← HG1.out, YES.out.1]; exact blk_grown (blk_set HS1.out 0 (.int .i64 (g1 p0))) HGW.out (fun e_ => by have := HGM.out; injection e_ with e_; omega)⟩, ⟨by rw [if_neg (by decide), if_pos rfl, ← HG1.out, YES.out.2]; exact HM5.out⟩, ⟨Kd.R_grown (Kd.R_far HO2.out (p := ⟨wo.heap.size + 1, 0, none⟩) (fun b hb => hb.2) _) HGW.out (fun b hb e_ => hb.1 (Option.some.inj e_))⟩, ⟨(HB2.out.setCell (by have := HGM.out; show w.heap.size ≤ wo.heap.size + 1; omega) _).grown HGW.out (Nat.le_of_lt (by have := HM1.out.lt; simp; omega)) (fun _ e_ => by injection e_ with e_; omega)⟩⟩
          case measure => simp [intOf]
        · have i0 : ∀ W : World, (Instr.index 105 (.agg #[.int .i64 p0, .int .i64 p1]) (.int .i64 1)).run Try.prog W = .ok (.int .i64 p1) W := fun _ => by kernel_rfl
          have hS := HS.out
          have hM := HM2.out
          rw [if_neg (by decide), if_neg (by decide)] at hS
          rw [if_neg (by decide), if_pos rfl] at hM
          obtain ⟨g1, hg1⟩ : ∃ g1, g1 = slotUp a1 a2 g p0 := ⟨_, rfl⟩
          have hgr : ∀ y, 0 ≤ g1 y ∧ g1 y ≤ 2 * (k : Int) + 1 := fun y => by rw [hg1]; exact slotUp_range a1 a2 HGR.out p0 y
          rw [← hg1] at hM
          obtain ⟨s0, hs0⟩ : ∃ s0 : Int, s0 = slotOne a1 a2 g p0 := ⟨_, rfl⟩
          rw [← hs0] at hS
          have HS1 := Aside0.mk hS
          have HM1 := Aside0.mk hM
          have HG1 := Aside0.mk hg1
          have HS0 := Aside0.mk hs0
          have hq0 : wr.cell? ⟨wo.heap.size + 1, 1, none⟩ = some (.int .i64 (-1)) := (blk_cell hS 1).trans rfl
          have hf0 : wr.frozen? ⟨wo.heap.size + 1, 1, none⟩ = false := blk_frozen hS 1
          have hgx := hgr p1
          clear hS hM HS HM2 HJ hg1 hs0 hgr
          by_cases h1 : p1 < 0
          · have hno := slotOne_no (e := a1) (c := a2) (g := g1) (x := p1) (.inl h1)
            have NO := Aside0.mk hno
            have c1 : decide (p1 < 0) = true := decide_eq_true h1
            clear hno
            go_wp2
            go_roundw
            case rel => exact ⟨2, ⟨by omega⟩, rfl, ⟨by rw [if_neg (by decide), if_pos rfl, ← HS0.out, ← HG1.out, NO.out.1]; exact HS1.out⟩, ⟨by rw [if_neg (by decide), if_neg (by decide), ← HG1.out, NO.out.2]; exact HM1.out.mono (show 2 * k + 1 ≤ 2 * k + 2 by omega)⟩, HO2, HB2⟩
            case measure => simp [intOf]
          have c1 : decide (p1 < 0) = false := decide_eq_false h1
          by_cases h2 : p1 ≥ a1
          · have hno := slotOne_no (e := a1) (c := a2) (g := g1) (x := p1) (.inr (.inl h2))
            have NO := Aside0.mk hno
            have c2 : decide (a1 ≤ p1) = true := decide_eq_true h2
            clear hno
            go_wp2
            go_roundw
            case rel => exact ⟨2, ⟨by omega⟩, rfl, ⟨by rw [if_neg (by decide), if_pos rfl, ← HS0.out, ← HG1.out, NO.out.1]; exact HS1.out⟩, ⟨by rw [if_neg (by decide), if_neg (by decide), ← HG1.out, NO.out.2]; exact HM1.out.mono (show 2 * k + 1 ≤ 2 * k + 2 by omega)⟩, HO2, HB2⟩
            case measure => simp [intOf]
          have c2 : decide (a1 ≤ p1) = false := decide_eq_false h2
          have hwf : (Lit.int .i64 p1).wf = true := WalkArith.wf_i64 (by have := HA.out.1; omega)
          have hl := HM1.out.lookup hwf
          by_cases h3 : g1 p1 ≥ a2
          · have hno := slotOne_no (e := a1) (c := a2) (g := g1) (x := p1) (.inr (.inr h3))
            have NO := Aside0.mk hno
            have c3 : decide (a2 ≤ g1 p1) = true := decide_eq_true h3
            clear hno
            go_wp2
            go_roundw
            case rel => exact ⟨2, ⟨by omega⟩, rfl, ⟨by rw [if_neg (by decide), if_pos rfl, ← HS0.out, ← HG1.out, NO.out.1]; exact HS1.out⟩, ⟨by rw [if_neg (by decide), if_neg (by decide), ← HG1.out, NO.out.2]; exact HM1.out.mono (show 2 * k + 1 ≤ 2 * k + 2 by omega)⟩, HO2, HB2⟩
            case measure => simp [intOf]
          have c3 : decide (a2 ≤ g1 p1) = false := decide_eq_false h3
          have hyes := slotOne_yes (e := a1) (c := a2) (g := g1) (x := p1) h1 h2 h3
          have YES := Aside0.mk hyes
          have hM4 := HM1.out.far (p := ⟨wo.heap.size + 1, 1, none⟩) (by have := HGM.out; show w.heap.size ≠ wo.heap.size + 1; omega) (.int .i64 (g1 p1))
          have hl2 := hM4.lookup hwf
          obtain ⟨w2, hrun, hM5, hgw⟩ := hM4.update (v := g1 p1 + 1) (by have := HK2.out; have e_ : Int.toNat 1 = 1 := rfl; omega) hwf (WalkArith.wf_i64 (by have := HK2.out; unfold maxLen at this; omega))
          have HM5 := Aside0.mk hM5
          have HGW := Aside0.mk hgw
          have hk60 : 2 * (k : Int) + 2 < 9223372036854775807 := by have := HK2.out; unfold maxLen at this; omega
          clear hyes hM4 hM5 hgw
          go_wp2
          go_roundw
          case rel => exact ⟨2, ⟨by omega⟩, rfl, ⟨by rw [if_neg (by decide), if_pos rfl, ← HS0.out, ← HG1.out, YES.out.1]; exact blk_grown (blk_set HS1.out 1 (.int .i64 (g1 p1))) HGW.out (fun e_ => by have := HGM.out; injection e_ with e_; omega)⟩, ⟨by rw [if_neg (by decide), if_neg (by decide), ← HG1.out, YES.out.2]; exact HM5.out⟩, ⟨Kd.R_grown (Kd.R_far HO2.out (p := ⟨wo.heap.size + 1, 1, none⟩) (fun b hb => hb.2) _) HGW.out (fun b hb e_ => hb.1 (Option.some.inj e_))⟩, ⟨(HB2.out.setCell (by have := HGM.out; show w.heap.size ≤ wo.heap.size + 1; omega) _).grown HGW.out (Nat.le_of_lt (by have := HM1.out.lt; simp; omega)) (fun _ e_ => by injection e_ with e_; omega)⟩⟩
          case measure => simp [intOf]
        · obtain ⟨s0, hs0⟩ : ∃ s, s = slotOne a1 a2 g p0 := ⟨_, rfl⟩
          obtain ⟨s1, hs1⟩ : ∃ s, s = slotOne a1 a2 (slotUp a1 a2 g p0) p1 := ⟨_, rfl⟩
          have hS := HS.out
          rw [if_neg (by decide), if_pos rfl, ← hs0, ← hs1] at hS
          have hsL := HSL.out
          rw [← hs0, ← hs1] at hsL
          have hM := HM2.out
          rw [if_neg (by decide), if_neg (by decide), ← HSG.out] at hM
          have HSL2 := Aside0.mk hsL
          have HM3 := Aside0.mk hM
          have hq0 : wr.cell? ⟨wo.heap.size + 1, 0, none⟩ = some (.int .i64 s0) := (blk_cell hS 0).trans rfl
          have hq1 : wr.cell? ⟨wo.heap.size + 1, 1, none⟩ = some (.int .i64 s1) := (blk_cell hS 1).trans rfl
          clear hS hsL hM hs0 hs1 HSL HS HM2 HJ
          go_wp2_with ((with_reducible refine gate_builtin (b := .append) (xs := #[.tmp 51, .tmp 53]) rfl ?_); at_builtin; refine Kd.R_append k105 (w0 := w) w.heap.size rfl (.tmp 51) (.tmp 53) 100 105 (.agg #[.int .i64 0, .int .i64 0]) 16 rfl Try.underlying100 infoAssign rfl (by decide) (by omega) u8 o (⟨s0, s1⟩ : S105) [.int .i64 s0, .int .i64 s1] (fun b => b ≠ w.heap.size) (fun _ => False) rfl rfl ?aP (fun _ hk => hk.elim) ?aF ?aO ?aB ?aS ?aL ?_; (case aP => exact k105_mkM _ _ _ (⟨s0, s1⟩ : S105)); (case aB => exact HB2.out); (case aF => exact (fun b hb => by have := HM3.out.lt; omega)); (case aO => exact Kd.R_mono HO2.out (fun b hb => hb.1)); (case aS => exact HB2.out.size); (case aL => have := HLL.out; have := HA.out.2; omega); intro v1 w1 ho hb hg hat; have HO3 := Aside0.mk ho; have HB3 := Aside0.mk hb; have HM4 := Aside0.mk (HM3.out.kept hg (fun e_ => HO2.out.1 _ e_.symm |>.1 rfl)); clear ho hb hg hat)
          go_roundw
          case rel => exact ⟨k + 1, ⟨by omega⟩, by go_num, ⟨by rw [HSL2.out]; exact HO3.out⟩, HM4, HB3⟩
          case measure => simp [intOf]; omega
    · have hc : decide (k < l0.length) = false := decide_eq_false hlt
      have hk : k = l0.length := by have := HK.out; omega
      have HN : Aside0 (Kd.R k105 105 wo w.heap.size (fun _ => True) u8 (assignL a1 a2 (fun _ => 0) l0)) := ⟨by have := HO.out; rw [hk, List.take_length] at this; exact Kd.R_mono this (fun _ _ => trivial)⟩
      clear hk
      go_wp2
      go_ret
      exact ⟨_, rfl, HN.out, HB.out⟩

end Go.Proofs.Ytfipiohchnaglaa.Pu
