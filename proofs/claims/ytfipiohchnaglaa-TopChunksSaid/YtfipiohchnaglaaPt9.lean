-- Laid by wip/xprint.py, a program of this session that runs the kit's print with some contracts given by hand; not a text of print.sh. Lean checks it.
import Derived.Test.YtfipiohchnaglaaPt0
import Derived.Test.YtfipiohchnaglaaPt8
namespace Go.Proofs.Ytfipiohchnaglaa.Pt
open Go.RowKit Go.Proofs.YtfipiohchnaglaaW.PrintWords Go.Proofs.YtfipiohchnaglaaW.PrintLast Go.Proofs.YtfipiohchnaglaaW.PrintMore
attribute [local go_sem] max2_int min2_int max_two min_two max_three min_three max_four min_four   -- for this text's walks alone
set_option linter.unusedVariables false
set_option linter.unusedSimpArgs false

/-! ### model_Combine: function 31 -/
mutual
def model_Combine.l0 : Nat → List (List Int) → List (List Int) → List (S76) → Int → Int → Option ((List (List Int)))
  | 0, _, _, _, _, _ => none
  | k + 1, x2, x7, x14, x15, x16 => if x16 < x15 then (if 0 ≤ x16 then (if x16 < (x14.length : Int) then (if x16 ≥ (x2.length : Int) then (model_Combine.j1 k x2 x7 x16 x14 x15 x16 true ((rd_T76 x14 x16).f0) ((rd_T76 x14 x16).f1) ((rd_T76 x14 x16).f2) ((rd_T76 x14 x16).f3)) else (if ((rd_T76 x14 x16).f0) < 0 then (model_Combine.j1 k x2 x7 x16 x14 x15 x16 true ((rd_T76 x14 x16).f0) ((rd_T76 x14 x16).f1) ((rd_T76 x14 x16).f2) ((rd_T76 x14 x16).f3)) else (model_Combine.j1 k x2 x7 x16 x14 x15 x16 (decide (((rd_T76 x14 x16).f0) ≥ (x7.length : Int))) ((rd_T76 x14 x16).f0) ((rd_T76 x14 x16).f1) ((rd_T76 x14 x16).f2) ((rd_T76 x14 x16).f3)))) else (none)) else (none)) else (some x7)
def model_Combine.j1 : Nat → List (List Int) → List (List Int) → Int → List (S76) → Int → Int → Bool → Int → Int → Int → Int → Option ((List (List Int)))
  | 0, _, _, _, _, _, _, _, _, _, _, _ => none
  | k + 1, x2, x7, x8, x14, x15, x16, x36, x217000, x217001, x217002, x217003 => if x36 = true then (model_Combine.l0 k x2 x7 x14 x15 (wrap64 (x16 + 1))) else (if 0 ≤ x217000 then (if x217000 < (x7.length : Int) then (if 0 ≤ x8 then (if x8 < (x2.length : Int) then ((vec_Scale.f (rd_L1 x2 x8) x217003).bind fun t219 => ((vec_Add.f (rd_L1 x7 x217000) t219).bind fun bt222 => (if bt222.2 = true then (model_Combine.l0 k x2 (x7.set (x217000 : Int).toNat bt222.1) x14 x15 (wrap64 (x16 + 1))) else (model_Combine.l0 k x2 x7 x14 x15 (wrap64 (x16 + 1)))))) else (none)) else (none)) else (none)) else (none))
end
def model_Combine.f (k : Nat) (l0 : List (List Int)) (l1 : List (S76)) (l2 : List (List Int)) : Option ((List (List Int))) := (slices_Clone_int_int.f l0).bind fun t212 => (model_Combine.l0 k l2 t212 l1 (l1.length : Int) 0)
theorem model_Combine.mono_l : ∀ k, (∀ y0 y1 y2 y3 y4, LeO (model_Combine.l0 k y0 y1 y2 y3 y4) (model_Combine.l0 (k + 1) y0 y1 y2 y3 y4)) ∧ (∀ y0 y1 y2 y3 y4 y5 y6 y7 y8 y9 y10, LeO (model_Combine.j1 k y0 y1 y2 y3 y4 y5 y6 y7 y8 y9 y10) (model_Combine.j1 (k + 1) y0 y1 y2 y3 y4 y5 y6 y7 y8 y9 y10))
  | 0 => ⟨fun _ _ _ _ _ r h => by simp [model_Combine.l0] at h, fun _ _ _ _ _ _ _ _ _ _ _ r h => by simp [model_Combine.j1] at h⟩
  | k + 1 => by
    obtain ⟨ih0, ih1⟩ := model_Combine.mono_l k
    refine ⟨?_, ?_⟩
    · intro y0 y1 y2 y3 y4
      unfold model_Combine.l0
      repeat' first
      | (with_reducible exact ih0 _ _ _ _ _)
      | (with_reducible exact ih1 _ _ _ _ _ _ _ _ _ _ _)
      | (with_reducible exact LeO.refl _)
      | (with_reducible exact LeO.none _)
      | (with_reducible refine LeO.ite ?_ ?_)
      | (with_reducible refine LeO.bind ?_ (fun _ => ?_))
      | exact ih0 _ _ _ _ _
      | exact ih1 _ _ _ _ _ _ _ _ _ _ _
      | exact LeO.none _
      | refine LeO.ite ?_ ?_
      | refine LeO.bind ?_ (fun _ => ?_)
    · intro y0 y1 y2 y3 y4 y5 y6 y7 y8 y9 y10
      unfold model_Combine.j1
      repeat' first
      | (with_reducible exact ih0 _ _ _ _ _)
      | (with_reducible exact ih1 _ _ _ _ _ _ _ _ _ _ _)
      | (with_reducible exact LeO.refl _)
      | (with_reducible exact LeO.none _)
      | (with_reducible refine LeO.ite ?_ ?_)
      | (with_reducible refine LeO.bind ?_ (fun _ => ?_))
      | exact ih0 _ _ _ _ _
      | exact ih1 _ _ _ _ _ _ _ _ _ _ _
      | exact LeO.none _
      | refine LeO.ite ?_ ?_
      | refine LeO.bind ?_ (fun _ => ?_)
theorem model_Combine.mono : ∀ a0 a1 a2 k, LeO (model_Combine.f k a0 a1 a2) (model_Combine.f (k + 1) a0 a1 a2) := by
  intro a0 a1 a2 k
  obtain ⟨ih0, ih1⟩ := model_Combine.mono_l k
  unfold model_Combine.f
  repeat' first
      | (with_reducible exact ih0 _ _ _ _ _)
      | (with_reducible exact ih1 _ _ _ _ _ _ _ _ _ _ _)
      | (with_reducible exact LeO.refl _)
      | (with_reducible exact LeO.none _)
      | (with_reducible refine LeO.ite ?_ ?_)
      | (with_reducible refine LeO.bind ?_ (fun _ => ?_))
      | exact ih0 _ _ _ _ _
      | exact ih1 _ _ _ _ _ _ _ _ _ _ _
      | exact LeO.none _
      | refine LeO.ite ?_ ?_
      | refine LeO.bind ?_ (fun _ => ?_)
def model_Combine.T6 : Bool × List (List Nat × List Nat) := (true, [([], []), ([], []), ([1], [1]), ([0, 2], [0, 2]), ([3], [3]), ([], []), ([], []), ([5, 6], [5, 6]), ([7], [7]), ([], []), ([9], [9]), ([8, 10], [8, 10]), ([4, 11, 11], [4, 11]), ([12], [12]), ([13], [13]), ([13], [13]), ([14, 12, 0, 1, 2, 3, 4, 5, 6, 7, 8, 9, 10, 11, 12, 13, 14], [14]), ([15, 16, 0, 1, 2, 3, 4, 5, 6, 7, 8, 9, 10, 11, 12, 13, 14, 15, 16], [15])])
def model_Combine.B6 : List Nat := [0, 0, 2, 7, 15, 0, 0, 96, 224, 0, 512, 2016, 4095, 8191, 16383, 16383, 32767, 131071]
theorem model_Combine.tab6 : rtab .any (opsOf Try.f31 6) = model_Combine.T6 := by kernel_rfl
theorem model_Combine.bits6 : waitsOk model_Combine.T6.2 model_Combine.B6 = true := by kernel_rfl
set_option maxHeartbeats 8000000 in
set_option maxRecDepth 100000 in
theorem model_Combine.calls (k : Nat) (P0_ : Nat → Prop) (A0 : Option Addr) (c0 : Nat) (l0 : List (List Int)) (A1 : Option Addr) (c1 : Nat) (l1 : List (S76)) (A2 : Option Addr) (c2 : Nat) (l2 : List (List Int)) (r : List (List Int)) (w : World) (hs0 : Kd.V (Kd.slice 3 (Kd.int .i64)) 54 w w.heap.size (fun k_ => P0_ k_) (.slice A0 l0.length c0) l0) (hr1 : Kd.C k76 w A1 l1.length l1) (hc1 : l1.length ≤ c1) (hr2 : Kd.C (Kd.slice 3 (Kd.int .i64)) w A2 l2.length l2) (hc2 : l2.length ≤ c2) (h : model_Combine.f k l0 l1 l2 = some r) :
    Calls Try.prog 31 #[.slice A0 l0.length c0, .slice A1 l1.length c1, .slice A2 l2.length c2] w fun e w' => ∃ v0_ : Value, e = .returned (v0_) ∧ Kd.N (Kd.slice 3 (Kd.int .i64)) 54 w' w.heap.size (fun k_ => (P0_ k_ ∨ w.heap.size ≤ k_)) v0_ r ∧ Below w.heap.size w w' := by
  have hu76 := Try.underlying76
  have HO0 := Aside0.mk (show Kd.V (Kd.slice 3 (Kd.int .i64)) 54 w w.heap.size (fun k_ => (P0_ k_ ∨ w.heap.size ≤ k_)) (.slice A0 l0.length c0) l0 from Kd.V_mono hs0 (fun k_ hk => .inl hk))
  have HR1 := Aside0.mk hr1
  have HC1 := Aside0.mk hc1
  clear hr1 hc1
  have HR2 := Aside0.mk hr2
  have HC2 := Aside0.mk hc2
  clear hr2 hc2
  have HB := Aside0.mk (Below.refl w.heap.size w)
  have H : ((slices_Clone_int_int.f l0).bind fun t212 => (model_Combine.l0 k l2 t212 l1 (l1.length : Int) 0)) = some r := h
  clear h
  replace H := Option.bind_eq_some_iff.mp H
  obtain ⟨t212, A40, H⟩ := H
  replace H : (model_Combine.l0 k l2 t212 l1 (l1.length : Int) 0) = some r := H
  have A4 := Aside0.mk A40
  clear A40
  have H' := Aside0.mk H
  clear H
  go_enter Try.func31, Try.ntmps31
  go_wp2_with (first | ((with_reducible refine gate_callee (f := 53) rfl ?_); refine goesL_ (some 13) rfl rfl Try.func53 (by kernel_rfl) rfl #[.slice A0 l0.length c0] rfl (by (try simp only [List.map_toArray, List.map_cons, List.map_nil]); first | done | rfl | (simp only [List.length_drop, List.length_take]; rfl)) ?_; (with_reducible refine (slices_Clone_int_int.calls (fun k_ => (P0_ k_ ∨ w.heap.size ≤ k_)) _ _ l0 t212 _ ?side1 A4.out).mono ?_); (case side1 => exact HO0.out); rintro e w5 ⟨v213, rfl, ho0, hb⟩; refine ⟨_, rfl, ?_⟩; have n0_ := Aside0.mk (Kd.V_elder' (by (with_reducible repeat (first | apply Kd.V_alloc | apply Kd.V_drewN | apply Kd.V_drew)); exact HO0.out) (Kd.N_base ho0) hb); have n1_ := Aside0.mk (Kd.N_lower (Kd.N_mono (ok' := fun k_ => (P0_ k_ ∨ w.heap.size ≤ k_)) ho0 (fun k_ hk_ => Or.elim hk_ (fun hs_ => hs_) (fun hn_ => (.inr (Nat.le_trans (below_size (by repeat (first | (with_reducible first | exact HB.out | apply below_alloc | apply pw_below_drewN | apply below_drew1) | exact HB.out))) hn_))))) (below_size (by repeat (first | (with_reducible first | exact HB.out | apply below_alloc | apply pw_below_drewN | apply below_drew1) | exact HB.out)))); have n2_ := Aside0.mk (below_step (by repeat (first | (with_reducible first | exact HB.out | apply below_alloc | apply pw_below_drewN | apply below_drew1) | exact HB.out)) hb); clear HO0; clear HB; have HO0 := n0_; have HO214 := n1_; have HB := n2_; clear n0_ n1_ n2_; (try clear hb); (try clear hb2); (try clear hk); (try clear hi); (try clear ho0)))
  go_loopg [16] k (fun kq v16 w' => ∃ (x7_1 : List (List Int)) (x16_1 : Int), v16 = .int .i64 x16_1 ∧ Aside0 (model_Combine.l0 kq l2 x7_1 l1 (l1.length : Int) x16_1 = some r) ∧ Aside0 (kq ≤ k) ∧ Aside0 (Kd.N (Kd.slice 3 (Kd.int .i64)) 54 w' w.heap.size (fun k_ => (P0_ k_ ∨ w.heap.size ≤ k_)) v213 x7_1) ∧ Aside0 (Below w.heap.size w w'))
  case atStart => exact ⟨(t212), (0), (by first | rfl | (simp; done) | (simp [*]; done)), H', ⟨Nat.le_refl _⟩, ⟨by (with_reducible repeat (first | apply Kd.N_alloc | apply Kd.N_drewN | apply Kd.N_drew)); exact HO214.out⟩, ⟨by repeat (first | (with_reducible first | exact HB.out | apply below_alloc | apply pw_below_drewN | apply below_drew1) | exact HB.out)⟩⟩
  case round =>
    clear H'
    try clear c1
    try clear c2
    try clear p2
    try clear c3
    try clear c5
    obtain ⟨x7_1, x16_1, rfl, HA, HK1, HO_7, HB⟩ := hrel
    cases gk with
    | zero => exact absurd HA.out (by simp [model_Combine.l0])
    | succ k1 =>
      have H := HA.out
      clear HA
      simp only [model_Combine.l0] at H
      by_cases c6 : x16_1 < (l1.length : Int)
      · rw [if_pos c6] at H
        have c6b0 : decide (x16_1 < (l1.length : Int)) = true := decide_eq_true c6
        clear c6
        by_cases c7 : 0 ≤ x16_1
        · rw [if_pos c7] at H
          have c7b0 : decide (0 ≤ x16_1) = true := decide_eq_true c7
          clear c7
          by_cases c8 : x16_1 < (l1.length : Int)
          · rw [if_pos c8] at H
            have c8b0 : decide (x16_1 < (l1.length : Int)) = true := decide_eq_true c8
            clear c8
            have HC9 := Aside0.mk H
            clear H
            have p215 : 0 ≤ (x16_1 : Int) := of_decide_eq_true (by first | (with_reducible assumption) | assumption)
            have q215 : x16_1 < (l1.length : Int) := of_decide_eq_true (by first | (with_reducible assumption) | assumption)
            obtain ⟨ad215, e215, hx215_0, hx215_1, hx215_2, hx215_3⟩ := at_T76 HR1.out x16_1 p215 q215
            cases e215
            replace hx215_0 := (HB.out.cell (World.block_lt_of_cell? w _ hx215_0)).trans hx215_0
            replace hx215_1 := (HB.out.cell (World.block_lt_of_cell? w _ hx215_1)).trans hx215_1
            replace hx215_2 := (HB.out.cell (World.block_lt_of_cell? w _ hx215_2)).trans hx215_2
            replace hx215_3 := (HB.out.cell (World.block_lt_of_cell? w _ hx215_3)).trans hx215_3
            replace p215 := eq_true p215
            replace q215 := eq_true q215
            go_upto_region 5 with (first | ((with_reducible refine gate_dst (N := 9) rfl ?_); (try (refine gate_guard (by rfl) ?_; dsimp only)); refine box_event ?hg (N := 9) ?hd (cs := #[.int .i64 0, .int .i64 0, .int .i64 0, .int .i64 0]) (t := 76) ?hr ?_; (case hd => rfl); (case hg => rfl); (case hr => first | (go_simp; done) | (go_simp; rfl)); intro gb216 hg w10 hbox hb; have n0_ := Aside0.mk (Kd.N_below (Kd.N_elderB (by (with_reducible repeat (first | apply Kd.N_alloc | apply Kd.N_drewN | apply Kd.N_drew)); exact HO_7.out) gb216 (Nat.le_of_eq hg.symm)) hb); have n1_ := Aside0.mk (below_step (by repeat (first | (with_reducible first | exact HB.out | apply below_alloc | apply pw_below_drewN | apply below_drew1) | exact HB.out)) hb); have n2_ := Aside0.mk (hbox); have n3_ := Aside0.mk ((by rw [hg]; exact (below_size (by repeat (first | (with_reducible first | exact HB.out | apply below_alloc | apply pw_below_drewN | apply below_drew1) | exact HB.out))) : w.heap.size ≤ gb216)); have n4_ := Aside0.mk ((by rw [hg]; exact (below_size (by repeat (first | (with_reducible first | exact HB.out | apply below_alloc | apply pw_below_drewN | apply below_drew1) | exact HB.out))) : w.heap.size ≤ gb216)); clear HO_7; clear HB; have HO_7 := n0_; have HB := n1_; have BK216 := n2_; have GW216 := n3_; have GE216 := n4_; clear n0_ n1_ n2_ n3_ n4_; clear hb hbox hg; have hcz11_0 : w10.cell? ⟨gb216, 0, none⟩ = some (.int .i64 0) := (blk_cell BK216.out 0).trans rfl; have hcz11_1 : w10.cell? ⟨gb216, 1, none⟩ = some (.int .i64 0) := (blk_cell BK216.out 1).trans rfl; have hcz11_2 : w10.cell? ⟨gb216, 2, none⟩ = some (.int .i64 0) := (blk_cell BK216.out 2).trans rfl; have hcz11_3 : w10.cell? ⟨gb216, 3, none⟩ = some (.int .i64 0) := (blk_cell BK216.out 3).trans rfl; have hfz11_0 := blk_frozen BK216.out 0; have hfz11_1 := blk_frozen BK216.out 1; have hfz11_2 := blk_frozen BK216.out 2; have hfz11_3 := blk_frozen BK216.out 3))
            (try simp only [Act.put, List.setIfInBounds_toArray, List.set_cons_zero, List.set_cons_succ])
            go_cut [36] (fun v36 wc => ∃ (kq : Nat) (x36_8 : Bool), v36 = .bool x36_8 ∧ Aside0 (model_Combine.j1 kq l2 x7_1 x16_1 l1 (l1.length : Int) x16_1 x36_8 ((rd_T76 l1 x16_1).f0) ((rd_T76 l1 x16_1).f1) ((rd_T76 l1 x16_1).f2) ((rd_T76 l1 x16_1).f3) = some r) ∧ Aside0 (kq ≤ k1) ∧ Aside0 (Kd.N (Kd.slice 3 (Kd.int .i64)) 54 wc w.heap.size (fun k_ => (P0_ k_ ∨ w.heap.size ≤ k_) ∧ k_ ≠ gb216) v213 x7_1) ∧ Aside0 (wc.heap[gb216]? = some (.cells #[.int .i64 ((rd_T76 l1 x16_1).f0), .int .i64 ((rd_T76 l1 x16_1).f1), .int .i64 ((rd_T76 l1 x16_1).f2), .int .i64 ((rd_T76 l1 x16_1).f3)] 76 (0, 0))) ∧ Aside0 (Below w.heap.size w wc))
            case first =>
              have H := HC9.out
              clear HC9
              by_cases c12 : x16_1 ≥ (l2.length : Int)
              · rw [if_pos c12] at H
                have c12b0 : decide ((l2.length : Int) ≤ x16_1) = true := decide_eq_true c12
                clear c12
                (first | rw [c12b0] | (simp only [i64_w, i32_w]; rw [c12b0]) | skip)
                have H' := Aside0.mk H
                clear H
                go_wp2
                go_meet
                case rel => exact ⟨_, (true), (by first | rfl | (simp; done) | (simp [*]; done)), H', ⟨by have := HK1.out; first | omega | exact Nat.le_refl _⟩, ⟨by (with_reducible repeat (first | apply Kd.N_alloc | apply Kd.N_drewN | apply Kd.N_drew)); exact Kd.N_mono (Kd.N_far (p := ⟨gb216, 3, none⟩) (Kd.N_far (p := ⟨gb216, 2, none⟩) (Kd.N_far (p := ⟨gb216, 1, none⟩) (Kd.N_far (p := ⟨gb216, 0, none⟩) (Kd.N_mono HO_7.out (fun k_ hk => (⟨hk, hk.2⟩ : _ ∧ k_ ≠ gb216))) (fun _ hk => hk.2) (.int .i64 ((rd_T76 l1 x16_1).f0))) (fun _ hk => hk.2) (.int .i64 ((rd_T76 l1 x16_1).f1))) (fun _ hk => hk.2) (.int .i64 ((rd_T76 l1 x16_1).f2))) (fun _ hk => hk.2) (.int .i64 ((rd_T76 l1 x16_1).f3))) (fun _ hk => ⟨hk.1.1, hk.1.2⟩)⟩, ⟨by (with_reducible repeat (first | refine blk_drewN ?_ _ | refine blk_drew ?_ | refine blk_alloc ?_ _)); refine blk_put (cs := #[.int .i64 ((rd_T76 l1 x16_1).f0), .int .i64 ((rd_T76 l1 x16_1).f1), .int .i64 ((rd_T76 l1 x16_1).f2), .int .i64 0]) ?_ 3 _ rfl; (with_reducible repeat (first | refine blk_drewN ?_ _ | refine blk_drew ?_ | refine blk_alloc ?_ _)); refine blk_put (cs := #[.int .i64 ((rd_T76 l1 x16_1).f0), .int .i64 ((rd_T76 l1 x16_1).f1), .int .i64 0, .int .i64 0]) ?_ 2 _ rfl; (with_reducible repeat (first | refine blk_drewN ?_ _ | refine blk_drew ?_ | refine blk_alloc ?_ _)); refine blk_put (cs := #[.int .i64 ((rd_T76 l1 x16_1).f0), .int .i64 0, .int .i64 0, .int .i64 0]) ?_ 1 _ rfl; (with_reducible repeat (first | refine blk_drewN ?_ _ | refine blk_drew ?_ | refine blk_alloc ?_ _)); refine blk_put (cs := #[.int .i64 0, .int .i64 0, .int .i64 0, .int .i64 0]) ?_ 0 _ rfl; (with_reducible repeat (first | refine blk_drewN ?_ _ | refine blk_drew ?_ | refine blk_alloc ?_ _)); exact BK216.out⟩, ⟨by repeat (first | (with_reducible first | exact HB.out | apply below_alloc | apply pw_below_drewN | apply below_drew1 | refine below_set ?_ GE216.out) | exact HB.out)⟩⟩
              · rw [if_neg c12] at H
                have c12b0 : decide ((l2.length : Int) ≤ x16_1) = false := decide_eq_false c12
                clear c12
                (first | rw [c12b0] | (simp only [i64_w, i32_w]; rw [c12b0]) | skip)
                by_cases c13 : ((rd_T76 l1 x16_1).f0) < 0
                · rw [if_pos c13] at H
                  have c13b0 : decide (((rd_T76 l1 x16_1).f0) < 0) = true := decide_eq_true c13
                  clear c13
                  have H' := Aside0.mk H
                  clear H
                  have hcz14_0 : w10.cell? ⟨gb216, 0, none⟩ = some (.int .i64 0) := (blk_cell BK216.out 0).trans rfl
                  have hcz14_1 : w10.cell? ⟨gb216, 1, none⟩ = some (.int .i64 0) := (blk_cell BK216.out 1).trans rfl
                  have hcz14_2 : w10.cell? ⟨gb216, 2, none⟩ = some (.int .i64 0) := (blk_cell BK216.out 2).trans rfl
                  have hcz14_3 : w10.cell? ⟨gb216, 3, none⟩ = some (.int .i64 0) := (blk_cell BK216.out 3).trans rfl
                  have hfz14_0 := blk_frozen BK216.out 0
                  have hfz14_1 := blk_frozen BK216.out 1
                  have hfz14_2 := blk_frozen BK216.out 2
                  have hfz14_3 := blk_frozen BK216.out 3
                  go_wp2
                  go_meet
                  case rel => exact ⟨_, (true), (by first | rfl | (simp; done) | (simp [*]; done)), H', ⟨by have := HK1.out; first | omega | exact Nat.le_refl _⟩, ⟨by (with_reducible repeat (first | apply Kd.N_alloc | apply Kd.N_drewN | apply Kd.N_drew)); exact Kd.N_mono (Kd.N_far (p := ⟨gb216, 3, none⟩) (Kd.N_far (p := ⟨gb216, 2, none⟩) (Kd.N_far (p := ⟨gb216, 1, none⟩) (Kd.N_far (p := ⟨gb216, 0, none⟩) (Kd.N_mono HO_7.out (fun k_ hk => (⟨hk, hk.2⟩ : _ ∧ k_ ≠ gb216))) (fun _ hk => hk.2) (.int .i64 ((rd_T76 l1 x16_1).f0))) (fun _ hk => hk.2) (.int .i64 ((rd_T76 l1 x16_1).f1))) (fun _ hk => hk.2) (.int .i64 ((rd_T76 l1 x16_1).f2))) (fun _ hk => hk.2) (.int .i64 ((rd_T76 l1 x16_1).f3))) (fun _ hk => ⟨hk.1.1, hk.1.2⟩)⟩, ⟨by (with_reducible repeat (first | refine blk_drewN ?_ _ | refine blk_drew ?_ | refine blk_alloc ?_ _)); refine blk_put (cs := #[.int .i64 ((rd_T76 l1 x16_1).f0), .int .i64 ((rd_T76 l1 x16_1).f1), .int .i64 ((rd_T76 l1 x16_1).f2), .int .i64 0]) ?_ 3 _ rfl; (with_reducible repeat (first | refine blk_drewN ?_ _ | refine blk_drew ?_ | refine blk_alloc ?_ _)); refine blk_put (cs := #[.int .i64 ((rd_T76 l1 x16_1).f0), .int .i64 ((rd_T76 l1 x16_1).f1), .int .i64 0, .int .i64 0]) ?_ 2 _ rfl; (with_reducible repeat (first | refine blk_drewN ?_ _ | refine blk_drew ?_ | refine blk_alloc ?_ _)); refine blk_put (cs := #[.int .i64 ((rd_T76 l1 x16_1).f0), .int .i64 0, .int .i64 0, .int .i64 0]) ?_ 1 _ rfl; (with_reducible repeat (first | refine blk_drewN ?_ _ | refine blk_drew ?_ | refine blk_alloc ?_ _)); refine blk_put (cs := #[.int .i64 0, .int .i64 0, .int .i64 0, .int .i64 0]) ?_ 0 _ rfl; (with_reducible repeat (first | refine blk_drewN ?_ _ | refine blk_drew ?_ | refine blk_alloc ?_ _)); exact BK216.out⟩, ⟨by repeat (first | (with_reducible first | exact HB.out | apply below_alloc | apply pw_below_drewN | apply below_drew1 | refine below_set ?_ GE216.out) | exact HB.out)⟩⟩
                · rw [if_neg c13] at H
                  have c13b0 : decide (((rd_T76 l1 x16_1).f0) < 0) = false := decide_eq_false c13
                  clear c13
                  have H' := Aside0.mk H
                  clear H
                  have hcz15_0 : w10.cell? ⟨gb216, 0, none⟩ = some (.int .i64 0) := (blk_cell BK216.out 0).trans rfl
                  have hcz15_1 : w10.cell? ⟨gb216, 1, none⟩ = some (.int .i64 0) := (blk_cell BK216.out 1).trans rfl
                  have hcz15_2 : w10.cell? ⟨gb216, 2, none⟩ = some (.int .i64 0) := (blk_cell BK216.out 2).trans rfl
                  have hcz15_3 : w10.cell? ⟨gb216, 3, none⟩ = some (.int .i64 0) := (blk_cell BK216.out 3).trans rfl
                  have hfz15_0 := blk_frozen BK216.out 0
                  have hfz15_1 := blk_frozen BK216.out 1
                  have hfz15_2 := blk_frozen BK216.out 2
                  have hfz15_3 := blk_frozen BK216.out 3
                  obtain ⟨Ao16, co16, eo16⟩ := Kd.N_slice HO_7.out
                  subst eo16
                  go_wp2
                  go_meet
                  case rel => exact ⟨_, (decide (((rd_T76 l1 x16_1).f0) ≥ (x7_1.length : Int))), (by first | rfl | (simp; done) | (simp [*]; done)), H', ⟨by have := HK1.out; first | omega | exact Nat.le_refl _⟩, ⟨by (with_reducible repeat (first | apply Kd.N_alloc | apply Kd.N_drewN | apply Kd.N_drew)); exact Kd.N_mono (Kd.N_far (p := ⟨gb216, 3, none⟩) (Kd.N_far (p := ⟨gb216, 2, none⟩) (Kd.N_far (p := ⟨gb216, 1, none⟩) (Kd.N_far (p := ⟨gb216, 0, none⟩) (Kd.N_mono HO_7.out (fun k_ hk => (⟨hk, hk.2⟩ : _ ∧ k_ ≠ gb216))) (fun _ hk => hk.2) (.int .i64 ((rd_T76 l1 x16_1).f0))) (fun _ hk => hk.2) (.int .i64 ((rd_T76 l1 x16_1).f1))) (fun _ hk => hk.2) (.int .i64 ((rd_T76 l1 x16_1).f2))) (fun _ hk => hk.2) (.int .i64 ((rd_T76 l1 x16_1).f3))) (fun _ hk => ⟨hk.1.1, hk.1.2⟩)⟩, ⟨by (with_reducible repeat (first | refine blk_drewN ?_ _ | refine blk_drew ?_ | refine blk_alloc ?_ _)); refine blk_put (cs := #[.int .i64 ((rd_T76 l1 x16_1).f0), .int .i64 ((rd_T76 l1 x16_1).f1), .int .i64 ((rd_T76 l1 x16_1).f2), .int .i64 0]) ?_ 3 _ rfl; (with_reducible repeat (first | refine blk_drewN ?_ _ | refine blk_drew ?_ | refine blk_alloc ?_ _)); refine blk_put (cs := #[.int .i64 ((rd_T76 l1 x16_1).f0), .int .i64 ((rd_T76 l1 x16_1).f1), .int .i64 0, .int .i64 0]) ?_ 2 _ rfl; (with_reducible repeat (first | refine blk_drewN ?_ _ | refine blk_drew ?_ | refine blk_alloc ?_ _)); refine blk_put (cs := #[.int .i64 ((rd_T76 l1 x16_1).f0), .int .i64 0, .int .i64 0, .int .i64 0]) ?_ 1 _ rfl; (with_reducible repeat (first | refine blk_drewN ?_ _ | refine blk_drew ?_ | refine blk_alloc ?_ _)); refine blk_put (cs := #[.int .i64 0, .int .i64 0, .int .i64 0, .int .i64 0]) ?_ 0 _ rfl; (with_reducible repeat (first | refine blk_drewN ?_ _ | refine blk_drew ?_ | refine blk_alloc ?_ _)); exact BK216.out⟩, ⟨by repeat (first | (with_reducible first | exact HB.out | apply below_alloc | apply pw_below_drewN | apply below_drew1 | refine below_set ?_ GE216.out) | exact HB.out)⟩⟩
            case rest =>
              clear HC9
              try clear c1
              try clear c2
              try clear p2
              try clear q2
              try clear hx2
              try clear c3
              try clear c5
              try clear c6
              try clear c6b0
              try clear c7
              try clear c7b0
              try clear c8
              try clear c8b0
              try clear c12
              try clear c12b0
              try clear c13
              try clear c13b0
              try clear hcz11_0
              try clear hcz11_1
              try clear hcz11_2
              try clear hcz11_3
              try clear hcz14_0
              try clear hcz14_1
              try clear hcz14_2
              try clear hcz14_3
              try clear hcz15_0
              try clear hcz15_1
              try clear hcz15_2
              try clear hcz15_3
              try clear hfz11_0
              try clear hfz11_1
              try clear hfz11_2
              try clear hfz11_3
              try clear hfz14_0
              try clear hfz14_1
              try clear hfz14_2
              try clear hfz14_3
              try clear hfz15_0
              try clear hfz15_1
              try clear hfz15_2
              try clear hfz15_3
              try clear hx215_0
              try clear hx215_1
              try clear hx215_2
              try clear hx215_3
              try clear p2
              try clear p215
              try clear q215
              obtain ⟨kq, x36_8, rfl, HA, HJ8, HO_7, BK216, HB⟩ := hcut
              cases kq with
              | zero => exact absurd HA.out (by simp [model_Combine.j1])
              | succ kj8 =>
                have H := HA.out
                clear HA
                simp only [model_Combine.j1] at H
                by_cases c17 : x36_8 = true
                · subst c17
                  have H1 : (model_Combine.l0 kj8 l2 x7_1 l1 (l1.length : Int) (wrap64 (x16_1 + 1))) = some r := by rw [if_pos rfl] at H; exact H
                  clear H
                  have H := H1
                  clear H1
                  have H' := Aside0.mk H
                  clear H
                  go_wp2
                  go_roundg kj8
                  case measure => have := HK1.out; have := HJ8.out; omega
                  case rel => exact ⟨(x7_1), (wrap64 (x16_1 + 1)), (by first | rfl | (simp; done) | (simp [*]; done)), H', ⟨by have := HK1.out; have := HJ8.out; omega⟩, ⟨by (with_reducible repeat (first | apply Kd.N_alloc | apply Kd.N_drewN | apply Kd.N_drew)); exact Kd.N_mono HO_7.out (fun _ hk => hk.1)⟩, ⟨by repeat (first | (with_reducible first | exact HB.out | apply below_alloc | apply pw_below_drewN | apply below_drew1 | refine below_set ?_ GE216.out) | exact HB.out)⟩⟩
                · replace c17 := Bool.eq_false_iff.mpr c17
                  subst c17
                  have H1 : (if 0 ≤ ((rd_T76 l1 x16_1).f0) then (if ((rd_T76 l1 x16_1).f0) < (x7_1.length : Int) then (if 0 ≤ x16_1 then (if x16_1 < (l2.length : Int) then ((vec_Scale.f (rd_L1 l2 x16_1) ((rd_T76 l1 x16_1).f3)).bind fun t219 => ((vec_Add.f (rd_L1 x7_1 ((rd_T76 l1 x16_1).f0)) t219).bind fun bt222 => (if bt222.2 = true then (model_Combine.l0 kj8 l2 (x7_1.set (((rd_T76 l1 x16_1).f0) : Int).toNat bt222.1) l1 (l1.length : Int) (wrap64 (x16_1 + 1))) else (model_Combine.l0 kj8 l2 x7_1 l1 (l1.length : Int) (wrap64 (x16_1 + 1)))))) else (none)) else (none)) else (none)) else (none)) = some r := by rw [if_neg (show ¬ (false = true) by decide)] at H; exact H
                  clear H
                  have H := H1
                  clear H1
                  by_cases c18 : 0 ≤ ((rd_T76 l1 x16_1).f0)
                  · rw [if_pos c18] at H
                    have c18b0 : decide (0 ≤ ((rd_T76 l1 x16_1).f0)) = true := decide_eq_true c18
                    clear c18
                    by_cases c19 : ((rd_T76 l1 x16_1).f0) < (x7_1.length : Int)
                    · rw [if_pos c19] at H
                      have c19b0 : decide (((rd_T76 l1 x16_1).f0) < (x7_1.length : Int)) = true := decide_eq_true c19
                      clear c19
                      by_cases c20 : 0 ≤ x16_1
                      · rw [if_pos c20] at H
                        have c20b0 : decide (0 ≤ x16_1) = true := decide_eq_true c20
                        clear c20
                        by_cases c21 : x16_1 < (l2.length : Int)
                        · rw [if_pos c21] at H
                          have c21b0 : decide (x16_1 < (l2.length : Int)) = true := decide_eq_true c21
                          clear c21
                          replace H := Option.bind_eq_some_iff.mp H
                          obtain ⟨t219, A220, H⟩ := H
                          replace H : ((vec_Add.f (rd_L1 x7_1 ((rd_T76 l1 x16_1).f0)) t219).bind fun bt222 => (if bt222.2 = true then (model_Combine.l0 kj8 l2 (x7_1.set (((rd_T76 l1 x16_1).f0) : Int).toNat bt222.1) l1 (l1.length : Int) (wrap64 (x16_1 + 1))) else (model_Combine.l0 kj8 l2 x7_1 l1 (l1.length : Int) (wrap64 (x16_1 + 1))))) = some r := H
                          have A22 := Aside0.mk A220
                          clear A220
                          replace H := Option.bind_eq_some_iff.mp H
                          obtain ⟨⟨t222, t223⟩, A230, H⟩ := H
                          replace H : (if t223 = true then (model_Combine.l0 kj8 l2 (x7_1.set (((rd_T76 l1 x16_1).f0) : Int).toNat t222) l1 (l1.length : Int) (wrap64 (x16_1 + 1))) else (model_Combine.l0 kj8 l2 x7_1 l1 (l1.length : Int) (wrap64 (x16_1 + 1)))) = some r := H
                          have A23 := Aside0.mk A230
                          clear A230
                          by_cases c24 : t223 = true
                          · subst c24
                            have H1 : (model_Combine.l0 kj8 l2 (x7_1.set (((rd_T76 l1 x16_1).f0) : Int).toNat t222) l1 (l1.length : Int) (wrap64 (x16_1 + 1))) = some r := by rw [if_pos rfl] at H; exact H
                            clear H
                            have H := H1
                            clear H1
                            obtain ⟨y226, hy226⟩ : ∃ y_ : List (List Int), y_ = (x7_1.set (((rd_T76 l1 x16_1).f0) : Int).toNat t222) := ⟨_, rfl⟩
                            replace H : (model_Combine.l0 kj8 l2 y226 l1 (l1.length : Int) (wrap64 (x16_1 + 1))) = some r := by first | (rw [hy226]; with_reducible exact H) | (have H2_ := (Option.bind_some _ _).symm.trans H; rw [hy226]; with_reducible exact H2_) | (have H2_ := (Option.bind_some _ _).symm.trans H; with_reducible exact H2_) | with_reducible exact H | (rw [hy226]; exact H) | exact H
                            have Ny226 := Aside0.mk hy226
                            clear hy226
                            have H' := Aside0.mk H
                            clear H
                            try go_wp2
                            have n0_ := Aside0.mk (Kd.N_drew HO_7.out)
                            have n1_ := Aside0.mk (blk_drew BK216.out)
                            have n2_ := Aside0.mk (below_drew1 HB.out)
                            clear HO_7
                            clear BK216
                            clear HB
                            have HO_7 := n0_
                            have BK216 := n1_
                            have HB := n2_
                            clear n0_ n1_ n2_
                            obtain ⟨Ao27, co27, eo27⟩ := Kd.N_slice HO_7.out
                            (first | subst eo27 | (injection eo27 with f1_ f2_ f3_; have f4_ := f1_.symm; have f5_ := f3_.symm; clear f1_ f2_ f3_; subst f4_; subst f5_))
                            have p217 : 0 ≤ (((rd_T76 l1 x16_1).f0) : Int) := of_decide_eq_true (by first | (with_reducible assumption) | assumption)
                            have q217 : ((rd_T76 l1 x16_1).f0) < (x7_1.length : Int) := of_decide_eq_true (by first | (with_reducible assumption) | assumption)
                            obtain ⟨ad217, A217_0, c217_0, e217, hx217_0, hl217_0, hi217_0⟩ := at_L1 (Kd.N_reads' HO_7.out).2.2 ((rd_T76 l1 x16_1).f0) p217 q217
                            cases e217
                            obtain ⟨ce217, hce217, hMe217, hcc217⟩ := Kd.N_get HO_7.out [] ((rd_T76 l1 x16_1).f0) p217 (by first | exact q217 | exact of_decide_eq_true (by first | (with_reducible assumption) | assumption) | (have e_ := (Kd.N_reads' HO_7.out).1; omega))
                            obtain ⟨ua217_0, uc217_0, rfl, ul217_0, ge217_0⟩ := Kd.FK_slice_open hMe217
                            have hv217_0 := hcc217 0 _ rfl
                            rw [Nat.add_zero, show ((Kd.slice 3 (Kd.int .i64))).sz = 1 from rfl, Nat.mul_one] at hv217_0
                            replace hv217_0 := Option.some.inj (hv217_0.symm.trans hx217_0)
                            injection hv217_0 with hva_ hvn_ hvc_
                            rw [hva_] at ge217_0
                            rw [hvc_] at ul217_0
                            have HL217_0 := Aside0.mk (show Kd.V (Kd.int .i64) 3 _ w.heap.size _ _ (rd_L1 x7_1 ((rd_T76 l1 x16_1).f0)) from Kd.V_mk ul217_0 ge217_0)
                            clear hva_ hvn_ hvc_ ge217_0 ul217_0
                            clear hcc217 hce217
                            have HR217_0 := Aside0.mk hi217_0
                            have HC217_0 := Aside0.mk hl217_0
                            clear hi217_0 hl217_0
                            replace p217 := eq_true p217
                            replace q217 := eq_true q217
                            have p218 : 0 ≤ (x16_1 : Int) := of_decide_eq_true (by first | (with_reducible assumption) | assumption)
                            have q218 : x16_1 < (l2.length : Int) := of_decide_eq_true (by first | (with_reducible assumption) | assumption)
                            obtain ⟨ad218, A218_0, c218_0, e218, hx218_0, hl218_0, hi218_0⟩ := at_L1 HR2.out x16_1 p218 q218
                            have hw218_0 := hx218_0
                            cases e218
                            replace hx218_0 := (HB.out.cell (World.block_lt_of_cell? w _ hx218_0)).trans hx218_0
                            have HR218_0 := Aside0.mk hi218_0
                            have HC218_0 := Aside0.mk hl218_0
                            clear hi218_0 hl218_0
                            replace p218 := eq_true p218
                            replace q218 := eq_true q218
                            refine start_ (n := 18) (S := fun w' => w'.cell? ⟨gb216, 0, none⟩ = some (.int .i64 ((rd_T76 l1 x16_1).f0)) ∧ w'.cell? ⟨gb216, 1, none⟩ = some (.int .i64 ((rd_T76 l1 x16_1).f1)) ∧ w'.cell? ⟨gb216, 2, none⟩ = some (.int .i64 ((rd_T76 l1 x16_1).f2)) ∧ w'.cell? ⟨gb216, 3, none⟩ = some (.int .i64 ((rd_T76 l1 x16_1).f3)) ∧ w'.cell? (ad217.add (((rd_T76 l1 x16_1).f0)).toNat) = some (.slice A217_0 (rd_L1 x7_1 ((rd_T76 l1 x16_1).f0)).length c217_0) ∧ w'.cell? (ad218.add (x16_1).toNat) = some (.slice A218_0 (rd_L1 l2 x16_1).length c218_0)) (ds := []) #[false, false, false, false, false, false, false, false, false, false, false, false, false, false, false, false, false, false] (by kernel_rfl) rfl rfl ⟨(blk_cell BK216.out 0).trans rfl, (blk_cell BK216.out 1).trans rfl, (blk_cell BK216.out 2).trans rfl, (blk_cell BK216.out 3).trans rfl, hx217_0, ((HB.out.cell (World.block_lt_of_cell? w _ hw218_0)).trans hw218_0)⟩ (fun hHeld => ?_); refine with_tabW model_Combine.tab6 model_Combine.bits6 (fun HT_ HW_ => ?_)
                            generalize wc.drew = w26 at HO_7 BK216 HB HL217_0 HR217_0 HR218_0 hx217_0 hx218_0 hHeld ⊢
                            refine pure_ (i := 0) (N := some 38) (v := ?_) (a' := ?_) #[true, false, false, false, false, false, false, false, false, false, false, false, false, false, false, false, false, false] rfl rfl (any_of HT_.out (by kernel_rfl)) (fun _ _ _ h => h) (Or.inl ⟨by rfl, ?_⟩) ?_ ?_
                            rotate_left
                            · intro w'
                              go_simp
                              with_reducible rfl
                            rotate_left
                            · simp only [Act.put, List.setIfInBounds_toArray, List.set_cons_zero, List.set_cons_succ, i64_w, i32_w]
                              rfl
                            refine pure_ (i := 1) (N := some 39) (v := ?_) (a' := ?_) #[true, true, false, false, false, false, false, false, false, false, false, false, false, false, false, false, false, false] rfl rfl (any_of HT_.out (by kernel_rfl)) (fun _ _ _ h => h) (Or.inl ⟨by rfl, ?_⟩) ?_ ?_
                            rotate_left
                            · intro w'
                              go_simp
                              with_reducible rfl
                            rotate_left
                            · simp only [Act.put, List.setIfInBounds_toArray, List.set_cons_zero, List.set_cons_succ, i64_w, i32_w]
                              rfl
                            refine pure_ (i := 5) (N := some 43) (v := ?_) (a' := ?_) #[true, true, false, false, false, true, false, false, false, false, false, false, false, false, false, false, false, false] rfl rfl (any_of HT_.out (by kernel_rfl)) (fun _ _ _ h => h) (Or.inl ⟨by rfl, ?_⟩) ?_ ?_
                            rotate_left
                            · intro w'
                              go_simp
                              with_reducible rfl
                            rotate_left
                            · simp only [Act.put, List.setIfInBounds_toArray, List.set_cons_zero, List.set_cons_succ, i64_w, i32_w]
                              rfl
                            refine pure_ (i := 6) (N := some 44) (v := ?_) (a' := ?_) #[true, true, false, false, false, true, true, false, false, false, false, false, false, false, false, false, false, false] rfl rfl (any_of HT_.out (by kernel_rfl)) (fun _ _ _ h => h) (Or.inl ⟨by rfl, ?_⟩) ?_ ?_
                            rotate_left
                            · intro w'
                              go_simp
                              with_reducible rfl
                            rotate_left
                            · simp only [Act.put, List.setIfInBounds_toArray, List.set_cons_zero, List.set_cons_succ, i64_w, i32_w]
                              rfl
                            refine pure_ (i := 7) (N := some 45) (v := ?_) (a' := ?_) #[true, true, false, false, false, true, true, true, false, false, false, false, false, false, false, false, false, false] rfl rfl (any_of HT_.out (by kernel_rfl)) (fun _ _ _ h => h) (Or.inl ⟨by rfl, ?_⟩) ?_ ?_
                            rotate_left
                            · intro w'
                              go_simp
                              with_reducible rfl
                            rotate_left
                            · simp only [Act.put, List.setIfInBounds_toArray, List.set_cons_zero, List.set_cons_succ, i64_w, i32_w]
                              rfl
                            refine pure_ (i := 9) (N := some 47) (v := ?_) (a' := ?_) #[true, true, false, false, false, true, true, true, false, true, false, false, false, false, false, false, false, false] rfl rfl (any_of HT_.out (by kernel_rfl)) (fun _ _ _ h => h) (Or.inl ⟨by rfl, ?_⟩) ?_ ?_
                            rotate_left
                            · intro w'
                              go_simp
                              with_reducible rfl
                            rotate_left
                            · simp only [Act.put, List.setIfInBounds_toArray, List.set_cons_zero, List.set_cons_succ, i64_w, i32_w]
                              rfl
                            refine take_ (i := 2) (N := some 40) (v := ?_) (a' := ?_) #[true, true, true, false, false, true, true, true, false, true, false, false, false, false, false, false, false, false] rfl rfl (take_ofW HT_.out HW_.out (by kernel_rfl)) (fun _ _ _ h => h) (Or.inl ⟨by rfl, ?_⟩) hHeld ?_ ?_
                            rotate_left
                            · rintro w' ⟨s0, s1, s2, s3, s4, s5⟩
                              go_simp
                              with_reducible rfl
                            rotate_left
                            · simp only [Act.put, List.setIfInBounds_toArray, List.set_cons_zero, List.set_cons_succ, i64_w, i32_w]
                              rfl
                            refine pure_ (i := 3) (N := some 41) (v := ?_) (a' := ?_) #[true, true, true, true, false, true, true, true, false, true, false, false, false, false, false, false, false, false] rfl rfl (any_of HT_.out (by kernel_rfl)) (fun _ _ _ h => h) (Or.inl ⟨by rfl, ?_⟩) ?_ ?_
                            rotate_left
                            · intro w'
                              go_simp
                              with_reducible rfl
                            rotate_left
                            · simp only [Act.put, List.setIfInBounds_toArray, List.set_cons_zero, List.set_cons_succ, i64_w, i32_w]
                              rfl
                            refine take_ (i := 4) (N := some 42) (v := ?_) (a' := ?_) #[true, true, true, true, true, true, true, true, false, true, false, false, false, false, false, false, false, false] rfl rfl (take_ofW HT_.out HW_.out (by kernel_rfl)) (fun _ _ _ h => h) (Or.inl ⟨by rfl, ?_⟩) hHeld ?_ ?_
                            rotate_left
                            · rintro w' ⟨s0, s1, s2, s3, s4, s5⟩
                              go_simp
                              with_reducible rfl
                            rotate_left
                            · simp only [Act.put, List.setIfInBounds_toArray, List.set_cons_zero, List.set_cons_succ, i64_w, i32_w]
                              rfl
                            refine take_ (i := 8) (N := some 46) (v := ?_) (a' := ?_) #[true, true, true, true, true, true, true, true, true, true, false, false, false, false, false, false, false, false] rfl rfl (take_ofW HT_.out HW_.out (by kernel_rfl)) (fun _ _ _ h => h) (Or.inl ⟨by rfl, ?_⟩) hHeld ?_ ?_
                            rotate_left
                            · rintro w' ⟨s0, s1, s2, s3, s4, s5⟩
                              go_simp
                              with_reducible rfl
                            rotate_left
                            · simp only [Act.put, List.setIfInBounds_toArray, List.set_cons_zero, List.set_cons_succ, i64_w, i32_w]
                              rfl
                            refine take_ (i := 10) (N := some 48) (v := ?_) (a' := ?_) #[true, true, true, true, true, true, true, true, true, true, true, false, false, false, false, false, false, false] rfl rfl (take_ofW HT_.out HW_.out (by kernel_rfl)) (fun _ _ _ h => h) (Or.inl ⟨by rfl, ?_⟩) hHeld ?_ ?_
                            rotate_left
                            · rintro w' ⟨s0, s1, s2, s3, s4, s5⟩
                              go_simp
                              with_reducible rfl
                            rotate_left
                            · simp only [Act.put, List.setIfInBounds_toArray, List.set_cons_zero, List.set_cons_succ, i64_w, i32_w]
                              rfl
                            refine one_ (i := 11) (N := some 49) #[true, true, true, true, true, true, true, true, true, true, true, true, false, false, false, false, false, false] rfl rfl (one_of HT_.out (by kernel_rfl)) (by decide) (fun K hK => ?_)
                            refine goes_ Try.func55 (by kernel_rfl) rfl #[.slice A218_0 (rd_L1 l2 x16_1).length c218_0, .int .i64 ((rd_T76 l1 x16_1).f3)] (by rfl) rfl rfl (by (try simp only [List.map_toArray, List.map_cons, List.map_nil]); first | done | rfl | (simp only [List.length_drop, List.length_take]; rfl)) ?_
                            with_reducible refine (vec_Scale.calls _ _ (rd_L1 l2 x16_1) ((rd_T76 l1 x16_1).f3) t219 _ ?side1 ?side2 A22.out).mono ?_
                            (case side1 => repeat (first | exact (Kd.C_below HR218_0.out HB.out) | (with_reducible refine Kd.C_alloc ?_ _) | (with_reducible refine Kd.C_drewN ?_ _) | (with_reducible refine Kd.C_drew ?_)))
                            (case side2 => exact HC218_0.out)
                            rintro e w28 ⟨v220, rfl, ho0, hb⟩
                            have HS4_ := (hb.cell (World.block_lt_of_cell? _ _ (hHeld.2.2.2.2.1))).trans (hHeld.2.2.2.2.1)
                            refine ⟨_, rfl, ?_⟩
                            have n0_ := Aside0.mk (Kd.N_elder' (by (with_reducible repeat (first | apply Kd.N_alloc | apply Kd.N_drewN | apply Kd.N_drew)); exact HO_7.out) (Kd.R_base ho0) hb)
                            have n1_ := Aside0.mk (Kd.V_elder' (by (with_reducible repeat (first | apply Kd.V_alloc | apply Kd.V_drewN | apply Kd.V_drew)); exact HL217_0.out) (Kd.R_base ho0) hb)
                            have n2_ := Aside0.mk (Kd.R_lower (Kd.R_newM (M := fun k_ => (w.heap.size ≤ k_)) ho0 (below_size (by repeat (first | (with_reducible first | exact HB.out | apply below_alloc | apply pw_below_drewN | apply below_drew1 | refine below_set ?_ GE216.out) | exact HB.out))) (fun k_ h_ => h_)) (below_size (by repeat (first | (with_reducible first | exact HB.out | apply below_alloc | apply pw_below_drewN | apply below_drew1 | refine below_set ?_ GE216.out) | exact HB.out))))
                            have n3_ := Aside0.mk (blk_below (g := gb216) (o := .cells #[.int .i64 ((rd_T76 l1 x16_1).f0), .int .i64 ((rd_T76 l1 x16_1).f1), .int .i64 ((rd_T76 l1 x16_1).f2), .int .i64 ((rd_T76 l1 x16_1).f3)] 76 (0, 0)) (by (with_reducible repeat (first | refine blk_drewN ?_ _ | refine blk_drew ?_ | refine blk_alloc ?_ _)); exact BK216.out) hb)
                            have n4_ := Aside0.mk (Kd.C_below (by repeat (first | (with_reducible exact HR217_0.out) | (with_reducible refine Kd.C_alloc ?_ _) | (with_reducible refine Kd.C_drewN ?_ _) | (with_reducible refine Kd.C_drew ?_) | exact HR217_0.out)) hb)
                            have n5_ := Aside0.mk (below_step (by repeat (first | (with_reducible first | exact HB.out | apply below_alloc | apply pw_below_drewN | apply below_drew1 | refine below_set ?_ GE216.out) | exact HB.out)) hb)
                            clear HO_7
                            clear HL217_0
                            clear BK216
                            clear HR217_0
                            clear HB
                            have HO_7 := n0_
                            have HL217_0 := n1_
                            have HO221 := n2_
                            have BK216 := n3_
                            have HR217_0 := n4_
                            have HB := n5_
                            clear n0_ n1_ n2_ n3_ n4_ n5_
                            (try clear hb)
                            (try clear hb2)
                            (try clear hk)
                            (try clear hi)
                            (try clear ho0)
                            obtain ⟨Ao29, co29, eo29⟩ := Kd.R_slice HO221.out
                            (first | subst eo29 | (injection eo29 with f1_ f2_ f3_; have f4_ := f1_.symm; have f5_ := f3_.symm; clear f1_ f2_ f3_; subst f4_; subst f5_))
                            refine hK.out _ _ ⟨(blk_cell BK216.out 0).trans rfl, (blk_cell BK216.out 1).trans rfl, (blk_cell BK216.out 2).trans rfl, (blk_cell BK216.out 3).trans rfl, HS4_, ((HB.out.cell (World.block_lt_of_cell? w _ hw218_0)).trans hw218_0)⟩ (fun hHeld => ?_)
                            clear hK K
                            refine norm_ (a' := ?_) ?_ ?_
                            rotate_left
                            · show Act.put _ (some 49) _ = _
                              simp only [Act.put, List.setIfInBounds_toArray, List.set_cons_zero, List.set_cons_succ, i64_w, i32_w]
                              rfl
                            refine one_ (i := 12) (N := some 50) #[true, true, true, true, true, true, true, true, true, true, true, true, true, false, false, false, false, false] rfl rfl (one_of HT_.out (by kernel_rfl)) (by decide) (fun K hK => ?_)
                            refine goes_ Try.func54 (by kernel_rfl) rfl #[.slice A217_0 (rd_L1 x7_1 ((rd_T76 l1 x16_1).f0)).length c217_0, .slice Ao29 t219.length co29] (by rfl) rfl rfl (by (try simp only [List.map_toArray, List.map_cons, List.map_nil]); first | done | rfl | (simp only [List.length_drop, List.length_take]; rfl)) ?_
                            with_reducible refine (vec_Add.calls _ _ (rd_L1 x7_1 ((rd_T76 l1 x16_1).f0)) _ _ t219 t222 true _ ?side1 ?side2 ?side3 ?side4 A23.out).mono ?_
                            (case side1 => repeat (first | exact (by repeat (first | (with_reducible exact HR217_0.out) | (with_reducible refine Kd.C_alloc ?_ _) | (with_reducible refine Kd.C_drewN ?_ _) | (with_reducible refine Kd.C_drew ?_) | exact HR217_0.out)) | (with_reducible refine Kd.C_alloc ?_ _) | (with_reducible refine Kd.C_drewN ?_ _) | (with_reducible refine Kd.C_drew ?_)))
                            (case side2 => exact HC217_0.out)
                            (case side3 => repeat (first | exact (Kd.R_reads' HO221.out).2.2 | (with_reducible refine Kd.C_alloc ?_ _) | (with_reducible refine Kd.C_drewN ?_ _) | (with_reducible refine Kd.C_drew ?_)))
                            (case side4 => exact (Kd.R_reads' HO221.out).2.1)
                            rintro e w30 ⟨v224, rfl, ho0, hb⟩
                            have HS4_ := (hb.cell (World.block_lt_of_cell? _ _ (hHeld.2.2.2.2.1))).trans (hHeld.2.2.2.2.1)
                            refine ⟨_, rfl, ?_⟩
                            have n0_ := Aside0.mk (Kd.N_elder' (by (with_reducible repeat (first | apply Kd.N_alloc | apply Kd.N_drewN | apply Kd.N_drew)); exact HO_7.out) (Kd.R_base ho0) hb)
                            have n1_ := Aside0.mk (Kd.V_elder' (by (with_reducible repeat (first | apply Kd.V_alloc | apply Kd.V_drewN | apply Kd.V_drew)); exact HL217_0.out) (Kd.R_base ho0) hb)
                            have n2_ := Aside0.mk (Kd.R_elder' (by (with_reducible repeat (first | apply Kd.R_alloc | apply Kd.R_drewN | apply Kd.R_drew)); exact HO221.out) (Kd.R_base ho0) hb)
                            have n3_ := Aside0.mk (Kd.R_lower (Kd.R_new' (Kd.R_newM (M := fun k_ => (w.heap.size ≤ k_)) ho0 (below_size (by repeat (first | (with_reducible first | exact HB.out | apply below_alloc | apply pw_below_drewN | apply below_drew1 | refine below_set ?_ GE216.out) | exact HB.out))) (fun k_ h_ => h_)) (Kd.R_lt (by (with_reducible repeat (first | apply Kd.R_alloc | apply Kd.R_drewN | apply Kd.R_drew)); exact HO221.out))) (below_size (by repeat (first | (with_reducible first | exact HB.out | apply below_alloc | apply pw_below_drewN | apply below_drew1 | refine below_set ?_ GE216.out) | exact HB.out))))
                            have n4_ := Aside0.mk (blk_below (g := gb216) (o := .cells #[.int .i64 ((rd_T76 l1 x16_1).f0), .int .i64 ((rd_T76 l1 x16_1).f1), .int .i64 ((rd_T76 l1 x16_1).f2), .int .i64 ((rd_T76 l1 x16_1).f3)] 76 (0, 0)) (by (with_reducible repeat (first | refine blk_drewN ?_ _ | refine blk_drew ?_ | refine blk_alloc ?_ _)); exact BK216.out) hb)
                            have n5_ := Aside0.mk (Kd.C_below (by repeat (first | (with_reducible exact HR217_0.out) | (with_reducible refine Kd.C_alloc ?_ _) | (with_reducible refine Kd.C_drewN ?_ _) | (with_reducible refine Kd.C_drew ?_) | exact HR217_0.out)) hb)
                            have n6_ := Aside0.mk (below_step (by repeat (first | (with_reducible first | exact HB.out | apply below_alloc | apply pw_below_drewN | apply below_drew1 | refine below_set ?_ GE216.out) | exact HB.out)) hb)
                            clear HO_7
                            clear HL217_0
                            clear HO221
                            clear BK216
                            clear HR217_0
                            clear HB
                            have HO_7 := n0_
                            have HL217_0 := n1_
                            have HO221 := n2_
                            have HO225 := n3_
                            have BK216 := n4_
                            have HR217_0 := n5_
                            have HB := n6_
                            clear n0_ n1_ n2_ n3_ n4_ n5_ n6_
                            (try clear hb)
                            (try clear hb2)
                            (try clear hk)
                            (try clear hi)
                            (try clear ho0)
                            refine hK.out _ _ ⟨(blk_cell BK216.out 0).trans rfl, (blk_cell BK216.out 1).trans rfl, (blk_cell BK216.out 2).trans rfl, (blk_cell BK216.out 3).trans rfl, HS4_, ((HB.out.cell (World.block_lt_of_cell? w _ hw218_0)).trans hw218_0)⟩ (fun hHeld => ?_)
                            clear hK K
                            refine norm_ (a' := ?_) ?_ ?_
                            rotate_left
                            · show Act.put _ (some 50) _ = _
                              simp only [Act.put, List.setIfInBounds_toArray, List.set_cons_zero, List.set_cons_succ, i64_w, i32_w]
                              rfl
                            refine pure_ (i := 13) (N := some 37) (v := ?_) (a' := ?_) #[true, true, true, true, true, true, true, true, true, true, true, true, true, true, false, false, false, false] rfl rfl (any_of HT_.out (by kernel_rfl)) (fun _ _ _ h => h) (Or.inl ⟨by rfl, ?_⟩) ?_ ?_
                            rotate_left
                            · intro w'
                              go_simp
                              with_reducible rfl
                            rotate_left
                            · simp only [Act.put, List.setIfInBounds_toArray, List.set_cons_zero, List.set_cons_succ, i64_w, i32_w]
                              rfl
                            refine pure_ (i := 14) (N := some 51) (v := ?_) (a' := ?_) #[true, true, true, true, true, true, true, true, true, true, true, true, true, true, true, false, false, false] rfl rfl (any_of HT_.out (by kernel_rfl)) (fun _ _ _ h => h) (Or.inl ⟨by rfl, ?_⟩) ?_ ?_
                            rotate_left
                            · intro w'
                              go_simp
                              with_reducible rfl
                            rotate_left
                            · simp only [Act.put, List.setIfInBounds_toArray, List.set_cons_zero, List.set_cons_succ, i64_w, i32_w]
                              rfl
                            refine pure_ (i := 15) (N := some 52) (v := ?_) (a' := ?_) #[true, true, true, true, true, true, true, true, true, true, true, true, true, true, true, true, false, false] rfl rfl (any_of HT_.out (by kernel_rfl)) (fun _ _ _ h => h) (Or.inl ⟨by rfl, ?_⟩) ?_ ?_
                            rotate_left
                            · intro w'
                              go_simp
                              with_reducible rfl
                            rotate_left
                            · simp only [Act.put, List.setIfInBounds_toArray, List.set_cons_zero, List.set_cons_succ, i64_w, i32_w]
                              rfl
                            refine pure_ (i := 16) (N := some 10) (v := ?_) (a' := ?_) #[true, true, true, true, true, true, true, true, true, true, true, true, true, true, true, true, true, false] rfl rfl (any_of HT_.out (by kernel_rfl)) (fun _ _ _ h => h) (Or.inl ⟨by rfl, ?_⟩) ?_ ?_
                            rotate_left
                            · intro w'
                              go_simp
                              with_reducible rfl
                            rotate_left
                            · simp only [Act.put, List.setIfInBounds_toArray, List.set_cons_zero, List.set_cons_succ, i64_w, i32_w]
                              rfl
                            refine pure_ (i := 17) (N := some 11) (v := ?_) (a' := ?_) #[true, true, true, true, true, true, true, true, true, true, true, true, true, true, true, true, true, true] rfl rfl (any_of HT_.out (by kernel_rfl)) (fun _ _ _ h => h) (Or.inl ⟨by rfl, ?_⟩) ?_ ?_
                            rotate_left
                            · intro w'
                              go_simp
                              with_reducible rfl
                            rotate_left
                            · simp only [Act.put, List.setIfInBounds_toArray, List.set_cons_zero, List.set_cons_succ, i64_w, i32_w]
                              rfl
                            refine done_ (done_of HT_.out (by kernel_rfl)) ?_
                            have hcz31_0 : w30.cell? ⟨gb216, 0, none⟩ = some (.int .i64 ((rd_T76 l1 x16_1).f0)) := (blk_cell BK216.out 0).trans rfl
                            have hcz31_1 : w30.cell? ⟨gb216, 1, none⟩ = some (.int .i64 ((rd_T76 l1 x16_1).f1)) := (blk_cell BK216.out 1).trans rfl
                            have hcz31_2 : w30.cell? ⟨gb216, 2, none⟩ = some (.int .i64 ((rd_T76 l1 x16_1).f2)) := (blk_cell BK216.out 2).trans rfl
                            have hcz31_3 : w30.cell? ⟨gb216, 3, none⟩ = some (.int .i64 ((rd_T76 l1 x16_1).f3)) := (blk_cell BK216.out 3).trans rfl
                            have hfz31_0 := blk_frozen BK216.out 0
                            have hfz31_1 := blk_frozen BK216.out 1
                            have hfz31_2 := blk_frozen BK216.out 2
                            have hfz31_3 := blk_frozen BK216.out 3
                            have p25 : 0 ≤ (((rd_T76 l1 x16_1).f0) : Int) := of_decide_eq_true (by first | (with_reducible assumption) | assumption)
                            have q25 : (((rd_T76 l1 x16_1).f0) : Int) < ((x7_1.length : Int) : Int) := of_decide_eq_true (by first | (with_reducible assumption) | assumption)
                            obtain ⟨go25, co25, eo25, gb25, gl25, cl25, HG25⟩ := Kd.N_form HO_7.out (by omega)
                            (first | cases eo25 | (injection eo25 with ea_ en_ ec_; (first | subst ea_ | (injection ea_ with ea_; subst ea_)); subst ec_; clear en_))
                            have GB25 := Aside0.mk gb25
                            have GG25 := Aside0.mk HG25
                            clear gb25 gl25 HG25
                            (first | simp only [add_plain] at hx217_0 | skip)
                            obtain ⟨ce25, hcl25, hM25, hcc25, hfr25⟩ := Kd.N_elem HO_7.out [] (((rd_T76 l1 x16_1).f0) : Int) p25 q25
                            obtain ⟨ua25_0, uc25_0, rfl, ul25_0, ge25_0⟩ := Kd.FK_slice_open hM25
                            have hx25_0 := hcc25 0 _ rfl
                            have hf25_0 := hfr25 0
                            (try simp only [show ((Kd.slice 3 (Kd.int .i64))).sz = 1 from rfl, Nat.mul_one, Nat.add_zero] at hx25_0)
                            (try simp only [show ((Kd.slice 3 (Kd.int .i64))).sz = 1 from rfl, Nat.mul_one, Nat.add_zero] at hf25_0)
                            clear hcl25 hcc25 hfr25 hM25
                            replace p25 := eq_true p25
                            replace q25 := eq_true q25
                            have n_ := Aside0.mk (Kd.N_mono (ok' := (fun k_ => (P0_ k_ ∨ w.heap.size ≤ k_) ∧ some k_ ≠ (.slice Ao29 t219.length co29 : Value).ownBlock ∧ some k_ ≠ (v224 : Value).ownBlock ∧ k_ ≠ gb216)) HO_7.out (fun k_ hk => ⟨hk.1.1.1, ⟨hk.1.2, ⟨hk.2, hk.1.1.2⟩⟩⟩))
                            clear HO_7
                            have HO_7 := n_
                            clear n_
                            have HX32 := Aside0.mk (show Kd.N (Kd.slice 3 (Kd.int .i64)) 54 w30 w.heap.size (fun k_ => (P0_ k_ ∨ w.heap.size ≤ k_) ∧ some k_ ≠ (.slice Ao29 t219.length co29 : Value).ownBlock ∧ k_ ≠ gb216) (.slice (some ⟨go25, 0, none⟩) x7_1.length co27) x7_1 from (by (with_reducible repeat (first | apply Kd.N_alloc | apply Kd.N_drewN | apply Kd.N_drew)); exact Kd.N_mono HO_7.out (fun _ hk => ⟨hk.1, ⟨hk.2.1, hk.2.2.2⟩⟩)))
                            obtain ⟨ce32, hcl32, hM32, hcc32, hfr32⟩ := Kd.N_elem HX32.out [] (((rd_T76 l1 x16_1).f0) : Int) (of_decide_eq_true (by first | (with_reducible assumption) | assumption)) (by have h_ : (((rd_T76 l1 x16_1).f0) : Int) < ((x7_1.length : Int) : Int) := of_decide_eq_true (by first | (with_reducible assumption) | assumption); first | exact h_ | (have e_ := (Kd.N_reads' HO_7.out).1; omega) | simpa using h_)
                            obtain ⟨ua32_0, uc32_0, rfl, ul32_0, ge32_0⟩ := Kd.FK_slice_open hM32
                            have hcl_HO225 := R_cells HO225.out
                            unfold Value.cells at hcl_HO225
                            have hst_HO225 := R_stores (P := Try.prog) HO225.out
                            have HP32 := Kd.N_seg HX32.out (((rd_T76 l1 x16_1).f0) : Int) (of_decide_eq_true (by first | (with_reducible assumption) | assumption)) (by have h_ : (((rd_T76 l1 x16_1).f0) : Int) < ((x7_1.length : Int) : Int) := of_decide_eq_true (by first | (with_reducible assumption) | assumption); first | exact h_ | (have e_ := (Kd.N_reads' HO_7.out).1; omega) | simpa using h_) (seg := [v224]) (j := 0) hcl32 hcc32 (show 1 ≤ 1 from by decide) (x' := t222) (FK_slice_own (Kd.R_mono (ok' := (fun k_ => ((fun k_ => (P0_ k_ ∨ w.heap.size ≤ k_) ∧ some k_ ≠ (.slice Ao29 t219.length co29 : Value).ownBlock ∧ k_ ≠ gb216)) k_ ∧ k_ ≠ go25)) (Kd.R_types (Kd.R_apart' (HO225.out) (Kd.N_typed HO_7.out) (by decide)) BK216.out (by decide)) (fun k_ hk => ⟨⟨(.inr (hk.1.1.1.1)), ⟨hk.1.1.2, hk.2⟩⟩, fun e_ => (hk.1.2) (by rw [e_]; rfl)⟩))) (fun _ hk => hk)
                            have hx32_0 := hcc32 0 _ rfl
                            (try simp only [show ((Kd.slice 3 (Kd.int .i64))).sz = 1 from rfl, Nat.mul_one, Nat.add_zero] at hx32_0)
                            have hf32_0 := hfr32 0
                            (try simp only [show ((Kd.slice 3 (Kd.int .i64))).sz = 1 from rfl, Nat.mul_one, Nat.add_zero] at hf32_0)
                            clear hcl32 hcc32 hfr32 hM32
                            (try simp only [show ((Kd.slice 3 (Kd.int .i64))).sz = 1 from rfl, Nat.mul_one, Nat.add_zero] at HP32)
                            (try simp only [show ((Kd.slice 3 (Kd.int .i64))).sz = 1 from rfl, Nat.mul_one, Nat.add_zero] at HP32)
                            try go_wp2_with (first | ((with_reducible refine gate_store (t := 54) (p := 58) rfl ?_); refine store_event (t := 54) (p := 58) (v := ?vo_w33) (w1 := (w30.setCell ⟨go25, (((rd_T76 l1 x16_1).f0) : Int).toNat, none⟩ (v224))) ?hg ?ho ?hn ?hr ?_; (case ho => rfl); (case hg => rfl); (case hn => rfl); (case hr => first | (go_simp; done) | (go_simp; rfl)); intro w33 hw; have hg : w30.grownBy w33 (some go25) := (by rw [hw]; exact HP32.2); have hp_ : Kd.N (Kd.slice 3 (Kd.int .i64)) 54 w33 w.heap.size (fun k_ => (P0_ k_ ∨ w.heap.size ≤ k_) ∧ some k_ ≠ (.slice Ao29 t219.length co29 : Value).ownBlock ∧ k_ ≠ gb216) (.slice (some ⟨go25, 0, none⟩) x7_1.length co27) y226 := (by rw [hw, Ny226.out]; exact HP32.1); clear HP32; have n0_ := Aside0.mk (hp_); have n1_ := Aside0.mk (blk_grown (g := gb216) (o := .cells #[.int .i64 ((rd_T76 l1 x16_1).f0), .int .i64 ((rd_T76 l1 x16_1).f1), .int .i64 ((rd_T76 l1 x16_1).f2), .int .i64 ((rd_T76 l1 x16_1).f3)] 76 (0, 0)) (by (with_reducible repeat (first | refine blk_drewN ?_ _ | refine blk_drew ?_ | refine blk_alloc ?_ _)); exact BK216.out) hg (Kd.N_ne HO_7.out BK216.out (by decide))); have n2_ := Aside0.mk (Kd.V_afterv (v := (.slice (some ⟨go25, 0, none⟩) x7_1.length co27)) (v1 := (.slice (some ⟨go25, 0, none⟩) x7_1.length co27)) (ok := (fun k_ => (P0_ k_ ∨ w.heap.size ≤ k_) ∧ some k_ ≠ (.slice Ao29 t219.length co29 : Value).ownBlock ∧ some k_ ≠ (v224 : Value).ownBlock ∧ k_ ≠ gb216)) (by (with_reducible repeat (first | apply Kd.V_alloc | apply Kd.V_drewN | apply Kd.V_drew)); exact Kd.V_mono HL217_0.out (fun _ hk => ⟨⟨hk.1.1.1.1, ⟨hk.1.2, ⟨hk.2, hk.1.1.1.2⟩⟩⟩, hk.1.1.2⟩)) hg (.inl rfl)); have n3_ := Aside0.mk (Kd.R_over' (v := (.slice (some ⟨go25, 0, none⟩) x7_1.length co27)) (by (with_reducible repeat (first | apply Kd.R_alloc | apply Kd.R_drewN | apply Kd.R_drew)); exact HO221.out) (Kd.N_typed HO_7.out) (by decide) hg); have n4_ := Aside0.mk ((by rw [hw]; exact below_set (HB.out) GB25.out : Below w.heap.size w w33)); clear HO_7; clear BK216; clear HL217_0; clear HO221; clear HB; clear HO225; have HO_7 := n0_; have BK216 := n1_; have HL217_0 := n2_; have HO221 := n3_; have HB := n4_; clear n0_ n1_ n2_ n3_ n4_; clear hg hw hp_))
                            go_roundg kj8
                            case measure => have := HK1.out; have := HJ8.out; omega
                            case rel => exact ⟨(y226), (wrap64 (x16_1 + 1)), (by first | rfl | (simp; done) | (simp [*]; done)), H', ⟨by have := HK1.out; have := HJ8.out; omega⟩, ⟨by (with_reducible repeat (first | apply Kd.N_alloc | apply Kd.N_drewN | apply Kd.N_drew)); exact Kd.N_mono HO_7.out (fun _ hk => hk.1)⟩, ⟨by repeat (first | (with_reducible first | exact HB.out | apply below_alloc | apply pw_below_drewN | apply below_drew1 | refine below_set ?_ GE216.out) | exact HB.out)⟩⟩
                          · replace c24 := Bool.eq_false_iff.mpr c24
                            subst c24
                            have H1 : (model_Combine.l0 kj8 l2 x7_1 l1 (l1.length : Int) (wrap64 (x16_1 + 1))) = some r := by rw [if_neg (show ¬ (false = true) by decide)] at H; exact H
                            clear H
                            have H := H1
                            clear H1
                            have H' := Aside0.mk H
                            clear H
                            try go_wp2
                            have n0_ := Aside0.mk (Kd.N_drew HO_7.out)
                            have n1_ := Aside0.mk (blk_drew BK216.out)
                            have n2_ := Aside0.mk (below_drew1 HB.out)
                            clear HO_7
                            clear BK216
                            clear HB
                            have HO_7 := n0_
                            have BK216 := n1_
                            have HB := n2_
                            clear n0_ n1_ n2_
                            obtain ⟨Ao35, co35, eo35⟩ := Kd.N_slice HO_7.out
                            (first | subst eo35 | (injection eo35 with f1_ f2_ f3_; have f4_ := f1_.symm; have f5_ := f3_.symm; clear f1_ f2_ f3_; subst f4_; subst f5_))
                            have p217 : 0 ≤ (((rd_T76 l1 x16_1).f0) : Int) := of_decide_eq_true (by first | (with_reducible assumption) | assumption)
                            have q217 : ((rd_T76 l1 x16_1).f0) < (x7_1.length : Int) := of_decide_eq_true (by first | (with_reducible assumption) | assumption)
                            obtain ⟨ad217, A217_0, c217_0, e217, hx217_0, hl217_0, hi217_0⟩ := at_L1 (Kd.N_reads' HO_7.out).2.2 ((rd_T76 l1 x16_1).f0) p217 q217
                            cases e217
                            obtain ⟨ce217, hce217, hMe217, hcc217⟩ := Kd.N_get HO_7.out [] ((rd_T76 l1 x16_1).f0) p217 (by first | exact q217 | exact of_decide_eq_true (by first | (with_reducible assumption) | assumption) | (have e_ := (Kd.N_reads' HO_7.out).1; omega))
                            obtain ⟨ua217_0, uc217_0, rfl, ul217_0, ge217_0⟩ := Kd.FK_slice_open hMe217
                            have hv217_0 := hcc217 0 _ rfl
                            rw [Nat.add_zero, show ((Kd.slice 3 (Kd.int .i64))).sz = 1 from rfl, Nat.mul_one] at hv217_0
                            replace hv217_0 := Option.some.inj (hv217_0.symm.trans hx217_0)
                            injection hv217_0 with hva_ hvn_ hvc_
                            rw [hva_] at ge217_0
                            rw [hvc_] at ul217_0
                            have HL217_0 := Aside0.mk (show Kd.V (Kd.int .i64) 3 _ w.heap.size _ _ (rd_L1 x7_1 ((rd_T76 l1 x16_1).f0)) from Kd.V_mk ul217_0 ge217_0)
                            clear hva_ hvn_ hvc_ ge217_0 ul217_0
                            clear hcc217 hce217
                            have HR217_0 := Aside0.mk hi217_0
                            have HC217_0 := Aside0.mk hl217_0
                            clear hi217_0 hl217_0
                            replace p217 := eq_true p217
                            replace q217 := eq_true q217
                            have p218 : 0 ≤ (x16_1 : Int) := of_decide_eq_true (by first | (with_reducible assumption) | assumption)
                            have q218 : x16_1 < (l2.length : Int) := of_decide_eq_true (by first | (with_reducible assumption) | assumption)
                            obtain ⟨ad218, A218_0, c218_0, e218, hx218_0, hl218_0, hi218_0⟩ := at_L1 HR2.out x16_1 p218 q218
                            have hw218_0 := hx218_0
                            cases e218
                            replace hx218_0 := (HB.out.cell (World.block_lt_of_cell? w _ hx218_0)).trans hx218_0
                            have HR218_0 := Aside0.mk hi218_0
                            have HC218_0 := Aside0.mk hl218_0
                            clear hi218_0 hl218_0
                            replace p218 := eq_true p218
                            replace q218 := eq_true q218
                            refine start_ (n := 18) (S := fun w' => w'.cell? ⟨gb216, 0, none⟩ = some (.int .i64 ((rd_T76 l1 x16_1).f0)) ∧ w'.cell? ⟨gb216, 1, none⟩ = some (.int .i64 ((rd_T76 l1 x16_1).f1)) ∧ w'.cell? ⟨gb216, 2, none⟩ = some (.int .i64 ((rd_T76 l1 x16_1).f2)) ∧ w'.cell? ⟨gb216, 3, none⟩ = some (.int .i64 ((rd_T76 l1 x16_1).f3)) ∧ w'.cell? (ad217.add (((rd_T76 l1 x16_1).f0)).toNat) = some (.slice A217_0 (rd_L1 x7_1 ((rd_T76 l1 x16_1).f0)).length c217_0) ∧ w'.cell? (ad218.add (x16_1).toNat) = some (.slice A218_0 (rd_L1 l2 x16_1).length c218_0)) (ds := []) #[false, false, false, false, false, false, false, false, false, false, false, false, false, false, false, false, false, false] (by kernel_rfl) rfl rfl ⟨(blk_cell BK216.out 0).trans rfl, (blk_cell BK216.out 1).trans rfl, (blk_cell BK216.out 2).trans rfl, (blk_cell BK216.out 3).trans rfl, hx217_0, ((HB.out.cell (World.block_lt_of_cell? w _ hw218_0)).trans hw218_0)⟩ (fun hHeld => ?_); refine with_tabW model_Combine.tab6 model_Combine.bits6 (fun HT_ HW_ => ?_)
                            generalize wc.drew = w34 at HO_7 BK216 HB HL217_0 HR217_0 HR218_0 hx217_0 hx218_0 hHeld ⊢
                            refine pure_ (i := 0) (N := some 38) (v := ?_) (a' := ?_) #[true, false, false, false, false, false, false, false, false, false, false, false, false, false, false, false, false, false] rfl rfl (any_of HT_.out (by kernel_rfl)) (fun _ _ _ h => h) (Or.inl ⟨by rfl, ?_⟩) ?_ ?_
                            rotate_left
                            · intro w'
                              go_simp
                              with_reducible rfl
                            rotate_left
                            · simp only [Act.put, List.setIfInBounds_toArray, List.set_cons_zero, List.set_cons_succ, i64_w, i32_w]
                              rfl
                            refine pure_ (i := 1) (N := some 39) (v := ?_) (a' := ?_) #[true, true, false, false, false, false, false, false, false, false, false, false, false, false, false, false, false, false] rfl rfl (any_of HT_.out (by kernel_rfl)) (fun _ _ _ h => h) (Or.inl ⟨by rfl, ?_⟩) ?_ ?_
                            rotate_left
                            · intro w'
                              go_simp
                              with_reducible rfl
                            rotate_left
                            · simp only [Act.put, List.setIfInBounds_toArray, List.set_cons_zero, List.set_cons_succ, i64_w, i32_w]
                              rfl
                            refine pure_ (i := 5) (N := some 43) (v := ?_) (a' := ?_) #[true, true, false, false, false, true, false, false, false, false, false, false, false, false, false, false, false, false] rfl rfl (any_of HT_.out (by kernel_rfl)) (fun _ _ _ h => h) (Or.inl ⟨by rfl, ?_⟩) ?_ ?_
                            rotate_left
                            · intro w'
                              go_simp
                              with_reducible rfl
                            rotate_left
                            · simp only [Act.put, List.setIfInBounds_toArray, List.set_cons_zero, List.set_cons_succ, i64_w, i32_w]
                              rfl
                            refine pure_ (i := 6) (N := some 44) (v := ?_) (a' := ?_) #[true, true, false, false, false, true, true, false, false, false, false, false, false, false, false, false, false, false] rfl rfl (any_of HT_.out (by kernel_rfl)) (fun _ _ _ h => h) (Or.inl ⟨by rfl, ?_⟩) ?_ ?_
                            rotate_left
                            · intro w'
                              go_simp
                              with_reducible rfl
                            rotate_left
                            · simp only [Act.put, List.setIfInBounds_toArray, List.set_cons_zero, List.set_cons_succ, i64_w, i32_w]
                              rfl
                            refine pure_ (i := 7) (N := some 45) (v := ?_) (a' := ?_) #[true, true, false, false, false, true, true, true, false, false, false, false, false, false, false, false, false, false] rfl rfl (any_of HT_.out (by kernel_rfl)) (fun _ _ _ h => h) (Or.inl ⟨by rfl, ?_⟩) ?_ ?_
                            rotate_left
                            · intro w'
                              go_simp
                              with_reducible rfl
                            rotate_left
                            · simp only [Act.put, List.setIfInBounds_toArray, List.set_cons_zero, List.set_cons_succ, i64_w, i32_w]
                              rfl
                            refine pure_ (i := 9) (N := some 47) (v := ?_) (a' := ?_) #[true, true, false, false, false, true, true, true, false, true, false, false, false, false, false, false, false, false] rfl rfl (any_of HT_.out (by kernel_rfl)) (fun _ _ _ h => h) (Or.inl ⟨by rfl, ?_⟩) ?_ ?_
                            rotate_left
                            · intro w'
                              go_simp
                              with_reducible rfl
                            rotate_left
                            · simp only [Act.put, List.setIfInBounds_toArray, List.set_cons_zero, List.set_cons_succ, i64_w, i32_w]
                              rfl
                            refine take_ (i := 2) (N := some 40) (v := ?_) (a' := ?_) #[true, true, true, false, false, true, true, true, false, true, false, false, false, false, false, false, false, false] rfl rfl (take_ofW HT_.out HW_.out (by kernel_rfl)) (fun _ _ _ h => h) (Or.inl ⟨by rfl, ?_⟩) hHeld ?_ ?_
                            rotate_left
                            · rintro w' ⟨s0, s1, s2, s3, s4, s5⟩
                              go_simp
                              with_reducible rfl
                            rotate_left
                            · simp only [Act.put, List.setIfInBounds_toArray, List.set_cons_zero, List.set_cons_succ, i64_w, i32_w]
                              rfl
                            refine pure_ (i := 3) (N := some 41) (v := ?_) (a' := ?_) #[true, true, true, true, false, true, true, true, false, true, false, false, false, false, false, false, false, false] rfl rfl (any_of HT_.out (by kernel_rfl)) (fun _ _ _ h => h) (Or.inl ⟨by rfl, ?_⟩) ?_ ?_
                            rotate_left
                            · intro w'
                              go_simp
                              with_reducible rfl
                            rotate_left
                            · simp only [Act.put, List.setIfInBounds_toArray, List.set_cons_zero, List.set_cons_succ, i64_w, i32_w]
                              rfl
                            refine take_ (i := 4) (N := some 42) (v := ?_) (a' := ?_) #[true, true, true, true, true, true, true, true, false, true, false, false, false, false, false, false, false, false] rfl rfl (take_ofW HT_.out HW_.out (by kernel_rfl)) (fun _ _ _ h => h) (Or.inl ⟨by rfl, ?_⟩) hHeld ?_ ?_
                            rotate_left
                            · rintro w' ⟨s0, s1, s2, s3, s4, s5⟩
                              go_simp
                              with_reducible rfl
                            rotate_left
                            · simp only [Act.put, List.setIfInBounds_toArray, List.set_cons_zero, List.set_cons_succ, i64_w, i32_w]
                              rfl
                            refine take_ (i := 8) (N := some 46) (v := ?_) (a' := ?_) #[true, true, true, true, true, true, true, true, true, true, false, false, false, false, false, false, false, false] rfl rfl (take_ofW HT_.out HW_.out (by kernel_rfl)) (fun _ _ _ h => h) (Or.inl ⟨by rfl, ?_⟩) hHeld ?_ ?_
                            rotate_left
                            · rintro w' ⟨s0, s1, s2, s3, s4, s5⟩
                              go_simp
                              with_reducible rfl
                            rotate_left
                            · simp only [Act.put, List.setIfInBounds_toArray, List.set_cons_zero, List.set_cons_succ, i64_w, i32_w]
                              rfl
                            refine take_ (i := 10) (N := some 48) (v := ?_) (a' := ?_) #[true, true, true, true, true, true, true, true, true, true, true, false, false, false, false, false, false, false] rfl rfl (take_ofW HT_.out HW_.out (by kernel_rfl)) (fun _ _ _ h => h) (Or.inl ⟨by rfl, ?_⟩) hHeld ?_ ?_
                            rotate_left
                            · rintro w' ⟨s0, s1, s2, s3, s4, s5⟩
                              go_simp
                              with_reducible rfl
                            rotate_left
                            · simp only [Act.put, List.setIfInBounds_toArray, List.set_cons_zero, List.set_cons_succ, i64_w, i32_w]
                              rfl
                            refine one_ (i := 11) (N := some 49) #[true, true, true, true, true, true, true, true, true, true, true, true, false, false, false, false, false, false] rfl rfl (one_of HT_.out (by kernel_rfl)) (by decide) (fun K hK => ?_)
                            refine goes_ Try.func55 (by kernel_rfl) rfl #[.slice A218_0 (rd_L1 l2 x16_1).length c218_0, .int .i64 ((rd_T76 l1 x16_1).f3)] (by rfl) rfl rfl (by (try simp only [List.map_toArray, List.map_cons, List.map_nil]); first | done | rfl | (simp only [List.length_drop, List.length_take]; rfl)) ?_
                            with_reducible refine (vec_Scale.calls _ _ (rd_L1 l2 x16_1) ((rd_T76 l1 x16_1).f3) t219 _ ?side1 ?side2 A22.out).mono ?_
                            (case side1 => repeat (first | exact (Kd.C_below HR218_0.out HB.out) | (with_reducible refine Kd.C_alloc ?_ _) | (with_reducible refine Kd.C_drewN ?_ _) | (with_reducible refine Kd.C_drew ?_)))
                            (case side2 => exact HC218_0.out)
                            rintro e w36 ⟨v220, rfl, ho0, hb⟩
                            have HS4_ := (hb.cell (World.block_lt_of_cell? _ _ (hHeld.2.2.2.2.1))).trans (hHeld.2.2.2.2.1)
                            refine ⟨_, rfl, ?_⟩
                            have n0_ := Aside0.mk (Kd.N_elder' (by (with_reducible repeat (first | apply Kd.N_alloc | apply Kd.N_drewN | apply Kd.N_drew)); exact HO_7.out) (Kd.R_base ho0) hb)
                            have n1_ := Aside0.mk (Kd.V_elder' (by (with_reducible repeat (first | apply Kd.V_alloc | apply Kd.V_drewN | apply Kd.V_drew)); exact HL217_0.out) (Kd.R_base ho0) hb)
                            have n2_ := Aside0.mk (Kd.R_lower (Kd.R_newM (M := fun k_ => (w.heap.size ≤ k_)) ho0 (below_size (by repeat (first | (with_reducible first | exact HB.out | apply below_alloc | apply pw_below_drewN | apply below_drew1 | refine below_set ?_ GE216.out) | exact HB.out))) (fun k_ h_ => h_)) (below_size (by repeat (first | (with_reducible first | exact HB.out | apply below_alloc | apply pw_below_drewN | apply below_drew1 | refine below_set ?_ GE216.out) | exact HB.out))))
                            have n3_ := Aside0.mk (blk_below (g := gb216) (o := .cells #[.int .i64 ((rd_T76 l1 x16_1).f0), .int .i64 ((rd_T76 l1 x16_1).f1), .int .i64 ((rd_T76 l1 x16_1).f2), .int .i64 ((rd_T76 l1 x16_1).f3)] 76 (0, 0)) (by (with_reducible repeat (first | refine blk_drewN ?_ _ | refine blk_drew ?_ | refine blk_alloc ?_ _)); exact BK216.out) hb)
                            have n4_ := Aside0.mk (Kd.C_below (by repeat (first | (with_reducible exact HR217_0.out) | (with_reducible refine Kd.C_alloc ?_ _) | (with_reducible refine Kd.C_drewN ?_ _) | (with_reducible refine Kd.C_drew ?_) | exact HR217_0.out)) hb)
                            have n5_ := Aside0.mk (below_step (by repeat (first | (with_reducible first | exact HB.out | apply below_alloc | apply pw_below_drewN | apply below_drew1 | refine below_set ?_ GE216.out) | exact HB.out)) hb)
                            clear HO_7
                            clear HL217_0
                            clear BK216
                            clear HR217_0
                            clear HB
                            have HO_7 := n0_
                            have HL217_0 := n1_
                            have HO221 := n2_
                            have BK216 := n3_
                            have HR217_0 := n4_
                            have HB := n5_
                            clear n0_ n1_ n2_ n3_ n4_ n5_
                            (try clear hb)
                            (try clear hb2)
                            (try clear hk)
                            (try clear hi)
                            (try clear ho0)
                            obtain ⟨Ao37, co37, eo37⟩ := Kd.R_slice HO221.out
                            (first | subst eo37 | (injection eo37 with f1_ f2_ f3_; have f4_ := f1_.symm; have f5_ := f3_.symm; clear f1_ f2_ f3_; subst f4_; subst f5_))
                            refine hK.out _ _ ⟨(blk_cell BK216.out 0).trans rfl, (blk_cell BK216.out 1).trans rfl, (blk_cell BK216.out 2).trans rfl, (blk_cell BK216.out 3).trans rfl, HS4_, ((HB.out.cell (World.block_lt_of_cell? w _ hw218_0)).trans hw218_0)⟩ (fun hHeld => ?_)
                            clear hK K
                            refine norm_ (a' := ?_) ?_ ?_
                            rotate_left
                            · show Act.put _ (some 49) _ = _
                              simp only [Act.put, List.setIfInBounds_toArray, List.set_cons_zero, List.set_cons_succ, i64_w, i32_w]
                              rfl
                            refine one_ (i := 12) (N := some 50) #[true, true, true, true, true, true, true, true, true, true, true, true, true, false, false, false, false, false] rfl rfl (one_of HT_.out (by kernel_rfl)) (by decide) (fun K hK => ?_)
                            refine goes_ Try.func54 (by kernel_rfl) rfl #[.slice A217_0 (rd_L1 x7_1 ((rd_T76 l1 x16_1).f0)).length c217_0, .slice Ao37 t219.length co37] (by rfl) rfl rfl (by (try simp only [List.map_toArray, List.map_cons, List.map_nil]); first | done | rfl | (simp only [List.length_drop, List.length_take]; rfl)) ?_
                            with_reducible refine (vec_Add.calls _ _ (rd_L1 x7_1 ((rd_T76 l1 x16_1).f0)) _ _ t219 t222 false _ ?side1 ?side2 ?side3 ?side4 A23.out).mono ?_
                            (case side1 => repeat (first | exact (by repeat (first | (with_reducible exact HR217_0.out) | (with_reducible refine Kd.C_alloc ?_ _) | (with_reducible refine Kd.C_drewN ?_ _) | (with_reducible refine Kd.C_drew ?_) | exact HR217_0.out)) | (with_reducible refine Kd.C_alloc ?_ _) | (with_reducible refine Kd.C_drewN ?_ _) | (with_reducible refine Kd.C_drew ?_)))
                            (case side2 => exact HC217_0.out)
                            (case side3 => repeat (first | exact (Kd.R_reads' HO221.out).2.2 | (with_reducible refine Kd.C_alloc ?_ _) | (with_reducible refine Kd.C_drewN ?_ _) | (with_reducible refine Kd.C_drew ?_)))
                            (case side4 => exact (Kd.R_reads' HO221.out).2.1)
                            rintro e w38 ⟨v224, rfl, ho0, hb⟩
                            have HS4_ := (hb.cell (World.block_lt_of_cell? _ _ (hHeld.2.2.2.2.1))).trans (hHeld.2.2.2.2.1)
                            refine ⟨_, rfl, ?_⟩
                            have n0_ := Aside0.mk (Kd.N_elder' (by (with_reducible repeat (first | apply Kd.N_alloc | apply Kd.N_drewN | apply Kd.N_drew)); exact HO_7.out) (Kd.R_base ho0) hb)
                            have n1_ := Aside0.mk (Kd.V_elder' (by (with_reducible repeat (first | apply Kd.V_alloc | apply Kd.V_drewN | apply Kd.V_drew)); exact HL217_0.out) (Kd.R_base ho0) hb)
                            have n2_ := Aside0.mk (Kd.R_elder' (by (with_reducible repeat (first | apply Kd.R_alloc | apply Kd.R_drewN | apply Kd.R_drew)); exact HO221.out) (Kd.R_base ho0) hb)
                            have n3_ := Aside0.mk (Kd.R_lower (Kd.R_new' (Kd.R_newM (M := fun k_ => (w.heap.size ≤ k_)) ho0 (below_size (by repeat (first | (with_reducible first | exact HB.out | apply below_alloc | apply pw_below_drewN | apply below_drew1 | refine below_set ?_ GE216.out) | exact HB.out))) (fun k_ h_ => h_)) (Kd.R_lt (by (with_reducible repeat (first | apply Kd.R_alloc | apply Kd.R_drewN | apply Kd.R_drew)); exact HO221.out))) (below_size (by repeat (first | (with_reducible first | exact HB.out | apply below_alloc | apply pw_below_drewN | apply below_drew1 | refine below_set ?_ GE216.out) | exact HB.out))))
                            have n4_ := Aside0.mk (blk_below (g := gb216) (o := .cells #[.int .i64 ((rd_T76 l1 x16_1).f0), .int .i64 ((rd_T76 l1 x16_1).f1), .int .i64 ((rd_T76 l1 x16_1).f2), .int .i64 ((rd_T76 l1 x16_1).f3)] 76 (0, 0)) (by (with_reducible repeat (first | refine blk_drewN ?_ _ | refine blk_drew ?_ | refine blk_alloc ?_ _)); exact BK216.out) hb)
                            have n5_ := Aside0.mk (Kd.C_below (by repeat (first | (with_reducible exact HR217_0.out) | (with_reducible refine Kd.C_alloc ?_ _) | (with_reducible refine Kd.C_drewN ?_ _) | (with_reducible refine Kd.C_drew ?_) | exact HR217_0.out)) hb)
                            have n6_ := Aside0.mk (below_step (by repeat (first | (with_reducible first | exact HB.out | apply below_alloc | apply pw_below_drewN | apply below_drew1 | refine below_set ?_ GE216.out) | exact HB.out)) hb)
                            clear HO_7
                            clear HL217_0
                            clear HO221
                            clear BK216
                            clear HR217_0
                            clear HB
                            have HO_7 := n0_
                            have HL217_0 := n1_
                            have HO221 := n2_
                            have HO225 := n3_
                            have BK216 := n4_
                            have HR217_0 := n5_
                            have HB := n6_
                            clear n0_ n1_ n2_ n3_ n4_ n5_ n6_
                            (try clear hb)
                            (try clear hb2)
                            (try clear hk)
                            (try clear hi)
                            (try clear ho0)
                            refine hK.out _ _ ⟨(blk_cell BK216.out 0).trans rfl, (blk_cell BK216.out 1).trans rfl, (blk_cell BK216.out 2).trans rfl, (blk_cell BK216.out 3).trans rfl, HS4_, ((HB.out.cell (World.block_lt_of_cell? w _ hw218_0)).trans hw218_0)⟩ (fun hHeld => ?_)
                            clear hK K
                            refine norm_ (a' := ?_) ?_ ?_
                            rotate_left
                            · show Act.put _ (some 50) _ = _
                              simp only [Act.put, List.setIfInBounds_toArray, List.set_cons_zero, List.set_cons_succ, i64_w, i32_w]
                              rfl
                            refine pure_ (i := 13) (N := some 37) (v := ?_) (a' := ?_) #[true, true, true, true, true, true, true, true, true, true, true, true, true, true, false, false, false, false] rfl rfl (any_of HT_.out (by kernel_rfl)) (fun _ _ _ h => h) (Or.inl ⟨by rfl, ?_⟩) ?_ ?_
                            rotate_left
                            · intro w'
                              go_simp
                              with_reducible rfl
                            rotate_left
                            · simp only [Act.put, List.setIfInBounds_toArray, List.set_cons_zero, List.set_cons_succ, i64_w, i32_w]
                              rfl
                            refine pure_ (i := 14) (N := some 51) (v := ?_) (a' := ?_) #[true, true, true, true, true, true, true, true, true, true, true, true, true, true, true, false, false, false] rfl rfl (any_of HT_.out (by kernel_rfl)) (fun _ _ _ h => h) (Or.inl ⟨by rfl, ?_⟩) ?_ ?_
                            rotate_left
                            · intro w'
                              go_simp
                              with_reducible rfl
                            rotate_left
                            · simp only [Act.put, List.setIfInBounds_toArray, List.set_cons_zero, List.set_cons_succ, i64_w, i32_w]
                              rfl
                            refine pure_ (i := 15) (N := some 52) (v := ?_) (a' := ?_) #[true, true, true, true, true, true, true, true, true, true, true, true, true, true, true, true, false, false] rfl rfl (any_of HT_.out (by kernel_rfl)) (fun _ _ _ h => h) (Or.inl ⟨by rfl, ?_⟩) ?_ ?_
                            rotate_left
                            · intro w'
                              go_simp
                              with_reducible rfl
                            rotate_left
                            · simp only [Act.put, List.setIfInBounds_toArray, List.set_cons_zero, List.set_cons_succ, i64_w, i32_w]
                              rfl
                            refine pure_ (i := 16) (N := some 10) (v := ?_) (a' := ?_) #[true, true, true, true, true, true, true, true, true, true, true, true, true, true, true, true, true, false] rfl rfl (any_of HT_.out (by kernel_rfl)) (fun _ _ _ h => h) (Or.inl ⟨by rfl, ?_⟩) ?_ ?_
                            rotate_left
                            · intro w'
                              go_simp
                              with_reducible rfl
                            rotate_left
                            · simp only [Act.put, List.setIfInBounds_toArray, List.set_cons_zero, List.set_cons_succ, i64_w, i32_w]
                              rfl
                            refine pure_ (i := 17) (N := some 11) (v := ?_) (a' := ?_) #[true, true, true, true, true, true, true, true, true, true, true, true, true, true, true, true, true, true] rfl rfl (any_of HT_.out (by kernel_rfl)) (fun _ _ _ h => h) (Or.inl ⟨by rfl, ?_⟩) ?_ ?_
                            rotate_left
                            · intro w'
                              go_simp
                              with_reducible rfl
                            rotate_left
                            · simp only [Act.put, List.setIfInBounds_toArray, List.set_cons_zero, List.set_cons_succ, i64_w, i32_w]
                              rfl
                            refine done_ (done_of HT_.out (by kernel_rfl)) ?_
                            try go_wp2
                            go_roundg kj8
                            case measure => have := HK1.out; have := HJ8.out; omega
                            case rel => exact ⟨(x7_1), (wrap64 (x16_1 + 1)), (by first | rfl | (simp; done) | (simp [*]; done)), H', ⟨by have := HK1.out; have := HJ8.out; omega⟩, ⟨by (with_reducible repeat (first | apply Kd.N_alloc | apply Kd.N_drewN | apply Kd.N_drew)); exact Kd.N_mono HO_7.out (fun _ hk => hk.1.1.1)⟩, ⟨by repeat (first | (with_reducible first | exact HB.out | apply below_alloc | apply pw_below_drewN | apply below_drew1 | refine below_set ?_ GE216.out) | exact HB.out)⟩⟩
                        · rw [if_neg c21] at H
                          exact absurd H (by simp)
                      · rw [if_neg c20] at H
                        exact absurd H (by simp)
                    · rw [if_neg c19] at H
                      exact absurd H (by simp)
                  · rw [if_neg c18] at H
                    exact absurd H (by simp)
          · rw [if_neg c8] at H
            exact absurd H (by simp)
        · rw [if_neg c7] at H
          exact absurd H (by simp)
      · rw [if_neg c6] at H
        have c6b0 : decide (x16_1 < (l1.length : Int)) = false := decide_eq_false c6
        clear c6
        obtain rfl := Option.some.inj H
        go_wp2
        go_ret
        exact ⟨_, by first | rfl | (simp [errW_none, errW_some] <;> rfl) | (simp [*, errW_none, errW_some] <;> rfl), by (with_reducible repeat (first | apply Kd.N_alloc | apply Kd.N_drewN | apply Kd.N_drew)); exact HO_7.out, by repeat (first | (with_reducible first | exact HB.out | apply below_alloc | apply pw_below_drewN | apply below_drew1) | exact HB.out)⟩

end Go.Proofs.Ytfipiohchnaglaa.Pt
