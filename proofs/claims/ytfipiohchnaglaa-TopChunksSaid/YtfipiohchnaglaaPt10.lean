-- Laid by wip/xprint.py, a program of this session that runs the kit's print with some contracts given by hand; not a text of print.sh. Lean checks it.
import Derived.Test.YtfipiohchnaglaaPt0
import Derived.Test.YtfipiohchnaglaaPt4
import Derived.Test.YtfipiohchnaglaaPt7
import Derived.Test.YtfipiohchnaglaaPt8
import Derived.Test.YtfipiohchnaglaaPt9
namespace Go.Proofs.Ytfipiohchnaglaa.Pt
open Go.RowKit Go.Proofs.YtfipiohchnaglaaW.PrintWords Go.Proofs.YtfipiohchnaglaaW.PrintLast Go.Proofs.YtfipiohchnaglaaW.PrintMore
attribute [local go_sem] max2_int min2_int max_two min_two max_three min_three max_four min_four   -- for this text's walks alone
set_option linter.unusedVariables false
set_option linter.unusedSimpArgs false

/-! ### model_Forward: function 13 -/
mutual
def model_Forward.j0 : Nat → List (List Int) → Bool → Int → List (S31) → Option ((List (List Int)) × Int)
  | 0, _, _, _, _ => none
  | k + 1, x1, x22, x228000, x228001 => if x22 = true then (some (([] : List (List Int)), 1)) else (model_Forward.l0 k x1 x228001 (x228001.length : Int) 0)
def model_Forward.l0 : Nat → List (List Int) → List (S31) → Int → Int → Option ((List (List Int)) × Int)
  | 0, _, _, _, _ => none
  | k + 1, x1, x24, x25, x26 => if x26 < x25 then (if 0 ≤ x26 then (if x26 < (x24.length : Int) then ((model_Parts.f k ((rd_T31 x24 x26).f0) ((rd_T31 x24 x26).f1) ((rd_T31 x24 x26).f2) x1).bind fun t232 => (model_Forward.l1 k x1 t232 ([] : List (List Int)) x24 x25 x26 t232 (t232.length : Int) 0 ((rd_T31 x24 x26).f0) ((rd_T31 x24 x26).f1) ((rd_T31 x24 x26).f2))) else (none)) else (none)) else (some (x1, 0))
def model_Forward.l1 : Nat → List (List Int) → List (S76) → List (List Int) → List (S31) → Int → Int → List (S76) → Int → Int → List (List Int) → List (S33) → Int → Option ((List (List Int)) × Int)
  | 0, _, _, _, _, _, _, _, _, _, _, _, _ => none
  | k + 1, x1, x8, x9, x24, x25, x26, x33, x34, x35, x232000, x232001, x232002 => if x35 < x34 then (if 0 ≤ x35 then (if x35 < (x33.length : Int) then (if 0 ≤ ((rd_T76 x33 x35).f2) then (if ((rd_T76 x33 x35).f2) < (x232001.length : Int) then (if 0 ≤ ((rd_T76 x33 x35).f0) then (if ((rd_T76 x33 x35).f0) < (x1.length : Int) then ((expert_Run.f k ((rd_T33 x232001 ((rd_T76 x33 x35).f2)).f0) ((rd_T33 x232001 ((rd_T76 x33 x35).f2)).f1) (rd_L1 x1 ((rd_T76 x33 x35).f0))).bind fun bt239 => (if x9.length < 5864062014805 then (model_Forward.l1 k x1 x8 (x9 ++ [bt239.1]) x24 x25 x26 x33 x34 (wrap64 (x35 + 1)) x232000 x232001 x232002) else (none))) else (none)) else (none)) else (none)) else (none)) else (none)) else (none)) else ((model_Combine.f k x1 x8 x9).bind fun t246 => (model_Forward.l0 k t246 x24 x25 (wrap64 (x26 + 1))))
end
def model_Forward.f (k : Nat) (a0_0 : Int) (l0_1 : List (S31)) (l1 : List (List Int)) : Option ((List (List Int)) × Int) := (model_Right.f a0_0 l0_1).bind fun t228 => (if t228 = true then ((model_Tokens.f a0_0 l0_1 l1).bind fun t229 => (model_Forward.j0 k l1 (!t229) a0_0 l0_1)) else (model_Forward.j0 k l1 true a0_0 l0_1))
theorem model_Forward.mono_l : ∀ k, (∀ y0 y1 y2 y3, LeO (model_Forward.j0 k y0 y1 y2 y3) (model_Forward.j0 (k + 1) y0 y1 y2 y3)) ∧ (∀ y0 y1 y2 y3, LeO (model_Forward.l0 k y0 y1 y2 y3) (model_Forward.l0 (k + 1) y0 y1 y2 y3)) ∧ (∀ y0 y1 y2 y3 y4 y5 y6 y7 y8 y9 y10 y11, LeO (model_Forward.l1 k y0 y1 y2 y3 y4 y5 y6 y7 y8 y9 y10 y11) (model_Forward.l1 (k + 1) y0 y1 y2 y3 y4 y5 y6 y7 y8 y9 y10 y11))
  | 0 => ⟨fun _ _ _ _ r h => by simp [model_Forward.j0] at h, fun _ _ _ _ r h => by simp [model_Forward.l0] at h, fun _ _ _ _ _ _ _ _ _ _ _ _ r h => by simp [model_Forward.l1] at h⟩
  | k + 1 => by
    obtain ⟨ih0, ih1, ih2⟩ := model_Forward.mono_l k
    refine ⟨?_, ?_, ?_⟩
    · intro y0 y1 y2 y3
      unfold model_Forward.j0
      repeat' first
      | (with_reducible exact ih0 _ _ _ _)
      | (with_reducible exact ih1 _ _ _ _)
      | (with_reducible exact ih2 _ _ _ _ _ _ _ _ _ _ _ _)
      | (with_reducible exact expert_Run.mono _ _ _ _)
      | (with_reducible exact model_Combine.mono _ _ _ _)
      | (with_reducible exact model_Parts.mono _ _ _ _ _)
      | (with_reducible exact LeO.refl _)
      | (with_reducible exact LeO.none _)
      | (with_reducible refine LeO.ite ?_ ?_)
      | (with_reducible refine LeO.bind ?_ (fun _ => ?_))
      | exact ih0 _ _ _ _
      | exact ih1 _ _ _ _
      | exact ih2 _ _ _ _ _ _ _ _ _ _ _ _
      | exact expert_Run.mono _ _ _ _
      | exact model_Combine.mono _ _ _ _
      | exact model_Parts.mono _ _ _ _ _
      | exact LeO.none _
      | refine LeO.ite ?_ ?_
      | refine LeO.bind ?_ (fun _ => ?_)
    · intro y0 y1 y2 y3
      unfold model_Forward.l0
      repeat' first
      | (with_reducible exact ih0 _ _ _ _)
      | (with_reducible exact ih1 _ _ _ _)
      | (with_reducible exact ih2 _ _ _ _ _ _ _ _ _ _ _ _)
      | (with_reducible exact expert_Run.mono _ _ _ _)
      | (with_reducible exact model_Combine.mono _ _ _ _)
      | (with_reducible exact model_Parts.mono _ _ _ _ _)
      | (with_reducible exact LeO.refl _)
      | (with_reducible exact LeO.none _)
      | (with_reducible refine LeO.ite ?_ ?_)
      | (with_reducible refine LeO.bind ?_ (fun _ => ?_))
      | exact ih0 _ _ _ _
      | exact ih1 _ _ _ _
      | exact ih2 _ _ _ _ _ _ _ _ _ _ _ _
      | exact expert_Run.mono _ _ _ _
      | exact model_Combine.mono _ _ _ _
      | exact model_Parts.mono _ _ _ _ _
      | exact LeO.none _
      | refine LeO.ite ?_ ?_
      | refine LeO.bind ?_ (fun _ => ?_)
    · intro y0 y1 y2 y3 y4 y5 y6 y7 y8 y9 y10 y11
      unfold model_Forward.l1
      repeat' first
      | (with_reducible exact ih0 _ _ _ _)
      | (with_reducible exact ih1 _ _ _ _)
      | (with_reducible exact ih2 _ _ _ _ _ _ _ _ _ _ _ _)
      | (with_reducible exact expert_Run.mono _ _ _ _)
      | (with_reducible exact model_Combine.mono _ _ _ _)
      | (with_reducible exact model_Parts.mono _ _ _ _ _)
      | (with_reducible exact LeO.refl _)
      | (with_reducible exact LeO.none _)
      | (with_reducible refine LeO.ite ?_ ?_)
      | (with_reducible refine LeO.bind ?_ (fun _ => ?_))
      | exact ih0 _ _ _ _
      | exact ih1 _ _ _ _
      | exact ih2 _ _ _ _ _ _ _ _ _ _ _ _
      | exact expert_Run.mono _ _ _ _
      | exact model_Combine.mono _ _ _ _
      | exact model_Parts.mono _ _ _ _ _
      | exact LeO.none _
      | refine LeO.ite ?_ ?_
      | refine LeO.bind ?_ (fun _ => ?_)
theorem model_Forward.mono : ∀ a0 a1 a2 k, LeO (model_Forward.f k a0 a1 a2) (model_Forward.f (k + 1) a0 a1 a2) := by
  intro a0 a1 a2 k
  obtain ⟨ih0, ih1, ih2⟩ := model_Forward.mono_l k
  unfold model_Forward.f
  repeat' first
      | (with_reducible exact ih0 _ _ _ _)
      | (with_reducible exact ih1 _ _ _ _)
      | (with_reducible exact ih2 _ _ _ _ _ _ _ _ _ _ _ _)
      | (with_reducible exact expert_Run.mono _ _ _ _)
      | (with_reducible exact model_Combine.mono _ _ _ _)
      | (with_reducible exact model_Parts.mono _ _ _ _ _)
      | (with_reducible exact LeO.refl _)
      | (with_reducible exact LeO.none _)
      | (with_reducible refine LeO.ite ?_ ?_)
      | (with_reducible refine LeO.bind ?_ (fun _ => ?_))
      | exact ih0 _ _ _ _
      | exact ih1 _ _ _ _
      | exact ih2 _ _ _ _ _ _ _ _ _ _ _ _
      | exact expert_Run.mono _ _ _ _
      | exact model_Combine.mono _ _ _ _
      | exact model_Parts.mono _ _ _ _ _
      | exact LeO.none _
      | refine LeO.ite ?_ ?_
      | refine LeO.bind ?_ (fun _ => ?_)
def model_Forward.T11 : Bool × List (List Nat × List Nat) := (true, [([], []), ([0], [0]), ([], []), ([2], [2]), ([1, 3], [1, 3]), ([4], [4]), ([], []), ([], []), ([7], [7]), ([6, 8], [6, 8]), ([9], [9]), ([5, 10], [5, 10]), ([11], [11]), ([12], [12]), ([12], [12]), ([13, 11, 0, 1, 2, 3, 4, 5, 6, 7, 8, 9, 10, 11, 12, 13], [13]), ([14, 15, 0, 1, 2, 3, 4, 5, 6, 7, 8, 9, 10, 11, 12, 13, 14, 15], [14])])
def model_Forward.B11 : List Nat := [0, 1, 0, 4, 15, 31, 0, 0, 128, 448, 960, 2047, 4095, 8191, 8191, 16383, 65535]
theorem model_Forward.tab11 : rtab .any (opsOf Try.f13 11) = model_Forward.T11 := by kernel_rfl
theorem model_Forward.bits11 : waitsOk model_Forward.T11.2 model_Forward.B11 = true := by kernel_rfl
set_option maxHeartbeats 8000000 in
set_option maxRecDepth 100000 in
theorem model_Forward.calls (k : Nat) (a0_0 : Int) (A0_1 : Option Addr) (c0_1 : Nat) (l0_1 : List (S31)) (P1_ : Nat → Prop) (A1 : Option Addr) (c1 : Nat) (l1 : List (List Int)) (r1 : List (List Int)) (r2 : Int) (w : World) (hr0_1 : Kd.C k31 w A0_1 l0_1.length l0_1) (hc0_1 : l0_1.length ≤ c0_1) (hs1 : Kd.V (Kd.slice 3 (Kd.int .i64)) 54 w w.heap.size (fun k_ => P1_ k_) (.slice A1 l1.length c1) l1) (h : model_Forward.f k a0_0 l0_1 l1 = some (r1, r2)) :
    Calls Try.prog 13 #[.agg #[.int .i64 a0_0, .slice A0_1 l0_1.length c0_1], .slice A1 l1.length c1] w fun e w' => ∃ v0_ : Value, e = .returned (.tuple #[v0_, .int .i64 r2]) ∧ Kd.V (Kd.slice 3 (Kd.int .i64)) 54 w' w.heap.size (fun k_ => (P1_ k_ ∨ w.heap.size ≤ k_)) v0_ r1 ∧ Below w.heap.size w w' := by
  have hu24 := Try.underlying24
  have hu31 := Try.underlying31
  have hu76 := Try.underlying76
  have hu33 := Try.underlying33
  have HR0_1 := Aside0.mk hr0_1
  have HC0_1 := Aside0.mk hc0_1
  clear hr0_1 hc0_1
  have HO1 := Aside0.mk (show Kd.V (Kd.slice 3 (Kd.int .i64)) 54 w w.heap.size (fun k_ => (P1_ k_ ∨ w.heap.size ≤ k_)) (.slice A1 l1.length c1) l1 from Kd.V_mono hs1 (fun k_ hk => .inl hk))
  have HB := Aside0.mk (Below.refl w.heap.size w)
  have H : ((model_Right.f a0_0 l0_1).bind fun t228 => (if t228 = true then ((model_Tokens.f a0_0 l0_1 l1).bind fun t229 => (model_Forward.j0 k l1 (!t229) a0_0 l0_1)) else (model_Forward.j0 k l1 true a0_0 l0_1))) = some (r1, r2) := h
  clear h
  have HC3 := Aside0.mk H
  clear H
  go_enter Try.func13, Try.ntmps13
  go_upto_region 1 with (first | ((with_reducible refine gate_dst (N := 2) rfl ?_); refine box_event ?hg (N := 2) ?hd (cs := #[.int .i64 a0_0, .slice A0_1 l0_1.length c0_1]) (t := 24) ?hr ?_; (case hd => rfl); (case hg => rfl); (case hr => first | (go_simp; done) | (go_simp; rfl)); intro gb227 hg w4 hbox hb; have n0_ := Aside0.mk (Kd.V_below (Kd.V_elderB (by (with_reducible repeat (first | apply Kd.V_alloc | apply Kd.V_drewN | apply Kd.V_drew)); exact HO1.out) gb227 (Nat.le_of_eq hg.symm)) hb); have n1_ := Aside0.mk (below_step (by repeat (first | (with_reducible first | exact HB.out | apply below_alloc | apply pw_below_drewN | apply below_drew1) | exact HB.out)) hb); have n2_ := Aside0.mk (hbox); have n3_ := Aside0.mk ((by rw [hg]; exact (below_size (by repeat (first | (with_reducible first | exact HB.out | apply below_alloc | apply pw_below_drewN | apply below_drew1) | exact HB.out))) : w.heap.size ≤ gb227)); have n4_ := Aside0.mk ((by rw [hg]; exact (below_size (by repeat (first | (with_reducible first | exact HB.out | apply below_alloc | apply pw_below_drewN | apply below_drew1) | exact HB.out))) : w.heap.size ≤ gb227)); clear HO1; clear HB; have HO1 := n0_; have HB := n1_; have BK227 := n2_; have GW227 := n3_; have GE227 := n4_; clear n0_ n1_ n2_ n3_ n4_; clear hb hbox hg))
  (try simp only [Act.put, List.setIfInBounds_toArray, List.set_cons_zero, List.set_cons_succ])
  go_cut [22] (fun v22 wc => ∃ (kq : Nat) (x22_2 : Bool), v22 = .bool x22_2 ∧ Aside0 (model_Forward.j0 kq l1 x22_2 a0_0 l0_1 = some (r1, r2)) ∧ Aside0 (kq ≤ k) ∧ Aside0 (Kd.V (Kd.slice 3 (Kd.int .i64)) 54 wc w.heap.size (fun k_ => (P1_ k_ ∨ w.heap.size ≤ k_) ∧ k_ ≠ gb227) (.slice A1 l1.length c1) l1) ∧ Aside0 (wc.heap[gb227]? = some (.cells #[.int .i64 a0_0, (.slice A0_1 l0_1.length c0_1)] 24 (0, 0))) ∧ Aside0 (Below w.heap.size w wc))
  case first =>
    have H := HC3.out
    clear HC3
    replace H := Option.bind_eq_some_iff.mp H
    obtain ⟨t228, A50, H⟩ := H
    replace H : (if t228 = true then ((model_Tokens.f a0_0 l0_1 l1).bind fun t229 => (model_Forward.j0 k l1 (!t229) a0_0 l0_1)) else (model_Forward.j0 k l1 true a0_0 l0_1)) = some (r1, r2) := H
    have A5 := Aside0.mk A50
    clear A50
    by_cases c6 : t228 = true
    · subst c6
      have H1 : ((model_Tokens.f a0_0 l0_1 l1).bind fun t229 => (model_Forward.j0 k l1 (!t229) a0_0 l0_1)) = some (r1, r2) := by rw [if_pos rfl] at H; exact H
      clear H
      have H := H1
      clear H1
      replace H := Option.bind_eq_some_iff.mp H
      obtain ⟨t229, A70, H⟩ := H
      replace H : (model_Forward.j0 k l1 (!t229) a0_0 l0_1) = some (r1, r2) := H
      have A7 := Aside0.mk A70
      clear A70
      have H' := Aside0.mk H
      clear H
      have hcz8_0 : w4.cell? ⟨gb227, 0, none⟩ = some (.int .i64 a0_0) := (blk_cell BK227.out 0).trans rfl
      have hcz8_1 : w4.cell? ⟨gb227, 1, none⟩ = some (.slice A0_1 l0_1.length c0_1) := (blk_cell BK227.out 1).trans rfl
      have hfz8_0 := blk_frozen BK227.out 0
      have hfz8_1 := blk_frozen BK227.out 1
      go_wp2_with (first | ((with_reducible refine gate_callee (f := 27) rfl ?_); refine goesL_ (some 15) rfl rfl Try.func27 (by kernel_rfl) rfl #[.agg #[.int .i64 a0_0, .slice A0_1 l0_1.length c0_1]] rfl (by (try simp only [List.map_toArray, List.map_cons, List.map_nil]); first | done | rfl | (simp only [List.length_drop, List.length_take]; rfl)) ?_; (with_reducible refine (model_Right.calls a0_0 _ _ l0_1 true _ ?side1 ?side2 A5.out).mono ?_); (case side1 => repeat (first | exact (Kd.C_below HR0_1.out HB.out) | (with_reducible refine Kd.C_alloc ?_ _) | (with_reducible refine Kd.C_drewN ?_ _) | (with_reducible refine Kd.C_drew ?_))); (case side2 => exact HC0_1.out); rintro e w9 ⟨rfl, hb⟩; refine ⟨_, rfl, ?_⟩; have n0_ := Aside0.mk (Kd.V_below (by (with_reducible repeat (first | apply Kd.V_alloc | apply Kd.V_drewN | apply Kd.V_drew)); exact HO1.out) hb); have n1_ := Aside0.mk (blk_below (g := gb227) (o := .cells #[.int .i64 a0_0, .slice A0_1 l0_1.length c0_1] 24 (0, 0)) (by (with_reducible repeat (first | refine blk_drewN ?_ _ | refine blk_drew ?_ | refine blk_alloc ?_ _)); exact BK227.out) hb); have n2_ := Aside0.mk (below_step (by repeat (first | (with_reducible first | exact HB.out | apply below_alloc | apply pw_below_drewN | apply below_drew1 | refine below_set ?_ GE227.out) | exact HB.out)) hb); clear HO1; clear BK227; clear HB; have HO1 := n0_; have BK227 := n1_; have HB := n2_; clear n0_ n1_ n2_; (try clear hb); (try clear hb2); (try clear hk); (try clear hi); have hcz10_0 : w9.cell? ⟨gb227, 0, none⟩ = some (.int .i64 a0_0) := (blk_cell BK227.out 0).trans rfl; have hcz10_1 : w9.cell? ⟨gb227, 1, none⟩ = some (.slice A0_1 l0_1.length c0_1) := (blk_cell BK227.out 1).trans rfl; have hfz10_0 := blk_frozen BK227.out 0; have hfz10_1 := blk_frozen BK227.out 1) | (go_at_call 28; (with_reducible refine (model_Tokens.calls a0_0 _ _ l0_1 _ _ l1 t229 _ ?side1 ?side2 ?side3 ?side4 A7.out).mono ?_); (case side1 => repeat (first | exact (Kd.C_below HR0_1.out HB.out) | (with_reducible refine Kd.C_alloc ?_ _) | (with_reducible refine Kd.C_drewN ?_ _) | (with_reducible refine Kd.C_drew ?_))); (case side2 => exact HC0_1.out); (case side3 => repeat (first | exact (Kd.V_reads' HO1.out).2.2 | (with_reducible refine Kd.C_alloc ?_ _) | (with_reducible refine Kd.C_drewN ?_ _) | (with_reducible refine Kd.C_drew ?_))); (case side4 => exact (Kd.V_reads' HO1.out).2.1); rintro e w11 ⟨rfl, hb⟩; have n0_ := Aside0.mk (Kd.V_below (by (with_reducible repeat (first | apply Kd.V_alloc | apply Kd.V_drewN | apply Kd.V_drew)); exact HO1.out) hb); have n1_ := Aside0.mk (blk_below (g := gb227) (o := .cells #[.int .i64 a0_0, .slice A0_1 l0_1.length c0_1] 24 (0, 0)) (by (with_reducible repeat (first | refine blk_drewN ?_ _ | refine blk_drew ?_ | refine blk_alloc ?_ _)); exact BK227.out) hb); have n2_ := Aside0.mk (below_step (by repeat (first | (with_reducible first | exact HB.out | apply below_alloc | apply pw_below_drewN | apply below_drew1 | refine below_set ?_ GE227.out) | exact HB.out)) hb); clear HO1; clear BK227; clear HB; have HO1 := n0_; have BK227 := n1_; have HB := n2_; clear n0_ n1_ n2_; (try clear hb); (try clear hb2); (try clear hk); (try clear hi)))
      go_meet
      case rel => exact ⟨_, (!t229), (by first | rfl | (simp; done) | (simp [*]; done)), H', ⟨by first | omega | exact Nat.le_refl _⟩, ⟨by (with_reducible repeat (first | apply Kd.V_alloc | apply Kd.V_drewN | apply Kd.V_drew)); exact HO1.out⟩, ⟨by (with_reducible repeat (first | refine blk_drewN ?_ _ | refine blk_drew ?_ | refine blk_alloc ?_ _)); exact BK227.out⟩, ⟨by repeat (first | (with_reducible first | exact HB.out | apply below_alloc | apply pw_below_drewN | apply below_drew1 | refine below_set ?_ GE227.out) | exact HB.out)⟩⟩
    · replace c6 := Bool.eq_false_iff.mpr c6
      subst c6
      have H1 : (model_Forward.j0 k l1 true a0_0 l0_1) = some (r1, r2) := by rw [if_neg (show ¬ (false = true) by decide)] at H; exact H
      clear H
      have H := H1
      clear H1
      have H' := Aside0.mk H
      clear H
      have hcz12_0 : w4.cell? ⟨gb227, 0, none⟩ = some (.int .i64 a0_0) := (blk_cell BK227.out 0).trans rfl
      have hcz12_1 : w4.cell? ⟨gb227, 1, none⟩ = some (.slice A0_1 l0_1.length c0_1) := (blk_cell BK227.out 1).trans rfl
      have hfz12_0 := blk_frozen BK227.out 0
      have hfz12_1 := blk_frozen BK227.out 1
      go_wp2_with (first | ((with_reducible refine gate_callee (f := 27) rfl ?_); refine goesL_ (some 15) rfl rfl Try.func27 (by kernel_rfl) rfl #[.agg #[.int .i64 a0_0, .slice A0_1 l0_1.length c0_1]] rfl (by (try simp only [List.map_toArray, List.map_cons, List.map_nil]); first | done | rfl | (simp only [List.length_drop, List.length_take]; rfl)) ?_; (with_reducible refine (model_Right.calls a0_0 _ _ l0_1 false _ ?side1 ?side2 A5.out).mono ?_); (case side1 => repeat (first | exact (Kd.C_below HR0_1.out HB.out) | (with_reducible refine Kd.C_alloc ?_ _) | (with_reducible refine Kd.C_drewN ?_ _) | (with_reducible refine Kd.C_drew ?_))); (case side2 => exact HC0_1.out); rintro e w13 ⟨rfl, hb⟩; refine ⟨_, rfl, ?_⟩; have n0_ := Aside0.mk (Kd.V_below (by (with_reducible repeat (first | apply Kd.V_alloc | apply Kd.V_drewN | apply Kd.V_drew)); exact HO1.out) hb); have n1_ := Aside0.mk (blk_below (g := gb227) (o := .cells #[.int .i64 a0_0, .slice A0_1 l0_1.length c0_1] 24 (0, 0)) (by (with_reducible repeat (first | refine blk_drewN ?_ _ | refine blk_drew ?_ | refine blk_alloc ?_ _)); exact BK227.out) hb); have n2_ := Aside0.mk (below_step (by repeat (first | (with_reducible first | exact HB.out | apply below_alloc | apply pw_below_drewN | apply below_drew1 | refine below_set ?_ GE227.out) | exact HB.out)) hb); clear HO1; clear BK227; clear HB; have HO1 := n0_; have BK227 := n1_; have HB := n2_; clear n0_ n1_ n2_; (try clear hb); (try clear hb2); (try clear hk); (try clear hi)))
      go_meet
      case rel => exact ⟨_, (true), (by first | rfl | (simp; done) | (simp [*]; done)), H', ⟨by first | omega | exact Nat.le_refl _⟩, ⟨by (with_reducible repeat (first | apply Kd.V_alloc | apply Kd.V_drewN | apply Kd.V_drew)); exact HO1.out⟩, ⟨by (with_reducible repeat (first | refine blk_drewN ?_ _ | refine blk_drew ?_ | refine blk_alloc ?_ _)); exact BK227.out⟩, ⟨by repeat (first | (with_reducible first | exact HB.out | apply below_alloc | apply pw_below_drewN | apply below_drew1 | refine below_set ?_ GE227.out) | exact HB.out)⟩⟩
  case rest =>
    clear HC3
    try clear c1
    try clear c2
    try clear p2
    try clear c6
    try clear c13
    try clear hcz10_0
    try clear hcz10_1
    try clear hcz12_0
    try clear hcz12_1
    try clear hcz8_0
    try clear hcz8_1
    try clear hfz10_0
    try clear hfz10_1
    try clear hfz12_0
    try clear hfz12_1
    try clear hfz8_0
    try clear hfz8_1
    obtain ⟨kq, x22_2, rfl, HA, HJ2, HO_1, BK227, HB⟩ := hcut
    cases kq with
    | zero => exact absurd HA.out (by simp [model_Forward.j0])
    | succ kj2 =>
      have H := HA.out
      clear HA
      simp only [model_Forward.j0] at H
      by_cases c14 : x22_2 = true
      · subst c14
        have H1 : (some (([] : List (List Int)), 1)) = some (r1, r2) := by rw [if_pos rfl] at H; exact H
        clear H
        have H := H1
        clear H1
        simp only [Option.some.injEq, Prod.mk.injEq] at H
        obtain ⟨rfl, rfl⟩ := H
        go_wp2
        go_ret2
        exact ⟨_, by first | rfl | (simp [errW_none, errW_some] <;> rfl) | (simp [*, errW_none, errW_some] <;> rfl), Kd.V_nil _ _ _ _ _, by repeat (first | (with_reducible first | exact HB.out | apply below_alloc | apply pw_below_drewN | apply below_drew1 | refine below_set ?_ GE227.out) | exact HB.out)⟩
      · replace c14 := Bool.eq_false_iff.mpr c14
        subst c14
        have H1 : (model_Forward.l0 kj2 l1 l0_1 (l0_1.length : Int) 0) = some (r1, r2) := by rw [if_neg (show ¬ (false = true) by decide)] at H; exact H
        clear H
        have H := H1
        clear H1
        have H' := Aside0.mk H
        clear H
        have hcz15_0 : wc.cell? ⟨gb227, 0, none⟩ = some (.int .i64 a0_0) := (blk_cell BK227.out 0).trans rfl
        have hcz15_1 : wc.cell? ⟨gb227, 1, none⟩ = some (.slice A0_1 l0_1.length c0_1) := (blk_cell BK227.out 1).trans rfl
        have hfz15_0 := blk_frozen BK227.out 0
        have hfz15_1 := blk_frozen BK227.out 1
        go_wp2
        go_loopg [1, 26] kj2 (fun kq v1 v26 w' => ∃ (x1_2 : List (List Int)) (x26_2 : Int), v26 = .int .i64 x26_2 ∧ Aside0 (model_Forward.l0 kq x1_2 l0_1 (l0_1.length : Int) x26_2 = some (r1, r2)) ∧ Aside0 (kq ≤ kj2) ∧ Aside0 (Kd.V (Kd.slice 3 (Kd.int .i64)) 54 w' w.heap.size (fun k_ => (P1_ k_ ∨ w.heap.size ≤ k_) ∧ k_ ≠ gb227) v1 x1_2) ∧ Aside0 (w'.heap[gb227]? = some (.cells #[.int .i64 a0_0, (.slice A0_1 l0_1.length c0_1)] 24 (0, 0))) ∧ Aside0 (Below w.heap.size w w'))
        case atStart => exact ⟨(l1), (0), (by first | rfl | (simp; done) | (simp [*]; done)), H', ⟨Nat.le_refl _⟩, ⟨by (with_reducible repeat (first | apply Kd.V_alloc | apply Kd.V_drewN | apply Kd.V_drew)); exact HO_1.out⟩, ⟨by (with_reducible repeat (first | refine blk_drewN ?_ _ | refine blk_drew ?_ | refine blk_alloc ?_ _)); exact BK227.out⟩, ⟨by repeat (first | (with_reducible first | exact HB.out | apply below_alloc | apply pw_below_drewN | apply below_drew1 | refine below_set ?_ GE227.out) | exact HB.out)⟩⟩
        case round =>
          clear H'
          try clear c1
          try clear c2
          try clear p2
          try clear c6
          try clear c13
          try clear c14
          try clear hcz10_0
          try clear hcz10_1
          try clear hcz12_0
          try clear hcz12_1
          try clear hcz15_0
          try clear hcz15_1
          try clear hcz8_0
          try clear hcz8_1
          try clear hfz10_0
          try clear hfz10_1
          try clear hfz12_0
          try clear hfz12_1
          try clear hfz15_0
          try clear hfz15_1
          try clear hfz8_0
          try clear hfz8_1
          try clear p2
          obtain ⟨x1_2, x26_2, rfl, HA, HK2, HO_1, BK227, HB⟩ := hrel
          cases gk with
          | zero => exact absurd HA.out (by simp [model_Forward.l0])
          | succ k2 =>
            have H := HA.out
            clear HA
            simp only [model_Forward.l0] at H
            by_cases c16 : x26_2 < (l0_1.length : Int)
            · rw [if_pos c16] at H
              have c16b0 : decide (x26_2 < (l0_1.length : Int)) = true := decide_eq_true c16
              clear c16
              by_cases c17 : 0 ≤ x26_2
              · rw [if_pos c17] at H
                have c17b0 : decide (0 ≤ x26_2) = true := decide_eq_true c17
                clear c17
                by_cases c18 : x26_2 < (l0_1.length : Int)
                · rw [if_pos c18] at H
                  have c18b0 : decide (x26_2 < (l0_1.length : Int)) = true := decide_eq_true c18
                  clear c18
                  replace H := Option.bind_eq_some_iff.mp H
                  obtain ⟨t232, A190, H⟩ := H
                  replace H : (model_Forward.l1 k2 x1_2 t232 ([] : List (List Int)) l0_1 (l0_1.length : Int) x26_2 t232 (t232.length : Int) 0 ((rd_T31 l0_1 x26_2).f0) ((rd_T31 l0_1 x26_2).f1) ((rd_T31 l0_1 x26_2).f2)) = some (r1, r2) := H
                  have A19 := Aside0.mk A190
                  clear A190
                  have H' := Aside0.mk H
                  clear H
                  have p230 : 0 ≤ (x26_2 : Int) := of_decide_eq_true (by first | (with_reducible assumption) | assumption)
                  have q230 : x26_2 < (l0_1.length : Int) := of_decide_eq_true (by first | (with_reducible assumption) | assumption)
                  obtain ⟨ad230, A230_0, c230_0, A230_1, c230_1, e230, hx230_0, hx230_1, hx230_2, hl230_0, hi230_0, hl230_1, hi230_1⟩ := at_T31 HR0_1.out x26_2 p230 q230
                  cases e230
                  replace hx230_0 := (HB.out.cell (World.block_lt_of_cell? w _ hx230_0)).trans hx230_0
                  replace hx230_1 := (HB.out.cell (World.block_lt_of_cell? w _ hx230_1)).trans hx230_1
                  replace hx230_2 := (HB.out.cell (World.block_lt_of_cell? w _ hx230_2)).trans hx230_2
                  have HR230_0 := Aside0.mk hi230_0
                  have HC230_0 := Aside0.mk hl230_0
                  clear hi230_0 hl230_0
                  have HR230_1 := Aside0.mk hi230_1
                  have HC230_1 := Aside0.mk hl230_1
                  clear hi230_1 hl230_1
                  replace p230 := eq_true p230
                  replace q230 := eq_true q230
                  go_wp2_with (first | ((with_reducible refine gate_dst (N := 7) rfl ?_); refine box_event ?hg (N := 7) ?hd (cs := #[.slice none 0 0, .slice none 0 0, .int .i64 0]) (t := 31) ?hr ?_; (case hd => rfl); (case hg => rfl); (case hr => first | (go_simp; done) | (go_simp; rfl)); intro gb231 hg w20 hbox hb; have n0_ := Aside0.mk (Kd.V_below (Kd.V_elderB (by (with_reducible repeat (first | apply Kd.V_alloc | apply Kd.V_drewN | apply Kd.V_drew)); exact HO_1.out) gb231 (Nat.le_of_eq hg.symm)) hb); have n1_ := Aside0.mk (blk_below (g := gb227) (o := .cells #[.int .i64 a0_0, .slice (some ad230) l0_1.length c0_1] 24 (0, 0)) (by (with_reducible repeat (first | refine blk_drewN ?_ _ | refine blk_drew ?_ | refine blk_alloc ?_ _)); exact BK227.out) hb); have n2_ := Aside0.mk (below_step (by repeat (first | (with_reducible first | exact HB.out | apply below_alloc | apply pw_below_drewN | apply below_drew1 | refine below_set ?_ GE227.out) | exact HB.out)) hb); have n3_ := Aside0.mk (hbox); have n4_ := Aside0.mk ((by rw [hg]; exact (below_size (by repeat (first | (with_reducible first | exact HB.out | apply below_alloc | apply pw_below_drewN | apply below_drew1 | refine below_set ?_ GE227.out) | exact HB.out))) : w.heap.size ≤ gb231)); have n5_ := Aside0.mk ((by rw [hg]; exact (below_size (by repeat (first | (with_reducible first | exact HB.out | apply below_alloc | apply pw_below_drewN | apply below_drew1 | refine below_set ?_ GE227.out) | exact HB.out))) : w.heap.size ≤ gb231)); have n6_ := Aside0.mk ((by rw [hg]; exact Nat.ne_of_lt (blk_lt (g := gb227) (o := .cells #[.int .i64 a0_0, .slice (some ad230) l0_1.length c0_1] 24 (0, 0)) (by (with_reducible repeat (first | refine blk_drewN ?_ _ | refine blk_drew ?_ | refine blk_alloc ?_ _)); exact BK227.out)) : gb227 ≠ gb231)); have n7_ := Aside0.mk ((by rw [hg]; exact Nat.ne_of_gt (blk_lt (g := gb227) (o := .cells #[.int .i64 a0_0, .slice (some ad230) l0_1.length c0_1] 24 (0, 0)) (by (with_reducible repeat (first | refine blk_drewN ?_ _ | refine blk_drew ?_ | refine blk_alloc ?_ _)); exact BK227.out)) : gb231 ≠ gb227)); clear HO_1; clear BK227; clear HB; have HO_1 := n0_; have BK227 := n1_; have HB := n2_; have BK231 := n3_; have GW231 := n4_; have GE231 := n5_; have NB227_231 := n6_; have NB231_227 := n7_; clear n0_ n1_ n2_ n3_ n4_ n5_ n6_ n7_; clear hb hbox hg; have hnb21 := NB231_227.out; have hnc21 := NB227_231.out; have hcz22_0 : w20.cell? ⟨gb231, 0, none⟩ = some (.slice none 0 0) := (blk_cell BK231.out 0).trans rfl; have hcz22_1 : w20.cell? ⟨gb231, 1, none⟩ = some (.slice none 0 0) := (blk_cell BK231.out 1).trans rfl; have hcz22_2 : w20.cell? ⟨gb231, 2, none⟩ = some (.int .i64 0) := (blk_cell BK231.out 2).trans rfl; have hfz22_0 := blk_frozen BK231.out 0; have hfz22_1 := blk_frozen BK231.out 1; have hfz22_2 := blk_frozen BK231.out 2; obtain ⟨Ao23, co23, eo23⟩ := Kd.V_slice HO_1.out; subst eo23) | ((with_reducible refine gate_callee (f := 29) rfl ?_); refine goesL_ (some 32) rfl rfl Try.func29 (by kernel_rfl) rfl #[.agg #[.slice A230_0 ((rd_T31 l0_1 x26_2).f0).length c230_0, .slice A230_1 ((rd_T31 l0_1 x26_2).f1).length c230_1, .int .i64 ((rd_T31 l0_1 x26_2).f2)], .slice Ao23 x1_2.length co23] rfl (by (try simp only [List.map_toArray, List.map_cons, List.map_nil]); first | done | rfl | (simp only [List.length_drop, List.length_take]; rfl)) ?_; (with_reducible refine (model_Parts.calls k2 _ _ ((rd_T31 l0_1 x26_2).f0) _ _ ((rd_T31 l0_1 x26_2).f1) ((rd_T31 l0_1 x26_2).f2) _ _ x1_2 t232 _ ?side1 ?side2 ?side3 ?side4 ?side5 ?side6 A19.out).mono ?_); (case side1 => exact Kd.C_below HR230_0.out (by repeat (first | (with_reducible first | exact HB.out | apply below_alloc | apply pw_below_drewN | apply below_drew1 | refine below_set ?_ GE227.out | refine below_set ?_ GE231.out) | exact HB.out))); (case side2 => exact HC230_0.out); (case side3 => exact Kd.C_below HR230_1.out (by repeat (first | (with_reducible first | exact HB.out | apply below_alloc | apply pw_below_drewN | apply below_drew1 | refine below_set ?_ GE227.out | refine below_set ?_ GE231.out) | exact HB.out))); (case side4 => exact HC230_1.out); (case side5 => refine (Kd.V_reads' (e := 54) (base := w.heap.size) (ok := fun k_ => ((((P1_ k_ ∨ w.heap.size ≤ k_)) ∧ k_ ≠ gb227) ∧ k_ ≠ gb231)) (n := x1_2.length) (c := co23) ?_).2.2; exact (by (with_reducible repeat (first | apply Kd.V_alloc | apply Kd.V_drewN | apply Kd.V_drew)); exact (Kd.V_mono (Kd.V_far (p := ⟨gb231, 2, none⟩) (Kd.V_far (p := ⟨gb231, 1, none⟩) (Kd.V_far (p := ⟨gb231, 0, none⟩) (Kd.V_mono HO_1.out (fun k_ hk => (⟨hk, hk.2⟩ : _ ∧ k_ ≠ gb231))) (fun _ hk => hk.2) (.slice A230_0 ((rd_T31 l0_1 x26_2).f0).length c230_0)) (fun _ hk => hk.2) (.slice A230_1 ((rd_T31 l0_1 x26_2).f1).length c230_1)) (fun _ hk => hk.2) (.int .i64 ((rd_T31 l0_1 x26_2).f2))) (fun _ h_ => h_.1)))); (case side6 => exact (Kd.V_reads' HO_1.out).2.1); rintro e w24 ⟨v233, rfl, ho0, hb⟩; refine ⟨_, rfl, ?_⟩; have n0_ := Aside0.mk (Kd.V_elder' (by (with_reducible repeat (first | apply Kd.V_alloc | apply Kd.V_drewN | apply Kd.V_drew)); exact (Kd.V_mono (Kd.V_far (p := ⟨gb231, 2, none⟩) (Kd.V_far (p := ⟨gb231, 1, none⟩) (Kd.V_far (p := ⟨gb231, 0, none⟩) (Kd.V_mono HO_1.out (fun k_ hk => (⟨hk, hk.2⟩ : _ ∧ k_ ≠ gb231))) (fun _ hk => hk.2) (.slice A230_0 ((rd_T31 l0_1 x26_2).f0).length c230_0)) (fun _ hk => hk.2) (.slice A230_1 ((rd_T31 l0_1 x26_2).f1).length c230_1)) (fun _ hk => hk.2) (.int .i64 ((rd_T31 l0_1 x26_2).f2))) (fun _ h_ => h_.1))) (Kd.R_base ho0) hb); have n1_ := Aside0.mk (Kd.R_lower (Kd.R_newM (M := fun k_ => (w.heap.size ≤ k_)) ho0 (below_size (by repeat (first | (with_reducible first | exact HB.out | apply below_alloc | apply pw_below_drewN | apply below_drew1 | refine below_set ?_ GE227.out | refine below_set ?_ GE231.out) | exact HB.out))) (fun k_ h_ => h_)) (below_size (by repeat (first | (with_reducible first | exact HB.out | apply below_alloc | apply pw_below_drewN | apply below_drew1 | refine below_set ?_ GE227.out | refine below_set ?_ GE231.out) | exact HB.out)))); have n2_ := Aside0.mk (blk_below (g := gb227) (o := .cells #[.int .i64 a0_0, .slice (some ad230) l0_1.length c0_1] 24 (0, 0)) (by (with_reducible repeat (first | refine blk_drewN ?_ _ | refine blk_drew ?_ | refine blk_alloc ?_ _)); refine blk_far ?_ NB227_231.out _; (with_reducible repeat (first | refine blk_drewN ?_ _ | refine blk_drew ?_ | refine blk_alloc ?_ _)); refine blk_far ?_ NB227_231.out _; (with_reducible repeat (first | refine blk_drewN ?_ _ | refine blk_drew ?_ | refine blk_alloc ?_ _)); refine blk_far ?_ NB227_231.out _; (with_reducible repeat (first | refine blk_drewN ?_ _ | refine blk_drew ?_ | refine blk_alloc ?_ _)); exact BK227.out) hb); have n3_ := Aside0.mk (blk_below (g := gb231) (o := .cells #[.slice A230_0 ((rd_T31 l0_1 x26_2).f0).length c230_0, .slice A230_1 ((rd_T31 l0_1 x26_2).f1).length c230_1, .int .i64 ((rd_T31 l0_1 x26_2).f2)] 31 (0, 0)) (by (with_reducible repeat (first | refine blk_drewN ?_ _ | refine blk_drew ?_ | refine blk_alloc ?_ _)); refine blk_put (cs := #[.slice A230_0 ((rd_T31 l0_1 x26_2).f0).length c230_0, .slice A230_1 ((rd_T31 l0_1 x26_2).f1).length c230_1, .int .i64 0]) ?_ 2 _ rfl; (with_reducible repeat (first | refine blk_drewN ?_ _ | refine blk_drew ?_ | refine blk_alloc ?_ _)); refine blk_put (cs := #[.slice A230_0 ((rd_T31 l0_1 x26_2).f0).length c230_0, .slice none 0 0, .int .i64 0]) ?_ 1 _ rfl; (with_reducible repeat (first | refine blk_drewN ?_ _ | refine blk_drew ?_ | refine blk_alloc ?_ _)); refine blk_put (cs := #[.slice none 0 0, .slice none 0 0, .int .i64 0]) ?_ 0 _ rfl; (with_reducible repeat (first | refine blk_drewN ?_ _ | refine blk_drew ?_ | refine blk_alloc ?_ _)); exact BK231.out) hb); have n4_ := Aside0.mk (below_step (by repeat (first | (with_reducible first | exact HB.out | apply below_alloc | apply pw_below_drewN | apply below_drew1 | refine below_set ?_ GE227.out | refine below_set ?_ GE231.out) | exact HB.out)) hb); clear HO_1; clear BK227; clear BK231; clear HB; have HO_1 := n0_; have HO234 := n1_; have BK227 := n2_; have BK231 := n3_; have HB := n4_; clear n0_ n1_ n2_ n3_ n4_; (try clear hb); (try clear hb2); (try clear hk); (try clear hi); (try clear ho0); obtain ⟨Ao25, co25, eo25⟩ := Kd.R_slice HO234.out; subst eo25))
                  go_loopg [9, 35] k2 (fun kq v9 v35 w' => ∃ (x9_3 : List (List Int)) (x35_3 : Int), v35 = .int .i64 x35_3 ∧ Aside0 (model_Forward.l1 kq x1_2 t232 x9_3 l0_1 (l0_1.length : Int) x26_2 t232 (t232.length : Int) x35_3 ((rd_T31 l0_1 x26_2).f0) ((rd_T31 l0_1 x26_2).f1) ((rd_T31 l0_1 x26_2).f2) = some (r1, r2)) ∧ Aside0 (kq ≤ k2) ∧ Aside0 (Kd.V (Kd.slice 3 (Kd.int .i64)) 54 w' w.heap.size (fun k_ => (P1_ k_ ∨ w.heap.size ≤ k_) ∧ some k_ ≠ ((.slice Ao25 t232.length co25) : Value).ownBlock ∧ some k_ ≠ (v9 : Value).ownBlock ∧ some k_ ≠ ((.slice Ao25 t232.length co25) : Value).ownBlock ∧ k_ ≠ gb227 ∧ k_ ≠ gb231) (.slice Ao23 x1_2.length co23) x1_2) ∧ Aside0 (Kd.R k76 76 w' w.heap.size (fun k_ => (w.heap.size ≤ k_)) (.slice Ao25 t232.length co25) t232) ∧ Aside0 (Kd.N (Kd.slice 3 (Kd.int .i64)) 54 w' w.heap.size (fun k_ => (P1_ k_ ∨ w.heap.size ≤ k_) ∧ some k_ ≠ ((.slice Ao25 t232.length co25) : Value).ownBlock ∧ some k_ ≠ ((.slice Ao25 t232.length co25) : Value).ownBlock ∧ k_ ≠ gb227 ∧ k_ ≠ gb231) v9 x9_3) ∧ Aside0 (Kd.R k76 76 w' w.heap.size (fun k_ => (w.heap.size ≤ k_)) (.slice Ao25 t232.length co25) t232) ∧ Aside0 (w'.heap[gb227]? = some (.cells #[.int .i64 a0_0, (.slice (some ad230) l0_1.length c0_1)] 24 (0, 0))) ∧ Aside0 (w'.heap[gb231]? = some (.cells #[(.slice A230_0 ((rd_T31 l0_1 x26_2).f0).length c230_0), (.slice A230_1 ((rd_T31 l0_1 x26_2).f1).length c230_1), .int .i64 ((rd_T31 l0_1 x26_2).f2)] 31 (0, 0))) ∧ Aside0 (Below w.heap.size w w'))
                  case atStart => exact ⟨(([] : List (List Int))), (0), (by first | rfl | (simp; done) | (simp [*]; done)), H', ⟨Nat.le_refl _⟩, ⟨by (with_reducible repeat (first | apply Kd.V_alloc | apply Kd.V_drewN | apply Kd.V_drew)); exact Kd.V_mono HO_1.out (fun _ hk => ⟨hk.1.1.1, ⟨hk.2, ⟨(by simp [Value.ownBlock]), ⟨hk.2, ⟨hk.1.1.2, hk.1.2⟩⟩⟩⟩⟩)⟩, ⟨by (with_reducible repeat (first | apply Kd.R_alloc | apply Kd.R_drewN | apply Kd.R_drew)); exact Kd.R_mono HO234.out (fun _ hk => hk.1)⟩, ⟨by first | exact Kd.S_nil _ _ _ _ _ | exact Kd.N_nil _ _ _ _ _ | exact Kd.V_nil _ _ _ _ _ | exact Kd.Q_nil _ _ _ _ _ | exact Kd.R_nil _ _ _ _ _⟩, ⟨by (with_reducible repeat (first | apply Kd.R_alloc | apply Kd.R_drewN | apply Kd.R_drew)); exact Kd.R_mono HO234.out (fun _ hk => hk.1)⟩, ⟨by (with_reducible repeat (first | refine blk_drewN ?_ _ | refine blk_drew ?_ | refine blk_alloc ?_ _)); exact BK227.out⟩, ⟨by (with_reducible repeat (first | refine blk_drewN ?_ _ | refine blk_drew ?_ | refine blk_alloc ?_ _)); exact BK231.out⟩, ⟨by repeat (first | (with_reducible first | exact HB.out | apply below_alloc | apply pw_below_drewN | apply below_drew1 | refine below_set ?_ GE227.out | refine below_set ?_ GE231.out) | exact HB.out)⟩⟩
                  case round =>
                    clear H'
                    try clear c1
                    try clear c2
                    try clear p2
                    try clear q2
                    try clear hx2
                    try clear c6
                    try clear c13
                    try clear c14
                    try clear c16
                    try clear c16b0
                    try clear c17
                    try clear c17b0
                    try clear c18
                    try clear c18b0
                    try clear c21
                    try clear c23
                    try clear p23
                    try clear q23
                    try clear hx23
                    try clear hcz10_0
                    try clear hcz10_1
                    try clear hcz12_0
                    try clear hcz12_1
                    try clear hcz15_0
                    try clear hcz15_1
                    try clear hcz22_0
                    try clear hcz22_1
                    try clear hcz22_2
                    try clear hcz8_0
                    try clear hcz8_1
                    try clear hfz10_0
                    try clear hfz10_1
                    try clear hfz12_0
                    try clear hfz12_1
                    try clear hfz15_0
                    try clear hfz15_1
                    try clear hfz22_0
                    try clear hfz22_1
                    try clear hfz22_2
                    try clear hfz8_0
                    try clear hfz8_1
                    try clear hx230_0
                    try clear hx230_1
                    try clear hx230_2
                    try clear p2
                    try clear p230
                    try clear q230
                    obtain ⟨x9_3, x35_3, rfl, HA, HK3, HO_1, HO_8, HO_9, HO_33, BK227, BK231, HB⟩ := hrel
                    cases gk with
                    | zero => exact absurd HA.out (by simp [model_Forward.l1])
                    | succ k3 =>
                      have H := HA.out
                      clear HA
                      simp only [model_Forward.l1] at H
                      by_cases c26 : x35_3 < (t232.length : Int)
                      · rw [if_pos c26] at H
                        have c26b0 : decide (x35_3 < (t232.length : Int)) = true := decide_eq_true c26
                        clear c26
                        by_cases c27 : 0 ≤ x35_3
                        · rw [if_pos c27] at H
                          have c27b0 : decide (0 ≤ x35_3) = true := decide_eq_true c27
                          clear c27
                          by_cases c28 : x35_3 < (t232.length : Int)
                          · rw [if_pos c28] at H
                            have c28b0 : decide (x35_3 < (t232.length : Int)) = true := decide_eq_true c28
                            clear c28
                            by_cases c29 : 0 ≤ ((rd_T76 t232 x35_3).f2)
                            · rw [if_pos c29] at H
                              have c29b0 : decide (0 ≤ ((rd_T76 t232 x35_3).f2)) = true := decide_eq_true c29
                              clear c29
                              by_cases c30 : ((rd_T76 t232 x35_3).f2) < (((rd_T31 l0_1 x26_2).f1).length : Int)
                              · rw [if_pos c30] at H
                                have c30b0 : decide (((rd_T76 t232 x35_3).f2) < (((rd_T31 l0_1 x26_2).f1).length : Int)) = true := decide_eq_true c30
                                clear c30
                                by_cases c31 : 0 ≤ ((rd_T76 t232 x35_3).f0)
                                · rw [if_pos c31] at H
                                  have c31b0 : decide (0 ≤ ((rd_T76 t232 x35_3).f0)) = true := decide_eq_true c31
                                  clear c31
                                  by_cases c32 : ((rd_T76 t232 x35_3).f0) < (x1_2.length : Int)
                                  · rw [if_pos c32] at H
                                    have c32b0 : decide (((rd_T76 t232 x35_3).f0) < (x1_2.length : Int)) = true := decide_eq_true c32
                                    clear c32
                                    replace H := Option.bind_eq_some_iff.mp H
                                    obtain ⟨⟨t239, t242⟩, A330, H⟩ := H
                                    replace H : (if x9_3.length < 5864062014805 then (model_Forward.l1 k3 x1_2 t232 (x9_3 ++ [t239]) l0_1 (l0_1.length : Int) x26_2 t232 (t232.length : Int) (wrap64 (x35_3 + 1)) ((rd_T31 l0_1 x26_2).f0) ((rd_T31 l0_1 x26_2).f1) ((rd_T31 l0_1 x26_2).f2)) else (none)) = some (r1, r2) := H
                                    have A33 := Aside0.mk A330
                                    clear A330
                                    by_cases c34 : x9_3.length < 5864062014805
                                    · rw [if_pos c34] at H
                                      have LMc34 := Aside0.mk c34
                                      clear c34
                                      obtain ⟨y243, hy243⟩ : ∃ y_ : List (List Int), y_ = (x9_3 ++ [t239]) := ⟨_, rfl⟩
                                      replace H : (model_Forward.l1 k3 x1_2 t232 y243 l0_1 (l0_1.length : Int) x26_2 t232 (t232.length : Int) (wrap64 (x35_3 + 1)) ((rd_T31 l0_1 x26_2).f0) ((rd_T31 l0_1 x26_2).f1) ((rd_T31 l0_1 x26_2).f2)) = some (r1, r2) := by first | (rw [hy243]; with_reducible exact H) | (have H2_ := (Option.bind_some _ _).symm.trans H; rw [hy243]; with_reducible exact H2_) | (have H2_ := (Option.bind_some _ _).symm.trans H; with_reducible exact H2_) | with_reducible exact H | (rw [hy243]; exact H) | exact H
                                      have Ny243 := Aside0.mk hy243
                                      clear hy243
                                      have H' := Aside0.mk H
                                      clear H
                                      have p235 : 0 ≤ (x35_3 : Int) := of_decide_eq_true (by first | (with_reducible assumption) | assumption)
                                      have q235 : x35_3 < (t232.length : Int) := of_decide_eq_true (by first | (with_reducible assumption) | assumption)
                                      obtain ⟨ad235, e235, hx235_0, hx235_1, hx235_2, hx235_3⟩ := at_T76 (Kd.R_reads' HO_33.out).2.2 x35_3 p235 q235
                                      cases e235
                                      replace p235 := eq_true p235
                                      replace q235 := eq_true q235
                                      try go_wp2_with (first | ((with_reducible refine gate_dst (N := 11) rfl ?_); refine box_event ?hg (N := 11) ?hd (cs := #[.int .i64 0, .int .i64 0, .int .i64 0, .int .i64 0]) (t := 76) ?hr ?_; (case hd => rfl); (case hg => rfl); (case hr => first | (go_simp; done) | (go_simp; rfl)); intro gb236 hg w35 hbox hb; have n0_ := Aside0.mk (Kd.V_below (Kd.V_elderB (by (with_reducible repeat (first | apply Kd.V_alloc | apply Kd.V_drewN | apply Kd.V_drew)); exact HO_1.out) gb236 (Nat.le_of_eq hg.symm)) hb); have n1_ := Aside0.mk (Kd.R_below (Kd.R_elderB (by (with_reducible repeat (first | apply Kd.R_alloc | apply Kd.R_drewN | apply Kd.R_drew)); exact HO_8.out) gb236 (Nat.le_of_eq hg.symm)) hb); have n2_ := Aside0.mk (Kd.N_below (Kd.N_elderB (by (with_reducible repeat (first | apply Kd.N_alloc | apply Kd.N_drewN | apply Kd.N_drew)); exact HO_9.out) gb236 (Nat.le_of_eq hg.symm)) hb); have n3_ := Aside0.mk (Kd.R_below (Kd.R_elderB (by (with_reducible repeat (first | apply Kd.R_alloc | apply Kd.R_drewN | apply Kd.R_drew)); exact HO_33.out) gb236 (Nat.le_of_eq hg.symm)) hb); have n4_ := Aside0.mk (blk_below (g := gb227) (o := .cells #[.int .i64 a0_0, .slice (some ad230) l0_1.length c0_1] 24 (0, 0)) (by (with_reducible repeat (first | refine blk_drewN ?_ _ | refine blk_drew ?_ | refine blk_alloc ?_ _)); exact BK227.out) hb); have n5_ := Aside0.mk (blk_below (g := gb231) (o := .cells #[.slice A230_0 ((rd_T31 l0_1 x26_2).f0).length c230_0, .slice A230_1 ((rd_T31 l0_1 x26_2).f1).length c230_1, .int .i64 ((rd_T31 l0_1 x26_2).f2)] 31 (0, 0)) (by (with_reducible repeat (first | refine blk_drewN ?_ _ | refine blk_drew ?_ | refine blk_alloc ?_ _)); exact BK231.out) hb); have n6_ := Aside0.mk (below_step (by repeat (first | (with_reducible first | exact HB.out | apply below_alloc | apply pw_below_drewN | apply below_drew1 | refine below_set ?_ GE227.out | refine below_set ?_ GE231.out) | exact HB.out)) hb); have n7_ := Aside0.mk (hbox); have n8_ := Aside0.mk ((by rw [hg]; exact (below_size (by repeat (first | (with_reducible first | exact HB.out | apply below_alloc | apply pw_below_drewN | apply below_drew1 | refine below_set ?_ GE227.out | refine below_set ?_ GE231.out) | exact HB.out))) : w.heap.size ≤ gb236)); have n9_ := Aside0.mk ((by rw [hg]; exact (below_size (by repeat (first | (with_reducible first | exact HB.out | apply below_alloc | apply pw_below_drewN | apply below_drew1 | refine below_set ?_ GE227.out | refine below_set ?_ GE231.out) | exact HB.out))) : w.heap.size ≤ gb236)); have n10_ := Aside0.mk ((by rw [hg]; exact Nat.ne_of_lt (blk_lt (g := gb227) (o := .cells #[.int .i64 a0_0, .slice (some ad230) l0_1.length c0_1] 24 (0, 0)) (by (with_reducible repeat (first | refine blk_drewN ?_ _ | refine blk_drew ?_ | refine blk_alloc ?_ _)); exact BK227.out)) : gb227 ≠ gb236)); have n11_ := Aside0.mk ((by rw [hg]; exact Nat.ne_of_gt (blk_lt (g := gb227) (o := .cells #[.int .i64 a0_0, .slice (some ad230) l0_1.length c0_1] 24 (0, 0)) (by (with_reducible repeat (first | refine blk_drewN ?_ _ | refine blk_drew ?_ | refine blk_alloc ?_ _)); exact BK227.out)) : gb236 ≠ gb227)); have n12_ := Aside0.mk ((by rw [hg]; exact Nat.ne_of_lt (blk_lt (g := gb231) (o := .cells #[.slice A230_0 ((rd_T31 l0_1 x26_2).f0).length c230_0, .slice A230_1 ((rd_T31 l0_1 x26_2).f1).length c230_1, .int .i64 ((rd_T31 l0_1 x26_2).f2)] 31 (0, 0)) (by (with_reducible repeat (first | refine blk_drewN ?_ _ | refine blk_drew ?_ | refine blk_alloc ?_ _)); exact BK231.out)) : gb231 ≠ gb236)); have n13_ := Aside0.mk ((by rw [hg]; exact Nat.ne_of_gt (blk_lt (g := gb231) (o := .cells #[.slice A230_0 ((rd_T31 l0_1 x26_2).f0).length c230_0, .slice A230_1 ((rd_T31 l0_1 x26_2).f1).length c230_1, .int .i64 ((rd_T31 l0_1 x26_2).f2)] 31 (0, 0)) (by (with_reducible repeat (first | refine blk_drewN ?_ _ | refine blk_drew ?_ | refine blk_alloc ?_ _)); exact BK231.out)) : gb236 ≠ gb231)); clear HO_1; clear HO_8; clear HO_9; clear HO_33; clear BK227; clear BK231; clear HB; have HO_1 := n0_; have HO_8 := n1_; have HO_9 := n2_; have HO_33 := n3_; have BK227 := n4_; have BK231 := n5_; have HB := n6_; have BK236 := n7_; have GW236 := n8_; have GE236 := n9_; have NB227_236 := n10_; have NB236_227 := n11_; have NB231_236 := n12_; have NB236_231 := n13_; clear n0_ n1_ n2_ n3_ n4_ n5_ n6_ n7_ n8_ n9_ n10_ n11_ n12_ n13_; clear hb hbox hg; have hnb36 := NB236_227.out; have hnc36 := NB227_236.out; have hnb37 := NB236_231.out; have hnc37 := NB231_236.out; have hcz38_0 : w35.cell? ⟨gb236, 0, none⟩ = some (.int .i64 0) := (blk_cell BK236.out 0).trans rfl; have hcz38_1 : w35.cell? ⟨gb236, 1, none⟩ = some (.int .i64 0) := (blk_cell BK236.out 1).trans rfl; have hcz38_2 : w35.cell? ⟨gb236, 2, none⟩ = some (.int .i64 0) := (blk_cell BK236.out 2).trans rfl; have hcz38_3 : w35.cell? ⟨gb236, 3, none⟩ = some (.int .i64 0) := (blk_cell BK236.out 3).trans rfl; have hfz38_0 := blk_frozen BK236.out 0; have hfz38_1 := blk_frozen BK236.out 1; have hfz38_2 := blk_frozen BK236.out 2; have hfz38_3 := blk_frozen BK236.out 3))
                                      have n0_ : Aside0 (Kd.V (Kd.slice 3 (Kd.int .i64)) 54 ((((w35.setCell ⟨gb236, 0, none⟩ (.int .i64 ((rd_T76 t232 x35_3).f0))).setCell ⟨gb236, 1, none⟩ (.int .i64 ((rd_T76 t232 x35_3).f1))).setCell ⟨gb236, 2, none⟩ (.int .i64 ((rd_T76 t232 x35_3).f2))).setCell ⟨gb236, 3, none⟩ (.int .i64 ((rd_T76 t232 x35_3).f3))) w.heap.size (fun k_ => (P1_ k_ ∨ w.heap.size ≤ k_) ∧ some k_ ≠ (.slice (some ad235) t232.length co25 : Value).ownBlock ∧ some k_ ≠ (u9 : Value).ownBlock ∧ some k_ ≠ (.slice (some ad235) t232.length co25 : Value).ownBlock ∧ k_ ≠ gb227 ∧ k_ ≠ gb231 ∧ k_ ≠ gb236) (.slice Ao23 x1_2.length co23) x1_2) := ⟨by (with_reducible repeat (first | apply Kd.V_alloc | apply Kd.V_drewN | apply Kd.V_drew)); exact Kd.V_mono (Kd.V_far (p := ⟨gb236, 3, none⟩) (Kd.V_far (p := ⟨gb236, 2, none⟩) (Kd.V_far (p := ⟨gb236, 1, none⟩) (Kd.V_far (p := ⟨gb236, 0, none⟩) (Kd.V_mono HO_1.out (fun k_ hk => (⟨hk, hk.2⟩ : _ ∧ k_ ≠ gb236))) (fun _ hk => hk.2) (.int .i64 ((rd_T76 t232 x35_3).f0))) (fun _ hk => hk.2) (.int .i64 ((rd_T76 t232 x35_3).f1))) (fun _ hk => hk.2) (.int .i64 ((rd_T76 t232 x35_3).f2))) (fun _ hk => hk.2) (.int .i64 ((rd_T76 t232 x35_3).f3))) (fun _ hk => ⟨hk.1.1.1, ⟨hk.1.1.2.1, ⟨hk.1.1.2.2.1, ⟨hk.1.1.2.2.2.1, ⟨hk.1.1.2.2.2.2.1, ⟨hk.1.1.2.2.2.2.2, hk.1.2⟩⟩⟩⟩⟩⟩)⟩
                                      have n1_ : Aside0 (Kd.R k76 76 ((((w35.setCell ⟨gb236, 0, none⟩ (.int .i64 ((rd_T76 t232 x35_3).f0))).setCell ⟨gb236, 1, none⟩ (.int .i64 ((rd_T76 t232 x35_3).f1))).setCell ⟨gb236, 2, none⟩ (.int .i64 ((rd_T76 t232 x35_3).f2))).setCell ⟨gb236, 3, none⟩ (.int .i64 ((rd_T76 t232 x35_3).f3))) w.heap.size (fun k_ => (w.heap.size ≤ k_) ∧ k_ ≠ gb236) (.slice (some ad235) t232.length co25) t232) := ⟨by (with_reducible repeat (first | apply Kd.R_alloc | apply Kd.R_drewN | apply Kd.R_drew)); exact Kd.R_mono (Kd.R_far (p := ⟨gb236, 3, none⟩) (Kd.R_far (p := ⟨gb236, 2, none⟩) (Kd.R_far (p := ⟨gb236, 1, none⟩) (Kd.R_far (p := ⟨gb236, 0, none⟩) (Kd.R_mono HO_8.out (fun k_ hk => (⟨hk, hk.2⟩ : _ ∧ k_ ≠ gb236))) (fun _ hk => hk.2) (.int .i64 ((rd_T76 t232 x35_3).f0))) (fun _ hk => hk.2) (.int .i64 ((rd_T76 t232 x35_3).f1))) (fun _ hk => hk.2) (.int .i64 ((rd_T76 t232 x35_3).f2))) (fun _ hk => hk.2) (.int .i64 ((rd_T76 t232 x35_3).f3))) (fun _ hk => ⟨hk.1.1, hk.1.2⟩)⟩
                                      have n2_ : Aside0 (Kd.N (Kd.slice 3 (Kd.int .i64)) 54 ((((w35.setCell ⟨gb236, 0, none⟩ (.int .i64 ((rd_T76 t232 x35_3).f0))).setCell ⟨gb236, 1, none⟩ (.int .i64 ((rd_T76 t232 x35_3).f1))).setCell ⟨gb236, 2, none⟩ (.int .i64 ((rd_T76 t232 x35_3).f2))).setCell ⟨gb236, 3, none⟩ (.int .i64 ((rd_T76 t232 x35_3).f3))) w.heap.size (fun k_ => (P1_ k_ ∨ w.heap.size ≤ k_) ∧ some k_ ≠ (.slice (some ad235) t232.length co25 : Value).ownBlock ∧ some k_ ≠ (.slice (some ad235) t232.length co25 : Value).ownBlock ∧ k_ ≠ gb227 ∧ k_ ≠ gb231 ∧ k_ ≠ gb236) u9 x9_3) := ⟨by (with_reducible repeat (first | apply Kd.N_alloc | apply Kd.N_drewN | apply Kd.N_drew)); exact Kd.N_mono (Kd.N_far (p := ⟨gb236, 3, none⟩) (Kd.N_far (p := ⟨gb236, 2, none⟩) (Kd.N_far (p := ⟨gb236, 1, none⟩) (Kd.N_far (p := ⟨gb236, 0, none⟩) (Kd.N_mono HO_9.out (fun k_ hk => (⟨hk, hk.2⟩ : _ ∧ k_ ≠ gb236))) (fun _ hk => hk.2) (.int .i64 ((rd_T76 t232 x35_3).f0))) (fun _ hk => hk.2) (.int .i64 ((rd_T76 t232 x35_3).f1))) (fun _ hk => hk.2) (.int .i64 ((rd_T76 t232 x35_3).f2))) (fun _ hk => hk.2) (.int .i64 ((rd_T76 t232 x35_3).f3))) (fun _ hk => ⟨hk.1.1.1, ⟨hk.1.1.2.1, ⟨hk.1.1.2.2.1, ⟨hk.1.1.2.2.2.1, ⟨hk.1.1.2.2.2.2, hk.1.2⟩⟩⟩⟩⟩)⟩
                                      have n3_ : Aside0 (Kd.R k76 76 ((((w35.setCell ⟨gb236, 0, none⟩ (.int .i64 ((rd_T76 t232 x35_3).f0))).setCell ⟨gb236, 1, none⟩ (.int .i64 ((rd_T76 t232 x35_3).f1))).setCell ⟨gb236, 2, none⟩ (.int .i64 ((rd_T76 t232 x35_3).f2))).setCell ⟨gb236, 3, none⟩ (.int .i64 ((rd_T76 t232 x35_3).f3))) w.heap.size (fun k_ => (w.heap.size ≤ k_) ∧ k_ ≠ gb236) (.slice (some ad235) t232.length co25) t232) := ⟨by (with_reducible repeat (first | apply Kd.R_alloc | apply Kd.R_drewN | apply Kd.R_drew)); exact Kd.R_mono (Kd.R_far (p := ⟨gb236, 3, none⟩) (Kd.R_far (p := ⟨gb236, 2, none⟩) (Kd.R_far (p := ⟨gb236, 1, none⟩) (Kd.R_far (p := ⟨gb236, 0, none⟩) (Kd.R_mono HO_33.out (fun k_ hk => (⟨hk, hk.2⟩ : _ ∧ k_ ≠ gb236))) (fun _ hk => hk.2) (.int .i64 ((rd_T76 t232 x35_3).f0))) (fun _ hk => hk.2) (.int .i64 ((rd_T76 t232 x35_3).f1))) (fun _ hk => hk.2) (.int .i64 ((rd_T76 t232 x35_3).f2))) (fun _ hk => hk.2) (.int .i64 ((rd_T76 t232 x35_3).f3))) (fun _ hk => ⟨hk.1.1, hk.1.2⟩)⟩
                                      have n4_ : Aside0 (((((w35.setCell ⟨gb236, 0, none⟩ (.int .i64 ((rd_T76 t232 x35_3).f0))).setCell ⟨gb236, 1, none⟩ (.int .i64 ((rd_T76 t232 x35_3).f1))).setCell ⟨gb236, 2, none⟩ (.int .i64 ((rd_T76 t232 x35_3).f2))).setCell ⟨gb236, 3, none⟩ (.int .i64 ((rd_T76 t232 x35_3).f3))).heap[gb227]? = some (.cells #[.int .i64 a0_0, .slice (some ad230) l0_1.length c0_1] 24 (0, 0))) := ⟨by (with_reducible repeat (first | refine blk_drewN ?_ _ | refine blk_drew ?_ | refine blk_alloc ?_ _)); refine blk_far ?_ NB227_236.out _; (with_reducible repeat (first | refine blk_drewN ?_ _ | refine blk_drew ?_ | refine blk_alloc ?_ _)); refine blk_far ?_ NB227_236.out _; (with_reducible repeat (first | refine blk_drewN ?_ _ | refine blk_drew ?_ | refine blk_alloc ?_ _)); refine blk_far ?_ NB227_236.out _; (with_reducible repeat (first | refine blk_drewN ?_ _ | refine blk_drew ?_ | refine blk_alloc ?_ _)); refine blk_far ?_ NB227_236.out _; (with_reducible repeat (first | refine blk_drewN ?_ _ | refine blk_drew ?_ | refine blk_alloc ?_ _)); exact BK227.out⟩
                                      have n5_ : Aside0 (((((w35.setCell ⟨gb236, 0, none⟩ (.int .i64 ((rd_T76 t232 x35_3).f0))).setCell ⟨gb236, 1, none⟩ (.int .i64 ((rd_T76 t232 x35_3).f1))).setCell ⟨gb236, 2, none⟩ (.int .i64 ((rd_T76 t232 x35_3).f2))).setCell ⟨gb236, 3, none⟩ (.int .i64 ((rd_T76 t232 x35_3).f3))).heap[gb231]? = some (.cells #[.slice A230_0 ((rd_T31 l0_1 x26_2).f0).length c230_0, .slice A230_1 ((rd_T31 l0_1 x26_2).f1).length c230_1, .int .i64 ((rd_T31 l0_1 x26_2).f2)] 31 (0, 0))) := ⟨by (with_reducible repeat (first | refine blk_drewN ?_ _ | refine blk_drew ?_ | refine blk_alloc ?_ _)); refine blk_far ?_ NB231_236.out _; (with_reducible repeat (first | refine blk_drewN ?_ _ | refine blk_drew ?_ | refine blk_alloc ?_ _)); refine blk_far ?_ NB231_236.out _; (with_reducible repeat (first | refine blk_drewN ?_ _ | refine blk_drew ?_ | refine blk_alloc ?_ _)); refine blk_far ?_ NB231_236.out _; (with_reducible repeat (first | refine blk_drewN ?_ _ | refine blk_drew ?_ | refine blk_alloc ?_ _)); refine blk_far ?_ NB231_236.out _; (with_reducible repeat (first | refine blk_drewN ?_ _ | refine blk_drew ?_ | refine blk_alloc ?_ _)); exact BK231.out⟩
                                      have n6_ : Aside0 (((((w35.setCell ⟨gb236, 0, none⟩ (.int .i64 ((rd_T76 t232 x35_3).f0))).setCell ⟨gb236, 1, none⟩ (.int .i64 ((rd_T76 t232 x35_3).f1))).setCell ⟨gb236, 2, none⟩ (.int .i64 ((rd_T76 t232 x35_3).f2))).setCell ⟨gb236, 3, none⟩ (.int .i64 ((rd_T76 t232 x35_3).f3))).heap[gb236]? = some (.cells #[.int .i64 ((rd_T76 t232 x35_3).f0), .int .i64 ((rd_T76 t232 x35_3).f1), .int .i64 ((rd_T76 t232 x35_3).f2), .int .i64 ((rd_T76 t232 x35_3).f3)] 76 (0, 0))) := ⟨by (with_reducible repeat (first | refine blk_drewN ?_ _ | refine blk_drew ?_ | refine blk_alloc ?_ _)); refine blk_put (cs := #[.int .i64 ((rd_T76 t232 x35_3).f0), .int .i64 ((rd_T76 t232 x35_3).f1), .int .i64 ((rd_T76 t232 x35_3).f2), .int .i64 0]) ?_ 3 _ rfl; (with_reducible repeat (first | refine blk_drewN ?_ _ | refine blk_drew ?_ | refine blk_alloc ?_ _)); refine blk_put (cs := #[.int .i64 ((rd_T76 t232 x35_3).f0), .int .i64 ((rd_T76 t232 x35_3).f1), .int .i64 0, .int .i64 0]) ?_ 2 _ rfl; (with_reducible repeat (first | refine blk_drewN ?_ _ | refine blk_drew ?_ | refine blk_alloc ?_ _)); refine blk_put (cs := #[.int .i64 ((rd_T76 t232 x35_3).f0), .int .i64 0, .int .i64 0, .int .i64 0]) ?_ 1 _ rfl; (with_reducible repeat (first | refine blk_drewN ?_ _ | refine blk_drew ?_ | refine blk_alloc ?_ _)); refine blk_put (cs := #[.int .i64 0, .int .i64 0, .int .i64 0, .int .i64 0]) ?_ 0 _ rfl; (with_reducible repeat (first | refine blk_drewN ?_ _ | refine blk_drew ?_ | refine blk_alloc ?_ _)); exact BK236.out⟩
                                      have n7_ : Aside0 (Below w.heap.size w ((((w35.setCell ⟨gb236, 0, none⟩ (.int .i64 ((rd_T76 t232 x35_3).f0))).setCell ⟨gb236, 1, none⟩ (.int .i64 ((rd_T76 t232 x35_3).f1))).setCell ⟨gb236, 2, none⟩ (.int .i64 ((rd_T76 t232 x35_3).f2))).setCell ⟨gb236, 3, none⟩ (.int .i64 ((rd_T76 t232 x35_3).f3)))) := ⟨by repeat (first | (with_reducible first | exact HB.out | apply below_alloc | apply pw_below_drewN | apply below_drew1 | refine below_set ?_ GE227.out | refine below_set ?_ GE231.out | refine below_set ?_ GE236.out) | exact HB.out)⟩
                                      (try clear HO_1)
                                      (try clear HO_8)
                                      (try clear HO_9)
                                      (try clear HO_33)
                                      (try clear BK227)
                                      (try clear BK231)
                                      (try clear BK236)
                                      (try clear HB)
                                      generalize ((((w35.setCell ⟨gb236, 0, none⟩ (.int .i64 ((rd_T76 t232 x35_3).f0))).setCell ⟨gb236, 1, none⟩ (.int .i64 ((rd_T76 t232 x35_3).f1))).setCell ⟨gb236, 2, none⟩ (.int .i64 ((rd_T76 t232 x35_3).f2))).setCell ⟨gb236, 3, none⟩ (.int .i64 ((rd_T76 t232 x35_3).f3))) = w39 at n0_ n1_ n2_ n3_ n4_ n5_ n6_ n7_ ⊢
                                      have HO_1 := n0_
                                      have HO_8 := n1_
                                      have HO_9 := n2_
                                      have HO_33 := n3_
                                      have BK227 := n4_
                                      have BK231 := n5_
                                      have BK236 := n6_
                                      have HB := n7_
                                      clear n0_ n1_ n2_ n3_ n4_ n5_ n6_ n7_
                                      have n0_ := Aside0.mk (Kd.V_drew HO_1.out)
                                      have n1_ := Aside0.mk (Kd.R_drew HO_8.out)
                                      have n2_ := Aside0.mk (Kd.N_drew HO_9.out)
                                      have n3_ := Aside0.mk (Kd.R_drew HO_33.out)
                                      have n4_ := Aside0.mk (blk_drew BK227.out)
                                      have n5_ := Aside0.mk (blk_drew BK231.out)
                                      have n6_ := Aside0.mk (blk_drew BK236.out)
                                      have n7_ := Aside0.mk (below_drew1 HB.out)
                                      clear HO_1
                                      clear HO_8
                                      clear HO_9
                                      clear HO_33
                                      clear BK227
                                      clear BK231
                                      clear BK236
                                      clear HB
                                      have HO_1 := n0_
                                      have HO_8 := n1_
                                      have HO_9 := n2_
                                      have HO_33 := n3_
                                      have BK227 := n4_
                                      have BK231 := n5_
                                      have BK236 := n6_
                                      have HB := n7_
                                      clear n0_ n1_ n2_ n3_ n4_ n5_ n6_ n7_
                                      have p237 : 0 ≤ (((rd_T76 t232 x35_3).f2) : Int) := of_decide_eq_true (by first | (with_reducible assumption) | assumption)
                                      have q237 : ((rd_T76 t232 x35_3).f2) < (((rd_T31 l0_1 x26_2).f1).length : Int) := of_decide_eq_true (by first | (with_reducible assumption) | assumption)
                                      obtain ⟨ad237, A237_0, c237_0, A237_1, c237_1, e237, hx237_0, hx237_1, hl237_0, hi237_0, hl237_1, hi237_1⟩ := at_T33 HR230_1.out ((rd_T76 t232 x35_3).f2) p237 q237
                                      have hw237_1 := hx237_1
                                      have hw237_0 := hx237_0
                                      cases e237
                                      replace hx237_0 := (HB.out.cell (World.block_lt_of_cell? w _ hx237_0)).trans hx237_0
                                      replace hx237_1 := (HB.out.cell (World.block_lt_of_cell? w _ hx237_1)).trans hx237_1
                                      have HR237_0 := Aside0.mk hi237_0
                                      have HC237_0 := Aside0.mk hl237_0
                                      clear hi237_0 hl237_0
                                      have HR237_1 := Aside0.mk hi237_1
                                      have HC237_1 := Aside0.mk hl237_1
                                      clear hi237_1 hl237_1
                                      replace p237 := eq_true p237
                                      replace q237 := eq_true q237
                                      have p238 : 0 ≤ (((rd_T76 t232 x35_3).f0) : Int) := of_decide_eq_true (by first | (with_reducible assumption) | assumption)
                                      have q238 : ((rd_T76 t232 x35_3).f0) < (x1_2.length : Int) := of_decide_eq_true (by first | (with_reducible assumption) | assumption)
                                      obtain ⟨ad238, A238_0, c238_0, e238, hx238_0, hl238_0, hi238_0⟩ := at_L1 (Kd.V_reads' HO_1.out).2.2 ((rd_T76 t232 x35_3).f0) p238 q238
                                      cases e238
                                      obtain ⟨ce238, hce238, hMe238, hcc238⟩ := Kd.V_get HO_1.out [] ((rd_T76 t232 x35_3).f0) p238 (by first | exact q238 | exact of_decide_eq_true (by first | (with_reducible assumption) | assumption) | (have e_ := (Kd.V_reads' HO_1.out).1; omega))
                                      obtain ⟨ua238_0, uc238_0, rfl, ul238_0, ge238_0⟩ := Kd.FK_slice_open hMe238
                                      have hv238_0 := hcc238 0 _ rfl
                                      rw [Nat.add_zero, show ((Kd.slice 3 (Kd.int .i64))).sz = 1 from rfl, Nat.mul_one] at hv238_0
                                      replace hv238_0 := Option.some.inj (hv238_0.symm.trans hx238_0)
                                      injection hv238_0 with hva_ hvn_ hvc_
                                      rw [hva_] at ge238_0
                                      rw [hvc_] at ul238_0
                                      have HL238_0 := Aside0.mk (show Kd.V (Kd.int .i64) 3 _ w.heap.size _ _ (rd_L1 x1_2 ((rd_T76 t232 x35_3).f0)) from Kd.V_mk ul238_0 ge238_0)
                                      clear hva_ hvn_ hvc_ ge238_0 ul238_0
                                      clear hcc238 hce238
                                      have HR238_0 := Aside0.mk hi238_0
                                      have HC238_0 := Aside0.mk hl238_0
                                      clear hi238_0 hl238_0
                                      replace p238 := eq_true p238
                                      replace q238 := eq_true q238
                                      refine start_ (n := 17) (S := fun w' => w'.cell? ⟨gb231, 0, none⟩ = some (.slice A230_0 ((rd_T31 l0_1 x26_2).f0).length c230_0) ∧ w'.cell? ⟨gb231, 1, none⟩ = some (.slice (some ad237) ((rd_T31 l0_1 x26_2).f1).length c230_1) ∧ w'.cell? ⟨gb231, 2, none⟩ = some (.int .i64 ((rd_T31 l0_1 x26_2).f2)) ∧ w'.cell? ⟨gb236, 0, none⟩ = some (.int .i64 ((rd_T76 t232 x35_3).f0)) ∧ w'.cell? ⟨gb236, 1, none⟩ = some (.int .i64 ((rd_T76 t232 x35_3).f1)) ∧ w'.cell? ⟨gb236, 2, none⟩ = some (.int .i64 ((rd_T76 t232 x35_3).f2)) ∧ w'.cell? ⟨gb236, 3, none⟩ = some (.int .i64 ((rd_T76 t232 x35_3).f3)) ∧ w'.cell? (ad237.add ((((rd_T76 t232 x35_3).f2)).toNat * 2)) = some (.slice A237_0 ((rd_T33 ((rd_T31 l0_1 x26_2).f1) ((rd_T76 t232 x35_3).f2)).f0).length c237_0) ∧ w'.cell? ⟨(ad237.add ((((rd_T76 t232 x35_3).f2)).toNat * 2)).block, (ad237.add ((((rd_T76 t232 x35_3).f2)).toNat * 2)).off + 1, none⟩ = some (.slice A237_1 ((rd_T33 ((rd_T31 l0_1 x26_2).f1) ((rd_T76 t232 x35_3).f2)).f1).length c237_1) ∧ w'.cell? (ad238.add (((rd_T76 t232 x35_3).f0)).toNat) = some (.slice A238_0 (rd_L1 x1_2 ((rd_T76 t232 x35_3).f0)).length c238_0)) (ds := []) #[false, false, false, false, false, false, false, false, false, false, false, false, false, false, false, false, false] (by kernel_rfl) rfl rfl ⟨(blk_cell BK231.out 0).trans rfl, (blk_cell BK231.out 1).trans rfl, (blk_cell BK231.out 2).trans rfl, (blk_cell BK236.out 0).trans rfl, (blk_cell BK236.out 1).trans rfl, (blk_cell BK236.out 2).trans rfl, (blk_cell BK236.out 3).trans rfl, ((HB.out.cell (World.block_lt_of_cell? w _ hw237_0)).trans hw237_0), ((HB.out.cell (World.block_lt_of_cell? w _ hw237_1)).trans hw237_1), hx238_0⟩ (fun hHeld => ?_); refine with_tabW model_Forward.tab11 model_Forward.bits11 (fun HT_ HW_ => ?_)
                                      generalize w39.drew = w40 at HO_1 HO_8 HO_9 HO_33 BK227 BK231 BK236 HB HL238_0 HR237_0 HR237_1 HR238_0 hx237_0 hx237_1 hx238_0 hHeld ⊢
                                      refine pure_ (i := 0) (N := some 40) (v := ?_) (a' := ?_) #[true, false, false, false, false, false, false, false, false, false, false, false, false, false, false, false, false] rfl rfl (any_of HT_.out (by kernel_rfl)) (fun _ _ _ h => h) (Or.inl ⟨by rfl, ?_⟩) ?_ ?_
                                      rotate_left
                                      · intro w'
                                        go_simp
                                        with_reducible rfl
                                      rotate_left
                                      · simp only [Act.put, List.setIfInBounds_toArray, List.set_cons_zero, List.set_cons_succ, i64_w, i32_w]
                                        rfl
                                      refine pure_ (i := 2) (N := some 42) (v := ?_) (a' := ?_) #[true, false, true, false, false, false, false, false, false, false, false, false, false, false, false, false, false] rfl rfl (any_of HT_.out (by kernel_rfl)) (fun _ _ _ h => h) (Or.inl ⟨by rfl, ?_⟩) ?_ ?_
                                      rotate_left
                                      · intro w'
                                        go_simp
                                        with_reducible rfl
                                      rotate_left
                                      · simp only [Act.put, List.setIfInBounds_toArray, List.set_cons_zero, List.set_cons_succ, i64_w, i32_w]
                                        rfl
                                      refine pure_ (i := 6) (N := some 46) (v := ?_) (a' := ?_) #[true, false, true, false, false, false, true, false, false, false, false, false, false, false, false, false, false] rfl rfl (any_of HT_.out (by kernel_rfl)) (fun _ _ _ h => h) (Or.inl ⟨by rfl, ?_⟩) ?_ ?_
                                      rotate_left
                                      · intro w'
                                        go_simp
                                        with_reducible rfl
                                      rotate_left
                                      · simp only [Act.put, List.setIfInBounds_toArray, List.set_cons_zero, List.set_cons_succ, i64_w, i32_w]
                                        rfl
                                      refine pure_ (i := 7) (N := some 47) (v := ?_) (a' := ?_) #[true, false, true, false, false, false, true, true, false, false, false, false, false, false, false, false, false] rfl rfl (any_of HT_.out (by kernel_rfl)) (fun _ _ _ h => h) (Or.inl ⟨by rfl, ?_⟩) ?_ ?_
                                      rotate_left
                                      · intro w'
                                        go_simp
                                        with_reducible rfl
                                      rotate_left
                                      · simp only [Act.put, List.setIfInBounds_toArray, List.set_cons_zero, List.set_cons_succ, i64_w, i32_w]
                                        rfl
                                      refine take_ (i := 1) (N := some 41) (v := ?_) (a' := ?_) #[true, true, true, false, false, false, true, true, false, false, false, false, false, false, false, false, false] rfl rfl (take_ofW HT_.out HW_.out (by kernel_rfl)) (fun _ _ _ h => h) (Or.inl ⟨by rfl, ?_⟩) hHeld ?_ ?_
                                      rotate_left
                                      · rintro w' ⟨s0, s1, s2, s3, s4, s5, s6, s7, s8, s9⟩
                                        go_simp
                                        with_reducible rfl
                                      rotate_left
                                      · simp only [Act.put, List.setIfInBounds_toArray, List.set_cons_zero, List.set_cons_succ, i64_w, i32_w]
                                        rfl
                                      refine take_ (i := 3) (N := some 43) (v := ?_) (a' := ?_) #[true, true, true, true, false, false, true, true, false, false, false, false, false, false, false, false, false] rfl rfl (take_ofW HT_.out HW_.out (by kernel_rfl)) (fun _ _ _ h => h) (Or.inl ⟨by rfl, ?_⟩) hHeld ?_ ?_
                                      rotate_left
                                      · rintro w' ⟨s0, s1, s2, s3, s4, s5, s6, s7, s8, s9⟩
                                        go_simp
                                        with_reducible rfl
                                      rotate_left
                                      · simp only [Act.put, List.setIfInBounds_toArray, List.set_cons_zero, List.set_cons_succ, i64_w, i32_w]
                                        rfl
                                      refine pure_ (i := 4) (N := some 44) (v := ?_) (a' := ?_) #[true, true, true, true, true, false, true, true, false, false, false, false, false, false, false, false, false] rfl rfl (any_of HT_.out (by kernel_rfl)) (fun _ _ _ h => h) (Or.inl ⟨by rfl, ?_⟩) ?_ ?_
                                      rotate_left
                                      · intro w'
                                        go_simp
                                        with_reducible rfl
                                      rotate_left
                                      · simp only [Act.put, List.setIfInBounds_toArray, List.set_cons_zero, List.set_cons_succ, i64_w, i32_w]
                                        rfl
                                      refine take_ (i := 5) (N := some 45) (v := ?_) (a' := ?_) #[true, true, true, true, true, true, true, true, false, false, false, false, false, false, false, false, false] rfl rfl (take_ofW HT_.out HW_.out (by kernel_rfl)) (fun _ _ _ h => h) (Or.inl ⟨by rfl, ?_⟩) hHeld ?_ ?_
                                      rotate_left
                                      · rintro w' ⟨s0, s1, s2, s3, s4, s5, s6, s7, s8, s9⟩
                                        go_simp
                                        with_reducible rfl
                                      rotate_left
                                      · simp only [Act.put, List.setIfInBounds_toArray, List.set_cons_zero, List.set_cons_succ, i64_w, i32_w]
                                        rfl
                                      refine take_ (i := 8) (N := some 48) (v := ?_) (a' := ?_) #[true, true, true, true, true, true, true, true, true, false, false, false, false, false, false, false, false] rfl rfl (take_ofW HT_.out HW_.out (by kernel_rfl)) (fun _ _ _ h => h) (Or.inl ⟨by rfl, ?_⟩) hHeld ?_ ?_
                                      rotate_left
                                      · rintro w' ⟨s0, s1, s2, s3, s4, s5, s6, s7, s8, s9⟩
                                        go_simp
                                        with_reducible rfl
                                      rotate_left
                                      · simp only [Act.put, List.setIfInBounds_toArray, List.set_cons_zero, List.set_cons_succ, i64_w, i32_w]
                                        rfl
                                      refine pure_ (i := 9) (N := some 49) (v := ?_) (a' := ?_) #[true, true, true, true, true, true, true, true, true, true, false, false, false, false, false, false, false] rfl rfl (any_of HT_.out (by kernel_rfl)) (fun _ _ _ h => h) (Or.inl ⟨by rfl, ?_⟩) ?_ ?_
                                      rotate_left
                                      · intro w'
                                        go_simp
                                        with_reducible rfl
                                      rotate_left
                                      · simp only [Act.put, List.setIfInBounds_toArray, List.set_cons_zero, List.set_cons_succ, i64_w, i32_w]
                                        rfl
                                      refine take_ (i := 10) (N := some 50) (v := ?_) (a' := ?_) #[true, true, true, true, true, true, true, true, true, true, true, false, false, false, false, false, false] rfl rfl (take_ofW HT_.out HW_.out (by kernel_rfl)) (fun _ _ _ h => h) (Or.inl ⟨by rfl, ?_⟩) hHeld ?_ ?_
                                      rotate_left
                                      · rintro w' ⟨s0, s1, s2, s3, s4, s5, s6, s7, s8, s9⟩
                                        go_simp
                                        with_reducible rfl
                                      rotate_left
                                      · simp only [Act.put, List.setIfInBounds_toArray, List.set_cons_zero, List.set_cons_succ, i64_w, i32_w]
                                        rfl
                                      refine one_ (i := 11) (N := some 51) #[true, true, true, true, true, true, true, true, true, true, true, true, false, false, false, false, false] rfl rfl (one_of HT_.out (by kernel_rfl)) (by decide) (fun K hK => ?_)
                                      refine goes_ Try.func30 (by kernel_rfl) rfl #[.agg #[.slice A237_0 ((rd_T33 ((rd_T31 l0_1 x26_2).f1) ((rd_T76 t232 x35_3).f2)).f0).length c237_0, .slice A237_1 ((rd_T33 ((rd_T31 l0_1 x26_2).f1) ((rd_T76 t232 x35_3).f2)).f1).length c237_1], .slice A238_0 (rd_L1 x1_2 ((rd_T76 t232 x35_3).f0)).length c238_0] (by rfl) rfl rfl (by (try simp only [List.map_toArray, List.map_cons, List.map_nil]); first | done | rfl | (simp only [List.length_drop, List.length_take]; rfl)) ?_
                                      with_reducible refine (expert_Run.calls k3 _ _ ((rd_T33 ((rd_T31 l0_1 x26_2).f1) ((rd_T76 t232 x35_3).f2)).f0) _ _ ((rd_T33 ((rd_T31 l0_1 x26_2).f1) ((rd_T76 t232 x35_3).f2)).f1) _ _ (rd_L1 x1_2 ((rd_T76 t232 x35_3).f0)) t239 t242 _ ?side1 ?side2 ?side3 ?side4 ?side5 ?side6 A33.out).mono ?_
                                      (case side1 => repeat (first | exact (Kd.C_below HR237_0.out HB.out) | (with_reducible refine Kd.C_alloc ?_ _) | (with_reducible refine Kd.C_drewN ?_ _) | (with_reducible refine Kd.C_drew ?_)))
                                      (case side2 => exact HC237_0.out)
                                      (case side3 => repeat (first | exact (Kd.C_below HR237_1.out HB.out) | (with_reducible refine Kd.C_alloc ?_ _) | (with_reducible refine Kd.C_drewN ?_ _) | (with_reducible refine Kd.C_drew ?_)))
                                      (case side4 => exact HC237_1.out)
                                      (case side5 => repeat (first | exact (by repeat (first | (with_reducible exact HR238_0.out) | (with_reducible refine Kd.C_alloc ?_ _) | (with_reducible refine Kd.C_drewN ?_ _) | (with_reducible refine Kd.C_drew ?_) | exact HR238_0.out)) | (with_reducible refine Kd.C_alloc ?_ _) | (with_reducible refine Kd.C_drewN ?_ _) | (with_reducible refine Kd.C_drew ?_)))
                                      (case side6 => exact HC238_0.out)
                                      rintro e w41 ⟨v240, rfl, ho0, hb⟩
                                      have HS9_ := (hb.cell (World.block_lt_of_cell? _ _ (hHeld.2.2.2.2.2.2.2.2.2))).trans (hHeld.2.2.2.2.2.2.2.2.2)
                                      refine ⟨_, rfl, ?_⟩
                                      have n0_ := Aside0.mk (Kd.V_elder' (by (with_reducible repeat (first | apply Kd.V_alloc | apply Kd.V_drewN | apply Kd.V_drew)); exact HO_1.out) (Kd.R_base ho0) hb)
                                      have n1_ := Aside0.mk (Kd.R_below (by (with_reducible repeat (first | apply Kd.R_alloc | apply Kd.R_drewN | apply Kd.R_drew)); exact HO_8.out) hb)
                                      have n2_ := Aside0.mk (Kd.N_elder' (by (with_reducible repeat (first | apply Kd.N_alloc | apply Kd.N_drewN | apply Kd.N_drew)); exact HO_9.out) (Kd.R_base ho0) hb)
                                      have n3_ := Aside0.mk (Kd.R_below (by (with_reducible repeat (first | apply Kd.R_alloc | apply Kd.R_drewN | apply Kd.R_drew)); exact HO_33.out) hb)
                                      have n4_ := Aside0.mk (Kd.V_elder' (by (with_reducible repeat (first | apply Kd.V_alloc | apply Kd.V_drewN | apply Kd.V_drew)); exact HL238_0.out) (Kd.R_base ho0) hb)
                                      have n5_ := Aside0.mk (Kd.R_lower (Kd.R_newM (M := fun k_ => (w.heap.size ≤ k_)) ho0 (below_size (by repeat (first | (with_reducible first | exact HB.out | apply below_alloc | apply pw_below_drewN | apply below_drew1 | refine below_set ?_ GE227.out | refine below_set ?_ GE231.out | refine below_set ?_ GE236.out) | exact HB.out))) (fun k_ h_ => h_)) (below_size (by repeat (first | (with_reducible first | exact HB.out | apply below_alloc | apply pw_below_drewN | apply below_drew1 | refine below_set ?_ GE227.out | refine below_set ?_ GE231.out | refine below_set ?_ GE236.out) | exact HB.out))))
                                      have n6_ := Aside0.mk (blk_below (g := gb227) (o := .cells #[.int .i64 a0_0, .slice (some ad230) l0_1.length c0_1] 24 (0, 0)) (by (with_reducible repeat (first | refine blk_drewN ?_ _ | refine blk_drew ?_ | refine blk_alloc ?_ _)); exact BK227.out) hb)
                                      have n7_ := Aside0.mk (blk_below (g := gb231) (o := .cells #[.slice A230_0 ((rd_T31 l0_1 x26_2).f0).length c230_0, .slice (some ad237) ((rd_T31 l0_1 x26_2).f1).length c230_1, .int .i64 ((rd_T31 l0_1 x26_2).f2)] 31 (0, 0)) (by (with_reducible repeat (first | refine blk_drewN ?_ _ | refine blk_drew ?_ | refine blk_alloc ?_ _)); exact BK231.out) hb)
                                      have n8_ := Aside0.mk (blk_below (g := gb236) (o := .cells #[.int .i64 ((rd_T76 t232 x35_3).f0), .int .i64 ((rd_T76 t232 x35_3).f1), .int .i64 ((rd_T76 t232 x35_3).f2), .int .i64 ((rd_T76 t232 x35_3).f3)] 76 (0, 0)) (by (with_reducible repeat (first | refine blk_drewN ?_ _ | refine blk_drew ?_ | refine blk_alloc ?_ _)); exact BK236.out) hb)
                                      have n9_ := Aside0.mk (Kd.C_below (by repeat (first | (with_reducible exact HR238_0.out) | (with_reducible refine Kd.C_alloc ?_ _) | (with_reducible refine Kd.C_drewN ?_ _) | (with_reducible refine Kd.C_drew ?_) | exact HR238_0.out)) hb)
                                      have n10_ := Aside0.mk (below_step (by repeat (first | (with_reducible first | exact HB.out | apply below_alloc | apply pw_below_drewN | apply below_drew1 | refine below_set ?_ GE227.out | refine below_set ?_ GE231.out | refine below_set ?_ GE236.out) | exact HB.out)) hb)
                                      clear HO_1
                                      clear HO_8
                                      clear HO_9
                                      clear HO_33
                                      clear HL238_0
                                      clear BK227
                                      clear BK231
                                      clear BK236
                                      clear HR238_0
                                      clear HB
                                      have HO_1 := n0_
                                      have HO_8 := n1_
                                      have HO_9 := n2_
                                      have HO_33 := n3_
                                      have HL238_0 := n4_
                                      have HO241 := n5_
                                      have BK227 := n6_
                                      have BK231 := n7_
                                      have BK236 := n8_
                                      have HR238_0 := n9_
                                      have HB := n10_
                                      clear n0_ n1_ n2_ n3_ n4_ n5_ n6_ n7_ n8_ n9_ n10_
                                      (try clear hb)
                                      (try clear hb2)
                                      (try clear hk)
                                      (try clear hi)
                                      (try clear ho0)
                                      refine hK.out _ _ ⟨(blk_cell BK231.out 0).trans rfl, (blk_cell BK231.out 1).trans rfl, (blk_cell BK231.out 2).trans rfl, (blk_cell BK236.out 0).trans rfl, (blk_cell BK236.out 1).trans rfl, (blk_cell BK236.out 2).trans rfl, (blk_cell BK236.out 3).trans rfl, ((HB.out.cell (World.block_lt_of_cell? w _ hw237_0)).trans hw237_0), ((HB.out.cell (World.block_lt_of_cell? w _ hw237_1)).trans hw237_1), HS9_⟩ (fun hHeld => ?_)
                                      clear hK K
                                      refine norm_ (a' := ?_) ?_ ?_
                                      rotate_left
                                      · show Act.put _ (some 51) _ = _
                                        simp only [Act.put, List.setIfInBounds_toArray, List.set_cons_zero, List.set_cons_succ, i64_w, i32_w]
                                        rfl
                                      refine pure_ (i := 12) (N := some 39) (v := ?_) (a' := ?_) #[true, true, true, true, true, true, true, true, true, true, true, true, true, false, false, false, false] rfl rfl (any_of HT_.out (by kernel_rfl)) (fun _ _ _ h => h) (Or.inl ⟨by rfl, ?_⟩) ?_ ?_
                                      rotate_left
                                      · intro w'
                                        go_simp
                                        with_reducible rfl
                                      rotate_left
                                      · simp only [Act.put, List.setIfInBounds_toArray, List.set_cons_zero, List.set_cons_succ, i64_w, i32_w]
                                        rfl
                                      refine pure_ (i := 13) (N := some 52) (v := ?_) (a' := ?_) #[true, true, true, true, true, true, true, true, true, true, true, true, true, true, false, false, false] rfl rfl (any_of HT_.out (by kernel_rfl)) (fun _ _ _ h => h) (Or.inl ⟨by rfl, ?_⟩) ?_ ?_
                                      rotate_left
                                      · intro w'
                                        go_simp
                                        with_reducible rfl
                                      rotate_left
                                      · simp only [Act.put, List.setIfInBounds_toArray, List.set_cons_zero, List.set_cons_succ, i64_w, i32_w]
                                        rfl
                                      refine pure_ (i := 14) (N := some 53) (v := ?_) (a' := ?_) #[true, true, true, true, true, true, true, true, true, true, true, true, true, true, true, false, false] rfl rfl (any_of HT_.out (by kernel_rfl)) (fun _ _ _ h => h) (Or.inl ⟨by rfl, ?_⟩) ?_ ?_
                                      rotate_left
                                      · intro w'
                                        go_simp
                                        with_reducible rfl
                                      rotate_left
                                      · simp only [Act.put, List.setIfInBounds_toArray, List.set_cons_zero, List.set_cons_succ, i64_w, i32_w]
                                        rfl
                                      refine pure_ (i := 15) (N := some 12) (v := ?_) (a' := ?_) #[true, true, true, true, true, true, true, true, true, true, true, true, true, true, true, true, false] rfl rfl (any_of HT_.out (by kernel_rfl)) (fun _ _ _ h => h) (Or.inl ⟨by rfl, ?_⟩) ?_ ?_
                                      rotate_left
                                      · intro w'
                                        go_simp
                                        with_reducible rfl
                                      rotate_left
                                      · simp only [Act.put, List.setIfInBounds_toArray, List.set_cons_zero, List.set_cons_succ, i64_w, i32_w]
                                        rfl
                                      refine pure_ (i := 16) (N := some 13) (v := ?_) (a' := ?_) #[true, true, true, true, true, true, true, true, true, true, true, true, true, true, true, true, true] rfl rfl (any_of HT_.out (by kernel_rfl)) (fun _ _ _ h => h) (Or.inl ⟨by rfl, ?_⟩) ?_ ?_
                                      rotate_left
                                      · intro w'
                                        go_simp
                                        with_reducible rfl
                                      rotate_left
                                      · simp only [Act.put, List.setIfInBounds_toArray, List.set_cons_zero, List.set_cons_succ, i64_w, i32_w]
                                        rfl
                                      refine done_ (done_of HT_.out (by kernel_rfl)) ?_
                                      obtain ⟨Ao43, co43, eo43⟩ := Kd.R_slice HO241.out
                                      subst eo43
                                      try go_wp2_with (first | ((with_reducible refine gate_builtin (b := .append) (xs := #[.tmp 54, .tmp 56]) rfl ?_); at_builtin; refine Kd.N_append (Kd.slice 3 (Kd.int .i64)) (w0 := w) w.heap.size rfl (.tmp 54) (.tmp 56) 25 54 (.slice none 0 0) 24 rfl Try.underlying25 info54 rfl (by decide) (by omega) u9 x9_3 t239 [.slice Ao43 t239.length co43] (fun k_ => (P1_ k_ ∨ w.heap.size ≤ k_) ∧ some k_ ≠ (.slice (some ad235) t232.length co25 : Value).ownBlock ∧ some k_ ≠ (.slice (some ad235) t232.length co25 : Value).ownBlock ∧ k_ ≠ gb227 ∧ k_ ≠ gb231 ∧ k_ ≠ gb236) (fun k_ => ((fun k_ => (P1_ k_ ∨ w.heap.size ≤ k_) ∧ some k_ ≠ (.slice (some ad235) t232.length co25 : Value).ownBlock ∧ some k_ ≠ (.slice (some ad235) t232.length co25 : Value).ownBlock ∧ k_ ≠ gb227 ∧ k_ ≠ gb231 ∧ k_ ≠ gb236)) k_ ∧ some k_ ≠ (u9 : Value).ownBlock) rfl rfl ?aP (fun _ hk => hk) ?aF ?aO ?aB ?aS ?aL ?_; (case aP => exact (FK_slice_own (Kd.R_mono (ok' := (fun k_ => ((fun k_ => (P1_ k_ ∨ w.heap.size ≤ k_) ∧ some k_ ≠ (.slice (some ad235) t232.length co25 : Value).ownBlock ∧ some k_ ≠ (.slice (some ad235) t232.length co25 : Value).ownBlock ∧ k_ ≠ gb227 ∧ k_ ≠ gb231 ∧ k_ ≠ gb236)) k_ ∧ some k_ ≠ (u9 : Value).ownBlock)) (Kd.R_types (Kd.R_types (Kd.R_types (Kd.R_apart' (Kd.R_apart' (Kd.R_apart' (HO241.out) (Kd.R_typed HO_8.out) (by decide)) (Kd.R_typed HO_33.out) (by decide)) (Kd.N_typed HO_9.out) (by decide)) BK227.out (by decide)) BK231.out (by decide)) BK236.out (by decide)) (fun k_ hk => ⟨⟨(.inr (hk.1.1.1.1.1.1.1)), ⟨hk.1.1.1.1.1.2, ⟨hk.1.1.1.1.2, ⟨hk.1.1.2, ⟨hk.1.2, hk.2⟩⟩⟩⟩⟩, hk.1.1.1.2⟩)))); (case aB => exact (by repeat (first | (with_reducible first | exact HB.out | apply below_alloc | apply pw_below_drewN | apply below_drew1 | refine below_set ?_ GE227.out | refine below_set ?_ GE231.out | refine below_set ?_ GE236.out) | exact HB.out))); (case aF => exact (fun k_ hk => ⟨(.inr (Nat.le_trans (below_size (by repeat (first | (with_reducible first | exact HB.out | apply below_alloc | apply pw_below_drewN | apply below_drew1 | refine below_set ?_ GE227.out | refine below_set ?_ GE231.out | refine below_set ?_ GE236.out) | exact HB.out))) hk)), Kd.fresh' (Kd.R_lt (by (with_reducible repeat (first | apply Kd.R_alloc | apply Kd.R_drewN | apply Kd.R_drew)); exact HO_8.out)) k_ hk, Kd.fresh' (Kd.R_lt (by (with_reducible repeat (first | apply Kd.R_alloc | apply Kd.R_drewN | apply Kd.R_drew)); exact HO_33.out)) k_ hk, Kd.freshB (g := gb227) (o := .cells #[.int .i64 a0_0, .slice (some ad230) l0_1.length c0_1] 24 (0, 0)) (by (with_reducible repeat (first | refine blk_drewN ?_ _ | refine blk_drew ?_ | refine blk_alloc ?_ _)); exact BK227.out) k_ hk, Kd.freshB (g := gb231) (o := .cells #[.slice A230_0 ((rd_T31 l0_1 x26_2).f0).length c230_0, .slice (some ad237) ((rd_T31 l0_1 x26_2).f1).length c230_1, .int .i64 ((rd_T31 l0_1 x26_2).f2)] 31 (0, 0)) (by (with_reducible repeat (first | refine blk_drewN ?_ _ | refine blk_drew ?_ | refine blk_alloc ?_ _)); exact BK231.out) k_ hk, Kd.freshB (g := gb236) (o := .cells #[.int .i64 ((rd_T76 t232 x35_3).f0), .int .i64 ((rd_T76 t232 x35_3).f1), .int .i64 ((rd_T76 t232 x35_3).f2), .int .i64 ((rd_T76 t232 x35_3).f3)] 76 (0, 0)) (by (with_reducible repeat (first | refine blk_drewN ?_ _ | refine blk_drew ?_ | refine blk_alloc ?_ _)); exact BK236.out) k_ hk⟩)); (case aO => exact (by (with_reducible repeat (first | apply Kd.N_alloc | apply Kd.N_drewN | apply Kd.N_drew)); exact Kd.N_mono HO_9.out (fun _ hk => ⟨hk.1.1, ⟨hk.1.2.1, ⟨hk.1.2.2.1, ⟨hk.1.2.2.2.1, ⟨hk.1.2.2.2.2.1, hk.1.2.2.2.2.2⟩⟩⟩⟩⟩))); (case aS => exact (below_size (by repeat (first | (with_reducible first | exact HB.out | apply below_alloc | apply pw_below_drewN | apply below_drew1 | refine below_set ?_ GE227.out | refine below_set ?_ GE231.out | refine below_set ?_ GE236.out) | exact HB.out)))); (case aL => have := LMc34.out; omega); intro v244 w42 ho hb hg hat; rw [← Ny243.out] at ho; have n0_ := Aside0.mk (Kd.V_afterv (ok := (fun k_ => (P1_ k_ ∨ w.heap.size ≤ k_) ∧ some k_ ≠ (.slice (some ad235) t232.length co25 : Value).ownBlock ∧ some k_ ≠ (.slice (some ad235) t232.length co25 : Value).ownBlock ∧ some k_ ≠ (.slice Ao43 t239.length co43 : Value).ownBlock ∧ k_ ≠ gb227 ∧ k_ ≠ gb231 ∧ k_ ≠ gb236)) (by (with_reducible repeat (first | apply Kd.V_alloc | apply Kd.V_drewN | apply Kd.V_drew)); exact Kd.V_mono HO_1.out (fun _ hk => ⟨⟨hk.1.1, ⟨hk.1.2.1, ⟨hk.1.2.2.2.1, ⟨hk.2, ⟨hk.1.2.2.2.2.1, ⟨hk.1.2.2.2.2.2.1, hk.1.2.2.2.2.2.2⟩⟩⟩⟩⟩⟩, hk.1.2.2.1⟩)) hg hat); have n1_ := Aside0.mk (Kd.R_over' (by (with_reducible repeat (first | apply Kd.R_alloc | apply Kd.R_drewN | apply Kd.R_drew)); exact HO_8.out) (Kd.N_typed (by (with_reducible repeat (first | apply Kd.N_alloc | apply Kd.N_drewN | apply Kd.N_drew)); exact HO_9.out)) (by decide) hg); have n2_ := Aside0.mk (Kd.R_over' (by (with_reducible repeat (first | apply Kd.R_alloc | apply Kd.R_drewN | apply Kd.R_drew)); exact HO_33.out) (Kd.N_typed (by (with_reducible repeat (first | apply Kd.N_alloc | apply Kd.N_drewN | apply Kd.N_drew)); exact HO_9.out)) (by decide) hg); have n3_ := Aside0.mk (blk_grown (g := gb227) (o := .cells #[.int .i64 a0_0, .slice (some ad230) l0_1.length c0_1] 24 (0, 0)) (by (with_reducible repeat (first | refine blk_drewN ?_ _ | refine blk_drew ?_ | refine blk_alloc ?_ _)); exact BK227.out) hg (Kd.N_ne HO_9.out BK227.out (by decide))); have n4_ := Aside0.mk (blk_grown (g := gb231) (o := .cells #[.slice A230_0 ((rd_T31 l0_1 x26_2).f0).length c230_0, .slice (some ad237) ((rd_T31 l0_1 x26_2).f1).length c230_1, .int .i64 ((rd_T31 l0_1 x26_2).f2)] 31 (0, 0)) (by (with_reducible repeat (first | refine blk_drewN ?_ _ | refine blk_drew ?_ | refine blk_alloc ?_ _)); exact BK231.out) hg (Kd.N_ne HO_9.out BK231.out (by decide))); have n5_ := Aside0.mk (blk_grown (g := gb236) (o := .cells #[.int .i64 ((rd_T76 t232 x35_3).f0), .int .i64 ((rd_T76 t232 x35_3).f1), .int .i64 ((rd_T76 t232 x35_3).f2), .int .i64 ((rd_T76 t232 x35_3).f3)] 76 (0, 0)) (by (with_reducible repeat (first | refine blk_drewN ?_ _ | refine blk_drew ?_ | refine blk_alloc ?_ _)); exact BK236.out) hg (Kd.N_ne HO_9.out BK236.out (by decide))); have n6_ := Aside0.mk (Kd.V_afterv (ok := (fun k_ => (P1_ k_ ∨ w.heap.size ≤ k_) ∧ some k_ ≠ (.slice (some ad235) t232.length co25 : Value).ownBlock ∧ some k_ ≠ (.slice (some ad235) t232.length co25 : Value).ownBlock ∧ some k_ ≠ (.slice Ao43 t239.length co43 : Value).ownBlock ∧ k_ ≠ gb227 ∧ k_ ≠ gb231 ∧ k_ ≠ gb236)) (by (with_reducible repeat (first | apply Kd.V_alloc | apply Kd.V_drewN | apply Kd.V_drew)); exact Kd.V_mono HL238_0.out (fun _ hk => ⟨⟨hk.1.1, ⟨hk.1.2.1, ⟨hk.1.2.2.2.1, ⟨hk.2, ⟨hk.1.2.2.2.2.1, ⟨hk.1.2.2.2.2.2.1, hk.1.2.2.2.2.2.2⟩⟩⟩⟩⟩⟩, hk.1.2.2.1⟩)) hg hat); have n7_ := Aside0.mk (hb); have n8_ := Aside0.mk (ho); clear HO_1; clear HO_8; clear HO_33; clear BK227; clear BK231; clear BK236; clear HL238_0; clear HB; clear HO_9; clear HO241; have HO_1 := n0_; have HO_8 := n1_; have HO_33 := n2_; have BK227 := n3_; have BK231 := n4_; have BK236 := n5_; have HL238_0 := n6_; have HB := n7_; have HO245 := n8_; clear n0_ n1_ n2_ n3_ n4_ n5_ n6_ n7_ n8_; clear ho hb hg hat))
                                      go_roundg k3
                                      case measure => have := HJ2.out; have := HK2.out; have := HK3.out; omega
                                      case rel => exact ⟨(y243), (wrap64 (x35_3 + 1)), (by first | rfl | (simp; done) | (simp [*]; done)), H', ⟨by have := HJ2.out; have := HK2.out; have := HK3.out; omega⟩, ⟨by (with_reducible repeat (first | apply Kd.V_alloc | apply Kd.V_drewN | apply Kd.V_drew)); exact Kd.V_mono HO_1.out (fun _ hk => ⟨hk.1.1, ⟨hk.1.2.1, ⟨hk.2, ⟨hk.1.2.2.1, ⟨hk.1.2.2.2.2.1, hk.1.2.2.2.2.2.1⟩⟩⟩⟩⟩)⟩, ⟨by (with_reducible repeat (first | apply Kd.R_alloc | apply Kd.R_drewN | apply Kd.R_drew)); exact Kd.R_mono HO_8.out (fun _ hk => hk.1)⟩, ⟨by (with_reducible repeat (first | apply Kd.N_alloc | apply Kd.N_drewN | apply Kd.N_drew)); exact Kd.N_mono HO245.out (fun _ hk => ⟨hk.1, ⟨hk.2.1, ⟨hk.2.2.1, ⟨hk.2.2.2.1, hk.2.2.2.2.1⟩⟩⟩⟩)⟩, ⟨by (with_reducible repeat (first | apply Kd.R_alloc | apply Kd.R_drewN | apply Kd.R_drew)); exact Kd.R_mono HO_33.out (fun _ hk => hk.1)⟩, ⟨by (with_reducible repeat (first | refine blk_drewN ?_ _ | refine blk_drew ?_ | refine blk_alloc ?_ _)); exact BK227.out⟩, ⟨by (with_reducible repeat (first | refine blk_drewN ?_ _ | refine blk_drew ?_ | refine blk_alloc ?_ _)); exact BK231.out⟩, ⟨by repeat (first | (with_reducible first | exact HB.out | apply below_alloc | apply pw_below_drewN | apply below_drew1 | refine below_set ?_ GE227.out | refine below_set ?_ GE231.out | refine below_set ?_ GE236.out) | exact HB.out)⟩⟩
                                    · rw [if_neg c34] at H
                                      exact absurd H (by simp)
                                  · rw [if_neg c32] at H
                                    exact absurd H (by simp)
                                · rw [if_neg c31] at H
                                  exact absurd H (by simp)
                              · rw [if_neg c30] at H
                                exact absurd H (by simp)
                            · rw [if_neg c29] at H
                              exact absurd H (by simp)
                          · rw [if_neg c28] at H
                            exact absurd H (by simp)
                        · rw [if_neg c27] at H
                          exact absurd H (by simp)
                      · rw [if_neg c26] at H
                        have c26b0 : decide (x35_3 < (t232.length : Int)) = false := decide_eq_false c26
                        clear c26
                        replace H := Option.bind_eq_some_iff.mp H
                        obtain ⟨t246, A440, H⟩ := H
                        replace H : (model_Forward.l0 k3 t246 l0_1 (l0_1.length : Int) (wrap64 (x26_2 + 1))) = some (r1, r2) := H
                        have A44 := Aside0.mk A440
                        clear A440
                        have H' := Aside0.mk H
                        clear H
                        obtain ⟨Ao45, co45, eo45⟩ := Kd.N_slice HO_9.out
                        subst eo45
                        go_wp2_with (first | ((with_reducible refine gate_callee (f := 31) rfl ?_); refine goesL_ (some 62) rfl rfl Try.func31 (by kernel_rfl) rfl #[.slice Ao23 x1_2.length co23, .slice Ao25 t232.length co25, .slice Ao45 x9_3.length co45] rfl (by (try simp only [List.map_toArray, List.map_cons, List.map_nil]); first | done | rfl | (simp only [List.length_drop, List.length_take]; rfl)) ?_; (with_reducible refine (model_Combine.calls k3 (fun k_ => ((P1_ k_ ∨ w.heap.size ≤ k_) ∧ (some k_ ≠ (.slice Ao25 t232.length co25 : Value).ownBlock ∧ (some k_ ≠ (.slice Ao45 x9_3.length co45 : Value).ownBlock ∧ (some k_ ≠ (.slice Ao25 t232.length co25 : Value).ownBlock ∧ (k_ ≠ gb227 ∧ k_ ≠ gb231)))))) _ _ x1_2 _ _ t232 _ _ x9_3 t246 _ ?side1 ?side2 ?side3 ?side4 ?side5 A44.out).mono ?_); (case side1 => exact HO_1.out); (case side2 => repeat (first | exact (Kd.R_reads' HO_8.out).2.2 | (with_reducible refine Kd.C_alloc ?_ _) | (with_reducible refine Kd.C_drewN ?_ _) | (with_reducible refine Kd.C_drew ?_))); (case side3 => exact (Kd.R_reads' HO_8.out).2.1); (case side4 => repeat (first | exact (Kd.N_reads' HO_9.out).2.2 | (with_reducible refine Kd.C_alloc ?_ _) | (with_reducible refine Kd.C_drewN ?_ _) | (with_reducible refine Kd.C_drew ?_))); (case side5 => exact (Kd.N_reads' HO_9.out).2.1); rintro e w46 ⟨v247, rfl, ho0, hb⟩; refine ⟨_, rfl, ?_⟩; have n0_ := Aside0.mk (Kd.V_elder' (by (with_reducible repeat (first | apply Kd.V_alloc | apply Kd.V_drewN | apply Kd.V_drew)); exact HO_1.out) (Kd.N_base ho0) hb); have n1_ := Aside0.mk (Kd.R_below (by (with_reducible repeat (first | apply Kd.R_alloc | apply Kd.R_drewN | apply Kd.R_drew)); exact HO_8.out) hb); have n2_ := Aside0.mk (Kd.N_elder' (by (with_reducible repeat (first | apply Kd.N_alloc | apply Kd.N_drewN | apply Kd.N_drew)); exact HO_9.out) (Kd.N_base ho0) hb); have n3_ := Aside0.mk (Kd.R_below (by (with_reducible repeat (first | apply Kd.R_alloc | apply Kd.R_drewN | apply Kd.R_drew)); exact HO_33.out) hb); have n4_ := Aside0.mk (Kd.N_lower (Kd.N_mono (ok' := fun k_ => (P1_ k_ ∨ w.heap.size ≤ k_) ∧ some k_ ≠ (.slice Ao25 t232.length co25 : Value).ownBlock ∧ some k_ ≠ (.slice Ao45 x9_3.length co45 : Value).ownBlock ∧ some k_ ≠ (.slice Ao25 t232.length co25 : Value).ownBlock ∧ k_ ≠ gb227 ∧ k_ ≠ gb231) ho0 (fun k_ hk_ => ⟨Or.elim hk_ (fun hs_ => hs_.1) (fun hn_ => (.inr (Nat.le_trans (below_size (by repeat (first | (with_reducible first | exact HB.out | apply below_alloc | apply pw_below_drewN | apply below_drew1 | refine below_set ?_ GE227.out | refine below_set ?_ GE231.out) | exact HB.out))) hn_))), Or.elim hk_ (fun hs_ => hs_.2.1) (fun hn_ => (Kd.fresh' (Kd.R_lt (by (with_reducible repeat (first | apply Kd.R_alloc | apply Kd.R_drewN | apply Kd.R_drew)); exact HO_8.out)) k_ hn_)), Or.elim hk_ (fun hs_ => hs_.2.2.1) (fun hn_ => (Kd.fresh' (Kd.N_lt (by (with_reducible repeat (first | apply Kd.N_alloc | apply Kd.N_drewN | apply Kd.N_drew)); exact HO_9.out)) k_ hn_)), Or.elim hk_ (fun hs_ => hs_.2.2.2.1) (fun hn_ => (Kd.fresh' (Kd.R_lt (by (with_reducible repeat (first | apply Kd.R_alloc | apply Kd.R_drewN | apply Kd.R_drew)); exact HO_33.out)) k_ hn_)), Or.elim hk_ (fun hs_ => hs_.2.2.2.2.1) (fun hn_ => (Kd.freshB (g := gb227) (o := .cells #[.int .i64 a0_0, .slice (some ad230) l0_1.length c0_1] 24 (0, 0)) (by (with_reducible repeat (first | refine blk_drewN ?_ _ | refine blk_drew ?_ | refine blk_alloc ?_ _)); exact BK227.out) k_ hn_)), Or.elim hk_ (fun hs_ => hs_.2.2.2.2.2) (fun hn_ => (Kd.freshB (g := gb231) (o := .cells #[.slice A230_0 ((rd_T31 l0_1 x26_2).f0).length c230_0, .slice A230_1 ((rd_T31 l0_1 x26_2).f1).length c230_1, .int .i64 ((rd_T31 l0_1 x26_2).f2)] 31 (0, 0)) (by (with_reducible repeat (first | refine blk_drewN ?_ _ | refine blk_drew ?_ | refine blk_alloc ?_ _)); exact BK231.out) k_ hn_))⟩)) (below_size (by repeat (first | (with_reducible first | exact HB.out | apply below_alloc | apply pw_below_drewN | apply below_drew1 | refine below_set ?_ GE227.out | refine below_set ?_ GE231.out) | exact HB.out)))); have n5_ := Aside0.mk (blk_below (g := gb227) (o := .cells #[.int .i64 a0_0, .slice (some ad230) l0_1.length c0_1] 24 (0, 0)) (by (with_reducible repeat (first | refine blk_drewN ?_ _ | refine blk_drew ?_ | refine blk_alloc ?_ _)); exact BK227.out) hb); have n6_ := Aside0.mk (blk_below (g := gb231) (o := .cells #[.slice A230_0 ((rd_T31 l0_1 x26_2).f0).length c230_0, .slice A230_1 ((rd_T31 l0_1 x26_2).f1).length c230_1, .int .i64 ((rd_T31 l0_1 x26_2).f2)] 31 (0, 0)) (by (with_reducible repeat (first | refine blk_drewN ?_ _ | refine blk_drew ?_ | refine blk_alloc ?_ _)); exact BK231.out) hb); have n7_ := Aside0.mk (below_step (by repeat (first | (with_reducible first | exact HB.out | apply below_alloc | apply pw_below_drewN | apply below_drew1 | refine below_set ?_ GE227.out | refine below_set ?_ GE231.out) | exact HB.out)) hb); clear HO_1; clear HO_8; clear HO_9; clear HO_33; clear BK227; clear BK231; clear HB; have HO_1 := n0_; have HO_8 := n1_; have HO_9 := n2_; have HO_33 := n3_; have HO248 := n4_; have BK227 := n5_; have BK231 := n6_; have HB := n7_; clear n0_ n1_ n2_ n3_ n4_ n5_ n6_ n7_; (try clear hb); (try clear hb2); (try clear hk); (try clear hi); (try clear ho0)))
                        go_roundg k3
                        case measure => have := HJ2.out; have := HK2.out; have := HK3.out; omega
                        case rel => exact ⟨(t246), (wrap64 (x26_2 + 1)), (by first | rfl | (simp; done) | (simp [*]; done)), H', ⟨by have := HJ2.out; have := HK2.out; have := HK3.out; omega⟩, ⟨Kd.N_V (by (with_reducible repeat (first | apply Kd.N_alloc | apply Kd.N_drewN | apply Kd.N_drew)); exact Kd.N_mono HO248.out (fun _ hk => ⟨hk.1, hk.2.2.2.2.1⟩))⟩, ⟨by (with_reducible repeat (first | refine blk_drewN ?_ _ | refine blk_drew ?_ | refine blk_alloc ?_ _)); exact BK227.out⟩, ⟨by repeat (first | (with_reducible first | exact HB.out | apply below_alloc | apply pw_below_drewN | apply below_drew1 | refine below_set ?_ GE227.out | refine below_set ?_ GE231.out) | exact HB.out)⟩⟩
                · rw [if_neg c18] at H
                  exact absurd H (by simp)
              · rw [if_neg c17] at H
                exact absurd H (by simp)
            · rw [if_neg c16] at H
              have c16b0 : decide (x26_2 < (l0_1.length : Int)) = false := decide_eq_false c16
              clear c16
              simp only [Option.some.injEq, Prod.mk.injEq] at H
              obtain ⟨rfl, rfl⟩ := H
              go_wp2
              go_ret2
              exact ⟨_, by first | rfl | (simp [errW_none, errW_some] <;> rfl) | (simp [*, errW_none, errW_some] <;> rfl), by (with_reducible repeat (first | apply Kd.V_alloc | apply Kd.V_drewN | apply Kd.V_drew)); exact Kd.V_mono HO_1.out (fun _ hk => hk.1), by repeat (first | (with_reducible first | exact HB.out | apply below_alloc | apply pw_below_drewN | apply below_drew1 | refine below_set ?_ GE227.out) | exact HB.out)⟩

-- NOT PRINTED: function 8 (switchboardtop_lives)

-- NOT PRINTED: function 67 (abi_NoEscape)

-- NOT PRINTED: function 39 (strings_Builder_copyCheck)

-- NOT PRINTED: function 20 (strings_Builder_WriteString)

/-! ### chunk_four: function 21 -/
def chunk_four.f (a0 : Int) : Option (ByteArray) := some (strOfNums (([(a0) % 256, (a0 / 256) % 256, (a0 / 65536) % 256, (a0 / 16777216) % 256] : List Int)))
set_option maxHeartbeats 8000000 in
set_option maxRecDepth 100000 in
theorem chunk_four.calls (a0 : Int) (r : ByteArray) (w : World) (h : chunk_four.f a0 = some r) :
    Calls Try.prog 21 #[.int .i64 a0] w fun e w' => e = .returned (.string r) ∧ Below w.heap.size w w' := by
  have HB := Aside0.mk (Below.refl w.heap.size w)
  have H : (some (strOfNums (([(a0) % 256, (a0 / 256) % 256, (a0 / 65536) % 256, (a0 / 16777216) % 256] : List Int)))) = some r := h
  clear h
  obtain ⟨y275, hy275⟩ : ∃ y_ : List Int, y_ = (([(a0) % 256, (a0 / 256) % 256, (a0 / 65536) % 256, (a0 / 16777216) % 256] : List Int)) := ⟨_, rfl⟩
  replace H : (some (strOfNums y275)) = some r := by first | (rw [hy275]; with_reducible exact H) | (have H2_ := (Option.bind_some _ _).symm.trans H; rw [hy275]; with_reducible exact H2_) | (have H2_ := (Option.bind_some _ _).symm.trans H; with_reducible exact H2_) | with_reducible exact H | (rw [hy275]; exact H) | exact H
  have Ny275 := Aside0.mk hy275
  clear hy275
  obtain rfl := Option.some.inj H
  go_enter Try.func21, Try.ntmps21
  go_wp2_with (first | ((with_reducible refine gate_dst (N := 14) rfl ?_); refine Kd.R_lit (Kd.int .u8) _ 5 ?hg (N := 14) ?hd (xs := ([(a0) % 256, (a0 / 256) % 256, (a0 / 65536) % 256, (a0 / 16777216) % 256] : List Int)) (inner := [.int .u8 ((a0) % 256), .int .u8 ((a0 / 256) % 256), .int .u8 ((a0 / 65536) % 256), .int .u8 ((a0 / 16777216) % 256)]) (ok := fun _ => True) (okp := fun _ => True) ?hr ?hp (fun _ hk => hk) trivial (Below.refl _ _) (Nat.le_refl _) (by simp) ?_; (case hd => rfl); (case hg => rfl); (case hr => first | (go_simp; done) | (go_simp; rfl)); (case hp => exact (Reps.one (show Kd.M (Kd.int .u8) _ _ _ ((a0) % 256) [.int .u8 ((a0) % 256)] from rfl) (Reps.one (show Kd.M (Kd.int .u8) _ _ _ ((a0 / 256) % 256) [.int .u8 ((a0 / 256) % 256)] from rfl) (Reps.one (show Kd.M (Kd.int .u8) _ _ _ ((a0 / 65536) % 256) [.int .u8 ((a0 / 65536) % 256)] from rfl) (Reps.one (show Kd.M (Kd.int .u8) _ _ _ ((a0 / 16777216) % 256) [.int .u8 ((a0 / 16777216) % 256)] from rfl) (Reps.none _ _)))))); intro v276 w2 ho3 hb hg_ hnew_; clear hg_ hnew_; (first | rw [← Ny275.out] at ho3 | (simp only [Int.reduceToNat] at ho3; rw [← Ny275.out] at ho3)); have n0_ := Aside0.mk (Kd.R_lower ho3 (below_size (by repeat (first | (with_reducible first | exact HB.out | apply below_alloc | apply pw_below_drewN | apply below_drew1) | exact HB.out)))); have n1_ := Aside0.mk (below_step (by repeat (first | (with_reducible first | exact HB.out | apply below_alloc | apply pw_below_drewN | apply below_drew1) | exact HB.out)) hb); clear HB; have HO277 := n0_; have HB := n1_; clear n0_ n1_; clear hb ho3; have hcv4 := own_string (P := Try.prog) Try.underlying58 Try.underlying5 Try.underlying9 (Kd.own_of_R HO277.out)))
  go_ret
  exact ⟨by first | rfl | (simp [errW_none, errW_some] <;> rfl) | (simp [*, errW_none, errW_some] <;> rfl), by repeat (first | (with_reducible first | exact HB.out | apply below_alloc | apply pw_below_drewN | apply below_drew1) | exact HB.out)⟩

-- NOT PRINTED: function 22 (strings_Builder_String)

-- NOT PRINTED: function 23 (crc_Sum)

-- NOT PRINTED: function 9 (chunk_Export)

end Go.Proofs.Ytfipiohchnaglaa.Pt
