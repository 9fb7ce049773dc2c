-- Laid by wip/xprint.py, a program of this session that runs the kit's print with some contracts given by hand; not a text of print.sh. Lean checks it.
import Derived.Test.YtlicglgogklnkaaPr0
import Derived.Test.YtlicglgogklnkaaPr2
import Derived.Test.YtlicglgogklnkaaPr5
import Derived.Test.YtlicglgogklnkaaPr7
import Derived.Test.YtlicglgogklnkaaPr8
namespace Go.Proofs.Ytlicglgogklnkaa.Pr
open Go.RowKit Go.Proofs.YtlicglgogklnkaaW.PrintWords Go.Proofs.YtlicglgogklnkaaW.PrintLast Go.Proofs.YtlicglgogklnkaaW.PrintMore
attribute [local go_sem] max2_int min2_int max_two min_two max_three min_three max_four min_four   -- for this text's walks alone
set_option linter.unusedVariables false
set_option linter.unusedSimpArgs false

/-! ### model_Forward: function 12 -/
mutual
def model_Forward.j0 : Nat → List (List Int) → Bool → Int → List (S37) → Option ((List (List Int)) × Int)
 | 0, _, _, _, _ => none
 | k + 1, x1, x22, x212000, x212001 => if x22 = true then (some (([] : List (List Int)), 1)) else (model_Forward.l0 k x1 x212001 (x212001.length : Int) 0)
def model_Forward.l0 : Nat → List (List Int) → List (S37) → Int → Int → Option ((List (List Int)) × Int)
 | 0, _, _, _, _ => none
 | k + 1, x1, x24, x25, x26 => if x26 < x25 then (if 0 ≤ x26 then (if x26 < (x24.length : Int) then ((model_Parts.f k ((rd_T37 x24 x26).f0) ((rd_T37 x24 x26).f1) ((rd_T37 x24 x26).f2) x1).bind fun t216 => (model_Forward.l1 k x1 t216 ([] : List (List Int)) x24 x25 x26 t216 (t216.length : Int) 0 ((rd_T37 x24 x26).f0) ((rd_T37 x24 x26).f1) ((rd_T37 x24 x26).f2))) else (none)) else (none)) else (some (x1, 0))
def model_Forward.l1 : Nat → List (List Int) → List (S42) → List (List Int) → List (S37) → Int → Int → List (S42) → Int → Int → List (List Int) → List (S46) → Int → Option ((List (List Int)) × Int)
 | 0, _, _, _, _, _, _, _, _, _, _, _, _ => none
 | k + 1, x1, x8, x9, x24, x25, x26, x33, x34, x35, x216000, x216001, x216002 => if x35 < x34 then (if 0 ≤ x35 then (if x35 < (x33.length : Int) then (if 0 ≤ ((rd_T42 x33 x35).f2) then (if ((rd_T42 x33 x35).f2) < (x216001.length : Int) then (if 0 ≤ ((rd_T42 x33 x35).f0) then (if ((rd_T42 x33 x35).f0) < (x1.length : Int) then ((expert_Run.f k ((rd_T46 x216001 ((rd_T42 x33 x35).f2)).f0) ((rd_T46 x216001 ((rd_T42 x33 x35).f2)).f1) (rd_L1 x1 ((rd_T42 x33 x35).f0))).bind fun bt223 => (if x9.length < 5864062014805 then (model_Forward.l1 k x1 x8 (x9 ++ [bt223.1]) x24 x25 x26 x33 x34 (wrap64 (x35 + 1)) x216000 x216001 x216002) else (none))) else (none)) else (none)) else (none)) else (none)) else (none)) else (none)) else ((model_Combine.f k x1 x8 x9).bind fun t230 => (model_Forward.l0 k t230 x24 x25 (wrap64 (x26 + 1))))
end
def model_Forward.f (k : Nat) (a0_0 : Int) (l0_1 : List (S37)) (l1 : List (List Int)) : Option ((List (List Int)) × Int) := (model_Right.f a0_0 l0_1).bind fun t212 => (if t212 = true then ((model_Tokens.f a0_0 l0_1 l1).bind fun t213 => (model_Forward.j0 k l1 (!t213) a0_0 l0_1)) else (model_Forward.j0 k l1 true a0_0 l0_1))
theorem model_Forward.mono_l : ∀ k, (∀ y0 y1 y2 y3, LeO (model_Forward.j0 k y0 y1 y2 y3) (model_Forward.j0 (k + 1) y0 y1 y2 y3)) ∧ (∀ y0 y1 y2 y3, LeO (model_Forward.l0 k y0 y1 y2 y3) (model_Forward.l0 (k + 1) y0 y1 y2 y3)) ∧ (∀ y0 y1 y2 y3 y4 y5 y6 y7 y8 y9 y10 y11, LeO (model_Forward.l1 k y0 y1 y2 y3 y4 y5 y6 y7 y8 y9 y10 y11) (model_Forward.l1 (k + 1) y0 y1 y2 y3 y4 y5 y6 y7 y8 y9 y10 y11))
 | 0 => ⟨fun _ _ _ _ r h => by simp [model_Forward.j0] at h, fun _ _ _ _ r h => by simp [model_Forward.l0] at h, fun _ _ _ _ _ _ _ _ _ _ _ _ r h => by simp [model_Forward.l1] at h⟩
 | k + 1 => by
  obtain ⟨ih0, ih1, ih2⟩ := model_Forward.mono_l k
  refine ⟨?_, ?_, ?_⟩
  ·
   intro y0 y1 y2 y3
   unfold model_Forward.j0
   repeat' first
   | (with_reducible exact ih0 _ _ _ _)
   | (with_reducible exact ih1 _ _ _ _)
   | (with_reducible exact ih2 _ _ _ _ _ _ _ _ _ _ _ _)
   | (with_reducible exact expert_Run.mono _ _ _ _)
   | (with_reducible exact model_Combine.mono _ _ _ _)
   | (with_reducible exact model_Parts.mono _ _ _ _ _)
   | (with_reducible exact LeO.refl _)
   | (with_reducible exact LeO.none _)
   | (with_reducible refine LeO.ite ?_ ?_)
   | (with_reducible refine LeO.bind ?_ (fun _ => ?_))
   | exact ih0 _ _ _ _
   | exact ih1 _ _ _ _
   | exact ih2 _ _ _ _ _ _ _ _ _ _ _ _
   | exact expert_Run.mono _ _ _ _
   | exact model_Combine.mono _ _ _ _
   | exact model_Parts.mono _ _ _ _ _
   | exact LeO.none _
   | refine LeO.ite ?_ ?_
   | refine LeO.bind ?_ (fun _ => ?_)
  ·
   intro y0 y1 y2 y3
   unfold model_Forward.l0
   repeat' first
   | (with_reducible exact ih0 _ _ _ _)
   | (with_reducible exact ih1 _ _ _ _)
   | (with_reducible exact ih2 _ _ _ _ _ _ _ _ _ _ _ _)
   | (with_reducible exact expert_Run.mono _ _ _ _)
   | (with_reducible exact model_Combine.mono _ _ _ _)
   | (with_reducible exact model_Parts.mono _ _ _ _ _)
   | (with_reducible exact LeO.refl _)
   | (with_reducible exact LeO.none _)
   | (with_reducible refine LeO.ite ?_ ?_)
   | (with_reducible refine LeO.bind ?_ (fun _ => ?_))
   | exact ih0 _ _ _ _
   | exact ih1 _ _ _ _
   | exact ih2 _ _ _ _ _ _ _ _ _ _ _ _
   | exact expert_Run.mono _ _ _ _
   | exact model_Combine.mono _ _ _ _
   | exact model_Parts.mono _ _ _ _ _
   | exact LeO.none _
   | refine LeO.ite ?_ ?_
   | refine LeO.bind ?_ (fun _ => ?_)
  ·
   intro y0 y1 y2 y3 y4 y5 y6 y7 y8 y9 y10 y11
   unfold model_Forward.l1
   repeat' first
   | (with_reducible exact ih0 _ _ _ _)
   | (with_reducible exact ih1 _ _ _ _)
   | (with_reducible exact ih2 _ _ _ _ _ _ _ _ _ _ _ _)
   | (with_reducible exact expert_Run.mono _ _ _ _)
   | (with_reducible exact model_Combine.mono _ _ _ _)
   | (with_reducible exact model_Parts.mono _ _ _ _ _)
   | (with_reducible exact LeO.refl _)
   | (with_reducible exact LeO.none _)
   | (with_reducible refine LeO.ite ?_ ?_)
   | (with_reducible refine LeO.bind ?_ (fun _ => ?_))
   | exact ih0 _ _ _ _
   | exact ih1 _ _ _ _
   | exact ih2 _ _ _ _ _ _ _ _ _ _ _ _
   | exact expert_Run.mono _ _ _ _
   | exact model_Combine.mono _ _ _ _
   | exact model_Parts.mono _ _ _ _ _
   | exact LeO.none _
   | refine LeO.ite ?_ ?_
   | refine LeO.bind ?_ (fun _ => ?_)
theorem model_Forward.mono : ∀ a0 a1 a2 k, LeO (model_Forward.f k a0 a1 a2) (model_Forward.f (k + 1) a0 a1 a2) := by
 intro a0 a1 a2 k
 obtain ⟨ih0, ih1, ih2⟩ := model_Forward.mono_l k
 unfold model_Forward.f
 repeat' first
  | (with_reducible exact ih0 _ _ _ _)
  | (with_reducible exact ih1 _ _ _ _)
  | (with_reducible exact ih2 _ _ _ _ _ _ _ _ _ _ _ _)
  | (with_reducible exact expert_Run.mono _ _ _ _)
  | (with_reducible exact model_Combine.mono _ _ _ _)
  | (with_reducible exact model_Parts.mono _ _ _ _ _)
  | (with_reducible exact LeO.refl _)
  | (with_reducible exact LeO.none _)
  | (with_reducible refine LeO.ite ?_ ?_)
  | (with_reducible refine LeO.bind ?_ (fun _ => ?_))
  | exact ih0 _ _ _ _
  | exact ih1 _ _ _ _
  | exact ih2 _ _ _ _ _ _ _ _ _ _ _ _
  | exact expert_Run.mono _ _ _ _
  | exact model_Combine.mono _ _ _ _
  | exact model_Parts.mono _ _ _ _ _
  | exact LeO.none _
  | refine LeO.ite ?_ ?_
  | refine LeO.bind ?_ (fun _ => ?_)
def model_Forward.T11 : Bool × List (List Nat × List Nat) := (true, [([], []), ([0], [0]), ([], []), ([2], [2]), ([1, 3], [1, 3]), ([4], [4]), ([], []), ([], []), ([7], [7]), ([6, 8], [6, 8]), ([9], [9]), ([5, 10], [5, 10]), ([11], [11]), ([12], [12]), ([12], [12]), ([13, 11, 0, 1, 2, 3, 4, 5, 6, 7, 8, 9, 10, 11, 12, 13], [13]), ([14, 15, 0, 1, 2, 3, 4, 5, 6, 7, 8, 9, 10, 11, 12, 13, 14, 15], [14])])
def model_Forward.B11 : List Nat := [0, 1, 0, 4, 15, 31, 0, 0, 128, 448, 960, 2047, 4095, 8191, 8191, 16383, 65535]
theorem model_Forward.tab11 : rtab .any (opsOf Try.f12 11) = model_Forward.T11 := by kernel_rfl
theorem model_Forward.bits11 : waitsOk model_Forward.T11.2 model_Forward.B11 = true := by kernel_rfl
set_option maxHeartbeats 8000000 in
set_option maxRecDepth 100000 in
theorem model_Forward.calls (k : Nat) (a0_0 : Int) (A0_1 : Option Addr) (c0_1 : Nat) (l0_1 : List (S37)) (P1_ : Nat → Prop) (A1 : Option Addr) (c1 : Nat) (l1 : List (List Int)) (r1 : List (List Int)) (r2 : Int) (w : World) (hr0_1 : Kd.C k37 w A0_1 l0_1.length l0_1) (hc0_1 : l0_1.length ≤ c0_1) (hs1 : Kd.V (Kd.slice 3 (Kd.int .i64)) 47 w w.heap.size (fun k_ => P1_ k_) (.slice A1 l1.length c1) l1) (h : model_Forward.f k a0_0 l0_1 l1 = some (r1, r2)) :
 Calls Try.prog 12 #[.agg #[.int .i64 a0_0, .slice A0_1 l0_1.length c0_1], .slice A1 l1.length c1] w fun e w' => ∃ v0_ : Value, e = .returned (.tuple #[v0_, .int .i64 r2]) ∧ Kd.V (Kd.slice 3 (Kd.int .i64)) 47 w' w.heap.size (fun k_ => (P1_ k_ ∨ w.heap.size ≤ k_)) v0_ r1 ∧ Below w.heap.size w w' := by
 have hu24 := Try.underlying24; have hu37 := Try.underlying37; have hu42 := Try.underlying42; have hu46 := Try.underlying46; have HR0_1 := Aside0.mk hr0_1; have HC0_1 := Aside0.mk hc0_1; clear hr0_1 hc0_1
 have HO1 := Aside0.mk (show Kd.V (Kd.slice 3 (Kd.int .i64)) 47 w w.heap.size (fun k_ => (P1_ k_ ∨ w.heap.size ≤ k_)) (.slice A1 l1.length c1) l1 from Kd.V_mono hs1 (fun k_ hk => .inl hk))
 have HB := Aside0.mk (Below.refl w.heap.size w)
 have H : ((model_Right.f a0_0 l0_1).bind fun t212 => (if t212 = true then ((model_Tokens.f a0_0 l0_1 l1).bind fun t213 => (model_Forward.j0 k l1 (!t213) a0_0 l0_1)) else (model_Forward.j0 k l1 true a0_0 l0_1))) = some (r1, r2) := h
 clear h; have HC3 := Aside0.mk H; clear H
 go_enter Try.func12, Try.ntmps12
 go_upto_region 1 with (first | ((with_reducible refine gate_dst (N := 2) rfl ?_); refine box_event ?hg (N := 2) ?hd (cs := #[.int .i64 a0_0, .slice A0_1 l0_1.length c0_1]) (t := 24) ?hr ?_; (case hd => rfl); (case hg => rfl); (case hr => first | (go_simp; done) | (go_simp; rfl)); intro gb211 hg w4 hbox hb; have n0_ := Aside0.mk (Kd.V_below (Kd.V_elderB (by (with_reducible repeat (first | apply Kd.V_alloc | apply Kd.V_drewN | apply Kd.V_drew)); exact HO1.out) gb211 (Nat.le_of_eq hg.symm)) hb); have n1_ := Aside0.mk (below_step (by repeat (first | (with_reducible first | exact HB.out | apply below_alloc | apply pw_below_drewN | apply below_drew1) | exact HB.out)) hb); have n2_ := Aside0.mk (hbox); have n3_ := Aside0.mk ((by rw [hg]; exact (below_size (by repeat (first | (with_reducible first | exact HB.out | apply below_alloc | apply pw_below_drewN | apply below_drew1) | exact HB.out))) : w.heap.size ≤ gb211)); have n4_ := Aside0.mk ((by rw [hg]; exact (below_size (by repeat (first | (with_reducible first | exact HB.out | apply below_alloc | apply pw_below_drewN | apply below_drew1) | exact HB.out))) : w.heap.size ≤ gb211)); clear HO1; clear HB; have HO1 := n0_; have HB := n1_; have BK211 := n2_; have GW211 := n3_; have GE211 := n4_; clear n0_ n1_ n2_ n3_ n4_; clear hb hbox hg))
 (try simp only [Act.put, List.setIfInBounds_toArray, List.set_cons_zero, List.set_cons_succ])
 go_cut [22] (fun v22 wc => ∃ (kq : Nat) (x22_2 : Bool), v22 = .bool x22_2 ∧ Aside0 (model_Forward.j0 kq l1 x22_2 a0_0 l0_1 = some (r1, r2)) ∧ Aside0 (kq ≤ k) ∧ Aside0 (Kd.V (Kd.slice 3 (Kd.int .i64)) 47 wc w.heap.size (fun k_ => (P1_ k_ ∨ w.heap.size ≤ k_) ∧ k_ ≠ gb211) (.slice A1 l1.length c1) l1) ∧ Aside0 (wc.heap[gb211]? = some (.cells #[.int .i64 a0_0, (.slice A0_1 l0_1.length c0_1)] 24 (0, 0))) ∧ Aside0 (Below w.heap.size w wc))
 case first =>
  have H := HC3.out; clear HC3; replace H := Option.bind_eq_some_iff.mp H; obtain ⟨t212, A50, H⟩ := H
  replace H : (if t212 = true then ((model_Tokens.f a0_0 l0_1 l1).bind fun t213 => (model_Forward.j0 k l1 (!t213) a0_0 l0_1)) else (model_Forward.j0 k l1 true a0_0 l0_1)) = some (r1, r2) := H
  have A5 := Aside0.mk A50; clear A50
  by_cases c6 : t212 = true
  ·
   subst c6
   have H1 : ((model_Tokens.f a0_0 l0_1 l1).bind fun t213 => (model_Forward.j0 k l1 (!t213) a0_0 l0_1)) = some (r1, r2) := by rw [if_pos rfl] at H; exact H
   clear H; have H := H1; clear H1; replace H := Option.bind_eq_some_iff.mp H; obtain ⟨t213, A70, H⟩ := H
   replace H : (model_Forward.j0 k l1 (!t213) a0_0 l0_1) = some (r1, r2) := H
   have A7 := Aside0.mk A70; clear A70; have H' := Aside0.mk H; clear H
   have hcz8_0 : w4.cell? ⟨gb211, 0, none⟩ = some (.int .i64 a0_0) := (blk_cell BK211.out 0).trans rfl
   have hcz8_1 : w4.cell? ⟨gb211, 1, none⟩ = some (.slice A0_1 l0_1.length c0_1) := (blk_cell BK211.out 1).trans rfl
   have hfz8_0 := blk_frozen BK211.out 0
   have hfz8_1 := blk_frozen BK211.out 1
   go_wp2_with (first | ((with_reducible refine gate_callee (f := 15) rfl ?_); refine goesL_ (some 15) rfl rfl Try.func15 (by kernel_rfl) rfl #[.agg #[.int .i64 a0_0, .slice A0_1 l0_1.length c0_1]] rfl (by (try simp only [List.map_toArray, List.map_cons, List.map_nil]); first | done | rfl | (simp only [List.length_drop, List.length_take]; rfl)) ?_; (with_reducible refine (model_Right.calls a0_0 _ _ l0_1 true _ ?side1 ?side2 A5.out).mono ?_); (case side1 => repeat (first | exact (Kd.C_below HR0_1.out HB.out) | (with_reducible refine Kd.C_alloc ?_ _) | (with_reducible refine Kd.C_drewN ?_ _) | (with_reducible refine Kd.C_drew ?_))); (case side2 => exact HC0_1.out); rintro e w9 ⟨rfl, hb⟩; refine ⟨_, rfl, ?_⟩; have n0_ := Aside0.mk (Kd.V_below (by (with_reducible repeat (first | apply Kd.V_alloc | apply Kd.V_drewN | apply Kd.V_drew)); exact HO1.out) hb); have n1_ := Aside0.mk (blk_below (g := gb211) (o := .cells #[.int .i64 a0_0, .slice A0_1 l0_1.length c0_1] 24 (0, 0)) (by (with_reducible repeat (first | refine blk_drewN ?_ _ | refine blk_drew ?_ | refine blk_alloc ?_ _)); exact BK211.out) hb); have n2_ := Aside0.mk (below_step (by repeat (first | (with_reducible first | exact HB.out | apply below_alloc | apply pw_below_drewN | apply below_drew1 | refine below_set ?_ GE211.out) | exact HB.out)) hb); clear HO1; clear BK211; clear HB; have HO1 := n0_; have BK211 := n1_; have HB := n2_; clear n0_ n1_ n2_; (try clear hb); (try clear hb2); (try clear hk); (try clear hi); have hcz10_0 : w9.cell? ⟨gb211, 0, none⟩ = some (.int .i64 a0_0) := (blk_cell BK211.out 0).trans rfl; have hcz10_1 : w9.cell? ⟨gb211, 1, none⟩ = some (.slice A0_1 l0_1.length c0_1) := (blk_cell BK211.out 1).trans rfl; have hfz10_0 := blk_frozen BK211.out 0; have hfz10_1 := blk_frozen BK211.out 1) | (go_at_call 16; (with_reducible refine (model_Tokens.calls a0_0 _ _ l0_1 _ _ l1 t213 _ ?side1 ?side2 ?side3 ?side4 A7.out).mono ?_); (case side1 => repeat (first | exact (Kd.C_below HR0_1.out HB.out) | (with_reducible refine Kd.C_alloc ?_ _) | (with_reducible refine Kd.C_drewN ?_ _) | (with_reducible refine Kd.C_drew ?_))); (case side2 => exact HC0_1.out); (case side3 => repeat (first | exact (Kd.V_reads' HO1.out).2.2 | (with_reducible refine Kd.C_alloc ?_ _) | (with_reducible refine Kd.C_drewN ?_ _) | (with_reducible refine Kd.C_drew ?_))); (case side4 => exact (Kd.V_reads' HO1.out).2.1); rintro e w11 ⟨rfl, hb⟩; have n0_ := Aside0.mk (Kd.V_below (by (with_reducible repeat (first | apply Kd.V_alloc | apply Kd.V_drewN | apply Kd.V_drew)); exact HO1.out) hb); have n1_ := Aside0.mk (blk_below (g := gb211) (o := .cells #[.int .i64 a0_0, .slice A0_1 l0_1.length c0_1] 24 (0, 0)) (by (with_reducible repeat (first | refine blk_drewN ?_ _ | refine blk_drew ?_ | refine blk_alloc ?_ _)); exact BK211.out) hb); have n2_ := Aside0.mk (below_step (by repeat (first | (with_reducible first | exact HB.out | apply below_alloc | apply pw_below_drewN | apply below_drew1 | refine below_set ?_ GE211.out) | exact HB.out)) hb); clear HO1; clear BK211; clear HB; have HO1 := n0_; have BK211 := n1_; have HB := n2_; clear n0_ n1_ n2_; (try clear hb); (try clear hb2); (try clear hk); (try clear hi)))
   go_meet
   case rel => exact ⟨_, (!t213), (by first | rfl | (simp; done) | (simp [*]; done)), H', ⟨by first | omega | exact Nat.le_refl _⟩, ⟨by (with_reducible repeat (first | apply Kd.V_alloc | apply Kd.V_drewN | apply Kd.V_drew)); exact HO1.out⟩, ⟨by (with_reducible repeat (first | refine blk_drewN ?_ _ | refine blk_drew ?_ | refine blk_alloc ?_ _)); exact BK211.out⟩, ⟨by repeat (first | (with_reducible first | exact HB.out | apply below_alloc | apply pw_below_drewN | apply below_drew1 | refine below_set ?_ GE211.out) | exact HB.out)⟩⟩
  ·
   replace c6 := Bool.eq_false_iff.mpr c6
   subst c6
   have H1 : (model_Forward.j0 k l1 true a0_0 l0_1) = some (r1, r2) := by rw [if_neg (show ¬ (false = true) by decide)] at H; exact H
   clear H; have H := H1; clear H1; have H' := Aside0.mk H; clear H
   have hcz12_0 : w4.cell? ⟨gb211, 0, none⟩ = some (.int .i64 a0_0) := (blk_cell BK211.out 0).trans rfl
   have hcz12_1 : w4.cell? ⟨gb211, 1, none⟩ = some (.slice A0_1 l0_1.length c0_1) := (blk_cell BK211.out 1).trans rfl
   have hfz12_0 := blk_frozen BK211.out 0
   have hfz12_1 := blk_frozen BK211.out 1
   go_wp2_with (first | ((with_reducible refine gate_callee (f := 15) rfl ?_); refine goesL_ (some 15) rfl rfl Try.func15 (by kernel_rfl) rfl #[.agg #[.int .i64 a0_0, .slice A0_1 l0_1.length c0_1]] rfl (by (try simp only [List.map_toArray, List.map_cons, List.map_nil]); first | done | rfl | (simp only [List.length_drop, List.length_take]; rfl)) ?_; (with_reducible refine (model_Right.calls a0_0 _ _ l0_1 false _ ?side1 ?side2 A5.out).mono ?_); (case side1 => repeat (first | exact (Kd.C_below HR0_1.out HB.out) | (with_reducible refine Kd.C_alloc ?_ _) | (with_reducible refine Kd.C_drewN ?_ _) | (with_reducible refine Kd.C_drew ?_))); (case side2 => exact HC0_1.out); rintro e w13 ⟨rfl, hb⟩; refine ⟨_, rfl, ?_⟩; have n0_ := Aside0.mk (Kd.V_below (by (with_reducible repeat (first | apply Kd.V_alloc | apply Kd.V_drewN | apply Kd.V_drew)); exact HO1.out) hb); have n1_ := Aside0.mk (blk_below (g := gb211) (o := .cells #[.int .i64 a0_0, .slice A0_1 l0_1.length c0_1] 24 (0, 0)) (by (with_reducible repeat (first | refine blk_drewN ?_ _ | refine blk_drew ?_ | refine blk_alloc ?_ _)); exact BK211.out) hb); have n2_ := Aside0.mk (below_step (by repeat (first | (with_reducible first | exact HB.out | apply below_alloc | apply pw_below_drewN | apply below_drew1 | refine below_set ?_ GE211.out) | exact HB.out)) hb); clear HO1; clear BK211; clear HB; have HO1 := n0_; have BK211 := n1_; have HB := n2_; clear n0_ n1_ n2_; (try clear hb); (try clear hb2); (try clear hk); (try clear hi)))
   go_meet
   case rel => exact ⟨_, (true), (by first | rfl | (simp; done) | (simp [*]; done)), H', ⟨by first | omega | exact Nat.le_refl _⟩, ⟨by (with_reducible repeat (first | apply Kd.V_alloc | apply Kd.V_drewN | apply Kd.V_drew)); exact HO1.out⟩, ⟨by (with_reducible repeat (first | refine blk_drewN ?_ _ | refine blk_drew ?_ | refine blk_alloc ?_ _)); exact BK211.out⟩, ⟨by repeat (first | (with_reducible first | exact HB.out | apply below_alloc | apply pw_below_drewN | apply below_drew1 | refine below_set ?_ GE211.out) | exact HB.out)⟩⟩
 case rest =>
  clear HC3; try clear c1; try clear p2; try clear c6; try clear c12; try clear hcz10_0; try clear hcz10_1; try clear hcz12_0; try clear hcz12_1; try clear hcz8_0; try clear hcz8_1; try clear hfz10_0; try clear hfz10_1; try clear hfz12_0; try clear hfz12_1; try clear hfz8_0; try clear hfz8_1
  obtain ⟨kq, x22_2, rfl, HA, HJ2, HO_1, BK211, HB⟩ := hcut
  cases kq with
  | zero => exact absurd HA.out (by simp [model_Forward.j0])
  | succ kj2 =>
   have H := HA.out; clear HA
   simp only [model_Forward.j0] at H
   by_cases c14 : x22_2 = true
   ·
    subst c14
    have H1 : (some (([] : List (List Int)), 1)) = some (r1, r2) := by rw [if_pos rfl] at H; exact H
    clear H; have H := H1; clear H1
    simp only [Option.some.injEq, Prod.mk.injEq] at H
    obtain ⟨rfl, rfl⟩ := H
    go_wp2
    go_ret2
    exact ⟨_, by first | rfl | (simp [errW_none, errW_some] <;> rfl) | (simp [*, errW_none, errW_some] <;> rfl), Kd.V_nil _ _ _ _ _, by repeat (first | (with_reducible first | exact HB.out | apply below_alloc | apply pw_below_drewN | apply below_drew1 | refine below_set ?_ GE211.out) | exact HB.out)⟩
   ·
    replace c14 := Bool.eq_false_iff.mpr c14
    subst c14
    have H1 : (model_Forward.l0 kj2 l1 l0_1 (l0_1.length : Int) 0) = some (r1, r2) := by rw [if_neg (show ¬ (false = true) by decide)] at H; exact H
    clear H; have H := H1; clear H1; have H' := Aside0.mk H; clear H
    have hcz15_0 : wc.cell? ⟨gb211, 0, none⟩ = some (.int .i64 a0_0) := (blk_cell BK211.out 0).trans rfl
    have hcz15_1 : wc.cell? ⟨gb211, 1, none⟩ = some (.slice A0_1 l0_1.length c0_1) := (blk_cell BK211.out 1).trans rfl
    have hfz15_0 := blk_frozen BK211.out 0
    have hfz15_1 := blk_frozen BK211.out 1
    go_wp2
    go_loopg [1, 26] kj2 (fun kq v1 v26 w' => ∃ (x1_2 : List (List Int)) (x26_2 : Int), v26 = .int .i64 x26_2 ∧ Aside0 (model_Forward.l0 kq x1_2 l0_1 (l0_1.length : Int) x26_2 = some (r1, r2)) ∧ Aside0 (kq ≤ kj2) ∧ Aside0 (Kd.V (Kd.slice 3 (Kd.int .i64)) 47 w' w.heap.size (fun k_ => (P1_ k_ ∨ w.heap.size ≤ k_) ∧ k_ ≠ gb211) v1 x1_2) ∧ Aside0 (w'.heap[gb211]? = some (.cells #[.int .i64 a0_0, (.slice A0_1 l0_1.length c0_1)] 24 (0, 0))) ∧ Aside0 (Below w.heap.size w w'))
    case atStart => exact ⟨(l1), (0), (by first | rfl | (simp; done) | (simp [*]; done)), H', ⟨Nat.le_refl _⟩, ⟨by (with_reducible repeat (first | apply Kd.V_alloc | apply Kd.V_drewN | apply Kd.V_drew)); exact HO_1.out⟩, ⟨by (with_reducible repeat (first | refine blk_drewN ?_ _ | refine blk_drew ?_ | refine blk_alloc ?_ _)); exact BK211.out⟩, ⟨by repeat (first | (with_reducible first | exact HB.out | apply below_alloc | apply pw_below_drewN | apply below_drew1 | refine below_set ?_ GE211.out) | exact HB.out)⟩⟩
    case round =>
     clear H'; try clear c1; try clear p2; try clear c6; try clear c12; try clear c14; try clear c15; try clear hcz10_0; try clear hcz10_1; try clear hcz12_0; try clear hcz12_1; try clear hcz15_0; try clear hcz15_1; try clear hcz8_0; try clear hcz8_1; try clear hfz10_0; try clear hfz10_1; try clear hfz12_0; try clear hfz12_1; try clear hfz15_0; try clear hfz15_1; try clear hfz8_0; try clear hfz8_1; try clear p2
     obtain ⟨x1_2, x26_2, rfl, HA, HK2, HO_1, BK211, HB⟩ := hrel
     cases gk with
     | zero => exact absurd HA.out (by simp [model_Forward.l0])
     | succ k2 =>
      have H := HA.out; clear HA
      simp only [model_Forward.l0] at H
      by_cases c16 : x26_2 < (l0_1.length : Int)
      ·
       rw [if_pos c16] at H
       have c16b0 : decide (x26_2 < (l0_1.length : Int)) = true := decide_eq_true c16
       clear c16
       by_cases c17 : 0 ≤ x26_2
       ·
        rw [if_pos c17] at H
        have c17b0 : decide (0 ≤ x26_2) = true := decide_eq_true c17
        clear c17
        by_cases c18 : x26_2 < (l0_1.length : Int)
        ·
         rw [if_pos c18] at H
         have c18b0 : decide (x26_2 < (l0_1.length : Int)) = true := decide_eq_true c18
         clear c18; replace H := Option.bind_eq_some_iff.mp H; obtain ⟨t216, A190, H⟩ := H
         replace H : (model_Forward.l1 k2 x1_2 t216 ([] : List (List Int)) l0_1 (l0_1.length : Int) x26_2 t216 (t216.length : Int) 0 ((rd_T37 l0_1 x26_2).f0) ((rd_T37 l0_1 x26_2).f1) ((rd_T37 l0_1 x26_2).f2)) = some (r1, r2) := H
         have A19 := Aside0.mk A190; clear A190; have H' := Aside0.mk H; clear H
         have p214 : 0 ≤ (x26_2 : Int) := of_decide_eq_true (by first | (with_reducible assumption) | assumption)
         have q214 : x26_2 < (l0_1.length : Int) := of_decide_eq_true (by first | (with_reducible assumption) | assumption)
         obtain ⟨ad214, A214_0, c214_0, A214_1, c214_1, e214, hx214_0, hx214_1, hx214_2, hl214_0, hi214_0, hl214_1, hi214_1⟩ := at_T37 HR0_1.out x26_2 p214 q214
         cases e214
         replace hx214_0 := (HB.out.cell (World.block_lt_of_cell? w _ hx214_0)).trans hx214_0
         replace hx214_1 := (HB.out.cell (World.block_lt_of_cell? w _ hx214_1)).trans hx214_1
         replace hx214_2 := (HB.out.cell (World.block_lt_of_cell? w _ hx214_2)).trans hx214_2
         have HR214_0 := Aside0.mk hi214_0; have HC214_0 := Aside0.mk hl214_0; clear hi214_0 hl214_0; have HR214_1 := Aside0.mk hi214_1; have HC214_1 := Aside0.mk hl214_1; clear hi214_1 hl214_1; replace p214 := eq_true p214; replace q214 := eq_true q214
         go_wp2_with (first | ((with_reducible refine gate_dst (N := 7) rfl ?_); refine box_event ?hg (N := 7) ?hd (cs := #[.slice none 0 0, .slice none 0 0, .int .i64 0]) (t := 37) ?hr ?_; (case hd => rfl); (case hg => rfl); (case hr => first | (go_simp; done) | (go_simp; rfl)); intro gb215 hg w20 hbox hb; have n0_ := Aside0.mk (Kd.V_below (Kd.V_elderB (by (with_reducible repeat (first | apply Kd.V_alloc | apply Kd.V_drewN | apply Kd.V_drew)); exact HO_1.out) gb215 (Nat.le_of_eq hg.symm)) hb); have n1_ := Aside0.mk (blk_below (g := gb211) (o := .cells #[.int .i64 a0_0, .slice (some ad214) l0_1.length c0_1] 24 (0, 0)) (by (with_reducible repeat (first | refine blk_drewN ?_ _ | refine blk_drew ?_ | refine blk_alloc ?_ _)); exact BK211.out) hb); have n2_ := Aside0.mk (below_step (by repeat (first | (with_reducible first | exact HB.out | apply below_alloc | apply pw_below_drewN | apply below_drew1 | refine below_set ?_ GE211.out) | exact HB.out)) hb); have n3_ := Aside0.mk (hbox); have n4_ := Aside0.mk ((by rw [hg]; exact (below_size (by repeat (first | (with_reducible first | exact HB.out | apply below_alloc | apply pw_below_drewN | apply below_drew1 | refine below_set ?_ GE211.out) | exact HB.out))) : w.heap.size ≤ gb215)); have n5_ := Aside0.mk ((by rw [hg]; exact (below_size (by repeat (first | (with_reducible first | exact HB.out | apply below_alloc | apply pw_below_drewN | apply below_drew1 | refine below_set ?_ GE211.out) | exact HB.out))) : w.heap.size ≤ gb215)); have n6_ := Aside0.mk ((by rw [hg]; exact Nat.ne_of_lt (blk_lt (g := gb211) (o := .cells #[.int .i64 a0_0, .slice (some ad214) l0_1.length c0_1] 24 (0, 0)) (by (with_reducible repeat (first | refine blk_drewN ?_ _ | refine blk_drew ?_ | refine blk_alloc ?_ _)); exact BK211.out)) : gb211 ≠ gb215)); have n7_ := Aside0.mk ((by rw [hg]; exact Nat.ne_of_gt (blk_lt (g := gb211) (o := .cells #[.int .i64 a0_0, .slice (some ad214) l0_1.length c0_1] 24 (0, 0)) (by (with_reducible repeat (first | refine blk_drewN ?_ _ | refine blk_drew ?_ | refine blk_alloc ?_ _)); exact BK211.out)) : gb215 ≠ gb211)); clear HO_1; clear BK211; clear HB; have HO_1 := n0_; have BK211 := n1_; have HB := n2_; have BK215 := n3_; have GW215 := n4_; have GE215 := n5_; have NB211_215 := n6_; have NB215_211 := n7_; clear n0_ n1_ n2_ n3_ n4_ n5_ n6_ n7_; clear hb hbox hg; have hnb21 := NB215_211.out; have hnc21 := NB211_215.out; have hcz22_0 : w20.cell? ⟨gb215, 0, none⟩ = some (.slice none 0 0) := (blk_cell BK215.out 0).trans rfl; have hcz22_1 : w20.cell? ⟨gb215, 1, none⟩ = some (.slice none 0 0) := (blk_cell BK215.out 1).trans rfl; have hcz22_2 : w20.cell? ⟨gb215, 2, none⟩ = some (.int .i64 0) := (blk_cell BK215.out 2).trans rfl; have hfz22_0 := blk_frozen BK215.out 0; have hfz22_1 := blk_frozen BK215.out 1; have hfz22_2 := blk_frozen BK215.out 2; obtain ⟨Ao23, co23, eo23⟩ := Kd.V_slice HO_1.out; subst eo23) | ((with_reducible refine gate_callee (f := 17) rfl ?_); refine goesL_ (some 32) rfl rfl Try.func17 (by kernel_rfl) rfl #[.agg #[.slice A214_0 ((rd_T37 l0_1 x26_2).f0).length c214_0, .slice A214_1 ((rd_T37 l0_1 x26_2).f1).length c214_1, .int .i64 ((rd_T37 l0_1 x26_2).f2)], .slice Ao23 x1_2.length co23] rfl (by (try simp only [List.map_toArray, List.map_cons, List.map_nil]); first | done | rfl | (simp only [List.length_drop, List.length_take]; rfl)) ?_; (with_reducible refine (model_Parts.calls k2 _ _ ((rd_T37 l0_1 x26_2).f0) _ _ ((rd_T37 l0_1 x26_2).f1) ((rd_T37 l0_1 x26_2).f2) _ _ x1_2 t216 _ ?side1 ?side2 ?side3 ?side4 ?side5 ?side6 A19.out).mono ?_); (case side1 => exact Kd.C_below HR214_0.out (by repeat (first | (with_reducible first | exact HB.out | apply below_alloc | apply pw_below_drewN | apply below_drew1 | refine below_set ?_ GE211.out | refine below_set ?_ GE215.out) | exact HB.out))); (case side2 => exact HC214_0.out); (case side3 => exact Kd.C_below HR214_1.out (by repeat (first | (with_reducible first | exact HB.out | apply below_alloc | apply pw_below_drewN | apply below_drew1 | refine below_set ?_ GE211.out | refine below_set ?_ GE215.out) | exact HB.out))); (case side4 => exact HC214_1.out); (case side5 => refine (Kd.V_reads' (e := 47) (base := w.heap.size) (ok := fun k_ => ((((P1_ k_ ∨ w.heap.size ≤ k_)) ∧ k_ ≠ gb211) ∧ k_ ≠ gb215)) (n := x1_2.length) (c := co23) ?_).2.2; exact (by (with_reducible repeat (first | apply Kd.V_alloc | apply Kd.V_drewN | apply Kd.V_drew)); exact (Kd.V_mono (Kd.V_far (p := ⟨gb215, 2, none⟩) (Kd.V_far (p := ⟨gb215, 1, none⟩) (Kd.V_far (p := ⟨gb215, 0, none⟩) (Kd.V_mono HO_1.out (fun k_ hk => (⟨hk, hk.2⟩ : _ ∧ k_ ≠ gb215))) (fun _ hk => hk.2) (.slice A214_0 ((rd_T37 l0_1 x26_2).f0).length c214_0)) (fun _ hk => hk.2) (.slice A214_1 ((rd_T37 l0_1 x26_2).f1).length c214_1)) (fun _ hk => hk.2) (.int .i64 ((rd_T37 l0_1 x26_2).f2))) (fun _ h_ => h_.1)))); (case side6 => exact (Kd.V_reads' HO_1.out).2.1); rintro e w24 ⟨v217, rfl, ho0, hb⟩; refine ⟨_, rfl, ?_⟩; have n0_ := Aside0.mk (Kd.V_elder' (by (with_reducible repeat (first | apply Kd.V_alloc | apply Kd.V_drewN | apply Kd.V_drew)); exact (Kd.V_mono (Kd.V_far (p := ⟨gb215, 2, none⟩) (Kd.V_far (p := ⟨gb215, 1, none⟩) (Kd.V_far (p := ⟨gb215, 0, none⟩) (Kd.V_mono HO_1.out (fun k_ hk => (⟨hk, hk.2⟩ : _ ∧ k_ ≠ gb215))) (fun _ hk => hk.2) (.slice A214_0 ((rd_T37 l0_1 x26_2).f0).length c214_0)) (fun _ hk => hk.2) (.slice A214_1 ((rd_T37 l0_1 x26_2).f1).length c214_1)) (fun _ hk => hk.2) (.int .i64 ((rd_T37 l0_1 x26_2).f2))) (fun _ h_ => h_.1))) (Kd.R_base ho0) hb); have n1_ := Aside0.mk (Kd.R_lower (Kd.R_newM (M := fun k_ => (w.heap.size ≤ k_)) ho0 (below_size (by repeat (first | (with_reducible first | exact HB.out | apply below_alloc | apply pw_below_drewN | apply below_drew1 | refine below_set ?_ GE211.out | refine below_set ?_ GE215.out) | exact HB.out))) (fun k_ h_ => h_)) (below_size (by repeat (first | (with_reducible first | exact HB.out | apply below_alloc | apply pw_below_drewN | apply below_drew1 | refine below_set ?_ GE211.out | refine below_set ?_ GE215.out) | exact HB.out)))); have n2_ := Aside0.mk (blk_below (g := gb211) (o := .cells #[.int .i64 a0_0, .slice (some ad214) l0_1.length c0_1] 24 (0, 0)) (by (with_reducible repeat (first | refine blk_drewN ?_ _ | refine blk_drew ?_ | refine blk_alloc ?_ _)); refine blk_far ?_ NB211_215.out _; (with_reducible repeat (first | refine blk_drewN ?_ _ | refine blk_drew ?_ | refine blk_alloc ?_ _)); refine blk_far ?_ NB211_215.out _; (with_reducible repeat (first | refine blk_drewN ?_ _ | refine blk_drew ?_ | refine blk_alloc ?_ _)); refine blk_far ?_ NB211_215.out _; (with_reducible repeat (first | refine blk_drewN ?_ _ | refine blk_drew ?_ | refine blk_alloc ?_ _)); exact BK211.out) hb); have n3_ := Aside0.mk (blk_below (g := gb215) (o := .cells #[.slice A214_0 ((rd_T37 l0_1 x26_2).f0).length c214_0, .slice A214_1 ((rd_T37 l0_1 x26_2).f1).length c214_1, .int .i64 ((rd_T37 l0_1 x26_2).f2)] 37 (0, 0)) (by (with_reducible repeat (first | refine blk_drewN ?_ _ | refine blk_drew ?_ | refine blk_alloc ?_ _)); refine blk_put (cs := #[.slice A214_0 ((rd_T37 l0_1 x26_2).f0).length c214_0, .slice A214_1 ((rd_T37 l0_1 x26_2).f1).length c214_1, .int .i64 0]) ?_ 2 _ rfl; (with_reducible repeat (first | refine blk_drewN ?_ _ | refine blk_drew ?_ | refine blk_alloc ?_ _)); refine blk_put (cs := #[.slice A214_0 ((rd_T37 l0_1 x26_2).f0).length c214_0, .slice none 0 0, .int .i64 0]) ?_ 1 _ rfl; (with_reducible repeat (first | refine blk_drewN ?_ _ | refine blk_drew ?_ | refine blk_alloc ?_ _)); refine blk_put (cs := #[.slice none 0 0, .slice none 0 0, .int .i64 0]) ?_ 0 _ rfl; (with_reducible repeat (first | refine blk_drewN ?_ _ | refine blk_drew ?_ | refine blk_alloc ?_ _)); exact BK215.out) hb); have n4_ := Aside0.mk (below_step (by repeat (first | (with_reducible first | exact HB.out | apply below_alloc | apply pw_below_drewN | apply below_drew1 | refine below_set ?_ GE211.out | refine below_set ?_ GE215.out) | exact HB.out)) hb); clear HO_1; clear BK211; clear BK215; clear HB; have HO_1 := n0_; have HO218 := n1_; have BK211 := n2_; have BK215 := n3_; have HB := n4_; clear n0_ n1_ n2_ n3_ n4_; (try clear hb); (try clear hb2); (try clear hk); (try clear hi); (try clear ho0); obtain ⟨Ao25, co25, eo25⟩ := Kd.R_slice HO218.out; subst eo25))
         go_loopg [9, 35] k2 (fun kq v9 v35 w' => ∃ (x9_3 : List (List Int)) (x35_3 : Int), v35 = .int .i64 x35_3 ∧ Aside0 (model_Forward.l1 kq x1_2 t216 x9_3 l0_1 (l0_1.length : Int) x26_2 t216 (t216.length : Int) x35_3 ((rd_T37 l0_1 x26_2).f0) ((rd_T37 l0_1 x26_2).f1) ((rd_T37 l0_1 x26_2).f2) = some (r1, r2)) ∧ Aside0 (kq ≤ k2) ∧ Aside0 (Kd.V (Kd.slice 3 (Kd.int .i64)) 47 w' w.heap.size (fun k_ => (P1_ k_ ∨ w.heap.size ≤ k_) ∧ some k_ ≠ ((.slice Ao25 t216.length co25) : Value).ownBlock ∧ some k_ ≠ (v9 : Value).ownBlock ∧ some k_ ≠ ((.slice Ao25 t216.length co25) : Value).ownBlock ∧ k_ ≠ gb211 ∧ k_ ≠ gb215) (.slice Ao23 x1_2.length co23) x1_2) ∧ Aside0 (Kd.R k42 42 w' w.heap.size (fun k_ => (w.heap.size ≤ k_)) (.slice Ao25 t216.length co25) t216) ∧ Aside0 (Kd.N (Kd.slice 3 (Kd.int .i64)) 47 w' w.heap.size (fun k_ => (P1_ k_ ∨ w.heap.size ≤ k_) ∧ some k_ ≠ ((.slice Ao25 t216.length co25) : Value).ownBlock ∧ some k_ ≠ ((.slice Ao25 t216.length co25) : Value).ownBlock ∧ k_ ≠ gb211 ∧ k_ ≠ gb215) v9 x9_3) ∧ Aside0 (Kd.R k42 42 w' w.heap.size (fun k_ => (w.heap.size ≤ k_)) (.slice Ao25 t216.length co25) t216) ∧ Aside0 (w'.heap[gb211]? = some (.cells #[.int .i64 a0_0, (.slice (some ad214) l0_1.length c0_1)] 24 (0, 0))) ∧ Aside0 (w'.heap[gb215]? = some (.cells #[(.slice A214_0 ((rd_T37 l0_1 x26_2).f0).length c214_0), (.slice A214_1 ((rd_T37 l0_1 x26_2).f1).length c214_1), .int .i64 ((rd_T37 l0_1 x26_2).f2)] 37 (0, 0))) ∧ Aside0 (Below w.heap.size w w'))
         case atStart => exact ⟨(([] : List (List Int))), (0), (by first | rfl | (simp; done) | (simp [*]; done)), H', ⟨Nat.le_refl _⟩, ⟨by (with_reducible repeat (first | apply Kd.V_alloc | apply Kd.V_drewN | apply Kd.V_drew)); exact Kd.V_mono HO_1.out (fun _ hk => ⟨hk.1.1.1, ⟨hk.2, ⟨(by simp [Value.ownBlock]), ⟨hk.2, ⟨hk.1.1.2, hk.1.2⟩⟩⟩⟩⟩)⟩, ⟨by (with_reducible repeat (first | apply Kd.R_alloc | apply Kd.R_drewN | apply Kd.R_drew)); exact Kd.R_mono HO218.out (fun _ hk => hk.1)⟩, ⟨by first | exact Kd.S_nil _ _ _ _ _ | exact Kd.N_nil _ _ _ _ _ | exact Kd.V_nil _ _ _ _ _ | exact Kd.Q_nil _ _ _ _ _ | exact Kd.R_nil _ _ _ _ _⟩, ⟨by (with_reducible repeat (first | apply Kd.R_alloc | apply Kd.R_drewN | apply Kd.R_drew)); exact Kd.R_mono HO218.out (fun _ hk => hk.1)⟩, ⟨by (with_reducible repeat (first | refine blk_drewN ?_ _ | refine blk_drew ?_ | refine blk_alloc ?_ _)); exact BK211.out⟩, ⟨by (with_reducible repeat (first | refine blk_drewN ?_ _ | refine blk_drew ?_ | refine blk_alloc ?_ _)); exact BK215.out⟩, ⟨by repeat (first | (with_reducible first | exact HB.out | apply below_alloc | apply pw_below_drewN | apply below_drew1 | refine below_set ?_ GE211.out | refine below_set ?_ GE215.out) | exact HB.out)⟩⟩
         case round =>
          clear H'; try clear c1; try clear c2; try clear p2; try clear q2; try clear hx2; try clear c6; try clear c12; try clear c14; try clear c15; try clear c16; try clear c16b0; try clear c17; try clear c17b0; try clear c18; try clear c18b0; try clear c21; try clear p21; try clear q21; try clear hx21; try clear hcz10_0; try clear hcz10_1; try clear hcz12_0; try clear hcz12_1; try clear hcz15_0; try clear hcz15_1; try clear hcz22_0; try clear hcz22_1; try clear hcz22_2; try clear hcz8_0; try clear hcz8_1; try clear hfz10_0; try clear hfz10_1; try clear hfz12_0; try clear hfz12_1; try clear hfz15_0; try clear hfz15_1; try clear hfz22_0; try clear hfz22_1; try clear hfz22_2; try clear hfz8_0; try clear hfz8_1; try clear hx214_0; try clear hx214_1; try clear hx214_2; try clear p2; try clear p214; try clear q214
          obtain ⟨x9_3, x35_3, rfl, HA, HK3, HO_1, HO_8, HO_9, HO_33, BK211, BK215, HB⟩ := hrel
          cases gk with
          | zero => exact absurd HA.out (by simp [model_Forward.l1])
          | succ k3 =>
           have H := HA.out; clear HA
           simp only [model_Forward.l1] at H
           by_cases c26 : x35_3 < (t216.length : Int)
           ·
            rw [if_pos c26] at H
            have c26b0 : decide (x35_3 < (t216.length : Int)) = true := decide_eq_true c26
            clear c26
            by_cases c27 : 0 ≤ x35_3
            ·
             rw [if_pos c27] at H
             have c27b0 : decide (0 ≤ x35_3) = true := decide_eq_true c27
             clear c27
             by_cases c28 : x35_3 < (t216.length : Int)
             ·
              rw [if_pos c28] at H
              have c28b0 : decide (x35_3 < (t216.length : Int)) = true := decide_eq_true c28
              clear c28
              by_cases c29 : 0 ≤ ((rd_T42 t216 x35_3).f2)
              ·
               rw [if_pos c29] at H
               have c29b0 : decide (0 ≤ ((rd_T42 t216 x35_3).f2)) = true := decide_eq_true c29
               clear c29
               by_cases c30 : ((rd_T42 t216 x35_3).f2) < (((rd_T37 l0_1 x26_2).f1).length : Int)
               ·
                rw [if_pos c30] at H
                have c30b0 : decide (((rd_T42 t216 x35_3).f2) < (((rd_T37 l0_1 x26_2).f1).length : Int)) = true := decide_eq_true c30
                clear c30
                by_cases c31 : 0 ≤ ((rd_T42 t216 x35_3).f0)
                ·
                 rw [if_pos c31] at H
                 have c31b0 : decide (0 ≤ ((rd_T42 t216 x35_3).f0)) = true := decide_eq_true c31
                 clear c31
                 by_cases c32 : ((rd_T42 t216 x35_3).f0) < (x1_2.length : Int)
                 ·
                  rw [if_pos c32] at H
                  have c32b0 : decide (((rd_T42 t216 x35_3).f0) < (x1_2.length : Int)) = true := decide_eq_true c32
                  clear c32; replace H := Option.bind_eq_some_iff.mp H
                  obtain ⟨⟨t223, t226⟩, A330, H⟩ := H
                  replace H : (if x9_3.length < 5864062014805 then (model_Forward.l1 k3 x1_2 t216 (x9_3 ++ [t223]) l0_1 (l0_1.length : Int) x26_2 t216 (t216.length : Int) (wrap64 (x35_3 + 1)) ((rd_T37 l0_1 x26_2).f0) ((rd_T37 l0_1 x26_2).f1) ((rd_T37 l0_1 x26_2).f2)) else (none)) = some (r1, r2) := H
                  have A33 := Aside0.mk A330; clear A330
                  by_cases c34 : x9_3.length < 5864062014805
                  ·
                   rw [if_pos c34] at H
                   have LMc34 := Aside0.mk c34; clear c34
                   obtain ⟨y227, hy227⟩ : ∃ y_ : List (List Int), y_ = (x9_3 ++ [t223]) := ⟨_, rfl⟩
                   replace H : (model_Forward.l1 k3 x1_2 t216 y227 l0_1 (l0_1.length : Int) x26_2 t216 (t216.length : Int) (wrap64 (x35_3 + 1)) ((rd_T37 l0_1 x26_2).f0) ((rd_T37 l0_1 x26_2).f1) ((rd_T37 l0_1 x26_2).f2)) = some (r1, r2) := by first | (rw [hy227]; with_reducible exact H) | (have H2_ := (Option.bind_some _ _).symm.trans H; rw [hy227]; with_reducible exact H2_) | (have H2_ := (Option.bind_some _ _).symm.trans H; with_reducible exact H2_) | with_reducible exact H | (rw [hy227]; exact H) | exact H
                   have Ny227 := Aside0.mk hy227; clear hy227; have H' := Aside0.mk H; clear H
                   have p219 : 0 ≤ (x35_3 : Int) := of_decide_eq_true (by first | (with_reducible assumption) | assumption)
                   have q219 : x35_3 < (t216.length : Int) := of_decide_eq_true (by first | (with_reducible assumption) | assumption)
                   obtain ⟨ad219, e219, hx219_0, hx219_1, hx219_2, hx219_3⟩ := at_T42 (Kd.R_reads' HO_33.out).2.2 x35_3 p219 q219
                   cases e219; replace p219 := eq_true p219; replace q219 := eq_true q219
                   try go_wp2_with (first | ((with_reducible refine gate_dst (N := 11) rfl ?_); refine box_event ?hg (N := 11) ?hd (cs := #[.int .i64 0, .int .i64 0, .int .i64 0, .int .i64 0]) (t := 42) ?hr ?_; (case hd => rfl); (case hg => rfl); (case hr => first | (go_simp; done) | (go_simp; rfl)); intro gb220 hg w35 hbox hb; have n0_ := Aside0.mk (Kd.V_below (Kd.V_elderB (by (with_reducible repeat (first | apply Kd.V_alloc | apply Kd.V_drewN | apply Kd.V_drew)); exact HO_1.out) gb220 (Nat.le_of_eq hg.symm)) hb); have n1_ := Aside0.mk (Kd.R_below (Kd.R_elderB (by (with_reducible repeat (first | apply Kd.R_alloc | apply Kd.R_drewN | apply Kd.R_drew)); exact HO_8.out) gb220 (Nat.le_of_eq hg.symm)) hb); have n2_ := Aside0.mk (Kd.N_below (Kd.N_elderB (by (with_reducible repeat (first | apply Kd.N_alloc | apply Kd.N_drewN | apply Kd.N_drew)); exact HO_9.out) gb220 (Nat.le_of_eq hg.symm)) hb); have n3_ := Aside0.mk (Kd.R_below (Kd.R_elderB (by (with_reducible repeat (first | apply Kd.R_alloc | apply Kd.R_drewN | apply Kd.R_drew)); exact HO_33.out) gb220 (Nat.le_of_eq hg.symm)) hb); have n4_ := Aside0.mk (blk_below (g := gb211) (o := .cells #[.int .i64 a0_0, .slice (some ad214) l0_1.length c0_1] 24 (0, 0)) (by (with_reducible repeat (first | refine blk_drewN ?_ _ | refine blk_drew ?_ | refine blk_alloc ?_ _)); exact BK211.out) hb); have n5_ := Aside0.mk (blk_below (g := gb215) (o := .cells #[.slice A214_0 ((rd_T37 l0_1 x26_2).f0).length c214_0, .slice A214_1 ((rd_T37 l0_1 x26_2).f1).length c214_1, .int .i64 ((rd_T37 l0_1 x26_2).f2)] 37 (0, 0)) (by (with_reducible repeat (first | refine blk_drewN ?_ _ | refine blk_drew ?_ | refine blk_alloc ?_ _)); exact BK215.out) hb); have n6_ := Aside0.mk (below_step (by repeat (first | (with_reducible first | exact HB.out | apply below_alloc | apply pw_below_drewN | apply below_drew1 | refine below_set ?_ GE211.out | refine below_set ?_ GE215.out) | exact HB.out)) hb); have n7_ := Aside0.mk (hbox); have n8_ := Aside0.mk ((by rw [hg]; exact (below_size (by repeat (first | (with_reducible first | exact HB.out | apply below_alloc | apply pw_below_drewN | apply below_drew1 | refine below_set ?_ GE211.out | refine below_set ?_ GE215.out) | exact HB.out))) : w.heap.size ≤ gb220)); have n9_ := Aside0.mk ((by rw [hg]; exact (below_size (by repeat (first | (with_reducible first | exact HB.out | apply below_alloc | apply pw_below_drewN | apply below_drew1 | refine below_set ?_ GE211.out | refine below_set ?_ GE215.out) | exact HB.out))) : w.heap.size ≤ gb220)); have n10_ := Aside0.mk ((by rw [hg]; exact Nat.ne_of_lt (blk_lt (g := gb211) (o := .cells #[.int .i64 a0_0, .slice (some ad214) l0_1.length c0_1] 24 (0, 0)) (by (with_reducible repeat (first | refine blk_drewN ?_ _ | refine blk_drew ?_ | refine blk_alloc ?_ _)); exact BK211.out)) : gb211 ≠ gb220)); have n11_ := Aside0.mk ((by rw [hg]; exact Nat.ne_of_gt (blk_lt (g := gb211) (o := .cells #[.int .i64 a0_0, .slice (some ad214) l0_1.length c0_1] 24 (0, 0)) (by (with_reducible repeat (first | refine blk_drewN ?_ _ | refine blk_drew ?_ | refine blk_alloc ?_ _)); exact BK211.out)) : gb220 ≠ gb211)); have n12_ := Aside0.mk ((by rw [hg]; exact Nat.ne_of_lt (blk_lt (g := gb215) (o := .cells #[.slice A214_0 ((rd_T37 l0_1 x26_2).f0).length c214_0, .slice A214_1 ((rd_T37 l0_1 x26_2).f1).length c214_1, .int .i64 ((rd_T37 l0_1 x26_2).f2)] 37 (0, 0)) (by (with_reducible repeat (first | refine blk_drewN ?_ _ | refine blk_drew ?_ | refine blk_alloc ?_ _)); exact BK215.out)) : gb215 ≠ gb220)); have n13_ := Aside0.mk ((by rw [hg]; exact Nat.ne_of_gt (blk_lt (g := gb215) (o := .cells #[.slice A214_0 ((rd_T37 l0_1 x26_2).f0).length c214_0, .slice A214_1 ((rd_T37 l0_1 x26_2).f1).length c214_1, .int .i64 ((rd_T37 l0_1 x26_2).f2)] 37 (0, 0)) (by (with_reducible repeat (first | refine blk_drewN ?_ _ | refine blk_drew ?_ | refine blk_alloc ?_ _)); exact BK215.out)) : gb220 ≠ gb215)); clear HO_1; clear HO_8; clear HO_9; clear HO_33; clear BK211; clear BK215; clear HB; have HO_1 := n0_; have HO_8 := n1_; have HO_9 := n2_; have HO_33 := n3_; have BK211 := n4_; have BK215 := n5_; have HB := n6_; have BK220 := n7_; have GW220 := n8_; have GE220 := n9_; have NB211_220 := n10_; have NB220_211 := n11_; have NB215_220 := n12_; have NB220_215 := n13_; clear n0_ n1_ n2_ n3_ n4_ n5_ n6_ n7_ n8_ n9_ n10_ n11_ n12_ n13_; clear hb hbox hg; have hnb36 := NB220_211.out; have hnc36 := NB211_220.out; have hnb37 := NB220_215.out; have hnc37 := NB215_220.out; have hcz38_0 : w35.cell? ⟨gb220, 0, none⟩ = some (.int .i64 0) := (blk_cell BK220.out 0).trans rfl; have hcz38_1 : w35.cell? ⟨gb220, 1, none⟩ = some (.int .i64 0) := (blk_cell BK220.out 1).trans rfl; have hcz38_2 : w35.cell? ⟨gb220, 2, none⟩ = some (.int .i64 0) := (blk_cell BK220.out 2).trans rfl; have hcz38_3 : w35.cell? ⟨gb220, 3, none⟩ = some (.int .i64 0) := (blk_cell BK220.out 3).trans rfl; have hfz38_0 := blk_frozen BK220.out 0; have hfz38_1 := blk_frozen BK220.out 1; have hfz38_2 := blk_frozen BK220.out 2; have hfz38_3 := blk_frozen BK220.out 3))
                   have n0_ : Aside0 (Kd.V (Kd.slice 3 (Kd.int .i64)) 47 ((((w35.setCell ⟨gb220, 0, none⟩ (.int .i64 ((rd_T42 t216 x35_3).f0))).setCell ⟨gb220, 1, none⟩ (.int .i64 ((rd_T42 t216 x35_3).f1))).setCell ⟨gb220, 2, none⟩ (.int .i64 ((rd_T42 t216 x35_3).f2))).setCell ⟨gb220, 3, none⟩ (.int .i64 ((rd_T42 t216 x35_3).f3))) w.heap.size (fun k_ => (P1_ k_ ∨ w.heap.size ≤ k_) ∧ some k_ ≠ (.slice (some ad219) t216.length co25 : Value).ownBlock ∧ some k_ ≠ (u9 : Value).ownBlock ∧ some k_ ≠ (.slice (some ad219) t216.length co25 : Value).ownBlock ∧ k_ ≠ gb211 ∧ k_ ≠ gb215 ∧ k_ ≠ gb220) (.slice Ao23 x1_2.length co23) x1_2) := ⟨by (with_reducible repeat (first | apply Kd.V_alloc | apply Kd.V_drewN | apply Kd.V_drew)); exact Kd.V_mono (Kd.V_far (p := ⟨gb220, 3, none⟩) (Kd.V_far (p := ⟨gb220, 2, none⟩) (Kd.V_far (p := ⟨gb220, 1, none⟩) (Kd.V_far (p := ⟨gb220, 0, none⟩) (Kd.V_mono HO_1.out (fun k_ hk => (⟨hk, hk.2⟩ : _ ∧ k_ ≠ gb220))) (fun _ hk => hk.2) (.int .i64 ((rd_T42 t216 x35_3).f0))) (fun _ hk => hk.2) (.int .i64 ((rd_T42 t216 x35_3).f1))) (fun _ hk => hk.2) (.int .i64 ((rd_T42 t216 x35_3).f2))) (fun _ hk => hk.2) (.int .i64 ((rd_T42 t216 x35_3).f3))) (fun _ hk => ⟨hk.1.1.1, ⟨hk.1.1.2.1, ⟨hk.1.1.2.2.1, ⟨hk.1.1.2.2.2.1, ⟨hk.1.1.2.2.2.2.1, ⟨hk.1.1.2.2.2.2.2, hk.1.2⟩⟩⟩⟩⟩⟩)⟩
                   have n1_ : Aside0 (Kd.R k42 42 ((((w35.setCell ⟨gb220, 0, none⟩ (.int .i64 ((rd_T42 t216 x35_3).f0))).setCell ⟨gb220, 1, none⟩ (.int .i64 ((rd_T42 t216 x35_3).f1))).setCell ⟨gb220, 2, none⟩ (.int .i64 ((rd_T42 t216 x35_3).f2))).setCell ⟨gb220, 3, none⟩ (.int .i64 ((rd_T42 t216 x35_3).f3))) w.heap.size (fun k_ => (w.heap.size ≤ k_) ∧ k_ ≠ gb220) (.slice (some ad219) t216.length co25) t216) := ⟨by (with_reducible repeat (first | apply Kd.R_alloc | apply Kd.R_drewN | apply Kd.R_drew)); exact Kd.R_mono (Kd.R_far (p := ⟨gb220, 3, none⟩) (Kd.R_far (p := ⟨gb220, 2, none⟩) (Kd.R_far (p := ⟨gb220, 1, none⟩) (Kd.R_far (p := ⟨gb220, 0, none⟩) (Kd.R_mono HO_8.out (fun k_ hk => (⟨hk, hk.2⟩ : _ ∧ k_ ≠ gb220))) (fun _ hk => hk.2) (.int .i64 ((rd_T42 t216 x35_3).f0))) (fun _ hk => hk.2) (.int .i64 ((rd_T42 t216 x35_3).f1))) (fun _ hk => hk.2) (.int .i64 ((rd_T42 t216 x35_3).f2))) (fun _ hk => hk.2) (.int .i64 ((rd_T42 t216 x35_3).f3))) (fun _ hk => ⟨hk.1.1, hk.1.2⟩)⟩
                   have n2_ : Aside0 (Kd.N (Kd.slice 3 (Kd.int .i64)) 47 ((((w35.setCell ⟨gb220, 0, none⟩ (.int .i64 ((rd_T42 t216 x35_3).f0))).setCell ⟨gb220, 1, none⟩ (.int .i64 ((rd_T42 t216 x35_3).f1))).setCell ⟨gb220, 2, none⟩ (.int .i64 ((rd_T42 t216 x35_3).f2))).setCell ⟨gb220, 3, none⟩ (.int .i64 ((rd_T42 t216 x35_3).f3))) w.heap.size (fun k_ => (P1_ k_ ∨ w.heap.size ≤ k_) ∧ some k_ ≠ (.slice (some ad219) t216.length co25 : Value).ownBlock ∧ some k_ ≠ (.slice (some ad219) t216.length co25 : Value).ownBlock ∧ k_ ≠ gb211 ∧ k_ ≠ gb215 ∧ k_ ≠ gb220) u9 x9_3) := ⟨by (with_reducible repeat (first | apply Kd.N_alloc | apply Kd.N_drewN | apply Kd.N_drew)); exact Kd.N_mono (Kd.N_far (p := ⟨gb220, 3, none⟩) (Kd.N_far (p := ⟨gb220, 2, none⟩) (Kd.N_far (p := ⟨gb220, 1, none⟩) (Kd.N_far (p := ⟨gb220, 0, none⟩) (Kd.N_mono HO_9.out (fun k_ hk => (⟨hk, hk.2⟩ : _ ∧ k_ ≠ gb220))) (fun _ hk => hk.2) (.int .i64 ((rd_T42 t216 x35_3).f0))) (fun _ hk => hk.2) (.int .i64 ((rd_T42 t216 x35_3).f1))) (fun _ hk => hk.2) (.int .i64 ((rd_T42 t216 x35_3).f2))) (fun _ hk => hk.2) (.int .i64 ((rd_T42 t216 x35_3).f3))) (fun _ hk => ⟨hk.1.1.1, ⟨hk.1.1.2.1, ⟨hk.1.1.2.2.1, ⟨hk.1.1.2.2.2.1, ⟨hk.1.1.2.2.2.2, hk.1.2⟩⟩⟩⟩⟩)⟩
                   have n3_ : Aside0 (Kd.R k42 42 ((((w35.setCell ⟨gb220, 0, none⟩ (.int .i64 ((rd_T42 t216 x35_3).f0))).setCell ⟨gb220, 1, none⟩ (.int .i64 ((rd_T42 t216 x35_3).f1))).setCell ⟨gb220, 2, none⟩ (.int .i64 ((rd_T42 t216 x35_3).f2))).setCell ⟨gb220, 3, none⟩ (.int .i64 ((rd_T42 t216 x35_3).f3))) w.heap.size (fun k_ => (w.heap.size ≤ k_) ∧ k_ ≠ gb220) (.slice (some ad219) t216.length co25) t216) := ⟨by (with_reducible repeat (first | apply Kd.R_alloc | apply Kd.R_drewN | apply Kd.R_drew)); exact Kd.R_mono (Kd.R_far (p := ⟨gb220, 3, none⟩) (Kd.R_far (p := ⟨gb220, 2, none⟩) (Kd.R_far (p := ⟨gb220, 1, none⟩) (Kd.R_far (p := ⟨gb220, 0, none⟩) (Kd.R_mono HO_33.out (fun k_ hk => (⟨hk, hk.2⟩ : _ ∧ k_ ≠ gb220))) (fun _ hk => hk.2) (.int .i64 ((rd_T42 t216 x35_3).f0))) (fun _ hk => hk.2) (.int .i64 ((rd_T42 t216 x35_3).f1))) (fun _ hk => hk.2) (.int .i64 ((rd_T42 t216 x35_3).f2))) (fun _ hk => hk.2) (.int .i64 ((rd_T42 t216 x35_3).f3))) (fun _ hk => ⟨hk.1.1, hk.1.2⟩)⟩
                   have n4_ : Aside0 (((((w35.setCell ⟨gb220, 0, none⟩ (.int .i64 ((rd_T42 t216 x35_3).f0))).setCell ⟨gb220, 1, none⟩ (.int .i64 ((rd_T42 t216 x35_3).f1))).setCell ⟨gb220, 2, none⟩ (.int .i64 ((rd_T42 t216 x35_3).f2))).setCell ⟨gb220, 3, none⟩ (.int .i64 ((rd_T42 t216 x35_3).f3))).heap[gb211]? = some (.cells #[.int .i64 a0_0, .slice (some ad214) l0_1.length c0_1] 24 (0, 0))) := ⟨by (with_reducible repeat (first | refine blk_drewN ?_ _ | refine blk_drew ?_ | refine blk_alloc ?_ _)); refine blk_far ?_ NB211_220.out _; (with_reducible repeat (first | refine blk_drewN ?_ _ | refine blk_drew ?_ | refine blk_alloc ?_ _)); refine blk_far ?_ NB211_220.out _; (with_reducible repeat (first | refine blk_drewN ?_ _ | refine blk_drew ?_ | refine blk_alloc ?_ _)); refine blk_far ?_ NB211_220.out _; (with_reducible repeat (first | refine blk_drewN ?_ _ | refine blk_drew ?_ | refine blk_alloc ?_ _)); refine blk_far ?_ NB211_220.out _; (with_reducible repeat (first | refine blk_drewN ?_ _ | refine blk_drew ?_ | refine blk_alloc ?_ _)); exact BK211.out⟩
                   have n5_ : Aside0 (((((w35.setCell ⟨gb220, 0, none⟩ (.int .i64 ((rd_T42 t216 x35_3).f0))).setCell ⟨gb220, 1, none⟩ (.int .i64 ((rd_T42 t216 x35_3).f1))).setCell ⟨gb220, 2, none⟩ (.int .i64 ((rd_T42 t216 x35_3).f2))).setCell ⟨gb220, 3, none⟩ (.int .i64 ((rd_T42 t216 x35_3).f3))).heap[gb215]? = some (.cells #[.slice A214_0 ((rd_T37 l0_1 x26_2).f0).length c214_0, .slice A214_1 ((rd_T37 l0_1 x26_2).f1).length c214_1, .int .i64 ((rd_T37 l0_1 x26_2).f2)] 37 (0, 0))) := ⟨by (with_reducible repeat (first | refine blk_drewN ?_ _ | refine blk_drew ?_ | refine blk_alloc ?_ _)); refine blk_far ?_ NB215_220.out _; (with_reducible repeat (first | refine blk_drewN ?_ _ | refine blk_drew ?_ | refine blk_alloc ?_ _)); refine blk_far ?_ NB215_220.out _; (with_reducible repeat (first | refine blk_drewN ?_ _ | refine blk_drew ?_ | refine blk_alloc ?_ _)); refine blk_far ?_ NB215_220.out _; (with_reducible repeat (first | refine blk_drewN ?_ _ | refine blk_drew ?_ | refine blk_alloc ?_ _)); refine blk_far ?_ NB215_220.out _; (with_reducible repeat (first | refine blk_drewN ?_ _ | refine blk_drew ?_ | refine blk_alloc ?_ _)); exact BK215.out⟩
                   have n6_ : Aside0 (((((w35.setCell ⟨gb220, 0, none⟩ (.int .i64 ((rd_T42 t216 x35_3).f0))).setCell ⟨gb220, 1, none⟩ (.int .i64 ((rd_T42 t216 x35_3).f1))).setCell ⟨gb220, 2, none⟩ (.int .i64 ((rd_T42 t216 x35_3).f2))).setCell ⟨gb220, 3, none⟩ (.int .i64 ((rd_T42 t216 x35_3).f3))).heap[gb220]? = some (.cells #[.int .i64 ((rd_T42 t216 x35_3).f0), .int .i64 ((rd_T42 t216 x35_3).f1), .int .i64 ((rd_T42 t216 x35_3).f2), .int .i64 ((rd_T42 t216 x35_3).f3)] 42 (0, 0))) := ⟨by (with_reducible repeat (first | refine blk_drewN ?_ _ | refine blk_drew ?_ | refine blk_alloc ?_ _)); refine blk_put (cs := #[.int .i64 ((rd_T42 t216 x35_3).f0), .int .i64 ((rd_T42 t216 x35_3).f1), .int .i64 ((rd_T42 t216 x35_3).f2), .int .i64 0]) ?_ 3 _ rfl; (with_reducible repeat (first | refine blk_drewN ?_ _ | refine blk_drew ?_ | refine blk_alloc ?_ _)); refine blk_put (cs := #[.int .i64 ((rd_T42 t216 x35_3).f0), .int .i64 ((rd_T42 t216 x35_3).f1), .int .i64 0, .int .i64 0]) ?_ 2 _ rfl; (with_reducible repeat (first | refine blk_drewN ?_ _ | refine blk_drew ?_ | refine blk_alloc ?_ _)); refine blk_put (cs := #[.int .i64 ((rd_T42 t216 x35_3).f0), .int .i64 0, .int .i64 0, .int .i64 0]) ?_ 1 _ rfl; (with_reducible repeat (first | refine blk_drewN ?_ _ | refine blk_drew ?_ | refine blk_alloc ?_ _)); refine blk_put (cs := #[.int .i64 0, .int .i64 0, .int .i64 0, .int .i64 0]) ?_ 0 _ rfl; (with_reducible repeat (first | refine blk_drewN ?_ _ | refine blk_drew ?_ | refine blk_alloc ?_ _)); exact BK220.out⟩
                   have n7_ : Aside0 (Below w.heap.size w ((((w35.setCell ⟨gb220, 0, none⟩ (.int .i64 ((rd_T42 t216 x35_3).f0))).setCell ⟨gb220, 1, none⟩ (.int .i64 ((rd_T42 t216 x35_3).f1))).setCell ⟨gb220, 2, none⟩ (.int .i64 ((rd_T42 t216 x35_3).f2))).setCell ⟨gb220, 3, none⟩ (.int .i64 ((rd_T42 t216 x35_3).f3)))) := ⟨by repeat (first | (with_reducible first | exact HB.out | apply below_alloc | apply pw_below_drewN | apply below_drew1 | refine below_set ?_ GE211.out | refine below_set ?_ GE215.out | refine below_set ?_ GE220.out) | exact HB.out)⟩
                   (try clear HO_1); (try clear HO_8); (try clear HO_9); (try clear HO_33); (try clear BK211); (try clear BK215); (try clear BK220); (try clear HB)
                   generalize ((((w35.setCell ⟨gb220, 0, none⟩ (.int .i64 ((rd_T42 t216 x35_3).f0))).setCell ⟨gb220, 1, none⟩ (.int .i64 ((rd_T42 t216 x35_3).f1))).setCell ⟨gb220, 2, none⟩ (.int .i64 ((rd_T42 t216 x35_3).f2))).setCell ⟨gb220, 3, none⟩ (.int .i64 ((rd_T42 t216 x35_3).f3))) = w39 at n0_ n1_ n2_ n3_ n4_ n5_ n6_ n7_ ⊢
                   have HO_1 := n0_; have HO_8 := n1_; have HO_9 := n2_; have HO_33 := n3_; have BK211 := n4_; have BK215 := n5_; have BK220 := n6_; have HB := n7_; clear n0_ n1_ n2_ n3_ n4_ n5_ n6_ n7_; have n0_ := Aside0.mk (Kd.V_drew HO_1.out); have n1_ := Aside0.mk (Kd.R_drew HO_8.out); have n2_ := Aside0.mk (Kd.N_drew HO_9.out); have n3_ := Aside0.mk (Kd.R_drew HO_33.out); have n4_ := Aside0.mk (blk_drew BK211.out); have n5_ := Aside0.mk (blk_drew BK215.out); have n6_ := Aside0.mk (blk_drew BK220.out); have n7_ := Aside0.mk (below_drew1 HB.out); clear HO_1 HO_8 HO_9 HO_33 BK211 BK215 BK220 HB; have HO_1 := n0_; have HO_8 := n1_; have HO_9 := n2_; have HO_33 := n3_; have BK211 := n4_; have BK215 := n5_; have BK220 := n6_; have HB := n7_; clear n0_ n1_ n2_ n3_ n4_ n5_ n6_ n7_
                   have p221 : 0 ≤ (((rd_T42 t216 x35_3).f2) : Int) := of_decide_eq_true (by first | (with_reducible assumption) | assumption)
                   have q221 : ((rd_T42 t216 x35_3).f2) < (((rd_T37 l0_1 x26_2).f1).length : Int) := of_decide_eq_true (by first | (with_reducible assumption) | assumption)
                   obtain ⟨ad221, A221_0, c221_0, A221_1, c221_1, e221, hx221_0, hx221_1, hl221_0, hi221_0, hl221_1, hi221_1⟩ := at_T46 HR214_1.out ((rd_T42 t216 x35_3).f2) p221 q221
                   have hw221_1 := hx221_1; have hw221_0 := hx221_0; cases e221
                   replace hx221_0 := (HB.out.cell (World.block_lt_of_cell? w _ hx221_0)).trans hx221_0
                   replace hx221_1 := (HB.out.cell (World.block_lt_of_cell? w _ hx221_1)).trans hx221_1
                   have HR221_0 := Aside0.mk hi221_0; have HC221_0 := Aside0.mk hl221_0; clear hi221_0 hl221_0; have HR221_1 := Aside0.mk hi221_1; have HC221_1 := Aside0.mk hl221_1; clear hi221_1 hl221_1; replace p221 := eq_true p221; replace q221 := eq_true q221
                   have p222 : 0 ≤ (((rd_T42 t216 x35_3).f0) : Int) := of_decide_eq_true (by first | (with_reducible assumption) | assumption)
                   have q222 : ((rd_T42 t216 x35_3).f0) < (x1_2.length : Int) := of_decide_eq_true (by first | (with_reducible assumption) | assumption)
                   obtain ⟨ad222, A222_0, c222_0, e222, hx222_0, hl222_0, hi222_0⟩ := at_L1 (Kd.V_reads' HO_1.out).2.2 ((rd_T42 t216 x35_3).f0) p222 q222
                   cases e222
                   obtain ⟨ce222, hce222, hMe222, hcc222⟩ := Kd.V_get HO_1.out [] ((rd_T42 t216 x35_3).f0) p222 (by first | exact q222 | exact of_decide_eq_true (by first | (with_reducible assumption) | assumption) | (have e_ := (Kd.V_reads' HO_1.out).1; omega))
                   obtain ⟨ua222_0, uc222_0, rfl, ul222_0, ge222_0⟩ := Kd.FK_slice_open hMe222
                   have hv222_0 := hcc222 0 _ rfl
                   rw [Nat.add_zero, show ((Kd.slice 3 (Kd.int .i64))).sz = 1 from rfl, Nat.mul_one] at hv222_0
                   replace hv222_0 := Option.some.inj (hv222_0.symm.trans hx222_0)
                   injection hv222_0 with hva_ hvn_ hvc_
                   rw [hva_] at ge222_0
                   rw [hvc_] at ul222_0
                   have HL222_0 := Aside0.mk (show Kd.V (Kd.int .i64) 3 _ w.heap.size _ _ (rd_L1 x1_2 ((rd_T42 t216 x35_3).f0)) from Kd.V_mk ul222_0 ge222_0)
                   clear hva_ hvn_ hvc_ ge222_0 ul222_0 hcc222 hce222; have HR222_0 := Aside0.mk hi222_0; have HC222_0 := Aside0.mk hl222_0; clear hi222_0 hl222_0; replace p222 := eq_true p222; replace q222 := eq_true q222
                   refine start_ (n := 17) (S := fun w' => w'.cell? ⟨gb215, 0, none⟩ = some (.slice A214_0 ((rd_T37 l0_1 x26_2).f0).length c214_0) ∧ w'.cell? ⟨gb215, 1, none⟩ = some (.slice (some ad221) ((rd_T37 l0_1 x26_2).f1).length c214_1) ∧ w'.cell? ⟨gb215, 2, none⟩ = some (.int .i64 ((rd_T37 l0_1 x26_2).f2)) ∧ w'.cell? ⟨gb220, 0, none⟩ = some (.int .i64 ((rd_T42 t216 x35_3).f0)) ∧ w'.cell? ⟨gb220, 1, none⟩ = some (.int .i64 ((rd_T42 t216 x35_3).f1)) ∧ w'.cell? ⟨gb220, 2, none⟩ = some (.int .i64 ((rd_T42 t216 x35_3).f2)) ∧ w'.cell? ⟨gb220, 3, none⟩ = some (.int .i64 ((rd_T42 t216 x35_3).f3)) ∧ w'.cell? (ad221.add ((((rd_T42 t216 x35_3).f2)).toNat * 2)) = some (.slice A221_0 ((rd_T46 ((rd_T37 l0_1 x26_2).f1) ((rd_T42 t216 x35_3).f2)).f0).length c221_0) ∧ w'.cell? ⟨(ad221.add ((((rd_T42 t216 x35_3).f2)).toNat * 2)).block, (ad221.add ((((rd_T42 t216 x35_3).f2)).toNat * 2)).off + 1, none⟩ = some (.slice A221_1 ((rd_T46 ((rd_T37 l0_1 x26_2).f1) ((rd_T42 t216 x35_3).f2)).f1).length c221_1) ∧ w'.cell? (ad222.add (((rd_T42 t216 x35_3).f0)).toNat) = some (.slice A222_0 (rd_L1 x1_2 ((rd_T42 t216 x35_3).f0)).length c222_0)) (ds := []) #[false, false, false, false, false, false, false, false, false, false, false, false, false, false, false, false, false] (by kernel_rfl) rfl rfl ⟨(blk_cell BK215.out 0).trans rfl, (blk_cell BK215.out 1).trans rfl, (blk_cell BK215.out 2).trans rfl, (blk_cell BK220.out 0).trans rfl, (blk_cell BK220.out 1).trans rfl, (blk_cell BK220.out 2).trans rfl, (blk_cell BK220.out 3).trans rfl, ((HB.out.cell (World.block_lt_of_cell? w _ hw221_0)).trans hw221_0), ((HB.out.cell (World.block_lt_of_cell? w _ hw221_1)).trans hw221_1), hx222_0⟩ (fun hHeld => ?_); refine with_tabW model_Forward.tab11 model_Forward.bits11 (fun HT_ HW_ => ?_)
                   generalize w39.drew = w40 at HO_1 HO_8 HO_9 HO_33 BK211 BK215 BK220 HB HL222_0 HR221_0 HR221_1 HR222_0 hx221_0 hx221_1 hx222_0 hHeld ⊢
                   refine pure_ (i := 0) (N := some 40) (v := ?_) (a' := ?_) #[true, false, false, false, false, false, false, false, false, false, false, false, false, false, false, false, false] rfl rfl (any_of HT_.out (by kernel_rfl)) (fun _ _ _ h => h) (Or.inl ⟨by rfl, ?_⟩) ?_ ?_
                   rotate_left
                   ·
                    intro w'; go_simp; with_reducible rfl
                   rotate_left
                   ·
                    simp only [Act.put, List.setIfInBounds_toArray, List.set_cons_zero, List.set_cons_succ, i64_w, i32_w]
                    rfl
                   refine pure_ (i := 2) (N := some 42) (v := ?_) (a' := ?_) #[true, false, true, false, false, false, false, false, false, false, false, false, false, false, false, false, false] rfl rfl (any_of HT_.out (by kernel_rfl)) (fun _ _ _ h => h) (Or.inl ⟨by rfl, ?_⟩) ?_ ?_
                   rotate_left
                   ·
                    intro w'; go_simp; with_reducible rfl
                   rotate_left
                   ·
                    simp only [Act.put, List.setIfInBounds_toArray, List.set_cons_zero, List.set_cons_succ, i64_w, i32_w]
                    rfl
                   refine pure_ (i := 6) (N := some 46) (v := ?_) (a' := ?_) #[true, false, true, false, false, false, true, false, false, false, false, false, false, false, false, false, false] rfl rfl (any_of HT_.out (by kernel_rfl)) (fun _ _ _ h => h) (Or.inl ⟨by rfl, ?_⟩) ?_ ?_
                   rotate_left
                   ·
                    intro w'; go_simp; with_reducible rfl
                   rotate_left
                   ·
                    simp only [Act.put, List.setIfInBounds_toArray, List.set_cons_zero, List.set_cons_succ, i64_w, i32_w]
                    rfl
                   refine pure_ (i := 7) (N := some 47) (v := ?_) (a' := ?_) #[true, false, true, false, false, false, true, true, false, false, false, false, false, false, false, false, false] rfl rfl (any_of HT_.out (by kernel_rfl)) (fun _ _ _ h => h) (Or.inl ⟨by rfl, ?_⟩) ?_ ?_
                   rotate_left
                   ·
                    intro w'; go_simp; with_reducible rfl
                   rotate_left
                   ·
                    simp only [Act.put, List.setIfInBounds_toArray, List.set_cons_zero, List.set_cons_succ, i64_w, i32_w]
                    rfl
                   refine take_ (i := 1) (N := some 41) (v := ?_) (a' := ?_) #[true, true, true, false, false, false, true, true, false, false, false, false, false, false, false, false, false] rfl rfl (take_ofW HT_.out HW_.out (by kernel_rfl)) (fun _ _ _ h => h) (Or.inl ⟨by rfl, ?_⟩) hHeld ?_ ?_
                   rotate_left
                   ·
                    rintro w' ⟨s0, s1, s2, s3, s4, s5, s6, s7, s8, s9⟩; go_simp; with_reducible rfl
                   rotate_left
                   ·
                    simp only [Act.put, List.setIfInBounds_toArray, List.set_cons_zero, List.set_cons_succ, i64_w, i32_w]
                    rfl
                   refine take_ (i := 3) (N := some 43) (v := ?_) (a' := ?_) #[true, true, true, true, false, false, true, true, false, false, false, false, false, false, false, false, false] rfl rfl (take_ofW HT_.out HW_.out (by kernel_rfl)) (fun _ _ _ h => h) (Or.inl ⟨by rfl, ?_⟩) hHeld ?_ ?_
                   rotate_left
                   ·
                    rintro w' ⟨s0, s1, s2, s3, s4, s5, s6, s7, s8, s9⟩; go_simp; with_reducible rfl
                   rotate_left
                   ·
                    simp only [Act.put, List.setIfInBounds_toArray, List.set_cons_zero, List.set_cons_succ, i64_w, i32_w]
                    rfl
                   refine pure_ (i := 4) (N := some 44) (v := ?_) (a' := ?_) #[true, true, true, true, true, false, true, true, false, false, false, false, false, false, false, false, false] rfl rfl (any_of HT_.out (by kernel_rfl)) (fun _ _ _ h => h) (Or.inl ⟨by rfl, ?_⟩) ?_ ?_
                   rotate_left
                   ·
                    intro w'; go_simp; with_reducible rfl
                   rotate_left
                   ·
                    simp only [Act.put, List.setIfInBounds_toArray, List.set_cons_zero, List.set_cons_succ, i64_w, i32_w]
                    rfl
                   refine take_ (i := 5) (N := some 45) (v := ?_) (a' := ?_) #[true, true, true, true, true, true, true, true, false, false, false, false, false, false, false, false, false] rfl rfl (take_ofW HT_.out HW_.out (by kernel_rfl)) (fun _ _ _ h => h) (Or.inl ⟨by rfl, ?_⟩) hHeld ?_ ?_
                   rotate_left
                   ·
                    rintro w' ⟨s0, s1, s2, s3, s4, s5, s6, s7, s8, s9⟩; go_simp; with_reducible rfl
                   rotate_left
                   ·
                    simp only [Act.put, List.setIfInBounds_toArray, List.set_cons_zero, List.set_cons_succ, i64_w, i32_w]
                    rfl
                   refine take_ (i := 8) (N := some 48) (v := ?_) (a' := ?_) #[true, true, true, true, true, true, true, true, true, false, false, false, false, false, false, false, false] rfl rfl (take_ofW HT_.out HW_.out (by kernel_rfl)) (fun _ _ _ h => h) (Or.inl ⟨by rfl, ?_⟩) hHeld ?_ ?_
                   rotate_left
                   ·
                    rintro w' ⟨s0, s1, s2, s3, s4, s5, s6, s7, s8, s9⟩; go_simp; with_reducible rfl
                   rotate_left
                   ·
                    simp only [Act.put, List.setIfInBounds_toArray, List.set_cons_zero, List.set_cons_succ, i64_w, i32_w]
                    rfl
                   refine pure_ (i := 9) (N := some 49) (v := ?_) (a' := ?_) #[true, true, true, true, true, true, true, true, true, true, false, false, false, false, false, false, false] rfl rfl (any_of HT_.out (by kernel_rfl)) (fun _ _ _ h => h) (Or.inl ⟨by rfl, ?_⟩) ?_ ?_
                   rotate_left
                   ·
                    intro w'; go_simp; with_reducible rfl
                   rotate_left
                   ·
                    simp only [Act.put, List.setIfInBounds_toArray, List.set_cons_zero, List.set_cons_succ, i64_w, i32_w]
                    rfl
                   refine take_ (i := 10) (N := some 50) (v := ?_) (a' := ?_) #[true, true, true, true, true, true, true, true, true, true, true, false, false, false, false, false, false] rfl rfl (take_ofW HT_.out HW_.out (by kernel_rfl)) (fun _ _ _ h => h) (Or.inl ⟨by rfl, ?_⟩) hHeld ?_ ?_
                   rotate_left
                   ·
                    rintro w' ⟨s0, s1, s2, s3, s4, s5, s6, s7, s8, s9⟩; go_simp; with_reducible rfl
                   rotate_left
                   ·
                    simp only [Act.put, List.setIfInBounds_toArray, List.set_cons_zero, List.set_cons_succ, i64_w, i32_w]
                    rfl
                   refine one_ (i := 11) (N := some 51) #[true, true, true, true, true, true, true, true, true, true, true, true, false, false, false, false, false] rfl rfl (one_of HT_.out (by kernel_rfl)) (by decide) (fun K hK => ?_)
                   refine goes_ Try.func22 (by kernel_rfl) rfl #[.agg #[.slice A221_0 ((rd_T46 ((rd_T37 l0_1 x26_2).f1) ((rd_T42 t216 x35_3).f2)).f0).length c221_0, .slice A221_1 ((rd_T46 ((rd_T37 l0_1 x26_2).f1) ((rd_T42 t216 x35_3).f2)).f1).length c221_1], .slice A222_0 (rd_L1 x1_2 ((rd_T42 t216 x35_3).f0)).length c222_0] (by rfl) rfl rfl (by (try simp only [List.map_toArray, List.map_cons, List.map_nil]); first | done | rfl | (simp only [List.length_drop, List.length_take]; rfl)) ?_
                   with_reducible refine (expert_Run.calls k3 _ _ ((rd_T46 ((rd_T37 l0_1 x26_2).f1) ((rd_T42 t216 x35_3).f2)).f0) _ _ ((rd_T46 ((rd_T37 l0_1 x26_2).f1) ((rd_T42 t216 x35_3).f2)).f1) _ _ (rd_L1 x1_2 ((rd_T42 t216 x35_3).f0)) t223 t226 _ ?side1 ?side2 ?side3 ?side4 ?side5 ?side6 A33.out).mono ?_
                   (case side1 => repeat (first | exact (Kd.C_below HR221_0.out HB.out) | (with_reducible refine Kd.C_alloc ?_ _) | (with_reducible refine Kd.C_drewN ?_ _) | (with_reducible refine Kd.C_drew ?_)))
                   (case side2 => exact HC221_0.out)
                   (case side3 => repeat (first | exact (Kd.C_below HR221_1.out HB.out) | (with_reducible refine Kd.C_alloc ?_ _) | (with_reducible refine Kd.C_drewN ?_ _) | (with_reducible refine Kd.C_drew ?_)))
                   (case side4 => exact HC221_1.out)
                   (case side5 => repeat (first | exact (by repeat (first | (with_reducible exact HR222_0.out) | (with_reducible refine Kd.C_alloc ?_ _) | (with_reducible refine Kd.C_drewN ?_ _) | (with_reducible refine Kd.C_drew ?_) | exact HR222_0.out)) | (with_reducible refine Kd.C_alloc ?_ _) | (with_reducible refine Kd.C_drewN ?_ _) | (with_reducible refine Kd.C_drew ?_)))
                   (case side6 => exact HC222_0.out)
                   rintro e w41 ⟨v224, rfl, ho0, hb⟩
                   have HS9_ := (hb.cell (World.block_lt_of_cell? _ _ (hHeld.2.2.2.2.2.2.2.2.2))).trans (hHeld.2.2.2.2.2.2.2.2.2)
                   refine ⟨_, rfl, ?_⟩
                   have n0_ := Aside0.mk (Kd.V_elder' (by (with_reducible repeat (first | apply Kd.V_alloc | apply Kd.V_drewN | apply Kd.V_drew)); exact HO_1.out) (Kd.R_base ho0) hb)
                   have n1_ := Aside0.mk (Kd.R_below (by (with_reducible repeat (first | apply Kd.R_alloc | apply Kd.R_drewN | apply Kd.R_drew)); exact HO_8.out) hb)
                   have n2_ := Aside0.mk (Kd.N_elder' (by (with_reducible repeat (first | apply Kd.N_alloc | apply Kd.N_drewN | apply Kd.N_drew)); exact HO_9.out) (Kd.R_base ho0) hb)
                   have n3_ := Aside0.mk (Kd.R_below (by (with_reducible repeat (first | apply Kd.R_alloc | apply Kd.R_drewN | apply Kd.R_drew)); exact HO_33.out) hb)
                   have n4_ := Aside0.mk (Kd.V_elder' (by (with_reducible repeat (first | apply Kd.V_alloc | apply Kd.V_drewN | apply Kd.V_drew)); exact HL222_0.out) (Kd.R_base ho0) hb)
                   have n5_ := Aside0.mk (Kd.R_lower (Kd.R_newM (M := fun k_ => (w.heap.size ≤ k_)) ho0 (below_size (by repeat (first | (with_reducible first | exact HB.out | apply below_alloc | apply pw_below_drewN | apply below_drew1 | refine below_set ?_ GE211.out | refine below_set ?_ GE215.out | refine below_set ?_ GE220.out) | exact HB.out))) (fun k_ h_ => h_)) (below_size (by repeat (first | (with_reducible first | exact HB.out | apply below_alloc | apply pw_below_drewN | apply below_drew1 | refine below_set ?_ GE211.out | refine below_set ?_ GE215.out | refine below_set ?_ GE220.out) | exact HB.out))))
                   have n6_ := Aside0.mk (blk_below (g := gb211) (o := .cells #[.int .i64 a0_0, .slice (some ad214) l0_1.length c0_1] 24 (0, 0)) (by (with_reducible repeat (first | refine blk_drewN ?_ _ | refine blk_drew ?_ | refine blk_alloc ?_ _)); exact BK211.out) hb)
                   have n7_ := Aside0.mk (blk_below (g := gb215) (o := .cells #[.slice A214_0 ((rd_T37 l0_1 x26_2).f0).length c214_0, .slice (some ad221) ((rd_T37 l0_1 x26_2).f1).length c214_1, .int .i64 ((rd_T37 l0_1 x26_2).f2)] 37 (0, 0)) (by (with_reducible repeat (first | refine blk_drewN ?_ _ | refine blk_drew ?_ | refine blk_alloc ?_ _)); exact BK215.out) hb)
                   have n8_ := Aside0.mk (blk_below (g := gb220) (o := .cells #[.int .i64 ((rd_T42 t216 x35_3).f0), .int .i64 ((rd_T42 t216 x35_3).f1), .int .i64 ((rd_T42 t216 x35_3).f2), .int .i64 ((rd_T42 t216 x35_3).f3)] 42 (0, 0)) (by (with_reducible repeat (first | refine blk_drewN ?_ _ | refine blk_drew ?_ | refine blk_alloc ?_ _)); exact BK220.out) hb)
                   have n9_ := Aside0.mk (Kd.C_below (by repeat (first | (with_reducible exact HR222_0.out) | (with_reducible refine Kd.C_alloc ?_ _) | (with_reducible refine Kd.C_drewN ?_ _) | (with_reducible refine Kd.C_drew ?_) | exact HR222_0.out)) hb)
                   have n10_ := Aside0.mk (below_step (by repeat (first | (with_reducible first | exact HB.out | apply below_alloc | apply pw_below_drewN | apply below_drew1 | refine below_set ?_ GE211.out | refine below_set ?_ GE215.out | refine below_set ?_ GE220.out) | exact HB.out)) hb)
                   clear HO_1 HO_8 HO_9 HO_33 HL222_0 BK211 BK215 BK220 HR222_0 HB; have HO_1 := n0_; have HO_8 := n1_; have HO_9 := n2_; have HO_33 := n3_; have HL222_0 := n4_; have HO225 := n5_; have BK211 := n6_; have BK215 := n7_; have BK220 := n8_; have HR222_0 := n9_; have HB := n10_; clear n0_ n1_ n2_ n3_ n4_ n5_ n6_ n7_ n8_ n9_ n10_; (try clear hb); (try clear hb2); (try clear hk); (try clear hi); (try clear ho0)
                   refine hK.out _ _ ⟨(blk_cell BK215.out 0).trans rfl, (blk_cell BK215.out 1).trans rfl, (blk_cell BK215.out 2).trans rfl, (blk_cell BK220.out 0).trans rfl, (blk_cell BK220.out 1).trans rfl, (blk_cell BK220.out 2).trans rfl, (blk_cell BK220.out 3).trans rfl, ((HB.out.cell (World.block_lt_of_cell? w _ hw221_0)).trans hw221_0), ((HB.out.cell (World.block_lt_of_cell? w _ hw221_1)).trans hw221_1), HS9_⟩ (fun hHeld => ?_)
                   clear hK K
                   refine norm_ (a' := ?_) ?_ ?_
                   rotate_left
                   ·
                    show Act.put _ (some 51) _ = _
                    simp only [Act.put, List.setIfInBounds_toArray, List.set_cons_zero, List.set_cons_succ, i64_w, i32_w]
                    rfl
                   refine pure_ (i := 12) (N := some 39) (v := ?_) (a' := ?_) #[true, true, true, true, true, true, true, true, true, true, true, true, true, false, false, false, false] rfl rfl (any_of HT_.out (by kernel_rfl)) (fun _ _ _ h => h) (Or.inl ⟨by rfl, ?_⟩) ?_ ?_
                   rotate_left
                   ·
                    intro w'; go_simp; with_reducible rfl
                   rotate_left
                   ·
                    simp only [Act.put, List.setIfInBounds_toArray, List.set_cons_zero, List.set_cons_succ, i64_w, i32_w]
                    rfl
                   refine pure_ (i := 13) (N := some 52) (v := ?_) (a' := ?_) #[true, true, true, true, true, true, true, true, true, true, true, true, true, true, false, false, false] rfl rfl (any_of HT_.out (by kernel_rfl)) (fun _ _ _ h => h) (Or.inl ⟨by rfl, ?_⟩) ?_ ?_
                   rotate_left
                   ·
                    intro w'; go_simp; with_reducible rfl
                   rotate_left
                   ·
                    simp only [Act.put, List.setIfInBounds_toArray, List.set_cons_zero, List.set_cons_succ, i64_w, i32_w]
                    rfl
                   refine pure_ (i := 14) (N := some 53) (v := ?_) (a' := ?_) #[true, true, true, true, true, true, true, true, true, true, true, true, true, true, true, false, false] rfl rfl (any_of HT_.out (by kernel_rfl)) (fun _ _ _ h => h) (Or.inl ⟨by rfl, ?_⟩) ?_ ?_
                   rotate_left
                   ·
                    intro w'; go_simp; with_reducible rfl
                   rotate_left
                   ·
                    simp only [Act.put, List.setIfInBounds_toArray, List.set_cons_zero, List.set_cons_succ, i64_w, i32_w]
                    rfl
                   refine pure_ (i := 15) (N := some 12) (v := ?_) (a' := ?_) #[true, true, true, true, true, true, true, true, true, true, true, true, true, true, true, true, false] rfl rfl (any_of HT_.out (by kernel_rfl)) (fun _ _ _ h => h) (Or.inl ⟨by rfl, ?_⟩) ?_ ?_
                   rotate_left
                   ·
                    intro w'; go_simp; with_reducible rfl
                   rotate_left
                   ·
                    simp only [Act.put, List.setIfInBounds_toArray, List.set_cons_zero, List.set_cons_succ, i64_w, i32_w]
                    rfl
                   refine pure_ (i := 16) (N := some 13) (v := ?_) (a' := ?_) #[true, true, true, true, true, true, true, true, true, true, true, true, true, true, true, true, true] rfl rfl (any_of HT_.out (by kernel_rfl)) (fun _ _ _ h => h) (Or.inl ⟨by rfl, ?_⟩) ?_ ?_
                   rotate_left
                   ·
                    intro w'; go_simp; with_reducible rfl
                   rotate_left
                   ·
                    simp only [Act.put, List.setIfInBounds_toArray, List.set_cons_zero, List.set_cons_succ, i64_w, i32_w]
                    rfl
                   refine done_ (done_of HT_.out (by kernel_rfl)) ?_
                   obtain ⟨Ao43, co43, eo43⟩ := Kd.R_slice HO225.out
                   subst eo43
                   try go_wp2_with (first | ((with_reducible refine gate_builtin (b := .append) (xs := #[.tmp 54, .tmp 56]) rfl ?_); at_builtin; refine Kd.N_append (Kd.slice 3 (Kd.int .i64)) (w0 := w) w.heap.size rfl (.tmp 54) (.tmp 56) 25 47 (.slice none 0 0) 24 rfl Try.underlying25 info47 rfl (by decide) (by omega) u9 x9_3 t223 [.slice Ao43 t223.length co43] (fun k_ => (P1_ k_ ∨ w.heap.size ≤ k_) ∧ some k_ ≠ (.slice (some ad219) t216.length co25 : Value).ownBlock ∧ some k_ ≠ (.slice (some ad219) t216.length co25 : Value).ownBlock ∧ k_ ≠ gb211 ∧ k_ ≠ gb215 ∧ k_ ≠ gb220) (fun k_ => ((fun k_ => (P1_ k_ ∨ w.heap.size ≤ k_) ∧ some k_ ≠ (.slice (some ad219) t216.length co25 : Value).ownBlock ∧ some k_ ≠ (.slice (some ad219) t216.length co25 : Value).ownBlock ∧ k_ ≠ gb211 ∧ k_ ≠ gb215 ∧ k_ ≠ gb220)) k_ ∧ some k_ ≠ (u9 : Value).ownBlock) rfl rfl ?aP (fun _ hk => hk) ?aF ?aO ?aB ?aS ?aL ?_; (case aP => exact (FK_slice_own (Kd.R_mono (ok' := (fun k_ => ((fun k_ => (P1_ k_ ∨ w.heap.size ≤ k_) ∧ some k_ ≠ (.slice (some ad219) t216.length co25 : Value).ownBlock ∧ some k_ ≠ (.slice (some ad219) t216.length co25 : Value).ownBlock ∧ k_ ≠ gb211 ∧ k_ ≠ gb215 ∧ k_ ≠ gb220)) k_ ∧ some k_ ≠ (u9 : Value).ownBlock)) (Kd.R_types (Kd.R_types (Kd.R_types (Kd.R_apart' (Kd.R_apart' (Kd.R_apart' (HO225.out) (Kd.R_typed HO_8.out) (by decide)) (Kd.R_typed HO_33.out) (by decide)) (Kd.N_typed HO_9.out) (by decide)) BK211.out (by decide)) BK215.out (by decide)) BK220.out (by decide)) (fun k_ hk => ⟨⟨(.inr (hk.1.1.1.1.1.1.1)), ⟨hk.1.1.1.1.1.2, ⟨hk.1.1.1.1.2, ⟨hk.1.1.2, ⟨hk.1.2, hk.2⟩⟩⟩⟩⟩, hk.1.1.1.2⟩)))); (case aB => exact (by repeat (first | (with_reducible first | exact HB.out | apply below_alloc | apply pw_below_drewN | apply below_drew1 | refine below_set ?_ GE211.out | refine below_set ?_ GE215.out | refine below_set ?_ GE220.out) | exact HB.out))); (case aF => exact (fun k_ hk => ⟨(.inr (Nat.le_trans (below_size (by repeat (first | (with_reducible first | exact HB.out | apply below_alloc | apply pw_below_drewN | apply below_drew1 | refine below_set ?_ GE211.out | refine below_set ?_ GE215.out | refine below_set ?_ GE220.out) | exact HB.out))) hk)), Kd.fresh' (Kd.R_lt (by (with_reducible repeat (first | apply Kd.R_alloc | apply Kd.R_drewN | apply Kd.R_drew)); exact HO_8.out)) k_ hk, Kd.fresh' (Kd.R_lt (by (with_reducible repeat (first | apply Kd.R_alloc | apply Kd.R_drewN | apply Kd.R_drew)); exact HO_33.out)) k_ hk, Kd.freshB (g := gb211) (o := .cells #[.int .i64 a0_0, .slice (some ad214) l0_1.length c0_1] 24 (0, 0)) (by (with_reducible repeat (first | refine blk_drewN ?_ _ | refine blk_drew ?_ | refine blk_alloc ?_ _)); exact BK211.out) k_ hk, Kd.freshB (g := gb215) (o := .cells #[.slice A214_0 ((rd_T37 l0_1 x26_2).f0).length c214_0, .slice (some ad221) ((rd_T37 l0_1 x26_2).f1).length c214_1, .int .i64 ((rd_T37 l0_1 x26_2).f2)] 37 (0, 0)) (by (with_reducible repeat (first | refine blk_drewN ?_ _ | refine blk_drew ?_ | refine blk_alloc ?_ _)); exact BK215.out) k_ hk, Kd.freshB (g := gb220) (o := .cells #[.int .i64 ((rd_T42 t216 x35_3).f0), .int .i64 ((rd_T42 t216 x35_3).f1), .int .i64 ((rd_T42 t216 x35_3).f2), .int .i64 ((rd_T42 t216 x35_3).f3)] 42 (0, 0)) (by (with_reducible repeat (first | refine blk_drewN ?_ _ | refine blk_drew ?_ | refine blk_alloc ?_ _)); exact BK220.out) k_ hk⟩)); (case aO => exact (by (with_reducible repeat (first | apply Kd.N_alloc | apply Kd.N_drewN | apply Kd.N_drew)); exact Kd.N_mono HO_9.out (fun _ hk => ⟨hk.1.1, ⟨hk.1.2.1, ⟨hk.1.2.2.1, ⟨hk.1.2.2.2.1, ⟨hk.1.2.2.2.2.1, hk.1.2.2.2.2.2⟩⟩⟩⟩⟩))); (case aS => exact (below_size (by repeat (first | (with_reducible first | exact HB.out | apply below_alloc | apply pw_below_drewN | apply below_drew1 | refine below_set ?_ GE211.out | refine below_set ?_ GE215.out | refine below_set ?_ GE220.out) | exact HB.out)))); (case aL => have := LMc34.out; omega); intro v228 w42 ho hb hg hat; rw [← Ny227.out] at ho; have n0_ := Aside0.mk (Kd.V_afterv (ok := (fun k_ => (P1_ k_ ∨ w.heap.size ≤ k_) ∧ some k_ ≠ (.slice (some ad219) t216.length co25 : Value).ownBlock ∧ some k_ ≠ (.slice (some ad219) t216.length co25 : Value).ownBlock ∧ some k_ ≠ (.slice Ao43 t223.length co43 : Value).ownBlock ∧ k_ ≠ gb211 ∧ k_ ≠ gb215 ∧ k_ ≠ gb220)) (by (with_reducible repeat (first | apply Kd.V_alloc | apply Kd.V_drewN | apply Kd.V_drew)); exact Kd.V_mono HO_1.out (fun _ hk => ⟨⟨hk.1.1, ⟨hk.1.2.1, ⟨hk.1.2.2.2.1, ⟨hk.2, ⟨hk.1.2.2.2.2.1, ⟨hk.1.2.2.2.2.2.1, hk.1.2.2.2.2.2.2⟩⟩⟩⟩⟩⟩, hk.1.2.2.1⟩)) hg hat); have n1_ := Aside0.mk (Kd.R_over' (by (with_reducible repeat (first | apply Kd.R_alloc | apply Kd.R_drewN | apply Kd.R_drew)); exact HO_8.out) (Kd.N_typed (by (with_reducible repeat (first | apply Kd.N_alloc | apply Kd.N_drewN | apply Kd.N_drew)); exact HO_9.out)) (by decide) hg); have n2_ := Aside0.mk (Kd.R_over' (by (with_reducible repeat (first | apply Kd.R_alloc | apply Kd.R_drewN | apply Kd.R_drew)); exact HO_33.out) (Kd.N_typed (by (with_reducible repeat (first | apply Kd.N_alloc | apply Kd.N_drewN | apply Kd.N_drew)); exact HO_9.out)) (by decide) hg); have n3_ := Aside0.mk (blk_grown (g := gb211) (o := .cells #[.int .i64 a0_0, .slice (some ad214) l0_1.length c0_1] 24 (0, 0)) (by (with_reducible repeat (first | refine blk_drewN ?_ _ | refine blk_drew ?_ | refine blk_alloc ?_ _)); exact BK211.out) hg (Kd.N_ne HO_9.out BK211.out (by decide))); have n4_ := Aside0.mk (blk_grown (g := gb215) (o := .cells #[.slice A214_0 ((rd_T37 l0_1 x26_2).f0).length c214_0, .slice (some ad221) ((rd_T37 l0_1 x26_2).f1).length c214_1, .int .i64 ((rd_T37 l0_1 x26_2).f2)] 37 (0, 0)) (by (with_reducible repeat (first | refine blk_drewN ?_ _ | refine blk_drew ?_ | refine blk_alloc ?_ _)); exact BK215.out) hg (Kd.N_ne HO_9.out BK215.out (by decide))); have n5_ := Aside0.mk (blk_grown (g := gb220) (o := .cells #[.int .i64 ((rd_T42 t216 x35_3).f0), .int .i64 ((rd_T42 t216 x35_3).f1), .int .i64 ((rd_T42 t216 x35_3).f2), .int .i64 ((rd_T42 t216 x35_3).f3)] 42 (0, 0)) (by (with_reducible repeat (first | refine blk_drewN ?_ _ | refine blk_drew ?_ | refine blk_alloc ?_ _)); exact BK220.out) hg (Kd.N_ne HO_9.out BK220.out (by decide))); have n6_ := Aside0.mk (Kd.V_afterv (ok := (fun k_ => (P1_ k_ ∨ w.heap.size ≤ k_) ∧ some k_ ≠ (.slice (some ad219) t216.length co25 : Value).ownBlock ∧ some k_ ≠ (.slice (some ad219) t216.length co25 : Value).ownBlock ∧ some k_ ≠ (.slice Ao43 t223.length co43 : Value).ownBlock ∧ k_ ≠ gb211 ∧ k_ ≠ gb215 ∧ k_ ≠ gb220)) (by (with_reducible repeat (first | apply Kd.V_alloc | apply Kd.V_drewN | apply Kd.V_drew)); exact Kd.V_mono HL222_0.out (fun _ hk => ⟨⟨hk.1.1, ⟨hk.1.2.1, ⟨hk.1.2.2.2.1, ⟨hk.2, ⟨hk.1.2.2.2.2.1, ⟨hk.1.2.2.2.2.2.1, hk.1.2.2.2.2.2.2⟩⟩⟩⟩⟩⟩, hk.1.2.2.1⟩)) hg hat); have n7_ := Aside0.mk (hb); have n8_ := Aside0.mk (ho); clear HO_1; clear HO_8; clear HO_33; clear BK211; clear BK215; clear BK220; clear HL222_0; clear HB; clear HO_9; clear HO225; have HO_1 := n0_; have HO_8 := n1_; have HO_33 := n2_; have BK211 := n3_; have BK215 := n4_; have BK220 := n5_; have HL222_0 := n6_; have HB := n7_; have HO229 := n8_; clear n0_ n1_ n2_ n3_ n4_ n5_ n6_ n7_ n8_; clear ho hb hg hat))
                   go_roundg k3
                   case measure => have := HJ2.out; have := HK2.out; have := HK3.out; omega
                   case rel => exact ⟨(y227), (wrap64 (x35_3 + 1)), (by first | rfl | (simp; done) | (simp [*]; done)), H', ⟨by have := HJ2.out; have := HK2.out; have := HK3.out; omega⟩, ⟨by (with_reducible repeat (first | apply Kd.V_alloc | apply Kd.V_drewN | apply Kd.V_drew)); exact Kd.V_mono HO_1.out (fun _ hk => ⟨hk.1.1, ⟨hk.1.2.1, ⟨hk.2, ⟨hk.1.2.2.1, ⟨hk.1.2.2.2.2.1, hk.1.2.2.2.2.2.1⟩⟩⟩⟩⟩)⟩, ⟨by (with_reducible repeat (first | apply Kd.R_alloc | apply Kd.R_drewN | apply Kd.R_drew)); exact Kd.R_mono HO_8.out (fun _ hk => hk.1)⟩, ⟨by (with_reducible repeat (first | apply Kd.N_alloc | apply Kd.N_drewN | apply Kd.N_drew)); exact Kd.N_mono HO229.out (fun _ hk => ⟨hk.1, ⟨hk.2.1, ⟨hk.2.2.1, ⟨hk.2.2.2.1, hk.2.2.2.2.1⟩⟩⟩⟩)⟩, ⟨by (with_reducible repeat (first | apply Kd.R_alloc | apply Kd.R_drewN | apply Kd.R_drew)); exact Kd.R_mono HO_33.out (fun _ hk => hk.1)⟩, ⟨by (with_reducible repeat (first | refine blk_drewN ?_ _ | refine blk_drew ?_ | refine blk_alloc ?_ _)); exact BK211.out⟩, ⟨by (with_reducible repeat (first | refine blk_drewN ?_ _ | refine blk_drew ?_ | refine blk_alloc ?_ _)); exact BK215.out⟩, ⟨by repeat (first | (with_reducible first | exact HB.out | apply below_alloc | apply pw_below_drewN | apply below_drew1 | refine below_set ?_ GE211.out | refine below_set ?_ GE215.out | refine below_set ?_ GE220.out) | exact HB.out)⟩⟩
                  ·
                   rw [if_neg c34] at H
                   exact absurd H (by simp)
                 ·
                  rw [if_neg c32] at H
                  exact absurd H (by simp)
                ·
                 rw [if_neg c31] at H
                 exact absurd H (by simp)
               ·
                rw [if_neg c30] at H
                exact absurd H (by simp)
              ·
               rw [if_neg c29] at H
               exact absurd H (by simp)
             ·
              rw [if_neg c28] at H
              exact absurd H (by simp)
            ·
             rw [if_neg c27] at H
             exact absurd H (by simp)
           ·
            rw [if_neg c26] at H
            have c26b0 : decide (x35_3 < (t216.length : Int)) = false := decide_eq_false c26
            clear c26; replace H := Option.bind_eq_some_iff.mp H; obtain ⟨t230, A440, H⟩ := H
            replace H : (model_Forward.l0 k3 t230 l0_1 (l0_1.length : Int) (wrap64 (x26_2 + 1))) = some (r1, r2) := H
            have A44 := Aside0.mk A440; clear A440; have H' := Aside0.mk H; clear H
            obtain ⟨Ao45, co45, eo45⟩ := Kd.N_slice HO_9.out
            subst eo45
            go_wp2_with (first | ((with_reducible refine gate_callee (f := 21) rfl ?_); refine goesL_ (some 62) rfl rfl Try.func21 (by kernel_rfl) rfl #[.slice Ao23 x1_2.length co23, .slice Ao25 t216.length co25, .slice Ao45 x9_3.length co45] rfl (by (try simp only [List.map_toArray, List.map_cons, List.map_nil]); first | done | rfl | (simp only [List.length_drop, List.length_take]; rfl)) ?_; (with_reducible refine (model_Combine.calls k3 (fun k_ => ((P1_ k_ ∨ w.heap.size ≤ k_) ∧ (some k_ ≠ (.slice Ao25 t216.length co25 : Value).ownBlock ∧ (some k_ ≠ (.slice Ao45 x9_3.length co45 : Value).ownBlock ∧ (some k_ ≠ (.slice Ao25 t216.length co25 : Value).ownBlock ∧ (k_ ≠ gb211 ∧ k_ ≠ gb215)))))) _ _ x1_2 _ _ t216 _ _ x9_3 t230 _ ?side1 ?side2 ?side3 ?side4 ?side5 A44.out).mono ?_); (case side1 => exact HO_1.out); (case side2 => repeat (first | exact (Kd.R_reads' HO_8.out).2.2 | (with_reducible refine Kd.C_alloc ?_ _) | (with_reducible refine Kd.C_drewN ?_ _) | (with_reducible refine Kd.C_drew ?_))); (case side3 => exact (Kd.R_reads' HO_8.out).2.1); (case side4 => repeat (first | exact (Kd.N_reads' HO_9.out).2.2 | (with_reducible refine Kd.C_alloc ?_ _) | (with_reducible refine Kd.C_drewN ?_ _) | (with_reducible refine Kd.C_drew ?_))); (case side5 => exact (Kd.N_reads' HO_9.out).2.1); rintro e w46 ⟨v231, rfl, ho0, hb⟩; refine ⟨_, rfl, ?_⟩; have n0_ := Aside0.mk (Kd.V_elder' (by (with_reducible repeat (first | apply Kd.V_alloc | apply Kd.V_drewN | apply Kd.V_drew)); exact HO_1.out) (Kd.N_base ho0) hb); have n1_ := Aside0.mk (Kd.R_below (by (with_reducible repeat (first | apply Kd.R_alloc | apply Kd.R_drewN | apply Kd.R_drew)); exact HO_8.out) hb); have n2_ := Aside0.mk (Kd.N_elder' (by (with_reducible repeat (first | apply Kd.N_alloc | apply Kd.N_drewN | apply Kd.N_drew)); exact HO_9.out) (Kd.N_base ho0) hb); have n3_ := Aside0.mk (Kd.R_below (by (with_reducible repeat (first | apply Kd.R_alloc | apply Kd.R_drewN | apply Kd.R_drew)); exact HO_33.out) hb); have n4_ := Aside0.mk (Kd.N_lower (Kd.N_mono (ok' := fun k_ => (P1_ k_ ∨ w.heap.size ≤ k_) ∧ some k_ ≠ (.slice Ao25 t216.length co25 : Value).ownBlock ∧ some k_ ≠ (.slice Ao45 x9_3.length co45 : Value).ownBlock ∧ some k_ ≠ (.slice Ao25 t216.length co25 : Value).ownBlock ∧ k_ ≠ gb211 ∧ k_ ≠ gb215) ho0 (fun k_ hk_ => ⟨Or.elim hk_ (fun hs_ => hs_.1) (fun hn_ => (.inr (Nat.le_trans (below_size (by repeat (first | (with_reducible first | exact HB.out | apply below_alloc | apply pw_below_drewN | apply below_drew1 | refine below_set ?_ GE211.out | refine below_set ?_ GE215.out) | exact HB.out))) hn_))), Or.elim hk_ (fun hs_ => hs_.2.1) (fun hn_ => (Kd.fresh' (Kd.R_lt (by (with_reducible repeat (first | apply Kd.R_alloc | apply Kd.R_drewN | apply Kd.R_drew)); exact HO_8.out)) k_ hn_)), Or.elim hk_ (fun hs_ => hs_.2.2.1) (fun hn_ => (Kd.fresh' (Kd.N_lt (by (with_reducible repeat (first | apply Kd.N_alloc | apply Kd.N_drewN | apply Kd.N_drew)); exact HO_9.out)) k_ hn_)), Or.elim hk_ (fun hs_ => hs_.2.2.2.1) (fun hn_ => (Kd.fresh' (Kd.R_lt (by (with_reducible repeat (first | apply Kd.R_alloc | apply Kd.R_drewN | apply Kd.R_drew)); exact HO_33.out)) k_ hn_)), Or.elim hk_ (fun hs_ => hs_.2.2.2.2.1) (fun hn_ => (Kd.freshB (g := gb211) (o := .cells #[.int .i64 a0_0, .slice (some ad214) l0_1.length c0_1] 24 (0, 0)) (by (with_reducible repeat (first | refine blk_drewN ?_ _ | refine blk_drew ?_ | refine blk_alloc ?_ _)); exact BK211.out) k_ hn_)), Or.elim hk_ (fun hs_ => hs_.2.2.2.2.2) (fun hn_ => (Kd.freshB (g := gb215) (o := .cells #[.slice A214_0 ((rd_T37 l0_1 x26_2).f0).length c214_0, .slice A214_1 ((rd_T37 l0_1 x26_2).f1).length c214_1, .int .i64 ((rd_T37 l0_1 x26_2).f2)] 37 (0, 0)) (by (with_reducible repeat (first | refine blk_drewN ?_ _ | refine blk_drew ?_ | refine blk_alloc ?_ _)); exact BK215.out) k_ hn_))⟩)) (below_size (by repeat (first | (with_reducible first | exact HB.out | apply below_alloc | apply pw_below_drewN | apply below_drew1 | refine below_set ?_ GE211.out | refine below_set ?_ GE215.out) | exact HB.out)))); have n5_ := Aside0.mk (blk_below (g := gb211) (o := .cells #[.int .i64 a0_0, .slice (some ad214) l0_1.length c0_1] 24 (0, 0)) (by (with_reducible repeat (first | refine blk_drewN ?_ _ | refine blk_drew ?_ | refine blk_alloc ?_ _)); exact BK211.out) hb); have n6_ := Aside0.mk (blk_below (g := gb215) (o := .cells #[.slice A214_0 ((rd_T37 l0_1 x26_2).f0).length c214_0, .slice A214_1 ((rd_T37 l0_1 x26_2).f1).length c214_1, .int .i64 ((rd_T37 l0_1 x26_2).f2)] 37 (0, 0)) (by (with_reducible repeat (first | refine blk_drewN ?_ _ | refine blk_drew ?_ | refine blk_alloc ?_ _)); exact BK215.out) hb); have n7_ := Aside0.mk (below_step (by repeat (first | (with_reducible first | exact HB.out | apply below_alloc | apply pw_below_drewN | apply below_drew1 | refine below_set ?_ GE211.out | refine below_set ?_ GE215.out) | exact HB.out)) hb); clear HO_1; clear HO_8; clear HO_9; clear HO_33; clear BK211; clear BK215; clear HB; have HO_1 := n0_; have HO_8 := n1_; have HO_9 := n2_; have HO_33 := n3_; have HO232 := n4_; have BK211 := n5_; have BK215 := n6_; have HB := n7_; clear n0_ n1_ n2_ n3_ n4_ n5_ n6_ n7_; (try clear hb); (try clear hb2); (try clear hk); (try clear hi); (try clear ho0)))
            go_roundg k3
            case measure => have := HJ2.out; have := HK2.out; have := HK3.out; omega
            case rel => exact ⟨(t230), (wrap64 (x26_2 + 1)), (by first | rfl | (simp; done) | (simp [*]; done)), H', ⟨by have := HJ2.out; have := HK2.out; have := HK3.out; omega⟩, ⟨Kd.N_V (by (with_reducible repeat (first | apply Kd.N_alloc | apply Kd.N_drewN | apply Kd.N_drew)); exact Kd.N_mono HO232.out (fun _ hk => ⟨hk.1, hk.2.2.2.2.1⟩))⟩, ⟨by (with_reducible repeat (first | refine blk_drewN ?_ _ | refine blk_drew ?_ | refine blk_alloc ?_ _)); exact BK211.out⟩, ⟨by repeat (first | (with_reducible first | exact HB.out | apply below_alloc | apply pw_below_drewN | apply below_drew1 | refine below_set ?_ GE211.out | refine below_set ?_ GE215.out) | exact HB.out)⟩⟩
        ·
         rw [if_neg c18] at H
         exact absurd H (by simp)
       ·
        rw [if_neg c17] at H
        exact absurd H (by simp)
      ·
       rw [if_neg c16] at H
       have c16b0 : decide (x26_2 < (l0_1.length : Int)) = false := decide_eq_false c16
       clear c16
       simp only [Option.some.injEq, Prod.mk.injEq] at H
       obtain ⟨rfl, rfl⟩ := H
       go_wp2
       go_ret2
       exact ⟨_, by first | rfl | (simp [errW_none, errW_some] <;> rfl) | (simp [*, errW_none, errW_some] <;> rfl), by (with_reducible repeat (first | apply Kd.V_alloc | apply Kd.V_drewN | apply Kd.V_drew)); exact Kd.V_mono HO_1.out (fun _ hk => hk.1), by repeat (first | (with_reducible first | exact HB.out | apply below_alloc | apply pw_below_drewN | apply below_drew1 | refine below_set ?_ GE211.out) | exact HB.out)⟩

/-! ### switchboardlaw15_awake: function 11 (given by hand) -/
def switchboardlaw15_awake.f : Option Bool := some true
theorem C_one {α : Type} {d : Kd α} {w : World} {g : Nat} {cs : List Value} {t : Nat} {x : α} (hb : w.heap[g]? = some (.cells cs.toArray t (0, 0))) (hk : d.K w x cs) (hl : cs.length = d.sz) : Kd.C d w (some ⟨g, 0, none⟩) 1 [x] := by
 refine ⟨rfl, by decide, fun _ => ⟨_, rfl, fun j p hj => ?_⟩⟩
 cases j with
 | zero =>
  obtain rfl : x = p := by simpa using hj
  refine ⟨cs, hl, hk, fun i u hu => ?_⟩
  rw [Nat.zero_mul, Nat.zero_add, add_plain, blk_cell hb i]
  simpa using hu
 | succ j => simp at hj
theorem alloc_at {W : World} {g : Nat} (o : Obj) (h : g = W.heap.size) : (W.alloc o).heap[g]? = some o := by rw [h]; exact heap_alloc_new W o
theorem awakeForward : model_Forward.f 40 1 [(⟨[[65536]], [(⟨[[65536]], [[65536]]⟩ : S46)], 1⟩ : S37)] [[7]] = some ([[14]], 0) := by decide +kernel
theorem awakeForward2 : model_Forward.f 40 0 [] [] = some ([], 1) := by decide +kernel
theorem awakeRight : model_Right.f 1 [(⟨[[65536]], [(⟨[[65536]], [[65536]]⟩ : S46)], 1⟩ : S37)] = some true := by decide +kernel
set_option maxHeartbeats 8000000 in
set_option maxRecDepth 100000 in
theorem switchboardlaw15_awake.calls (r : Bool) (w : World) (h : switchboardlaw15_awake.f = some r) : Calls Try.prog 11 #[] w fun e w' => e = .returned (.bool r) ∧ Below w.heap.size w w' := by
 obtain rfl := Option.some.inj h
 clear h; have hu := Try.underlying24; have hu2 := Try.underlying37; have hu3 := Try.underlying46
 obtain ⟨W, hW⟩ : ∃ W : World, W = (((((((w.alloc (.cells #[.int .i64 65536] 3)).alloc (.cells #[.slice (some ⟨w.heap.size, 0, none⟩) 1 1] 47)).alloc (.cells #[.slice (some ⟨w.heap.size + 1, 0, none⟩) 1 1, .slice (some ⟨w.heap.size + 1, 0, none⟩) 1 1] 46)).alloc (.cells #[.slice (some ⟨w.heap.size + 1, 0, none⟩) 1 1, .slice (some ⟨w.heap.size + 1 + 1, 0, none⟩) 1 1, .int .i64 1] 37)).alloc (.cells #[.int .i64 1, .slice (some ⟨w.heap.size + 1 + 1 + 1, 0, none⟩) 1 1] 24)).alloc (.cells #[.int .i64 7] 3)).alloc (.cells #[.slice (some ⟨w.heap.size + 1 + 1 + 1 + 1 + 1, 0, none⟩) 1 1] 47)) := ⟨_, rfl⟩
 have hb0 : W.heap[w.heap.size]? = some (.cells [Value.int .i64 65536].toArray 3 (0, 0)) := by rw [hW]; exact blk_alloc (blk_alloc (blk_alloc (blk_alloc (blk_alloc (blk_alloc (alloc_at _ (by simp)) _) _) _) _) _) _
 have hb1 : W.heap[w.heap.size + 1]? = some (.cells [Value.slice (some ⟨w.heap.size, 0, none⟩) 1 1].toArray 47 (0, 0)) := by rw [hW]; exact blk_alloc (blk_alloc (blk_alloc (blk_alloc (blk_alloc (alloc_at _ (by simp)) _) _) _) _) _
 have hb2 : W.heap[w.heap.size + 1 + 1]? = some (.cells [Value.slice (some ⟨w.heap.size + 1, 0, none⟩) 1 1, .slice (some ⟨w.heap.size + 1, 0, none⟩) 1 1].toArray 46 (0, 0)) := by rw [hW]; exact blk_alloc (blk_alloc (blk_alloc (blk_alloc (alloc_at _ (by simp)) _) _) _) _
 have hb3 : W.heap[w.heap.size + 1 + 1 + 1]? = some (.cells [Value.slice (some ⟨w.heap.size + 1, 0, none⟩) 1 1, .slice (some ⟨w.heap.size + 1 + 1, 0, none⟩) 1 1, .int .i64 1].toArray 37 (0, 0)) := by rw [hW]; exact blk_alloc (blk_alloc (blk_alloc (alloc_at _ (by simp)) _) _) _
 have hb4 : W.heap[w.heap.size + 1 + 1 + 1 + 1]? = some (.cells [Value.int .i64 1, .slice (some ⟨w.heap.size + 1 + 1 + 1, 0, none⟩) 1 1].toArray 24 (0, 0)) := by rw [hW]; exact blk_alloc (blk_alloc (alloc_at _ (by simp)) _) _
 have hb5 : W.heap[w.heap.size + 1 + 1 + 1 + 1 + 1]? = some (.cells [Value.int .i64 7].toArray 3 (0, 0)) := by rw [hW]; exact blk_alloc (alloc_at _ (by simp)) _
 have hb6 : W.heap[w.heap.size + 1 + 1 + 1 + 1 + 1 + 1]? = some (.cells [Value.slice (some ⟨w.heap.size + 1 + 1 + 1 + 1 + 1, 0, none⟩) 1 1].toArray 47 (0, 0)) := by rw [hW]; exact alloc_at _ (by simp)
 have c0 : Kd.C (Kd.int .i64) W (some ⟨w.heap.size, 0, none⟩) 1 [65536] := C_one hb0 rfl rfl
 have c1 : Kd.C (Kd.slice 3 (Kd.int .i64)) W (some ⟨w.heap.size + 1, 0, none⟩) 1 [[65536]] := C_one hb1 ⟨_, _, rfl, Nat.le_refl _, c0⟩ rfl
 have c2 : Kd.C k46 W (some ⟨w.heap.size + 1 + 1, 0, none⟩) 1 [(⟨[[65536]], [[65536]]⟩ : S46)] := C_one hb2 (k46_mk W (⟨[[65536]], [[65536]]⟩ : S46) (Nat.le_refl _) c1 (Nat.le_refl _) c1) rfl
 have c3 : Kd.C k37 W (some ⟨w.heap.size + 1 + 1 + 1, 0, none⟩) 1 [(⟨[[65536]], [(⟨[[65536]], [[65536]]⟩ : S46)], 1⟩ : S37)] := C_one hb3 (k37_mk W (⟨[[65536]], [(⟨[[65536]], [[65536]]⟩ : S46)], 1⟩ : S37) (Nat.le_refl _) c1 (Nat.le_refl _) c2) rfl
 have c5 : Kd.C (Kd.int .i64) W (some ⟨w.heap.size + 1 + 1 + 1 + 1 + 1, 0, none⟩) 1 [7] := C_one hb5 rfl rfl
 have c6 : Kd.C (Kd.slice 3 (Kd.int .i64)) W (some ⟨w.heap.size + 1 + 1 + 1 + 1 + 1 + 1, 0, none⟩) 1 [[7]] := C_one hb6 ⟨_, _, rfl, Nat.le_refl _, c5⟩ rfl
 have v6 : Kd.V (Kd.slice 3 (Kd.int .i64)) 47 W W.heap.size (fun k_ => k_ < W.heap.size) (.slice (some ⟨w.heap.size + 1 + 1 + 1 + 1 + 1 + 1, 0, none⟩) 1 1) [[7]] := Kd.V_mk (xs := [[7]]) (Nat.le_refl _) (Kd.C_F (Kd.heap_slice 3 (Kd.heap_int .i64)) c6)
 have HWB : Aside0 (Below w.heap.size w W) := ⟨by rw [hW]; exact below_alloc (below_alloc (below_alloc (below_alloc (below_alloc (below_alloc (below_alloc (Below.refl _ _) _) _) _) _) _) _) _⟩
 have HWB2 := hW
 have K1 : Aside0 (Calls Try.prog 12 #[.agg #[.int .i64 1, .slice (some ⟨w.heap.size + 1 + 1 + 1, 0, none⟩) 1 1], .slice (some ⟨w.heap.size + 1 + 1 + 1 + 1 + 1 + 1, 0, none⟩) 1 1] W fun e w' => ∃ v0_ : Value, e = .returned (.tuple #[v0_, .int .i64 0]) ∧ Kd.V (Kd.slice 3 (Kd.int .i64)) 47 w' W.heap.size (fun k_ => (k_ < W.heap.size ∨ W.heap.size ≤ k_)) v0_ [[14]] ∧ Below W.heap.size W w') := ⟨model_Forward.calls 40 1 _ 1 [(⟨[[65536]], [(⟨[[65536]], [[65536]]⟩ : S46)], 1⟩ : S37)] _ _ 1 [[7]] [[14]] 0 W c3 (Nat.le_refl _) v6 awakeForward⟩
 have K2 : Aside0 (∀ w1 : World, Calls Try.prog 12 #[.agg #[.int .i64 0, .slice none 0 0], .slice none 0 0] w1 fun e w' => ∃ v0_ : Value, e = .returned (.tuple #[v0_, .int .i64 1]) ∧ Kd.V (Kd.slice 3 (Kd.int .i64)) 47 w' w1.heap.size (fun k_ => (True ∨ w1.heap.size ≤ k_)) v0_ [] ∧ Below w1.heap.size w1 w') := ⟨fun w1 => model_Forward.calls 40 0 none 0 [] (fun _ => True) none 0 [] [] 1 w1 (Kd.C_nil _ _) (Nat.le_refl _) (Kd.V_nil _ _ _ _ _) awakeForward2⟩
 have K3 : Aside0 (∀ w1 : World, Below W.heap.size W w1 → Calls Try.prog 15 #[.agg #[.int .i64 1, .slice (some ⟨w.heap.size + 1 + 1 + 1, 0, none⟩) 1 1]] w1 fun e w' => e = .returned (.bool true) ∧ Below w1.heap.size w1 w') := ⟨fun w1 hb => model_Right.calls 1 _ 1 [(⟨[[65536]], [(⟨[[65536]], [[65536]]⟩ : S46)], 1⟩ : S37)] true w1 (Kd.C_below c3 hb) (Nat.le_refl _) awakeRight⟩
 have HB4 := Aside0.mk hb4; have HW := Aside0.mk hW; clear hb0 hb1 hb2 hb3 hb4 hb5 hb6 c0 c1 c2 c3 c5 c6 v6 HWB2 hW
 go_enter Try.func11, Try.ntmps11
 go_wp2_with (first
  | (go_at_call 12; rw [← HW.out]; refine K1.out.mono ?_; rintro e w1 ⟨v1, rfl, hv, hb⟩; obtain ⟨A1, c1, rfl⟩ := Kd.V_slice hv; have HV := Aside0.mk hv; have HB1 := Aside0.mk hb; clear hv hb)
  | (go_at_call 12; refine (K2.out _).mono ?_; rintro e w2 ⟨v2, rfl, hv2, hb⟩; have HB2 := Aside0.mk hb; obtain ⟨ad1, A2, c2, rfl, hx1, hl2, hi2⟩ := at_L1 (Kd.V_reads' HV.out).2.2 0 (by omega) (by decide); obtain ⟨ad2, rfl, hx2⟩ := Kd.at_int hi2 0 (by omega) (by decide); replace hx1 : w2.cell? ad1 = some (.slice (some ad2) 1 c2) := (hb.cell (World.block_lt_of_cell? _ _ hx1)).trans hx1; replace hx2 : w2.cell? ad2 = some (.int .i64 14) := (hb.cell (World.block_lt_of_cell? _ _ hx2)).trans hx2; have hm0 : _ = some (Value.int .i64 1) := (blk_cell (blk_below (blk_below HB4.out HB1.out) hb) 0).trans rfl; have hm1 : _ = some (Value.slice (some ⟨w.heap.size + 1 + 1 + 1, 0, none⟩) 1 1) := (blk_cell (blk_below (blk_below HB4.out HB1.out) hb) 1).trans rfl; clear hv2 hb hl2 hi2)
  | (go_at_call 15; refine (K3.out _ (below_step HB1.out HB2.out)).mono ?_; rintro e w3 ⟨rfl, hb⟩; have HB3 := Aside0.mk hb; clear hb))
 go_outline
 go_ret
 exact ⟨rfl, below_step (below_step (below_step HWB.out HB1.out) HB2.out) HB3.out⟩

end Go.Proofs.Ytlicglgogklnkaa.Pr
