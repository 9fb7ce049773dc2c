-- Laid by wip/xprint.py, a program of this session that runs the kit's print with some contracts given by hand; not a text of print.sh. Lean checks it.
import Derived.Test.YtlicglgogklnkaaPn0
import Derived.Test.YtlicglgogklnkaaPn1
import Derived.Test.YtlicglgogklnkaaPn9
import Derived.Test.YtlicglgogklnkaaPn11
import Derived.Test.YtlicglgogklnkaaPn12
namespace Go.Proofs.Ytlicglgogklnkaa.Pn
open Go.RowKit Go.Proofs.YtlicglgogklnkaaW.PrintWords Go.Proofs.YtlicglgogklnkaaW.PrintLast Go.Proofs.YtlicglgogklnkaaW.PrintMore
attribute [local go_sem] max2_int min2_int max_two min_two max_three min_three max_four min_four   -- for this text's walks alone
set_option linter.unusedVariables false
set_option linter.unusedSimpArgs false

/-! ### switchboardlaw15_ModelLayers: function 5 -/
def switchboardlaw15_ModelLayers.j0 : Nat → List (List Int) → Bool → Int → List (S37) → Option (Bool)
  | 0, _, _, _, _ => none
  | k + 1, x1, x40, x313000, x313001 => if x40 = true then ((switchboardlaw15_awake.f).bind fun t317 => (some t317)) else (if 0 ≤ (wrap64 ((x313001.length : Int) - 1)) then (if (wrap64 ((x313001.length : Int) - 1)) ≤ (x313001.length : Int) then ((model_Forward.f k x313000 (x313001.take ((wrap64 ((x313001.length : Int) - 1)) : Int).toNat) x1).bind fun bt322 => ((model_Forward.f k x313000 (x313001.drop ((wrap64 ((x313001.length : Int) - 1)) : Int).toNat) bt322.1).bind fun bt330 => ((model_Forward.f k x313000 x313001 x1).bind fun bt334 => ((model_Forward.f k x313000 x313001 ([] : List (List Int))).bind fun bt338 => (if 17 ≤ 11728124029610 then ((model_Forward.f k x313000 x313001 (List.replicate 17 [])).bind fun bt345 => (if bt322.2 = 0 then (if bt330.2 = 0 then (if bt334.2 = 0 then (if bt338.2 = 1 then (if bt345.2 = 1 then ((switchboardref15_Same.f k bt330.1 bt334.1).bind fun t349 => (if t349 = true then ((switchboardlaw15_awake.f).bind fun t350 => (some t350)) else (some false))) else (some false)) else (some false)) else (some false)) else (some false)) else (some false))) else (none)))))) else (none)) else (none))
def switchboardlaw15_ModelLayers.f (k : Nat) (a0_0 : Int) (l0_1 : List (S37)) (l1 : List (List Int)) : Option (Bool) := (switchboardref15_Small.f k a0_0 l0_1).bind fun t313 => (if t313 = true then ((switchboardref03_Small.f k l1).bind fun t314 => (if t314 = true then ((switchboardref15_Right.f k a0_0 l0_1).bind fun t315 => (if t315 = true then ((switchboardref15_Tokens.f k a0_0 l0_1 l1).bind fun t316 => (if t316 = true then (switchboardlaw15_ModelLayers.j0 k l1 (decide ((l0_1.length : Int) < 2)) a0_0 l0_1) else (switchboardlaw15_ModelLayers.j0 k l1 true a0_0 l0_1))) else (switchboardlaw15_ModelLayers.j0 k l1 true a0_0 l0_1))) else (switchboardlaw15_ModelLayers.j0 k l1 true a0_0 l0_1))) else (switchboardlaw15_ModelLayers.j0 k l1 true a0_0 l0_1))
theorem switchboardlaw15_ModelLayers.mono_l : ∀ k, (∀ y0 y1 y2 y3, LeO (switchboardlaw15_ModelLayers.j0 k y0 y1 y2 y3) (switchboardlaw15_ModelLayers.j0 (k + 1) y0 y1 y2 y3))
  | 0 => fun _ _ _ _ r h => by simp [switchboardlaw15_ModelLayers.j0] at h
  | k + 1 => by
    have ih0 := switchboardlaw15_ModelLayers.mono_l k
    · intro y0 y1 y2 y3
      unfold switchboardlaw15_ModelLayers.j0
      repeat' first
      | (with_reducible exact ih0 _ _ _ _)
      | (with_reducible exact model_Forward.mono _ _ _ _)
      | (with_reducible exact switchboardref03_Small.mono _ _)
      | (with_reducible exact switchboardref15_Right.mono _ _ _)
      | (with_reducible exact switchboardref15_Same.mono _ _ _)
      | (with_reducible exact switchboardref15_Small.mono _ _ _)
      | (with_reducible exact switchboardref15_Tokens.mono _ _ _ _)
      | (with_reducible exact LeO.refl _)
      | (with_reducible exact LeO.none _)
      | (with_reducible refine LeO.ite ?_ ?_)
      | (with_reducible refine LeO.bind ?_ (fun _ => ?_))
      | exact ih0 _ _ _ _
      | exact model_Forward.mono _ _ _ _
      | exact switchboardref03_Small.mono _ _
      | exact switchboardref15_Right.mono _ _ _
      | exact switchboardref15_Same.mono _ _ _
      | exact switchboardref15_Small.mono _ _ _
      | exact switchboardref15_Tokens.mono _ _ _ _
      | exact LeO.none _
      | refine LeO.ite ?_ ?_
      | refine LeO.bind ?_ (fun _ => ?_)
theorem switchboardlaw15_ModelLayers.mono : ∀ a0 a1 a2 k, LeO (switchboardlaw15_ModelLayers.f k a0 a1 a2) (switchboardlaw15_ModelLayers.f (k + 1) a0 a1 a2) := by
  intro a0 a1 a2 k
  have ih0 := switchboardlaw15_ModelLayers.mono_l k
  unfold switchboardlaw15_ModelLayers.f
  repeat' first
      | (with_reducible exact ih0 _ _ _ _)
      | (with_reducible exact model_Forward.mono _ _ _ _)
      | (with_reducible exact switchboardref03_Small.mono _ _)
      | (with_reducible exact switchboardref15_Right.mono _ _ _)
      | (with_reducible exact switchboardref15_Same.mono _ _ _)
      | (with_reducible exact switchboardref15_Small.mono _ _ _)
      | (with_reducible exact switchboardref15_Tokens.mono _ _ _ _)
      | (with_reducible exact LeO.refl _)
      | (with_reducible exact LeO.none _)
      | (with_reducible refine LeO.ite ?_ ?_)
      | (with_reducible refine LeO.bind ?_ (fun _ => ?_))
      | exact ih0 _ _ _ _
      | exact model_Forward.mono _ _ _ _
      | exact switchboardref03_Small.mono _ _
      | exact switchboardref15_Right.mono _ _ _
      | exact switchboardref15_Same.mono _ _ _
      | exact switchboardref15_Small.mono _ _ _
      | exact switchboardref15_Tokens.mono _ _ _ _
      | exact LeO.none _
      | refine LeO.ite ?_ ?_
      | refine LeO.bind ?_ (fun _ => ?_)
def switchboardlaw15_ModelLayers.T4 : Bool × List (List Nat × List Nat) := (true, [([], []), ([0], [0]), ([], []), ([2], [2]), ([], []), ([3, 4], [3, 4]), ([1, 5], [1, 5]), ([], []), ([6, 7], [6, 7]), ([8], [8]), ([9], [9]), ([9], [9]), ([10, 8, 0, 1, 2, 3, 4, 5, 6, 7, 8, 9, 10], [10]), ([11, 12, 0, 1, 2, 3, 4, 5, 6, 7, 8, 9, 10, 11, 12], [11])])
def switchboardlaw15_ModelLayers.B4 : List Nat := [0, 1, 0, 4, 0, 28, 63, 0, 255, 511, 1023, 1023, 2047, 8191]
theorem switchboardlaw15_ModelLayers.tab4 : rtab .any (opsOf Try.f5 4) = switchboardlaw15_ModelLayers.T4 := by kernel_rfl
theorem switchboardlaw15_ModelLayers.bits4 : waitsOk switchboardlaw15_ModelLayers.T4.2 switchboardlaw15_ModelLayers.B4 = true := by kernel_rfl
def switchboardlaw15_ModelLayers.T5 : Bool × List (List Nat × List Nat) := (true, [([], []), ([0], [0]), ([], []), ([2], [2]), ([], []), ([3, 4], [3, 4]), ([1, 5], [1, 5]), ([], []), ([6, 7], [6, 7]), ([8], [8]), ([9], [9]), ([9], [9]), ([10, 8, 0, 1, 2, 3, 4, 5, 6, 7, 8, 9, 10], [10]), ([11, 12, 0, 1, 2, 3, 4, 5, 6, 7, 8, 9, 10, 11, 12], [11])])
def switchboardlaw15_ModelLayers.B5 : List Nat := [0, 1, 0, 4, 0, 28, 63, 0, 255, 511, 1023, 1023, 2047, 8191]
theorem switchboardlaw15_ModelLayers.tab5 : rtab .any (opsOf Try.f5 5) = switchboardlaw15_ModelLayers.T5 := by kernel_rfl
theorem switchboardlaw15_ModelLayers.bits5 : waitsOk switchboardlaw15_ModelLayers.T5.2 switchboardlaw15_ModelLayers.B5 = true := by kernel_rfl
def switchboardlaw15_ModelLayers.T8 : Bool × List (List Nat × List Nat) := (true, [([], []), ([], []), ([0, 1], [0, 1]), ([2], [2]), ([3], [3]), ([3], [3]), ([4, 2, 0, 1, 2, 3, 4], [4]), ([5, 6, 0, 1, 2, 3, 4, 5, 6], [5])])
def switchboardlaw15_ModelLayers.B8 : List Nat := [0, 0, 3, 7, 15, 15, 31, 127]
theorem switchboardlaw15_ModelLayers.tab8 : rtab .any (opsOf Try.f5 8) = switchboardlaw15_ModelLayers.T8 := by kernel_rfl
theorem switchboardlaw15_ModelLayers.bits8 : waitsOk switchboardlaw15_ModelLayers.T8.2 switchboardlaw15_ModelLayers.B8 = true := by kernel_rfl
set_option maxHeartbeats 8000000 in
set_option maxRecDepth 100000 in
theorem switchboardlaw15_ModelLayers.calls (k : Nat) (a0_0 : Int) (A0_1 : Option Addr) (c0_1 : Nat) (l0_1 : List (S37)) (A1 : Option Addr) (c1 : Nat) (l1 : List (List Int)) (w : World) (hr0_1 : Kd.C k37 w A0_1 l0_1.length l0_1) (hc0_1 : l0_1.length ≤ c0_1) (hr1 : Kd.C (Kd.slice 3 (Kd.int .i64)) w A1 l1.length l1) (hc1 : l1.length ≤ c1) (h : switchboardlaw15_ModelLayers.f k a0_0 l0_1 l1 = some true) :
    Calls Try.prog 5 #[.agg #[.int .i64 a0_0, .slice A0_1 l0_1.length c0_1], .slice A1 l1.length c1] w fun e w' => e = .returned (.bool true) ∧ Below w.heap.size w w' := by
  have hu24 := Try.underlying24
  have HR0_1 := Aside0.mk hr0_1
  have HC0_1 := Aside0.mk hc0_1
  clear hr0_1 hc0_1
  have HR1 := Aside0.mk hr1
  have HC1 := Aside0.mk hc1
  clear hr1 hc1
  have HB := Aside0.mk (Below.refl w.heap.size w)
  have H : ((switchboardref15_Small.f k a0_0 l0_1).bind fun t313 => (if t313 = true then ((switchboardref03_Small.f k l1).bind fun t314 => (if t314 = true then ((switchboardref15_Right.f k a0_0 l0_1).bind fun t315 => (if t315 = true then ((switchboardref15_Tokens.f k a0_0 l0_1 l1).bind fun t316 => (if t316 = true then (switchboardlaw15_ModelLayers.j0 k l1 (decide ((l0_1.length : Int) < 2)) a0_0 l0_1) else (switchboardlaw15_ModelLayers.j0 k l1 true a0_0 l0_1))) else (switchboardlaw15_ModelLayers.j0 k l1 true a0_0 l0_1))) else (switchboardlaw15_ModelLayers.j0 k l1 true a0_0 l0_1))) else (switchboardlaw15_ModelLayers.j0 k l1 true a0_0 l0_1))) = some true := h
  clear h
  have HC3 := Aside0.mk H
  clear H
  go_enter Try.func5, Try.ntmps5
  go_upto_region 1 with (first | ((with_reducible refine gate_dst (N := 2) rfl ?_); (try (refine gate_guard (by rfl) ?_; dsimp only)); refine box_event ?hg (N := 2) ?hd (cs := #[.int .i64 a0_0, .slice A0_1 l0_1.length c0_1]) (t := 24) ?hr ?_; (case hd => rfl); (case hg => rfl); (case hr => first | (go_simp; done) | (go_simp; rfl)); intro gb312 hg w4 hbox hb; have n0_ := Aside0.mk (below_step (by repeat (first | (with_reducible first | exact HB.out | apply below_alloc | apply pw_below_drewN | apply below_drew1) | exact HB.out)) hb); have n1_ := Aside0.mk (hbox); have n2_ := Aside0.mk ((by rw [hg]; exact (below_size (by repeat (first | (with_reducible first | exact HB.out | apply below_alloc | apply pw_below_drewN | apply below_drew1) | exact HB.out))) : w.heap.size ≤ gb312)); have n3_ := Aside0.mk ((by rw [hg]; exact (below_size (by repeat (first | (with_reducible first | exact HB.out | apply below_alloc | apply pw_below_drewN | apply below_drew1) | exact HB.out))) : w.heap.size ≤ gb312)); clear HB; have HB := n0_; have BK312 := n1_; have GW312 := n2_; have GE312 := n3_; clear n0_ n1_ n2_ n3_; clear hb hbox hg))
  (try simp only [Act.put, List.setIfInBounds_toArray, List.set_cons_zero, List.set_cons_succ])
  go_cut [40] (fun v40 wc => ∃ (kq : Nat) (x40_2 : Bool), v40 = .bool x40_2 ∧ Aside0 (switchboardlaw15_ModelLayers.j0 kq l1 x40_2 a0_0 l0_1 = some true) ∧ Aside0 (kq ≤ k) ∧ Aside0 (wc.heap[gb312]? = some (.cells #[.int .i64 a0_0, (.slice A0_1 l0_1.length c0_1)] 24 (0, 0))) ∧ Aside0 (Below w.heap.size w wc))
  case first =>
    have H := HC3.out
    clear HC3
    replace H := Option.bind_eq_some_iff.mp H
    obtain ⟨t313, A50, H⟩ := H
    replace H : (if t313 = true then ((switchboardref03_Small.f k l1).bind fun t314 => (if t314 = true then ((switchboardref15_Right.f k a0_0 l0_1).bind fun t315 => (if t315 = true then ((switchboardref15_Tokens.f k a0_0 l0_1 l1).bind fun t316 => (if t316 = true then (switchboardlaw15_ModelLayers.j0 k l1 (decide ((l0_1.length : Int) < 2)) a0_0 l0_1) else (switchboardlaw15_ModelLayers.j0 k l1 true a0_0 l0_1))) else (switchboardlaw15_ModelLayers.j0 k l1 true a0_0 l0_1))) else (switchboardlaw15_ModelLayers.j0 k l1 true a0_0 l0_1))) else (switchboardlaw15_ModelLayers.j0 k l1 true a0_0 l0_1)) = some true := H
    have A5 := Aside0.mk A50
    clear A50
    by_cases c6 : t313 = true
    · subst c6
      have H1 : ((switchboardref03_Small.f k l1).bind fun t314 => (if t314 = true then ((switchboardref15_Right.f k a0_0 l0_1).bind fun t315 => (if t315 = true then ((switchboardref15_Tokens.f k a0_0 l0_1 l1).bind fun t316 => (if t316 = true then (switchboardlaw15_ModelLayers.j0 k l1 (decide ((l0_1.length : Int) < 2)) a0_0 l0_1) else (switchboardlaw15_ModelLayers.j0 k l1 true a0_0 l0_1))) else (switchboardlaw15_ModelLayers.j0 k l1 true a0_0 l0_1))) else (switchboardlaw15_ModelLayers.j0 k l1 true a0_0 l0_1))) = some true := by rw [if_pos rfl] at H; exact H
      clear H
      have H := H1
      clear H1
      replace H := Option.bind_eq_some_iff.mp H
      obtain ⟨t314, A70, H⟩ := H
      replace H : (if t314 = true then ((switchboardref15_Right.f k a0_0 l0_1).bind fun t315 => (if t315 = true then ((switchboardref15_Tokens.f k a0_0 l0_1 l1).bind fun t316 => (if t316 = true then (switchboardlaw15_ModelLayers.j0 k l1 (decide ((l0_1.length : Int) < 2)) a0_0 l0_1) else (switchboardlaw15_ModelLayers.j0 k l1 true a0_0 l0_1))) else (switchboardlaw15_ModelLayers.j0 k l1 true a0_0 l0_1))) else (switchboardlaw15_ModelLayers.j0 k l1 true a0_0 l0_1)) = some true := H
      have A7 := Aside0.mk A70
      clear A70
      by_cases c8 : t314 = true
      · subst c8
        have H1 : ((switchboardref15_Right.f k a0_0 l0_1).bind fun t315 => (if t315 = true then ((switchboardref15_Tokens.f k a0_0 l0_1 l1).bind fun t316 => (if t316 = true then (switchboardlaw15_ModelLayers.j0 k l1 (decide ((l0_1.length : Int) < 2)) a0_0 l0_1) else (switchboardlaw15_ModelLayers.j0 k l1 true a0_0 l0_1))) else (switchboardlaw15_ModelLayers.j0 k l1 true a0_0 l0_1))) = some true := by rw [if_pos rfl] at H; exact H
        clear H
        have H := H1
        clear H1
        replace H := Option.bind_eq_some_iff.mp H
        obtain ⟨t315, A90, H⟩ := H
        replace H : (if t315 = true then ((switchboardref15_Tokens.f k a0_0 l0_1 l1).bind fun t316 => (if t316 = true then (switchboardlaw15_ModelLayers.j0 k l1 (decide ((l0_1.length : Int) < 2)) a0_0 l0_1) else (switchboardlaw15_ModelLayers.j0 k l1 true a0_0 l0_1))) else (switchboardlaw15_ModelLayers.j0 k l1 true a0_0 l0_1)) = some true := H
        have A9 := Aside0.mk A90
        clear A90
        by_cases c10 : t315 = true
        · subst c10
          have H1 : ((switchboardref15_Tokens.f k a0_0 l0_1 l1).bind fun t316 => (if t316 = true then (switchboardlaw15_ModelLayers.j0 k l1 (decide ((l0_1.length : Int) < 2)) a0_0 l0_1) else (switchboardlaw15_ModelLayers.j0 k l1 true a0_0 l0_1))) = some true := by rw [if_pos rfl] at H; exact H
          clear H
          have H := H1
          clear H1
          replace H := Option.bind_eq_some_iff.mp H
          obtain ⟨t316, A110, H⟩ := H
          replace H : (if t316 = true then (switchboardlaw15_ModelLayers.j0 k l1 (decide ((l0_1.length : Int) < 2)) a0_0 l0_1) else (switchboardlaw15_ModelLayers.j0 k l1 true a0_0 l0_1)) = some true := H
          have A11 := Aside0.mk A110
          clear A110
          by_cases c12 : t316 = true
          · subst c12
            have H1 : (switchboardlaw15_ModelLayers.j0 k l1 (decide ((l0_1.length : Int) < 2)) a0_0 l0_1) = some true := by rw [if_pos rfl] at H; exact H
            clear H
            have H := H1
            clear H1
            have H' := Aside0.mk H
            clear H
            have hcz13_0 : w4.cell? ⟨gb312, 0, none⟩ = some (.int .i64 a0_0) := (blk_cell BK312.out 0).trans rfl
            have hcz13_1 : w4.cell? ⟨gb312, 1, none⟩ = some (.slice A0_1 l0_1.length c0_1) := (blk_cell BK312.out 1).trans rfl
            have hfz13_0 := blk_frozen BK312.out 0
            have hfz13_1 := blk_frozen BK312.out 1
            go_wp2_with (first | ((with_reducible refine gate_callee (f := 9) rfl ?_); refine goesL_ (some 17) rfl rfl Try.func9 (by kernel_rfl) rfl #[.agg #[.int .i64 a0_0, .slice A0_1 l0_1.length c0_1]] rfl (by (try simp only [List.map_toArray, List.map_cons, List.map_nil]); first | done | rfl | (simp only [List.length_drop, List.length_take]; rfl)) ?_; (with_reducible refine (switchboardref15_Small.calls k a0_0 _ _ l0_1 true _ ?side1 ?side2 A5.out).mono ?_); (case side1 => repeat (first | exact (Kd.C_below HR0_1.out HB.out) | (with_reducible refine Kd.C_alloc ?_ _) | (with_reducible refine Kd.C_drewN ?_ _) | (with_reducible refine Kd.C_drew ?_))); (case side2 => exact HC0_1.out); rintro e w14 ⟨rfl, hb⟩; refine ⟨_, rfl, ?_⟩; have n0_ := Aside0.mk (blk_below (g := gb312) (o := .cells #[.int .i64 a0_0, .slice A0_1 l0_1.length c0_1] 24 (0, 0)) (by (with_reducible repeat (first | refine blk_drewN ?_ _ | refine blk_drew ?_ | refine blk_alloc ?_ _)); exact BK312.out) hb); have n1_ := Aside0.mk (below_step (by repeat (first | (with_reducible first | exact HB.out | apply below_alloc | apply pw_below_drewN | apply below_drew1 | refine below_set ?_ GE312.out) | exact HB.out)) hb); clear BK312; clear HB; have BK312 := n0_; have HB := n1_; clear n0_ n1_; (try clear hb); (try clear hb2); (try clear hk); (try clear hi)) | (go_at_call 10; (with_reducible refine (switchboardref03_Small.calls k _ _ l1 true _ ?side1 ?side2 A7.out).mono ?_); (case side1 => repeat (first | exact (Kd.C_below HR1.out HB.out) | (with_reducible refine Kd.C_alloc ?_ _) | (with_reducible refine Kd.C_drewN ?_ _) | (with_reducible refine Kd.C_drew ?_))); (case side2 => exact HC1.out); rintro e w' ⟨rfl, ⟨nd, rfl⟩⟩; have hcz15_0 : w14.cell? ⟨gb312, 0, none⟩ = some (.int .i64 a0_0) := (blk_cell BK312.out 0).trans rfl; have hcz15_1 : w14.cell? ⟨gb312, 1, none⟩ = some (.slice A0_1 l0_1.length c0_1) := (blk_cell BK312.out 1).trans rfl; have hfz15_0 := blk_frozen BK312.out 0; have hfz15_1 := blk_frozen BK312.out 1) | (go_at_call 13; (with_reducible refine (switchboardref15_Right.calls k a0_0 _ _ l0_1 true _ ?side1 ?side2 A9.out).mono ?_); (case side1 => repeat (first | exact (Kd.C_below HR0_1.out (by repeat (first | (with_reducible first | exact HB.out | apply below_alloc | apply pw_below_drewN | apply below_drew1 | refine below_set ?_ GE312.out) | exact HB.out))) | (with_reducible refine Kd.C_alloc ?_ _) | (with_reducible refine Kd.C_drewN ?_ _) | (with_reducible refine Kd.C_drew ?_))); (case side2 => exact HC0_1.out); rintro e w16 ⟨rfl, hb⟩; have n0_ := Aside0.mk (blk_below (g := gb312) (o := .cells #[.int .i64 a0_0, .slice A0_1 l0_1.length c0_1] 24 (0, 0)) (by (with_reducible repeat (first | refine blk_drewN ?_ _ | refine blk_drew ?_ | refine blk_alloc ?_ _)); exact BK312.out) hb); have n1_ := Aside0.mk (below_step (by repeat (first | (with_reducible first | exact HB.out | apply below_alloc | apply pw_below_drewN | apply below_drew1 | refine below_set ?_ GE312.out) | exact HB.out)) hb); clear BK312; clear HB; have BK312 := n0_; have HB := n1_; clear n0_ n1_; (try clear hb); (try clear hb2); (try clear hk); (try clear hi); have hcz17_0 : w16.cell? ⟨gb312, 0, none⟩ = some (.int .i64 a0_0) := (blk_cell BK312.out 0).trans rfl; have hcz17_1 : w16.cell? ⟨gb312, 1, none⟩ = some (.slice A0_1 l0_1.length c0_1) := (blk_cell BK312.out 1).trans rfl; have hfz17_0 := blk_frozen BK312.out 0; have hfz17_1 := blk_frozen BK312.out 1) | (go_at_call 14; (with_reducible refine (switchboardref15_Tokens.calls k a0_0 _ _ l0_1 _ _ l1 true _ ?side1 ?side2 ?side3 ?side4 A11.out).mono ?_); (case side1 => repeat (first | exact (Kd.C_below HR0_1.out HB.out) | (with_reducible refine Kd.C_alloc ?_ _) | (with_reducible refine Kd.C_drewN ?_ _) | (with_reducible refine Kd.C_drew ?_))); (case side2 => exact HC0_1.out); (case side3 => repeat (first | exact (Kd.C_below HR1.out HB.out) | (with_reducible refine Kd.C_alloc ?_ _) | (with_reducible refine Kd.C_drewN ?_ _) | (with_reducible refine Kd.C_drew ?_))); (case side4 => exact HC1.out); rintro e w18 ⟨rfl, hb⟩; have n0_ := Aside0.mk (blk_below (g := gb312) (o := .cells #[.int .i64 a0_0, .slice A0_1 l0_1.length c0_1] 24 (0, 0)) (by (with_reducible repeat (first | refine blk_drewN ?_ _ | refine blk_drew ?_ | refine blk_alloc ?_ _)); exact BK312.out) hb); have n1_ := Aside0.mk (below_step (by repeat (first | (with_reducible first | exact HB.out | apply below_alloc | apply pw_below_drewN | apply below_drew1 | refine below_set ?_ GE312.out) | exact HB.out)) hb); clear BK312; clear HB; have BK312 := n0_; have HB := n1_; clear n0_ n1_; (try clear hb); (try clear hb2); (try clear hk); (try clear hi); have hcz19_0 : w18.cell? ⟨gb312, 0, none⟩ = some (.int .i64 a0_0) := (blk_cell BK312.out 0).trans rfl; have hcz19_1 : w18.cell? ⟨gb312, 1, none⟩ = some (.slice A0_1 l0_1.length c0_1) := (blk_cell BK312.out 1).trans rfl; have hfz19_0 := blk_frozen BK312.out 0; have hfz19_1 := blk_frozen BK312.out 1))
            go_meet
            case rel => exact ⟨_, (decide ((l0_1.length : Int) < 2)), (by first | rfl | (simp; done) | (simp [*]; done)), H', ⟨by first | omega | exact Nat.le_refl _⟩, ⟨by (with_reducible repeat (first | refine blk_drewN ?_ _ | refine blk_drew ?_ | refine blk_alloc ?_ _)); exact BK312.out⟩, ⟨by repeat (first | (with_reducible first | exact HB.out | apply below_alloc | apply pw_below_drewN | apply below_drew1 | refine below_set ?_ GE312.out) | exact HB.out)⟩⟩
          · replace c12 := Bool.eq_false_iff.mpr c12
            subst c12
            have H1 : (switchboardlaw15_ModelLayers.j0 k l1 true a0_0 l0_1) = some true := by rw [if_neg (show ¬ (false = true) by decide)] at H; exact H
            clear H
            have H := H1
            clear H1
            have H' := Aside0.mk H
            clear H
            have hcz20_0 : w4.cell? ⟨gb312, 0, none⟩ = some (.int .i64 a0_0) := (blk_cell BK312.out 0).trans rfl
            have hcz20_1 : w4.cell? ⟨gb312, 1, none⟩ = some (.slice A0_1 l0_1.length c0_1) := (blk_cell BK312.out 1).trans rfl
            have hfz20_0 := blk_frozen BK312.out 0
            have hfz20_1 := blk_frozen BK312.out 1
            go_wp2_with (first | ((with_reducible refine gate_callee (f := 9) rfl ?_); refine goesL_ (some 17) rfl rfl Try.func9 (by kernel_rfl) rfl #[.agg #[.int .i64 a0_0, .slice A0_1 l0_1.length c0_1]] rfl (by (try simp only [List.map_toArray, List.map_cons, List.map_nil]); first | done | rfl | (simp only [List.length_drop, List.length_take]; rfl)) ?_; (with_reducible refine (switchboardref15_Small.calls k a0_0 _ _ l0_1 true _ ?side1 ?side2 A5.out).mono ?_); (case side1 => repeat (first | exact (Kd.C_below HR0_1.out HB.out) | (with_reducible refine Kd.C_alloc ?_ _) | (with_reducible refine Kd.C_drewN ?_ _) | (with_reducible refine Kd.C_drew ?_))); (case side2 => exact HC0_1.out); rintro e w21 ⟨rfl, hb⟩; refine ⟨_, rfl, ?_⟩; have n0_ := Aside0.mk (blk_below (g := gb312) (o := .cells #[.int .i64 a0_0, .slice A0_1 l0_1.length c0_1] 24 (0, 0)) (by (with_reducible repeat (first | refine blk_drewN ?_ _ | refine blk_drew ?_ | refine blk_alloc ?_ _)); exact BK312.out) hb); have n1_ := Aside0.mk (below_step (by repeat (first | (with_reducible first | exact HB.out | apply below_alloc | apply pw_below_drewN | apply below_drew1 | refine below_set ?_ GE312.out) | exact HB.out)) hb); clear BK312; clear HB; have BK312 := n0_; have HB := n1_; clear n0_ n1_; (try clear hb); (try clear hb2); (try clear hk); (try clear hi)) | (go_at_call 10; (with_reducible refine (switchboardref03_Small.calls k _ _ l1 true _ ?side1 ?side2 A7.out).mono ?_); (case side1 => repeat (first | exact (Kd.C_below HR1.out HB.out) | (with_reducible refine Kd.C_alloc ?_ _) | (with_reducible refine Kd.C_drewN ?_ _) | (with_reducible refine Kd.C_drew ?_))); (case side2 => exact HC1.out); rintro e w' ⟨rfl, ⟨nd, rfl⟩⟩; have hcz22_0 : w21.cell? ⟨gb312, 0, none⟩ = some (.int .i64 a0_0) := (blk_cell BK312.out 0).trans rfl; have hcz22_1 : w21.cell? ⟨gb312, 1, none⟩ = some (.slice A0_1 l0_1.length c0_1) := (blk_cell BK312.out 1).trans rfl; have hfz22_0 := blk_frozen BK312.out 0; have hfz22_1 := blk_frozen BK312.out 1) | (go_at_call 13; (with_reducible refine (switchboardref15_Right.calls k a0_0 _ _ l0_1 true _ ?side1 ?side2 A9.out).mono ?_); (case side1 => repeat (first | exact (Kd.C_below HR0_1.out (by repeat (first | (with_reducible first | exact HB.out | apply below_alloc | apply pw_below_drewN | apply below_drew1 | refine below_set ?_ GE312.out) | exact HB.out))) | (with_reducible refine Kd.C_alloc ?_ _) | (with_reducible refine Kd.C_drewN ?_ _) | (with_reducible refine Kd.C_drew ?_))); (case side2 => exact HC0_1.out); rintro e w23 ⟨rfl, hb⟩; have n0_ := Aside0.mk (blk_below (g := gb312) (o := .cells #[.int .i64 a0_0, .slice A0_1 l0_1.length c0_1] 24 (0, 0)) (by (with_reducible repeat (first | refine blk_drewN ?_ _ | refine blk_drew ?_ | refine blk_alloc ?_ _)); exact BK312.out) hb); have n1_ := Aside0.mk (below_step (by repeat (first | (with_reducible first | exact HB.out | apply below_alloc | apply pw_below_drewN | apply below_drew1 | refine below_set ?_ GE312.out) | exact HB.out)) hb); clear BK312; clear HB; have BK312 := n0_; have HB := n1_; clear n0_ n1_; (try clear hb); (try clear hb2); (try clear hk); (try clear hi); have hcz24_0 : w23.cell? ⟨gb312, 0, none⟩ = some (.int .i64 a0_0) := (blk_cell BK312.out 0).trans rfl; have hcz24_1 : w23.cell? ⟨gb312, 1, none⟩ = some (.slice A0_1 l0_1.length c0_1) := (blk_cell BK312.out 1).trans rfl; have hfz24_0 := blk_frozen BK312.out 0; have hfz24_1 := blk_frozen BK312.out 1) | (go_at_call 14; (with_reducible refine (switchboardref15_Tokens.calls k a0_0 _ _ l0_1 _ _ l1 false _ ?side1 ?side2 ?side3 ?side4 A11.out).mono ?_); (case side1 => repeat (first | exact (Kd.C_below HR0_1.out HB.out) | (with_reducible refine Kd.C_alloc ?_ _) | (with_reducible refine Kd.C_drewN ?_ _) | (with_reducible refine Kd.C_drew ?_))); (case side2 => exact HC0_1.out); (case side3 => repeat (first | exact (Kd.C_below HR1.out HB.out) | (with_reducible refine Kd.C_alloc ?_ _) | (with_reducible refine Kd.C_drewN ?_ _) | (with_reducible refine Kd.C_drew ?_))); (case side4 => exact HC1.out); rintro e w25 ⟨rfl, hb⟩; have n0_ := Aside0.mk (blk_below (g := gb312) (o := .cells #[.int .i64 a0_0, .slice A0_1 l0_1.length c0_1] 24 (0, 0)) (by (with_reducible repeat (first | refine blk_drewN ?_ _ | refine blk_drew ?_ | refine blk_alloc ?_ _)); exact BK312.out) hb); have n1_ := Aside0.mk (below_step (by repeat (first | (with_reducible first | exact HB.out | apply below_alloc | apply pw_below_drewN | apply below_drew1 | refine below_set ?_ GE312.out) | exact HB.out)) hb); clear BK312; clear HB; have BK312 := n0_; have HB := n1_; clear n0_ n1_; (try clear hb); (try clear hb2); (try clear hk); (try clear hi)))
            go_meet
            case rel => exact ⟨_, (true), (by first | rfl | (simp; done) | (simp [*]; done)), H', ⟨by first | omega | exact Nat.le_refl _⟩, ⟨by (with_reducible repeat (first | refine blk_drewN ?_ _ | refine blk_drew ?_ | refine blk_alloc ?_ _)); exact BK312.out⟩, ⟨by repeat (first | (with_reducible first | exact HB.out | apply below_alloc | apply pw_below_drewN | apply below_drew1 | refine below_set ?_ GE312.out) | exact HB.out)⟩⟩
        · replace c10 := Bool.eq_false_iff.mpr c10
          subst c10
          have H1 : (switchboardlaw15_ModelLayers.j0 k l1 true a0_0 l0_1) = some true := by rw [if_neg (show ¬ (false = true) by decide)] at H; exact H
          clear H
          have H := H1
          clear H1
          have H' := Aside0.mk H
          clear H
          have hcz26_0 : w4.cell? ⟨gb312, 0, none⟩ = some (.int .i64 a0_0) := (blk_cell BK312.out 0).trans rfl
          have hcz26_1 : w4.cell? ⟨gb312, 1, none⟩ = some (.slice A0_1 l0_1.length c0_1) := (blk_cell BK312.out 1).trans rfl
          have hfz26_0 := blk_frozen BK312.out 0
          have hfz26_1 := blk_frozen BK312.out 1
          go_wp2_with (first | ((with_reducible refine gate_callee (f := 9) rfl ?_); refine goesL_ (some 17) rfl rfl Try.func9 (by kernel_rfl) rfl #[.agg #[.int .i64 a0_0, .slice A0_1 l0_1.length c0_1]] rfl (by (try simp only [List.map_toArray, List.map_cons, List.map_nil]); first | done | rfl | (simp only [List.length_drop, List.length_take]; rfl)) ?_; (with_reducible refine (switchboardref15_Small.calls k a0_0 _ _ l0_1 true _ ?side1 ?side2 A5.out).mono ?_); (case side1 => repeat (first | exact (Kd.C_below HR0_1.out HB.out) | (with_reducible refine Kd.C_alloc ?_ _) | (with_reducible refine Kd.C_drewN ?_ _) | (with_reducible refine Kd.C_drew ?_))); (case side2 => exact HC0_1.out); rintro e w27 ⟨rfl, hb⟩; refine ⟨_, rfl, ?_⟩; have n0_ := Aside0.mk (blk_below (g := gb312) (o := .cells #[.int .i64 a0_0, .slice A0_1 l0_1.length c0_1] 24 (0, 0)) (by (with_reducible repeat (first | refine blk_drewN ?_ _ | refine blk_drew ?_ | refine blk_alloc ?_ _)); exact BK312.out) hb); have n1_ := Aside0.mk (below_step (by repeat (first | (with_reducible first | exact HB.out | apply below_alloc | apply pw_below_drewN | apply below_drew1 | refine below_set ?_ GE312.out) | exact HB.out)) hb); clear BK312; clear HB; have BK312 := n0_; have HB := n1_; clear n0_ n1_; (try clear hb); (try clear hb2); (try clear hk); (try clear hi)) | (go_at_call 10; (with_reducible refine (switchboardref03_Small.calls k _ _ l1 true _ ?side1 ?side2 A7.out).mono ?_); (case side1 => repeat (first | exact (Kd.C_below HR1.out HB.out) | (with_reducible refine Kd.C_alloc ?_ _) | (with_reducible refine Kd.C_drewN ?_ _) | (with_reducible refine Kd.C_drew ?_))); (case side2 => exact HC1.out); rintro e w' ⟨rfl, ⟨nd, rfl⟩⟩; have hcz28_0 : w27.cell? ⟨gb312, 0, none⟩ = some (.int .i64 a0_0) := (blk_cell BK312.out 0).trans rfl; have hcz28_1 : w27.cell? ⟨gb312, 1, none⟩ = some (.slice A0_1 l0_1.length c0_1) := (blk_cell BK312.out 1).trans rfl; have hfz28_0 := blk_frozen BK312.out 0; have hfz28_1 := blk_frozen BK312.out 1) | (go_at_call 13; (with_reducible refine (switchboardref15_Right.calls k a0_0 _ _ l0_1 false _ ?side1 ?side2 A9.out).mono ?_); (case side1 => repeat (first | exact (Kd.C_below HR0_1.out (by repeat (first | (with_reducible first | exact HB.out | apply below_alloc | apply pw_below_drewN | apply below_drew1 | refine below_set ?_ GE312.out) | exact HB.out))) | (with_reducible refine Kd.C_alloc ?_ _) | (with_reducible refine Kd.C_drewN ?_ _) | (with_reducible refine Kd.C_drew ?_))); (case side2 => exact HC0_1.out); rintro e w29 ⟨rfl, hb⟩; have n0_ := Aside0.mk (blk_below (g := gb312) (o := .cells #[.int .i64 a0_0, .slice A0_1 l0_1.length c0_1] 24 (0, 0)) (by (with_reducible repeat (first | refine blk_drewN ?_ _ | refine blk_drew ?_ | refine blk_alloc ?_ _)); exact BK312.out) hb); have n1_ := Aside0.mk (below_step (by repeat (first | (with_reducible first | exact HB.out | apply below_alloc | apply pw_below_drewN | apply below_drew1 | refine below_set ?_ GE312.out) | exact HB.out)) hb); clear BK312; clear HB; have BK312 := n0_; have HB := n1_; clear n0_ n1_; (try clear hb); (try clear hb2); (try clear hk); (try clear hi)))
          go_meet
          case rel => exact ⟨_, (true), (by first | rfl | (simp; done) | (simp [*]; done)), H', ⟨by first | omega | exact Nat.le_refl _⟩, ⟨by (with_reducible repeat (first | refine blk_drewN ?_ _ | refine blk_drew ?_ | refine blk_alloc ?_ _)); exact BK312.out⟩, ⟨by repeat (first | (with_reducible first | exact HB.out | apply below_alloc | apply pw_below_drewN | apply below_drew1 | refine below_set ?_ GE312.out) | exact HB.out)⟩⟩
      · replace c8 := Bool.eq_false_iff.mpr c8
        subst c8
        have H1 : (switchboardlaw15_ModelLayers.j0 k l1 true a0_0 l0_1) = some true := by rw [if_neg (show ¬ (false = true) by decide)] at H; exact H
        clear H
        have H := H1
        clear H1
        have H' := Aside0.mk H
        clear H
        have hcz30_0 : w4.cell? ⟨gb312, 0, none⟩ = some (.int .i64 a0_0) := (blk_cell BK312.out 0).trans rfl
        have hcz30_1 : w4.cell? ⟨gb312, 1, none⟩ = some (.slice A0_1 l0_1.length c0_1) := (blk_cell BK312.out 1).trans rfl
        have hfz30_0 := blk_frozen BK312.out 0
        have hfz30_1 := blk_frozen BK312.out 1
        go_wp2_with (first | ((with_reducible refine gate_callee (f := 9) rfl ?_); refine goesL_ (some 17) rfl rfl Try.func9 (by kernel_rfl) rfl #[.agg #[.int .i64 a0_0, .slice A0_1 l0_1.length c0_1]] rfl (by (try simp only [List.map_toArray, List.map_cons, List.map_nil]); first | done | rfl | (simp only [List.length_drop, List.length_take]; rfl)) ?_; (with_reducible refine (switchboardref15_Small.calls k a0_0 _ _ l0_1 true _ ?side1 ?side2 A5.out).mono ?_); (case side1 => repeat (first | exact (Kd.C_below HR0_1.out HB.out) | (with_reducible refine Kd.C_alloc ?_ _) | (with_reducible refine Kd.C_drewN ?_ _) | (with_reducible refine Kd.C_drew ?_))); (case side2 => exact HC0_1.out); rintro e w31 ⟨rfl, hb⟩; refine ⟨_, rfl, ?_⟩; have n0_ := Aside0.mk (blk_below (g := gb312) (o := .cells #[.int .i64 a0_0, .slice A0_1 l0_1.length c0_1] 24 (0, 0)) (by (with_reducible repeat (first | refine blk_drewN ?_ _ | refine blk_drew ?_ | refine blk_alloc ?_ _)); exact BK312.out) hb); have n1_ := Aside0.mk (below_step (by repeat (first | (with_reducible first | exact HB.out | apply below_alloc | apply pw_below_drewN | apply below_drew1 | refine below_set ?_ GE312.out) | exact HB.out)) hb); clear BK312; clear HB; have BK312 := n0_; have HB := n1_; clear n0_ n1_; (try clear hb); (try clear hb2); (try clear hk); (try clear hi)) | (go_at_call 10; (with_reducible refine (switchboardref03_Small.calls k _ _ l1 false _ ?side1 ?side2 A7.out).mono ?_); (case side1 => repeat (first | exact (Kd.C_below HR1.out HB.out) | (with_reducible refine Kd.C_alloc ?_ _) | (with_reducible refine Kd.C_drewN ?_ _) | (with_reducible refine Kd.C_drew ?_))); (case side2 => exact HC1.out); rintro e w' ⟨rfl, ⟨nd, rfl⟩⟩))
        go_meet
        case rel => exact ⟨_, (true), (by first | rfl | (simp; done) | (simp [*]; done)), H', ⟨by first | omega | exact Nat.le_refl _⟩, ⟨by (with_reducible repeat (first | refine blk_drewN ?_ _ | refine blk_drew ?_ | refine blk_alloc ?_ _)); exact BK312.out⟩, ⟨by repeat (first | (with_reducible first | exact HB.out | apply below_alloc | apply pw_below_drewN | apply below_drew1 | refine below_set ?_ GE312.out) | exact HB.out)⟩⟩
    · replace c6 := Bool.eq_false_iff.mpr c6
      subst c6
      have H1 : (switchboardlaw15_ModelLayers.j0 k l1 true a0_0 l0_1) = some true := by rw [if_neg (show ¬ (false = true) by decide)] at H; exact H
      clear H
      have H := H1
      clear H1
      have H' := Aside0.mk H
      clear H
      have hcz32_0 : w4.cell? ⟨gb312, 0, none⟩ = some (.int .i64 a0_0) := (blk_cell BK312.out 0).trans rfl
      have hcz32_1 : w4.cell? ⟨gb312, 1, none⟩ = some (.slice A0_1 l0_1.length c0_1) := (blk_cell BK312.out 1).trans rfl
      have hfz32_0 := blk_frozen BK312.out 0
      have hfz32_1 := blk_frozen BK312.out 1
      go_wp2_with (first | ((with_reducible refine gate_callee (f := 9) rfl ?_); refine goesL_ (some 17) rfl rfl Try.func9 (by kernel_rfl) rfl #[.agg #[.int .i64 a0_0, .slice A0_1 l0_1.length c0_1]] rfl (by (try simp only [List.map_toArray, List.map_cons, List.map_nil]); first | done | rfl | (simp only [List.length_drop, List.length_take]; rfl)) ?_; (with_reducible refine (switchboardref15_Small.calls k a0_0 _ _ l0_1 false _ ?side1 ?side2 A5.out).mono ?_); (case side1 => repeat (first | exact (Kd.C_below HR0_1.out HB.out) | (with_reducible refine Kd.C_alloc ?_ _) | (with_reducible refine Kd.C_drewN ?_ _) | (with_reducible refine Kd.C_drew ?_))); (case side2 => exact HC0_1.out); rintro e w33 ⟨rfl, hb⟩; refine ⟨_, rfl, ?_⟩; have n0_ := Aside0.mk (blk_below (g := gb312) (o := .cells #[.int .i64 a0_0, .slice A0_1 l0_1.length c0_1] 24 (0, 0)) (by (with_reducible repeat (first | refine blk_drewN ?_ _ | refine blk_drew ?_ | refine blk_alloc ?_ _)); exact BK312.out) hb); have n1_ := Aside0.mk (below_step (by repeat (first | (with_reducible first | exact HB.out | apply below_alloc | apply pw_below_drewN | apply below_drew1 | refine below_set ?_ GE312.out) | exact HB.out)) hb); clear BK312; clear HB; have BK312 := n0_; have HB := n1_; clear n0_ n1_; (try clear hb); (try clear hb2); (try clear hk); (try clear hi)))
      go_meet
      case rel => exact ⟨_, (true), (by first | rfl | (simp; done) | (simp [*]; done)), H', ⟨by first | omega | exact Nat.le_refl _⟩, ⟨by (with_reducible repeat (first | refine blk_drewN ?_ _ | refine blk_drew ?_ | refine blk_alloc ?_ _)); exact BK312.out⟩, ⟨by repeat (first | (with_reducible first | exact HB.out | apply below_alloc | apply pw_below_drewN | apply below_drew1 | refine below_set ?_ GE312.out) | exact HB.out)⟩⟩
  case rest =>
    clear HC3
    try clear c1
    try clear p2
    try clear c5
    try clear c6
    try clear c8
    try clear c9
    try clear c10
    try clear c12
    try clear hcz13_0
    try clear hcz13_1
    try clear hcz15_0
    try clear hcz15_1
    try clear hcz17_0
    try clear hcz17_1
    try clear hcz19_0
    try clear hcz19_1
    try clear hcz20_0
    try clear hcz20_1
    try clear hcz22_0
    try clear hcz22_1
    try clear hcz24_0
    try clear hcz24_1
    try clear hcz26_0
    try clear hcz26_1
    try clear hcz28_0
    try clear hcz28_1
    try clear hcz30_0
    try clear hcz30_1
    try clear hcz32_0
    try clear hcz32_1
    try clear hfz13_0
    try clear hfz13_1
    try clear hfz15_0
    try clear hfz15_1
    try clear hfz17_0
    try clear hfz17_1
    try clear hfz19_0
    try clear hfz19_1
    try clear hfz20_0
    try clear hfz20_1
    try clear hfz22_0
    try clear hfz22_1
    try clear hfz24_0
    try clear hfz24_1
    try clear hfz26_0
    try clear hfz26_1
    try clear hfz28_0
    try clear hfz28_1
    try clear hfz30_0
    try clear hfz30_1
    try clear hfz32_0
    try clear hfz32_1
    obtain ⟨kq, x40_2, rfl, HA, HJ2, BK312, HB⟩ := hcut
    cases kq with
    | zero => exact absurd HA.out (by simp [switchboardlaw15_ModelLayers.j0])
    | succ kj2 =>
      have H := HA.out
      clear HA
      simp only [switchboardlaw15_ModelLayers.j0] at H
      by_cases c34 : x40_2 = true
      · subst c34
        have H1 : ((switchboardlaw15_awake.f).bind fun t317 => (some t317)) = some true := by rw [if_pos rfl] at H; exact H
        clear H
        have H := H1
        clear H1
        replace H := Option.bind_eq_some_iff.mp H
        obtain ⟨t317, A350, H⟩ := H
        replace H : (some t317) = some true := H
        have A35 := Aside0.mk A350
        clear A350
        have hr_ := Aside0.mk (Option.some.inj H)
        go_wp2_with (first | ((with_reducible refine gate_callee (f := 11) rfl ?_); refine goesL_ (some 41) rfl rfl Try.func11 (by kernel_rfl) rfl #[] rfl (by (try simp only [List.map_toArray, List.map_cons, List.map_nil]); first | done | rfl | (simp only [List.length_drop, List.length_take]; rfl)) ?_; (with_reducible refine (switchboardlaw15_awake.calls  t317 _ A35.out).mono ?_); rintro e w36 ⟨rfl, hb⟩; refine ⟨_, rfl, ?_⟩; have n0_ := Aside0.mk (blk_below (g := gb312) (o := .cells #[.int .i64 a0_0, .slice A0_1 l0_1.length c0_1] 24 (0, 0)) (by (with_reducible repeat (first | refine blk_drewN ?_ _ | refine blk_drew ?_ | refine blk_alloc ?_ _)); exact BK312.out) hb); have n1_ := Aside0.mk (below_step (by repeat (first | (with_reducible first | exact HB.out | apply below_alloc | apply pw_below_drewN | apply below_drew1 | refine below_set ?_ GE312.out) | exact HB.out)) hb); clear BK312; clear HB; have BK312 := n0_; have HB := n1_; clear n0_ n1_; (try clear hb); (try clear hb2); (try clear hk); (try clear hi)))
        go_ret
        exact ⟨by first | rfl | exact congrArg (fun b_ => Ending.returned (Value.bool b_)) hr_.out | exact congrArg (fun b_ => Ending.returned (Value.bool b_)) hr_.out | (simp [errW_none, errW_some] <;> rfl) | (simp [*, errW_none, errW_some] <;> rfl), by repeat (first | (with_reducible first | exact HB.out | apply below_alloc | apply pw_below_drewN | apply below_drew1 | refine below_set ?_ GE312.out) | exact HB.out)⟩
      · replace c34 := Bool.eq_false_iff.mpr c34
        subst c34
        have H1 : (if 0 ≤ (wrap64 ((l0_1.length : Int) - 1)) then (if (wrap64 ((l0_1.length : Int) - 1)) ≤ (l0_1.length : Int) then ((model_Forward.f kj2 a0_0 (l0_1.take ((wrap64 ((l0_1.length : Int) - 1)) : Int).toNat) l1).bind fun bt322 => ((model_Forward.f kj2 a0_0 (l0_1.drop ((wrap64 ((l0_1.length : Int) - 1)) : Int).toNat) bt322.1).bind fun bt330 => ((model_Forward.f kj2 a0_0 l0_1 l1).bind fun bt334 => ((model_Forward.f kj2 a0_0 l0_1 ([] : List (List Int))).bind fun bt338 => (if 17 ≤ 11728124029610 then ((model_Forward.f kj2 a0_0 l0_1 (List.replicate 17 [])).bind fun bt345 => (if bt322.2 = 0 then (if bt330.2 = 0 then (if bt334.2 = 0 then (if bt338.2 = 1 then (if bt345.2 = 1 then ((switchboardref15_Same.f kj2 bt330.1 bt334.1).bind fun t349 => (if t349 = true then ((switchboardlaw15_awake.f).bind fun t350 => (some t350)) else (some false))) else (some false)) else (some false)) else (some false)) else (some false)) else (some false))) else (none)))))) else (none)) else (none)) = some true := by rw [if_neg (show ¬ (false = true) by decide)] at H; exact H
        clear H
        have H := H1
        clear H1
        obtain ⟨ji37, hji37⟩ : ∃ j_ : Int, (wrap64 ((l0_1.length : Int) - 1)) = j_ := ⟨_, rfl⟩
        replace H : (if 0 ≤ (ji37) then (if (ji37) ≤ (l0_1.length : Int) then ((model_Forward.f kj2 a0_0 (l0_1.take ((ji37) : Int).toNat) l1).bind fun bt322 => ((model_Forward.f kj2 a0_0 (l0_1.drop ((ji37) : Int).toNat) bt322.1).bind fun bt330 => ((model_Forward.f kj2 a0_0 l0_1 l1).bind fun bt334 => ((model_Forward.f kj2 a0_0 l0_1 ([] : List (List Int))).bind fun bt338 => (if 17 ≤ 11728124029610 then ((model_Forward.f kj2 a0_0 l0_1 (List.replicate 17 [])).bind fun bt345 => (if bt322.2 = 0 then (if bt330.2 = 0 then (if bt334.2 = 0 then (if bt338.2 = 1 then (if bt345.2 = 1 then ((switchboardref15_Same.f kj2 bt330.1 bt334.1).bind fun t349 => (if t349 = true then ((switchboardlaw15_awake.f).bind fun t350 => (some t350)) else (some false))) else (some false)) else (some false)) else (some false)) else (some false)) else (some false))) else (none)))))) else (none)) else (none)) = some true := by first | (rw [hji37] at H; exact H) | (simp only [hji37] at H ⊢; exact H)
        have hji37w : (IntKind.i64.wrap ((l0_1.length : Int) - 1)) = ji37 := (i64_w _).trans hji37
        by_cases c38 : 0 ≤ (ji37)
        · rw [if_pos c38] at H
          have c38b0 := eq_true c38
          have c38b1 : decide (0 ≤ (ji37)) = true := decide_eq_true c38
          clear c38
          by_cases c39 : (ji37) ≤ (l0_1.length : Int)
          · rw [if_pos c39] at H
            have c39b0 := eq_true c39
            have c39b1 : decide ((ji37) ≤ (l0_1.length : Int)) = true := decide_eq_true c39
            clear c39
            obtain ⟨y318, hy318⟩ : ∃ y_ : List (S37), y_ = (l0_1.take ((ji37) : Int).toNat) := ⟨_, rfl⟩
            replace H : ((model_Forward.f kj2 a0_0 y318 l1).bind fun bt322 => ((model_Forward.f kj2 a0_0 (l0_1.drop ((ji37) : Int).toNat) bt322.1).bind fun bt330 => ((model_Forward.f kj2 a0_0 l0_1 l1).bind fun bt334 => ((model_Forward.f kj2 a0_0 l0_1 ([] : List (List Int))).bind fun bt338 => (if 17 ≤ 11728124029610 then ((model_Forward.f kj2 a0_0 l0_1 (List.replicate 17 [])).bind fun bt345 => (if bt322.2 = 0 then (if bt330.2 = 0 then (if bt334.2 = 0 then (if bt338.2 = 1 then (if bt345.2 = 1 then ((switchboardref15_Same.f kj2 bt330.1 bt334.1).bind fun t349 => (if t349 = true then ((switchboardlaw15_awake.f).bind fun t350 => (some t350)) else (some false))) else (some false)) else (some false)) else (some false)) else (some false)) else (some false))) else (none)))))) = some true := by first | (rw [hy318]; with_reducible exact H) | (have H2_ := (Option.bind_some _ _).symm.trans H; rw [hy318]; with_reducible exact H2_) | (have H2_ := (Option.bind_some _ _).symm.trans H; with_reducible exact H2_) | with_reducible exact H | (rw [hy318]; exact H) | exact H
            have Ny318 := Aside0.mk hy318
            clear hy318
            replace H := Option.bind_eq_some_iff.mp H
            obtain ⟨⟨t322, t325⟩, A400, H⟩ := H
            replace H : ((model_Forward.f kj2 a0_0 (l0_1.drop ((ji37) : Int).toNat) t322).bind fun bt330 => ((model_Forward.f kj2 a0_0 l0_1 l1).bind fun bt334 => ((model_Forward.f kj2 a0_0 l0_1 ([] : List (List Int))).bind fun bt338 => (if 17 ≤ 11728124029610 then ((model_Forward.f kj2 a0_0 l0_1 (List.replicate 17 [])).bind fun bt345 => (if t325 = 0 then (if bt330.2 = 0 then (if bt334.2 = 0 then (if bt338.2 = 1 then (if bt345.2 = 1 then ((switchboardref15_Same.f kj2 bt330.1 bt334.1).bind fun t349 => (if t349 = true then ((switchboardlaw15_awake.f).bind fun t350 => (some t350)) else (some false))) else (some false)) else (some false)) else (some false)) else (some false)) else (some false))) else (none))))) = some true := H
            have A40 := Aside0.mk A400
            clear A400
            have c41b0 := eq_true (of_decide_eq_true (by first | (with_reducible assumption) | assumption) : 0 ≤ (ji37))
            have c42b0 := eq_true (of_decide_eq_true (by first | (with_reducible assumption) | assumption) : (ji37) ≤ (l0_1.length : Int))
            obtain ⟨y326, hy326⟩ : ∃ y_ : List (S37), y_ = (l0_1.drop ((ji37) : Int).toNat) := ⟨_, rfl⟩
            replace H : ((model_Forward.f kj2 a0_0 y326 t322).bind fun bt330 => ((model_Forward.f kj2 a0_0 l0_1 l1).bind fun bt334 => ((model_Forward.f kj2 a0_0 l0_1 ([] : List (List Int))).bind fun bt338 => (if 17 ≤ 11728124029610 then ((model_Forward.f kj2 a0_0 l0_1 (List.replicate 17 [])).bind fun bt345 => (if t325 = 0 then (if bt330.2 = 0 then (if bt334.2 = 0 then (if bt338.2 = 1 then (if bt345.2 = 1 then ((switchboardref15_Same.f kj2 bt330.1 bt334.1).bind fun t349 => (if t349 = true then ((switchboardlaw15_awake.f).bind fun t350 => (some t350)) else (some false))) else (some false)) else (some false)) else (some false)) else (some false)) else (some false))) else (none))))) = some true := by first | (rw [hy326]; with_reducible exact H) | (have H2_ := (Option.bind_some _ _).symm.trans H; rw [hy326]; with_reducible exact H2_) | (have H2_ := (Option.bind_some _ _).symm.trans H; with_reducible exact H2_) | with_reducible exact H | (rw [hy326]; exact H) | exact H
            have Ny326 := Aside0.mk hy326
            clear hy326
            replace H := Option.bind_eq_some_iff.mp H
            obtain ⟨⟨t330, t333⟩, A430, H⟩ := H
            replace H : ((model_Forward.f kj2 a0_0 l0_1 l1).bind fun bt334 => ((model_Forward.f kj2 a0_0 l0_1 ([] : List (List Int))).bind fun bt338 => (if 17 ≤ 11728124029610 then ((model_Forward.f kj2 a0_0 l0_1 (List.replicate 17 [])).bind fun bt345 => (if t325 = 0 then (if t333 = 0 then (if bt334.2 = 0 then (if bt338.2 = 1 then (if bt345.2 = 1 then ((switchboardref15_Same.f kj2 t330 bt334.1).bind fun t349 => (if t349 = true then ((switchboardlaw15_awake.f).bind fun t350 => (some t350)) else (some false))) else (some false)) else (some false)) else (some false)) else (some false)) else (some false))) else (none)))) = some true := H
            have A43 := Aside0.mk A430
            clear A430
            replace H := Option.bind_eq_some_iff.mp H
            obtain ⟨⟨t334, t337⟩, A440, H⟩ := H
            replace H : ((model_Forward.f kj2 a0_0 l0_1 ([] : List (List Int))).bind fun bt338 => (if 17 ≤ 11728124029610 then ((model_Forward.f kj2 a0_0 l0_1 (List.replicate 17 [])).bind fun bt345 => (if t325 = 0 then (if t333 = 0 then (if t337 = 0 then (if bt338.2 = 1 then (if bt345.2 = 1 then ((switchboardref15_Same.f kj2 t330 t334).bind fun t349 => (if t349 = true then ((switchboardlaw15_awake.f).bind fun t350 => (some t350)) else (some false))) else (some false)) else (some false)) else (some false)) else (some false)) else (some false))) else (none))) = some true := H
            have A44 := Aside0.mk A440
            clear A440
            replace H := Option.bind_eq_some_iff.mp H
            obtain ⟨⟨t338, t341⟩, A450, H⟩ := H
            replace H : (if 17 ≤ 11728124029610 then ((model_Forward.f kj2 a0_0 l0_1 (List.replicate 17 [])).bind fun bt345 => (if t325 = 0 then (if t333 = 0 then (if t337 = 0 then (if t341 = 1 then (if bt345.2 = 1 then ((switchboardref15_Same.f kj2 t330 t334).bind fun t349 => (if t349 = true then ((switchboardlaw15_awake.f).bind fun t350 => (some t350)) else (some false))) else (some false)) else (some false)) else (some false)) else (some false)) else (some false))) else (none)) = some true := H
            have A45 := Aside0.mk A450
            clear A450
            by_cases c46 : 17 ≤ 11728124029610
            · rw [if_pos c46] at H
              have c46b0 := eq_true c46
              have c46b1 : decide (17 ≤ 11728124029610) = true := decide_eq_true c46
              clear c46
              obtain ⟨y342, hy342⟩ : ∃ y_ : List (List Int), y_ = (List.replicate 17 []) := ⟨_, rfl⟩
              replace H : ((model_Forward.f kj2 a0_0 l0_1 y342).bind fun bt345 => (if t325 = 0 then (if t333 = 0 then (if t337 = 0 then (if t341 = 1 then (if bt345.2 = 1 then ((switchboardref15_Same.f kj2 t330 t334).bind fun t349 => (if t349 = true then ((switchboardlaw15_awake.f).bind fun t350 => (some t350)) else (some false))) else (some false)) else (some false)) else (some false)) else (some false)) else (some false))) = some true := by first | (rw [hy342]; with_reducible exact H) | (have H2_ := (Option.bind_some _ _).symm.trans H; rw [hy342]; with_reducible exact H2_) | (have H2_ := (Option.bind_some _ _).symm.trans H; with_reducible exact H2_) | with_reducible exact H | (rw [hy342]; exact H) | exact H
              have Ny342 := Aside0.mk hy342
              clear hy342
              replace H := Option.bind_eq_some_iff.mp H
              obtain ⟨⟨t345, t348⟩, A470, H⟩ := H
              replace H : (if t325 = 0 then (if t333 = 0 then (if t337 = 0 then (if t341 = 1 then (if t348 = 1 then ((switchboardref15_Same.f kj2 t330 t334).bind fun t349 => (if t349 = true then ((switchboardlaw15_awake.f).bind fun t350 => (some t350)) else (some false))) else (some false)) else (some false)) else (some false)) else (some false)) else (some false)) = some true := H
              have A47 := Aside0.mk A470
              clear A470
              by_cases c48 : t325 = 0
              · rw [if_pos c48] at H
                have c48b0 : (t325 == 0) = true := beq_iff_eq.mpr c48
                have c48b1 : (t325 != 0) = false := bne_eq_false_iff_eq.mpr c48
                clear c48
                by_cases c49 : t333 = 0
                · rw [if_pos c49] at H
                  have c49b0 : (t333 == 0) = true := beq_iff_eq.mpr c49
                  have c49b1 : (t333 != 0) = false := bne_eq_false_iff_eq.mpr c49
                  clear c49
                  by_cases c50 : t337 = 0
                  · rw [if_pos c50] at H
                    have c50b0 : (t337 == 0) = true := beq_iff_eq.mpr c50
                    have c50b1 : (t337 != 0) = false := bne_eq_false_iff_eq.mpr c50
                    clear c50
                    by_cases c51 : t341 = 1
                    · rw [if_pos c51] at H
                      have c51b0 : (t341 == 1) = true := beq_iff_eq.mpr c51
                      have c51b1 : (t341 != 1) = false := bne_eq_false_iff_eq.mpr c51
                      clear c51
                      by_cases c52 : t348 = 1
                      · rw [if_pos c52] at H
                        have c52b0 : (t348 == 1) = true := beq_iff_eq.mpr c52
                        have c52b1 : (t348 != 1) = false := bne_eq_false_iff_eq.mpr c52
                        clear c52
                        replace H := Option.bind_eq_some_iff.mp H
                        obtain ⟨t349, A530, H⟩ := H
                        replace H : (if t349 = true then ((switchboardlaw15_awake.f).bind fun t350 => (some t350)) else (some false)) = some true := H
                        have A53 := Aside0.mk A530
                        clear A530
                        by_cases c54 : t349 = true
                        · subst c54
                          have H1 : ((switchboardlaw15_awake.f).bind fun t350 => (some t350)) = some true := by rw [if_pos rfl] at H; exact H
                          clear H
                          have H := H1
                          clear H1
                          replace H := Option.bind_eq_some_iff.mp H
                          obtain ⟨t350, A550, H⟩ := H
                          replace H : (some t350) = some true := H
                          have A55 := Aside0.mk A550
                          clear A550
                          have hr_ := Aside0.mk (Option.some.inj H)
                          have hcz56_0 : wc.cell? ⟨gb312, 0, none⟩ = some (.int .i64 a0_0) := (blk_cell BK312.out 0).trans rfl
                          have hcz56_1 : wc.cell? ⟨gb312, 1, none⟩ = some (.slice A0_1 l0_1.length c0_1) := (blk_cell BK312.out 1).trans rfl
                          have hfz56_0 := blk_frozen BK312.out 0
                          have hfz56_1 := blk_frozen BK312.out 1
                          try go_wp2
                          have n0_ := Aside0.mk (blk_drew BK312.out)
                          have n1_ := Aside0.mk (below_drew1 HB.out)
                          clear BK312
                          clear HB
                          have BK312 := n0_
                          have HB := n1_
                          clear n0_ n1_
                          have q58 : ((ji37) : Int) ≤ ((l0_1.length : Int) : Int) := of_decide_eq_true (by first | (with_reducible assumption) | assumption)
                          obtain ⟨i058, hi058, _, hsz58, _⟩ := info_parts info37
                          have hroom58 : l0_1.length ≤ c0_1 := HC0_1.out
                          have hC58 : Kd.C k37 _ A0_1 l0_1.length l0_1 := HR0_1.out
                          have hcut58 := cut_to (P := Try.prog) 22 37 .i64 Try.underlying22 hi058 A0_1 l0_1.length c0_1 (ji37) (of_decide_eq_true (by first | (with_reducible assumption) | assumption)) q58 hroom58
                          have hr58 := Kd.C_take (m := ((ji37) : Int).toNat) hC58 (by omega)
                          have hy58 : y318.length = ((ji37) : Int).toNat := (by rw [Ny318.out, List.length_take]; omega)
                          rw [← Ny318.out] at hr58
                          rw [← hy58] at hcut58
                          have HR321 := Aside0.mk hr58
                          have HC321 := Aside0.mk (show y318.length ≤ c0_1 from by omega)
                          clear hr58 hC58 hroom58 hi058 hsz58
                          have KY58 := Aside0.mk hy58
                          clear hy58
                          replace q58 := eq_true q58
                          refine start_ (n := 14) (S := fun w' => w'.cell? ⟨gb312, 0, none⟩ = some (.int .i64 a0_0) ∧ w'.cell? ⟨gb312, 1, none⟩ = some (.slice A0_1 l0_1.length c0_1)) (ds := []) #[false, false, false, false, false, false, false, false, false, false, false, false, false, false] (by kernel_rfl) rfl rfl ⟨(blk_cell BK312.out 0).trans rfl, (blk_cell BK312.out 1).trans rfl⟩ (fun hHeld => ?_); refine with_tabW switchboardlaw15_ModelLayers.tab4 switchboardlaw15_ModelLayers.bits4 (fun HT_ HW_ => ?_)
                          generalize wc.drew = w57 at BK312 HB HR321 hHeld ⊢
                          refine pure_ (i := 0) (N := some 47) (v := ?_) (a' := ?_) #[true, false, false, false, false, false, false, false, false, false, false, false, false, false] rfl rfl (any_of HT_.out (by kernel_rfl)) (fun _ _ _ h => h) (Or.inl ⟨by rfl, ?_⟩) ?_ ?_
                          rotate_left
                          · intro w'
                            go_simp
                            with_reducible rfl
                          rotate_left
                          · simp only [Act.put, List.setIfInBounds_toArray, List.set_cons_zero, List.set_cons_succ, i64_w, i32_w]
                            rfl
                          refine pure_ (i := 2) (N := some 49) (v := ?_) (a' := ?_) #[true, false, true, false, false, false, false, false, false, false, false, false, false, false] rfl rfl (any_of HT_.out (by kernel_rfl)) (fun _ _ _ h => h) (Or.inl ⟨by rfl, ?_⟩) ?_ ?_
                          rotate_left
                          · intro w'
                            go_simp
                            with_reducible rfl
                          rotate_left
                          · simp only [Act.put, List.setIfInBounds_toArray, List.set_cons_zero, List.set_cons_succ, i64_w, i32_w]
                            rfl
                          refine pure_ (i := 4) (N := some 51) (v := ?_) (a' := ?_) #[true, false, true, false, true, false, false, false, false, false, false, false, false, false] rfl rfl (any_of HT_.out (by kernel_rfl)) (fun _ _ _ h => h) (Or.inl ⟨by rfl, ?_⟩) ?_ ?_
                          rotate_left
                          · intro w'
                            go_simp
                            with_reducible rfl
                          rotate_left
                          · simp only [Act.put, List.setIfInBounds_toArray, List.set_cons_zero, List.set_cons_succ, i64_w, i32_w]
                            rfl
                          refine pure_ (i := 7) (N := some 54) (v := ?_) (a' := ?_) #[true, false, true, false, true, false, false, true, false, false, false, false, false, false] rfl rfl (any_of HT_.out (by kernel_rfl)) (fun _ _ _ h => h) (Or.inl ⟨by rfl, ?_⟩) ?_ ?_
                          rotate_left
                          · intro w'
                            go_simp
                            with_reducible rfl
                          rotate_left
                          · simp only [Act.put, List.setIfInBounds_toArray, List.set_cons_zero, List.set_cons_succ, i64_w, i32_w]
                            rfl
                          refine take_ (i := 1) (N := some 48) (v := ?_) (a' := ?_) #[true, true, true, false, true, false, false, true, false, false, false, false, false, false] rfl rfl (take_ofW HT_.out HW_.out (by kernel_rfl)) (fun _ _ _ h => h) (Or.inl ⟨by rfl, ?_⟩) hHeld ?_ ?_
                          rotate_left
                          · rintro w' ⟨s0, s1⟩
                            go_simp
                            with_reducible rfl
                          rotate_left
                          · simp only [Act.put, List.setIfInBounds_toArray, List.set_cons_zero, List.set_cons_succ, i64_w, i32_w]
                            rfl
                          refine take_ (i := 3) (N := some 50) (v := ?_) (a' := ?_) #[true, true, true, true, true, false, false, true, false, false, false, false, false, false] rfl rfl (take_ofW HT_.out HW_.out (by kernel_rfl)) (fun _ _ _ h => h) (Or.inl ⟨by rfl, ?_⟩) hHeld ?_ ?_
                          rotate_left
                          · rintro w' ⟨s0, s1⟩
                            go_simp
                            with_reducible rfl
                          rotate_left
                          · simp only [Act.put, List.setIfInBounds_toArray, List.set_cons_zero, List.set_cons_succ, i64_w, i32_w]
                            rfl
                          refine pure_ (i := 5) (N := some 52) (v := ?_) (a' := ?_) #[true, true, true, true, true, true, false, true, false, false, false, false, false, false] rfl rfl (any_of HT_.out (by kernel_rfl)) (fun _ _ _ h => h) (Or.inl ⟨by rfl, ?_⟩) ?_ ?_
                          rotate_left
                          · intro w'
                            go_simp
                            with_reducible rfl
                          rotate_left
                          · simp only [Act.put, List.setIfInBounds_toArray, List.set_cons_zero, List.set_cons_succ, i64_w, i32_w]
                            rfl
                          refine pure_ (i := 6) (N := some 53) (v := ?_) (a' := ?_) #[true, true, true, true, true, true, true, true, false, false, false, false, false, false] rfl rfl (any_of HT_.out (by kernel_rfl)) (fun _ _ _ h => h) (Or.inl ⟨by rfl, ?_⟩) ?_ ?_
                          rotate_left
                          · intro w'
                            go_simp
                            with_reducible rfl
                          rotate_left
                          · simp only [Act.put, List.setIfInBounds_toArray, List.set_cons_zero, List.set_cons_succ, i64_w, i32_w]
                            rfl
                          refine one_ (i := 8) (N := some 55) #[true, true, true, true, true, true, true, true, true, false, false, false, false, false] rfl rfl (one_of HT_.out (by kernel_rfl)) (by decide) (fun K hK => ?_)
                          refine goes_ Try.func12 (by kernel_rfl) rfl #[.agg #[.int .i64 a0_0, .slice A0_1 y318.length c0_1], .slice A1 l1.length c1] (by rfl) rfl rfl (by (try simp only [List.map_toArray, List.map_cons, List.map_nil]); first | done | rfl | (simp only [List.length_drop, List.length_take]; rfl)) ?_
                          with_reducible refine (model_Forward.calls kj2 a0_0 _ _ y318 (fun k_ => k_ < w.heap.size) _ _ l1 t322 t325 _ ?side1 ?side2 ?side3 A40.out).mono ?_
                          (case side1 => repeat (first | exact (Kd.C_below HR321.out HB.out) | (with_reducible refine Kd.C_alloc ?_ _) | (with_reducible refine Kd.C_drewN ?_ _) | (with_reducible refine Kd.C_drew ?_)))
                          (case side2 => exact HC321.out)
                          (case side3 => exact Kd.V_mk HC1.out (Kd.F_below (Kd.C_F (Kd.heap_slice 3 (Kd.heap_int .i64)) HR1.out) (by repeat (first | (with_reducible first | exact HB.out | apply below_alloc | apply pw_below_drewN | apply below_drew1 | refine below_set ?_ GE312.out) | exact HB.out))))
                          rintro e w59 ⟨v323, rfl, ho0, hb⟩
                          refine ⟨_, rfl, ?_⟩
                          have n0_ := Aside0.mk (Kd.V_lower (Kd.V_mono (ok' := fun k_ => k_ ≠ gb312) ho0 (fun k_ hk_ => Or.elim hk_ (fun hs_ => fun e_ => Nat.not_le.2 hs_ (by rw [e_]; exact GW312.out)) (fun hn_ => (Kd.freshB (g := gb312) (o := .cells #[.int .i64 a0_0, .slice A0_1 l0_1.length c0_1] 24 (0, 0)) (by (with_reducible repeat (first | refine blk_drewN ?_ _ | refine blk_drew ?_ | refine blk_alloc ?_ _)); exact BK312.out) k_ hn_)))) (below_size (by repeat (first | (with_reducible first | exact HB.out | apply below_alloc | apply pw_below_drewN | apply below_drew1 | refine below_set ?_ GE312.out) | exact HB.out))))
                          have n1_ := Aside0.mk (blk_below (g := gb312) (o := .cells #[.int .i64 a0_0, .slice A0_1 l0_1.length c0_1] 24 (0, 0)) (by (with_reducible repeat (first | refine blk_drewN ?_ _ | refine blk_drew ?_ | refine blk_alloc ?_ _)); exact BK312.out) hb)
                          have n2_ := Aside0.mk (below_step (by repeat (first | (with_reducible first | exact HB.out | apply below_alloc | apply pw_below_drewN | apply below_drew1 | refine below_set ?_ GE312.out) | exact HB.out)) hb)
                          clear BK312
                          clear HB
                          have HO324 := n0_
                          have BK312 := n1_
                          have HB := n2_
                          clear n0_ n1_ n2_
                          (try clear hb)
                          (try clear hb2)
                          (try clear hk)
                          (try clear hi)
                          (try clear ho0)
                          refine hK.out _ _ ⟨(blk_cell BK312.out 0).trans rfl, (blk_cell BK312.out 1).trans rfl⟩ (fun hHeld => ?_)
                          clear hK K
                          refine norm_ (a' := ?_) ?_ ?_
                          rotate_left
                          · show Act.put _ (some 55) _ = _
                            simp only [Act.put, List.setIfInBounds_toArray, List.set_cons_zero, List.set_cons_succ, i64_w, i32_w]
                            rfl
                          refine pure_ (i := 9) (N := some 46) (v := ?_) (a' := ?_) #[true, true, true, true, true, true, true, true, true, true, false, false, false, false] rfl rfl (any_of HT_.out (by kernel_rfl)) (fun _ _ _ h => h) (Or.inl ⟨by rfl, ?_⟩) ?_ ?_
                          rotate_left
                          · intro w'
                            go_simp
                            with_reducible rfl
                          rotate_left
                          · simp only [Act.put, List.setIfInBounds_toArray, List.set_cons_zero, List.set_cons_succ, i64_w, i32_w]
                            rfl
                          refine pure_ (i := 10) (N := some 56) (v := ?_) (a' := ?_) #[true, true, true, true, true, true, true, true, true, true, true, false, false, false] rfl rfl (any_of HT_.out (by kernel_rfl)) (fun _ _ _ h => h) (Or.inl ⟨by rfl, ?_⟩) ?_ ?_
                          rotate_left
                          · intro w'
                            go_simp
                            with_reducible rfl
                          rotate_left
                          · simp only [Act.put, List.setIfInBounds_toArray, List.set_cons_zero, List.set_cons_succ, i64_w, i32_w]
                            rfl
                          refine pure_ (i := 11) (N := some 57) (v := ?_) (a' := ?_) #[true, true, true, true, true, true, true, true, true, true, true, true, false, false] rfl rfl (any_of HT_.out (by kernel_rfl)) (fun _ _ _ h => h) (Or.inl ⟨by rfl, ?_⟩) ?_ ?_
                          rotate_left
                          · intro w'
                            go_simp
                            with_reducible rfl
                          rotate_left
                          · simp only [Act.put, List.setIfInBounds_toArray, List.set_cons_zero, List.set_cons_succ, i64_w, i32_w]
                            rfl
                          refine pure_ (i := 12) (N := some 6) (v := ?_) (a' := ?_) #[true, true, true, true, true, true, true, true, true, true, true, true, true, false] rfl rfl (any_of HT_.out (by kernel_rfl)) (fun _ _ _ h => h) (Or.inl ⟨by rfl, ?_⟩) ?_ ?_
                          rotate_left
                          · intro w'
                            go_simp
                            with_reducible rfl
                          rotate_left
                          · simp only [Act.put, List.setIfInBounds_toArray, List.set_cons_zero, List.set_cons_succ, i64_w, i32_w]
                            rfl
                          refine pure_ (i := 13) (N := some 7) (v := ?_) (a' := ?_) #[true, true, true, true, true, true, true, true, true, true, true, true, true, true] rfl rfl (any_of HT_.out (by kernel_rfl)) (fun _ _ _ h => h) (Or.inl ⟨by rfl, ?_⟩) ?_ ?_
                          rotate_left
                          · intro w'
                            go_simp
                            with_reducible rfl
                          rotate_left
                          · simp only [Act.put, List.setIfInBounds_toArray, List.set_cons_zero, List.set_cons_succ, i64_w, i32_w]
                            rfl
                          refine done_ (done_of HT_.out (by kernel_rfl)) ?_
                          try go_wp2
                          have n0_ := Aside0.mk (Kd.V_drew HO324.out)
                          have n1_ := Aside0.mk (blk_drew BK312.out)
                          have n2_ := Aside0.mk (below_drew1 HB.out)
                          clear HO324
                          clear BK312
                          clear HB
                          have HO324 := n0_
                          have BK312 := n1_
                          have HB := n2_
                          clear n0_ n1_ n2_
                          have q61 : ((ji37) : Int) ≤ ((l0_1.length : Int) : Int) := of_decide_eq_true (by first | (with_reducible assumption) | assumption)
                          obtain ⟨i061, hi061, _, hsz61, _⟩ := info_parts info37
                          have hroom61 : l0_1.length ≤ c0_1 := HC0_1.out
                          have hC61 : Kd.C k37 _ A0_1 l0_1.length l0_1 := HR0_1.out
                          have q061 : (0 : Int) ≤ ((ji37) : Int) := of_decide_eq_true (by first | (with_reducible assumption) | assumption)
                          have hcut61 := cut_from (P := Try.prog) 22 37 .i64 Try.underlying22 hi061 3 hsz61 A0_1 l0_1.length c0_1 (ji37) q061 q61
                          have hr61 := Kd.C_drop (m := ((ji37) : Int).toNat) (c := c0_1) hC61 (by omega) hroom61
                          obtain ⟨A61, hA61⟩ : ∃ A1, A1 = (if c0_1 = ((ji37) : Int).toNat then A0_1 else (A0_1 : Option Addr).map (·.add (((ji37) : Int).toNat * 3))) := ⟨_, rfl⟩
                          obtain ⟨c61, hc61⟩ : ∃ c1, c1 = c0_1 - ((ji37) : Int).toNat := ⟨_, rfl⟩
                          have hy61 : y326.length = l0_1.length - ((ji37) : Int).toNat := (by rw [Ny326.out, List.length_drop] <;> omega)
                          rw [show (l0_1).drop ((ji37) : Int).toNat = y326 from Ny326.out.symm] at hr61
                          replace hr61 : Kd.C k37 _ A61 y326.length y326 := (by rw [hA61]; exact hr61)
                          rw [← hy61, ← hA61, ← hc61] at hcut61
                          have HR329 := Aside0.mk hr61
                          have HC329 := Aside0.mk (show y326.length ≤ c61 from by rw [hy61, hc61]; exact Nat.sub_le_sub_right hroom61 _)
                          clear hr61 hC61 hroom61 hi061 hsz61 hc61
                          have KY61 := Aside0.mk hy61
                          have KA61 := Aside0.mk hA61
                          clear hy61 hA61
                          replace q61 := eq_true q61
                          obtain ⟨Ao62, co62, eo62⟩ := Kd.V_slice HO324.out
                          (first | subst eo62 | (injection eo62 with f1_ f2_ f3_; have f4_ := f1_.symm; have f5_ := f3_.symm; clear f1_ f2_ f3_; subst f4_; subst f5_))
                          refine start_ (n := 14) (S := fun w' => w'.cell? ⟨gb312, 0, none⟩ = some (.int .i64 a0_0) ∧ w'.cell? ⟨gb312, 1, none⟩ = some (.slice A0_1 l0_1.length c0_1)) (ds := []) #[false, false, false, false, false, false, false, false, false, false, false, false, false, false] (by kernel_rfl) rfl rfl ⟨(blk_cell BK312.out 0).trans rfl, (blk_cell BK312.out 1).trans rfl⟩ (fun hHeld => ?_); refine with_tabW switchboardlaw15_ModelLayers.tab5 switchboardlaw15_ModelLayers.bits5 (fun HT_ HW_ => ?_)
                          generalize w59.drew = w60 at HO324 BK312 HB HR329 hHeld ⊢
                          refine pure_ (i := 0) (N := some 59) (v := ?_) (a' := ?_) #[true, false, false, false, false, false, false, false, false, false, false, false, false, false] rfl rfl (any_of HT_.out (by kernel_rfl)) (fun _ _ _ h => h) (Or.inl ⟨by rfl, ?_⟩) ?_ ?_
                          rotate_left
                          · intro w'
                            go_simp
                            with_reducible rfl
                          rotate_left
                          · simp only [Act.put, List.setIfInBounds_toArray, List.set_cons_zero, List.set_cons_succ, i64_w, i32_w]
                            rfl
                          refine pure_ (i := 2) (N := some 61) (v := ?_) (a' := ?_) #[true, false, true, false, false, false, false, false, false, false, false, false, false, false] rfl rfl (any_of HT_.out (by kernel_rfl)) (fun _ _ _ h => h) (Or.inl ⟨by rfl, ?_⟩) ?_ ?_
                          rotate_left
                          · intro w'
                            go_simp
                            with_reducible rfl
                          rotate_left
                          · simp only [Act.put, List.setIfInBounds_toArray, List.set_cons_zero, List.set_cons_succ, i64_w, i32_w]
                            rfl
                          refine pure_ (i := 4) (N := some 63) (v := ?_) (a' := ?_) #[true, false, true, false, true, false, false, false, false, false, false, false, false, false] rfl rfl (any_of HT_.out (by kernel_rfl)) (fun _ _ _ h => h) (Or.inl ⟨by rfl, ?_⟩) ?_ ?_
                          rotate_left
                          · intro w'
                            go_simp
                            with_reducible rfl
                          rotate_left
                          · simp only [Act.put, List.setIfInBounds_toArray, List.set_cons_zero, List.set_cons_succ, i64_w, i32_w]
                            rfl
                          refine pure_ (i := 7) (N := some 66) (v := ?_) (a' := ?_) #[true, false, true, false, true, false, false, true, false, false, false, false, false, false] rfl rfl (any_of HT_.out (by kernel_rfl)) (fun _ _ _ h => h) (Or.inl ⟨by rfl, ?_⟩) ?_ ?_
                          rotate_left
                          · intro w'
                            go_simp
                            with_reducible rfl
                          rotate_left
                          · simp only [Act.put, List.setIfInBounds_toArray, List.set_cons_zero, List.set_cons_succ, i64_w, i32_w]
                            rfl
                          refine take_ (i := 1) (N := some 60) (v := ?_) (a' := ?_) #[true, true, true, false, true, false, false, true, false, false, false, false, false, false] rfl rfl (take_ofW HT_.out HW_.out (by kernel_rfl)) (fun _ _ _ h => h) (Or.inl ⟨by rfl, ?_⟩) hHeld ?_ ?_
                          rotate_left
                          · rintro w' ⟨s0, s1⟩
                            go_simp
                            with_reducible rfl
                          rotate_left
                          · simp only [Act.put, List.setIfInBounds_toArray, List.set_cons_zero, List.set_cons_succ, i64_w, i32_w]
                            rfl
                          refine take_ (i := 3) (N := some 62) (v := ?_) (a' := ?_) #[true, true, true, true, true, false, false, true, false, false, false, false, false, false] rfl rfl (take_ofW HT_.out HW_.out (by kernel_rfl)) (fun _ _ _ h => h) (Or.inl ⟨by rfl, ?_⟩) hHeld ?_ ?_
                          rotate_left
                          · rintro w' ⟨s0, s1⟩
                            go_simp
                            with_reducible rfl
                          rotate_left
                          · simp only [Act.put, List.setIfInBounds_toArray, List.set_cons_zero, List.set_cons_succ, i64_w, i32_w]
                            rfl
                          refine pure_ (i := 5) (N := some 64) (v := ?_) (a' := ?_) #[true, true, true, true, true, true, false, true, false, false, false, false, false, false] rfl rfl (any_of HT_.out (by kernel_rfl)) (fun _ _ _ h => h) (Or.inl ⟨by rfl, ?_⟩) ?_ ?_
                          rotate_left
                          · intro w'
                            go_simp
                            with_reducible rfl
                          rotate_left
                          · simp only [Act.put, List.setIfInBounds_toArray, List.set_cons_zero, List.set_cons_succ, i64_w, i32_w]
                            rfl
                          refine pure_ (i := 6) (N := some 65) (v := ?_) (a' := ?_) #[true, true, true, true, true, true, true, true, false, false, false, false, false, false] rfl rfl (any_of HT_.out (by kernel_rfl)) (fun _ _ _ h => h) (Or.inl ⟨by rfl, ?_⟩) ?_ ?_
                          rotate_left
                          · intro w'
                            go_simp
                            with_reducible rfl
                          rotate_left
                          · simp only [Act.put, List.setIfInBounds_toArray, List.set_cons_zero, List.set_cons_succ, i64_w, i32_w]
                            rfl
                          refine one_ (i := 8) (N := some 67) #[true, true, true, true, true, true, true, true, true, false, false, false, false, false] rfl rfl (one_of HT_.out (by kernel_rfl)) (by decide) (fun K hK => ?_)
                          refine goes_ Try.func12 (by kernel_rfl) rfl #[.agg #[.int .i64 a0_0, .slice A61 y326.length c61], .slice Ao62 t322.length co62] (by rfl) rfl rfl (by (try simp only [List.map_toArray, List.map_cons, List.map_nil]); first | done | rfl | (simp only [List.length_drop, List.length_take]; rfl)) ?_
                          with_reducible refine (model_Forward.calls kj2 a0_0 _ _ y326 (fun k_ => k_ ≠ gb312) _ _ t322 t330 t333 _ ?side1 ?side2 ?side3 A43.out).mono ?_
                          (case side1 => repeat (first | exact (Kd.C_below HR329.out HB.out) | (with_reducible refine Kd.C_alloc ?_ _) | (with_reducible refine Kd.C_drewN ?_ _) | (with_reducible refine Kd.C_drew ?_)))
                          (case side2 => exact HC329.out)
                          (case side3 => exact HO324.out)
                          rintro e w63 ⟨v331, rfl, ho0, hb⟩
                          refine ⟨_, rfl, ?_⟩
                          have n0_ := Aside0.mk (Kd.V_below (by (with_reducible repeat (first | apply Kd.V_alloc | apply Kd.V_drewN | apply Kd.V_drew)); exact HO324.out) hb)
                          have n1_ := Aside0.mk (Kd.V_lower (Kd.V_mono (ok' := fun k_ => k_ ≠ gb312) ho0 (fun k_ hk_ => Or.elim hk_ (fun hs_ => hs_) (fun hn_ => (Kd.freshB (g := gb312) (o := .cells #[.int .i64 a0_0, .slice A0_1 l0_1.length c0_1] 24 (0, 0)) (by (with_reducible repeat (first | refine blk_drewN ?_ _ | refine blk_drew ?_ | refine blk_alloc ?_ _)); exact BK312.out) k_ hn_)))) (below_size (by repeat (first | (with_reducible first | exact HB.out | apply below_alloc | apply pw_below_drewN | apply below_drew1 | refine below_set ?_ GE312.out) | exact HB.out))))
                          have n2_ := Aside0.mk (blk_below (g := gb312) (o := .cells #[.int .i64 a0_0, .slice A0_1 l0_1.length c0_1] 24 (0, 0)) (by (with_reducible repeat (first | refine blk_drewN ?_ _ | refine blk_drew ?_ | refine blk_alloc ?_ _)); exact BK312.out) hb)
                          have n3_ := Aside0.mk (below_step (by repeat (first | (with_reducible first | exact HB.out | apply below_alloc | apply pw_below_drewN | apply below_drew1 | refine below_set ?_ GE312.out) | exact HB.out)) hb)
                          clear HO324
                          clear BK312
                          clear HB
                          have HO324 := n0_
                          have HO332 := n1_
                          have BK312 := n2_
                          have HB := n3_
                          clear n0_ n1_ n2_ n3_
                          (try clear hb)
                          (try clear hb2)
                          (try clear hk)
                          (try clear hi)
                          (try clear ho0)
                          refine hK.out _ _ ⟨(blk_cell BK312.out 0).trans rfl, (blk_cell BK312.out 1).trans rfl⟩ (fun hHeld => ?_)
                          clear hK K
                          refine norm_ (a' := ?_) ?_ ?_
                          rotate_left
                          · show Act.put _ (some 67) _ = _
                            simp only [Act.put, List.setIfInBounds_toArray, List.set_cons_zero, List.set_cons_succ, i64_w, i32_w]
                            rfl
                          refine pure_ (i := 9) (N := some 58) (v := ?_) (a' := ?_) #[true, true, true, true, true, true, true, true, true, true, false, false, false, false] rfl rfl (any_of HT_.out (by kernel_rfl)) (fun _ _ _ h => h) (Or.inl ⟨by rfl, ?_⟩) ?_ ?_
                          rotate_left
                          · intro w'
                            go_simp
                            with_reducible rfl
                          rotate_left
                          · simp only [Act.put, List.setIfInBounds_toArray, List.set_cons_zero, List.set_cons_succ, i64_w, i32_w]
                            rfl
                          refine pure_ (i := 10) (N := some 68) (v := ?_) (a' := ?_) #[true, true, true, true, true, true, true, true, true, true, true, false, false, false] rfl rfl (any_of HT_.out (by kernel_rfl)) (fun _ _ _ h => h) (Or.inl ⟨by rfl, ?_⟩) ?_ ?_
                          rotate_left
                          · intro w'
                            go_simp
                            with_reducible rfl
                          rotate_left
                          · simp only [Act.put, List.setIfInBounds_toArray, List.set_cons_zero, List.set_cons_succ, i64_w, i32_w]
                            rfl
                          refine pure_ (i := 11) (N := some 69) (v := ?_) (a' := ?_) #[true, true, true, true, true, true, true, true, true, true, true, true, false, false] rfl rfl (any_of HT_.out (by kernel_rfl)) (fun _ _ _ h => h) (Or.inl ⟨by rfl, ?_⟩) ?_ ?_
                          rotate_left
                          · intro w'
                            go_simp
                            with_reducible rfl
                          rotate_left
                          · simp only [Act.put, List.setIfInBounds_toArray, List.set_cons_zero, List.set_cons_succ, i64_w, i32_w]
                            rfl
                          refine pure_ (i := 12) (N := some 8) (v := ?_) (a' := ?_) #[true, true, true, true, true, true, true, true, true, true, true, true, true, false] rfl rfl (any_of HT_.out (by kernel_rfl)) (fun _ _ _ h => h) (Or.inl ⟨by rfl, ?_⟩) ?_ ?_
                          rotate_left
                          · intro w'
                            go_simp
                            with_reducible rfl
                          rotate_left
                          · simp only [Act.put, List.setIfInBounds_toArray, List.set_cons_zero, List.set_cons_succ, i64_w, i32_w]
                            rfl
                          refine pure_ (i := 13) (N := some 9) (v := ?_) (a' := ?_) #[true, true, true, true, true, true, true, true, true, true, true, true, true, true] rfl rfl (any_of HT_.out (by kernel_rfl)) (fun _ _ _ h => h) (Or.inl ⟨by rfl, ?_⟩) ?_ ?_
                          rotate_left
                          · intro w'
                            go_simp
                            with_reducible rfl
                          rotate_left
                          · simp only [Act.put, List.setIfInBounds_toArray, List.set_cons_zero, List.set_cons_succ, i64_w, i32_w]
                            rfl
                          refine done_ (done_of HT_.out (by kernel_rfl)) ?_
                          have hcz64_0 : w63.cell? ⟨gb312, 0, none⟩ = some (.int .i64 a0_0) := (blk_cell BK312.out 0).trans rfl
                          have hcz64_1 : w63.cell? ⟨gb312, 1, none⟩ = some (.slice A0_1 l0_1.length c0_1) := (blk_cell BK312.out 1).trans rfl
                          have hfz64_0 := blk_frozen BK312.out 0
                          have hfz64_1 := blk_frozen BK312.out 1
                          try go_wp2_with (first | ((with_reducible refine gate_callee (f := 12) rfl ?_); refine goesL_ (some 73) rfl rfl Try.func12 (by kernel_rfl) rfl #[.agg #[.int .i64 a0_0, .slice A0_1 l0_1.length c0_1], .slice A1 l1.length c1] rfl (by (try simp only [List.map_toArray, List.map_cons, List.map_nil]); first | done | rfl | (simp only [List.length_drop, List.length_take]; rfl)) ?_; (with_reducible refine (model_Forward.calls kj2 a0_0 _ _ l0_1 (fun k_ => k_ < w.heap.size) _ _ l1 t334 t337 _ ?side1 ?side2 ?side3 A44.out).mono ?_); (case side1 => repeat (first | exact (Kd.C_below HR0_1.out HB.out) | (with_reducible refine Kd.C_alloc ?_ _) | (with_reducible refine Kd.C_drewN ?_ _) | (with_reducible refine Kd.C_drew ?_))); (case side2 => exact HC0_1.out); (case side3 => exact Kd.V_mk HC1.out (Kd.F_below (Kd.C_F (Kd.heap_slice 3 (Kd.heap_int .i64)) HR1.out) (by repeat (first | (with_reducible first | exact HB.out | apply below_alloc | apply pw_below_drewN | apply below_drew1 | refine below_set ?_ GE312.out) | exact HB.out)))); rintro e w65 ⟨v335, rfl, ho0, hb⟩; refine ⟨_, rfl, ?_⟩; have n0_ := Aside0.mk (Kd.V_below (by (with_reducible repeat (first | apply Kd.V_alloc | apply Kd.V_drewN | apply Kd.V_drew)); exact HO324.out) hb); have n1_ := Aside0.mk (Kd.V_below (by (with_reducible repeat (first | apply Kd.V_alloc | apply Kd.V_drewN | apply Kd.V_drew)); exact HO332.out) hb); have n2_ := Aside0.mk (Kd.V_lower (Kd.V_mono (ok' := fun k_ => k_ ≠ gb312) ho0 (fun k_ hk_ => Or.elim hk_ (fun hs_ => fun e_ => Nat.not_le.2 hs_ (by rw [e_]; exact GW312.out)) (fun hn_ => (Kd.freshB (g := gb312) (o := .cells #[.int .i64 a0_0, .slice A0_1 l0_1.length c0_1] 24 (0, 0)) (by (with_reducible repeat (first | refine blk_drewN ?_ _ | refine blk_drew ?_ | refine blk_alloc ?_ _)); exact BK312.out) k_ hn_)))) (below_size (by repeat (first | (with_reducible first | exact HB.out | apply below_alloc | apply pw_below_drewN | apply below_drew1 | refine below_set ?_ GE312.out) | exact HB.out)))); have n3_ := Aside0.mk (blk_below (g := gb312) (o := .cells #[.int .i64 a0_0, .slice A0_1 l0_1.length c0_1] 24 (0, 0)) (by (with_reducible repeat (first | refine blk_drewN ?_ _ | refine blk_drew ?_ | refine blk_alloc ?_ _)); exact BK312.out) hb); have n4_ := Aside0.mk (below_step (by repeat (first | (with_reducible first | exact HB.out | apply below_alloc | apply pw_below_drewN | apply below_drew1 | refine below_set ?_ GE312.out) | exact HB.out)) hb); clear HO324; clear HO332; clear BK312; clear HB; have HO324 := n0_; have HO332 := n1_; have HO336 := n2_; have BK312 := n3_; have HB := n4_; clear n0_ n1_ n2_ n3_ n4_; (try clear hb); (try clear hb2); (try clear hk); (try clear hi); (try clear ho0); have hcz66_0 : w65.cell? ⟨gb312, 0, none⟩ = some (.int .i64 a0_0) := (blk_cell BK312.out 0).trans rfl; have hcz66_1 : w65.cell? ⟨gb312, 1, none⟩ = some (.slice A0_1 l0_1.length c0_1) := (blk_cell BK312.out 1).trans rfl; have hfz66_0 := blk_frozen BK312.out 0; have hfz66_1 := blk_frozen BK312.out 1) | ((with_reducible refine gate_callee (f := 12) rfl ?_); refine goesL_ (some 78) rfl rfl Try.func12 (by kernel_rfl) rfl #[.agg #[.int .i64 a0_0, .slice A0_1 l0_1.length c0_1], .slice none 0 0] rfl (by (try simp only [List.map_toArray, List.map_cons, List.map_nil]); first | done | rfl | (simp only [List.length_drop, List.length_take]; rfl)) ?_; (refine (model_Forward.calls kj2 a0_0 _ _ l0_1 (fun k_ => False) _ _ ([] : List (List Int)) t338 t341 _ ?side1 ?side2 ?side3 A45.out).mono ?_); (case side1 => repeat (first | exact (Kd.C_below HR0_1.out HB.out) | (with_reducible refine Kd.C_alloc ?_ _) | (with_reducible refine Kd.C_drewN ?_ _) | (with_reducible refine Kd.C_drew ?_))); (case side2 => exact HC0_1.out); (case side3 => exact Kd.V_nil _ _ _ _ _); rintro e w67 ⟨v339, rfl, ho0, hb⟩; refine ⟨_, rfl, ?_⟩; have n0_ := Aside0.mk (Kd.V_below (by (with_reducible repeat (first | apply Kd.V_alloc | apply Kd.V_drewN | apply Kd.V_drew)); exact HO324.out) hb); have n1_ := Aside0.mk (Kd.V_below (by (with_reducible repeat (first | apply Kd.V_alloc | apply Kd.V_drewN | apply Kd.V_drew)); exact HO332.out) hb); have n2_ := Aside0.mk (Kd.V_below (by (with_reducible repeat (first | apply Kd.V_alloc | apply Kd.V_drewN | apply Kd.V_drew)); exact HO336.out) hb); have n3_ := Aside0.mk (Kd.V_lower (Kd.V_mono (ok' := fun k_ => k_ ≠ gb312) ho0 (fun k_ hk_ => Or.elim hk_ (fun hs_ => (hs_).elim) (fun hn_ => (Kd.freshB (g := gb312) (o := .cells #[.int .i64 a0_0, .slice A0_1 l0_1.length c0_1] 24 (0, 0)) (by (with_reducible repeat (first | refine blk_drewN ?_ _ | refine blk_drew ?_ | refine blk_alloc ?_ _)); exact BK312.out) k_ hn_)))) (below_size (by repeat (first | (with_reducible first | exact HB.out | apply below_alloc | apply pw_below_drewN | apply below_drew1 | refine below_set ?_ GE312.out) | exact HB.out)))); have n4_ := Aside0.mk (blk_below (g := gb312) (o := .cells #[.int .i64 a0_0, .slice A0_1 l0_1.length c0_1] 24 (0, 0)) (by (with_reducible repeat (first | refine blk_drewN ?_ _ | refine blk_drew ?_ | refine blk_alloc ?_ _)); exact BK312.out) hb); have n5_ := Aside0.mk (below_step (by repeat (first | (with_reducible first | exact HB.out | apply below_alloc | apply pw_below_drewN | apply below_drew1 | refine below_set ?_ GE312.out) | exact HB.out)) hb); clear HO324; clear HO332; clear HO336; clear BK312; clear HB; have HO324 := n0_; have HO332 := n1_; have HO336 := n2_; have HO340 := n3_; have BK312 := n4_; have HB := n5_; clear n0_ n1_ n2_ n3_ n4_ n5_; (try clear hb); (try clear hb2); (try clear hk); (try clear hi); (try clear ho0)))
                          have n0_ := Aside0.mk (Kd.V_drew HO324.out)
                          have n1_ := Aside0.mk (Kd.V_drew HO332.out)
                          have n2_ := Aside0.mk (Kd.V_drew HO336.out)
                          have n3_ := Aside0.mk (Kd.V_drew HO340.out)
                          have n4_ := Aside0.mk (blk_drew BK312.out)
                          have n5_ := Aside0.mk (below_drew1 HB.out)
                          clear HO324
                          clear HO332
                          clear HO336
                          clear HO340
                          clear BK312
                          clear HB
                          have HO324 := n0_
                          have HO332 := n1_
                          have HO336 := n2_
                          have HO340 := n3_
                          have BK312 := n4_
                          have HB := n5_
                          clear n0_ n1_ n2_ n3_ n4_ n5_
                          refine start_ (n := 8) (S := fun w' => w'.cell? ⟨gb312, 0, none⟩ = some (.int .i64 a0_0) ∧ w'.cell? ⟨gb312, 1, none⟩ = some (.slice A0_1 l0_1.length c0_1)) (ds := []) #[false, false, false, false, false, false, false, false] (by kernel_rfl) rfl rfl ⟨(blk_cell BK312.out 0).trans rfl, (blk_cell BK312.out 1).trans rfl⟩ (fun hHeld => ?_); refine with_tabW switchboardlaw15_ModelLayers.tab8 switchboardlaw15_ModelLayers.bits8 (fun HT_ HW_ => ?_)
                          generalize w67.drew = w68 at HO324 HO332 HO336 HO340 BK312 HB hHeld ⊢
                          refine take_ (i := 0) (N := some 82) (v := ?_) (a' := ?_) #[true, false, false, false, false, false, false, false] rfl rfl (take_ofW HT_.out HW_.out (by kernel_rfl)) (fun _ _ _ h => h) (Or.inl ⟨by rfl, ?_⟩) hHeld ?_ ?_
                          rotate_left
                          · rintro w' ⟨s0, s1⟩
                            go_simp
                            with_reducible rfl
                          rotate_left
                          · simp only [Act.put, List.setIfInBounds_toArray, List.set_cons_zero, List.set_cons_succ, i64_w, i32_w]
                            rfl
                          refine one_ (i := 1) (N := some 83) #[true, true, false, false, false, false, false, false] rfl rfl (one_of HT_.out (by kernel_rfl)) (by decide) (fun K hK => ?_)
                          refine Kd.S_make_step (Kd.slice 3 (Kd.int .i64)) _ 47 (by rfl) (N := 83) rfl 25 _ _ rfl 17 rfl rfl Try.underlying25 (.slice none 0 0) 24 info47 rfl (by decide) (by omega) [] (ok := fun _ => True) (okp := fun _ => True) ⟨_, rfl, Kd.R_nil _ _ _ _ _⟩ (fun _ hk => hk) trivial (by omega) (by omega) (Below.refl _ _) (Nat.le_refl _) ?_
                          intro v343 w69 ho70 hb hg_ hnew_
                          clear hg_ hnew_
                          (first | rw [← Ny342.out] at ho70 | (simp only [Int.reduceToNat] at ho70; rw [← Ny342.out] at ho70))
                          have n0_ := Aside0.mk (Kd.V_elder' (by (with_reducible repeat (first | apply Kd.V_alloc | apply Kd.V_drewN | apply Kd.V_drew)); exact HO324.out) (Kd.S_base ho70) hb)
                          have n1_ := Aside0.mk (Kd.V_elder' (by (with_reducible repeat (first | apply Kd.V_alloc | apply Kd.V_drewN | apply Kd.V_drew)); exact HO332.out) (Kd.S_base ho70) hb)
                          have n2_ := Aside0.mk (Kd.V_elder' (by (with_reducible repeat (first | apply Kd.V_alloc | apply Kd.V_drewN | apply Kd.V_drew)); exact HO336.out) (Kd.S_base ho70) hb)
                          have n3_ := Aside0.mk (Kd.V_elder' (by (with_reducible repeat (first | apply Kd.V_alloc | apply Kd.V_drewN | apply Kd.V_drew)); exact HO340.out) (Kd.S_base ho70) hb)
                          have n4_ := Aside0.mk (Kd.S_lower ho70 (below_size (by repeat (first | (with_reducible first | exact HB.out | apply below_alloc | apply pw_below_drewN | apply below_drew1 | refine below_set ?_ GE312.out) | exact HB.out))))
                          have n5_ := Aside0.mk (blk_below (g := gb312) (o := .cells #[.int .i64 a0_0, .slice A0_1 l0_1.length c0_1] 24 (0, 0)) (by (with_reducible repeat (first | refine blk_drewN ?_ _ | refine blk_drew ?_ | refine blk_alloc ?_ _)); exact BK312.out) hb)
                          have n6_ := Aside0.mk (below_step (by repeat (first | (with_reducible first | exact HB.out | apply below_alloc | apply pw_below_drewN | apply below_drew1 | refine below_set ?_ GE312.out) | exact HB.out)) hb)
                          clear HO324
                          clear HO332
                          clear HO336
                          clear HO340
                          clear BK312
                          clear HB
                          have HO324 := n0_
                          have HO332 := n1_
                          have HO336 := n2_
                          have HO340 := n3_
                          have HO344 := n4_
                          have BK312 := n5_
                          have HB := n6_
                          clear n0_ n1_ n2_ n3_ n4_ n5_ n6_
                          clear hb ho70
                          obtain ⟨Ao71, co71, eo71⟩ := Kd.S_slice HO344.out
                          (first | subst eo71 | (injection eo71 with f1_ f2_ f3_; have f4_ := f1_.symm; have f5_ := f3_.symm; clear f1_ f2_ f3_; subst f4_; subst f5_))
                          refine hK.out _ _ ⟨(blk_cell BK312.out 0).trans rfl, (blk_cell BK312.out 1).trans rfl⟩ (fun hHeld => ?_)
                          clear hK K
                          refine norm_ (a' := ?_) ?_ ?_
                          rotate_left
                          · show Act.put _ (some 83) _ = _
                            simp only [Act.put, List.setIfInBounds_toArray, List.set_cons_zero, List.set_cons_succ, i64_w, i32_w]
                            rfl
                          refine one_ (i := 2) (N := some 84) #[true, true, true, false, false, false, false, false] rfl rfl (one_of HT_.out (by kernel_rfl)) (by decide) (fun K hK => ?_)
                          refine goes_ Try.func12 (by kernel_rfl) rfl #[.agg #[.int .i64 a0_0, .slice A0_1 l0_1.length c0_1], .slice Ao71 y342.length co71] (by rfl) rfl rfl (by (try simp only [List.map_toArray, List.map_cons, List.map_nil]); first | done | rfl | (simp only [List.length_drop, List.length_take]; rfl)) ?_
                          with_reducible refine (model_Forward.calls kj2 a0_0 _ _ l0_1 (fun k_ => (True ∧ k_ ≠ gb312)) _ _ y342 t345 t348 _ ?side1 ?side2 ?side3 A47.out).mono ?_
                          (case side1 => repeat (first | exact (Kd.C_below HR0_1.out HB.out) | (with_reducible refine Kd.C_alloc ?_ _) | (with_reducible refine Kd.C_drewN ?_ _) | (with_reducible refine Kd.C_drew ?_)))
                          (case side2 => exact HC0_1.out)
                          (case side3 => exact Kd.S_V (Kd.S_types (HO344.out) BK312.out (by decide)))
                          rintro e w72 ⟨v346, rfl, ho0, hb⟩
                          refine ⟨_, rfl, ?_⟩
                          have n0_ := Aside0.mk (Kd.V_below (by (with_reducible repeat (first | apply Kd.V_alloc | apply Kd.V_drewN | apply Kd.V_drew)); exact HO324.out) hb)
                          have n1_ := Aside0.mk (Kd.V_below (by (with_reducible repeat (first | apply Kd.V_alloc | apply Kd.V_drewN | apply Kd.V_drew)); exact HO332.out) hb)
                          have n2_ := Aside0.mk (Kd.V_below (by (with_reducible repeat (first | apply Kd.V_alloc | apply Kd.V_drewN | apply Kd.V_drew)); exact HO336.out) hb)
                          have n3_ := Aside0.mk (Kd.V_below (by (with_reducible repeat (first | apply Kd.V_alloc | apply Kd.V_drewN | apply Kd.V_drew)); exact HO340.out) hb)
                          have n4_ := Aside0.mk (Kd.S_below (by (with_reducible repeat (first | apply Kd.S_alloc | apply Kd.S_drewN | apply Kd.S_drew)); exact HO344.out) hb)
                          have n5_ := Aside0.mk (Kd.V_lower (Kd.V_mono (ok' := fun k_ => k_ ≠ gb312) ho0 (fun k_ hk_ => Or.elim hk_ (fun hs_ => hs_.2) (fun hn_ => (Kd.freshB (g := gb312) (o := .cells #[.int .i64 a0_0, .slice A0_1 l0_1.length c0_1] 24 (0, 0)) (by (with_reducible repeat (first | refine blk_drewN ?_ _ | refine blk_drew ?_ | refine blk_alloc ?_ _)); exact BK312.out) k_ hn_)))) (below_size (by repeat (first | (with_reducible first | exact HB.out | apply below_alloc | apply pw_below_drewN | apply below_drew1 | refine below_set ?_ GE312.out) | exact HB.out))))
                          have n6_ := Aside0.mk (blk_below (g := gb312) (o := .cells #[.int .i64 a0_0, .slice A0_1 l0_1.length c0_1] 24 (0, 0)) (by (with_reducible repeat (first | refine blk_drewN ?_ _ | refine blk_drew ?_ | refine blk_alloc ?_ _)); exact BK312.out) hb)
                          have n7_ := Aside0.mk (below_step (by repeat (first | (with_reducible first | exact HB.out | apply below_alloc | apply pw_below_drewN | apply below_drew1 | refine below_set ?_ GE312.out) | exact HB.out)) hb)
                          clear HO324
                          clear HO332
                          clear HO336
                          clear HO340
                          clear HO344
                          clear BK312
                          clear HB
                          have HO324 := n0_
                          have HO332 := n1_
                          have HO336 := n2_
                          have HO340 := n3_
                          have HO344 := n4_
                          have HO347 := n5_
                          have BK312 := n6_
                          have HB := n7_
                          clear n0_ n1_ n2_ n3_ n4_ n5_ n6_ n7_
                          (try clear hb)
                          (try clear hb2)
                          (try clear hk)
                          (try clear hi)
                          (try clear ho0)
                          refine hK.out _ _ ⟨(blk_cell BK312.out 0).trans rfl, (blk_cell BK312.out 1).trans rfl⟩ (fun hHeld => ?_)
                          clear hK K
                          refine norm_ (a' := ?_) ?_ ?_
                          rotate_left
                          · show Act.put _ (some 84) _ = _
                            simp only [Act.put, List.setIfInBounds_toArray, List.set_cons_zero, List.set_cons_succ, i64_w, i32_w]
                            rfl
                          refine pure_ (i := 3) (N := some 81) (v := ?_) (a' := ?_) #[true, true, true, true, false, false, false, false] rfl rfl (any_of HT_.out (by kernel_rfl)) (fun _ _ _ h => h) (Or.inl ⟨by rfl, ?_⟩) ?_ ?_
                          rotate_left
                          · intro w'
                            go_simp
                            with_reducible rfl
                          rotate_left
                          · simp only [Act.put, List.setIfInBounds_toArray, List.set_cons_zero, List.set_cons_succ, i64_w, i32_w]
                            rfl
                          refine pure_ (i := 4) (N := some 85) (v := ?_) (a' := ?_) #[true, true, true, true, true, false, false, false] rfl rfl (any_of HT_.out (by kernel_rfl)) (fun _ _ _ h => h) (Or.inl ⟨by rfl, ?_⟩) ?_ ?_
                          rotate_left
                          · intro w'
                            go_simp
                            with_reducible rfl
                          rotate_left
                          · simp only [Act.put, List.setIfInBounds_toArray, List.set_cons_zero, List.set_cons_succ, i64_w, i32_w]
                            rfl
                          refine pure_ (i := 5) (N := some 86) (v := ?_) (a' := ?_) #[true, true, true, true, true, true, false, false] rfl rfl (any_of HT_.out (by kernel_rfl)) (fun _ _ _ h => h) (Or.inl ⟨by rfl, ?_⟩) ?_ ?_
                          rotate_left
                          · intro w'
                            go_simp
                            with_reducible rfl
                          rotate_left
                          · simp only [Act.put, List.setIfInBounds_toArray, List.set_cons_zero, List.set_cons_succ, i64_w, i32_w]
                            rfl
                          refine pure_ (i := 6) (N := some 14) (v := ?_) (a' := ?_) #[true, true, true, true, true, true, true, false] rfl rfl (any_of HT_.out (by kernel_rfl)) (fun _ _ _ h => h) (Or.inl ⟨by rfl, ?_⟩) ?_ ?_
                          rotate_left
                          · intro w'
                            go_simp
                            with_reducible rfl
                          rotate_left
                          · simp only [Act.put, List.setIfInBounds_toArray, List.set_cons_zero, List.set_cons_succ, i64_w, i32_w]
                            rfl
                          refine pure_ (i := 7) (N := some 15) (v := ?_) (a' := ?_) #[true, true, true, true, true, true, true, true] rfl rfl (any_of HT_.out (by kernel_rfl)) (fun _ _ _ h => h) (Or.inl ⟨by rfl, ?_⟩) ?_ ?_
                          rotate_left
                          · intro w'
                            go_simp
                            with_reducible rfl
                          rotate_left
                          · simp only [Act.put, List.setIfInBounds_toArray, List.set_cons_zero, List.set_cons_succ, i64_w, i32_w]
                            rfl
                          refine done_ (done_of HT_.out (by kernel_rfl)) ?_
                          obtain ⟨Ao73, co73, eo73⟩ := Kd.V_slice HO332.out
                          subst eo73
                          obtain ⟨Ao74, co74, eo74⟩ := Kd.V_slice HO336.out
                          subst eo74
                          try go_wp2_with (first | (go_at_call 19; (with_reducible refine (switchboardref15_Same.calls kj2 _ _ t330 _ _ t334 true _ ?side1 ?side2 ?side3 ?side4 A53.out).mono ?_); (case side1 => repeat (first | exact (Kd.V_reads' HO332.out).2.2 | (with_reducible refine Kd.C_alloc ?_ _) | (with_reducible refine Kd.C_drewN ?_ _) | (with_reducible refine Kd.C_drew ?_))); (case side2 => exact (Kd.V_reads' HO332.out).2.1); (case side3 => repeat (first | exact (Kd.V_reads' HO336.out).2.2 | (with_reducible refine Kd.C_alloc ?_ _) | (with_reducible refine Kd.C_drewN ?_ _) | (with_reducible refine Kd.C_drew ?_))); (case side4 => exact (Kd.V_reads' HO336.out).2.1); rintro e w' ⟨rfl, ⟨nd, rfl⟩⟩) | (go_at_call 11; (with_reducible refine (switchboardlaw15_awake.calls  t350 _ A55.out).mono ?_); rintro e w75 ⟨rfl, hb⟩; have n0_ := Aside0.mk (Kd.V_below (by (with_reducible repeat (first | apply Kd.V_alloc | apply Kd.V_drewN | apply Kd.V_drew)); exact HO324.out) hb); have n1_ := Aside0.mk (Kd.V_below (by (with_reducible repeat (first | apply Kd.V_alloc | apply Kd.V_drewN | apply Kd.V_drew)); exact HO332.out) hb); have n2_ := Aside0.mk (Kd.V_below (by (with_reducible repeat (first | apply Kd.V_alloc | apply Kd.V_drewN | apply Kd.V_drew)); exact HO336.out) hb); have n3_ := Aside0.mk (Kd.V_below (by (with_reducible repeat (first | apply Kd.V_alloc | apply Kd.V_drewN | apply Kd.V_drew)); exact HO340.out) hb); have n4_ := Aside0.mk (Kd.S_below (by (with_reducible repeat (first | apply Kd.S_alloc | apply Kd.S_drewN | apply Kd.S_drew)); exact HO344.out) hb); have n5_ := Aside0.mk (Kd.V_below (by (with_reducible repeat (first | apply Kd.V_alloc | apply Kd.V_drewN | apply Kd.V_drew)); exact HO347.out) hb); have n6_ := Aside0.mk (blk_below (g := gb312) (o := .cells #[.int .i64 a0_0, .slice A0_1 l0_1.length c0_1] 24 (0, 0)) (by (with_reducible repeat (first | refine blk_drewN ?_ _ | refine blk_drew ?_ | refine blk_alloc ?_ _)); exact BK312.out) hb); have n7_ := Aside0.mk (below_step (by repeat (first | (with_reducible first | exact HB.out | apply below_alloc | apply pw_below_drewN | apply below_drew1 | refine below_set ?_ GE312.out) | exact HB.out)) hb); clear HO324; clear HO332; clear HO336; clear HO340; clear HO344; clear HO347; clear BK312; clear HB; have HO324 := n0_; have HO332 := n1_; have HO336 := n2_; have HO340 := n3_; have HO344 := n4_; have HO347 := n5_; have BK312 := n6_; have HB := n7_; clear n0_ n1_ n2_ n3_ n4_ n5_ n6_ n7_; (try clear hb); (try clear hb2); (try clear hk); (try clear hi)))
                          go_ret
                          exact ⟨by first | rfl | exact congrArg (fun b_ => Ending.returned (Value.bool b_)) hr_.out | exact congrArg (fun b_ => Ending.returned (Value.bool b_)) hr_.out | (simp [errW_none, errW_some] <;> rfl) | (simp only [← hji37]; first | rfl | (simp [errW_none, errW_some] <;> rfl)) | (simp [*, errW_none, errW_some] <;> rfl), by repeat (first | (with_reducible first | exact HB.out | apply below_alloc | apply pw_below_drewN | apply below_drew1 | refine below_set ?_ GE312.out) | exact HB.out)⟩
                        · replace c54 := Bool.eq_false_iff.mpr c54
                          subst c54
                          have H1 : (some false) = some true := by rw [if_neg (show ¬ (false = true) by decide)] at H; exact H
                          clear H
                          have H := H1
                          clear H1
                          exact absurd H (by simp)
                      · rw [if_neg c52] at H
                        have c52b0 : (t348 == 1) = false := beq_eq_false_iff_ne.mpr c52
                        have c52b1 : (t348 != 1) = true := bne_iff_ne.mpr c52
                        exact absurd H (by simp)
                    · rw [if_neg c51] at H
                      have c51b0 : (t341 == 1) = false := beq_eq_false_iff_ne.mpr c51
                      have c51b1 : (t341 != 1) = true := bne_iff_ne.mpr c51
                      exact absurd H (by simp)
                  · rw [if_neg c50] at H
                    have c50b0 : (t337 == 0) = false := beq_eq_false_iff_ne.mpr c50
                    have c50b1 : (t337 != 0) = true := bne_iff_ne.mpr c50
                    exact absurd H (by simp)
                · rw [if_neg c49] at H
                  have c49b0 : (t333 == 0) = false := beq_eq_false_iff_ne.mpr c49
                  have c49b1 : (t333 != 0) = true := bne_iff_ne.mpr c49
                  exact absurd H (by simp)
              · rw [if_neg c48] at H
                have c48b0 : (t325 == 0) = false := beq_eq_false_iff_ne.mpr c48
                have c48b1 : (t325 != 0) = true := bne_iff_ne.mpr c48
                exact absurd H (by simp)
            · rw [if_neg c46] at H
              exact absurd H (by simp)
          · rw [if_neg c39] at H
            exact absurd H (by simp)
        · rw [if_neg c38] at H
          exact absurd H (by simp)

end Go.Proofs.Ytlicglgogklnkaa.Pn
