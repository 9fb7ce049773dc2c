-- Laid by wip/xprint.py, a program of this session that runs the kit's print with some contracts given by hand; not a text of print.sh. Lean checks it.
import Derived.Test.YtikncbklhnaajaaPr0
import Derived.Test.YtikncbklhnaajaaPr2
import Derived.Test.YtikncbklhnaajaaPr3
namespace Go.Proofs.Ytikncbklhnaajaa.Pr
open Go.RowKit Go.Proofs.YtikncbklhnaajaaW.PrintWords Go.Proofs.YtikncbklhnaajaaW.PrintLast Go.Proofs.YtikncbklhnaajaaW.PrintMore
attribute [local go_sem] max2_int min2_int max_two min_two max_three min_three max_four min_four   -- for this text's walks alone
set_option linter.unusedVariables false
set_option linter.unusedSimpArgs false

/-! ### switchboardlaw10_LinkTexts: function 7 -/
mutual
def switchboardlaw10_LinkTexts.l0 : Nat → List ByteArray → Int → Int → Int → Int → Int → List (S45) → Option (Bool)
  | 0, _, _, _, _, _, _, _ => none
  | k + 1, x0, x1, x6, x18, x19, x290000, x290001 => if x19 < x18 then (if 0 ≤ x19 then (if x19 < (x0.length : Int) then (if ((rdOf ByteArray.empty x0 x19).size : Int) > 20 then ((switchboardlaw10_awake.f k).bind fun t291 => (some t291)) else ((link_Push.f k x290000 x290001 (rdOf ByteArray.empty x0 x19)).bind fun bt293 => (if bt293.2.2.2 = 0 then (if bt293.2.2.1 = x19 then (switchboardlaw10_LinkTexts.l0 k x0 x1 x6 x18 (wrap64 (x19 + 1)) bt293.1 bt293.2.1) else (some false)) else (some false)))) else (none)) else (none)) else (if x6 = 0 then ((link_Told.f x290000 x290001 0).bind fun bt300 => (if (bt300.2.length : Int) = 0 then ((switchboardlaw10_awake.f k).bind fun t304 => (some t304)) else (some false))) else ((link_Told.f x290000 x290001 (Int.tmod (wrap64 (x1)) x6)).bind fun bt305 => (if (bt305.2.length : Int) = (wrap64 (x6 - 1)) then (switchboardlaw10_LinkTexts.l1 k x0 (Int.tmod (wrap64 (x1)) x6) bt305.2 (bt305.2.length : Int) 0) else (some false))))
def switchboardlaw10_LinkTexts.l1 : Nat → List ByteArray → Int → List (S45) → Int → Int → Option (Bool)
  | 0, _, _, _, _, _ => none
  | k + 1, x0, x11, x72, x73, x74 => if x74 < x73 then (if 0 ≤ x74 then (if x74 < (x72.length : Int) then (if x74 ≥ x11 then (if ((rd_T45 x72 x74).f0) = (wrap64 (x74 + 1)) then (if 0 ≤ (wrap64 (x74 + 1)) then (if (wrap64 (x74 + 1)) < (x0.length : Int) then (if ((rd_T45 x72 x74).f1).toList = (rdOf ByteArray.empty x0 (wrap64 (x74 + 1))).toList then (switchboardlaw10_LinkTexts.l1 k x0 x11 x72 x73 (wrap64 (x74 + 1))) else (some false)) else (none)) else (none)) else (some false)) else (if ((rd_T45 x72 x74).f0) = x74 then (if x74 < (x0.length : Int) then (if ((rd_T45 x72 x74).f1).toList = (rdOf ByteArray.empty x0 x74).toList then (switchboardlaw10_LinkTexts.l1 k x0 x11 x72 x73 (wrap64 (x74 + 1))) else (some false)) else (none)) else (some false))) else (none)) else (none)) else ((switchboardlaw10_awake.f k).bind fun t309 => (some t309))
end
def switchboardlaw10_LinkTexts.f (k : Nat) (l0 : List ByteArray) (a1 : Int) : Option (Bool) := switchboardlaw10_LinkTexts.l0 k l0 a1 (mn (l0.length : Int) 60) (mn (l0.length : Int) 60) 0 0 ([] : List (S45))
theorem switchboardlaw10_LinkTexts.mono_l : ∀ k, (∀ y0 y1 y2 y3 y4 y5 y6, LeO (switchboardlaw10_LinkTexts.l0 k y0 y1 y2 y3 y4 y5 y6) (switchboardlaw10_LinkTexts.l0 (k + 1) y0 y1 y2 y3 y4 y5 y6)) ∧ (∀ y0 y1 y2 y3 y4, LeO (switchboardlaw10_LinkTexts.l1 k y0 y1 y2 y3 y4) (switchboardlaw10_LinkTexts.l1 (k + 1) y0 y1 y2 y3 y4))
  | 0 => ⟨fun _ _ _ _ _ _ _ r h => by simp [switchboardlaw10_LinkTexts.l0] at h, fun _ _ _ _ _ r h => by simp [switchboardlaw10_LinkTexts.l1] at h⟩
  | k + 1 => by
    obtain ⟨ih0, ih1⟩ := switchboardlaw10_LinkTexts.mono_l k
    refine ⟨?_, ?_⟩
    · intro y0 y1 y2 y3 y4 y5 y6
      unfold switchboardlaw10_LinkTexts.l0
      repeat' first
      | (with_reducible exact ih0 _ _ _ _ _ _ _)
      | (with_reducible exact ih1 _ _ _ _ _)
      | (with_reducible exact link_Push.mono _ _ _ _)
      | (with_reducible exact switchboardlaw10_awake.mono _)
      | (with_reducible exact LeO.refl _)
      | (with_reducible exact LeO.none _)
      | (with_reducible refine LeO.ite ?_ ?_)
      | (with_reducible refine LeO.bind ?_ (fun _ => ?_))
      | exact ih0 _ _ _ _ _ _ _
      | exact ih1 _ _ _ _ _
      | exact link_Push.mono _ _ _ _
      | exact switchboardlaw10_awake.mono _
      | exact LeO.none _
      | refine LeO.ite ?_ ?_
      | refine LeO.bind ?_ (fun _ => ?_)
    · intro y0 y1 y2 y3 y4
      unfold switchboardlaw10_LinkTexts.l1
      repeat' first
      | (with_reducible exact ih0 _ _ _ _ _ _ _)
      | (with_reducible exact ih1 _ _ _ _ _)
      | (with_reducible exact link_Push.mono _ _ _ _)
      | (with_reducible exact switchboardlaw10_awake.mono _)
      | (with_reducible exact LeO.refl _)
      | (with_reducible exact LeO.none _)
      | (with_reducible refine LeO.ite ?_ ?_)
      | (with_reducible refine LeO.bind ?_ (fun _ => ?_))
      | exact ih0 _ _ _ _ _ _ _
      | exact ih1 _ _ _ _ _
      | exact link_Push.mono _ _ _ _
      | exact switchboardlaw10_awake.mono _
      | exact LeO.none _
      | refine LeO.ite ?_ ?_
      | refine LeO.bind ?_ (fun _ => ?_)
theorem switchboardlaw10_LinkTexts.mono : ∀ a0 a1 k, LeO (switchboardlaw10_LinkTexts.f k a0 a1) (switchboardlaw10_LinkTexts.f (k + 1) a0 a1) := by
  intro a0 a1 k
  obtain ⟨ih0, ih1⟩ := switchboardlaw10_LinkTexts.mono_l k
  unfold switchboardlaw10_LinkTexts.f
  repeat' first
      | (with_reducible exact ih0 _ _ _ _ _ _ _)
      | (with_reducible exact ih1 _ _ _ _ _)
      | (with_reducible exact link_Push.mono _ _ _ _)
      | (with_reducible exact switchboardlaw10_awake.mono _)
      | (with_reducible exact LeO.refl _)
      | (with_reducible exact LeO.none _)
      | (with_reducible refine LeO.ite ?_ ?_)
      | (with_reducible refine LeO.bind ?_ (fun _ => ?_))
      | exact ih0 _ _ _ _ _ _ _
      | exact ih1 _ _ _ _ _
      | exact link_Push.mono _ _ _ _
      | exact switchboardlaw10_awake.mono _
      | exact LeO.none _
      | refine LeO.ite ?_ ?_
      | refine LeO.bind ?_ (fun _ => ?_)
def switchboardlaw10_LinkTexts.T8 : Bool × List (List Nat × List Nat) := (true, [([], []), ([], []), ([], []), ([1, 2], [1, 2]), ([3], [3]), ([0, 4], [0, 4]), ([5], [5]), ([6], [6]), ([6], [6]), ([6], [6]), ([], []), ([10, 7, 5, 0, 1, 2, 3, 4, 5, 6, 7, 10], [7, 10]), ([8, 11, 0, 1, 2, 3, 4, 5, 6, 7, 8, 10, 11], [8]), ([9, 12, 0, 1, 2, 3, 4, 5, 6, 7, 8, 9, 10, 11, 12], [9])])
def switchboardlaw10_LinkTexts.B8 : List Nat := [0, 0, 0, 6, 14, 31, 63, 127, 127, 127, 0, 1279, 3583, 8191]
theorem switchboardlaw10_LinkTexts.tab8 : rtab .any (opsOf Try.f7 8) = switchboardlaw10_LinkTexts.T8 := by kernel_rfl
theorem switchboardlaw10_LinkTexts.bits8 : waitsOk switchboardlaw10_LinkTexts.T8.2 switchboardlaw10_LinkTexts.B8 = true := by kernel_rfl
def switchboardlaw10_LinkTexts.T25 : Bool × List (List Nat × List Nat) := (true, [([], []), ([0], [0]), ([], []), ([1, 2], [1, 2]), ([3], [3]), ([4], [4]), ([5, 4], [4, 5]), ([4], [4]), ([4], [4]), ([7, 8, 4], [4, 7, 8]), ([9, 4], [4, 9]), ([6, 10, 4], [4, 6, 10]), ([4, 11], [4, 11])])
def switchboardlaw10_LinkTexts.B25 : List Nat := [0, 1, 0, 7, 15, 31, 63, 31, 31, 415, 927, 2047, 4095]
theorem switchboardlaw10_LinkTexts.tab25 : rtab .any (opsOf Try.f7 25) = switchboardlaw10_LinkTexts.T25 := by kernel_rfl
theorem switchboardlaw10_LinkTexts.bits25 : waitsOk switchboardlaw10_LinkTexts.T25.2 switchboardlaw10_LinkTexts.B25 = true := by kernel_rfl
set_option maxHeartbeats 8000000 in
set_option maxRecDepth 100000 in
theorem switchboardlaw10_LinkTexts.calls (k : Nat) (A0 : Option Addr) (c0 : Nat) (l0 : List ByteArray) (a1 : Int) (w : World) (hr0 : Kd.C Kd.string w A0 l0.length l0) (hc0 : l0.length ≤ c0) (h : switchboardlaw10_LinkTexts.f k l0 a1 = some true) :
    Calls Try.prog 7 #[.slice A0 l0.length c0, .int .u8 a1] w fun e w' => e = .returned (.bool true) ∧ Below w.heap.size w w' := by
  have hfd24 : ∀ (n : Int) (A : Option Addr) (m c : Nat) (W : World), (Instr.field 24 (.agg #[.int .i64 n, .slice A m c]) 1).run Try.prog W = .ok (.slice A m c) W := fun _ _ _ _ _ => by kernel_rfl
  have hfd45 : ∀ (n : Int) (A : Option Addr) (m c : Nat) (W : World), (Instr.field 45 (.agg #[.int .i64 n, .slice A m c]) 1).run Try.prog W = .ok (.slice A m c) W := fun _ _ _ _ _ => by kernel_rfl
  have hu24 := Try.underlying24
  have hu45 := Try.underlying45
  have HR0 := Aside0.mk hr0
  have HC0 := Aside0.mk hc0
  clear hr0 hc0
  have HB := Aside0.mk (Below.refl w.heap.size w)
  have H : (switchboardlaw10_LinkTexts.l0 k l0 a1 (mn (l0.length : Int) 60) (mn (l0.length : Int) 60) 0 0 ([] : List (S45))) = some true := h
  clear h
  obtain ⟨ji3, hji3⟩ : ∃ j_ : Int, (mn (l0.length : Int) 60) = j_ := ⟨_, rfl⟩
  replace H : (switchboardlaw10_LinkTexts.l0 k l0 a1 ji3 ji3 0 0 ([] : List (S45))) = some true := by first | (rw [hji3] at H; exact H) | (simp only [hji3] at H ⊢; exact H)
  (try (have hji3h : ji3 ≤ 60 := by (rw [← hji3]; unfold mn; (repeat' split) <;> omega)))
  (try (have hji3g : ji3 ≤ 64 := by omega))
  (try (have hji3l : 0 ≤ ji3 := by (rw [← hji3]; unfold mn; (repeat' split) <;> omega)))
  (try (have hji3m : 0 ≤ ji3 := by omega))
  have hji3_ : (if 60 < (l0.length : Int) then 60 else (l0.length : Int)) = ji3 := hji3
  have H' := Aside0.mk H
  clear H
  go_enter Try.func7, Try.ntmps7
  go_wp2_with (first | ((with_reducible refine gate_dst (N := 5) rfl ?_); refine box_event ?hg (N := 5) ?hd (cs := #[.int .i64 0, .slice none 0 0]) (t := 24) ?hr ?_; (case hd => rfl); (case hg => rfl); (case hr => first | (go_simp; done) | (go_simp; rfl)); intro gb289 hg w4 hbox hb; have n0_ := Aside0.mk (below_step (by repeat (first | (with_reducible first | exact HB.out | apply below_alloc | apply pw_below_drewN | apply below_drew1) | exact HB.out)) hb); have n1_ := Aside0.mk (hbox); have n2_ := Aside0.mk ((by rw [hg]; exact (below_size (by repeat (first | (with_reducible first | exact HB.out | apply below_alloc | apply pw_below_drewN | apply below_drew1) | exact HB.out))) : w.heap.size ≤ gb289)); have n3_ := Aside0.mk ((by rw [hg]; exact (below_size (by repeat (first | (with_reducible first | exact HB.out | apply below_alloc | apply pw_below_drewN | apply below_drew1) | exact HB.out))) : w.heap.size ≤ gb289)); clear HB; have HB := n0_; have BK289 := n1_; have GW289 := n2_; have GE289 := n3_; clear n0_ n1_ n2_ n3_; clear hb hbox hg))
  go_loopg [19] k (fun kq v19 w' => ∃ (x19_1 : Int) (x290000_1 : Int) (x290001_1 : List (S45)) (u290001 : Value), v19 = .int .i64 x19_1 ∧ Aside0 (switchboardlaw10_LinkTexts.l0 kq l0 a1 ji3 ji3 x19_1 x290000_1 x290001_1 = some true) ∧ Aside0 (kq ≤ k) ∧ Aside0 (Kd.V k45 45 w' w.heap.size (fun k_ => k_ ≠ gb289) u290001 x290001_1) ∧ Aside0 (w'.heap[gb289]? = some (.cells #[.int .i64 x290000_1, u290001] 24 (0, 0))) ∧ Aside0 (Below w.heap.size w w'))
  case atStart => exact ⟨(0), (0), (([] : List (S45))), (.slice none 0 0), (by first | rfl | (simp; done) | (simp [*]; done)), H', ⟨Nat.le_refl _⟩, ⟨Kd.V_nil _ _ _ _ _⟩, ⟨by (with_reducible repeat (first | refine blk_drewN ?_ _ | refine blk_drew ?_ | refine blk_alloc ?_ _)); exact BK289.out⟩, ⟨by repeat (first | (with_reducible first | exact HB.out | apply below_alloc | apply pw_below_drewN | apply below_drew1 | refine below_set ?_ GE289.out) | exact HB.out)⟩⟩
  case round =>
    clear H'
    try clear p2
    obtain ⟨x19_1, x290000_1, x290001_1, u290001, rfl, HA, HK1, HO_290001, BK289, HB⟩ := hrel
    cases gk with
    | zero => exact absurd HA.out (by simp [switchboardlaw10_LinkTexts.l0])
    | succ k1 =>
      have H := HA.out
      clear HA
      simp only [switchboardlaw10_LinkTexts.l0] at H
      by_cases c5 : x19_1 < ji3
      · rw [if_pos c5] at H
        have c5b0 : decide (x19_1 < ji3) = true := decide_eq_true c5
        clear c5
        by_cases c6 : 0 ≤ x19_1
        · rw [if_pos c6] at H
          have c6b0 : decide (0 ≤ x19_1) = true := decide_eq_true c6
          clear c6
          by_cases c7 : x19_1 < (l0.length : Int)
          · rw [if_pos c7] at H
            have c7b0 : decide (x19_1 < (l0.length : Int)) = true := decide_eq_true c7
            clear c7
            by_cases c8 : ((rdOf ByteArray.empty l0 x19_1).size : Int) > 20
            · rw [if_pos c8] at H
              have c8b0 : decide (20 < ((rdOf ByteArray.empty l0 x19_1).size : Int)) = true := decide_eq_true c8
              have c8b1 : decide (20 < (rdOf ByteArray.empty l0 x19_1).size) = true := decide_eq_true (by omega)
              clear c8
              replace H := Option.bind_eq_some_iff.mp H
              obtain ⟨t291, A90, H⟩ := H
              replace H : (some t291) = some true := H
              have A9 := Aside0.mk A90
              clear A90
              have hr_ := Aside0.mk (Option.some.inj H)
              have p290 : 0 ≤ (x19_1 : Int) := of_decide_eq_true (by first | (with_reducible assumption) | assumption)
              have q290 : x19_1 < (l0.length : Int) := of_decide_eq_true (by first | (with_reducible assumption) | assumption)
              obtain ⟨ad290, e290, hx290_0⟩ := Kd.at_string HR0.out x19_1 p290 q290
              cases e290
              replace hx290_0 := (HB.out.cell (World.block_lt_of_cell? w _ hx290_0)).trans hx290_0
              replace p290 := eq_true p290
              replace q290 := eq_true q290
              go_wp2_with (first | ((with_reducible refine gate_callee (f := 9) rfl ?_); refine goesL_ (some 28) rfl rfl Try.func9 (by kernel_rfl) rfl #[] rfl (by (try simp only [List.map_toArray, List.map_cons, List.map_nil]); first | done | rfl | (simp only [List.length_drop, List.length_take]; rfl)) ?_; (with_reducible refine (switchboardlaw10_awake.calls k1  t291 _ A9.out).mono ?_); rintro e w10 ⟨rfl, hb⟩; refine ⟨_, rfl, ?_⟩; have n0_ := Aside0.mk (Kd.V_below (by (with_reducible repeat (first | apply Kd.V_alloc | apply Kd.V_drewN | apply Kd.V_drew)); exact HO_290001.out) hb); have n1_ := Aside0.mk (blk_below (g := gb289) (o := .cells #[.int .i64 x290000_1, u290001] 24 (0, 0)) (by (with_reducible repeat (first | refine blk_drewN ?_ _ | refine blk_drew ?_ | refine blk_alloc ?_ _)); exact BK289.out) hb); have n2_ := Aside0.mk (below_step (by repeat (first | (with_reducible first | exact HB.out | apply below_alloc | apply pw_below_drewN | apply below_drew1 | refine below_set ?_ GE289.out) | exact HB.out)) hb); clear HO_290001; clear BK289; clear HB; have HO_290001 := n0_; have BK289 := n1_; have HB := n2_; clear n0_ n1_ n2_; (try clear hb); (try clear hb2); (try clear hk); (try clear hi)))
              go_ret
              exact ⟨by first | rfl | exact congrArg (fun b_ => Ending.returned (Value.bool b_)) hr_.out | exact congrArg (fun b_ => Ending.returned (Value.bool b_)) hr_.out | (simp [errW_none, errW_some] <;> rfl) | (simp only [← hji3]; first | rfl | (simp [errW_none, errW_some] <;> rfl)) | (simp [*, errW_none, errW_some] <;> rfl), by repeat (first | (with_reducible first | exact HB.out | apply below_alloc | apply pw_below_drewN | apply below_drew1 | refine below_set ?_ GE289.out) | exact HB.out)⟩
            · rw [if_neg c8] at H
              have c8b0 : decide (20 < ((rdOf ByteArray.empty l0 x19_1).size : Int)) = false := decide_eq_false c8
              have c8b1 : decide (20 < (rdOf ByteArray.empty l0 x19_1).size) = false := decide_eq_false (by omega)
              clear c8
              replace H := Option.bind_eq_some_iff.mp H
              obtain ⟨⟨t293, t294, t297, t298⟩, A110, H⟩ := H
              replace H : (if t298 = 0 then (if t297 = x19_1 then (switchboardlaw10_LinkTexts.l0 k1 l0 a1 ji3 ji3 (wrap64 (x19_1 + 1)) t293 t294) else (some false)) else (some false)) = some true := H
              have A11 := Aside0.mk A110
              clear A110
              by_cases c12 : t298 = 0
              · rw [if_pos c12] at H
                have c12b0 : (t298 == 0) = true := beq_iff_eq.mpr c12
                have c12b1 : (t298 != 0) = false := bne_eq_false_iff_eq.mpr c12
                clear c12
                by_cases c13 : t297 = x19_1
                · rw [if_pos c13] at H
                  have c13b0 : (t297 == x19_1) = true := beq_iff_eq.mpr c13
                  have c13b1 : (t297 != x19_1) = false := bne_eq_false_iff_eq.mpr c13
                  clear c13
                  have H' := Aside0.mk H
                  clear H
                  have p290 : 0 ≤ (x19_1 : Int) := of_decide_eq_true (by first | (with_reducible assumption) | assumption)
                  have q290 : x19_1 < (l0.length : Int) := of_decide_eq_true (by first | (with_reducible assumption) | assumption)
                  obtain ⟨ad290, e290, hx290_0⟩ := Kd.at_string HR0.out x19_1 p290 q290
                  cases e290
                  replace hx290_0 := (HB.out.cell (World.block_lt_of_cell? w _ hx290_0)).trans hx290_0
                  replace p290 := eq_true p290
                  replace q290 := eq_true q290
                  obtain ⟨Ao14, co14, eo14⟩ := Kd.V_slice HO_290001.out
                  subst eo14
                  try go_wp2
                  have n0_ := Aside0.mk (Kd.V_drew HO_290001.out)
                  have n1_ := Aside0.mk (blk_drew BK289.out)
                  have n2_ := Aside0.mk (below_drew1 HB.out)
                  clear HO_290001
                  clear BK289
                  clear HB
                  have HO_290001 := n0_
                  have BK289 := n1_
                  have HB := n2_
                  clear n0_ n1_ n2_
                  have p292 : 0 ≤ (x19_1 : Int) := of_decide_eq_true (by first | (with_reducible assumption) | assumption)
                  have q292 : x19_1 < (l0.length : Int) := of_decide_eq_true (by first | (with_reducible assumption) | assumption)
                  obtain ⟨ad292, e292, hx292_0⟩ := Kd.at_string HR0.out x19_1 p292 q292
                  have hw292_0 := hx292_0
                  obtain rfl : ad290 = ad292 := (by injection e292)
                  replace hx292_0 := (HB.out.cell (World.block_lt_of_cell? w _ hx292_0)).trans hx292_0
                  replace p292 := eq_true p292
                  replace q292 := eq_true q292
                  refine start_ (n := 14) (S := fun w' => w'.cell? ⟨gb289, 0, none⟩ = some (.int .i64 x290000_1) ∧ w'.cell? ⟨gb289, 1, none⟩ = some (.slice Ao14 x290001_1.length co14) ∧ w'.cell? (ad290.add (x19_1).toNat) = some (.string (rdOf ByteArray.empty l0 x19_1))) (ds := []) #[false, false, false, false, false, false, false, false, false, false, false, false, false, false] (by kernel_rfl) rfl rfl ⟨(blk_cell BK289.out 0).trans rfl, (blk_cell BK289.out 1).trans rfl, ((HB.out.cell (World.block_lt_of_cell? w _ hw292_0)).trans hw292_0)⟩ (fun hHeld => ?_); refine with_tabW switchboardlaw10_LinkTexts.tab8 switchboardlaw10_LinkTexts.bits8 (fun HT_ HW_ => ?_)
                  generalize wr.drew = w15 at HO_290001 BK289 HB hx292_0 hHeld ⊢
                  refine pure_ (i := 1) (N := some 31) (v := ?_) (a' := ?_) #[false, true, false, false, false, false, false, false, false, false, false, false, false, false] rfl rfl (any_of HT_.out (by kernel_rfl)) (fun _ _ _ h => h) (Or.inl ⟨by rfl, ?_⟩) ?_ ?_
                  rotate_left
                  · intro w'
                    go_simp
                    with_reducible rfl
                  rotate_left
                  · simp only [Act.put, List.setIfInBounds_toArray, List.set_cons_zero, List.set_cons_succ, i64_w, i32_w]
                    rfl
                  refine pure_ (i := 2) (N := some 32) (v := ?_) (a' := ?_) #[false, true, true, false, false, false, false, false, false, false, false, false, false, false] rfl rfl (any_of HT_.out (by kernel_rfl)) (fun _ _ _ h => h) (Or.inl ⟨by rfl, ?_⟩) ?_ ?_
                  rotate_left
                  · intro w'
                    go_simp
                    with_reducible rfl
                  rotate_left
                  · simp only [Act.put, List.setIfInBounds_toArray, List.set_cons_zero, List.set_cons_succ, i64_w, i32_w]
                    rfl
                  refine pure_ (i := 3) (N := some 33) (v := ?_) (a' := ?_) #[false, true, true, true, false, false, false, false, false, false, false, false, false, false] rfl rfl (any_of HT_.out (by kernel_rfl)) (fun _ _ _ h => h) (Or.inl ⟨by rfl, ?_⟩) ?_ ?_
                  rotate_left
                  · intro w'
                    go_simp
                    with_reducible rfl
                  rotate_left
                  · simp only [Act.put, List.setIfInBounds_toArray, List.set_cons_zero, List.set_cons_succ, i64_w, i32_w]
                    rfl
                  refine take_ (i := 0) (N := some 30) (v := ?_) (a' := ?_) #[true, true, true, true, false, false, false, false, false, false, false, false, false, false] rfl rfl (take_ofW HT_.out HW_.out (by kernel_rfl)) (fun _ _ _ h => h) (Or.inl ⟨by rfl, ?_⟩) hHeld ?_ ?_
                  rotate_left
                  · rintro w' ⟨s0, s1, s2⟩
                    go_simp
                    with_reducible rfl
                  rotate_left
                  · simp only [Act.put, List.setIfInBounds_toArray, List.set_cons_zero, List.set_cons_succ, i64_w, i32_w]
                    rfl
                  refine take_ (i := 4) (N := some 34) (v := ?_) (a' := ?_) #[true, true, true, true, true, false, false, false, false, false, false, false, false, false] rfl rfl (take_ofW HT_.out HW_.out (by kernel_rfl)) (fun _ _ _ h => h) (Or.inl ⟨by rfl, ?_⟩) hHeld ?_ ?_
                  rotate_left
                  · rintro w' ⟨s0, s1, s2⟩
                    go_simp
                    with_reducible rfl
                  rotate_left
                  · simp only [Act.put, List.setIfInBounds_toArray, List.set_cons_zero, List.set_cons_succ, i64_w, i32_w]
                    rfl
                  refine join_ (σ := Value × Nat) 3 #[true, true, true, true, true, true, true, true, true, true, true, false, false, false] (fun s_ => [(35, .tuple #[.agg #[.int .i64 t293, s_.1], .int .i64 t297, .int .i64 t298]), (8, .pointer (some ⟨s_.2, 0, none⟩)), (29, .tuple #[.agg #[.int .i64 t293, s_.1], .int .i64 t297, .int .i64 t298]), (36, .agg #[.int .i64 t293, s_.1]), (37, .int .i64 t297), (38, .int .i64 t298)]) (fun s_ w' => (w'.cell? ⟨gb289, 0, none⟩ = some (.int .i64 x290000_1) ∧ w'.cell? ⟨gb289, 1, none⟩ = some (.slice Ao14 x290001_1.length co14) ∧ w'.cell? (ad290.add (x19_1).toNat) = some (.string (rdOf ByteArray.empty l0 x19_1))) ∧ (Kd.V k45 45 w' w.heap.size (fun k_ => k_ ≠ gb289 ∧ k_ ≠ s_.2) s_.1 t294) ∧ (Kd.V k45 45 w' w.heap.size (fun k_ => k_ ≠ gb289 ∧ k_ ≠ s_.2) (.slice Ao14 x290001_1.length co14) x290001_1) ∧ (w'.heap[gb289]? = some (.cells #[.int .i64 x290000_1, .slice Ao14 x290001_1.length co14] 24 (0, 0))) ∧ (w'.heap[s_.2]? = some (.cells #[.int .i64 0, .slice none 0 0] 24 (0, 0))) ∧ (w.heap.size ≤ s_.2) ∧ (w.heap.size ≤ s_.2) ∧ (gb289 ≠ s_.2) ∧ (s_.2 ≠ gb289) ∧ (Below w.heap.size w w')) ?_ ?_
                  rotate_left
                  · intro hCont
                    refine two_ (i := 5) (j := 10) (Ni := some 35) (Nj := some 8) #[true, true, true, true, true, true, false, false, false, false, false, false, false, false] #[true, true, true, true, true, false, false, false, false, false, true, false, false, false] rfl rfl rfl rfl (two_of HT_.out (by kernel_rfl)) (by decide) (by decide) (fun K hK => ?_) (fun K hK => ?_)
                    · skip
                      refine goes_ Try.func10 (by kernel_rfl) rfl #[.agg #[.int .i64 x290000_1, .slice Ao14 x290001_1.length co14], .string (rdOf ByteArray.empty l0 x19_1)] (by rfl) rfl rfl (by (try simp only [List.map_toArray, List.map_cons, List.map_nil]); first | done | rfl | (simp only [List.length_drop, List.length_take]; rfl)) ?_
                      with_reducible refine (link_Push.calls k1 x290000_1 (fun k_ => k_ ≠ gb289) _ _ x290001_1 (rdOf ByteArray.empty l0 x19_1) t293 t294 t297 t298 _ ?side1 A11.out).mono ?_
                      (case side1 => exact HO_290001.out)
                      rintro e w16 ⟨v295, rfl, ho0, hb⟩
                      refine ⟨_, rfl, ?_⟩
                      have n0_ := Aside0.mk (Kd.V_below (by (with_reducible repeat (first | apply Kd.V_alloc | apply Kd.V_drewN | apply Kd.V_drew)); exact HO_290001.out) hb)
                      have n1_ := Aside0.mk (Kd.V_lower (Kd.V_mono (ok' := fun k_ => k_ ≠ gb289) ho0 (fun k_ hk_ => Or.elim hk_ (fun hs_ => hs_) (fun hn_ => (Kd.freshB (g := gb289) (o := .cells #[.int .i64 x290000_1, .slice Ao14 x290001_1.length co14] 24 (0, 0)) (by (with_reducible repeat (first | refine blk_drewN ?_ _ | refine blk_drew ?_ | refine blk_alloc ?_ _)); exact BK289.out) k_ hn_)))) (below_size (by repeat (first | (with_reducible first | exact HB.out | apply below_alloc | apply pw_below_drewN | apply below_drew1 | refine below_set ?_ GE289.out) | exact HB.out))))
                      have n2_ := Aside0.mk (blk_below (g := gb289) (o := .cells #[.int .i64 x290000_1, .slice Ao14 x290001_1.length co14] 24 (0, 0)) (by (with_reducible repeat (first | refine blk_drewN ?_ _ | refine blk_drew ?_ | refine blk_alloc ?_ _)); exact BK289.out) hb)
                      have n3_ := Aside0.mk (below_step (by repeat (first | (with_reducible first | exact HB.out | apply below_alloc | apply pw_below_drewN | apply below_drew1 | refine below_set ?_ GE289.out) | exact HB.out)) hb)
                      clear HO_290001
                      clear BK289
                      clear HB
                      have HO_290001 := n0_
                      have HO296 := n1_
                      have BK289 := n2_
                      have HB := n3_
                      clear n0_ n1_ n2_ n3_
                      (try clear hb)
                      (try clear hb2)
                      (try clear hk)
                      (try clear hi)
                      (try clear ho0)
                      refine hK.out _ _ ⟨(blk_cell BK289.out 0).trans rfl, (blk_cell BK289.out 1).trans rfl, ((HB.out.cell (World.block_lt_of_cell? w _ hw292_0)).trans hw292_0)⟩ (fun hHeld => ?_)
                      clear hK K
                      refine norm_ (a' := ?_) ?_ ?_
                      rotate_left
                      · show Act.put _ (some 35) _ = _
                        simp only [Act.put, List.setIfInBounds_toArray, List.set_cons_zero, List.set_cons_succ, i64_w, i32_w]
                        rfl
                      refine pure_ (i := 6) (N := some 29) (v := ?_) (a' := ?_) #[true, true, true, true, true, true, true, false, false, false, false, false, false, false] rfl rfl (any_of HT_.out (by kernel_rfl)) (fun _ _ _ h => h) (Or.inl ⟨by rfl, ?_⟩) ?_ ?_
                      rotate_left
                      · intro w'
                        go_simp
                        with_reducible rfl
                      rotate_left
                      · simp only [Act.put, List.setIfInBounds_toArray, List.set_cons_zero, List.set_cons_succ, i64_w, i32_w]
                        rfl
                      refine pure_ (i := 7) (N := some 36) (v := ?_) (a' := ?_) #[true, true, true, true, true, true, true, true, false, false, false, false, false, false] rfl rfl (any_of HT_.out (by kernel_rfl)) (fun _ _ _ h => h) (Or.inl ⟨by rfl, ?_⟩) ?_ ?_
                      rotate_left
                      · intro w'
                        go_simp
                        with_reducible rfl
                      rotate_left
                      · simp only [Act.put, List.setIfInBounds_toArray, List.set_cons_zero, List.set_cons_succ, i64_w, i32_w]
                        rfl
                      refine pure_ (i := 8) (N := some 37) (v := ?_) (a' := ?_) #[true, true, true, true, true, true, true, true, true, false, false, false, false, false] rfl rfl (any_of HT_.out (by kernel_rfl)) (fun _ _ _ h => h) (Or.inl ⟨by rfl, ?_⟩) ?_ ?_
                      rotate_left
                      · intro w'
                        go_simp
                        with_reducible rfl
                      rotate_left
                      · simp only [Act.put, List.setIfInBounds_toArray, List.set_cons_zero, List.set_cons_succ, i64_w, i32_w]
                        rfl
                      refine pure_ (i := 9) (N := some 38) (v := ?_) (a' := ?_) #[true, true, true, true, true, true, true, true, true, true, false, false, false, false] rfl rfl (any_of HT_.out (by kernel_rfl)) (fun _ _ _ h => h) (Or.inl ⟨by rfl, ?_⟩) ?_ ?_
                      rotate_left
                      · intro w'
                        go_simp
                        with_reducible rfl
                      rotate_left
                      · simp only [Act.put, List.setIfInBounds_toArray, List.set_cons_zero, List.set_cons_succ, i64_w, i32_w]
                        rfl
                      refine one_ (i := 10) (N := some 8) #[true, true, true, true, true, true, true, true, true, true, true, false, false, false] rfl rfl (one_of HT_.out (by kernel_rfl)) (by decide) (fun K hK => ?_)
                      refine box_step ?hg (N := 8) ?hd (cs := #[.int .i64 0, .slice none 0 0]) (t := 24) ?hr ?_; (case hd => rfl); (case hg => rfl); (case hr => first | (go_simp; done) | (go_simp; rfl))
                      intro gb299 hg w17 hbox hb
                      have n0_ := Aside0.mk (Kd.V_below (Kd.V_elderB (by (with_reducible repeat (first | apply Kd.V_alloc | apply Kd.V_drewN | apply Kd.V_drew)); exact HO_290001.out) gb299 (Nat.le_of_eq hg.symm)) hb)
                      have n1_ := Aside0.mk (Kd.V_below (Kd.V_elderB (by (with_reducible repeat (first | apply Kd.V_alloc | apply Kd.V_drewN | apply Kd.V_drew)); exact HO296.out) gb299 (Nat.le_of_eq hg.symm)) hb)
                      have n2_ := Aside0.mk (blk_below (g := gb289) (o := .cells #[.int .i64 x290000_1, .slice Ao14 x290001_1.length co14] 24 (0, 0)) (by (with_reducible repeat (first | refine blk_drewN ?_ _ | refine blk_drew ?_ | refine blk_alloc ?_ _)); exact BK289.out) hb)
                      have n3_ := Aside0.mk (below_step (by repeat (first | (with_reducible first | exact HB.out | apply below_alloc | apply pw_below_drewN | apply below_drew1 | refine below_set ?_ GE289.out) | exact HB.out)) hb)
                      have n4_ := Aside0.mk (hbox)
                      have n5_ := Aside0.mk ((by rw [hg]; exact (below_size (by repeat (first | (with_reducible first | exact HB.out | apply below_alloc | apply pw_below_drewN | apply below_drew1 | refine below_set ?_ GE289.out) | exact HB.out))) : w.heap.size ≤ gb299))
                      have n6_ := Aside0.mk ((by rw [hg]; exact (below_size (by repeat (first | (with_reducible first | exact HB.out | apply below_alloc | apply pw_below_drewN | apply below_drew1 | refine below_set ?_ GE289.out) | exact HB.out))) : w.heap.size ≤ gb299))
                      have n7_ := Aside0.mk ((by rw [hg]; exact Nat.ne_of_lt (blk_lt (g := gb289) (o := .cells #[.int .i64 x290000_1, .slice Ao14 x290001_1.length co14] 24 (0, 0)) (by (with_reducible repeat (first | refine blk_drewN ?_ _ | refine blk_drew ?_ | refine blk_alloc ?_ _)); exact BK289.out)) : gb289 ≠ gb299))
                      have n8_ := Aside0.mk ((by rw [hg]; exact Nat.ne_of_gt (blk_lt (g := gb289) (o := .cells #[.int .i64 x290000_1, .slice Ao14 x290001_1.length co14] 24 (0, 0)) (by (with_reducible repeat (first | refine blk_drewN ?_ _ | refine blk_drew ?_ | refine blk_alloc ?_ _)); exact BK289.out)) : gb299 ≠ gb289))
                      clear HO_290001
                      clear HO296
                      clear BK289
                      clear HB
                      have HO_290001 := n0_
                      have HO296 := n1_
                      have BK289 := n2_
                      have HB := n3_
                      have BK299 := n4_
                      have GW299 := n5_
                      have GE299 := n6_
                      have NB289_299 := n7_
                      have NB299_289 := n8_
                      clear n0_ n1_ n2_ n3_ n4_ n5_ n6_ n7_ n8_
                      clear hb hbox hg
                      refine hK.out _ _ ⟨(blk_cell BK289.out 0).trans rfl, (blk_cell BK289.out 1).trans rfl, ((HB.out.cell (World.block_lt_of_cell? w _ hw292_0)).trans hw292_0)⟩ (fun hHeld => ?_)
                      clear hK K
                      refine norm_ (a' := ?_) ?_ ?_
                      rotate_left
                      · show Act.put _ (some 8) _ = _
                        simp only [Act.put, List.setIfInBounds_toArray, List.set_cons_zero, List.set_cons_succ, i64_w, i32_w]
                        rfl
                      exact norm_ (by simp only [putAll, Act.put, List.setIfInBounds_toArray, List.set_cons_zero, List.set_cons_succ]) (hCont (v295, gb299) _ ⟨hHeld, (by (with_reducible repeat (first | apply Kd.V_alloc | apply Kd.V_drewN | apply Kd.V_drew)); exact HO296.out), (by (with_reducible repeat (first | apply Kd.V_alloc | apply Kd.V_drewN | apply Kd.V_drew)); exact HO_290001.out), (by (with_reducible repeat (first | refine blk_drewN ?_ _ | refine blk_drew ?_ | refine blk_alloc ?_ _)); exact BK289.out), (by (with_reducible repeat (first | refine blk_drewN ?_ _ | refine blk_drew ?_ | refine blk_alloc ?_ _)); exact BK299.out), GW299.out, GE299.out, NB289_299.out, NB299_289.out, (by repeat (first | (with_reducible first | exact HB.out | apply below_alloc | apply pw_below_drewN | apply below_drew1 | refine below_set ?_ GE289.out | refine below_set ?_ GE299.out) | exact HB.out))⟩)
                    · skip
                      refine box_step ?hg (N := 8) ?hd (cs := #[.int .i64 0, .slice none 0 0]) (t := 24) ?hr ?_; (case hd => rfl); (case hg => rfl); (case hr => first | (go_simp; done) | (go_simp; rfl))
                      intro gb299 hg w16 hbox hb
                      have n0_ := Aside0.mk (Kd.V_below (Kd.V_elderB (by (with_reducible repeat (first | apply Kd.V_alloc | apply Kd.V_drewN | apply Kd.V_drew)); exact HO_290001.out) gb299 (Nat.le_of_eq hg.symm)) hb)
                      have n1_ := Aside0.mk (blk_below (g := gb289) (o := .cells #[.int .i64 x290000_1, .slice Ao14 x290001_1.length co14] 24 (0, 0)) (by (with_reducible repeat (first | refine blk_drewN ?_ _ | refine blk_drew ?_ | refine blk_alloc ?_ _)); exact BK289.out) hb)
                      have n2_ := Aside0.mk (below_step (by repeat (first | (with_reducible first | exact HB.out | apply below_alloc | apply pw_below_drewN | apply below_drew1 | refine below_set ?_ GE289.out) | exact HB.out)) hb)
                      have n3_ := Aside0.mk (hbox)
                      have n4_ := Aside0.mk ((by rw [hg]; exact (below_size (by repeat (first | (with_reducible first | exact HB.out | apply below_alloc | apply pw_below_drewN | apply below_drew1 | refine below_set ?_ GE289.out) | exact HB.out))) : w.heap.size ≤ gb299))
                      have n5_ := Aside0.mk ((by rw [hg]; exact (below_size (by repeat (first | (with_reducible first | exact HB.out | apply below_alloc | apply pw_below_drewN | apply below_drew1 | refine below_set ?_ GE289.out) | exact HB.out))) : w.heap.size ≤ gb299))
                      have n6_ := Aside0.mk ((by rw [hg]; exact Nat.ne_of_lt (blk_lt (g := gb289) (o := .cells #[.int .i64 x290000_1, .slice Ao14 x290001_1.length co14] 24 (0, 0)) (by (with_reducible repeat (first | refine blk_drewN ?_ _ | refine blk_drew ?_ | refine blk_alloc ?_ _)); exact BK289.out)) : gb289 ≠ gb299))
                      have n7_ := Aside0.mk ((by rw [hg]; exact Nat.ne_of_gt (blk_lt (g := gb289) (o := .cells #[.int .i64 x290000_1, .slice Ao14 x290001_1.length co14] 24 (0, 0)) (by (with_reducible repeat (first | refine blk_drewN ?_ _ | refine blk_drew ?_ | refine blk_alloc ?_ _)); exact BK289.out)) : gb299 ≠ gb289))
                      clear HO_290001
                      clear BK289
                      clear HB
                      have HO_290001 := n0_
                      have BK289 := n1_
                      have HB := n2_
                      have BK299 := n3_
                      have GW299 := n4_
                      have GE299 := n5_
                      have NB289_299 := n6_
                      have NB299_289 := n7_
                      clear n0_ n1_ n2_ n3_ n4_ n5_ n6_ n7_
                      clear hb hbox hg
                      refine hK.out _ _ ⟨(blk_cell BK289.out 0).trans rfl, (blk_cell BK289.out 1).trans rfl, ((HB.out.cell (World.block_lt_of_cell? w _ hw292_0)).trans hw292_0)⟩ (fun hHeld => ?_)
                      clear hK K
                      refine norm_ (a' := ?_) ?_ ?_
                      rotate_left
                      · show Act.put _ (some 8) _ = _
                        simp only [Act.put, List.setIfInBounds_toArray, List.set_cons_zero, List.set_cons_succ, i64_w, i32_w]
                        rfl
                      refine one_ (i := 5) (N := some 35) #[true, true, true, true, true, true, false, false, false, false, true, false, false, false] rfl rfl (one_of HT_.out (by kernel_rfl)) (by decide) (fun K hK => ?_)
                      refine goes_ Try.func10 (by kernel_rfl) rfl #[.agg #[.int .i64 x290000_1, .slice Ao14 x290001_1.length co14], .string (rdOf ByteArray.empty l0 x19_1)] (by rfl) rfl rfl (by (try simp only [List.map_toArray, List.map_cons, List.map_nil]); first | done | rfl | (simp only [List.length_drop, List.length_take]; rfl)) ?_
                      with_reducible refine (link_Push.calls k1 x290000_1 (fun k_ => (k_ ≠ gb289 ∧ k_ ≠ gb299)) _ _ x290001_1 (rdOf ByteArray.empty l0 x19_1) t293 t294 t297 t298 _ ?side1 A11.out).mono ?_
                      (case side1 => exact HO_290001.out)
                      rintro e w17 ⟨v295, rfl, ho0, hb⟩
                      refine ⟨_, rfl, ?_⟩
                      have n0_ := Aside0.mk (Kd.V_below (by (with_reducible repeat (first | apply Kd.V_alloc | apply Kd.V_drewN | apply Kd.V_drew)); exact HO_290001.out) hb)
                      have n1_ := Aside0.mk (Kd.V_lower (Kd.V_mono (ok' := fun k_ => k_ ≠ gb289 ∧ k_ ≠ gb299) ho0 (fun k_ hk_ => ⟨Or.elim hk_ (fun hs_ => hs_.1) (fun hn_ => (Kd.freshB (g := gb289) (o := .cells #[.int .i64 x290000_1, .slice Ao14 x290001_1.length co14] 24 (0, 0)) (by (with_reducible repeat (first | refine blk_drewN ?_ _ | refine blk_drew ?_ | refine blk_alloc ?_ _)); exact BK289.out) k_ hn_)), Or.elim hk_ (fun hs_ => hs_.2) (fun hn_ => (Kd.freshB (g := gb299) (o := .cells #[.int .i64 0, .slice none 0 0] 24 (0, 0)) (by (with_reducible repeat (first | refine blk_drewN ?_ _ | refine blk_drew ?_ | refine blk_alloc ?_ _)); exact BK299.out) k_ hn_))⟩)) (below_size (by repeat (first | (with_reducible first | exact HB.out | apply below_alloc | apply pw_below_drewN | apply below_drew1 | refine below_set ?_ GE289.out | refine below_set ?_ GE299.out) | exact HB.out))))
                      have n2_ := Aside0.mk (blk_below (g := gb289) (o := .cells #[.int .i64 x290000_1, .slice Ao14 x290001_1.length co14] 24 (0, 0)) (by (with_reducible repeat (first | refine blk_drewN ?_ _ | refine blk_drew ?_ | refine blk_alloc ?_ _)); exact BK289.out) hb)
                      have n3_ := Aside0.mk (blk_below (g := gb299) (o := .cells #[.int .i64 0, .slice none 0 0] 24 (0, 0)) (by (with_reducible repeat (first | refine blk_drewN ?_ _ | refine blk_drew ?_ | refine blk_alloc ?_ _)); exact BK299.out) hb)
                      have n4_ := Aside0.mk (below_step (by repeat (first | (with_reducible first | exact HB.out | apply below_alloc | apply pw_below_drewN | apply below_drew1 | refine below_set ?_ GE289.out | refine below_set ?_ GE299.out) | exact HB.out)) hb)
                      clear HO_290001
                      clear BK289
                      clear BK299
                      clear HB
                      have HO_290001 := n0_
                      have HO296 := n1_
                      have BK289 := n2_
                      have BK299 := n3_
                      have HB := n4_
                      clear n0_ n1_ n2_ n3_ n4_
                      (try clear hb)
                      (try clear hb2)
                      (try clear hk)
                      (try clear hi)
                      (try clear ho0)
                      refine hK.out _ _ ⟨(blk_cell BK289.out 0).trans rfl, (blk_cell BK289.out 1).trans rfl, ((HB.out.cell (World.block_lt_of_cell? w _ hw292_0)).trans hw292_0)⟩ (fun hHeld => ?_)
                      clear hK K
                      refine norm_ (a' := ?_) ?_ ?_
                      rotate_left
                      · show Act.put _ (some 35) _ = _
                        simp only [Act.put, List.setIfInBounds_toArray, List.set_cons_zero, List.set_cons_succ, i64_w, i32_w]
                        rfl
                      refine pure_ (i := 6) (N := some 29) (v := ?_) (a' := ?_) #[true, true, true, true, true, true, true, false, false, false, true, false, false, false] rfl rfl (any_of HT_.out (by kernel_rfl)) (fun _ _ _ h => h) (Or.inl ⟨by rfl, ?_⟩) ?_ ?_
                      rotate_left
                      · intro w'
                        go_simp
                        with_reducible rfl
                      rotate_left
                      · simp only [Act.put, List.setIfInBounds_toArray, List.set_cons_zero, List.set_cons_succ, i64_w, i32_w]
                        rfl
                      refine pure_ (i := 7) (N := some 36) (v := ?_) (a' := ?_) #[true, true, true, true, true, true, true, true, false, false, true, false, false, false] rfl rfl (any_of HT_.out (by kernel_rfl)) (fun _ _ _ h => h) (Or.inl ⟨by rfl, ?_⟩) ?_ ?_
                      rotate_left
                      · intro w'
                        go_simp
                        with_reducible rfl
                      rotate_left
                      · simp only [Act.put, List.setIfInBounds_toArray, List.set_cons_zero, List.set_cons_succ, i64_w, i32_w]
                        rfl
                      refine pure_ (i := 8) (N := some 37) (v := ?_) (a' := ?_) #[true, true, true, true, true, true, true, true, true, false, true, false, false, false] rfl rfl (any_of HT_.out (by kernel_rfl)) (fun _ _ _ h => h) (Or.inl ⟨by rfl, ?_⟩) ?_ ?_
                      rotate_left
                      · intro w'
                        go_simp
                        with_reducible rfl
                      rotate_left
                      · simp only [Act.put, List.setIfInBounds_toArray, List.set_cons_zero, List.set_cons_succ, i64_w, i32_w]
                        rfl
                      refine pure_ (i := 9) (N := some 38) (v := ?_) (a' := ?_) #[true, true, true, true, true, true, true, true, true, true, true, false, false, false] rfl rfl (any_of HT_.out (by kernel_rfl)) (fun _ _ _ h => h) (Or.inl ⟨by rfl, ?_⟩) ?_ ?_
                      rotate_left
                      · intro w'
                        go_simp
                        with_reducible rfl
                      rotate_left
                      · simp only [Act.put, List.setIfInBounds_toArray, List.set_cons_zero, List.set_cons_succ, i64_w, i32_w]
                        rfl
                      exact norm_ (by simp only [putAll, Act.put, List.setIfInBounds_toArray, List.set_cons_zero, List.set_cons_succ]) (hCont (v295, gb299) _ ⟨hHeld, (by (with_reducible repeat (first | apply Kd.V_alloc | apply Kd.V_drewN | apply Kd.V_drew)); exact HO296.out), (by (with_reducible repeat (first | apply Kd.V_alloc | apply Kd.V_drewN | apply Kd.V_drew)); exact HO_290001.out), (by (with_reducible repeat (first | refine blk_drewN ?_ _ | refine blk_drew ?_ | refine blk_alloc ?_ _)); exact BK289.out), (by (with_reducible repeat (first | refine blk_drewN ?_ _ | refine blk_drew ?_ | refine blk_alloc ?_ _)); exact BK299.out), GW299.out, GE299.out, NB289_299.out, NB299_289.out, (by repeat (first | (with_reducible first | exact HB.out | apply below_alloc | apply pw_below_drewN | apply below_drew1 | refine below_set ?_ GE289.out | refine below_set ?_ GE299.out) | exact HB.out))⟩)
                  rintro ⟨v295, gb299⟩ w18 ⟨hS_, h0_, h1_, h2_, h3_, h4_, h5_, h6_, h7_, h8_⟩
                  have n0_ : Aside0 (Kd.V k45 45 w18 w.heap.size (fun k_ => k_ ≠ gb289 ∧ k_ ≠ gb299) v295 t294) := ⟨h0_⟩
                  have n1_ : Aside0 (Kd.V k45 45 w18 w.heap.size (fun k_ => k_ ≠ gb289 ∧ k_ ≠ gb299) (.slice Ao14 x290001_1.length co14) x290001_1) := ⟨h1_⟩
                  have n2_ : Aside0 (w18.heap[gb289]? = some (.cells #[.int .i64 x290000_1, .slice Ao14 x290001_1.length co14] 24 (0, 0))) := ⟨h2_⟩
                  have n3_ : Aside0 (w18.heap[gb299]? = some (.cells #[.int .i64 0, .slice none 0 0] 24 (0, 0))) := ⟨h3_⟩
                  have n4_ : Aside0 (w.heap.size ≤ gb299) := ⟨h4_⟩
                  have n5_ : Aside0 (w.heap.size ≤ gb299) := ⟨h5_⟩
                  have n6_ : Aside0 (gb289 ≠ gb299) := ⟨h6_⟩
                  have n7_ : Aside0 (gb299 ≠ gb289) := ⟨h7_⟩
                  have n8_ : Aside0 (Below w.heap.size w w18) := ⟨h8_⟩
                  clear HO_290001
                  clear BK289
                  clear HB
                  clear h0_ h1_ h2_ h3_ h4_ h5_ h6_ h7_ h8_
                  have HO296 := n0_
                  have HO_290001 := n1_
                  have BK289 := n2_
                  have BK299 := n3_
                  have GW299 := n4_
                  have GE299 := n5_
                  have NB289_299 := n6_
                  have NB299_289 := n7_
                  have HB := n8_
                  clear n0_ n1_ n2_ n3_ n4_ n5_ n6_ n7_ n8_
                  have hHeld : w18.cell? ⟨gb289, 0, none⟩ = some (.int .i64 x290000_1) ∧ w18.cell? ⟨gb289, 1, none⟩ = some (.slice Ao14 x290001_1.length co14) ∧ w18.cell? (ad290.add (x19_1).toNat) = some (.string (rdOf ByteArray.empty l0 x19_1)) := hS_
                  obtain ⟨Ao20, co20, eo20⟩ := Kd.V_slice HO296.out
                  (first | subst eo20 | (injection eo20 with f1_ f2_ f3_; have f4_ := f1_.symm; have f5_ := f3_.symm; clear f1_ f2_ f3_; subst f4_; subst f5_))
                  refine norm_ (a' := ?_) ?_ ?_
                  rotate_left
                  · simp only [putAll, Act.put, List.setIfInBounds_toArray, List.set_cons_zero, List.set_cons_succ]
                    rfl
                  refine one_ (i := 11) (N := none) #[true, true, true, true, true, true, true, true, true, true, true, true, false, false] rfl rfl (one_of HT_.out (by kernel_rfl)) (by decide) (fun K hK => ?_)
                  have hs19 : w18.cell? ⟨gb299, 0, none⟩ = some (.int .i64 0) := (blk_cell BK299.out 0).trans rfl
                  have hfs19 := blk_frozen BK299.out 0
                  have hns19_0 := NB289_299.out
                  have hms19_0 := NB299_289.out
                  have hs21 : w18.cell? ⟨gb299, 1, none⟩ = some (.slice none 0 0) := (blk_cell BK299.out 1).trans rfl
                  have hfs21 := blk_frozen BK299.out 1
                  have hns21_0 := NB289_299.out
                  have hms21_0 := NB299_289.out
                  refine skip_ (w1 := ?_) (by rfl) rfl ?_ ?_
                  rotate_left
                  · go_simp
                    rfl
                  refine hK.out _ _ ⟨((cell_far (p := ⟨gb299, _, none⟩) NB289_299.out _).trans (((cell_far (p := ⟨gb299, _, none⟩) NB289_299.out _).trans (hHeld.1)))), ((cell_far (p := ⟨gb299, _, none⟩) NB289_299.out _).trans (((cell_far (p := ⟨gb299, _, none⟩) NB289_299.out _).trans (hHeld.2.1)))), ((cell_far (p := ⟨gb299, _, none⟩) (by first | exact Nat.ne_of_lt (Nat.lt_of_lt_of_le (by have := World.block_lt_of_cell? _ _ hw292_0; first | rwa [add_block] at this | exact this) GW299.out) | (rw [add_block]; exact Nat.ne_of_lt (Nat.lt_of_lt_of_le (by have := World.block_lt_of_cell? _ _ hw292_0; first | rwa [add_block] at this | exact this) GW299.out)) | (show (Addr.add _ _).block ≠ _; rw [add_block]; exact Nat.ne_of_lt (Nat.lt_of_lt_of_le (by have := World.block_lt_of_cell? _ _ hw292_0; first | rwa [add_block] at this | exact this) GW299.out)) | (dsimp only; exact Nat.ne_of_lt (Nat.lt_of_lt_of_le (by have := World.block_lt_of_cell? _ _ hw292_0; first | rwa [add_block] at this | exact this) GW299.out))) _).trans (((cell_far (p := ⟨gb299, _, none⟩) (by first | exact Nat.ne_of_lt (Nat.lt_of_lt_of_le (by have := World.block_lt_of_cell? _ _ hw292_0; first | rwa [add_block] at this | exact this) GW299.out) | (rw [add_block]; exact Nat.ne_of_lt (Nat.lt_of_lt_of_le (by have := World.block_lt_of_cell? _ _ hw292_0; first | rwa [add_block] at this | exact this) GW299.out)) | (show (Addr.add _ _).block ≠ _; rw [add_block]; exact Nat.ne_of_lt (Nat.lt_of_lt_of_le (by have := World.block_lt_of_cell? _ _ hw292_0; first | rwa [add_block] at this | exact this) GW299.out)) | (dsimp only; exact Nat.ne_of_lt (Nat.lt_of_lt_of_le (by have := World.block_lt_of_cell? _ _ hw292_0; first | rwa [add_block] at this | exact this) GW299.out))) _).trans (hHeld.2.2))))⟩ (fun hHeld => ?_)
                  clear hK K
                  refine pure_ (i := 12) (N := some 9) (v := ?_) (a' := ?_) #[true, true, true, true, true, true, true, true, true, true, true, true, true, false] rfl rfl (any_of HT_.out (by kernel_rfl)) (fun _ _ _ h => h) (Or.inl ⟨by rfl, ?_⟩) ?_ ?_
                  rotate_left
                  · intro w'
                    go_simp
                    with_reducible rfl
                  rotate_left
                  · simp only [Act.put, List.setIfInBounds_toArray, List.set_cons_zero, List.set_cons_succ, i64_w, i32_w]
                    rfl
                  refine pure_ (i := 13) (N := some 10) (v := ?_) (a' := ?_) #[true, true, true, true, true, true, true, true, true, true, true, true, true, true] rfl rfl (any_of HT_.out (by kernel_rfl)) (fun _ _ _ h => h) (Or.inl ⟨by rfl, ?_⟩) ?_ ?_
                  rotate_left
                  · intro w'
                    go_simp
                    with_reducible rfl
                  rotate_left
                  · simp only [Act.put, List.setIfInBounds_toArray, List.set_cons_zero, List.set_cons_succ, i64_w, i32_w]
                    rfl
                  refine done_ (done_of HT_.out (by kernel_rfl)) ?_
                  have hnb22 := NB299_289.out
                  have hnc22 := NB289_299.out
                  have hcz23_0 : w18.cell? ⟨gb299, 0, none⟩ = some (.int .i64 0) := (blk_cell BK299.out 0).trans rfl
                  have hcz23_1 : w18.cell? ⟨gb299, 1, none⟩ = some (.slice none 0 0) := (blk_cell BK299.out 1).trans rfl
                  have hfz23_0 := blk_frozen BK299.out 0
                  have hfz23_1 := blk_frozen BK299.out 1
                  have hcz24_0 : w18.cell? ⟨gb289, 0, none⟩ = some (.int .i64 x290000_1) := (blk_cell BK289.out 0).trans rfl
                  have hcz24_1 : w18.cell? ⟨gb289, 1, none⟩ = some (.slice Ao14 x290001_1.length co14) := (blk_cell BK289.out 1).trans rfl
                  have hfz24_0 := blk_frozen BK289.out 0
                  have hfz24_1 := blk_frozen BK289.out 1
                  try go_wp2
                  go_roundg k1
                  case measure => have := HK1.out; omega
                  case rel => exact ⟨(wrap64 (x19_1 + 1)), (t293), (t294), (.slice Ao20 t294.length co20), (by first | rfl | (simp; done) | (simp [*]; done)), H', ⟨by have := HK1.out; omega⟩, ⟨by (with_reducible repeat (first | apply Kd.V_alloc | apply Kd.V_drewN | apply Kd.V_drew)); exact Kd.V_mono (Kd.V_far (p := ⟨gb289, 1, none⟩) (Kd.V_far (p := ⟨gb289, 0, none⟩) (Kd.V_far (p := ⟨gb299, 1, none⟩) (Kd.V_far (p := ⟨gb299, 0, none⟩) (Kd.V_mono (Kd.V_mono HO296.out (fun k_ hk => (⟨hk, hk.2⟩ : _ ∧ k_ ≠ gb299))) (fun k_ hk => (⟨hk, hk.1.1⟩ : _ ∧ k_ ≠ gb289))) (fun _ hk => hk.1.2) (.int .i64 t293)) (fun _ hk => hk.1.2) (.slice Ao20 t294.length co20)) (fun _ hk => hk.2) (.int .i64 t293)) (fun _ hk => hk.2) (.slice Ao20 t294.length co20)) (fun _ hk => hk.1.1.1)⟩, ⟨by (with_reducible repeat (first | refine blk_drewN ?_ _ | refine blk_drew ?_ | refine blk_alloc ?_ _)); refine blk_put (cs := #[.int .i64 t293, .slice Ao14 x290001_1.length co14]) ?_ 1 _ rfl; (with_reducible repeat (first | refine blk_drewN ?_ _ | refine blk_drew ?_ | refine blk_alloc ?_ _)); refine blk_put (cs := #[.int .i64 x290000_1, .slice Ao14 x290001_1.length co14]) ?_ 0 _ rfl; (with_reducible repeat (first | refine blk_drewN ?_ _ | refine blk_drew ?_ | refine blk_alloc ?_ _)); refine blk_far ?_ NB289_299.out _; (with_reducible repeat (first | refine blk_drewN ?_ _ | refine blk_drew ?_ | refine blk_alloc ?_ _)); refine blk_far ?_ NB289_299.out _; (with_reducible repeat (first | refine blk_drewN ?_ _ | refine blk_drew ?_ | refine blk_alloc ?_ _)); exact BK289.out⟩, ⟨by repeat (first | (with_reducible first | exact HB.out | apply below_alloc | apply pw_below_drewN | apply below_drew1 | refine below_set ?_ GE289.out | refine below_set ?_ GE299.out) | exact HB.out)⟩⟩
                · rw [if_neg c13] at H
                  have c13b0 : (t297 == x19_1) = false := beq_eq_false_iff_ne.mpr c13
                  have c13b1 : (t297 != x19_1) = true := bne_iff_ne.mpr c13
                  exact absurd H (by simp)
              · rw [if_neg c12] at H
                have c12b0 : (t298 == 0) = false := beq_eq_false_iff_ne.mpr c12
                have c12b1 : (t298 != 0) = true := bne_iff_ne.mpr c12
                exact absurd H (by simp)
          · rw [if_neg c7] at H
            exact absurd H (by simp)
        · rw [if_neg c6] at H
          exact absurd H (by simp)
      · rw [if_neg c5] at H
        have c5b0 : decide (x19_1 < ji3) = false := decide_eq_false c5
        clear c5
        by_cases c25 : ji3 = 0
        · rw [if_pos c25] at H
          have c25b0 : (ji3 == 0) = true := beq_iff_eq.mpr c25
          have c25b1 : (ji3 != 0) = false := bne_eq_false_iff_eq.mpr c25
          clear c25
          replace H := Option.bind_eq_some_iff.mp H
          obtain ⟨⟨t300, t301⟩, A260, H⟩ := H
          replace H : (if (t301.length : Int) = 0 then ((switchboardlaw10_awake.f k1).bind fun t304 => (some t304)) else (some false)) = some true := H
          have A26 := Aside0.mk A260
          clear A260
          by_cases c27 : (t301.length : Int) = 0
          · rw [if_pos c27] at H
            have c27b0 : ((t301.length : Int) == 0) = true := beq_iff_eq.mpr c27
            have c27b1 : ((t301.length : Int) != 0) = false := bne_eq_false_iff_eq.mpr c27
            clear c27
            replace H := Option.bind_eq_some_iff.mp H
            obtain ⟨t304, A280, H⟩ := H
            replace H : (some t304) = some true := H
            have A28 := Aside0.mk A280
            clear A280
            have hr_ := Aside0.mk (Option.some.inj H)
            have hcz29_0 : wr.cell? ⟨gb289, 0, none⟩ = some (.int .i64 x290000_1) := (blk_cell BK289.out 0).trans rfl
            have hcz29_1 : wr.cell? ⟨gb289, 1, none⟩ = some (u290001) := (blk_cell BK289.out 1).trans rfl
            have hfz29_0 := blk_frozen BK289.out 0
            have hfz29_1 := blk_frozen BK289.out 1
            obtain ⟨Ao30, co30, eo30⟩ := Kd.V_slice HO_290001.out
            subst eo30
            go_wp2_with (first | ((with_reducible refine gate_callee (f := 11) rfl ?_); refine goesL_ (some 51) rfl rfl Try.func11 (by kernel_rfl) rfl #[.agg #[.int .i64 x290000_1, .slice Ao30 x290001_1.length co30], .int .i64 0] rfl (by (try simp only [List.map_toArray, List.map_cons, List.map_nil]); first | done | rfl | (simp only [List.length_drop, List.length_take]; rfl)) ?_; (with_reducible refine (link_Told.calls x290000_1 _ _ x290001_1 0 t300 t301 _ ?side1 ?side2 A26.out).mono ?_); (case side1 => repeat (first | exact (Kd.V_reads' HO_290001.out).2.2 | (with_reducible refine Kd.C_alloc ?_ _) | (with_reducible refine Kd.C_drewN ?_ _) | (with_reducible refine Kd.C_drew ?_))); (case side2 => exact (Kd.V_reads' HO_290001.out).2.1); rintro e w31 ⟨v302, rfl, ho0, hb⟩; refine ⟨_, rfl, ?_⟩; have n0_ := Aside0.mk (Kd.V_elder' (by (with_reducible repeat (first | apply Kd.V_alloc | apply Kd.V_drewN | apply Kd.V_drew)); exact HO_290001.out) (Kd.R_base ho0) hb); have n1_ := Aside0.mk (Kd.R_lower ho0 (below_size (by repeat (first | (with_reducible first | exact HB.out | apply below_alloc | apply pw_below_drewN | apply below_drew1 | refine below_set ?_ GE289.out) | exact HB.out)))); have n2_ := Aside0.mk (blk_below (g := gb289) (o := .cells #[.int .i64 x290000_1, .slice Ao30 x290001_1.length co30] 24 (0, 0)) (by (with_reducible repeat (first | refine blk_drewN ?_ _ | refine blk_drew ?_ | refine blk_alloc ?_ _)); exact BK289.out) hb); have n3_ := Aside0.mk (below_step (by repeat (first | (with_reducible first | exact HB.out | apply below_alloc | apply pw_below_drewN | apply below_drew1 | refine below_set ?_ GE289.out) | exact HB.out)) hb); clear HO_290001; clear BK289; clear HB; have HO_290001 := n0_; have HO303 := n1_; have BK289 := n2_; have HB := n3_; clear n0_ n1_ n2_ n3_; (try clear hb); (try clear hb2); (try clear hk); (try clear hi); (try clear ho0); obtain ⟨Ao32, co32, eo32⟩ := Kd.R_slice HO303.out; subst eo32) | (go_at_call 9; (with_reducible refine (switchboardlaw10_awake.calls k1  t304 _ A28.out).mono ?_); rintro e w33 ⟨rfl, hb⟩; have n0_ := Aside0.mk (Kd.V_below (by (with_reducible repeat (first | apply Kd.V_alloc | apply Kd.V_drewN | apply Kd.V_drew)); exact HO_290001.out) hb); have n1_ := Aside0.mk (Kd.R_below (by (with_reducible repeat (first | apply Kd.R_alloc | apply Kd.R_drewN | apply Kd.R_drew)); exact HO303.out) hb); have n2_ := Aside0.mk (blk_below (g := gb289) (o := .cells #[.int .i64 x290000_1, .slice Ao30 x290001_1.length co30] 24 (0, 0)) (by (with_reducible repeat (first | refine blk_drewN ?_ _ | refine blk_drew ?_ | refine blk_alloc ?_ _)); exact BK289.out) hb); have n3_ := Aside0.mk (below_step (by repeat (first | (with_reducible first | exact HB.out | apply below_alloc | apply pw_below_drewN | apply below_drew1 | refine below_set ?_ GE289.out) | exact HB.out)) hb); clear HO_290001; clear HO303; clear BK289; clear HB; have HO_290001 := n0_; have HO303 := n1_; have BK289 := n2_; have HB := n3_; clear n0_ n1_ n2_ n3_; (try clear hb); (try clear hb2); (try clear hk); (try clear hi)))
            go_ret
            exact ⟨by first | rfl | exact congrArg (fun b_ => Ending.returned (Value.bool b_)) hr_.out | exact congrArg (fun b_ => Ending.returned (Value.bool b_)) hr_.out | (simp [errW_none, errW_some] <;> rfl) | (simp only [← hji3]; first | rfl | (simp [errW_none, errW_some] <;> rfl)) | (simp [*, errW_none, errW_some] <;> rfl), by repeat (first | (with_reducible first | exact HB.out | apply below_alloc | apply pw_below_drewN | apply below_drew1 | refine below_set ?_ GE289.out) | exact HB.out)⟩
          · rw [if_neg c27] at H
            have c27b0 : ((t301.length : Int) == 0) = false := beq_eq_false_iff_ne.mpr c27
            have c27b1 : ((t301.length : Int) != 0) = true := bne_iff_ne.mpr c27
            have c27b2 : ¬ (t301 = []) := fun h_ => c27 (by rw [h_]; rfl)
            exact absurd H (by simp)
        · rw [if_neg c25] at H
          have c25b0 : (ji3 == 0) = false := beq_eq_false_iff_ne.mpr c25
          have c25b1 : (ji3 != 0) = true := bne_iff_ne.mpr c25
          replace H := Option.bind_eq_some_iff.mp H
          obtain ⟨⟨t305, t306⟩, A340, H⟩ := H
          replace H : (if (t306.length : Int) = (wrap64 (ji3 - 1)) then (switchboardlaw10_LinkTexts.l1 k1 l0 (Int.tmod (wrap64 (a1)) ji3) t306 (t306.length : Int) 0) else (some false)) = some true := H
          have A34 := Aside0.mk A340
          clear A340
          by_cases c35 : (t306.length : Int) = (wrap64 (ji3 - 1))
          · rw [if_pos c35] at H
            have c35b0 : ((t306.length : Int) == (wrap64 (ji3 - 1))) = true := beq_iff_eq.mpr c35
            have c35b1 : ((t306.length : Int) != (wrap64 (ji3 - 1))) = false := bne_eq_false_iff_eq.mpr c35
            have c35z : ((t306.length : Int) != ji3 - 1) = false := by have h_ := c35b1; rw [show wrap64 (ji3 - 1) = ji3 - 1 by unfold wrap64; omega] at h_; exact h_
            clear c35
            have H' := Aside0.mk H
            clear H
            have hcz36_0 : wr.cell? ⟨gb289, 0, none⟩ = some (.int .i64 x290000_1) := (blk_cell BK289.out 0).trans rfl
            have hcz36_1 : wr.cell? ⟨gb289, 1, none⟩ = some (u290001) := (blk_cell BK289.out 1).trans rfl
            have hfz36_0 := blk_frozen BK289.out 0
            have hfz36_1 := blk_frozen BK289.out 1
            obtain ⟨Ao37, co37, eo37⟩ := Kd.V_slice HO_290001.out
            subst eo37
            go_wp2_with (first | ((with_reducible refine gate_callee (f := 11) rfl ?_); refine goesL_ (some 64) rfl rfl Try.func11 (by kernel_rfl) rfl #[.agg #[.int .i64 x290000_1, .slice Ao37 x290001_1.length co37], .int .i64 (Int.tmod (wrap64 (a1)) ji3)] rfl (by (try simp only [List.map_toArray, List.map_cons, List.map_nil]); first | done | (simp only [hji3]; rfl) | rfl | (simp only [List.length_drop, List.length_take]; rfl)) ?_; (with_reducible refine (link_Told.calls x290000_1 _ _ x290001_1 (Int.tmod (wrap64 (a1)) ji3) t305 t306 _ ?side1 ?side2 A34.out).mono ?_); (case side1 => repeat (first | exact (Kd.V_reads' HO_290001.out).2.2 | (with_reducible refine Kd.C_alloc ?_ _) | (with_reducible refine Kd.C_drewN ?_ _) | (with_reducible refine Kd.C_drew ?_))); (case side2 => exact (Kd.V_reads' HO_290001.out).2.1); rintro e w38 ⟨v307, rfl, ho0, hb⟩; refine ⟨_, rfl, ?_⟩; have n0_ := Aside0.mk (Kd.V_elder' (by (with_reducible repeat (first | apply Kd.V_alloc | apply Kd.V_drewN | apply Kd.V_drew)); exact HO_290001.out) (Kd.R_base ho0) hb); have n1_ := Aside0.mk (Kd.R_lower ho0 (below_size (by repeat (first | (with_reducible first | exact HB.out | apply below_alloc | apply pw_below_drewN | apply below_drew1 | refine below_set ?_ GE289.out) | exact HB.out)))); have n2_ := Aside0.mk (blk_below (g := gb289) (o := .cells #[.int .i64 x290000_1, .slice Ao37 x290001_1.length co37] 24 (0, 0)) (by (with_reducible repeat (first | refine blk_drewN ?_ _ | refine blk_drew ?_ | refine blk_alloc ?_ _)); exact BK289.out) hb); have n3_ := Aside0.mk (below_step (by repeat (first | (with_reducible first | exact HB.out | apply below_alloc | apply pw_below_drewN | apply below_drew1 | refine below_set ?_ GE289.out) | exact HB.out)) hb); clear HO_290001; clear BK289; clear HB; have HO_290001 := n0_; have HO308 := n1_; have BK289 := n2_; have HB := n3_; clear n0_ n1_ n2_ n3_; (try clear hb); (try clear hb2); (try clear hk); (try clear hi); (try clear ho0); have hcz39_0 : w38.cell? ⟨gb289, 0, none⟩ = some (.int .i64 x290000_1) := (blk_cell BK289.out 0).trans rfl; have hcz39_1 : w38.cell? ⟨gb289, 1, none⟩ = some (.slice Ao37 x290001_1.length co37) := (blk_cell BK289.out 1).trans rfl; have hfz39_0 := blk_frozen BK289.out 0; have hfz39_1 := blk_frozen BK289.out 1; obtain ⟨Ao40, co40, eo40⟩ := Kd.R_slice HO308.out; subst eo40))
            go_loopg [74] k1 (fun kq v74 w' => ∃ (x74_2 : Int), v74 = .int .i64 x74_2 ∧ Aside0 (switchboardlaw10_LinkTexts.l1 kq l0 (Int.tmod (wrap64 (a1)) ji3) t306 (t306.length : Int) x74_2 = some true) ∧ Aside0 (kq ≤ k1) ∧ Aside0 (Kd.R k45 45 w' w.heap.size (fun _ => True) (.slice Ao40 t306.length co40) t306) ∧ Aside0 (Kd.V k45 45 w' w.heap.size (fun k_ => k_ ≠ gb289) (.slice Ao40 t306.length co40) t306) ∧ Aside0 (w'.heap[gb289]? = some (.cells #[.int .i64 t305, (.slice Ao40 t306.length co40)] 24 (0, 0))) ∧ Aside0 (Below w.heap.size w w'))
            case atStart => exact ⟨(0), (by first | rfl | (simp; done) | (simp [*]; done)), H', ⟨Nat.le_refl _⟩, ⟨by (with_reducible repeat (first | apply Kd.R_alloc | apply Kd.R_drewN | apply Kd.R_drew)); exact Kd.R_mono (Kd.R_far (p := ⟨gb289, 1, none⟩) (Kd.R_far (p := ⟨gb289, 0, none⟩) (Kd.R_types HO308.out BK289.out (by decide)) (fun _ hk => hk.2) (.int .i64 t305)) (fun _ hk => hk.2) (.slice Ao40 t306.length co40)) (fun _ hk => trivial)⟩, ⟨Kd.R_V (by (with_reducible repeat (first | apply Kd.R_alloc | apply Kd.R_drewN | apply Kd.R_drew)); exact Kd.R_mono (Kd.R_far (p := ⟨gb289, 1, none⟩) (Kd.R_far (p := ⟨gb289, 0, none⟩) (Kd.R_types (Kd.R_types HO308.out BK289.out (by decide)) BK289.out (by decide)) (fun _ hk => hk.2) (.int .i64 t305)) (fun _ hk => hk.2) (.slice Ao40 t306.length co40)) (fun _ hk => hk.1.2))⟩, ⟨by (with_reducible repeat (first | refine blk_drewN ?_ _ | refine blk_drew ?_ | refine blk_alloc ?_ _)); refine blk_put (cs := #[.int .i64 t305, .slice Ao37 x290001_1.length co37]) ?_ 1 _ rfl; (with_reducible repeat (first | refine blk_drewN ?_ _ | refine blk_drew ?_ | refine blk_alloc ?_ _)); refine blk_put (cs := #[.int .i64 x290000_1, .slice Ao37 x290001_1.length co37]) ?_ 0 _ rfl; (with_reducible repeat (first | refine blk_drewN ?_ _ | refine blk_drew ?_ | refine blk_alloc ?_ _)); exact BK289.out⟩, ⟨by repeat (first | (with_reducible first | exact HB.out | apply below_alloc | apply pw_below_drewN | apply below_drew1 | refine below_set ?_ GE289.out) | exact HB.out)⟩⟩
            case round =>
              clear H'
              try clear c1
              try clear c2
              try clear p2
              try clear q2
              try clear hx2
              try clear c3
              try clear c5
              try clear c5b0
              try clear c6
              try clear c6b0
              try clear p6
              try clear c7
              try clear c7b0
              try clear c8
              try clear c8b0
              try clear c8b1
              try clear c9
              try clear c10
              try clear c11
              try clear c12
              try clear c12b0
              try clear c12b1
              try clear c13
              try clear c13b0
              try clear c13b1
              try clear c22
              try clear c25
              try clear c25b0
              try clear c25b1
              try clear c27
              try clear c27b0
              try clear c27b1
              try clear c27b2
              try clear p29
              try clear q29
              try clear hx29
              try clear c35
              try clear c35b0
              try clear c35b1
              try clear hcz23_0
              try clear hcz23_1
              try clear hcz24_0
              try clear hcz24_1
              try clear hcz29_0
              try clear hcz29_1
              try clear hcz36_0
              try clear hcz36_1
              try clear hcz39_0
              try clear hcz39_1
              try clear hfz23_0
              try clear hfz23_1
              try clear hfz24_0
              try clear hfz24_1
              try clear hfz29_0
              try clear hfz29_1
              try clear hfz36_0
              try clear hfz36_1
              try clear hfz39_0
              try clear hfz39_1
              try clear hx290_0
              try clear hx292_0
              try clear p2
              try clear p290
              try clear p292
              try clear q290
              try clear q292
              obtain ⟨x74_2, rfl, HA, HK2, HO_72, HO_290001, BK289, HB⟩ := hrel
              cases gk with
              | zero => exact absurd HA.out (by simp [switchboardlaw10_LinkTexts.l1])
              | succ k2 =>
                have H := HA.out
                clear HA
                simp only [switchboardlaw10_LinkTexts.l1] at H
                by_cases c41 : x74_2 < (t306.length : Int)
                · rw [if_pos c41] at H
                  have c41b0 : decide (x74_2 < (t306.length : Int)) = true := decide_eq_true c41
                  clear c41
                  by_cases c42 : 0 ≤ x74_2
                  · rw [if_pos c42] at H
                    have c42b0 : decide (0 ≤ x74_2) = true := decide_eq_true c42
                    clear c42
                    by_cases c43 : x74_2 < (t306.length : Int)
                    · rw [if_pos c43] at H
                      have c43b0 : decide (x74_2 < (t306.length : Int)) = true := decide_eq_true c43
                      clear c43
                      by_cases c44 : x74_2 ≥ (Int.tmod (wrap64 (a1)) ji3)
                      · rw [if_pos c44] at H
                        have c44b0 : decide ((Int.tmod (wrap64 (a1)) ji3) ≤ x74_2) = true := decide_eq_true c44
                        clear c44
                        by_cases c45 : ((rd_T45 t306 x74_2).f0) = (wrap64 (x74_2 + 1))
                        · rw [if_pos c45] at H
                          have c45b0 : (((rd_T45 t306 x74_2).f0) == (wrap64 (x74_2 + 1))) = true := beq_iff_eq.mpr c45
                          have c45b1 : (((rd_T45 t306 x74_2).f0) != (wrap64 (x74_2 + 1))) = false := bne_eq_false_iff_eq.mpr c45
                          clear c45
                          obtain ⟨ji46, hji46⟩ : ∃ j_ : Int, (wrap64 (x74_2 + 1)) = j_ := ⟨_, rfl⟩
                          replace H : (if 0 ≤ (ji46) then (if (ji46) < (l0.length : Int) then (if ((rd_T45 t306 x74_2).f1).toList = (rdOf ByteArray.empty l0 (ji46)).toList then (switchboardlaw10_LinkTexts.l1 k2 l0 (Int.tmod (wrap64 (a1)) ji3) t306 (t306.length : Int) ji46) else (some false)) else (none)) else (none)) = some true := by first | (rw [hji46] at H; exact H) | (simp only [hji46] at H ⊢; exact H)
                          (try rw [hji46] at c45b0)
                          (try rw [hji46] at c45b1)
                          have hji46w : (IntKind.i64.wrap (x74_2 + 1)) = ji46 := (i64_w _).trans hji46
                          by_cases c47 : 0 ≤ (ji46)
                          · rw [if_pos c47] at H
                            have c47b0 : decide (0 ≤ (ji46)) = true := decide_eq_true c47
                            clear c47
                            by_cases c48 : (ji46) < (l0.length : Int)
                            · rw [if_pos c48] at H
                              have c48b0 : decide ((ji46) < (l0.length : Int)) = true := decide_eq_true c48
                              clear c48
                              by_cases c49 : ((rd_T45 t306 x74_2).f1).toList = (rdOf ByteArray.empty l0 (ji46)).toList
                              · rw [if_pos c49] at H
                                have c49b0 : (((rd_T45 t306 x74_2).f1).toList == (rdOf ByteArray.empty l0 (ji46)).toList) = true := beq_iff_eq.mpr c49
                                have c49b1 : (((rd_T45 t306 x74_2).f1).toList != (rdOf ByteArray.empty l0 (ji46)).toList) = false := bne_eq_false_iff_eq.mpr c49
                                clear c49
                                have H' := Aside0.mk H
                                clear H
                                have p310 : 0 ≤ (x74_2 : Int) := of_decide_eq_true (by first | (with_reducible assumption) | assumption)
                                have q310 : x74_2 < (t306.length : Int) := of_decide_eq_true (by first | (with_reducible assumption) | assumption)
                                obtain ⟨ad310, e310, hx310_0, hx310_1⟩ := at_T45 (Kd.R_reads' HO_72.out).2.2 x74_2 p310 q310
                                cases e310
                                replace p310 := eq_true p310
                                replace q310 := eq_true q310
                                try go_wp2_with (first | ((with_reducible refine gate_dst (N := 13) rfl ?_); refine box_event ?hg (N := 13) ?hd (cs := #[.int .i64 0, .string (⟨#[]⟩ : ByteArray)]) (t := 45) ?hr ?_; (case hd => rfl); (case hg => rfl); (case hr => first | (go_simp; done) | (go_simp; rfl)); intro gb311 hg w50 hbox hb; have n0_ := Aside0.mk (Kd.R_below (Kd.R_elderB (by (with_reducible repeat (first | apply Kd.R_alloc | apply Kd.R_drewN | apply Kd.R_drew)); exact HO_72.out) gb311 (Nat.le_of_eq hg.symm)) hb); have n1_ := Aside0.mk (Kd.V_below (Kd.V_elderB (by (with_reducible repeat (first | apply Kd.V_alloc | apply Kd.V_drewN | apply Kd.V_drew)); exact HO_290001.out) gb311 (Nat.le_of_eq hg.symm)) hb); have n2_ := Aside0.mk (blk_below (g := gb289) (o := .cells #[.int .i64 t305, .slice (some ad310) t306.length co40] 24 (0, 0)) (by (with_reducible repeat (first | refine blk_drewN ?_ _ | refine blk_drew ?_ | refine blk_alloc ?_ _)); exact BK289.out) hb); have n3_ := Aside0.mk (below_step (by repeat (first | (with_reducible first | exact HB.out | apply below_alloc | apply pw_below_drewN | apply below_drew1 | refine below_set ?_ GE289.out) | exact HB.out)) hb); have n4_ := Aside0.mk (hbox); have n5_ := Aside0.mk ((by rw [hg]; exact (below_size (by repeat (first | (with_reducible first | exact HB.out | apply below_alloc | apply pw_below_drewN | apply below_drew1 | refine below_set ?_ GE289.out) | exact HB.out))) : w.heap.size ≤ gb311)); have n6_ := Aside0.mk ((by rw [hg]; exact (below_size (by repeat (first | (with_reducible first | exact HB.out | apply below_alloc | apply pw_below_drewN | apply below_drew1 | refine below_set ?_ GE289.out) | exact HB.out))) : w.heap.size ≤ gb311)); have n7_ := Aside0.mk ((by rw [hg]; exact Nat.ne_of_lt (blk_lt (g := gb289) (o := .cells #[.int .i64 t305, .slice (some ad310) t306.length co40] 24 (0, 0)) (by (with_reducible repeat (first | refine blk_drewN ?_ _ | refine blk_drew ?_ | refine blk_alloc ?_ _)); exact BK289.out)) : gb289 ≠ gb311)); have n8_ := Aside0.mk ((by rw [hg]; exact Nat.ne_of_gt (blk_lt (g := gb289) (o := .cells #[.int .i64 t305, .slice (some ad310) t306.length co40] 24 (0, 0)) (by (with_reducible repeat (first | refine blk_drewN ?_ _ | refine blk_drew ?_ | refine blk_alloc ?_ _)); exact BK289.out)) : gb311 ≠ gb289)); clear HO_72; clear HO_290001; clear BK289; clear HB; have HO_72 := n0_; have HO_290001 := n1_; have BK289 := n2_; have HB := n3_; have BK311 := n4_; have GW311 := n5_; have GE311 := n6_; have NB289_311 := n7_; have NB311_289 := n8_; clear n0_ n1_ n2_ n3_ n4_ n5_ n6_ n7_ n8_; clear hb hbox hg; have hnb51 := NB311_289.out; have hnc51 := NB289_311.out; have hcz52_0 : w50.cell? ⟨gb311, 0, none⟩ = some (.int .i64 0) := (blk_cell BK311.out 0).trans rfl; have hcz52_1 : w50.cell? ⟨gb311, 1, none⟩ = some (.string (⟨#[]⟩ : ByteArray)) := (blk_cell BK311.out 1).trans rfl; have hfz52_0 := blk_frozen BK311.out 0; have hfz52_1 := blk_frozen BK311.out 1))
                                have n0_ : Aside0 (Kd.R k45 45 ((w50.setCell ⟨gb311, 0, none⟩ (.int .i64 ((rd_T45 t306 x74_2).f0))).setCell ⟨gb311, 1, none⟩ (.string ((rd_T45 t306 x74_2).f1))) w.heap.size (fun k_ => k_ ≠ gb311) (.slice (some ad310) t306.length co40) t306) := ⟨by (with_reducible repeat (first | apply Kd.R_alloc | apply Kd.R_drewN | apply Kd.R_drew)); exact Kd.R_mono (Kd.R_far (p := ⟨gb311, 1, none⟩) (Kd.R_far (p := ⟨gb311, 0, none⟩) (Kd.R_mono HO_72.out (fun k_ hk => (⟨hk, hk.2⟩ : _ ∧ k_ ≠ gb311))) (fun _ hk => hk.2) (.int .i64 ((rd_T45 t306 x74_2).f0))) (fun _ hk => hk.2) (.string ((rd_T45 t306 x74_2).f1))) (fun _ hk => hk.1.2)⟩
                                have n1_ : Aside0 (Kd.V k45 45 ((w50.setCell ⟨gb311, 0, none⟩ (.int .i64 ((rd_T45 t306 x74_2).f0))).setCell ⟨gb311, 1, none⟩ (.string ((rd_T45 t306 x74_2).f1))) w.heap.size (fun k_ => k_ ≠ gb289 ∧ k_ ≠ gb311) (.slice (some ad310) t306.length co40) t306) := ⟨by (with_reducible repeat (first | apply Kd.V_alloc | apply Kd.V_drewN | apply Kd.V_drew)); exact Kd.V_mono (Kd.V_far (p := ⟨gb311, 1, none⟩) (Kd.V_far (p := ⟨gb311, 0, none⟩) (Kd.V_mono HO_290001.out (fun k_ hk => (⟨hk, hk.2⟩ : _ ∧ k_ ≠ gb311))) (fun _ hk => hk.2) (.int .i64 ((rd_T45 t306 x74_2).f0))) (fun _ hk => hk.2) (.string ((rd_T45 t306 x74_2).f1))) (fun _ hk => ⟨hk.1.1, hk.1.2⟩)⟩
                                have n2_ : Aside0 (((w50.setCell ⟨gb311, 0, none⟩ (.int .i64 ((rd_T45 t306 x74_2).f0))).setCell ⟨gb311, 1, none⟩ (.string ((rd_T45 t306 x74_2).f1))).heap[gb289]? = some (.cells #[.int .i64 t305, .slice (some ad310) t306.length co40] 24 (0, 0))) := ⟨by (with_reducible repeat (first | refine blk_drewN ?_ _ | refine blk_drew ?_ | refine blk_alloc ?_ _)); refine blk_far ?_ NB289_311.out _; (with_reducible repeat (first | refine blk_drewN ?_ _ | refine blk_drew ?_ | refine blk_alloc ?_ _)); refine blk_far ?_ NB289_311.out _; (with_reducible repeat (first | refine blk_drewN ?_ _ | refine blk_drew ?_ | refine blk_alloc ?_ _)); exact BK289.out⟩
                                have n3_ : Aside0 (((w50.setCell ⟨gb311, 0, none⟩ (.int .i64 ((rd_T45 t306 x74_2).f0))).setCell ⟨gb311, 1, none⟩ (.string ((rd_T45 t306 x74_2).f1))).heap[gb311]? = some (.cells #[.int .i64 ((rd_T45 t306 x74_2).f0), .string ((rd_T45 t306 x74_2).f1)] 45 (0, 0))) := ⟨by (with_reducible repeat (first | refine blk_drewN ?_ _ | refine blk_drew ?_ | refine blk_alloc ?_ _)); refine blk_put (cs := #[.int .i64 ((rd_T45 t306 x74_2).f0), .string (⟨#[]⟩ : ByteArray)]) ?_ 1 _ rfl; (with_reducible repeat (first | refine blk_drewN ?_ _ | refine blk_drew ?_ | refine blk_alloc ?_ _)); refine blk_put (cs := #[.int .i64 0, .string (⟨#[]⟩ : ByteArray)]) ?_ 0 _ rfl; (with_reducible repeat (first | refine blk_drewN ?_ _ | refine blk_drew ?_ | refine blk_alloc ?_ _)); exact BK311.out⟩
                                have n4_ : Aside0 (Below w.heap.size w ((w50.setCell ⟨gb311, 0, none⟩ (.int .i64 ((rd_T45 t306 x74_2).f0))).setCell ⟨gb311, 1, none⟩ (.string ((rd_T45 t306 x74_2).f1)))) := ⟨by repeat (first | (with_reducible first | exact HB.out | apply below_alloc | apply pw_below_drewN | apply below_drew1 | refine below_set ?_ GE289.out | refine below_set ?_ GE311.out) | exact HB.out)⟩
                                (try clear HO_72)
                                (try clear HO_290001)
                                (try clear BK289)
                                (try clear BK311)
                                (try clear HB)
                                generalize ((w50.setCell ⟨gb311, 0, none⟩ (.int .i64 ((rd_T45 t306 x74_2).f0))).setCell ⟨gb311, 1, none⟩ (.string ((rd_T45 t306 x74_2).f1))) = w53 at n0_ n1_ n2_ n3_ n4_ ⊢
                                have HO_72 := n0_
                                have HO_290001 := n1_
                                have BK289 := n2_
                                have BK311 := n3_
                                have HB := n4_
                                clear n0_ n1_ n2_ n3_ n4_
                                have n0_ := Aside0.mk (Kd.R_drew HO_72.out)
                                have n1_ := Aside0.mk (Kd.V_drew HO_290001.out)
                                have n2_ := Aside0.mk (blk_drew BK289.out)
                                have n3_ := Aside0.mk (blk_drew BK311.out)
                                have n4_ := Aside0.mk (below_drew1 HB.out)
                                clear HO_72
                                clear HO_290001
                                clear BK289
                                clear BK311
                                clear HB
                                have HO_72 := n0_
                                have HO_290001 := n1_
                                have BK289 := n2_
                                have BK311 := n3_
                                have HB := n4_
                                clear n0_ n1_ n2_ n3_ n4_
                                have p312 : 0 ≤ ((ji46) : Int) := of_decide_eq_true (by first | (with_reducible assumption) | assumption)
                                have q312 : (ji46) < (l0.length : Int) := of_decide_eq_true (by first | (with_reducible assumption) | assumption)
                                obtain ⟨ad312, e312, hx312_0⟩ := Kd.at_string HR0.out (ji46) p312 q312
                                have hw312_0 := hx312_0
                                cases e312
                                replace hx312_0 := (HB.out.cell (World.block_lt_of_cell? w _ hx312_0)).trans hx312_0
                                replace p312 := eq_true p312
                                replace q312 := eq_true q312
                                refine start_ (n := 13) (S := fun w' => w'.cell? ⟨gb311, 0, none⟩ = some (.int .i64 ((rd_T45 t306 x74_2).f0)) ∧ w'.cell? ⟨gb311, 1, none⟩ = some (.string ((rd_T45 t306 x74_2).f1)) ∧ w'.cell? (ad312.add ((ji46)).toNat) = some (.string (rdOf ByteArray.empty l0 (ji46)))) (ds := []) #[false, false, false, false, false, false, false, false, false, false, false, false, false] (by kernel_rfl) rfl rfl ⟨(blk_cell BK311.out 0).trans rfl, (blk_cell BK311.out 1).trans rfl, ((HB.out.cell (World.block_lt_of_cell? w _ hw312_0)).trans hw312_0)⟩ (fun hHeld => ?_); refine with_tabW switchboardlaw10_LinkTexts.tab25 switchboardlaw10_LinkTexts.bits25 (fun HT_ HW_ => ?_)
                                generalize w53.drew = w54 at HO_72 HO_290001 BK289 BK311 HB hx312_0 hHeld ⊢
                                refine pure_ (i := 0) (N := some 85) (v := ?_) (a' := ?_) #[true, false, false, false, false, false, false, false, false, false, false, false, false] rfl rfl (any_of HT_.out (by kernel_rfl)) (fun _ _ _ h => h) (Or.inl ⟨by rfl, ?_⟩) ?_ ?_
                                rotate_left
                                · intro w'
                                  go_simp
                                  with_reducible rfl
                                rotate_left
                                · simp only [Act.put, List.setIfInBounds_toArray, List.set_cons_zero, List.set_cons_succ, i64_w, i32_w]
                                  rfl
                                refine pure_ (i := 2) (N := some 87) (v := ?_) (a' := ?_) #[true, false, true, false, false, false, false, false, false, false, false, false, false] rfl rfl (any_of HT_.out (by kernel_rfl)) (fun _ _ _ h => h) (Or.inl ⟨by rfl, ?_⟩) ?_ ?_
                                rotate_left
                                · intro w'
                                  go_simp
                                  with_reducible rfl
                                rotate_left
                                · simp only [Act.put, List.setIfInBounds_toArray, List.set_cons_zero, List.set_cons_succ, i64_w, i32_w]
                                  rfl
                                refine take_ (i := 1) (N := some 86) (v := ?_) (a' := ?_) #[true, true, true, false, false, false, false, false, false, false, false, false, false] rfl rfl (take_ofW HT_.out HW_.out (by kernel_rfl)) (fun _ _ _ h => h) (Or.inl ⟨by rfl, ?_⟩) hHeld ?_ ?_
                                rotate_left
                                · rintro w' ⟨s0, s1, s2⟩
                                  go_simp
                                  with_reducible rfl
                                rotate_left
                                · simp only [Act.put, List.setIfInBounds_toArray, List.set_cons_zero, List.set_cons_succ, i64_w, i32_w]
                                  rfl
                                refine pure_ (i := 3) (N := some 88) (v := ?_) (a' := ?_) #[true, true, true, true, false, false, false, false, false, false, false, false, false] rfl rfl (any_of HT_.out (by kernel_rfl)) (fun _ _ _ h => h) (Or.inl ⟨by rfl, ?_⟩) ?_ ?_
                                rotate_left
                                · intro w'
                                  go_simp
                                  with_reducible rfl
                                rotate_left
                                · simp only [Act.put, List.setIfInBounds_toArray, List.set_cons_zero, List.set_cons_succ, i64_w, i32_w]
                                  rfl
                                refine pure_ (i := 4) (N := some 89) (v := ?_) (a' := ?_) #[true, true, true, true, true, false, false, false, false, false, false, false, false] rfl rfl (any_of HT_.out (by kernel_rfl)) (fun _ _ _ h => h) (Or.inl ⟨by rfl, ?_⟩) ?_ ?_
                                rotate_left
                                · intro w'
                                  go_simp
                                  with_reducible rfl
                                rotate_left
                                · simp only [Act.put, List.setIfInBounds_toArray, List.set_cons_zero, List.set_cons_succ, i64_w, i32_w]
                                  rfl
                                refine pure_ (i := 5) (N := some 90) (v := ?_) (a' := ?_) #[true, true, true, true, true, true, false, false, false, false, false, false, false] rfl rfl (any_of HT_.out (by kernel_rfl)) (fun _ _ _ h => h) (Or.inl ⟨by rfl, ?_⟩) ?_ ?_
                                rotate_left
                                · intro w'
                                  go_simp
                                  with_reducible rfl
                                rotate_left
                                · simp only [Act.put, List.setIfInBounds_toArray, List.set_cons_zero, List.set_cons_succ, i64_w, i32_w]
                                  rfl
                                refine pure_ (i := 7) (N := some 92) (v := ?_) (a' := ?_) #[true, true, true, true, true, true, false, true, false, false, false, false, false] rfl rfl (any_of HT_.out (by kernel_rfl)) (fun _ _ _ h => h) (Or.inl ⟨by rfl, ?_⟩) ?_ ?_
                                rotate_left
                                · intro w'
                                  go_simp
                                  with_reducible rfl
                                rotate_left
                                · simp only [Act.put, List.setIfInBounds_toArray, List.set_cons_zero, List.set_cons_succ, i64_w, i32_w]
                                  rfl
                                refine pure_ (i := 8) (N := some 93) (v := ?_) (a' := ?_) #[true, true, true, true, true, true, false, true, true, false, false, false, false] rfl rfl (any_of HT_.out (by kernel_rfl)) (fun _ _ _ h => h) (Or.inl ⟨by rfl, ?_⟩) ?_ ?_
                                rotate_left
                                · intro w'
                                  go_simp
                                  with_reducible rfl
                                rotate_left
                                · simp only [Act.put, List.setIfInBounds_toArray, List.set_cons_zero, List.set_cons_succ, i64_w, i32_w]
                                  rfl
                                refine pure_ (i := 9) (N := some 94) (v := ?_) (a' := ?_) #[true, true, true, true, true, true, false, true, true, true, false, false, false] rfl rfl (any_of HT_.out (by kernel_rfl)) (fun _ _ _ h => h) (Or.inl ⟨by rfl, ?_⟩) ?_ ?_
                                rotate_left
                                · intro w'
                                  go_simp
                                  with_reducible rfl
                                rotate_left
                                · simp only [Act.put, List.setIfInBounds_toArray, List.set_cons_zero, List.set_cons_succ, i64_w, i32_w]
                                  rfl
                                refine take_ (i := 6) (N := some 91) (v := ?_) (a' := ?_) #[true, true, true, true, true, true, true, true, true, true, false, false, false] rfl rfl (take_ofW HT_.out HW_.out (by kernel_rfl)) (fun _ _ _ h => h) (Or.inl ⟨by rfl, ?_⟩) hHeld ?_ ?_
                                rotate_left
                                · rintro w' ⟨s0, s1, s2⟩
                                  go_simp
                                  with_reducible rfl
                                rotate_left
                                · simp only [Act.put, List.setIfInBounds_toArray, List.set_cons_zero, List.set_cons_succ, i64_w, i32_w]
                                  rfl
                                refine take_ (i := 10) (N := some 95) (v := ?_) (a' := ?_) #[true, true, true, true, true, true, true, true, true, true, true, false, false] rfl rfl (take_ofW HT_.out HW_.out (by kernel_rfl)) (fun _ _ _ h => h) (Or.inl ⟨by rfl, ?_⟩) hHeld ?_ ?_
                                rotate_left
                                · rintro w' ⟨s0, s1, s2⟩
                                  go_simp
                                  with_reducible rfl
                                rotate_left
                                · simp only [Act.put, List.setIfInBounds_toArray, List.set_cons_zero, List.set_cons_succ, i64_w, i32_w]
                                  rfl
                                refine pure_ (i := 11) (N := some 96) (v := ?_) (a' := ?_) #[true, true, true, true, true, true, true, true, true, true, true, true, false] rfl rfl (any_of HT_.out (by kernel_rfl)) (fun _ _ _ h => h) (Or.inl ⟨by rfl, ?_⟩) ?_ ?_
                                rotate_left
                                · intro w'
                                  go_simp
                                  with_reducible rfl
                                rotate_left
                                · simp only [Act.put, List.setIfInBounds_toArray, List.set_cons_zero, List.set_cons_succ, i64_w, i32_w]
                                  rfl
                                refine pure_ (i := 12) (N := some 97) (v := ?_) (a' := ?_) #[true, true, true, true, true, true, true, true, true, true, true, true, true] rfl rfl (any_of HT_.out (by kernel_rfl)) (fun _ _ _ h => h) (Or.inl ⟨by rfl, ?_⟩) ?_ ?_
                                rotate_left
                                · intro w'
                                  go_simp
                                  with_reducible rfl
                                rotate_left
                                · simp only [Act.put, List.setIfInBounds_toArray, List.set_cons_zero, List.set_cons_succ, i64_w, i32_w]
                                  rfl
                                refine done_ (done_of HT_.out (by kernel_rfl)) ?_
                                try go_wp2
                                go_roundg k2
                                case measure => have := HK1.out; have := HK2.out; omega
                                case rel => exact ⟨(ji46), (by first | rfl | (simp; done) | (simp only [← hji46] <;> (first | rfl | simp)) | (simp [*]; done)), H', ⟨by have := HK1.out; have := HK2.out; omega⟩, ⟨by (with_reducible repeat (first | apply Kd.R_alloc | apply Kd.R_drewN | apply Kd.R_drew)); exact Kd.R_mono HO_72.out (fun _ hk => trivial)⟩, ⟨by (with_reducible repeat (first | apply Kd.V_alloc | apply Kd.V_drewN | apply Kd.V_drew)); exact Kd.V_mono HO_290001.out (fun _ hk => hk.1)⟩, ⟨by (with_reducible repeat (first | refine blk_drewN ?_ _ | refine blk_drew ?_ | refine blk_alloc ?_ _)); exact BK289.out⟩, ⟨by repeat (first | (with_reducible first | exact HB.out | apply below_alloc | apply pw_below_drewN | apply below_drew1 | refine below_set ?_ GE289.out | refine below_set ?_ GE311.out) | exact HB.out)⟩⟩
                              · rw [if_neg c49] at H
                                have c49b0 : (((rd_T45 t306 x74_2).f1).toList == (rdOf ByteArray.empty l0 (ji46)).toList) = false := beq_eq_false_iff_ne.mpr c49
                                have c49b1 : (((rd_T45 t306 x74_2).f1).toList != (rdOf ByteArray.empty l0 (ji46)).toList) = true := bne_iff_ne.mpr c49
                                exact absurd H (by simp)
                            · rw [if_neg c48] at H
                              exact absurd H (by simp)
                          · rw [if_neg c47] at H
                            exact absurd H (by simp)
                        · rw [if_neg c45] at H
                          have c45b0 : (((rd_T45 t306 x74_2).f0) == (wrap64 (x74_2 + 1))) = false := beq_eq_false_iff_ne.mpr c45
                          have c45b1 : (((rd_T45 t306 x74_2).f0) != (wrap64 (x74_2 + 1))) = true := bne_iff_ne.mpr c45
                          exact absurd H (by simp)
                      · rw [if_neg c44] at H
                        have c44b0 : decide ((Int.tmod (wrap64 (a1)) ji3) ≤ x74_2) = false := decide_eq_false c44
                        clear c44
                        by_cases c55 : ((rd_T45 t306 x74_2).f0) = x74_2
                        · rw [if_pos c55] at H
                          have c55b0 : (((rd_T45 t306 x74_2).f0) == x74_2) = true := beq_iff_eq.mpr c55
                          have c55b1 : (((rd_T45 t306 x74_2).f0) != x74_2) = false := bne_eq_false_iff_eq.mpr c55
                          clear c55
                          by_cases c56 : x74_2 < (l0.length : Int)
                          · rw [if_pos c56] at H
                            have c56b0 : decide (x74_2 < (l0.length : Int)) = true := decide_eq_true c56
                            clear c56
                            by_cases c57 : ((rd_T45 t306 x74_2).f1).toList = (rdOf ByteArray.empty l0 x74_2).toList
                            · rw [if_pos c57] at H
                              have c57b0 : (((rd_T45 t306 x74_2).f1).toList == (rdOf ByteArray.empty l0 x74_2).toList) = true := beq_iff_eq.mpr c57
                              have c57b1 : (((rd_T45 t306 x74_2).f1).toList != (rdOf ByteArray.empty l0 x74_2).toList) = false := bne_eq_false_iff_eq.mpr c57
                              clear c57
                              have H' := Aside0.mk H
                              clear H
                              have p310 : 0 ≤ (x74_2 : Int) := of_decide_eq_true (by first | (with_reducible assumption) | assumption)
                              have q310 : x74_2 < (t306.length : Int) := of_decide_eq_true (by first | (with_reducible assumption) | assumption)
                              obtain ⟨ad310, e310, hx310_0, hx310_1⟩ := at_T45 (Kd.R_reads' HO_72.out).2.2 x74_2 p310 q310
                              cases e310
                              replace p310 := eq_true p310
                              replace q310 := eq_true q310
                              try go_wp2_with (first | ((with_reducible refine gate_dst (N := 13) rfl ?_); refine box_event ?hg (N := 13) ?hd (cs := #[.int .i64 0, .string (⟨#[]⟩ : ByteArray)]) (t := 45) ?hr ?_; (case hd => rfl); (case hg => rfl); (case hr => first | (go_simp; done) | (go_simp; rfl)); intro gb311 hg w58 hbox hb; have n0_ := Aside0.mk (Kd.R_below (Kd.R_elderB (by (with_reducible repeat (first | apply Kd.R_alloc | apply Kd.R_drewN | apply Kd.R_drew)); exact HO_72.out) gb311 (Nat.le_of_eq hg.symm)) hb); have n1_ := Aside0.mk (Kd.V_below (Kd.V_elderB (by (with_reducible repeat (first | apply Kd.V_alloc | apply Kd.V_drewN | apply Kd.V_drew)); exact HO_290001.out) gb311 (Nat.le_of_eq hg.symm)) hb); have n2_ := Aside0.mk (blk_below (g := gb289) (o := .cells #[.int .i64 t305, .slice (some ad310) t306.length co40] 24 (0, 0)) (by (with_reducible repeat (first | refine blk_drewN ?_ _ | refine blk_drew ?_ | refine blk_alloc ?_ _)); exact BK289.out) hb); have n3_ := Aside0.mk (below_step (by repeat (first | (with_reducible first | exact HB.out | apply below_alloc | apply pw_below_drewN | apply below_drew1 | refine below_set ?_ GE289.out) | exact HB.out)) hb); have n4_ := Aside0.mk (hbox); have n5_ := Aside0.mk ((by rw [hg]; exact (below_size (by repeat (first | (with_reducible first | exact HB.out | apply below_alloc | apply pw_below_drewN | apply below_drew1 | refine below_set ?_ GE289.out) | exact HB.out))) : w.heap.size ≤ gb311)); have n6_ := Aside0.mk ((by rw [hg]; exact (below_size (by repeat (first | (with_reducible first | exact HB.out | apply below_alloc | apply pw_below_drewN | apply below_drew1 | refine below_set ?_ GE289.out) | exact HB.out))) : w.heap.size ≤ gb311)); have n7_ := Aside0.mk ((by rw [hg]; exact Nat.ne_of_lt (blk_lt (g := gb289) (o := .cells #[.int .i64 t305, .slice (some ad310) t306.length co40] 24 (0, 0)) (by (with_reducible repeat (first | refine blk_drewN ?_ _ | refine blk_drew ?_ | refine blk_alloc ?_ _)); exact BK289.out)) : gb289 ≠ gb311)); have n8_ := Aside0.mk ((by rw [hg]; exact Nat.ne_of_gt (blk_lt (g := gb289) (o := .cells #[.int .i64 t305, .slice (some ad310) t306.length co40] 24 (0, 0)) (by (with_reducible repeat (first | refine blk_drewN ?_ _ | refine blk_drew ?_ | refine blk_alloc ?_ _)); exact BK289.out)) : gb311 ≠ gb289)); clear HO_72; clear HO_290001; clear BK289; clear HB; have HO_72 := n0_; have HO_290001 := n1_; have BK289 := n2_; have HB := n3_; have BK311 := n4_; have GW311 := n5_; have GE311 := n6_; have NB289_311 := n7_; have NB311_289 := n8_; clear n0_ n1_ n2_ n3_ n4_ n5_ n6_ n7_ n8_; clear hb hbox hg; have hnb59 := NB311_289.out; have hnc59 := NB289_311.out; have hcz60_0 : w58.cell? ⟨gb311, 0, none⟩ = some (.int .i64 0) := (blk_cell BK311.out 0).trans rfl; have hcz60_1 : w58.cell? ⟨gb311, 1, none⟩ = some (.string (⟨#[]⟩ : ByteArray)) := (blk_cell BK311.out 1).trans rfl; have hfz60_0 := blk_frozen BK311.out 0; have hfz60_1 := blk_frozen BK311.out 1))
                              have n0_ : Aside0 (Kd.R k45 45 ((w58.setCell ⟨gb311, 0, none⟩ (.int .i64 ((rd_T45 t306 x74_2).f0))).setCell ⟨gb311, 1, none⟩ (.string ((rd_T45 t306 x74_2).f1))) w.heap.size (fun k_ => k_ ≠ gb311) (.slice (some ad310) t306.length co40) t306) := ⟨by (with_reducible repeat (first | apply Kd.R_alloc | apply Kd.R_drewN | apply Kd.R_drew)); exact Kd.R_mono (Kd.R_far (p := ⟨gb311, 1, none⟩) (Kd.R_far (p := ⟨gb311, 0, none⟩) (Kd.R_mono HO_72.out (fun k_ hk => (⟨hk, hk.2⟩ : _ ∧ k_ ≠ gb311))) (fun _ hk => hk.2) (.int .i64 ((rd_T45 t306 x74_2).f0))) (fun _ hk => hk.2) (.string ((rd_T45 t306 x74_2).f1))) (fun _ hk => hk.1.2)⟩
                              have n1_ : Aside0 (Kd.V k45 45 ((w58.setCell ⟨gb311, 0, none⟩ (.int .i64 ((rd_T45 t306 x74_2).f0))).setCell ⟨gb311, 1, none⟩ (.string ((rd_T45 t306 x74_2).f1))) w.heap.size (fun k_ => k_ ≠ gb289 ∧ k_ ≠ gb311) (.slice (some ad310) t306.length co40) t306) := ⟨by (with_reducible repeat (first | apply Kd.V_alloc | apply Kd.V_drewN | apply Kd.V_drew)); exact Kd.V_mono (Kd.V_far (p := ⟨gb311, 1, none⟩) (Kd.V_far (p := ⟨gb311, 0, none⟩) (Kd.V_mono HO_290001.out (fun k_ hk => (⟨hk, hk.2⟩ : _ ∧ k_ ≠ gb311))) (fun _ hk => hk.2) (.int .i64 ((rd_T45 t306 x74_2).f0))) (fun _ hk => hk.2) (.string ((rd_T45 t306 x74_2).f1))) (fun _ hk => ⟨hk.1.1, hk.1.2⟩)⟩
                              have n2_ : Aside0 (((w58.setCell ⟨gb311, 0, none⟩ (.int .i64 ((rd_T45 t306 x74_2).f0))).setCell ⟨gb311, 1, none⟩ (.string ((rd_T45 t306 x74_2).f1))).heap[gb289]? = some (.cells #[.int .i64 t305, .slice (some ad310) t306.length co40] 24 (0, 0))) := ⟨by (with_reducible repeat (first | refine blk_drewN ?_ _ | refine blk_drew ?_ | refine blk_alloc ?_ _)); refine blk_far ?_ NB289_311.out _; (with_reducible repeat (first | refine blk_drewN ?_ _ | refine blk_drew ?_ | refine blk_alloc ?_ _)); refine blk_far ?_ NB289_311.out _; (with_reducible repeat (first | refine blk_drewN ?_ _ | refine blk_drew ?_ | refine blk_alloc ?_ _)); exact BK289.out⟩
                              have n3_ : Aside0 (((w58.setCell ⟨gb311, 0, none⟩ (.int .i64 ((rd_T45 t306 x74_2).f0))).setCell ⟨gb311, 1, none⟩ (.string ((rd_T45 t306 x74_2).f1))).heap[gb311]? = some (.cells #[.int .i64 ((rd_T45 t306 x74_2).f0), .string ((rd_T45 t306 x74_2).f1)] 45 (0, 0))) := ⟨by (with_reducible repeat (first | refine blk_drewN ?_ _ | refine blk_drew ?_ | refine blk_alloc ?_ _)); refine blk_put (cs := #[.int .i64 ((rd_T45 t306 x74_2).f0), .string (⟨#[]⟩ : ByteArray)]) ?_ 1 _ rfl; (with_reducible repeat (first | refine blk_drewN ?_ _ | refine blk_drew ?_ | refine blk_alloc ?_ _)); refine blk_put (cs := #[.int .i64 0, .string (⟨#[]⟩ : ByteArray)]) ?_ 0 _ rfl; (with_reducible repeat (first | refine blk_drewN ?_ _ | refine blk_drew ?_ | refine blk_alloc ?_ _)); exact BK311.out⟩
                              have n4_ : Aside0 (Below w.heap.size w ((w58.setCell ⟨gb311, 0, none⟩ (.int .i64 ((rd_T45 t306 x74_2).f0))).setCell ⟨gb311, 1, none⟩ (.string ((rd_T45 t306 x74_2).f1)))) := ⟨by repeat (first | (with_reducible first | exact HB.out | apply below_alloc | apply pw_below_drewN | apply below_drew1 | refine below_set ?_ GE289.out | refine below_set ?_ GE311.out) | exact HB.out)⟩
                              (try clear HO_72)
                              (try clear HO_290001)
                              (try clear BK289)
                              (try clear BK311)
                              (try clear HB)
                              generalize ((w58.setCell ⟨gb311, 0, none⟩ (.int .i64 ((rd_T45 t306 x74_2).f0))).setCell ⟨gb311, 1, none⟩ (.string ((rd_T45 t306 x74_2).f1))) = w61 at n0_ n1_ n2_ n3_ n4_ ⊢
                              have HO_72 := n0_
                              have HO_290001 := n1_
                              have BK289 := n2_
                              have BK311 := n3_
                              have HB := n4_
                              clear n0_ n1_ n2_ n3_ n4_
                              have n0_ := Aside0.mk (Kd.R_drew HO_72.out)
                              have n1_ := Aside0.mk (Kd.V_drew HO_290001.out)
                              have n2_ := Aside0.mk (blk_drew BK289.out)
                              have n3_ := Aside0.mk (blk_drew BK311.out)
                              have n4_ := Aside0.mk (below_drew1 HB.out)
                              clear HO_72
                              clear HO_290001
                              clear BK289
                              clear BK311
                              clear HB
                              have HO_72 := n0_
                              have HO_290001 := n1_
                              have BK289 := n2_
                              have BK311 := n3_
                              have HB := n4_
                              clear n0_ n1_ n2_ n3_ n4_
                              have p313 : 0 ≤ (x74_2 : Int) := of_decide_eq_true (by first | (with_reducible assumption) | assumption)
                              have q313 : x74_2 < (l0.length : Int) := of_decide_eq_true (by first | (with_reducible assumption) | assumption)
                              obtain ⟨ad313, e313, hx313_0⟩ := Kd.at_string HR0.out x74_2 p313 q313
                              have hw313_0 := hx313_0
                              cases e313
                              replace hx313_0 := (HB.out.cell (World.block_lt_of_cell? w _ hx313_0)).trans hx313_0
                              replace p313 := eq_true p313
                              replace q313 := eq_true q313
                              refine start_ (n := 13) (S := fun w' => w'.cell? ⟨gb311, 0, none⟩ = some (.int .i64 ((rd_T45 t306 x74_2).f0)) ∧ w'.cell? ⟨gb311, 1, none⟩ = some (.string ((rd_T45 t306 x74_2).f1)) ∧ w'.cell? (ad313.add (x74_2).toNat) = some (.string (rdOf ByteArray.empty l0 x74_2))) (ds := []) #[false, false, false, false, false, false, false, false, false, false, false, false, false] (by kernel_rfl) rfl rfl ⟨(blk_cell BK311.out 0).trans rfl, (blk_cell BK311.out 1).trans rfl, ((HB.out.cell (World.block_lt_of_cell? w _ hw313_0)).trans hw313_0)⟩ (fun hHeld => ?_); refine with_tabW switchboardlaw10_LinkTexts.tab25 switchboardlaw10_LinkTexts.bits25 (fun HT_ HW_ => ?_)
                              generalize w61.drew = w62 at HO_72 HO_290001 BK289 BK311 HB hx313_0 hHeld ⊢
                              refine pure_ (i := 0) (N := some 85) (v := ?_) (a' := ?_) #[true, false, false, false, false, false, false, false, false, false, false, false, false] rfl rfl (any_of HT_.out (by kernel_rfl)) (fun _ _ _ h => h) (Or.inl ⟨by rfl, ?_⟩) ?_ ?_
                              rotate_left
                              · intro w'
                                go_simp
                                with_reducible rfl
                              rotate_left
                              · simp only [Act.put, List.setIfInBounds_toArray, List.set_cons_zero, List.set_cons_succ, i64_w, i32_w]
                                rfl
                              refine pure_ (i := 2) (N := some 87) (v := ?_) (a' := ?_) #[true, false, true, false, false, false, false, false, false, false, false, false, false] rfl rfl (any_of HT_.out (by kernel_rfl)) (fun _ _ _ h => h) (Or.inl ⟨by rfl, ?_⟩) ?_ ?_
                              rotate_left
                              · intro w'
                                go_simp
                                with_reducible rfl
                              rotate_left
                              · simp only [Act.put, List.setIfInBounds_toArray, List.set_cons_zero, List.set_cons_succ, i64_w, i32_w]
                                rfl
                              refine take_ (i := 1) (N := some 86) (v := ?_) (a' := ?_) #[true, true, true, false, false, false, false, false, false, false, false, false, false] rfl rfl (take_ofW HT_.out HW_.out (by kernel_rfl)) (fun _ _ _ h => h) (Or.inl ⟨by rfl, ?_⟩) hHeld ?_ ?_
                              rotate_left
                              · rintro w' ⟨s0, s1, s2⟩
                                go_simp
                                with_reducible rfl
                              rotate_left
                              · simp only [Act.put, List.setIfInBounds_toArray, List.set_cons_zero, List.set_cons_succ, i64_w, i32_w]
                                rfl
                              refine pure_ (i := 3) (N := some 88) (v := ?_) (a' := ?_) #[true, true, true, true, false, false, false, false, false, false, false, false, false] rfl rfl (any_of HT_.out (by kernel_rfl)) (fun _ _ _ h => h) (Or.inl ⟨by rfl, ?_⟩) ?_ ?_
                              rotate_left
                              · intro w'
                                go_simp
                                with_reducible rfl
                              rotate_left
                              · simp only [Act.put, List.setIfInBounds_toArray, List.set_cons_zero, List.set_cons_succ, i64_w, i32_w]
                                rfl
                              refine pure_ (i := 4) (N := some 89) (v := ?_) (a' := ?_) #[true, true, true, true, true, false, false, false, false, false, false, false, false] rfl rfl (any_of HT_.out (by kernel_rfl)) (fun _ _ _ h => h) (Or.inl ⟨by rfl, ?_⟩) ?_ ?_
                              rotate_left
                              · intro w'
                                go_simp
                                with_reducible rfl
                              rotate_left
                              · simp only [Act.put, List.setIfInBounds_toArray, List.set_cons_zero, List.set_cons_succ, i64_w, i32_w]
                                rfl
                              refine pure_ (i := 5) (N := some 90) (v := ?_) (a' := ?_) #[true, true, true, true, true, true, false, false, false, false, false, false, false] rfl rfl (any_of HT_.out (by kernel_rfl)) (fun _ _ _ h => h) (Or.inl ⟨by rfl, ?_⟩) ?_ ?_
                              rotate_left
                              · intro w'
                                go_simp
                                with_reducible rfl
                              rotate_left
                              · simp only [Act.put, List.setIfInBounds_toArray, List.set_cons_zero, List.set_cons_succ, i64_w, i32_w]
                                rfl
                              refine pure_ (i := 7) (N := some 92) (v := ?_) (a' := ?_) #[true, true, true, true, true, true, false, true, false, false, false, false, false] rfl rfl (any_of HT_.out (by kernel_rfl)) (fun _ _ _ h => h) (Or.inl ⟨by rfl, ?_⟩) ?_ ?_
                              rotate_left
                              · intro w'
                                go_simp
                                with_reducible rfl
                              rotate_left
                              · simp only [Act.put, List.setIfInBounds_toArray, List.set_cons_zero, List.set_cons_succ, i64_w, i32_w]
                                rfl
                              refine pure_ (i := 8) (N := some 93) (v := ?_) (a' := ?_) #[true, true, true, true, true, true, false, true, true, false, false, false, false] rfl rfl (any_of HT_.out (by kernel_rfl)) (fun _ _ _ h => h) (Or.inl ⟨by rfl, ?_⟩) ?_ ?_
                              rotate_left
                              · intro w'
                                go_simp
                                with_reducible rfl
                              rotate_left
                              · simp only [Act.put, List.setIfInBounds_toArray, List.set_cons_zero, List.set_cons_succ, i64_w, i32_w]
                                rfl
                              refine pure_ (i := 9) (N := some 94) (v := ?_) (a' := ?_) #[true, true, true, true, true, true, false, true, true, true, false, false, false] rfl rfl (any_of HT_.out (by kernel_rfl)) (fun _ _ _ h => h) (Or.inl ⟨by rfl, ?_⟩) ?_ ?_
                              rotate_left
                              · intro w'
                                go_simp
                                with_reducible rfl
                              rotate_left
                              · simp only [Act.put, List.setIfInBounds_toArray, List.set_cons_zero, List.set_cons_succ, i64_w, i32_w]
                                rfl
                              refine take_ (i := 6) (N := some 91) (v := ?_) (a' := ?_) #[true, true, true, true, true, true, true, true, true, true, false, false, false] rfl rfl (take_ofW HT_.out HW_.out (by kernel_rfl)) (fun _ _ _ h => h) (Or.inl ⟨by rfl, ?_⟩) hHeld ?_ ?_
                              rotate_left
                              · rintro w' ⟨s0, s1, s2⟩
                                go_simp
                                with_reducible rfl
                              rotate_left
                              · simp only [Act.put, List.setIfInBounds_toArray, List.set_cons_zero, List.set_cons_succ, i64_w, i32_w]
                                rfl
                              refine take_ (i := 10) (N := some 95) (v := ?_) (a' := ?_) #[true, true, true, true, true, true, true, true, true, true, true, false, false] rfl rfl (take_ofW HT_.out HW_.out (by kernel_rfl)) (fun _ _ _ h => h) (Or.inl ⟨by rfl, ?_⟩) hHeld ?_ ?_
                              rotate_left
                              · rintro w' ⟨s0, s1, s2⟩
                                go_simp
                                with_reducible rfl
                              rotate_left
                              · simp only [Act.put, List.setIfInBounds_toArray, List.set_cons_zero, List.set_cons_succ, i64_w, i32_w]
                                rfl
                              refine pure_ (i := 11) (N := some 96) (v := ?_) (a' := ?_) #[true, true, true, true, true, true, true, true, true, true, true, true, false] rfl rfl (any_of HT_.out (by kernel_rfl)) (fun _ _ _ h => h) (Or.inl ⟨by rfl, ?_⟩) ?_ ?_
                              rotate_left
                              · intro w'
                                go_simp
                                with_reducible rfl
                              rotate_left
                              · simp only [Act.put, List.setIfInBounds_toArray, List.set_cons_zero, List.set_cons_succ, i64_w, i32_w]
                                rfl
                              refine pure_ (i := 12) (N := some 97) (v := ?_) (a' := ?_) #[true, true, true, true, true, true, true, true, true, true, true, true, true] rfl rfl (any_of HT_.out (by kernel_rfl)) (fun _ _ _ h => h) (Or.inl ⟨by rfl, ?_⟩) ?_ ?_
                              rotate_left
                              · intro w'
                                go_simp
                                with_reducible rfl
                              rotate_left
                              · simp only [Act.put, List.setIfInBounds_toArray, List.set_cons_zero, List.set_cons_succ, i64_w, i32_w]
                                rfl
                              refine done_ (done_of HT_.out (by kernel_rfl)) ?_
                              try go_wp2
                              go_roundg k2
                              case measure => have := HK1.out; have := HK2.out; omega
                              case rel => exact ⟨(wrap64 (x74_2 + 1)), (by first | rfl | (simp; done) | (simp [*]; done)), H', ⟨by have := HK1.out; have := HK2.out; omega⟩, ⟨by (with_reducible repeat (first | apply Kd.R_alloc | apply Kd.R_drewN | apply Kd.R_drew)); exact Kd.R_mono HO_72.out (fun _ hk => trivial)⟩, ⟨by (with_reducible repeat (first | apply Kd.V_alloc | apply Kd.V_drewN | apply Kd.V_drew)); exact Kd.V_mono HO_290001.out (fun _ hk => hk.1)⟩, ⟨by (with_reducible repeat (first | refine blk_drewN ?_ _ | refine blk_drew ?_ | refine blk_alloc ?_ _)); exact BK289.out⟩, ⟨by repeat (first | (with_reducible first | exact HB.out | apply below_alloc | apply pw_below_drewN | apply below_drew1 | refine below_set ?_ GE289.out | refine below_set ?_ GE311.out) | exact HB.out)⟩⟩
                            · rw [if_neg c57] at H
                              have c57b0 : (((rd_T45 t306 x74_2).f1).toList == (rdOf ByteArray.empty l0 x74_2).toList) = false := beq_eq_false_iff_ne.mpr c57
                              have c57b1 : (((rd_T45 t306 x74_2).f1).toList != (rdOf ByteArray.empty l0 x74_2).toList) = true := bne_iff_ne.mpr c57
                              exact absurd H (by simp)
                          · rw [if_neg c56] at H
                            exact absurd H (by simp)
                        · rw [if_neg c55] at H
                          have c55b0 : (((rd_T45 t306 x74_2).f0) == x74_2) = false := beq_eq_false_iff_ne.mpr c55
                          have c55b1 : (((rd_T45 t306 x74_2).f0) != x74_2) = true := bne_iff_ne.mpr c55
                          exact absurd H (by simp)
                    · rw [if_neg c43] at H
                      exact absurd H (by simp)
                  · rw [if_neg c42] at H
                    exact absurd H (by simp)
                · rw [if_neg c41] at H
                  have c41b0 : decide (x74_2 < (t306.length : Int)) = false := decide_eq_false c41
                  clear c41
                  replace H := Option.bind_eq_some_iff.mp H
                  obtain ⟨t309, A630, H⟩ := H
                  replace H : (some t309) = some true := H
                  have A63 := Aside0.mk A630
                  clear A630
                  have hr_ := Aside0.mk (Option.some.inj H)
                  go_wp2_with (first | ((with_reducible refine gate_callee (f := 9) rfl ?_); refine goesL_ (some 99) rfl rfl Try.func9 (by kernel_rfl) rfl #[] rfl (by (try simp only [List.map_toArray, List.map_cons, List.map_nil]); first | done | rfl | (simp only [List.length_drop, List.length_take]; rfl)) ?_; (with_reducible refine (switchboardlaw10_awake.calls k2  t309 _ A63.out).mono ?_); rintro e w64 ⟨rfl, hb⟩; refine ⟨_, rfl, ?_⟩; have n0_ := Aside0.mk (Kd.R_below (by (with_reducible repeat (first | apply Kd.R_alloc | apply Kd.R_drewN | apply Kd.R_drew)); exact HO_72.out) hb); have n1_ := Aside0.mk (Kd.V_below (by (with_reducible repeat (first | apply Kd.V_alloc | apply Kd.V_drewN | apply Kd.V_drew)); exact HO_290001.out) hb); have n2_ := Aside0.mk (blk_below (g := gb289) (o := .cells #[.int .i64 t305, .slice Ao40 t306.length co40] 24 (0, 0)) (by (with_reducible repeat (first | refine blk_drewN ?_ _ | refine blk_drew ?_ | refine blk_alloc ?_ _)); exact BK289.out) hb); have n3_ := Aside0.mk (below_step (by repeat (first | (with_reducible first | exact HB.out | apply below_alloc | apply pw_below_drewN | apply below_drew1 | refine below_set ?_ GE289.out) | exact HB.out)) hb); clear HO_72; clear HO_290001; clear BK289; clear HB; have HO_72 := n0_; have HO_290001 := n1_; have BK289 := n2_; have HB := n3_; clear n0_ n1_ n2_ n3_; (try clear hb); (try clear hb2); (try clear hk); (try clear hi)))
                  go_ret
                  exact ⟨by first | rfl | exact congrArg (fun b_ => Ending.returned (Value.bool b_)) hr_.out | exact congrArg (fun b_ => Ending.returned (Value.bool b_)) hr_.out | (simp [errW_none, errW_some] <;> rfl) | (simp only [← hji3]; first | rfl | (simp [errW_none, errW_some] <;> rfl)) | (simp [*, errW_none, errW_some] <;> rfl), by repeat (first | (with_reducible first | exact HB.out | apply below_alloc | apply pw_below_drewN | apply below_drew1 | refine below_set ?_ GE289.out) | exact HB.out)⟩
          · rw [if_neg c35] at H
            have c35b0 : ((t306.length : Int) == (wrap64 (ji3 - 1))) = false := beq_eq_false_iff_ne.mpr c35
            have c35b1 : ((t306.length : Int) != (wrap64 (ji3 - 1))) = true := bne_iff_ne.mpr c35
            exact absurd H (by simp)

end Go.Proofs.Ytikncbklhnaajaa.Pr
