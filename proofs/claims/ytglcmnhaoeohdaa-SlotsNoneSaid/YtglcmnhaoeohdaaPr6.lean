-- Laid by wip/xprint.py, a program of this session that runs the kit's print with some contracts given by hand; not a text of print.sh. Lean checks it.
import Derived.Test.YtglcmnhaoeohdaaPr0
import Derived.Test.YtglcmnhaoeohdaaPr1
import Derived.Test.YtglcmnhaoeohdaaPr2
namespace Go.Proofs.Ytglcmnhaoeohdaa.Pr
open Go.RowKit Go.Proofs.YtglcmnhaoeohdaaW.PrintWords Go.Proofs.YtglcmnhaoeohdaaW.PrintLast Go.Proofs.YtglcmnhaoeohdaaW.PrintMore
attribute [local go_sem] max2_int min2_int max_two min_two max_three min_three max_four min_four   -- for this text's walks alone
set_option linter.unusedVariables false
set_option linter.unusedSimpArgs false

attribute [local go_sem high] eqA25
/-! ### switchboardlaw14_SlotsNone: function 6 -/
mutual
def switchboardlaw14_SlotsNone.j0 : Nat → List (S25) → List (S25) → List (S25) → Bool → Option (Bool)
  | 0, _, _, _, _ => none
  | k + 1, x5, x6, x7, x46 => if x46 = true then (some false) else (switchboardlaw14_SlotsNone.l0 k x5 x6 x7 (x5.length : Int) 0)
def switchboardlaw14_SlotsNone.l0 : Nat → List (S25) → List (S25) → List (S25) → Int → Int → Option (Bool)
  | 0, _, _, _, _, _ => none
  | k + 1, x5, x6, x7, x48, x49 => if x49 < x48 then (if 0 ≤ x49 then (if x49 < (x5.length : Int) then (if (!(((rd_T25 x5 x49).f0) == (-1)) || (!(((rd_T25 x5 x49).f1) == (-1)))) = true then (some false) else (if x49 < (x6.length : Int) then (if (!(((rd_T25 x6 x49).f0) == (-1)) || (!(((rd_T25 x6 x49).f1) == (-1)))) = true then (some false) else (if x49 < (x7.length : Int) then (if (!(((rd_T25 x7 x49).f0) == (wrap64 (2 * x49))) || (!(((rd_T25 x7 x49).f1) == (wrap64 ((wrap64 (2 * x49)) + 1))))) = true then (some false) else (switchboardlaw14_SlotsNone.l0 k x5 x6 x7 x48 (wrap64 (x49 + 1)))) else (none))) else (none))) else (none)) else (none)) else ((switchboardlaw14_awake.f).bind fun t173 => (some t173))
end
def switchboardlaw14_SlotsNone.f (k : Nat) (l0 : List (S25)) (a1 : Int) : Option (Bool) := if (l0.length : Int) > 60 then ((switchboardlaw14_awake.f).bind fun t157 => (some t157)) else ((slots_Assign.f l0 (wrap64 (a1)) 0).bind fun t158 => ((slots_Assign.f l0 0 (wrap64 (a1))).bind fun t161 => (if 0 ≤ (l0.length : Int) then (if ((l0.length : Int) : Int).toNat ≤ 17592186044416 then ((slots_Assign.f (List.replicate ((l0.length : Int) : Int).toNat z25) 1 (wrap64 (2 * (l0.length : Int)))).bind fun t167 => (if (t158.length : Int) = (l0.length : Int) then (if (t161.length : Int) = (l0.length : Int) then (switchboardlaw14_SlotsNone.j0 k t158 t161 t167 ((t167.length : Int) != (l0.length : Int))) else (switchboardlaw14_SlotsNone.j0 k t158 t161 t167 true)) else (switchboardlaw14_SlotsNone.j0 k t158 t161 t167 true))) else (none)) else (none))))
theorem switchboardlaw14_SlotsNone.mono_l : ∀ k, (∀ y0 y1 y2 y3, LeO (switchboardlaw14_SlotsNone.j0 k y0 y1 y2 y3) (switchboardlaw14_SlotsNone.j0 (k + 1) y0 y1 y2 y3)) ∧ (∀ y0 y1 y2 y3 y4, LeO (switchboardlaw14_SlotsNone.l0 k y0 y1 y2 y3 y4) (switchboardlaw14_SlotsNone.l0 (k + 1) y0 y1 y2 y3 y4))
  | 0 => ⟨fun _ _ _ _ r h => by simp [switchboardlaw14_SlotsNone.j0] at h, fun _ _ _ _ _ r h => by simp [switchboardlaw14_SlotsNone.l0] at h⟩
  | k + 1 => by
    obtain ⟨ih0, ih1⟩ := switchboardlaw14_SlotsNone.mono_l k
    refine ⟨?_, ?_⟩
    · intro y0 y1 y2 y3
      unfold switchboardlaw14_SlotsNone.j0
      repeat' first
      | (with_reducible exact ih0 _ _ _ _)
      | (with_reducible exact ih1 _ _ _ _ _)
      | (with_reducible exact LeO.refl _)
      | (with_reducible exact LeO.none _)
      | (with_reducible refine LeO.ite ?_ ?_)
      | (with_reducible refine LeO.bind ?_ (fun _ => ?_))
      | exact ih0 _ _ _ _
      | exact ih1 _ _ _ _ _
      | exact LeO.none _
      | refine LeO.ite ?_ ?_
      | refine LeO.bind ?_ (fun _ => ?_)
    · intro y0 y1 y2 y3 y4
      unfold switchboardlaw14_SlotsNone.l0
      repeat' first
      | (with_reducible exact ih0 _ _ _ _)
      | (with_reducible exact ih1 _ _ _ _ _)
      | (with_reducible exact LeO.refl _)
      | (with_reducible exact LeO.none _)
      | (with_reducible refine LeO.ite ?_ ?_)
      | (with_reducible refine LeO.bind ?_ (fun _ => ?_))
      | exact ih0 _ _ _ _
      | exact ih1 _ _ _ _ _
      | exact LeO.none _
      | refine LeO.ite ?_ ?_
      | refine LeO.bind ?_ (fun _ => ?_)
theorem switchboardlaw14_SlotsNone.mono : ∀ a0 a1 k, LeO (switchboardlaw14_SlotsNone.f k a0 a1) (switchboardlaw14_SlotsNone.f (k + 1) a0 a1) := by
  intro a0 a1 k
  obtain ⟨ih0, ih1⟩ := switchboardlaw14_SlotsNone.mono_l k
  unfold switchboardlaw14_SlotsNone.f
  repeat' first
      | (with_reducible exact ih0 _ _ _ _)
      | (with_reducible exact ih1 _ _ _ _ _)
      | (with_reducible exact LeO.refl _)
      | (with_reducible exact LeO.none _)
      | (with_reducible refine LeO.ite ?_ ?_)
      | (with_reducible refine LeO.bind ?_ (fun _ => ?_))
      | exact ih0 _ _ _ _
      | exact ih1 _ _ _ _ _
      | exact LeO.none _
      | refine LeO.ite ?_ ?_
      | refine LeO.bind ?_ (fun _ => ?_)
set_option maxHeartbeats 8000000 in
set_option maxRecDepth 100000 in
theorem switchboardlaw14_SlotsNone.calls (k : Nat) (A0 : Option Addr) (c0 : Nat) (l0 : List (S25)) (a1 : Int) (w : World) (hr0 : Kd.C k25 w A0 l0.length l0) (hc0 : l0.length ≤ c0) (h : switchboardlaw14_SlotsNone.f k l0 a1 = some true) :
    Calls Try.prog 6 #[.slice A0 l0.length c0, .int .u8 a1] w fun e w' => e = .returned (.bool true) ∧ Below w.heap.size w w' := by
  have hu25 := Try.underlying25
  have HR0 := Aside0.mk hr0
  have HC0 := Aside0.mk hc0
  clear hr0 hc0
  have HB := Aside0.mk (Below.refl w.heap.size w)
  have H : (if (l0.length : Int) > 60 then ((switchboardlaw14_awake.f).bind fun t157 => (some t157)) else ((slots_Assign.f l0 (wrap64 (a1)) 0).bind fun t158 => ((slots_Assign.f l0 0 (wrap64 (a1))).bind fun t161 => (if 0 ≤ (l0.length : Int) then (if ((l0.length : Int) : Int).toNat ≤ 17592186044416 then ((slots_Assign.f (List.replicate ((l0.length : Int) : Int).toNat z25) 1 (wrap64 (2 * (l0.length : Int)))).bind fun t167 => (if (t158.length : Int) = (l0.length : Int) then (if (t161.length : Int) = (l0.length : Int) then (switchboardlaw14_SlotsNone.j0 k t158 t161 t167 ((t167.length : Int) != (l0.length : Int))) else (switchboardlaw14_SlotsNone.j0 k t158 t161 t167 true)) else (switchboardlaw14_SlotsNone.j0 k t158 t161 t167 true))) else (none)) else (none))))) = some true := h
  clear h
  by_cases c3 : (l0.length : Int) > 60
  · rw [if_pos c3] at H
    have c3b0 : decide (60 < (l0.length : Int)) = true := decide_eq_true c3
    have c3b1 : decide (60 < l0.length) = true := decide_eq_true (by omega)
    clear c3
    replace H := Option.bind_eq_some_iff.mp H
    obtain ⟨t157, A40, H⟩ := H
    replace H : (some t157) = some true := H
    have A4 := Aside0.mk A40
    clear A40
    have hr_ := Aside0.mk (Option.some.inj H)
    go_enter Try.func6, Try.ntmps6
    go_wp2_with (first | ((with_reducible refine gate_callee (f := 7) rfl ?_); refine goesL_ (some 12) rfl rfl Try.func7 (by kernel_rfl) rfl #[] rfl (by (try simp only [List.map_toArray, List.map_cons, List.map_nil]); first | done | rfl | (simp only [List.length_drop, List.length_take]; rfl)) ?_; (with_reducible refine (switchboardlaw14_awake.calls  t157 _ A4.out).mono ?_); rintro e w5 ⟨rfl, hb⟩; refine ⟨_, rfl, ?_⟩; have n0_ := Aside0.mk (below_step (by repeat (first | (with_reducible first | exact HB.out | apply below_alloc | apply pw_below_drewN | apply below_drew1) | exact HB.out)) hb); clear HB; have HB := n0_; clear n0_; (try clear hb); (try clear hb2); (try clear hk); (try clear hi)))
    go_ret
    exact ⟨by first | rfl | exact congrArg (fun b_ => Ending.returned (Value.bool b_)) hr_.out | exact congrArg (fun b_ => Ending.returned (Value.bool b_)) hr_.out | (simp [errW_none, errW_some] <;> rfl) | (simp [*, errW_none, errW_some] <;> rfl), by repeat (first | (with_reducible first | exact HB.out | apply below_alloc | apply pw_below_drewN | apply below_drew1) | exact HB.out)⟩
  · rw [if_neg c3] at H
    have c3b0 : decide (60 < (l0.length : Int)) = false := decide_eq_false c3
    have c3b1 : decide (60 < l0.length) = false := decide_eq_false (by omega)
    clear c3
    replace H := Option.bind_eq_some_iff.mp H
    obtain ⟨t158, A60, H⟩ := H
    replace H : ((slots_Assign.f l0 0 (wrap64 (a1))).bind fun t161 => (if 0 ≤ (l0.length : Int) then (if ((l0.length : Int) : Int).toNat ≤ 17592186044416 then ((slots_Assign.f (List.replicate ((l0.length : Int) : Int).toNat z25) 1 (wrap64 (2 * (l0.length : Int)))).bind fun t167 => (if (t158.length : Int) = (l0.length : Int) then (if (t161.length : Int) = (l0.length : Int) then (switchboardlaw14_SlotsNone.j0 k t158 t161 t167 ((t167.length : Int) != (l0.length : Int))) else (switchboardlaw14_SlotsNone.j0 k t158 t161 t167 true)) else (switchboardlaw14_SlotsNone.j0 k t158 t161 t167 true))) else (none)) else (none))) = some true := H
    have A6 := Aside0.mk A60
    clear A60
    replace H := Option.bind_eq_some_iff.mp H
    obtain ⟨t161, A70, H⟩ := H
    replace H : (if 0 ≤ (l0.length : Int) then (if ((l0.length : Int) : Int).toNat ≤ 17592186044416 then ((slots_Assign.f (List.replicate ((l0.length : Int) : Int).toNat z25) 1 (wrap64 (2 * (l0.length : Int)))).bind fun t167 => (if (t158.length : Int) = (l0.length : Int) then (if (t161.length : Int) = (l0.length : Int) then (switchboardlaw14_SlotsNone.j0 k t158 t161 t167 ((t167.length : Int) != (l0.length : Int))) else (switchboardlaw14_SlotsNone.j0 k t158 t161 t167 true)) else (switchboardlaw14_SlotsNone.j0 k t158 t161 t167 true))) else (none)) else (none)) = some true := H
    have A7 := Aside0.mk A70
    clear A70
    by_cases c8 : 0 ≤ (l0.length : Int)
    · rw [if_pos c8] at H
      have c8b0 := eq_true c8
      have c8b1 : decide (0 ≤ (l0.length : Int)) = true := decide_eq_true c8
      clear c8
      by_cases c9 : ((l0.length : Int) : Int).toNat ≤ 17592186044416
      · rw [if_pos c9] at H
        have c9b0 := eq_true c9
        have c9b1 : decide (((l0.length : Int) : Int).toNat ≤ 17592186044416) = true := decide_eq_true c9
        clear c9
        obtain ⟨y164, hy164⟩ : ∃ y_ : List (S25), y_ = (List.replicate ((l0.length : Int) : Int).toNat z25) := ⟨_, rfl⟩
        replace H : ((slots_Assign.f y164 1 (wrap64 (2 * (l0.length : Int)))).bind fun t167 => (if (t158.length : Int) = (l0.length : Int) then (if (t161.length : Int) = (l0.length : Int) then (switchboardlaw14_SlotsNone.j0 k t158 t161 t167 ((t167.length : Int) != (l0.length : Int))) else (switchboardlaw14_SlotsNone.j0 k t158 t161 t167 true)) else (switchboardlaw14_SlotsNone.j0 k t158 t161 t167 true))) = some true := by first | (rw [hy164]; with_reducible exact H) | (have H2_ := (Option.bind_some _ _).symm.trans H; rw [hy164]; with_reducible exact H2_) | (have H2_ := (Option.bind_some _ _).symm.trans H; with_reducible exact H2_) | with_reducible exact H | (rw [hy164]; exact H) | exact H
        have Ny164 := Aside0.mk hy164
        clear hy164
        replace H := Option.bind_eq_some_iff.mp H
        obtain ⟨t167, A100, H⟩ := H
        replace H : (if (t158.length : Int) = (l0.length : Int) then (if (t161.length : Int) = (l0.length : Int) then (switchboardlaw14_SlotsNone.j0 k t158 t161 t167 ((t167.length : Int) != (l0.length : Int))) else (switchboardlaw14_SlotsNone.j0 k t158 t161 t167 true)) else (switchboardlaw14_SlotsNone.j0 k t158 t161 t167 true)) = some true := H
        have A10 := Aside0.mk A100
        clear A100
        have HC11 := Aside0.mk H
        clear H
        go_enter Try.func6, Try.ntmps6
        go_upto_region 6 with (first | ((with_reducible refine gate_callee (f := 8) rfl ?_); refine goesL_ (some 16) rfl rfl Try.func8 (by kernel_rfl) rfl #[.slice A0 l0.length c0, .int .i64 (wrap64 (a1)), .int .i64 0] rfl (by (try simp only [List.map_toArray, List.map_cons, List.map_nil]); first | done | rfl | (simp only [List.length_drop, List.length_take]; rfl)) ?_; (with_reducible refine (slots_Assign.calls _ _ l0 (wrap64 (a1)) 0 t158 _ ?side1 ?side2 A6.out).mono ?_); (case side1 => repeat (first | exact HR0.out | (with_reducible refine Kd.C_alloc ?_ _) | (with_reducible refine Kd.C_drewN ?_ _) | (with_reducible refine Kd.C_drew ?_))); (case side2 => exact HC0.out); rintro e w12 ⟨v159, rfl, ho0, hb⟩; refine ⟨_, rfl, ?_⟩; have n0_ := Aside0.mk (Kd.R_lower ho0 (below_size (by repeat (first | (with_reducible first | exact HB.out | apply below_alloc | apply pw_below_drewN | apply below_drew1) | exact HB.out)))); have n1_ := Aside0.mk (below_step (by repeat (first | (with_reducible first | exact HB.out | apply below_alloc | apply pw_below_drewN | apply below_drew1) | exact HB.out)) hb); clear HB; have HO160 := n0_; have HB := n1_; clear n0_ n1_; (try clear hb); (try clear hb2); (try clear hk); (try clear hi); (try clear ho0)) | ((with_reducible refine gate_callee (f := 8) rfl ?_); refine goesL_ (some 20) rfl rfl Try.func8 (by kernel_rfl) rfl #[.slice A0 l0.length c0, .int .i64 0, .int .i64 (wrap64 (a1))] rfl (by (try simp only [List.map_toArray, List.map_cons, List.map_nil]); first | done | rfl | (simp only [List.length_drop, List.length_take]; rfl)) ?_; (with_reducible refine (slots_Assign.calls _ _ l0 0 (wrap64 (a1)) t161 _ ?side1 ?side2 A7.out).mono ?_); (case side1 => repeat (first | exact (Kd.C_below HR0.out HB.out) | (with_reducible refine Kd.C_alloc ?_ _) | (with_reducible refine Kd.C_drewN ?_ _) | (with_reducible refine Kd.C_drew ?_))); (case side2 => exact HC0.out); rintro e w13 ⟨v162, rfl, ho0, hb⟩; refine ⟨_, rfl, ?_⟩; have n0_ := Aside0.mk (Kd.R_elder' (by (with_reducible repeat (first | apply Kd.R_alloc | apply Kd.R_drewN | apply Kd.R_drew)); exact HO160.out) (Kd.R_base ho0) hb); have n1_ := Aside0.mk (Kd.R_lower (Kd.R_new' ho0 (Kd.R_lt (by (with_reducible repeat (first | apply Kd.R_alloc | apply Kd.R_drewN | apply Kd.R_drew)); exact HO160.out))) (below_size (by repeat (first | (with_reducible first | exact HB.out | apply below_alloc | apply pw_below_drewN | apply below_drew1) | exact HB.out)))); have n2_ := Aside0.mk (below_step (by repeat (first | (with_reducible first | exact HB.out | apply below_alloc | apply pw_below_drewN | apply below_drew1) | exact HB.out)) hb); clear HO160; clear HB; have HO160 := n0_; have HO163 := n1_; have HB := n2_; clear n0_ n1_ n2_; (try clear hb); (try clear hb2); (try clear hk); (try clear hi); (try clear ho0)) | ((with_reducible refine gate_dst (N := 23) rfl ?_); (try (refine gate_guard (by rfl) ?_; dsimp only)); refine Kd.R_make k25 _ 25 rfl (N := 23) rfl 22 _ _ rfl (l0.length : Int) rfl rfl Try.underlying22 (.agg #[(.int .i64 0), (.int .i64 0)]) 16 info25 rfl (by decide) (by omega) z25 (ok := fun _ => True) (okp := fun _ => True) (k25_mkM _ _ _ z25 ) (fun _ hk => hk) trivial (of_decide_eq_true (by first | (with_reducible assumption) | assumption)) (Nat.le_trans (Nat.mul_le_mul_right _ (of_decide_eq_true (by first | (with_reducible assumption) | assumption) : (l0.length : Int).toNat ≤ 17592186044416)) (by omega)) (Below.refl _ _) (Nat.le_refl _) ?_; intro v165 w14 ho15 hb hg_ hnew_; clear hg_ hnew_; (first | rw [← Ny164.out] at ho15 | (simp only [Int.reduceToNat] at ho15; rw [← Ny164.out] at ho15)); have n0_ := Aside0.mk (Kd.R_elder' (by (with_reducible repeat (first | apply Kd.R_alloc | apply Kd.R_drewN | apply Kd.R_drew)); exact HO160.out) (Kd.R_base ho15) hb); have n1_ := Aside0.mk (Kd.R_elder' (by (with_reducible repeat (first | apply Kd.R_alloc | apply Kd.R_drewN | apply Kd.R_drew)); exact HO163.out) (Kd.R_base ho15) hb); have n2_ := Aside0.mk (Kd.R_lower (Kd.R_new' (Kd.R_new' ho15 (Kd.R_lt (by (with_reducible repeat (first | apply Kd.R_alloc | apply Kd.R_drewN | apply Kd.R_drew)); exact HO160.out))) (Kd.R_lt (by (with_reducible repeat (first | apply Kd.R_alloc | apply Kd.R_drewN | apply Kd.R_drew)); exact HO163.out))) (below_size (by repeat (first | (with_reducible first | exact HB.out | apply below_alloc | apply pw_below_drewN | apply below_drew1) | exact HB.out)))); have n3_ := Aside0.mk (below_step (by repeat (first | (with_reducible first | exact HB.out | apply below_alloc | apply pw_below_drewN | apply below_drew1) | exact HB.out)) hb); clear HO160; clear HO163; clear HB; have HO160 := n0_; have HO163 := n1_; have HO166 := n2_; have HB := n3_; clear n0_ n1_ n2_ n3_; clear hb ho15; obtain ⟨Ao16, co16, eo16⟩ := Kd.R_slice HO166.out; subst eo16) | ((with_reducible refine gate_callee (f := 8) rfl ?_); refine goesL_ (some 27) rfl rfl Try.func8 (by kernel_rfl) rfl #[.slice Ao16 y164.length co16, .int .i64 1, .int .i64 (wrap64 (2 * (l0.length : Int)))] rfl (by (try simp only [List.map_toArray, List.map_cons, List.map_nil]); first | done | rfl | (simp only [List.length_drop, List.length_take]; rfl)) ?_; (with_reducible refine (slots_Assign.calls _ _ y164 1 (wrap64 (2 * (l0.length : Int))) t167 _ ?side1 ?side2 A10.out).mono ?_); (case side1 => repeat (first | exact (Kd.R_reads' HO166.out).2.2 | (with_reducible refine Kd.C_alloc ?_ _) | (with_reducible refine Kd.C_drewN ?_ _) | (with_reducible refine Kd.C_drew ?_))); (case side2 => exact (Kd.R_reads' HO166.out).2.1); rintro e w17 ⟨v168, rfl, ho0, hb⟩; refine ⟨_, rfl, ?_⟩; have n0_ := Aside0.mk (Kd.R_elder' (by (with_reducible repeat (first | apply Kd.R_alloc | apply Kd.R_drewN | apply Kd.R_drew)); exact HO160.out) (Kd.R_base ho0) hb); have n1_ := Aside0.mk (Kd.R_elder' (by (with_reducible repeat (first | apply Kd.R_alloc | apply Kd.R_drewN | apply Kd.R_drew)); exact HO163.out) (Kd.R_base ho0) hb); have n2_ := Aside0.mk (Kd.R_elder' (by (with_reducible repeat (first | apply Kd.R_alloc | apply Kd.R_drewN | apply Kd.R_drew)); exact HO166.out) (Kd.R_base ho0) hb); have n3_ := Aside0.mk (Kd.R_lower (Kd.R_new' (Kd.R_new' (Kd.R_new' ho0 (Kd.R_lt (by (with_reducible repeat (first | apply Kd.R_alloc | apply Kd.R_drewN | apply Kd.R_drew)); exact HO160.out))) (Kd.R_lt (by (with_reducible repeat (first | apply Kd.R_alloc | apply Kd.R_drewN | apply Kd.R_drew)); exact HO163.out))) (Kd.R_lt (by (with_reducible repeat (first | apply Kd.R_alloc | apply Kd.R_drewN | apply Kd.R_drew)); exact HO166.out))) (below_size (by repeat (first | (with_reducible first | exact HB.out | apply below_alloc | apply pw_below_drewN | apply below_drew1) | exact HB.out)))); have n4_ := Aside0.mk (below_step (by repeat (first | (with_reducible first | exact HB.out | apply below_alloc | apply pw_below_drewN | apply below_drew1) | exact HB.out)) hb); clear HO160; clear HO163; clear HO166; clear HB; have HO160 := n0_; have HO163 := n1_; have HO166 := n2_; have HO169 := n3_; have HB := n4_; clear n0_ n1_ n2_ n3_ n4_; (try clear hb); (try clear hb2); (try clear hk); (try clear hi); (try clear ho0)))
        (try simp only [Act.put, List.setIfInBounds_toArray, List.set_cons_zero, List.set_cons_succ])
        go_cut [46] (fun v46 wc => ∃ (kq : Nat) (x46_10 : Bool), v46 = .bool x46_10 ∧ Aside0 (switchboardlaw14_SlotsNone.j0 kq t158 t161 t167 x46_10 = some true) ∧ Aside0 (kq ≤ k) ∧ Aside0 (Kd.R k25 25 wc w.heap.size (fun k_ => some k_ ≠ (v162 : Value).ownBlock ∧ some k_ ≠ (v168 : Value).ownBlock) v159 t158) ∧ Aside0 (Kd.R k25 25 wc w.heap.size (fun k_ => some k_ ≠ (v159 : Value).ownBlock ∧ some k_ ≠ (v168 : Value).ownBlock) v162 t161) ∧ Aside0 (Kd.R k25 25 wc w.heap.size (fun k_ => some k_ ≠ (v159 : Value).ownBlock ∧ some k_ ≠ (v162 : Value).ownBlock) v168 t167) ∧ Aside0 (Below w.heap.size w wc))
        case first =>
          have H := HC11.out
          clear HC11
          by_cases c18 : (t158.length : Int) = (l0.length : Int)
          · rw [if_pos c18] at H
            have c18b0 : ((t158.length : Int) == (l0.length : Int)) = true := beq_iff_eq.mpr c18
            have c18b1 : ((t158.length : Int) != (l0.length : Int)) = false := bne_eq_false_iff_eq.mpr c18
            have c18b2 : (t158.length == l0.length) = true := by first | simpa using c18 | (simp at c18 ⊢; omega)
            clear c18
            (first | rw [c18b0] | (simp only [i64_w, i32_w]; rw [c18b0]) | skip)
            by_cases c19 : (t161.length : Int) = (l0.length : Int)
            · rw [if_pos c19] at H
              have c19b0 : ((t161.length : Int) == (l0.length : Int)) = true := beq_iff_eq.mpr c19
              have c19b1 : ((t161.length : Int) != (l0.length : Int)) = false := bne_eq_false_iff_eq.mpr c19
              have c19b2 : (t161.length == l0.length) = true := by first | simpa using c19 | (simp at c19 ⊢; omega)
              clear c19
              have H' := Aside0.mk H
              clear H
              obtain ⟨Ao20, co20, eo20⟩ := Kd.R_slice HO160.out
              subst eo20
              obtain ⟨Ao21, co21, eo21⟩ := Kd.R_slice HO163.out
              subst eo21
              obtain ⟨Ao22, co22, eo22⟩ := Kd.R_slice HO169.out
              subst eo22
              go_wp2
              go_meet
              case rel => exact ⟨_, (((t167.length : Int) != (l0.length : Int))), (by first | rfl | (simp; done) | (simp [*]; done)), H', ⟨by first | omega | exact Nat.le_refl _⟩, ⟨by (with_reducible repeat (first | apply Kd.R_alloc | apply Kd.R_drewN | apply Kd.R_drew)); exact Kd.R_mono HO160.out (fun _ hk => ⟨hk.1.1.2, hk.2⟩)⟩, ⟨by (with_reducible repeat (first | apply Kd.R_alloc | apply Kd.R_drewN | apply Kd.R_drew)); exact Kd.R_mono HO163.out (fun _ hk => ⟨hk.1.1.2, hk.2⟩)⟩, ⟨by (with_reducible repeat (first | apply Kd.R_alloc | apply Kd.R_drewN | apply Kd.R_drew)); exact Kd.R_mono HO169.out (fun _ hk => ⟨hk.1.1.2, hk.1.2⟩)⟩, ⟨by repeat (first | (with_reducible first | exact HB.out | apply below_alloc | apply pw_below_drewN | apply below_drew1) | exact HB.out)⟩⟩
            · rw [if_neg c19] at H
              have c19b0 : ((t161.length : Int) == (l0.length : Int)) = false := beq_eq_false_iff_ne.mpr c19
              have c19b1 : ((t161.length : Int) != (l0.length : Int)) = true := bne_iff_ne.mpr c19
              have c19b2 : (t161.length == l0.length) = false := by first | simpa using c19 | (simp at c19 ⊢; omega)
              have H' := Aside0.mk H
              clear H
              obtain ⟨Ao23, co23, eo23⟩ := Kd.R_slice HO160.out
              subst eo23
              obtain ⟨Ao24, co24, eo24⟩ := Kd.R_slice HO163.out
              subst eo24
              go_wp2
              go_meet
              case rel => exact ⟨_, (true), (by first | rfl | (simp; done) | (simp [*]; done)), H', ⟨by first | omega | exact Nat.le_refl _⟩, ⟨by (with_reducible repeat (first | apply Kd.R_alloc | apply Kd.R_drewN | apply Kd.R_drew)); exact Kd.R_mono HO160.out (fun _ hk => ⟨hk.1.1.2, hk.2⟩)⟩, ⟨by (with_reducible repeat (first | apply Kd.R_alloc | apply Kd.R_drewN | apply Kd.R_drew)); exact Kd.R_mono HO163.out (fun _ hk => ⟨hk.1.1.2, hk.2⟩)⟩, ⟨by (with_reducible repeat (first | apply Kd.R_alloc | apply Kd.R_drewN | apply Kd.R_drew)); exact Kd.R_mono HO169.out (fun _ hk => ⟨hk.1.1.2, hk.1.2⟩)⟩, ⟨by repeat (first | (with_reducible first | exact HB.out | apply below_alloc | apply pw_below_drewN | apply below_drew1) | exact HB.out)⟩⟩
          · rw [if_neg c18] at H
            have c18b0 : ((t158.length : Int) == (l0.length : Int)) = false := beq_eq_false_iff_ne.mpr c18
            have c18b1 : ((t158.length : Int) != (l0.length : Int)) = true := bne_iff_ne.mpr c18
            have c18b2 : (t158.length == l0.length) = false := by first | simpa using c18 | (simp at c18 ⊢; omega)
            (first | rw [c18b0] | (simp only [i64_w, i32_w]; rw [c18b0]) | skip)
            have H' := Aside0.mk H
            clear H
            obtain ⟨Ao25, co25, eo25⟩ := Kd.R_slice HO160.out
            subst eo25
            go_wp2
            go_meet
            case rel => exact ⟨_, (true), (by first | rfl | (simp; done) | (simp [*]; done)), H', ⟨by first | omega | exact Nat.le_refl _⟩, ⟨by (with_reducible repeat (first | apply Kd.R_alloc | apply Kd.R_drewN | apply Kd.R_drew)); exact Kd.R_mono HO160.out (fun _ hk => ⟨hk.1.1.2, hk.2⟩)⟩, ⟨by (with_reducible repeat (first | apply Kd.R_alloc | apply Kd.R_drewN | apply Kd.R_drew)); exact Kd.R_mono HO163.out (fun _ hk => ⟨hk.1.1.2, hk.2⟩)⟩, ⟨by (with_reducible repeat (first | apply Kd.R_alloc | apply Kd.R_drewN | apply Kd.R_drew)); exact Kd.R_mono HO169.out (fun _ hk => ⟨hk.1.1.2, hk.1.2⟩)⟩, ⟨by repeat (first | (with_reducible first | exact HB.out | apply below_alloc | apply pw_below_drewN | apply below_drew1) | exact HB.out)⟩⟩
        case rest =>
          clear HC11
          try clear c1
          try clear p2
          try clear c3
          try clear c3b0
          try clear c3b1
          try clear c6
          try clear p6
          try clear c7
          try clear c8
          try clear c8b0
          try clear c8b1
          try clear c9
          try clear c9b0
          try clear c9b1
          try clear c18
          try clear c18b0
          try clear c18b1
          try clear c18b2
          try clear c19
          try clear c19b0
          try clear c19b1
          try clear c19b2
          obtain ⟨kq, x46_10, rfl, HA, HJ10, HO_5, HO_6, HO_7, HB⟩ := hcut
          cases kq with
          | zero => exact absurd HA.out (by simp [switchboardlaw14_SlotsNone.j0])
          | succ kj10 =>
            have H := HA.out
            clear HA
            simp only [switchboardlaw14_SlotsNone.j0] at H
            by_cases c26 : x46_10 = true
            · subst c26
              have H1 : (some false) = some true := by rw [if_pos rfl] at H; exact H
              clear H
              have H := H1
              clear H1
              exact absurd H (by simp)
            · replace c26 := Bool.eq_false_iff.mpr c26
              subst c26
              have H1 : (switchboardlaw14_SlotsNone.l0 kj10 t158 t161 t167 (t158.length : Int) 0) = some true := by rw [if_neg (show ¬ (false = true) by decide)] at H; exact H
              clear H
              have H := H1
              clear H1
              have H' := Aside0.mk H
              clear H
              obtain ⟨Ao27, co27, eo27⟩ := Kd.R_slice HO_5.out
              subst eo27
              go_wp2
              go_loopg [49] kj10 (fun kq v49 w' => ∃ (x49_2 : Int), v49 = .int .i64 x49_2 ∧ Aside0 (switchboardlaw14_SlotsNone.l0 kq t158 t161 t167 (t158.length : Int) x49_2 = some true) ∧ Aside0 (kq ≤ kj10) ∧ Aside0 (Kd.R k25 25 w' w.heap.size (fun k_ => some k_ ≠ (v162 : Value).ownBlock ∧ some k_ ≠ (v168 : Value).ownBlock) (.slice Ao27 t158.length co27) t158) ∧ Aside0 (Kd.R k25 25 w' w.heap.size (fun k_ => some k_ ≠ ((.slice Ao27 t158.length co27) : Value).ownBlock ∧ some k_ ≠ (v168 : Value).ownBlock) v162 t161) ∧ Aside0 (Kd.R k25 25 w' w.heap.size (fun k_ => some k_ ≠ ((.slice Ao27 t158.length co27) : Value).ownBlock ∧ some k_ ≠ (v162 : Value).ownBlock) v168 t167) ∧ Aside0 (Below w.heap.size w w'))
              case atStart => exact ⟨(0), (by first | rfl | (simp; done) | (simp [*]; done)), H', ⟨Nat.le_refl _⟩, ⟨by (with_reducible repeat (first | apply Kd.R_alloc | apply Kd.R_drewN | apply Kd.R_drew)); exact HO_5.out⟩, ⟨by (with_reducible repeat (first | apply Kd.R_alloc | apply Kd.R_drewN | apply Kd.R_drew)); exact HO_6.out⟩, ⟨by (with_reducible repeat (first | apply Kd.R_alloc | apply Kd.R_drewN | apply Kd.R_drew)); exact HO_7.out⟩, ⟨by repeat (first | (with_reducible first | exact HB.out | apply below_alloc | apply pw_below_drewN | apply below_drew1) | exact HB.out)⟩⟩
              case round =>
                clear H'
                try clear c1
                try clear c2
                try clear p2
                try clear c3
                try clear c3b0
                try clear c3b1
                try clear c6
                try clear p6
                try clear c7
                try clear c8
                try clear c8b0
                try clear c8b1
                try clear c9
                try clear c9b0
                try clear c9b1
                try clear c18
                try clear c18b0
                try clear c18b1
                try clear c18b2
                try clear c19
                try clear c19b0
                try clear c19b1
                try clear c19b2
                try clear c26
                try clear p2
                try clear p6
                obtain ⟨x49_2, rfl, HA, HK2, HO_5, HO_6, HO_7, HB⟩ := hrel
                cases gk with
                | zero => exact absurd HA.out (by simp [switchboardlaw14_SlotsNone.l0])
                | succ k2 =>
                  have H := HA.out
                  clear HA
                  simp only [switchboardlaw14_SlotsNone.l0] at H
                  by_cases c28 : x49_2 < (t158.length : Int)
                  · rw [if_pos c28] at H
                    have c28b0 : decide (x49_2 < (t158.length : Int)) = true := decide_eq_true c28
                    clear c28
                    by_cases c29 : 0 ≤ x49_2
                    · rw [if_pos c29] at H
                      have c29b0 : decide (0 ≤ x49_2) = true := decide_eq_true c29
                      clear c29
                      by_cases c30 : x49_2 < (t158.length : Int)
                      · rw [if_pos c30] at H
                        have c30b0 : decide (x49_2 < (t158.length : Int)) = true := decide_eq_true c30
                        clear c30
                        by_cases c31 : (!(((rd_T25 t158 x49_2).f0) == (-1)) || (!(((rd_T25 t158 x49_2).f1) == (-1)))) = true
                        · rw [if_pos c31] at H
                          have c31b0 : (!(((rd_T25 t158 x49_2).f0) == (-1)) || (!(((rd_T25 t158 x49_2).f1) == (-1)))) = true := c31
                          clear c31
                          exact absurd H (by simp)
                        · rw [if_neg c31] at H
                          have c31b0 : (!(((rd_T25 t158 x49_2).f0) == (-1)) || (!(((rd_T25 t158 x49_2).f1) == (-1)))) = false := by simpa using c31
                          clear c31
                          by_cases c32 : x49_2 < (t161.length : Int)
                          · rw [if_pos c32] at H
                            have c32b0 : decide (x49_2 < (t161.length : Int)) = true := decide_eq_true c32
                            clear c32
                            by_cases c33 : (!(((rd_T25 t161 x49_2).f0) == (-1)) || (!(((rd_T25 t161 x49_2).f1) == (-1)))) = true
                            · rw [if_pos c33] at H
                              have c33b0 : (!(((rd_T25 t161 x49_2).f0) == (-1)) || (!(((rd_T25 t161 x49_2).f1) == (-1)))) = true := c33
                              clear c33
                              exact absurd H (by simp)
                            · rw [if_neg c33] at H
                              have c33b0 : (!(((rd_T25 t161 x49_2).f0) == (-1)) || (!(((rd_T25 t161 x49_2).f1) == (-1)))) = false := by simpa using c33
                              clear c33
                              by_cases c34 : x49_2 < (t167.length : Int)
                              · rw [if_pos c34] at H
                                have c34b0 : decide (x49_2 < (t167.length : Int)) = true := decide_eq_true c34
                                clear c34
                                by_cases c35 : (!(((rd_T25 t167 x49_2).f0) == (wrap64 (2 * x49_2))) || (!(((rd_T25 t167 x49_2).f1) == (wrap64 ((wrap64 (2 * x49_2)) + 1))))) = true
                                · rw [if_pos c35] at H
                                  have c35b0 : (!(((rd_T25 t167 x49_2).f0) == (wrap64 (2 * x49_2))) || (!(((rd_T25 t167 x49_2).f1) == (wrap64 ((wrap64 (2 * x49_2)) + 1))))) = true := c35
                                  clear c35
                                  exact absurd H (by simp)
                                · rw [if_neg c35] at H
                                  have c35b0 : (!(((rd_T25 t167 x49_2).f0) == (wrap64 (2 * x49_2))) || (!(((rd_T25 t167 x49_2).f1) == (wrap64 ((wrap64 (2 * x49_2)) + 1))))) = false := by simpa using c35
                                  clear c35
                                  have H' := Aside0.mk H
                                  clear H
                                  have p170 : 0 ≤ (x49_2 : Int) := of_decide_eq_true (by first | (with_reducible assumption) | assumption)
                                  have q170 : x49_2 < (t158.length : Int) := of_decide_eq_true (by first | (with_reducible assumption) | assumption)
                                  obtain ⟨ad170, e170, hx170_0, hx170_1⟩ := at_T25 (Kd.R_reads' HO_5.out).2.2 x49_2 p170 q170
                                  cases e170
                                  replace p170 := eq_true p170
                                  replace q170 := eq_true q170
                                  obtain ⟨Ao36, co36, eo36⟩ := Kd.R_slice HO_6.out
                                  subst eo36
                                  have p171 : 0 ≤ (x49_2 : Int) := of_decide_eq_true (by first | (with_reducible assumption) | assumption)
                                  have q171 : x49_2 < (t161.length : Int) := of_decide_eq_true (by first | (with_reducible assumption) | assumption)
                                  obtain ⟨ad171, e171, hx171_0, hx171_1⟩ := at_T25 (Kd.R_reads' HO_6.out).2.2 x49_2 p171 q171
                                  cases e171
                                  replace p171 := eq_true p171
                                  replace q171 := eq_true q171
                                  obtain ⟨Ao37, co37, eo37⟩ := Kd.R_slice HO_7.out
                                  subst eo37
                                  have p172 : 0 ≤ (x49_2 : Int) := of_decide_eq_true (by first | (with_reducible assumption) | assumption)
                                  have q172 : x49_2 < (t167.length : Int) := of_decide_eq_true (by first | (with_reducible assumption) | assumption)
                                  obtain ⟨ad172, e172, hx172_0, hx172_1⟩ := at_T25 (Kd.R_reads' HO_7.out).2.2 x49_2 p172 q172
                                  cases e172
                                  replace p172 := eq_true p172
                                  replace q172 := eq_true q172
                                  go_wp2
                                  go_roundg k2
                                  case measure => have := HJ10.out; have := HK2.out; omega
                                  case rel => exact ⟨(wrap64 (x49_2 + 1)), (by first | rfl | (simp; done) | (simp [*]; done)), H', ⟨by have := HJ10.out; have := HK2.out; omega⟩, ⟨by (with_reducible repeat (first | apply Kd.R_alloc | apply Kd.R_drewN | apply Kd.R_drew)); exact HO_5.out⟩, ⟨by (with_reducible repeat (first | apply Kd.R_alloc | apply Kd.R_drewN | apply Kd.R_drew)); exact HO_6.out⟩, ⟨by (with_reducible repeat (first | apply Kd.R_alloc | apply Kd.R_drewN | apply Kd.R_drew)); exact HO_7.out⟩, ⟨by repeat (first | (with_reducible first | exact HB.out | apply below_alloc | apply pw_below_drewN | apply below_drew1) | exact HB.out)⟩⟩
                              · rw [if_neg c34] at H
                                exact absurd H (by simp)
                          · rw [if_neg c32] at H
                            exact absurd H (by simp)
                      · rw [if_neg c30] at H
                        exact absurd H (by simp)
                    · rw [if_neg c29] at H
                      exact absurd H (by simp)
                  · rw [if_neg c28] at H
                    have c28b0 : decide (x49_2 < (t158.length : Int)) = false := decide_eq_false c28
                    clear c28
                    replace H := Option.bind_eq_some_iff.mp H
                    obtain ⟨t173, A380, H⟩ := H
                    replace H : (some t173) = some true := H
                    have A38 := Aside0.mk A380
                    clear A380
                    have hr_ := Aside0.mk (Option.some.inj H)
                    go_wp2_with (first | ((with_reducible refine gate_callee (f := 7) rfl ?_); refine goesL_ (some 80) rfl rfl Try.func7 (by kernel_rfl) rfl #[] rfl (by (try simp only [List.map_toArray, List.map_cons, List.map_nil]); first | done | rfl | (simp only [List.length_drop, List.length_take]; rfl)) ?_; (with_reducible refine (switchboardlaw14_awake.calls  t173 _ A38.out).mono ?_); rintro e w39 ⟨rfl, hb⟩; refine ⟨_, rfl, ?_⟩; have n0_ := Aside0.mk (Kd.R_below (by (with_reducible repeat (first | apply Kd.R_alloc | apply Kd.R_drewN | apply Kd.R_drew)); exact HO_5.out) hb); have n1_ := Aside0.mk (Kd.R_below (by (with_reducible repeat (first | apply Kd.R_alloc | apply Kd.R_drewN | apply Kd.R_drew)); exact HO_6.out) hb); have n2_ := Aside0.mk (Kd.R_below (by (with_reducible repeat (first | apply Kd.R_alloc | apply Kd.R_drewN | apply Kd.R_drew)); exact HO_7.out) hb); have n3_ := Aside0.mk (below_step (by repeat (first | (with_reducible first | exact HB.out | apply below_alloc | apply pw_below_drewN | apply below_drew1) | exact HB.out)) hb); clear HO_5; clear HO_6; clear HO_7; clear HB; have HO_5 := n0_; have HO_6 := n1_; have HO_7 := n2_; have HB := n3_; clear n0_ n1_ n2_ n3_; (try clear hb); (try clear hb2); (try clear hk); (try clear hi)))
                    go_ret
                    exact ⟨by first | rfl | exact congrArg (fun b_ => Ending.returned (Value.bool b_)) hr_.out | exact congrArg (fun b_ => Ending.returned (Value.bool b_)) hr_.out | (simp [errW_none, errW_some] <;> rfl) | (simp [*, errW_none, errW_some] <;> rfl), by repeat (first | (with_reducible first | exact HB.out | apply below_alloc | apply pw_below_drewN | apply below_drew1) | exact HB.out)⟩
      · rw [if_neg c9] at H
        exact absurd H (by simp)
    · rw [if_neg c8] at H
      exact absurd H (by simp)

end Go.Proofs.Ytglcmnhaoeohdaa.Pr
