-- Laid by wip/xprint.py, a program of this session that runs the kit's print with some contracts given by hand; not a text of print.sh. Lean checks it.
import Derived.Test.YtjleanpblijoaaaPr0
import Derived.Test.YtjleanpblijoaaaPr1
namespace Go.Proofs.Ytjleanpblijoaaa.Pr
open Go.RowKit Go.Proofs.YtjleanpblijoaaaW.PrintWords Go.Proofs.YtjleanpblijoaaaW.PrintLast Go.Proofs.YtjleanpblijoaaaW.PrintMore
attribute [local go_sem] max2_int min2_int max_two min_two max_three min_three max_four min_four   -- for this text's walks alone
set_option linter.unusedVariables false
set_option linter.unusedSimpArgs false

/-! ### switchboardlaw08_BagBack: function 4 -/
def switchboardlaw08_BagBack.f (k : Nat) (l0 : List ByteArray) (a1 : ByteArray) : Option (Bool) := if (l0.length : Int) > 199 then ((switchboardlaw08_awake.f k).bind fun t180 => (some t180)) else ((bag_Put.f l0 a1).bind fun t181 => ((bag_Take.f t181 (l0.length : Int)).bind fun bt184 => ((bag_Twice.f k t181 (l0.length : Int)).bind fun t189 => ((bag_Take.f t189 (t181.length : Int)).bind fun bt192 => (if bt184.1.toList = a1.toList then (if bt184.2.2 = true then ((switchboardref08_Same.f k bt184.2.1 l0).bind fun t197 => (if t197 = true then (if bt192.2.2 = true then (if bt192.1.toList = a1.toList then ((switchboardlaw08_awake.f k).bind fun t198 => (some t198)) else (if (t181.length : Int) = 200 then (some false) else (some false))) else (if (t181.length : Int) = 200 then ((switchboardlaw08_awake.f k).bind fun t199 => (some t199)) else (some false))) else (some false))) else (some false)) else (some false))))))
theorem switchboardlaw08_BagBack.mono : ∀ a0 a1 k, LeO (switchboardlaw08_BagBack.f k a0 a1) (switchboardlaw08_BagBack.f (k + 1) a0 a1) := by
  intro a0 a1 k
  unfold switchboardlaw08_BagBack.f
  repeat' first
      | (with_reducible exact bag_Twice.mono _ _ _)
      | (with_reducible exact switchboardlaw08_awake.mono _)
      | (with_reducible exact switchboardref08_Same.mono _ _ _)
      | (with_reducible exact LeO.refl _)
      | (with_reducible exact LeO.none _)
      | (with_reducible refine LeO.ite ?_ ?_)
      | (with_reducible refine LeO.bind ?_ (fun _ => ?_))
      | exact bag_Twice.mono _ _ _
      | exact switchboardlaw08_awake.mono _
      | exact switchboardref08_Same.mono _ _ _
      | exact LeO.none _
      | refine LeO.ite ?_ ?_
      | refine LeO.bind ?_ (fun _ => ?_)
set_option maxHeartbeats 8000000 in
set_option maxRecDepth 100000 in
theorem switchboardlaw08_BagBack.calls (k : Nat) (A0 : Option Addr) (c0 : Nat) (l0 : List ByteArray) (a1 : ByteArray) (w : World) (hr0 : Kd.C Kd.string w A0 l0.length l0) (hc0 : l0.length ≤ c0) (h : switchboardlaw08_BagBack.f k l0 a1 = some true) :
    Calls Try.prog 4 #[.slice A0 l0.length c0, .string a1] w fun e w' => e = .returned (.bool true) ∧ Below w.heap.size w w' := by
  have HR0 := Aside0.mk hr0
  have HC0 := Aside0.mk hc0
  clear hr0 hc0
  have HB := Aside0.mk (Below.refl w.heap.size w)
  have H : (if (l0.length : Int) > 199 then ((switchboardlaw08_awake.f k).bind fun t180 => (some t180)) else ((bag_Put.f l0 a1).bind fun t181 => ((bag_Take.f t181 (l0.length : Int)).bind fun bt184 => ((bag_Twice.f k t181 (l0.length : Int)).bind fun t189 => ((bag_Take.f t189 (t181.length : Int)).bind fun bt192 => (if bt184.1.toList = a1.toList then (if bt184.2.2 = true then ((switchboardref08_Same.f k bt184.2.1 l0).bind fun t197 => (if t197 = true then (if bt192.2.2 = true then (if bt192.1.toList = a1.toList then ((switchboardlaw08_awake.f k).bind fun t198 => (some t198)) else (if (t181.length : Int) = 200 then (some false) else (some false))) else (if (t181.length : Int) = 200 then ((switchboardlaw08_awake.f k).bind fun t199 => (some t199)) else (some false))) else (some false))) else (some false)) else (some false))))))) = some true := h
  clear h
  by_cases c3 : (l0.length : Int) > 199
  · rw [if_pos c3] at H
    have c3b0 : decide (199 < (l0.length : Int)) = true := decide_eq_true c3
    have c3b1 : decide (199 < l0.length) = true := decide_eq_true (by omega)
    clear c3
    replace H := Option.bind_eq_some_iff.mp H
    obtain ⟨t180, A40, H⟩ := H
    replace H : (some t180) = some true := H
    have A4 := Aside0.mk A40
    clear A40
    have hr_ := Aside0.mk (Option.some.inj H)
    go_enter Try.func4, Try.ntmps4
    go_wp2_with (first | ((with_reducible refine gate_callee (f := 8) rfl ?_); refine goesL_ (some 15) rfl rfl Try.func8 (by kernel_rfl) rfl #[] rfl (by (try simp only [List.map_toArray, List.map_cons, List.map_nil]); first | done | rfl | (simp only [List.length_drop, List.length_take]; rfl)) ?_; (with_reducible refine (switchboardlaw08_awake.calls k  t180 _ A4.out).mono ?_); rintro e w5 ⟨rfl, hb⟩; refine ⟨_, rfl, ?_⟩; have n0_ := Aside0.mk (below_step (by repeat (first | (with_reducible first | exact HB.out | apply below_alloc | apply pw_below_drewN | apply below_drew1) | exact HB.out)) hb); clear HB; have HB := n0_; clear n0_; (try clear hb); (try clear hb2); (try clear hk); (try clear hi)))
    go_ret
    exact ⟨by first | rfl | exact congrArg (fun b_ => Ending.returned (Value.bool b_)) hr_.out | exact congrArg (fun b_ => Ending.returned (Value.bool b_)) hr_.out | (simp [errW_none, errW_some] <;> rfl) | (simp [*, errW_none, errW_some] <;> rfl), by repeat (first | (with_reducible first | exact HB.out | apply below_alloc | apply pw_below_drewN | apply below_drew1) | exact HB.out)⟩
  · rw [if_neg c3] at H
    have c3b0 : decide (199 < (l0.length : Int)) = false := decide_eq_false c3
    have c3b1 : decide (199 < l0.length) = false := decide_eq_false (by omega)
    clear c3
    replace H := Option.bind_eq_some_iff.mp H
    obtain ⟨t181, A60, H⟩ := H
    replace H : ((bag_Take.f t181 (l0.length : Int)).bind fun bt184 => ((bag_Twice.f k t181 (l0.length : Int)).bind fun t189 => ((bag_Take.f t189 (t181.length : Int)).bind fun bt192 => (if bt184.1.toList = a1.toList then (if bt184.2.2 = true then ((switchboardref08_Same.f k bt184.2.1 l0).bind fun t197 => (if t197 = true then (if bt192.2.2 = true then (if bt192.1.toList = a1.toList then ((switchboardlaw08_awake.f k).bind fun t198 => (some t198)) else (if (t181.length : Int) = 200 then (some false) else (some false))) else (if (t181.length : Int) = 200 then ((switchboardlaw08_awake.f k).bind fun t199 => (some t199)) else (some false))) else (some false))) else (some false)) else (some false))))) = some true := H
    have A6 := Aside0.mk A60
    clear A60
    replace H := Option.bind_eq_some_iff.mp H
    obtain ⟨⟨t184, t185, t186⟩, A70, H⟩ := H
    replace H : ((bag_Twice.f k t181 (l0.length : Int)).bind fun t189 => ((bag_Take.f t189 (t181.length : Int)).bind fun bt192 => (if t184.toList = a1.toList then (if t186 = true then ((switchboardref08_Same.f k t185 l0).bind fun t197 => (if t197 = true then (if bt192.2.2 = true then (if bt192.1.toList = a1.toList then ((switchboardlaw08_awake.f k).bind fun t198 => (some t198)) else (if (t181.length : Int) = 200 then (some false) else (some false))) else (if (t181.length : Int) = 200 then ((switchboardlaw08_awake.f k).bind fun t199 => (some t199)) else (some false))) else (some false))) else (some false)) else (some false)))) = some true := H
    have A7 := Aside0.mk A70
    clear A70
    replace H := Option.bind_eq_some_iff.mp H
    obtain ⟨t189, A80, H⟩ := H
    replace H : ((bag_Take.f t189 (t181.length : Int)).bind fun bt192 => (if t184.toList = a1.toList then (if t186 = true then ((switchboardref08_Same.f k t185 l0).bind fun t197 => (if t197 = true then (if bt192.2.2 = true then (if bt192.1.toList = a1.toList then ((switchboardlaw08_awake.f k).bind fun t198 => (some t198)) else (if (t181.length : Int) = 200 then (some false) else (some false))) else (if (t181.length : Int) = 200 then ((switchboardlaw08_awake.f k).bind fun t199 => (some t199)) else (some false))) else (some false))) else (some false)) else (some false))) = some true := H
    have A8 := Aside0.mk A80
    clear A80
    replace H := Option.bind_eq_some_iff.mp H
    obtain ⟨⟨t192, t193, t194⟩, A90, H⟩ := H
    replace H : (if t184.toList = a1.toList then (if t186 = true then ((switchboardref08_Same.f k t185 l0).bind fun t197 => (if t197 = true then (if t194 = true then (if t192.toList = a1.toList then ((switchboardlaw08_awake.f k).bind fun t198 => (some t198)) else (if (t181.length : Int) = 200 then (some false) else (some false))) else (if (t181.length : Int) = 200 then ((switchboardlaw08_awake.f k).bind fun t199 => (some t199)) else (some false))) else (some false))) else (some false)) else (some false)) = some true := H
    have A9 := Aside0.mk A90
    clear A90
    by_cases c10 : t184.toList = a1.toList
    · rw [if_pos c10] at H
      have c10b0 : (t184.toList == a1.toList) = true := beq_iff_eq.mpr c10
      have c10b1 : (t184.toList != a1.toList) = false := bne_eq_false_iff_eq.mpr c10
      clear c10
      by_cases c11 : t186 = true
      · subst c11
        have H1 : ((switchboardref08_Same.f k t185 l0).bind fun t197 => (if t197 = true then (if t194 = true then (if t192.toList = a1.toList then ((switchboardlaw08_awake.f k).bind fun t198 => (some t198)) else (if (t181.length : Int) = 200 then (some false) else (some false))) else (if (t181.length : Int) = 200 then ((switchboardlaw08_awake.f k).bind fun t199 => (some t199)) else (some false))) else (some false))) = some true := by rw [if_pos rfl] at H; exact H
        clear H
        have H := H1
        clear H1
        replace H := Option.bind_eq_some_iff.mp H
        obtain ⟨t197, A120, H⟩ := H
        replace H : (if t197 = true then (if t194 = true then (if t192.toList = a1.toList then ((switchboardlaw08_awake.f k).bind fun t198 => (some t198)) else (if (t181.length : Int) = 200 then (some false) else (some false))) else (if (t181.length : Int) = 200 then ((switchboardlaw08_awake.f k).bind fun t199 => (some t199)) else (some false))) else (some false)) = some true := H
        have A12 := Aside0.mk A120
        clear A120
        by_cases c13 : t197 = true
        · subst c13
          have H1 : (if t194 = true then (if t192.toList = a1.toList then ((switchboardlaw08_awake.f k).bind fun t198 => (some t198)) else (if (t181.length : Int) = 200 then (some false) else (some false))) else (if (t181.length : Int) = 200 then ((switchboardlaw08_awake.f k).bind fun t199 => (some t199)) else (some false))) = some true := by rw [if_pos rfl] at H; exact H
          clear H
          have H := H1
          clear H1
          by_cases c14 : t194 = true
          · subst c14
            have H1 : (if t192.toList = a1.toList then ((switchboardlaw08_awake.f k).bind fun t198 => (some t198)) else (if (t181.length : Int) = 200 then (some false) else (some false))) = some true := by rw [if_pos rfl] at H; exact H
            clear H
            have H := H1
            clear H1
            by_cases c15 : t192.toList = a1.toList
            · rw [if_pos c15] at H
              have c15b0 : (t192.toList == a1.toList) = true := beq_iff_eq.mpr c15
              have c15b1 : (t192.toList != a1.toList) = false := bne_eq_false_iff_eq.mpr c15
              clear c15
              replace H := Option.bind_eq_some_iff.mp H
              obtain ⟨t198, A160, H⟩ := H
              replace H : (some t198) = some true := H
              have A16 := Aside0.mk A160
              clear A160
              have hr_ := Aside0.mk (Option.some.inj H)
              go_enter Try.func4, Try.ntmps4
              go_wp2_with (first | ((with_reducible refine gate_callee (f := 14) rfl ?_); refine goesL_ (some 18) rfl rfl Try.func14 (by kernel_rfl) rfl #[.slice A0 l0.length c0, .string a1] rfl (by (try simp only [List.map_toArray, List.map_cons, List.map_nil]); first | done | rfl | (simp only [List.length_drop, List.length_take]; rfl)) ?_; (with_reducible refine (bag_Put.calls _ _ l0 a1 t181 _ ?side1 ?side2 A6.out).mono ?_); (case side1 => repeat (first | exact HR0.out | (with_reducible refine Kd.C_alloc ?_ _) | (with_reducible refine Kd.C_drewN ?_ _) | (with_reducible refine Kd.C_drew ?_))); (case side2 => exact HC0.out); rintro e w17 ⟨v182, rfl, ho0, hb⟩; refine ⟨_, rfl, ?_⟩; have n0_ := Aside0.mk (Kd.R_lower ho0 (below_size (by repeat (first | (with_reducible first | exact HB.out | apply below_alloc | apply pw_below_drewN | apply below_drew1) | exact HB.out)))); have n1_ := Aside0.mk (below_step (by repeat (first | (with_reducible first | exact HB.out | apply below_alloc | apply pw_below_drewN | apply below_drew1) | exact HB.out)) hb); clear HB; have HO183 := n0_; have HB := n1_; clear n0_ n1_; (try clear hb); (try clear hb2); (try clear hk); (try clear hi); (try clear ho0); obtain ⟨Ao18, co18, eo18⟩ := Kd.R_slice HO183.out; subst eo18) | ((with_reducible refine gate_callee (f := 9) rfl ?_); refine goesL_ (some 23) rfl rfl Try.func9 (by kernel_rfl) rfl #[.slice Ao18 t181.length co18, .int .i64 (l0.length : Int)] rfl (by (try simp only [List.map_toArray, List.map_cons, List.map_nil]); first | done | rfl | (simp only [List.length_drop, List.length_take]; rfl)) ?_; (with_reducible refine (bag_Take.calls _ _ t181 (l0.length : Int) t184 t185 true _ ?side1 ?side2 A7.out).mono ?_); (case side1 => repeat (first | exact (Kd.R_reads' HO183.out).2.2 | (with_reducible refine Kd.C_alloc ?_ _) | (with_reducible refine Kd.C_drewN ?_ _) | (with_reducible refine Kd.C_drew ?_))); (case side2 => exact (Kd.R_reads' HO183.out).2.1); rintro e w19 ⟨v187, rfl, ho0, hb⟩; refine ⟨_, rfl, ?_⟩; have n0_ := Aside0.mk (Kd.R_elder' (by (with_reducible repeat (first | apply Kd.R_alloc | apply Kd.R_drewN | apply Kd.R_drew)); exact HO183.out) (Kd.R_base ho0) hb); have n1_ := Aside0.mk (Kd.R_lower (Kd.R_new' ho0 (Kd.R_lt (by (with_reducible repeat (first | apply Kd.R_alloc | apply Kd.R_drewN | apply Kd.R_drew)); exact HO183.out))) (below_size (by repeat (first | (with_reducible first | exact HB.out | apply below_alloc | apply pw_below_drewN | apply below_drew1) | exact HB.out)))); have n2_ := Aside0.mk (below_step (by repeat (first | (with_reducible first | exact HB.out | apply below_alloc | apply pw_below_drewN | apply below_drew1) | exact HB.out)) hb); clear HO183; clear HB; have HO183 := n0_; have HO188 := n1_; have HB := n2_; clear n0_ n1_ n2_; (try clear hb); (try clear hb2); (try clear hk); (try clear hi); (try clear ho0)) | ((with_reducible refine gate_callee (f := 11) rfl ?_); refine goesL_ (some 31) rfl rfl Try.func11 (by kernel_rfl) rfl #[.slice Ao18 t181.length co18, .int .i64 (l0.length : Int)] rfl (by (try simp only [List.map_toArray, List.map_cons, List.map_nil]); first | done | rfl | (simp only [List.length_drop, List.length_take]; rfl)) ?_; (with_reducible refine (bag_Twice.calls k _ _ t181 (l0.length : Int) t189 _ ?side1 ?side2 A8.out).mono ?_); (case side1 => repeat (first | exact (Kd.R_reads' HO183.out).2.2 | (with_reducible refine Kd.C_alloc ?_ _) | (with_reducible refine Kd.C_drewN ?_ _) | (with_reducible refine Kd.C_drew ?_))); (case side2 => exact (Kd.R_reads' HO183.out).2.1); rintro e w20 ⟨v190, rfl, ho0, hb⟩; refine ⟨_, rfl, ?_⟩; have n0_ := Aside0.mk (Kd.R_elder' (by (with_reducible repeat (first | apply Kd.R_alloc | apply Kd.R_drewN | apply Kd.R_drew)); exact HO183.out) (Kd.R_base ho0) hb); have n1_ := Aside0.mk (Kd.R_elder' (by (with_reducible repeat (first | apply Kd.R_alloc | apply Kd.R_drewN | apply Kd.R_drew)); exact HO188.out) (Kd.R_base ho0) hb); have n2_ := Aside0.mk (Kd.R_lower (Kd.R_new' (Kd.R_new' ho0 (Kd.R_lt (by (with_reducible repeat (first | apply Kd.R_alloc | apply Kd.R_drewN | apply Kd.R_drew)); exact HO183.out))) (Kd.R_lt (by (with_reducible repeat (first | apply Kd.R_alloc | apply Kd.R_drewN | apply Kd.R_drew)); exact HO188.out))) (below_size (by repeat (first | (with_reducible first | exact HB.out | apply below_alloc | apply pw_below_drewN | apply below_drew1) | exact HB.out)))); have n3_ := Aside0.mk (below_step (by repeat (first | (with_reducible first | exact HB.out | apply below_alloc | apply pw_below_drewN | apply below_drew1) | exact HB.out)) hb); clear HO183; clear HO188; clear HB; have HO183 := n0_; have HO188 := n1_; have HO191 := n2_; have HB := n3_; clear n0_ n1_ n2_ n3_; (try clear hb); (try clear hb2); (try clear hk); (try clear hi); (try clear ho0); obtain ⟨Ao21, co21, eo21⟩ := Kd.R_slice HO191.out; subst eo21) | ((with_reducible refine gate_callee (f := 9) rfl ?_); refine goesL_ (some 34) rfl rfl Try.func9 (by kernel_rfl) rfl #[.slice Ao21 t189.length co21, .int .i64 (t181.length : Int)] rfl (by (try simp only [List.map_toArray, List.map_cons, List.map_nil]); first | done | rfl | (simp only [List.length_drop, List.length_take]; rfl)) ?_; (with_reducible refine (bag_Take.calls _ _ t189 (t181.length : Int) t192 t193 true _ ?side1 ?side2 A9.out).mono ?_); (case side1 => repeat (first | exact (Kd.R_reads' HO191.out).2.2 | (with_reducible refine Kd.C_alloc ?_ _) | (with_reducible refine Kd.C_drewN ?_ _) | (with_reducible refine Kd.C_drew ?_))); (case side2 => exact (Kd.R_reads' HO191.out).2.1); rintro e w22 ⟨v195, rfl, ho0, hb⟩; refine ⟨_, rfl, ?_⟩; have n0_ := Aside0.mk (Kd.R_elder' (by (with_reducible repeat (first | apply Kd.R_alloc | apply Kd.R_drewN | apply Kd.R_drew)); exact HO183.out) (Kd.R_base ho0) hb); have n1_ := Aside0.mk (Kd.R_elder' (by (with_reducible repeat (first | apply Kd.R_alloc | apply Kd.R_drewN | apply Kd.R_drew)); exact HO188.out) (Kd.R_base ho0) hb); have n2_ := Aside0.mk (Kd.R_elder' (by (with_reducible repeat (first | apply Kd.R_alloc | apply Kd.R_drewN | apply Kd.R_drew)); exact HO191.out) (Kd.R_base ho0) hb); have n3_ := Aside0.mk (Kd.R_lower (Kd.R_new' (Kd.R_new' (Kd.R_new' ho0 (Kd.R_lt (by (with_reducible repeat (first | apply Kd.R_alloc | apply Kd.R_drewN | apply Kd.R_drew)); exact HO183.out))) (Kd.R_lt (by (with_reducible repeat (first | apply Kd.R_alloc | apply Kd.R_drewN | apply Kd.R_drew)); exact HO188.out))) (Kd.R_lt (by (with_reducible repeat (first | apply Kd.R_alloc | apply Kd.R_drewN | apply Kd.R_drew)); exact HO191.out))) (below_size (by repeat (first | (with_reducible first | exact HB.out | apply below_alloc | apply pw_below_drewN | apply below_drew1) | exact HB.out)))); have n4_ := Aside0.mk (below_step (by repeat (first | (with_reducible first | exact HB.out | apply below_alloc | apply pw_below_drewN | apply below_drew1) | exact HB.out)) hb); clear HO183; clear HO188; clear HO191; clear HB; have HO183 := n0_; have HO188 := n1_; have HO191 := n2_; have HO196 := n3_; have HB := n4_; clear n0_ n1_ n2_ n3_ n4_; (try clear hb); (try clear hb2); (try clear hk); (try clear hi); (try clear ho0); obtain ⟨Ao23, co23, eo23⟩ := Kd.R_slice HO188.out; subst eo23) | (go_at_call 10; (with_reducible refine (switchboardref08_Same.calls k _ _ t185 _ _ l0 true _ ?side1 ?side2 ?side3 ?side4 A12.out).mono ?_); (case side1 => repeat (first | exact (Kd.R_reads' HO188.out).2.2 | (with_reducible refine Kd.C_alloc ?_ _) | (with_reducible refine Kd.C_drewN ?_ _) | (with_reducible refine Kd.C_drew ?_))); (case side2 => exact (Kd.R_reads' HO188.out).2.1); (case side3 => repeat (first | exact (Kd.C_below HR0.out HB.out) | (with_reducible refine Kd.C_alloc ?_ _) | (with_reducible refine Kd.C_drewN ?_ _) | (with_reducible refine Kd.C_drew ?_))); (case side4 => exact HC0.out); rintro e w' ⟨rfl, ⟨nd, rfl⟩⟩) | (go_at_call 8; (with_reducible refine (switchboardlaw08_awake.calls k  t198 _ A16.out).mono ?_); rintro e w24 ⟨rfl, hb⟩; have n0_ := Aside0.mk (Kd.R_below (by (with_reducible repeat (first | apply Kd.R_alloc | apply Kd.R_drewN | apply Kd.R_drew)); exact HO183.out) hb); have n1_ := Aside0.mk (Kd.R_below (by (with_reducible repeat (first | apply Kd.R_alloc | apply Kd.R_drewN | apply Kd.R_drew)); exact HO188.out) hb); have n2_ := Aside0.mk (Kd.R_below (by (with_reducible repeat (first | apply Kd.R_alloc | apply Kd.R_drewN | apply Kd.R_drew)); exact HO191.out) hb); have n3_ := Aside0.mk (Kd.R_below (by (with_reducible repeat (first | apply Kd.R_alloc | apply Kd.R_drewN | apply Kd.R_drew)); exact HO196.out) hb); have n4_ := Aside0.mk (below_step (by repeat (first | (with_reducible first | exact HB.out | apply below_alloc | apply pw_below_drewN | apply below_drew1) | exact HB.out)) hb); clear HO183; clear HO188; clear HO191; clear HO196; clear HB; have HO183 := n0_; have HO188 := n1_; have HO191 := n2_; have HO196 := n3_; have HB := n4_; clear n0_ n1_ n2_ n3_ n4_; (try clear hb); (try clear hb2); (try clear hk); (try clear hi)))
              go_ret
              exact ⟨by first | rfl | exact congrArg (fun b_ => Ending.returned (Value.bool b_)) hr_.out | exact congrArg (fun b_ => Ending.returned (Value.bool b_)) hr_.out | (simp [errW_none, errW_some] <;> rfl) | (simp [*, errW_none, errW_some] <;> rfl), by repeat (first | (with_reducible first | exact HB.out | apply below_alloc | apply pw_below_drewN | apply below_drew1) | exact HB.out)⟩
            · rw [if_neg c15] at H
              have c15b0 : (t192.toList == a1.toList) = false := beq_eq_false_iff_ne.mpr c15
              have c15b1 : (t192.toList != a1.toList) = true := bne_iff_ne.mpr c15
              by_cases c25 : (t181.length : Int) = 200
              · rw [if_pos c25] at H
                have c25b0 : ((t181.length : Int) == 200) = true := beq_iff_eq.mpr c25
                have c25b1 : ((t181.length : Int) != 200) = false := bne_eq_false_iff_eq.mpr c25
                clear c25
                exact absurd H (by simp)
              · rw [if_neg c25] at H
                have c25b0 : ((t181.length : Int) == 200) = false := beq_eq_false_iff_ne.mpr c25
                have c25b1 : ((t181.length : Int) != 200) = true := bne_iff_ne.mpr c25
                exact absurd H (by simp)
          · replace c14 := Bool.eq_false_iff.mpr c14
            subst c14
            have H1 : (if (t181.length : Int) = 200 then ((switchboardlaw08_awake.f k).bind fun t199 => (some t199)) else (some false)) = some true := by rw [if_neg (show ¬ (false = true) by decide)] at H; exact H
            clear H
            have H := H1
            clear H1
            by_cases c26 : (t181.length : Int) = 200
            · rw [if_pos c26] at H
              have c26b0 : ((t181.length : Int) == 200) = true := beq_iff_eq.mpr c26
              have c26b1 : ((t181.length : Int) != 200) = false := bne_eq_false_iff_eq.mpr c26
              clear c26
              replace H := Option.bind_eq_some_iff.mp H
              obtain ⟨t199, A270, H⟩ := H
              replace H : (some t199) = some true := H
              have A27 := Aside0.mk A270
              clear A270
              have hr_ := Aside0.mk (Option.some.inj H)
              go_enter Try.func4, Try.ntmps4
              go_wp2_with (first | ((with_reducible refine gate_callee (f := 14) rfl ?_); refine goesL_ (some 18) rfl rfl Try.func14 (by kernel_rfl) rfl #[.slice A0 l0.length c0, .string a1] rfl (by (try simp only [List.map_toArray, List.map_cons, List.map_nil]); first | done | rfl | (simp only [List.length_drop, List.length_take]; rfl)) ?_; (with_reducible refine (bag_Put.calls _ _ l0 a1 t181 _ ?side1 ?side2 A6.out).mono ?_); (case side1 => repeat (first | exact HR0.out | (with_reducible refine Kd.C_alloc ?_ _) | (with_reducible refine Kd.C_drewN ?_ _) | (with_reducible refine Kd.C_drew ?_))); (case side2 => exact HC0.out); rintro e w28 ⟨v182, rfl, ho0, hb⟩; refine ⟨_, rfl, ?_⟩; have n0_ := Aside0.mk (Kd.R_lower ho0 (below_size (by repeat (first | (with_reducible first | exact HB.out | apply below_alloc | apply pw_below_drewN | apply below_drew1) | exact HB.out)))); have n1_ := Aside0.mk (below_step (by repeat (first | (with_reducible first | exact HB.out | apply below_alloc | apply pw_below_drewN | apply below_drew1) | exact HB.out)) hb); clear HB; have HO183 := n0_; have HB := n1_; clear n0_ n1_; (try clear hb); (try clear hb2); (try clear hk); (try clear hi); (try clear ho0); obtain ⟨Ao29, co29, eo29⟩ := Kd.R_slice HO183.out; subst eo29) | ((with_reducible refine gate_callee (f := 9) rfl ?_); refine goesL_ (some 23) rfl rfl Try.func9 (by kernel_rfl) rfl #[.slice Ao29 t181.length co29, .int .i64 (l0.length : Int)] rfl (by (try simp only [List.map_toArray, List.map_cons, List.map_nil]); first | done | rfl | (simp only [List.length_drop, List.length_take]; rfl)) ?_; (with_reducible refine (bag_Take.calls _ _ t181 (l0.length : Int) t184 t185 true _ ?side1 ?side2 A7.out).mono ?_); (case side1 => repeat (first | exact (Kd.R_reads' HO183.out).2.2 | (with_reducible refine Kd.C_alloc ?_ _) | (with_reducible refine Kd.C_drewN ?_ _) | (with_reducible refine Kd.C_drew ?_))); (case side2 => exact (Kd.R_reads' HO183.out).2.1); rintro e w30 ⟨v187, rfl, ho0, hb⟩; refine ⟨_, rfl, ?_⟩; have n0_ := Aside0.mk (Kd.R_elder' (by (with_reducible repeat (first | apply Kd.R_alloc | apply Kd.R_drewN | apply Kd.R_drew)); exact HO183.out) (Kd.R_base ho0) hb); have n1_ := Aside0.mk (Kd.R_lower (Kd.R_new' ho0 (Kd.R_lt (by (with_reducible repeat (first | apply Kd.R_alloc | apply Kd.R_drewN | apply Kd.R_drew)); exact HO183.out))) (below_size (by repeat (first | (with_reducible first | exact HB.out | apply below_alloc | apply pw_below_drewN | apply below_drew1) | exact HB.out)))); have n2_ := Aside0.mk (below_step (by repeat (first | (with_reducible first | exact HB.out | apply below_alloc | apply pw_below_drewN | apply below_drew1) | exact HB.out)) hb); clear HO183; clear HB; have HO183 := n0_; have HO188 := n1_; have HB := n2_; clear n0_ n1_ n2_; (try clear hb); (try clear hb2); (try clear hk); (try clear hi); (try clear ho0)) | ((with_reducible refine gate_callee (f := 11) rfl ?_); refine goesL_ (some 31) rfl rfl Try.func11 (by kernel_rfl) rfl #[.slice Ao29 t181.length co29, .int .i64 (l0.length : Int)] rfl (by (try simp only [List.map_toArray, List.map_cons, List.map_nil]); first | done | rfl | (simp only [List.length_drop, List.length_take]; rfl)) ?_; (with_reducible refine (bag_Twice.calls k _ _ t181 (l0.length : Int) t189 _ ?side1 ?side2 A8.out).mono ?_); (case side1 => repeat (first | exact (Kd.R_reads' HO183.out).2.2 | (with_reducible refine Kd.C_alloc ?_ _) | (with_reducible refine Kd.C_drewN ?_ _) | (with_reducible refine Kd.C_drew ?_))); (case side2 => exact (Kd.R_reads' HO183.out).2.1); rintro e w31 ⟨v190, rfl, ho0, hb⟩; refine ⟨_, rfl, ?_⟩; have n0_ := Aside0.mk (Kd.R_elder' (by (with_reducible repeat (first | apply Kd.R_alloc | apply Kd.R_drewN | apply Kd.R_drew)); exact HO183.out) (Kd.R_base ho0) hb); have n1_ := Aside0.mk (Kd.R_elder' (by (with_reducible repeat (first | apply Kd.R_alloc | apply Kd.R_drewN | apply Kd.R_drew)); exact HO188.out) (Kd.R_base ho0) hb); have n2_ := Aside0.mk (Kd.R_lower (Kd.R_new' (Kd.R_new' ho0 (Kd.R_lt (by (with_reducible repeat (first | apply Kd.R_alloc | apply Kd.R_drewN | apply Kd.R_drew)); exact HO183.out))) (Kd.R_lt (by (with_reducible repeat (first | apply Kd.R_alloc | apply Kd.R_drewN | apply Kd.R_drew)); exact HO188.out))) (below_size (by repeat (first | (with_reducible first | exact HB.out | apply below_alloc | apply pw_below_drewN | apply below_drew1) | exact HB.out)))); have n3_ := Aside0.mk (below_step (by repeat (first | (with_reducible first | exact HB.out | apply below_alloc | apply pw_below_drewN | apply below_drew1) | exact HB.out)) hb); clear HO183; clear HO188; clear HB; have HO183 := n0_; have HO188 := n1_; have HO191 := n2_; have HB := n3_; clear n0_ n1_ n2_ n3_; (try clear hb); (try clear hb2); (try clear hk); (try clear hi); (try clear ho0); obtain ⟨Ao32, co32, eo32⟩ := Kd.R_slice HO191.out; subst eo32) | ((with_reducible refine gate_callee (f := 9) rfl ?_); refine goesL_ (some 34) rfl rfl Try.func9 (by kernel_rfl) rfl #[.slice Ao32 t189.length co32, .int .i64 (t181.length : Int)] rfl (by (try simp only [List.map_toArray, List.map_cons, List.map_nil]); first | done | rfl | (simp only [List.length_drop, List.length_take]; rfl)) ?_; (with_reducible refine (bag_Take.calls _ _ t189 (t181.length : Int) t192 t193 false _ ?side1 ?side2 A9.out).mono ?_); (case side1 => repeat (first | exact (Kd.R_reads' HO191.out).2.2 | (with_reducible refine Kd.C_alloc ?_ _) | (with_reducible refine Kd.C_drewN ?_ _) | (with_reducible refine Kd.C_drew ?_))); (case side2 => exact (Kd.R_reads' HO191.out).2.1); rintro e w33 ⟨v195, rfl, ho0, hb⟩; refine ⟨_, rfl, ?_⟩; have n0_ := Aside0.mk (Kd.R_elder' (by (with_reducible repeat (first | apply Kd.R_alloc | apply Kd.R_drewN | apply Kd.R_drew)); exact HO183.out) (Kd.R_base ho0) hb); have n1_ := Aside0.mk (Kd.R_elder' (by (with_reducible repeat (first | apply Kd.R_alloc | apply Kd.R_drewN | apply Kd.R_drew)); exact HO188.out) (Kd.R_base ho0) hb); have n2_ := Aside0.mk (Kd.R_elder' (by (with_reducible repeat (first | apply Kd.R_alloc | apply Kd.R_drewN | apply Kd.R_drew)); exact HO191.out) (Kd.R_base ho0) hb); have n3_ := Aside0.mk (Kd.R_lower (Kd.R_new' (Kd.R_new' (Kd.R_new' ho0 (Kd.R_lt (by (with_reducible repeat (first | apply Kd.R_alloc | apply Kd.R_drewN | apply Kd.R_drew)); exact HO183.out))) (Kd.R_lt (by (with_reducible repeat (first | apply Kd.R_alloc | apply Kd.R_drewN | apply Kd.R_drew)); exact HO188.out))) (Kd.R_lt (by (with_reducible repeat (first | apply Kd.R_alloc | apply Kd.R_drewN | apply Kd.R_drew)); exact HO191.out))) (below_size (by repeat (first | (with_reducible first | exact HB.out | apply below_alloc | apply pw_below_drewN | apply below_drew1) | exact HB.out)))); have n4_ := Aside0.mk (below_step (by repeat (first | (with_reducible first | exact HB.out | apply below_alloc | apply pw_below_drewN | apply below_drew1) | exact HB.out)) hb); clear HO183; clear HO188; clear HO191; clear HB; have HO183 := n0_; have HO188 := n1_; have HO191 := n2_; have HO196 := n3_; have HB := n4_; clear n0_ n1_ n2_ n3_ n4_; (try clear hb); (try clear hb2); (try clear hk); (try clear hi); (try clear ho0); obtain ⟨Ao34, co34, eo34⟩ := Kd.R_slice HO188.out; subst eo34) | (go_at_call 10; (with_reducible refine (switchboardref08_Same.calls k _ _ t185 _ _ l0 true _ ?side1 ?side2 ?side3 ?side4 A12.out).mono ?_); (case side1 => repeat (first | exact (Kd.R_reads' HO188.out).2.2 | (with_reducible refine Kd.C_alloc ?_ _) | (with_reducible refine Kd.C_drewN ?_ _) | (with_reducible refine Kd.C_drew ?_))); (case side2 => exact (Kd.R_reads' HO188.out).2.1); (case side3 => repeat (first | exact (Kd.C_below HR0.out HB.out) | (with_reducible refine Kd.C_alloc ?_ _) | (with_reducible refine Kd.C_drewN ?_ _) | (with_reducible refine Kd.C_drew ?_))); (case side4 => exact HC0.out); rintro e w' ⟨rfl, ⟨nd, rfl⟩⟩) | (go_at_call 8; (with_reducible refine (switchboardlaw08_awake.calls k  t199 _ A27.out).mono ?_); rintro e w35 ⟨rfl, hb⟩; have n0_ := Aside0.mk (Kd.R_below (by (with_reducible repeat (first | apply Kd.R_alloc | apply Kd.R_drewN | apply Kd.R_drew)); exact HO183.out) hb); have n1_ := Aside0.mk (Kd.R_below (by (with_reducible repeat (first | apply Kd.R_alloc | apply Kd.R_drewN | apply Kd.R_drew)); exact HO188.out) hb); have n2_ := Aside0.mk (Kd.R_below (by (with_reducible repeat (first | apply Kd.R_alloc | apply Kd.R_drewN | apply Kd.R_drew)); exact HO191.out) hb); have n3_ := Aside0.mk (Kd.R_below (by (with_reducible repeat (first | apply Kd.R_alloc | apply Kd.R_drewN | apply Kd.R_drew)); exact HO196.out) hb); have n4_ := Aside0.mk (below_step (by repeat (first | (with_reducible first | exact HB.out | apply below_alloc | apply pw_below_drewN | apply below_drew1) | exact HB.out)) hb); clear HO183; clear HO188; clear HO191; clear HO196; clear HB; have HO183 := n0_; have HO188 := n1_; have HO191 := n2_; have HO196 := n3_; have HB := n4_; clear n0_ n1_ n2_ n3_ n4_; (try clear hb); (try clear hb2); (try clear hk); (try clear hi)))
              go_ret
              exact ⟨by first | rfl | exact congrArg (fun b_ => Ending.returned (Value.bool b_)) hr_.out | exact congrArg (fun b_ => Ending.returned (Value.bool b_)) hr_.out | (simp [errW_none, errW_some] <;> rfl) | (simp [*, errW_none, errW_some] <;> rfl), by repeat (first | (with_reducible first | exact HB.out | apply below_alloc | apply pw_below_drewN | apply below_drew1) | exact HB.out)⟩
            · rw [if_neg c26] at H
              have c26b0 : ((t181.length : Int) == 200) = false := beq_eq_false_iff_ne.mpr c26
              have c26b1 : ((t181.length : Int) != 200) = true := bne_iff_ne.mpr c26
              exact absurd H (by simp)
        · replace c13 := Bool.eq_false_iff.mpr c13
          subst c13
          have H1 : (some false) = some true := by rw [if_neg (show ¬ (false = true) by decide)] at H; exact H
          clear H
          have H := H1
          clear H1
          exact absurd H (by simp)
      · replace c11 := Bool.eq_false_iff.mpr c11
        subst c11
        have H1 : (some false) = some true := by rw [if_neg (show ¬ (false = true) by decide)] at H; exact H
        clear H
        have H := H1
        clear H1
        exact absurd H (by simp)
    · rw [if_neg c10] at H
      have c10b0 : (t184.toList == a1.toList) = false := beq_eq_false_iff_ne.mpr c10
      have c10b1 : (t184.toList != a1.toList) = true := bne_iff_ne.mpr c10
      exact absurd H (by simp)

/-! ### switchboardlaw08_BagDrains: function 5 -/
def switchboardlaw08_BagDrains.l0 : Nat → List ByteArray → List ByteArray → Int → Int → Option (Bool)
  | 0, _, _, _, _ => none
  | k + 1, x0, x3, x17, x18 => if x18 < x17 then ((bag_Take.f x3 0).bind fun bt201 => (if bt201.2.2 = true then (if 0 ≤ x18 then (if x18 < (x0.length : Int) then (if bt201.1.toList = (rdOf ByteArray.empty x0 x18).toList then (if (bt201.2.1.length : Int) = (wrap64 ((wrap64 ((x0.length : Int) - x18)) - 1)) then (switchboardlaw08_BagDrains.l0 k x0 bt201.2.1 x17 (wrap64 (x18 + 1))) else (some false)) else (some false)) else (none)) else (none)) else (some false))) else ((bag_Take.f x3 0).bind fun bt207 => (if bt207.2.2 = true then (some false) else (if (bt207.2.1.length : Int) = 0 then ((switchboardlaw08_awake.f k).bind fun t212 => (some t212)) else (some false))))
def switchboardlaw08_BagDrains.f (k : Nat) (l0 : List ByteArray) : Option (Bool) := if (l0.length : Int) > 200 then ((switchboardlaw08_awake.f k).bind fun t200 => (some t200)) else (switchboardlaw08_BagDrains.l0 k l0 l0 (l0.length : Int) 0)
theorem switchboardlaw08_BagDrains.mono_l : ∀ k, (∀ y0 y1 y2 y3, LeO (switchboardlaw08_BagDrains.l0 k y0 y1 y2 y3) (switchboardlaw08_BagDrains.l0 (k + 1) y0 y1 y2 y3))
  | 0 => fun _ _ _ _ r h => by simp [switchboardlaw08_BagDrains.l0] at h
  | k + 1 => by
    have ih0 := switchboardlaw08_BagDrains.mono_l k
    · intro y0 y1 y2 y3
      unfold switchboardlaw08_BagDrains.l0
      repeat' first
      | (with_reducible exact ih0 _ _ _ _)
      | (with_reducible exact switchboardlaw08_awake.mono _)
      | (with_reducible exact LeO.refl _)
      | (with_reducible exact LeO.none _)
      | (with_reducible refine LeO.ite ?_ ?_)
      | (with_reducible refine LeO.bind ?_ (fun _ => ?_))
      | exact ih0 _ _ _ _
      | exact switchboardlaw08_awake.mono _
      | exact LeO.none _
      | refine LeO.ite ?_ ?_
      | refine LeO.bind ?_ (fun _ => ?_)
theorem switchboardlaw08_BagDrains.mono : ∀ a0 k, LeO (switchboardlaw08_BagDrains.f k a0) (switchboardlaw08_BagDrains.f (k + 1) a0) := by
  intro a0 k
  have ih0 := switchboardlaw08_BagDrains.mono_l k
  unfold switchboardlaw08_BagDrains.f
  repeat' first
      | (with_reducible exact ih0 _ _ _ _)
      | (with_reducible exact switchboardlaw08_awake.mono _)
      | (with_reducible exact LeO.refl _)
      | (with_reducible exact LeO.none _)
      | (with_reducible refine LeO.ite ?_ ?_)
      | (with_reducible refine LeO.bind ?_ (fun _ => ?_))
      | exact ih0 _ _ _ _
      | exact switchboardlaw08_awake.mono _
      | exact LeO.none _
      | refine LeO.ite ?_ ?_
      | refine LeO.bind ?_ (fun _ => ?_)
set_option maxHeartbeats 8000000 in
set_option maxRecDepth 100000 in
theorem switchboardlaw08_BagDrains.calls (k : Nat) (P0_ : Nat → Prop) (A0 : Option Addr) (c0 : Nat) (l0 : List ByteArray) (w : World) (hs0 : Kd.V Kd.string 9 w w.heap.size (fun k_ => P0_ k_) (.slice A0 l0.length c0) l0) (h : switchboardlaw08_BagDrains.f k l0 = some true) :
    Calls Try.prog 5 #[.slice A0 l0.length c0] w fun e w' => e = .returned (.bool true) ∧ Below w.heap.size w w' := by
  have HO0 := Aside0.mk (show Kd.V Kd.string 9 w w.heap.size (fun k_ => (P0_ k_ ∨ w.heap.size ≤ k_)) (.slice A0 l0.length c0) l0 from Kd.V_mono hs0 (fun k_ hk => .inl hk))
  have HB := Aside0.mk (Below.refl w.heap.size w)
  have H : (if (l0.length : Int) > 200 then ((switchboardlaw08_awake.f k).bind fun t200 => (some t200)) else (switchboardlaw08_BagDrains.l0 k l0 l0 (l0.length : Int) 0)) = some true := h
  clear h
  by_cases c2 : (l0.length : Int) > 200
  · rw [if_pos c2] at H
    have c2b0 : decide (200 < (l0.length : Int)) = true := decide_eq_true c2
    have c2b1 : decide (200 < l0.length) = true := decide_eq_true (by omega)
    clear c2
    replace H := Option.bind_eq_some_iff.mp H
    obtain ⟨t200, A30, H⟩ := H
    replace H : (some t200) = some true := H
    have A3 := Aside0.mk A30
    clear A30
    have hr_ := Aside0.mk (Option.some.inj H)
    go_enter Try.func5, Try.ntmps5
    go_wp2_with (first | ((with_reducible refine gate_callee (f := 8) rfl ?_); refine goesL_ (some 14) rfl rfl Try.func8 (by kernel_rfl) rfl #[] rfl (by (try simp only [List.map_toArray, List.map_cons, List.map_nil]); first | done | rfl | (simp only [List.length_drop, List.length_take]; rfl)) ?_; (with_reducible refine (switchboardlaw08_awake.calls k  t200 _ A3.out).mono ?_); rintro e w4 ⟨rfl, hb⟩; refine ⟨_, rfl, ?_⟩; have n0_ := Aside0.mk (Kd.V_below (by (with_reducible repeat (first | apply Kd.V_alloc | apply Kd.V_drewN | apply Kd.V_drew)); exact HO0.out) hb); have n1_ := Aside0.mk (below_step (by repeat (first | (with_reducible first | exact HB.out | apply below_alloc | apply pw_below_drewN | apply below_drew1) | exact HB.out)) hb); clear HO0; clear HB; have HO0 := n0_; have HB := n1_; clear n0_ n1_; (try clear hb); (try clear hb2); (try clear hk); (try clear hi)))
    go_ret
    exact ⟨by first | rfl | exact congrArg (fun b_ => Ending.returned (Value.bool b_)) hr_.out | exact congrArg (fun b_ => Ending.returned (Value.bool b_)) hr_.out | (simp [errW_none, errW_some] <;> rfl) | (simp [*, errW_none, errW_some] <;> rfl), by repeat (first | (with_reducible first | exact HB.out | apply below_alloc | apply pw_below_drewN | apply below_drew1) | exact HB.out)⟩
  · rw [if_neg c2] at H
    have c2b0 : decide (200 < (l0.length : Int)) = false := decide_eq_false c2
    have c2b1 : decide (200 < l0.length) = false := decide_eq_false (by omega)
    clear c2
    have H' := Aside0.mk H
    clear H
    go_enter Try.func5, Try.ntmps5
    go_wp2
    go_loopg [3, 18] k (fun kq v3 v18 w' => ∃ (x3_1 : List ByteArray) (x18_1 : Int), v18 = .int .i64 x18_1 ∧ Aside0 (switchboardlaw08_BagDrains.l0 kq l0 x3_1 (l0.length : Int) x18_1 = some true) ∧ Aside0 (kq ≤ k) ∧ Aside0 (Kd.V Kd.string 9 w' w.heap.size (fun k_ => (P0_ k_ ∨ w.heap.size ≤ k_)) (.slice A0 l0.length c0) l0) ∧ Aside0 (Kd.V Kd.string 9 w' w.heap.size (fun k_ => (P0_ k_ ∨ w.heap.size ≤ k_)) v3 x3_1) ∧ Aside0 (Below w.heap.size w w'))
    case atStart => exact ⟨(l0), (0), (by first | rfl | (simp; done) | (simp [*]; done)), H', ⟨Nat.le_refl _⟩, ⟨by (with_reducible repeat (first | apply Kd.V_alloc | apply Kd.V_drewN | apply Kd.V_drew)); exact HO0.out⟩, ⟨by (with_reducible repeat (first | apply Kd.V_alloc | apply Kd.V_drewN | apply Kd.V_drew)); exact HO0.out⟩, ⟨by repeat (first | (with_reducible first | exact HB.out | apply below_alloc | apply pw_below_drewN | apply below_drew1) | exact HB.out)⟩⟩
    case round =>
      clear H'
      try clear c2
      try clear c2b0
      try clear c2b1
      try clear p2
      obtain ⟨x3_1, x18_1, rfl, HA, HK1, HO_0, HO_3, HB⟩ := hrel
      cases gk with
      | zero => exact absurd HA.out (by simp [switchboardlaw08_BagDrains.l0])
      | succ k1 =>
        have H := HA.out
        clear HA
        simp only [switchboardlaw08_BagDrains.l0] at H
        by_cases c5 : x18_1 < (l0.length : Int)
        · rw [if_pos c5] at H
          have c5b0 : decide (x18_1 < (l0.length : Int)) = true := decide_eq_true c5
          clear c5
          replace H := Option.bind_eq_some_iff.mp H
          obtain ⟨⟨t201, t202, t203⟩, A60, H⟩ := H
          replace H : (if t203 = true then (if 0 ≤ x18_1 then (if x18_1 < (l0.length : Int) then (if t201.toList = (rdOf ByteArray.empty l0 x18_1).toList then (if (t202.length : Int) = (wrap64 ((wrap64 ((l0.length : Int) - x18_1)) - 1)) then (switchboardlaw08_BagDrains.l0 k1 l0 t202 (l0.length : Int) (wrap64 (x18_1 + 1))) else (some false)) else (some false)) else (none)) else (none)) else (some false)) = some true := H
          have A6 := Aside0.mk A60
          clear A60
          by_cases c7 : t203 = true
          · subst c7
            have H1 : (if 0 ≤ x18_1 then (if x18_1 < (l0.length : Int) then (if t201.toList = (rdOf ByteArray.empty l0 x18_1).toList then (if (t202.length : Int) = (wrap64 ((wrap64 ((l0.length : Int) - x18_1)) - 1)) then (switchboardlaw08_BagDrains.l0 k1 l0 t202 (l0.length : Int) (wrap64 (x18_1 + 1))) else (some false)) else (some false)) else (none)) else (none)) = some true := by rw [if_pos rfl] at H; exact H
            clear H
            have H := H1
            clear H1
            by_cases c8 : 0 ≤ x18_1
            · rw [if_pos c8] at H
              have c8b0 : decide (0 ≤ x18_1) = true := decide_eq_true c8
              clear c8
              by_cases c9 : x18_1 < (l0.length : Int)
              · rw [if_pos c9] at H
                have c9b0 : decide (x18_1 < (l0.length : Int)) = true := decide_eq_true c9
                clear c9
                by_cases c10 : t201.toList = (rdOf ByteArray.empty l0 x18_1).toList
                · rw [if_pos c10] at H
                  have c10b0 : (t201.toList == (rdOf ByteArray.empty l0 x18_1).toList) = true := beq_iff_eq.mpr c10
                  have c10b1 : (t201.toList != (rdOf ByteArray.empty l0 x18_1).toList) = false := bne_eq_false_iff_eq.mpr c10
                  clear c10
                  by_cases c11 : (t202.length : Int) = (wrap64 ((wrap64 ((l0.length : Int) - x18_1)) - 1))
                  · rw [if_pos c11] at H
                    have c11b0 : ((t202.length : Int) == (wrap64 ((wrap64 ((l0.length : Int) - x18_1)) - 1))) = true := beq_iff_eq.mpr c11
                    have c11b1 : ((t202.length : Int) != (wrap64 ((wrap64 ((l0.length : Int) - x18_1)) - 1))) = false := bne_eq_false_iff_eq.mpr c11
                    clear c11
                    have H' := Aside0.mk H
                    clear H
                    obtain ⟨Ao12, co12, eo12⟩ := Kd.V_slice HO_3.out
                    subst eo12
                    go_wp2_with (first | ((with_reducible refine gate_callee (f := 9) rfl ?_); refine goesL_ (some 23) rfl rfl Try.func9 (by kernel_rfl) rfl #[.slice Ao12 x3_1.length co12, .int .i64 0] rfl (by (try simp only [List.map_toArray, List.map_cons, List.map_nil]); first | done | rfl | (simp only [List.length_drop, List.length_take]; rfl)) ?_; (with_reducible refine (bag_Take.calls _ _ x3_1 0 t201 t202 true _ ?side1 ?side2 A6.out).mono ?_); (case side1 => repeat (first | exact (Kd.V_reads' HO_3.out).2.2 | (with_reducible refine Kd.C_alloc ?_ _) | (with_reducible refine Kd.C_drewN ?_ _) | (with_reducible refine Kd.C_drew ?_))); (case side2 => exact (Kd.V_reads' HO_3.out).2.1); rintro e w13 ⟨v204, rfl, ho0, hb⟩; refine ⟨_, rfl, ?_⟩; have n0_ := Aside0.mk (Kd.V_elder' (by (with_reducible repeat (first | apply Kd.V_alloc | apply Kd.V_drewN | apply Kd.V_drew)); exact HO_0.out) (Kd.R_base ho0) hb); have n1_ := Aside0.mk (Kd.V_elder' (by (with_reducible repeat (first | apply Kd.V_alloc | apply Kd.V_drewN | apply Kd.V_drew)); exact HO_3.out) (Kd.R_base ho0) hb); have n2_ := Aside0.mk (Kd.R_lower (Kd.R_newM (M := fun k_ => (w.heap.size ≤ k_)) ho0 (below_size (by repeat (first | (with_reducible first | exact HB.out | apply below_alloc | apply pw_below_drewN | apply below_drew1) | exact HB.out))) (fun k_ h_ => h_)) (below_size (by repeat (first | (with_reducible first | exact HB.out | apply below_alloc | apply pw_below_drewN | apply below_drew1) | exact HB.out)))); have n3_ := Aside0.mk (below_step (by repeat (first | (with_reducible first | exact HB.out | apply below_alloc | apply pw_below_drewN | apply below_drew1) | exact HB.out)) hb); clear HO_0; clear HO_3; clear HB; have HO_0 := n0_; have HO_3 := n1_; have HO205 := n2_; have HB := n3_; clear n0_ n1_ n2_ n3_; (try clear hb); (try clear hb2); (try clear hk); (try clear hi); (try clear ho0); have p206 : 0 ≤ (x18_1 : Int) := of_decide_eq_true (by first | (with_reducible assumption) | assumption); have q206 : x18_1 < (l0.length : Int) := of_decide_eq_true (by first | (with_reducible assumption) | assumption); obtain ⟨ad206, e206, hx206_0⟩ := Kd.at_string (Kd.V_reads' HO_0.out).2.2 x18_1 p206 q206; cases e206; replace p206 := eq_true p206; replace q206 := eq_true q206; obtain ⟨Ao14, co14, eo14⟩ := Kd.R_slice HO205.out; subst eo14))
                    go_roundg k1
                    case measure => have := HK1.out; omega
                    case rel => exact ⟨(t202), (wrap64 (x18_1 + 1)), (by first | rfl | (simp; done) | (simp [*]; done)), H', ⟨by have := HK1.out; omega⟩, ⟨by (with_reducible repeat (first | apply Kd.V_alloc | apply Kd.V_drewN | apply Kd.V_drew)); exact Kd.V_mono HO_0.out (fun _ hk => hk.1)⟩, ⟨Kd.V_mono (Kd.R_V (by (with_reducible repeat (first | apply Kd.R_alloc | apply Kd.R_drewN | apply Kd.R_drew)); exact Kd.R_mono HO205.out (fun _ hk => hk.1))) (fun k_ hk => by first | exact ⟨(.inr (hk.1)), hk.2⟩ | exact (.inr (hk)))⟩, ⟨by repeat (first | (with_reducible first | exact HB.out | apply below_alloc | apply pw_below_drewN | apply below_drew1) | exact HB.out)⟩⟩
                  · rw [if_neg c11] at H
                    have c11b0 : ((t202.length : Int) == (wrap64 ((wrap64 ((l0.length : Int) - x18_1)) - 1))) = false := beq_eq_false_iff_ne.mpr c11
                    have c11b1 : ((t202.length : Int) != (wrap64 ((wrap64 ((l0.length : Int) - x18_1)) - 1))) = true := bne_iff_ne.mpr c11
                    exact absurd H (by simp)
                · rw [if_neg c10] at H
                  have c10b0 : (t201.toList == (rdOf ByteArray.empty l0 x18_1).toList) = false := beq_eq_false_iff_ne.mpr c10
                  have c10b1 : (t201.toList != (rdOf ByteArray.empty l0 x18_1).toList) = true := bne_iff_ne.mpr c10
                  exact absurd H (by simp)
              · rw [if_neg c9] at H
                exact absurd H (by simp)
            · rw [if_neg c8] at H
              exact absurd H (by simp)
          · replace c7 := Bool.eq_false_iff.mpr c7
            subst c7
            have H1 : (some false) = some true := by rw [if_neg (show ¬ (false = true) by decide)] at H; exact H
            clear H
            have H := H1
            clear H1
            exact absurd H (by simp)
        · rw [if_neg c5] at H
          have c5b0 : decide (x18_1 < (l0.length : Int)) = false := decide_eq_false c5
          clear c5
          replace H := Option.bind_eq_some_iff.mp H
          obtain ⟨⟨t207, t208, t209⟩, A150, H⟩ := H
          replace H : (if t209 = true then (some false) else (if (t208.length : Int) = 0 then ((switchboardlaw08_awake.f k1).bind fun t212 => (some t212)) else (some false))) = some true := H
          have A15 := Aside0.mk A150
          clear A150
          by_cases c16 : t209 = true
          · subst c16
            have H1 : (some false) = some true := by rw [if_pos rfl] at H; exact H
            clear H
            have H := H1
            clear H1
            exact absurd H (by simp)
          · replace c16 := Bool.eq_false_iff.mpr c16
            subst c16
            have H1 : (if (t208.length : Int) = 0 then ((switchboardlaw08_awake.f k1).bind fun t212 => (some t212)) else (some false)) = some true := by rw [if_neg (show ¬ (false = true) by decide)] at H; exact H
            clear H
            have H := H1
            clear H1
            by_cases c17 : (t208.length : Int) = 0
            · rw [if_pos c17] at H
              have c17b0 : ((t208.length : Int) == 0) = true := beq_iff_eq.mpr c17
              have c17b1 : ((t208.length : Int) != 0) = false := bne_eq_false_iff_eq.mpr c17
              clear c17
              replace H := Option.bind_eq_some_iff.mp H
              obtain ⟨t212, A180, H⟩ := H
              replace H : (some t212) = some true := H
              have A18 := Aside0.mk A180
              clear A180
              have hr_ := Aside0.mk (Option.some.inj H)
              obtain ⟨Ao19, co19, eo19⟩ := Kd.V_slice HO_3.out
              subst eo19
              go_wp2_with (first | ((with_reducible refine gate_callee (f := 9) rfl ?_); refine goesL_ (some 51) rfl rfl Try.func9 (by kernel_rfl) rfl #[.slice Ao19 x3_1.length co19, .int .i64 0] rfl (by (try simp only [List.map_toArray, List.map_cons, List.map_nil]); first | done | rfl | (simp only [List.length_drop, List.length_take]; rfl)) ?_; (with_reducible refine (bag_Take.calls _ _ x3_1 0 t207 t208 false _ ?side1 ?side2 A15.out).mono ?_); (case side1 => repeat (first | exact (Kd.V_reads' HO_3.out).2.2 | (with_reducible refine Kd.C_alloc ?_ _) | (with_reducible refine Kd.C_drewN ?_ _) | (with_reducible refine Kd.C_drew ?_))); (case side2 => exact (Kd.V_reads' HO_3.out).2.1); rintro e w20 ⟨v210, rfl, ho0, hb⟩; refine ⟨_, rfl, ?_⟩; have n0_ := Aside0.mk (Kd.V_elder' (by (with_reducible repeat (first | apply Kd.V_alloc | apply Kd.V_drewN | apply Kd.V_drew)); exact HO_0.out) (Kd.R_base ho0) hb); have n1_ := Aside0.mk (Kd.V_elder' (by (with_reducible repeat (first | apply Kd.V_alloc | apply Kd.V_drewN | apply Kd.V_drew)); exact HO_3.out) (Kd.R_base ho0) hb); have n2_ := Aside0.mk (Kd.R_lower (Kd.R_newM (M := fun k_ => (w.heap.size ≤ k_)) ho0 (below_size (by repeat (first | (with_reducible first | exact HB.out | apply below_alloc | apply pw_below_drewN | apply below_drew1) | exact HB.out))) (fun k_ h_ => h_)) (below_size (by repeat (first | (with_reducible first | exact HB.out | apply below_alloc | apply pw_below_drewN | apply below_drew1) | exact HB.out)))); have n3_ := Aside0.mk (below_step (by repeat (first | (with_reducible first | exact HB.out | apply below_alloc | apply pw_below_drewN | apply below_drew1) | exact HB.out)) hb); clear HO_0; clear HO_3; clear HB; have HO_0 := n0_; have HO_3 := n1_; have HO211 := n2_; have HB := n3_; clear n0_ n1_ n2_ n3_; (try clear hb); (try clear hb2); (try clear hk); (try clear hi); (try clear ho0); obtain ⟨Ao21, co21, eo21⟩ := Kd.R_slice HO211.out; subst eo21) | (go_at_call 8; (with_reducible refine (switchboardlaw08_awake.calls k1  t212 _ A18.out).mono ?_); rintro e w22 ⟨rfl, hb⟩; have n0_ := Aside0.mk (Kd.V_below (by (with_reducible repeat (first | apply Kd.V_alloc | apply Kd.V_drewN | apply Kd.V_drew)); exact HO_0.out) hb); have n1_ := Aside0.mk (Kd.V_below (by (with_reducible repeat (first | apply Kd.V_alloc | apply Kd.V_drewN | apply Kd.V_drew)); exact HO_3.out) hb); have n2_ := Aside0.mk (Kd.R_below (by (with_reducible repeat (first | apply Kd.R_alloc | apply Kd.R_drewN | apply Kd.R_drew)); exact HO211.out) hb); have n3_ := Aside0.mk (below_step (by repeat (first | (with_reducible first | exact HB.out | apply below_alloc | apply pw_below_drewN | apply below_drew1) | exact HB.out)) hb); clear HO_0; clear HO_3; clear HO211; clear HB; have HO_0 := n0_; have HO_3 := n1_; have HO211 := n2_; have HB := n3_; clear n0_ n1_ n2_ n3_; (try clear hb); (try clear hb2); (try clear hk); (try clear hi)))
              go_ret
              exact ⟨by first | rfl | exact congrArg (fun b_ => Ending.returned (Value.bool b_)) hr_.out | exact congrArg (fun b_ => Ending.returned (Value.bool b_)) hr_.out | (simp [errW_none, errW_some] <;> rfl) | (simp [*, errW_none, errW_some] <;> rfl), by repeat (first | (with_reducible first | exact HB.out | apply below_alloc | apply pw_below_drewN | apply below_drew1) | exact HB.out)⟩
            · rw [if_neg c17] at H
              have c17b0 : ((t208.length : Int) == 0) = false := beq_eq_false_iff_ne.mpr c17
              have c17b1 : ((t208.length : Int) != 0) = true := bne_iff_ne.mpr c17
              have c17b2 : ¬ (t208 = []) := fun h_ => c17 (by rw [h_]; rfl)
              exact absurd H (by simp)

/-! ### switchboardlaw08_BagSame: function 6 -/
def switchboardlaw08_BagSame.j0 : Nat → List ByteArray → Int → Bool → Option (Bool)
  | 0, _, _, _ => none
  | k + 1, x0, x1, x24 => if x24 = true then ((switchboardlaw08_awake.f k).bind fun t213 => (some t213)) else ((bag_Twice.f k x0 x1).bind fun t214 => ((bag_Take.f t214 (x0.length : Int)).bind fun bt217 => ((bag_Take.f x0 x1).bind fun bt222 => (if (t214.length : Int) = (wrap64 ((x0.length : Int) + 1)) then (if bt217.2.2 = true then (if bt222.2.2 = true then (if bt217.1.toList = bt222.1.toList then (if 0 ≤ x1 then (if x1 < (x0.length : Int) then (if bt217.1.toList = (rdOf ByteArray.empty x0 x1).toList then ((switchboardref08_Same.f k bt217.2.1 x0).bind fun t228 => (if t228 = true then (if (bt222.2.1.length : Int) = (wrap64 ((x0.length : Int) - 1)) then ((switchboardref08_Without.f k x0 x1).bind fun t229 => ((switchboardref08_Same.f k bt222.2.1 t229).bind fun t232 => (if t232 = true then ((switchboardlaw08_awake.f k).bind fun t233 => (some t233)) else (some false)))) else (some false)) else (some false))) else (some false)) else (none)) else (none)) else (some false)) else (some false)) else (some false)) else (some false)))))
def switchboardlaw08_BagSame.f (k : Nat) (l0 : List ByteArray) (a1 : Int) : Option (Bool) := if (l0.length : Int) > 199 then (switchboardlaw08_BagSame.j0 k l0 a1 true) else (if a1 < 0 then (switchboardlaw08_BagSame.j0 k l0 a1 true) else (switchboardlaw08_BagSame.j0 k l0 a1 (decide (a1 ≥ (l0.length : Int)))))
theorem switchboardlaw08_BagSame.mono_l : ∀ k, (∀ y0 y1 y2, LeO (switchboardlaw08_BagSame.j0 k y0 y1 y2) (switchboardlaw08_BagSame.j0 (k + 1) y0 y1 y2))
  | 0 => fun _ _ _ r h => by simp [switchboardlaw08_BagSame.j0] at h
  | k + 1 => by
    have ih0 := switchboardlaw08_BagSame.mono_l k
    · intro y0 y1 y2
      unfold switchboardlaw08_BagSame.j0
      repeat' first
      | (with_reducible exact ih0 _ _ _)
      | (with_reducible exact bag_Twice.mono _ _ _)
      | (with_reducible exact switchboardlaw08_awake.mono _)
      | (with_reducible exact switchboardref08_Same.mono _ _ _)
      | (with_reducible exact switchboardref08_Without.mono _ _ _)
      | (with_reducible exact LeO.refl _)
      | (with_reducible exact LeO.none _)
      | (with_reducible refine LeO.ite ?_ ?_)
      | (with_reducible refine LeO.bind ?_ (fun _ => ?_))
      | exact ih0 _ _ _
      | exact bag_Twice.mono _ _ _
      | exact switchboardlaw08_awake.mono _
      | exact switchboardref08_Same.mono _ _ _
      | exact switchboardref08_Without.mono _ _ _
      | exact LeO.none _
      | refine LeO.ite ?_ ?_
      | refine LeO.bind ?_ (fun _ => ?_)
theorem switchboardlaw08_BagSame.mono : ∀ a0 a1 k, LeO (switchboardlaw08_BagSame.f k a0 a1) (switchboardlaw08_BagSame.f (k + 1) a0 a1) := by
  intro a0 a1 k
  have ih0 := switchboardlaw08_BagSame.mono_l k
  unfold switchboardlaw08_BagSame.f
  repeat' first
      | (with_reducible exact ih0 _ _ _)
      | (with_reducible exact bag_Twice.mono _ _ _)
      | (with_reducible exact switchboardlaw08_awake.mono _)
      | (with_reducible exact switchboardref08_Same.mono _ _ _)
      | (with_reducible exact switchboardref08_Without.mono _ _ _)
      | (with_reducible exact LeO.refl _)
      | (with_reducible exact LeO.none _)
      | (with_reducible refine LeO.ite ?_ ?_)
      | (with_reducible refine LeO.bind ?_ (fun _ => ?_))
      | exact ih0 _ _ _
      | exact bag_Twice.mono _ _ _
      | exact switchboardlaw08_awake.mono _
      | exact switchboardref08_Same.mono _ _ _
      | exact switchboardref08_Without.mono _ _ _
      | exact LeO.none _
      | refine LeO.ite ?_ ?_
      | refine LeO.bind ?_ (fun _ => ?_)
set_option maxHeartbeats 8000000 in
set_option maxRecDepth 100000 in
theorem switchboardlaw08_BagSame.calls (k : Nat) (A0 : Option Addr) (c0 : Nat) (l0 : List ByteArray) (a1 : Int) (w : World) (hr0 : Kd.C Kd.string w A0 l0.length l0) (hc0 : l0.length ≤ c0) (h : switchboardlaw08_BagSame.f k l0 a1 = some true) :
    Calls Try.prog 6 #[.slice A0 l0.length c0, .int .i64 a1] w fun e w' => e = .returned (.bool true) ∧ Below w.heap.size w w' := by
  have HR0 := Aside0.mk hr0
  have HC0 := Aside0.mk hc0
  clear hr0 hc0
  have HB := Aside0.mk (Below.refl w.heap.size w)
  have H : (if (l0.length : Int) > 199 then (switchboardlaw08_BagSame.j0 k l0 a1 true) else (if a1 < 0 then (switchboardlaw08_BagSame.j0 k l0 a1 true) else (switchboardlaw08_BagSame.j0 k l0 a1 (decide (a1 ≥ (l0.length : Int)))))) = some true := h
  clear h
  have HC3 := Aside0.mk H
  clear H
  go_enter Try.func6, Try.ntmps6
  go_upto_region 1 with (fail)
  go_cut [24] (fun v24 wc => ∃ (kq : Nat) (x24_2 : Bool), v24 = .bool x24_2 ∧ Aside0 (switchboardlaw08_BagSame.j0 kq l0 a1 x24_2 = some true) ∧ Aside0 (kq ≤ k) ∧ Aside0 (Below w.heap.size w wc))
  case first =>
    have H := HC3.out
    clear HC3
    by_cases c4 : (l0.length : Int) > 199
    · rw [if_pos c4] at H
      have c4b0 : decide (199 < (l0.length : Int)) = true := decide_eq_true c4
      have c4b1 : decide (199 < l0.length) = true := decide_eq_true (by omega)
      clear c4
      (first | rw [c4b0] | (simp only [i64_w, i32_w]; rw [c4b0]) | skip)
      have H' := Aside0.mk H
      clear H
      go_wp2
      go_meet
      case rel => exact ⟨_, (true), (by first | rfl | (simp; done) | (simp [*]; done)), H', ⟨by first | omega | exact Nat.le_refl _⟩, ⟨by repeat (first | (with_reducible first | exact HB.out | apply below_alloc | apply pw_below_drewN | apply below_drew1) | exact HB.out)⟩⟩
    · rw [if_neg c4] at H
      have c4b0 : decide (199 < (l0.length : Int)) = false := decide_eq_false c4
      have c4b1 : decide (199 < l0.length) = false := decide_eq_false (by omega)
      clear c4
      (first | rw [c4b0] | (simp only [i64_w, i32_w]; rw [c4b0]) | skip)
      by_cases c5 : a1 < 0
      · rw [if_pos c5] at H
        have c5b0 : decide (a1 < 0) = true := decide_eq_true c5
        clear c5
        have H' := Aside0.mk H
        clear H
        go_wp2
        go_meet
        case rel => exact ⟨_, (true), (by first | rfl | (simp; done) | (simp [*]; done)), H', ⟨by first | omega | exact Nat.le_refl _⟩, ⟨by repeat (first | (with_reducible first | exact HB.out | apply below_alloc | apply pw_below_drewN | apply below_drew1) | exact HB.out)⟩⟩
      · rw [if_neg c5] at H
        have c5b0 : decide (a1 < 0) = false := decide_eq_false c5
        clear c5
        have H' := Aside0.mk H
        clear H
        go_wp2
        go_meet
        case rel => exact ⟨_, (decide (a1 ≥ (l0.length : Int))), (by first | rfl | (simp; done) | (simp [*]; done)), H', ⟨by first | omega | exact Nat.le_refl _⟩, ⟨by repeat (first | (with_reducible first | exact HB.out | apply below_alloc | apply pw_below_drewN | apply below_drew1) | exact HB.out)⟩⟩
  case rest =>
    clear HC3
    try clear p2
    try clear c4
    try clear c4b0
    try clear c4b1
    try clear c5
    try clear c5b0
    obtain ⟨kq, x24_2, rfl, HA, HJ2, HB⟩ := hcut
    cases kq with
    | zero => exact absurd HA.out (by simp [switchboardlaw08_BagSame.j0])
    | succ kj2 =>
      have H := HA.out
      clear HA
      simp only [switchboardlaw08_BagSame.j0] at H
      by_cases c6 : x24_2 = true
      · subst c6
        have H1 : ((switchboardlaw08_awake.f kj2).bind fun t213 => (some t213)) = some true := by rw [if_pos rfl] at H; exact H
        clear H
        have H := H1
        clear H1
        replace H := Option.bind_eq_some_iff.mp H
        obtain ⟨t213, A70, H⟩ := H
        replace H : (some t213) = some true := H
        have A7 := Aside0.mk A70
        clear A70
        have hr_ := Aside0.mk (Option.some.inj H)
        go_wp2_with (first | ((with_reducible refine gate_callee (f := 8) rfl ?_); refine goesL_ (some 25) rfl rfl Try.func8 (by kernel_rfl) rfl #[] rfl (by (try simp only [List.map_toArray, List.map_cons, List.map_nil]); first | done | rfl | (simp only [List.length_drop, List.length_take]; rfl)) ?_; (with_reducible refine (switchboardlaw08_awake.calls kj2  t213 _ A7.out).mono ?_); rintro e w8 ⟨rfl, hb⟩; refine ⟨_, rfl, ?_⟩; have n0_ := Aside0.mk (below_step (by repeat (first | (with_reducible first | exact HB.out | apply below_alloc | apply pw_below_drewN | apply below_drew1) | exact HB.out)) hb); clear HB; have HB := n0_; clear n0_; (try clear hb); (try clear hb2); (try clear hk); (try clear hi)))
        go_ret
        exact ⟨by first | rfl | exact congrArg (fun b_ => Ending.returned (Value.bool b_)) hr_.out | exact congrArg (fun b_ => Ending.returned (Value.bool b_)) hr_.out | (simp [errW_none, errW_some] <;> rfl) | (simp [*, errW_none, errW_some] <;> rfl), by repeat (first | (with_reducible first | exact HB.out | apply below_alloc | apply pw_below_drewN | apply below_drew1) | exact HB.out)⟩
      · replace c6 := Bool.eq_false_iff.mpr c6
        subst c6
        have H1 : ((bag_Twice.f kj2 l0 a1).bind fun t214 => ((bag_Take.f t214 (l0.length : Int)).bind fun bt217 => ((bag_Take.f l0 a1).bind fun bt222 => (if (t214.length : Int) = (wrap64 ((l0.length : Int) + 1)) then (if bt217.2.2 = true then (if bt222.2.2 = true then (if bt217.1.toList = bt222.1.toList then (if 0 ≤ a1 then (if a1 < (l0.length : Int) then (if bt217.1.toList = (rdOf ByteArray.empty l0 a1).toList then ((switchboardref08_Same.f kj2 bt217.2.1 l0).bind fun t228 => (if t228 = true then (if (bt222.2.1.length : Int) = (wrap64 ((l0.length : Int) - 1)) then ((switchboardref08_Without.f kj2 l0 a1).bind fun t229 => ((switchboardref08_Same.f kj2 bt222.2.1 t229).bind fun t232 => (if t232 = true then ((switchboardlaw08_awake.f kj2).bind fun t233 => (some t233)) else (some false)))) else (some false)) else (some false))) else (some false)) else (none)) else (none)) else (some false)) else (some false)) else (some false)) else (some false))))) = some true := by rw [if_neg (show ¬ (false = true) by decide)] at H; exact H
        clear H
        have H := H1
        clear H1
        replace H := Option.bind_eq_some_iff.mp H
        obtain ⟨t214, A90, H⟩ := H
        replace H : ((bag_Take.f t214 (l0.length : Int)).bind fun bt217 => ((bag_Take.f l0 a1).bind fun bt222 => (if (t214.length : Int) = (wrap64 ((l0.length : Int) + 1)) then (if bt217.2.2 = true then (if bt222.2.2 = true then (if bt217.1.toList = bt222.1.toList then (if 0 ≤ a1 then (if a1 < (l0.length : Int) then (if bt217.1.toList = (rdOf ByteArray.empty l0 a1).toList then ((switchboardref08_Same.f kj2 bt217.2.1 l0).bind fun t228 => (if t228 = true then (if (bt222.2.1.length : Int) = (wrap64 ((l0.length : Int) - 1)) then ((switchboardref08_Without.f kj2 l0 a1).bind fun t229 => ((switchboardref08_Same.f kj2 bt222.2.1 t229).bind fun t232 => (if t232 = true then ((switchboardlaw08_awake.f kj2).bind fun t233 => (some t233)) else (some false)))) else (some false)) else (some false))) else (some false)) else (none)) else (none)) else (some false)) else (some false)) else (some false)) else (some false)))) = some true := H
        have A9 := Aside0.mk A90
        clear A90
        replace H := Option.bind_eq_some_iff.mp H
        obtain ⟨⟨t217, t218, t219⟩, A100, H⟩ := H
        replace H : ((bag_Take.f l0 a1).bind fun bt222 => (if (t214.length : Int) = (wrap64 ((l0.length : Int) + 1)) then (if t219 = true then (if bt222.2.2 = true then (if t217.toList = bt222.1.toList then (if 0 ≤ a1 then (if a1 < (l0.length : Int) then (if t217.toList = (rdOf ByteArray.empty l0 a1).toList then ((switchboardref08_Same.f kj2 t218 l0).bind fun t228 => (if t228 = true then (if (bt222.2.1.length : Int) = (wrap64 ((l0.length : Int) - 1)) then ((switchboardref08_Without.f kj2 l0 a1).bind fun t229 => ((switchboardref08_Same.f kj2 bt222.2.1 t229).bind fun t232 => (if t232 = true then ((switchboardlaw08_awake.f kj2).bind fun t233 => (some t233)) else (some false)))) else (some false)) else (some false))) else (some false)) else (none)) else (none)) else (some false)) else (some false)) else (some false)) else (some false))) = some true := H
        have A10 := Aside0.mk A100
        clear A100
        replace H := Option.bind_eq_some_iff.mp H
        obtain ⟨⟨t222, t223, t224⟩, A110, H⟩ := H
        replace H : (if (t214.length : Int) = (wrap64 ((l0.length : Int) + 1)) then (if t219 = true then (if t224 = true then (if t217.toList = t222.toList then (if 0 ≤ a1 then (if a1 < (l0.length : Int) then (if t217.toList = (rdOf ByteArray.empty l0 a1).toList then ((switchboardref08_Same.f kj2 t218 l0).bind fun t228 => (if t228 = true then (if (t223.length : Int) = (wrap64 ((l0.length : Int) - 1)) then ((switchboardref08_Without.f kj2 l0 a1).bind fun t229 => ((switchboardref08_Same.f kj2 t223 t229).bind fun t232 => (if t232 = true then ((switchboardlaw08_awake.f kj2).bind fun t233 => (some t233)) else (some false)))) else (some false)) else (some false))) else (some false)) else (none)) else (none)) else (some false)) else (some false)) else (some false)) else (some false)) = some true := H
        have A11 := Aside0.mk A110
        clear A110
        by_cases c12 : (t214.length : Int) = (wrap64 ((l0.length : Int) + 1))
        · rw [if_pos c12] at H
          have c12b0 : ((t214.length : Int) == (wrap64 ((l0.length : Int) + 1))) = true := beq_iff_eq.mpr c12
          have c12b1 : ((t214.length : Int) != (wrap64 ((l0.length : Int) + 1))) = false := bne_eq_false_iff_eq.mpr c12
          clear c12
          by_cases c13 : t219 = true
          · subst c13
            have H1 : (if t224 = true then (if t217.toList = t222.toList then (if 0 ≤ a1 then (if a1 < (l0.length : Int) then (if t217.toList = (rdOf ByteArray.empty l0 a1).toList then ((switchboardref08_Same.f kj2 t218 l0).bind fun t228 => (if t228 = true then (if (t223.length : Int) = (wrap64 ((l0.length : Int) - 1)) then ((switchboardref08_Without.f kj2 l0 a1).bind fun t229 => ((switchboardref08_Same.f kj2 t223 t229).bind fun t232 => (if t232 = true then ((switchboardlaw08_awake.f kj2).bind fun t233 => (some t233)) else (some false)))) else (some false)) else (some false))) else (some false)) else (none)) else (none)) else (some false)) else (some false)) = some true := by rw [if_pos rfl] at H; exact H
            clear H
            have H := H1
            clear H1
            by_cases c14 : t224 = true
            · subst c14
              have H1 : (if t217.toList = t222.toList then (if 0 ≤ a1 then (if a1 < (l0.length : Int) then (if t217.toList = (rdOf ByteArray.empty l0 a1).toList then ((switchboardref08_Same.f kj2 t218 l0).bind fun t228 => (if t228 = true then (if (t223.length : Int) = (wrap64 ((l0.length : Int) - 1)) then ((switchboardref08_Without.f kj2 l0 a1).bind fun t229 => ((switchboardref08_Same.f kj2 t223 t229).bind fun t232 => (if t232 = true then ((switchboardlaw08_awake.f kj2).bind fun t233 => (some t233)) else (some false)))) else (some false)) else (some false))) else (some false)) else (none)) else (none)) else (some false)) = some true := by rw [if_pos rfl] at H; exact H
              clear H
              have H := H1
              clear H1
              by_cases c15 : t217.toList = t222.toList
              · rw [if_pos c15] at H
                have c15b0 : (t217.toList == t222.toList) = true := beq_iff_eq.mpr c15
                have c15b1 : (t217.toList != t222.toList) = false := bne_eq_false_iff_eq.mpr c15
                clear c15
                by_cases c16 : 0 ≤ a1
                · rw [if_pos c16] at H
                  have c16b0 : decide (0 ≤ a1) = true := decide_eq_true c16
                  clear c16
                  by_cases c17 : a1 < (l0.length : Int)
                  · rw [if_pos c17] at H
                    have c17b0 : decide (a1 < (l0.length : Int)) = true := decide_eq_true c17
                    clear c17
                    by_cases c18 : t217.toList = (rdOf ByteArray.empty l0 a1).toList
                    · rw [if_pos c18] at H
                      have c18b0 : (t217.toList == (rdOf ByteArray.empty l0 a1).toList) = true := beq_iff_eq.mpr c18
                      have c18b1 : (t217.toList != (rdOf ByteArray.empty l0 a1).toList) = false := bne_eq_false_iff_eq.mpr c18
                      clear c18
                      replace H := Option.bind_eq_some_iff.mp H
                      obtain ⟨t228, A190, H⟩ := H
                      replace H : (if t228 = true then (if (t223.length : Int) = (wrap64 ((l0.length : Int) - 1)) then ((switchboardref08_Without.f kj2 l0 a1).bind fun t229 => ((switchboardref08_Same.f kj2 t223 t229).bind fun t232 => (if t232 = true then ((switchboardlaw08_awake.f kj2).bind fun t233 => (some t233)) else (some false)))) else (some false)) else (some false)) = some true := H
                      have A19 := Aside0.mk A190
                      clear A190
                      by_cases c20 : t228 = true
                      · subst c20
                        have H1 : (if (t223.length : Int) = (wrap64 ((l0.length : Int) - 1)) then ((switchboardref08_Without.f kj2 l0 a1).bind fun t229 => ((switchboardref08_Same.f kj2 t223 t229).bind fun t232 => (if t232 = true then ((switchboardlaw08_awake.f kj2).bind fun t233 => (some t233)) else (some false)))) else (some false)) = some true := by rw [if_pos rfl] at H; exact H
                        clear H
                        have H := H1
                        clear H1
                        by_cases c21 : (t223.length : Int) = (wrap64 ((l0.length : Int) - 1))
                        · rw [if_pos c21] at H
                          have c21b0 : ((t223.length : Int) == (wrap64 ((l0.length : Int) - 1))) = true := beq_iff_eq.mpr c21
                          have c21b1 : ((t223.length : Int) != (wrap64 ((l0.length : Int) - 1))) = false := bne_eq_false_iff_eq.mpr c21
                          clear c21
                          replace H := Option.bind_eq_some_iff.mp H
                          obtain ⟨t229, A220, H⟩ := H
                          replace H : ((switchboardref08_Same.f kj2 t223 t229).bind fun t232 => (if t232 = true then ((switchboardlaw08_awake.f kj2).bind fun t233 => (some t233)) else (some false))) = some true := H
                          have A22 := Aside0.mk A220
                          clear A220
                          replace H := Option.bind_eq_some_iff.mp H
                          obtain ⟨t232, A230, H⟩ := H
                          replace H : (if t232 = true then ((switchboardlaw08_awake.f kj2).bind fun t233 => (some t233)) else (some false)) = some true := H
                          have A23 := Aside0.mk A230
                          clear A230
                          by_cases c24 : t232 = true
                          · subst c24
                            have H1 : ((switchboardlaw08_awake.f kj2).bind fun t233 => (some t233)) = some true := by rw [if_pos rfl] at H; exact H
                            clear H
                            have H := H1
                            clear H1
                            replace H := Option.bind_eq_some_iff.mp H
                            obtain ⟨t233, A250, H⟩ := H
                            replace H : (some t233) = some true := H
                            have A25 := Aside0.mk A250
                            clear A250
                            have hr_ := Aside0.mk (Option.some.inj H)
                            go_wp2_with (first | ((with_reducible refine gate_callee (f := 11) rfl ?_); refine goesL_ (some 28) rfl rfl Try.func11 (by kernel_rfl) rfl #[.slice A0 l0.length c0, .int .i64 a1] rfl (by (try simp only [List.map_toArray, List.map_cons, List.map_nil]); first | done | rfl | (simp only [List.length_drop, List.length_take]; rfl)) ?_; (with_reducible refine (bag_Twice.calls kj2 _ _ l0 a1 t214 _ ?side1 ?side2 A9.out).mono ?_); (case side1 => repeat (first | exact (Kd.C_below HR0.out HB.out) | (with_reducible refine Kd.C_alloc ?_ _) | (with_reducible refine Kd.C_drewN ?_ _) | (with_reducible refine Kd.C_drew ?_))); (case side2 => exact HC0.out); rintro e w26 ⟨v215, rfl, ho0, hb⟩; refine ⟨_, rfl, ?_⟩; have n0_ := Aside0.mk (Kd.R_lower ho0 (below_size (by repeat (first | (with_reducible first | exact HB.out | apply below_alloc | apply pw_below_drewN | apply below_drew1) | exact HB.out)))); have n1_ := Aside0.mk (below_step (by repeat (first | (with_reducible first | exact HB.out | apply below_alloc | apply pw_below_drewN | apply below_drew1) | exact HB.out)) hb); clear HB; have HO216 := n0_; have HB := n1_; clear n0_ n1_; (try clear hb); (try clear hb2); (try clear hk); (try clear hi); (try clear ho0); obtain ⟨Ao27, co27, eo27⟩ := Kd.R_slice HO216.out; subst eo27) | ((with_reducible refine gate_callee (f := 9) rfl ?_); refine goesL_ (some 33) rfl rfl Try.func9 (by kernel_rfl) rfl #[.slice Ao27 t214.length co27, .int .i64 (l0.length : Int)] rfl (by (try simp only [List.map_toArray, List.map_cons, List.map_nil]); first | done | rfl | (simp only [List.length_drop, List.length_take]; rfl)) ?_; (with_reducible refine (bag_Take.calls _ _ t214 (l0.length : Int) t217 t218 true _ ?side1 ?side2 A10.out).mono ?_); (case side1 => repeat (first | exact (Kd.R_reads' HO216.out).2.2 | (with_reducible refine Kd.C_alloc ?_ _) | (with_reducible refine Kd.C_drewN ?_ _) | (with_reducible refine Kd.C_drew ?_))); (case side2 => exact (Kd.R_reads' HO216.out).2.1); rintro e w28 ⟨v220, rfl, ho0, hb⟩; refine ⟨_, rfl, ?_⟩; have n0_ := Aside0.mk (Kd.R_elder' (by (with_reducible repeat (first | apply Kd.R_alloc | apply Kd.R_drewN | apply Kd.R_drew)); exact HO216.out) (Kd.R_base ho0) hb); have n1_ := Aside0.mk (Kd.R_lower (Kd.R_new' ho0 (Kd.R_lt (by (with_reducible repeat (first | apply Kd.R_alloc | apply Kd.R_drewN | apply Kd.R_drew)); exact HO216.out))) (below_size (by repeat (first | (with_reducible first | exact HB.out | apply below_alloc | apply pw_below_drewN | apply below_drew1) | exact HB.out)))); have n2_ := Aside0.mk (below_step (by repeat (first | (with_reducible first | exact HB.out | apply below_alloc | apply pw_below_drewN | apply below_drew1) | exact HB.out)) hb); clear HO216; clear HB; have HO216 := n0_; have HO221 := n1_; have HB := n2_; clear n0_ n1_ n2_; (try clear hb); (try clear hb2); (try clear hk); (try clear hi); (try clear ho0)) | ((with_reducible refine gate_callee (f := 9) rfl ?_); refine goesL_ (some 40) rfl rfl Try.func9 (by kernel_rfl) rfl #[.slice A0 l0.length c0, .int .i64 a1] rfl (by (try simp only [List.map_toArray, List.map_cons, List.map_nil]); first | done | rfl | (simp only [List.length_drop, List.length_take]; rfl)) ?_; (with_reducible refine (bag_Take.calls _ _ l0 a1 t222 t223 true _ ?side1 ?side2 A11.out).mono ?_); (case side1 => repeat (first | exact (Kd.C_below HR0.out HB.out) | (with_reducible refine Kd.C_alloc ?_ _) | (with_reducible refine Kd.C_drewN ?_ _) | (with_reducible refine Kd.C_drew ?_))); (case side2 => exact HC0.out); rintro e w29 ⟨v225, rfl, ho0, hb⟩; refine ⟨_, rfl, ?_⟩; have n0_ := Aside0.mk (Kd.R_elder' (by (with_reducible repeat (first | apply Kd.R_alloc | apply Kd.R_drewN | apply Kd.R_drew)); exact HO216.out) (Kd.R_base ho0) hb); have n1_ := Aside0.mk (Kd.R_elder' (by (with_reducible repeat (first | apply Kd.R_alloc | apply Kd.R_drewN | apply Kd.R_drew)); exact HO221.out) (Kd.R_base ho0) hb); have n2_ := Aside0.mk (Kd.R_lower (Kd.R_new' (Kd.R_new' ho0 (Kd.R_lt (by (with_reducible repeat (first | apply Kd.R_alloc | apply Kd.R_drewN | apply Kd.R_drew)); exact HO216.out))) (Kd.R_lt (by (with_reducible repeat (first | apply Kd.R_alloc | apply Kd.R_drewN | apply Kd.R_drew)); exact HO221.out))) (below_size (by repeat (first | (with_reducible first | exact HB.out | apply below_alloc | apply pw_below_drewN | apply below_drew1) | exact HB.out)))); have n3_ := Aside0.mk (below_step (by repeat (first | (with_reducible first | exact HB.out | apply below_alloc | apply pw_below_drewN | apply below_drew1) | exact HB.out)) hb); clear HO216; clear HO221; clear HB; have HO216 := n0_; have HO221 := n1_; have HO226 := n2_; have HB := n3_; clear n0_ n1_ n2_ n3_; (try clear hb); (try clear hb2); (try clear hk); (try clear hi); (try clear ho0); have p227 : 0 ≤ (a1 : Int) := of_decide_eq_true (by first | (with_reducible assumption) | assumption); have q227 : a1 < (l0.length : Int) := of_decide_eq_true (by first | (with_reducible assumption) | assumption); obtain ⟨ad227, e227, hx227_0⟩ := Kd.at_string HR0.out a1 p227 q227; cases e227; replace hx227_0 := (HB.out.cell (World.block_lt_of_cell? w _ hx227_0)).trans hx227_0; replace p227 := eq_true p227; replace q227 := eq_true q227; obtain ⟨Ao30, co30, eo30⟩ := Kd.R_slice HO221.out; subst eo30) | (go_at_call 10; (with_reducible refine (switchboardref08_Same.calls kj2 _ _ t218 _ _ l0 true _ ?side1 ?side2 ?side3 ?side4 A19.out).mono ?_); (case side1 => repeat (first | exact (Kd.R_reads' HO221.out).2.2 | (with_reducible refine Kd.C_alloc ?_ _) | (with_reducible refine Kd.C_drewN ?_ _) | (with_reducible refine Kd.C_drew ?_))); (case side2 => exact (Kd.R_reads' HO221.out).2.1); (case side3 => repeat (first | exact (Kd.C_below HR0.out HB.out) | (with_reducible refine Kd.C_alloc ?_ _) | (with_reducible refine Kd.C_drewN ?_ _) | (with_reducible refine Kd.C_drew ?_))); (case side4 => exact HC0.out); rintro e w' ⟨rfl, ⟨nd, rfl⟩⟩; obtain ⟨Ao31, co31, eo31⟩ := Kd.R_slice HO226.out; subst eo31) | (go_at_call 13; (with_reducible refine (switchboardref08_Without.calls kj2 _ _ l0 a1 t229 _ ?side1 ?side2 A22.out).mono ?_); (case side1 => repeat (first | exact (Kd.C_below HR0.out (by repeat (first | (with_reducible first | exact HB.out | apply below_alloc | apply pw_below_drewN | apply below_drew1) | exact HB.out))) | (with_reducible refine Kd.C_alloc ?_ _) | (with_reducible refine Kd.C_drewN ?_ _) | (with_reducible refine Kd.C_drew ?_))); (case side2 => exact HC0.out); rintro e w32 ⟨v230, rfl, ho0, hb⟩; have n0_ := Aside0.mk (Kd.R_elder' (by (with_reducible repeat (first | apply Kd.R_alloc | apply Kd.R_drewN | apply Kd.R_drew)); exact HO216.out) (Kd.R_base ho0) hb); have n1_ := Aside0.mk (Kd.R_elder' (by (with_reducible repeat (first | apply Kd.R_alloc | apply Kd.R_drewN | apply Kd.R_drew)); exact HO221.out) (Kd.R_base ho0) hb); have n2_ := Aside0.mk (Kd.R_elder' (by (with_reducible repeat (first | apply Kd.R_alloc | apply Kd.R_drewN | apply Kd.R_drew)); exact HO226.out) (Kd.R_base ho0) hb); have n3_ := Aside0.mk (Kd.R_lower (Kd.R_new' (Kd.R_new' (Kd.R_new' ho0 (Kd.R_lt (by (with_reducible repeat (first | apply Kd.R_alloc | apply Kd.R_drewN | apply Kd.R_drew)); exact HO216.out))) (Kd.R_lt (by (with_reducible repeat (first | apply Kd.R_alloc | apply Kd.R_drewN | apply Kd.R_drew)); exact HO221.out))) (Kd.R_lt (by (with_reducible repeat (first | apply Kd.R_alloc | apply Kd.R_drewN | apply Kd.R_drew)); exact HO226.out))) (below_size (by repeat (first | (with_reducible first | exact HB.out | apply below_alloc | apply pw_below_drewN | apply below_drew1) | exact HB.out)))); have n4_ := Aside0.mk (below_step (by repeat (first | (with_reducible first | exact HB.out | apply below_alloc | apply pw_below_drewN | apply below_drew1) | exact HB.out)) hb); clear HO216; clear HO221; clear HO226; clear HB; have HO216 := n0_; have HO221 := n1_; have HO226 := n2_; have HO231 := n3_; have HB := n4_; clear n0_ n1_ n2_ n3_ n4_; (try clear hb); (try clear hb2); (try clear hk); (try clear hi); (try clear ho0); obtain ⟨Ao33, co33, eo33⟩ := Kd.R_slice HO231.out; subst eo33) | (go_at_call 10; (with_reducible refine (switchboardref08_Same.calls kj2 _ _ t223 _ _ t229 true _ ?side1 ?side2 ?side3 ?side4 A23.out).mono ?_); (case side1 => repeat (first | exact (Kd.R_reads' HO226.out).2.2 | (with_reducible refine Kd.C_alloc ?_ _) | (with_reducible refine Kd.C_drewN ?_ _) | (with_reducible refine Kd.C_drew ?_))); (case side2 => exact (Kd.R_reads' HO226.out).2.1); (case side3 => repeat (first | exact (Kd.R_reads' HO231.out).2.2 | (with_reducible refine Kd.C_alloc ?_ _) | (with_reducible refine Kd.C_drewN ?_ _) | (with_reducible refine Kd.C_drew ?_))); (case side4 => exact (Kd.R_reads' HO231.out).2.1); rintro e w' ⟨rfl, ⟨nd, rfl⟩⟩) | (go_at_call 8; (with_reducible refine (switchboardlaw08_awake.calls kj2  t233 _ A25.out).mono ?_); rintro e w34 ⟨rfl, hb⟩; have n0_ := Aside0.mk (Kd.R_below (by (with_reducible repeat (first | apply Kd.R_alloc | apply Kd.R_drewN | apply Kd.R_drew)); exact HO216.out) hb); have n1_ := Aside0.mk (Kd.R_below (by (with_reducible repeat (first | apply Kd.R_alloc | apply Kd.R_drewN | apply Kd.R_drew)); exact HO221.out) hb); have n2_ := Aside0.mk (Kd.R_below (by (with_reducible repeat (first | apply Kd.R_alloc | apply Kd.R_drewN | apply Kd.R_drew)); exact HO226.out) hb); have n3_ := Aside0.mk (Kd.R_below (by (with_reducible repeat (first | apply Kd.R_alloc | apply Kd.R_drewN | apply Kd.R_drew)); exact HO231.out) hb); have n4_ := Aside0.mk (below_step (by repeat (first | (with_reducible first | exact HB.out | apply below_alloc | apply pw_below_drewN | apply below_drew1) | exact HB.out)) hb); clear HO216; clear HO221; clear HO226; clear HO231; clear HB; have HO216 := n0_; have HO221 := n1_; have HO226 := n2_; have HO231 := n3_; have HB := n4_; clear n0_ n1_ n2_ n3_ n4_; (try clear hb); (try clear hb2); (try clear hk); (try clear hi)))
                            go_ret
                            exact ⟨by first | rfl | exact congrArg (fun b_ => Ending.returned (Value.bool b_)) hr_.out | exact congrArg (fun b_ => Ending.returned (Value.bool b_)) hr_.out | (simp [errW_none, errW_some] <;> rfl) | (simp [*, errW_none, errW_some] <;> rfl), by repeat (first | (with_reducible first | exact HB.out | apply below_alloc | apply pw_below_drewN | apply below_drew1) | exact HB.out)⟩
                          · replace c24 := Bool.eq_false_iff.mpr c24
                            subst c24
                            have H1 : (some false) = some true := by rw [if_neg (show ¬ (false = true) by decide)] at H; exact H
                            clear H
                            have H := H1
                            clear H1
                            exact absurd H (by simp)
                        · rw [if_neg c21] at H
                          have c21b0 : ((t223.length : Int) == (wrap64 ((l0.length : Int) - 1))) = false := beq_eq_false_iff_ne.mpr c21
                          have c21b1 : ((t223.length : Int) != (wrap64 ((l0.length : Int) - 1))) = true := bne_iff_ne.mpr c21
                          exact absurd H (by simp)
                      · replace c20 := Bool.eq_false_iff.mpr c20
                        subst c20
                        have H1 : (some false) = some true := by rw [if_neg (show ¬ (false = true) by decide)] at H; exact H
                        clear H
                        have H := H1
                        clear H1
                        exact absurd H (by simp)
                    · rw [if_neg c18] at H
                      have c18b0 : (t217.toList == (rdOf ByteArray.empty l0 a1).toList) = false := beq_eq_false_iff_ne.mpr c18
                      have c18b1 : (t217.toList != (rdOf ByteArray.empty l0 a1).toList) = true := bne_iff_ne.mpr c18
                      exact absurd H (by simp)
                  · rw [if_neg c17] at H
                    exact absurd H (by simp)
                · rw [if_neg c16] at H
                  exact absurd H (by simp)
              · rw [if_neg c15] at H
                have c15b0 : (t217.toList == t222.toList) = false := beq_eq_false_iff_ne.mpr c15
                have c15b1 : (t217.toList != t222.toList) = true := bne_iff_ne.mpr c15
                exact absurd H (by simp)
            · replace c14 := Bool.eq_false_iff.mpr c14
              subst c14
              have H1 : (some false) = some true := by rw [if_neg (show ¬ (false = true) by decide)] at H; exact H
              clear H
              have H := H1
              clear H1
              exact absurd H (by simp)
          · replace c13 := Bool.eq_false_iff.mpr c13
            subst c13
            have H1 : (some false) = some true := by rw [if_neg (show ¬ (false = true) by decide)] at H; exact H
            clear H
            have H := H1
            clear H1
            exact absurd H (by simp)
        · rw [if_neg c12] at H
          have c12b0 : ((t214.length : Int) == (wrap64 ((l0.length : Int) + 1))) = false := beq_eq_false_iff_ne.mpr c12
          have c12b1 : ((t214.length : Int) != (wrap64 ((l0.length : Int) + 1))) = true := bne_iff_ne.mpr c12
          exact absurd H (by simp)

end Go.Proofs.Ytjleanpblijoaaa.Pr
