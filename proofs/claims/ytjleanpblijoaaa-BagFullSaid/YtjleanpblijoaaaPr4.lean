-- Laid by wip/xprint.py, a program of this session that runs the kit's print with some contracts given by hand; not a text of print.sh. Lean checks it.
import Derived.Test.YtjleanpblijoaaaPr0
import Derived.Test.YtjleanpblijoaaaPr1
namespace Go.Proofs.Ytjleanpblijoaaa.Pr
open Go.RowKit Go.Proofs.YtjleanpblijoaaaW.PrintWords Go.Proofs.YtjleanpblijoaaaW.PrintLast Go.Proofs.YtjleanpblijoaaaW.PrintMore
attribute [local go_sem] max2_int min2_int max_two min_two max_three min_three max_four min_four   -- for this text's walks alone
set_option linter.unusedVariables false
set_option linter.unusedSimpArgs false

/-! ### switchboardlaw08_BagFull: function 7 -/
mutual
def switchboardlaw08_BagFull.l0 : Nat → ByteArray → Int → List ByteArray → Int → Option (Bool)
  | 0, _, _, _, _ => none
  | k + 1, x0, x1, x5, x14 => if x14 < 205 then ((bag_Put.f x5 x0).bind fun t235 => (switchboardlaw08_BagFull.l0 k x0 x1 t235 (wrap64 (x14 + 1)))) else (if (x5.length : Int) = 200 then ((bag_Twice.f k x5 (Int.tmod (wrap64 (x1)) 200)).bind fun t238 => (switchboardlaw08_BagFull.j1 k x0 x5 (Int.tmod (wrap64 (x1)) 200) ((t238.length : Int) != 200))) else (switchboardlaw08_BagFull.j1 k x0 x5 (Int.tmod (wrap64 (x1)) 200) true))
def switchboardlaw08_BagFull.j1 : Nat → ByteArray → List ByteArray → Int → Bool → Option (Bool)
  | 0, _, _, _, _ => none
  | k + 1, x0, x5, x6, x32 => if x32 = true then (some false) else ((bag_Take.f x5 x6).bind fun bt241 => (if bt241.2.2 = true then (if bt241.1.toList = x0.toList then (if (bt241.2.1.length : Int) = 199 then ((bag_Put.f bt241.2.1 x0).bind fun t246 => (if (t246.length : Int) = 200 then ((bag_Twice.f k bt241.2.1 (Int.tmod x6 199)).bind fun t249 => (if (t249.length : Int) = 200 then ((switchboardlaw08_awake.f k).bind fun t252 => (some t252)) else (some false))) else (some false))) else (some false)) else (some false)) else (some false)))
end
def switchboardlaw08_BagFull.f (k : Nat) (a0 : ByteArray) (a1 : Int) : Option (Bool) := if (a0.size : Int) > 20 then ((switchboardlaw08_awake.f k).bind fun t234 => (some t234)) else (switchboardlaw08_BagFull.l0 k a0 a1 ([] : List ByteArray) 0)
theorem switchboardlaw08_BagFull.mono_l : ∀ k, (∀ y0 y1 y2 y3, LeO (switchboardlaw08_BagFull.l0 k y0 y1 y2 y3) (switchboardlaw08_BagFull.l0 (k + 1) y0 y1 y2 y3)) ∧ (∀ y0 y1 y2 y3, LeO (switchboardlaw08_BagFull.j1 k y0 y1 y2 y3) (switchboardlaw08_BagFull.j1 (k + 1) y0 y1 y2 y3))
  | 0 => ⟨fun _ _ _ _ r h => by simp [switchboardlaw08_BagFull.l0] at h, fun _ _ _ _ r h => by simp [switchboardlaw08_BagFull.j1] at h⟩
  | k + 1 => by
    obtain ⟨ih0, ih1⟩ := switchboardlaw08_BagFull.mono_l k
    refine ⟨?_, ?_⟩
    · intro y0 y1 y2 y3
      unfold switchboardlaw08_BagFull.l0
      repeat' first
      | (with_reducible exact ih0 _ _ _ _)
      | (with_reducible exact ih1 _ _ _ _)
      | (with_reducible exact bag_Twice.mono _ _ _)
      | (with_reducible exact switchboardlaw08_awake.mono _)
      | (with_reducible exact LeO.refl _)
      | (with_reducible exact LeO.none _)
      | (with_reducible refine LeO.ite ?_ ?_)
      | (with_reducible refine LeO.bind ?_ (fun _ => ?_))
      | exact ih0 _ _ _ _
      | exact ih1 _ _ _ _
      | exact bag_Twice.mono _ _ _
      | exact switchboardlaw08_awake.mono _
      | exact LeO.none _
      | refine LeO.ite ?_ ?_
      | refine LeO.bind ?_ (fun _ => ?_)
    · intro y0 y1 y2 y3
      unfold switchboardlaw08_BagFull.j1
      repeat' first
      | (with_reducible exact ih0 _ _ _ _)
      | (with_reducible exact ih1 _ _ _ _)
      | (with_reducible exact bag_Twice.mono _ _ _)
      | (with_reducible exact switchboardlaw08_awake.mono _)
      | (with_reducible exact LeO.refl _)
      | (with_reducible exact LeO.none _)
      | (with_reducible refine LeO.ite ?_ ?_)
      | (with_reducible refine LeO.bind ?_ (fun _ => ?_))
      | exact ih0 _ _ _ _
      | exact ih1 _ _ _ _
      | exact bag_Twice.mono _ _ _
      | exact switchboardlaw08_awake.mono _
      | exact LeO.none _
      | refine LeO.ite ?_ ?_
      | refine LeO.bind ?_ (fun _ => ?_)
theorem switchboardlaw08_BagFull.mono : ∀ a0 a1 k, LeO (switchboardlaw08_BagFull.f k a0 a1) (switchboardlaw08_BagFull.f (k + 1) a0 a1) := by
  intro a0 a1 k
  obtain ⟨ih0, ih1⟩ := switchboardlaw08_BagFull.mono_l k
  unfold switchboardlaw08_BagFull.f
  repeat' first
      | (with_reducible exact ih0 _ _ _ _)
      | (with_reducible exact ih1 _ _ _ _)
      | (with_reducible exact bag_Twice.mono _ _ _)
      | (with_reducible exact switchboardlaw08_awake.mono _)
      | (with_reducible exact LeO.refl _)
      | (with_reducible exact LeO.none _)
      | (with_reducible refine LeO.ite ?_ ?_)
      | (with_reducible refine LeO.bind ?_ (fun _ => ?_))
      | exact ih0 _ _ _ _
      | exact ih1 _ _ _ _
      | exact bag_Twice.mono _ _ _
      | exact switchboardlaw08_awake.mono _
      | exact LeO.none _
      | refine LeO.ite ?_ ?_
      | refine LeO.bind ?_ (fun _ => ?_)
set_option maxHeartbeats 8000000 in
set_option maxRecDepth 100000 in
theorem switchboardlaw08_BagFull.calls (k : Nat) (a0 : ByteArray) (a1 : Int) (w : World) (h : switchboardlaw08_BagFull.f k a0 a1 = some true) :
    Calls Try.prog 7 #[.string a0, .int .u8 a1] w fun e w' => e = .returned (.bool true) ∧ Below w.heap.size w w' := by
  have HB := Aside0.mk (Below.refl w.heap.size w)
  have H : (if (a0.size : Int) > 20 then ((switchboardlaw08_awake.f k).bind fun t234 => (some t234)) else (switchboardlaw08_BagFull.l0 k a0 a1 ([] : List ByteArray) 0)) = some true := h
  clear h
  by_cases c3 : (a0.size : Int) > 20
  · rw [if_pos c3] at H
    have c3b0 : decide (20 < (a0.size : Int)) = true := decide_eq_true c3
    have c3b1 : decide (20 < a0.size) = true := decide_eq_true (by omega)
    clear c3
    replace H := Option.bind_eq_some_iff.mp H
    obtain ⟨t234, A40, H⟩ := H
    replace H : (some t234) = some true := H
    have A4 := Aside0.mk A40
    clear A40
    have hr_ := Aside0.mk (Option.some.inj H)
    go_enter Try.func7, Try.ntmps7
    go_wp2_with (first | ((with_reducible refine gate_callee (f := 8) rfl ?_); refine goesL_ (some 13) rfl rfl Try.func8 (by kernel_rfl) rfl #[] rfl (by (try simp only [List.map_toArray, List.map_cons, List.map_nil]); first | done | rfl | (simp only [List.length_drop, List.length_take]; rfl)) ?_; (with_reducible refine (switchboardlaw08_awake.calls k  t234 _ A4.out).mono ?_); rintro e w5 ⟨rfl, hb⟩; refine ⟨_, rfl, ?_⟩; have n0_ := Aside0.mk (below_step (by repeat (first | (with_reducible first | exact HB.out | apply below_alloc | apply pw_below_drewN | apply below_drew1) | exact HB.out)) hb); clear HB; have HB := n0_; clear n0_; (try clear hb); (try clear hb2); (try clear hk); (try clear hi)))
    go_ret
    exact ⟨by first | rfl | exact congrArg (fun b_ => Ending.returned (Value.bool b_)) hr_.out | exact congrArg (fun b_ => Ending.returned (Value.bool b_)) hr_.out | (simp [errW_none, errW_some] <;> rfl) | (simp [*, errW_none, errW_some] <;> rfl), by repeat (first | (with_reducible first | exact HB.out | apply below_alloc | apply pw_below_drewN | apply below_drew1) | exact HB.out)⟩
  · rw [if_neg c3] at H
    have c3b0 : decide (20 < (a0.size : Int)) = false := decide_eq_false c3
    have c3b1 : decide (20 < a0.size) = false := decide_eq_false (by omega)
    clear c3
    have H' := Aside0.mk H
    clear H
    go_enter Try.func7, Try.ntmps7
    go_wp2
    go_loopg [5, 14] k (fun kq v5 v14 w' => ∃ (x5_1 : List ByteArray) (x14_1 : Int), v14 = .int .i64 x14_1 ∧ Aside0 (switchboardlaw08_BagFull.l0 kq a0 a1 x5_1 x14_1 = some true) ∧ Aside0 (kq ≤ k) ∧ Aside0 (Kd.R Kd.string 9 w' w.heap.size (fun _ => True) v5 x5_1) ∧ Aside0 (Below w.heap.size w w'))
    case atStart => exact ⟨(([] : List ByteArray)), (0), (by first | rfl | (simp; done) | (simp [*]; done)), H', ⟨Nat.le_refl _⟩, ⟨by first | exact Kd.R_nil _ _ _ _ _ | exact Kd.N_nil _ _ _ _ _ | exact Kd.V_nil _ _ _ _ _ | exact Kd.Q_nil _ _ _ _ _ | exact Kd.S_nil _ _ _ _ _⟩, ⟨by repeat (first | (with_reducible first | exact HB.out | apply below_alloc | apply pw_below_drewN | apply below_drew1) | exact HB.out)⟩⟩
    case round =>
      clear H'
      try clear p2
      try clear c3
      try clear c3b0
      try clear c3b1
      obtain ⟨x5_1, x14_1, rfl, HA, HK1, HO_5, HB⟩ := hrel
      cases gk with
      | zero => exact absurd HA.out (by simp [switchboardlaw08_BagFull.l0])
      | succ k1 =>
        have H := HA.out
        clear HA
        simp only [switchboardlaw08_BagFull.l0] at H
        by_cases c6 : x14_1 < 205
        · rw [if_pos c6] at H
          have c6b0 : decide (x14_1 < 205) = true := decide_eq_true c6
          clear c6
          replace H := Option.bind_eq_some_iff.mp H
          obtain ⟨t235, A70, H⟩ := H
          replace H : (switchboardlaw08_BagFull.l0 k1 a0 a1 t235 (wrap64 (x14_1 + 1))) = some true := H
          have A7 := Aside0.mk A70
          clear A70
          have H' := Aside0.mk H
          clear H
          obtain ⟨Ao8, co8, eo8⟩ := Kd.R_slice HO_5.out
          subst eo8
          go_wp2_with (first | ((with_reducible refine gate_callee (f := 14) rfl ?_); refine goesL_ (some 18) rfl rfl Try.func14 (by kernel_rfl) rfl #[.slice Ao8 x5_1.length co8, .string a0] rfl (by (try simp only [List.map_toArray, List.map_cons, List.map_nil]); first | done | rfl | (simp only [List.length_drop, List.length_take]; rfl)) ?_; (with_reducible refine (bag_Put.calls _ _ x5_1 a0 t235 _ ?side1 ?side2 A7.out).mono ?_); (case side1 => repeat (first | exact (Kd.R_reads' HO_5.out).2.2 | (with_reducible refine Kd.C_alloc ?_ _) | (with_reducible refine Kd.C_drewN ?_ _) | (with_reducible refine Kd.C_drew ?_))); (case side2 => exact (Kd.R_reads' HO_5.out).2.1); rintro e w9 ⟨v236, rfl, ho0, hb⟩; refine ⟨_, rfl, ?_⟩; have n0_ := Aside0.mk (Kd.R_elder' (by (with_reducible repeat (first | apply Kd.R_alloc | apply Kd.R_drewN | apply Kd.R_drew)); exact HO_5.out) (Kd.R_base ho0) hb); have n1_ := Aside0.mk (Kd.R_lower (Kd.R_new' ho0 (Kd.R_lt (by (with_reducible repeat (first | apply Kd.R_alloc | apply Kd.R_drewN | apply Kd.R_drew)); exact HO_5.out))) (below_size (by repeat (first | (with_reducible first | exact HB.out | apply below_alloc | apply pw_below_drewN | apply below_drew1) | exact HB.out)))); have n2_ := Aside0.mk (below_step (by repeat (first | (with_reducible first | exact HB.out | apply below_alloc | apply pw_below_drewN | apply below_drew1) | exact HB.out)) hb); clear HO_5; clear HB; have HO_5 := n0_; have HO237 := n1_; have HB := n2_; clear n0_ n1_ n2_; (try clear hb); (try clear hb2); (try clear hk); (try clear hi); (try clear ho0)))
          go_roundg k1
          case measure => have := HK1.out; omega
          case rel => exact ⟨(t235), (wrap64 (x14_1 + 1)), (by first | rfl | (simp; done) | (simp [*]; done)), H', ⟨by have := HK1.out; omega⟩, ⟨by (with_reducible repeat (first | apply Kd.R_alloc | apply Kd.R_drewN | apply Kd.R_drew)); exact Kd.R_mono HO237.out (fun _ hk => trivial)⟩, ⟨by repeat (first | (with_reducible first | exact HB.out | apply below_alloc | apply pw_below_drewN | apply below_drew1) | exact HB.out)⟩⟩
        · rw [if_neg c6] at H
          have c6b0 : decide (x14_1 < 205) = false := decide_eq_false c6
          clear c6
          have HC10 := Aside0.mk H
          clear H
          go_upto_region 9 with (fail)
          go_cut [32] (fun v32 wc => ∃ (kq : Nat) (x32_9 : Bool), v32 = .bool x32_9 ∧ Aside0 (switchboardlaw08_BagFull.j1 kq a0 x5_1 (Int.tmod (wrap64 (a1)) 200) x32_9 = some true) ∧ Aside0 (kq ≤ k1) ∧ Aside0 (Kd.R Kd.string 9 wc w.heap.size (fun _ => True) u5 x5_1) ∧ Aside0 (Below w.heap.size w wc))
          case first =>
            have H := HC10.out
            clear HC10
            by_cases c11 : (x5_1.length : Int) = 200
            · rw [if_pos c11] at H
              have c11b0 : ((x5_1.length : Int) == 200) = true := beq_iff_eq.mpr c11
              have c11b1 : ((x5_1.length : Int) != 200) = false := bne_eq_false_iff_eq.mpr c11
              clear c11
              (first | rw [c11b0] | (simp only [i64_w, i32_w]; rw [c11b0]) | skip)
              replace H := Option.bind_eq_some_iff.mp H
              obtain ⟨t238, A120, H⟩ := H
              replace H : (switchboardlaw08_BagFull.j1 k1 a0 x5_1 (Int.tmod (wrap64 (a1)) 200) ((t238.length : Int) != 200)) = some true := H
              have A12 := Aside0.mk A120
              clear A120
              have H' := Aside0.mk H
              clear H
              obtain ⟨Ao13, co13, eo13⟩ := Kd.R_slice HO_5.out
              subst eo13
              go_wp2_with (first | (go_at_call 11; (with_reducible refine (bag_Twice.calls k1 _ _ x5_1 (Int.tmod (wrap64 (a1)) 200) t238 _ ?side1 ?side2 A12.out).mono ?_); (case side1 => repeat (first | exact (Kd.R_reads' HO_5.out).2.2 | (with_reducible refine Kd.C_alloc ?_ _) | (with_reducible refine Kd.C_drewN ?_ _) | (with_reducible refine Kd.C_drew ?_))); (case side2 => exact (Kd.R_reads' HO_5.out).2.1); rintro e w14 ⟨v239, rfl, ho0, hb⟩; have n0_ := Aside0.mk (Kd.R_elder' (by (with_reducible repeat (first | apply Kd.R_alloc | apply Kd.R_drewN | apply Kd.R_drew)); exact HO_5.out) (Kd.R_base ho0) hb); have n1_ := Aside0.mk (Kd.R_lower (Kd.R_new' ho0 (Kd.R_lt (by (with_reducible repeat (first | apply Kd.R_alloc | apply Kd.R_drewN | apply Kd.R_drew)); exact HO_5.out))) (below_size (by repeat (first | (with_reducible first | exact HB.out | apply below_alloc | apply pw_below_drewN | apply below_drew1) | exact HB.out)))); have n2_ := Aside0.mk (below_step (by repeat (first | (with_reducible first | exact HB.out | apply below_alloc | apply pw_below_drewN | apply below_drew1) | exact HB.out)) hb); clear HO_5; clear HB; have HO_5 := n0_; have HO240 := n1_; have HB := n2_; clear n0_ n1_ n2_; (try clear hb); (try clear hb2); (try clear hk); (try clear hi); (try clear ho0); obtain ⟨Ao15, co15, eo15⟩ := Kd.R_slice HO240.out; subst eo15))
              go_meet
              case rel => exact ⟨_, (((t238.length : Int) != 200)), (by first | rfl | (simp; done) | (simp [*]; done)), H', ⟨by have := HK1.out; first | omega | exact Nat.le_refl _⟩, ⟨by (with_reducible repeat (first | apply Kd.R_alloc | apply Kd.R_drewN | apply Kd.R_drew)); exact Kd.R_mono HO_5.out (fun _ hk => trivial)⟩, ⟨by repeat (first | (with_reducible first | exact HB.out | apply below_alloc | apply pw_below_drewN | apply below_drew1) | exact HB.out)⟩⟩
            · rw [if_neg c11] at H
              have c11b0 : ((x5_1.length : Int) == 200) = false := beq_eq_false_iff_ne.mpr c11
              have c11b1 : ((x5_1.length : Int) != 200) = true := bne_iff_ne.mpr c11
              (first | rw [c11b0] | (simp only [i64_w, i32_w]; rw [c11b0]) | skip)
              have H' := Aside0.mk H
              clear H
              obtain ⟨Ao16, co16, eo16⟩ := Kd.R_slice HO_5.out
              subst eo16
              go_wp2
              go_meet
              case rel => exact ⟨_, (true), (by first | rfl | (simp; done) | (simp [*]; done)), H', ⟨by have := HK1.out; first | omega | exact Nat.le_refl _⟩, ⟨by (with_reducible repeat (first | apply Kd.R_alloc | apply Kd.R_drewN | apply Kd.R_drew)); exact HO_5.out⟩, ⟨by repeat (first | (with_reducible first | exact HB.out | apply below_alloc | apply pw_below_drewN | apply below_drew1) | exact HB.out)⟩⟩
          case rest =>
            clear HC10
            try clear c1
            try clear p2
            try clear c3
            try clear c3b0
            try clear c3b1
            try clear c6
            try clear c6b0
            try clear p6
            try clear c7
            try clear c8
            try clear c11
            try clear c11b0
            try clear c11b1
            try clear c14
            try clear p2
            obtain ⟨kq, x32_9, rfl, HA, HJ9, HO_5, HB⟩ := hcut
            cases kq with
            | zero => exact absurd HA.out (by simp [switchboardlaw08_BagFull.j1])
            | succ kj9 =>
              have H := HA.out
              clear HA
              simp only [switchboardlaw08_BagFull.j1] at H
              by_cases c17 : x32_9 = true
              · subst c17
                have H1 : (some false) = some true := by rw [if_pos rfl] at H; exact H
                clear H
                have H := H1
                clear H1
                exact absurd H (by simp)
              · replace c17 := Bool.eq_false_iff.mpr c17
                subst c17
                have H1 : ((bag_Take.f x5_1 (Int.tmod (wrap64 (a1)) 200)).bind fun bt241 => (if bt241.2.2 = true then (if bt241.1.toList = a0.toList then (if (bt241.2.1.length : Int) = 199 then ((bag_Put.f bt241.2.1 a0).bind fun t246 => (if (t246.length : Int) = 200 then ((bag_Twice.f kj9 bt241.2.1 (Int.tmod (Int.tmod (wrap64 (a1)) 200) 199)).bind fun t249 => (if (t249.length : Int) = 200 then ((switchboardlaw08_awake.f kj9).bind fun t252 => (some t252)) else (some false))) else (some false))) else (some false)) else (some false)) else (some false))) = some true := by rw [if_neg (show ¬ (false = true) by decide)] at H; exact H
                clear H
                have H := H1
                clear H1
                replace H := Option.bind_eq_some_iff.mp H
                obtain ⟨⟨t241, t242, t243⟩, A180, H⟩ := H
                replace H : (if t243 = true then (if t241.toList = a0.toList then (if (t242.length : Int) = 199 then ((bag_Put.f t242 a0).bind fun t246 => (if (t246.length : Int) = 200 then ((bag_Twice.f kj9 t242 (Int.tmod (Int.tmod (wrap64 (a1)) 200) 199)).bind fun t249 => (if (t249.length : Int) = 200 then ((switchboardlaw08_awake.f kj9).bind fun t252 => (some t252)) else (some false))) else (some false))) else (some false)) else (some false)) else (some false)) = some true := H
                have A18 := Aside0.mk A180
                clear A180
                by_cases c19 : t243 = true
                · subst c19
                  have H1 : (if t241.toList = a0.toList then (if (t242.length : Int) = 199 then ((bag_Put.f t242 a0).bind fun t246 => (if (t246.length : Int) = 200 then ((bag_Twice.f kj9 t242 (Int.tmod (Int.tmod (wrap64 (a1)) 200) 199)).bind fun t249 => (if (t249.length : Int) = 200 then ((switchboardlaw08_awake.f kj9).bind fun t252 => (some t252)) else (some false))) else (some false))) else (some false)) else (some false)) = some true := by rw [if_pos rfl] at H; exact H
                  clear H
                  have H := H1
                  clear H1
                  by_cases c20 : t241.toList = a0.toList
                  · rw [if_pos c20] at H
                    have c20b0 : (t241.toList == a0.toList) = true := beq_iff_eq.mpr c20
                    have c20b1 : (t241.toList != a0.toList) = false := bne_eq_false_iff_eq.mpr c20
                    clear c20
                    by_cases c21 : (t242.length : Int) = 199
                    · rw [if_pos c21] at H
                      have c21b0 : ((t242.length : Int) == 199) = true := beq_iff_eq.mpr c21
                      have c21b1 : ((t242.length : Int) != 199) = false := bne_eq_false_iff_eq.mpr c21
                      clear c21
                      replace H := Option.bind_eq_some_iff.mp H
                      obtain ⟨t246, A220, H⟩ := H
                      replace H : (if (t246.length : Int) = 200 then ((bag_Twice.f kj9 t242 (Int.tmod (Int.tmod (wrap64 (a1)) 200) 199)).bind fun t249 => (if (t249.length : Int) = 200 then ((switchboardlaw08_awake.f kj9).bind fun t252 => (some t252)) else (some false))) else (some false)) = some true := H
                      have A22 := Aside0.mk A220
                      clear A220
                      by_cases c23 : (t246.length : Int) = 200
                      · rw [if_pos c23] at H
                        have c23b0 : ((t246.length : Int) == 200) = true := beq_iff_eq.mpr c23
                        have c23b1 : ((t246.length : Int) != 200) = false := bne_eq_false_iff_eq.mpr c23
                        clear c23
                        replace H := Option.bind_eq_some_iff.mp H
                        obtain ⟨t249, A240, H⟩ := H
                        replace H : (if (t249.length : Int) = 200 then ((switchboardlaw08_awake.f kj9).bind fun t252 => (some t252)) else (some false)) = some true := H
                        have A24 := Aside0.mk A240
                        clear A240
                        by_cases c25 : (t249.length : Int) = 200
                        · rw [if_pos c25] at H
                          have c25b0 : ((t249.length : Int) == 200) = true := beq_iff_eq.mpr c25
                          have c25b1 : ((t249.length : Int) != 200) = false := bne_eq_false_iff_eq.mpr c25
                          clear c25
                          replace H := Option.bind_eq_some_iff.mp H
                          obtain ⟨t252, A260, H⟩ := H
                          replace H : (some t252) = some true := H
                          have A26 := Aside0.mk A260
                          clear A260
                          have hr_ := Aside0.mk (Option.some.inj H)
                          obtain ⟨Ao27, co27, eo27⟩ := Kd.R_slice HO_5.out
                          subst eo27
                          go_wp2_with (first | ((with_reducible refine gate_callee (f := 9) rfl ?_); refine goesL_ (some 36) rfl rfl Try.func9 (by kernel_rfl) rfl #[.slice Ao27 x5_1.length co27, .int .i64 (Int.tmod (wrap64 (a1)) 200)] rfl (by (try simp only [List.map_toArray, List.map_cons, List.map_nil]); first | done | rfl | (simp only [List.length_drop, List.length_take]; rfl)) ?_; (with_reducible refine (bag_Take.calls _ _ x5_1 (Int.tmod (wrap64 (a1)) 200) t241 t242 true _ ?side1 ?side2 A18.out).mono ?_); (case side1 => repeat (first | exact (Kd.R_reads' HO_5.out).2.2 | (with_reducible refine Kd.C_alloc ?_ _) | (with_reducible refine Kd.C_drewN ?_ _) | (with_reducible refine Kd.C_drew ?_))); (case side2 => exact (Kd.R_reads' HO_5.out).2.1); rintro e w28 ⟨v244, rfl, ho0, hb⟩; refine ⟨_, rfl, ?_⟩; have n0_ := Aside0.mk (Kd.R_elder' (by (with_reducible repeat (first | apply Kd.R_alloc | apply Kd.R_drewN | apply Kd.R_drew)); exact HO_5.out) (Kd.R_base ho0) hb); have n1_ := Aside0.mk (Kd.R_lower (Kd.R_new' ho0 (Kd.R_lt (by (with_reducible repeat (first | apply Kd.R_alloc | apply Kd.R_drewN | apply Kd.R_drew)); exact HO_5.out))) (below_size (by repeat (first | (with_reducible first | exact HB.out | apply below_alloc | apply pw_below_drewN | apply below_drew1) | exact HB.out)))); have n2_ := Aside0.mk (below_step (by repeat (first | (with_reducible first | exact HB.out | apply below_alloc | apply pw_below_drewN | apply below_drew1) | exact HB.out)) hb); clear HO_5; clear HB; have HO_5 := n0_; have HO245 := n1_; have HB := n2_; clear n0_ n1_ n2_; (try clear hb); (try clear hb2); (try clear hk); (try clear hi); (try clear ho0); obtain ⟨Ao29, co29, eo29⟩ := Kd.R_slice HO245.out; subst eo29) | (go_at_call 14; (with_reducible refine (bag_Put.calls _ _ t242 a0 t246 _ ?side1 ?side2 A22.out).mono ?_); (case side1 => repeat (first | exact (Kd.R_reads' HO245.out).2.2 | (with_reducible refine Kd.C_alloc ?_ _) | (with_reducible refine Kd.C_drewN ?_ _) | (with_reducible refine Kd.C_drew ?_))); (case side2 => exact (Kd.R_reads' HO245.out).2.1); rintro e w30 ⟨v247, rfl, ho0, hb⟩; have n0_ := Aside0.mk (Kd.R_elder' (by (with_reducible repeat (first | apply Kd.R_alloc | apply Kd.R_drewN | apply Kd.R_drew)); exact HO_5.out) (Kd.R_base ho0) hb); have n1_ := Aside0.mk (Kd.R_elder' (by (with_reducible repeat (first | apply Kd.R_alloc | apply Kd.R_drewN | apply Kd.R_drew)); exact HO245.out) (Kd.R_base ho0) hb); have n2_ := Aside0.mk (Kd.R_lower (Kd.R_new' (Kd.R_new' ho0 (Kd.R_lt (by (with_reducible repeat (first | apply Kd.R_alloc | apply Kd.R_drewN | apply Kd.R_drew)); exact HO_5.out))) (Kd.R_lt (by (with_reducible repeat (first | apply Kd.R_alloc | apply Kd.R_drewN | apply Kd.R_drew)); exact HO245.out))) (below_size (by repeat (first | (with_reducible first | exact HB.out | apply below_alloc | apply pw_below_drewN | apply below_drew1) | exact HB.out)))); have n3_ := Aside0.mk (below_step (by repeat (first | (with_reducible first | exact HB.out | apply below_alloc | apply pw_below_drewN | apply below_drew1) | exact HB.out)) hb); clear HO_5; clear HO245; clear HB; have HO_5 := n0_; have HO245 := n1_; have HO248 := n2_; have HB := n3_; clear n0_ n1_ n2_ n3_; (try clear hb); (try clear hb2); (try clear hk); (try clear hi); (try clear ho0); obtain ⟨Ao31, co31, eo31⟩ := Kd.R_slice HO248.out; subst eo31) | (go_at_call 11; (with_reducible refine (bag_Twice.calls kj9 _ _ t242 (Int.tmod (Int.tmod (wrap64 (a1)) 200) 199) t249 _ ?side1 ?side2 A24.out).mono ?_); (case side1 => repeat (first | exact (Kd.R_reads' HO245.out).2.2 | (with_reducible refine Kd.C_alloc ?_ _) | (with_reducible refine Kd.C_drewN ?_ _) | (with_reducible refine Kd.C_drew ?_))); (case side2 => exact (Kd.R_reads' HO245.out).2.1); rintro e w32 ⟨v250, rfl, ho0, hb⟩; have n0_ := Aside0.mk (Kd.R_elder' (by (with_reducible repeat (first | apply Kd.R_alloc | apply Kd.R_drewN | apply Kd.R_drew)); exact HO_5.out) (Kd.R_base ho0) hb); have n1_ := Aside0.mk (Kd.R_elder' (by (with_reducible repeat (first | apply Kd.R_alloc | apply Kd.R_drewN | apply Kd.R_drew)); exact HO245.out) (Kd.R_base ho0) hb); have n2_ := Aside0.mk (Kd.R_elder' (by (with_reducible repeat (first | apply Kd.R_alloc | apply Kd.R_drewN | apply Kd.R_drew)); exact HO248.out) (Kd.R_base ho0) hb); have n3_ := Aside0.mk (Kd.R_lower (Kd.R_new' (Kd.R_new' (Kd.R_new' ho0 (Kd.R_lt (by (with_reducible repeat (first | apply Kd.R_alloc | apply Kd.R_drewN | apply Kd.R_drew)); exact HO_5.out))) (Kd.R_lt (by (with_reducible repeat (first | apply Kd.R_alloc | apply Kd.R_drewN | apply Kd.R_drew)); exact HO245.out))) (Kd.R_lt (by (with_reducible repeat (first | apply Kd.R_alloc | apply Kd.R_drewN | apply Kd.R_drew)); exact HO248.out))) (below_size (by repeat (first | (with_reducible first | exact HB.out | apply below_alloc | apply pw_below_drewN | apply below_drew1) | exact HB.out)))); have n4_ := Aside0.mk (below_step (by repeat (first | (with_reducible first | exact HB.out | apply below_alloc | apply pw_below_drewN | apply below_drew1) | exact HB.out)) hb); clear HO_5; clear HO245; clear HO248; clear HB; have HO_5 := n0_; have HO245 := n1_; have HO248 := n2_; have HO251 := n3_; have HB := n4_; clear n0_ n1_ n2_ n3_ n4_; (try clear hb); (try clear hb2); (try clear hk); (try clear hi); (try clear ho0); obtain ⟨Ao33, co33, eo33⟩ := Kd.R_slice HO251.out; subst eo33) | (go_at_call 8; (with_reducible refine (switchboardlaw08_awake.calls kj9  t252 _ A26.out).mono ?_); rintro e w34 ⟨rfl, hb⟩; have n0_ := Aside0.mk (Kd.R_below (by (with_reducible repeat (first | apply Kd.R_alloc | apply Kd.R_drewN | apply Kd.R_drew)); exact HO_5.out) hb); have n1_ := Aside0.mk (Kd.R_below (by (with_reducible repeat (first | apply Kd.R_alloc | apply Kd.R_drewN | apply Kd.R_drew)); exact HO245.out) hb); have n2_ := Aside0.mk (Kd.R_below (by (with_reducible repeat (first | apply Kd.R_alloc | apply Kd.R_drewN | apply Kd.R_drew)); exact HO248.out) hb); have n3_ := Aside0.mk (Kd.R_below (by (with_reducible repeat (first | apply Kd.R_alloc | apply Kd.R_drewN | apply Kd.R_drew)); exact HO251.out) hb); have n4_ := Aside0.mk (below_step (by repeat (first | (with_reducible first | exact HB.out | apply below_alloc | apply pw_below_drewN | apply below_drew1) | exact HB.out)) hb); clear HO_5; clear HO245; clear HO248; clear HO251; clear HB; have HO_5 := n0_; have HO245 := n1_; have HO248 := n2_; have HO251 := n3_; have HB := n4_; clear n0_ n1_ n2_ n3_ n4_; (try clear hb); (try clear hb2); (try clear hk); (try clear hi)))
                          go_ret
                          exact ⟨by first | rfl | exact congrArg (fun b_ => Ending.returned (Value.bool b_)) hr_.out | exact congrArg (fun b_ => Ending.returned (Value.bool b_)) hr_.out | (simp [errW_none, errW_some] <;> rfl) | (simp [*, errW_none, errW_some] <;> rfl), by repeat (first | (with_reducible first | exact HB.out | apply below_alloc | apply pw_below_drewN | apply below_drew1) | exact HB.out)⟩
                        · rw [if_neg c25] at H
                          have c25b0 : ((t249.length : Int) == 200) = false := beq_eq_false_iff_ne.mpr c25
                          have c25b1 : ((t249.length : Int) != 200) = true := bne_iff_ne.mpr c25
                          exact absurd H (by simp)
                      · rw [if_neg c23] at H
                        have c23b0 : ((t246.length : Int) == 200) = false := beq_eq_false_iff_ne.mpr c23
                        have c23b1 : ((t246.length : Int) != 200) = true := bne_iff_ne.mpr c23
                        exact absurd H (by simp)
                    · rw [if_neg c21] at H
                      have c21b0 : ((t242.length : Int) == 199) = false := beq_eq_false_iff_ne.mpr c21
                      have c21b1 : ((t242.length : Int) != 199) = true := bne_iff_ne.mpr c21
                      exact absurd H (by simp)
                  · rw [if_neg c20] at H
                    have c20b0 : (t241.toList == a0.toList) = false := beq_eq_false_iff_ne.mpr c20
                    have c20b1 : (t241.toList != a0.toList) = true := bne_iff_ne.mpr c20
                    exact absurd H (by simp)
                · replace c19 := Bool.eq_false_iff.mpr c19
                  subst c19
                  have H1 : (some false) = some true := by rw [if_neg (show ¬ (false = true) by decide)] at H; exact H
                  clear H
                  have H := H1
                  clear H1
                  exact absurd H (by simp)

end Go.Proofs.Ytjleanpblijoaaa.Pr
