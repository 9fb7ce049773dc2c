-- Laid by wip/xprint.py, a program of this session that runs the kit's print with some contracts given by hand; not a text of print.sh. Lean checks it.
import Derived.Test.YtogjmiihofddbaaPr0
import Derived.Test.YtogjmiihofddbaaPr1
import Derived.Test.YtogjmiihofddbaaPr2
namespace Go.Proofs.Ytogjmiihofddbaa.Pr
open Go.RowKit Go.Proofs.YtogjmiihofddbaaW.PrintWords Go.Proofs.YtogjmiihofddbaaW.PrintLast Go.Proofs.YtogjmiihofddbaaW.PrintMore
attribute [local go_sem] max2_int min2_int max_two min_two max_three min_three max_four min_four   -- for this text's walks alone
set_option linter.unusedVariables false
set_option linter.unusedSimpArgs false

/-! ### switchboardlaw03_MatUnits: function 5 -/
mutual
def switchboardlaw03_MatUnits.l0 : Nat → List Int → List (List Int) → Int → Int → Option (Bool)
  | 0, _, _, _, _ => none
  | k + 1, x0, x3, x17, x18 => if x18 < x17 then (if 0 ≤ (x0.length : Int) then (if ((x0.length : Int) : Int).toNat ≤ 35184372088832 then ((some (List.replicate ((x0.length : Int) : Int).toNat 0 : List Int)).bind fun y219 => (if 0 ≤ x18 then (if x18 < (y219.length : Int) then (if x3.length < 5864062014805 then (switchboardlaw03_MatUnits.l0 k x0 (x3 ++ [(y219.set (x18 : Int).toNat 65536)]) x17 (wrap64 (x18 + 1))) else (none)) else (none)) else (none))) else (none)) else (none)) else ((mat_Apply.f k x3 x0).bind fun bt226 => (if 0 ≤ (x0.length : Int) then (if ((x0.length : Int) : Int).toNat ≤ 35184372088832 then ((mat_Apply.f k x3 (List.replicate ((x0.length : Int) : Int).toNat 0)).bind fun bt233 => (if (bt226.1.length : Int) = (x0.length : Int) then (if (bt233.1.length : Int) = (x0.length : Int) then (if bt226.2 = true then (if bt233.2 = true then ((mat_Right.f x3 (x0.length : Int) (x0.length : Int)).bind fun t237 => (switchboardlaw03_MatUnits.j1 k x0 bt226.1 bt233.1 (!t237))) else (switchboardlaw03_MatUnits.j1 k x0 bt226.1 bt233.1 true)) else (switchboardlaw03_MatUnits.j1 k x0 bt226.1 bt233.1 true)) else (switchboardlaw03_MatUnits.j1 k x0 bt226.1 bt233.1 true)) else (switchboardlaw03_MatUnits.j1 k x0 bt226.1 bt233.1 true))) else (none)) else (none)))
def switchboardlaw03_MatUnits.j1 : Nat → List Int → List Int → List Int → Bool → Option (Bool)
  | 0, _, _, _, _ => none
  | k + 1, x0, x6, x8, x74 => if x74 = true then (some false) else (switchboardlaw03_MatUnits.l1 k x6 x8 x0 (x0.length : Int) 0)
def switchboardlaw03_MatUnits.l1 : Nat → List Int → List Int → List Int → Int → Int → Option (Bool)
  | 0, _, _, _, _, _ => none
  | k + 1, x6, x8, x75, x76, x77 => if x77 < x76 then (if 0 ≤ x77 then (if x77 < (x75.length : Int) then (if x77 < (x6.length : Int) then (if (rd x6 x77) = (mx (mn (rd x75 x77) 2147483647) (-2147483647)) then (if x77 < (x8.length : Int) then (if (rd x8 x77) = 0 then (switchboardlaw03_MatUnits.l1 k x6 x8 x75 x76 (wrap64 (x77 + 1))) else (some false)) else (none)) else (some false)) else (none)) else (none)) else (none)) else ((switchboardlaw03_awake.f k).bind fun t241 => (some t241))
end
def switchboardlaw03_MatUnits.f (k : Nat) (l0 : List Int) : Option (Bool) := if (l0.length : Int) > 30 then ((switchboardlaw03_awake.f k).bind fun t218 => (some t218)) else (switchboardlaw03_MatUnits.l0 k l0 ([] : List (List Int)) (l0.length : Int) 0)
theorem switchboardlaw03_MatUnits.mono_l : ∀ k, (∀ y0 y1 y2 y3, LeO (switchboardlaw03_MatUnits.l0 k y0 y1 y2 y3) (switchboardlaw03_MatUnits.l0 (k + 1) y0 y1 y2 y3)) ∧ (∀ y0 y1 y2 y3, LeO (switchboardlaw03_MatUnits.j1 k y0 y1 y2 y3) (switchboardlaw03_MatUnits.j1 (k + 1) y0 y1 y2 y3)) ∧ (∀ y0 y1 y2 y3 y4, LeO (switchboardlaw03_MatUnits.l1 k y0 y1 y2 y3 y4) (switchboardlaw03_MatUnits.l1 (k + 1) y0 y1 y2 y3 y4))
  | 0 => ⟨fun _ _ _ _ r h => by simp [switchboardlaw03_MatUnits.l0] at h, fun _ _ _ _ r h => by simp [switchboardlaw03_MatUnits.j1] at h, fun _ _ _ _ _ r h => by simp [switchboardlaw03_MatUnits.l1] at h⟩
  | k + 1 => by
    obtain ⟨ih0, ih1, ih2⟩ := switchboardlaw03_MatUnits.mono_l k
    refine ⟨?_, ?_, ?_⟩
    · intro y0 y1 y2 y3
      unfold switchboardlaw03_MatUnits.l0
      repeat' first
      | (with_reducible exact ih0 _ _ _ _)
      | (with_reducible exact ih1 _ _ _ _)
      | (with_reducible exact ih2 _ _ _ _ _)
      | (with_reducible exact mat_Apply.mono _ _ _)
      | (with_reducible exact switchboardlaw03_awake.mono _)
      | (with_reducible exact LeO.refl _)
      | (with_reducible exact LeO.none _)
      | (with_reducible refine LeO.ite ?_ ?_)
      | (with_reducible refine LeO.bind ?_ (fun _ => ?_))
      | exact ih0 _ _ _ _
      | exact ih1 _ _ _ _
      | exact ih2 _ _ _ _ _
      | exact mat_Apply.mono _ _ _
      | exact switchboardlaw03_awake.mono _
      | exact LeO.none _
      | refine LeO.ite ?_ ?_
      | refine LeO.bind ?_ (fun _ => ?_)
    · intro y0 y1 y2 y3
      unfold switchboardlaw03_MatUnits.j1
      repeat' first
      | (with_reducible exact ih0 _ _ _ _)
      | (with_reducible exact ih1 _ _ _ _)
      | (with_reducible exact ih2 _ _ _ _ _)
      | (with_reducible exact mat_Apply.mono _ _ _)
      | (with_reducible exact switchboardlaw03_awake.mono _)
      | (with_reducible exact LeO.refl _)
      | (with_reducible exact LeO.none _)
      | (with_reducible refine LeO.ite ?_ ?_)
      | (with_reducible refine LeO.bind ?_ (fun _ => ?_))
      | exact ih0 _ _ _ _
      | exact ih1 _ _ _ _
      | exact ih2 _ _ _ _ _
      | exact mat_Apply.mono _ _ _
      | exact switchboardlaw03_awake.mono _
      | exact LeO.none _
      | refine LeO.ite ?_ ?_
      | refine LeO.bind ?_ (fun _ => ?_)
    · intro y0 y1 y2 y3 y4
      unfold switchboardlaw03_MatUnits.l1
      repeat' first
      | (with_reducible exact ih0 _ _ _ _)
      | (with_reducible exact ih1 _ _ _ _)
      | (with_reducible exact ih2 _ _ _ _ _)
      | (with_reducible exact mat_Apply.mono _ _ _)
      | (with_reducible exact switchboardlaw03_awake.mono _)
      | (with_reducible exact LeO.refl _)
      | (with_reducible exact LeO.none _)
      | (with_reducible refine LeO.ite ?_ ?_)
      | (with_reducible refine LeO.bind ?_ (fun _ => ?_))
      | exact ih0 _ _ _ _
      | exact ih1 _ _ _ _
      | exact ih2 _ _ _ _ _
      | exact mat_Apply.mono _ _ _
      | exact switchboardlaw03_awake.mono _
      | exact LeO.none _
      | refine LeO.ite ?_ ?_
      | refine LeO.bind ?_ (fun _ => ?_)
theorem switchboardlaw03_MatUnits.mono : ∀ a0 k, LeO (switchboardlaw03_MatUnits.f k a0) (switchboardlaw03_MatUnits.f (k + 1) a0) := by
  intro a0 k
  obtain ⟨ih0, ih1, ih2⟩ := switchboardlaw03_MatUnits.mono_l k
  unfold switchboardlaw03_MatUnits.f
  repeat' first
      | (with_reducible exact ih0 _ _ _ _)
      | (with_reducible exact ih1 _ _ _ _)
      | (with_reducible exact ih2 _ _ _ _ _)
      | (with_reducible exact mat_Apply.mono _ _ _)
      | (with_reducible exact switchboardlaw03_awake.mono _)
      | (with_reducible exact LeO.refl _)
      | (with_reducible exact LeO.none _)
      | (with_reducible refine LeO.ite ?_ ?_)
      | (with_reducible refine LeO.bind ?_ (fun _ => ?_))
      | exact ih0 _ _ _ _
      | exact ih1 _ _ _ _
      | exact ih2 _ _ _ _ _
      | exact mat_Apply.mono _ _ _
      | exact switchboardlaw03_awake.mono _
      | exact LeO.none _
      | refine LeO.ite ?_ ?_
      | refine LeO.bind ?_ (fun _ => ?_)
set_option maxHeartbeats 8000000 in
set_option maxRecDepth 100000 in
theorem switchboardlaw03_MatUnits.calls (k : Nat) (A0 : Option Addr) (c0 : Nat) (l0 : List Int) (w : World) (hr0 : Kd.C (Kd.int .i64) w A0 l0.length l0) (hc0 : l0.length ≤ c0) (h : switchboardlaw03_MatUnits.f k l0 = some true) :
    Calls Try.prog 5 #[.slice A0 l0.length c0] w fun e w' => e = .returned (.bool true) ∧ Below w.heap.size w w' := by
  have HR0 := Aside0.mk hr0
  have HC0 := Aside0.mk hc0
  clear hr0 hc0
  have HB := Aside0.mk (Below.refl w.heap.size w)
  have H : (if (l0.length : Int) > 30 then ((switchboardlaw03_awake.f k).bind fun t218 => (some t218)) else (switchboardlaw03_MatUnits.l0 k l0 ([] : List (List Int)) (l0.length : Int) 0)) = some true := h
  clear h
  by_cases c2 : (l0.length : Int) > 30
  · rw [if_pos c2] at H
    have c2b0 : decide (30 < (l0.length : Int)) = true := decide_eq_true c2
    have c2b1 : decide (30 < l0.length) = true := decide_eq_true (by omega)
    clear c2
    replace H := Option.bind_eq_some_iff.mp H
    obtain ⟨t218, A30, H⟩ := H
    replace H : (some t218) = some true := H
    have A3 := Aside0.mk A30
    clear A30
    have hr_ := Aside0.mk (Option.some.inj H)
    go_enter Try.func5, Try.ntmps5
    go_wp2_with (first | ((with_reducible refine gate_callee (f := 9) rfl ?_); refine goesL_ (some 15) rfl rfl Try.func9 (by kernel_rfl) rfl #[] rfl (by (try simp only [List.map_toArray, List.map_cons, List.map_nil]); first | done | rfl | (simp only [List.length_drop, List.length_take]; rfl)) ?_; (with_reducible refine (switchboardlaw03_awake.calls k  t218 _ A3.out).mono ?_); rintro e w4 ⟨rfl, hb⟩; refine ⟨_, rfl, ?_⟩; have n0_ := Aside0.mk (below_step (by repeat (first | (with_reducible first | exact HB.out | apply below_alloc | apply pw_below_drewN | apply below_drew1) | exact HB.out)) hb); clear HB; have HB := n0_; clear n0_; (try clear hb); (try clear hb2); (try clear hk); (try clear hi)))
    go_ret
    exact ⟨by first | rfl | exact congrArg (fun b_ => Ending.returned (Value.bool b_)) hr_.out | exact congrArg (fun b_ => Ending.returned (Value.bool b_)) hr_.out | (simp [errW_none, errW_some] <;> rfl) | (simp [*, errW_none, errW_some] <;> rfl), by repeat (first | (with_reducible first | exact HB.out | apply below_alloc | apply pw_below_drewN | apply below_drew1) | exact HB.out)⟩
  · rw [if_neg c2] at H
    have c2b0 : decide (30 < (l0.length : Int)) = false := decide_eq_false c2
    have c2b1 : decide (30 < l0.length) = false := decide_eq_false (by omega)
    clear c2
    have H' := Aside0.mk H
    clear H
    go_enter Try.func5, Try.ntmps5
    go_wp2
    go_loopg [3, 18] k (fun kq v3 v18 w' => ∃ (x3_1 : List (List Int)) (x18_1 : Int), v18 = .int .i64 x18_1 ∧ Aside0 (switchboardlaw03_MatUnits.l0 kq l0 x3_1 (l0.length : Int) x18_1 = some true) ∧ Aside0 (kq ≤ k) ∧ Aside0 (Kd.S (Kd.slice 3 (Kd.int .i64)) 23 w' w.heap.size (fun _ => True) v3 x3_1) ∧ Aside0 (Below w.heap.size w w'))
    case atStart => exact ⟨(([] : List (List Int))), (0), (by first | rfl | (simp; done) | (simp [*]; done)), H', ⟨Nat.le_refl _⟩, ⟨by first | exact Kd.S_nil _ _ _ _ _ | exact Kd.N_nil _ _ _ _ _ | exact Kd.V_nil _ _ _ _ _ | exact Kd.Q_nil _ _ _ _ _ | exact Kd.R_nil _ _ _ _ _⟩, ⟨by repeat (first | (with_reducible first | exact HB.out | apply below_alloc | apply pw_below_drewN | apply below_drew1) | exact HB.out)⟩⟩
    case round =>
      clear H'
      try clear c2
      try clear c2b0
      try clear c2b1
      try clear p2
      obtain ⟨x3_1, x18_1, rfl, HA, HK1, HO_3, HB⟩ := hrel
      cases gk with
      | zero => exact absurd HA.out (by simp [switchboardlaw03_MatUnits.l0])
      | succ k1 =>
        have H := HA.out
        clear HA
        simp only [switchboardlaw03_MatUnits.l0] at H
        by_cases c5 : x18_1 < (l0.length : Int)
        · rw [if_pos c5] at H
          have c5b0 : decide (x18_1 < (l0.length : Int)) = true := decide_eq_true c5
          clear c5
          by_cases c6 : 0 ≤ (l0.length : Int)
          · rw [if_pos c6] at H
            have c6b0 := eq_true c6
            have c6b1 : decide (0 ≤ (l0.length : Int)) = true := decide_eq_true c6
            clear c6
            by_cases c7 : ((l0.length : Int) : Int).toNat ≤ 35184372088832
            · rw [if_pos c7] at H
              have c7b0 := eq_true c7
              have c7b1 : decide (((l0.length : Int) : Int).toNat ≤ 35184372088832) = true := decide_eq_true c7
              clear c7
              obtain ⟨y219, hy219⟩ : ∃ y_ : List Int, y_ = (List.replicate ((l0.length : Int) : Int).toNat 0) := ⟨_, rfl⟩
              replace H : (if 0 ≤ x18_1 then (if x18_1 < (y219.length : Int) then (if x3_1.length < 5864062014805 then (switchboardlaw03_MatUnits.l0 k1 l0 (x3_1 ++ [(y219.set (x18_1 : Int).toNat 65536)]) (l0.length : Int) (wrap64 (x18_1 + 1))) else (none)) else (none)) else (none)) = some true := by first | (rw [hy219]; with_reducible exact H) | (have H2_ := (Option.bind_some _ _).symm.trans H; rw [hy219]; with_reducible exact H2_) | (have H2_ := (Option.bind_some _ _).symm.trans H; with_reducible exact H2_) | with_reducible exact H | (rw [hy219]; exact H) | exact H
              have Ny219 := Aside0.mk hy219
              clear hy219
              by_cases c8 : 0 ≤ x18_1
              · rw [if_pos c8] at H
                have c8b0 : decide (0 ≤ x18_1) = true := decide_eq_true c8
                clear c8
                by_cases c9 : x18_1 < (y219.length : Int)
                · rw [if_pos c9] at H
                  have c9b0 : decide (x18_1 < (y219.length : Int)) = true := decide_eq_true c9
                  clear c9
                  obtain ⟨y222, hy222⟩ : ∃ y_ : List Int, y_ = (y219.set (x18_1 : Int).toNat 65536) := ⟨_, rfl⟩
                  replace H : (if x3_1.length < 5864062014805 then (switchboardlaw03_MatUnits.l0 k1 l0 (x3_1 ++ [y222]) (l0.length : Int) (wrap64 (x18_1 + 1))) else (none)) = some true := by first | (rw [hy222]; with_reducible exact H) | (have H2_ := (Option.bind_some _ _).symm.trans H; rw [hy222]; with_reducible exact H2_) | (have H2_ := (Option.bind_some _ _).symm.trans H; with_reducible exact H2_) | with_reducible exact H | (rw [hy222]; exact H) | exact H
                  have Ny222 := Aside0.mk hy222
                  clear hy222
                  by_cases c11 : x3_1.length < 5864062014805
                  · rw [if_pos c11] at H
                    have LMc11 := Aside0.mk c11
                    clear c11
                    obtain ⟨y223, hy223⟩ : ∃ y_ : List (List Int), y_ = (x3_1 ++ [y222]) := ⟨_, rfl⟩
                    replace H : (switchboardlaw03_MatUnits.l0 k1 l0 y223 (l0.length : Int) (wrap64 (x18_1 + 1))) = some true := by first | (rw [hy223]; with_reducible exact H) | (have H2_ := (Option.bind_some _ _).symm.trans H; rw [hy223]; with_reducible exact H2_) | (have H2_ := (Option.bind_some _ _).symm.trans H; with_reducible exact H2_) | with_reducible exact H | (rw [hy223]; exact H) | exact H
                    have Ny223 := Aside0.mk hy223
                    clear hy223
                    have H' := Aside0.mk H
                    clear H
                    go_wp2_with (first | ((with_reducible refine gate_dst (N := 23) rfl ?_); (try (refine gate_guard (by rfl) ?_; dsimp only)); refine Kd.R_make (Kd.int .i64) _ 3 rfl (N := 23) rfl 23 _ _ rfl (l0.length : Int) rfl rfl Try.underlying23 (.int .i64 0) 8 info3 rfl (by decide) (by omega) 0 (ok := fun _ => True) (okp := fun _ => True) rfl (fun _ hk => hk) trivial (of_decide_eq_true (by first | (with_reducible assumption) | assumption)) (Nat.le_trans (Nat.mul_le_mul_right _ (of_decide_eq_true (by first | (with_reducible assumption) | assumption) : (l0.length : Int).toNat ≤ 35184372088832)) (by omega)) (Below.refl _ _) (Nat.le_refl _) ?_; intro v220 w12 ho13 hb hg_ hnew_; clear hg_ hnew_; (first | rw [← Ny219.out] at ho13 | (simp only [Int.reduceToNat] at ho13; rw [← Ny219.out] at ho13)); have n0_ := Aside0.mk (Kd.S_elder' (by (with_reducible repeat (first | apply Kd.S_alloc | apply Kd.S_drewN | apply Kd.S_drew)); exact HO_3.out) (Kd.R_base ho13) hb); have n1_ := Aside0.mk (Kd.R_lower ho13 (below_size (by repeat (first | (with_reducible first | exact HB.out | apply below_alloc | apply pw_below_drewN | apply below_drew1) | exact HB.out)))); have n2_ := Aside0.mk (below_step (by repeat (first | (with_reducible first | exact HB.out | apply below_alloc | apply pw_below_drewN | apply below_drew1) | exact HB.out)) hb); clear HO_3; clear HB; have HO_3 := n0_; have HO221 := n1_; have HB := n2_; clear n0_ n1_ n2_; clear hb ho13; have p10 : 0 ≤ (x18_1 : Int) := of_decide_eq_true (by first | (with_reducible assumption) | assumption); have q10 : (x18_1 : Int) < ((y219.length : Int) : Int) := of_decide_eq_true (by first | (with_reducible assumption) | assumption); obtain ⟨go10, co10, eo10, gb10, gl10, cl10, HG10⟩ := Kd.R_form HO221.out (by omega); (first | cases eo10 | (injection eo10 with ea_ en_ ec_; (first | subst ea_ | (injection ea_ with ea_; subst ea_)); subst ec_; clear en_)); have GB10 := Aside0.mk gb10; have GG10 := Aside0.mk HG10; clear gb10 gl10 HG10; obtain ⟨hx10_0, hf10_0⟩ := Kd.R_celln 0 HO221.out (x18_1 : Int) p10 q10; replace p10 := eq_true p10; replace q10 := eq_true q10; obtain ⟨hy14_, hz14_⟩ := Kd.R_celln 0 HO221.out (x18_1 : Int) (of_decide_eq_true (by first | (with_reducible assumption) | assumption)) (of_decide_eq_true (by first | (with_reducible assumption) | assumption)); have HP14 := Kd.R_putg HO221.out (x18_1 : Int) 65536) | ((with_reducible refine gate_store (t := 3) (p := 26) rfl ?_); refine store_event (t := 3) (p := 26) (v := ?vo_w15) (w1 := (w12.setCell ⟨go10, (x18_1 : Int).toNat, none⟩ (.int .i64 65536))) ?hg ?ho ?hn ?hr ?_; (case ho => rfl); (case hg => rfl); (case hn => rfl); (case hr => first | (go_simp; done) | (go_simp; rfl)); intro w15 hw; have hg : w12.grownBy w15 (some go10) := (by rw [hw]; exact HP14.2); have hp_ : Kd.R (Kd.int .i64) 3 w15 w.heap.size (fun _ => True) (.slice (some ⟨go10, 0, none⟩) y219.length co10) y222 := (by rw [hw, Ny222.out]; exact HP14.1); clear HP14; have n0_ := Aside0.mk (Kd.S_after (v := (.slice (some ⟨go10, 0, none⟩) y219.length co10)) (v1 := (.slice (some ⟨go10, 0, none⟩) y219.length co10)) (ok := (fun _ => True)) (by (with_reducible repeat (first | apply Kd.S_alloc | apply Kd.S_drewN | apply Kd.S_drew)); exact HO_3.out) hg (.inl rfl)); have n1_ := Aside0.mk (hp_); have n2_ := Aside0.mk ((by rw [hw]; exact below_set (HB.out) GB10.out : Below w.heap.size w w15)); clear HO_3; clear HO221; clear HB; have HO_3 := n0_; have HO221 := n1_; have HB := n2_; clear n0_ n1_ n2_; clear hg hw hp_) | ((with_reducible refine gate_builtin (b := .append) (xs := #[.tmp 27, .tmp 29]) rfl ?_); (try (refine gate_guard (by rfl) ?_; dsimp only)); at_builtin; refine Kd.S_append (Kd.slice 3 (Kd.int .i64)) (w0 := w) w.heap.size rfl (.tmp 27) (.tmp 29) 22 23 (.slice none 0 0) 24 rfl Try.underlying22 info23 rfl (by decide) (by omega) u3 x3_1 y222 [.slice (some ⟨go10, 0, none⟩) y219.length co10] (fun _ => True) (fun k_ => some k_ = (.slice (some ⟨go10, 0, none⟩) y219.length co10 : Value).ownBlock) rfl rfl ?aP (fun k_ hk_ => ((Kd.R_mono (ok' := fun k_ => ((fun _ => True)) k_ ∧ some k_ ≠ (u3 : Value).ownBlock) (Kd.R_apart' (HO221.out) (Kd.S_typed HO_3.out) (by decide)) (fun k_ hk => ⟨trivial, hk.2⟩))).1 k_ hk_.symm) ?aF ?aO ?aB ?aS ?aL ?_; (case aP => exact Kd.M_row (Kd.R_mono (Kd.R_tight rfl (Kd.R_mono (ok' := fun k_ => ((fun _ => True)) k_ ∧ some k_ ≠ (u3 : Value).ownBlock) (Kd.R_apart' (HO221.out) (Kd.S_typed HO_3.out) (by decide)) (fun k_ hk => ⟨trivial, hk.2⟩))) (fun _ h_ => h_))); (case aB => exact (by repeat (first | (with_reducible first | exact HB.out | apply below_alloc | apply pw_below_drewN | apply below_drew1) | exact HB.out))); (case aF => exact (fun _ _ => trivial)); (case aO => exact (by (with_reducible repeat (first | apply Kd.S_alloc | apply Kd.S_drewN | apply Kd.S_drew)); exact Kd.S_mono HO_3.out (fun k_ hk => ⟨trivial, fun e_ => hk.2 e_⟩))); (case aS => exact (below_size (by repeat (first | (with_reducible first | exact HB.out | apply below_alloc | apply pw_below_drewN | apply below_drew1) | exact HB.out)))); (case aL => have := LMc11.out; omega); intro v224 w16 ho hb hg hat; rw [← Ny223.out] at ho; have n0_ := Aside0.mk (hb); have n1_ := Aside0.mk (ho); clear HB; clear HO_3; clear HO221; have HB := n0_; have HO225 := n1_; clear n0_ n1_; clear ho hb hg hat))
                    go_roundg k1
                    case measure => have := HK1.out; omega
                    case rel => exact ⟨(y223), (wrap64 (x18_1 + 1)), (by first | rfl | (simp; done) | (simp [*]; done)), H', ⟨by have := HK1.out; omega⟩, ⟨by (with_reducible repeat (first | apply Kd.S_alloc | apply Kd.S_drewN | apply Kd.S_drew)); exact HO225.out⟩, ⟨by repeat (first | (with_reducible first | exact HB.out | apply below_alloc | apply pw_below_drewN | apply below_drew1) | exact HB.out)⟩⟩
                  · rw [if_neg c11] at H
                    exact absurd H (by simp)
                · rw [if_neg c9] at H
                  exact absurd H (by simp)
              · rw [if_neg c8] at H
                exact absurd H (by simp)
            · rw [if_neg c7] at H
              exact absurd H (by simp)
          · rw [if_neg c6] at H
            exact absurd H (by simp)
        · rw [if_neg c5] at H
          have c5b0 : decide (x18_1 < (l0.length : Int)) = false := decide_eq_false c5
          clear c5
          replace H := Option.bind_eq_some_iff.mp H
          obtain ⟨⟨t226, t227⟩, A170, H⟩ := H
          replace H : (if 0 ≤ (l0.length : Int) then (if ((l0.length : Int) : Int).toNat ≤ 35184372088832 then ((mat_Apply.f k1 x3_1 (List.replicate ((l0.length : Int) : Int).toNat 0)).bind fun bt233 => (if (t226.length : Int) = (l0.length : Int) then (if (bt233.1.length : Int) = (l0.length : Int) then (if t227 = true then (if bt233.2 = true then ((mat_Right.f x3_1 (l0.length : Int) (l0.length : Int)).bind fun t237 => (switchboardlaw03_MatUnits.j1 k1 l0 t226 bt233.1 (!t237))) else (switchboardlaw03_MatUnits.j1 k1 l0 t226 bt233.1 true)) else (switchboardlaw03_MatUnits.j1 k1 l0 t226 bt233.1 true)) else (switchboardlaw03_MatUnits.j1 k1 l0 t226 bt233.1 true)) else (switchboardlaw03_MatUnits.j1 k1 l0 t226 bt233.1 true))) else (none)) else (none)) = some true := H
          have A17 := Aside0.mk A170
          clear A170
          by_cases c18 : 0 ≤ (l0.length : Int)
          · rw [if_pos c18] at H
            have c18b0 := eq_true c18
            have c18b1 : decide (0 ≤ (l0.length : Int)) = true := decide_eq_true c18
            clear c18
            by_cases c19 : ((l0.length : Int) : Int).toNat ≤ 35184372088832
            · rw [if_pos c19] at H
              have c19b0 := eq_true c19
              have c19b1 : decide (((l0.length : Int) : Int).toNat ≤ 35184372088832) = true := decide_eq_true c19
              clear c19
              obtain ⟨y230, hy230⟩ : ∃ y_ : List Int, y_ = (List.replicate ((l0.length : Int) : Int).toNat 0) := ⟨_, rfl⟩
              replace H : ((mat_Apply.f k1 x3_1 y230).bind fun bt233 => (if (t226.length : Int) = (l0.length : Int) then (if (bt233.1.length : Int) = (l0.length : Int) then (if t227 = true then (if bt233.2 = true then ((mat_Right.f x3_1 (l0.length : Int) (l0.length : Int)).bind fun t237 => (switchboardlaw03_MatUnits.j1 k1 l0 t226 bt233.1 (!t237))) else (switchboardlaw03_MatUnits.j1 k1 l0 t226 bt233.1 true)) else (switchboardlaw03_MatUnits.j1 k1 l0 t226 bt233.1 true)) else (switchboardlaw03_MatUnits.j1 k1 l0 t226 bt233.1 true)) else (switchboardlaw03_MatUnits.j1 k1 l0 t226 bt233.1 true))) = some true := by first | (rw [hy230]; with_reducible exact H) | (have H2_ := (Option.bind_some _ _).symm.trans H; rw [hy230]; with_reducible exact H2_) | (have H2_ := (Option.bind_some _ _).symm.trans H; with_reducible exact H2_) | with_reducible exact H | (rw [hy230]; exact H) | exact H
              have Ny230 := Aside0.mk hy230
              clear hy230
              replace H := Option.bind_eq_some_iff.mp H
              obtain ⟨⟨t233, t234⟩, A200, H⟩ := H
              replace H : (if (t226.length : Int) = (l0.length : Int) then (if (t233.length : Int) = (l0.length : Int) then (if t227 = true then (if t234 = true then ((mat_Right.f x3_1 (l0.length : Int) (l0.length : Int)).bind fun t237 => (switchboardlaw03_MatUnits.j1 k1 l0 t226 t233 (!t237))) else (switchboardlaw03_MatUnits.j1 k1 l0 t226 t233 true)) else (switchboardlaw03_MatUnits.j1 k1 l0 t226 t233 true)) else (switchboardlaw03_MatUnits.j1 k1 l0 t226 t233 true)) else (switchboardlaw03_MatUnits.j1 k1 l0 t226 t233 true)) = some true := H
              have A20 := Aside0.mk A200
              clear A200
              have HC21 := Aside0.mk H
              clear H
              obtain ⟨Ao22, co22, eo22⟩ := Kd.S_slice HO_3.out
              subst eo22
              go_upto_region 13 with (first | ((with_reducible refine gate_callee (f := 10) rfl ?_); refine goesL_ (some 35) rfl rfl Try.func10 (by kernel_rfl) rfl #[.slice Ao22 x3_1.length co22, .slice A0 l0.length c0] rfl (by (try simp only [List.map_toArray, List.map_cons, List.map_nil]); first | done | rfl | (simp only [List.length_drop, List.length_take]; rfl)) ?_; (with_reducible refine (mat_Apply.calls k1 _ _ x3_1 _ _ l0 t226 t227 _ ?side1 ?side2 ?side3 ?side4 A17.out).mono ?_); (case side1 => repeat (first | exact (Kd.S_reads' HO_3.out).2.2 | (with_reducible refine Kd.C_alloc ?_ _) | (with_reducible refine Kd.C_drewN ?_ _) | (with_reducible refine Kd.C_drew ?_))); (case side2 => exact (Kd.S_reads' HO_3.out).2.1); (case side3 => repeat (first | exact (Kd.C_below HR0.out HB.out) | (with_reducible refine Kd.C_alloc ?_ _) | (with_reducible refine Kd.C_drewN ?_ _) | (with_reducible refine Kd.C_drew ?_))); (case side4 => exact HC0.out); rintro e w23 ⟨v228, rfl, ho0, hb⟩; refine ⟨_, rfl, ?_⟩; have n0_ := Aside0.mk (Kd.S_elder' (by (with_reducible repeat (first | apply Kd.S_alloc | apply Kd.S_drewN | apply Kd.S_drew)); exact HO_3.out) (Kd.R_base ho0) hb); have n1_ := Aside0.mk (Kd.R_lower ho0 (below_size (by repeat (first | (with_reducible first | exact HB.out | apply below_alloc | apply pw_below_drewN | apply below_drew1) | exact HB.out)))); have n2_ := Aside0.mk (below_step (by repeat (first | (with_reducible first | exact HB.out | apply below_alloc | apply pw_below_drewN | apply below_drew1) | exact HB.out)) hb); clear HO_3; clear HB; have HO_3 := n0_; have HO229 := n1_; have HB := n2_; clear n0_ n1_ n2_; (try clear hb); (try clear hb2); (try clear hk); (try clear hi); (try clear ho0)) | ((with_reducible refine gate_dst (N := 42) rfl ?_); (try (refine gate_guard (by rfl) ?_; dsimp only)); refine Kd.R_make (Kd.int .i64) _ 3 rfl (N := 42) rfl 23 _ _ rfl (l0.length : Int) rfl rfl Try.underlying23 (.int .i64 0) 8 info3 rfl (by decide) (by omega) 0 (ok := fun _ => True) (okp := fun _ => True) rfl (fun _ hk => hk) trivial (of_decide_eq_true (by first | (with_reducible assumption) | assumption)) (Nat.le_trans (Nat.mul_le_mul_right _ (of_decide_eq_true (by first | (with_reducible assumption) | assumption) : (l0.length : Int).toNat ≤ 35184372088832)) (by omega)) (Below.refl _ _) (Nat.le_refl _) ?_; intro v231 w24 ho25 hb hg_ hnew_; clear hg_ hnew_; (first | rw [← Ny230.out] at ho25 | (simp only [Int.reduceToNat] at ho25; rw [← Ny230.out] at ho25)); have n0_ := Aside0.mk (Kd.S_elder' (by (with_reducible repeat (first | apply Kd.S_alloc | apply Kd.S_drewN | apply Kd.S_drew)); exact HO_3.out) (Kd.R_base ho25) hb); have n1_ := Aside0.mk (Kd.R_elder' (by (with_reducible repeat (first | apply Kd.R_alloc | apply Kd.R_drewN | apply Kd.R_drew)); exact HO229.out) (Kd.R_base ho25) hb); have n2_ := Aside0.mk (Kd.R_lower (Kd.R_new' ho25 (Kd.R_lt (by (with_reducible repeat (first | apply Kd.R_alloc | apply Kd.R_drewN | apply Kd.R_drew)); exact HO229.out))) (below_size (by repeat (first | (with_reducible first | exact HB.out | apply below_alloc | apply pw_below_drewN | apply below_drew1) | exact HB.out)))); have n3_ := Aside0.mk (below_step (by repeat (first | (with_reducible first | exact HB.out | apply below_alloc | apply pw_below_drewN | apply below_drew1) | exact HB.out)) hb); clear HO_3; clear HO229; clear HB; have HO_3 := n0_; have HO229 := n1_; have HO232 := n2_; have HB := n3_; clear n0_ n1_ n2_ n3_; clear hb ho25; obtain ⟨Ao26, co26, eo26⟩ := Kd.R_slice HO232.out; subst eo26) | ((with_reducible refine gate_callee (f := 10) rfl ?_); refine goesL_ (some 43) rfl rfl Try.func10 (by kernel_rfl) rfl #[.slice Ao22 x3_1.length co22, .slice Ao26 y230.length co26] rfl (by (try simp only [List.map_toArray, List.map_cons, List.map_nil]); first | done | rfl | (simp only [List.length_drop, List.length_take]; rfl)) ?_; (with_reducible refine (mat_Apply.calls k1 _ _ x3_1 _ _ y230 t233 t234 _ ?side1 ?side2 ?side3 ?side4 A20.out).mono ?_); (case side1 => repeat (first | exact (Kd.S_reads' HO_3.out).2.2 | (with_reducible refine Kd.C_alloc ?_ _) | (with_reducible refine Kd.C_drewN ?_ _) | (with_reducible refine Kd.C_drew ?_))); (case side2 => exact (Kd.S_reads' HO_3.out).2.1); (case side3 => repeat (first | exact (Kd.R_reads' HO232.out).2.2 | (with_reducible refine Kd.C_alloc ?_ _) | (with_reducible refine Kd.C_drewN ?_ _) | (with_reducible refine Kd.C_drew ?_))); (case side4 => exact (Kd.R_reads' HO232.out).2.1); rintro e w27 ⟨v235, rfl, ho0, hb⟩; refine ⟨_, rfl, ?_⟩; have n0_ := Aside0.mk (Kd.S_elder' (by (with_reducible repeat (first | apply Kd.S_alloc | apply Kd.S_drewN | apply Kd.S_drew)); exact HO_3.out) (Kd.R_base ho0) hb); have n1_ := Aside0.mk (Kd.R_elder' (by (with_reducible repeat (first | apply Kd.R_alloc | apply Kd.R_drewN | apply Kd.R_drew)); exact HO229.out) (Kd.R_base ho0) hb); have n2_ := Aside0.mk (Kd.R_elder' (by (with_reducible repeat (first | apply Kd.R_alloc | apply Kd.R_drewN | apply Kd.R_drew)); exact HO232.out) (Kd.R_base ho0) hb); have n3_ := Aside0.mk (Kd.R_lower (Kd.R_new' (Kd.R_new' ho0 (Kd.R_lt (by (with_reducible repeat (first | apply Kd.R_alloc | apply Kd.R_drewN | apply Kd.R_drew)); exact HO229.out))) (Kd.R_lt (by (with_reducible repeat (first | apply Kd.R_alloc | apply Kd.R_drewN | apply Kd.R_drew)); exact HO232.out))) (below_size (by repeat (first | (with_reducible first | exact HB.out | apply below_alloc | apply pw_below_drewN | apply below_drew1) | exact HB.out)))); have n4_ := Aside0.mk (below_step (by repeat (first | (with_reducible first | exact HB.out | apply below_alloc | apply pw_below_drewN | apply below_drew1) | exact HB.out)) hb); clear HO_3; clear HO229; clear HO232; clear HB; have HO_3 := n0_; have HO229 := n1_; have HO232 := n2_; have HO236 := n3_; have HB := n4_; clear n0_ n1_ n2_ n3_ n4_; (try clear hb); (try clear hb2); (try clear hk); (try clear hi); (try clear ho0)))
              (try simp only [Act.put, List.setIfInBounds_toArray, List.set_cons_zero, List.set_cons_succ])
              go_cut [74] (fun v74 wc => ∃ (kq : Nat) (x74_20 : Bool), v74 = .bool x74_20 ∧ Aside0 (switchboardlaw03_MatUnits.j1 kq l0 t226 t233 x74_20 = some true) ∧ Aside0 (kq ≤ k1) ∧ Aside0 (Kd.R (Kd.int .i64) 3 wc w.heap.size (fun k_ => some k_ ≠ (v235 : Value).ownBlock) v228 t226) ∧ Aside0 (Kd.R (Kd.int .i64) 3 wc w.heap.size (fun k_ => some k_ ≠ (v228 : Value).ownBlock) v235 t233) ∧ Aside0 (Below w.heap.size w wc))
              case first =>
                have H := HC21.out
                clear HC21
                by_cases c28 : (t226.length : Int) = (l0.length : Int)
                · rw [if_pos c28] at H
                  have c28b0 : ((t226.length : Int) == (l0.length : Int)) = true := beq_iff_eq.mpr c28
                  have c28b1 : ((t226.length : Int) != (l0.length : Int)) = false := bne_eq_false_iff_eq.mpr c28
                  have c28b2 : (t226.length == l0.length) = true := by first | simpa using c28 | (simp at c28 ⊢; omega)
                  clear c28
                  (first | rw [c28b0] | (simp only [i64_w, i32_w]; rw [c28b0]) | skip)
                  by_cases c29 : (t233.length : Int) = (l0.length : Int)
                  · rw [if_pos c29] at H
                    have c29b0 : ((t233.length : Int) == (l0.length : Int)) = true := beq_iff_eq.mpr c29
                    have c29b1 : ((t233.length : Int) != (l0.length : Int)) = false := bne_eq_false_iff_eq.mpr c29
                    have c29b2 : (t233.length == l0.length) = true := by first | simpa using c29 | (simp at c29 ⊢; omega)
                    clear c29
                    by_cases c30 : t227 = true
                    · subst c30
                      have H1 : (if t234 = true then ((mat_Right.f x3_1 (l0.length : Int) (l0.length : Int)).bind fun t237 => (switchboardlaw03_MatUnits.j1 k1 l0 t226 t233 (!t237))) else (switchboardlaw03_MatUnits.j1 k1 l0 t226 t233 true)) = some true := by rw [if_pos rfl] at H; exact H
                      clear H
                      have H := H1
                      clear H1
                      by_cases c31 : t234 = true
                      · subst c31
                        have H1 : ((mat_Right.f x3_1 (l0.length : Int) (l0.length : Int)).bind fun t237 => (switchboardlaw03_MatUnits.j1 k1 l0 t226 t233 (!t237))) = some true := by rw [if_pos rfl] at H; exact H
                        clear H
                        have H := H1
                        clear H1
                        replace H := Option.bind_eq_some_iff.mp H
                        obtain ⟨t237, A320, H⟩ := H
                        replace H : (switchboardlaw03_MatUnits.j1 k1 l0 t226 t233 (!t237)) = some true := H
                        have A32 := Aside0.mk A320
                        clear A320
                        have H' := Aside0.mk H
                        clear H
                        obtain ⟨Ao33, co33, eo33⟩ := Kd.R_slice HO229.out
                        subst eo33
                        obtain ⟨Ao34, co34, eo34⟩ := Kd.R_slice HO236.out
                        subst eo34
                        go_wp2_with (first | (go_at_call 13; (with_reducible refine (mat_Right.calls _ _ x3_1 (l0.length : Int) (l0.length : Int) t237 _ ?side1 ?side2 A32.out).mono ?_); (case side1 => repeat (first | exact (Kd.S_reads' HO_3.out).2.2 | (with_reducible refine Kd.C_alloc ?_ _) | (with_reducible refine Kd.C_drewN ?_ _) | (with_reducible refine Kd.C_drew ?_))); (case side2 => exact (Kd.S_reads' HO_3.out).2.1); rintro e w35 ⟨rfl, hb⟩; have n0_ := Aside0.mk (Kd.S_below (by (with_reducible repeat (first | apply Kd.S_alloc | apply Kd.S_drewN | apply Kd.S_drew)); exact HO_3.out) hb); have n1_ := Aside0.mk (Kd.R_below (by (with_reducible repeat (first | apply Kd.R_alloc | apply Kd.R_drewN | apply Kd.R_drew)); exact HO229.out) hb); have n2_ := Aside0.mk (Kd.R_below (by (with_reducible repeat (first | apply Kd.R_alloc | apply Kd.R_drewN | apply Kd.R_drew)); exact HO232.out) hb); have n3_ := Aside0.mk (Kd.R_below (by (with_reducible repeat (first | apply Kd.R_alloc | apply Kd.R_drewN | apply Kd.R_drew)); exact HO236.out) hb); have n4_ := Aside0.mk (below_step (by repeat (first | (with_reducible first | exact HB.out | apply below_alloc | apply pw_below_drewN | apply below_drew1) | exact HB.out)) hb); clear HO_3; clear HO229; clear HO232; clear HO236; clear HB; have HO_3 := n0_; have HO229 := n1_; have HO232 := n2_; have HO236 := n3_; have HB := n4_; clear n0_ n1_ n2_ n3_ n4_; (try clear hb); (try clear hb2); (try clear hk); (try clear hi)))
                        go_meet
                        case rel => exact ⟨_, (!t237), (by first | rfl | (simp; done) | (simp [*]; done)), H', ⟨by have := HK1.out; first | omega | exact Nat.le_refl _⟩, ⟨by (with_reducible repeat (first | apply Kd.R_alloc | apply Kd.R_drewN | apply Kd.R_drew)); exact Kd.R_mono HO229.out (fun _ hk => hk.2)⟩, ⟨by (with_reducible repeat (first | apply Kd.R_alloc | apply Kd.R_drewN | apply Kd.R_drew)); exact Kd.R_mono HO236.out (fun _ hk => hk.1.2)⟩, ⟨by repeat (first | (with_reducible first | exact HB.out | apply below_alloc | apply pw_below_drewN | apply below_drew1) | exact HB.out)⟩⟩
                      · replace c31 := Bool.eq_false_iff.mpr c31
                        subst c31
                        have H1 : (switchboardlaw03_MatUnits.j1 k1 l0 t226 t233 true) = some true := by rw [if_neg (show ¬ (false = true) by decide)] at H; exact H
                        clear H
                        have H := H1
                        clear H1
                        have H' := Aside0.mk H
                        clear H
                        obtain ⟨Ao36, co36, eo36⟩ := Kd.R_slice HO229.out
                        subst eo36
                        obtain ⟨Ao37, co37, eo37⟩ := Kd.R_slice HO236.out
                        subst eo37
                        go_wp2
                        go_meet
                        case rel => exact ⟨_, (true), (by first | rfl | (simp; done) | (simp [*]; done)), H', ⟨by have := HK1.out; first | omega | exact Nat.le_refl _⟩, ⟨by (with_reducible repeat (first | apply Kd.R_alloc | apply Kd.R_drewN | apply Kd.R_drew)); exact Kd.R_mono HO229.out (fun _ hk => hk.2)⟩, ⟨by (with_reducible repeat (first | apply Kd.R_alloc | apply Kd.R_drewN | apply Kd.R_drew)); exact Kd.R_mono HO236.out (fun _ hk => hk.1.2)⟩, ⟨by repeat (first | (with_reducible first | exact HB.out | apply below_alloc | apply pw_below_drewN | apply below_drew1) | exact HB.out)⟩⟩
                    · replace c30 := Bool.eq_false_iff.mpr c30
                      subst c30
                      have H1 : (switchboardlaw03_MatUnits.j1 k1 l0 t226 t233 true) = some true := by rw [if_neg (show ¬ (false = true) by decide)] at H; exact H
                      clear H
                      have H := H1
                      clear H1
                      have H' := Aside0.mk H
                      clear H
                      obtain ⟨Ao38, co38, eo38⟩ := Kd.R_slice HO229.out
                      subst eo38
                      obtain ⟨Ao39, co39, eo39⟩ := Kd.R_slice HO236.out
                      subst eo39
                      go_wp2
                      go_meet
                      case rel => exact ⟨_, (true), (by first | rfl | (simp; done) | (simp [*]; done)), H', ⟨by have := HK1.out; first | omega | exact Nat.le_refl _⟩, ⟨by (with_reducible repeat (first | apply Kd.R_alloc | apply Kd.R_drewN | apply Kd.R_drew)); exact Kd.R_mono HO229.out (fun _ hk => hk.2)⟩, ⟨by (with_reducible repeat (first | apply Kd.R_alloc | apply Kd.R_drewN | apply Kd.R_drew)); exact Kd.R_mono HO236.out (fun _ hk => hk.1.2)⟩, ⟨by repeat (first | (with_reducible first | exact HB.out | apply below_alloc | apply pw_below_drewN | apply below_drew1) | exact HB.out)⟩⟩
                  · rw [if_neg c29] at H
                    have c29b0 : ((t233.length : Int) == (l0.length : Int)) = false := beq_eq_false_iff_ne.mpr c29
                    have c29b1 : ((t233.length : Int) != (l0.length : Int)) = true := bne_iff_ne.mpr c29
                    have c29b2 : (t233.length == l0.length) = false := by first | simpa using c29 | (simp at c29 ⊢; omega)
                    have H' := Aside0.mk H
                    clear H
                    obtain ⟨Ao40, co40, eo40⟩ := Kd.R_slice HO229.out
                    subst eo40
                    obtain ⟨Ao41, co41, eo41⟩ := Kd.R_slice HO236.out
                    subst eo41
                    go_wp2
                    go_meet
                    case rel => exact ⟨_, (true), (by first | rfl | (simp; done) | (simp [*]; done)), H', ⟨by have := HK1.out; first | omega | exact Nat.le_refl _⟩, ⟨by (with_reducible repeat (first | apply Kd.R_alloc | apply Kd.R_drewN | apply Kd.R_drew)); exact Kd.R_mono HO229.out (fun _ hk => hk.2)⟩, ⟨by (with_reducible repeat (first | apply Kd.R_alloc | apply Kd.R_drewN | apply Kd.R_drew)); exact Kd.R_mono HO236.out (fun _ hk => hk.1.2)⟩, ⟨by repeat (first | (with_reducible first | exact HB.out | apply below_alloc | apply pw_below_drewN | apply below_drew1) | exact HB.out)⟩⟩
                · rw [if_neg c28] at H
                  have c28b0 : ((t226.length : Int) == (l0.length : Int)) = false := beq_eq_false_iff_ne.mpr c28
                  have c28b1 : ((t226.length : Int) != (l0.length : Int)) = true := bne_iff_ne.mpr c28
                  have c28b2 : (t226.length == l0.length) = false := by first | simpa using c28 | (simp at c28 ⊢; omega)
                  (first | rw [c28b0] | (simp only [i64_w, i32_w]; rw [c28b0]) | skip)
                  have H' := Aside0.mk H
                  clear H
                  obtain ⟨Ao42, co42, eo42⟩ := Kd.R_slice HO229.out
                  subst eo42
                  go_wp2
                  go_meet
                  case rel => exact ⟨_, (true), (by first | rfl | (simp; done) | (simp [*]; done)), H', ⟨by have := HK1.out; first | omega | exact Nat.le_refl _⟩, ⟨by (with_reducible repeat (first | apply Kd.R_alloc | apply Kd.R_drewN | apply Kd.R_drew)); exact Kd.R_mono HO229.out (fun _ hk => hk.2)⟩, ⟨by (with_reducible repeat (first | apply Kd.R_alloc | apply Kd.R_drewN | apply Kd.R_drew)); exact Kd.R_mono HO236.out (fun _ hk => hk.1.2)⟩, ⟨by repeat (first | (with_reducible first | exact HB.out | apply below_alloc | apply pw_below_drewN | apply below_drew1) | exact HB.out)⟩⟩
              case rest =>
                clear HC21
                try clear c1
                try clear p1
                try clear q1
                try clear hx1
                try clear hf1
                try clear c2
                try clear c2b0
                try clear c2b1
                try clear p2
                try clear c3
                try clear c5
                try clear c5b0
                try clear c6
                try clear c6b0
                try clear c6b1
                try clear p6
                try clear c7
                try clear c7b0
                try clear c7b1
                try clear c8
                try clear c8b0
                try clear c9
                try clear c9b0
                try clear c10
                try clear p10
                try clear q10
                try clear hx10
                try clear hf10
                try clear c11
                try clear c18
                try clear c18b0
                try clear c18b1
                try clear c19
                try clear c19b0
                try clear c19b1
                try clear c28
                try clear c28b0
                try clear c28b1
                try clear c28b2
                try clear c29
                try clear c29b0
                try clear c29b1
                try clear c29b2
                try clear c30
                try clear c31
                try clear hx10_0
                try clear p10
                try clear p2
                try clear q10
                obtain ⟨kq, x74_20, rfl, HA, HJ20, HO_6, HO_8, HB⟩ := hcut
                cases kq with
                | zero => exact absurd HA.out (by simp [switchboardlaw03_MatUnits.j1])
                | succ kj20 =>
                  have H := HA.out
                  clear HA
                  simp only [switchboardlaw03_MatUnits.j1] at H
                  by_cases c43 : x74_20 = true
                  · subst c43
                    have H1 : (some false) = some true := by rw [if_pos rfl] at H; exact H
                    clear H
                    have H := H1
                    clear H1
                    exact absurd H (by simp)
                  · replace c43 := Bool.eq_false_iff.mpr c43
                    subst c43
                    have H1 : (switchboardlaw03_MatUnits.l1 kj20 t226 t233 l0 (l0.length : Int) 0) = some true := by rw [if_neg (show ¬ (false = true) by decide)] at H; exact H
                    clear H
                    have H := H1
                    clear H1
                    have H' := Aside0.mk H
                    clear H
                    go_wp2
                    go_loopg [77] kj20 (fun kq v77 w' => ∃ (x77_3 : Int), v77 = .int .i64 x77_3 ∧ Aside0 (switchboardlaw03_MatUnits.l1 kq t226 t233 l0 (l0.length : Int) x77_3 = some true) ∧ Aside0 (kq ≤ kj20) ∧ Aside0 (Kd.R (Kd.int .i64) 3 w' w.heap.size (fun k_ => some k_ ≠ (v235 : Value).ownBlock) v228 t226) ∧ Aside0 (Kd.R (Kd.int .i64) 3 w' w.heap.size (fun k_ => some k_ ≠ (v228 : Value).ownBlock) v235 t233) ∧ Aside0 (Below w.heap.size w w'))
                    case atStart => exact ⟨(0), (by first | rfl | (simp; done) | (simp [*]; done)), H', ⟨Nat.le_refl _⟩, ⟨by (with_reducible repeat (first | apply Kd.R_alloc | apply Kd.R_drewN | apply Kd.R_drew)); exact HO_6.out⟩, ⟨by (with_reducible repeat (first | apply Kd.R_alloc | apply Kd.R_drewN | apply Kd.R_drew)); exact HO_8.out⟩, ⟨by repeat (first | (with_reducible first | exact HB.out | apply below_alloc | apply pw_below_drewN | apply below_drew1) | exact HB.out)⟩⟩
                    case round =>
                      clear H'
                      try clear c1
                      try clear p1
                      try clear q1
                      try clear hx1
                      try clear hf1
                      try clear c2
                      try clear c2b0
                      try clear c2b1
                      try clear p2
                      try clear c3
                      try clear c4
                      try clear c5
                      try clear c5b0
                      try clear c6
                      try clear c6b0
                      try clear c6b1
                      try clear p6
                      try clear c7
                      try clear c7b0
                      try clear c7b1
                      try clear c8
                      try clear c8b0
                      try clear c9
                      try clear c9b0
                      try clear c10
                      try clear p10
                      try clear q10
                      try clear hx10
                      try clear hf10
                      try clear c11
                      try clear c18
                      try clear c18b0
                      try clear c18b1
                      try clear c19
                      try clear c19b0
                      try clear c19b1
                      try clear c28
                      try clear c28b0
                      try clear c28b1
                      try clear c28b2
                      try clear c29
                      try clear c29b0
                      try clear c29b1
                      try clear c29b2
                      try clear c30
                      try clear c31
                      try clear c43
                      try clear hx10_0
                      try clear p1
                      try clear p10
                      try clear p2
                      try clear p6
                      try clear q1
                      try clear q10
                      obtain ⟨x77_3, rfl, HA, HK3, HO_6, HO_8, HB⟩ := hrel
                      cases gk with
                      | zero => exact absurd HA.out (by simp [switchboardlaw03_MatUnits.l1])
                      | succ k3 =>
                        have H := HA.out
                        clear HA
                        simp only [switchboardlaw03_MatUnits.l1] at H
                        by_cases c44 : x77_3 < (l0.length : Int)
                        · rw [if_pos c44] at H
                          have c44b0 : decide (x77_3 < (l0.length : Int)) = true := decide_eq_true c44
                          clear c44
                          by_cases c45 : 0 ≤ x77_3
                          · rw [if_pos c45] at H
                            have c45b0 : decide (0 ≤ x77_3) = true := decide_eq_true c45
                            clear c45
                            by_cases c46 : x77_3 < (l0.length : Int)
                            · rw [if_pos c46] at H
                              have c46b0 : decide (x77_3 < (l0.length : Int)) = true := decide_eq_true c46
                              clear c46
                              by_cases c47 : x77_3 < (t226.length : Int)
                              · rw [if_pos c47] at H
                                have c47b0 : decide (x77_3 < (t226.length : Int)) = true := decide_eq_true c47
                                clear c47
                                obtain ⟨ji48, hji48⟩ : ∃ j_ : Int, (mn (rd l0 x77_3) 2147483647) = j_ := ⟨_, rfl⟩
                                replace H : (if (rd t226 x77_3) = (mx (ji48) (-2147483647)) then (if x77_3 < (t233.length : Int) then (if (rd t233 x77_3) = 0 then (switchboardlaw03_MatUnits.l1 k3 t226 t233 l0 (l0.length : Int) (wrap64 (x77_3 + 1))) else (some false)) else (none)) else (some false)) = some true := by first | (rw [hji48] at H; exact H) | (simp only [hji48] at H ⊢; exact H)
                                have hji48_ : (if 2147483647 < (rd l0 x77_3) then 2147483647 else (rd l0 x77_3)) = ji48 := hji48
                                obtain ⟨ji49, hji49⟩ : ∃ j_ : Int, (mx (ji48) (-2147483647)) = j_ := ⟨_, rfl⟩
                                replace H : (if (rd t226 x77_3) = (ji49) then (if x77_3 < (t233.length : Int) then (if (rd t233 x77_3) = 0 then (switchboardlaw03_MatUnits.l1 k3 t226 t233 l0 (l0.length : Int) (wrap64 (x77_3 + 1))) else (some false)) else (none)) else (some false)) = some true := by first | (rw [hji49] at H; exact H) | (simp only [hji49] at H ⊢; exact H)
                                have hji49_ : (if (ji48) < (-2147483647) then (-2147483647) else (ji48)) = ji49 := hji49
                                by_cases c50 : (rd t226 x77_3) = (ji49)
                                · rw [if_pos c50] at H
                                  have c50b0 : ((rd t226 x77_3) == (ji49)) = true := beq_iff_eq.mpr c50
                                  have c50b1 : ((rd t226 x77_3) != (ji49)) = false := bne_eq_false_iff_eq.mpr c50
                                  clear c50
                                  by_cases c51 : x77_3 < (t233.length : Int)
                                  · rw [if_pos c51] at H
                                    have c51b0 : decide (x77_3 < (t233.length : Int)) = true := decide_eq_true c51
                                    clear c51
                                    by_cases c52 : (rd t233 x77_3) = 0
                                    · rw [if_pos c52] at H
                                      have c52b0 : ((rd t233 x77_3) == 0) = true := beq_iff_eq.mpr c52
                                      have c52b1 : ((rd t233 x77_3) != 0) = false := bne_eq_false_iff_eq.mpr c52
                                      clear c52
                                      have H' := Aside0.mk H
                                      clear H
                                      have p238 : 0 ≤ (x77_3 : Int) := of_decide_eq_true (by first | (with_reducible assumption) | assumption)
                                      have q238 : x77_3 < (l0.length : Int) := of_decide_eq_true (by first | (with_reducible assumption) | assumption)
                                      obtain ⟨ad238, e238, hx238_0⟩ := Kd.at_int HR0.out x77_3 p238 q238
                                      cases e238
                                      replace hx238_0 := (HB.out.cell (World.block_lt_of_cell? w _ hx238_0)).trans hx238_0
                                      replace p238 := eq_true p238
                                      replace q238 := eq_true q238
                                      obtain ⟨Ao53, co53, eo53⟩ := Kd.R_slice HO_6.out
                                      subst eo53
                                      have p239 : 0 ≤ (x77_3 : Int) := of_decide_eq_true (by first | (with_reducible assumption) | assumption)
                                      have q239 : x77_3 < (t226.length : Int) := of_decide_eq_true (by first | (with_reducible assumption) | assumption)
                                      obtain ⟨ad239, e239, hx239_0⟩ := Kd.at_int (Kd.R_reads' HO_6.out).2.2 x77_3 p239 q239
                                      cases e239
                                      replace p239 := eq_true p239
                                      replace q239 := eq_true q239
                                      obtain ⟨Ao54, co54, eo54⟩ := Kd.R_slice HO_8.out
                                      subst eo54
                                      have p240 : 0 ≤ (x77_3 : Int) := of_decide_eq_true (by first | (with_reducible assumption) | assumption)
                                      have q240 : x77_3 < (t233.length : Int) := of_decide_eq_true (by first | (with_reducible assumption) | assumption)
                                      obtain ⟨ad240, e240, hx240_0⟩ := Kd.at_int (Kd.R_reads' HO_8.out).2.2 x77_3 p240 q240
                                      cases e240
                                      replace p240 := eq_true p240
                                      replace q240 := eq_true q240
                                      go_wp2
                                      go_roundg k3
                                      case measure => have := HK1.out; have := HJ20.out; have := HK3.out; omega
                                      case rel => exact ⟨(wrap64 (x77_3 + 1)), (by first | rfl | (simp; done) | (simp [*]; done)), H', ⟨by have := HK1.out; have := HJ20.out; have := HK3.out; omega⟩, ⟨by (with_reducible repeat (first | apply Kd.R_alloc | apply Kd.R_drewN | apply Kd.R_drew)); exact HO_6.out⟩, ⟨by (with_reducible repeat (first | apply Kd.R_alloc | apply Kd.R_drewN | apply Kd.R_drew)); exact HO_8.out⟩, ⟨by repeat (first | (with_reducible first | exact HB.out | apply below_alloc | apply pw_below_drewN | apply below_drew1) | exact HB.out)⟩⟩
                                    · rw [if_neg c52] at H
                                      have c52b0 : ((rd t233 x77_3) == 0) = false := beq_eq_false_iff_ne.mpr c52
                                      have c52b1 : ((rd t233 x77_3) != 0) = true := bne_iff_ne.mpr c52
                                      exact absurd H (by simp)
                                  · rw [if_neg c51] at H
                                    exact absurd H (by simp)
                                · rw [if_neg c50] at H
                                  have c50b0 : ((rd t226 x77_3) == (ji49)) = false := beq_eq_false_iff_ne.mpr c50
                                  have c50b1 : ((rd t226 x77_3) != (ji49)) = true := bne_iff_ne.mpr c50
                                  exact absurd H (by simp)
                              · rw [if_neg c47] at H
                                exact absurd H (by simp)
                            · rw [if_neg c46] at H
                              exact absurd H (by simp)
                          · rw [if_neg c45] at H
                            exact absurd H (by simp)
                        · rw [if_neg c44] at H
                          have c44b0 : decide (x77_3 < (l0.length : Int)) = false := decide_eq_false c44
                          clear c44
                          replace H := Option.bind_eq_some_iff.mp H
                          obtain ⟨t241, A550, H⟩ := H
                          replace H : (some t241) = some true := H
                          have A55 := Aside0.mk A550
                          clear A550
                          have hr_ := Aside0.mk (Option.some.inj H)
                          go_wp2_with (first | ((with_reducible refine gate_callee (f := 9) rfl ?_); refine goesL_ (some 98) rfl rfl Try.func9 (by kernel_rfl) rfl #[] rfl (by (try simp only [List.map_toArray, List.map_cons, List.map_nil]); first | done | rfl | (simp only [List.length_drop, List.length_take]; rfl)) ?_; (with_reducible refine (switchboardlaw03_awake.calls k3  t241 _ A55.out).mono ?_); rintro e w56 ⟨rfl, hb⟩; refine ⟨_, rfl, ?_⟩; have n0_ := Aside0.mk (Kd.R_below (by (with_reducible repeat (first | apply Kd.R_alloc | apply Kd.R_drewN | apply Kd.R_drew)); exact HO_6.out) hb); have n1_ := Aside0.mk (Kd.R_below (by (with_reducible repeat (first | apply Kd.R_alloc | apply Kd.R_drewN | apply Kd.R_drew)); exact HO_8.out) hb); have n2_ := Aside0.mk (below_step (by repeat (first | (with_reducible first | exact HB.out | apply below_alloc | apply pw_below_drewN | apply below_drew1) | exact HB.out)) hb); clear HO_6; clear HO_8; clear HB; have HO_6 := n0_; have HO_8 := n1_; have HB := n2_; clear n0_ n1_ n2_; (try clear hb); (try clear hb2); (try clear hk); (try clear hi)))
                          go_ret
                          exact ⟨by first | rfl | exact congrArg (fun b_ => Ending.returned (Value.bool b_)) hr_.out | exact congrArg (fun b_ => Ending.returned (Value.bool b_)) hr_.out | (simp [errW_none, errW_some] <;> rfl) | (simp [*, errW_none, errW_some] <;> rfl), by repeat (first | (with_reducible first | exact HB.out | apply below_alloc | apply pw_below_drewN | apply below_drew1) | exact HB.out)⟩
            · rw [if_neg c19] at H
              exact absurd H (by simp)
          · rw [if_neg c18] at H
            exact absurd H (by simp)

-- NOT PRINTED: function 6 (switchboardlaw03_MatScale)

end Go.Proofs.Ytogjmiihofddbaa.Pr
