-- Laid by wip/xprint.py, a program of this session that runs the kit's print with some contracts given by hand; not a text of print.sh. Lean checks it.
import Derived.Test.YtlicglgogklnkaaPn0
import Derived.Test.YtlicglgogklnkaaPn1
import Derived.Test.YtlicglgogklnkaaPn9
import Derived.Test.YtlicglgogklnkaaPn11
import Derived.Test.YtlicglgogklnkaaPn12
namespace Go.Proofs.Ytlicglgogklnkaa.Pn
open Go.RowKit Go.Proofs.YtlicglgogklnkaaW.PrintWords Go.Proofs.YtlicglgogklnkaaW.PrintLast Go.Proofs.YtlicglgogklnkaaW.PrintMore
attribute [local go_sem] max2_int min2_int max_two min_two max_three min_three max_four min_four   -- for this text's walks alone
set_option linter.unusedVariables false
set_option linter.unusedSimpArgs false

/-! ### switchboardlaw15_ModelRoom: function 8 -/
mutual
def switchboardlaw15_ModelRoom.j0 : Nat → List (List Int) → Bool → Int → List (S37) → Option (Bool)
  | 0, _, _, _, _ => none
  | k + 1, x1, x32, x282000, x282001 => if x32 = true then ((switchboardlaw15_awake.f).bind fun t286 => (some t286)) else (switchboardlaw15_ModelRoom.l0 k x1 x282001 (x282001.length : Int) 0 x282000 ([] : List (S37)))
def switchboardlaw15_ModelRoom.l0 : Nat → List (List Int) → List (S37) → Int → Int → Int → List (S37) → Option (Bool)
  | 0, _, _, _, _, _, _ => none
  | k + 1, x1, x38, x39, x40, x288000, x288001 => if x40 < x39 then (if 0 ≤ x40 then (if x40 < (x38.length : Int) then (if x288001.length < 2513169434916 then (switchboardlaw15_ModelRoom.l0 k x1 x38 x39 (wrap64 (x40 + 1)) x288000 (x288001 ++ [(⟨(rd_T37 x38 x40).f0, (rd_T37 x38 x40).f1, 32⟩ : S37)])) else (none)) else (none)) else (none)) else ((model_Forward.f k x288000 x288001 x1).bind fun bt293 => (if bt293.2 = 0 then (switchboardlaw15_ModelRoom.j2 k x1 bt293.1 ((bt293.1.length : Int) != (x1.length : Int)) x288000 x288001) else (switchboardlaw15_ModelRoom.j2 k x1 bt293.1 true x288000 x288001)))
def switchboardlaw15_ModelRoom.j2 : Nat → List (List Int) → List (List Int) → Bool → Int → List (S37) → Option (Bool)
  | 0, _, _, _, _, _ => none
  | k + 1, x1, x8, x69, x288000, x288001 => if x69 = true then (some false) else (switchboardlaw15_ModelRoom.l1 k x8 x1 (x1.length : Int) 0 x288000 x288001)
def switchboardlaw15_ModelRoom.l1 : Nat → List (List Int) → List (List Int) → Int → Int → Int → List (S37) → Option (Bool)
  | 0, _, _, _, _, _, _ => none
  | k + 1, x8, x70, x71, x72, x288000, x288001 => if x72 < x71 then (if 0 ≤ x72 then (if x72 < (x70.length : Int) then ((model_Forward.f k x288000 x288001 (([rd_L1 x70 x72] : List (List Int)))).bind fun bt302 => (if bt302.2 = 0 then (if (bt302.1.length : Int) = 1 then (if x72 ≤ (wrap64 (x72 + 1)) then (if (wrap64 (x72 + 1)) ≤ (x8.length : Int) then ((switchboardref15_Same.f k bt302.1 ((x8.take ((wrap64 (x72 + 1)) : Int).toNat).drop (x72 : Int).toNat)).bind fun t311 => (if t311 = true then (switchboardlaw15_ModelRoom.l1 k x8 x70 x71 (wrap64 (x72 + 1)) x288000 x288001) else (some false))) else (none)) else (none)) else (some false)) else (some false))) else (none)) else (none)) else ((switchboardlaw15_awake.f).bind fun t297 => (some t297))
end
def switchboardlaw15_ModelRoom.f (k : Nat) (a0_0 : Int) (l0_1 : List (S37)) (l1 : List (List Int)) : Option (Bool) := (switchboardref15_Small.f k a0_0 l0_1).bind fun t282 => (if t282 = true then ((switchboardref03_Small.f k l1).bind fun t283 => (if t283 = true then ((switchboardref15_Right.f k a0_0 l0_1).bind fun t284 => (if t284 = true then ((switchboardref15_Tokens.f k a0_0 l0_1 l1).bind fun t285 => (switchboardlaw15_ModelRoom.j0 k l1 (!t285) a0_0 l0_1)) else (switchboardlaw15_ModelRoom.j0 k l1 true a0_0 l0_1))) else (switchboardlaw15_ModelRoom.j0 k l1 true a0_0 l0_1))) else (switchboardlaw15_ModelRoom.j0 k l1 true a0_0 l0_1))
theorem switchboardlaw15_ModelRoom.mono_l : ∀ k, (∀ y0 y1 y2 y3, LeO (switchboardlaw15_ModelRoom.j0 k y0 y1 y2 y3) (switchboardlaw15_ModelRoom.j0 (k + 1) y0 y1 y2 y3)) ∧ (∀ y0 y1 y2 y3 y4 y5, LeO (switchboardlaw15_ModelRoom.l0 k y0 y1 y2 y3 y4 y5) (switchboardlaw15_ModelRoom.l0 (k + 1) y0 y1 y2 y3 y4 y5)) ∧ (∀ y0 y1 y2 y3 y4, LeO (switchboardlaw15_ModelRoom.j2 k y0 y1 y2 y3 y4) (switchboardlaw15_ModelRoom.j2 (k + 1) y0 y1 y2 y3 y4)) ∧ (∀ y0 y1 y2 y3 y4 y5, LeO (switchboardlaw15_ModelRoom.l1 k y0 y1 y2 y3 y4 y5) (switchboardlaw15_ModelRoom.l1 (k + 1) y0 y1 y2 y3 y4 y5))
  | 0 => ⟨fun _ _ _ _ r h => by simp [switchboardlaw15_ModelRoom.j0] at h, fun _ _ _ _ _ _ r h => by simp [switchboardlaw15_ModelRoom.l0] at h, fun _ _ _ _ _ r h => by simp [switchboardlaw15_ModelRoom.j2] at h, fun _ _ _ _ _ _ r h => by simp [switchboardlaw15_ModelRoom.l1] at h⟩
  | k + 1 => by
    obtain ⟨ih0, ih1, ih2, ih3⟩ := switchboardlaw15_ModelRoom.mono_l k
    refine ⟨?_, ?_, ?_, ?_⟩
    · intro y0 y1 y2 y3
      unfold switchboardlaw15_ModelRoom.j0
      repeat' first
      | (with_reducible exact ih0 _ _ _ _)
      | (with_reducible exact ih1 _ _ _ _ _ _)
      | (with_reducible exact ih2 _ _ _ _ _)
      | (with_reducible exact ih3 _ _ _ _ _ _)
      | (with_reducible exact model_Forward.mono _ _ _ _)
      | (with_reducible exact switchboardref03_Small.mono _ _)
      | (with_reducible exact switchboardref15_Right.mono _ _ _)
      | (with_reducible exact switchboardref15_Same.mono _ _ _)
      | (with_reducible exact switchboardref15_Small.mono _ _ _)
      | (with_reducible exact switchboardref15_Tokens.mono _ _ _ _)
      | (with_reducible exact LeO.refl _)
      | (with_reducible exact LeO.none _)
      | (with_reducible refine LeO.ite ?_ ?_)
      | (with_reducible refine LeO.bind ?_ (fun _ => ?_))
      | exact ih0 _ _ _ _
      | exact ih1 _ _ _ _ _ _
      | exact ih2 _ _ _ _ _
      | exact ih3 _ _ _ _ _ _
      | exact model_Forward.mono _ _ _ _
      | exact switchboardref03_Small.mono _ _
      | exact switchboardref15_Right.mono _ _ _
      | exact switchboardref15_Same.mono _ _ _
      | exact switchboardref15_Small.mono _ _ _
      | exact switchboardref15_Tokens.mono _ _ _ _
      | exact LeO.none _
      | refine LeO.ite ?_ ?_
      | refine LeO.bind ?_ (fun _ => ?_)
    · intro y0 y1 y2 y3 y4 y5
      unfold switchboardlaw15_ModelRoom.l0
      repeat' first
      | (with_reducible exact ih0 _ _ _ _)
      | (with_reducible exact ih1 _ _ _ _ _ _)
      | (with_reducible exact ih2 _ _ _ _ _)
      | (with_reducible exact ih3 _ _ _ _ _ _)
      | (with_reducible exact model_Forward.mono _ _ _ _)
      | (with_reducible exact switchboardref03_Small.mono _ _)
      | (with_reducible exact switchboardref15_Right.mono _ _ _)
      | (with_reducible exact switchboardref15_Same.mono _ _ _)
      | (with_reducible exact switchboardref15_Small.mono _ _ _)
      | (with_reducible exact switchboardref15_Tokens.mono _ _ _ _)
      | (with_reducible exact LeO.refl _)
      | (with_reducible exact LeO.none _)
      | (with_reducible refine LeO.ite ?_ ?_)
      | (with_reducible refine LeO.bind ?_ (fun _ => ?_))
      | exact ih0 _ _ _ _
      | exact ih1 _ _ _ _ _ _
      | exact ih2 _ _ _ _ _
      | exact ih3 _ _ _ _ _ _
      | exact model_Forward.mono _ _ _ _
      | exact switchboardref03_Small.mono _ _
      | exact switchboardref15_Right.mono _ _ _
      | exact switchboardref15_Same.mono _ _ _
      | exact switchboardref15_Small.mono _ _ _
      | exact switchboardref15_Tokens.mono _ _ _ _
      | exact LeO.none _
      | refine LeO.ite ?_ ?_
      | refine LeO.bind ?_ (fun _ => ?_)
    · intro y0 y1 y2 y3 y4
      unfold switchboardlaw15_ModelRoom.j2
      repeat' first
      | (with_reducible exact ih0 _ _ _ _)
      | (with_reducible exact ih1 _ _ _ _ _ _)
      | (with_reducible exact ih2 _ _ _ _ _)
      | (with_reducible exact ih3 _ _ _ _ _ _)
      | (with_reducible exact model_Forward.mono _ _ _ _)
      | (with_reducible exact switchboardref03_Small.mono _ _)
      | (with_reducible exact switchboardref15_Right.mono _ _ _)
      | (with_reducible exact switchboardref15_Same.mono _ _ _)
      | (with_reducible exact switchboardref15_Small.mono _ _ _)
      | (with_reducible exact switchboardref15_Tokens.mono _ _ _ _)
      | (with_reducible exact LeO.refl _)
      | (with_reducible exact LeO.none _)
      | (with_reducible refine LeO.ite ?_ ?_)
      | (with_reducible refine LeO.bind ?_ (fun _ => ?_))
      | exact ih0 _ _ _ _
      | exact ih1 _ _ _ _ _ _
      | exact ih2 _ _ _ _ _
      | exact ih3 _ _ _ _ _ _
      | exact model_Forward.mono _ _ _ _
      | exact switchboardref03_Small.mono _ _
      | exact switchboardref15_Right.mono _ _ _
      | exact switchboardref15_Same.mono _ _ _
      | exact switchboardref15_Small.mono _ _ _
      | exact switchboardref15_Tokens.mono _ _ _ _
      | exact LeO.none _
      | refine LeO.ite ?_ ?_
      | refine LeO.bind ?_ (fun _ => ?_)
    · intro y0 y1 y2 y3 y4 y5
      unfold switchboardlaw15_ModelRoom.l1
      repeat' first
      | (with_reducible exact ih0 _ _ _ _)
      | (with_reducible exact ih1 _ _ _ _ _ _)
      | (with_reducible exact ih2 _ _ _ _ _)
      | (with_reducible exact ih3 _ _ _ _ _ _)
      | (with_reducible exact model_Forward.mono _ _ _ _)
      | (with_reducible exact switchboardref03_Small.mono _ _)
      | (with_reducible exact switchboardref15_Right.mono _ _ _)
      | (with_reducible exact switchboardref15_Same.mono _ _ _)
      | (with_reducible exact switchboardref15_Small.mono _ _ _)
      | (with_reducible exact switchboardref15_Tokens.mono _ _ _ _)
      | (with_reducible exact LeO.refl _)
      | (with_reducible exact LeO.none _)
      | (with_reducible refine LeO.ite ?_ ?_)
      | (with_reducible refine LeO.bind ?_ (fun _ => ?_))
      | exact ih0 _ _ _ _
      | exact ih1 _ _ _ _ _ _
      | exact ih2 _ _ _ _ _
      | exact ih3 _ _ _ _ _ _
      | exact model_Forward.mono _ _ _ _
      | exact switchboardref03_Small.mono _ _
      | exact switchboardref15_Right.mono _ _ _
      | exact switchboardref15_Same.mono _ _ _
      | exact switchboardref15_Small.mono _ _ _
      | exact switchboardref15_Tokens.mono _ _ _ _
      | exact LeO.none _
      | refine LeO.ite ?_ ?_
      | refine LeO.bind ?_ (fun _ => ?_)
theorem switchboardlaw15_ModelRoom.mono : ∀ a0 a1 a2 k, LeO (switchboardlaw15_ModelRoom.f k a0 a1 a2) (switchboardlaw15_ModelRoom.f (k + 1) a0 a1 a2) := by
  intro a0 a1 a2 k
  obtain ⟨ih0, ih1, ih2, ih3⟩ := switchboardlaw15_ModelRoom.mono_l k
  unfold switchboardlaw15_ModelRoom.f
  repeat' first
      | (with_reducible exact ih0 _ _ _ _)
      | (with_reducible exact ih1 _ _ _ _ _ _)
      | (with_reducible exact ih2 _ _ _ _ _)
      | (with_reducible exact ih3 _ _ _ _ _ _)
      | (with_reducible exact model_Forward.mono _ _ _ _)
      | (with_reducible exact switchboardref03_Small.mono _ _)
      | (with_reducible exact switchboardref15_Right.mono _ _ _)
      | (with_reducible exact switchboardref15_Same.mono _ _ _)
      | (with_reducible exact switchboardref15_Small.mono _ _ _)
      | (with_reducible exact switchboardref15_Tokens.mono _ _ _ _)
      | (with_reducible exact LeO.refl _)
      | (with_reducible exact LeO.none _)
      | (with_reducible refine LeO.ite ?_ ?_)
      | (with_reducible refine LeO.bind ?_ (fun _ => ?_))
      | exact ih0 _ _ _ _
      | exact ih1 _ _ _ _ _ _
      | exact ih2 _ _ _ _ _
      | exact ih3 _ _ _ _ _ _
      | exact model_Forward.mono _ _ _ _
      | exact switchboardref03_Small.mono _ _
      | exact switchboardref15_Right.mono _ _ _
      | exact switchboardref15_Same.mono _ _ _
      | exact switchboardref15_Small.mono _ _ _
      | exact switchboardref15_Tokens.mono _ _ _ _
      | exact LeO.none _
      | refine LeO.ite ?_ ?_
      | refine LeO.bind ?_ (fun _ => ?_)
set_option maxHeartbeats 8000000 in
set_option maxRecDepth 100000 in
theorem switchboardlaw15_ModelRoom.calls (k : Nat) (a0_0 : Int) (P0_1_ : Nat → Prop) (A0_1 : Option Addr) (c0_1 : Nat) (l0_1 : List (S37)) (P1_ : Nat → Prop) (A1 : Option Addr) (c1 : Nat) (l1 : List (List Int)) (w : World) (hs0_1 : Kd.V k37 37 w w.heap.size (fun k_ => P0_1_ k_) (.slice A0_1 l0_1.length c0_1) l0_1) (hs1 : Kd.V (Kd.slice 3 (Kd.int .i64)) 47 w w.heap.size (fun k_ => P1_ k_) (.slice A1 l1.length c1) l1) (h : switchboardlaw15_ModelRoom.f k a0_0 l0_1 l1 = some true) :
    Calls Try.prog 8 #[.agg #[.int .i64 a0_0, .slice A0_1 l0_1.length c0_1], .slice A1 l1.length c1] w fun e w' => e = .returned (.bool true) ∧ Below w.heap.size w w' := by
  have hu24 := Try.underlying24
  have hu37 := Try.underlying37
  have HO0_1 := Aside0.mk (show Kd.V k37 37 w w.heap.size (fun k_ => ((P0_1_ k_ ∨ P1_ k_) ∨ w.heap.size ≤ k_)) (.slice A0_1 l0_1.length c0_1) l0_1 from Kd.V_mono hs0_1 (fun k_ hk => .inl (.inl hk)))
  have HO1 := Aside0.mk (show Kd.V (Kd.slice 3 (Kd.int .i64)) 47 w w.heap.size (fun k_ => ((P0_1_ k_ ∨ P1_ k_) ∨ w.heap.size ≤ k_)) (.slice A1 l1.length c1) l1 from Kd.V_mono hs1 (fun k_ hk => .inl (.inr hk)))
  have HB := Aside0.mk (Below.refl w.heap.size w)
  have H : ((switchboardref15_Small.f k a0_0 l0_1).bind fun t282 => (if t282 = true then ((switchboardref03_Small.f k l1).bind fun t283 => (if t283 = true then ((switchboardref15_Right.f k a0_0 l0_1).bind fun t284 => (if t284 = true then ((switchboardref15_Tokens.f k a0_0 l0_1 l1).bind fun t285 => (switchboardlaw15_ModelRoom.j0 k l1 (!t285) a0_0 l0_1)) else (switchboardlaw15_ModelRoom.j0 k l1 true a0_0 l0_1))) else (switchboardlaw15_ModelRoom.j0 k l1 true a0_0 l0_1))) else (switchboardlaw15_ModelRoom.j0 k l1 true a0_0 l0_1))) = some true := h
  clear h
  have HC3 := Aside0.mk H
  clear H
  go_enter Try.func8, Try.ntmps8
  go_upto_region 1 with (first | ((with_reducible refine gate_dst (N := 2) rfl ?_); (try (refine gate_guard (by rfl) ?_; dsimp only)); refine box_event ?hg (N := 2) ?hd (cs := #[.int .i64 a0_0, .slice A0_1 l0_1.length c0_1]) (t := 24) ?hr ?_; (case hd => rfl); (case hg => rfl); (case hr => first | (go_simp; done) | (go_simp; rfl)); intro gb281 hg w4 hbox hb; have n0_ := Aside0.mk (Kd.V_below (Kd.V_elderB (by (with_reducible repeat (first | apply Kd.V_alloc | apply Kd.V_drewN | apply Kd.V_drew)); exact HO0_1.out) gb281 (Nat.le_of_eq hg.symm)) hb); have n1_ := Aside0.mk (Kd.V_below (Kd.V_elderB (by (with_reducible repeat (first | apply Kd.V_alloc | apply Kd.V_drewN | apply Kd.V_drew)); exact HO1.out) gb281 (Nat.le_of_eq hg.symm)) hb); have n2_ := Aside0.mk (below_step (by repeat (first | (with_reducible first | exact HB.out | apply below_alloc | apply pw_below_drewN | apply below_drew1) | exact HB.out)) hb); have n3_ := Aside0.mk (hbox); have n4_ := Aside0.mk ((by rw [hg]; exact (below_size (by repeat (first | (with_reducible first | exact HB.out | apply below_alloc | apply pw_below_drewN | apply below_drew1) | exact HB.out))) : w.heap.size ≤ gb281)); have n5_ := Aside0.mk ((by rw [hg]; exact (below_size (by repeat (first | (with_reducible first | exact HB.out | apply below_alloc | apply pw_below_drewN | apply below_drew1) | exact HB.out))) : w.heap.size ≤ gb281)); clear HO0_1; clear HO1; clear HB; have HO0_1 := n0_; have HO1 := n1_; have HB := n2_; have BK281 := n3_; have GW281 := n4_; have GE281 := n5_; clear n0_ n1_ n2_ n3_ n4_ n5_; clear hb hbox hg))
  (try simp only [Act.put, List.setIfInBounds_toArray, List.set_cons_zero, List.set_cons_succ])
  go_cut [32] (fun v32 wc => ∃ (kq : Nat) (x32_2 : Bool), v32 = .bool x32_2 ∧ Aside0 (switchboardlaw15_ModelRoom.j0 kq l1 x32_2 a0_0 l0_1 = some true) ∧ Aside0 (kq ≤ k) ∧ Aside0 (Kd.V (Kd.slice 3 (Kd.int .i64)) 47 wc w.heap.size (fun k_ => ((P0_1_ k_ ∨ P1_ k_) ∨ w.heap.size ≤ k_) ∧ k_ ≠ gb281) (.slice A1 l1.length c1) l1) ∧ Aside0 (Kd.V k37 37 wc w.heap.size (fun k_ => ((P0_1_ k_ ∨ P1_ k_) ∨ w.heap.size ≤ k_) ∧ k_ ≠ gb281) (.slice A0_1 l0_1.length c0_1) l0_1) ∧ Aside0 (wc.heap[gb281]? = some (.cells #[.int .i64 a0_0, (.slice A0_1 l0_1.length c0_1)] 24 (0, 0))) ∧ Aside0 (Below w.heap.size w wc))
  case first =>
    have H := HC3.out
    clear HC3
    replace H := Option.bind_eq_some_iff.mp H
    obtain ⟨t282, A50, H⟩ := H
    replace H : (if t282 = true then ((switchboardref03_Small.f k l1).bind fun t283 => (if t283 = true then ((switchboardref15_Right.f k a0_0 l0_1).bind fun t284 => (if t284 = true then ((switchboardref15_Tokens.f k a0_0 l0_1 l1).bind fun t285 => (switchboardlaw15_ModelRoom.j0 k l1 (!t285) a0_0 l0_1)) else (switchboardlaw15_ModelRoom.j0 k l1 true a0_0 l0_1))) else (switchboardlaw15_ModelRoom.j0 k l1 true a0_0 l0_1))) else (switchboardlaw15_ModelRoom.j0 k l1 true a0_0 l0_1)) = some true := H
    have A5 := Aside0.mk A50
    clear A50
    by_cases c6 : t282 = true
    · subst c6
      have H1 : ((switchboardref03_Small.f k l1).bind fun t283 => (if t283 = true then ((switchboardref15_Right.f k a0_0 l0_1).bind fun t284 => (if t284 = true then ((switchboardref15_Tokens.f k a0_0 l0_1 l1).bind fun t285 => (switchboardlaw15_ModelRoom.j0 k l1 (!t285) a0_0 l0_1)) else (switchboardlaw15_ModelRoom.j0 k l1 true a0_0 l0_1))) else (switchboardlaw15_ModelRoom.j0 k l1 true a0_0 l0_1))) = some true := by rw [if_pos rfl] at H; exact H
      clear H
      have H := H1
      clear H1
      replace H := Option.bind_eq_some_iff.mp H
      obtain ⟨t283, A70, H⟩ := H
      replace H : (if t283 = true then ((switchboardref15_Right.f k a0_0 l0_1).bind fun t284 => (if t284 = true then ((switchboardref15_Tokens.f k a0_0 l0_1 l1).bind fun t285 => (switchboardlaw15_ModelRoom.j0 k l1 (!t285) a0_0 l0_1)) else (switchboardlaw15_ModelRoom.j0 k l1 true a0_0 l0_1))) else (switchboardlaw15_ModelRoom.j0 k l1 true a0_0 l0_1)) = some true := H
      have A7 := Aside0.mk A70
      clear A70
      by_cases c8 : t283 = true
      · subst c8
        have H1 : ((switchboardref15_Right.f k a0_0 l0_1).bind fun t284 => (if t284 = true then ((switchboardref15_Tokens.f k a0_0 l0_1 l1).bind fun t285 => (switchboardlaw15_ModelRoom.j0 k l1 (!t285) a0_0 l0_1)) else (switchboardlaw15_ModelRoom.j0 k l1 true a0_0 l0_1))) = some true := by rw [if_pos rfl] at H; exact H
        clear H
        have H := H1
        clear H1
        replace H := Option.bind_eq_some_iff.mp H
        obtain ⟨t284, A90, H⟩ := H
        replace H : (if t284 = true then ((switchboardref15_Tokens.f k a0_0 l0_1 l1).bind fun t285 => (switchboardlaw15_ModelRoom.j0 k l1 (!t285) a0_0 l0_1)) else (switchboardlaw15_ModelRoom.j0 k l1 true a0_0 l0_1)) = some true := H
        have A9 := Aside0.mk A90
        clear A90
        by_cases c10 : t284 = true
        · subst c10
          have H1 : ((switchboardref15_Tokens.f k a0_0 l0_1 l1).bind fun t285 => (switchboardlaw15_ModelRoom.j0 k l1 (!t285) a0_0 l0_1)) = some true := by rw [if_pos rfl] at H; exact H
          clear H
          have H := H1
          clear H1
          replace H := Option.bind_eq_some_iff.mp H
          obtain ⟨t285, A110, H⟩ := H
          replace H : (switchboardlaw15_ModelRoom.j0 k l1 (!t285) a0_0 l0_1) = some true := H
          have A11 := Aside0.mk A110
          clear A110
          have H' := Aside0.mk H
          clear H
          have hcz12_0 : w4.cell? ⟨gb281, 0, none⟩ = some (.int .i64 a0_0) := (blk_cell BK281.out 0).trans rfl
          have hcz12_1 : w4.cell? ⟨gb281, 1, none⟩ = some (.slice A0_1 l0_1.length c0_1) := (blk_cell BK281.out 1).trans rfl
          have hfz12_0 := blk_frozen BK281.out 0
          have hfz12_1 := blk_frozen BK281.out 1
          go_wp2_with (first | ((with_reducible refine gate_callee (f := 9) rfl ?_); refine goesL_ (some 15) rfl rfl Try.func9 (by kernel_rfl) rfl #[.agg #[.int .i64 a0_0, .slice A0_1 l0_1.length c0_1]] rfl (by (try simp only [List.map_toArray, List.map_cons, List.map_nil]); first | done | rfl | (simp only [List.length_drop, List.length_take]; rfl)) ?_; (with_reducible refine (switchboardref15_Small.calls k a0_0 _ _ l0_1 true _ ?side1 ?side2 A5.out).mono ?_); (case side1 => repeat (first | exact (Kd.V_reads' HO0_1.out).2.2 | (with_reducible refine Kd.C_alloc ?_ _) | (with_reducible refine Kd.C_drewN ?_ _) | (with_reducible refine Kd.C_drew ?_))); (case side2 => exact (Kd.V_reads' HO0_1.out).2.1); rintro e w13 ⟨rfl, hb⟩; refine ⟨_, rfl, ?_⟩; have n0_ := Aside0.mk (Kd.V_below (by (with_reducible repeat (first | apply Kd.V_alloc | apply Kd.V_drewN | apply Kd.V_drew)); exact HO0_1.out) hb); have n1_ := Aside0.mk (Kd.V_below (by (with_reducible repeat (first | apply Kd.V_alloc | apply Kd.V_drewN | apply Kd.V_drew)); exact HO1.out) hb); have n2_ := Aside0.mk (blk_below (g := gb281) (o := .cells #[.int .i64 a0_0, .slice A0_1 l0_1.length c0_1] 24 (0, 0)) (by (with_reducible repeat (first | refine blk_drewN ?_ _ | refine blk_drew ?_ | refine blk_alloc ?_ _)); exact BK281.out) hb); have n3_ := Aside0.mk (below_step (by repeat (first | (with_reducible first | exact HB.out | apply below_alloc | apply pw_below_drewN | apply below_drew1 | refine below_set ?_ GE281.out) | exact HB.out)) hb); clear HO0_1; clear HO1; clear BK281; clear HB; have HO0_1 := n0_; have HO1 := n1_; have BK281 := n2_; have HB := n3_; clear n0_ n1_ n2_ n3_; (try clear hb); (try clear hb2); (try clear hk); (try clear hi)) | (go_at_call 10; (with_reducible refine (switchboardref03_Small.calls k _ _ l1 true _ ?side1 ?side2 A7.out).mono ?_); (case side1 => repeat (first | exact (Kd.V_reads' HO1.out).2.2 | (with_reducible refine Kd.C_alloc ?_ _) | (with_reducible refine Kd.C_drewN ?_ _) | (with_reducible refine Kd.C_drew ?_))); (case side2 => exact (Kd.V_reads' HO1.out).2.1); rintro e w' ⟨rfl, ⟨nd, rfl⟩⟩; have hcz14_0 : w13.cell? ⟨gb281, 0, none⟩ = some (.int .i64 a0_0) := (blk_cell BK281.out 0).trans rfl; have hcz14_1 : w13.cell? ⟨gb281, 1, none⟩ = some (.slice A0_1 l0_1.length c0_1) := (blk_cell BK281.out 1).trans rfl; have hfz14_0 := blk_frozen BK281.out 0; have hfz14_1 := blk_frozen BK281.out 1) | (go_at_call 13; (with_reducible refine (switchboardref15_Right.calls k a0_0 _ _ l0_1 true _ ?side1 ?side2 A9.out).mono ?_); (case side1 => repeat (first | exact (Kd.V_reads' HO0_1.out).2.2 | (with_reducible refine Kd.C_alloc ?_ _) | (with_reducible refine Kd.C_drewN ?_ _) | (with_reducible refine Kd.C_drew ?_))); (case side2 => exact (Kd.V_reads' HO0_1.out).2.1); rintro e w15 ⟨rfl, hb⟩; have n0_ := Aside0.mk (Kd.V_below (by (with_reducible repeat (first | apply Kd.V_alloc | apply Kd.V_drewN | apply Kd.V_drew)); exact HO0_1.out) hb); have n1_ := Aside0.mk (Kd.V_below (by (with_reducible repeat (first | apply Kd.V_alloc | apply Kd.V_drewN | apply Kd.V_drew)); exact HO1.out) hb); have n2_ := Aside0.mk (blk_below (g := gb281) (o := .cells #[.int .i64 a0_0, .slice A0_1 l0_1.length c0_1] 24 (0, 0)) (by (with_reducible repeat (first | refine blk_drewN ?_ _ | refine blk_drew ?_ | refine blk_alloc ?_ _)); exact BK281.out) hb); have n3_ := Aside0.mk (below_step (by repeat (first | (with_reducible first | exact HB.out | apply below_alloc | apply pw_below_drewN | apply below_drew1 | refine below_set ?_ GE281.out) | exact HB.out)) hb); clear HO0_1; clear HO1; clear BK281; clear HB; have HO0_1 := n0_; have HO1 := n1_; have BK281 := n2_; have HB := n3_; clear n0_ n1_ n2_ n3_; (try clear hb); (try clear hb2); (try clear hk); (try clear hi); have hcz16_0 : w15.cell? ⟨gb281, 0, none⟩ = some (.int .i64 a0_0) := (blk_cell BK281.out 0).trans rfl; have hcz16_1 : w15.cell? ⟨gb281, 1, none⟩ = some (.slice A0_1 l0_1.length c0_1) := (blk_cell BK281.out 1).trans rfl; have hfz16_0 := blk_frozen BK281.out 0; have hfz16_1 := blk_frozen BK281.out 1) | (go_at_call 14; (with_reducible refine (switchboardref15_Tokens.calls k a0_0 _ _ l0_1 _ _ l1 t285 _ ?side1 ?side2 ?side3 ?side4 A11.out).mono ?_); (case side1 => repeat (first | exact (Kd.V_reads' HO0_1.out).2.2 | (with_reducible refine Kd.C_alloc ?_ _) | (with_reducible refine Kd.C_drewN ?_ _) | (with_reducible refine Kd.C_drew ?_))); (case side2 => exact (Kd.V_reads' HO0_1.out).2.1); (case side3 => repeat (first | exact (Kd.V_reads' HO1.out).2.2 | (with_reducible refine Kd.C_alloc ?_ _) | (with_reducible refine Kd.C_drewN ?_ _) | (with_reducible refine Kd.C_drew ?_))); (case side4 => exact (Kd.V_reads' HO1.out).2.1); rintro e w17 ⟨rfl, hb⟩; have n0_ := Aside0.mk (Kd.V_below (by (with_reducible repeat (first | apply Kd.V_alloc | apply Kd.V_drewN | apply Kd.V_drew)); exact HO0_1.out) hb); have n1_ := Aside0.mk (Kd.V_below (by (with_reducible repeat (first | apply Kd.V_alloc | apply Kd.V_drewN | apply Kd.V_drew)); exact HO1.out) hb); have n2_ := Aside0.mk (blk_below (g := gb281) (o := .cells #[.int .i64 a0_0, .slice A0_1 l0_1.length c0_1] 24 (0, 0)) (by (with_reducible repeat (first | refine blk_drewN ?_ _ | refine blk_drew ?_ | refine blk_alloc ?_ _)); exact BK281.out) hb); have n3_ := Aside0.mk (below_step (by repeat (first | (with_reducible first | exact HB.out | apply below_alloc | apply pw_below_drewN | apply below_drew1 | refine below_set ?_ GE281.out) | exact HB.out)) hb); clear HO0_1; clear HO1; clear BK281; clear HB; have HO0_1 := n0_; have HO1 := n1_; have BK281 := n2_; have HB := n3_; clear n0_ n1_ n2_ n3_; (try clear hb); (try clear hb2); (try clear hk); (try clear hi)))
          go_meet
          case rel => exact ⟨_, (!t285), (by first | rfl | (simp; done) | (simp [*]; done)), H', ⟨by first | omega | exact Nat.le_refl _⟩, ⟨by (with_reducible repeat (first | apply Kd.V_alloc | apply Kd.V_drewN | apply Kd.V_drew)); exact HO1.out⟩, ⟨by (with_reducible repeat (first | apply Kd.V_alloc | apply Kd.V_drewN | apply Kd.V_drew)); exact HO0_1.out⟩, ⟨by (with_reducible repeat (first | refine blk_drewN ?_ _ | refine blk_drew ?_ | refine blk_alloc ?_ _)); exact BK281.out⟩, ⟨by repeat (first | (with_reducible first | exact HB.out | apply below_alloc | apply pw_below_drewN | apply below_drew1 | refine below_set ?_ GE281.out) | exact HB.out)⟩⟩
        · replace c10 := Bool.eq_false_iff.mpr c10
          subst c10
          have H1 : (switchboardlaw15_ModelRoom.j0 k l1 true a0_0 l0_1) = some true := by rw [if_neg (show ¬ (false = true) by decide)] at H; exact H
          clear H
          have H := H1
          clear H1
          have H' := Aside0.mk H
          clear H
          have hcz18_0 : w4.cell? ⟨gb281, 0, none⟩ = some (.int .i64 a0_0) := (blk_cell BK281.out 0).trans rfl
          have hcz18_1 : w4.cell? ⟨gb281, 1, none⟩ = some (.slice A0_1 l0_1.length c0_1) := (blk_cell BK281.out 1).trans rfl
          have hfz18_0 := blk_frozen BK281.out 0
          have hfz18_1 := blk_frozen BK281.out 1
          go_wp2_with (first | ((with_reducible refine gate_callee (f := 9) rfl ?_); refine goesL_ (some 15) rfl rfl Try.func9 (by kernel_rfl) rfl #[.agg #[.int .i64 a0_0, .slice A0_1 l0_1.length c0_1]] rfl (by (try simp only [List.map_toArray, List.map_cons, List.map_nil]); first | done | rfl | (simp only [List.length_drop, List.length_take]; rfl)) ?_; (with_reducible refine (switchboardref15_Small.calls k a0_0 _ _ l0_1 true _ ?side1 ?side2 A5.out).mono ?_); (case side1 => repeat (first | exact (Kd.V_reads' HO0_1.out).2.2 | (with_reducible refine Kd.C_alloc ?_ _) | (with_reducible refine Kd.C_drewN ?_ _) | (with_reducible refine Kd.C_drew ?_))); (case side2 => exact (Kd.V_reads' HO0_1.out).2.1); rintro e w19 ⟨rfl, hb⟩; refine ⟨_, rfl, ?_⟩; have n0_ := Aside0.mk (Kd.V_below (by (with_reducible repeat (first | apply Kd.V_alloc | apply Kd.V_drewN | apply Kd.V_drew)); exact HO0_1.out) hb); have n1_ := Aside0.mk (Kd.V_below (by (with_reducible repeat (first | apply Kd.V_alloc | apply Kd.V_drewN | apply Kd.V_drew)); exact HO1.out) hb); have n2_ := Aside0.mk (blk_below (g := gb281) (o := .cells #[.int .i64 a0_0, .slice A0_1 l0_1.length c0_1] 24 (0, 0)) (by (with_reducible repeat (first | refine blk_drewN ?_ _ | refine blk_drew ?_ | refine blk_alloc ?_ _)); exact BK281.out) hb); have n3_ := Aside0.mk (below_step (by repeat (first | (with_reducible first | exact HB.out | apply below_alloc | apply pw_below_drewN | apply below_drew1 | refine below_set ?_ GE281.out) | exact HB.out)) hb); clear HO0_1; clear HO1; clear BK281; clear HB; have HO0_1 := n0_; have HO1 := n1_; have BK281 := n2_; have HB := n3_; clear n0_ n1_ n2_ n3_; (try clear hb); (try clear hb2); (try clear hk); (try clear hi)) | (go_at_call 10; (with_reducible refine (switchboardref03_Small.calls k _ _ l1 true _ ?side1 ?side2 A7.out).mono ?_); (case side1 => repeat (first | exact (Kd.V_reads' HO1.out).2.2 | (with_reducible refine Kd.C_alloc ?_ _) | (with_reducible refine Kd.C_drewN ?_ _) | (with_reducible refine Kd.C_drew ?_))); (case side2 => exact (Kd.V_reads' HO1.out).2.1); rintro e w' ⟨rfl, ⟨nd, rfl⟩⟩; have hcz20_0 : w19.cell? ⟨gb281, 0, none⟩ = some (.int .i64 a0_0) := (blk_cell BK281.out 0).trans rfl; have hcz20_1 : w19.cell? ⟨gb281, 1, none⟩ = some (.slice A0_1 l0_1.length c0_1) := (blk_cell BK281.out 1).trans rfl; have hfz20_0 := blk_frozen BK281.out 0; have hfz20_1 := blk_frozen BK281.out 1) | (go_at_call 13; (with_reducible refine (switchboardref15_Right.calls k a0_0 _ _ l0_1 false _ ?side1 ?side2 A9.out).mono ?_); (case side1 => repeat (first | exact (Kd.V_reads' HO0_1.out).2.2 | (with_reducible refine Kd.C_alloc ?_ _) | (with_reducible refine Kd.C_drewN ?_ _) | (with_reducible refine Kd.C_drew ?_))); (case side2 => exact (Kd.V_reads' HO0_1.out).2.1); rintro e w21 ⟨rfl, hb⟩; have n0_ := Aside0.mk (Kd.V_below (by (with_reducible repeat (first | apply Kd.V_alloc | apply Kd.V_drewN | apply Kd.V_drew)); exact HO0_1.out) hb); have n1_ := Aside0.mk (Kd.V_below (by (with_reducible repeat (first | apply Kd.V_alloc | apply Kd.V_drewN | apply Kd.V_drew)); exact HO1.out) hb); have n2_ := Aside0.mk (blk_below (g := gb281) (o := .cells #[.int .i64 a0_0, .slice A0_1 l0_1.length c0_1] 24 (0, 0)) (by (with_reducible repeat (first | refine blk_drewN ?_ _ | refine blk_drew ?_ | refine blk_alloc ?_ _)); exact BK281.out) hb); have n3_ := Aside0.mk (below_step (by repeat (first | (with_reducible first | exact HB.out | apply below_alloc | apply pw_below_drewN | apply below_drew1 | refine below_set ?_ GE281.out) | exact HB.out)) hb); clear HO0_1; clear HO1; clear BK281; clear HB; have HO0_1 := n0_; have HO1 := n1_; have BK281 := n2_; have HB := n3_; clear n0_ n1_ n2_ n3_; (try clear hb); (try clear hb2); (try clear hk); (try clear hi)))
          go_meet
          case rel => exact ⟨_, (true), (by first | rfl | (simp; done) | (simp [*]; done)), H', ⟨by first | omega | exact Nat.le_refl _⟩, ⟨by (with_reducible repeat (first | apply Kd.V_alloc | apply Kd.V_drewN | apply Kd.V_drew)); exact HO1.out⟩, ⟨by (with_reducible repeat (first | apply Kd.V_alloc | apply Kd.V_drewN | apply Kd.V_drew)); exact HO0_1.out⟩, ⟨by (with_reducible repeat (first | refine blk_drewN ?_ _ | refine blk_drew ?_ | refine blk_alloc ?_ _)); exact BK281.out⟩, ⟨by repeat (first | (with_reducible first | exact HB.out | apply below_alloc | apply pw_below_drewN | apply below_drew1 | refine below_set ?_ GE281.out) | exact HB.out)⟩⟩
      · replace c8 := Bool.eq_false_iff.mpr c8
        subst c8
        have H1 : (switchboardlaw15_ModelRoom.j0 k l1 true a0_0 l0_1) = some true := by rw [if_neg (show ¬ (false = true) by decide)] at H; exact H
        clear H
        have H := H1
        clear H1
        have H' := Aside0.mk H
        clear H
        have hcz22_0 : w4.cell? ⟨gb281, 0, none⟩ = some (.int .i64 a0_0) := (blk_cell BK281.out 0).trans rfl
        have hcz22_1 : w4.cell? ⟨gb281, 1, none⟩ = some (.slice A0_1 l0_1.length c0_1) := (blk_cell BK281.out 1).trans rfl
        have hfz22_0 := blk_frozen BK281.out 0
        have hfz22_1 := blk_frozen BK281.out 1
        go_wp2_with (first | ((with_reducible refine gate_callee (f := 9) rfl ?_); refine goesL_ (some 15) rfl rfl Try.func9 (by kernel_rfl) rfl #[.agg #[.int .i64 a0_0, .slice A0_1 l0_1.length c0_1]] rfl (by (try simp only [List.map_toArray, List.map_cons, List.map_nil]); first | done | rfl | (simp only [List.length_drop, List.length_take]; rfl)) ?_; (with_reducible refine (switchboardref15_Small.calls k a0_0 _ _ l0_1 true _ ?side1 ?side2 A5.out).mono ?_); (case side1 => repeat (first | exact (Kd.V_reads' HO0_1.out).2.2 | (with_reducible refine Kd.C_alloc ?_ _) | (with_reducible refine Kd.C_drewN ?_ _) | (with_reducible refine Kd.C_drew ?_))); (case side2 => exact (Kd.V_reads' HO0_1.out).2.1); rintro e w23 ⟨rfl, hb⟩; refine ⟨_, rfl, ?_⟩; have n0_ := Aside0.mk (Kd.V_below (by (with_reducible repeat (first | apply Kd.V_alloc | apply Kd.V_drewN | apply Kd.V_drew)); exact HO0_1.out) hb); have n1_ := Aside0.mk (Kd.V_below (by (with_reducible repeat (first | apply Kd.V_alloc | apply Kd.V_drewN | apply Kd.V_drew)); exact HO1.out) hb); have n2_ := Aside0.mk (blk_below (g := gb281) (o := .cells #[.int .i64 a0_0, .slice A0_1 l0_1.length c0_1] 24 (0, 0)) (by (with_reducible repeat (first | refine blk_drewN ?_ _ | refine blk_drew ?_ | refine blk_alloc ?_ _)); exact BK281.out) hb); have n3_ := Aside0.mk (below_step (by repeat (first | (with_reducible first | exact HB.out | apply below_alloc | apply pw_below_drewN | apply below_drew1 | refine below_set ?_ GE281.out) | exact HB.out)) hb); clear HO0_1; clear HO1; clear BK281; clear HB; have HO0_1 := n0_; have HO1 := n1_; have BK281 := n2_; have HB := n3_; clear n0_ n1_ n2_ n3_; (try clear hb); (try clear hb2); (try clear hk); (try clear hi)) | (go_at_call 10; (with_reducible refine (switchboardref03_Small.calls k _ _ l1 false _ ?side1 ?side2 A7.out).mono ?_); (case side1 => repeat (first | exact (Kd.V_reads' HO1.out).2.2 | (with_reducible refine Kd.C_alloc ?_ _) | (with_reducible refine Kd.C_drewN ?_ _) | (with_reducible refine Kd.C_drew ?_))); (case side2 => exact (Kd.V_reads' HO1.out).2.1); rintro e w' ⟨rfl, ⟨nd, rfl⟩⟩))
        go_meet
        case rel => exact ⟨_, (true), (by first | rfl | (simp; done) | (simp [*]; done)), H', ⟨by first | omega | exact Nat.le_refl _⟩, ⟨by (with_reducible repeat (first | apply Kd.V_alloc | apply Kd.V_drewN | apply Kd.V_drew)); exact HO1.out⟩, ⟨by (with_reducible repeat (first | apply Kd.V_alloc | apply Kd.V_drewN | apply Kd.V_drew)); exact HO0_1.out⟩, ⟨by (with_reducible repeat (first | refine blk_drewN ?_ _ | refine blk_drew ?_ | refine blk_alloc ?_ _)); exact BK281.out⟩, ⟨by repeat (first | (with_reducible first | exact HB.out | apply below_alloc | apply pw_below_drewN | apply below_drew1 | refine below_set ?_ GE281.out) | exact HB.out)⟩⟩
    · replace c6 := Bool.eq_false_iff.mpr c6
      subst c6
      have H1 : (switchboardlaw15_ModelRoom.j0 k l1 true a0_0 l0_1) = some true := by rw [if_neg (show ¬ (false = true) by decide)] at H; exact H
      clear H
      have H := H1
      clear H1
      have H' := Aside0.mk H
      clear H
      have hcz24_0 : w4.cell? ⟨gb281, 0, none⟩ = some (.int .i64 a0_0) := (blk_cell BK281.out 0).trans rfl
      have hcz24_1 : w4.cell? ⟨gb281, 1, none⟩ = some (.slice A0_1 l0_1.length c0_1) := (blk_cell BK281.out 1).trans rfl
      have hfz24_0 := blk_frozen BK281.out 0
      have hfz24_1 := blk_frozen BK281.out 1
      go_wp2_with (first | ((with_reducible refine gate_callee (f := 9) rfl ?_); refine goesL_ (some 15) rfl rfl Try.func9 (by kernel_rfl) rfl #[.agg #[.int .i64 a0_0, .slice A0_1 l0_1.length c0_1]] rfl (by (try simp only [List.map_toArray, List.map_cons, List.map_nil]); first | done | rfl | (simp only [List.length_drop, List.length_take]; rfl)) ?_; (with_reducible refine (switchboardref15_Small.calls k a0_0 _ _ l0_1 false _ ?side1 ?side2 A5.out).mono ?_); (case side1 => repeat (first | exact (Kd.V_reads' HO0_1.out).2.2 | (with_reducible refine Kd.C_alloc ?_ _) | (with_reducible refine Kd.C_drewN ?_ _) | (with_reducible refine Kd.C_drew ?_))); (case side2 => exact (Kd.V_reads' HO0_1.out).2.1); rintro e w25 ⟨rfl, hb⟩; refine ⟨_, rfl, ?_⟩; have n0_ := Aside0.mk (Kd.V_below (by (with_reducible repeat (first | apply Kd.V_alloc | apply Kd.V_drewN | apply Kd.V_drew)); exact HO0_1.out) hb); have n1_ := Aside0.mk (Kd.V_below (by (with_reducible repeat (first | apply Kd.V_alloc | apply Kd.V_drewN | apply Kd.V_drew)); exact HO1.out) hb); have n2_ := Aside0.mk (blk_below (g := gb281) (o := .cells #[.int .i64 a0_0, .slice A0_1 l0_1.length c0_1] 24 (0, 0)) (by (with_reducible repeat (first | refine blk_drewN ?_ _ | refine blk_drew ?_ | refine blk_alloc ?_ _)); exact BK281.out) hb); have n3_ := Aside0.mk (below_step (by repeat (first | (with_reducible first | exact HB.out | apply below_alloc | apply pw_below_drewN | apply below_drew1 | refine below_set ?_ GE281.out) | exact HB.out)) hb); clear HO0_1; clear HO1; clear BK281; clear HB; have HO0_1 := n0_; have HO1 := n1_; have BK281 := n2_; have HB := n3_; clear n0_ n1_ n2_ n3_; (try clear hb); (try clear hb2); (try clear hk); (try clear hi)))
      go_meet
      case rel => exact ⟨_, (true), (by first | rfl | (simp; done) | (simp [*]; done)), H', ⟨by first | omega | exact Nat.le_refl _⟩, ⟨by (with_reducible repeat (first | apply Kd.V_alloc | apply Kd.V_drewN | apply Kd.V_drew)); exact HO1.out⟩, ⟨by (with_reducible repeat (first | apply Kd.V_alloc | apply Kd.V_drewN | apply Kd.V_drew)); exact HO0_1.out⟩, ⟨by (with_reducible repeat (first | refine blk_drewN ?_ _ | refine blk_drew ?_ | refine blk_alloc ?_ _)); exact BK281.out⟩, ⟨by repeat (first | (with_reducible first | exact HB.out | apply below_alloc | apply pw_below_drewN | apply below_drew1 | refine below_set ?_ GE281.out) | exact HB.out)⟩⟩
  case rest =>
    clear HC3
    try clear c1
    try clear p2
    try clear c6
    try clear c8
    try clear c9
    try clear c10
    try clear hcz12_0
    try clear hcz12_1
    try clear hcz14_0
    try clear hcz14_1
    try clear hcz16_0
    try clear hcz16_1
    try clear hcz18_0
    try clear hcz18_1
    try clear hcz20_0
    try clear hcz20_1
    try clear hcz22_0
    try clear hcz22_1
    try clear hcz24_0
    try clear hcz24_1
    try clear hfz12_0
    try clear hfz12_1
    try clear hfz14_0
    try clear hfz14_1
    try clear hfz16_0
    try clear hfz16_1
    try clear hfz18_0
    try clear hfz18_1
    try clear hfz20_0
    try clear hfz20_1
    try clear hfz22_0
    try clear hfz22_1
    try clear hfz24_0
    try clear hfz24_1
    obtain ⟨kq, x32_2, rfl, HA, HJ2, HO_1, HO_282001, BK281, HB⟩ := hcut
    cases kq with
    | zero => exact absurd HA.out (by simp [switchboardlaw15_ModelRoom.j0])
    | succ kj2 =>
      have H := HA.out
      clear HA
      simp only [switchboardlaw15_ModelRoom.j0] at H
      by_cases c26 : x32_2 = true
      · subst c26
        have H1 : ((switchboardlaw15_awake.f).bind fun t286 => (some t286)) = some true := by rw [if_pos rfl] at H; exact H
        clear H
        have H := H1
        clear H1
        replace H := Option.bind_eq_some_iff.mp H
        obtain ⟨t286, A270, H⟩ := H
        replace H : (some t286) = some true := H
        have A27 := Aside0.mk A270
        clear A270
        have hr_ := Aside0.mk (Option.some.inj H)
        go_wp2_with (first | ((with_reducible refine gate_callee (f := 11) rfl ?_); refine goesL_ (some 33) rfl rfl Try.func11 (by kernel_rfl) rfl #[] rfl (by (try simp only [List.map_toArray, List.map_cons, List.map_nil]); first | done | rfl | (simp only [List.length_drop, List.length_take]; rfl)) ?_; (with_reducible refine (switchboardlaw15_awake.calls  t286 _ A27.out).mono ?_); rintro e w28 ⟨rfl, hb⟩; refine ⟨_, rfl, ?_⟩; have n0_ := Aside0.mk (Kd.V_below (by (with_reducible repeat (first | apply Kd.V_alloc | apply Kd.V_drewN | apply Kd.V_drew)); exact HO_1.out) hb); have n1_ := Aside0.mk (Kd.V_below (by (with_reducible repeat (first | apply Kd.V_alloc | apply Kd.V_drewN | apply Kd.V_drew)); exact HO_282001.out) hb); have n2_ := Aside0.mk (blk_below (g := gb281) (o := .cells #[.int .i64 a0_0, .slice A0_1 l0_1.length c0_1] 24 (0, 0)) (by (with_reducible repeat (first | refine blk_drewN ?_ _ | refine blk_drew ?_ | refine blk_alloc ?_ _)); exact BK281.out) hb); have n3_ := Aside0.mk (below_step (by repeat (first | (with_reducible first | exact HB.out | apply below_alloc | apply pw_below_drewN | apply below_drew1 | refine below_set ?_ GE281.out) | exact HB.out)) hb); clear HO_1; clear HO_282001; clear BK281; clear HB; have HO_1 := n0_; have HO_282001 := n1_; have BK281 := n2_; have HB := n3_; clear n0_ n1_ n2_ n3_; (try clear hb); (try clear hb2); (try clear hk); (try clear hi)))
        go_ret
        exact ⟨by first | rfl | exact congrArg (fun b_ => Ending.returned (Value.bool b_)) hr_.out | exact congrArg (fun b_ => Ending.returned (Value.bool b_)) hr_.out | (simp [errW_none, errW_some] <;> rfl) | (simp [*, errW_none, errW_some] <;> rfl), by repeat (first | (with_reducible first | exact HB.out | apply below_alloc | apply pw_below_drewN | apply below_drew1 | refine below_set ?_ GE281.out) | exact HB.out)⟩
      · replace c26 := Bool.eq_false_iff.mpr c26
        subst c26
        have H1 : (switchboardlaw15_ModelRoom.l0 kj2 l1 l0_1 (l0_1.length : Int) 0 a0_0 ([] : List (S37))) = some true := by rw [if_neg (show ¬ (false = true) by decide)] at H; exact H
        clear H
        have H := H1
        clear H1
        have H' := Aside0.mk H
        clear H
        have hcz29_0 : wc.cell? ⟨gb281, 0, none⟩ = some (.int .i64 a0_0) := (blk_cell BK281.out 0).trans rfl
        have hcz29_1 : wc.cell? ⟨gb281, 1, none⟩ = some (.slice A0_1 l0_1.length c0_1) := (blk_cell BK281.out 1).trans rfl
        have hfz29_0 := blk_frozen BK281.out 0
        have hfz29_1 := blk_frozen BK281.out 1
        go_wp2_with (first | ((with_reducible refine gate_dst (N := 5) rfl ?_); (try (refine gate_guard (by rfl) ?_; dsimp only)); refine box_event ?hg (N := 5) ?hd (cs := #[.int .i64 0, .slice none 0 0]) (t := 24) ?hr ?_; (case hd => rfl); (case hg => rfl); (case hr => first | (go_simp; done) | (go_simp; rfl)); intro gb287 hg w30 hbox hb; have n0_ := Aside0.mk (Kd.V_below (Kd.V_elderB (by (with_reducible repeat (first | apply Kd.V_alloc | apply Kd.V_drewN | apply Kd.V_drew)); exact HO_1.out) gb287 (Nat.le_of_eq hg.symm)) hb); have n1_ := Aside0.mk (Kd.V_below (Kd.V_elderB (by (with_reducible repeat (first | apply Kd.V_alloc | apply Kd.V_drewN | apply Kd.V_drew)); exact HO_282001.out) gb287 (Nat.le_of_eq hg.symm)) hb); have n2_ := Aside0.mk (blk_below (g := gb281) (o := .cells #[.int .i64 a0_0, .slice A0_1 l0_1.length c0_1] 24 (0, 0)) (by (with_reducible repeat (first | refine blk_drewN ?_ _ | refine blk_drew ?_ | refine blk_alloc ?_ _)); exact BK281.out) hb); have n3_ := Aside0.mk (below_step (by repeat (first | (with_reducible first | exact HB.out | apply below_alloc | apply pw_below_drewN | apply below_drew1 | refine below_set ?_ GE281.out) | exact HB.out)) hb); have n4_ := Aside0.mk (hbox); have n5_ := Aside0.mk ((by rw [hg]; exact (below_size (by repeat (first | (with_reducible first | exact HB.out | apply below_alloc | apply pw_below_drewN | apply below_drew1 | refine below_set ?_ GE281.out) | exact HB.out))) : w.heap.size ≤ gb287)); have n6_ := Aside0.mk ((by rw [hg]; exact (below_size (by repeat (first | (with_reducible first | exact HB.out | apply below_alloc | apply pw_below_drewN | apply below_drew1 | refine below_set ?_ GE281.out) | exact HB.out))) : w.heap.size ≤ gb287)); have n7_ := Aside0.mk ((by rw [hg]; exact Nat.ne_of_lt (blk_lt (g := gb281) (o := .cells #[.int .i64 a0_0, .slice A0_1 l0_1.length c0_1] 24 (0, 0)) (by (with_reducible repeat (first | refine blk_drewN ?_ _ | refine blk_drew ?_ | refine blk_alloc ?_ _)); exact BK281.out)) : gb281 ≠ gb287)); have n8_ := Aside0.mk ((by rw [hg]; exact Nat.ne_of_gt (blk_lt (g := gb281) (o := .cells #[.int .i64 a0_0, .slice A0_1 l0_1.length c0_1] 24 (0, 0)) (by (with_reducible repeat (first | refine blk_drewN ?_ _ | refine blk_drew ?_ | refine blk_alloc ?_ _)); exact BK281.out)) : gb287 ≠ gb281)); clear HO_1; clear HO_282001; clear BK281; clear HB; have HO_1 := n0_; have HO_282001 := n1_; have BK281 := n2_; have HB := n3_; have BK287 := n4_; have GW287 := n5_; have GE287 := n6_; have NB281_287 := n7_; have NB287_281 := n8_; clear n0_ n1_ n2_ n3_ n4_ n5_ n6_ n7_ n8_; clear hb hbox hg; have hnb31 := NB287_281.out; have hnc31 := NB281_287.out; have hcz32_0 : w30.cell? ⟨gb287, 0, none⟩ = some (.int .i64 0) := (blk_cell BK287.out 0).trans rfl; have hcz32_1 : w30.cell? ⟨gb287, 1, none⟩ = some (.slice none 0 0) := (blk_cell BK287.out 1).trans rfl; have hfz32_0 := blk_frozen BK287.out 0; have hfz32_1 := blk_frozen BK287.out 1; have hcz33_0 : w30.cell? ⟨gb281, 0, none⟩ = some (.int .i64 a0_0) := (blk_cell BK281.out 0).trans rfl; have hcz33_1 : w30.cell? ⟨gb281, 1, none⟩ = some (.slice A0_1 l0_1.length c0_1) := (blk_cell BK281.out 1).trans rfl; have hfz33_0 := blk_frozen BK281.out 0; have hfz33_1 := blk_frozen BK281.out 1))
        go_loopg [40] kj2 (fun kq v40 w' => ∃ (x40_2 : Int) (x288001_2 : List (S37)) (u288001 : Value), v40 = .int .i64 x40_2 ∧ Aside0 (switchboardlaw15_ModelRoom.l0 kq l1 l0_1 (l0_1.length : Int) x40_2 a0_0 x288001_2 = some true) ∧ Aside0 (kq ≤ kj2) ∧ Aside0 (Kd.V (Kd.slice 3 (Kd.int .i64)) 47 w' w.heap.size (fun k_ => ((P0_1_ k_ ∨ P1_ k_) ∨ w.heap.size ≤ k_) ∧ some k_ ≠ (u288001 : Value).ownBlock ∧ k_ ≠ gb281 ∧ k_ ≠ gb287) (.slice A1 l1.length c1) l1) ∧ Aside0 (Kd.V k37 37 w' w.heap.size (fun k_ => ((P0_1_ k_ ∨ P1_ k_) ∨ w.heap.size ≤ k_) ∧ some k_ ≠ (u288001 : Value).ownBlock ∧ k_ ≠ gb281 ∧ k_ ≠ gb287) (.slice A0_1 l0_1.length c0_1) l0_1) ∧ Aside0 (Kd.V k37 37 w' w.heap.size (fun k_ => ((P0_1_ k_ ∨ P1_ k_) ∨ w.heap.size ≤ k_) ∧ some k_ ≠ (u288001 : Value).ownBlock ∧ k_ ≠ gb281 ∧ k_ ≠ gb287) (.slice A0_1 l0_1.length c0_1) l0_1) ∧ Aside0 (Kd.N k37 37 w' w.heap.size (fun k_ => ((P0_1_ k_ ∨ P1_ k_) ∨ w.heap.size ≤ k_) ∧ k_ ≠ gb281 ∧ k_ ≠ gb287) u288001 x288001_2) ∧ Aside0 (w'.heap[gb281]? = some (.cells #[.int .i64 a0_0, (.slice A0_1 l0_1.length c0_1)] 24 (0, 0))) ∧ Aside0 (w'.heap[gb287]? = some (.cells #[.int .i64 a0_0, u288001] 24 (0, 0))) ∧ Aside0 (Below w.heap.size w w'))
        case atStart => exact ⟨(0), (([] : List (S37))), (.slice none 0 0), (by first | rfl | (simp; done) | (simp [*]; done)), H', ⟨Nat.le_refl _⟩, ⟨by (with_reducible repeat (first | apply Kd.V_alloc | apply Kd.V_drewN | apply Kd.V_drew)); exact Kd.V_mono (Kd.V_far (p := ⟨gb287, 1, none⟩) (Kd.V_far (p := ⟨gb287, 0, none⟩) (Kd.V_mono HO_1.out (fun k_ hk => (⟨hk, hk.2⟩ : _ ∧ k_ ≠ gb287))) (fun _ hk => hk.2) (.int .i64 a0_0)) (fun _ hk => hk.2) (.slice none 0 0)) (fun _ hk => ⟨hk.1.1.1, ⟨(by simp [Value.ownBlock]), ⟨hk.1.1.2, hk.1.2⟩⟩⟩)⟩, ⟨by (with_reducible repeat (first | apply Kd.V_alloc | apply Kd.V_drewN | apply Kd.V_drew)); exact Kd.V_mono (Kd.V_far (p := ⟨gb287, 1, none⟩) (Kd.V_far (p := ⟨gb287, 0, none⟩) (Kd.V_mono HO_282001.out (fun k_ hk => (⟨hk, hk.2⟩ : _ ∧ k_ ≠ gb287))) (fun _ hk => hk.2) (.int .i64 a0_0)) (fun _ hk => hk.2) (.slice none 0 0)) (fun _ hk => ⟨hk.1.1.1, ⟨(by simp [Value.ownBlock]), ⟨hk.1.1.2, hk.1.2⟩⟩⟩)⟩, ⟨by (with_reducible repeat (first | apply Kd.V_alloc | apply Kd.V_drewN | apply Kd.V_drew)); exact Kd.V_mono (Kd.V_far (p := ⟨gb287, 1, none⟩) (Kd.V_far (p := ⟨gb287, 0, none⟩) (Kd.V_mono HO_282001.out (fun k_ hk => (⟨hk, hk.2⟩ : _ ∧ k_ ≠ gb287))) (fun _ hk => hk.2) (.int .i64 a0_0)) (fun _ hk => hk.2) (.slice none 0 0)) (fun _ hk => ⟨hk.1.1.1, ⟨(by simp [Value.ownBlock]), ⟨hk.1.1.2, hk.1.2⟩⟩⟩)⟩, ⟨by first | exact Kd.R_nil _ _ _ _ _ | exact Kd.N_nil _ _ _ _ _ | exact Kd.V_nil _ _ _ _ _ | exact Kd.Q_nil _ _ _ _ _ | exact Kd.S_nil _ _ _ _ _⟩, ⟨by (with_reducible repeat (first | refine blk_drewN ?_ _ | refine blk_drew ?_ | refine blk_alloc ?_ _)); refine blk_far ?_ NB281_287.out _; (with_reducible repeat (first | refine blk_drewN ?_ _ | refine blk_drew ?_ | refine blk_alloc ?_ _)); refine blk_far ?_ NB281_287.out _; (with_reducible repeat (first | refine blk_drewN ?_ _ | refine blk_drew ?_ | refine blk_alloc ?_ _)); exact BK281.out⟩, ⟨by (with_reducible repeat (first | refine blk_drewN ?_ _ | refine blk_drew ?_ | refine blk_alloc ?_ _)); refine blk_put (cs := #[.int .i64 a0_0, .slice none 0 0]) ?_ 1 _ rfl; (with_reducible repeat (first | refine blk_drewN ?_ _ | refine blk_drew ?_ | refine blk_alloc ?_ _)); refine blk_put (cs := #[.int .i64 0, .slice none 0 0]) ?_ 0 _ rfl; (with_reducible repeat (first | refine blk_drewN ?_ _ | refine blk_drew ?_ | refine blk_alloc ?_ _)); exact BK287.out⟩, ⟨by repeat (first | (with_reducible first | exact HB.out | apply below_alloc | apply pw_below_drewN | apply below_drew1 | refine below_set ?_ GE281.out | refine below_set ?_ GE287.out) | exact HB.out)⟩⟩
        case round =>
          clear H'
          try clear c1
          try clear c2
          try clear p2
          try clear c3
          try clear c6
          try clear c8
          try clear c9
          try clear c10
          try clear c11
          try clear c26
          try clear c31
          try clear hcz12_0
          try clear hcz12_1
          try clear hcz14_0
          try clear hcz14_1
          try clear hcz16_0
          try clear hcz16_1
          try clear hcz18_0
          try clear hcz18_1
          try clear hcz20_0
          try clear hcz20_1
          try clear hcz22_0
          try clear hcz22_1
          try clear hcz24_0
          try clear hcz24_1
          try clear hcz29_0
          try clear hcz29_1
          try clear hcz32_0
          try clear hcz32_1
          try clear hcz33_0
          try clear hcz33_1
          try clear hfz12_0
          try clear hfz12_1
          try clear hfz14_0
          try clear hfz14_1
          try clear hfz16_0
          try clear hfz16_1
          try clear hfz18_0
          try clear hfz18_1
          try clear hfz20_0
          try clear hfz20_1
          try clear hfz22_0
          try clear hfz22_1
          try clear hfz24_0
          try clear hfz24_1
          try clear hfz29_0
          try clear hfz29_1
          try clear hfz32_0
          try clear hfz32_1
          try clear hfz33_0
          try clear hfz33_1
          try clear p2
          obtain ⟨x40_2, x288001_2, u288001, rfl, HA, HK2, HO_1, HO_38, HO_282001, HO_288001, BK281, BK287, HB⟩ := hrel
          cases gk with
          | zero => exact absurd HA.out (by simp [switchboardlaw15_ModelRoom.l0])
          | succ k2 =>
            have H := HA.out
            clear HA
            simp only [switchboardlaw15_ModelRoom.l0] at H
            by_cases c34 : x40_2 < (l0_1.length : Int)
            · rw [if_pos c34] at H
              have c34b0 : decide (x40_2 < (l0_1.length : Int)) = true := decide_eq_true c34
              clear c34
              by_cases c35 : 0 ≤ x40_2
              · rw [if_pos c35] at H
                have c35b0 : decide (0 ≤ x40_2) = true := decide_eq_true c35
                clear c35
                by_cases c36 : x40_2 < (l0_1.length : Int)
                · rw [if_pos c36] at H
                  have c36b0 : decide (x40_2 < (l0_1.length : Int)) = true := decide_eq_true c36
                  clear c36
                  by_cases c37 : x288001_2.length < 2513169434916
                  · rw [if_pos c37] at H
                    have LMc37 := Aside0.mk c37
                    clear c37
                    obtain ⟨y290, hy290⟩ : ∃ y_ : List (S37), y_ = (x288001_2 ++ [(⟨(rd_T37 l0_1 x40_2).f0, (rd_T37 l0_1 x40_2).f1, 32⟩ : S37)]) := ⟨_, rfl⟩
                    replace H : (switchboardlaw15_ModelRoom.l0 k2 l1 l0_1 (l0_1.length : Int) (wrap64 (x40_2 + 1)) a0_0 y290) = some true := by first | (rw [hy290]; with_reducible exact H) | (have H2_ := (Option.bind_some _ _).symm.trans H; rw [hy290]; with_reducible exact H2_) | (have H2_ := (Option.bind_some _ _).symm.trans H; with_reducible exact H2_) | with_reducible exact H | (rw [hy290]; exact H) | exact H
                    have Ny290 := Aside0.mk hy290
                    clear hy290
                    have H' := Aside0.mk H
                    clear H
                    have p288 : 0 ≤ (x40_2 : Int) := of_decide_eq_true (by first | (with_reducible assumption) | assumption)
                    have q288 : x40_2 < (l0_1.length : Int) := of_decide_eq_true (by first | (with_reducible assumption) | assumption)
                    obtain ⟨ad288, A288_0, c288_0, A288_1, c288_1, e288, hx288_0, hx288_1, hx288_2, hl288_0, hi288_0, hl288_1, hi288_1⟩ := at_T37 (Kd.V_reads' HO_38.out).2.2 x40_2 p288 q288
                    cases e288
                    obtain ⟨ce288, hce288, hMe288, hcc288⟩ := Kd.V_get HO_38.out z37 x40_2 p288 (by first | exact q288 | exact of_decide_eq_true (by first | (with_reducible assumption) | assumption) | (have e_ := (Kd.V_reads' HO_38.out).1; omega))
                    obtain ⟨ua288_0, uc288_0, ua288_1, uc288_1, rfl, ul288_0, ge288_0, ul288_1, ge288_1⟩ := k37_openF hMe288
                    have hv288_0 := hcc288 0 _ rfl
                    rw [Nat.add_zero] at hv288_0
                    replace hv288_0 := Option.some.inj (hv288_0.symm.trans hx288_0)
                    injection hv288_0 with hva_ hvn_ hvc_
                    rw [hva_] at ge288_0
                    rw [hvc_] at ul288_0
                    have HL288_0 := Aside0.mk (show Kd.V (Kd.slice 3 (Kd.int .i64)) 47 _ w.heap.size _ _ ((rd_T37 l0_1 x40_2).f0) from Kd.V_mk ul288_0 ge288_0)
                    clear hva_ hvn_ hvc_ ge288_0 ul288_0
                    have hv288_1 := hcc288 1 _ rfl
                    rw [add_field _ _ 1 (by omega)] at hv288_1
                    replace hv288_1 := Option.some.inj (hv288_1.symm.trans hx288_1)
                    injection hv288_1 with hva_ hvn_ hvc_
                    rw [hva_] at ge288_1
                    rw [hvc_] at ul288_1
                    have HL288_1 := Aside0.mk (show Kd.V k46 46 _ w.heap.size _ _ ((rd_T37 l0_1 x40_2).f1) from Kd.V_mk ul288_1 ge288_1)
                    clear hva_ hvn_ hvc_ ge288_1 ul288_1
                    clear hcc288 hce288
                    have HR288_0 := Aside0.mk hi288_0
                    have HC288_0 := Aside0.mk hl288_0
                    clear hi288_0 hl288_0
                    have HR288_1 := Aside0.mk hi288_1
                    have HC288_1 := Aside0.mk hl288_1
                    clear hi288_1 hl288_1
                    replace p288 := eq_true p288
                    replace q288 := eq_true q288
                    go_wp2_with (first | ((with_reducible refine gate_dst (N := 7) rfl ?_); (try (refine gate_guard (by rfl) ?_; dsimp only)); refine box_event ?hg (N := 7) ?hd (cs := #[.slice none 0 0, .slice none 0 0, .int .i64 0]) (t := 37) ?hr ?_; (case hd => rfl); (case hg => rfl); (case hr => first | (go_simp; done) | (go_simp; rfl)); intro gb289 hg w38 hbox hb; have n0_ := Aside0.mk (Kd.V_below (Kd.V_elderB (by (with_reducible repeat (first | apply Kd.V_alloc | apply Kd.V_drewN | apply Kd.V_drew)); exact HO_1.out) gb289 (Nat.le_of_eq hg.symm)) hb); have n1_ := Aside0.mk (Kd.V_below (Kd.V_elderB (by (with_reducible repeat (first | apply Kd.V_alloc | apply Kd.V_drewN | apply Kd.V_drew)); exact HO_38.out) gb289 (Nat.le_of_eq hg.symm)) hb); have n2_ := Aside0.mk (Kd.V_below (Kd.V_elderB (by (with_reducible repeat (first | apply Kd.V_alloc | apply Kd.V_drewN | apply Kd.V_drew)); exact HO_282001.out) gb289 (Nat.le_of_eq hg.symm)) hb); have n3_ := Aside0.mk (Kd.N_below (Kd.N_elderB (by (with_reducible repeat (first | apply Kd.N_alloc | apply Kd.N_drewN | apply Kd.N_drew)); exact HO_288001.out) gb289 (Nat.le_of_eq hg.symm)) hb); have n4_ := Aside0.mk (Kd.V_below (Kd.V_elderB (by (with_reducible repeat (first | apply Kd.V_alloc | apply Kd.V_drewN | apply Kd.V_drew)); exact HL288_0.out) gb289 (Nat.le_of_eq hg.symm)) hb); have n5_ := Aside0.mk (Kd.V_below (Kd.V_elderB (by (with_reducible repeat (first | apply Kd.V_alloc | apply Kd.V_drewN | apply Kd.V_drew)); exact HL288_1.out) gb289 (Nat.le_of_eq hg.symm)) hb); have n6_ := Aside0.mk (blk_below (g := gb281) (o := .cells #[.int .i64 a0_0, .slice (some ad288) l0_1.length c0_1] 24 (0, 0)) (by (with_reducible repeat (first | refine blk_drewN ?_ _ | refine blk_drew ?_ | refine blk_alloc ?_ _)); exact BK281.out) hb); have n7_ := Aside0.mk (blk_below (g := gb287) (o := .cells #[.int .i64 a0_0, u288001] 24 (0, 0)) (by (with_reducible repeat (first | refine blk_drewN ?_ _ | refine blk_drew ?_ | refine blk_alloc ?_ _)); exact BK287.out) hb); have n8_ := Aside0.mk (Kd.C_below (by repeat (first | (with_reducible exact HR288_0.out) | (with_reducible refine Kd.C_alloc ?_ _) | (with_reducible refine Kd.C_drewN ?_ _) | (with_reducible refine Kd.C_drew ?_) | exact HR288_0.out)) hb); have n9_ := Aside0.mk (Kd.C_below (by repeat (first | (with_reducible exact HR288_1.out) | (with_reducible refine Kd.C_alloc ?_ _) | (with_reducible refine Kd.C_drewN ?_ _) | (with_reducible refine Kd.C_drew ?_) | exact HR288_1.out)) hb); have n10_ := Aside0.mk (below_step (by repeat (first | (with_reducible first | exact HB.out | apply below_alloc | apply pw_below_drewN | apply below_drew1 | refine below_set ?_ GE281.out | refine below_set ?_ GE287.out) | exact HB.out)) hb); have n11_ := Aside0.mk (hbox); have n12_ := Aside0.mk ((by rw [hg]; exact (below_size (by repeat (first | (with_reducible first | exact HB.out | apply below_alloc | apply pw_below_drewN | apply below_drew1 | refine below_set ?_ GE281.out | refine below_set ?_ GE287.out) | exact HB.out))) : w.heap.size ≤ gb289)); have n13_ := Aside0.mk ((by rw [hg]; exact (below_size (by repeat (first | (with_reducible first | exact HB.out | apply below_alloc | apply pw_below_drewN | apply below_drew1 | refine below_set ?_ GE281.out | refine below_set ?_ GE287.out) | exact HB.out))) : w.heap.size ≤ gb289)); have n14_ := Aside0.mk ((by rw [hg]; exact Nat.ne_of_lt (blk_lt (g := gb281) (o := .cells #[.int .i64 a0_0, .slice (some ad288) l0_1.length c0_1] 24 (0, 0)) (by (with_reducible repeat (first | refine blk_drewN ?_ _ | refine blk_drew ?_ | refine blk_alloc ?_ _)); exact BK281.out)) : gb281 ≠ gb289)); have n15_ := Aside0.mk ((by rw [hg]; exact Nat.ne_of_gt (blk_lt (g := gb281) (o := .cells #[.int .i64 a0_0, .slice (some ad288) l0_1.length c0_1] 24 (0, 0)) (by (with_reducible repeat (first | refine blk_drewN ?_ _ | refine blk_drew ?_ | refine blk_alloc ?_ _)); exact BK281.out)) : gb289 ≠ gb281)); have n16_ := Aside0.mk ((by rw [hg]; exact Nat.ne_of_lt (blk_lt (g := gb287) (o := .cells #[.int .i64 a0_0, u288001] 24 (0, 0)) (by (with_reducible repeat (first | refine blk_drewN ?_ _ | refine blk_drew ?_ | refine blk_alloc ?_ _)); exact BK287.out)) : gb287 ≠ gb289)); have n17_ := Aside0.mk ((by rw [hg]; exact Nat.ne_of_gt (blk_lt (g := gb287) (o := .cells #[.int .i64 a0_0, u288001] 24 (0, 0)) (by (with_reducible repeat (first | refine blk_drewN ?_ _ | refine blk_drew ?_ | refine blk_alloc ?_ _)); exact BK287.out)) : gb289 ≠ gb287)); clear HO_1; clear HO_38; clear HO_282001; clear HO_288001; clear HL288_0; clear HL288_1; clear BK281; clear BK287; clear HR288_0; clear HR288_1; clear HB; have HO_1 := n0_; have HO_38 := n1_; have HO_282001 := n2_; have HO_288001 := n3_; have HL288_0 := n4_; have HL288_1 := n5_; have BK281 := n6_; have BK287 := n7_; have HR288_0 := n8_; have HR288_1 := n9_; have HB := n10_; have BK289 := n11_; have GW289 := n12_; have GE289 := n13_; have NB281_289 := n14_; have NB289_281 := n15_; have NB287_289 := n16_; have NB289_287 := n17_; clear n0_ n1_ n2_ n3_ n4_ n5_ n6_ n7_ n8_ n9_ n10_ n11_ n12_ n13_ n14_ n15_ n16_ n17_; clear hb hbox hg; have hnb39 := NB289_281.out; have hnc39 := NB281_289.out; have hnb40 := NB289_287.out; have hnc40 := NB287_289.out; have hcz41_0 : w38.cell? ⟨gb289, 0, none⟩ = some (.slice none 0 0) := (blk_cell BK289.out 0).trans rfl; have hcz41_1 : w38.cell? ⟨gb289, 1, none⟩ = some (.slice none 0 0) := (blk_cell BK289.out 1).trans rfl; have hcz41_2 : w38.cell? ⟨gb289, 2, none⟩ = some (.int .i64 0) := (blk_cell BK289.out 2).trans rfl; have hfz41_0 := blk_frozen BK289.out 0; have hfz41_1 := blk_frozen BK289.out 1; have hfz41_2 := blk_frozen BK289.out 2) | ((with_reducible refine gate_store (t := 37) (p := 7) rfl ?_); refine store_event (t := 37) (p := 7) (v := ?vo_w42) (w1 := (((w38.setCell ⟨gb289, 0, none⟩ (.slice A288_0 ((rd_T37 l0_1 x40_2).f0).length c288_0)).setCell ⟨gb289, 1, none⟩ (.slice A288_1 ((rd_T37 l0_1 x40_2).f1).length c288_1)).setCell ⟨gb289, 2, none⟩ (.int .i64 ((rd_T37 l0_1 x40_2).f2)))) ?hg ?ho ?hn ?hr ?_; (case ho => rfl); (case hg => rfl); (case hn => rfl); (case hr => first | (go_simp; done) | (go_simp; rfl)); intro w42 hw; have n0_ : Aside0 (Kd.V (Kd.slice 3 (Kd.int .i64)) 47 w42 w.heap.size (fun k_ => ((P0_1_ k_ ∨ P1_ k_) ∨ w.heap.size ≤ k_) ∧ some k_ ≠ (u288001 : Value).ownBlock ∧ k_ ≠ gb281 ∧ k_ ≠ gb287 ∧ k_ ≠ gb289) (.slice A1 l1.length c1) l1) := ⟨(by rw [hw]; exact (by (with_reducible repeat (first | apply Kd.V_alloc | apply Kd.V_drewN | apply Kd.V_drew)); exact Kd.V_mono (Kd.V_far (p := ⟨gb289, 2, none⟩) (Kd.V_far (p := ⟨gb289, 1, none⟩) (Kd.V_far (p := ⟨gb289, 0, none⟩) (Kd.V_mono HO_1.out (fun k_ hk => (⟨hk, hk.2⟩ : _ ∧ k_ ≠ gb289))) (fun _ hk => hk.2) (.slice A288_0 ((rd_T37 l0_1 x40_2).f0).length c288_0)) (fun _ hk => hk.2) (.slice A288_1 ((rd_T37 l0_1 x40_2).f1).length c288_1)) (fun _ hk => hk.2) (.int .i64 ((rd_T37 l0_1 x40_2).f2))) (fun _ hk => ⟨hk.1.1.1, ⟨hk.1.1.2.1, ⟨hk.1.1.2.2.1, ⟨hk.1.1.2.2.2, hk.1.2⟩⟩⟩⟩)))⟩; have n1_ : Aside0 (Kd.V k37 37 w42 w.heap.size (fun k_ => ((P0_1_ k_ ∨ P1_ k_) ∨ w.heap.size ≤ k_) ∧ some k_ ≠ (u288001 : Value).ownBlock ∧ k_ ≠ gb281 ∧ k_ ≠ gb287 ∧ k_ ≠ gb289) (.slice (some ad288) l0_1.length c0_1) l0_1) := ⟨(by rw [hw]; exact (by (with_reducible repeat (first | apply Kd.V_alloc | apply Kd.V_drewN | apply Kd.V_drew)); exact Kd.V_mono (Kd.V_far (p := ⟨gb289, 2, none⟩) (Kd.V_far (p := ⟨gb289, 1, none⟩) (Kd.V_far (p := ⟨gb289, 0, none⟩) (Kd.V_mono HO_38.out (fun k_ hk => (⟨hk, hk.2⟩ : _ ∧ k_ ≠ gb289))) (fun _ hk => hk.2) (.slice A288_0 ((rd_T37 l0_1 x40_2).f0).length c288_0)) (fun _ hk => hk.2) (.slice A288_1 ((rd_T37 l0_1 x40_2).f1).length c288_1)) (fun _ hk => hk.2) (.int .i64 ((rd_T37 l0_1 x40_2).f2))) (fun _ hk => ⟨hk.1.1.1, ⟨hk.1.1.2.1, ⟨hk.1.1.2.2.1, ⟨hk.1.1.2.2.2, hk.1.2⟩⟩⟩⟩)))⟩; have n2_ : Aside0 (Kd.V k37 37 w42 w.heap.size (fun k_ => ((P0_1_ k_ ∨ P1_ k_) ∨ w.heap.size ≤ k_) ∧ some k_ ≠ (u288001 : Value).ownBlock ∧ k_ ≠ gb281 ∧ k_ ≠ gb287 ∧ k_ ≠ gb289) (.slice (some ad288) l0_1.length c0_1) l0_1) := ⟨(by rw [hw]; exact (by (with_reducible repeat (first | apply Kd.V_alloc | apply Kd.V_drewN | apply Kd.V_drew)); exact Kd.V_mono (Kd.V_far (p := ⟨gb289, 2, none⟩) (Kd.V_far (p := ⟨gb289, 1, none⟩) (Kd.V_far (p := ⟨gb289, 0, none⟩) (Kd.V_mono HO_282001.out (fun k_ hk => (⟨hk, hk.2⟩ : _ ∧ k_ ≠ gb289))) (fun _ hk => hk.2) (.slice A288_0 ((rd_T37 l0_1 x40_2).f0).length c288_0)) (fun _ hk => hk.2) (.slice A288_1 ((rd_T37 l0_1 x40_2).f1).length c288_1)) (fun _ hk => hk.2) (.int .i64 ((rd_T37 l0_1 x40_2).f2))) (fun _ hk => ⟨hk.1.1.1, ⟨hk.1.1.2.1, ⟨hk.1.1.2.2.1, ⟨hk.1.1.2.2.2, hk.1.2⟩⟩⟩⟩)))⟩; have n3_ : Aside0 (Kd.N k37 37 w42 w.heap.size (fun k_ => ((P0_1_ k_ ∨ P1_ k_) ∨ w.heap.size ≤ k_) ∧ k_ ≠ gb281 ∧ k_ ≠ gb287 ∧ k_ ≠ gb289) u288001 x288001_2) := ⟨(by rw [hw]; exact (by (with_reducible repeat (first | apply Kd.N_alloc | apply Kd.N_drewN | apply Kd.N_drew)); exact Kd.N_mono (Kd.N_far (p := ⟨gb289, 2, none⟩) (Kd.N_far (p := ⟨gb289, 1, none⟩) (Kd.N_far (p := ⟨gb289, 0, none⟩) (Kd.N_mono HO_288001.out (fun k_ hk => (⟨hk, hk.2⟩ : _ ∧ k_ ≠ gb289))) (fun _ hk => hk.2) (.slice A288_0 ((rd_T37 l0_1 x40_2).f0).length c288_0)) (fun _ hk => hk.2) (.slice A288_1 ((rd_T37 l0_1 x40_2).f1).length c288_1)) (fun _ hk => hk.2) (.int .i64 ((rd_T37 l0_1 x40_2).f2))) (fun _ hk => ⟨hk.1.1.1, ⟨hk.1.1.2.1, ⟨hk.1.1.2.2, hk.1.2⟩⟩⟩)))⟩; have n4_ : Aside0 (Kd.V (Kd.slice 3 (Kd.int .i64)) 47 w42 w.heap.size (fun k_ => ((P0_1_ k_ ∨ P1_ k_) ∨ w.heap.size ≤ k_) ∧ some k_ ≠ (u288001 : Value).ownBlock ∧ k_ ≠ gb281 ∧ k_ ≠ gb287 ∧ k_ ≠ gb289) (.slice A288_0 ((rd_T37 l0_1 x40_2).f0).length c288_0) ((rd_T37 l0_1 x40_2).f0)) := ⟨(by rw [hw]; exact (by (with_reducible repeat (first | apply Kd.V_alloc | apply Kd.V_drewN | apply Kd.V_drew)); exact Kd.V_mono (Kd.V_far (p := ⟨gb289, 2, none⟩) (Kd.V_far (p := ⟨gb289, 1, none⟩) (Kd.V_far (p := ⟨gb289, 0, none⟩) (Kd.V_mono HL288_0.out (fun k_ hk => (⟨hk, hk.2⟩ : _ ∧ k_ ≠ gb289))) (fun _ hk => hk.2) (.slice A288_0 ((rd_T37 l0_1 x40_2).f0).length c288_0)) (fun _ hk => hk.2) (.slice A288_1 ((rd_T37 l0_1 x40_2).f1).length c288_1)) (fun _ hk => hk.2) (.int .i64 ((rd_T37 l0_1 x40_2).f2))) (fun _ hk => ⟨hk.1.1.1, ⟨hk.1.1.2.1, ⟨hk.1.1.2.2.1, ⟨hk.1.1.2.2.2, hk.1.2⟩⟩⟩⟩)))⟩; have n5_ : Aside0 (Kd.V k46 46 w42 w.heap.size (fun k_ => ((P0_1_ k_ ∨ P1_ k_) ∨ w.heap.size ≤ k_) ∧ some k_ ≠ (u288001 : Value).ownBlock ∧ k_ ≠ gb281 ∧ k_ ≠ gb287 ∧ k_ ≠ gb289) (.slice A288_1 ((rd_T37 l0_1 x40_2).f1).length c288_1) ((rd_T37 l0_1 x40_2).f1)) := ⟨(by rw [hw]; exact (by (with_reducible repeat (first | apply Kd.V_alloc | apply Kd.V_drewN | apply Kd.V_drew)); exact Kd.V_mono (Kd.V_far (p := ⟨gb289, 2, none⟩) (Kd.V_far (p := ⟨gb289, 1, none⟩) (Kd.V_far (p := ⟨gb289, 0, none⟩) (Kd.V_mono HL288_1.out (fun k_ hk => (⟨hk, hk.2⟩ : _ ∧ k_ ≠ gb289))) (fun _ hk => hk.2) (.slice A288_0 ((rd_T37 l0_1 x40_2).f0).length c288_0)) (fun _ hk => hk.2) (.slice A288_1 ((rd_T37 l0_1 x40_2).f1).length c288_1)) (fun _ hk => hk.2) (.int .i64 ((rd_T37 l0_1 x40_2).f2))) (fun _ hk => ⟨hk.1.1.1, ⟨hk.1.1.2.1, ⟨hk.1.1.2.2.1, ⟨hk.1.1.2.2.2, hk.1.2⟩⟩⟩⟩)))⟩; have n6_ : Aside0 (w42.heap[gb281]? = some (.cells #[.int .i64 a0_0, .slice (some ad288) l0_1.length c0_1] 24 (0, 0))) := ⟨(by rw [hw]; exact (by (with_reducible repeat (first | refine blk_drewN ?_ _ | refine blk_drew ?_ | refine blk_alloc ?_ _)); refine blk_far ?_ NB281_289.out _; (with_reducible repeat (first | refine blk_drewN ?_ _ | refine blk_drew ?_ | refine blk_alloc ?_ _)); refine blk_far ?_ NB281_289.out _; (with_reducible repeat (first | refine blk_drewN ?_ _ | refine blk_drew ?_ | refine blk_alloc ?_ _)); refine blk_far ?_ NB281_289.out _; (with_reducible repeat (first | refine blk_drewN ?_ _ | refine blk_drew ?_ | refine blk_alloc ?_ _)); exact BK281.out))⟩; have n7_ : Aside0 (w42.heap[gb287]? = some (.cells #[.int .i64 a0_0, u288001] 24 (0, 0))) := ⟨(by rw [hw]; exact (by (with_reducible repeat (first | refine blk_drewN ?_ _ | refine blk_drew ?_ | refine blk_alloc ?_ _)); refine blk_far ?_ NB287_289.out _; (with_reducible repeat (first | refine blk_drewN ?_ _ | refine blk_drew ?_ | refine blk_alloc ?_ _)); refine blk_far ?_ NB287_289.out _; (with_reducible repeat (first | refine blk_drewN ?_ _ | refine blk_drew ?_ | refine blk_alloc ?_ _)); refine blk_far ?_ NB287_289.out _; (with_reducible repeat (first | refine blk_drewN ?_ _ | refine blk_drew ?_ | refine blk_alloc ?_ _)); exact BK287.out))⟩; have n8_ : Aside0 (w42.heap[gb289]? = some (.cells #[.slice A288_0 ((rd_T37 l0_1 x40_2).f0).length c288_0, .slice A288_1 ((rd_T37 l0_1 x40_2).f1).length c288_1, .int .i64 ((rd_T37 l0_1 x40_2).f2)] 37 (0, 0))) := ⟨(by rw [hw]; exact (by (with_reducible repeat (first | refine blk_drewN ?_ _ | refine blk_drew ?_ | refine blk_alloc ?_ _)); refine blk_put (cs := #[.slice A288_0 ((rd_T37 l0_1 x40_2).f0).length c288_0, .slice A288_1 ((rd_T37 l0_1 x40_2).f1).length c288_1, .int .i64 0]) ?_ 2 _ rfl; (with_reducible repeat (first | refine blk_drewN ?_ _ | refine blk_drew ?_ | refine blk_alloc ?_ _)); refine blk_put (cs := #[.slice A288_0 ((rd_T37 l0_1 x40_2).f0).length c288_0, .slice none 0 0, .int .i64 0]) ?_ 1 _ rfl; (with_reducible repeat (first | refine blk_drewN ?_ _ | refine blk_drew ?_ | refine blk_alloc ?_ _)); refine blk_put (cs := #[.slice none 0 0, .slice none 0 0, .int .i64 0]) ?_ 0 _ rfl; (with_reducible repeat (first | refine blk_drewN ?_ _ | refine blk_drew ?_ | refine blk_alloc ?_ _)); exact BK289.out))⟩; have n9_ : Aside0 (Below w.heap.size w w42) := ⟨(by rw [hw]; exact (by repeat (first | (with_reducible first | exact HB.out | apply below_alloc | apply pw_below_drewN | apply below_drew1 | refine below_set ?_ GE281.out | refine below_set ?_ GE287.out | refine below_set ?_ GE289.out) | exact HB.out)))⟩; clear hw; clear HO_1; clear HO_38; clear HO_282001; clear HO_288001; clear HL288_0; clear HL288_1; clear BK281; clear BK287; clear BK289; clear HB; have HO_1 := n0_; have HO_38 := n1_; have HO_282001 := n2_; have HO_288001 := n3_; have HL288_0 := n4_; have HL288_1 := n5_; have BK281 := n6_; have BK287 := n7_; have BK289 := n8_; have HB := n9_; clear n0_ n1_ n2_ n3_ n4_ n5_ n6_ n7_ n8_ n9_; have hnb43 := NB287_281.out; have hnc43 := NB281_287.out; have hcz44_0 : w42.cell? ⟨gb287, 0, none⟩ = some (.int .i64 a0_0) := (blk_cell BK287.out 0).trans rfl; have hcz44_1 : w42.cell? ⟨gb287, 1, none⟩ = some (u288001) := (blk_cell BK287.out 1).trans rfl; have hfz44_0 := blk_frozen BK287.out 0; have hfz44_1 := blk_frozen BK287.out 1; have hcz45_0 : w42.cell? ⟨gb289, 0, none⟩ = some (.slice A288_0 ((rd_T37 l0_1 x40_2).f0).length c288_0) := (blk_cell BK289.out 0).trans rfl; have hcz45_1 : w42.cell? ⟨gb289, 1, none⟩ = some (.slice A288_1 ((rd_T37 l0_1 x40_2).f1).length c288_1) := (blk_cell BK289.out 1).trans rfl; have hcz45_2 : w42.cell? ⟨gb289, 2, none⟩ = some (.int .i64 ((rd_T37 l0_1 x40_2).f2)) := (blk_cell BK289.out 2).trans rfl; have hfz45_0 := blk_frozen BK289.out 0; have hfz45_1 := blk_frozen BK289.out 1; have hfz45_2 := blk_frozen BK289.out 2) | ((with_reducible refine gate_builtin (b := .append) (xs := #[.tmp 45, .tmp 51]) rfl ?_); (try (refine gate_guard (by rfl) ?_; dsimp only)); at_builtin; refine Kd.N_append k37 (w0 := w) w.heap.size rfl (.tmp 45) (.tmp 51) 22 37 (.agg #[(.slice none 0 0), (.slice none 0 0), (.int .i64 0)]) 56 rfl Try.underlying22 info37 rfl (by decide) (by omega) u288001 x288001_2 (⟨(rd_T37 l0_1 x40_2).f0, (rd_T37 l0_1 x40_2).f1, 32⟩ : S37) [.slice A288_0 ((rd_T37 l0_1 x40_2).f0).length c288_0, .slice A288_1 ((rd_T37 l0_1 x40_2).f1).length c288_1, .int .i64 32] (fun k_ => ((P0_1_ k_ ∨ P1_ k_) ∨ w.heap.size ≤ k_) ∧ k_ ≠ gb281 ∧ k_ ≠ gb287 ∧ k_ ≠ gb289) (fun k_ => ((fun k_ => ((P0_1_ k_ ∨ P1_ k_) ∨ w.heap.size ≤ k_) ∧ k_ ≠ gb281 ∧ k_ ≠ gb287 ∧ k_ ≠ gb289)) k_ ∧ some k_ ≠ (u288001 : Value).ownBlock) rfl rfl ?aP (fun _ hk => hk) ?aF ?aO ?aB ?aS ?aL ?_; (case aP => exact (k37_mkF _ _ (⟨(rd_T37 l0_1 x40_2).f0, (rd_T37 l0_1 x40_2).f1, 32⟩ : S37) (Kd.V_reads' (Kd.V_mono (ok' := (fun k_ => ((fun k_ => ((P0_1_ k_ ∨ P1_ k_) ∨ w.heap.size ≤ k_) ∧ k_ ≠ gb281 ∧ k_ ≠ gb287 ∧ k_ ≠ gb289)) k_ ∧ some k_ ≠ (u288001 : Value).ownBlock)) (HL288_0.out) (fun k_ hk => ⟨⟨hk.1, ⟨hk.2.2.1, ⟨hk.2.2.2.1, hk.2.2.2.2⟩⟩⟩, hk.2.1⟩))).2.1 (Kd.V_F (Kd.V_mono (ok' := (fun k_ => ((fun k_ => ((P0_1_ k_ ∨ P1_ k_) ∨ w.heap.size ≤ k_) ∧ k_ ≠ gb281 ∧ k_ ≠ gb287 ∧ k_ ≠ gb289)) k_ ∧ some k_ ≠ (u288001 : Value).ownBlock)) (HL288_0.out) (fun k_ hk => ⟨⟨hk.1, ⟨hk.2.2.1, ⟨hk.2.2.2.1, hk.2.2.2.2⟩⟩⟩, hk.2.1⟩))) (Kd.V_reads' (Kd.V_mono (ok' := (fun k_ => ((fun k_ => ((P0_1_ k_ ∨ P1_ k_) ∨ w.heap.size ≤ k_) ∧ k_ ≠ gb281 ∧ k_ ≠ gb287 ∧ k_ ≠ gb289)) k_ ∧ some k_ ≠ (u288001 : Value).ownBlock)) (HL288_1.out) (fun k_ hk => ⟨⟨hk.1, ⟨hk.2.2.1, ⟨hk.2.2.2.1, hk.2.2.2.2⟩⟩⟩, hk.2.1⟩))).2.1 (Kd.V_F (Kd.V_mono (ok' := (fun k_ => ((fun k_ => ((P0_1_ k_ ∨ P1_ k_) ∨ w.heap.size ≤ k_) ∧ k_ ≠ gb281 ∧ k_ ≠ gb287 ∧ k_ ≠ gb289)) k_ ∧ some k_ ≠ (u288001 : Value).ownBlock)) (HL288_1.out) (fun k_ hk => ⟨⟨hk.1, ⟨hk.2.2.1, ⟨hk.2.2.2.1, hk.2.2.2.2⟩⟩⟩, hk.2.1⟩))))); (case aB => exact (by repeat (first | (with_reducible first | exact HB.out | apply below_alloc | apply pw_below_drewN | apply below_drew1 | refine below_set ?_ GE281.out | refine below_set ?_ GE287.out | refine below_set ?_ GE289.out) | exact HB.out))); (case aF => exact (fun k_ hk => ⟨(.inr (Nat.le_trans (below_size (by repeat (first | (with_reducible first | exact HB.out | apply below_alloc | apply pw_below_drewN | apply below_drew1 | refine below_set ?_ GE281.out | refine below_set ?_ GE287.out | refine below_set ?_ GE289.out) | exact HB.out))) hk)), Kd.freshB (g := gb281) (o := .cells #[.int .i64 a0_0, .slice (some ad288) l0_1.length c0_1] 24 (0, 0)) (by (with_reducible repeat (first | refine blk_drewN ?_ _ | refine blk_drew ?_ | refine blk_alloc ?_ _)); exact BK281.out) k_ hk, Kd.freshB (g := gb287) (o := .cells #[.int .i64 a0_0, u288001] 24 (0, 0)) (by (with_reducible repeat (first | refine blk_drewN ?_ _ | refine blk_drew ?_ | refine blk_alloc ?_ _)); exact BK287.out) k_ hk, Kd.freshB (g := gb289) (o := .cells #[.slice A288_0 ((rd_T37 l0_1 x40_2).f0).length c288_0, .slice A288_1 ((rd_T37 l0_1 x40_2).f1).length c288_1, .int .i64 ((rd_T37 l0_1 x40_2).f2)] 37 (0, 0)) (by (with_reducible repeat (first | refine blk_drewN ?_ _ | refine blk_drew ?_ | refine blk_alloc ?_ _)); exact BK289.out) k_ hk⟩)); (case aO => exact (by (with_reducible repeat (first | apply Kd.N_alloc | apply Kd.N_drewN | apply Kd.N_drew)); exact HO_288001.out)); (case aS => exact (below_size (by repeat (first | (with_reducible first | exact HB.out | apply below_alloc | apply pw_below_drewN | apply below_drew1 | refine below_set ?_ GE281.out | refine below_set ?_ GE287.out | refine below_set ?_ GE289.out) | exact HB.out)))); (case aL => have := LMc37.out; omega); intro v291 w46 ho hb hg hat; rw [← Ny290.out] at ho; have n0_ := Aside0.mk (Kd.V_afterv (ok := (fun k_ => ((P0_1_ k_ ∨ P1_ k_) ∨ w.heap.size ≤ k_) ∧ k_ ≠ gb281 ∧ k_ ≠ gb287 ∧ k_ ≠ gb289)) (by (with_reducible repeat (first | apply Kd.V_alloc | apply Kd.V_drewN | apply Kd.V_drew)); exact Kd.V_mono HO_1.out (fun _ hk => ⟨⟨hk.1, ⟨hk.2.2.1, ⟨hk.2.2.2.1, hk.2.2.2.2⟩⟩⟩, hk.2.1⟩)) hg hat); have n1_ := Aside0.mk (Kd.V_afterv (ok := (fun k_ => ((P0_1_ k_ ∨ P1_ k_) ∨ w.heap.size ≤ k_) ∧ k_ ≠ gb281 ∧ k_ ≠ gb287 ∧ k_ ≠ gb289)) (by (with_reducible repeat (first | apply Kd.V_alloc | apply Kd.V_drewN | apply Kd.V_drew)); exact Kd.V_mono HO_38.out (fun _ hk => ⟨⟨hk.1, ⟨hk.2.2.1, ⟨hk.2.2.2.1, hk.2.2.2.2⟩⟩⟩, hk.2.1⟩)) hg hat); have n2_ := Aside0.mk (Kd.V_afterv (ok := (fun k_ => ((P0_1_ k_ ∨ P1_ k_) ∨ w.heap.size ≤ k_) ∧ k_ ≠ gb281 ∧ k_ ≠ gb287 ∧ k_ ≠ gb289)) (by (with_reducible repeat (first | apply Kd.V_alloc | apply Kd.V_drewN | apply Kd.V_drew)); exact Kd.V_mono HO_282001.out (fun _ hk => ⟨⟨hk.1, ⟨hk.2.2.1, ⟨hk.2.2.2.1, hk.2.2.2.2⟩⟩⟩, hk.2.1⟩)) hg hat); have n3_ := Aside0.mk (blk_grown (g := gb281) (o := .cells #[.int .i64 a0_0, .slice (some ad288) l0_1.length c0_1] 24 (0, 0)) (by (with_reducible repeat (first | refine blk_drewN ?_ _ | refine blk_drew ?_ | refine blk_alloc ?_ _)); exact BK281.out) hg (Kd.N_ne HO_288001.out BK281.out (by decide))); have n4_ := Aside0.mk (blk_grown (g := gb287) (o := .cells #[.int .i64 a0_0, u288001] 24 (0, 0)) (by (with_reducible repeat (first | refine blk_drewN ?_ _ | refine blk_drew ?_ | refine blk_alloc ?_ _)); exact BK287.out) hg (Kd.N_ne HO_288001.out BK287.out (by decide))); have n5_ := Aside0.mk (Kd.V_afterv (ok := (fun k_ => ((P0_1_ k_ ∨ P1_ k_) ∨ w.heap.size ≤ k_) ∧ k_ ≠ gb281 ∧ k_ ≠ gb287 ∧ k_ ≠ gb289)) (by (with_reducible repeat (first | apply Kd.V_alloc | apply Kd.V_drewN | apply Kd.V_drew)); exact Kd.V_mono HL288_0.out (fun _ hk => ⟨⟨hk.1, ⟨hk.2.2.1, ⟨hk.2.2.2.1, hk.2.2.2.2⟩⟩⟩, hk.2.1⟩)) hg hat); have n6_ := Aside0.mk (Kd.V_afterv (ok := (fun k_ => ((P0_1_ k_ ∨ P1_ k_) ∨ w.heap.size ≤ k_) ∧ k_ ≠ gb281 ∧ k_ ≠ gb287 ∧ k_ ≠ gb289)) (by (with_reducible repeat (first | apply Kd.V_alloc | apply Kd.V_drewN | apply Kd.V_drew)); exact Kd.V_mono HL288_1.out (fun _ hk => ⟨⟨hk.1, ⟨hk.2.2.1, ⟨hk.2.2.2.1, hk.2.2.2.2⟩⟩⟩, hk.2.1⟩)) hg hat); have n7_ := Aside0.mk (blk_grown (g := gb289) (o := .cells #[.slice A288_0 ((rd_T37 l0_1 x40_2).f0).length c288_0, .slice A288_1 ((rd_T37 l0_1 x40_2).f1).length c288_1, .int .i64 ((rd_T37 l0_1 x40_2).f2)] 37 (0, 0)) (by (with_reducible repeat (first | refine blk_drewN ?_ _ | refine blk_drew ?_ | refine blk_alloc ?_ _)); exact BK289.out) hg (Kd.N_away HO_288001.out (fun _ hk => hk.2.2.2))); have n8_ := Aside0.mk (hb); have n9_ := Aside0.mk (ho); clear HO_1; clear HO_38; clear HO_282001; clear BK281; clear BK287; clear HL288_0; clear HL288_1; clear BK289; clear HB; clear HO_288001; have HO_1 := n0_; have HO_38 := n1_; have HO_282001 := n2_; have BK281 := n3_; have BK287 := n4_; have HL288_0 := n5_; have HL288_1 := n6_; have BK289 := n7_; have HB := n8_; have HO292 := n9_; clear n0_ n1_ n2_ n3_ n4_ n5_ n6_ n7_ n8_ n9_; clear ho hb hg hat; obtain ⟨Ao47, co47, eo47⟩ := Kd.N_slice HO292.out; subst eo47; have hcz48_0 : w46.cell? ⟨gb287, 0, none⟩ = some (.int .i64 a0_0) := (blk_cell BK287.out 0).trans rfl; have hcz48_1 : w46.cell? ⟨gb287, 1, none⟩ = some (u288001) := (blk_cell BK287.out 1).trans rfl; have hfz48_0 := blk_frozen BK287.out 0; have hfz48_1 := blk_frozen BK287.out 1))
                    go_roundg k2
                    case measure => have := HJ2.out; have := HK2.out; omega
                    case rel => exact ⟨(wrap64 (x40_2 + 1)), (y290), (.slice Ao47 y290.length co47), (by first | rfl | (simp; done) | (simp [*]; done)), H', ⟨by have := HJ2.out; have := HK2.out; omega⟩, ⟨by (with_reducible repeat (first | apply Kd.V_alloc | apply Kd.V_drewN | apply Kd.V_drew)); exact Kd.V_mono (Kd.V_far (p := ⟨gb287, 1, none⟩) (Kd.V_mono HO_1.out (fun k_ hk => (⟨hk, hk.1.2.2.1⟩ : _ ∧ k_ ≠ gb287))) (fun _ hk => hk.2) (.slice Ao47 y290.length co47)) (fun _ hk => ⟨hk.1.1.1, ⟨hk.1.2, ⟨hk.1.1.2.1, hk.1.1.2.2.1⟩⟩⟩)⟩, ⟨by (with_reducible repeat (first | apply Kd.V_alloc | apply Kd.V_drewN | apply Kd.V_drew)); exact Kd.V_mono (Kd.V_far (p := ⟨gb287, 1, none⟩) (Kd.V_mono HO_38.out (fun k_ hk => (⟨hk, hk.1.2.2.1⟩ : _ ∧ k_ ≠ gb287))) (fun _ hk => hk.2) (.slice Ao47 y290.length co47)) (fun _ hk => ⟨hk.1.1.1, ⟨hk.1.2, ⟨hk.1.1.2.1, hk.1.1.2.2.1⟩⟩⟩)⟩, ⟨by (with_reducible repeat (first | apply Kd.V_alloc | apply Kd.V_drewN | apply Kd.V_drew)); exact Kd.V_mono (Kd.V_far (p := ⟨gb287, 1, none⟩) (Kd.V_mono HO_282001.out (fun k_ hk => (⟨hk, hk.1.2.2.1⟩ : _ ∧ k_ ≠ gb287))) (fun _ hk => hk.2) (.slice Ao47 y290.length co47)) (fun _ hk => ⟨hk.1.1.1, ⟨hk.1.2, ⟨hk.1.1.2.1, hk.1.1.2.2.1⟩⟩⟩)⟩, ⟨by (with_reducible repeat (first | apply Kd.N_alloc | apply Kd.N_drewN | apply Kd.N_drew)); exact Kd.N_mono (Kd.N_far (p := ⟨gb287, 1, none⟩) (Kd.N_mono HO292.out (fun k_ hk => (⟨hk, hk.2.2.1⟩ : _ ∧ k_ ≠ gb287))) (fun _ hk => hk.2) (.slice Ao47 y290.length co47)) (fun _ hk => ⟨hk.1.1, ⟨hk.1.2.1, hk.1.2.2.1⟩⟩)⟩, ⟨by (with_reducible repeat (first | refine blk_drewN ?_ _ | refine blk_drew ?_ | refine blk_alloc ?_ _)); refine blk_far ?_ NB281_287.out _; (with_reducible repeat (first | refine blk_drewN ?_ _ | refine blk_drew ?_ | refine blk_alloc ?_ _)); exact BK281.out⟩, ⟨by (with_reducible repeat (first | refine blk_drewN ?_ _ | refine blk_drew ?_ | refine blk_alloc ?_ _)); refine blk_put (cs := #[.int .i64 a0_0, u288001]) ?_ 1 _ rfl; (with_reducible repeat (first | refine blk_drewN ?_ _ | refine blk_drew ?_ | refine blk_alloc ?_ _)); exact BK287.out⟩, ⟨by repeat (first | (with_reducible first | exact HB.out | apply below_alloc | apply pw_below_drewN | apply below_drew1 | refine below_set ?_ GE281.out | refine below_set ?_ GE287.out | refine below_set ?_ GE289.out) | exact HB.out)⟩⟩
                  · rw [if_neg c37] at H
                    exact absurd H (by simp)
                · rw [if_neg c36] at H
                  exact absurd H (by simp)
              · rw [if_neg c35] at H
                exact absurd H (by simp)
            · rw [if_neg c34] at H
              have c34b0 : decide (x40_2 < (l0_1.length : Int)) = false := decide_eq_false c34
              clear c34
              replace H := Option.bind_eq_some_iff.mp H
              obtain ⟨⟨t293, t296⟩, A490, H⟩ := H
              replace H : (if t296 = 0 then (switchboardlaw15_ModelRoom.j2 k2 l1 t293 ((t293.length : Int) != (l1.length : Int)) a0_0 x288001_2) else (switchboardlaw15_ModelRoom.j2 k2 l1 t293 true a0_0 x288001_2)) = some true := H
              have A49 := Aside0.mk A490
              clear A490
              have HC50 := Aside0.mk H
              clear H
              have hnb51 := NB287_281.out
              have hnc51 := NB281_287.out
              have hcz52_0 : wr.cell? ⟨gb287, 0, none⟩ = some (.int .i64 a0_0) := (blk_cell BK287.out 0).trans rfl
              have hcz52_1 : wr.cell? ⟨gb287, 1, none⟩ = some (u288001) := (blk_cell BK287.out 1).trans rfl
              have hfz52_0 := blk_frozen BK287.out 0
              have hfz52_1 := blk_frozen BK287.out 1
              obtain ⟨Ao53, co53, eo53⟩ := Kd.N_slice HO_288001.out
              subst eo53
              go_upto_region 10 with (first | ((with_reducible refine gate_callee (f := 12) rfl ?_); refine goesL_ (some 58) rfl rfl Try.func12 (by kernel_rfl) rfl #[.agg #[.int .i64 a0_0, .slice Ao53 x288001_2.length co53], .slice A1 l1.length c1] rfl (by (try simp only [List.map_toArray, List.map_cons, List.map_nil]); first | done | rfl | (simp only [List.length_drop, List.length_take]; rfl)) ?_; (with_reducible refine (model_Forward.calls k2 a0_0 _ _ x288001_2 (fun k_ => (((P0_1_ k_ ∨ P1_ k_) ∨ w.heap.size ≤ k_) ∧ (some k_ ≠ (.slice Ao53 x288001_2.length co53 : Value).ownBlock ∧ (k_ ≠ gb281 ∧ k_ ≠ gb287)))) _ _ l1 t293 t296 _ ?side1 ?side2 ?side3 A49.out).mono ?_); (case side1 => repeat (first | exact (Kd.N_reads' HO_288001.out).2.2 | (with_reducible refine Kd.C_alloc ?_ _) | (with_reducible refine Kd.C_drewN ?_ _) | (with_reducible refine Kd.C_drew ?_))); (case side2 => exact (Kd.N_reads' HO_288001.out).2.1); (case side3 => exact HO_1.out); rintro e w54 ⟨v294, rfl, ho0, hb⟩; refine ⟨_, rfl, ?_⟩; have n0_ := Aside0.mk (Kd.V_below (by (with_reducible repeat (first | apply Kd.V_alloc | apply Kd.V_drewN | apply Kd.V_drew)); exact HO_1.out) hb); have n1_ := Aside0.mk (Kd.V_below (by (with_reducible repeat (first | apply Kd.V_alloc | apply Kd.V_drewN | apply Kd.V_drew)); exact HO_38.out) hb); have n2_ := Aside0.mk (Kd.V_below (by (with_reducible repeat (first | apply Kd.V_alloc | apply Kd.V_drewN | apply Kd.V_drew)); exact HO_282001.out) hb); have n3_ := Aside0.mk (Kd.N_below (by (with_reducible repeat (first | apply Kd.N_alloc | apply Kd.N_drewN | apply Kd.N_drew)); exact HO_288001.out) hb); have n4_ := Aside0.mk (Kd.V_lower (Kd.V_mono (ok' := fun k_ => ((P0_1_ k_ ∨ P1_ k_) ∨ w.heap.size ≤ k_) ∧ some k_ ≠ (.slice Ao53 x288001_2.length co53 : Value).ownBlock ∧ k_ ≠ gb281 ∧ k_ ≠ gb287) ho0 (fun k_ hk_ => ⟨Or.elim hk_ (fun hs_ => hs_.1) (fun hn_ => (.inr (Nat.le_trans (below_size (by repeat (first | (with_reducible first | exact HB.out | apply below_alloc | apply pw_below_drewN | apply below_drew1 | refine below_set ?_ GE281.out | refine below_set ?_ GE287.out) | exact HB.out))) hn_))), Or.elim hk_ (fun hs_ => hs_.2.1) (fun hn_ => (Kd.fresh' (Kd.N_lt (by (with_reducible repeat (first | apply Kd.N_alloc | apply Kd.N_drewN | apply Kd.N_drew)); exact HO_288001.out)) k_ hn_)), Or.elim hk_ (fun hs_ => hs_.2.2.1) (fun hn_ => (Kd.freshB (g := gb281) (o := .cells #[.int .i64 a0_0, .slice A0_1 l0_1.length c0_1] 24 (0, 0)) (by (with_reducible repeat (first | refine blk_drewN ?_ _ | refine blk_drew ?_ | refine blk_alloc ?_ _)); exact BK281.out) k_ hn_)), Or.elim hk_ (fun hs_ => hs_.2.2.2) (fun hn_ => (Kd.freshB (g := gb287) (o := .cells #[.int .i64 a0_0, .slice Ao53 x288001_2.length co53] 24 (0, 0)) (by (with_reducible repeat (first | refine blk_drewN ?_ _ | refine blk_drew ?_ | refine blk_alloc ?_ _)); exact BK287.out) k_ hn_))⟩)) (below_size (by repeat (first | (with_reducible first | exact HB.out | apply below_alloc | apply pw_below_drewN | apply below_drew1 | refine below_set ?_ GE281.out | refine below_set ?_ GE287.out) | exact HB.out)))); have n5_ := Aside0.mk (blk_below (g := gb281) (o := .cells #[.int .i64 a0_0, .slice A0_1 l0_1.length c0_1] 24 (0, 0)) (by (with_reducible repeat (first | refine blk_drewN ?_ _ | refine blk_drew ?_ | refine blk_alloc ?_ _)); exact BK281.out) hb); have n6_ := Aside0.mk (blk_below (g := gb287) (o := .cells #[.int .i64 a0_0, .slice Ao53 x288001_2.length co53] 24 (0, 0)) (by (with_reducible repeat (first | refine blk_drewN ?_ _ | refine blk_drew ?_ | refine blk_alloc ?_ _)); exact BK287.out) hb); have n7_ := Aside0.mk (below_step (by repeat (first | (with_reducible first | exact HB.out | apply below_alloc | apply pw_below_drewN | apply below_drew1 | refine below_set ?_ GE281.out | refine below_set ?_ GE287.out) | exact HB.out)) hb); clear HO_1; clear HO_38; clear HO_282001; clear HO_288001; clear BK281; clear BK287; clear HB; have HO_1 := n0_; have HO_38 := n1_; have HO_282001 := n2_; have HO_288001 := n3_; have HO295 := n4_; have BK281 := n5_; have BK287 := n6_; have HB := n7_; clear n0_ n1_ n2_ n3_ n4_ n5_ n6_ n7_; (try clear hb); (try clear hb2); (try clear hk); (try clear hi); (try clear ho0)))
              (try simp only [Act.put, List.setIfInBounds_toArray, List.set_cons_zero, List.set_cons_succ])
              go_cut [69] (fun v69 wc => ∃ (kq : Nat) (x69_49 : Bool), v69 = .bool x69_49 ∧ Aside0 (switchboardlaw15_ModelRoom.j2 kq l1 t293 x69_49 a0_0 x288001_2 = some true) ∧ Aside0 (kq ≤ k2) ∧ Aside0 (Kd.V (Kd.slice 3 (Kd.int .i64)) 47 wc w.heap.size (fun k_ => ((P0_1_ k_ ∨ P1_ k_) ∨ w.heap.size ≤ k_) ∧ some k_ ≠ ((.slice Ao53 x288001_2.length co53) : Value).ownBlock ∧ k_ ≠ gb281 ∧ k_ ≠ gb287) (.slice A1 l1.length c1) l1) ∧ Aside0 (Kd.V (Kd.slice 3 (Kd.int .i64)) 47 wc w.heap.size (fun k_ => ((P0_1_ k_ ∨ P1_ k_) ∨ w.heap.size ≤ k_) ∧ some k_ ≠ ((.slice Ao53 x288001_2.length co53) : Value).ownBlock ∧ k_ ≠ gb281 ∧ k_ ≠ gb287) v294 t293) ∧ Aside0 (Kd.V k37 37 wc w.heap.size (fun k_ => ((P0_1_ k_ ∨ P1_ k_) ∨ w.heap.size ≤ k_) ∧ some k_ ≠ ((.slice Ao53 x288001_2.length co53) : Value).ownBlock ∧ k_ ≠ gb281 ∧ k_ ≠ gb287) (.slice A0_1 l0_1.length c0_1) l0_1) ∧ Aside0 (Kd.N k37 37 wc w.heap.size (fun k_ => ((P0_1_ k_ ∨ P1_ k_) ∨ w.heap.size ≤ k_) ∧ k_ ≠ gb281 ∧ k_ ≠ gb287) (.slice Ao53 x288001_2.length co53) x288001_2) ∧ Aside0 (wc.heap[gb281]? = some (.cells #[.int .i64 a0_0, (.slice A0_1 l0_1.length c0_1)] 24 (0, 0))) ∧ Aside0 (wc.heap[gb287]? = some (.cells #[.int .i64 a0_0, (.slice Ao53 x288001_2.length co53)] 24 (0, 0))) ∧ Aside0 (Below w.heap.size w wc))
              case first =>
                have H := HC50.out
                clear HC50
                by_cases c55 : t296 = 0
                · rw [if_pos c55] at H
                  have c55b0 : (t296 == 0) = true := beq_iff_eq.mpr c55
                  have c55b1 : (t296 != 0) = false := bne_eq_false_iff_eq.mpr c55
                  clear c55
                  (first | rw [c55b0] | (simp only [i64_w, i32_w]; rw [c55b0]) | skip)
                  have H' := Aside0.mk H
                  clear H
                  obtain ⟨Ao56, co56, eo56⟩ := Kd.V_slice HO295.out
                  subst eo56
                  go_wp2
                  go_meet
                  case rel => exact ⟨_, (((t293.length : Int) != (l1.length : Int))), (by first | rfl | (simp; done) | (simp [*]; done)), H', ⟨by have := HJ2.out; have := HK2.out; first | omega | exact Nat.le_refl _⟩, ⟨by (with_reducible repeat (first | apply Kd.V_alloc | apply Kd.V_drewN | apply Kd.V_drew)); exact HO_1.out⟩, ⟨by (with_reducible repeat (first | apply Kd.V_alloc | apply Kd.V_drewN | apply Kd.V_drew)); exact HO295.out⟩, ⟨by (with_reducible repeat (first | apply Kd.V_alloc | apply Kd.V_drewN | apply Kd.V_drew)); exact HO_282001.out⟩, ⟨by (with_reducible repeat (first | apply Kd.N_alloc | apply Kd.N_drewN | apply Kd.N_drew)); exact HO_288001.out⟩, ⟨by (with_reducible repeat (first | refine blk_drewN ?_ _ | refine blk_drew ?_ | refine blk_alloc ?_ _)); exact BK281.out⟩, ⟨by (with_reducible repeat (first | refine blk_drewN ?_ _ | refine blk_drew ?_ | refine blk_alloc ?_ _)); exact BK287.out⟩, ⟨by repeat (first | (with_reducible first | exact HB.out | apply below_alloc | apply pw_below_drewN | apply below_drew1 | refine below_set ?_ GE281.out | refine below_set ?_ GE287.out) | exact HB.out)⟩⟩
                · rw [if_neg c55] at H
                  have c55b0 : (t296 == 0) = false := beq_eq_false_iff_ne.mpr c55
                  have c55b1 : (t296 != 0) = true := bne_iff_ne.mpr c55
                  (first | rw [c55b0] | (simp only [i64_w, i32_w]; rw [c55b0]) | skip)
                  have H' := Aside0.mk H
                  clear H
                  go_wp2
                  go_meet
                  case rel => exact ⟨_, (true), (by first | rfl | (simp; done) | (simp [*]; done)), H', ⟨by have := HJ2.out; have := HK2.out; first | omega | exact Nat.le_refl _⟩, ⟨by (with_reducible repeat (first | apply Kd.V_alloc | apply Kd.V_drewN | apply Kd.V_drew)); exact HO_1.out⟩, ⟨by (with_reducible repeat (first | apply Kd.V_alloc | apply Kd.V_drewN | apply Kd.V_drew)); exact HO295.out⟩, ⟨by (with_reducible repeat (first | apply Kd.V_alloc | apply Kd.V_drewN | apply Kd.V_drew)); exact HO_282001.out⟩, ⟨by (with_reducible repeat (first | apply Kd.N_alloc | apply Kd.N_drewN | apply Kd.N_drew)); exact HO_288001.out⟩, ⟨by (with_reducible repeat (first | refine blk_drewN ?_ _ | refine blk_drew ?_ | refine blk_alloc ?_ _)); exact BK281.out⟩, ⟨by (with_reducible repeat (first | refine blk_drewN ?_ _ | refine blk_drew ?_ | refine blk_alloc ?_ _)); exact BK287.out⟩, ⟨by repeat (first | (with_reducible first | exact HB.out | apply below_alloc | apply pw_below_drewN | apply below_drew1 | refine below_set ?_ GE281.out | refine below_set ?_ GE287.out) | exact HB.out)⟩⟩
              case rest =>
                clear HC50
                try clear c1
                try clear c2
                try clear p2
                try clear q2
                try clear hx2
                try clear c3
                try clear c4
                try clear c5
                try clear c6
                try clear p6
                try clear c8
                try clear c9
                try clear c10
                try clear c11
                try clear c12
                try clear c26
                try clear c28
                try clear p28
                try clear q28
                try clear hx28
                try clear c31
                try clear c34
                try clear c34b0
                try clear c35
                try clear c35b0
                try clear c36
                try clear c36b0
                try clear c37
                try clear c39
                try clear c40
                try clear c43
                try clear c51
                try clear c55
                try clear c55b0
                try clear c55b1
                try clear hcz12_0
                try clear hcz12_1
                try clear hcz14_0
                try clear hcz14_1
                try clear hcz16_0
                try clear hcz16_1
                try clear hcz18_0
                try clear hcz18_1
                try clear hcz20_0
                try clear hcz20_1
                try clear hcz22_0
                try clear hcz22_1
                try clear hcz24_0
                try clear hcz24_1
                try clear hcz29_0
                try clear hcz29_1
                try clear hcz32_0
                try clear hcz32_1
                try clear hcz33_0
                try clear hcz33_1
                try clear hcz41_0
                try clear hcz41_1
                try clear hcz41_2
                try clear hcz44_0
                try clear hcz44_1
                try clear hcz45_0
                try clear hcz45_1
                try clear hcz45_2
                try clear hcz48_0
                try clear hcz48_1
                try clear hcz52_0
                try clear hcz52_1
                try clear hfz12_0
                try clear hfz12_1
                try clear hfz14_0
                try clear hfz14_1
                try clear hfz16_0
                try clear hfz16_1
                try clear hfz18_0
                try clear hfz18_1
                try clear hfz20_0
                try clear hfz20_1
                try clear hfz22_0
                try clear hfz22_1
                try clear hfz24_0
                try clear hfz24_1
                try clear hfz29_0
                try clear hfz29_1
                try clear hfz32_0
                try clear hfz32_1
                try clear hfz33_0
                try clear hfz33_1
                try clear hfz41_0
                try clear hfz41_1
                try clear hfz41_2
                try clear hfz44_0
                try clear hfz44_1
                try clear hfz45_0
                try clear hfz45_1
                try clear hfz45_2
                try clear hfz48_0
                try clear hfz48_1
                try clear hfz52_0
                try clear hfz52_1
                try clear hx288_0
                try clear hx288_1
                try clear hx288_2
                try clear p2
                try clear p288
                try clear q288
                obtain ⟨kq, x69_49, rfl, HA, HJ49, HO_1, HO_8, HO_282001, HO_288001, BK281, BK287, HB⟩ := hcut
                cases kq with
                | zero => exact absurd HA.out (by simp [switchboardlaw15_ModelRoom.j2])
                | succ kj49 =>
                  have H := HA.out
                  clear HA
                  simp only [switchboardlaw15_ModelRoom.j2] at H
                  by_cases c57 : x69_49 = true
                  · subst c57
                    have H1 : (some false) = some true := by rw [if_pos rfl] at H; exact H
                    clear H
                    have H := H1
                    clear H1
                    exact absurd H (by simp)
                  · replace c57 := Bool.eq_false_iff.mpr c57
                    subst c57
                    have H1 : (switchboardlaw15_ModelRoom.l1 kj49 t293 l1 (l1.length : Int) 0 a0_0 x288001_2) = some true := by rw [if_neg (show ¬ (false = true) by decide)] at H; exact H
                    clear H
                    have H := H1
                    clear H1
                    have H' := Aside0.mk H
                    clear H
                    go_wp2
                    go_loopg [72] kj49 (fun kq v72 w' => ∃ (x72_4 : Int), v72 = .int .i64 x72_4 ∧ Aside0 (switchboardlaw15_ModelRoom.l1 kq t293 l1 (l1.length : Int) x72_4 a0_0 x288001_2 = some true) ∧ Aside0 (kq ≤ kj49) ∧ Aside0 (Kd.V (Kd.slice 3 (Kd.int .i64)) 47 w' w.heap.size (fun k_ => ((P0_1_ k_ ∨ P1_ k_) ∨ w.heap.size ≤ k_) ∧ some k_ ≠ ((.slice Ao53 x288001_2.length co53) : Value).ownBlock ∧ k_ ≠ gb281 ∧ k_ ≠ gb287) v294 t293) ∧ Aside0 (Kd.V (Kd.slice 3 (Kd.int .i64)) 47 w' w.heap.size (fun k_ => ((P0_1_ k_ ∨ P1_ k_) ∨ w.heap.size ≤ k_) ∧ some k_ ≠ ((.slice Ao53 x288001_2.length co53) : Value).ownBlock ∧ k_ ≠ gb281 ∧ k_ ≠ gb287) (.slice A1 l1.length c1) l1) ∧ Aside0 (Kd.V k37 37 w' w.heap.size (fun k_ => ((P0_1_ k_ ∨ P1_ k_) ∨ w.heap.size ≤ k_) ∧ some k_ ≠ ((.slice Ao53 x288001_2.length co53) : Value).ownBlock ∧ k_ ≠ gb281 ∧ k_ ≠ gb287) (.slice A0_1 l0_1.length c0_1) l0_1) ∧ Aside0 (Kd.N k37 37 w' w.heap.size (fun k_ => ((P0_1_ k_ ∨ P1_ k_) ∨ w.heap.size ≤ k_) ∧ k_ ≠ gb281 ∧ k_ ≠ gb287) (.slice Ao53 x288001_2.length co53) x288001_2) ∧ Aside0 (w'.heap[gb281]? = some (.cells #[.int .i64 a0_0, (.slice A0_1 l0_1.length c0_1)] 24 (0, 0))) ∧ Aside0 (w'.heap[gb287]? = some (.cells #[.int .i64 a0_0, (.slice Ao53 x288001_2.length co53)] 24 (0, 0))) ∧ Aside0 (Below w.heap.size w w'))
                    case atStart => exact ⟨(0), (by first | rfl | (simp; done) | (simp [*]; done)), H', ⟨Nat.le_refl _⟩, ⟨by (with_reducible repeat (first | apply Kd.V_alloc | apply Kd.V_drewN | apply Kd.V_drew)); exact HO_8.out⟩, ⟨by (with_reducible repeat (first | apply Kd.V_alloc | apply Kd.V_drewN | apply Kd.V_drew)); exact HO_1.out⟩, ⟨by (with_reducible repeat (first | apply Kd.V_alloc | apply Kd.V_drewN | apply Kd.V_drew)); exact HO_282001.out⟩, ⟨by (with_reducible repeat (first | apply Kd.N_alloc | apply Kd.N_drewN | apply Kd.N_drew)); exact HO_288001.out⟩, ⟨by (with_reducible repeat (first | refine blk_drewN ?_ _ | refine blk_drew ?_ | refine blk_alloc ?_ _)); exact BK281.out⟩, ⟨by (with_reducible repeat (first | refine blk_drewN ?_ _ | refine blk_drew ?_ | refine blk_alloc ?_ _)); exact BK287.out⟩, ⟨by repeat (first | (with_reducible first | exact HB.out | apply below_alloc | apply pw_below_drewN | apply below_drew1 | refine below_set ?_ GE281.out | refine below_set ?_ GE287.out) | exact HB.out)⟩⟩
                    case round =>
                      clear H'
                      try clear c1
                      try clear c2
                      try clear p2
                      try clear q2
                      try clear hx2
                      try clear c3
                      try clear c4
                      try clear c5
                      try clear c6
                      try clear p6
                      try clear c8
                      try clear c9
                      try clear c10
                      try clear c11
                      try clear c12
                      try clear c26
                      try clear c28
                      try clear p28
                      try clear q28
                      try clear hx28
                      try clear c31
                      try clear c34
                      try clear c34b0
                      try clear c35
                      try clear c35b0
                      try clear c36
                      try clear c36b0
                      try clear c37
                      try clear c39
                      try clear c40
                      try clear c43
                      try clear c51
                      try clear c55
                      try clear c55b0
                      try clear c55b1
                      try clear c57
                      try clear hcz12_0
                      try clear hcz12_1
                      try clear hcz14_0
                      try clear hcz14_1
                      try clear hcz16_0
                      try clear hcz16_1
                      try clear hcz18_0
                      try clear hcz18_1
                      try clear hcz20_0
                      try clear hcz20_1
                      try clear hcz22_0
                      try clear hcz22_1
                      try clear hcz24_0
                      try clear hcz24_1
                      try clear hcz29_0
                      try clear hcz29_1
                      try clear hcz32_0
                      try clear hcz32_1
                      try clear hcz33_0
                      try clear hcz33_1
                      try clear hcz41_0
                      try clear hcz41_1
                      try clear hcz41_2
                      try clear hcz44_0
                      try clear hcz44_1
                      try clear hcz45_0
                      try clear hcz45_1
                      try clear hcz45_2
                      try clear hcz48_0
                      try clear hcz48_1
                      try clear hcz52_0
                      try clear hcz52_1
                      try clear hfz12_0
                      try clear hfz12_1
                      try clear hfz14_0
                      try clear hfz14_1
                      try clear hfz16_0
                      try clear hfz16_1
                      try clear hfz18_0
                      try clear hfz18_1
                      try clear hfz20_0
                      try clear hfz20_1
                      try clear hfz22_0
                      try clear hfz22_1
                      try clear hfz24_0
                      try clear hfz24_1
                      try clear hfz29_0
                      try clear hfz29_1
                      try clear hfz32_0
                      try clear hfz32_1
                      try clear hfz33_0
                      try clear hfz33_1
                      try clear hfz41_0
                      try clear hfz41_1
                      try clear hfz41_2
                      try clear hfz44_0
                      try clear hfz44_1
                      try clear hfz45_0
                      try clear hfz45_1
                      try clear hfz45_2
                      try clear hfz48_0
                      try clear hfz48_1
                      try clear hfz52_0
                      try clear hfz52_1
                      try clear hx288_0
                      try clear hx288_1
                      try clear hx288_2
                      try clear p2
                      try clear p28
                      try clear p288
                      try clear p6
                      try clear q2
                      try clear q28
                      try clear q288
                      obtain ⟨x72_4, rfl, HA, HK4, HO_8, HO_70, HO_282001, HO_288001, BK281, BK287, HB⟩ := hrel
                      cases gk with
                      | zero => exact absurd HA.out (by simp [switchboardlaw15_ModelRoom.l1])
                      | succ k4 =>
                        have H := HA.out
                        clear HA
                        simp only [switchboardlaw15_ModelRoom.l1] at H
                        by_cases c58 : x72_4 < (l1.length : Int)
                        · rw [if_pos c58] at H
                          have c58b0 : decide (x72_4 < (l1.length : Int)) = true := decide_eq_true c58
                          clear c58
                          by_cases c59 : 0 ≤ x72_4
                          · rw [if_pos c59] at H
                            have c59b0 : decide (0 ≤ x72_4) = true := decide_eq_true c59
                            clear c59
                            by_cases c60 : x72_4 < (l1.length : Int)
                            · rw [if_pos c60] at H
                              have c60b0 : decide (x72_4 < (l1.length : Int)) = true := decide_eq_true c60
                              clear c60
                              obtain ⟨y299, hy299⟩ : ∃ y_ : List (List Int), y_ = (([rd_L1 l1 x72_4] : List (List Int))) := ⟨_, rfl⟩
                              replace H : ((model_Forward.f k4 a0_0 x288001_2 y299).bind fun bt302 => (if bt302.2 = 0 then (if (bt302.1.length : Int) = 1 then (if x72_4 ≤ (wrap64 (x72_4 + 1)) then (if (wrap64 (x72_4 + 1)) ≤ (t293.length : Int) then ((switchboardref15_Same.f k4 bt302.1 ((t293.take ((wrap64 (x72_4 + 1)) : Int).toNat).drop (x72_4 : Int).toNat)).bind fun t311 => (if t311 = true then (switchboardlaw15_ModelRoom.l1 k4 t293 l1 (l1.length : Int) (wrap64 (x72_4 + 1)) a0_0 x288001_2) else (some false))) else (none)) else (none)) else (some false)) else (some false))) = some true := by first | (rw [hy299]; with_reducible exact H) | (have H2_ := (Option.bind_some _ _).symm.trans H; rw [hy299]; with_reducible exact H2_) | (have H2_ := (Option.bind_some _ _).symm.trans H; with_reducible exact H2_) | with_reducible exact H | (rw [hy299]; exact H) | exact H
                              have Ny299 := Aside0.mk hy299
                              clear hy299
                              replace H := Option.bind_eq_some_iff.mp H
                              obtain ⟨⟨t302, t305⟩, A610, H⟩ := H
                              replace H : (if t305 = 0 then (if (t302.length : Int) = 1 then (if x72_4 ≤ (wrap64 (x72_4 + 1)) then (if (wrap64 (x72_4 + 1)) ≤ (t293.length : Int) then ((switchboardref15_Same.f k4 t302 ((t293.take ((wrap64 (x72_4 + 1)) : Int).toNat).drop (x72_4 : Int).toNat)).bind fun t311 => (if t311 = true then (switchboardlaw15_ModelRoom.l1 k4 t293 l1 (l1.length : Int) (wrap64 (x72_4 + 1)) a0_0 x288001_2) else (some false))) else (none)) else (none)) else (some false)) else (some false)) = some true := H
                              have A61 := Aside0.mk A610
                              clear A610
                              by_cases c62 : t305 = 0
                              · rw [if_pos c62] at H
                                have c62b0 : (t305 == 0) = true := beq_iff_eq.mpr c62
                                have c62b1 : (t305 != 0) = false := bne_eq_false_iff_eq.mpr c62
                                clear c62
                                by_cases c63 : (t302.length : Int) = 1
                                · rw [if_pos c63] at H
                                  have c63b0 : ((t302.length : Int) == 1) = true := beq_iff_eq.mpr c63
                                  have c63b1 : ((t302.length : Int) != 1) = false := bne_eq_false_iff_eq.mpr c63
                                  clear c63
                                  have c64b0 := eq_true (of_decide_eq_true (by first | (with_reducible assumption) | assumption) : 0 ≤ x72_4)
                                  by_cases c65 : x72_4 ≤ (wrap64 (x72_4 + 1))
                                  · rw [if_pos c65] at H
                                    have c65b0 := eq_true c65
                                    have c65b1 : decide (x72_4 ≤ (wrap64 (x72_4 + 1))) = true := decide_eq_true c65
                                    by_cases c66 : (wrap64 (x72_4 + 1)) ≤ (t293.length : Int)
                                    · rw [if_pos c66] at H
                                      have c66b0 := eq_true c66
                                      have c66b1 : decide ((wrap64 (x72_4 + 1)) ≤ (t293.length : Int)) = true := decide_eq_true c66
                                      obtain ⟨y306, hy306⟩ : ∃ y_ : List (List Int), y_ = ((t293.take ((wrap64 (x72_4 + 1)) : Int).toNat).drop (x72_4 : Int).toNat) := ⟨_, rfl⟩
                                      replace H : ((switchboardref15_Same.f k4 t302 y306).bind fun t311 => (if t311 = true then (switchboardlaw15_ModelRoom.l1 k4 t293 l1 (l1.length : Int) (wrap64 (x72_4 + 1)) a0_0 x288001_2) else (some false))) = some true := by first | (rw [hy306]; with_reducible exact H) | (have H2_ := (Option.bind_some _ _).symm.trans H; rw [hy306]; with_reducible exact H2_) | (have H2_ := (Option.bind_some _ _).symm.trans H; with_reducible exact H2_) | with_reducible exact H | (rw [hy306]; exact H) | exact H
                                      have Ny306 := Aside0.mk hy306
                                      clear hy306
                                      replace H := Option.bind_eq_some_iff.mp H
                                      obtain ⟨t311, A670, H⟩ := H
                                      replace H : (if t311 = true then (switchboardlaw15_ModelRoom.l1 k4 t293 l1 (l1.length : Int) (wrap64 (x72_4 + 1)) a0_0 x288001_2) else (some false)) = some true := H
                                      have A67 := Aside0.mk A670
                                      clear A670
                                      by_cases c68 : t311 = true
                                      · subst c68
                                        have H1 : (switchboardlaw15_ModelRoom.l1 k4 t293 l1 (l1.length : Int) (wrap64 (x72_4 + 1)) a0_0 x288001_2) = some true := by rw [if_pos rfl] at H; exact H
                                        clear H
                                        have H := H1
                                        clear H1
                                        have H' := Aside0.mk H
                                        clear H
                                        have p298 : 0 ≤ (x72_4 : Int) := of_decide_eq_true (by first | (with_reducible assumption) | assumption)
                                        have q298 : x72_4 < (l1.length : Int) := of_decide_eq_true (by first | (with_reducible assumption) | assumption)
                                        obtain ⟨ad298, A298_0, c298_0, e298, hx298_0, hl298_0, hi298_0⟩ := at_L1 (Kd.V_reads' HO_70.out).2.2 x72_4 p298 q298
                                        cases e298
                                        obtain ⟨ce298, hce298, hMe298, hcc298⟩ := Kd.V_get HO_70.out [] x72_4 p298 (by first | exact q298 | exact of_decide_eq_true (by first | (with_reducible assumption) | assumption) | (have e_ := (Kd.V_reads' HO_70.out).1; omega))
                                        obtain ⟨ua298_0, uc298_0, rfl, ul298_0, ge298_0⟩ := Kd.FK_slice_open hMe298
                                        have hv298_0 := hcc298 0 _ rfl
                                        rw [Nat.add_zero, show ((Kd.slice 3 (Kd.int .i64))).sz = 1 from rfl, Nat.mul_one] at hv298_0
                                        replace hv298_0 := Option.some.inj (hv298_0.symm.trans hx298_0)
                                        injection hv298_0 with hva_ hvn_ hvc_
                                        rw [hva_] at ge298_0
                                        rw [hvc_] at ul298_0
                                        have HL298_0 := Aside0.mk (show Kd.V (Kd.int .i64) 3 _ w.heap.size _ _ (rd_L1 l1 x72_4) from Kd.V_mk ul298_0 ge298_0)
                                        clear hva_ hvn_ hvc_ ge298_0 ul298_0
                                        clear hcc298 hce298
                                        have HR298_0 := Aside0.mk hi298_0
                                        have HC298_0 := Aside0.mk hl298_0
                                        clear hi298_0 hl298_0
                                        replace p298 := eq_true p298
                                        replace q298 := eq_true q298
                                        have hnb69 := NB287_281.out
                                        have hnc69 := NB281_287.out
                                        have hcz70_0 : wr.cell? ⟨gb287, 0, none⟩ = some (.int .i64 a0_0) := (blk_cell BK287.out 0).trans rfl
                                        have hcz70_1 : wr.cell? ⟨gb287, 1, none⟩ = some (.slice Ao53 x288001_2.length co53) := (blk_cell BK287.out 1).trans rfl
                                        have hfz70_0 := blk_frozen BK287.out 0
                                        have hfz70_1 := blk_frozen BK287.out 1
                                        go_wp2_with (first | ((with_reducible refine gate_dst (N := 80) rfl ?_); (try (refine gate_guard (by rfl) ?_; dsimp only)); refine Kd.N_lit (Kd.slice 3 (Kd.int .i64)) _ 47 ?hg (N' := 80) ?hd (xs := ([rd_L1 l1 x72_4] : List (List Int))) (inner := [.slice A298_0 (rd_L1 l1 x72_4).length c298_0]) (ok := (fun k_ => ((P0_1_ k_ ∨ P1_ k_) ∨ w.heap.size ≤ k_) ∧ some k_ ≠ (.slice Ao53 x288001_2.length co53 : Value).ownBlock ∧ k_ ≠ gb281 ∧ k_ ≠ gb287)) (okp := (fun k_ => ((P0_1_ k_ ∨ P1_ k_) ∨ w.heap.size ≤ k_) ∧ some k_ ≠ (.slice Ao53 x288001_2.length co53 : Value).ownBlock ∧ k_ ≠ gb281 ∧ k_ ≠ gb287)) ?hr ?hp (fun _ hk => hk) ((show ∀ k_, wr.heap.size ≤ k_ → (fun k_ => ((P0_1_ k_ ∨ P1_ k_) ∨ w.heap.size ≤ k_) ∧ some k_ ≠ (.slice Ao53 x288001_2.length co53 : Value).ownBlock ∧ k_ ≠ gb281 ∧ k_ ≠ gb287) k_ from fun k_ hk => ⟨(.inr (Nat.le_trans (below_size (by repeat (first | (with_reducible first | exact HB.out | apply below_alloc | apply pw_below_drewN | apply below_drew1 | refine below_set ?_ GE281.out | refine below_set ?_ GE287.out) | exact HB.out))) hk)), Kd.fresh' (Kd.N_lt (by (with_reducible repeat (first | apply Kd.N_alloc | apply Kd.N_drewN | apply Kd.N_drew)); exact HO_288001.out)) k_ hk, Kd.freshB (g := gb281) (o := .cells #[.int .i64 a0_0, .slice A0_1 l0_1.length c0_1] 24 (0, 0)) (by (with_reducible repeat (first | refine blk_drewN ?_ _ | refine blk_drew ?_ | refine blk_alloc ?_ _)); exact BK281.out) k_ hk, Kd.freshB (g := gb287) (o := .cells #[.int .i64 a0_0, .slice Ao53 x288001_2.length co53] 24 (0, 0)) (by (with_reducible repeat (first | refine blk_drewN ?_ _ | refine blk_drew ?_ | refine blk_alloc ?_ _)); exact BK287.out) k_ hk⟩) _ (Nat.le_refl _)) (Below.refl _ _) (Nat.le_refl _) (by simp) ?_; (case hd => rfl); (case hg => rfl); (case hr => first | (go_simp; done) | (go_simp; rfl)); (case hp => exact (Reps.one (show Kd.FK (Kd.slice 3 (Kd.int .i64)) _ _ (rd_L1 l1 x72_4) [.slice A298_0 (rd_L1 l1 x72_4).length c298_0] from (Kd.FK_slice_mk (Kd.V_reads' (Kd.V_mono (ok' := (fun k_ => ((P0_1_ k_ ∨ P1_ k_) ∨ w.heap.size ≤ k_) ∧ some k_ ≠ (.slice Ao53 x288001_2.length co53 : Value).ownBlock ∧ k_ ≠ gb281 ∧ k_ ≠ gb287)) (HL298_0.out) (fun k_ hk => ⟨hk.1, ⟨hk.2.1, ⟨hk.2.2.1, hk.2.2.2⟩⟩⟩))).2.1 (Kd.V_F (Kd.V_mono (ok' := (fun k_ => ((P0_1_ k_ ∨ P1_ k_) ∨ w.heap.size ≤ k_) ∧ some k_ ≠ (.slice Ao53 x288001_2.length co53 : Value).ownBlock ∧ k_ ≠ gb281 ∧ k_ ≠ gb287)) (HL298_0.out) (fun k_ hk => ⟨hk.1, ⟨hk.2.1, ⟨hk.2.2.1, hk.2.2.2⟩⟩⟩))))) (Reps.none _ _))); intro v300 w71 ho72 hb hg_ hnew_; clear hg_ hnew_; (first | rw [← Ny299.out] at ho72 | (simp only [Int.reduceToNat] at ho72; rw [← Ny299.out] at ho72)); have n0_ := Aside0.mk (Kd.V_elder' (by (with_reducible repeat (first | apply Kd.V_alloc | apply Kd.V_drewN | apply Kd.V_drew)); exact HO_8.out) (Kd.N_base ho72) hb); have n1_ := Aside0.mk (Kd.V_elder' (by (with_reducible repeat (first | apply Kd.V_alloc | apply Kd.V_drewN | apply Kd.V_drew)); exact HO_70.out) (Kd.N_base ho72) hb); have n2_ := Aside0.mk (Kd.V_elder' (by (with_reducible repeat (first | apply Kd.V_alloc | apply Kd.V_drewN | apply Kd.V_drew)); exact HO_282001.out) (Kd.N_base ho72) hb); have n3_ := Aside0.mk (Kd.N_elder' (by (with_reducible repeat (first | apply Kd.N_alloc | apply Kd.N_drewN | apply Kd.N_drew)); exact HO_288001.out) (Kd.N_base ho72) hb); have n4_ := Aside0.mk (Kd.V_elder' (by (with_reducible repeat (first | apply Kd.V_alloc | apply Kd.V_drewN | apply Kd.V_drew)); exact HL298_0.out) (Kd.N_base ho72) hb); have n5_ := Aside0.mk (Kd.N_lower ho72 (below_size (by repeat (first | (with_reducible first | exact HB.out | apply below_alloc | apply pw_below_drewN | apply below_drew1 | refine below_set ?_ GE281.out | refine below_set ?_ GE287.out) | exact HB.out)))); have n6_ := Aside0.mk (blk_below (g := gb281) (o := .cells #[.int .i64 a0_0, .slice A0_1 l0_1.length c0_1] 24 (0, 0)) (by (with_reducible repeat (first | refine blk_drewN ?_ _ | refine blk_drew ?_ | refine blk_alloc ?_ _)); exact BK281.out) hb); have n7_ := Aside0.mk (blk_below (g := gb287) (o := .cells #[.int .i64 a0_0, .slice Ao53 x288001_2.length co53] 24 (0, 0)) (by (with_reducible repeat (first | refine blk_drewN ?_ _ | refine blk_drew ?_ | refine blk_alloc ?_ _)); exact BK287.out) hb); have n8_ := Aside0.mk (Kd.C_below (by repeat (first | (with_reducible exact HR298_0.out) | (with_reducible refine Kd.C_alloc ?_ _) | (with_reducible refine Kd.C_drewN ?_ _) | (with_reducible refine Kd.C_drew ?_) | exact HR298_0.out)) hb); have n9_ := Aside0.mk (below_step (by repeat (first | (with_reducible first | exact HB.out | apply below_alloc | apply pw_below_drewN | apply below_drew1 | refine below_set ?_ GE281.out | refine below_set ?_ GE287.out) | exact HB.out)) hb); clear HO_8; clear HO_70; clear HO_282001; clear HO_288001; clear HL298_0; clear BK281; clear BK287; clear HR298_0; clear HB; have HO_8 := n0_; have HO_70 := n1_; have HO_282001 := n2_; have HO_288001 := n3_; have HL298_0 := n4_; have HO301 := n5_; have BK281 := n6_; have BK287 := n7_; have HR298_0 := n8_; have HB := n9_; clear n0_ n1_ n2_ n3_ n4_ n5_ n6_ n7_ n8_ n9_; clear hb ho72; obtain ⟨Ao73, co73, eo73⟩ := Kd.N_slice HO301.out; subst eo73) | ((with_reducible refine gate_callee (f := 12) rfl ?_); refine goesL_ (some 81) rfl rfl Try.func12 (by kernel_rfl) rfl #[.agg #[.int .i64 a0_0, .slice Ao53 x288001_2.length co53], .slice Ao73 y299.length co73] rfl (by (try simp only [List.map_toArray, List.map_cons, List.map_nil]); first | done | rfl | (simp only [List.length_drop, List.length_take]; rfl)) ?_; (with_reducible refine (model_Forward.calls k4 a0_0 _ _ x288001_2 (fun k_ => (((P0_1_ k_ ∨ P1_ k_) ∨ w.heap.size ≤ k_) ∧ (some k_ ≠ (.slice Ao53 x288001_2.length co53 : Value).ownBlock ∧ (k_ ≠ gb281 ∧ k_ ≠ gb287)))) _ _ y299 t302 t305 _ ?side1 ?side2 ?side3 A61.out).mono ?_); (case side1 => repeat (first | exact (Kd.N_reads' HO_288001.out).2.2 | (with_reducible refine Kd.C_alloc ?_ _) | (with_reducible refine Kd.C_drewN ?_ _) | (with_reducible refine Kd.C_drew ?_))); (case side2 => exact (Kd.N_reads' HO_288001.out).2.1); (case side3 => exact Kd.N_V (HO301.out)); rintro e w74 ⟨v303, rfl, ho0, hb⟩; refine ⟨_, rfl, ?_⟩; have n0_ := Aside0.mk (Kd.V_below (by (with_reducible repeat (first | apply Kd.V_alloc | apply Kd.V_drewN | apply Kd.V_drew)); exact HO_8.out) hb); have n1_ := Aside0.mk (Kd.V_below (by (with_reducible repeat (first | apply Kd.V_alloc | apply Kd.V_drewN | apply Kd.V_drew)); exact HO_70.out) hb); have n2_ := Aside0.mk (Kd.V_below (by (with_reducible repeat (first | apply Kd.V_alloc | apply Kd.V_drewN | apply Kd.V_drew)); exact HO_282001.out) hb); have n3_ := Aside0.mk (Kd.N_below (by (with_reducible repeat (first | apply Kd.N_alloc | apply Kd.N_drewN | apply Kd.N_drew)); exact HO_288001.out) hb); have n4_ := Aside0.mk (Kd.V_below (by (with_reducible repeat (first | apply Kd.V_alloc | apply Kd.V_drewN | apply Kd.V_drew)); exact HL298_0.out) hb); have n5_ := Aside0.mk (Kd.N_below (by (with_reducible repeat (first | apply Kd.N_alloc | apply Kd.N_drewN | apply Kd.N_drew)); exact HO301.out) hb); have n6_ := Aside0.mk (Kd.V_lower (Kd.V_mono (ok' := fun k_ => ((P0_1_ k_ ∨ P1_ k_) ∨ w.heap.size ≤ k_) ∧ some k_ ≠ (.slice Ao53 x288001_2.length co53 : Value).ownBlock ∧ k_ ≠ gb281 ∧ k_ ≠ gb287) ho0 (fun k_ hk_ => ⟨Or.elim hk_ (fun hs_ => hs_.1) (fun hn_ => (.inr (Nat.le_trans (below_size (by repeat (first | (with_reducible first | exact HB.out | apply below_alloc | apply pw_below_drewN | apply below_drew1 | refine below_set ?_ GE281.out | refine below_set ?_ GE287.out) | exact HB.out))) hn_))), Or.elim hk_ (fun hs_ => hs_.2.1) (fun hn_ => (Kd.fresh' (Kd.N_lt (by (with_reducible repeat (first | apply Kd.N_alloc | apply Kd.N_drewN | apply Kd.N_drew)); exact HO_288001.out)) k_ hn_)), Or.elim hk_ (fun hs_ => hs_.2.2.1) (fun hn_ => (Kd.freshB (g := gb281) (o := .cells #[.int .i64 a0_0, .slice A0_1 l0_1.length c0_1] 24 (0, 0)) (by (with_reducible repeat (first | refine blk_drewN ?_ _ | refine blk_drew ?_ | refine blk_alloc ?_ _)); exact BK281.out) k_ hn_)), Or.elim hk_ (fun hs_ => hs_.2.2.2) (fun hn_ => (Kd.freshB (g := gb287) (o := .cells #[.int .i64 a0_0, .slice Ao53 x288001_2.length co53] 24 (0, 0)) (by (with_reducible repeat (first | refine blk_drewN ?_ _ | refine blk_drew ?_ | refine blk_alloc ?_ _)); exact BK287.out) k_ hn_))⟩)) (below_size (by repeat (first | (with_reducible first | exact HB.out | apply below_alloc | apply pw_below_drewN | apply below_drew1 | refine below_set ?_ GE281.out | refine below_set ?_ GE287.out) | exact HB.out)))); have n7_ := Aside0.mk (blk_below (g := gb281) (o := .cells #[.int .i64 a0_0, .slice A0_1 l0_1.length c0_1] 24 (0, 0)) (by (with_reducible repeat (first | refine blk_drewN ?_ _ | refine blk_drew ?_ | refine blk_alloc ?_ _)); exact BK281.out) hb); have n8_ := Aside0.mk (blk_below (g := gb287) (o := .cells #[.int .i64 a0_0, .slice Ao53 x288001_2.length co53] 24 (0, 0)) (by (with_reducible repeat (first | refine blk_drewN ?_ _ | refine blk_drew ?_ | refine blk_alloc ?_ _)); exact BK287.out) hb); have n9_ := Aside0.mk (Kd.C_below (by repeat (first | (with_reducible exact HR298_0.out) | (with_reducible refine Kd.C_alloc ?_ _) | (with_reducible refine Kd.C_drewN ?_ _) | (with_reducible refine Kd.C_drew ?_) | exact HR298_0.out)) hb); have n10_ := Aside0.mk (below_step (by repeat (first | (with_reducible first | exact HB.out | apply below_alloc | apply pw_below_drewN | apply below_drew1 | refine below_set ?_ GE281.out | refine below_set ?_ GE287.out) | exact HB.out)) hb); clear HO_8; clear HO_70; clear HO_282001; clear HO_288001; clear HL298_0; clear HO301; clear BK281; clear BK287; clear HR298_0; clear HB; have HO_8 := n0_; have HO_70 := n1_; have HO_282001 := n2_; have HO_288001 := n3_; have HL298_0 := n4_; have HO301 := n5_; have HO304 := n6_; have BK281 := n7_; have BK287 := n8_; have HR298_0 := n9_; have HB := n10_; clear n0_ n1_ n2_ n3_ n4_ n5_ n6_ n7_ n8_ n9_ n10_; (try clear hb); (try clear hb2); (try clear hk); (try clear hi); (try clear ho0); obtain ⟨Ao75, co75, eo75⟩ := Kd.V_slice HO304.out; subst eo75; obtain ⟨Ao77, co77, eo77⟩ := Kd.V_slice HO_8.out; subst eo77; have q76 : ((wrap64 (x72_4 + 1)) : Int) ≤ ((t293.length : Int) : Int) := of_decide_eq_true (by first | (with_reducible assumption) | assumption); obtain ⟨i076, hi076, _, hsz76, _⟩ := info_parts info47; have hroom76 : t293.length ≤ co77 := (Kd.V_reads' HO_8.out).2.1; have hC76 : Kd.F (Kd.slice 3 (Kd.int .i64)) _ _ Ao77 t293.length t293 := (Kd.V_at (base := w.heap.size) HO_8.out).2.2; have ql76 : (x72_4 : Int) ≤ ((wrap64 (x72_4 + 1)) : Int) := of_decide_eq_true (by first | (with_reducible assumption) | assumption); have q076 : (0 : Int) ≤ (x72_4 : Int) := of_decide_eq_true (by first | (with_reducible assumption) | assumption); have hcut76 := cut_mid (P := Try.prog) 25 47 .i64 .i64 Try.underlying25 hi076 1 hsz76 Ao77 t293.length co77 x72_4 (wrap64 (x72_4 + 1)) q076 ql76 q76 hroom76; have hr76 := Kd.F_mid (lo := (x72_4 : Int).toNat) (hi := ((wrap64 (x72_4 + 1)) : Int).toNat) (c := co77) hC76 (by omega) (by omega) hroom76; obtain ⟨A76, hA76⟩ : ∃ A1, A1 = (if co77 = (x72_4 : Int).toNat then Ao77 else (Ao77 : Option Addr).map (·.add ((x72_4 : Int).toNat * 1))) := ⟨_, rfl⟩; obtain ⟨c76, hc76⟩ : ∃ c1, c1 = co77 - (x72_4 : Int).toNat := ⟨_, rfl⟩; have hy76 : y306.length = ((wrap64 (x72_4 + 1)) : Int).toNat - (x72_4 : Int).toNat := (by rw [Ny306.out, List.length_drop, List.length_take] <;> omega); rw [show ((t293).take ((wrap64 (x72_4 + 1)) : Int).toNat).drop (x72_4 : Int).toNat = y306 from Ny306.out.symm] at hr76; replace hr76 : Kd.F (Kd.slice 3 (Kd.int .i64)) _ _ A76 y306.length y306 := (by rw [hA76]; exact hr76); rw [← hy76, ← hA76, ← hc76] at hcut76; have HO310 := Aside0.mk (show Kd.V (Kd.slice 3 (Kd.int .i64)) 47 _ w.heap.size _ (.slice A76 y306.length c76) y306 from Kd.V_mk (by rw [hy76, hc76]; exact Nat.sub_le_sub_right (Nat.le_trans (by omega) hroom76) _) hr76); have HC310 := Aside0.mk (show y306.length ≤ c76 from by rw [hy76, hc76]; exact Nat.sub_le_sub_right (Nat.le_trans (by omega) hroom76) _); clear hr76 hC76 hroom76 hi076 hsz76 hc76; have KY76 := Aside0.mk hy76; have KA76 := Aside0.mk hA76; clear hy76 hA76; replace q76 := eq_true q76) | (go_at_call 19; (with_reducible refine (switchboardref15_Same.calls k4 _ _ t302 _ _ y306 true _ ?side1 ?side2 ?side3 ?side4 A67.out).mono ?_); (case side1 => repeat (first | exact (Kd.V_reads' HO304.out).2.2 | (with_reducible refine Kd.C_alloc ?_ _) | (with_reducible refine Kd.C_drewN ?_ _) | (with_reducible refine Kd.C_drew ?_))); (case side2 => exact (Kd.V_reads' HO304.out).2.1); (case side3 => repeat (first | exact (Kd.V_reads' HO310.out).2.2 | (with_reducible refine Kd.C_alloc ?_ _) | (with_reducible refine Kd.C_drewN ?_ _) | (with_reducible refine Kd.C_drew ?_))); (case side4 => exact (Kd.V_reads' HO310.out).2.1); rintro e w' ⟨rfl, ⟨nd, rfl⟩⟩))
                                        go_roundg k4
                                        case measure => have := HJ2.out; have := HK2.out; have := HJ49.out; have := HK4.out; omega
                                        case rel => exact ⟨(wrap64 (x72_4 + 1)), (by first | rfl | (simp; done) | (simp [*]; done)), H', ⟨by have := HJ2.out; have := HK2.out; have := HJ49.out; have := HK4.out; omega⟩, ⟨by (with_reducible repeat (first | apply Kd.V_alloc | apply Kd.V_drewN | apply Kd.V_drew)); exact Kd.V_mono HO_8.out (fun _ hk => ⟨hk.1.1, ⟨hk.1.2.1, ⟨hk.1.2.2.1, hk.1.2.2.2⟩⟩⟩)⟩, ⟨by (with_reducible repeat (first | apply Kd.V_alloc | apply Kd.V_drewN | apply Kd.V_drew)); exact Kd.V_mono HO_70.out (fun _ hk => ⟨hk.1.1, ⟨hk.1.2.1, ⟨hk.1.2.2.1, hk.1.2.2.2⟩⟩⟩)⟩, ⟨by (with_reducible repeat (first | apply Kd.V_alloc | apply Kd.V_drewN | apply Kd.V_drew)); exact Kd.V_mono HO_282001.out (fun _ hk => ⟨hk.1.1, ⟨hk.1.2.1, ⟨hk.1.2.2.1, hk.1.2.2.2⟩⟩⟩)⟩, ⟨by (with_reducible repeat (first | apply Kd.N_alloc | apply Kd.N_drewN | apply Kd.N_drew)); exact Kd.N_mono HO_288001.out (fun _ hk => ⟨hk.1.1, ⟨hk.1.2.1, hk.1.2.2⟩⟩)⟩, ⟨by (with_reducible repeat (first | refine blk_drewN ?_ _ | refine blk_drew ?_ | refine blk_alloc ?_ _)); exact BK281.out⟩, ⟨by (with_reducible repeat (first | refine blk_drewN ?_ _ | refine blk_drew ?_ | refine blk_alloc ?_ _)); exact BK287.out⟩, ⟨by repeat (first | (with_reducible first | exact HB.out | apply below_alloc | apply pw_below_drewN | apply below_drew1 | refine below_set ?_ GE281.out | refine below_set ?_ GE287.out) | exact HB.out)⟩⟩
                                      · replace c68 := Bool.eq_false_iff.mpr c68
                                        subst c68
                                        have H1 : (some false) = some true := by rw [if_neg (show ¬ (false = true) by decide)] at H; exact H
                                        clear H
                                        have H := H1
                                        clear H1
                                        exact absurd H (by simp)
                                    · rw [if_neg c66] at H
                                      exact absurd H (by simp)
                                  · rw [if_neg c65] at H
                                    exact absurd H (by simp)
                                · rw [if_neg c63] at H
                                  have c63b0 : ((t302.length : Int) == 1) = false := beq_eq_false_iff_ne.mpr c63
                                  have c63b1 : ((t302.length : Int) != 1) = true := bne_iff_ne.mpr c63
                                  exact absurd H (by simp)
                              · rw [if_neg c62] at H
                                have c62b0 : (t305 == 0) = false := beq_eq_false_iff_ne.mpr c62
                                have c62b1 : (t305 != 0) = true := bne_iff_ne.mpr c62
                                exact absurd H (by simp)
                            · rw [if_neg c60] at H
                              exact absurd H (by simp)
                          · rw [if_neg c59] at H
                            exact absurd H (by simp)
                        · rw [if_neg c58] at H
                          have c58b0 : decide (x72_4 < (l1.length : Int)) = false := decide_eq_false c58
                          clear c58
                          replace H := Option.bind_eq_some_iff.mp H
                          obtain ⟨t297, A780, H⟩ := H
                          replace H : (some t297) = some true := H
                          have A78 := Aside0.mk A780
                          clear A780
                          have hr_ := Aside0.mk (Option.some.inj H)
                          go_wp2_with (first | ((with_reducible refine gate_callee (f := 11) rfl ?_); refine goesL_ (some 102) rfl rfl Try.func11 (by kernel_rfl) rfl #[] rfl (by (try simp only [List.map_toArray, List.map_cons, List.map_nil]); first | done | rfl | (simp only [List.length_drop, List.length_take]; rfl)) ?_; (with_reducible refine (switchboardlaw15_awake.calls  t297 _ A78.out).mono ?_); rintro e w79 ⟨rfl, hb⟩; refine ⟨_, rfl, ?_⟩; have n0_ := Aside0.mk (Kd.V_below (by (with_reducible repeat (first | apply Kd.V_alloc | apply Kd.V_drewN | apply Kd.V_drew)); exact HO_8.out) hb); have n1_ := Aside0.mk (Kd.V_below (by (with_reducible repeat (first | apply Kd.V_alloc | apply Kd.V_drewN | apply Kd.V_drew)); exact HO_70.out) hb); have n2_ := Aside0.mk (Kd.V_below (by (with_reducible repeat (first | apply Kd.V_alloc | apply Kd.V_drewN | apply Kd.V_drew)); exact HO_282001.out) hb); have n3_ := Aside0.mk (Kd.N_below (by (with_reducible repeat (first | apply Kd.N_alloc | apply Kd.N_drewN | apply Kd.N_drew)); exact HO_288001.out) hb); have n4_ := Aside0.mk (blk_below (g := gb281) (o := .cells #[.int .i64 a0_0, .slice A0_1 l0_1.length c0_1] 24 (0, 0)) (by (with_reducible repeat (first | refine blk_drewN ?_ _ | refine blk_drew ?_ | refine blk_alloc ?_ _)); exact BK281.out) hb); have n5_ := Aside0.mk (blk_below (g := gb287) (o := .cells #[.int .i64 a0_0, .slice Ao53 x288001_2.length co53] 24 (0, 0)) (by (with_reducible repeat (first | refine blk_drewN ?_ _ | refine blk_drew ?_ | refine blk_alloc ?_ _)); exact BK287.out) hb); have n6_ := Aside0.mk (below_step (by repeat (first | (with_reducible first | exact HB.out | apply below_alloc | apply pw_below_drewN | apply below_drew1 | refine below_set ?_ GE281.out | refine below_set ?_ GE287.out) | exact HB.out)) hb); clear HO_8; clear HO_70; clear HO_282001; clear HO_288001; clear BK281; clear BK287; clear HB; have HO_8 := n0_; have HO_70 := n1_; have HO_282001 := n2_; have HO_288001 := n3_; have BK281 := n4_; have BK287 := n5_; have HB := n6_; clear n0_ n1_ n2_ n3_ n4_ n5_ n6_; (try clear hb); (try clear hb2); (try clear hk); (try clear hi)))
                          go_ret
                          exact ⟨by first | rfl | exact congrArg (fun b_ => Ending.returned (Value.bool b_)) hr_.out | exact congrArg (fun b_ => Ending.returned (Value.bool b_)) hr_.out | (simp [errW_none, errW_some] <;> rfl) | (simp [*, errW_none, errW_some] <;> rfl), by repeat (first | (with_reducible first | exact HB.out | apply below_alloc | apply pw_below_drewN | apply below_drew1 | refine below_set ?_ GE281.out | refine below_set ?_ GE287.out) | exact HB.out)⟩

end Go.Proofs.Ytlicglgogklnkaa.Pn
