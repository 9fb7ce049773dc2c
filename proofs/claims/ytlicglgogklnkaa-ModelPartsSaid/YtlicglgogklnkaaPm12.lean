-- Laid by wip/xprint.py, a program of this session that runs the kit's print with some contracts given by hand; not a text of print.sh. Lean checks it.
import Derived.Test.YtlicglgogklnkaaPm0
import Derived.Test.YtlicglgogklnkaaPm1
import Derived.Test.YtlicglgogklnkaaPm5
import Derived.Test.YtlicglgogklnkaaPm9
import Derived.Test.YtlicglgogklnkaaPm11
namespace Go.Proofs.Ytlicglgogklnkaa.Pm
open Go.RowKit Go.Proofs.YtlicglgogklnkaaW.PrintWords Go.Proofs.YtlicglgogklnkaaW.PrintLast Go.Proofs.YtlicglgogklnkaaW.PrintMore
attribute [local go_sem] max2_int min2_int max_two min_two max_three min_three max_four min_four   -- for this text's walks alone
set_option linter.unusedVariables false
set_option linter.unusedSimpArgs false

/-! ### switchboardlaw15_ModelParts: function 6 -/
mutual
def switchboardlaw15_ModelParts.j0 : Nat → List (List Int) → Bool → Int → List (S37) → Option (Bool)
  | 0, _, _, _, _ => none
  | k + 1, x1, x29, x252000, x252001 => if x29 = true then ((switchboardlaw15_awake.f).bind fun t256 => (some t256)) else (if 0 < (x252001.length : Int) then ((model_Parts.f k ((rd_T37 x252001 0).f0) ((rd_T37 x252001 0).f1) ((rd_T37 x252001 0).f2) x1).bind fun t258 => (if 0 ≤ (((rd_T37 x252001 0).f1).length : Int) then (if ((((rd_T37 x252001 0).f1).length : Int) : Int).toNat ≤ 35184372088832 then (switchboardlaw15_ModelParts.l0 k x1 t258 (-1) (List.replicate ((((rd_T37 x252001 0).f1).length : Int) : Int).toNat 0) t258 (t258.length : Int) 0 x252000 x252001) else (none)) else (none))) else (none))
def switchboardlaw15_ModelParts.l0 : Nat → List (List Int) → List (S42) → Int → List Int → List (S42) → Int → Int → Int → List (S37) → Option (Bool)
  | 0, _, _, _, _, _, _, _, _, _ => none
  | k + 1, x1, x5, x6, x7, x44, x45, x46, x252000, x252001 => if x46 < x45 then (if 0 ≤ x46 then (if x46 < (x44.length : Int) then (if (wrap64 ((wrap64 (2 * ((rd_T42 x44 x46).f0))) + ((rd_T42 x44 x46).f1))) ≤ x6 then (switchboardlaw15_ModelParts.j2 k x1 x5 x7 (wrap64 ((wrap64 (2 * ((rd_T42 x44 x46).f0))) + ((rd_T42 x44 x46).f1))) x44 x45 x46 true x252000 x252001 ((rd_T42 x44 x46).f0) ((rd_T42 x44 x46).f1) ((rd_T42 x44 x46).f2) ((rd_T42 x44 x46).f3)) else (if ((rd_T42 x44 x46).f1) < 0 then (switchboardlaw15_ModelParts.j2 k x1 x5 x7 (wrap64 ((wrap64 (2 * ((rd_T42 x44 x46).f0))) + ((rd_T42 x44 x46).f1))) x44 x45 x46 true x252000 x252001 ((rd_T42 x44 x46).f0) ((rd_T42 x44 x46).f1) ((rd_T42 x44 x46).f2) ((rd_T42 x44 x46).f3)) else (if ((rd_T42 x44 x46).f1) > 1 then (switchboardlaw15_ModelParts.j2 k x1 x5 x7 (wrap64 ((wrap64 (2 * ((rd_T42 x44 x46).f0))) + ((rd_T42 x44 x46).f1))) x44 x45 x46 true x252000 x252001 ((rd_T42 x44 x46).f0) ((rd_T42 x44 x46).f1) ((rd_T42 x44 x46).f2) ((rd_T42 x44 x46).f3)) else (if ((rd_T42 x44 x46).f0) ≥ (x1.length : Int) then (switchboardlaw15_ModelParts.j2 k x1 x5 x7 (wrap64 ((wrap64 (2 * ((rd_T42 x44 x46).f0))) + ((rd_T42 x44 x46).f1))) x44 x45 x46 true x252000 x252001 ((rd_T42 x44 x46).f0) ((rd_T42 x44 x46).f1) ((rd_T42 x44 x46).f2) ((rd_T42 x44 x46).f3)) else (if ((rd_T42 x44 x46).f2) < 0 then (switchboardlaw15_ModelParts.j2 k x1 x5 x7 (wrap64 ((wrap64 (2 * ((rd_T42 x44 x46).f0))) + ((rd_T42 x44 x46).f1))) x44 x45 x46 true x252000 x252001 ((rd_T42 x44 x46).f0) ((rd_T42 x44 x46).f1) ((rd_T42 x44 x46).f2) ((rd_T42 x44 x46).f3)) else (if ((rd_T42 x44 x46).f2) ≥ (x7.length : Int) then (switchboardlaw15_ModelParts.j2 k x1 x5 x7 (wrap64 ((wrap64 (2 * ((rd_T42 x44 x46).f0))) + ((rd_T42 x44 x46).f1))) x44 x45 x46 true x252000 x252001 ((rd_T42 x44 x46).f0) ((rd_T42 x44 x46).f1) ((rd_T42 x44 x46).f2) ((rd_T42 x44 x46).f3)) else (if ((rd_T42 x44 x46).f3) < 0 then (switchboardlaw15_ModelParts.j2 k x1 x5 x7 (wrap64 ((wrap64 (2 * ((rd_T42 x44 x46).f0))) + ((rd_T42 x44 x46).f1))) x44 x45 x46 true x252000 x252001 ((rd_T42 x44 x46).f0) ((rd_T42 x44 x46).f1) ((rd_T42 x44 x46).f2) ((rd_T42 x44 x46).f3)) else (switchboardlaw15_ModelParts.j2 k x1 x5 x7 (wrap64 ((wrap64 (2 * ((rd_T42 x44 x46).f0))) + ((rd_T42 x44 x46).f1))) x44 x45 x46 (decide (((rd_T42 x44 x46).f3) > 65536)) x252000 x252001 ((rd_T42 x44 x46).f0) ((rd_T42 x44 x46).f1) ((rd_T42 x44 x46).f2) ((rd_T42 x44 x46).f3))))))))) else (none)) else (none)) else (if (x5.length : Int) ≥ 1 then ((switchboardlaw15_awake.f).bind fun t265 => (some t265)) else (some false))
def switchboardlaw15_ModelParts.j2 : Nat → List (List Int) → List (S42) → List Int → Int → List (S42) → Int → Int → Bool → Int → List (S37) → Int → Int → Int → Int → Option (Bool)
  | 0, _, _, _, _, _, _, _, _, _, _, _, _, _, _ => none
  | k + 1, x1, x5, x7, x10, x44, x45, x46, x97, x252000, x252001, x268000, x268001, x268002, x268003 => if x97 = true then (some false) else (if 0 ≤ x268002 then (if x268002 < (x7.length : Int) then ((some (x7.set (x268002 : Int).toNat (wrap64 ((rd x7 x268002) + 1)) : List Int)).bind fun y269 => (if 0 < (x252001.length : Int) then (if (rd y269 x268002) > ((rd_T37 x252001 0).f2) then (some false) else (switchboardlaw15_ModelParts.l0 k x1 x5 x10 y269 x44 x45 (wrap64 (x46 + 1)) x252000 x252001)) else (none))) else (none)) else (none))
end
def switchboardlaw15_ModelParts.f (k : Nat) (a0_0 : Int) (l0_1 : List (S37)) (l1 : List (List Int)) : Option (Bool) := (switchboardref15_Small.f k a0_0 l0_1).bind fun t252 => (if t252 = true then ((switchboardref03_Small.f k l1).bind fun t253 => (if t253 = true then ((switchboardref15_Right.f k a0_0 l0_1).bind fun t254 => (if t254 = true then ((switchboardref15_Tokens.f k a0_0 l0_1 l1).bind fun t255 => (switchboardlaw15_ModelParts.j0 k l1 (!t255) a0_0 l0_1)) else (switchboardlaw15_ModelParts.j0 k l1 true a0_0 l0_1))) else (switchboardlaw15_ModelParts.j0 k l1 true a0_0 l0_1))) else (switchboardlaw15_ModelParts.j0 k l1 true a0_0 l0_1))
theorem switchboardlaw15_ModelParts.mono_l : ∀ k, (∀ y0 y1 y2 y3, LeO (switchboardlaw15_ModelParts.j0 k y0 y1 y2 y3) (switchboardlaw15_ModelParts.j0 (k + 1) y0 y1 y2 y3)) ∧ (∀ y0 y1 y2 y3 y4 y5 y6 y7 y8, LeO (switchboardlaw15_ModelParts.l0 k y0 y1 y2 y3 y4 y5 y6 y7 y8) (switchboardlaw15_ModelParts.l0 (k + 1) y0 y1 y2 y3 y4 y5 y6 y7 y8)) ∧ (∀ y0 y1 y2 y3 y4 y5 y6 y7 y8 y9 y10 y11 y12 y13, LeO (switchboardlaw15_ModelParts.j2 k y0 y1 y2 y3 y4 y5 y6 y7 y8 y9 y10 y11 y12 y13) (switchboardlaw15_ModelParts.j2 (k + 1) y0 y1 y2 y3 y4 y5 y6 y7 y8 y9 y10 y11 y12 y13))
  | 0 => ⟨fun _ _ _ _ r h => by simp [switchboardlaw15_ModelParts.j0] at h, fun _ _ _ _ _ _ _ _ _ r h => by simp [switchboardlaw15_ModelParts.l0] at h, fun _ _ _ _ _ _ _ _ _ _ _ _ _ _ r h => by simp [switchboardlaw15_ModelParts.j2] at h⟩
  | k + 1 => by
    obtain ⟨ih0, ih1, ih2⟩ := switchboardlaw15_ModelParts.mono_l k
    refine ⟨?_, ?_, ?_⟩
    · intro y0 y1 y2 y3
      unfold switchboardlaw15_ModelParts.j0
      repeat' first
      | (with_reducible exact ih0 _ _ _ _)
      | (with_reducible exact ih1 _ _ _ _ _ _ _ _ _)
      | (with_reducible exact ih2 _ _ _ _ _ _ _ _ _ _ _ _ _ _)
      | (with_reducible exact model_Parts.mono _ _ _ _ _)
      | (with_reducible exact switchboardref03_Small.mono _ _)
      | (with_reducible exact switchboardref15_Right.mono _ _ _)
      | (with_reducible exact switchboardref15_Small.mono _ _ _)
      | (with_reducible exact switchboardref15_Tokens.mono _ _ _ _)
      | (with_reducible exact LeO.refl _)
      | (with_reducible exact LeO.none _)
      | (with_reducible refine LeO.ite ?_ ?_)
      | (with_reducible refine LeO.bind ?_ (fun _ => ?_))
      | exact ih0 _ _ _ _
      | exact ih1 _ _ _ _ _ _ _ _ _
      | exact ih2 _ _ _ _ _ _ _ _ _ _ _ _ _ _
      | exact model_Parts.mono _ _ _ _ _
      | exact switchboardref03_Small.mono _ _
      | exact switchboardref15_Right.mono _ _ _
      | exact switchboardref15_Small.mono _ _ _
      | exact switchboardref15_Tokens.mono _ _ _ _
      | exact LeO.none _
      | refine LeO.ite ?_ ?_
      | refine LeO.bind ?_ (fun _ => ?_)
    · intro y0 y1 y2 y3 y4 y5 y6 y7 y8
      unfold switchboardlaw15_ModelParts.l0
      repeat' first
      | (with_reducible exact ih0 _ _ _ _)
      | (with_reducible exact ih1 _ _ _ _ _ _ _ _ _)
      | (with_reducible exact ih2 _ _ _ _ _ _ _ _ _ _ _ _ _ _)
      | (with_reducible exact model_Parts.mono _ _ _ _ _)
      | (with_reducible exact switchboardref03_Small.mono _ _)
      | (with_reducible exact switchboardref15_Right.mono _ _ _)
      | (with_reducible exact switchboardref15_Small.mono _ _ _)
      | (with_reducible exact switchboardref15_Tokens.mono _ _ _ _)
      | (with_reducible exact LeO.refl _)
      | (with_reducible exact LeO.none _)
      | (with_reducible refine LeO.ite ?_ ?_)
      | (with_reducible refine LeO.bind ?_ (fun _ => ?_))
      | exact ih0 _ _ _ _
      | exact ih1 _ _ _ _ _ _ _ _ _
      | exact ih2 _ _ _ _ _ _ _ _ _ _ _ _ _ _
      | exact model_Parts.mono _ _ _ _ _
      | exact switchboardref03_Small.mono _ _
      | exact switchboardref15_Right.mono _ _ _
      | exact switchboardref15_Small.mono _ _ _
      | exact switchboardref15_Tokens.mono _ _ _ _
      | exact LeO.none _
      | refine LeO.ite ?_ ?_
      | refine LeO.bind ?_ (fun _ => ?_)
    · intro y0 y1 y2 y3 y4 y5 y6 y7 y8 y9 y10 y11 y12 y13
      unfold switchboardlaw15_ModelParts.j2
      repeat' first
      | (with_reducible exact ih0 _ _ _ _)
      | (with_reducible exact ih1 _ _ _ _ _ _ _ _ _)
      | (with_reducible exact ih2 _ _ _ _ _ _ _ _ _ _ _ _ _ _)
      | (with_reducible exact model_Parts.mono _ _ _ _ _)
      | (with_reducible exact switchboardref03_Small.mono _ _)
      | (with_reducible exact switchboardref15_Right.mono _ _ _)
      | (with_reducible exact switchboardref15_Small.mono _ _ _)
      | (with_reducible exact switchboardref15_Tokens.mono _ _ _ _)
      | (with_reducible exact LeO.refl _)
      | (with_reducible exact LeO.none _)
      | (with_reducible refine LeO.ite ?_ ?_)
      | (with_reducible refine LeO.bind ?_ (fun _ => ?_))
      | exact ih0 _ _ _ _
      | exact ih1 _ _ _ _ _ _ _ _ _
      | exact ih2 _ _ _ _ _ _ _ _ _ _ _ _ _ _
      | exact model_Parts.mono _ _ _ _ _
      | exact switchboardref03_Small.mono _ _
      | exact switchboardref15_Right.mono _ _ _
      | exact switchboardref15_Small.mono _ _ _
      | exact switchboardref15_Tokens.mono _ _ _ _
      | exact LeO.none _
      | refine LeO.ite ?_ ?_
      | refine LeO.bind ?_ (fun _ => ?_)
theorem switchboardlaw15_ModelParts.mono : ∀ a0 a1 a2 k, LeO (switchboardlaw15_ModelParts.f k a0 a1 a2) (switchboardlaw15_ModelParts.f (k + 1) a0 a1 a2) := by
  intro a0 a1 a2 k
  obtain ⟨ih0, ih1, ih2⟩ := switchboardlaw15_ModelParts.mono_l k
  unfold switchboardlaw15_ModelParts.f
  repeat' first
      | (with_reducible exact ih0 _ _ _ _)
      | (with_reducible exact ih1 _ _ _ _ _ _ _ _ _)
      | (with_reducible exact ih2 _ _ _ _ _ _ _ _ _ _ _ _ _ _)
      | (with_reducible exact model_Parts.mono _ _ _ _ _)
      | (with_reducible exact switchboardref03_Small.mono _ _)
      | (with_reducible exact switchboardref15_Right.mono _ _ _)
      | (with_reducible exact switchboardref15_Small.mono _ _ _)
      | (with_reducible exact switchboardref15_Tokens.mono _ _ _ _)
      | (with_reducible exact LeO.refl _)
      | (with_reducible exact LeO.none _)
      | (with_reducible refine LeO.ite ?_ ?_)
      | (with_reducible refine LeO.bind ?_ (fun _ => ?_))
      | exact ih0 _ _ _ _
      | exact ih1 _ _ _ _ _ _ _ _ _
      | exact ih2 _ _ _ _ _ _ _ _ _ _ _ _ _ _
      | exact model_Parts.mono _ _ _ _ _
      | exact switchboardref03_Small.mono _ _
      | exact switchboardref15_Right.mono _ _ _
      | exact switchboardref15_Small.mono _ _ _
      | exact switchboardref15_Tokens.mono _ _ _ _
      | exact LeO.none _
      | refine LeO.ite ?_ ?_
      | refine LeO.bind ?_ (fun _ => ?_)
set_option maxHeartbeats 8000000 in
set_option maxRecDepth 100000 in
theorem switchboardlaw15_ModelParts.calls (k : Nat) (a0_0 : Int) (A0_1 : Option Addr) (c0_1 : Nat) (l0_1 : List (S37)) (A1 : Option Addr) (c1 : Nat) (l1 : List (List Int)) (w : World) (hr0_1 : Kd.C k37 w A0_1 l0_1.length l0_1) (hc0_1 : l0_1.length ≤ c0_1) (hr1 : Kd.C (Kd.slice 3 (Kd.int .i64)) w A1 l1.length l1) (hc1 : l1.length ≤ c1) (h : switchboardlaw15_ModelParts.f k a0_0 l0_1 l1 = some true) :
    Calls Try.prog 6 #[.agg #[.int .i64 a0_0, .slice A0_1 l0_1.length c0_1], .slice A1 l1.length c1] w fun e w' => e = .returned (.bool true) ∧ Below w.heap.size w w' := by
  have hu24 := Try.underlying24
  have hu37 := Try.underlying37
  have hu42 := Try.underlying42
  have HR0_1 := Aside0.mk hr0_1
  have HC0_1 := Aside0.mk hc0_1
  clear hr0_1 hc0_1
  have HR1 := Aside0.mk hr1
  have HC1 := Aside0.mk hc1
  clear hr1 hc1
  have HB := Aside0.mk (Below.refl w.heap.size w)
  have H : ((switchboardref15_Small.f k a0_0 l0_1).bind fun t252 => (if t252 = true then ((switchboardref03_Small.f k l1).bind fun t253 => (if t253 = true then ((switchboardref15_Right.f k a0_0 l0_1).bind fun t254 => (if t254 = true then ((switchboardref15_Tokens.f k a0_0 l0_1 l1).bind fun t255 => (switchboardlaw15_ModelParts.j0 k l1 (!t255) a0_0 l0_1)) else (switchboardlaw15_ModelParts.j0 k l1 true a0_0 l0_1))) else (switchboardlaw15_ModelParts.j0 k l1 true a0_0 l0_1))) else (switchboardlaw15_ModelParts.j0 k l1 true a0_0 l0_1))) = some true := h
  clear h
  have HC3 := Aside0.mk H
  clear H
  go_enter Try.func6, Try.ntmps6
  go_upto_region 1 with (first | ((with_reducible refine gate_dst (N := 2) rfl ?_); (try (refine gate_guard (by rfl) ?_; dsimp only)); refine box_event ?hg (N := 2) ?hd (cs := #[.int .i64 a0_0, .slice A0_1 l0_1.length c0_1]) (t := 24) ?hr ?_; (case hd => rfl); (case hg => rfl); (case hr => first | (go_simp; done) | (go_simp; rfl)); intro gb251 hg w4 hbox hb; have n0_ := Aside0.mk (below_step (by repeat (first | (with_reducible first | exact HB.out | apply below_alloc | apply pw_below_drewN | apply below_drew1) | exact HB.out)) hb); have n1_ := Aside0.mk (hbox); have n2_ := Aside0.mk ((by rw [hg]; exact (below_size (by repeat (first | (with_reducible first | exact HB.out | apply below_alloc | apply pw_below_drewN | apply below_drew1) | exact HB.out))) : w.heap.size ≤ gb251)); have n3_ := Aside0.mk ((by rw [hg]; exact (below_size (by repeat (first | (with_reducible first | exact HB.out | apply below_alloc | apply pw_below_drewN | apply below_drew1) | exact HB.out))) : w.heap.size ≤ gb251)); clear HB; have HB := n0_; have BK251 := n1_; have GW251 := n2_; have GE251 := n3_; clear n0_ n1_ n2_ n3_; clear hb hbox hg))
  repeat (go_quiet (first | ((with_reducible refine gate_dst (N := 2) rfl ?_); (try (refine gate_guard (by rfl) ?_; dsimp only)); refine box_event ?hg (N := 2) ?hd (cs := #[.int .i64 a0_0, .slice A0_1 l0_1.length c0_1]) (t := 24) ?hr ?_; (case hd => rfl); (case hg => rfl); (case hr => first | (go_simp; done) | (go_simp; rfl)); intro gb251 hg w4 hbox hb; have n0_ := Aside0.mk (below_step (by repeat (first | (with_reducible first | exact HB.out | apply below_alloc | apply pw_below_drewN | apply below_drew1) | exact HB.out)) hb); have n1_ := Aside0.mk (hbox); have n2_ := Aside0.mk ((by rw [hg]; exact (below_size (by repeat (first | (with_reducible first | exact HB.out | apply below_alloc | apply pw_below_drewN | apply below_drew1) | exact HB.out))) : w.heap.size ≤ gb251)); have n3_ := Aside0.mk ((by rw [hg]; exact (below_size (by repeat (first | (with_reducible first | exact HB.out | apply below_alloc | apply pw_below_drewN | apply below_drew1) | exact HB.out))) : w.heap.size ≤ gb251)); clear HB; have HB := n0_; have BK251 := n1_; have GW251 := n2_; have GE251 := n3_; clear n0_ n1_ n2_ n3_; clear hb hbox hg)); go_upto_region 1 with (first | ((with_reducible refine gate_dst (N := 2) rfl ?_); (try (refine gate_guard (by rfl) ?_; dsimp only)); refine box_event ?hg (N := 2) ?hd (cs := #[.int .i64 a0_0, .slice A0_1 l0_1.length c0_1]) (t := 24) ?hr ?_; (case hd => rfl); (case hg => rfl); (case hr => first | (go_simp; done) | (go_simp; rfl)); intro gb251 hg w4 hbox hb; have n0_ := Aside0.mk (below_step (by repeat (first | (with_reducible first | exact HB.out | apply below_alloc | apply pw_below_drewN | apply below_drew1) | exact HB.out)) hb); have n1_ := Aside0.mk (hbox); have n2_ := Aside0.mk ((by rw [hg]; exact (below_size (by repeat (first | (with_reducible first | exact HB.out | apply below_alloc | apply pw_below_drewN | apply below_drew1) | exact HB.out))) : w.heap.size ≤ gb251)); have n3_ := Aside0.mk ((by rw [hg]; exact (below_size (by repeat (first | (with_reducible first | exact HB.out | apply below_alloc | apply pw_below_drewN | apply below_drew1) | exact HB.out))) : w.heap.size ≤ gb251)); clear HB; have HB := n0_; have BK251 := n1_; have GW251 := n2_; have GE251 := n3_; clear n0_ n1_ n2_ n3_; clear hb hbox hg)))
  (try simp only [Act.put, List.setIfInBounds_toArray, List.set_cons_zero, List.set_cons_succ])
  go_cut [29] (fun v29 wc => ∃ (kq : Nat) (x29_2 : Bool), v29 = .bool x29_2 ∧ Aside0 (switchboardlaw15_ModelParts.j0 kq l1 x29_2 a0_0 l0_1 = some true) ∧ Aside0 (kq ≤ k) ∧ Aside0 (wc.heap[gb251]? = some (.cells #[.int .i64 a0_0, (.slice A0_1 l0_1.length c0_1)] 24 (0, 0))) ∧ Aside0 (Below w.heap.size w wc))
  case first =>
    have H := HC3.out
    clear HC3
    replace H := Option.bind_eq_some_iff.mp H
    obtain ⟨t252, A50, H⟩ := H
    replace H : (if t252 = true then ((switchboardref03_Small.f k l1).bind fun t253 => (if t253 = true then ((switchboardref15_Right.f k a0_0 l0_1).bind fun t254 => (if t254 = true then ((switchboardref15_Tokens.f k a0_0 l0_1 l1).bind fun t255 => (switchboardlaw15_ModelParts.j0 k l1 (!t255) a0_0 l0_1)) else (switchboardlaw15_ModelParts.j0 k l1 true a0_0 l0_1))) else (switchboardlaw15_ModelParts.j0 k l1 true a0_0 l0_1))) else (switchboardlaw15_ModelParts.j0 k l1 true a0_0 l0_1)) = some true := H
    have A5 := Aside0.mk A50
    clear A50
    by_cases c6 : t252 = true
    · subst c6
      have H1 : ((switchboardref03_Small.f k l1).bind fun t253 => (if t253 = true then ((switchboardref15_Right.f k a0_0 l0_1).bind fun t254 => (if t254 = true then ((switchboardref15_Tokens.f k a0_0 l0_1 l1).bind fun t255 => (switchboardlaw15_ModelParts.j0 k l1 (!t255) a0_0 l0_1)) else (switchboardlaw15_ModelParts.j0 k l1 true a0_0 l0_1))) else (switchboardlaw15_ModelParts.j0 k l1 true a0_0 l0_1))) = some true := by rw [if_pos rfl] at H; exact H
      clear H
      have H := H1
      clear H1
      replace H := Option.bind_eq_some_iff.mp H
      obtain ⟨t253, A70, H⟩ := H
      replace H : (if t253 = true then ((switchboardref15_Right.f k a0_0 l0_1).bind fun t254 => (if t254 = true then ((switchboardref15_Tokens.f k a0_0 l0_1 l1).bind fun t255 => (switchboardlaw15_ModelParts.j0 k l1 (!t255) a0_0 l0_1)) else (switchboardlaw15_ModelParts.j0 k l1 true a0_0 l0_1))) else (switchboardlaw15_ModelParts.j0 k l1 true a0_0 l0_1)) = some true := H
      have A7 := Aside0.mk A70
      clear A70
      by_cases c8 : t253 = true
      · subst c8
        have H1 : ((switchboardref15_Right.f k a0_0 l0_1).bind fun t254 => (if t254 = true then ((switchboardref15_Tokens.f k a0_0 l0_1 l1).bind fun t255 => (switchboardlaw15_ModelParts.j0 k l1 (!t255) a0_0 l0_1)) else (switchboardlaw15_ModelParts.j0 k l1 true a0_0 l0_1))) = some true := by rw [if_pos rfl] at H; exact H
        clear H
        have H := H1
        clear H1
        replace H := Option.bind_eq_some_iff.mp H
        obtain ⟨t254, A90, H⟩ := H
        replace H : (if t254 = true then ((switchboardref15_Tokens.f k a0_0 l0_1 l1).bind fun t255 => (switchboardlaw15_ModelParts.j0 k l1 (!t255) a0_0 l0_1)) else (switchboardlaw15_ModelParts.j0 k l1 true a0_0 l0_1)) = some true := H
        have A9 := Aside0.mk A90
        clear A90
        by_cases c10 : t254 = true
        · subst c10
          have H1 : ((switchboardref15_Tokens.f k a0_0 l0_1 l1).bind fun t255 => (switchboardlaw15_ModelParts.j0 k l1 (!t255) a0_0 l0_1)) = some true := by rw [if_pos rfl] at H; exact H
          clear H
          have H := H1
          clear H1
          replace H := Option.bind_eq_some_iff.mp H
          obtain ⟨t255, A110, H⟩ := H
          replace H : (switchboardlaw15_ModelParts.j0 k l1 (!t255) a0_0 l0_1) = some true := H
          have A11 := Aside0.mk A110
          clear A110
          have H' := Aside0.mk H
          clear H
          have hcz12_0 : w4.cell? ⟨gb251, 0, none⟩ = some (.int .i64 a0_0) := (blk_cell BK251.out 0).trans rfl
          have hcz12_1 : w4.cell? ⟨gb251, 1, none⟩ = some (.slice A0_1 l0_1.length c0_1) := (blk_cell BK251.out 1).trans rfl
          have hfz12_0 := blk_frozen BK251.out 0
          have hfz12_1 := blk_frozen BK251.out 1
          go_wp2_with (first | (go_at_call 9; (with_reducible refine (switchboardref15_Small.calls k a0_0 _ _ l0_1 true _ ?side1 ?side2 A5.out).mono ?_); (case side1 => repeat (first | exact (Kd.C_below HR0_1.out HB.out) | (with_reducible refine Kd.C_alloc ?_ _) | (with_reducible refine Kd.C_drewN ?_ _) | (with_reducible refine Kd.C_drew ?_))); (case side2 => exact HC0_1.out); rintro e w13 ⟨rfl, hb⟩; have n0_ := Aside0.mk (blk_below (g := gb251) (o := .cells #[.int .i64 a0_0, .slice A0_1 l0_1.length c0_1] 24 (0, 0)) (by (with_reducible repeat (first | refine blk_drewN ?_ _ | refine blk_drew ?_ | refine blk_alloc ?_ _)); exact BK251.out) hb); have n1_ := Aside0.mk (below_step (by repeat (first | (with_reducible first | exact HB.out | apply below_alloc | apply pw_below_drewN | apply below_drew1 | refine below_set ?_ GE251.out) | exact HB.out)) hb); clear BK251; clear HB; have BK251 := n0_; have HB := n1_; clear n0_ n1_; (try clear hb); (try clear hb2); (try clear hk); (try clear hi)) | (go_at_call 10; (with_reducible refine (switchboardref03_Small.calls k _ _ l1 true _ ?side1 ?side2 A7.out).mono ?_); (case side1 => repeat (first | exact (Kd.C_below HR1.out HB.out) | (with_reducible refine Kd.C_alloc ?_ _) | (with_reducible refine Kd.C_drewN ?_ _) | (with_reducible refine Kd.C_drew ?_))); (case side2 => exact HC1.out); rintro e w' ⟨rfl, ⟨nd, rfl⟩⟩; (try first | exact ⟨rfl, _, World.drewN_drewN _ _ _⟩ | exact ⟨rfl, _, Eq.trans (World.drewN_drewN _ _ _) (congrArg (World.drewN _) (Nat.add_assoc _ _ _))⟩); have hcz14_0 : w13.cell? ⟨gb251, 0, none⟩ = some (.int .i64 a0_0) := (blk_cell BK251.out 0).trans rfl; have hcz14_1 : w13.cell? ⟨gb251, 1, none⟩ = some (.slice A0_1 l0_1.length c0_1) := (blk_cell BK251.out 1).trans rfl; have hfz14_0 := blk_frozen BK251.out 0; have hfz14_1 := blk_frozen BK251.out 1) | (go_at_call 13; (with_reducible refine (switchboardref15_Right.calls k a0_0 _ _ l0_1 true _ ?side1 ?side2 A9.out).mono ?_); (case side1 => repeat (first | exact (Kd.C_below HR0_1.out (by repeat (first | (with_reducible first | exact HB.out | apply below_alloc | apply pw_below_drewN | apply below_drew1 | refine below_set ?_ GE251.out) | exact HB.out))) | (with_reducible refine Kd.C_alloc ?_ _) | (with_reducible refine Kd.C_drewN ?_ _) | (with_reducible refine Kd.C_drew ?_))); (case side2 => exact HC0_1.out); rintro e w15 ⟨rfl, hb⟩; have n0_ := Aside0.mk (blk_below (g := gb251) (o := .cells #[.int .i64 a0_0, .slice A0_1 l0_1.length c0_1] 24 (0, 0)) (by (with_reducible repeat (first | refine blk_drewN ?_ _ | refine blk_drew ?_ | refine blk_alloc ?_ _)); exact BK251.out) hb); have n1_ := Aside0.mk (below_step (by repeat (first | (with_reducible first | exact HB.out | apply below_alloc | apply pw_below_drewN | apply below_drew1 | refine below_set ?_ GE251.out) | exact HB.out)) hb); clear BK251; clear HB; have BK251 := n0_; have HB := n1_; clear n0_ n1_; (try clear hb); (try clear hb2); (try clear hk); (try clear hi); have hcz16_0 : w15.cell? ⟨gb251, 0, none⟩ = some (.int .i64 a0_0) := (blk_cell BK251.out 0).trans rfl; have hcz16_1 : w15.cell? ⟨gb251, 1, none⟩ = some (.slice A0_1 l0_1.length c0_1) := (blk_cell BK251.out 1).trans rfl; have hfz16_0 := blk_frozen BK251.out 0; have hfz16_1 := blk_frozen BK251.out 1) | (go_at_call 14; (with_reducible refine (switchboardref15_Tokens.calls k a0_0 _ _ l0_1 _ _ l1 t255 _ ?side1 ?side2 ?side3 ?side4 A11.out).mono ?_); (case side1 => repeat (first | exact (Kd.C_below HR0_1.out HB.out) | (with_reducible refine Kd.C_alloc ?_ _) | (with_reducible refine Kd.C_drewN ?_ _) | (with_reducible refine Kd.C_drew ?_))); (case side2 => exact HC0_1.out); (case side3 => repeat (first | exact (Kd.C_below HR1.out HB.out) | (with_reducible refine Kd.C_alloc ?_ _) | (with_reducible refine Kd.C_drewN ?_ _) | (with_reducible refine Kd.C_drew ?_))); (case side4 => exact HC1.out); rintro e w17 ⟨rfl, hb⟩; have n0_ := Aside0.mk (blk_below (g := gb251) (o := .cells #[.int .i64 a0_0, .slice A0_1 l0_1.length c0_1] 24 (0, 0)) (by (with_reducible repeat (first | refine blk_drewN ?_ _ | refine blk_drew ?_ | refine blk_alloc ?_ _)); exact BK251.out) hb); have n1_ := Aside0.mk (below_step (by repeat (first | (with_reducible first | exact HB.out | apply below_alloc | apply pw_below_drewN | apply below_drew1 | refine below_set ?_ GE251.out) | exact HB.out)) hb); clear BK251; clear HB; have BK251 := n0_; have HB := n1_; clear n0_ n1_; (try clear hb); (try clear hb2); (try clear hk); (try clear hi)))
          repeat (go_quiet (first | (go_at_call 9; (with_reducible refine (switchboardref15_Small.calls k a0_0 _ _ l0_1 true _ ?side1 ?side2 A5.out).mono ?_); (case side1 => repeat (first | exact (Kd.C_below HR0_1.out HB.out) | (with_reducible refine Kd.C_alloc ?_ _) | (with_reducible refine Kd.C_drewN ?_ _) | (with_reducible refine Kd.C_drew ?_))); (case side2 => exact HC0_1.out); rintro e w13 ⟨rfl, hb⟩; have n0_ := Aside0.mk (blk_below (g := gb251) (o := .cells #[.int .i64 a0_0, .slice A0_1 l0_1.length c0_1] 24 (0, 0)) (by (with_reducible repeat (first | refine blk_drewN ?_ _ | refine blk_drew ?_ | refine blk_alloc ?_ _)); exact BK251.out) hb); have n1_ := Aside0.mk (below_step (by repeat (first | (with_reducible first | exact HB.out | apply below_alloc | apply pw_below_drewN | apply below_drew1 | refine below_set ?_ GE251.out) | exact HB.out)) hb); clear BK251; clear HB; have BK251 := n0_; have HB := n1_; clear n0_ n1_; (try clear hb); (try clear hb2); (try clear hk); (try clear hi)) | (go_at_call 10; (with_reducible refine (switchboardref03_Small.calls k _ _ l1 true _ ?side1 ?side2 A7.out).mono ?_); (case side1 => repeat (first | exact (Kd.C_below HR1.out HB.out) | (with_reducible refine Kd.C_alloc ?_ _) | (with_reducible refine Kd.C_drewN ?_ _) | (with_reducible refine Kd.C_drew ?_))); (case side2 => exact HC1.out); rintro e w' ⟨rfl, ⟨nd, rfl⟩⟩; (try first | exact ⟨rfl, _, World.drewN_drewN _ _ _⟩ | exact ⟨rfl, _, Eq.trans (World.drewN_drewN _ _ _) (congrArg (World.drewN _) (Nat.add_assoc _ _ _))⟩); have hcz14_0 : w13.cell? ⟨gb251, 0, none⟩ = some (.int .i64 a0_0) := (blk_cell BK251.out 0).trans rfl; have hcz14_1 : w13.cell? ⟨gb251, 1, none⟩ = some (.slice A0_1 l0_1.length c0_1) := (blk_cell BK251.out 1).trans rfl; have hfz14_0 := blk_frozen BK251.out 0; have hfz14_1 := blk_frozen BK251.out 1) | (go_at_call 13; (with_reducible refine (switchboardref15_Right.calls k a0_0 _ _ l0_1 true _ ?side1 ?side2 A9.out).mono ?_); (case side1 => repeat (first | exact (Kd.C_below HR0_1.out (by repeat (first | (with_reducible first | exact HB.out | apply below_alloc | apply pw_below_drewN | apply below_drew1 | refine below_set ?_ GE251.out) | exact HB.out))) | (with_reducible refine Kd.C_alloc ?_ _) | (with_reducible refine Kd.C_drewN ?_ _) | (with_reducible refine Kd.C_drew ?_))); (case side2 => exact HC0_1.out); rintro e w15 ⟨rfl, hb⟩; have n0_ := Aside0.mk (blk_below (g := gb251) (o := .cells #[.int .i64 a0_0, .slice A0_1 l0_1.length c0_1] 24 (0, 0)) (by (with_reducible repeat (first | refine blk_drewN ?_ _ | refine blk_drew ?_ | refine blk_alloc ?_ _)); exact BK251.out) hb); have n1_ := Aside0.mk (below_step (by repeat (first | (with_reducible first | exact HB.out | apply below_alloc | apply pw_below_drewN | apply below_drew1 | refine below_set ?_ GE251.out) | exact HB.out)) hb); clear BK251; clear HB; have BK251 := n0_; have HB := n1_; clear n0_ n1_; (try clear hb); (try clear hb2); (try clear hk); (try clear hi); have hcz16_0 : w15.cell? ⟨gb251, 0, none⟩ = some (.int .i64 a0_0) := (blk_cell BK251.out 0).trans rfl; have hcz16_1 : w15.cell? ⟨gb251, 1, none⟩ = some (.slice A0_1 l0_1.length c0_1) := (blk_cell BK251.out 1).trans rfl; have hfz16_0 := blk_frozen BK251.out 0; have hfz16_1 := blk_frozen BK251.out 1) | (go_at_call 14; (with_reducible refine (switchboardref15_Tokens.calls k a0_0 _ _ l0_1 _ _ l1 t255 _ ?side1 ?side2 ?side3 ?side4 A11.out).mono ?_); (case side1 => repeat (first | exact (Kd.C_below HR0_1.out HB.out) | (with_reducible refine Kd.C_alloc ?_ _) | (with_reducible refine Kd.C_drewN ?_ _) | (with_reducible refine Kd.C_drew ?_))); (case side2 => exact HC0_1.out); (case side3 => repeat (first | exact (Kd.C_below HR1.out HB.out) | (with_reducible refine Kd.C_alloc ?_ _) | (with_reducible refine Kd.C_drewN ?_ _) | (with_reducible refine Kd.C_drew ?_))); (case side4 => exact HC1.out); rintro e w17 ⟨rfl, hb⟩; have n0_ := Aside0.mk (blk_below (g := gb251) (o := .cells #[.int .i64 a0_0, .slice A0_1 l0_1.length c0_1] 24 (0, 0)) (by (with_reducible repeat (first | refine blk_drewN ?_ _ | refine blk_drew ?_ | refine blk_alloc ?_ _)); exact BK251.out) hb); have n1_ := Aside0.mk (below_step (by repeat (first | (with_reducible first | exact HB.out | apply below_alloc | apply pw_below_drewN | apply below_drew1 | refine below_set ?_ GE251.out) | exact HB.out)) hb); clear BK251; clear HB; have BK251 := n0_; have HB := n1_; clear n0_ n1_; (try clear hb); (try clear hb2); (try clear hk); (try clear hi))); try go_wp2_with (first | (go_at_call 9; (with_reducible refine (switchboardref15_Small.calls k a0_0 _ _ l0_1 true _ ?side1 ?side2 A5.out).mono ?_); (case side1 => repeat (first | exact (Kd.C_below HR0_1.out HB.out) | (with_reducible refine Kd.C_alloc ?_ _) | (with_reducible refine Kd.C_drewN ?_ _) | (with_reducible refine Kd.C_drew ?_))); (case side2 => exact HC0_1.out); rintro e w13 ⟨rfl, hb⟩; have n0_ := Aside0.mk (blk_below (g := gb251) (o := .cells #[.int .i64 a0_0, .slice A0_1 l0_1.length c0_1] 24 (0, 0)) (by (with_reducible repeat (first | refine blk_drewN ?_ _ | refine blk_drew ?_ | refine blk_alloc ?_ _)); exact BK251.out) hb); have n1_ := Aside0.mk (below_step (by repeat (first | (with_reducible first | exact HB.out | apply below_alloc | apply pw_below_drewN | apply below_drew1 | refine below_set ?_ GE251.out) | exact HB.out)) hb); clear BK251; clear HB; have BK251 := n0_; have HB := n1_; clear n0_ n1_; (try clear hb); (try clear hb2); (try clear hk); (try clear hi)) | (go_at_call 10; (with_reducible refine (switchboardref03_Small.calls k _ _ l1 true _ ?side1 ?side2 A7.out).mono ?_); (case side1 => repeat (first | exact (Kd.C_below HR1.out HB.out) | (with_reducible refine Kd.C_alloc ?_ _) | (with_reducible refine Kd.C_drewN ?_ _) | (with_reducible refine Kd.C_drew ?_))); (case side2 => exact HC1.out); rintro e w' ⟨rfl, ⟨nd, rfl⟩⟩; (try first | exact ⟨rfl, _, World.drewN_drewN _ _ _⟩ | exact ⟨rfl, _, Eq.trans (World.drewN_drewN _ _ _) (congrArg (World.drewN _) (Nat.add_assoc _ _ _))⟩); have hcz14_0 : w13.cell? ⟨gb251, 0, none⟩ = some (.int .i64 a0_0) := (blk_cell BK251.out 0).trans rfl; have hcz14_1 : w13.cell? ⟨gb251, 1, none⟩ = some (.slice A0_1 l0_1.length c0_1) := (blk_cell BK251.out 1).trans rfl; have hfz14_0 := blk_frozen BK251.out 0; have hfz14_1 := blk_frozen BK251.out 1) | (go_at_call 13; (with_reducible refine (switchboardref15_Right.calls k a0_0 _ _ l0_1 true _ ?side1 ?side2 A9.out).mono ?_); (case side1 => repeat (first | exact (Kd.C_below HR0_1.out (by repeat (first | (with_reducible first | exact HB.out | apply below_alloc | apply pw_below_drewN | apply below_drew1 | refine below_set ?_ GE251.out) | exact HB.out))) | (with_reducible refine Kd.C_alloc ?_ _) | (with_reducible refine Kd.C_drewN ?_ _) | (with_reducible refine Kd.C_drew ?_))); (case side2 => exact HC0_1.out); rintro e w15 ⟨rfl, hb⟩; have n0_ := Aside0.mk (blk_below (g := gb251) (o := .cells #[.int .i64 a0_0, .slice A0_1 l0_1.length c0_1] 24 (0, 0)) (by (with_reducible repeat (first | refine blk_drewN ?_ _ | refine blk_drew ?_ | refine blk_alloc ?_ _)); exact BK251.out) hb); have n1_ := Aside0.mk (below_step (by repeat (first | (with_reducible first | exact HB.out | apply below_alloc | apply pw_below_drewN | apply below_drew1 | refine below_set ?_ GE251.out) | exact HB.out)) hb); clear BK251; clear HB; have BK251 := n0_; have HB := n1_; clear n0_ n1_; (try clear hb); (try clear hb2); (try clear hk); (try clear hi); have hcz16_0 : w15.cell? ⟨gb251, 0, none⟩ = some (.int .i64 a0_0) := (blk_cell BK251.out 0).trans rfl; have hcz16_1 : w15.cell? ⟨gb251, 1, none⟩ = some (.slice A0_1 l0_1.length c0_1) := (blk_cell BK251.out 1).trans rfl; have hfz16_0 := blk_frozen BK251.out 0; have hfz16_1 := blk_frozen BK251.out 1) | (go_at_call 14; (with_reducible refine (switchboardref15_Tokens.calls k a0_0 _ _ l0_1 _ _ l1 t255 _ ?side1 ?side2 ?side3 ?side4 A11.out).mono ?_); (case side1 => repeat (first | exact (Kd.C_below HR0_1.out HB.out) | (with_reducible refine Kd.C_alloc ?_ _) | (with_reducible refine Kd.C_drewN ?_ _) | (with_reducible refine Kd.C_drew ?_))); (case side2 => exact HC0_1.out); (case side3 => repeat (first | exact (Kd.C_below HR1.out HB.out) | (with_reducible refine Kd.C_alloc ?_ _) | (with_reducible refine Kd.C_drewN ?_ _) | (with_reducible refine Kd.C_drew ?_))); (case side4 => exact HC1.out); rintro e w17 ⟨rfl, hb⟩; have n0_ := Aside0.mk (blk_below (g := gb251) (o := .cells #[.int .i64 a0_0, .slice A0_1 l0_1.length c0_1] 24 (0, 0)) (by (with_reducible repeat (first | refine blk_drewN ?_ _ | refine blk_drew ?_ | refine blk_alloc ?_ _)); exact BK251.out) hb); have n1_ := Aside0.mk (below_step (by repeat (first | (with_reducible first | exact HB.out | apply below_alloc | apply pw_below_drewN | apply below_drew1 | refine below_set ?_ GE251.out) | exact HB.out)) hb); clear BK251; clear HB; have BK251 := n0_; have HB := n1_; clear n0_ n1_; (try clear hb); (try clear hb2); (try clear hk); (try clear hi))))
          go_meet
          case rel => exact ⟨_, (!t255), (by first | rfl | (simp; done) | (simp [*]; done)), H', ⟨by first | omega | exact Nat.le_refl _⟩, ⟨by (with_reducible repeat (first | refine blk_drewN ?_ _ | refine blk_drew ?_ | refine blk_alloc ?_ _)); exact BK251.out⟩, ⟨by repeat (first | (with_reducible first | exact HB.out | apply below_alloc | apply pw_below_drewN | apply below_drew1 | refine below_set ?_ GE251.out) | exact HB.out)⟩⟩
        · replace c10 := Bool.eq_false_iff.mpr c10
          subst c10
          have H1 : (switchboardlaw15_ModelParts.j0 k l1 true a0_0 l0_1) = some true := by rw [if_neg (show ¬ (false = true) by decide)] at H; exact H
          clear H
          have H := H1
          clear H1
          have H' := Aside0.mk H
          clear H
          have hcz18_0 : w4.cell? ⟨gb251, 0, none⟩ = some (.int .i64 a0_0) := (blk_cell BK251.out 0).trans rfl
          have hcz18_1 : w4.cell? ⟨gb251, 1, none⟩ = some (.slice A0_1 l0_1.length c0_1) := (blk_cell BK251.out 1).trans rfl
          have hfz18_0 := blk_frozen BK251.out 0
          have hfz18_1 := blk_frozen BK251.out 1
          go_wp2_with (first | (go_at_call 9; (with_reducible refine (switchboardref15_Small.calls k a0_0 _ _ l0_1 true _ ?side1 ?side2 A5.out).mono ?_); (case side1 => repeat (first | exact (Kd.C_below HR0_1.out HB.out) | (with_reducible refine Kd.C_alloc ?_ _) | (with_reducible refine Kd.C_drewN ?_ _) | (with_reducible refine Kd.C_drew ?_))); (case side2 => exact HC0_1.out); rintro e w19 ⟨rfl, hb⟩; have n0_ := Aside0.mk (blk_below (g := gb251) (o := .cells #[.int .i64 a0_0, .slice A0_1 l0_1.length c0_1] 24 (0, 0)) (by (with_reducible repeat (first | refine blk_drewN ?_ _ | refine blk_drew ?_ | refine blk_alloc ?_ _)); exact BK251.out) hb); have n1_ := Aside0.mk (below_step (by repeat (first | (with_reducible first | exact HB.out | apply below_alloc | apply pw_below_drewN | apply below_drew1 | refine below_set ?_ GE251.out) | exact HB.out)) hb); clear BK251; clear HB; have BK251 := n0_; have HB := n1_; clear n0_ n1_; (try clear hb); (try clear hb2); (try clear hk); (try clear hi)) | (go_at_call 10; (with_reducible refine (switchboardref03_Small.calls k _ _ l1 true _ ?side1 ?side2 A7.out).mono ?_); (case side1 => repeat (first | exact (Kd.C_below HR1.out HB.out) | (with_reducible refine Kd.C_alloc ?_ _) | (with_reducible refine Kd.C_drewN ?_ _) | (with_reducible refine Kd.C_drew ?_))); (case side2 => exact HC1.out); rintro e w' ⟨rfl, ⟨nd, rfl⟩⟩; (try first | exact ⟨rfl, _, World.drewN_drewN _ _ _⟩ | exact ⟨rfl, _, Eq.trans (World.drewN_drewN _ _ _) (congrArg (World.drewN _) (Nat.add_assoc _ _ _))⟩); have hcz20_0 : w19.cell? ⟨gb251, 0, none⟩ = some (.int .i64 a0_0) := (blk_cell BK251.out 0).trans rfl; have hcz20_1 : w19.cell? ⟨gb251, 1, none⟩ = some (.slice A0_1 l0_1.length c0_1) := (blk_cell BK251.out 1).trans rfl; have hfz20_0 := blk_frozen BK251.out 0; have hfz20_1 := blk_frozen BK251.out 1) | (go_at_call 13; (with_reducible refine (switchboardref15_Right.calls k a0_0 _ _ l0_1 false _ ?side1 ?side2 A9.out).mono ?_); (case side1 => repeat (first | exact (Kd.C_below HR0_1.out (by repeat (first | (with_reducible first | exact HB.out | apply below_alloc | apply pw_below_drewN | apply below_drew1 | refine below_set ?_ GE251.out) | exact HB.out))) | (with_reducible refine Kd.C_alloc ?_ _) | (with_reducible refine Kd.C_drewN ?_ _) | (with_reducible refine Kd.C_drew ?_))); (case side2 => exact HC0_1.out); rintro e w21 ⟨rfl, hb⟩; have n0_ := Aside0.mk (blk_below (g := gb251) (o := .cells #[.int .i64 a0_0, .slice A0_1 l0_1.length c0_1] 24 (0, 0)) (by (with_reducible repeat (first | refine blk_drewN ?_ _ | refine blk_drew ?_ | refine blk_alloc ?_ _)); exact BK251.out) hb); have n1_ := Aside0.mk (below_step (by repeat (first | (with_reducible first | exact HB.out | apply below_alloc | apply pw_below_drewN | apply below_drew1 | refine below_set ?_ GE251.out) | exact HB.out)) hb); clear BK251; clear HB; have BK251 := n0_; have HB := n1_; clear n0_ n1_; (try clear hb); (try clear hb2); (try clear hk); (try clear hi)))
          repeat (go_quiet (first | (go_at_call 9; (with_reducible refine (switchboardref15_Small.calls k a0_0 _ _ l0_1 true _ ?side1 ?side2 A5.out).mono ?_); (case side1 => repeat (first | exact (Kd.C_below HR0_1.out HB.out) | (with_reducible refine Kd.C_alloc ?_ _) | (with_reducible refine Kd.C_drewN ?_ _) | (with_reducible refine Kd.C_drew ?_))); (case side2 => exact HC0_1.out); rintro e w19 ⟨rfl, hb⟩; have n0_ := Aside0.mk (blk_below (g := gb251) (o := .cells #[.int .i64 a0_0, .slice A0_1 l0_1.length c0_1] 24 (0, 0)) (by (with_reducible repeat (first | refine blk_drewN ?_ _ | refine blk_drew ?_ | refine blk_alloc ?_ _)); exact BK251.out) hb); have n1_ := Aside0.mk (below_step (by repeat (first | (with_reducible first | exact HB.out | apply below_alloc | apply pw_below_drewN | apply below_drew1 | refine below_set ?_ GE251.out) | exact HB.out)) hb); clear BK251; clear HB; have BK251 := n0_; have HB := n1_; clear n0_ n1_; (try clear hb); (try clear hb2); (try clear hk); (try clear hi)) | (go_at_call 10; (with_reducible refine (switchboardref03_Small.calls k _ _ l1 true _ ?side1 ?side2 A7.out).mono ?_); (case side1 => repeat (first | exact (Kd.C_below HR1.out HB.out) | (with_reducible refine Kd.C_alloc ?_ _) | (with_reducible refine Kd.C_drewN ?_ _) | (with_reducible refine Kd.C_drew ?_))); (case side2 => exact HC1.out); rintro e w' ⟨rfl, ⟨nd, rfl⟩⟩; (try first | exact ⟨rfl, _, World.drewN_drewN _ _ _⟩ | exact ⟨rfl, _, Eq.trans (World.drewN_drewN _ _ _) (congrArg (World.drewN _) (Nat.add_assoc _ _ _))⟩); have hcz20_0 : w19.cell? ⟨gb251, 0, none⟩ = some (.int .i64 a0_0) := (blk_cell BK251.out 0).trans rfl; have hcz20_1 : w19.cell? ⟨gb251, 1, none⟩ = some (.slice A0_1 l0_1.length c0_1) := (blk_cell BK251.out 1).trans rfl; have hfz20_0 := blk_frozen BK251.out 0; have hfz20_1 := blk_frozen BK251.out 1) | (go_at_call 13; (with_reducible refine (switchboardref15_Right.calls k a0_0 _ _ l0_1 false _ ?side1 ?side2 A9.out).mono ?_); (case side1 => repeat (first | exact (Kd.C_below HR0_1.out (by repeat (first | (with_reducible first | exact HB.out | apply below_alloc | apply pw_below_drewN | apply below_drew1 | refine below_set ?_ GE251.out) | exact HB.out))) | (with_reducible refine Kd.C_alloc ?_ _) | (with_reducible refine Kd.C_drewN ?_ _) | (with_reducible refine Kd.C_drew ?_))); (case side2 => exact HC0_1.out); rintro e w21 ⟨rfl, hb⟩; have n0_ := Aside0.mk (blk_below (g := gb251) (o := .cells #[.int .i64 a0_0, .slice A0_1 l0_1.length c0_1] 24 (0, 0)) (by (with_reducible repeat (first | refine blk_drewN ?_ _ | refine blk_drew ?_ | refine blk_alloc ?_ _)); exact BK251.out) hb); have n1_ := Aside0.mk (below_step (by repeat (first | (with_reducible first | exact HB.out | apply below_alloc | apply pw_below_drewN | apply below_drew1 | refine below_set ?_ GE251.out) | exact HB.out)) hb); clear BK251; clear HB; have BK251 := n0_; have HB := n1_; clear n0_ n1_; (try clear hb); (try clear hb2); (try clear hk); (try clear hi))); try go_wp2_with (first | (go_at_call 9; (with_reducible refine (switchboardref15_Small.calls k a0_0 _ _ l0_1 true _ ?side1 ?side2 A5.out).mono ?_); (case side1 => repeat (first | exact (Kd.C_below HR0_1.out HB.out) | (with_reducible refine Kd.C_alloc ?_ _) | (with_reducible refine Kd.C_drewN ?_ _) | (with_reducible refine Kd.C_drew ?_))); (case side2 => exact HC0_1.out); rintro e w19 ⟨rfl, hb⟩; have n0_ := Aside0.mk (blk_below (g := gb251) (o := .cells #[.int .i64 a0_0, .slice A0_1 l0_1.length c0_1] 24 (0, 0)) (by (with_reducible repeat (first | refine blk_drewN ?_ _ | refine blk_drew ?_ | refine blk_alloc ?_ _)); exact BK251.out) hb); have n1_ := Aside0.mk (below_step (by repeat (first | (with_reducible first | exact HB.out | apply below_alloc | apply pw_below_drewN | apply below_drew1 | refine below_set ?_ GE251.out) | exact HB.out)) hb); clear BK251; clear HB; have BK251 := n0_; have HB := n1_; clear n0_ n1_; (try clear hb); (try clear hb2); (try clear hk); (try clear hi)) | (go_at_call 10; (with_reducible refine (switchboardref03_Small.calls k _ _ l1 true _ ?side1 ?side2 A7.out).mono ?_); (case side1 => repeat (first | exact (Kd.C_below HR1.out HB.out) | (with_reducible refine Kd.C_alloc ?_ _) | (with_reducible refine Kd.C_drewN ?_ _) | (with_reducible refine Kd.C_drew ?_))); (case side2 => exact HC1.out); rintro e w' ⟨rfl, ⟨nd, rfl⟩⟩; (try first | exact ⟨rfl, _, World.drewN_drewN _ _ _⟩ | exact ⟨rfl, _, Eq.trans (World.drewN_drewN _ _ _) (congrArg (World.drewN _) (Nat.add_assoc _ _ _))⟩); have hcz20_0 : w19.cell? ⟨gb251, 0, none⟩ = some (.int .i64 a0_0) := (blk_cell BK251.out 0).trans rfl; have hcz20_1 : w19.cell? ⟨gb251, 1, none⟩ = some (.slice A0_1 l0_1.length c0_1) := (blk_cell BK251.out 1).trans rfl; have hfz20_0 := blk_frozen BK251.out 0; have hfz20_1 := blk_frozen BK251.out 1) | (go_at_call 13; (with_reducible refine (switchboardref15_Right.calls k a0_0 _ _ l0_1 false _ ?side1 ?side2 A9.out).mono ?_); (case side1 => repeat (first | exact (Kd.C_below HR0_1.out (by repeat (first | (with_reducible first | exact HB.out | apply below_alloc | apply pw_below_drewN | apply below_drew1 | refine below_set ?_ GE251.out) | exact HB.out))) | (with_reducible refine Kd.C_alloc ?_ _) | (with_reducible refine Kd.C_drewN ?_ _) | (with_reducible refine Kd.C_drew ?_))); (case side2 => exact HC0_1.out); rintro e w21 ⟨rfl, hb⟩; have n0_ := Aside0.mk (blk_below (g := gb251) (o := .cells #[.int .i64 a0_0, .slice A0_1 l0_1.length c0_1] 24 (0, 0)) (by (with_reducible repeat (first | refine blk_drewN ?_ _ | refine blk_drew ?_ | refine blk_alloc ?_ _)); exact BK251.out) hb); have n1_ := Aside0.mk (below_step (by repeat (first | (with_reducible first | exact HB.out | apply below_alloc | apply pw_below_drewN | apply below_drew1 | refine below_set ?_ GE251.out) | exact HB.out)) hb); clear BK251; clear HB; have BK251 := n0_; have HB := n1_; clear n0_ n1_; (try clear hb); (try clear hb2); (try clear hk); (try clear hi))))
          go_meet
          case rel => exact ⟨_, (true), (by first | rfl | (simp; done) | (simp [*]; done)), H', ⟨by first | omega | exact Nat.le_refl _⟩, ⟨by (with_reducible repeat (first | refine blk_drewN ?_ _ | refine blk_drew ?_ | refine blk_alloc ?_ _)); exact BK251.out⟩, ⟨by repeat (first | (with_reducible first | exact HB.out | apply below_alloc | apply pw_below_drewN | apply below_drew1 | refine below_set ?_ GE251.out) | exact HB.out)⟩⟩
      · replace c8 := Bool.eq_false_iff.mpr c8
        subst c8
        have H1 : (switchboardlaw15_ModelParts.j0 k l1 true a0_0 l0_1) = some true := by rw [if_neg (show ¬ (false = true) by decide)] at H; exact H
        clear H
        have H := H1
        clear H1
        have H' := Aside0.mk H
        clear H
        have hcz22_0 : w4.cell? ⟨gb251, 0, none⟩ = some (.int .i64 a0_0) := (blk_cell BK251.out 0).trans rfl
        have hcz22_1 : w4.cell? ⟨gb251, 1, none⟩ = some (.slice A0_1 l0_1.length c0_1) := (blk_cell BK251.out 1).trans rfl
        have hfz22_0 := blk_frozen BK251.out 0
        have hfz22_1 := blk_frozen BK251.out 1
        go_wp2_with (first | (go_at_call 9; (with_reducible refine (switchboardref15_Small.calls k a0_0 _ _ l0_1 true _ ?side1 ?side2 A5.out).mono ?_); (case side1 => repeat (first | exact (Kd.C_below HR0_1.out HB.out) | (with_reducible refine Kd.C_alloc ?_ _) | (with_reducible refine Kd.C_drewN ?_ _) | (with_reducible refine Kd.C_drew ?_))); (case side2 => exact HC0_1.out); rintro e w23 ⟨rfl, hb⟩; have n0_ := Aside0.mk (blk_below (g := gb251) (o := .cells #[.int .i64 a0_0, .slice A0_1 l0_1.length c0_1] 24 (0, 0)) (by (with_reducible repeat (first | refine blk_drewN ?_ _ | refine blk_drew ?_ | refine blk_alloc ?_ _)); exact BK251.out) hb); have n1_ := Aside0.mk (below_step (by repeat (first | (with_reducible first | exact HB.out | apply below_alloc | apply pw_below_drewN | apply below_drew1 | refine below_set ?_ GE251.out) | exact HB.out)) hb); clear BK251; clear HB; have BK251 := n0_; have HB := n1_; clear n0_ n1_; (try clear hb); (try clear hb2); (try clear hk); (try clear hi)) | (go_at_call 10; (with_reducible refine (switchboardref03_Small.calls k _ _ l1 false _ ?side1 ?side2 A7.out).mono ?_); (case side1 => repeat (first | exact (Kd.C_below HR1.out HB.out) | (with_reducible refine Kd.C_alloc ?_ _) | (with_reducible refine Kd.C_drewN ?_ _) | (with_reducible refine Kd.C_drew ?_))); (case side2 => exact HC1.out); rintro e w' ⟨rfl, ⟨nd, rfl⟩⟩; (try first | exact ⟨rfl, _, World.drewN_drewN _ _ _⟩ | exact ⟨rfl, _, Eq.trans (World.drewN_drewN _ _ _) (congrArg (World.drewN _) (Nat.add_assoc _ _ _))⟩)))
        repeat (go_quiet (first | (go_at_call 9; (with_reducible refine (switchboardref15_Small.calls k a0_0 _ _ l0_1 true _ ?side1 ?side2 A5.out).mono ?_); (case side1 => repeat (first | exact (Kd.C_below HR0_1.out HB.out) | (with_reducible refine Kd.C_alloc ?_ _) | (with_reducible refine Kd.C_drewN ?_ _) | (with_reducible refine Kd.C_drew ?_))); (case side2 => exact HC0_1.out); rintro e w23 ⟨rfl, hb⟩; have n0_ := Aside0.mk (blk_below (g := gb251) (o := .cells #[.int .i64 a0_0, .slice A0_1 l0_1.length c0_1] 24 (0, 0)) (by (with_reducible repeat (first | refine blk_drewN ?_ _ | refine blk_drew ?_ | refine blk_alloc ?_ _)); exact BK251.out) hb); have n1_ := Aside0.mk (below_step (by repeat (first | (with_reducible first | exact HB.out | apply below_alloc | apply pw_below_drewN | apply below_drew1 | refine below_set ?_ GE251.out) | exact HB.out)) hb); clear BK251; clear HB; have BK251 := n0_; have HB := n1_; clear n0_ n1_; (try clear hb); (try clear hb2); (try clear hk); (try clear hi)) | (go_at_call 10; (with_reducible refine (switchboardref03_Small.calls k _ _ l1 false _ ?side1 ?side2 A7.out).mono ?_); (case side1 => repeat (first | exact (Kd.C_below HR1.out HB.out) | (with_reducible refine Kd.C_alloc ?_ _) | (with_reducible refine Kd.C_drewN ?_ _) | (with_reducible refine Kd.C_drew ?_))); (case side2 => exact HC1.out); rintro e w' ⟨rfl, ⟨nd, rfl⟩⟩; (try first | exact ⟨rfl, _, World.drewN_drewN _ _ _⟩ | exact ⟨rfl, _, Eq.trans (World.drewN_drewN _ _ _) (congrArg (World.drewN _) (Nat.add_assoc _ _ _))⟩))); try go_wp2_with (first | (go_at_call 9; (with_reducible refine (switchboardref15_Small.calls k a0_0 _ _ l0_1 true _ ?side1 ?side2 A5.out).mono ?_); (case side1 => repeat (first | exact (Kd.C_below HR0_1.out HB.out) | (with_reducible refine Kd.C_alloc ?_ _) | (with_reducible refine Kd.C_drewN ?_ _) | (with_reducible refine Kd.C_drew ?_))); (case side2 => exact HC0_1.out); rintro e w23 ⟨rfl, hb⟩; have n0_ := Aside0.mk (blk_below (g := gb251) (o := .cells #[.int .i64 a0_0, .slice A0_1 l0_1.length c0_1] 24 (0, 0)) (by (with_reducible repeat (first | refine blk_drewN ?_ _ | refine blk_drew ?_ | refine blk_alloc ?_ _)); exact BK251.out) hb); have n1_ := Aside0.mk (below_step (by repeat (first | (with_reducible first | exact HB.out | apply below_alloc | apply pw_below_drewN | apply below_drew1 | refine below_set ?_ GE251.out) | exact HB.out)) hb); clear BK251; clear HB; have BK251 := n0_; have HB := n1_; clear n0_ n1_; (try clear hb); (try clear hb2); (try clear hk); (try clear hi)) | (go_at_call 10; (with_reducible refine (switchboardref03_Small.calls k _ _ l1 false _ ?side1 ?side2 A7.out).mono ?_); (case side1 => repeat (first | exact (Kd.C_below HR1.out HB.out) | (with_reducible refine Kd.C_alloc ?_ _) | (with_reducible refine Kd.C_drewN ?_ _) | (with_reducible refine Kd.C_drew ?_))); (case side2 => exact HC1.out); rintro e w' ⟨rfl, ⟨nd, rfl⟩⟩; (try first | exact ⟨rfl, _, World.drewN_drewN _ _ _⟩ | exact ⟨rfl, _, Eq.trans (World.drewN_drewN _ _ _) (congrArg (World.drewN _) (Nat.add_assoc _ _ _))⟩))))
        go_meet
        case rel => exact ⟨_, (true), (by first | rfl | (simp; done) | (simp [*]; done)), H', ⟨by first | omega | exact Nat.le_refl _⟩, ⟨by (with_reducible repeat (first | refine blk_drewN ?_ _ | refine blk_drew ?_ | refine blk_alloc ?_ _)); exact BK251.out⟩, ⟨by repeat (first | (with_reducible first | exact HB.out | apply below_alloc | apply pw_below_drewN | apply below_drew1 | refine below_set ?_ GE251.out) | exact HB.out)⟩⟩
    · replace c6 := Bool.eq_false_iff.mpr c6
      subst c6
      have H1 : (switchboardlaw15_ModelParts.j0 k l1 true a0_0 l0_1) = some true := by rw [if_neg (show ¬ (false = true) by decide)] at H; exact H
      clear H
      have H := H1
      clear H1
      have H' := Aside0.mk H
      clear H
      have hcz24_0 : w4.cell? ⟨gb251, 0, none⟩ = some (.int .i64 a0_0) := (blk_cell BK251.out 0).trans rfl
      have hcz24_1 : w4.cell? ⟨gb251, 1, none⟩ = some (.slice A0_1 l0_1.length c0_1) := (blk_cell BK251.out 1).trans rfl
      have hfz24_0 := blk_frozen BK251.out 0
      have hfz24_1 := blk_frozen BK251.out 1
      go_wp2_with (first | (go_at_call 9; (with_reducible refine (switchboardref15_Small.calls k a0_0 _ _ l0_1 false _ ?side1 ?side2 A5.out).mono ?_); (case side1 => repeat (first | exact (Kd.C_below HR0_1.out HB.out) | (with_reducible refine Kd.C_alloc ?_ _) | (with_reducible refine Kd.C_drewN ?_ _) | (with_reducible refine Kd.C_drew ?_))); (case side2 => exact HC0_1.out); rintro e w25 ⟨rfl, hb⟩; have n0_ := Aside0.mk (blk_below (g := gb251) (o := .cells #[.int .i64 a0_0, .slice A0_1 l0_1.length c0_1] 24 (0, 0)) (by (with_reducible repeat (first | refine blk_drewN ?_ _ | refine blk_drew ?_ | refine blk_alloc ?_ _)); exact BK251.out) hb); have n1_ := Aside0.mk (below_step (by repeat (first | (with_reducible first | exact HB.out | apply below_alloc | apply pw_below_drewN | apply below_drew1 | refine below_set ?_ GE251.out) | exact HB.out)) hb); clear BK251; clear HB; have BK251 := n0_; have HB := n1_; clear n0_ n1_; (try clear hb); (try clear hb2); (try clear hk); (try clear hi)))
      repeat (go_quiet (first | (go_at_call 9; (with_reducible refine (switchboardref15_Small.calls k a0_0 _ _ l0_1 false _ ?side1 ?side2 A5.out).mono ?_); (case side1 => repeat (first | exact (Kd.C_below HR0_1.out HB.out) | (with_reducible refine Kd.C_alloc ?_ _) | (with_reducible refine Kd.C_drewN ?_ _) | (with_reducible refine Kd.C_drew ?_))); (case side2 => exact HC0_1.out); rintro e w25 ⟨rfl, hb⟩; have n0_ := Aside0.mk (blk_below (g := gb251) (o := .cells #[.int .i64 a0_0, .slice A0_1 l0_1.length c0_1] 24 (0, 0)) (by (with_reducible repeat (first | refine blk_drewN ?_ _ | refine blk_drew ?_ | refine blk_alloc ?_ _)); exact BK251.out) hb); have n1_ := Aside0.mk (below_step (by repeat (first | (with_reducible first | exact HB.out | apply below_alloc | apply pw_below_drewN | apply below_drew1 | refine below_set ?_ GE251.out) | exact HB.out)) hb); clear BK251; clear HB; have BK251 := n0_; have HB := n1_; clear n0_ n1_; (try clear hb); (try clear hb2); (try clear hk); (try clear hi))); try go_wp2_with (first | (go_at_call 9; (with_reducible refine (switchboardref15_Small.calls k a0_0 _ _ l0_1 false _ ?side1 ?side2 A5.out).mono ?_); (case side1 => repeat (first | exact (Kd.C_below HR0_1.out HB.out) | (with_reducible refine Kd.C_alloc ?_ _) | (with_reducible refine Kd.C_drewN ?_ _) | (with_reducible refine Kd.C_drew ?_))); (case side2 => exact HC0_1.out); rintro e w25 ⟨rfl, hb⟩; have n0_ := Aside0.mk (blk_below (g := gb251) (o := .cells #[.int .i64 a0_0, .slice A0_1 l0_1.length c0_1] 24 (0, 0)) (by (with_reducible repeat (first | refine blk_drewN ?_ _ | refine blk_drew ?_ | refine blk_alloc ?_ _)); exact BK251.out) hb); have n1_ := Aside0.mk (below_step (by repeat (first | (with_reducible first | exact HB.out | apply below_alloc | apply pw_below_drewN | apply below_drew1 | refine below_set ?_ GE251.out) | exact HB.out)) hb); clear BK251; clear HB; have BK251 := n0_; have HB := n1_; clear n0_ n1_; (try clear hb); (try clear hb2); (try clear hk); (try clear hi))))
      go_meet
      case rel => exact ⟨_, (true), (by first | rfl | (simp; done) | (simp [*]; done)), H', ⟨by first | omega | exact Nat.le_refl _⟩, ⟨by (with_reducible repeat (first | refine blk_drewN ?_ _ | refine blk_drew ?_ | refine blk_alloc ?_ _)); exact BK251.out⟩, ⟨by repeat (first | (with_reducible first | exact HB.out | apply below_alloc | apply pw_below_drewN | apply below_drew1 | refine below_set ?_ GE251.out) | exact HB.out)⟩⟩
  case rest =>
    clear HC3
    try clear c1
    try clear p2
    try clear c6
    try clear c8
    try clear c10
    try clear hcz12_0
    try clear hcz12_1
    try clear hcz14_0
    try clear hcz14_1
    try clear hcz16_0
    try clear hcz16_1
    try clear hcz18_0
    try clear hcz18_1
    try clear hcz20_0
    try clear hcz20_1
    try clear hcz22_0
    try clear hcz22_1
    try clear hcz24_0
    try clear hcz24_1
    try clear hfz12_0
    try clear hfz12_1
    try clear hfz14_0
    try clear hfz14_1
    try clear hfz16_0
    try clear hfz16_1
    try clear hfz18_0
    try clear hfz18_1
    try clear hfz20_0
    try clear hfz20_1
    try clear hfz22_0
    try clear hfz22_1
    try clear hfz24_0
    try clear hfz24_1
    obtain ⟨kq, x29_2, rfl, HA, HJ2, BK251, HB⟩ := hcut
    cases kq with
    | zero => exact absurd HA.out (by simp [switchboardlaw15_ModelParts.j0])
    | succ kj2 =>
      have H := HA.out
      clear HA
      simp only [switchboardlaw15_ModelParts.j0] at H
      by_cases c26 : x29_2 = true
      · subst c26
        have H1 : ((switchboardlaw15_awake.f).bind fun t256 => (some t256)) = some true := by rw [if_pos rfl] at H; exact H
        clear H
        have H := H1
        clear H1
        replace H := Option.bind_eq_some_iff.mp H
        obtain ⟨t256, A270, H⟩ := H
        replace H : (some t256) = some true := H
        have A27 := Aside0.mk A270
        clear A270
        have hr_ := Aside0.mk (Option.some.inj H)
        go_wp2_with (first | (go_at_call 11; (with_reducible refine (switchboardlaw15_awake.calls  t256 _ A27.out).mono ?_); rintro e w28 ⟨rfl, hb⟩; have n0_ := Aside0.mk (blk_below (g := gb251) (o := .cells #[.int .i64 a0_0, .slice A0_1 l0_1.length c0_1] 24 (0, 0)) (by (with_reducible repeat (first | refine blk_drewN ?_ _ | refine blk_drew ?_ | refine blk_alloc ?_ _)); exact BK251.out) hb); have n1_ := Aside0.mk (below_step (by repeat (first | (with_reducible first | exact HB.out | apply below_alloc | apply pw_below_drewN | apply below_drew1 | refine below_set ?_ GE251.out) | exact HB.out)) hb); clear BK251; clear HB; have BK251 := n0_; have HB := n1_; clear n0_ n1_; (try clear hb); (try clear hb2); (try clear hk); (try clear hi)))
        repeat (go_quiet (first | (go_at_call 11; (with_reducible refine (switchboardlaw15_awake.calls  t256 _ A27.out).mono ?_); rintro e w28 ⟨rfl, hb⟩; have n0_ := Aside0.mk (blk_below (g := gb251) (o := .cells #[.int .i64 a0_0, .slice A0_1 l0_1.length c0_1] 24 (0, 0)) (by (with_reducible repeat (first | refine blk_drewN ?_ _ | refine blk_drew ?_ | refine blk_alloc ?_ _)); exact BK251.out) hb); have n1_ := Aside0.mk (below_step (by repeat (first | (with_reducible first | exact HB.out | apply below_alloc | apply pw_below_drewN | apply below_drew1 | refine below_set ?_ GE251.out) | exact HB.out)) hb); clear BK251; clear HB; have BK251 := n0_; have HB := n1_; clear n0_ n1_; (try clear hb); (try clear hb2); (try clear hk); (try clear hi))); try go_wp2_with (first | (go_at_call 11; (with_reducible refine (switchboardlaw15_awake.calls  t256 _ A27.out).mono ?_); rintro e w28 ⟨rfl, hb⟩; have n0_ := Aside0.mk (blk_below (g := gb251) (o := .cells #[.int .i64 a0_0, .slice A0_1 l0_1.length c0_1] 24 (0, 0)) (by (with_reducible repeat (first | refine blk_drewN ?_ _ | refine blk_drew ?_ | refine blk_alloc ?_ _)); exact BK251.out) hb); have n1_ := Aside0.mk (below_step (by repeat (first | (with_reducible first | exact HB.out | apply below_alloc | apply pw_below_drewN | apply below_drew1 | refine below_set ?_ GE251.out) | exact HB.out)) hb); clear BK251; clear HB; have BK251 := n0_; have HB := n1_; clear n0_ n1_; (try clear hb); (try clear hb2); (try clear hk); (try clear hi))))
        go_ret
        exact ⟨by first | rfl | exact congrArg (fun b_ => Ending.returned (Value.bool b_)) hr_.out | exact congrArg (fun b_ => Ending.returned (Value.bool b_)) hr_.out | (simp [errW_none, errW_some] <;> rfl) | (simp [*, errW_none, errW_some] <;> rfl), by repeat (first | (with_reducible first | exact HB.out | apply below_alloc | apply pw_below_drewN | apply below_drew1 | refine below_set ?_ GE251.out) | exact HB.out)⟩
      · replace c26 := Bool.eq_false_iff.mpr c26
        subst c26
        have H1 : (if 0 < (l0_1.length : Int) then ((model_Parts.f kj2 ((rd_T37 l0_1 0).f0) ((rd_T37 l0_1 0).f1) ((rd_T37 l0_1 0).f2) l1).bind fun t258 => (if 0 ≤ (((rd_T37 l0_1 0).f1).length : Int) then (if ((((rd_T37 l0_1 0).f1).length : Int) : Int).toNat ≤ 35184372088832 then (switchboardlaw15_ModelParts.l0 kj2 l1 t258 (-1) (List.replicate ((((rd_T37 l0_1 0).f1).length : Int) : Int).toNat 0) t258 (t258.length : Int) 0 a0_0 l0_1) else (none)) else (none))) else (none)) = some true := by rw [if_neg (show ¬ (false = true) by decide)] at H; exact H
        clear H
        have H := H1
        clear H1
        by_cases c29 : 0 < (l0_1.length : Int)
        · rw [if_pos c29] at H
          have c29b0 : decide (0 < (l0_1.length : Int)) = true := decide_eq_true c29
          have c29b1 : decide (0 < l0_1.length) = true := decide_eq_true (by omega)
          clear c29
          replace H := Option.bind_eq_some_iff.mp H
          obtain ⟨t258, A300, H⟩ := H
          replace H : (if 0 ≤ (((rd_T37 l0_1 0).f1).length : Int) then (if ((((rd_T37 l0_1 0).f1).length : Int) : Int).toNat ≤ 35184372088832 then (switchboardlaw15_ModelParts.l0 kj2 l1 t258 (-1) (List.replicate ((((rd_T37 l0_1 0).f1).length : Int) : Int).toNat 0) t258 (t258.length : Int) 0 a0_0 l0_1) else (none)) else (none)) = some true := H
          have A30 := Aside0.mk A300
          clear A300
          by_cases c31 : 0 ≤ (((rd_T37 l0_1 0).f1).length : Int)
          · rw [if_pos c31] at H
            have c31b0 := eq_true c31
            have c31b1 : decide (0 ≤ (((rd_T37 l0_1 0).f1).length : Int)) = true := decide_eq_true c31
            clear c31
            by_cases c32 : ((((rd_T37 l0_1 0).f1).length : Int) : Int).toNat ≤ 35184372088832
            · rw [if_pos c32] at H
              have c32b0 := eq_true c32
              have c32b1 : decide (((((rd_T37 l0_1 0).f1).length : Int) : Int).toNat ≤ 35184372088832) = true := decide_eq_true c32
              clear c32
              obtain ⟨y262, hy262⟩ : ∃ y_ : List Int, y_ = (List.replicate ((((rd_T37 l0_1 0).f1).length : Int) : Int).toNat 0) := ⟨_, rfl⟩
              replace H : (switchboardlaw15_ModelParts.l0 kj2 l1 t258 (-1) y262 t258 (t258.length : Int) 0 a0_0 l0_1) = some true := by first | (rw [hy262]; with_reducible exact H) | (have H2_ := (Option.bind_some _ _).symm.trans H; rw [hy262]; with_reducible exact H2_) | (have H2_ := (Option.bind_some _ _).symm.trans H; with_reducible exact H2_) | with_reducible exact H | (rw [hy262]; exact H) | exact H
              have Ny262 := Aside0.mk hy262
              clear hy262
              have H' := Aside0.mk H
              clear H
              have hcz33_0 : wc.cell? ⟨gb251, 0, none⟩ = some (.int .i64 a0_0) := (blk_cell BK251.out 0).trans rfl
              have hcz33_1 : wc.cell? ⟨gb251, 1, none⟩ = some (.slice A0_1 l0_1.length c0_1) := (blk_cell BK251.out 1).trans rfl
              have hfz33_0 := blk_frozen BK251.out 0
              have hfz33_1 := blk_frozen BK251.out 1
              have p257 : 0 ≤ (0 : Int) := (by omega)
              have q257 : 0 < (l0_1.length : Int) := of_decide_eq_true (by first | (with_reducible assumption) | assumption)
              obtain ⟨ad257, A257_0, c257_0, A257_1, c257_1, e257, hx257_0, hx257_1, hx257_2, hl257_0, hi257_0, hl257_1, hi257_1⟩ := at_T37 HR0_1.out 0 p257 q257
              cases e257
              have qi257 : (0 < l0_1.length) = True := eq_true (by omega)
              (try rw [show ((0 : Int)).toNat = 0 from rfl] at hx257_0)
              (try rw [show 0 * 3 = 0 from rfl] at hx257_0)
              (try rw [Addr.add_zero'] at hx257_0)
              (try rw [show ((0 : Int)).toNat = 0 from rfl] at hx257_1)
              (try rw [show 0 * 3 = 0 from rfl] at hx257_1)
              (try rw [Addr.add_zero'] at hx257_1)
              (try rw [show ((0 : Int)).toNat = 0 from rfl] at hx257_2)
              (try rw [show 0 * 3 = 0 from rfl] at hx257_2)
              (try rw [Addr.add_zero'] at hx257_2)
              replace hx257_0 := (HB.out.cell (World.block_lt_of_cell? w _ hx257_0)).trans hx257_0
              replace hx257_1 := (HB.out.cell (World.block_lt_of_cell? w _ hx257_1)).trans hx257_1
              replace hx257_2 := (HB.out.cell (World.block_lt_of_cell? w _ hx257_2)).trans hx257_2
              have HR257_0 := Aside0.mk hi257_0
              have HC257_0 := Aside0.mk hl257_0
              clear hi257_0 hl257_0
              have HR257_1 := Aside0.mk hi257_1
              have HC257_1 := Aside0.mk hl257_1
              clear hi257_1 hl257_1
              replace p257 := eq_true p257
              replace q257 := eq_true q257
              go_wp2_with (first | (go_at_call 17; (with_reducible refine (model_Parts.calls kj2 _ _ ((rd_T37 l0_1 0).f0) _ _ ((rd_T37 l0_1 0).f1) ((rd_T37 l0_1 0).f2) _ _ l1 t258 _ ?side1 ?side2 ?side3 ?side4 ?side5 ?side6 A30.out).mono ?_); (case side1 => repeat (first | exact (Kd.C_below HR257_0.out HB.out) | (with_reducible refine Kd.C_alloc ?_ _) | (with_reducible refine Kd.C_drewN ?_ _) | (with_reducible refine Kd.C_drew ?_))); (case side2 => exact HC257_0.out); (case side3 => repeat (first | exact (Kd.C_below HR257_1.out HB.out) | (with_reducible refine Kd.C_alloc ?_ _) | (with_reducible refine Kd.C_drewN ?_ _) | (with_reducible refine Kd.C_drew ?_))); (case side4 => exact HC257_1.out); (case side5 => repeat (first | exact (Kd.C_below HR1.out HB.out) | (with_reducible refine Kd.C_alloc ?_ _) | (with_reducible refine Kd.C_drewN ?_ _) | (with_reducible refine Kd.C_drew ?_))); (case side6 => exact HC1.out); rintro e w34 ⟨v259, rfl, ho0, hb⟩; have n0_ := Aside0.mk (Kd.R_lower ho0 (below_size (by repeat (first | (with_reducible first | exact HB.out | apply below_alloc | apply pw_below_drewN | apply below_drew1 | refine below_set ?_ GE251.out) | exact HB.out)))); have n1_ := Aside0.mk (blk_below (g := gb251) (o := .cells #[.int .i64 a0_0, .slice (some ad257) l0_1.length c0_1] 24 (0, 0)) (by (with_reducible repeat (first | refine blk_drewN ?_ _ | refine blk_drew ?_ | refine blk_alloc ?_ _)); exact BK251.out) hb); have n2_ := Aside0.mk (below_step (by repeat (first | (with_reducible first | exact HB.out | apply below_alloc | apply pw_below_drewN | apply below_drew1 | refine below_set ?_ GE251.out) | exact HB.out)) hb); clear BK251; clear HB; have HO260 := n0_; have BK251 := n1_; have HB := n2_; clear n0_ n1_ n2_; (try clear hb); (try clear hb2); (try clear hk); (try clear hi); (try clear ho0); have hcz35_0 : w34.cell? ⟨gb251, 0, none⟩ = some (.int .i64 a0_0) := (blk_cell BK251.out 0).trans rfl; have hcz35_1 : w34.cell? ⟨gb251, 1, none⟩ = some (.slice (some ad257) l0_1.length c0_1) := (blk_cell BK251.out 1).trans rfl; have hfz35_0 := blk_frozen BK251.out 0; have hfz35_1 := blk_frozen BK251.out 1; have p261 : 0 ≤ (0 : Int) := (by omega); have q261 : 0 < (l0_1.length : Int) := of_decide_eq_true (by first | (with_reducible assumption) | assumption); obtain ⟨ad261, A261_0, c261_0, A261_1, c261_1, e261, hx261_0, hx261_1, hx261_2, hl261_0, hi261_0, hl261_1, hi261_1⟩ := at_T37 HR0_1.out 0 p261 q261; obtain rfl : ad257 = ad261 := (by injection e261); have qi261 : (0 < l0_1.length) = True := eq_true (by omega); (try rw [show ((0 : Int)).toNat = 0 from rfl] at hx261_0); (try rw [show 0 * 3 = 0 from rfl] at hx261_0); (try rw [Addr.add_zero'] at hx261_0); (try rw [show ((0 : Int)).toNat = 0 from rfl] at hx261_1); (try rw [show 0 * 3 = 0 from rfl] at hx261_1); (try rw [Addr.add_zero'] at hx261_1); (try rw [show ((0 : Int)).toNat = 0 from rfl] at hx261_2); (try rw [show 0 * 3 = 0 from rfl] at hx261_2); (try rw [Addr.add_zero'] at hx261_2); replace hx261_0 := (HB.out.cell (World.block_lt_of_cell? w _ hx261_0)).trans hx261_0; replace hx261_1 := (HB.out.cell (World.block_lt_of_cell? w _ hx261_1)).trans hx261_1; replace hx261_2 := (HB.out.cell (World.block_lt_of_cell? w _ hx261_2)).trans hx261_2; have HR261_0 := Aside0.mk hi261_0; have HC261_0 := Aside0.mk hl261_0; clear hi261_0 hl261_0; have HR261_1 := Aside0.mk hi261_1; have HC261_1 := Aside0.mk hl261_1; clear hi261_1 hl261_1; replace p261 := eq_true p261; replace q261 := eq_true q261) | ((with_reducible refine gate_dst (N := 43) rfl ?_); (try (refine gate_guard (by rfl) ?_; dsimp only)); refine Kd.R_make (Kd.int .i64) _ 3 rfl (N := 43) rfl 47 _ _ rfl (((rd_T37 l0_1 0).f1).length : Int) rfl rfl Try.underlying47 (.int .i64 0) 8 info3 rfl (by decide) (by omega) 0 (ok := fun _ => True) (okp := fun _ => True) rfl (fun _ hk => hk) trivial (of_decide_eq_true (by first | (with_reducible assumption) | assumption)) (Nat.le_trans (Nat.mul_le_mul_right _ (of_decide_eq_true (by first | (with_reducible assumption) | assumption) : (((rd_T37 l0_1 0).f1).length : Int).toNat ≤ 35184372088832)) (by omega)) (Below.refl _ _) (Nat.le_refl _) ?_; intro v263 w36 ho37 hb hg_ hnew_; clear hg_ hnew_; (first | rw [← Ny262.out] at ho37 | (simp only [Int.reduceToNat] at ho37; rw [← Ny262.out] at ho37)); have n0_ := Aside0.mk (Kd.R_below (by (with_reducible repeat (first | apply Kd.R_alloc | apply Kd.R_drewN | apply Kd.R_drew)); exact HO260.out) hb); have n1_ := Aside0.mk (Kd.R_lower ho37 (below_size (by repeat (first | (with_reducible first | exact HB.out | apply below_alloc | apply pw_below_drewN | apply below_drew1 | refine below_set ?_ GE251.out) | exact HB.out)))); have n2_ := Aside0.mk (blk_below (g := gb251) (o := .cells #[.int .i64 a0_0, .slice (some ad257) l0_1.length c0_1] 24 (0, 0)) (by (with_reducible repeat (first | refine blk_drewN ?_ _ | refine blk_drew ?_ | refine blk_alloc ?_ _)); exact BK251.out) hb); have n3_ := Aside0.mk (below_step (by repeat (first | (with_reducible first | exact HB.out | apply below_alloc | apply pw_below_drewN | apply below_drew1 | refine below_set ?_ GE251.out) | exact HB.out)) hb); clear HO260; clear BK251; clear HB; have HO260 := n0_; have HO264 := n1_; have BK251 := n2_; have HB := n3_; clear n0_ n1_ n2_ n3_; clear hb ho37; obtain ⟨Ao38, co38, eo38⟩ := Kd.R_slice HO260.out; subst eo38))
              repeat (go_quiet (first | (go_at_call 17; (with_reducible refine (model_Parts.calls kj2 _ _ ((rd_T37 l0_1 0).f0) _ _ ((rd_T37 l0_1 0).f1) ((rd_T37 l0_1 0).f2) _ _ l1 t258 _ ?side1 ?side2 ?side3 ?side4 ?side5 ?side6 A30.out).mono ?_); (case side1 => repeat (first | exact (Kd.C_below HR257_0.out HB.out) | (with_reducible refine Kd.C_alloc ?_ _) | (with_reducible refine Kd.C_drewN ?_ _) | (with_reducible refine Kd.C_drew ?_))); (case side2 => exact HC257_0.out); (case side3 => repeat (first | exact (Kd.C_below HR257_1.out HB.out) | (with_reducible refine Kd.C_alloc ?_ _) | (with_reducible refine Kd.C_drewN ?_ _) | (with_reducible refine Kd.C_drew ?_))); (case side4 => exact HC257_1.out); (case side5 => repeat (first | exact (Kd.C_below HR1.out HB.out) | (with_reducible refine Kd.C_alloc ?_ _) | (with_reducible refine Kd.C_drewN ?_ _) | (with_reducible refine Kd.C_drew ?_))); (case side6 => exact HC1.out); rintro e w34 ⟨v259, rfl, ho0, hb⟩; have n0_ := Aside0.mk (Kd.R_lower ho0 (below_size (by repeat (first | (with_reducible first | exact HB.out | apply below_alloc | apply pw_below_drewN | apply below_drew1 | refine below_set ?_ GE251.out) | exact HB.out)))); have n1_ := Aside0.mk (blk_below (g := gb251) (o := .cells #[.int .i64 a0_0, .slice (some ad257) l0_1.length c0_1] 24 (0, 0)) (by (with_reducible repeat (first | refine blk_drewN ?_ _ | refine blk_drew ?_ | refine blk_alloc ?_ _)); exact BK251.out) hb); have n2_ := Aside0.mk (below_step (by repeat (first | (with_reducible first | exact HB.out | apply below_alloc | apply pw_below_drewN | apply below_drew1 | refine below_set ?_ GE251.out) | exact HB.out)) hb); clear BK251; clear HB; have HO260 := n0_; have BK251 := n1_; have HB := n2_; clear n0_ n1_ n2_; (try clear hb); (try clear hb2); (try clear hk); (try clear hi); (try clear ho0); have hcz35_0 : w34.cell? ⟨gb251, 0, none⟩ = some (.int .i64 a0_0) := (blk_cell BK251.out 0).trans rfl; have hcz35_1 : w34.cell? ⟨gb251, 1, none⟩ = some (.slice (some ad257) l0_1.length c0_1) := (blk_cell BK251.out 1).trans rfl; have hfz35_0 := blk_frozen BK251.out 0; have hfz35_1 := blk_frozen BK251.out 1; have p261 : 0 ≤ (0 : Int) := (by omega); have q261 : 0 < (l0_1.length : Int) := of_decide_eq_true (by first | (with_reducible assumption) | assumption); obtain ⟨ad261, A261_0, c261_0, A261_1, c261_1, e261, hx261_0, hx261_1, hx261_2, hl261_0, hi261_0, hl261_1, hi261_1⟩ := at_T37 HR0_1.out 0 p261 q261; obtain rfl : ad257 = ad261 := (by injection e261); have qi261 : (0 < l0_1.length) = True := eq_true (by omega); (try rw [show ((0 : Int)).toNat = 0 from rfl] at hx261_0); (try rw [show 0 * 3 = 0 from rfl] at hx261_0); (try rw [Addr.add_zero'] at hx261_0); (try rw [show ((0 : Int)).toNat = 0 from rfl] at hx261_1); (try rw [show 0 * 3 = 0 from rfl] at hx261_1); (try rw [Addr.add_zero'] at hx261_1); (try rw [show ((0 : Int)).toNat = 0 from rfl] at hx261_2); (try rw [show 0 * 3 = 0 from rfl] at hx261_2); (try rw [Addr.add_zero'] at hx261_2); replace hx261_0 := (HB.out.cell (World.block_lt_of_cell? w _ hx261_0)).trans hx261_0; replace hx261_1 := (HB.out.cell (World.block_lt_of_cell? w _ hx261_1)).trans hx261_1; replace hx261_2 := (HB.out.cell (World.block_lt_of_cell? w _ hx261_2)).trans hx261_2; have HR261_0 := Aside0.mk hi261_0; have HC261_0 := Aside0.mk hl261_0; clear hi261_0 hl261_0; have HR261_1 := Aside0.mk hi261_1; have HC261_1 := Aside0.mk hl261_1; clear hi261_1 hl261_1; replace p261 := eq_true p261; replace q261 := eq_true q261) | ((with_reducible refine gate_dst (N := 43) rfl ?_); (try (refine gate_guard (by rfl) ?_; dsimp only)); refine Kd.R_make (Kd.int .i64) _ 3 rfl (N := 43) rfl 47 _ _ rfl (((rd_T37 l0_1 0).f1).length : Int) rfl rfl Try.underlying47 (.int .i64 0) 8 info3 rfl (by decide) (by omega) 0 (ok := fun _ => True) (okp := fun _ => True) rfl (fun _ hk => hk) trivial (of_decide_eq_true (by first | (with_reducible assumption) | assumption)) (Nat.le_trans (Nat.mul_le_mul_right _ (of_decide_eq_true (by first | (with_reducible assumption) | assumption) : (((rd_T37 l0_1 0).f1).length : Int).toNat ≤ 35184372088832)) (by omega)) (Below.refl _ _) (Nat.le_refl _) ?_; intro v263 w36 ho37 hb hg_ hnew_; clear hg_ hnew_; (first | rw [← Ny262.out] at ho37 | (simp only [Int.reduceToNat] at ho37; rw [← Ny262.out] at ho37)); have n0_ := Aside0.mk (Kd.R_below (by (with_reducible repeat (first | apply Kd.R_alloc | apply Kd.R_drewN | apply Kd.R_drew)); exact HO260.out) hb); have n1_ := Aside0.mk (Kd.R_lower ho37 (below_size (by repeat (first | (with_reducible first | exact HB.out | apply below_alloc | apply pw_below_drewN | apply below_drew1 | refine below_set ?_ GE251.out) | exact HB.out)))); have n2_ := Aside0.mk (blk_below (g := gb251) (o := .cells #[.int .i64 a0_0, .slice (some ad257) l0_1.length c0_1] 24 (0, 0)) (by (with_reducible repeat (first | refine blk_drewN ?_ _ | refine blk_drew ?_ | refine blk_alloc ?_ _)); exact BK251.out) hb); have n3_ := Aside0.mk (below_step (by repeat (first | (with_reducible first | exact HB.out | apply below_alloc | apply pw_below_drewN | apply below_drew1 | refine below_set ?_ GE251.out) | exact HB.out)) hb); clear HO260; clear BK251; clear HB; have HO260 := n0_; have HO264 := n1_; have BK251 := n2_; have HB := n3_; clear n0_ n1_ n2_ n3_; clear hb ho37; obtain ⟨Ao38, co38, eo38⟩ := Kd.R_slice HO260.out; subst eo38)); try go_wp2_with (first | (go_at_call 17; (with_reducible refine (model_Parts.calls kj2 _ _ ((rd_T37 l0_1 0).f0) _ _ ((rd_T37 l0_1 0).f1) ((rd_T37 l0_1 0).f2) _ _ l1 t258 _ ?side1 ?side2 ?side3 ?side4 ?side5 ?side6 A30.out).mono ?_); (case side1 => repeat (first | exact (Kd.C_below HR257_0.out HB.out) | (with_reducible refine Kd.C_alloc ?_ _) | (with_reducible refine Kd.C_drewN ?_ _) | (with_reducible refine Kd.C_drew ?_))); (case side2 => exact HC257_0.out); (case side3 => repeat (first | exact (Kd.C_below HR257_1.out HB.out) | (with_reducible refine Kd.C_alloc ?_ _) | (with_reducible refine Kd.C_drewN ?_ _) | (with_reducible refine Kd.C_drew ?_))); (case side4 => exact HC257_1.out); (case side5 => repeat (first | exact (Kd.C_below HR1.out HB.out) | (with_reducible refine Kd.C_alloc ?_ _) | (with_reducible refine Kd.C_drewN ?_ _) | (with_reducible refine Kd.C_drew ?_))); (case side6 => exact HC1.out); rintro e w34 ⟨v259, rfl, ho0, hb⟩; have n0_ := Aside0.mk (Kd.R_lower ho0 (below_size (by repeat (first | (with_reducible first | exact HB.out | apply below_alloc | apply pw_below_drewN | apply below_drew1 | refine below_set ?_ GE251.out) | exact HB.out)))); have n1_ := Aside0.mk (blk_below (g := gb251) (o := .cells #[.int .i64 a0_0, .slice (some ad257) l0_1.length c0_1] 24 (0, 0)) (by (with_reducible repeat (first | refine blk_drewN ?_ _ | refine blk_drew ?_ | refine blk_alloc ?_ _)); exact BK251.out) hb); have n2_ := Aside0.mk (below_step (by repeat (first | (with_reducible first | exact HB.out | apply below_alloc | apply pw_below_drewN | apply below_drew1 | refine below_set ?_ GE251.out) | exact HB.out)) hb); clear BK251; clear HB; have HO260 := n0_; have BK251 := n1_; have HB := n2_; clear n0_ n1_ n2_; (try clear hb); (try clear hb2); (try clear hk); (try clear hi); (try clear ho0); have hcz35_0 : w34.cell? ⟨gb251, 0, none⟩ = some (.int .i64 a0_0) := (blk_cell BK251.out 0).trans rfl; have hcz35_1 : w34.cell? ⟨gb251, 1, none⟩ = some (.slice (some ad257) l0_1.length c0_1) := (blk_cell BK251.out 1).trans rfl; have hfz35_0 := blk_frozen BK251.out 0; have hfz35_1 := blk_frozen BK251.out 1; have p261 : 0 ≤ (0 : Int) := (by omega); have q261 : 0 < (l0_1.length : Int) := of_decide_eq_true (by first | (with_reducible assumption) | assumption); obtain ⟨ad261, A261_0, c261_0, A261_1, c261_1, e261, hx261_0, hx261_1, hx261_2, hl261_0, hi261_0, hl261_1, hi261_1⟩ := at_T37 HR0_1.out 0 p261 q261; obtain rfl : ad257 = ad261 := (by injection e261); have qi261 : (0 < l0_1.length) = True := eq_true (by omega); (try rw [show ((0 : Int)).toNat = 0 from rfl] at hx261_0); (try rw [show 0 * 3 = 0 from rfl] at hx261_0); (try rw [Addr.add_zero'] at hx261_0); (try rw [show ((0 : Int)).toNat = 0 from rfl] at hx261_1); (try rw [show 0 * 3 = 0 from rfl] at hx261_1); (try rw [Addr.add_zero'] at hx261_1); (try rw [show ((0 : Int)).toNat = 0 from rfl] at hx261_2); (try rw [show 0 * 3 = 0 from rfl] at hx261_2); (try rw [Addr.add_zero'] at hx261_2); replace hx261_0 := (HB.out.cell (World.block_lt_of_cell? w _ hx261_0)).trans hx261_0; replace hx261_1 := (HB.out.cell (World.block_lt_of_cell? w _ hx261_1)).trans hx261_1; replace hx261_2 := (HB.out.cell (World.block_lt_of_cell? w _ hx261_2)).trans hx261_2; have HR261_0 := Aside0.mk hi261_0; have HC261_0 := Aside0.mk hl261_0; clear hi261_0 hl261_0; have HR261_1 := Aside0.mk hi261_1; have HC261_1 := Aside0.mk hl261_1; clear hi261_1 hl261_1; replace p261 := eq_true p261; replace q261 := eq_true q261) | ((with_reducible refine gate_dst (N := 43) rfl ?_); (try (refine gate_guard (by rfl) ?_; dsimp only)); refine Kd.R_make (Kd.int .i64) _ 3 rfl (N := 43) rfl 47 _ _ rfl (((rd_T37 l0_1 0).f1).length : Int) rfl rfl Try.underlying47 (.int .i64 0) 8 info3 rfl (by decide) (by omega) 0 (ok := fun _ => True) (okp := fun _ => True) rfl (fun _ hk => hk) trivial (of_decide_eq_true (by first | (with_reducible assumption) | assumption)) (Nat.le_trans (Nat.mul_le_mul_right _ (of_decide_eq_true (by first | (with_reducible assumption) | assumption) : (((rd_T37 l0_1 0).f1).length : Int).toNat ≤ 35184372088832)) (by omega)) (Below.refl _ _) (Nat.le_refl _) ?_; intro v263 w36 ho37 hb hg_ hnew_; clear hg_ hnew_; (first | rw [← Ny262.out] at ho37 | (simp only [Int.reduceToNat] at ho37; rw [← Ny262.out] at ho37)); have n0_ := Aside0.mk (Kd.R_below (by (with_reducible repeat (first | apply Kd.R_alloc | apply Kd.R_drewN | apply Kd.R_drew)); exact HO260.out) hb); have n1_ := Aside0.mk (Kd.R_lower ho37 (below_size (by repeat (first | (with_reducible first | exact HB.out | apply below_alloc | apply pw_below_drewN | apply below_drew1 | refine below_set ?_ GE251.out) | exact HB.out)))); have n2_ := Aside0.mk (blk_below (g := gb251) (o := .cells #[.int .i64 a0_0, .slice (some ad257) l0_1.length c0_1] 24 (0, 0)) (by (with_reducible repeat (first | refine blk_drewN ?_ _ | refine blk_drew ?_ | refine blk_alloc ?_ _)); exact BK251.out) hb); have n3_ := Aside0.mk (below_step (by repeat (first | (with_reducible first | exact HB.out | apply below_alloc | apply pw_below_drewN | apply below_drew1 | refine below_set ?_ GE251.out) | exact HB.out)) hb); clear HO260; clear BK251; clear HB; have HO260 := n0_; have HO264 := n1_; have BK251 := n2_; have HB := n3_; clear n0_ n1_ n2_ n3_; clear hb ho37; obtain ⟨Ao38, co38, eo38⟩ := Kd.R_slice HO260.out; subst eo38)))
              go_loopg [6, 46] kj2 (fun kq v6 v46 w' => ∃ (x6_2 : Int) (x7_2 : List Int) (x46_2 : Int), v6 = .int .i64 x6_2 ∧ v46 = .int .i64 x46_2 ∧ Aside0 (switchboardlaw15_ModelParts.l0 kq l1 t258 x6_2 x7_2 t258 (t258.length : Int) x46_2 a0_0 l0_1 = some true) ∧ Aside0 (kq ≤ kj2) ∧ Aside0 (Kd.R k42 42 w' w.heap.size (fun _ => True) (.slice Ao38 t258.length co38) t258) ∧ Aside0 (Kd.R (Kd.int .i64) 3 w' w.heap.size (fun _ => True) v263 x7_2) ∧ Aside0 (Kd.R k42 42 w' w.heap.size (fun _ => True) (.slice Ao38 t258.length co38) t258) ∧ Aside0 (w'.heap[gb251]? = some (.cells #[.int .i64 a0_0, (.slice (some ad257) l0_1.length c0_1)] 24 (0, 0))) ∧ Aside0 (Below w.heap.size w w'))
              case atStart => exact ⟨((-1)), (y262), (0), (by first | rfl | (simp; done) | (simp [*]; done)), (by first | rfl | (simp; done) | (simp [*]; done)), H', ⟨Nat.le_refl _⟩, ⟨by (with_reducible repeat (first | apply Kd.R_alloc | apply Kd.R_drewN | apply Kd.R_drew)); exact HO260.out⟩, ⟨by (with_reducible repeat (first | apply Kd.R_alloc | apply Kd.R_drewN | apply Kd.R_drew)); exact HO264.out⟩, ⟨by (with_reducible repeat (first | apply Kd.R_alloc | apply Kd.R_drewN | apply Kd.R_drew)); exact HO260.out⟩, ⟨by (with_reducible repeat (first | refine blk_drewN ?_ _ | refine blk_drew ?_ | refine blk_alloc ?_ _)); exact BK251.out⟩, ⟨by repeat (first | (with_reducible first | exact HB.out | apply below_alloc | apply pw_below_drewN | apply below_drew1 | refine below_set ?_ GE251.out) | exact HB.out)⟩⟩
              case round =>
                clear H'
                try clear c1
                try clear c2
                try clear p2
                try clear q2
                try clear hx2
                try clear qi2
                try clear c3
                try clear c6
                try clear c8
                try clear c10
                try clear c25
                try clear p25
                try clear q25
                try clear hx25
                try clear qi25
                try clear c26
                try clear p26
                try clear q26
                try clear hx26
                try clear qi26
                try clear c29
                try clear c29b0
                try clear c29b1
                try clear c31
                try clear c31b0
                try clear c31b1
                try clear c32
                try clear c32b0
                try clear c32b1
                try clear hcz12_0
                try clear hcz12_1
                try clear hcz14_0
                try clear hcz14_1
                try clear hcz16_0
                try clear hcz16_1
                try clear hcz18_0
                try clear hcz18_1
                try clear hcz20_0
                try clear hcz20_1
                try clear hcz22_0
                try clear hcz22_1
                try clear hcz24_0
                try clear hcz24_1
                try clear hcz33_0
                try clear hcz33_1
                try clear hcz35_0
                try clear hcz35_1
                try clear hfz12_0
                try clear hfz12_1
                try clear hfz14_0
                try clear hfz14_1
                try clear hfz16_0
                try clear hfz16_1
                try clear hfz18_0
                try clear hfz18_1
                try clear hfz20_0
                try clear hfz20_1
                try clear hfz22_0
                try clear hfz22_1
                try clear hfz24_0
                try clear hfz24_1
                try clear hfz33_0
                try clear hfz33_1
                try clear hfz35_0
                try clear hfz35_1
                try clear hx257_0
                try clear hx257_1
                try clear hx257_2
                try clear hx261_0
                try clear hx261_1
                try clear hx261_2
                try clear p2
                try clear p257
                try clear p261
                try clear q257
                try clear q261
                obtain ⟨x6_2, x7_2, x46_2, rfl, rfl, HA, HK2, HO_5, HO_7, HO_44, BK251, HB⟩ := hrel
                cases gk with
                | zero => exact absurd HA.out (by simp [switchboardlaw15_ModelParts.l0])
                | succ k2 =>
                  have H := HA.out
                  clear HA
                  simp only [switchboardlaw15_ModelParts.l0] at H
                  by_cases c39 : x46_2 < (t258.length : Int)
                  · rw [if_pos c39] at H
                    have c39b0 : decide (x46_2 < (t258.length : Int)) = true := decide_eq_true c39
                    clear c39
                    by_cases c40 : 0 ≤ x46_2
                    · rw [if_pos c40] at H
                      have c40b0 : decide (0 ≤ x46_2) = true := decide_eq_true c40
                      clear c40
                      by_cases c41 : x46_2 < (t258.length : Int)
                      · rw [if_pos c41] at H
                        have c41b0 : decide (x46_2 < (t258.length : Int)) = true := decide_eq_true c41
                        clear c41
                        have HC42 := Aside0.mk H
                        clear H
                        have p266 : 0 ≤ (x46_2 : Int) := of_decide_eq_true (by first | (with_reducible assumption) | assumption)
                        have q266 : x46_2 < (t258.length : Int) := of_decide_eq_true (by first | (with_reducible assumption) | assumption)
                        obtain ⟨ad266, e266, hx266_0, hx266_1, hx266_2, hx266_3⟩ := at_T42 (Kd.R_reads' HO_44.out).2.2 x46_2 p266 q266
                        cases e266
                        replace p266 := eq_true p266
                        replace q266 := eq_true q266
                        go_upto_region 10 with (first | ((with_reducible refine gate_dst (N := 9) rfl ?_); (try (refine gate_guard (by rfl) ?_; dsimp only)); refine box_event ?hg (N := 9) ?hd (cs := #[.int .i64 0, .int .i64 0, .int .i64 0, .int .i64 0]) (t := 42) ?hr ?_; (case hd => rfl); (case hg => rfl); (case hr => first | (go_simp; done) | (go_simp; rfl)); intro gb267 hg w43 hbox hb; have n0_ := Aside0.mk (Kd.R_below (Kd.R_elderB (by (with_reducible repeat (first | apply Kd.R_alloc | apply Kd.R_drewN | apply Kd.R_drew)); exact HO_5.out) gb267 (Nat.le_of_eq hg.symm)) hb); have n1_ := Aside0.mk (Kd.R_below (by (with_reducible repeat (first | apply Kd.R_alloc | apply Kd.R_drewN | apply Kd.R_drew)); exact HO_7.out) hb); have n2_ := Aside0.mk (Kd.R_below (Kd.R_elderB (by (with_reducible repeat (first | apply Kd.R_alloc | apply Kd.R_drewN | apply Kd.R_drew)); exact HO_44.out) gb267 (Nat.le_of_eq hg.symm)) hb); have n3_ := Aside0.mk (blk_below (g := gb251) (o := .cells #[.int .i64 a0_0, .slice (some ad257) l0_1.length c0_1] 24 (0, 0)) (by (with_reducible repeat (first | refine blk_drewN ?_ _ | refine blk_drew ?_ | refine blk_alloc ?_ _)); exact BK251.out) hb); have n4_ := Aside0.mk (below_step (by repeat (first | (with_reducible first | exact HB.out | apply below_alloc | apply pw_below_drewN | apply below_drew1 | refine below_set ?_ GE251.out) | exact HB.out)) hb); have n5_ := Aside0.mk (hbox); have n6_ := Aside0.mk ((by rw [hg]; exact (below_size (by repeat (first | (with_reducible first | exact HB.out | apply below_alloc | apply pw_below_drewN | apply below_drew1 | refine below_set ?_ GE251.out) | exact HB.out))) : w.heap.size ≤ gb267)); have n7_ := Aside0.mk ((by rw [hg]; exact (below_size (by repeat (first | (with_reducible first | exact HB.out | apply below_alloc | apply pw_below_drewN | apply below_drew1 | refine below_set ?_ GE251.out) | exact HB.out))) : w.heap.size ≤ gb267)); have n8_ := Aside0.mk ((by rw [hg]; exact Nat.ne_of_lt (blk_lt (g := gb251) (o := .cells #[.int .i64 a0_0, .slice (some ad257) l0_1.length c0_1] 24 (0, 0)) (by (with_reducible repeat (first | refine blk_drewN ?_ _ | refine blk_drew ?_ | refine blk_alloc ?_ _)); exact BK251.out)) : gb251 ≠ gb267)); have n9_ := Aside0.mk ((by rw [hg]; exact Nat.ne_of_gt (blk_lt (g := gb251) (o := .cells #[.int .i64 a0_0, .slice (some ad257) l0_1.length c0_1] 24 (0, 0)) (by (with_reducible repeat (first | refine blk_drewN ?_ _ | refine blk_drew ?_ | refine blk_alloc ?_ _)); exact BK251.out)) : gb267 ≠ gb251)); clear HO_5; clear HO_7; clear HO_44; clear BK251; clear HB; have HO_5 := n0_; have HO_7 := n1_; have HO_44 := n2_; have BK251 := n3_; have HB := n4_; have BK267 := n5_; have GW267 := n6_; have GE267 := n7_; have NB251_267 := n8_; have NB267_251 := n9_; clear n0_ n1_ n2_ n3_ n4_ n5_ n6_ n7_ n8_ n9_; clear hb hbox hg; have hnb44 := NB267_251.out; have hnc44 := NB251_267.out; have hcz45_0 : w43.cell? ⟨gb267, 0, none⟩ = some (.int .i64 0) := (blk_cell BK267.out 0).trans rfl; have hcz45_1 : w43.cell? ⟨gb267, 1, none⟩ = some (.int .i64 0) := (blk_cell BK267.out 1).trans rfl; have hcz45_2 : w43.cell? ⟨gb267, 2, none⟩ = some (.int .i64 0) := (blk_cell BK267.out 2).trans rfl; have hcz45_3 : w43.cell? ⟨gb267, 3, none⟩ = some (.int .i64 0) := (blk_cell BK267.out 3).trans rfl; have hfz45_0 := blk_frozen BK267.out 0; have hfz45_1 := blk_frozen BK267.out 1; have hfz45_2 := blk_frozen BK267.out 2; have hfz45_3 := blk_frozen BK267.out 3))
                        repeat (go_quiet (first | ((with_reducible refine gate_dst (N := 9) rfl ?_); (try (refine gate_guard (by rfl) ?_; dsimp only)); refine box_event ?hg (N := 9) ?hd (cs := #[.int .i64 0, .int .i64 0, .int .i64 0, .int .i64 0]) (t := 42) ?hr ?_; (case hd => rfl); (case hg => rfl); (case hr => first | (go_simp; done) | (go_simp; rfl)); intro gb267 hg w43 hbox hb; have n0_ := Aside0.mk (Kd.R_below (Kd.R_elderB (by (with_reducible repeat (first | apply Kd.R_alloc | apply Kd.R_drewN | apply Kd.R_drew)); exact HO_5.out) gb267 (Nat.le_of_eq hg.symm)) hb); have n1_ := Aside0.mk (Kd.R_below (by (with_reducible repeat (first | apply Kd.R_alloc | apply Kd.R_drewN | apply Kd.R_drew)); exact HO_7.out) hb); have n2_ := Aside0.mk (Kd.R_below (Kd.R_elderB (by (with_reducible repeat (first | apply Kd.R_alloc | apply Kd.R_drewN | apply Kd.R_drew)); exact HO_44.out) gb267 (Nat.le_of_eq hg.symm)) hb); have n3_ := Aside0.mk (blk_below (g := gb251) (o := .cells #[.int .i64 a0_0, .slice (some ad257) l0_1.length c0_1] 24 (0, 0)) (by (with_reducible repeat (first | refine blk_drewN ?_ _ | refine blk_drew ?_ | refine blk_alloc ?_ _)); exact BK251.out) hb); have n4_ := Aside0.mk (below_step (by repeat (first | (with_reducible first | exact HB.out | apply below_alloc | apply pw_below_drewN | apply below_drew1 | refine below_set ?_ GE251.out) | exact HB.out)) hb); have n5_ := Aside0.mk (hbox); have n6_ := Aside0.mk ((by rw [hg]; exact (below_size (by repeat (first | (with_reducible first | exact HB.out | apply below_alloc | apply pw_below_drewN | apply below_drew1 | refine below_set ?_ GE251.out) | exact HB.out))) : w.heap.size ≤ gb267)); have n7_ := Aside0.mk ((by rw [hg]; exact (below_size (by repeat (first | (with_reducible first | exact HB.out | apply below_alloc | apply pw_below_drewN | apply below_drew1 | refine below_set ?_ GE251.out) | exact HB.out))) : w.heap.size ≤ gb267)); have n8_ := Aside0.mk ((by rw [hg]; exact Nat.ne_of_lt (blk_lt (g := gb251) (o := .cells #[.int .i64 a0_0, .slice (some ad257) l0_1.length c0_1] 24 (0, 0)) (by (with_reducible repeat (first | refine blk_drewN ?_ _ | refine blk_drew ?_ | refine blk_alloc ?_ _)); exact BK251.out)) : gb251 ≠ gb267)); have n9_ := Aside0.mk ((by rw [hg]; exact Nat.ne_of_gt (blk_lt (g := gb251) (o := .cells #[.int .i64 a0_0, .slice (some ad257) l0_1.length c0_1] 24 (0, 0)) (by (with_reducible repeat (first | refine blk_drewN ?_ _ | refine blk_drew ?_ | refine blk_alloc ?_ _)); exact BK251.out)) : gb267 ≠ gb251)); clear HO_5; clear HO_7; clear HO_44; clear BK251; clear HB; have HO_5 := n0_; have HO_7 := n1_; have HO_44 := n2_; have BK251 := n3_; have HB := n4_; have BK267 := n5_; have GW267 := n6_; have GE267 := n7_; have NB251_267 := n8_; have NB267_251 := n9_; clear n0_ n1_ n2_ n3_ n4_ n5_ n6_ n7_ n8_ n9_; clear hb hbox hg; have hnb44 := NB267_251.out; have hnc44 := NB251_267.out; have hcz45_0 : w43.cell? ⟨gb267, 0, none⟩ = some (.int .i64 0) := (blk_cell BK267.out 0).trans rfl; have hcz45_1 : w43.cell? ⟨gb267, 1, none⟩ = some (.int .i64 0) := (blk_cell BK267.out 1).trans rfl; have hcz45_2 : w43.cell? ⟨gb267, 2, none⟩ = some (.int .i64 0) := (blk_cell BK267.out 2).trans rfl; have hcz45_3 : w43.cell? ⟨gb267, 3, none⟩ = some (.int .i64 0) := (blk_cell BK267.out 3).trans rfl; have hfz45_0 := blk_frozen BK267.out 0; have hfz45_1 := blk_frozen BK267.out 1; have hfz45_2 := blk_frozen BK267.out 2; have hfz45_3 := blk_frozen BK267.out 3)); go_upto_region 10 with (first | ((with_reducible refine gate_dst (N := 9) rfl ?_); (try (refine gate_guard (by rfl) ?_; dsimp only)); refine box_event ?hg (N := 9) ?hd (cs := #[.int .i64 0, .int .i64 0, .int .i64 0, .int .i64 0]) (t := 42) ?hr ?_; (case hd => rfl); (case hg => rfl); (case hr => first | (go_simp; done) | (go_simp; rfl)); intro gb267 hg w43 hbox hb; have n0_ := Aside0.mk (Kd.R_below (Kd.R_elderB (by (with_reducible repeat (first | apply Kd.R_alloc | apply Kd.R_drewN | apply Kd.R_drew)); exact HO_5.out) gb267 (Nat.le_of_eq hg.symm)) hb); have n1_ := Aside0.mk (Kd.R_below (by (with_reducible repeat (first | apply Kd.R_alloc | apply Kd.R_drewN | apply Kd.R_drew)); exact HO_7.out) hb); have n2_ := Aside0.mk (Kd.R_below (Kd.R_elderB (by (with_reducible repeat (first | apply Kd.R_alloc | apply Kd.R_drewN | apply Kd.R_drew)); exact HO_44.out) gb267 (Nat.le_of_eq hg.symm)) hb); have n3_ := Aside0.mk (blk_below (g := gb251) (o := .cells #[.int .i64 a0_0, .slice (some ad257) l0_1.length c0_1] 24 (0, 0)) (by (with_reducible repeat (first | refine blk_drewN ?_ _ | refine blk_drew ?_ | refine blk_alloc ?_ _)); exact BK251.out) hb); have n4_ := Aside0.mk (below_step (by repeat (first | (with_reducible first | exact HB.out | apply below_alloc | apply pw_below_drewN | apply below_drew1 | refine below_set ?_ GE251.out) | exact HB.out)) hb); have n5_ := Aside0.mk (hbox); have n6_ := Aside0.mk ((by rw [hg]; exact (below_size (by repeat (first | (with_reducible first | exact HB.out | apply below_alloc | apply pw_below_drewN | apply below_drew1 | refine below_set ?_ GE251.out) | exact HB.out))) : w.heap.size ≤ gb267)); have n7_ := Aside0.mk ((by rw [hg]; exact (below_size (by repeat (first | (with_reducible first | exact HB.out | apply below_alloc | apply pw_below_drewN | apply below_drew1 | refine below_set ?_ GE251.out) | exact HB.out))) : w.heap.size ≤ gb267)); have n8_ := Aside0.mk ((by rw [hg]; exact Nat.ne_of_lt (blk_lt (g := gb251) (o := .cells #[.int .i64 a0_0, .slice (some ad257) l0_1.length c0_1] 24 (0, 0)) (by (with_reducible repeat (first | refine blk_drewN ?_ _ | refine blk_drew ?_ | refine blk_alloc ?_ _)); exact BK251.out)) : gb251 ≠ gb267)); have n9_ := Aside0.mk ((by rw [hg]; exact Nat.ne_of_gt (blk_lt (g := gb251) (o := .cells #[.int .i64 a0_0, .slice (some ad257) l0_1.length c0_1] 24 (0, 0)) (by (with_reducible repeat (first | refine blk_drewN ?_ _ | refine blk_drew ?_ | refine blk_alloc ?_ _)); exact BK251.out)) : gb267 ≠ gb251)); clear HO_5; clear HO_7; clear HO_44; clear BK251; clear HB; have HO_5 := n0_; have HO_7 := n1_; have HO_44 := n2_; have BK251 := n3_; have HB := n4_; have BK267 := n5_; have GW267 := n6_; have GE267 := n7_; have NB251_267 := n8_; have NB267_251 := n9_; clear n0_ n1_ n2_ n3_ n4_ n5_ n6_ n7_ n8_ n9_; clear hb hbox hg; have hnb44 := NB267_251.out; have hnc44 := NB251_267.out; have hcz45_0 : w43.cell? ⟨gb267, 0, none⟩ = some (.int .i64 0) := (blk_cell BK267.out 0).trans rfl; have hcz45_1 : w43.cell? ⟨gb267, 1, none⟩ = some (.int .i64 0) := (blk_cell BK267.out 1).trans rfl; have hcz45_2 : w43.cell? ⟨gb267, 2, none⟩ = some (.int .i64 0) := (blk_cell BK267.out 2).trans rfl; have hcz45_3 : w43.cell? ⟨gb267, 3, none⟩ = some (.int .i64 0) := (blk_cell BK267.out 3).trans rfl; have hfz45_0 := blk_frozen BK267.out 0; have hfz45_1 := blk_frozen BK267.out 1; have hfz45_2 := blk_frozen BK267.out 2; have hfz45_3 := blk_frozen BK267.out 3)))
                        (try simp only [Act.put, List.setIfInBounds_toArray, List.set_cons_zero, List.set_cons_succ])
                        go_cut [97] (fun v97 wc => ∃ (kq : Nat) (x97_41 : Bool), v97 = .bool x97_41 ∧ Aside0 (switchboardlaw15_ModelParts.j2 kq l1 t258 x7_2 (wrap64 ((wrap64 (2 * ((rd_T42 t258 x46_2).f0))) + ((rd_T42 t258 x46_2).f1))) t258 (t258.length : Int) x46_2 x97_41 a0_0 l0_1 ((rd_T42 t258 x46_2).f0) ((rd_T42 t258 x46_2).f1) ((rd_T42 t258 x46_2).f2) ((rd_T42 t258 x46_2).f3) = some true) ∧ Aside0 (kq ≤ k2) ∧ Aside0 (Kd.R k42 42 wc w.heap.size (fun k_ => k_ ≠ gb267) (.slice (some ad266) t258.length co38) t258) ∧ Aside0 (Kd.R (Kd.int .i64) 3 wc w.heap.size (fun _ => True) v263 x7_2) ∧ Aside0 (Kd.R k42 42 wc w.heap.size (fun k_ => k_ ≠ gb267) (.slice (some ad266) t258.length co38) t258) ∧ Aside0 (wc.heap[gb251]? = some (.cells #[.int .i64 a0_0, (.slice (some ad257) l0_1.length c0_1)] 24 (0, 0))) ∧ Aside0 (wc.heap[gb267]? = some (.cells #[.int .i64 ((rd_T42 t258 x46_2).f0), .int .i64 ((rd_T42 t258 x46_2).f1), .int .i64 ((rd_T42 t258 x46_2).f2), .int .i64 ((rd_T42 t258 x46_2).f3)] 42 (0, 0))) ∧ Aside0 (Below w.heap.size w wc))
                        case first =>
                          have H := HC42.out
                          clear HC42
                          by_cases c46 : (wrap64 ((wrap64 (2 * ((rd_T42 t258 x46_2).f0))) + ((rd_T42 t258 x46_2).f1))) ≤ x6_2
                          · rw [if_pos c46] at H
                            have c46b0 : decide ((wrap64 ((wrap64 (2 * ((rd_T42 t258 x46_2).f0))) + ((rd_T42 t258 x46_2).f1))) ≤ x6_2) = true := decide_eq_true c46
                            clear c46
                            (first | rw [c46b0] | (simp only [i64_w, i32_w]; rw [c46b0]) | skip)
                            have H' := Aside0.mk H
                            clear H
                            go_wp2
                            repeat (go_quiet (fail); try go_wp2)
                            go_meet
                            case rel => exact ⟨_, (true), (by first | rfl | (simp; done) | (simp [*]; done)), H', ⟨by have := HJ2.out; have := HK2.out; first | omega | exact Nat.le_refl _⟩, ⟨by (with_reducible repeat (first | apply Kd.R_alloc | apply Kd.R_drewN | apply Kd.R_drew)); exact Kd.R_mono (Kd.R_far (p := ⟨gb267, 3, none⟩) (Kd.R_far (p := ⟨gb267, 2, none⟩) (Kd.R_far (p := ⟨gb267, 1, none⟩) (Kd.R_far (p := ⟨gb267, 0, none⟩) (Kd.R_mono HO_5.out (fun k_ hk => (⟨hk, hk.2⟩ : _ ∧ k_ ≠ gb267))) (fun _ hk => hk.2) (.int .i64 ((rd_T42 t258 x46_2).f0))) (fun _ hk => hk.2) (.int .i64 ((rd_T42 t258 x46_2).f1))) (fun _ hk => hk.2) (.int .i64 ((rd_T42 t258 x46_2).f2))) (fun _ hk => hk.2) (.int .i64 ((rd_T42 t258 x46_2).f3))) (fun _ hk => hk.1.2)⟩, ⟨by (with_reducible repeat (first | apply Kd.R_alloc | apply Kd.R_drewN | apply Kd.R_drew)); exact Kd.R_mono (Kd.R_far (p := ⟨gb267, 3, none⟩) (Kd.R_far (p := ⟨gb267, 2, none⟩) (Kd.R_far (p := ⟨gb267, 1, none⟩) (Kd.R_far (p := ⟨gb267, 0, none⟩) (Kd.R_types HO_7.out BK267.out (by decide)) (fun _ hk => hk.2) (.int .i64 ((rd_T42 t258 x46_2).f0))) (fun _ hk => hk.2) (.int .i64 ((rd_T42 t258 x46_2).f1))) (fun _ hk => hk.2) (.int .i64 ((rd_T42 t258 x46_2).f2))) (fun _ hk => hk.2) (.int .i64 ((rd_T42 t258 x46_2).f3))) (fun _ hk => trivial)⟩, ⟨by (with_reducible repeat (first | apply Kd.R_alloc | apply Kd.R_drewN | apply Kd.R_drew)); exact Kd.R_mono (Kd.R_far (p := ⟨gb267, 3, none⟩) (Kd.R_far (p := ⟨gb267, 2, none⟩) (Kd.R_far (p := ⟨gb267, 1, none⟩) (Kd.R_far (p := ⟨gb267, 0, none⟩) (Kd.R_mono HO_44.out (fun k_ hk => (⟨hk, hk.2⟩ : _ ∧ k_ ≠ gb267))) (fun _ hk => hk.2) (.int .i64 ((rd_T42 t258 x46_2).f0))) (fun _ hk => hk.2) (.int .i64 ((rd_T42 t258 x46_2).f1))) (fun _ hk => hk.2) (.int .i64 ((rd_T42 t258 x46_2).f2))) (fun _ hk => hk.2) (.int .i64 ((rd_T42 t258 x46_2).f3))) (fun _ hk => hk.1.2)⟩, ⟨by (with_reducible repeat (first | refine blk_drewN ?_ _ | refine blk_drew ?_ | refine blk_alloc ?_ _)); refine blk_far ?_ NB251_267.out _; (with_reducible repeat (first | refine blk_drewN ?_ _ | refine blk_drew ?_ | refine blk_alloc ?_ _)); refine blk_far ?_ NB251_267.out _; (with_reducible repeat (first | refine blk_drewN ?_ _ | refine blk_drew ?_ | refine blk_alloc ?_ _)); refine blk_far ?_ NB251_267.out _; (with_reducible repeat (first | refine blk_drewN ?_ _ | refine blk_drew ?_ | refine blk_alloc ?_ _)); refine blk_far ?_ NB251_267.out _; (with_reducible repeat (first | refine blk_drewN ?_ _ | refine blk_drew ?_ | refine blk_alloc ?_ _)); exact BK251.out⟩, ⟨by (with_reducible repeat (first | refine blk_drewN ?_ _ | refine blk_drew ?_ | refine blk_alloc ?_ _)); refine blk_put (cs := #[.int .i64 ((rd_T42 t258 x46_2).f0), .int .i64 ((rd_T42 t258 x46_2).f1), .int .i64 ((rd_T42 t258 x46_2).f2), .int .i64 0]) ?_ 3 _ rfl; (with_reducible repeat (first | refine blk_drewN ?_ _ | refine blk_drew ?_ | refine blk_alloc ?_ _)); refine blk_put (cs := #[.int .i64 ((rd_T42 t258 x46_2).f0), .int .i64 ((rd_T42 t258 x46_2).f1), .int .i64 0, .int .i64 0]) ?_ 2 _ rfl; (with_reducible repeat (first | refine blk_drewN ?_ _ | refine blk_drew ?_ | refine blk_alloc ?_ _)); refine blk_put (cs := #[.int .i64 ((rd_T42 t258 x46_2).f0), .int .i64 0, .int .i64 0, .int .i64 0]) ?_ 1 _ rfl; (with_reducible repeat (first | refine blk_drewN ?_ _ | refine blk_drew ?_ | refine blk_alloc ?_ _)); refine blk_put (cs := #[.int .i64 0, .int .i64 0, .int .i64 0, .int .i64 0]) ?_ 0 _ rfl; (with_reducible repeat (first | refine blk_drewN ?_ _ | refine blk_drew ?_ | refine blk_alloc ?_ _)); exact BK267.out⟩, ⟨by repeat (first | (with_reducible first | exact HB.out | apply below_alloc | apply pw_below_drewN | apply below_drew1 | refine below_set ?_ GE251.out | refine below_set ?_ GE267.out) | exact HB.out)⟩⟩
                          · rw [if_neg c46] at H
                            have c46b0 : decide ((wrap64 ((wrap64 (2 * ((rd_T42 t258 x46_2).f0))) + ((rd_T42 t258 x46_2).f1))) ≤ x6_2) = false := decide_eq_false c46
                            clear c46
                            (first | rw [c46b0] | (simp only [i64_w, i32_w]; rw [c46b0]) | skip)
                            by_cases c47 : ((rd_T42 t258 x46_2).f1) < 0
                            · rw [if_pos c47] at H
                              have c47b0 : decide (((rd_T42 t258 x46_2).f1) < 0) = true := decide_eq_true c47
                              clear c47
                              have H' := Aside0.mk H
                              clear H
                              have hnb48 := NB267_251.out
                              have hnc48 := NB251_267.out
                              have hcz49_0 : w43.cell? ⟨gb267, 0, none⟩ = some (.int .i64 0) := (blk_cell BK267.out 0).trans rfl
                              have hcz49_1 : w43.cell? ⟨gb267, 1, none⟩ = some (.int .i64 0) := (blk_cell BK267.out 1).trans rfl
                              have hcz49_2 : w43.cell? ⟨gb267, 2, none⟩ = some (.int .i64 0) := (blk_cell BK267.out 2).trans rfl
                              have hcz49_3 : w43.cell? ⟨gb267, 3, none⟩ = some (.int .i64 0) := (blk_cell BK267.out 3).trans rfl
                              have hfz49_0 := blk_frozen BK267.out 0
                              have hfz49_1 := blk_frozen BK267.out 1
                              have hfz49_2 := blk_frozen BK267.out 2
                              have hfz49_3 := blk_frozen BK267.out 3
                              go_wp2
                              repeat (go_quiet (fail); try go_wp2)
                              go_meet
                              case rel => exact ⟨_, (true), (by first | rfl | (simp; done) | (simp [*]; done)), H', ⟨by have := HJ2.out; have := HK2.out; first | omega | exact Nat.le_refl _⟩, ⟨by (with_reducible repeat (first | apply Kd.R_alloc | apply Kd.R_drewN | apply Kd.R_drew)); exact Kd.R_mono (Kd.R_far (p := ⟨gb267, 3, none⟩) (Kd.R_far (p := ⟨gb267, 2, none⟩) (Kd.R_far (p := ⟨gb267, 1, none⟩) (Kd.R_far (p := ⟨gb267, 0, none⟩) (Kd.R_mono HO_5.out (fun k_ hk => (⟨hk, hk.2⟩ : _ ∧ k_ ≠ gb267))) (fun _ hk => hk.2) (.int .i64 ((rd_T42 t258 x46_2).f0))) (fun _ hk => hk.2) (.int .i64 ((rd_T42 t258 x46_2).f1))) (fun _ hk => hk.2) (.int .i64 ((rd_T42 t258 x46_2).f2))) (fun _ hk => hk.2) (.int .i64 ((rd_T42 t258 x46_2).f3))) (fun _ hk => hk.1.2)⟩, ⟨by (with_reducible repeat (first | apply Kd.R_alloc | apply Kd.R_drewN | apply Kd.R_drew)); exact Kd.R_mono (Kd.R_far (p := ⟨gb267, 3, none⟩) (Kd.R_far (p := ⟨gb267, 2, none⟩) (Kd.R_far (p := ⟨gb267, 1, none⟩) (Kd.R_far (p := ⟨gb267, 0, none⟩) (Kd.R_types HO_7.out BK267.out (by decide)) (fun _ hk => hk.2) (.int .i64 ((rd_T42 t258 x46_2).f0))) (fun _ hk => hk.2) (.int .i64 ((rd_T42 t258 x46_2).f1))) (fun _ hk => hk.2) (.int .i64 ((rd_T42 t258 x46_2).f2))) (fun _ hk => hk.2) (.int .i64 ((rd_T42 t258 x46_2).f3))) (fun _ hk => trivial)⟩, ⟨by (with_reducible repeat (first | apply Kd.R_alloc | apply Kd.R_drewN | apply Kd.R_drew)); exact Kd.R_mono (Kd.R_far (p := ⟨gb267, 3, none⟩) (Kd.R_far (p := ⟨gb267, 2, none⟩) (Kd.R_far (p := ⟨gb267, 1, none⟩) (Kd.R_far (p := ⟨gb267, 0, none⟩) (Kd.R_mono HO_44.out (fun k_ hk => (⟨hk, hk.2⟩ : _ ∧ k_ ≠ gb267))) (fun _ hk => hk.2) (.int .i64 ((rd_T42 t258 x46_2).f0))) (fun _ hk => hk.2) (.int .i64 ((rd_T42 t258 x46_2).f1))) (fun _ hk => hk.2) (.int .i64 ((rd_T42 t258 x46_2).f2))) (fun _ hk => hk.2) (.int .i64 ((rd_T42 t258 x46_2).f3))) (fun _ hk => hk.1.2)⟩, ⟨by (with_reducible repeat (first | refine blk_drewN ?_ _ | refine blk_drew ?_ | refine blk_alloc ?_ _)); refine blk_far ?_ NB251_267.out _; (with_reducible repeat (first | refine blk_drewN ?_ _ | refine blk_drew ?_ | refine blk_alloc ?_ _)); refine blk_far ?_ NB251_267.out _; (with_reducible repeat (first | refine blk_drewN ?_ _ | refine blk_drew ?_ | refine blk_alloc ?_ _)); refine blk_far ?_ NB251_267.out _; (with_reducible repeat (first | refine blk_drewN ?_ _ | refine blk_drew ?_ | refine blk_alloc ?_ _)); refine blk_far ?_ NB251_267.out _; (with_reducible repeat (first | refine blk_drewN ?_ _ | refine blk_drew ?_ | refine blk_alloc ?_ _)); exact BK251.out⟩, ⟨by (with_reducible repeat (first | refine blk_drewN ?_ _ | refine blk_drew ?_ | refine blk_alloc ?_ _)); refine blk_put (cs := #[.int .i64 ((rd_T42 t258 x46_2).f0), .int .i64 ((rd_T42 t258 x46_2).f1), .int .i64 ((rd_T42 t258 x46_2).f2), .int .i64 0]) ?_ 3 _ rfl; (with_reducible repeat (first | refine blk_drewN ?_ _ | refine blk_drew ?_ | refine blk_alloc ?_ _)); refine blk_put (cs := #[.int .i64 ((rd_T42 t258 x46_2).f0), .int .i64 ((rd_T42 t258 x46_2).f1), .int .i64 0, .int .i64 0]) ?_ 2 _ rfl; (with_reducible repeat (first | refine blk_drewN ?_ _ | refine blk_drew ?_ | refine blk_alloc ?_ _)); refine blk_put (cs := #[.int .i64 ((rd_T42 t258 x46_2).f0), .int .i64 0, .int .i64 0, .int .i64 0]) ?_ 1 _ rfl; (with_reducible repeat (first | refine blk_drewN ?_ _ | refine blk_drew ?_ | refine blk_alloc ?_ _)); refine blk_put (cs := #[.int .i64 0, .int .i64 0, .int .i64 0, .int .i64 0]) ?_ 0 _ rfl; (with_reducible repeat (first | refine blk_drewN ?_ _ | refine blk_drew ?_ | refine blk_alloc ?_ _)); exact BK267.out⟩, ⟨by repeat (first | (with_reducible first | exact HB.out | apply below_alloc | apply pw_below_drewN | apply below_drew1 | refine below_set ?_ GE251.out | refine below_set ?_ GE267.out) | exact HB.out)⟩⟩
                            · rw [if_neg c47] at H
                              have c47b0 : decide (((rd_T42 t258 x46_2).f1) < 0) = false := decide_eq_false c47
                              clear c47
                              by_cases c50 : ((rd_T42 t258 x46_2).f1) > 1
                              · rw [if_pos c50] at H
                                have c50b0 : decide (1 < ((rd_T42 t258 x46_2).f1)) = true := decide_eq_true c50
                                clear c50
                                have H' := Aside0.mk H
                                clear H
                                have hnb51 := NB267_251.out
                                have hnc51 := NB251_267.out
                                have hcz52_0 : w43.cell? ⟨gb267, 0, none⟩ = some (.int .i64 0) := (blk_cell BK267.out 0).trans rfl
                                have hcz52_1 : w43.cell? ⟨gb267, 1, none⟩ = some (.int .i64 0) := (blk_cell BK267.out 1).trans rfl
                                have hcz52_2 : w43.cell? ⟨gb267, 2, none⟩ = some (.int .i64 0) := (blk_cell BK267.out 2).trans rfl
                                have hcz52_3 : w43.cell? ⟨gb267, 3, none⟩ = some (.int .i64 0) := (blk_cell BK267.out 3).trans rfl
                                have hfz52_0 := blk_frozen BK267.out 0
                                have hfz52_1 := blk_frozen BK267.out 1
                                have hfz52_2 := blk_frozen BK267.out 2
                                have hfz52_3 := blk_frozen BK267.out 3
                                go_wp2
                                repeat (go_quiet (fail); try go_wp2)
                                go_meet
                                case rel => exact ⟨_, (true), (by first | rfl | (simp; done) | (simp [*]; done)), H', ⟨by have := HJ2.out; have := HK2.out; first | omega | exact Nat.le_refl _⟩, ⟨by (with_reducible repeat (first | apply Kd.R_alloc | apply Kd.R_drewN | apply Kd.R_drew)); exact Kd.R_mono (Kd.R_far (p := ⟨gb267, 3, none⟩) (Kd.R_far (p := ⟨gb267, 2, none⟩) (Kd.R_far (p := ⟨gb267, 1, none⟩) (Kd.R_far (p := ⟨gb267, 0, none⟩) (Kd.R_mono HO_5.out (fun k_ hk => (⟨hk, hk.2⟩ : _ ∧ k_ ≠ gb267))) (fun _ hk => hk.2) (.int .i64 ((rd_T42 t258 x46_2).f0))) (fun _ hk => hk.2) (.int .i64 ((rd_T42 t258 x46_2).f1))) (fun _ hk => hk.2) (.int .i64 ((rd_T42 t258 x46_2).f2))) (fun _ hk => hk.2) (.int .i64 ((rd_T42 t258 x46_2).f3))) (fun _ hk => hk.1.2)⟩, ⟨by (with_reducible repeat (first | apply Kd.R_alloc | apply Kd.R_drewN | apply Kd.R_drew)); exact Kd.R_mono (Kd.R_far (p := ⟨gb267, 3, none⟩) (Kd.R_far (p := ⟨gb267, 2, none⟩) (Kd.R_far (p := ⟨gb267, 1, none⟩) (Kd.R_far (p := ⟨gb267, 0, none⟩) (Kd.R_types HO_7.out BK267.out (by decide)) (fun _ hk => hk.2) (.int .i64 ((rd_T42 t258 x46_2).f0))) (fun _ hk => hk.2) (.int .i64 ((rd_T42 t258 x46_2).f1))) (fun _ hk => hk.2) (.int .i64 ((rd_T42 t258 x46_2).f2))) (fun _ hk => hk.2) (.int .i64 ((rd_T42 t258 x46_2).f3))) (fun _ hk => trivial)⟩, ⟨by (with_reducible repeat (first | apply Kd.R_alloc | apply Kd.R_drewN | apply Kd.R_drew)); exact Kd.R_mono (Kd.R_far (p := ⟨gb267, 3, none⟩) (Kd.R_far (p := ⟨gb267, 2, none⟩) (Kd.R_far (p := ⟨gb267, 1, none⟩) (Kd.R_far (p := ⟨gb267, 0, none⟩) (Kd.R_mono HO_44.out (fun k_ hk => (⟨hk, hk.2⟩ : _ ∧ k_ ≠ gb267))) (fun _ hk => hk.2) (.int .i64 ((rd_T42 t258 x46_2).f0))) (fun _ hk => hk.2) (.int .i64 ((rd_T42 t258 x46_2).f1))) (fun _ hk => hk.2) (.int .i64 ((rd_T42 t258 x46_2).f2))) (fun _ hk => hk.2) (.int .i64 ((rd_T42 t258 x46_2).f3))) (fun _ hk => hk.1.2)⟩, ⟨by (with_reducible repeat (first | refine blk_drewN ?_ _ | refine blk_drew ?_ | refine blk_alloc ?_ _)); refine blk_far ?_ NB251_267.out _; (with_reducible repeat (first | refine blk_drewN ?_ _ | refine blk_drew ?_ | refine blk_alloc ?_ _)); refine blk_far ?_ NB251_267.out _; (with_reducible repeat (first | refine blk_drewN ?_ _ | refine blk_drew ?_ | refine blk_alloc ?_ _)); refine blk_far ?_ NB251_267.out _; (with_reducible repeat (first | refine blk_drewN ?_ _ | refine blk_drew ?_ | refine blk_alloc ?_ _)); refine blk_far ?_ NB251_267.out _; (with_reducible repeat (first | refine blk_drewN ?_ _ | refine blk_drew ?_ | refine blk_alloc ?_ _)); exact BK251.out⟩, ⟨by (with_reducible repeat (first | refine blk_drewN ?_ _ | refine blk_drew ?_ | refine blk_alloc ?_ _)); refine blk_put (cs := #[.int .i64 ((rd_T42 t258 x46_2).f0), .int .i64 ((rd_T42 t258 x46_2).f1), .int .i64 ((rd_T42 t258 x46_2).f2), .int .i64 0]) ?_ 3 _ rfl; (with_reducible repeat (first | refine blk_drewN ?_ _ | refine blk_drew ?_ | refine blk_alloc ?_ _)); refine blk_put (cs := #[.int .i64 ((rd_T42 t258 x46_2).f0), .int .i64 ((rd_T42 t258 x46_2).f1), .int .i64 0, .int .i64 0]) ?_ 2 _ rfl; (with_reducible repeat (first | refine blk_drewN ?_ _ | refine blk_drew ?_ | refine blk_alloc ?_ _)); refine blk_put (cs := #[.int .i64 ((rd_T42 t258 x46_2).f0), .int .i64 0, .int .i64 0, .int .i64 0]) ?_ 1 _ rfl; (with_reducible repeat (first | refine blk_drewN ?_ _ | refine blk_drew ?_ | refine blk_alloc ?_ _)); refine blk_put (cs := #[.int .i64 0, .int .i64 0, .int .i64 0, .int .i64 0]) ?_ 0 _ rfl; (with_reducible repeat (first | refine blk_drewN ?_ _ | refine blk_drew ?_ | refine blk_alloc ?_ _)); exact BK267.out⟩, ⟨by repeat (first | (with_reducible first | exact HB.out | apply below_alloc | apply pw_below_drewN | apply below_drew1 | refine below_set ?_ GE251.out | refine below_set ?_ GE267.out) | exact HB.out)⟩⟩
                              · rw [if_neg c50] at H
                                have c50b0 : decide (1 < ((rd_T42 t258 x46_2).f1)) = false := decide_eq_false c50
                                clear c50
                                by_cases c53 : ((rd_T42 t258 x46_2).f0) ≥ (l1.length : Int)
                                · rw [if_pos c53] at H
                                  have c53b0 : decide ((l1.length : Int) ≤ ((rd_T42 t258 x46_2).f0)) = true := decide_eq_true c53
                                  clear c53
                                  have H' := Aside0.mk H
                                  clear H
                                  have hnb54 := NB267_251.out
                                  have hnc54 := NB251_267.out
                                  have hcz55_0 : w43.cell? ⟨gb267, 0, none⟩ = some (.int .i64 0) := (blk_cell BK267.out 0).trans rfl
                                  have hcz55_1 : w43.cell? ⟨gb267, 1, none⟩ = some (.int .i64 0) := (blk_cell BK267.out 1).trans rfl
                                  have hcz55_2 : w43.cell? ⟨gb267, 2, none⟩ = some (.int .i64 0) := (blk_cell BK267.out 2).trans rfl
                                  have hcz55_3 : w43.cell? ⟨gb267, 3, none⟩ = some (.int .i64 0) := (blk_cell BK267.out 3).trans rfl
                                  have hfz55_0 := blk_frozen BK267.out 0
                                  have hfz55_1 := blk_frozen BK267.out 1
                                  have hfz55_2 := blk_frozen BK267.out 2
                                  have hfz55_3 := blk_frozen BK267.out 3
                                  go_wp2
                                  repeat (go_quiet (fail); try go_wp2)
                                  go_meet
                                  case rel => exact ⟨_, (true), (by first | rfl | (simp; done) | (simp [*]; done)), H', ⟨by have := HJ2.out; have := HK2.out; first | omega | exact Nat.le_refl _⟩, ⟨by (with_reducible repeat (first | apply Kd.R_alloc | apply Kd.R_drewN | apply Kd.R_drew)); exact Kd.R_mono (Kd.R_far (p := ⟨gb267, 3, none⟩) (Kd.R_far (p := ⟨gb267, 2, none⟩) (Kd.R_far (p := ⟨gb267, 1, none⟩) (Kd.R_far (p := ⟨gb267, 0, none⟩) (Kd.R_mono HO_5.out (fun k_ hk => (⟨hk, hk.2⟩ : _ ∧ k_ ≠ gb267))) (fun _ hk => hk.2) (.int .i64 ((rd_T42 t258 x46_2).f0))) (fun _ hk => hk.2) (.int .i64 ((rd_T42 t258 x46_2).f1))) (fun _ hk => hk.2) (.int .i64 ((rd_T42 t258 x46_2).f2))) (fun _ hk => hk.2) (.int .i64 ((rd_T42 t258 x46_2).f3))) (fun _ hk => hk.1.2)⟩, ⟨by (with_reducible repeat (first | apply Kd.R_alloc | apply Kd.R_drewN | apply Kd.R_drew)); exact Kd.R_mono (Kd.R_far (p := ⟨gb267, 3, none⟩) (Kd.R_far (p := ⟨gb267, 2, none⟩) (Kd.R_far (p := ⟨gb267, 1, none⟩) (Kd.R_far (p := ⟨gb267, 0, none⟩) (Kd.R_types HO_7.out BK267.out (by decide)) (fun _ hk => hk.2) (.int .i64 ((rd_T42 t258 x46_2).f0))) (fun _ hk => hk.2) (.int .i64 ((rd_T42 t258 x46_2).f1))) (fun _ hk => hk.2) (.int .i64 ((rd_T42 t258 x46_2).f2))) (fun _ hk => hk.2) (.int .i64 ((rd_T42 t258 x46_2).f3))) (fun _ hk => trivial)⟩, ⟨by (with_reducible repeat (first | apply Kd.R_alloc | apply Kd.R_drewN | apply Kd.R_drew)); exact Kd.R_mono (Kd.R_far (p := ⟨gb267, 3, none⟩) (Kd.R_far (p := ⟨gb267, 2, none⟩) (Kd.R_far (p := ⟨gb267, 1, none⟩) (Kd.R_far (p := ⟨gb267, 0, none⟩) (Kd.R_mono HO_44.out (fun k_ hk => (⟨hk, hk.2⟩ : _ ∧ k_ ≠ gb267))) (fun _ hk => hk.2) (.int .i64 ((rd_T42 t258 x46_2).f0))) (fun _ hk => hk.2) (.int .i64 ((rd_T42 t258 x46_2).f1))) (fun _ hk => hk.2) (.int .i64 ((rd_T42 t258 x46_2).f2))) (fun _ hk => hk.2) (.int .i64 ((rd_T42 t258 x46_2).f3))) (fun _ hk => hk.1.2)⟩, ⟨by (with_reducible repeat (first | refine blk_drewN ?_ _ | refine blk_drew ?_ | refine blk_alloc ?_ _)); refine blk_far ?_ NB251_267.out _; (with_reducible repeat (first | refine blk_drewN ?_ _ | refine blk_drew ?_ | refine blk_alloc ?_ _)); refine blk_far ?_ NB251_267.out _; (with_reducible repeat (first | refine blk_drewN ?_ _ | refine blk_drew ?_ | refine blk_alloc ?_ _)); refine blk_far ?_ NB251_267.out _; (with_reducible repeat (first | refine blk_drewN ?_ _ | refine blk_drew ?_ | refine blk_alloc ?_ _)); refine blk_far ?_ NB251_267.out _; (with_reducible repeat (first | refine blk_drewN ?_ _ | refine blk_drew ?_ | refine blk_alloc ?_ _)); exact BK251.out⟩, ⟨by (with_reducible repeat (first | refine blk_drewN ?_ _ | refine blk_drew ?_ | refine blk_alloc ?_ _)); refine blk_put (cs := #[.int .i64 ((rd_T42 t258 x46_2).f0), .int .i64 ((rd_T42 t258 x46_2).f1), .int .i64 ((rd_T42 t258 x46_2).f2), .int .i64 0]) ?_ 3 _ rfl; (with_reducible repeat (first | refine blk_drewN ?_ _ | refine blk_drew ?_ | refine blk_alloc ?_ _)); refine blk_put (cs := #[.int .i64 ((rd_T42 t258 x46_2).f0), .int .i64 ((rd_T42 t258 x46_2).f1), .int .i64 0, .int .i64 0]) ?_ 2 _ rfl; (with_reducible repeat (first | refine blk_drewN ?_ _ | refine blk_drew ?_ | refine blk_alloc ?_ _)); refine blk_put (cs := #[.int .i64 ((rd_T42 t258 x46_2).f0), .int .i64 0, .int .i64 0, .int .i64 0]) ?_ 1 _ rfl; (with_reducible repeat (first | refine blk_drewN ?_ _ | refine blk_drew ?_ | refine blk_alloc ?_ _)); refine blk_put (cs := #[.int .i64 0, .int .i64 0, .int .i64 0, .int .i64 0]) ?_ 0 _ rfl; (with_reducible repeat (first | refine blk_drewN ?_ _ | refine blk_drew ?_ | refine blk_alloc ?_ _)); exact BK267.out⟩, ⟨by repeat (first | (with_reducible first | exact HB.out | apply below_alloc | apply pw_below_drewN | apply below_drew1 | refine below_set ?_ GE251.out | refine below_set ?_ GE267.out) | exact HB.out)⟩⟩
                                · rw [if_neg c53] at H
                                  have c53b0 : decide ((l1.length : Int) ≤ ((rd_T42 t258 x46_2).f0)) = false := decide_eq_false c53
                                  clear c53
                                  by_cases c56 : ((rd_T42 t258 x46_2).f2) < 0
                                  · rw [if_pos c56] at H
                                    have c56b0 : decide (((rd_T42 t258 x46_2).f2) < 0) = true := decide_eq_true c56
                                    clear c56
                                    have H' := Aside0.mk H
                                    clear H
                                    have hnb57 := NB267_251.out
                                    have hnc57 := NB251_267.out
                                    have hcz58_0 : w43.cell? ⟨gb267, 0, none⟩ = some (.int .i64 0) := (blk_cell BK267.out 0).trans rfl
                                    have hcz58_1 : w43.cell? ⟨gb267, 1, none⟩ = some (.int .i64 0) := (blk_cell BK267.out 1).trans rfl
                                    have hcz58_2 : w43.cell? ⟨gb267, 2, none⟩ = some (.int .i64 0) := (blk_cell BK267.out 2).trans rfl
                                    have hcz58_3 : w43.cell? ⟨gb267, 3, none⟩ = some (.int .i64 0) := (blk_cell BK267.out 3).trans rfl
                                    have hfz58_0 := blk_frozen BK267.out 0
                                    have hfz58_1 := blk_frozen BK267.out 1
                                    have hfz58_2 := blk_frozen BK267.out 2
                                    have hfz58_3 := blk_frozen BK267.out 3
                                    go_wp2
                                    repeat (go_quiet (fail); try go_wp2)
                                    go_meet
                                    case rel => exact ⟨_, (true), (by first | rfl | (simp; done) | (simp [*]; done)), H', ⟨by have := HJ2.out; have := HK2.out; first | omega | exact Nat.le_refl _⟩, ⟨by (with_reducible repeat (first | apply Kd.R_alloc | apply Kd.R_drewN | apply Kd.R_drew)); exact Kd.R_mono (Kd.R_far (p := ⟨gb267, 3, none⟩) (Kd.R_far (p := ⟨gb267, 2, none⟩) (Kd.R_far (p := ⟨gb267, 1, none⟩) (Kd.R_far (p := ⟨gb267, 0, none⟩) (Kd.R_mono HO_5.out (fun k_ hk => (⟨hk, hk.2⟩ : _ ∧ k_ ≠ gb267))) (fun _ hk => hk.2) (.int .i64 ((rd_T42 t258 x46_2).f0))) (fun _ hk => hk.2) (.int .i64 ((rd_T42 t258 x46_2).f1))) (fun _ hk => hk.2) (.int .i64 ((rd_T42 t258 x46_2).f2))) (fun _ hk => hk.2) (.int .i64 ((rd_T42 t258 x46_2).f3))) (fun _ hk => hk.1.2)⟩, ⟨by (with_reducible repeat (first | apply Kd.R_alloc | apply Kd.R_drewN | apply Kd.R_drew)); exact Kd.R_mono (Kd.R_far (p := ⟨gb267, 3, none⟩) (Kd.R_far (p := ⟨gb267, 2, none⟩) (Kd.R_far (p := ⟨gb267, 1, none⟩) (Kd.R_far (p := ⟨gb267, 0, none⟩) (Kd.R_types HO_7.out BK267.out (by decide)) (fun _ hk => hk.2) (.int .i64 ((rd_T42 t258 x46_2).f0))) (fun _ hk => hk.2) (.int .i64 ((rd_T42 t258 x46_2).f1))) (fun _ hk => hk.2) (.int .i64 ((rd_T42 t258 x46_2).f2))) (fun _ hk => hk.2) (.int .i64 ((rd_T42 t258 x46_2).f3))) (fun _ hk => trivial)⟩, ⟨by (with_reducible repeat (first | apply Kd.R_alloc | apply Kd.R_drewN | apply Kd.R_drew)); exact Kd.R_mono (Kd.R_far (p := ⟨gb267, 3, none⟩) (Kd.R_far (p := ⟨gb267, 2, none⟩) (Kd.R_far (p := ⟨gb267, 1, none⟩) (Kd.R_far (p := ⟨gb267, 0, none⟩) (Kd.R_mono HO_44.out (fun k_ hk => (⟨hk, hk.2⟩ : _ ∧ k_ ≠ gb267))) (fun _ hk => hk.2) (.int .i64 ((rd_T42 t258 x46_2).f0))) (fun _ hk => hk.2) (.int .i64 ((rd_T42 t258 x46_2).f1))) (fun _ hk => hk.2) (.int .i64 ((rd_T42 t258 x46_2).f2))) (fun _ hk => hk.2) (.int .i64 ((rd_T42 t258 x46_2).f3))) (fun _ hk => hk.1.2)⟩, ⟨by (with_reducible repeat (first | refine blk_drewN ?_ _ | refine blk_drew ?_ | refine blk_alloc ?_ _)); refine blk_far ?_ NB251_267.out _; (with_reducible repeat (first | refine blk_drewN ?_ _ | refine blk_drew ?_ | refine blk_alloc ?_ _)); refine blk_far ?_ NB251_267.out _; (with_reducible repeat (first | refine blk_drewN ?_ _ | refine blk_drew ?_ | refine blk_alloc ?_ _)); refine blk_far ?_ NB251_267.out _; (with_reducible repeat (first | refine blk_drewN ?_ _ | refine blk_drew ?_ | refine blk_alloc ?_ _)); refine blk_far ?_ NB251_267.out _; (with_reducible repeat (first | refine blk_drewN ?_ _ | refine blk_drew ?_ | refine blk_alloc ?_ _)); exact BK251.out⟩, ⟨by (with_reducible repeat (first | refine blk_drewN ?_ _ | refine blk_drew ?_ | refine blk_alloc ?_ _)); refine blk_put (cs := #[.int .i64 ((rd_T42 t258 x46_2).f0), .int .i64 ((rd_T42 t258 x46_2).f1), .int .i64 ((rd_T42 t258 x46_2).f2), .int .i64 0]) ?_ 3 _ rfl; (with_reducible repeat (first | refine blk_drewN ?_ _ | refine blk_drew ?_ | refine blk_alloc ?_ _)); refine blk_put (cs := #[.int .i64 ((rd_T42 t258 x46_2).f0), .int .i64 ((rd_T42 t258 x46_2).f1), .int .i64 0, .int .i64 0]) ?_ 2 _ rfl; (with_reducible repeat (first | refine blk_drewN ?_ _ | refine blk_drew ?_ | refine blk_alloc ?_ _)); refine blk_put (cs := #[.int .i64 ((rd_T42 t258 x46_2).f0), .int .i64 0, .int .i64 0, .int .i64 0]) ?_ 1 _ rfl; (with_reducible repeat (first | refine blk_drewN ?_ _ | refine blk_drew ?_ | refine blk_alloc ?_ _)); refine blk_put (cs := #[.int .i64 0, .int .i64 0, .int .i64 0, .int .i64 0]) ?_ 0 _ rfl; (with_reducible repeat (first | refine blk_drewN ?_ _ | refine blk_drew ?_ | refine blk_alloc ?_ _)); exact BK267.out⟩, ⟨by repeat (first | (with_reducible first | exact HB.out | apply below_alloc | apply pw_below_drewN | apply below_drew1 | refine below_set ?_ GE251.out | refine below_set ?_ GE267.out) | exact HB.out)⟩⟩
                                  · rw [if_neg c56] at H
                                    have c56b0 : decide (((rd_T42 t258 x46_2).f2) < 0) = false := decide_eq_false c56
                                    clear c56
                                    by_cases c59 : ((rd_T42 t258 x46_2).f2) ≥ (x7_2.length : Int)
                                    · rw [if_pos c59] at H
                                      have c59b0 : decide ((x7_2.length : Int) ≤ ((rd_T42 t258 x46_2).f2)) = true := decide_eq_true c59
                                      clear c59
                                      have H' := Aside0.mk H
                                      clear H
                                      have hnb60 := NB267_251.out
                                      have hnc60 := NB251_267.out
                                      have hcz61_0 : w43.cell? ⟨gb267, 0, none⟩ = some (.int .i64 0) := (blk_cell BK267.out 0).trans rfl
                                      have hcz61_1 : w43.cell? ⟨gb267, 1, none⟩ = some (.int .i64 0) := (blk_cell BK267.out 1).trans rfl
                                      have hcz61_2 : w43.cell? ⟨gb267, 2, none⟩ = some (.int .i64 0) := (blk_cell BK267.out 2).trans rfl
                                      have hcz61_3 : w43.cell? ⟨gb267, 3, none⟩ = some (.int .i64 0) := (blk_cell BK267.out 3).trans rfl
                                      have hfz61_0 := blk_frozen BK267.out 0
                                      have hfz61_1 := blk_frozen BK267.out 1
                                      have hfz61_2 := blk_frozen BK267.out 2
                                      have hfz61_3 := blk_frozen BK267.out 3
                                      obtain ⟨Ao62, co62, eo62⟩ := Kd.R_slice HO_7.out
                                      subst eo62
                                      go_wp2
                                      repeat (go_quiet (fail); try go_wp2)
                                      go_meet
                                      case rel => exact ⟨_, (true), (by first | rfl | (simp; done) | (simp [*]; done)), H', ⟨by have := HJ2.out; have := HK2.out; first | omega | exact Nat.le_refl _⟩, ⟨by (with_reducible repeat (first | apply Kd.R_alloc | apply Kd.R_drewN | apply Kd.R_drew)); exact Kd.R_mono (Kd.R_far (p := ⟨gb267, 3, none⟩) (Kd.R_far (p := ⟨gb267, 2, none⟩) (Kd.R_far (p := ⟨gb267, 1, none⟩) (Kd.R_far (p := ⟨gb267, 0, none⟩) (Kd.R_mono HO_5.out (fun k_ hk => (⟨hk, hk.2⟩ : _ ∧ k_ ≠ gb267))) (fun _ hk => hk.2) (.int .i64 ((rd_T42 t258 x46_2).f0))) (fun _ hk => hk.2) (.int .i64 ((rd_T42 t258 x46_2).f1))) (fun _ hk => hk.2) (.int .i64 ((rd_T42 t258 x46_2).f2))) (fun _ hk => hk.2) (.int .i64 ((rd_T42 t258 x46_2).f3))) (fun _ hk => hk.1.2)⟩, ⟨by (with_reducible repeat (first | apply Kd.R_alloc | apply Kd.R_drewN | apply Kd.R_drew)); exact Kd.R_mono (Kd.R_far (p := ⟨gb267, 3, none⟩) (Kd.R_far (p := ⟨gb267, 2, none⟩) (Kd.R_far (p := ⟨gb267, 1, none⟩) (Kd.R_far (p := ⟨gb267, 0, none⟩) (Kd.R_types HO_7.out BK267.out (by decide)) (fun _ hk => hk.2) (.int .i64 ((rd_T42 t258 x46_2).f0))) (fun _ hk => hk.2) (.int .i64 ((rd_T42 t258 x46_2).f1))) (fun _ hk => hk.2) (.int .i64 ((rd_T42 t258 x46_2).f2))) (fun _ hk => hk.2) (.int .i64 ((rd_T42 t258 x46_2).f3))) (fun _ hk => trivial)⟩, ⟨by (with_reducible repeat (first | apply Kd.R_alloc | apply Kd.R_drewN | apply Kd.R_drew)); exact Kd.R_mono (Kd.R_far (p := ⟨gb267, 3, none⟩) (Kd.R_far (p := ⟨gb267, 2, none⟩) (Kd.R_far (p := ⟨gb267, 1, none⟩) (Kd.R_far (p := ⟨gb267, 0, none⟩) (Kd.R_mono HO_44.out (fun k_ hk => (⟨hk, hk.2⟩ : _ ∧ k_ ≠ gb267))) (fun _ hk => hk.2) (.int .i64 ((rd_T42 t258 x46_2).f0))) (fun _ hk => hk.2) (.int .i64 ((rd_T42 t258 x46_2).f1))) (fun _ hk => hk.2) (.int .i64 ((rd_T42 t258 x46_2).f2))) (fun _ hk => hk.2) (.int .i64 ((rd_T42 t258 x46_2).f3))) (fun _ hk => hk.1.2)⟩, ⟨by (with_reducible repeat (first | refine blk_drewN ?_ _ | refine blk_drew ?_ | refine blk_alloc ?_ _)); refine blk_far ?_ NB251_267.out _; (with_reducible repeat (first | refine blk_drewN ?_ _ | refine blk_drew ?_ | refine blk_alloc ?_ _)); refine blk_far ?_ NB251_267.out _; (with_reducible repeat (first | refine blk_drewN ?_ _ | refine blk_drew ?_ | refine blk_alloc ?_ _)); refine blk_far ?_ NB251_267.out _; (with_reducible repeat (first | refine blk_drewN ?_ _ | refine blk_drew ?_ | refine blk_alloc ?_ _)); refine blk_far ?_ NB251_267.out _; (with_reducible repeat (first | refine blk_drewN ?_ _ | refine blk_drew ?_ | refine blk_alloc ?_ _)); exact BK251.out⟩, ⟨by (with_reducible repeat (first | refine blk_drewN ?_ _ | refine blk_drew ?_ | refine blk_alloc ?_ _)); refine blk_put (cs := #[.int .i64 ((rd_T42 t258 x46_2).f0), .int .i64 ((rd_T42 t258 x46_2).f1), .int .i64 ((rd_T42 t258 x46_2).f2), .int .i64 0]) ?_ 3 _ rfl; (with_reducible repeat (first | refine blk_drewN ?_ _ | refine blk_drew ?_ | refine blk_alloc ?_ _)); refine blk_put (cs := #[.int .i64 ((rd_T42 t258 x46_2).f0), .int .i64 ((rd_T42 t258 x46_2).f1), .int .i64 0, .int .i64 0]) ?_ 2 _ rfl; (with_reducible repeat (first | refine blk_drewN ?_ _ | refine blk_drew ?_ | refine blk_alloc ?_ _)); refine blk_put (cs := #[.int .i64 ((rd_T42 t258 x46_2).f0), .int .i64 0, .int .i64 0, .int .i64 0]) ?_ 1 _ rfl; (with_reducible repeat (first | refine blk_drewN ?_ _ | refine blk_drew ?_ | refine blk_alloc ?_ _)); refine blk_put (cs := #[.int .i64 0, .int .i64 0, .int .i64 0, .int .i64 0]) ?_ 0 _ rfl; (with_reducible repeat (first | refine blk_drewN ?_ _ | refine blk_drew ?_ | refine blk_alloc ?_ _)); exact BK267.out⟩, ⟨by repeat (first | (with_reducible first | exact HB.out | apply below_alloc | apply pw_below_drewN | apply below_drew1 | refine below_set ?_ GE251.out | refine below_set ?_ GE267.out) | exact HB.out)⟩⟩
                                    · rw [if_neg c59] at H
                                      have c59b0 : decide ((x7_2.length : Int) ≤ ((rd_T42 t258 x46_2).f2)) = false := decide_eq_false c59
                                      clear c59
                                      by_cases c63 : ((rd_T42 t258 x46_2).f3) < 0
                                      · rw [if_pos c63] at H
                                        have c63b0 : decide (((rd_T42 t258 x46_2).f3) < 0) = true := decide_eq_true c63
                                        clear c63
                                        have H' := Aside0.mk H
                                        clear H
                                        have hnb64 := NB267_251.out
                                        have hnc64 := NB251_267.out
                                        have hcz65_0 : w43.cell? ⟨gb267, 0, none⟩ = some (.int .i64 0) := (blk_cell BK267.out 0).trans rfl
                                        have hcz65_1 : w43.cell? ⟨gb267, 1, none⟩ = some (.int .i64 0) := (blk_cell BK267.out 1).trans rfl
                                        have hcz65_2 : w43.cell? ⟨gb267, 2, none⟩ = some (.int .i64 0) := (blk_cell BK267.out 2).trans rfl
                                        have hcz65_3 : w43.cell? ⟨gb267, 3, none⟩ = some (.int .i64 0) := (blk_cell BK267.out 3).trans rfl
                                        have hfz65_0 := blk_frozen BK267.out 0
                                        have hfz65_1 := blk_frozen BK267.out 1
                                        have hfz65_2 := blk_frozen BK267.out 2
                                        have hfz65_3 := blk_frozen BK267.out 3
                                        obtain ⟨Ao66, co66, eo66⟩ := Kd.R_slice HO_7.out
                                        subst eo66
                                        go_wp2
                                        repeat (go_quiet (fail); try go_wp2)
                                        go_meet
                                        case rel => exact ⟨_, (true), (by first | rfl | (simp; done) | (simp [*]; done)), H', ⟨by have := HJ2.out; have := HK2.out; first | omega | exact Nat.le_refl _⟩, ⟨by (with_reducible repeat (first | apply Kd.R_alloc | apply Kd.R_drewN | apply Kd.R_drew)); exact Kd.R_mono (Kd.R_far (p := ⟨gb267, 3, none⟩) (Kd.R_far (p := ⟨gb267, 2, none⟩) (Kd.R_far (p := ⟨gb267, 1, none⟩) (Kd.R_far (p := ⟨gb267, 0, none⟩) (Kd.R_mono HO_5.out (fun k_ hk => (⟨hk, hk.2⟩ : _ ∧ k_ ≠ gb267))) (fun _ hk => hk.2) (.int .i64 ((rd_T42 t258 x46_2).f0))) (fun _ hk => hk.2) (.int .i64 ((rd_T42 t258 x46_2).f1))) (fun _ hk => hk.2) (.int .i64 ((rd_T42 t258 x46_2).f2))) (fun _ hk => hk.2) (.int .i64 ((rd_T42 t258 x46_2).f3))) (fun _ hk => hk.1.2)⟩, ⟨by (with_reducible repeat (first | apply Kd.R_alloc | apply Kd.R_drewN | apply Kd.R_drew)); exact Kd.R_mono (Kd.R_far (p := ⟨gb267, 3, none⟩) (Kd.R_far (p := ⟨gb267, 2, none⟩) (Kd.R_far (p := ⟨gb267, 1, none⟩) (Kd.R_far (p := ⟨gb267, 0, none⟩) (Kd.R_types HO_7.out BK267.out (by decide)) (fun _ hk => hk.2) (.int .i64 ((rd_T42 t258 x46_2).f0))) (fun _ hk => hk.2) (.int .i64 ((rd_T42 t258 x46_2).f1))) (fun _ hk => hk.2) (.int .i64 ((rd_T42 t258 x46_2).f2))) (fun _ hk => hk.2) (.int .i64 ((rd_T42 t258 x46_2).f3))) (fun _ hk => trivial)⟩, ⟨by (with_reducible repeat (first | apply Kd.R_alloc | apply Kd.R_drewN | apply Kd.R_drew)); exact Kd.R_mono (Kd.R_far (p := ⟨gb267, 3, none⟩) (Kd.R_far (p := ⟨gb267, 2, none⟩) (Kd.R_far (p := ⟨gb267, 1, none⟩) (Kd.R_far (p := ⟨gb267, 0, none⟩) (Kd.R_mono HO_44.out (fun k_ hk => (⟨hk, hk.2⟩ : _ ∧ k_ ≠ gb267))) (fun _ hk => hk.2) (.int .i64 ((rd_T42 t258 x46_2).f0))) (fun _ hk => hk.2) (.int .i64 ((rd_T42 t258 x46_2).f1))) (fun _ hk => hk.2) (.int .i64 ((rd_T42 t258 x46_2).f2))) (fun _ hk => hk.2) (.int .i64 ((rd_T42 t258 x46_2).f3))) (fun _ hk => hk.1.2)⟩, ⟨by (with_reducible repeat (first | refine blk_drewN ?_ _ | refine blk_drew ?_ | refine blk_alloc ?_ _)); refine blk_far ?_ NB251_267.out _; (with_reducible repeat (first | refine blk_drewN ?_ _ | refine blk_drew ?_ | refine blk_alloc ?_ _)); refine blk_far ?_ NB251_267.out _; (with_reducible repeat (first | refine blk_drewN ?_ _ | refine blk_drew ?_ | refine blk_alloc ?_ _)); refine blk_far ?_ NB251_267.out _; (with_reducible repeat (first | refine blk_drewN ?_ _ | refine blk_drew ?_ | refine blk_alloc ?_ _)); refine blk_far ?_ NB251_267.out _; (with_reducible repeat (first | refine blk_drewN ?_ _ | refine blk_drew ?_ | refine blk_alloc ?_ _)); exact BK251.out⟩, ⟨by (with_reducible repeat (first | refine blk_drewN ?_ _ | refine blk_drew ?_ | refine blk_alloc ?_ _)); refine blk_put (cs := #[.int .i64 ((rd_T42 t258 x46_2).f0), .int .i64 ((rd_T42 t258 x46_2).f1), .int .i64 ((rd_T42 t258 x46_2).f2), .int .i64 0]) ?_ 3 _ rfl; (with_reducible repeat (first | refine blk_drewN ?_ _ | refine blk_drew ?_ | refine blk_alloc ?_ _)); refine blk_put (cs := #[.int .i64 ((rd_T42 t258 x46_2).f0), .int .i64 ((rd_T42 t258 x46_2).f1), .int .i64 0, .int .i64 0]) ?_ 2 _ rfl; (with_reducible repeat (first | refine blk_drewN ?_ _ | refine blk_drew ?_ | refine blk_alloc ?_ _)); refine blk_put (cs := #[.int .i64 ((rd_T42 t258 x46_2).f0), .int .i64 0, .int .i64 0, .int .i64 0]) ?_ 1 _ rfl; (with_reducible repeat (first | refine blk_drewN ?_ _ | refine blk_drew ?_ | refine blk_alloc ?_ _)); refine blk_put (cs := #[.int .i64 0, .int .i64 0, .int .i64 0, .int .i64 0]) ?_ 0 _ rfl; (with_reducible repeat (first | refine blk_drewN ?_ _ | refine blk_drew ?_ | refine blk_alloc ?_ _)); exact BK267.out⟩, ⟨by repeat (first | (with_reducible first | exact HB.out | apply below_alloc | apply pw_below_drewN | apply below_drew1 | refine below_set ?_ GE251.out | refine below_set ?_ GE267.out) | exact HB.out)⟩⟩
                                      · rw [if_neg c63] at H
                                        have c63b0 : decide (((rd_T42 t258 x46_2).f3) < 0) = false := decide_eq_false c63
                                        clear c63
                                        have H' := Aside0.mk H
                                        clear H
                                        have hnb67 := NB267_251.out
                                        have hnc67 := NB251_267.out
                                        have hcz68_0 : w43.cell? ⟨gb267, 0, none⟩ = some (.int .i64 0) := (blk_cell BK267.out 0).trans rfl
                                        have hcz68_1 : w43.cell? ⟨gb267, 1, none⟩ = some (.int .i64 0) := (blk_cell BK267.out 1).trans rfl
                                        have hcz68_2 : w43.cell? ⟨gb267, 2, none⟩ = some (.int .i64 0) := (blk_cell BK267.out 2).trans rfl
                                        have hcz68_3 : w43.cell? ⟨gb267, 3, none⟩ = some (.int .i64 0) := (blk_cell BK267.out 3).trans rfl
                                        have hfz68_0 := blk_frozen BK267.out 0
                                        have hfz68_1 := blk_frozen BK267.out 1
                                        have hfz68_2 := blk_frozen BK267.out 2
                                        have hfz68_3 := blk_frozen BK267.out 3
                                        obtain ⟨Ao69, co69, eo69⟩ := Kd.R_slice HO_7.out
                                        subst eo69
                                        go_wp2
                                        repeat (go_quiet (fail); try go_wp2)
                                        go_meet
                                        case rel => exact ⟨_, (decide (((rd_T42 t258 x46_2).f3) > 65536)), (by first | rfl | (simp; done) | (simp [*]; done)), H', ⟨by have := HJ2.out; have := HK2.out; first | omega | exact Nat.le_refl _⟩, ⟨by (with_reducible repeat (first | apply Kd.R_alloc | apply Kd.R_drewN | apply Kd.R_drew)); exact Kd.R_mono (Kd.R_far (p := ⟨gb267, 3, none⟩) (Kd.R_far (p := ⟨gb267, 2, none⟩) (Kd.R_far (p := ⟨gb267, 1, none⟩) (Kd.R_far (p := ⟨gb267, 0, none⟩) (Kd.R_mono HO_5.out (fun k_ hk => (⟨hk, hk.2⟩ : _ ∧ k_ ≠ gb267))) (fun _ hk => hk.2) (.int .i64 ((rd_T42 t258 x46_2).f0))) (fun _ hk => hk.2) (.int .i64 ((rd_T42 t258 x46_2).f1))) (fun _ hk => hk.2) (.int .i64 ((rd_T42 t258 x46_2).f2))) (fun _ hk => hk.2) (.int .i64 ((rd_T42 t258 x46_2).f3))) (fun _ hk => hk.1.2)⟩, ⟨by (with_reducible repeat (first | apply Kd.R_alloc | apply Kd.R_drewN | apply Kd.R_drew)); exact Kd.R_mono (Kd.R_far (p := ⟨gb267, 3, none⟩) (Kd.R_far (p := ⟨gb267, 2, none⟩) (Kd.R_far (p := ⟨gb267, 1, none⟩) (Kd.R_far (p := ⟨gb267, 0, none⟩) (Kd.R_types HO_7.out BK267.out (by decide)) (fun _ hk => hk.2) (.int .i64 ((rd_T42 t258 x46_2).f0))) (fun _ hk => hk.2) (.int .i64 ((rd_T42 t258 x46_2).f1))) (fun _ hk => hk.2) (.int .i64 ((rd_T42 t258 x46_2).f2))) (fun _ hk => hk.2) (.int .i64 ((rd_T42 t258 x46_2).f3))) (fun _ hk => trivial)⟩, ⟨by (with_reducible repeat (first | apply Kd.R_alloc | apply Kd.R_drewN | apply Kd.R_drew)); exact Kd.R_mono (Kd.R_far (p := ⟨gb267, 3, none⟩) (Kd.R_far (p := ⟨gb267, 2, none⟩) (Kd.R_far (p := ⟨gb267, 1, none⟩) (Kd.R_far (p := ⟨gb267, 0, none⟩) (Kd.R_mono HO_44.out (fun k_ hk => (⟨hk, hk.2⟩ : _ ∧ k_ ≠ gb267))) (fun _ hk => hk.2) (.int .i64 ((rd_T42 t258 x46_2).f0))) (fun _ hk => hk.2) (.int .i64 ((rd_T42 t258 x46_2).f1))) (fun _ hk => hk.2) (.int .i64 ((rd_T42 t258 x46_2).f2))) (fun _ hk => hk.2) (.int .i64 ((rd_T42 t258 x46_2).f3))) (fun _ hk => hk.1.2)⟩, ⟨by (with_reducible repeat (first | refine blk_drewN ?_ _ | refine blk_drew ?_ | refine blk_alloc ?_ _)); refine blk_far ?_ NB251_267.out _; (with_reducible repeat (first | refine blk_drewN ?_ _ | refine blk_drew ?_ | refine blk_alloc ?_ _)); refine blk_far ?_ NB251_267.out _; (with_reducible repeat (first | refine blk_drewN ?_ _ | refine blk_drew ?_ | refine blk_alloc ?_ _)); refine blk_far ?_ NB251_267.out _; (with_reducible repeat (first | refine blk_drewN ?_ _ | refine blk_drew ?_ | refine blk_alloc ?_ _)); refine blk_far ?_ NB251_267.out _; (with_reducible repeat (first | refine blk_drewN ?_ _ | refine blk_drew ?_ | refine blk_alloc ?_ _)); exact BK251.out⟩, ⟨by (with_reducible repeat (first | refine blk_drewN ?_ _ | refine blk_drew ?_ | refine blk_alloc ?_ _)); refine blk_put (cs := #[.int .i64 ((rd_T42 t258 x46_2).f0), .int .i64 ((rd_T42 t258 x46_2).f1), .int .i64 ((rd_T42 t258 x46_2).f2), .int .i64 0]) ?_ 3 _ rfl; (with_reducible repeat (first | refine blk_drewN ?_ _ | refine blk_drew ?_ | refine blk_alloc ?_ _)); refine blk_put (cs := #[.int .i64 ((rd_T42 t258 x46_2).f0), .int .i64 ((rd_T42 t258 x46_2).f1), .int .i64 0, .int .i64 0]) ?_ 2 _ rfl; (with_reducible repeat (first | refine blk_drewN ?_ _ | refine blk_drew ?_ | refine blk_alloc ?_ _)); refine blk_put (cs := #[.int .i64 ((rd_T42 t258 x46_2).f0), .int .i64 0, .int .i64 0, .int .i64 0]) ?_ 1 _ rfl; (with_reducible repeat (first | refine blk_drewN ?_ _ | refine blk_drew ?_ | refine blk_alloc ?_ _)); refine blk_put (cs := #[.int .i64 0, .int .i64 0, .int .i64 0, .int .i64 0]) ?_ 0 _ rfl; (with_reducible repeat (first | refine blk_drewN ?_ _ | refine blk_drew ?_ | refine blk_alloc ?_ _)); exact BK267.out⟩, ⟨by repeat (first | (with_reducible first | exact HB.out | apply below_alloc | apply pw_below_drewN | apply below_drew1 | refine below_set ?_ GE251.out | refine below_set ?_ GE267.out) | exact HB.out)⟩⟩
                        case rest =>
                          clear HC42
                          try clear c1
                          try clear c2
                          try clear p2
                          try clear q2
                          try clear hx2
                          try clear qi2
                          try clear c3
                          try clear c4
                          try clear c5
                          try clear c6
                          try clear p6
                          try clear c8
                          try clear c10
                          try clear c25
                          try clear p25
                          try clear q25
                          try clear hx25
                          try clear qi25
                          try clear c26
                          try clear p26
                          try clear q26
                          try clear hx26
                          try clear qi26
                          try clear c29
                          try clear c29b0
                          try clear c29b1
                          try clear c31
                          try clear c31b0
                          try clear c31b1
                          try clear c32
                          try clear c32b0
                          try clear c32b1
                          try clear c39
                          try clear c39b0
                          try clear c40
                          try clear c40b0
                          try clear c41
                          try clear c41b0
                          try clear c44
                          try clear c46
                          try clear c46b0
                          try clear c47
                          try clear c47b0
                          try clear c48
                          try clear c50
                          try clear c50b0
                          try clear c51
                          try clear c53
                          try clear c53b0
                          try clear c54
                          try clear c56
                          try clear c56b0
                          try clear c57
                          try clear c59
                          try clear c59b0
                          try clear c60
                          try clear c63
                          try clear c63b0
                          try clear c64
                          try clear p64
                          try clear c67
                          try clear hcz12_0
                          try clear hcz12_1
                          try clear hcz14_0
                          try clear hcz14_1
                          try clear hcz16_0
                          try clear hcz16_1
                          try clear hcz18_0
                          try clear hcz18_1
                          try clear hcz20_0
                          try clear hcz20_1
                          try clear hcz22_0
                          try clear hcz22_1
                          try clear hcz24_0
                          try clear hcz24_1
                          try clear hcz33_0
                          try clear hcz33_1
                          try clear hcz35_0
                          try clear hcz35_1
                          try clear hcz45_0
                          try clear hcz45_1
                          try clear hcz45_2
                          try clear hcz45_3
                          try clear hcz49_0
                          try clear hcz49_1
                          try clear hcz49_2
                          try clear hcz49_3
                          try clear hcz52_0
                          try clear hcz52_1
                          try clear hcz52_2
                          try clear hcz52_3
                          try clear hcz55_0
                          try clear hcz55_1
                          try clear hcz55_2
                          try clear hcz55_3
                          try clear hcz58_0
                          try clear hcz58_1
                          try clear hcz58_2
                          try clear hcz58_3
                          try clear hcz61_0
                          try clear hcz61_1
                          try clear hcz61_2
                          try clear hcz61_3
                          try clear hcz65_0
                          try clear hcz65_1
                          try clear hcz65_2
                          try clear hcz65_3
                          try clear hcz68_0
                          try clear hcz68_1
                          try clear hcz68_2
                          try clear hcz68_3
                          try clear hfz12_0
                          try clear hfz12_1
                          try clear hfz14_0
                          try clear hfz14_1
                          try clear hfz16_0
                          try clear hfz16_1
                          try clear hfz18_0
                          try clear hfz18_1
                          try clear hfz20_0
                          try clear hfz20_1
                          try clear hfz22_0
                          try clear hfz22_1
                          try clear hfz24_0
                          try clear hfz24_1
                          try clear hfz33_0
                          try clear hfz33_1
                          try clear hfz35_0
                          try clear hfz35_1
                          try clear hfz45_0
                          try clear hfz45_1
                          try clear hfz45_2
                          try clear hfz45_3
                          try clear hfz49_0
                          try clear hfz49_1
                          try clear hfz49_2
                          try clear hfz49_3
                          try clear hfz52_0
                          try clear hfz52_1
                          try clear hfz52_2
                          try clear hfz52_3
                          try clear hfz55_0
                          try clear hfz55_1
                          try clear hfz55_2
                          try clear hfz55_3
                          try clear hfz58_0
                          try clear hfz58_1
                          try clear hfz58_2
                          try clear hfz58_3
                          try clear hfz61_0
                          try clear hfz61_1
                          try clear hfz61_2
                          try clear hfz61_3
                          try clear hfz65_0
                          try clear hfz65_1
                          try clear hfz65_2
                          try clear hfz65_3
                          try clear hfz68_0
                          try clear hfz68_1
                          try clear hfz68_2
                          try clear hfz68_3
                          try clear hx257_0
                          try clear hx257_1
                          try clear hx257_2
                          try clear hx261_0
                          try clear hx261_1
                          try clear hx261_2
                          try clear hx266_0
                          try clear hx266_1
                          try clear hx266_2
                          try clear hx266_3
                          try clear p2
                          try clear p25
                          try clear p257
                          try clear p26
                          try clear p261
                          try clear p266
                          try clear q2
                          try clear q25
                          try clear q257
                          try clear q26
                          try clear q261
                          try clear q266
                          obtain ⟨kq, x97_41, rfl, HA, HJ41, HO_5, HO_7, HO_44, BK251, BK267, HB⟩ := hcut
                          cases kq with
                          | zero => exact absurd HA.out (by simp [switchboardlaw15_ModelParts.j2])
                          | succ kj41 =>
                            have H := HA.out
                            clear HA
                            simp only [switchboardlaw15_ModelParts.j2] at H
                            by_cases c70 : x97_41 = true
                            · subst c70
                              have H1 : (some false) = some true := by rw [if_pos rfl] at H; exact H
                              clear H
                              have H := H1
                              clear H1
                              exact absurd H (by simp)
                            · replace c70 := Bool.eq_false_iff.mpr c70
                              subst c70
                              have H1 : (if 0 ≤ ((rd_T42 t258 x46_2).f2) then (if ((rd_T42 t258 x46_2).f2) < (x7_2.length : Int) then ((some (x7_2.set (((rd_T42 t258 x46_2).f2) : Int).toNat (wrap64 ((rd x7_2 ((rd_T42 t258 x46_2).f2)) + 1)) : List Int)).bind fun y269 => (if 0 < (l0_1.length : Int) then (if (rd y269 ((rd_T42 t258 x46_2).f2)) > ((rd_T37 l0_1 0).f2) then (some false) else (switchboardlaw15_ModelParts.l0 kj41 l1 t258 (wrap64 ((wrap64 (2 * ((rd_T42 t258 x46_2).f0))) + ((rd_T42 t258 x46_2).f1))) y269 t258 (t258.length : Int) (wrap64 (x46_2 + 1)) a0_0 l0_1)) else (none))) else (none)) else (none)) = some true := by rw [if_neg (show ¬ (false = true) by decide)] at H; exact H
                              clear H
                              have H := H1
                              clear H1
                              by_cases c71 : 0 ≤ ((rd_T42 t258 x46_2).f2)
                              · rw [if_pos c71] at H
                                have c71b0 : decide (0 ≤ ((rd_T42 t258 x46_2).f2)) = true := decide_eq_true c71
                                clear c71
                                by_cases c72 : ((rd_T42 t258 x46_2).f2) < (x7_2.length : Int)
                                · rw [if_pos c72] at H
                                  have c72b0 : decide (((rd_T42 t258 x46_2).f2) < (x7_2.length : Int)) = true := decide_eq_true c72
                                  clear c72
                                  obtain ⟨y269, hy269⟩ : ∃ y_ : List Int, y_ = (x7_2.set (((rd_T42 t258 x46_2).f2) : Int).toNat (wrap64 ((rd x7_2 ((rd_T42 t258 x46_2).f2)) + 1))) := ⟨_, rfl⟩
                                  replace H : (if 0 < (l0_1.length : Int) then (if (rd y269 ((rd_T42 t258 x46_2).f2)) > ((rd_T37 l0_1 0).f2) then (some false) else (switchboardlaw15_ModelParts.l0 kj41 l1 t258 (wrap64 ((wrap64 (2 * ((rd_T42 t258 x46_2).f0))) + ((rd_T42 t258 x46_2).f1))) y269 t258 (t258.length : Int) (wrap64 (x46_2 + 1)) a0_0 l0_1)) else (none)) = some true := by first | (rw [hy269]; with_reducible exact H) | (have H2_ := (Option.bind_some _ _).symm.trans H; rw [hy269]; with_reducible exact H2_) | (have H2_ := (Option.bind_some _ _).symm.trans H; with_reducible exact H2_) | with_reducible exact H | (rw [hy269]; exact H) | exact H
                                  have Ny269 := Aside0.mk hy269
                                  clear hy269
                                  by_cases c74 : 0 < (l0_1.length : Int)
                                  · rw [if_pos c74] at H
                                    have c74b0 : decide (0 < (l0_1.length : Int)) = true := decide_eq_true c74
                                    have c74b1 : decide (0 < l0_1.length) = true := decide_eq_true (by omega)
                                    clear c74
                                    by_cases c75 : (rd y269 ((rd_T42 t258 x46_2).f2)) > ((rd_T37 l0_1 0).f2)
                                    · rw [if_pos c75] at H
                                      have c75b0 : decide (((rd_T37 l0_1 0).f2) < (rd y269 ((rd_T42 t258 x46_2).f2))) = true := decide_eq_true c75
                                      clear c75
                                      exact absurd H (by simp)
                                    · rw [if_neg c75] at H
                                      have c75b0 : decide (((rd_T37 l0_1 0).f2) < (rd y269 ((rd_T42 t258 x46_2).f2))) = false := decide_eq_false c75
                                      clear c75
                                      have H' := Aside0.mk H
                                      clear H
                                      have hnb76 := NB267_251.out
                                      have hnc76 := NB251_267.out
                                      have hcz77_0 : wc.cell? ⟨gb267, 0, none⟩ = some (.int .i64 ((rd_T42 t258 x46_2).f0)) := (blk_cell BK267.out 0).trans rfl
                                      have hcz77_1 : wc.cell? ⟨gb267, 1, none⟩ = some (.int .i64 ((rd_T42 t258 x46_2).f1)) := (blk_cell BK267.out 1).trans rfl
                                      have hcz77_2 : wc.cell? ⟨gb267, 2, none⟩ = some (.int .i64 ((rd_T42 t258 x46_2).f2)) := (blk_cell BK267.out 2).trans rfl
                                      have hcz77_3 : wc.cell? ⟨gb267, 3, none⟩ = some (.int .i64 ((rd_T42 t258 x46_2).f3)) := (blk_cell BK267.out 3).trans rfl
                                      have hfz77_0 := blk_frozen BK267.out 0
                                      have hfz77_1 := blk_frozen BK267.out 1
                                      have hfz77_2 := blk_frozen BK267.out 2
                                      have hfz77_3 := blk_frozen BK267.out 3
                                      obtain ⟨Ao78, co78, eo78⟩ := Kd.R_slice HO_7.out
                                      subst eo78
                                      have p268 : 0 ≤ (((rd_T42 t258 x46_2).f2) : Int) := of_decide_eq_true (by first | (with_reducible assumption) | assumption)
                                      have q268 : ((rd_T42 t258 x46_2).f2) < (x7_2.length : Int) := of_decide_eq_true (by first | (with_reducible assumption) | assumption)
                                      obtain ⟨ad268, e268, hx268_0⟩ := Kd.at_int (Kd.R_reads' HO_7.out).2.2 ((rd_T42 t258 x46_2).f2) p268 q268
                                      cases e268
                                      replace p268 := eq_true p268
                                      replace q268 := eq_true q268
                                      have p73 : 0 ≤ (((rd_T42 t258 x46_2).f2) : Int) := of_decide_eq_true (by first | (with_reducible assumption) | assumption)
                                      have q73 : (((rd_T42 t258 x46_2).f2) : Int) < ((x7_2.length : Int) : Int) := of_decide_eq_true (by first | (with_reducible assumption) | assumption)
                                      obtain ⟨go73, co73, eo73, gb73, gl73, cl73, HG73⟩ := Kd.R_form HO_7.out (by omega)
                                      (first | cases eo73 | (injection eo73 with ea_ en_ ec_; (first | subst ea_ | (injection ea_ with ea_; subst ea_)); subst ec_; clear en_))
                                      have GB73 := Aside0.mk gb73
                                      have GG73 := Aside0.mk HG73
                                      clear gb73 gl73 HG73
                                      (first | simp only [add_plain] at hx268_0 | skip)
                                      obtain ⟨hx73_0, hf73_0⟩ := Kd.R_celln 0 HO_7.out (((rd_T42 t258 x46_2).f2) : Int) p73 q73
                                      replace p73 := eq_true p73
                                      replace q73 := eq_true q73
                                      have HP79 := Kd.R_putg HO_7.out (((rd_T42 t258 x46_2).f2) : Int) (wrap64 ((rd x7_2 ((rd_T42 t258 x46_2).f2)) + 1))
                                      go_wp2_with (first | ((with_reducible refine gate_store (t := 3) (p := 104) rfl ?_); (try (rw [drewN_self wc]; generalize hq_ : World.drewN wc _ = wc; have n0_ := Aside0.mk (Kd.R_at hq_ HO_5.out); have n1_ := Aside0.mk (Kd.R_at hq_ HO_7.out); have n2_ := Aside0.mk (Kd.R_at hq_ HO_44.out); have n3_ := Aside0.mk (blk_at hq_ BK251.out); have n4_ := Aside0.mk (blk_at hq_ BK267.out); have n5_ := Aside0.mk (below_at hq_ HB.out); clear hq_ HO_5 HO_7 HO_44 BK251 BK267 HB; have HO_5 := n0_; have HO_7 := n1_; have HO_44 := n2_; have BK251 := n3_; have BK267 := n4_; have HB := n5_; clear n0_ n1_ n2_ n3_ n4_ n5_; (try (have HP79 := Kd.R_putg HO_7.out (((rd_T42 t258 x46_2).f2) : Int) (wrap64 ((rd x7_2 ((rd_T42 t258 x46_2).f2)) + 1)))))); refine store_event (t := 3) (p := 104) (v := ?vo_w80) (w1 := (wc.setCell ⟨go73, (((rd_T42 t258 x46_2).f2) : Int).toNat, none⟩ (.int .i64 (wrap64 ((rd x7_2 ((rd_T42 t258 x46_2).f2)) + 1))))) ?hg ?ho ?hn ?hr ?_; (case ho => rfl); (case hg => rfl); (case hn => rfl); (case hr => first | (go_simp; done) | (go_simp; rfl)); intro w80 hw; have hg : wc.grownBy w80 (some go73) := (by rw [hw]; exact HP79.2); have hp_ : Kd.R (Kd.int .i64) 3 w80 w.heap.size (fun _ => True) (.slice (some ⟨go73, 0, none⟩) x7_2.length co78) y269 := (by rw [hw, Ny269.out]; exact HP79.1); clear HP79; have n0_ := Aside0.mk (Kd.R_over' (v := (.slice (some ⟨go73, 0, none⟩) x7_2.length co78)) (by (with_reducible repeat (first | apply Kd.R_alloc | apply Kd.R_drewN | apply Kd.R_drew)); exact HO_5.out) (Kd.R_typed HO_7.out) (by decide) hg); have n1_ := Aside0.mk (hp_); have n2_ := Aside0.mk (Kd.R_over' (v := (.slice (some ⟨go73, 0, none⟩) x7_2.length co78)) (by (with_reducible repeat (first | apply Kd.R_alloc | apply Kd.R_drewN | apply Kd.R_drew)); exact HO_44.out) (Kd.R_typed HO_7.out) (by decide) hg); have n3_ := Aside0.mk (blk_grown (g := gb251) (o := .cells #[.int .i64 a0_0, .slice (some ad257) l0_1.length c0_1] 24 (0, 0)) (by (with_reducible repeat (first | refine blk_drewN ?_ _ | refine blk_drew ?_ | refine blk_alloc ?_ _)); exact BK251.out) hg (Kd.R_ne HO_7.out BK251.out (by decide))); have n4_ := Aside0.mk (blk_grown (g := gb267) (o := .cells #[.int .i64 ((rd_T42 t258 x46_2).f0), .int .i64 ((rd_T42 t258 x46_2).f1), .int .i64 ((rd_T42 t258 x46_2).f2), .int .i64 ((rd_T42 t258 x46_2).f3)] 42 (0, 0)) (by (with_reducible repeat (first | refine blk_drewN ?_ _ | refine blk_drew ?_ | refine blk_alloc ?_ _)); exact BK267.out) hg (Kd.R_ne HO_7.out BK267.out (by decide))); have n5_ := Aside0.mk ((by rw [hw]; exact below_set (HB.out) GB73.out : Below w.heap.size w w80)); clear HO_5; clear HO_7; clear HO_44; clear BK251; clear BK267; clear HB; have HO_5 := n0_; have HO_7 := n1_; have HO_44 := n2_; have BK251 := n3_; have BK267 := n4_; have HB := n5_; clear n0_ n1_ n2_ n3_ n4_ n5_; clear hg hw hp_; have hcz81_0 : w80.cell? ⟨gb267, 0, none⟩ = some (.int .i64 ((rd_T42 t258 x46_2).f0)) := (blk_cell BK267.out 0).trans rfl; have hcz81_1 : w80.cell? ⟨gb267, 1, none⟩ = some (.int .i64 ((rd_T42 t258 x46_2).f1)) := (blk_cell BK267.out 1).trans rfl; have hcz81_2 : w80.cell? ⟨gb267, 2, none⟩ = some (.int .i64 ((rd_T42 t258 x46_2).f2)) := (blk_cell BK267.out 2).trans rfl; have hcz81_3 : w80.cell? ⟨gb267, 3, none⟩ = some (.int .i64 ((rd_T42 t258 x46_2).f3)) := (blk_cell BK267.out 3).trans rfl; have hfz81_0 := blk_frozen BK267.out 0; have hfz81_1 := blk_frozen BK267.out 1; have hfz81_2 := blk_frozen BK267.out 2; have hfz81_3 := blk_frozen BK267.out 3; have p270 : 0 ≤ (((rd_T42 t258 x46_2).f2) : Int) := of_decide_eq_true (by first | (with_reducible assumption) | assumption); have q270 : ((rd_T42 t258 x46_2).f2) < (y269.length : Int) := (by have h_ : (((rd_T42 t258 x46_2).f2) : Int) < ((x7_2.length : Int) : Int) := of_decide_eq_true (by first | (with_reducible assumption) | assumption); first | (have e_ := (Kd.R_reads' HO_7.out).1; omega) | simpa only [Ny269.out, List.length_set] using h_); have ql270 : ((((rd_T42 t258 x46_2).f2) : Int) < ((x7_2.length : Int) : Int)) = True := eq_true (of_decide_eq_true (by first | (with_reducible assumption) | assumption)); obtain ⟨ad270, e270, hx270_0⟩ := Kd.at_int (Kd.R_reads' HO_7.out).2.2 ((rd_T42 t258 x46_2).f2) p270 q270; obtain rfl : (⟨go73, 0, none⟩ : Addr) = ad270 := (by injection e270); (first | simp only [add_plain] at hx270_0 | simp only [add_at] at hx270_0 | simp only [Addr.add, Nat.zero_add] at hx270_0 | skip); replace p270 := eq_true p270; replace q270 := eq_true q270; have hcz82_0 : w80.cell? ⟨gb251, 0, none⟩ = some (.int .i64 a0_0) := (blk_cell BK251.out 0).trans rfl; have hcz82_1 : w80.cell? ⟨gb251, 1, none⟩ = some (.slice (some ad257) l0_1.length c0_1) := (blk_cell BK251.out 1).trans rfl; have hfz82_0 := blk_frozen BK251.out 0; have hfz82_1 := blk_frozen BK251.out 1; have p271 : 0 ≤ (0 : Int) := (by omega); have q271 : 0 < (l0_1.length : Int) := of_decide_eq_true (by first | (with_reducible assumption) | assumption); obtain ⟨ad271, A271_0, c271_0, A271_1, c271_1, e271, hx271_0, hx271_1, hx271_2, hl271_0, hi271_0, hl271_1, hi271_1⟩ := at_T37 HR0_1.out 0 p271 q271; obtain rfl : ad257 = ad271 := (by injection e271); have qi271 : (0 < l0_1.length) = True := eq_true (by omega); (try rw [show ((0 : Int)).toNat = 0 from rfl] at hx271_0); (try rw [show 0 * 3 = 0 from rfl] at hx271_0); (try rw [Addr.add_zero'] at hx271_0); (try rw [show ((0 : Int)).toNat = 0 from rfl] at hx271_1); (try rw [show 0 * 3 = 0 from rfl] at hx271_1); (try rw [Addr.add_zero'] at hx271_1); (try rw [show ((0 : Int)).toNat = 0 from rfl] at hx271_2); (try rw [show 0 * 3 = 0 from rfl] at hx271_2); (try rw [Addr.add_zero'] at hx271_2); replace hx271_0 := (HB.out.cell (World.block_lt_of_cell? w _ hx271_0)).trans hx271_0; replace hx271_1 := (HB.out.cell (World.block_lt_of_cell? w _ hx271_1)).trans hx271_1; replace hx271_2 := (HB.out.cell (World.block_lt_of_cell? w _ hx271_2)).trans hx271_2; have HR271_0 := Aside0.mk hi271_0; have HC271_0 := Aside0.mk hl271_0; clear hi271_0 hl271_0; have HR271_1 := Aside0.mk hi271_1; have HC271_1 := Aside0.mk hl271_1; clear hi271_1 hl271_1; replace p271 := eq_true p271; replace q271 := eq_true q271))
                                      repeat (go_quiet (first | ((with_reducible refine gate_store (t := 3) (p := 104) rfl ?_); (try (rw [drewN_self wc]; generalize hq_ : World.drewN wc _ = wc; have n0_ := Aside0.mk (Kd.R_at hq_ HO_5.out); have n1_ := Aside0.mk (Kd.R_at hq_ HO_7.out); have n2_ := Aside0.mk (Kd.R_at hq_ HO_44.out); have n3_ := Aside0.mk (blk_at hq_ BK251.out); have n4_ := Aside0.mk (blk_at hq_ BK267.out); have n5_ := Aside0.mk (below_at hq_ HB.out); clear hq_ HO_5 HO_7 HO_44 BK251 BK267 HB; have HO_5 := n0_; have HO_7 := n1_; have HO_44 := n2_; have BK251 := n3_; have BK267 := n4_; have HB := n5_; clear n0_ n1_ n2_ n3_ n4_ n5_; (try (have HP79 := Kd.R_putg HO_7.out (((rd_T42 t258 x46_2).f2) : Int) (wrap64 ((rd x7_2 ((rd_T42 t258 x46_2).f2)) + 1)))))); refine store_event (t := 3) (p := 104) (v := ?vo_w80) (w1 := (wc.setCell ⟨go73, (((rd_T42 t258 x46_2).f2) : Int).toNat, none⟩ (.int .i64 (wrap64 ((rd x7_2 ((rd_T42 t258 x46_2).f2)) + 1))))) ?hg ?ho ?hn ?hr ?_; (case ho => rfl); (case hg => rfl); (case hn => rfl); (case hr => first | (go_simp; done) | (go_simp; rfl)); intro w80 hw; have hg : wc.grownBy w80 (some go73) := (by rw [hw]; exact HP79.2); have hp_ : Kd.R (Kd.int .i64) 3 w80 w.heap.size (fun _ => True) (.slice (some ⟨go73, 0, none⟩) x7_2.length co78) y269 := (by rw [hw, Ny269.out]; exact HP79.1); clear HP79; have n0_ := Aside0.mk (Kd.R_over' (v := (.slice (some ⟨go73, 0, none⟩) x7_2.length co78)) (by (with_reducible repeat (first | apply Kd.R_alloc | apply Kd.R_drewN | apply Kd.R_drew)); exact HO_5.out) (Kd.R_typed HO_7.out) (by decide) hg); have n1_ := Aside0.mk (hp_); have n2_ := Aside0.mk (Kd.R_over' (v := (.slice (some ⟨go73, 0, none⟩) x7_2.length co78)) (by (with_reducible repeat (first | apply Kd.R_alloc | apply Kd.R_drewN | apply Kd.R_drew)); exact HO_44.out) (Kd.R_typed HO_7.out) (by decide) hg); have n3_ := Aside0.mk (blk_grown (g := gb251) (o := .cells #[.int .i64 a0_0, .slice (some ad257) l0_1.length c0_1] 24 (0, 0)) (by (with_reducible repeat (first | refine blk_drewN ?_ _ | refine blk_drew ?_ | refine blk_alloc ?_ _)); exact BK251.out) hg (Kd.R_ne HO_7.out BK251.out (by decide))); have n4_ := Aside0.mk (blk_grown (g := gb267) (o := .cells #[.int .i64 ((rd_T42 t258 x46_2).f0), .int .i64 ((rd_T42 t258 x46_2).f1), .int .i64 ((rd_T42 t258 x46_2).f2), .int .i64 ((rd_T42 t258 x46_2).f3)] 42 (0, 0)) (by (with_reducible repeat (first | refine blk_drewN ?_ _ | refine blk_drew ?_ | refine blk_alloc ?_ _)); exact BK267.out) hg (Kd.R_ne HO_7.out BK267.out (by decide))); have n5_ := Aside0.mk ((by rw [hw]; exact below_set (HB.out) GB73.out : Below w.heap.size w w80)); clear HO_5; clear HO_7; clear HO_44; clear BK251; clear BK267; clear HB; have HO_5 := n0_; have HO_7 := n1_; have HO_44 := n2_; have BK251 := n3_; have BK267 := n4_; have HB := n5_; clear n0_ n1_ n2_ n3_ n4_ n5_; clear hg hw hp_; have hcz81_0 : w80.cell? ⟨gb267, 0, none⟩ = some (.int .i64 ((rd_T42 t258 x46_2).f0)) := (blk_cell BK267.out 0).trans rfl; have hcz81_1 : w80.cell? ⟨gb267, 1, none⟩ = some (.int .i64 ((rd_T42 t258 x46_2).f1)) := (blk_cell BK267.out 1).trans rfl; have hcz81_2 : w80.cell? ⟨gb267, 2, none⟩ = some (.int .i64 ((rd_T42 t258 x46_2).f2)) := (blk_cell BK267.out 2).trans rfl; have hcz81_3 : w80.cell? ⟨gb267, 3, none⟩ = some (.int .i64 ((rd_T42 t258 x46_2).f3)) := (blk_cell BK267.out 3).trans rfl; have hfz81_0 := blk_frozen BK267.out 0; have hfz81_1 := blk_frozen BK267.out 1; have hfz81_2 := blk_frozen BK267.out 2; have hfz81_3 := blk_frozen BK267.out 3; have p270 : 0 ≤ (((rd_T42 t258 x46_2).f2) : Int) := of_decide_eq_true (by first | (with_reducible assumption) | assumption); have q270 : ((rd_T42 t258 x46_2).f2) < (y269.length : Int) := (by have h_ : (((rd_T42 t258 x46_2).f2) : Int) < ((x7_2.length : Int) : Int) := of_decide_eq_true (by first | (with_reducible assumption) | assumption); first | (have e_ := (Kd.R_reads' HO_7.out).1; omega) | simpa only [Ny269.out, List.length_set] using h_); have ql270 : ((((rd_T42 t258 x46_2).f2) : Int) < ((x7_2.length : Int) : Int)) = True := eq_true (of_decide_eq_true (by first | (with_reducible assumption) | assumption)); obtain ⟨ad270, e270, hx270_0⟩ := Kd.at_int (Kd.R_reads' HO_7.out).2.2 ((rd_T42 t258 x46_2).f2) p270 q270; obtain rfl : (⟨go73, 0, none⟩ : Addr) = ad270 := (by injection e270); (first | simp only [add_plain] at hx270_0 | simp only [add_at] at hx270_0 | simp only [Addr.add, Nat.zero_add] at hx270_0 | skip); replace p270 := eq_true p270; replace q270 := eq_true q270; have hcz82_0 : w80.cell? ⟨gb251, 0, none⟩ = some (.int .i64 a0_0) := (blk_cell BK251.out 0).trans rfl; have hcz82_1 : w80.cell? ⟨gb251, 1, none⟩ = some (.slice (some ad257) l0_1.length c0_1) := (blk_cell BK251.out 1).trans rfl; have hfz82_0 := blk_frozen BK251.out 0; have hfz82_1 := blk_frozen BK251.out 1; have p271 : 0 ≤ (0 : Int) := (by omega); have q271 : 0 < (l0_1.length : Int) := of_decide_eq_true (by first | (with_reducible assumption) | assumption); obtain ⟨ad271, A271_0, c271_0, A271_1, c271_1, e271, hx271_0, hx271_1, hx271_2, hl271_0, hi271_0, hl271_1, hi271_1⟩ := at_T37 HR0_1.out 0 p271 q271; obtain rfl : ad257 = ad271 := (by injection e271); have qi271 : (0 < l0_1.length) = True := eq_true (by omega); (try rw [show ((0 : Int)).toNat = 0 from rfl] at hx271_0); (try rw [show 0 * 3 = 0 from rfl] at hx271_0); (try rw [Addr.add_zero'] at hx271_0); (try rw [show ((0 : Int)).toNat = 0 from rfl] at hx271_1); (try rw [show 0 * 3 = 0 from rfl] at hx271_1); (try rw [Addr.add_zero'] at hx271_1); (try rw [show ((0 : Int)).toNat = 0 from rfl] at hx271_2); (try rw [show 0 * 3 = 0 from rfl] at hx271_2); (try rw [Addr.add_zero'] at hx271_2); replace hx271_0 := (HB.out.cell (World.block_lt_of_cell? w _ hx271_0)).trans hx271_0; replace hx271_1 := (HB.out.cell (World.block_lt_of_cell? w _ hx271_1)).trans hx271_1; replace hx271_2 := (HB.out.cell (World.block_lt_of_cell? w _ hx271_2)).trans hx271_2; have HR271_0 := Aside0.mk hi271_0; have HC271_0 := Aside0.mk hl271_0; clear hi271_0 hl271_0; have HR271_1 := Aside0.mk hi271_1; have HC271_1 := Aside0.mk hl271_1; clear hi271_1 hl271_1; replace p271 := eq_true p271; replace q271 := eq_true q271)); try go_wp2_with (first | ((with_reducible refine gate_store (t := 3) (p := 104) rfl ?_); (try (rw [drewN_self wc]; generalize hq_ : World.drewN wc _ = wc; have n0_ := Aside0.mk (Kd.R_at hq_ HO_5.out); have n1_ := Aside0.mk (Kd.R_at hq_ HO_7.out); have n2_ := Aside0.mk (Kd.R_at hq_ HO_44.out); have n3_ := Aside0.mk (blk_at hq_ BK251.out); have n4_ := Aside0.mk (blk_at hq_ BK267.out); have n5_ := Aside0.mk (below_at hq_ HB.out); clear hq_ HO_5 HO_7 HO_44 BK251 BK267 HB; have HO_5 := n0_; have HO_7 := n1_; have HO_44 := n2_; have BK251 := n3_; have BK267 := n4_; have HB := n5_; clear n0_ n1_ n2_ n3_ n4_ n5_; (try (have HP79 := Kd.R_putg HO_7.out (((rd_T42 t258 x46_2).f2) : Int) (wrap64 ((rd x7_2 ((rd_T42 t258 x46_2).f2)) + 1)))))); refine store_event (t := 3) (p := 104) (v := ?vo_w80) (w1 := (wc.setCell ⟨go73, (((rd_T42 t258 x46_2).f2) : Int).toNat, none⟩ (.int .i64 (wrap64 ((rd x7_2 ((rd_T42 t258 x46_2).f2)) + 1))))) ?hg ?ho ?hn ?hr ?_; (case ho => rfl); (case hg => rfl); (case hn => rfl); (case hr => first | (go_simp; done) | (go_simp; rfl)); intro w80 hw; have hg : wc.grownBy w80 (some go73) := (by rw [hw]; exact HP79.2); have hp_ : Kd.R (Kd.int .i64) 3 w80 w.heap.size (fun _ => True) (.slice (some ⟨go73, 0, none⟩) x7_2.length co78) y269 := (by rw [hw, Ny269.out]; exact HP79.1); clear HP79; have n0_ := Aside0.mk (Kd.R_over' (v := (.slice (some ⟨go73, 0, none⟩) x7_2.length co78)) (by (with_reducible repeat (first | apply Kd.R_alloc | apply Kd.R_drewN | apply Kd.R_drew)); exact HO_5.out) (Kd.R_typed HO_7.out) (by decide) hg); have n1_ := Aside0.mk (hp_); have n2_ := Aside0.mk (Kd.R_over' (v := (.slice (some ⟨go73, 0, none⟩) x7_2.length co78)) (by (with_reducible repeat (first | apply Kd.R_alloc | apply Kd.R_drewN | apply Kd.R_drew)); exact HO_44.out) (Kd.R_typed HO_7.out) (by decide) hg); have n3_ := Aside0.mk (blk_grown (g := gb251) (o := .cells #[.int .i64 a0_0, .slice (some ad257) l0_1.length c0_1] 24 (0, 0)) (by (with_reducible repeat (first | refine blk_drewN ?_ _ | refine blk_drew ?_ | refine blk_alloc ?_ _)); exact BK251.out) hg (Kd.R_ne HO_7.out BK251.out (by decide))); have n4_ := Aside0.mk (blk_grown (g := gb267) (o := .cells #[.int .i64 ((rd_T42 t258 x46_2).f0), .int .i64 ((rd_T42 t258 x46_2).f1), .int .i64 ((rd_T42 t258 x46_2).f2), .int .i64 ((rd_T42 t258 x46_2).f3)] 42 (0, 0)) (by (with_reducible repeat (first | refine blk_drewN ?_ _ | refine blk_drew ?_ | refine blk_alloc ?_ _)); exact BK267.out) hg (Kd.R_ne HO_7.out BK267.out (by decide))); have n5_ := Aside0.mk ((by rw [hw]; exact below_set (HB.out) GB73.out : Below w.heap.size w w80)); clear HO_5; clear HO_7; clear HO_44; clear BK251; clear BK267; clear HB; have HO_5 := n0_; have HO_7 := n1_; have HO_44 := n2_; have BK251 := n3_; have BK267 := n4_; have HB := n5_; clear n0_ n1_ n2_ n3_ n4_ n5_; clear hg hw hp_; have hcz81_0 : w80.cell? ⟨gb267, 0, none⟩ = some (.int .i64 ((rd_T42 t258 x46_2).f0)) := (blk_cell BK267.out 0).trans rfl; have hcz81_1 : w80.cell? ⟨gb267, 1, none⟩ = some (.int .i64 ((rd_T42 t258 x46_2).f1)) := (blk_cell BK267.out 1).trans rfl; have hcz81_2 : w80.cell? ⟨gb267, 2, none⟩ = some (.int .i64 ((rd_T42 t258 x46_2).f2)) := (blk_cell BK267.out 2).trans rfl; have hcz81_3 : w80.cell? ⟨gb267, 3, none⟩ = some (.int .i64 ((rd_T42 t258 x46_2).f3)) := (blk_cell BK267.out 3).trans rfl; have hfz81_0 := blk_frozen BK267.out 0; have hfz81_1 := blk_frozen BK267.out 1; have hfz81_2 := blk_frozen BK267.out 2; have hfz81_3 := blk_frozen BK267.out 3; have p270 : 0 ≤ (((rd_T42 t258 x46_2).f2) : Int) := of_decide_eq_true (by first | (with_reducible assumption) | assumption); have q270 : ((rd_T42 t258 x46_2).f2) < (y269.length : Int) := (by have h_ : (((rd_T42 t258 x46_2).f2) : Int) < ((x7_2.length : Int) : Int) := of_decide_eq_true (by first | (with_reducible assumption) | assumption); first | (have e_ := (Kd.R_reads' HO_7.out).1; omega) | simpa only [Ny269.out, List.length_set] using h_); have ql270 : ((((rd_T42 t258 x46_2).f2) : Int) < ((x7_2.length : Int) : Int)) = True := eq_true (of_decide_eq_true (by first | (with_reducible assumption) | assumption)); obtain ⟨ad270, e270, hx270_0⟩ := Kd.at_int (Kd.R_reads' HO_7.out).2.2 ((rd_T42 t258 x46_2).f2) p270 q270; obtain rfl : (⟨go73, 0, none⟩ : Addr) = ad270 := (by injection e270); (first | simp only [add_plain] at hx270_0 | simp only [add_at] at hx270_0 | simp only [Addr.add, Nat.zero_add] at hx270_0 | skip); replace p270 := eq_true p270; replace q270 := eq_true q270; have hcz82_0 : w80.cell? ⟨gb251, 0, none⟩ = some (.int .i64 a0_0) := (blk_cell BK251.out 0).trans rfl; have hcz82_1 : w80.cell? ⟨gb251, 1, none⟩ = some (.slice (some ad257) l0_1.length c0_1) := (blk_cell BK251.out 1).trans rfl; have hfz82_0 := blk_frozen BK251.out 0; have hfz82_1 := blk_frozen BK251.out 1; have p271 : 0 ≤ (0 : Int) := (by omega); have q271 : 0 < (l0_1.length : Int) := of_decide_eq_true (by first | (with_reducible assumption) | assumption); obtain ⟨ad271, A271_0, c271_0, A271_1, c271_1, e271, hx271_0, hx271_1, hx271_2, hl271_0, hi271_0, hl271_1, hi271_1⟩ := at_T37 HR0_1.out 0 p271 q271; obtain rfl : ad257 = ad271 := (by injection e271); have qi271 : (0 < l0_1.length) = True := eq_true (by omega); (try rw [show ((0 : Int)).toNat = 0 from rfl] at hx271_0); (try rw [show 0 * 3 = 0 from rfl] at hx271_0); (try rw [Addr.add_zero'] at hx271_0); (try rw [show ((0 : Int)).toNat = 0 from rfl] at hx271_1); (try rw [show 0 * 3 = 0 from rfl] at hx271_1); (try rw [Addr.add_zero'] at hx271_1); (try rw [show ((0 : Int)).toNat = 0 from rfl] at hx271_2); (try rw [show 0 * 3 = 0 from rfl] at hx271_2); (try rw [Addr.add_zero'] at hx271_2); replace hx271_0 := (HB.out.cell (World.block_lt_of_cell? w _ hx271_0)).trans hx271_0; replace hx271_1 := (HB.out.cell (World.block_lt_of_cell? w _ hx271_1)).trans hx271_1; replace hx271_2 := (HB.out.cell (World.block_lt_of_cell? w _ hx271_2)).trans hx271_2; have HR271_0 := Aside0.mk hi271_0; have HC271_0 := Aside0.mk hl271_0; clear hi271_0 hl271_0; have HR271_1 := Aside0.mk hi271_1; have HC271_1 := Aside0.mk hl271_1; clear hi271_1 hl271_1; replace p271 := eq_true p271; replace q271 := eq_true q271)))
                                      go_roundg kj41
                                      case measure => have := HJ2.out; have := HK2.out; have := HJ41.out; omega
                                      case rel => exact ⟨((wrap64 ((wrap64 (2 * ((rd_T42 t258 x46_2).f0))) + ((rd_T42 t258 x46_2).f1)))), (y269), (wrap64 (x46_2 + 1)), (by first | rfl | (simp; done) | (simp [*]; done)), (by first | rfl | (simp; done) | (simp [*]; done)), H', ⟨by have := HJ2.out; have := HK2.out; have := HJ41.out; omega⟩, ⟨by (with_reducible repeat (first | apply Kd.R_alloc | apply Kd.R_drewN | apply Kd.R_drew)); exact Kd.R_mono HO_5.out (fun _ hk => trivial)⟩, ⟨by (with_reducible repeat (first | apply Kd.R_alloc | apply Kd.R_drewN | apply Kd.R_drew)); exact HO_7.out⟩, ⟨by (with_reducible repeat (first | apply Kd.R_alloc | apply Kd.R_drewN | apply Kd.R_drew)); exact Kd.R_mono HO_44.out (fun _ hk => trivial)⟩, ⟨by (with_reducible repeat (first | refine blk_drewN ?_ _ | refine blk_drew ?_ | refine blk_alloc ?_ _)); exact BK251.out⟩, ⟨by repeat (first | (with_reducible first | exact HB.out | apply below_alloc | apply pw_below_drewN | apply below_drew1 | refine below_set ?_ GE251.out | refine below_set ?_ GE267.out) | exact HB.out)⟩⟩
                                  · rw [if_neg c74] at H
                                    exact absurd H (by simp)
                                · rw [if_neg c72] at H
                                  exact absurd H (by simp)
                              · rw [if_neg c71] at H
                                exact absurd H (by simp)
                      · rw [if_neg c41] at H
                        exact absurd H (by simp)
                    · rw [if_neg c40] at H
                      exact absurd H (by simp)
                  · rw [if_neg c39] at H
                    have c39b0 : decide (x46_2 < (t258.length : Int)) = false := decide_eq_false c39
                    clear c39
                    by_cases c83 : (t258.length : Int) ≥ 1
                    · rw [if_pos c83] at H
                      have c83b0 : decide (1 ≤ (t258.length : Int)) = true := decide_eq_true c83
                      have c83b1 : decide (1 ≤ t258.length) = true := decide_eq_true (by omega)
                      clear c83
                      replace H := Option.bind_eq_some_iff.mp H
                      obtain ⟨t265, A840, H⟩ := H
                      replace H : (some t265) = some true := H
                      have A84 := Aside0.mk A840
                      clear A840
                      have hr_ := Aside0.mk (Option.some.inj H)
                      go_wp2_with (first | (go_at_call 11; (with_reducible refine (switchboardlaw15_awake.calls  t265 _ A84.out).mono ?_); rintro e w85 ⟨rfl, hb⟩; have n0_ := Aside0.mk (Kd.R_below (by (with_reducible repeat (first | apply Kd.R_alloc | apply Kd.R_drewN | apply Kd.R_drew)); exact HO_5.out) hb); have n1_ := Aside0.mk (Kd.R_below (by (with_reducible repeat (first | apply Kd.R_alloc | apply Kd.R_drewN | apply Kd.R_drew)); exact HO_7.out) hb); have n2_ := Aside0.mk (Kd.R_below (by (with_reducible repeat (first | apply Kd.R_alloc | apply Kd.R_drewN | apply Kd.R_drew)); exact HO_44.out) hb); have n3_ := Aside0.mk (blk_below (g := gb251) (o := .cells #[.int .i64 a0_0, .slice (some ad257) l0_1.length c0_1] 24 (0, 0)) (by (with_reducible repeat (first | refine blk_drewN ?_ _ | refine blk_drew ?_ | refine blk_alloc ?_ _)); exact BK251.out) hb); have n4_ := Aside0.mk (below_step (by repeat (first | (with_reducible first | exact HB.out | apply below_alloc | apply pw_below_drewN | apply below_drew1 | refine below_set ?_ GE251.out) | exact HB.out)) hb); clear HO_5; clear HO_7; clear HO_44; clear BK251; clear HB; have HO_5 := n0_; have HO_7 := n1_; have HO_44 := n2_; have BK251 := n3_; have HB := n4_; clear n0_ n1_ n2_ n3_ n4_; (try clear hb); (try clear hb2); (try clear hk); (try clear hi)))
                      repeat (go_quiet (first | (go_at_call 11; (with_reducible refine (switchboardlaw15_awake.calls  t265 _ A84.out).mono ?_); rintro e w85 ⟨rfl, hb⟩; have n0_ := Aside0.mk (Kd.R_below (by (with_reducible repeat (first | apply Kd.R_alloc | apply Kd.R_drewN | apply Kd.R_drew)); exact HO_5.out) hb); have n1_ := Aside0.mk (Kd.R_below (by (with_reducible repeat (first | apply Kd.R_alloc | apply Kd.R_drewN | apply Kd.R_drew)); exact HO_7.out) hb); have n2_ := Aside0.mk (Kd.R_below (by (with_reducible repeat (first | apply Kd.R_alloc | apply Kd.R_drewN | apply Kd.R_drew)); exact HO_44.out) hb); have n3_ := Aside0.mk (blk_below (g := gb251) (o := .cells #[.int .i64 a0_0, .slice (some ad257) l0_1.length c0_1] 24 (0, 0)) (by (with_reducible repeat (first | refine blk_drewN ?_ _ | refine blk_drew ?_ | refine blk_alloc ?_ _)); exact BK251.out) hb); have n4_ := Aside0.mk (below_step (by repeat (first | (with_reducible first | exact HB.out | apply below_alloc | apply pw_below_drewN | apply below_drew1 | refine below_set ?_ GE251.out) | exact HB.out)) hb); clear HO_5; clear HO_7; clear HO_44; clear BK251; clear HB; have HO_5 := n0_; have HO_7 := n1_; have HO_44 := n2_; have BK251 := n3_; have HB := n4_; clear n0_ n1_ n2_ n3_ n4_; (try clear hb); (try clear hb2); (try clear hk); (try clear hi))); try go_wp2_with (first | (go_at_call 11; (with_reducible refine (switchboardlaw15_awake.calls  t265 _ A84.out).mono ?_); rintro e w85 ⟨rfl, hb⟩; have n0_ := Aside0.mk (Kd.R_below (by (with_reducible repeat (first | apply Kd.R_alloc | apply Kd.R_drewN | apply Kd.R_drew)); exact HO_5.out) hb); have n1_ := Aside0.mk (Kd.R_below (by (with_reducible repeat (first | apply Kd.R_alloc | apply Kd.R_drewN | apply Kd.R_drew)); exact HO_7.out) hb); have n2_ := Aside0.mk (Kd.R_below (by (with_reducible repeat (first | apply Kd.R_alloc | apply Kd.R_drewN | apply Kd.R_drew)); exact HO_44.out) hb); have n3_ := Aside0.mk (blk_below (g := gb251) (o := .cells #[.int .i64 a0_0, .slice (some ad257) l0_1.length c0_1] 24 (0, 0)) (by (with_reducible repeat (first | refine blk_drewN ?_ _ | refine blk_drew ?_ | refine blk_alloc ?_ _)); exact BK251.out) hb); have n4_ := Aside0.mk (below_step (by repeat (first | (with_reducible first | exact HB.out | apply below_alloc | apply pw_below_drewN | apply below_drew1 | refine below_set ?_ GE251.out) | exact HB.out)) hb); clear HO_5; clear HO_7; clear HO_44; clear BK251; clear HB; have HO_5 := n0_; have HO_7 := n1_; have HO_44 := n2_; have BK251 := n3_; have HB := n4_; clear n0_ n1_ n2_ n3_ n4_; (try clear hb); (try clear hb2); (try clear hk); (try clear hi))))
                      go_ret
                      exact ⟨by first | rfl | exact congrArg (fun b_ => Ending.returned (Value.bool b_)) hr_.out | exact congrArg (fun b_ => Ending.returned (Value.bool b_)) hr_.out | (simp [errW_none, errW_some] <;> rfl) | (simp [*, errW_none, errW_some] <;> rfl), by repeat (first | (with_reducible first | exact HB.out | apply below_alloc | apply pw_below_drewN | apply below_drew1 | refine below_set ?_ GE251.out) | exact HB.out)⟩
                    · rw [if_neg c83] at H
                      have c83b0 : decide (1 ≤ (t258.length : Int)) = false := decide_eq_false c83
                      have c83b1 : decide (1 ≤ t258.length) = false := decide_eq_false (by omega)
                      clear c83
                      exact absurd H (by simp)
            · rw [if_neg c32] at H
              exact absurd H (by simp)
          · rw [if_neg c31] at H
            exact absurd H (by simp)
        · rw [if_neg c29] at H
          exact absurd H (by simp)

end Go.Proofs.Ytlicglgogklnkaa.Pm
