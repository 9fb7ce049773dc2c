-- Laid by wip/xprint.py, a program of this session that runs the kit's print with some contracts given by hand; not a text of print.sh. Lean checks it.
import Derived.Test.YtikncbklhnaajaaPr0
import Derived.Test.YtikncbklhnaajaaPr2
import Derived.Test.YtikncbklhnaajaaPr3
namespace Go.Proofs.Ytikncbklhnaajaa.Pr
open Go.RowKit Go.Proofs.YtikncbklhnaajaaW.PrintWords Go.Proofs.YtikncbklhnaajaaW.PrintLast Go.Proofs.YtikncbklhnaajaaW.PrintMore
attribute [local go_sem] max2_int min2_int max_two min_two max_three min_three max_four min_four   -- for this text's walks alone
set_option linter.unusedVariables false
set_option linter.unusedSimpArgs false

/-! ### switchboardlaw10_LinkWrong: function 5 -/
mutual
def switchboardlaw10_LinkWrong.j0 : Nat → ByteArray → Bool → Int → List (S45) → Int → List (S40) → Option (Bool)
  | 0, _, _, _, _, _, _ => none
  | k + 1, x1, x27, x237000, x237001, x243000, x243001 => if x27 = true then ((switchboardlaw10_awake.f k).bind fun t243 => (some t243)) else ((link_Push.f k x237000 x237001 x1).bind fun bt244 => ((switchboardlaw10_ref.f k bt244.1 bt244.2.1).bind fun bt251 => ((link_Told.f x237000 x237001 (-1)).bind fun bt257 => ((switchboardlaw10_ref.f k bt257.1 bt257.2).bind fun bt261 => ((link_Right.f k x237000 x237001).bind fun t267 => (if t267 = true then (if (x237001.length : Int) < 64 then (switchboardlaw10_LinkWrong.j1 k bt244.2.2.1 bt244.2.2.2 (decide (x237000 < 2147483647)) x237000 x237001 x243000 x243001 bt244.1 bt244.2.1 bt251.1 bt251.2.1 bt261.1 bt261.2.1) else (switchboardlaw10_LinkWrong.j1 k bt244.2.2.1 bt244.2.2.2 false x237000 x237001 x243000 x243001 bt244.1 bt244.2.1 bt251.1 bt251.2.1 bt261.1 bt261.2.1)) else (switchboardlaw10_LinkWrong.j1 k bt244.2.2.1 bt244.2.2.2 false x237000 x237001 x243000 x243001 bt244.1 bt244.2.1 bt251.1 bt251.2.1 bt261.1 bt261.2.1)))))))
def switchboardlaw10_LinkWrong.j1 : Nat → Int → Int → Bool → Int → List (S45) → Int → List (S40) → Int → List (S45) → Int → List (S40) → Int → List (S40) → Option (Bool)
  | 0, _, _, _, _, _, _, _, _, _, _, _, _, _ => none
  | k + 1, x8, x9, x59, x237000, x237001, x243000, x243001, x251000, x251001, x257000, x257001, x267000, x267001 => if x59 = true then (if x9 = 0 then (if x8 = x237000 then (if (x251001.length : Int) = (wrap64 ((x237001.length : Int) + 1)) then ((switchboardlaw10_awake.f k).bind fun t268 => (some t268)) else (some false)) else (some false)) else (some false)) else (switchboardlaw10_LinkWrong.l0 k x8 x9 x237001 (x237001.length : Int) 0 x243000 x243001 x257000 x257001 x267000 x267001)
def switchboardlaw10_LinkWrong.l0 : Nat → Int → Int → List (S45) → Int → Int → Int → List (S40) → Int → List (S40) → Int → List (S40) → Option (Bool)
  | 0, _, _, _, _, _, _, _, _, _, _, _ => none
  | k + 1, x8, x9, x82, x83, x84, x243000, x243001, x257000, x257001, x267000, x267001 => if x84 < x83 then (if 0 ≤ x84 then (if x84 < (x82.length : Int) then (if ((rd_T45 x82 x84).f0) = (-1) then (if x9 = 0 then (some false) else ((switchboardlaw10_awake.f k).bind fun t271 => (some t271))) else (switchboardlaw10_LinkWrong.l0 k x8 x9 x82 x83 (wrap64 (x84 + 1)) x243000 x243001 x257000 x257001 x267000 x267001)) else (none)) else (none)) else (if x9 = 0 then (some false) else (if x8 = 0 then ((switchboardref10_Same.f k x243000 x243001 x257000 x257001).bind fun t272 => (if t272 = true then ((switchboardref10_Same.f k x243000 x243001 x267000 x267001).bind fun t273 => (if t273 = true then ((switchboardlaw10_awake.f k).bind fun t274 => (some t274)) else (some false))) else (some false))) else (some false)))
end
def switchboardlaw10_LinkWrong.f (k : Nat) (a0_0 : Int) (l0_1 : List (S45)) (a1 : ByteArray) : Option (Bool) := (switchboardlaw10_ref.f k a0_0 l0_1).bind fun bt237 => (if bt237.2.2 = true then (switchboardlaw10_LinkWrong.j0 k a1 (decide ((a1.size : Int) > 100)) a0_0 l0_1 bt237.1 bt237.2.1) else (switchboardlaw10_LinkWrong.j0 k a1 true a0_0 l0_1 bt237.1 bt237.2.1))
theorem switchboardlaw10_LinkWrong.mono_l : ∀ k, (∀ y0 y1 y2 y3 y4 y5, LeO (switchboardlaw10_LinkWrong.j0 k y0 y1 y2 y3 y4 y5) (switchboardlaw10_LinkWrong.j0 (k + 1) y0 y1 y2 y3 y4 y5)) ∧ (∀ y0 y1 y2 y3 y4 y5 y6 y7 y8 y9 y10 y11 y12, LeO (switchboardlaw10_LinkWrong.j1 k y0 y1 y2 y3 y4 y5 y6 y7 y8 y9 y10 y11 y12) (switchboardlaw10_LinkWrong.j1 (k + 1) y0 y1 y2 y3 y4 y5 y6 y7 y8 y9 y10 y11 y12)) ∧ (∀ y0 y1 y2 y3 y4 y5 y6 y7 y8 y9 y10, LeO (switchboardlaw10_LinkWrong.l0 k y0 y1 y2 y3 y4 y5 y6 y7 y8 y9 y10) (switchboardlaw10_LinkWrong.l0 (k + 1) y0 y1 y2 y3 y4 y5 y6 y7 y8 y9 y10))
  | 0 => ⟨fun _ _ _ _ _ _ r h => by simp [switchboardlaw10_LinkWrong.j0] at h, fun _ _ _ _ _ _ _ _ _ _ _ _ _ r h => by simp [switchboardlaw10_LinkWrong.j1] at h, fun _ _ _ _ _ _ _ _ _ _ _ r h => by simp [switchboardlaw10_LinkWrong.l0] at h⟩
  | k + 1 => by
    obtain ⟨ih0, ih1, ih2⟩ := switchboardlaw10_LinkWrong.mono_l k
    refine ⟨?_, ?_, ?_⟩
    · intro y0 y1 y2 y3 y4 y5
      unfold switchboardlaw10_LinkWrong.j0
      repeat' first
      | (with_reducible exact ih0 _ _ _ _ _ _)
      | (with_reducible exact ih1 _ _ _ _ _ _ _ _ _ _ _ _ _)
      | (with_reducible exact ih2 _ _ _ _ _ _ _ _ _ _ _)
      | (with_reducible exact link_Push.mono _ _ _ _)
      | (with_reducible exact link_Right.mono _ _ _)
      | (with_reducible exact switchboardlaw10_awake.mono _)
      | (with_reducible exact switchboardlaw10_ref.mono _ _ _)
      | (with_reducible exact switchboardref10_Same.mono _ _ _ _ _)
      | (with_reducible exact LeO.refl _)
      | (with_reducible exact LeO.none _)
      | (with_reducible refine LeO.ite ?_ ?_)
      | (with_reducible refine LeO.bind ?_ (fun _ => ?_))
      | exact ih0 _ _ _ _ _ _
      | exact ih1 _ _ _ _ _ _ _ _ _ _ _ _ _
      | exact ih2 _ _ _ _ _ _ _ _ _ _ _
      | exact link_Push.mono _ _ _ _
      | exact link_Right.mono _ _ _
      | exact switchboardlaw10_awake.mono _
      | exact switchboardlaw10_ref.mono _ _ _
      | exact switchboardref10_Same.mono _ _ _ _ _
      | exact LeO.none _
      | refine LeO.ite ?_ ?_
      | refine LeO.bind ?_ (fun _ => ?_)
    · intro y0 y1 y2 y3 y4 y5 y6 y7 y8 y9 y10 y11 y12
      unfold switchboardlaw10_LinkWrong.j1
      repeat' first
      | (with_reducible exact ih0 _ _ _ _ _ _)
      | (with_reducible exact ih1 _ _ _ _ _ _ _ _ _ _ _ _ _)
      | (with_reducible exact ih2 _ _ _ _ _ _ _ _ _ _ _)
      | (with_reducible exact link_Push.mono _ _ _ _)
      | (with_reducible exact link_Right.mono _ _ _)
      | (with_reducible exact switchboardlaw10_awake.mono _)
      | (with_reducible exact switchboardlaw10_ref.mono _ _ _)
      | (with_reducible exact switchboardref10_Same.mono _ _ _ _ _)
      | (with_reducible exact LeO.refl _)
      | (with_reducible exact LeO.none _)
      | (with_reducible refine LeO.ite ?_ ?_)
      | (with_reducible refine LeO.bind ?_ (fun _ => ?_))
      | exact ih0 _ _ _ _ _ _
      | exact ih1 _ _ _ _ _ _ _ _ _ _ _ _ _
      | exact ih2 _ _ _ _ _ _ _ _ _ _ _
      | exact link_Push.mono _ _ _ _
      | exact link_Right.mono _ _ _
      | exact switchboardlaw10_awake.mono _
      | exact switchboardlaw10_ref.mono _ _ _
      | exact switchboardref10_Same.mono _ _ _ _ _
      | exact LeO.none _
      | refine LeO.ite ?_ ?_
      | refine LeO.bind ?_ (fun _ => ?_)
    · intro y0 y1 y2 y3 y4 y5 y6 y7 y8 y9 y10
      unfold switchboardlaw10_LinkWrong.l0
      repeat' first
      | (with_reducible exact ih0 _ _ _ _ _ _)
      | (with_reducible exact ih1 _ _ _ _ _ _ _ _ _ _ _ _ _)
      | (with_reducible exact ih2 _ _ _ _ _ _ _ _ _ _ _)
      | (with_reducible exact link_Push.mono _ _ _ _)
      | (with_reducible exact link_Right.mono _ _ _)
      | (with_reducible exact switchboardlaw10_awake.mono _)
      | (with_reducible exact switchboardlaw10_ref.mono _ _ _)
      | (with_reducible exact switchboardref10_Same.mono _ _ _ _ _)
      | (with_reducible exact LeO.refl _)
      | (with_reducible exact LeO.none _)
      | (with_reducible refine LeO.ite ?_ ?_)
      | (with_reducible refine LeO.bind ?_ (fun _ => ?_))
      | exact ih0 _ _ _ _ _ _
      | exact ih1 _ _ _ _ _ _ _ _ _ _ _ _ _
      | exact ih2 _ _ _ _ _ _ _ _ _ _ _
      | exact link_Push.mono _ _ _ _
      | exact link_Right.mono _ _ _
      | exact switchboardlaw10_awake.mono _
      | exact switchboardlaw10_ref.mono _ _ _
      | exact switchboardref10_Same.mono _ _ _ _ _
      | exact LeO.none _
      | refine LeO.ite ?_ ?_
      | refine LeO.bind ?_ (fun _ => ?_)
theorem switchboardlaw10_LinkWrong.mono : ∀ a0 a1 a2 k, LeO (switchboardlaw10_LinkWrong.f k a0 a1 a2) (switchboardlaw10_LinkWrong.f (k + 1) a0 a1 a2) := by
  intro a0 a1 a2 k
  obtain ⟨ih0, ih1, ih2⟩ := switchboardlaw10_LinkWrong.mono_l k
  unfold switchboardlaw10_LinkWrong.f
  repeat' first
      | (with_reducible exact ih0 _ _ _ _ _ _)
      | (with_reducible exact ih1 _ _ _ _ _ _ _ _ _ _ _ _ _)
      | (with_reducible exact ih2 _ _ _ _ _ _ _ _ _ _ _)
      | (with_reducible exact link_Push.mono _ _ _ _)
      | (with_reducible exact link_Right.mono _ _ _)
      | (with_reducible exact switchboardlaw10_awake.mono _)
      | (with_reducible exact switchboardlaw10_ref.mono _ _ _)
      | (with_reducible exact switchboardref10_Same.mono _ _ _ _ _)
      | (with_reducible exact LeO.refl _)
      | (with_reducible exact LeO.none _)
      | (with_reducible refine LeO.ite ?_ ?_)
      | (with_reducible refine LeO.bind ?_ (fun _ => ?_))
      | exact ih0 _ _ _ _ _ _
      | exact ih1 _ _ _ _ _ _ _ _ _ _ _ _ _
      | exact ih2 _ _ _ _ _ _ _ _ _ _ _
      | exact link_Push.mono _ _ _ _
      | exact link_Right.mono _ _ _
      | exact switchboardlaw10_awake.mono _
      | exact switchboardlaw10_ref.mono _ _ _
      | exact switchboardref10_Same.mono _ _ _ _ _
      | exact LeO.none _
      | refine LeO.ite ?_ ?_
      | refine LeO.bind ?_ (fun _ => ?_)
set_option maxHeartbeats 8000000 in
set_option maxRecDepth 100000 in
theorem switchboardlaw10_LinkWrong.calls (k : Nat) (a0_0 : Int) (A0_1 : Option Addr) (c0_1 : Nat) (l0_1 : List (S45)) (a1 : ByteArray) (w : World) (hr0_1 : Kd.C k45 w A0_1 l0_1.length l0_1) (hc0_1 : l0_1.length ≤ c0_1) (h : switchboardlaw10_LinkWrong.f k a0_0 l0_1 a1 = some true) :
    Calls Try.prog 5 #[.agg #[.int .i64 a0_0, .slice A0_1 l0_1.length c0_1], .string a1] w fun e w' => e = .returned (.bool true) ∧ Below w.heap.size w w' := by
  have hu24 := Try.underlying24
  have hu27 := Try.underlying27
  have hu45 := Try.underlying45
  have HR0_1 := Aside0.mk hr0_1
  have HC0_1 := Aside0.mk hc0_1
  clear hr0_1 hc0_1
  have HB := Aside0.mk (Below.refl w.heap.size w)
  have H : ((switchboardlaw10_ref.f k a0_0 l0_1).bind fun bt237 => (if bt237.2.2 = true then (switchboardlaw10_LinkWrong.j0 k a1 (decide ((a1.size : Int) > 100)) a0_0 l0_1 bt237.1 bt237.2.1) else (switchboardlaw10_LinkWrong.j0 k a1 true a0_0 l0_1 bt237.1 bt237.2.1))) = some true := h
  clear h
  replace H := Option.bind_eq_some_iff.mp H
  obtain ⟨⟨t237, t238, t241⟩, A30, H⟩ := H
  replace H : (if t241 = true then (switchboardlaw10_LinkWrong.j0 k a1 (decide ((a1.size : Int) > 100)) a0_0 l0_1 t237 t238) else (switchboardlaw10_LinkWrong.j0 k a1 true a0_0 l0_1 t237 t238)) = some true := H
  have A3 := Aside0.mk A30
  clear A30
  have HC4 := Aside0.mk H
  clear H
  go_enter Try.func5, Try.ntmps5
  go_upto_region 2 with (first | ((with_reducible refine gate_dst (N := 2) rfl ?_); (try (refine gate_guard (by rfl) ?_; dsimp only)); refine box_event ?hg (N := 2) ?hd (cs := #[.int .i64 a0_0, .slice A0_1 l0_1.length c0_1]) (t := 24) ?hr ?_; (case hd => rfl); (case hg => rfl); (case hr => first | (go_simp; done) | (go_simp; rfl)); intro gb236 hg w5 hbox hb; have n0_ := Aside0.mk (below_step (by repeat (first | (with_reducible first | exact HB.out | apply below_alloc | apply pw_below_drewN | apply below_drew1) | exact HB.out)) hb); have n1_ := Aside0.mk (hbox); have n2_ := Aside0.mk ((by rw [hg]; exact (below_size (by repeat (first | (with_reducible first | exact HB.out | apply below_alloc | apply pw_below_drewN | apply below_drew1) | exact HB.out))) : w.heap.size ≤ gb236)); have n3_ := Aside0.mk ((by rw [hg]; exact (below_size (by repeat (first | (with_reducible first | exact HB.out | apply below_alloc | apply pw_below_drewN | apply below_drew1) | exact HB.out))) : w.heap.size ≤ gb236)); clear HB; have HB := n0_; have BK236 := n1_; have GW236 := n2_; have GE236 := n3_; clear n0_ n1_ n2_ n3_; clear hb hbox hg; have hcz6_0 : w5.cell? ⟨gb236, 0, none⟩ = some (.int .i64 a0_0) := (blk_cell BK236.out 0).trans rfl; have hcz6_1 : w5.cell? ⟨gb236, 1, none⟩ = some (.slice A0_1 l0_1.length c0_1) := (blk_cell BK236.out 1).trans rfl; have hfz6_0 := blk_frozen BK236.out 0; have hfz6_1 := blk_frozen BK236.out 1) | ((with_reducible refine gate_callee (f := 8) rfl ?_); refine goesL_ (some 18) rfl rfl Try.func8 (by kernel_rfl) rfl #[.agg #[.int .i64 a0_0, .slice A0_1 l0_1.length c0_1]] rfl (by (try simp only [List.map_toArray, List.map_cons, List.map_nil]); first | done | rfl | (simp only [List.length_drop, List.length_take]; rfl)) ?_; (with_reducible refine (switchboardlaw10_ref.calls k a0_0 _ _ l0_1 t237 t238 t241 _ ?side1 ?side2 A3.out).mono ?_); (case side1 => repeat (first | exact (Kd.C_below HR0_1.out HB.out) | (with_reducible refine Kd.C_alloc ?_ _) | (with_reducible refine Kd.C_drewN ?_ _) | (with_reducible refine Kd.C_drew ?_))); (case side2 => exact HC0_1.out); rintro e w7 ⟨v239, rfl, ho0, hb⟩; refine ⟨_, rfl, ?_⟩; have n0_ := Aside0.mk (Kd.R_lower ho0 (below_size (by repeat (first | (with_reducible first | exact HB.out | apply below_alloc | apply pw_below_drewN | apply below_drew1 | refine below_set ?_ GE236.out) | exact HB.out)))); have n1_ := Aside0.mk (blk_below (g := gb236) (o := .cells #[.int .i64 a0_0, .slice A0_1 l0_1.length c0_1] 24 (0, 0)) (by (with_reducible repeat (first | refine blk_drewN ?_ _ | refine blk_drew ?_ | refine blk_alloc ?_ _)); exact BK236.out) hb); have n2_ := Aside0.mk (below_step (by repeat (first | (with_reducible first | exact HB.out | apply below_alloc | apply pw_below_drewN | apply below_drew1 | refine below_set ?_ GE236.out) | exact HB.out)) hb); clear BK236; clear HB; have HO240 := n0_; have BK236 := n1_; have HB := n2_; clear n0_ n1_ n2_; (try clear hb); (try clear hb2); (try clear hk); (try clear hi); (try clear ho0)) | ((with_reducible refine gate_dst (N := 5) rfl ?_); (try (refine gate_guard (by rfl) ?_; dsimp only)); refine box_event ?hg (N := 5) ?hd (cs := #[.int .i64 0, .slice none 0 0]) (t := 27) ?hr ?_; (case hd => rfl); (case hg => rfl); (case hr => first | (go_simp; done) | (go_simp; rfl)); intro gb242 hg w8 hbox hb; have n0_ := Aside0.mk (Kd.R_below (by (with_reducible repeat (first | apply Kd.R_alloc | apply Kd.R_drewN | apply Kd.R_drew)); exact HO240.out) hb); have n1_ := Aside0.mk (blk_below (g := gb236) (o := .cells #[.int .i64 a0_0, .slice A0_1 l0_1.length c0_1] 24 (0, 0)) (by (with_reducible repeat (first | refine blk_drewN ?_ _ | refine blk_drew ?_ | refine blk_alloc ?_ _)); exact BK236.out) hb); have n2_ := Aside0.mk (below_step (by repeat (first | (with_reducible first | exact HB.out | apply below_alloc | apply pw_below_drewN | apply below_drew1 | refine below_set ?_ GE236.out) | exact HB.out)) hb); have n3_ := Aside0.mk (hbox); have n4_ := Aside0.mk ((by rw [hg]; exact (below_size (by repeat (first | (with_reducible first | exact HB.out | apply below_alloc | apply pw_below_drewN | apply below_drew1 | refine below_set ?_ GE236.out) | exact HB.out))) : w.heap.size ≤ gb242)); have n5_ := Aside0.mk ((by rw [hg]; exact (below_size (by repeat (first | (with_reducible first | exact HB.out | apply below_alloc | apply pw_below_drewN | apply below_drew1 | refine below_set ?_ GE236.out) | exact HB.out))) : w.heap.size ≤ gb242)); have n6_ := Aside0.mk ((by rw [hg]; exact Nat.ne_of_lt (blk_lt (g := gb236) (o := .cells #[.int .i64 a0_0, .slice A0_1 l0_1.length c0_1] 24 (0, 0)) (by (with_reducible repeat (first | refine blk_drewN ?_ _ | refine blk_drew ?_ | refine blk_alloc ?_ _)); exact BK236.out)) : gb236 ≠ gb242)); have n7_ := Aside0.mk ((by rw [hg]; exact Nat.ne_of_gt (blk_lt (g := gb236) (o := .cells #[.int .i64 a0_0, .slice A0_1 l0_1.length c0_1] 24 (0, 0)) (by (with_reducible repeat (first | refine blk_drewN ?_ _ | refine blk_drew ?_ | refine blk_alloc ?_ _)); exact BK236.out)) : gb242 ≠ gb236)); clear HO240; clear BK236; clear HB; have HO240 := n0_; have BK236 := n1_; have HB := n2_; have BK242 := n3_; have GW242 := n4_; have GE242 := n5_; have NB236_242 := n6_; have NB242_236 := n7_; clear n0_ n1_ n2_ n3_ n4_ n5_ n6_ n7_; clear hb hbox hg; have hnb9 := NB242_236.out; have hnc9 := NB236_242.out; have hcz10_0 : w8.cell? ⟨gb242, 0, none⟩ = some (.int .i64 0) := (blk_cell BK242.out 0).trans rfl; have hcz10_1 : w8.cell? ⟨gb242, 1, none⟩ = some (.slice none 0 0) := (blk_cell BK242.out 1).trans rfl; have hfz10_0 := blk_frozen BK242.out 0; have hfz10_1 := blk_frozen BK242.out 1; obtain ⟨Ao11, co11, eo11⟩ := Kd.R_slice HO240.out; subst eo11))
  (try simp only [Act.put, List.setIfInBounds_toArray, List.set_cons_zero, List.set_cons_succ])
  go_cut [27] (fun v27 wc => ∃ (kq : Nat) (x27_3 : Bool), v27 = .bool x27_3 ∧ Aside0 (switchboardlaw10_LinkWrong.j0 kq a1 x27_3 a0_0 l0_1 t237 t238 = some true) ∧ Aside0 (kq ≤ k) ∧ Aside0 (Kd.R k40 40 wc w.heap.size (fun _ => True) (.slice Ao11 t238.length co11) t238) ∧ Aside0 (wc.heap[gb236]? = some (.cells #[.int .i64 a0_0, (.slice A0_1 l0_1.length c0_1)] 24 (0, 0))) ∧ Aside0 (wc.heap[gb242]? = some (.cells #[.int .i64 t237, (.slice Ao11 t238.length co11)] 27 (0, 0))) ∧ Aside0 (Below w.heap.size w wc))
  case first =>
    have H := HC4.out
    clear HC4
    by_cases c12 : t241 = true
    · subst c12
      have H1 : (switchboardlaw10_LinkWrong.j0 k a1 (decide ((a1.size : Int) > 100)) a0_0 l0_1 t237 t238) = some true := by rw [if_pos rfl] at H; exact H
      clear H
      have H := H1
      clear H1
      have H' := Aside0.mk H
      clear H
      go_wp2
      go_meet
      case rel => exact ⟨_, (decide ((a1.size : Int) > 100)), (by first | rfl | (simp; done) | (simp [*]; done)), H', ⟨by first | omega | exact Nat.le_refl _⟩, ⟨by (with_reducible repeat (first | apply Kd.R_alloc | apply Kd.R_drewN | apply Kd.R_drew)); exact Kd.R_mono (Kd.R_far (p := ⟨gb242, 1, none⟩) (Kd.R_far (p := ⟨gb242, 0, none⟩) (Kd.R_types HO240.out BK242.out (by decide)) (fun _ hk => hk.2) (.int .i64 t237)) (fun _ hk => hk.2) (.slice Ao11 t238.length co11)) (fun _ hk => trivial)⟩, ⟨by (with_reducible repeat (first | refine blk_drewN ?_ _ | refine blk_drew ?_ | refine blk_alloc ?_ _)); refine blk_far ?_ NB236_242.out _; (with_reducible repeat (first | refine blk_drewN ?_ _ | refine blk_drew ?_ | refine blk_alloc ?_ _)); refine blk_far ?_ NB236_242.out _; (with_reducible repeat (first | refine blk_drewN ?_ _ | refine blk_drew ?_ | refine blk_alloc ?_ _)); exact BK236.out⟩, ⟨by (with_reducible repeat (first | refine blk_drewN ?_ _ | refine blk_drew ?_ | refine blk_alloc ?_ _)); refine blk_put (cs := #[.int .i64 t237, .slice none 0 0]) ?_ 1 _ rfl; (with_reducible repeat (first | refine blk_drewN ?_ _ | refine blk_drew ?_ | refine blk_alloc ?_ _)); refine blk_put (cs := #[.int .i64 0, .slice none 0 0]) ?_ 0 _ rfl; (with_reducible repeat (first | refine blk_drewN ?_ _ | refine blk_drew ?_ | refine blk_alloc ?_ _)); exact BK242.out⟩, ⟨by repeat (first | (with_reducible first | exact HB.out | apply below_alloc | apply pw_below_drewN | apply below_drew1 | refine below_set ?_ GE236.out | refine below_set ?_ GE242.out) | exact HB.out)⟩⟩
    · replace c12 := Bool.eq_false_iff.mpr c12
      subst c12
      have H1 : (switchboardlaw10_LinkWrong.j0 k a1 true a0_0 l0_1 t237 t238) = some true := by rw [if_neg (show ¬ (false = true) by decide)] at H; exact H
      clear H
      have H := H1
      clear H1
      have H' := Aside0.mk H
      clear H
      go_wp2
      go_meet
      case rel => exact ⟨_, (true), (by first | rfl | (simp; done) | (simp [*]; done)), H', ⟨by first | omega | exact Nat.le_refl _⟩, ⟨by (with_reducible repeat (first | apply Kd.R_alloc | apply Kd.R_drewN | apply Kd.R_drew)); exact Kd.R_mono (Kd.R_far (p := ⟨gb242, 1, none⟩) (Kd.R_far (p := ⟨gb242, 0, none⟩) (Kd.R_types HO240.out BK242.out (by decide)) (fun _ hk => hk.2) (.int .i64 t237)) (fun _ hk => hk.2) (.slice Ao11 t238.length co11)) (fun _ hk => trivial)⟩, ⟨by (with_reducible repeat (first | refine blk_drewN ?_ _ | refine blk_drew ?_ | refine blk_alloc ?_ _)); refine blk_far ?_ NB236_242.out _; (with_reducible repeat (first | refine blk_drewN ?_ _ | refine blk_drew ?_ | refine blk_alloc ?_ _)); refine blk_far ?_ NB236_242.out _; (with_reducible repeat (first | refine blk_drewN ?_ _ | refine blk_drew ?_ | refine blk_alloc ?_ _)); exact BK236.out⟩, ⟨by (with_reducible repeat (first | refine blk_drewN ?_ _ | refine blk_drew ?_ | refine blk_alloc ?_ _)); refine blk_put (cs := #[.int .i64 t237, .slice none 0 0]) ?_ 1 _ rfl; (with_reducible repeat (first | refine blk_drewN ?_ _ | refine blk_drew ?_ | refine blk_alloc ?_ _)); refine blk_put (cs := #[.int .i64 0, .slice none 0 0]) ?_ 0 _ rfl; (with_reducible repeat (first | refine blk_drewN ?_ _ | refine blk_drew ?_ | refine blk_alloc ?_ _)); exact BK242.out⟩, ⟨by repeat (first | (with_reducible first | exact HB.out | apply below_alloc | apply pw_below_drewN | apply below_drew1 | refine below_set ?_ GE236.out | refine below_set ?_ GE242.out) | exact HB.out)⟩⟩
  case rest =>
    clear HC4
    try clear c1
    try clear p2
    try clear c5
    try clear c8
    try clear c9
    try clear c12
    try clear hcz10_0
    try clear hcz10_1
    try clear hcz6_0
    try clear hcz6_1
    try clear hfz10_0
    try clear hfz10_1
    try clear hfz6_0
    try clear hfz6_1
    obtain ⟨kq, x27_3, rfl, HA, HJ3, HO_243001, BK236, BK242, HB⟩ := hcut
    cases kq with
    | zero => exact absurd HA.out (by simp [switchboardlaw10_LinkWrong.j0])
    | succ kj3 =>
      have H := HA.out
      clear HA
      simp only [switchboardlaw10_LinkWrong.j0] at H
      by_cases c13 : x27_3 = true
      · subst c13
        have H1 : ((switchboardlaw10_awake.f kj3).bind fun t243 => (some t243)) = some true := by rw [if_pos rfl] at H; exact H
        clear H
        have H := H1
        clear H1
        replace H := Option.bind_eq_some_iff.mp H
        obtain ⟨t243, A140, H⟩ := H
        replace H : (some t243) = some true := H
        have A14 := Aside0.mk A140
        clear A140
        have hr_ := Aside0.mk (Option.some.inj H)
        go_wp2_with (first | ((with_reducible refine gate_callee (f := 9) rfl ?_); refine goesL_ (some 28) rfl rfl Try.func9 (by kernel_rfl) rfl #[] rfl (by (try simp only [List.map_toArray, List.map_cons, List.map_nil]); first | done | rfl | (simp only [List.length_drop, List.length_take]; rfl)) ?_; (with_reducible refine (switchboardlaw10_awake.calls kj3  t243 _ A14.out).mono ?_); rintro e w15 ⟨rfl, hb⟩; refine ⟨_, rfl, ?_⟩; have n0_ := Aside0.mk (Kd.R_below (by (with_reducible repeat (first | apply Kd.R_alloc | apply Kd.R_drewN | apply Kd.R_drew)); exact HO_243001.out) hb); have n1_ := Aside0.mk (blk_below (g := gb236) (o := .cells #[.int .i64 a0_0, .slice A0_1 l0_1.length c0_1] 24 (0, 0)) (by (with_reducible repeat (first | refine blk_drewN ?_ _ | refine blk_drew ?_ | refine blk_alloc ?_ _)); exact BK236.out) hb); have n2_ := Aside0.mk (blk_below (g := gb242) (o := .cells #[.int .i64 t237, .slice Ao11 t238.length co11] 27 (0, 0)) (by (with_reducible repeat (first | refine blk_drewN ?_ _ | refine blk_drew ?_ | refine blk_alloc ?_ _)); exact BK242.out) hb); have n3_ := Aside0.mk (below_step (by repeat (first | (with_reducible first | exact HB.out | apply below_alloc | apply pw_below_drewN | apply below_drew1 | refine below_set ?_ GE236.out | refine below_set ?_ GE242.out) | exact HB.out)) hb); clear HO_243001; clear BK236; clear BK242; clear HB; have HO_243001 := n0_; have BK236 := n1_; have BK242 := n2_; have HB := n3_; clear n0_ n1_ n2_ n3_; (try clear hb); (try clear hb2); (try clear hk); (try clear hi)))
        go_ret
        exact ⟨by first | rfl | exact congrArg (fun b_ => Ending.returned (Value.bool b_)) hr_.out | exact congrArg (fun b_ => Ending.returned (Value.bool b_)) hr_.out | (simp [errW_none, errW_some] <;> rfl) | (simp [*, errW_none, errW_some] <;> rfl), by repeat (first | (with_reducible first | exact HB.out | apply below_alloc | apply pw_below_drewN | apply below_drew1 | refine below_set ?_ GE236.out | refine below_set ?_ GE242.out) | exact HB.out)⟩
      · replace c13 := Bool.eq_false_iff.mpr c13
        subst c13
        have H1 : ((link_Push.f kj3 a0_0 l0_1 a1).bind fun bt244 => ((switchboardlaw10_ref.f kj3 bt244.1 bt244.2.1).bind fun bt251 => ((link_Told.f a0_0 l0_1 (-1)).bind fun bt257 => ((switchboardlaw10_ref.f kj3 bt257.1 bt257.2).bind fun bt261 => ((link_Right.f kj3 a0_0 l0_1).bind fun t267 => (if t267 = true then (if (l0_1.length : Int) < 64 then (switchboardlaw10_LinkWrong.j1 kj3 bt244.2.2.1 bt244.2.2.2 (decide (a0_0 < 2147483647)) a0_0 l0_1 t237 t238 bt244.1 bt244.2.1 bt251.1 bt251.2.1 bt261.1 bt261.2.1) else (switchboardlaw10_LinkWrong.j1 kj3 bt244.2.2.1 bt244.2.2.2 false a0_0 l0_1 t237 t238 bt244.1 bt244.2.1 bt251.1 bt251.2.1 bt261.1 bt261.2.1)) else (switchboardlaw10_LinkWrong.j1 kj3 bt244.2.2.1 bt244.2.2.2 false a0_0 l0_1 t237 t238 bt244.1 bt244.2.1 bt251.1 bt251.2.1 bt261.1 bt261.2.1))))))) = some true := by rw [if_neg (show ¬ (false = true) by decide)] at H; exact H
        clear H
        have H := H1
        clear H1
        replace H := Option.bind_eq_some_iff.mp H
        obtain ⟨⟨t244, t245, t248, t249⟩, A160, H⟩ := H
        replace H : ((switchboardlaw10_ref.f kj3 t244 t245).bind fun bt251 => ((link_Told.f a0_0 l0_1 (-1)).bind fun bt257 => ((switchboardlaw10_ref.f kj3 bt257.1 bt257.2).bind fun bt261 => ((link_Right.f kj3 a0_0 l0_1).bind fun t267 => (if t267 = true then (if (l0_1.length : Int) < 64 then (switchboardlaw10_LinkWrong.j1 kj3 t248 t249 (decide (a0_0 < 2147483647)) a0_0 l0_1 t237 t238 t244 t245 bt251.1 bt251.2.1 bt261.1 bt261.2.1) else (switchboardlaw10_LinkWrong.j1 kj3 t248 t249 false a0_0 l0_1 t237 t238 t244 t245 bt251.1 bt251.2.1 bt261.1 bt261.2.1)) else (switchboardlaw10_LinkWrong.j1 kj3 t248 t249 false a0_0 l0_1 t237 t238 t244 t245 bt251.1 bt251.2.1 bt261.1 bt261.2.1)))))) = some true := H
        have A16 := Aside0.mk A160
        clear A160
        replace H := Option.bind_eq_some_iff.mp H
        obtain ⟨⟨t251, t252, t255⟩, A170, H⟩ := H
        replace H : ((link_Told.f a0_0 l0_1 (-1)).bind fun bt257 => ((switchboardlaw10_ref.f kj3 bt257.1 bt257.2).bind fun bt261 => ((link_Right.f kj3 a0_0 l0_1).bind fun t267 => (if t267 = true then (if (l0_1.length : Int) < 64 then (switchboardlaw10_LinkWrong.j1 kj3 t248 t249 (decide (a0_0 < 2147483647)) a0_0 l0_1 t237 t238 t244 t245 t251 t252 bt261.1 bt261.2.1) else (switchboardlaw10_LinkWrong.j1 kj3 t248 t249 false a0_0 l0_1 t237 t238 t244 t245 t251 t252 bt261.1 bt261.2.1)) else (switchboardlaw10_LinkWrong.j1 kj3 t248 t249 false a0_0 l0_1 t237 t238 t244 t245 t251 t252 bt261.1 bt261.2.1))))) = some true := H
        have A17 := Aside0.mk A170
        clear A170
        replace H := Option.bind_eq_some_iff.mp H
        obtain ⟨⟨t257, t258⟩, A180, H⟩ := H
        replace H : ((switchboardlaw10_ref.f kj3 t257 t258).bind fun bt261 => ((link_Right.f kj3 a0_0 l0_1).bind fun t267 => (if t267 = true then (if (l0_1.length : Int) < 64 then (switchboardlaw10_LinkWrong.j1 kj3 t248 t249 (decide (a0_0 < 2147483647)) a0_0 l0_1 t237 t238 t244 t245 t251 t252 bt261.1 bt261.2.1) else (switchboardlaw10_LinkWrong.j1 kj3 t248 t249 false a0_0 l0_1 t237 t238 t244 t245 t251 t252 bt261.1 bt261.2.1)) else (switchboardlaw10_LinkWrong.j1 kj3 t248 t249 false a0_0 l0_1 t237 t238 t244 t245 t251 t252 bt261.1 bt261.2.1)))) = some true := H
        have A18 := Aside0.mk A180
        clear A180
        replace H := Option.bind_eq_some_iff.mp H
        obtain ⟨⟨t261, t262, t265⟩, A190, H⟩ := H
        replace H : ((link_Right.f kj3 a0_0 l0_1).bind fun t267 => (if t267 = true then (if (l0_1.length : Int) < 64 then (switchboardlaw10_LinkWrong.j1 kj3 t248 t249 (decide (a0_0 < 2147483647)) a0_0 l0_1 t237 t238 t244 t245 t251 t252 t261 t262) else (switchboardlaw10_LinkWrong.j1 kj3 t248 t249 false a0_0 l0_1 t237 t238 t244 t245 t251 t252 t261 t262)) else (switchboardlaw10_LinkWrong.j1 kj3 t248 t249 false a0_0 l0_1 t237 t238 t244 t245 t251 t252 t261 t262))) = some true := H
        have A19 := Aside0.mk A190
        clear A190
        have HC20 := Aside0.mk H
        clear H
        have hnb21 := NB236_242.out
        have hnc21 := NB242_236.out
        have hcz22_0 : wc.cell? ⟨gb236, 0, none⟩ = some (.int .i64 a0_0) := (blk_cell BK236.out 0).trans rfl
        have hcz22_1 : wc.cell? ⟨gb236, 1, none⟩ = some (.slice A0_1 l0_1.length c0_1) := (blk_cell BK236.out 1).trans rfl
        have hfz22_0 := blk_frozen BK236.out 0
        have hfz22_1 := blk_frozen BK236.out 1
        go_upto_region 7 with (first | ((with_reducible refine gate_callee (f := 10) rfl ?_); refine goesL_ (some 32) rfl rfl Try.func10 (by kernel_rfl) rfl #[.agg #[.int .i64 a0_0, .slice A0_1 l0_1.length c0_1], .string a1] rfl (by (try simp only [List.map_toArray, List.map_cons, List.map_nil]); first | done | rfl | (simp only [List.length_drop, List.length_take]; rfl)) ?_; (with_reducible refine (link_Push.calls kj3 a0_0 (fun k_ => k_ < w.heap.size) _ _ l0_1 a1 t244 t245 t248 t249 _ ?side1 A16.out).mono ?_); (case side1 => exact Kd.V_mk HC0_1.out (Kd.F_below (Kd.C_F k45_heap HR0_1.out) (by repeat (first | (with_reducible first | exact HB.out | apply below_alloc | apply pw_below_drewN | apply below_drew1 | refine below_set ?_ GE236.out | refine below_set ?_ GE242.out) | exact HB.out)))); rintro e w23 ⟨v246, rfl, ho0, hb⟩; refine ⟨_, rfl, ?_⟩; have n0_ := Aside0.mk (Kd.R_below (by (with_reducible repeat (first | apply Kd.R_alloc | apply Kd.R_drewN | apply Kd.R_drew)); exact HO_243001.out) hb); have n1_ := Aside0.mk (Kd.V_lower (Kd.V_mono (ok' := fun k_ => some k_ ≠ (.slice Ao11 t238.length co11 : Value).ownBlock ∧ k_ ≠ gb236 ∧ k_ ≠ gb242) ho0 (fun k_ hk_ => ⟨Or.elim hk_ (fun hs_ => fun e_ => Nat.not_le.2 hs_ (Kd.R_base HO_243001.out k_ e_.symm)) (fun hn_ => (Kd.fresh' (Kd.R_lt (by (with_reducible repeat (first | apply Kd.R_alloc | apply Kd.R_drewN | apply Kd.R_drew)); exact HO_243001.out)) k_ hn_)), Or.elim hk_ (fun hs_ => fun e_ => Nat.not_le.2 hs_ (by rw [e_]; exact GW236.out)) (fun hn_ => (Kd.freshB (g := gb236) (o := .cells #[.int .i64 a0_0, .slice A0_1 l0_1.length c0_1] 24 (0, 0)) (by (with_reducible repeat (first | refine blk_drewN ?_ _ | refine blk_drew ?_ | refine blk_alloc ?_ _)); exact BK236.out) k_ hn_)), Or.elim hk_ (fun hs_ => fun e_ => Nat.not_le.2 hs_ (by rw [e_]; exact GW242.out)) (fun hn_ => (Kd.freshB (g := gb242) (o := .cells #[.int .i64 t237, .slice Ao11 t238.length co11] 27 (0, 0)) (by (with_reducible repeat (first | refine blk_drewN ?_ _ | refine blk_drew ?_ | refine blk_alloc ?_ _)); exact BK242.out) k_ hn_))⟩)) (below_size (by repeat (first | (with_reducible first | exact HB.out | apply below_alloc | apply pw_below_drewN | apply below_drew1 | refine below_set ?_ GE236.out | refine below_set ?_ GE242.out) | exact HB.out)))); have n2_ := Aside0.mk (blk_below (g := gb236) (o := .cells #[.int .i64 a0_0, .slice A0_1 l0_1.length c0_1] 24 (0, 0)) (by (with_reducible repeat (first | refine blk_drewN ?_ _ | refine blk_drew ?_ | refine blk_alloc ?_ _)); exact BK236.out) hb); have n3_ := Aside0.mk (blk_below (g := gb242) (o := .cells #[.int .i64 t237, .slice Ao11 t238.length co11] 27 (0, 0)) (by (with_reducible repeat (first | refine blk_drewN ?_ _ | refine blk_drew ?_ | refine blk_alloc ?_ _)); exact BK242.out) hb); have n4_ := Aside0.mk (below_step (by repeat (first | (with_reducible first | exact HB.out | apply below_alloc | apply pw_below_drewN | apply below_drew1 | refine below_set ?_ GE236.out | refine below_set ?_ GE242.out) | exact HB.out)) hb); clear HO_243001; clear BK236; clear BK242; clear HB; have HO_243001 := n0_; have HO247 := n1_; have BK236 := n2_; have BK242 := n3_; have HB := n4_; clear n0_ n1_ n2_ n3_ n4_; (try clear hb); (try clear hb2); (try clear hk); (try clear hi); (try clear ho0)) | ((with_reducible refine gate_dst (N := 7) rfl ?_); (try (refine gate_guard (by rfl) ?_; dsimp only)); refine box_event ?hg (N := 7) ?hd (cs := #[.int .i64 0, .slice none 0 0]) (t := 24) ?hr ?_; (case hd => rfl); (case hg => rfl); (case hr => first | (go_simp; done) | (go_simp; rfl)); intro gb250 hg w24 hbox hb; have n0_ := Aside0.mk (Kd.R_below (by (with_reducible repeat (first | apply Kd.R_alloc | apply Kd.R_drewN | apply Kd.R_drew)); exact HO_243001.out) hb); have n1_ := Aside0.mk (Kd.V_below (Kd.V_elderB (by (with_reducible repeat (first | apply Kd.V_alloc | apply Kd.V_drewN | apply Kd.V_drew)); exact HO247.out) gb250 (Nat.le_of_eq hg.symm)) hb); have n2_ := Aside0.mk (blk_below (g := gb236) (o := .cells #[.int .i64 a0_0, .slice A0_1 l0_1.length c0_1] 24 (0, 0)) (by (with_reducible repeat (first | refine blk_drewN ?_ _ | refine blk_drew ?_ | refine blk_alloc ?_ _)); exact BK236.out) hb); have n3_ := Aside0.mk (blk_below (g := gb242) (o := .cells #[.int .i64 t237, .slice Ao11 t238.length co11] 27 (0, 0)) (by (with_reducible repeat (first | refine blk_drewN ?_ _ | refine blk_drew ?_ | refine blk_alloc ?_ _)); exact BK242.out) hb); have n4_ := Aside0.mk (below_step (by repeat (first | (with_reducible first | exact HB.out | apply below_alloc | apply pw_below_drewN | apply below_drew1 | refine below_set ?_ GE236.out | refine below_set ?_ GE242.out) | exact HB.out)) hb); have n5_ := Aside0.mk (hbox); have n6_ := Aside0.mk ((by rw [hg]; exact (below_size (by repeat (first | (with_reducible first | exact HB.out | apply below_alloc | apply pw_below_drewN | apply below_drew1 | refine below_set ?_ GE236.out | refine below_set ?_ GE242.out) | exact HB.out))) : w.heap.size ≤ gb250)); have n7_ := Aside0.mk ((by rw [hg]; exact (below_size (by repeat (first | (with_reducible first | exact HB.out | apply below_alloc | apply pw_below_drewN | apply below_drew1 | refine below_set ?_ GE236.out | refine below_set ?_ GE242.out) | exact HB.out))) : w.heap.size ≤ gb250)); have n8_ := Aside0.mk ((by rw [hg]; exact Nat.ne_of_lt (blk_lt (g := gb236) (o := .cells #[.int .i64 a0_0, .slice A0_1 l0_1.length c0_1] 24 (0, 0)) (by (with_reducible repeat (first | refine blk_drewN ?_ _ | refine blk_drew ?_ | refine blk_alloc ?_ _)); exact BK236.out)) : gb236 ≠ gb250)); have n9_ := Aside0.mk ((by rw [hg]; exact Nat.ne_of_gt (blk_lt (g := gb236) (o := .cells #[.int .i64 a0_0, .slice A0_1 l0_1.length c0_1] 24 (0, 0)) (by (with_reducible repeat (first | refine blk_drewN ?_ _ | refine blk_drew ?_ | refine blk_alloc ?_ _)); exact BK236.out)) : gb250 ≠ gb236)); have n10_ := Aside0.mk ((by rw [hg]; exact Nat.ne_of_lt (blk_lt (g := gb242) (o := .cells #[.int .i64 t237, .slice Ao11 t238.length co11] 27 (0, 0)) (by (with_reducible repeat (first | refine blk_drewN ?_ _ | refine blk_drew ?_ | refine blk_alloc ?_ _)); exact BK242.out)) : gb242 ≠ gb250)); have n11_ := Aside0.mk ((by rw [hg]; exact Nat.ne_of_gt (blk_lt (g := gb242) (o := .cells #[.int .i64 t237, .slice Ao11 t238.length co11] 27 (0, 0)) (by (with_reducible repeat (first | refine blk_drewN ?_ _ | refine blk_drew ?_ | refine blk_alloc ?_ _)); exact BK242.out)) : gb250 ≠ gb242)); clear HO_243001; clear HO247; clear BK236; clear BK242; clear HB; have HO_243001 := n0_; have HO247 := n1_; have BK236 := n2_; have BK242 := n3_; have HB := n4_; have BK250 := n5_; have GW250 := n6_; have GE250 := n7_; have NB236_250 := n8_; have NB250_236 := n9_; have NB242_250 := n10_; have NB250_242 := n11_; clear n0_ n1_ n2_ n3_ n4_ n5_ n6_ n7_ n8_ n9_ n10_ n11_; clear hb hbox hg; have hnb25 := NB250_236.out; have hnc25 := NB236_250.out; have hnb26 := NB250_242.out; have hnc26 := NB242_250.out; have hcz27_0 : w24.cell? ⟨gb250, 0, none⟩ = some (.int .i64 0) := (blk_cell BK250.out 0).trans rfl; have hcz27_1 : w24.cell? ⟨gb250, 1, none⟩ = some (.slice none 0 0) := (blk_cell BK250.out 1).trans rfl; have hfz27_0 := blk_frozen BK250.out 0; have hfz27_1 := blk_frozen BK250.out 1; obtain ⟨Ao28, co28, eo28⟩ := Kd.V_slice HO247.out; subst eo28) | ((with_reducible refine gate_callee (f := 8) rfl ?_); refine goesL_ (some 38) rfl rfl Try.func8 (by kernel_rfl) rfl #[.agg #[.int .i64 t244, .slice Ao28 t245.length co28]] rfl (by (try simp only [List.map_toArray, List.map_cons, List.map_nil]); first | done | rfl | (simp only [List.length_drop, List.length_take]; rfl)) ?_; (with_reducible refine (switchboardlaw10_ref.calls kj3 t244 _ _ t245 t251 t252 t255 _ ?side1 ?side2 A17.out).mono ?_); (case side1 => refine (Kd.V_reads' (e := 45) (base := w.heap.size) (ok := fun k_ => ((some k_ ≠ (.slice Ao11 t238.length co11 : Value).ownBlock ∧ (k_ ≠ gb236 ∧ k_ ≠ gb242)) ∧ k_ ≠ gb250)) (n := t245.length) (c := co28) ?_).2.2; exact (by (with_reducible repeat (first | apply Kd.V_alloc | apply Kd.V_drewN | apply Kd.V_drew)); exact (Kd.V_mono (Kd.V_far (p := ⟨gb250, 1, none⟩) (Kd.V_far (p := ⟨gb250, 0, none⟩) (Kd.V_mono HO247.out (fun k_ hk => (⟨hk, hk.2⟩ : _ ∧ k_ ≠ gb250))) (fun _ hk => hk.2) (.int .i64 t244)) (fun _ hk => hk.2) (.slice Ao28 t245.length co28)) (fun _ h_ => h_.1)))); (case side2 => exact (Kd.V_reads' HO247.out).2.1); rintro e w29 ⟨v253, rfl, ho0, hb⟩; refine ⟨_, rfl, ?_⟩; have n0_ := Aside0.mk (Kd.R_elder' (by (with_reducible repeat (first | apply Kd.R_alloc | apply Kd.R_drewN | apply Kd.R_drew)); exact (Kd.R_mono (Kd.R_far (p := ⟨gb250, 1, none⟩) (Kd.R_far (p := ⟨gb250, 0, none⟩) (Kd.R_types HO_243001.out BK250.out (by decide)) (fun _ hk => hk.2) (.int .i64 t244)) (fun _ hk => hk.2) (.slice Ao28 t245.length co28)) (fun _ h_ => h_.1))) (Kd.R_base ho0) hb); have n1_ := Aside0.mk (Kd.V_elder' (by (with_reducible repeat (first | apply Kd.V_alloc | apply Kd.V_drewN | apply Kd.V_drew)); exact (Kd.V_mono (Kd.V_far (p := ⟨gb250, 1, none⟩) (Kd.V_far (p := ⟨gb250, 0, none⟩) (Kd.V_mono HO247.out (fun k_ hk => (⟨hk, hk.2⟩ : _ ∧ k_ ≠ gb250))) (fun _ hk => hk.2) (.int .i64 t244)) (fun _ hk => hk.2) (.slice Ao28 t245.length co28)) (fun _ h_ => h_.1))) (Kd.R_base ho0) hb); have n2_ := Aside0.mk (Kd.R_lower (Kd.R_new' ho0 (Kd.R_lt (by (with_reducible repeat (first | apply Kd.R_alloc | apply Kd.R_drewN | apply Kd.R_drew)); exact (Kd.R_mono (Kd.R_far (p := ⟨gb250, 1, none⟩) (Kd.R_far (p := ⟨gb250, 0, none⟩) (Kd.R_types HO_243001.out BK250.out (by decide)) (fun _ hk => hk.2) (.int .i64 t244)) (fun _ hk => hk.2) (.slice Ao28 t245.length co28)) (fun _ h_ => h_.1))))) (below_size (by repeat (first | (with_reducible first | exact HB.out | apply below_alloc | apply pw_below_drewN | apply below_drew1 | refine below_set ?_ GE236.out | refine below_set ?_ GE242.out | refine below_set ?_ GE250.out) | exact HB.out)))); have n3_ := Aside0.mk (blk_below (g := gb236) (o := .cells #[.int .i64 a0_0, .slice A0_1 l0_1.length c0_1] 24 (0, 0)) (by (with_reducible repeat (first | refine blk_drewN ?_ _ | refine blk_drew ?_ | refine blk_alloc ?_ _)); refine blk_far ?_ NB236_250.out _; (with_reducible repeat (first | refine blk_drewN ?_ _ | refine blk_drew ?_ | refine blk_alloc ?_ _)); refine blk_far ?_ NB236_250.out _; (with_reducible repeat (first | refine blk_drewN ?_ _ | refine blk_drew ?_ | refine blk_alloc ?_ _)); exact BK236.out) hb); have n4_ := Aside0.mk (blk_below (g := gb242) (o := .cells #[.int .i64 t237, .slice Ao11 t238.length co11] 27 (0, 0)) (by (with_reducible repeat (first | refine blk_drewN ?_ _ | refine blk_drew ?_ | refine blk_alloc ?_ _)); refine blk_far ?_ NB242_250.out _; (with_reducible repeat (first | refine blk_drewN ?_ _ | refine blk_drew ?_ | refine blk_alloc ?_ _)); refine blk_far ?_ NB242_250.out _; (with_reducible repeat (first | refine blk_drewN ?_ _ | refine blk_drew ?_ | refine blk_alloc ?_ _)); exact BK242.out) hb); have n5_ := Aside0.mk (blk_below (g := gb250) (o := .cells #[.int .i64 t244, .slice Ao28 t245.length co28] 24 (0, 0)) (by (with_reducible repeat (first | refine blk_drewN ?_ _ | refine blk_drew ?_ | refine blk_alloc ?_ _)); refine blk_put (cs := #[.int .i64 t244, .slice none 0 0]) ?_ 1 _ rfl; (with_reducible repeat (first | refine blk_drewN ?_ _ | refine blk_drew ?_ | refine blk_alloc ?_ _)); refine blk_put (cs := #[.int .i64 0, .slice none 0 0]) ?_ 0 _ rfl; (with_reducible repeat (first | refine blk_drewN ?_ _ | refine blk_drew ?_ | refine blk_alloc ?_ _)); exact BK250.out) hb); have n6_ := Aside0.mk (below_step (by repeat (first | (with_reducible first | exact HB.out | apply below_alloc | apply pw_below_drewN | apply below_drew1 | refine below_set ?_ GE236.out | refine below_set ?_ GE242.out | refine below_set ?_ GE250.out) | exact HB.out)) hb); clear HO_243001; clear HO247; clear BK236; clear BK242; clear BK250; clear HB; have HO_243001 := n0_; have HO247 := n1_; have HO254 := n2_; have BK236 := n3_; have BK242 := n4_; have BK250 := n5_; have HB := n6_; clear n0_ n1_ n2_ n3_ n4_ n5_ n6_; (try clear hb); (try clear hb2); (try clear hk); (try clear hi); (try clear ho0)) | ((with_reducible refine gate_dst (N := 10) rfl ?_); (try (refine gate_guard (by rfl) ?_; dsimp only)); refine box_event ?hg (N := 10) ?hd (cs := #[.int .i64 0, .slice none 0 0]) (t := 27) ?hr ?_; (case hd => rfl); (case hg => rfl); (case hr => first | (go_simp; done) | (go_simp; rfl)); intro gb256 hg w30 hbox hb; have n0_ := Aside0.mk (Kd.R_below (by (with_reducible repeat (first | apply Kd.R_alloc | apply Kd.R_drewN | apply Kd.R_drew)); exact HO_243001.out) hb); have n1_ := Aside0.mk (Kd.V_below (Kd.V_elderB (by (with_reducible repeat (first | apply Kd.V_alloc | apply Kd.V_drewN | apply Kd.V_drew)); exact HO247.out) gb256 (Nat.le_of_eq hg.symm)) hb); have n2_ := Aside0.mk (Kd.R_below (by (with_reducible repeat (first | apply Kd.R_alloc | apply Kd.R_drewN | apply Kd.R_drew)); exact HO254.out) hb); have n3_ := Aside0.mk (blk_below (g := gb236) (o := .cells #[.int .i64 a0_0, .slice A0_1 l0_1.length c0_1] 24 (0, 0)) (by (with_reducible repeat (first | refine blk_drewN ?_ _ | refine blk_drew ?_ | refine blk_alloc ?_ _)); exact BK236.out) hb); have n4_ := Aside0.mk (blk_below (g := gb242) (o := .cells #[.int .i64 t237, .slice Ao11 t238.length co11] 27 (0, 0)) (by (with_reducible repeat (first | refine blk_drewN ?_ _ | refine blk_drew ?_ | refine blk_alloc ?_ _)); exact BK242.out) hb); have n5_ := Aside0.mk (blk_below (g := gb250) (o := .cells #[.int .i64 t244, .slice Ao28 t245.length co28] 24 (0, 0)) (by (with_reducible repeat (first | refine blk_drewN ?_ _ | refine blk_drew ?_ | refine blk_alloc ?_ _)); exact BK250.out) hb); have n6_ := Aside0.mk (below_step (by repeat (first | (with_reducible first | exact HB.out | apply below_alloc | apply pw_below_drewN | apply below_drew1 | refine below_set ?_ GE236.out | refine below_set ?_ GE242.out | refine below_set ?_ GE250.out) | exact HB.out)) hb); have n7_ := Aside0.mk (hbox); have n8_ := Aside0.mk ((by rw [hg]; exact (below_size (by repeat (first | (with_reducible first | exact HB.out | apply below_alloc | apply pw_below_drewN | apply below_drew1 | refine below_set ?_ GE236.out | refine below_set ?_ GE242.out | refine below_set ?_ GE250.out) | exact HB.out))) : w.heap.size ≤ gb256)); have n9_ := Aside0.mk ((by rw [hg]; exact (below_size (by repeat (first | (with_reducible first | exact HB.out | apply below_alloc | apply pw_below_drewN | apply below_drew1 | refine below_set ?_ GE236.out | refine below_set ?_ GE242.out | refine below_set ?_ GE250.out) | exact HB.out))) : w.heap.size ≤ gb256)); have n10_ := Aside0.mk ((by rw [hg]; exact Nat.ne_of_lt (blk_lt (g := gb236) (o := .cells #[.int .i64 a0_0, .slice A0_1 l0_1.length c0_1] 24 (0, 0)) (by (with_reducible repeat (first | refine blk_drewN ?_ _ | refine blk_drew ?_ | refine blk_alloc ?_ _)); exact BK236.out)) : gb236 ≠ gb256)); have n11_ := Aside0.mk ((by rw [hg]; exact Nat.ne_of_gt (blk_lt (g := gb236) (o := .cells #[.int .i64 a0_0, .slice A0_1 l0_1.length c0_1] 24 (0, 0)) (by (with_reducible repeat (first | refine blk_drewN ?_ _ | refine blk_drew ?_ | refine blk_alloc ?_ _)); exact BK236.out)) : gb256 ≠ gb236)); have n12_ := Aside0.mk ((by rw [hg]; exact Nat.ne_of_lt (blk_lt (g := gb242) (o := .cells #[.int .i64 t237, .slice Ao11 t238.length co11] 27 (0, 0)) (by (with_reducible repeat (first | refine blk_drewN ?_ _ | refine blk_drew ?_ | refine blk_alloc ?_ _)); exact BK242.out)) : gb242 ≠ gb256)); have n13_ := Aside0.mk ((by rw [hg]; exact Nat.ne_of_gt (blk_lt (g := gb242) (o := .cells #[.int .i64 t237, .slice Ao11 t238.length co11] 27 (0, 0)) (by (with_reducible repeat (first | refine blk_drewN ?_ _ | refine blk_drew ?_ | refine blk_alloc ?_ _)); exact BK242.out)) : gb256 ≠ gb242)); have n14_ := Aside0.mk ((by rw [hg]; exact Nat.ne_of_lt (blk_lt (g := gb250) (o := .cells #[.int .i64 t244, .slice Ao28 t245.length co28] 24 (0, 0)) (by (with_reducible repeat (first | refine blk_drewN ?_ _ | refine blk_drew ?_ | refine blk_alloc ?_ _)); exact BK250.out)) : gb250 ≠ gb256)); have n15_ := Aside0.mk ((by rw [hg]; exact Nat.ne_of_gt (blk_lt (g := gb250) (o := .cells #[.int .i64 t244, .slice Ao28 t245.length co28] 24 (0, 0)) (by (with_reducible repeat (first | refine blk_drewN ?_ _ | refine blk_drew ?_ | refine blk_alloc ?_ _)); exact BK250.out)) : gb256 ≠ gb250)); clear HO_243001; clear HO247; clear HO254; clear BK236; clear BK242; clear BK250; clear HB; have HO_243001 := n0_; have HO247 := n1_; have HO254 := n2_; have BK236 := n3_; have BK242 := n4_; have BK250 := n5_; have HB := n6_; have BK256 := n7_; have GW256 := n8_; have GE256 := n9_; have NB236_256 := n10_; have NB256_236 := n11_; have NB242_256 := n12_; have NB256_242 := n13_; have NB250_256 := n14_; have NB256_250 := n15_; clear n0_ n1_ n2_ n3_ n4_ n5_ n6_ n7_ n8_ n9_ n10_ n11_ n12_ n13_ n14_ n15_; clear hb hbox hg; have hnb31 := NB256_236.out; have hnc31 := NB236_256.out; have hnb32 := NB256_242.out; have hnc32 := NB242_256.out; have hnb33 := NB256_250.out; have hnc33 := NB250_256.out; have hcz34_0 : w30.cell? ⟨gb256, 0, none⟩ = some (.int .i64 0) := (blk_cell BK256.out 0).trans rfl; have hcz34_1 : w30.cell? ⟨gb256, 1, none⟩ = some (.slice none 0 0) := (blk_cell BK256.out 1).trans rfl; have hfz34_0 := blk_frozen BK256.out 0; have hfz34_1 := blk_frozen BK256.out 1; obtain ⟨Ao35, co35, eo35⟩ := Kd.R_slice HO254.out; subst eo35; have hcz36_0 : w30.cell? ⟨gb236, 0, none⟩ = some (.int .i64 a0_0) := (blk_cell BK236.out 0).trans rfl; have hcz36_1 : w30.cell? ⟨gb236, 1, none⟩ = some (.slice A0_1 l0_1.length c0_1) := (blk_cell BK236.out 1).trans rfl; have hfz36_0 := blk_frozen BK236.out 0; have hfz36_1 := blk_frozen BK236.out 1) | ((with_reducible refine gate_callee (f := 11) rfl ?_); refine goesL_ (some 43) rfl rfl Try.func11 (by kernel_rfl) rfl #[.agg #[.int .i64 a0_0, .slice A0_1 l0_1.length c0_1], .int .i64 (-1)] rfl (by (try simp only [List.map_toArray, List.map_cons, List.map_nil]); first | done | rfl | (simp only [List.length_drop, List.length_take]; rfl)) ?_; (with_reducible refine (link_Told.calls a0_0 _ _ l0_1 (-1) t257 t258 _ ?side1 ?side2 A18.out).mono ?_); (case side1 => exact Kd.C_below HR0_1.out (by repeat (first | (with_reducible first | exact HB.out | apply below_alloc | apply pw_below_drewN | apply below_drew1 | refine below_set ?_ GE236.out | refine below_set ?_ GE242.out | refine below_set ?_ GE250.out | refine below_set ?_ GE256.out) | exact HB.out))); (case side2 => exact HC0_1.out); rintro e w37 ⟨v259, rfl, ho0, hb⟩; refine ⟨_, rfl, ?_⟩; have n0_ := Aside0.mk (Kd.R_below (by (with_reducible repeat (first | apply Kd.R_alloc | apply Kd.R_drewN | apply Kd.R_drew)); exact (Kd.R_mono (Kd.R_far (p := ⟨gb256, 1, none⟩) (Kd.R_far (p := ⟨gb256, 0, none⟩) (Kd.R_types HO_243001.out BK256.out (by decide)) (fun _ hk => hk.2) (.int .i64 t251)) (fun _ hk => hk.2) (.slice Ao35 t252.length co35)) (fun _ h_ => h_.1))) hb); have n1_ := Aside0.mk (Kd.V_elder' (by (with_reducible repeat (first | apply Kd.V_alloc | apply Kd.V_drewN | apply Kd.V_drew)); exact (Kd.V_mono (Kd.V_far (p := ⟨gb256, 1, none⟩) (Kd.V_far (p := ⟨gb256, 0, none⟩) (Kd.V_mono HO247.out (fun k_ hk => (⟨hk, hk.2⟩ : _ ∧ k_ ≠ gb256))) (fun _ hk => hk.2) (.int .i64 t251)) (fun _ hk => hk.2) (.slice Ao35 t252.length co35)) (fun _ h_ => h_.1))) (Kd.R_base ho0) hb); have n2_ := Aside0.mk (Kd.R_below (by (with_reducible repeat (first | apply Kd.R_alloc | apply Kd.R_drewN | apply Kd.R_drew)); exact (Kd.R_mono (Kd.R_far (p := ⟨gb256, 1, none⟩) (Kd.R_far (p := ⟨gb256, 0, none⟩) (Kd.R_types HO254.out BK256.out (by decide)) (fun _ hk => hk.2) (.int .i64 t251)) (fun _ hk => hk.2) (.slice Ao35 t252.length co35)) (fun _ h_ => h_.1))) hb); have n3_ := Aside0.mk (Kd.R_lower ho0 (below_size (by repeat (first | (with_reducible first | exact HB.out | apply below_alloc | apply pw_below_drewN | apply below_drew1 | refine below_set ?_ GE236.out | refine below_set ?_ GE242.out | refine below_set ?_ GE250.out | refine below_set ?_ GE256.out) | exact HB.out)))); have n4_ := Aside0.mk (blk_below (g := gb236) (o := .cells #[.int .i64 a0_0, .slice A0_1 l0_1.length c0_1] 24 (0, 0)) (by (with_reducible repeat (first | refine blk_drewN ?_ _ | refine blk_drew ?_ | refine blk_alloc ?_ _)); refine blk_far ?_ NB236_256.out _; (with_reducible repeat (first | refine blk_drewN ?_ _ | refine blk_drew ?_ | refine blk_alloc ?_ _)); refine blk_far ?_ NB236_256.out _; (with_reducible repeat (first | refine blk_drewN ?_ _ | refine blk_drew ?_ | refine blk_alloc ?_ _)); exact BK236.out) hb); have n5_ := Aside0.mk (blk_below (g := gb242) (o := .cells #[.int .i64 t237, .slice Ao11 t238.length co11] 27 (0, 0)) (by (with_reducible repeat (first | refine blk_drewN ?_ _ | refine blk_drew ?_ | refine blk_alloc ?_ _)); refine blk_far ?_ NB242_256.out _; (with_reducible repeat (first | refine blk_drewN ?_ _ | refine blk_drew ?_ | refine blk_alloc ?_ _)); refine blk_far ?_ NB242_256.out _; (with_reducible repeat (first | refine blk_drewN ?_ _ | refine blk_drew ?_ | refine blk_alloc ?_ _)); exact BK242.out) hb); have n6_ := Aside0.mk (blk_below (g := gb250) (o := .cells #[.int .i64 t244, .slice Ao28 t245.length co28] 24 (0, 0)) (by (with_reducible repeat (first | refine blk_drewN ?_ _ | refine blk_drew ?_ | refine blk_alloc ?_ _)); refine blk_far ?_ NB250_256.out _; (with_reducible repeat (first | refine blk_drewN ?_ _ | refine blk_drew ?_ | refine blk_alloc ?_ _)); refine blk_far ?_ NB250_256.out _; (with_reducible repeat (first | refine blk_drewN ?_ _ | refine blk_drew ?_ | refine blk_alloc ?_ _)); exact BK250.out) hb); have n7_ := Aside0.mk (blk_below (g := gb256) (o := .cells #[.int .i64 t251, .slice Ao35 t252.length co35] 27 (0, 0)) (by (with_reducible repeat (first | refine blk_drewN ?_ _ | refine blk_drew ?_ | refine blk_alloc ?_ _)); refine blk_put (cs := #[.int .i64 t251, .slice none 0 0]) ?_ 1 _ rfl; (with_reducible repeat (first | refine blk_drewN ?_ _ | refine blk_drew ?_ | refine blk_alloc ?_ _)); refine blk_put (cs := #[.int .i64 0, .slice none 0 0]) ?_ 0 _ rfl; (with_reducible repeat (first | refine blk_drewN ?_ _ | refine blk_drew ?_ | refine blk_alloc ?_ _)); exact BK256.out) hb); have n8_ := Aside0.mk (below_step (by repeat (first | (with_reducible first | exact HB.out | apply below_alloc | apply pw_below_drewN | apply below_drew1 | refine below_set ?_ GE236.out | refine below_set ?_ GE242.out | refine below_set ?_ GE250.out | refine below_set ?_ GE256.out) | exact HB.out)) hb); clear HO_243001; clear HO247; clear HO254; clear BK236; clear BK242; clear BK250; clear BK256; clear HB; have HO_243001 := n0_; have HO247 := n1_; have HO254 := n2_; have HO260 := n3_; have BK236 := n4_; have BK242 := n5_; have BK250 := n6_; have BK256 := n7_; have HB := n8_; clear n0_ n1_ n2_ n3_ n4_ n5_ n6_ n7_ n8_; (try clear hb); (try clear hb2); (try clear hk); (try clear hi); (try clear ho0); obtain ⟨Ao38, co38, eo38⟩ := Kd.R_slice HO260.out; subst eo38) | ((with_reducible refine gate_callee (f := 8) rfl ?_); refine goesL_ (some 44) rfl rfl Try.func8 (by kernel_rfl) rfl #[.agg #[.int .i64 t257, .slice Ao38 t258.length co38]] rfl (by (try simp only [List.map_toArray, List.map_cons, List.map_nil]); first | done | rfl | (simp only [List.length_drop, List.length_take]; rfl)) ?_; (with_reducible refine (switchboardlaw10_ref.calls kj3 t257 _ _ t258 t261 t262 t265 _ ?side1 ?side2 A19.out).mono ?_); (case side1 => repeat (first | exact (Kd.R_reads' HO260.out).2.2 | (with_reducible refine Kd.C_alloc ?_ _) | (with_reducible refine Kd.C_drewN ?_ _) | (with_reducible refine Kd.C_drew ?_))); (case side2 => exact (Kd.R_reads' HO260.out).2.1); rintro e w39 ⟨v263, rfl, ho0, hb⟩; refine ⟨_, rfl, ?_⟩; have n0_ := Aside0.mk (Kd.R_elder' (by (with_reducible repeat (first | apply Kd.R_alloc | apply Kd.R_drewN | apply Kd.R_drew)); exact HO_243001.out) (Kd.R_base ho0) hb); have n1_ := Aside0.mk (Kd.V_elder' (by (with_reducible repeat (first | apply Kd.V_alloc | apply Kd.V_drewN | apply Kd.V_drew)); exact HO247.out) (Kd.R_base ho0) hb); have n2_ := Aside0.mk (Kd.R_elder' (by (with_reducible repeat (first | apply Kd.R_alloc | apply Kd.R_drewN | apply Kd.R_drew)); exact HO254.out) (Kd.R_base ho0) hb); have n3_ := Aside0.mk (Kd.R_below (by (with_reducible repeat (first | apply Kd.R_alloc | apply Kd.R_drewN | apply Kd.R_drew)); exact HO260.out) hb); have n4_ := Aside0.mk (Kd.R_lower (Kd.R_new' (Kd.R_new' ho0 (Kd.R_lt (by (with_reducible repeat (first | apply Kd.R_alloc | apply Kd.R_drewN | apply Kd.R_drew)); exact HO_243001.out))) (Kd.R_lt (by (with_reducible repeat (first | apply Kd.R_alloc | apply Kd.R_drewN | apply Kd.R_drew)); exact HO254.out))) (below_size (by repeat (first | (with_reducible first | exact HB.out | apply below_alloc | apply pw_below_drewN | apply below_drew1 | refine below_set ?_ GE236.out | refine below_set ?_ GE242.out | refine below_set ?_ GE250.out | refine below_set ?_ GE256.out) | exact HB.out)))); have n5_ := Aside0.mk (blk_below (g := gb236) (o := .cells #[.int .i64 a0_0, .slice A0_1 l0_1.length c0_1] 24 (0, 0)) (by (with_reducible repeat (first | refine blk_drewN ?_ _ | refine blk_drew ?_ | refine blk_alloc ?_ _)); exact BK236.out) hb); have n6_ := Aside0.mk (blk_below (g := gb242) (o := .cells #[.int .i64 t237, .slice Ao11 t238.length co11] 27 (0, 0)) (by (with_reducible repeat (first | refine blk_drewN ?_ _ | refine blk_drew ?_ | refine blk_alloc ?_ _)); exact BK242.out) hb); have n7_ := Aside0.mk (blk_below (g := gb250) (o := .cells #[.int .i64 t244, .slice Ao28 t245.length co28] 24 (0, 0)) (by (with_reducible repeat (first | refine blk_drewN ?_ _ | refine blk_drew ?_ | refine blk_alloc ?_ _)); exact BK250.out) hb); have n8_ := Aside0.mk (blk_below (g := gb256) (o := .cells #[.int .i64 t251, .slice Ao35 t252.length co35] 27 (0, 0)) (by (with_reducible repeat (first | refine blk_drewN ?_ _ | refine blk_drew ?_ | refine blk_alloc ?_ _)); exact BK256.out) hb); have n9_ := Aside0.mk (below_step (by repeat (first | (with_reducible first | exact HB.out | apply below_alloc | apply pw_below_drewN | apply below_drew1 | refine below_set ?_ GE236.out | refine below_set ?_ GE242.out | refine below_set ?_ GE250.out | refine below_set ?_ GE256.out) | exact HB.out)) hb); clear HO_243001; clear HO247; clear HO254; clear HO260; clear BK236; clear BK242; clear BK250; clear BK256; clear HB; have HO_243001 := n0_; have HO247 := n1_; have HO254 := n2_; have HO260 := n3_; have HO264 := n4_; have BK236 := n5_; have BK242 := n6_; have BK250 := n7_; have BK256 := n8_; have HB := n9_; clear n0_ n1_ n2_ n3_ n4_ n5_ n6_ n7_ n8_ n9_; (try clear hb); (try clear hb2); (try clear hk); (try clear hi); (try clear ho0)) | ((with_reducible refine gate_dst (N := 12) rfl ?_); (try (refine gate_guard (by rfl) ?_; dsimp only)); refine box_event ?hg (N := 12) ?hd (cs := #[.int .i64 0, .slice none 0 0]) (t := 27) ?hr ?_; (case hd => rfl); (case hg => rfl); (case hr => first | (go_simp; done) | (go_simp; rfl)); intro gb266 hg w40 hbox hb; have n0_ := Aside0.mk (Kd.R_below (by (with_reducible repeat (first | apply Kd.R_alloc | apply Kd.R_drewN | apply Kd.R_drew)); exact HO_243001.out) hb); have n1_ := Aside0.mk (Kd.V_below (Kd.V_elderB (by (with_reducible repeat (first | apply Kd.V_alloc | apply Kd.V_drewN | apply Kd.V_drew)); exact HO247.out) gb266 (Nat.le_of_eq hg.symm)) hb); have n2_ := Aside0.mk (Kd.R_below (by (with_reducible repeat (first | apply Kd.R_alloc | apply Kd.R_drewN | apply Kd.R_drew)); exact HO254.out) hb); have n3_ := Aside0.mk (Kd.R_below (by (with_reducible repeat (first | apply Kd.R_alloc | apply Kd.R_drewN | apply Kd.R_drew)); exact HO260.out) hb); have n4_ := Aside0.mk (Kd.R_below (by (with_reducible repeat (first | apply Kd.R_alloc | apply Kd.R_drewN | apply Kd.R_drew)); exact HO264.out) hb); have n5_ := Aside0.mk (blk_below (g := gb236) (o := .cells #[.int .i64 a0_0, .slice A0_1 l0_1.length c0_1] 24 (0, 0)) (by (with_reducible repeat (first | refine blk_drewN ?_ _ | refine blk_drew ?_ | refine blk_alloc ?_ _)); exact BK236.out) hb); have n6_ := Aside0.mk (blk_below (g := gb242) (o := .cells #[.int .i64 t237, .slice Ao11 t238.length co11] 27 (0, 0)) (by (with_reducible repeat (first | refine blk_drewN ?_ _ | refine blk_drew ?_ | refine blk_alloc ?_ _)); exact BK242.out) hb); have n7_ := Aside0.mk (blk_below (g := gb250) (o := .cells #[.int .i64 t244, .slice Ao28 t245.length co28] 24 (0, 0)) (by (with_reducible repeat (first | refine blk_drewN ?_ _ | refine blk_drew ?_ | refine blk_alloc ?_ _)); exact BK250.out) hb); have n8_ := Aside0.mk (blk_below (g := gb256) (o := .cells #[.int .i64 t251, .slice Ao35 t252.length co35] 27 (0, 0)) (by (with_reducible repeat (first | refine blk_drewN ?_ _ | refine blk_drew ?_ | refine blk_alloc ?_ _)); exact BK256.out) hb); have n9_ := Aside0.mk (below_step (by repeat (first | (with_reducible first | exact HB.out | apply below_alloc | apply pw_below_drewN | apply below_drew1 | refine below_set ?_ GE236.out | refine below_set ?_ GE242.out | refine below_set ?_ GE250.out | refine below_set ?_ GE256.out) | exact HB.out)) hb); have n10_ := Aside0.mk (hbox); have n11_ := Aside0.mk ((by rw [hg]; exact (below_size (by repeat (first | (with_reducible first | exact HB.out | apply below_alloc | apply pw_below_drewN | apply below_drew1 | refine below_set ?_ GE236.out | refine below_set ?_ GE242.out | refine below_set ?_ GE250.out | refine below_set ?_ GE256.out) | exact HB.out))) : w.heap.size ≤ gb266)); have n12_ := Aside0.mk ((by rw [hg]; exact (below_size (by repeat (first | (with_reducible first | exact HB.out | apply below_alloc | apply pw_below_drewN | apply below_drew1 | refine below_set ?_ GE236.out | refine below_set ?_ GE242.out | refine below_set ?_ GE250.out | refine below_set ?_ GE256.out) | exact HB.out))) : w.heap.size ≤ gb266)); have n13_ := Aside0.mk ((by rw [hg]; exact Nat.ne_of_lt (blk_lt (g := gb236) (o := .cells #[.int .i64 a0_0, .slice A0_1 l0_1.length c0_1] 24 (0, 0)) (by (with_reducible repeat (first | refine blk_drewN ?_ _ | refine blk_drew ?_ | refine blk_alloc ?_ _)); exact BK236.out)) : gb236 ≠ gb266)); have n14_ := Aside0.mk ((by rw [hg]; exact Nat.ne_of_gt (blk_lt (g := gb236) (o := .cells #[.int .i64 a0_0, .slice A0_1 l0_1.length c0_1] 24 (0, 0)) (by (with_reducible repeat (first | refine blk_drewN ?_ _ | refine blk_drew ?_ | refine blk_alloc ?_ _)); exact BK236.out)) : gb266 ≠ gb236)); have n15_ := Aside0.mk ((by rw [hg]; exact Nat.ne_of_lt (blk_lt (g := gb242) (o := .cells #[.int .i64 t237, .slice Ao11 t238.length co11] 27 (0, 0)) (by (with_reducible repeat (first | refine blk_drewN ?_ _ | refine blk_drew ?_ | refine blk_alloc ?_ _)); exact BK242.out)) : gb242 ≠ gb266)); have n16_ := Aside0.mk ((by rw [hg]; exact Nat.ne_of_gt (blk_lt (g := gb242) (o := .cells #[.int .i64 t237, .slice Ao11 t238.length co11] 27 (0, 0)) (by (with_reducible repeat (first | refine blk_drewN ?_ _ | refine blk_drew ?_ | refine blk_alloc ?_ _)); exact BK242.out)) : gb266 ≠ gb242)); have n17_ := Aside0.mk ((by rw [hg]; exact Nat.ne_of_lt (blk_lt (g := gb250) (o := .cells #[.int .i64 t244, .slice Ao28 t245.length co28] 24 (0, 0)) (by (with_reducible repeat (first | refine blk_drewN ?_ _ | refine blk_drew ?_ | refine blk_alloc ?_ _)); exact BK250.out)) : gb250 ≠ gb266)); have n18_ := Aside0.mk ((by rw [hg]; exact Nat.ne_of_gt (blk_lt (g := gb250) (o := .cells #[.int .i64 t244, .slice Ao28 t245.length co28] 24 (0, 0)) (by (with_reducible repeat (first | refine blk_drewN ?_ _ | refine blk_drew ?_ | refine blk_alloc ?_ _)); exact BK250.out)) : gb266 ≠ gb250)); have n19_ := Aside0.mk ((by rw [hg]; exact Nat.ne_of_lt (blk_lt (g := gb256) (o := .cells #[.int .i64 t251, .slice Ao35 t252.length co35] 27 (0, 0)) (by (with_reducible repeat (first | refine blk_drewN ?_ _ | refine blk_drew ?_ | refine blk_alloc ?_ _)); exact BK256.out)) : gb256 ≠ gb266)); have n20_ := Aside0.mk ((by rw [hg]; exact Nat.ne_of_gt (blk_lt (g := gb256) (o := .cells #[.int .i64 t251, .slice Ao35 t252.length co35] 27 (0, 0)) (by (with_reducible repeat (first | refine blk_drewN ?_ _ | refine blk_drew ?_ | refine blk_alloc ?_ _)); exact BK256.out)) : gb266 ≠ gb256)); clear HO_243001; clear HO247; clear HO254; clear HO260; clear HO264; clear BK236; clear BK242; clear BK250; clear BK256; clear HB; have HO_243001 := n0_; have HO247 := n1_; have HO254 := n2_; have HO260 := n3_; have HO264 := n4_; have BK236 := n5_; have BK242 := n6_; have BK250 := n7_; have BK256 := n8_; have HB := n9_; have BK266 := n10_; have GW266 := n11_; have GE266 := n12_; have NB236_266 := n13_; have NB266_236 := n14_; have NB242_266 := n15_; have NB266_242 := n16_; have NB250_266 := n17_; have NB266_250 := n18_; have NB256_266 := n19_; have NB266_256 := n20_; clear n0_ n1_ n2_ n3_ n4_ n5_ n6_ n7_ n8_ n9_ n10_ n11_ n12_ n13_ n14_ n15_ n16_ n17_ n18_ n19_ n20_; clear hb hbox hg; have hnb41 := NB266_236.out; have hnc41 := NB236_266.out; have hnb42 := NB266_242.out; have hnc42 := NB242_266.out; have hnb43 := NB266_250.out; have hnc43 := NB250_266.out; have hnb44 := NB266_256.out; have hnc44 := NB256_266.out; have hcz45_0 : w40.cell? ⟨gb266, 0, none⟩ = some (.int .i64 0) := (blk_cell BK266.out 0).trans rfl; have hcz45_1 : w40.cell? ⟨gb266, 1, none⟩ = some (.slice none 0 0) := (blk_cell BK266.out 1).trans rfl; have hfz45_0 := blk_frozen BK266.out 0; have hfz45_1 := blk_frozen BK266.out 1; obtain ⟨Ao46, co46, eo46⟩ := Kd.R_slice HO264.out; subst eo46))
        (try simp only [Act.put, List.setIfInBounds_toArray, List.set_cons_zero, List.set_cons_succ])
        go_cut [59] (fun v59 wc => ∃ (kq : Nat) (x59_19 : Bool), v59 = .bool x59_19 ∧ Aside0 (switchboardlaw10_LinkWrong.j1 kq t248 t249 x59_19 a0_0 l0_1 t237 t238 t244 t245 t251 t252 t261 t262 = some true) ∧ Aside0 (kq ≤ kj3) ∧ Aside0 (Kd.R k40 40 wc w.heap.size (fun k_ => some k_ ≠ ((.slice Ao35 t252.length co35) : Value).ownBlock ∧ some k_ ≠ ((.slice Ao46 t262.length co46) : Value).ownBlock) (.slice Ao11 t238.length co11) t238) ∧ Aside0 (Kd.V k45 45 wc w.heap.size (fun k_ => some k_ ≠ ((.slice Ao11 t238.length co11) : Value).ownBlock ∧ some k_ ≠ ((.slice Ao35 t252.length co35) : Value).ownBlock ∧ some k_ ≠ ((.slice Ao46 t262.length co46) : Value).ownBlock ∧ k_ ≠ gb236 ∧ k_ ≠ gb242 ∧ k_ ≠ gb250 ∧ k_ ≠ gb256 ∧ k_ ≠ gb266) (.slice Ao28 t245.length co28) t245) ∧ Aside0 (Kd.R k40 40 wc w.heap.size (fun k_ => some k_ ≠ ((.slice Ao11 t238.length co11) : Value).ownBlock ∧ some k_ ≠ ((.slice Ao46 t262.length co46) : Value).ownBlock) (.slice Ao35 t252.length co35) t252) ∧ Aside0 (Kd.R k40 40 wc w.heap.size (fun k_ => some k_ ≠ ((.slice Ao11 t238.length co11) : Value).ownBlock ∧ some k_ ≠ ((.slice Ao35 t252.length co35) : Value).ownBlock) (.slice Ao46 t262.length co46) t262) ∧ Aside0 (wc.heap[gb236]? = some (.cells #[.int .i64 a0_0, (.slice A0_1 l0_1.length c0_1)] 24 (0, 0))) ∧ Aside0 (wc.heap[gb242]? = some (.cells #[.int .i64 t237, (.slice Ao11 t238.length co11)] 27 (0, 0))) ∧ Aside0 (wc.heap[gb250]? = some (.cells #[.int .i64 t244, (.slice Ao28 t245.length co28)] 24 (0, 0))) ∧ Aside0 (wc.heap[gb256]? = some (.cells #[.int .i64 t251, (.slice Ao35 t252.length co35)] 27 (0, 0))) ∧ Aside0 (wc.heap[gb266]? = some (.cells #[.int .i64 t261, (.slice Ao46 t262.length co46)] 27 (0, 0))) ∧ Aside0 (Below w.heap.size w wc))
        case first =>
          have H := HC20.out
          clear HC20
          replace H := Option.bind_eq_some_iff.mp H
          obtain ⟨t267, A470, H⟩ := H
          replace H : (if t267 = true then (if (l0_1.length : Int) < 64 then (switchboardlaw10_LinkWrong.j1 kj3 t248 t249 (decide (a0_0 < 2147483647)) a0_0 l0_1 t237 t238 t244 t245 t251 t252 t261 t262) else (switchboardlaw10_LinkWrong.j1 kj3 t248 t249 false a0_0 l0_1 t237 t238 t244 t245 t251 t252 t261 t262)) else (switchboardlaw10_LinkWrong.j1 kj3 t248 t249 false a0_0 l0_1 t237 t238 t244 t245 t251 t252 t261 t262)) = some true := H
          have A47 := Aside0.mk A470
          clear A470
          by_cases c48 : t267 = true
          · subst c48
            have H1 : (if (l0_1.length : Int) < 64 then (switchboardlaw10_LinkWrong.j1 kj3 t248 t249 (decide (a0_0 < 2147483647)) a0_0 l0_1 t237 t238 t244 t245 t251 t252 t261 t262) else (switchboardlaw10_LinkWrong.j1 kj3 t248 t249 false a0_0 l0_1 t237 t238 t244 t245 t251 t252 t261 t262)) = some true := by rw [if_pos rfl] at H; exact H
            clear H
            have H := H1
            clear H1
            by_cases c49 : (l0_1.length : Int) < 64
            · rw [if_pos c49] at H
              have c49b0 : decide ((l0_1.length : Int) < 64) = true := decide_eq_true c49
              have c49b1 : decide (l0_1.length < 64) = true := decide_eq_true (by omega)
              clear c49
              (first | rw [c49b0] | (simp only [i64_w, i32_w]; rw [c49b0]) | skip)
              have H' := Aside0.mk H
              clear H
              have hnb50 := NB236_242.out
              have hnc50 := NB242_236.out
              have hnb51 := NB236_250.out
              have hnc51 := NB250_236.out
              have hnb52 := NB236_256.out
              have hnc52 := NB256_236.out
              have hnb53 := NB236_266.out
              have hnc53 := NB266_236.out
              have hcz54_0 : w40.cell? ⟨gb236, 0, none⟩ = some (.int .i64 a0_0) := (blk_cell BK236.out 0).trans rfl
              have hcz54_1 : w40.cell? ⟨gb236, 1, none⟩ = some (.slice A0_1 l0_1.length c0_1) := (blk_cell BK236.out 1).trans rfl
              have hfz54_0 := blk_frozen BK236.out 0
              have hfz54_1 := blk_frozen BK236.out 1
              go_wp2_with (first | ((with_reducible refine gate_callee (f := 14) rfl ?_); refine goesL_ (some 48) rfl rfl Try.func14 (by kernel_rfl) rfl #[.agg #[.int .i64 a0_0, .slice A0_1 l0_1.length c0_1]] rfl (by (try simp only [List.map_toArray, List.map_cons, List.map_nil]); first | done | rfl | (simp only [List.length_drop, List.length_take]; rfl)) ?_; (with_reducible refine (link_Right.calls kj3 a0_0 _ _ l0_1 true _ ?side1 ?side2 A47.out).mono ?_); (case side1 => exact Kd.C_below HR0_1.out (by repeat (first | (with_reducible first | exact HB.out | apply below_alloc | apply pw_below_drewN | apply below_drew1 | refine below_set ?_ GE236.out | refine below_set ?_ GE242.out | refine below_set ?_ GE250.out | refine below_set ?_ GE256.out | refine below_set ?_ GE266.out) | exact HB.out))); (case side2 => exact HC0_1.out); rintro e w55 ⟨rfl, hb⟩; refine ⟨_, rfl, ?_⟩; have n0_ := Aside0.mk (Kd.R_below (by (with_reducible repeat (first | apply Kd.R_alloc | apply Kd.R_drewN | apply Kd.R_drew)); exact (Kd.R_mono (Kd.R_far (p := ⟨gb266, 1, none⟩) (Kd.R_far (p := ⟨gb266, 0, none⟩) (Kd.R_types HO_243001.out BK266.out (by decide)) (fun _ hk => hk.2) (.int .i64 t261)) (fun _ hk => hk.2) (.slice Ao46 t262.length co46)) (fun _ h_ => h_.1))) hb); have n1_ := Aside0.mk (Kd.V_below (by (with_reducible repeat (first | apply Kd.V_alloc | apply Kd.V_drewN | apply Kd.V_drew)); exact (Kd.V_mono (Kd.V_far (p := ⟨gb266, 1, none⟩) (Kd.V_far (p := ⟨gb266, 0, none⟩) (Kd.V_mono HO247.out (fun k_ hk => (⟨hk, hk.2⟩ : _ ∧ k_ ≠ gb266))) (fun _ hk => hk.2) (.int .i64 t261)) (fun _ hk => hk.2) (.slice Ao46 t262.length co46)) (fun _ h_ => h_.1))) hb); have n2_ := Aside0.mk (Kd.R_below (by (with_reducible repeat (first | apply Kd.R_alloc | apply Kd.R_drewN | apply Kd.R_drew)); exact (Kd.R_mono (Kd.R_far (p := ⟨gb266, 1, none⟩) (Kd.R_far (p := ⟨gb266, 0, none⟩) (Kd.R_types HO254.out BK266.out (by decide)) (fun _ hk => hk.2) (.int .i64 t261)) (fun _ hk => hk.2) (.slice Ao46 t262.length co46)) (fun _ h_ => h_.1))) hb); have n3_ := Aside0.mk (Kd.R_below (by (with_reducible repeat (first | apply Kd.R_alloc | apply Kd.R_drewN | apply Kd.R_drew)); exact (Kd.R_mono (Kd.R_far (p := ⟨gb266, 1, none⟩) (Kd.R_far (p := ⟨gb266, 0, none⟩) (Kd.R_types HO260.out BK266.out (by decide)) (fun _ hk => hk.2) (.int .i64 t261)) (fun _ hk => hk.2) (.slice Ao46 t262.length co46)) (fun _ h_ => h_.1))) hb); have n4_ := Aside0.mk (Kd.R_below (by (with_reducible repeat (first | apply Kd.R_alloc | apply Kd.R_drewN | apply Kd.R_drew)); exact (Kd.R_mono (Kd.R_far (p := ⟨gb266, 1, none⟩) (Kd.R_far (p := ⟨gb266, 0, none⟩) (Kd.R_types HO264.out BK266.out (by decide)) (fun _ hk => hk.2) (.int .i64 t261)) (fun _ hk => hk.2) (.slice Ao46 t262.length co46)) (fun _ h_ => h_.1))) hb); have n5_ := Aside0.mk (blk_below (g := gb236) (o := .cells #[.int .i64 a0_0, .slice A0_1 l0_1.length c0_1] 24 (0, 0)) (by (with_reducible repeat (first | refine blk_drewN ?_ _ | refine blk_drew ?_ | refine blk_alloc ?_ _)); refine blk_far ?_ NB236_266.out _; (with_reducible repeat (first | refine blk_drewN ?_ _ | refine blk_drew ?_ | refine blk_alloc ?_ _)); refine blk_far ?_ NB236_266.out _; (with_reducible repeat (first | refine blk_drewN ?_ _ | refine blk_drew ?_ | refine blk_alloc ?_ _)); exact BK236.out) hb); have n6_ := Aside0.mk (blk_below (g := gb242) (o := .cells #[.int .i64 t237, .slice Ao11 t238.length co11] 27 (0, 0)) (by (with_reducible repeat (first | refine blk_drewN ?_ _ | refine blk_drew ?_ | refine blk_alloc ?_ _)); refine blk_far ?_ NB242_266.out _; (with_reducible repeat (first | refine blk_drewN ?_ _ | refine blk_drew ?_ | refine blk_alloc ?_ _)); refine blk_far ?_ NB242_266.out _; (with_reducible repeat (first | refine blk_drewN ?_ _ | refine blk_drew ?_ | refine blk_alloc ?_ _)); exact BK242.out) hb); have n7_ := Aside0.mk (blk_below (g := gb250) (o := .cells #[.int .i64 t244, .slice Ao28 t245.length co28] 24 (0, 0)) (by (with_reducible repeat (first | refine blk_drewN ?_ _ | refine blk_drew ?_ | refine blk_alloc ?_ _)); refine blk_far ?_ NB250_266.out _; (with_reducible repeat (first | refine blk_drewN ?_ _ | refine blk_drew ?_ | refine blk_alloc ?_ _)); refine blk_far ?_ NB250_266.out _; (with_reducible repeat (first | refine blk_drewN ?_ _ | refine blk_drew ?_ | refine blk_alloc ?_ _)); exact BK250.out) hb); have n8_ := Aside0.mk (blk_below (g := gb256) (o := .cells #[.int .i64 t251, .slice Ao35 t252.length co35] 27 (0, 0)) (by (with_reducible repeat (first | refine blk_drewN ?_ _ | refine blk_drew ?_ | refine blk_alloc ?_ _)); refine blk_far ?_ NB256_266.out _; (with_reducible repeat (first | refine blk_drewN ?_ _ | refine blk_drew ?_ | refine blk_alloc ?_ _)); refine blk_far ?_ NB256_266.out _; (with_reducible repeat (first | refine blk_drewN ?_ _ | refine blk_drew ?_ | refine blk_alloc ?_ _)); exact BK256.out) hb); have n9_ := Aside0.mk (blk_below (g := gb266) (o := .cells #[.int .i64 t261, .slice Ao46 t262.length co46] 27 (0, 0)) (by (with_reducible repeat (first | refine blk_drewN ?_ _ | refine blk_drew ?_ | refine blk_alloc ?_ _)); refine blk_put (cs := #[.int .i64 t261, .slice none 0 0]) ?_ 1 _ rfl; (with_reducible repeat (first | refine blk_drewN ?_ _ | refine blk_drew ?_ | refine blk_alloc ?_ _)); refine blk_put (cs := #[.int .i64 0, .slice none 0 0]) ?_ 0 _ rfl; (with_reducible repeat (first | refine blk_drewN ?_ _ | refine blk_drew ?_ | refine blk_alloc ?_ _)); exact BK266.out) hb); have n10_ := Aside0.mk (below_step (by repeat (first | (with_reducible first | exact HB.out | apply below_alloc | apply pw_below_drewN | apply below_drew1 | refine below_set ?_ GE236.out | refine below_set ?_ GE242.out | refine below_set ?_ GE250.out | refine below_set ?_ GE256.out | refine below_set ?_ GE266.out) | exact HB.out)) hb); clear HO_243001; clear HO247; clear HO254; clear HO260; clear HO264; clear BK236; clear BK242; clear BK250; clear BK256; clear BK266; clear HB; have HO_243001 := n0_; have HO247 := n1_; have HO254 := n2_; have HO260 := n3_; have HO264 := n4_; have BK236 := n5_; have BK242 := n6_; have BK250 := n7_; have BK256 := n8_; have BK266 := n9_; have HB := n10_; clear n0_ n1_ n2_ n3_ n4_ n5_ n6_ n7_ n8_ n9_ n10_; (try clear hb); (try clear hb2); (try clear hk); (try clear hi); have hcz56_0 : w55.cell? ⟨gb236, 0, none⟩ = some (.int .i64 a0_0) := (blk_cell BK236.out 0).trans rfl; have hcz56_1 : w55.cell? ⟨gb236, 1, none⟩ = some (.slice A0_1 l0_1.length c0_1) := (blk_cell BK236.out 1).trans rfl; have hfz56_0 := blk_frozen BK236.out 0; have hfz56_1 := blk_frozen BK236.out 1))
              go_meet
              case rel => exact ⟨_, (decide (a0_0 < 2147483647)), (by first | rfl | (simp; done) | (simp [*]; done)), H', ⟨by have := HJ3.out; first | omega | exact Nat.le_refl _⟩, ⟨by (with_reducible repeat (first | apply Kd.R_alloc | apply Kd.R_drewN | apply Kd.R_drew)); exact Kd.R_mono HO_243001.out (fun _ hk => ⟨hk.1.2, hk.2⟩)⟩, ⟨by (with_reducible repeat (first | apply Kd.V_alloc | apply Kd.V_drewN | apply Kd.V_drew)); exact Kd.V_mono HO247.out (fun _ hk => ⟨hk.1.1.1.1.1.1.1, ⟨hk.1.1.1.1.2, ⟨hk.1.2, ⟨hk.1.1.1.1.1.1.2.1, ⟨hk.1.1.1.1.1.1.2.2, ⟨hk.1.1.1.1.1.2, ⟨hk.1.1.1.2, hk.2⟩⟩⟩⟩⟩⟩⟩)⟩, ⟨by (with_reducible repeat (first | apply Kd.R_alloc | apply Kd.R_drewN | apply Kd.R_drew)); exact Kd.R_mono HO254.out (fun _ hk => ⟨hk.1.2, hk.2⟩)⟩, ⟨by (with_reducible repeat (first | apply Kd.R_alloc | apply Kd.R_drewN | apply Kd.R_drew)); exact Kd.R_mono HO264.out (fun _ hk => ⟨hk.1.2, hk.2⟩)⟩, ⟨by (with_reducible repeat (first | refine blk_drewN ?_ _ | refine blk_drew ?_ | refine blk_alloc ?_ _)); exact BK236.out⟩, ⟨by (with_reducible repeat (first | refine blk_drewN ?_ _ | refine blk_drew ?_ | refine blk_alloc ?_ _)); exact BK242.out⟩, ⟨by (with_reducible repeat (first | refine blk_drewN ?_ _ | refine blk_drew ?_ | refine blk_alloc ?_ _)); exact BK250.out⟩, ⟨by (with_reducible repeat (first | refine blk_drewN ?_ _ | refine blk_drew ?_ | refine blk_alloc ?_ _)); exact BK256.out⟩, ⟨by (with_reducible repeat (first | refine blk_drewN ?_ _ | refine blk_drew ?_ | refine blk_alloc ?_ _)); exact BK266.out⟩, ⟨by repeat (first | (with_reducible first | exact HB.out | apply below_alloc | apply pw_below_drewN | apply below_drew1 | refine below_set ?_ GE236.out | refine below_set ?_ GE242.out | refine below_set ?_ GE250.out | refine below_set ?_ GE256.out | refine below_set ?_ GE266.out) | exact HB.out)⟩⟩
            · rw [if_neg c49] at H
              have c49b0 : decide ((l0_1.length : Int) < 64) = false := decide_eq_false c49
              have c49b1 : decide (l0_1.length < 64) = false := decide_eq_false (by omega)
              clear c49
              (first | rw [c49b0] | (simp only [i64_w, i32_w]; rw [c49b0]) | skip)
              have H' := Aside0.mk H
              clear H
              have hnb57 := NB236_242.out
              have hnc57 := NB242_236.out
              have hnb58 := NB236_250.out
              have hnc58 := NB250_236.out
              have hnb59 := NB236_256.out
              have hnc59 := NB256_236.out
              have hnb60 := NB236_266.out
              have hnc60 := NB266_236.out
              have hcz61_0 : w40.cell? ⟨gb236, 0, none⟩ = some (.int .i64 a0_0) := (blk_cell BK236.out 0).trans rfl
              have hcz61_1 : w40.cell? ⟨gb236, 1, none⟩ = some (.slice A0_1 l0_1.length c0_1) := (blk_cell BK236.out 1).trans rfl
              have hfz61_0 := blk_frozen BK236.out 0
              have hfz61_1 := blk_frozen BK236.out 1
              go_wp2_with (first | ((with_reducible refine gate_callee (f := 14) rfl ?_); refine goesL_ (some 48) rfl rfl Try.func14 (by kernel_rfl) rfl #[.agg #[.int .i64 a0_0, .slice A0_1 l0_1.length c0_1]] rfl (by (try simp only [List.map_toArray, List.map_cons, List.map_nil]); first | done | rfl | (simp only [List.length_drop, List.length_take]; rfl)) ?_; (with_reducible refine (link_Right.calls kj3 a0_0 _ _ l0_1 true _ ?side1 ?side2 A47.out).mono ?_); (case side1 => exact Kd.C_below HR0_1.out (by repeat (first | (with_reducible first | exact HB.out | apply below_alloc | apply pw_below_drewN | apply below_drew1 | refine below_set ?_ GE236.out | refine below_set ?_ GE242.out | refine below_set ?_ GE250.out | refine below_set ?_ GE256.out | refine below_set ?_ GE266.out) | exact HB.out))); (case side2 => exact HC0_1.out); rintro e w62 ⟨rfl, hb⟩; refine ⟨_, rfl, ?_⟩; have n0_ := Aside0.mk (Kd.R_below (by (with_reducible repeat (first | apply Kd.R_alloc | apply Kd.R_drewN | apply Kd.R_drew)); exact (Kd.R_mono (Kd.R_far (p := ⟨gb266, 1, none⟩) (Kd.R_far (p := ⟨gb266, 0, none⟩) (Kd.R_types HO_243001.out BK266.out (by decide)) (fun _ hk => hk.2) (.int .i64 t261)) (fun _ hk => hk.2) (.slice Ao46 t262.length co46)) (fun _ h_ => h_.1))) hb); have n1_ := Aside0.mk (Kd.V_below (by (with_reducible repeat (first | apply Kd.V_alloc | apply Kd.V_drewN | apply Kd.V_drew)); exact (Kd.V_mono (Kd.V_far (p := ⟨gb266, 1, none⟩) (Kd.V_far (p := ⟨gb266, 0, none⟩) (Kd.V_mono HO247.out (fun k_ hk => (⟨hk, hk.2⟩ : _ ∧ k_ ≠ gb266))) (fun _ hk => hk.2) (.int .i64 t261)) (fun _ hk => hk.2) (.slice Ao46 t262.length co46)) (fun _ h_ => h_.1))) hb); have n2_ := Aside0.mk (Kd.R_below (by (with_reducible repeat (first | apply Kd.R_alloc | apply Kd.R_drewN | apply Kd.R_drew)); exact (Kd.R_mono (Kd.R_far (p := ⟨gb266, 1, none⟩) (Kd.R_far (p := ⟨gb266, 0, none⟩) (Kd.R_types HO254.out BK266.out (by decide)) (fun _ hk => hk.2) (.int .i64 t261)) (fun _ hk => hk.2) (.slice Ao46 t262.length co46)) (fun _ h_ => h_.1))) hb); have n3_ := Aside0.mk (Kd.R_below (by (with_reducible repeat (first | apply Kd.R_alloc | apply Kd.R_drewN | apply Kd.R_drew)); exact (Kd.R_mono (Kd.R_far (p := ⟨gb266, 1, none⟩) (Kd.R_far (p := ⟨gb266, 0, none⟩) (Kd.R_types HO260.out BK266.out (by decide)) (fun _ hk => hk.2) (.int .i64 t261)) (fun _ hk => hk.2) (.slice Ao46 t262.length co46)) (fun _ h_ => h_.1))) hb); have n4_ := Aside0.mk (Kd.R_below (by (with_reducible repeat (first | apply Kd.R_alloc | apply Kd.R_drewN | apply Kd.R_drew)); exact (Kd.R_mono (Kd.R_far (p := ⟨gb266, 1, none⟩) (Kd.R_far (p := ⟨gb266, 0, none⟩) (Kd.R_types HO264.out BK266.out (by decide)) (fun _ hk => hk.2) (.int .i64 t261)) (fun _ hk => hk.2) (.slice Ao46 t262.length co46)) (fun _ h_ => h_.1))) hb); have n5_ := Aside0.mk (blk_below (g := gb236) (o := .cells #[.int .i64 a0_0, .slice A0_1 l0_1.length c0_1] 24 (0, 0)) (by (with_reducible repeat (first | refine blk_drewN ?_ _ | refine blk_drew ?_ | refine blk_alloc ?_ _)); refine blk_far ?_ NB236_266.out _; (with_reducible repeat (first | refine blk_drewN ?_ _ | refine blk_drew ?_ | refine blk_alloc ?_ _)); refine blk_far ?_ NB236_266.out _; (with_reducible repeat (first | refine blk_drewN ?_ _ | refine blk_drew ?_ | refine blk_alloc ?_ _)); exact BK236.out) hb); have n6_ := Aside0.mk (blk_below (g := gb242) (o := .cells #[.int .i64 t237, .slice Ao11 t238.length co11] 27 (0, 0)) (by (with_reducible repeat (first | refine blk_drewN ?_ _ | refine blk_drew ?_ | refine blk_alloc ?_ _)); refine blk_far ?_ NB242_266.out _; (with_reducible repeat (first | refine blk_drewN ?_ _ | refine blk_drew ?_ | refine blk_alloc ?_ _)); refine blk_far ?_ NB242_266.out _; (with_reducible repeat (first | refine blk_drewN ?_ _ | refine blk_drew ?_ | refine blk_alloc ?_ _)); exact BK242.out) hb); have n7_ := Aside0.mk (blk_below (g := gb250) (o := .cells #[.int .i64 t244, .slice Ao28 t245.length co28] 24 (0, 0)) (by (with_reducible repeat (first | refine blk_drewN ?_ _ | refine blk_drew ?_ | refine blk_alloc ?_ _)); refine blk_far ?_ NB250_266.out _; (with_reducible repeat (first | refine blk_drewN ?_ _ | refine blk_drew ?_ | refine blk_alloc ?_ _)); refine blk_far ?_ NB250_266.out _; (with_reducible repeat (first | refine blk_drewN ?_ _ | refine blk_drew ?_ | refine blk_alloc ?_ _)); exact BK250.out) hb); have n8_ := Aside0.mk (blk_below (g := gb256) (o := .cells #[.int .i64 t251, .slice Ao35 t252.length co35] 27 (0, 0)) (by (with_reducible repeat (first | refine blk_drewN ?_ _ | refine blk_drew ?_ | refine blk_alloc ?_ _)); refine blk_far ?_ NB256_266.out _; (with_reducible repeat (first | refine blk_drewN ?_ _ | refine blk_drew ?_ | refine blk_alloc ?_ _)); refine blk_far ?_ NB256_266.out _; (with_reducible repeat (first | refine blk_drewN ?_ _ | refine blk_drew ?_ | refine blk_alloc ?_ _)); exact BK256.out) hb); have n9_ := Aside0.mk (blk_below (g := gb266) (o := .cells #[.int .i64 t261, .slice Ao46 t262.length co46] 27 (0, 0)) (by (with_reducible repeat (first | refine blk_drewN ?_ _ | refine blk_drew ?_ | refine blk_alloc ?_ _)); refine blk_put (cs := #[.int .i64 t261, .slice none 0 0]) ?_ 1 _ rfl; (with_reducible repeat (first | refine blk_drewN ?_ _ | refine blk_drew ?_ | refine blk_alloc ?_ _)); refine blk_put (cs := #[.int .i64 0, .slice none 0 0]) ?_ 0 _ rfl; (with_reducible repeat (first | refine blk_drewN ?_ _ | refine blk_drew ?_ | refine blk_alloc ?_ _)); exact BK266.out) hb); have n10_ := Aside0.mk (below_step (by repeat (first | (with_reducible first | exact HB.out | apply below_alloc | apply pw_below_drewN | apply below_drew1 | refine below_set ?_ GE236.out | refine below_set ?_ GE242.out | refine below_set ?_ GE250.out | refine below_set ?_ GE256.out | refine below_set ?_ GE266.out) | exact HB.out)) hb); clear HO_243001; clear HO247; clear HO254; clear HO260; clear HO264; clear BK236; clear BK242; clear BK250; clear BK256; clear BK266; clear HB; have HO_243001 := n0_; have HO247 := n1_; have HO254 := n2_; have HO260 := n3_; have HO264 := n4_; have BK236 := n5_; have BK242 := n6_; have BK250 := n7_; have BK256 := n8_; have BK266 := n9_; have HB := n10_; clear n0_ n1_ n2_ n3_ n4_ n5_ n6_ n7_ n8_ n9_ n10_; (try clear hb); (try clear hb2); (try clear hk); (try clear hi); have hcz63_0 : w62.cell? ⟨gb236, 0, none⟩ = some (.int .i64 a0_0) := (blk_cell BK236.out 0).trans rfl; have hcz63_1 : w62.cell? ⟨gb236, 1, none⟩ = some (.slice A0_1 l0_1.length c0_1) := (blk_cell BK236.out 1).trans rfl; have hfz63_0 := blk_frozen BK236.out 0; have hfz63_1 := blk_frozen BK236.out 1))
              go_meet
              case rel => exact ⟨_, (false), (by first | rfl | (simp; done) | (simp [*]; done)), H', ⟨by have := HJ3.out; first | omega | exact Nat.le_refl _⟩, ⟨by (with_reducible repeat (first | apply Kd.R_alloc | apply Kd.R_drewN | apply Kd.R_drew)); exact Kd.R_mono HO_243001.out (fun _ hk => ⟨hk.1.2, hk.2⟩)⟩, ⟨by (with_reducible repeat (first | apply Kd.V_alloc | apply Kd.V_drewN | apply Kd.V_drew)); exact Kd.V_mono HO247.out (fun _ hk => ⟨hk.1.1.1.1.1.1.1, ⟨hk.1.1.1.1.2, ⟨hk.1.2, ⟨hk.1.1.1.1.1.1.2.1, ⟨hk.1.1.1.1.1.1.2.2, ⟨hk.1.1.1.1.1.2, ⟨hk.1.1.1.2, hk.2⟩⟩⟩⟩⟩⟩⟩)⟩, ⟨by (with_reducible repeat (first | apply Kd.R_alloc | apply Kd.R_drewN | apply Kd.R_drew)); exact Kd.R_mono HO254.out (fun _ hk => ⟨hk.1.2, hk.2⟩)⟩, ⟨by (with_reducible repeat (first | apply Kd.R_alloc | apply Kd.R_drewN | apply Kd.R_drew)); exact Kd.R_mono HO264.out (fun _ hk => ⟨hk.1.2, hk.2⟩)⟩, ⟨by (with_reducible repeat (first | refine blk_drewN ?_ _ | refine blk_drew ?_ | refine blk_alloc ?_ _)); exact BK236.out⟩, ⟨by (with_reducible repeat (first | refine blk_drewN ?_ _ | refine blk_drew ?_ | refine blk_alloc ?_ _)); exact BK242.out⟩, ⟨by (with_reducible repeat (first | refine blk_drewN ?_ _ | refine blk_drew ?_ | refine blk_alloc ?_ _)); exact BK250.out⟩, ⟨by (with_reducible repeat (first | refine blk_drewN ?_ _ | refine blk_drew ?_ | refine blk_alloc ?_ _)); exact BK256.out⟩, ⟨by (with_reducible repeat (first | refine blk_drewN ?_ _ | refine blk_drew ?_ | refine blk_alloc ?_ _)); exact BK266.out⟩, ⟨by repeat (first | (with_reducible first | exact HB.out | apply below_alloc | apply pw_below_drewN | apply below_drew1 | refine below_set ?_ GE236.out | refine below_set ?_ GE242.out | refine below_set ?_ GE250.out | refine below_set ?_ GE256.out | refine below_set ?_ GE266.out) | exact HB.out)⟩⟩
          · replace c48 := Bool.eq_false_iff.mpr c48
            subst c48
            have H1 : (switchboardlaw10_LinkWrong.j1 kj3 t248 t249 false a0_0 l0_1 t237 t238 t244 t245 t251 t252 t261 t262) = some true := by rw [if_neg (show ¬ (false = true) by decide)] at H; exact H
            clear H
            have H := H1
            clear H1
            have H' := Aside0.mk H
            clear H
            have hnb64 := NB236_242.out
            have hnc64 := NB242_236.out
            have hnb65 := NB236_250.out
            have hnc65 := NB250_236.out
            have hnb66 := NB236_256.out
            have hnc66 := NB256_236.out
            have hnb67 := NB236_266.out
            have hnc67 := NB266_236.out
            have hcz68_0 : w40.cell? ⟨gb236, 0, none⟩ = some (.int .i64 a0_0) := (blk_cell BK236.out 0).trans rfl
            have hcz68_1 : w40.cell? ⟨gb236, 1, none⟩ = some (.slice A0_1 l0_1.length c0_1) := (blk_cell BK236.out 1).trans rfl
            have hfz68_0 := blk_frozen BK236.out 0
            have hfz68_1 := blk_frozen BK236.out 1
            go_wp2_with (first | ((with_reducible refine gate_callee (f := 14) rfl ?_); refine goesL_ (some 48) rfl rfl Try.func14 (by kernel_rfl) rfl #[.agg #[.int .i64 a0_0, .slice A0_1 l0_1.length c0_1]] rfl (by (try simp only [List.map_toArray, List.map_cons, List.map_nil]); first | done | rfl | (simp only [List.length_drop, List.length_take]; rfl)) ?_; (with_reducible refine (link_Right.calls kj3 a0_0 _ _ l0_1 false _ ?side1 ?side2 A47.out).mono ?_); (case side1 => exact Kd.C_below HR0_1.out (by repeat (first | (with_reducible first | exact HB.out | apply below_alloc | apply pw_below_drewN | apply below_drew1 | refine below_set ?_ GE236.out | refine below_set ?_ GE242.out | refine below_set ?_ GE250.out | refine below_set ?_ GE256.out | refine below_set ?_ GE266.out) | exact HB.out))); (case side2 => exact HC0_1.out); rintro e w69 ⟨rfl, hb⟩; refine ⟨_, rfl, ?_⟩; have n0_ := Aside0.mk (Kd.R_below (by (with_reducible repeat (first | apply Kd.R_alloc | apply Kd.R_drewN | apply Kd.R_drew)); exact (Kd.R_mono (Kd.R_far (p := ⟨gb266, 1, none⟩) (Kd.R_far (p := ⟨gb266, 0, none⟩) (Kd.R_types HO_243001.out BK266.out (by decide)) (fun _ hk => hk.2) (.int .i64 t261)) (fun _ hk => hk.2) (.slice Ao46 t262.length co46)) (fun _ h_ => h_.1))) hb); have n1_ := Aside0.mk (Kd.V_below (by (with_reducible repeat (first | apply Kd.V_alloc | apply Kd.V_drewN | apply Kd.V_drew)); exact (Kd.V_mono (Kd.V_far (p := ⟨gb266, 1, none⟩) (Kd.V_far (p := ⟨gb266, 0, none⟩) (Kd.V_mono HO247.out (fun k_ hk => (⟨hk, hk.2⟩ : _ ∧ k_ ≠ gb266))) (fun _ hk => hk.2) (.int .i64 t261)) (fun _ hk => hk.2) (.slice Ao46 t262.length co46)) (fun _ h_ => h_.1))) hb); have n2_ := Aside0.mk (Kd.R_below (by (with_reducible repeat (first | apply Kd.R_alloc | apply Kd.R_drewN | apply Kd.R_drew)); exact (Kd.R_mono (Kd.R_far (p := ⟨gb266, 1, none⟩) (Kd.R_far (p := ⟨gb266, 0, none⟩) (Kd.R_types HO254.out BK266.out (by decide)) (fun _ hk => hk.2) (.int .i64 t261)) (fun _ hk => hk.2) (.slice Ao46 t262.length co46)) (fun _ h_ => h_.1))) hb); have n3_ := Aside0.mk (Kd.R_below (by (with_reducible repeat (first | apply Kd.R_alloc | apply Kd.R_drewN | apply Kd.R_drew)); exact (Kd.R_mono (Kd.R_far (p := ⟨gb266, 1, none⟩) (Kd.R_far (p := ⟨gb266, 0, none⟩) (Kd.R_types HO260.out BK266.out (by decide)) (fun _ hk => hk.2) (.int .i64 t261)) (fun _ hk => hk.2) (.slice Ao46 t262.length co46)) (fun _ h_ => h_.1))) hb); have n4_ := Aside0.mk (Kd.R_below (by (with_reducible repeat (first | apply Kd.R_alloc | apply Kd.R_drewN | apply Kd.R_drew)); exact (Kd.R_mono (Kd.R_far (p := ⟨gb266, 1, none⟩) (Kd.R_far (p := ⟨gb266, 0, none⟩) (Kd.R_types HO264.out BK266.out (by decide)) (fun _ hk => hk.2) (.int .i64 t261)) (fun _ hk => hk.2) (.slice Ao46 t262.length co46)) (fun _ h_ => h_.1))) hb); have n5_ := Aside0.mk (blk_below (g := gb236) (o := .cells #[.int .i64 a0_0, .slice A0_1 l0_1.length c0_1] 24 (0, 0)) (by (with_reducible repeat (first | refine blk_drewN ?_ _ | refine blk_drew ?_ | refine blk_alloc ?_ _)); refine blk_far ?_ NB236_266.out _; (with_reducible repeat (first | refine blk_drewN ?_ _ | refine blk_drew ?_ | refine blk_alloc ?_ _)); refine blk_far ?_ NB236_266.out _; (with_reducible repeat (first | refine blk_drewN ?_ _ | refine blk_drew ?_ | refine blk_alloc ?_ _)); exact BK236.out) hb); have n6_ := Aside0.mk (blk_below (g := gb242) (o := .cells #[.int .i64 t237, .slice Ao11 t238.length co11] 27 (0, 0)) (by (with_reducible repeat (first | refine blk_drewN ?_ _ | refine blk_drew ?_ | refine blk_alloc ?_ _)); refine blk_far ?_ NB242_266.out _; (with_reducible repeat (first | refine blk_drewN ?_ _ | refine blk_drew ?_ | refine blk_alloc ?_ _)); refine blk_far ?_ NB242_266.out _; (with_reducible repeat (first | refine blk_drewN ?_ _ | refine blk_drew ?_ | refine blk_alloc ?_ _)); exact BK242.out) hb); have n7_ := Aside0.mk (blk_below (g := gb250) (o := .cells #[.int .i64 t244, .slice Ao28 t245.length co28] 24 (0, 0)) (by (with_reducible repeat (first | refine blk_drewN ?_ _ | refine blk_drew ?_ | refine blk_alloc ?_ _)); refine blk_far ?_ NB250_266.out _; (with_reducible repeat (first | refine blk_drewN ?_ _ | refine blk_drew ?_ | refine blk_alloc ?_ _)); refine blk_far ?_ NB250_266.out _; (with_reducible repeat (first | refine blk_drewN ?_ _ | refine blk_drew ?_ | refine blk_alloc ?_ _)); exact BK250.out) hb); have n8_ := Aside0.mk (blk_below (g := gb256) (o := .cells #[.int .i64 t251, .slice Ao35 t252.length co35] 27 (0, 0)) (by (with_reducible repeat (first | refine blk_drewN ?_ _ | refine blk_drew ?_ | refine blk_alloc ?_ _)); refine blk_far ?_ NB256_266.out _; (with_reducible repeat (first | refine blk_drewN ?_ _ | refine blk_drew ?_ | refine blk_alloc ?_ _)); refine blk_far ?_ NB256_266.out _; (with_reducible repeat (first | refine blk_drewN ?_ _ | refine blk_drew ?_ | refine blk_alloc ?_ _)); exact BK256.out) hb); have n9_ := Aside0.mk (blk_below (g := gb266) (o := .cells #[.int .i64 t261, .slice Ao46 t262.length co46] 27 (0, 0)) (by (with_reducible repeat (first | refine blk_drewN ?_ _ | refine blk_drew ?_ | refine blk_alloc ?_ _)); refine blk_put (cs := #[.int .i64 t261, .slice none 0 0]) ?_ 1 _ rfl; (with_reducible repeat (first | refine blk_drewN ?_ _ | refine blk_drew ?_ | refine blk_alloc ?_ _)); refine blk_put (cs := #[.int .i64 0, .slice none 0 0]) ?_ 0 _ rfl; (with_reducible repeat (first | refine blk_drewN ?_ _ | refine blk_drew ?_ | refine blk_alloc ?_ _)); exact BK266.out) hb); have n10_ := Aside0.mk (below_step (by repeat (first | (with_reducible first | exact HB.out | apply below_alloc | apply pw_below_drewN | apply below_drew1 | refine below_set ?_ GE236.out | refine below_set ?_ GE242.out | refine below_set ?_ GE250.out | refine below_set ?_ GE256.out | refine below_set ?_ GE266.out) | exact HB.out)) hb); clear HO_243001; clear HO247; clear HO254; clear HO260; clear HO264; clear BK236; clear BK242; clear BK250; clear BK256; clear BK266; clear HB; have HO_243001 := n0_; have HO247 := n1_; have HO254 := n2_; have HO260 := n3_; have HO264 := n4_; have BK236 := n5_; have BK242 := n6_; have BK250 := n7_; have BK256 := n8_; have BK266 := n9_; have HB := n10_; clear n0_ n1_ n2_ n3_ n4_ n5_ n6_ n7_ n8_ n9_ n10_; (try clear hb); (try clear hb2); (try clear hk); (try clear hi)))
            go_meet
            case rel => exact ⟨_, (false), (by first | rfl | (simp; done) | (simp [*]; done)), H', ⟨by have := HJ3.out; first | omega | exact Nat.le_refl _⟩, ⟨by (with_reducible repeat (first | apply Kd.R_alloc | apply Kd.R_drewN | apply Kd.R_drew)); exact Kd.R_mono HO_243001.out (fun _ hk => ⟨hk.1.2, hk.2⟩)⟩, ⟨by (with_reducible repeat (first | apply Kd.V_alloc | apply Kd.V_drewN | apply Kd.V_drew)); exact Kd.V_mono HO247.out (fun _ hk => ⟨hk.1.1.1.1.1.1.1, ⟨hk.1.1.1.1.2, ⟨hk.1.2, ⟨hk.1.1.1.1.1.1.2.1, ⟨hk.1.1.1.1.1.1.2.2, ⟨hk.1.1.1.1.1.2, ⟨hk.1.1.1.2, hk.2⟩⟩⟩⟩⟩⟩⟩)⟩, ⟨by (with_reducible repeat (first | apply Kd.R_alloc | apply Kd.R_drewN | apply Kd.R_drew)); exact Kd.R_mono HO254.out (fun _ hk => ⟨hk.1.2, hk.2⟩)⟩, ⟨by (with_reducible repeat (first | apply Kd.R_alloc | apply Kd.R_drewN | apply Kd.R_drew)); exact Kd.R_mono HO264.out (fun _ hk => ⟨hk.1.2, hk.2⟩)⟩, ⟨by (with_reducible repeat (first | refine blk_drewN ?_ _ | refine blk_drew ?_ | refine blk_alloc ?_ _)); exact BK236.out⟩, ⟨by (with_reducible repeat (first | refine blk_drewN ?_ _ | refine blk_drew ?_ | refine blk_alloc ?_ _)); exact BK242.out⟩, ⟨by (with_reducible repeat (first | refine blk_drewN ?_ _ | refine blk_drew ?_ | refine blk_alloc ?_ _)); exact BK250.out⟩, ⟨by (with_reducible repeat (first | refine blk_drewN ?_ _ | refine blk_drew ?_ | refine blk_alloc ?_ _)); exact BK256.out⟩, ⟨by (with_reducible repeat (first | refine blk_drewN ?_ _ | refine blk_drew ?_ | refine blk_alloc ?_ _)); exact BK266.out⟩, ⟨by repeat (first | (with_reducible first | exact HB.out | apply below_alloc | apply pw_below_drewN | apply below_drew1 | refine below_set ?_ GE236.out | refine below_set ?_ GE242.out | refine below_set ?_ GE250.out | refine below_set ?_ GE256.out | refine below_set ?_ GE266.out) | exact HB.out)⟩⟩
        case rest =>
          clear HC20
          try clear c1
          try clear c2
          try clear p2
          try clear c3
          try clear c4
          try clear c5
          try clear c6
          try clear c8
          try clear c9
          try clear c10
          try clear c11
          try clear c12
          try clear c13
          try clear c14
          try clear c21
          try clear c25
          try clear c26
          try clear c31
          try clear c32
          try clear c33
          try clear c41
          try clear c42
          try clear c43
          try clear c44
          try clear c48
          try clear c49
          try clear c49b0
          try clear c49b1
          try clear c50
          try clear c51
          try clear c52
          try clear c53
          try clear c57
          try clear c58
          try clear c59
          try clear c60
          try clear c64
          try clear c65
          try clear c66
          try clear c67
          try clear hcz10_0
          try clear hcz10_1
          try clear hcz22_0
          try clear hcz22_1
          try clear hcz27_0
          try clear hcz27_1
          try clear hcz34_0
          try clear hcz34_1
          try clear hcz36_0
          try clear hcz36_1
          try clear hcz45_0
          try clear hcz45_1
          try clear hcz54_0
          try clear hcz54_1
          try clear hcz56_0
          try clear hcz56_1
          try clear hcz61_0
          try clear hcz61_1
          try clear hcz63_0
          try clear hcz63_1
          try clear hcz68_0
          try clear hcz68_1
          try clear hcz6_0
          try clear hcz6_1
          try clear hfz10_0
          try clear hfz10_1
          try clear hfz22_0
          try clear hfz22_1
          try clear hfz27_0
          try clear hfz27_1
          try clear hfz34_0
          try clear hfz34_1
          try clear hfz36_0
          try clear hfz36_1
          try clear hfz45_0
          try clear hfz45_1
          try clear hfz54_0
          try clear hfz54_1
          try clear hfz56_0
          try clear hfz56_1
          try clear hfz61_0
          try clear hfz61_1
          try clear hfz63_0
          try clear hfz63_1
          try clear hfz68_0
          try clear hfz68_1
          try clear hfz6_0
          try clear hfz6_1
          try clear p2
          obtain ⟨kq, x59_19, rfl, HA, HJ19, HO_243001, HO_251001, HO_257001, HO_267001, BK236, BK242, BK250, BK256, BK266, HB⟩ := hcut
          cases kq with
          | zero => exact absurd HA.out (by simp [switchboardlaw10_LinkWrong.j1])
          | succ kj19 =>
            have H := HA.out
            clear HA
            simp only [switchboardlaw10_LinkWrong.j1] at H
            by_cases c70 : x59_19 = true
            · subst c70
              have H1 : (if t249 = 0 then (if t248 = a0_0 then (if (t245.length : Int) = (wrap64 ((l0_1.length : Int) + 1)) then ((switchboardlaw10_awake.f kj19).bind fun t268 => (some t268)) else (some false)) else (some false)) else (some false)) = some true := by rw [if_pos rfl] at H; exact H
              clear H
              have H := H1
              clear H1
              by_cases c71 : t249 = 0
              · rw [if_pos c71] at H
                have c71b0 : (t249 == 0) = true := beq_iff_eq.mpr c71
                have c71b1 : (t249 != 0) = false := bne_eq_false_iff_eq.mpr c71
                clear c71
                by_cases c72 : t248 = a0_0
                · rw [if_pos c72] at H
                  have c72b0 : (t248 == a0_0) = true := beq_iff_eq.mpr c72
                  have c72b1 : (t248 != a0_0) = false := bne_eq_false_iff_eq.mpr c72
                  clear c72
                  by_cases c73 : (t245.length : Int) = (wrap64 ((l0_1.length : Int) + 1))
                  · rw [if_pos c73] at H
                    have c73b0 : ((t245.length : Int) == (wrap64 ((l0_1.length : Int) + 1))) = true := beq_iff_eq.mpr c73
                    have c73b1 : ((t245.length : Int) != (wrap64 ((l0_1.length : Int) + 1))) = false := bne_eq_false_iff_eq.mpr c73
                    clear c73
                    replace H := Option.bind_eq_some_iff.mp H
                    obtain ⟨t268, A740, H⟩ := H
                    replace H : (some t268) = some true := H
                    have A74 := Aside0.mk A740
                    clear A740
                    have hr_ := Aside0.mk (Option.some.inj H)
                    have hnb75 := NB236_242.out
                    have hnc75 := NB242_236.out
                    have hnb76 := NB236_250.out
                    have hnc76 := NB250_236.out
                    have hnb77 := NB236_256.out
                    have hnc77 := NB256_236.out
                    have hnb78 := NB236_266.out
                    have hnc78 := NB266_236.out
                    have hcz79_0 : wc.cell? ⟨gb236, 0, none⟩ = some (.int .i64 a0_0) := (blk_cell BK236.out 0).trans rfl
                    have hcz79_1 : wc.cell? ⟨gb236, 1, none⟩ = some (.slice A0_1 l0_1.length c0_1) := (blk_cell BK236.out 1).trans rfl
                    have hfz79_0 := blk_frozen BK236.out 0
                    have hfz79_1 := blk_frozen BK236.out 1
                    have hnb80 := NB250_242.out
                    have hnc80 := NB242_250.out
                    have hnb81 := NB250_256.out
                    have hnc81 := NB256_250.out
                    have hnb82 := NB250_266.out
                    have hnc82 := NB266_250.out
                    have hcz83_0 : wc.cell? ⟨gb250, 0, none⟩ = some (.int .i64 t244) := (blk_cell BK250.out 0).trans rfl
                    have hcz83_1 : wc.cell? ⟨gb250, 1, none⟩ = some (.slice Ao28 t245.length co28) := (blk_cell BK250.out 1).trans rfl
                    have hfz83_0 := blk_frozen BK250.out 0
                    have hfz83_1 := blk_frozen BK250.out 1
                    go_wp2_with (first | (go_at_call 9; (with_reducible refine (switchboardlaw10_awake.calls kj19  t268 _ A74.out).mono ?_); rintro e w84 ⟨rfl, hb⟩; have n0_ := Aside0.mk (Kd.R_below (by (with_reducible repeat (first | apply Kd.R_alloc | apply Kd.R_drewN | apply Kd.R_drew)); exact HO_243001.out) hb); have n1_ := Aside0.mk (Kd.V_below (by (with_reducible repeat (first | apply Kd.V_alloc | apply Kd.V_drewN | apply Kd.V_drew)); exact HO_251001.out) hb); have n2_ := Aside0.mk (Kd.R_below (by (with_reducible repeat (first | apply Kd.R_alloc | apply Kd.R_drewN | apply Kd.R_drew)); exact HO_257001.out) hb); have n3_ := Aside0.mk (Kd.R_below (by (with_reducible repeat (first | apply Kd.R_alloc | apply Kd.R_drewN | apply Kd.R_drew)); exact HO_267001.out) hb); have n4_ := Aside0.mk (blk_below (g := gb236) (o := .cells #[.int .i64 a0_0, .slice A0_1 l0_1.length c0_1] 24 (0, 0)) (by (with_reducible repeat (first | refine blk_drewN ?_ _ | refine blk_drew ?_ | refine blk_alloc ?_ _)); exact BK236.out) hb); have n5_ := Aside0.mk (blk_below (g := gb242) (o := .cells #[.int .i64 t237, .slice Ao11 t238.length co11] 27 (0, 0)) (by (with_reducible repeat (first | refine blk_drewN ?_ _ | refine blk_drew ?_ | refine blk_alloc ?_ _)); exact BK242.out) hb); have n6_ := Aside0.mk (blk_below (g := gb250) (o := .cells #[.int .i64 t244, .slice Ao28 t245.length co28] 24 (0, 0)) (by (with_reducible repeat (first | refine blk_drewN ?_ _ | refine blk_drew ?_ | refine blk_alloc ?_ _)); exact BK250.out) hb); have n7_ := Aside0.mk (blk_below (g := gb256) (o := .cells #[.int .i64 t251, .slice Ao35 t252.length co35] 27 (0, 0)) (by (with_reducible repeat (first | refine blk_drewN ?_ _ | refine blk_drew ?_ | refine blk_alloc ?_ _)); exact BK256.out) hb); have n8_ := Aside0.mk (blk_below (g := gb266) (o := .cells #[.int .i64 t261, .slice Ao46 t262.length co46] 27 (0, 0)) (by (with_reducible repeat (first | refine blk_drewN ?_ _ | refine blk_drew ?_ | refine blk_alloc ?_ _)); exact BK266.out) hb); have n9_ := Aside0.mk (below_step (by repeat (first | (with_reducible first | exact HB.out | apply below_alloc | apply pw_below_drewN | apply below_drew1 | refine below_set ?_ GE236.out | refine below_set ?_ GE242.out | refine below_set ?_ GE250.out | refine below_set ?_ GE256.out | refine below_set ?_ GE266.out) | exact HB.out)) hb); clear HO_243001; clear HO_251001; clear HO_257001; clear HO_267001; clear BK236; clear BK242; clear BK250; clear BK256; clear BK266; clear HB; have HO_243001 := n0_; have HO_251001 := n1_; have HO_257001 := n2_; have HO_267001 := n3_; have BK236 := n4_; have BK242 := n5_; have BK250 := n6_; have BK256 := n7_; have BK266 := n8_; have HB := n9_; clear n0_ n1_ n2_ n3_ n4_ n5_ n6_ n7_ n8_ n9_; (try clear hb); (try clear hb2); (try clear hk); (try clear hi)))
                    go_ret
                    exact ⟨by first | rfl | exact congrArg (fun b_ => Ending.returned (Value.bool b_)) hr_.out | exact congrArg (fun b_ => Ending.returned (Value.bool b_)) hr_.out | (simp [errW_none, errW_some] <;> rfl) | (simp [*, errW_none, errW_some] <;> rfl), by repeat (first | (with_reducible first | exact HB.out | apply below_alloc | apply pw_below_drewN | apply below_drew1 | refine below_set ?_ GE236.out | refine below_set ?_ GE242.out | refine below_set ?_ GE250.out | refine below_set ?_ GE256.out | refine below_set ?_ GE266.out) | exact HB.out)⟩
                  · rw [if_neg c73] at H
                    have c73b0 : ((t245.length : Int) == (wrap64 ((l0_1.length : Int) + 1))) = false := beq_eq_false_iff_ne.mpr c73
                    have c73b1 : ((t245.length : Int) != (wrap64 ((l0_1.length : Int) + 1))) = true := bne_iff_ne.mpr c73
                    exact absurd H (by simp)
                · rw [if_neg c72] at H
                  have c72b0 : (t248 == a0_0) = false := beq_eq_false_iff_ne.mpr c72
                  have c72b1 : (t248 != a0_0) = true := bne_iff_ne.mpr c72
                  exact absurd H (by simp)
              · rw [if_neg c71] at H
                have c71b0 : (t249 == 0) = false := beq_eq_false_iff_ne.mpr c71
                have c71b1 : (t249 != 0) = true := bne_iff_ne.mpr c71
                exact absurd H (by simp)
            · replace c70 := Bool.eq_false_iff.mpr c70
              subst c70
              have H1 : (switchboardlaw10_LinkWrong.l0 kj19 t248 t249 l0_1 (l0_1.length : Int) 0 t237 t238 t251 t252 t261 t262) = some true := by rw [if_neg (show ¬ (false = true) by decide)] at H; exact H
              clear H
              have H := H1
              clear H1
              have H' := Aside0.mk H
              clear H
              have hnb85 := NB236_242.out
              have hnc85 := NB242_236.out
              have hnb86 := NB236_250.out
              have hnc86 := NB250_236.out
              have hnb87 := NB236_256.out
              have hnc87 := NB256_236.out
              have hnb88 := NB236_266.out
              have hnc88 := NB266_236.out
              have hcz89_0 : wc.cell? ⟨gb236, 0, none⟩ = some (.int .i64 a0_0) := (blk_cell BK236.out 0).trans rfl
              have hcz89_1 : wc.cell? ⟨gb236, 1, none⟩ = some (.slice A0_1 l0_1.length c0_1) := (blk_cell BK236.out 1).trans rfl
              have hfz89_0 := blk_frozen BK236.out 0
              have hfz89_1 := blk_frozen BK236.out 1
              go_wp2
              go_loopg [84] kj19 (fun kq v84 w' => ∃ (x84_3 : Int), v84 = .int .i64 x84_3 ∧ Aside0 (switchboardlaw10_LinkWrong.l0 kq t248 t249 l0_1 (l0_1.length : Int) x84_3 t237 t238 t251 t252 t261 t262 = some true) ∧ Aside0 (kq ≤ kj19) ∧ Aside0 (Kd.R k40 40 w' w.heap.size (fun k_ => some k_ ≠ ((.slice Ao35 t252.length co35) : Value).ownBlock ∧ some k_ ≠ ((.slice Ao46 t262.length co46) : Value).ownBlock) (.slice Ao11 t238.length co11) t238) ∧ Aside0 (Kd.V k45 45 w' w.heap.size (fun k_ => some k_ ≠ ((.slice Ao11 t238.length co11) : Value).ownBlock ∧ some k_ ≠ ((.slice Ao35 t252.length co35) : Value).ownBlock ∧ some k_ ≠ ((.slice Ao46 t262.length co46) : Value).ownBlock ∧ k_ ≠ gb236 ∧ k_ ≠ gb242 ∧ k_ ≠ gb250 ∧ k_ ≠ gb256 ∧ k_ ≠ gb266) (.slice Ao28 t245.length co28) t245) ∧ Aside0 (Kd.R k40 40 w' w.heap.size (fun k_ => some k_ ≠ ((.slice Ao11 t238.length co11) : Value).ownBlock ∧ some k_ ≠ ((.slice Ao46 t262.length co46) : Value).ownBlock) (.slice Ao35 t252.length co35) t252) ∧ Aside0 (Kd.R k40 40 w' w.heap.size (fun k_ => some k_ ≠ ((.slice Ao11 t238.length co11) : Value).ownBlock ∧ some k_ ≠ ((.slice Ao35 t252.length co35) : Value).ownBlock) (.slice Ao46 t262.length co46) t262) ∧ Aside0 (w'.heap[gb236]? = some (.cells #[.int .i64 a0_0, (.slice A0_1 l0_1.length c0_1)] 24 (0, 0))) ∧ Aside0 (w'.heap[gb242]? = some (.cells #[.int .i64 t237, (.slice Ao11 t238.length co11)] 27 (0, 0))) ∧ Aside0 (w'.heap[gb250]? = some (.cells #[.int .i64 t244, (.slice Ao28 t245.length co28)] 24 (0, 0))) ∧ Aside0 (w'.heap[gb256]? = some (.cells #[.int .i64 t251, (.slice Ao35 t252.length co35)] 27 (0, 0))) ∧ Aside0 (w'.heap[gb266]? = some (.cells #[.int .i64 t261, (.slice Ao46 t262.length co46)] 27 (0, 0))) ∧ Aside0 (Below w.heap.size w w'))
              case atStart => exact ⟨(0), (by first | rfl | (simp; done) | (simp [*]; done)), H', ⟨Nat.le_refl _⟩, ⟨by (with_reducible repeat (first | apply Kd.R_alloc | apply Kd.R_drewN | apply Kd.R_drew)); exact HO_243001.out⟩, ⟨by (with_reducible repeat (first | apply Kd.V_alloc | apply Kd.V_drewN | apply Kd.V_drew)); exact HO_251001.out⟩, ⟨by (with_reducible repeat (first | apply Kd.R_alloc | apply Kd.R_drewN | apply Kd.R_drew)); exact HO_257001.out⟩, ⟨by (with_reducible repeat (first | apply Kd.R_alloc | apply Kd.R_drewN | apply Kd.R_drew)); exact HO_267001.out⟩, ⟨by (with_reducible repeat (first | refine blk_drewN ?_ _ | refine blk_drew ?_ | refine blk_alloc ?_ _)); exact BK236.out⟩, ⟨by (with_reducible repeat (first | refine blk_drewN ?_ _ | refine blk_drew ?_ | refine blk_alloc ?_ _)); exact BK242.out⟩, ⟨by (with_reducible repeat (first | refine blk_drewN ?_ _ | refine blk_drew ?_ | refine blk_alloc ?_ _)); exact BK250.out⟩, ⟨by (with_reducible repeat (first | refine blk_drewN ?_ _ | refine blk_drew ?_ | refine blk_alloc ?_ _)); exact BK256.out⟩, ⟨by (with_reducible repeat (first | refine blk_drewN ?_ _ | refine blk_drew ?_ | refine blk_alloc ?_ _)); exact BK266.out⟩, ⟨by repeat (first | (with_reducible first | exact HB.out | apply below_alloc | apply pw_below_drewN | apply below_drew1 | refine below_set ?_ GE236.out | refine below_set ?_ GE242.out | refine below_set ?_ GE250.out | refine below_set ?_ GE256.out | refine below_set ?_ GE266.out) | exact HB.out)⟩⟩
              case round =>
                clear H'
                try clear c1
                try clear c2
                try clear p2
                try clear c3
                try clear c4
                try clear c5
                try clear c6
                try clear p6
                try clear c7
                try clear c8
                try clear c9
                try clear c10
                try clear c11
                try clear c12
                try clear c13
                try clear c14
                try clear c21
                try clear c25
                try clear c26
                try clear c31
                try clear c32
                try clear c33
                try clear c41
                try clear c42
                try clear c43
                try clear c44
                try clear c48
                try clear c49
                try clear c49b0
                try clear c49b1
                try clear c50
                try clear c51
                try clear c52
                try clear c53
                try clear c57
                try clear c58
                try clear c59
                try clear c60
                try clear c64
                try clear p64
                try clear c65
                try clear c66
                try clear c67
                try clear c70
                try clear c71
                try clear c71b0
                try clear c71b1
                try clear c72
                try clear c72b0
                try clear c72b1
                try clear c73
                try clear c73b0
                try clear c73b1
                try clear c75
                try clear c76
                try clear c77
                try clear c78
                try clear c80
                try clear c81
                try clear c82
                try clear c85
                try clear c86
                try clear c87
                try clear c88
                try clear hcz10_0
                try clear hcz10_1
                try clear hcz22_0
                try clear hcz22_1
                try clear hcz27_0
                try clear hcz27_1
                try clear hcz34_0
                try clear hcz34_1
                try clear hcz36_0
                try clear hcz36_1
                try clear hcz45_0
                try clear hcz45_1
                try clear hcz54_0
                try clear hcz54_1
                try clear hcz56_0
                try clear hcz56_1
                try clear hcz61_0
                try clear hcz61_1
                try clear hcz63_0
                try clear hcz63_1
                try clear hcz68_0
                try clear hcz68_1
                try clear hcz6_0
                try clear hcz6_1
                try clear hcz79_0
                try clear hcz79_1
                try clear hcz83_0
                try clear hcz83_1
                try clear hcz89_0
                try clear hcz89_1
                try clear hfz10_0
                try clear hfz10_1
                try clear hfz22_0
                try clear hfz22_1
                try clear hfz27_0
                try clear hfz27_1
                try clear hfz34_0
                try clear hfz34_1
                try clear hfz36_0
                try clear hfz36_1
                try clear hfz45_0
                try clear hfz45_1
                try clear hfz54_0
                try clear hfz54_1
                try clear hfz56_0
                try clear hfz56_1
                try clear hfz61_0
                try clear hfz61_1
                try clear hfz63_0
                try clear hfz63_1
                try clear hfz68_0
                try clear hfz68_1
                try clear hfz6_0
                try clear hfz6_1
                try clear hfz79_0
                try clear hfz79_1
                try clear hfz83_0
                try clear hfz83_1
                try clear hfz89_0
                try clear hfz89_1
                try clear p2
                obtain ⟨x84_3, rfl, HA, HK3, HO_243001, HO_251001, HO_257001, HO_267001, BK236, BK242, BK250, BK256, BK266, HB⟩ := hrel
                cases gk with
                | zero => exact absurd HA.out (by simp [switchboardlaw10_LinkWrong.l0])
                | succ k3 =>
                  have H := HA.out
                  clear HA
                  simp only [switchboardlaw10_LinkWrong.l0] at H
                  by_cases c90 : x84_3 < (l0_1.length : Int)
                  · rw [if_pos c90] at H
                    have c90b0 : decide (x84_3 < (l0_1.length : Int)) = true := decide_eq_true c90
                    clear c90
                    by_cases c91 : 0 ≤ x84_3
                    · rw [if_pos c91] at H
                      have c91b0 : decide (0 ≤ x84_3) = true := decide_eq_true c91
                      clear c91
                      by_cases c92 : x84_3 < (l0_1.length : Int)
                      · rw [if_pos c92] at H
                        have c92b0 : decide (x84_3 < (l0_1.length : Int)) = true := decide_eq_true c92
                        clear c92
                        by_cases c93 : ((rd_T45 l0_1 x84_3).f0) = (-1)
                        · rw [if_pos c93] at H
                          have c93b0 : (((rd_T45 l0_1 x84_3).f0) == (-1)) = true := beq_iff_eq.mpr c93
                          have c93b1 : (((rd_T45 l0_1 x84_3).f0) != (-1)) = false := bne_eq_false_iff_eq.mpr c93
                          clear c93
                          by_cases c94 : t249 = 0
                          · rw [if_pos c94] at H
                            have c94b0 : (t249 == 0) = true := beq_iff_eq.mpr c94
                            have c94b1 : (t249 != 0) = false := bne_eq_false_iff_eq.mpr c94
                            clear c94
                            exact absurd H (by simp)
                          · rw [if_neg c94] at H
                            have c94b0 : (t249 == 0) = false := beq_eq_false_iff_ne.mpr c94
                            have c94b1 : (t249 != 0) = true := bne_iff_ne.mpr c94
                            replace H := Option.bind_eq_some_iff.mp H
                            obtain ⟨t271, A950, H⟩ := H
                            replace H : (some t271) = some true := H
                            have A95 := Aside0.mk A950
                            clear A950
                            have hr_ := Aside0.mk (Option.some.inj H)
                            have p269 : 0 ≤ (x84_3 : Int) := of_decide_eq_true (by first | (with_reducible assumption) | assumption)
                            have q269 : x84_3 < (l0_1.length : Int) := of_decide_eq_true (by first | (with_reducible assumption) | assumption)
                            obtain ⟨ad269, e269, hx269_0, hx269_1⟩ := at_T45 HR0_1.out x84_3 p269 q269
                            cases e269
                            replace hx269_0 := (HB.out.cell (World.block_lt_of_cell? w _ hx269_0)).trans hx269_0
                            replace hx269_1 := (HB.out.cell (World.block_lt_of_cell? w _ hx269_1)).trans hx269_1
                            replace p269 := eq_true p269
                            replace q269 := eq_true q269
                            go_wp2_with (first | ((with_reducible refine gate_dst (N := 15) rfl ?_); (try (refine gate_guard (by rfl) ?_; dsimp only)); refine box_event ?hg (N := 15) ?hd (cs := #[.int .i64 0, .string (⟨#[]⟩ : ByteArray)]) (t := 45) ?hr ?_; (case hd => rfl); (case hg => rfl); (case hr => first | (go_simp; done) | (go_simp; rfl)); intro gb270 hg w96 hbox hb; have n0_ := Aside0.mk (Kd.R_below (by (with_reducible repeat (first | apply Kd.R_alloc | apply Kd.R_drewN | apply Kd.R_drew)); exact HO_243001.out) hb); have n1_ := Aside0.mk (Kd.V_below (Kd.V_elderB (by (with_reducible repeat (first | apply Kd.V_alloc | apply Kd.V_drewN | apply Kd.V_drew)); exact HO_251001.out) gb270 (Nat.le_of_eq hg.symm)) hb); have n2_ := Aside0.mk (Kd.R_below (by (with_reducible repeat (first | apply Kd.R_alloc | apply Kd.R_drewN | apply Kd.R_drew)); exact HO_257001.out) hb); have n3_ := Aside0.mk (Kd.R_below (by (with_reducible repeat (first | apply Kd.R_alloc | apply Kd.R_drewN | apply Kd.R_drew)); exact HO_267001.out) hb); have n4_ := Aside0.mk (blk_below (g := gb236) (o := .cells #[.int .i64 a0_0, .slice (some ad269) l0_1.length c0_1] 24 (0, 0)) (by (with_reducible repeat (first | refine blk_drewN ?_ _ | refine blk_drew ?_ | refine blk_alloc ?_ _)); exact BK236.out) hb); have n5_ := Aside0.mk (blk_below (g := gb242) (o := .cells #[.int .i64 t237, .slice Ao11 t238.length co11] 27 (0, 0)) (by (with_reducible repeat (first | refine blk_drewN ?_ _ | refine blk_drew ?_ | refine blk_alloc ?_ _)); exact BK242.out) hb); have n6_ := Aside0.mk (blk_below (g := gb250) (o := .cells #[.int .i64 t244, .slice Ao28 t245.length co28] 24 (0, 0)) (by (with_reducible repeat (first | refine blk_drewN ?_ _ | refine blk_drew ?_ | refine blk_alloc ?_ _)); exact BK250.out) hb); have n7_ := Aside0.mk (blk_below (g := gb256) (o := .cells #[.int .i64 t251, .slice Ao35 t252.length co35] 27 (0, 0)) (by (with_reducible repeat (first | refine blk_drewN ?_ _ | refine blk_drew ?_ | refine blk_alloc ?_ _)); exact BK256.out) hb); have n8_ := Aside0.mk (blk_below (g := gb266) (o := .cells #[.int .i64 t261, .slice Ao46 t262.length co46] 27 (0, 0)) (by (with_reducible repeat (first | refine blk_drewN ?_ _ | refine blk_drew ?_ | refine blk_alloc ?_ _)); exact BK266.out) hb); have n9_ := Aside0.mk (below_step (by repeat (first | (with_reducible first | exact HB.out | apply below_alloc | apply pw_below_drewN | apply below_drew1 | refine below_set ?_ GE236.out | refine below_set ?_ GE242.out | refine below_set ?_ GE250.out | refine below_set ?_ GE256.out | refine below_set ?_ GE266.out) | exact HB.out)) hb); have n10_ := Aside0.mk (hbox); have n11_ := Aside0.mk ((by rw [hg]; exact (below_size (by repeat (first | (with_reducible first | exact HB.out | apply below_alloc | apply pw_below_drewN | apply below_drew1 | refine below_set ?_ GE236.out | refine below_set ?_ GE242.out | refine below_set ?_ GE250.out | refine below_set ?_ GE256.out | refine below_set ?_ GE266.out) | exact HB.out))) : w.heap.size ≤ gb270)); have n12_ := Aside0.mk ((by rw [hg]; exact (below_size (by repeat (first | (with_reducible first | exact HB.out | apply below_alloc | apply pw_below_drewN | apply below_drew1 | refine below_set ?_ GE236.out | refine below_set ?_ GE242.out | refine below_set ?_ GE250.out | refine below_set ?_ GE256.out | refine below_set ?_ GE266.out) | exact HB.out))) : w.heap.size ≤ gb270)); have n13_ := Aside0.mk ((by rw [hg]; exact Nat.ne_of_lt (blk_lt (g := gb236) (o := .cells #[.int .i64 a0_0, .slice (some ad269) l0_1.length c0_1] 24 (0, 0)) (by (with_reducible repeat (first | refine blk_drewN ?_ _ | refine blk_drew ?_ | refine blk_alloc ?_ _)); exact BK236.out)) : gb236 ≠ gb270)); have n14_ := Aside0.mk ((by rw [hg]; exact Nat.ne_of_gt (blk_lt (g := gb236) (o := .cells #[.int .i64 a0_0, .slice (some ad269) l0_1.length c0_1] 24 (0, 0)) (by (with_reducible repeat (first | refine blk_drewN ?_ _ | refine blk_drew ?_ | refine blk_alloc ?_ _)); exact BK236.out)) : gb270 ≠ gb236)); have n15_ := Aside0.mk ((by rw [hg]; exact Nat.ne_of_lt (blk_lt (g := gb242) (o := .cells #[.int .i64 t237, .slice Ao11 t238.length co11] 27 (0, 0)) (by (with_reducible repeat (first | refine blk_drewN ?_ _ | refine blk_drew ?_ | refine blk_alloc ?_ _)); exact BK242.out)) : gb242 ≠ gb270)); have n16_ := Aside0.mk ((by rw [hg]; exact Nat.ne_of_gt (blk_lt (g := gb242) (o := .cells #[.int .i64 t237, .slice Ao11 t238.length co11] 27 (0, 0)) (by (with_reducible repeat (first | refine blk_drewN ?_ _ | refine blk_drew ?_ | refine blk_alloc ?_ _)); exact BK242.out)) : gb270 ≠ gb242)); have n17_ := Aside0.mk ((by rw [hg]; exact Nat.ne_of_lt (blk_lt (g := gb250) (o := .cells #[.int .i64 t244, .slice Ao28 t245.length co28] 24 (0, 0)) (by (with_reducible repeat (first | refine blk_drewN ?_ _ | refine blk_drew ?_ | refine blk_alloc ?_ _)); exact BK250.out)) : gb250 ≠ gb270)); have n18_ := Aside0.mk ((by rw [hg]; exact Nat.ne_of_gt (blk_lt (g := gb250) (o := .cells #[.int .i64 t244, .slice Ao28 t245.length co28] 24 (0, 0)) (by (with_reducible repeat (first | refine blk_drewN ?_ _ | refine blk_drew ?_ | refine blk_alloc ?_ _)); exact BK250.out)) : gb270 ≠ gb250)); have n19_ := Aside0.mk ((by rw [hg]; exact Nat.ne_of_lt (blk_lt (g := gb256) (o := .cells #[.int .i64 t251, .slice Ao35 t252.length co35] 27 (0, 0)) (by (with_reducible repeat (first | refine blk_drewN ?_ _ | refine blk_drew ?_ | refine blk_alloc ?_ _)); exact BK256.out)) : gb256 ≠ gb270)); have n20_ := Aside0.mk ((by rw [hg]; exact Nat.ne_of_gt (blk_lt (g := gb256) (o := .cells #[.int .i64 t251, .slice Ao35 t252.length co35] 27 (0, 0)) (by (with_reducible repeat (first | refine blk_drewN ?_ _ | refine blk_drew ?_ | refine blk_alloc ?_ _)); exact BK256.out)) : gb270 ≠ gb256)); have n21_ := Aside0.mk ((by rw [hg]; exact Nat.ne_of_lt (blk_lt (g := gb266) (o := .cells #[.int .i64 t261, .slice Ao46 t262.length co46] 27 (0, 0)) (by (with_reducible repeat (first | refine blk_drewN ?_ _ | refine blk_drew ?_ | refine blk_alloc ?_ _)); exact BK266.out)) : gb266 ≠ gb270)); have n22_ := Aside0.mk ((by rw [hg]; exact Nat.ne_of_gt (blk_lt (g := gb266) (o := .cells #[.int .i64 t261, .slice Ao46 t262.length co46] 27 (0, 0)) (by (with_reducible repeat (first | refine blk_drewN ?_ _ | refine blk_drew ?_ | refine blk_alloc ?_ _)); exact BK266.out)) : gb270 ≠ gb266)); clear HO_243001; clear HO_251001; clear HO_257001; clear HO_267001; clear BK236; clear BK242; clear BK250; clear BK256; clear BK266; clear HB; have HO_243001 := n0_; have HO_251001 := n1_; have HO_257001 := n2_; have HO_267001 := n3_; have BK236 := n4_; have BK242 := n5_; have BK250 := n6_; have BK256 := n7_; have BK266 := n8_; have HB := n9_; have BK270 := n10_; have GW270 := n11_; have GE270 := n12_; have NB236_270 := n13_; have NB270_236 := n14_; have NB242_270 := n15_; have NB270_242 := n16_; have NB250_270 := n17_; have NB270_250 := n18_; have NB256_270 := n19_; have NB270_256 := n20_; have NB266_270 := n21_; have NB270_266 := n22_; clear n0_ n1_ n2_ n3_ n4_ n5_ n6_ n7_ n8_ n9_ n10_ n11_ n12_ n13_ n14_ n15_ n16_ n17_ n18_ n19_ n20_ n21_ n22_; clear hb hbox hg; have hnb97 := NB270_236.out; have hnc97 := NB236_270.out; have hnb98 := NB270_242.out; have hnc98 := NB242_270.out; have hnb99 := NB270_250.out; have hnc99 := NB250_270.out; have hnb100 := NB270_256.out; have hnc100 := NB256_270.out; have hnb101 := NB270_266.out; have hnc101 := NB266_270.out; have hcz102_0 : w96.cell? ⟨gb270, 0, none⟩ = some (.int .i64 0) := (blk_cell BK270.out 0).trans rfl; have hcz102_1 : w96.cell? ⟨gb270, 1, none⟩ = some (.string (⟨#[]⟩ : ByteArray)) := (blk_cell BK270.out 1).trans rfl; have hfz102_0 := blk_frozen BK270.out 0; have hfz102_1 := blk_frozen BK270.out 1) | (go_at_call 9; (with_reducible refine (switchboardlaw10_awake.calls k3  t271 _ A95.out).mono ?_); rintro e w103 ⟨rfl, hb⟩; have n0_ := Aside0.mk (Kd.R_below (by (with_reducible repeat (first | apply Kd.R_alloc | apply Kd.R_drewN | apply Kd.R_drew)); exact (Kd.R_mono (Kd.R_far (p := ⟨gb270, 1, none⟩) (Kd.R_far (p := ⟨gb270, 0, none⟩) (Kd.R_types HO_243001.out BK270.out (by decide)) (fun _ hk => hk.2) (.int .i64 ((rd_T45 l0_1 x84_3).f0))) (fun _ hk => hk.2) (.string ((rd_T45 l0_1 x84_3).f1))) (fun _ h_ => h_.1))) hb); have n1_ := Aside0.mk (Kd.V_below (by (with_reducible repeat (first | apply Kd.V_alloc | apply Kd.V_drewN | apply Kd.V_drew)); exact (Kd.V_mono (Kd.V_far (p := ⟨gb270, 1, none⟩) (Kd.V_far (p := ⟨gb270, 0, none⟩) (Kd.V_mono HO_251001.out (fun k_ hk => (⟨hk, hk.2⟩ : _ ∧ k_ ≠ gb270))) (fun _ hk => hk.2) (.int .i64 ((rd_T45 l0_1 x84_3).f0))) (fun _ hk => hk.2) (.string ((rd_T45 l0_1 x84_3).f1))) (fun _ h_ => h_.1))) hb); have n2_ := Aside0.mk (Kd.R_below (by (with_reducible repeat (first | apply Kd.R_alloc | apply Kd.R_drewN | apply Kd.R_drew)); exact (Kd.R_mono (Kd.R_far (p := ⟨gb270, 1, none⟩) (Kd.R_far (p := ⟨gb270, 0, none⟩) (Kd.R_types HO_257001.out BK270.out (by decide)) (fun _ hk => hk.2) (.int .i64 ((rd_T45 l0_1 x84_3).f0))) (fun _ hk => hk.2) (.string ((rd_T45 l0_1 x84_3).f1))) (fun _ h_ => h_.1))) hb); have n3_ := Aside0.mk (Kd.R_below (by (with_reducible repeat (first | apply Kd.R_alloc | apply Kd.R_drewN | apply Kd.R_drew)); exact (Kd.R_mono (Kd.R_far (p := ⟨gb270, 1, none⟩) (Kd.R_far (p := ⟨gb270, 0, none⟩) (Kd.R_types HO_267001.out BK270.out (by decide)) (fun _ hk => hk.2) (.int .i64 ((rd_T45 l0_1 x84_3).f0))) (fun _ hk => hk.2) (.string ((rd_T45 l0_1 x84_3).f1))) (fun _ h_ => h_.1))) hb); have n4_ := Aside0.mk (blk_below (g := gb236) (o := .cells #[.int .i64 a0_0, .slice (some ad269) l0_1.length c0_1] 24 (0, 0)) (by (with_reducible repeat (first | refine blk_drewN ?_ _ | refine blk_drew ?_ | refine blk_alloc ?_ _)); refine blk_far ?_ NB236_270.out _; (with_reducible repeat (first | refine blk_drewN ?_ _ | refine blk_drew ?_ | refine blk_alloc ?_ _)); refine blk_far ?_ NB236_270.out _; (with_reducible repeat (first | refine blk_drewN ?_ _ | refine blk_drew ?_ | refine blk_alloc ?_ _)); exact BK236.out) hb); have n5_ := Aside0.mk (blk_below (g := gb242) (o := .cells #[.int .i64 t237, .slice Ao11 t238.length co11] 27 (0, 0)) (by (with_reducible repeat (first | refine blk_drewN ?_ _ | refine blk_drew ?_ | refine blk_alloc ?_ _)); refine blk_far ?_ NB242_270.out _; (with_reducible repeat (first | refine blk_drewN ?_ _ | refine blk_drew ?_ | refine blk_alloc ?_ _)); refine blk_far ?_ NB242_270.out _; (with_reducible repeat (first | refine blk_drewN ?_ _ | refine blk_drew ?_ | refine blk_alloc ?_ _)); exact BK242.out) hb); have n6_ := Aside0.mk (blk_below (g := gb250) (o := .cells #[.int .i64 t244, .slice Ao28 t245.length co28] 24 (0, 0)) (by (with_reducible repeat (first | refine blk_drewN ?_ _ | refine blk_drew ?_ | refine blk_alloc ?_ _)); refine blk_far ?_ NB250_270.out _; (with_reducible repeat (first | refine blk_drewN ?_ _ | refine blk_drew ?_ | refine blk_alloc ?_ _)); refine blk_far ?_ NB250_270.out _; (with_reducible repeat (first | refine blk_drewN ?_ _ | refine blk_drew ?_ | refine blk_alloc ?_ _)); exact BK250.out) hb); have n7_ := Aside0.mk (blk_below (g := gb256) (o := .cells #[.int .i64 t251, .slice Ao35 t252.length co35] 27 (0, 0)) (by (with_reducible repeat (first | refine blk_drewN ?_ _ | refine blk_drew ?_ | refine blk_alloc ?_ _)); refine blk_far ?_ NB256_270.out _; (with_reducible repeat (first | refine blk_drewN ?_ _ | refine blk_drew ?_ | refine blk_alloc ?_ _)); refine blk_far ?_ NB256_270.out _; (with_reducible repeat (first | refine blk_drewN ?_ _ | refine blk_drew ?_ | refine blk_alloc ?_ _)); exact BK256.out) hb); have n8_ := Aside0.mk (blk_below (g := gb266) (o := .cells #[.int .i64 t261, .slice Ao46 t262.length co46] 27 (0, 0)) (by (with_reducible repeat (first | refine blk_drewN ?_ _ | refine blk_drew ?_ | refine blk_alloc ?_ _)); refine blk_far ?_ NB266_270.out _; (with_reducible repeat (first | refine blk_drewN ?_ _ | refine blk_drew ?_ | refine blk_alloc ?_ _)); refine blk_far ?_ NB266_270.out _; (with_reducible repeat (first | refine blk_drewN ?_ _ | refine blk_drew ?_ | refine blk_alloc ?_ _)); exact BK266.out) hb); have n9_ := Aside0.mk (blk_below (g := gb270) (o := .cells #[.int .i64 ((rd_T45 l0_1 x84_3).f0), .string ((rd_T45 l0_1 x84_3).f1)] 45 (0, 0)) (by (with_reducible repeat (first | refine blk_drewN ?_ _ | refine blk_drew ?_ | refine blk_alloc ?_ _)); refine blk_put (cs := #[.int .i64 ((rd_T45 l0_1 x84_3).f0), .string (⟨#[]⟩ : ByteArray)]) ?_ 1 _ rfl; (with_reducible repeat (first | refine blk_drewN ?_ _ | refine blk_drew ?_ | refine blk_alloc ?_ _)); refine blk_put (cs := #[.int .i64 0, .string (⟨#[]⟩ : ByteArray)]) ?_ 0 _ rfl; (with_reducible repeat (first | refine blk_drewN ?_ _ | refine blk_drew ?_ | refine blk_alloc ?_ _)); exact BK270.out) hb); have n10_ := Aside0.mk (below_step (by repeat (first | (with_reducible first | exact HB.out | apply below_alloc | apply pw_below_drewN | apply below_drew1 | refine below_set ?_ GE236.out | refine below_set ?_ GE242.out | refine below_set ?_ GE250.out | refine below_set ?_ GE256.out | refine below_set ?_ GE266.out | refine below_set ?_ GE270.out) | exact HB.out)) hb); clear HO_243001; clear HO_251001; clear HO_257001; clear HO_267001; clear BK236; clear BK242; clear BK250; clear BK256; clear BK266; clear BK270; clear HB; have HO_243001 := n0_; have HO_251001 := n1_; have HO_257001 := n2_; have HO_267001 := n3_; have BK236 := n4_; have BK242 := n5_; have BK250 := n6_; have BK256 := n7_; have BK266 := n8_; have BK270 := n9_; have HB := n10_; clear n0_ n1_ n2_ n3_ n4_ n5_ n6_ n7_ n8_ n9_ n10_; (try clear hb); (try clear hb2); (try clear hk); (try clear hi)))
                            go_ret
                            exact ⟨by first | rfl | exact congrArg (fun b_ => Ending.returned (Value.bool b_)) hr_.out | exact congrArg (fun b_ => Ending.returned (Value.bool b_)) hr_.out | (simp [errW_none, errW_some] <;> rfl) | (simp [*, errW_none, errW_some] <;> rfl), by repeat (first | (with_reducible first | exact HB.out | apply below_alloc | apply pw_below_drewN | apply below_drew1 | refine below_set ?_ GE236.out | refine below_set ?_ GE242.out | refine below_set ?_ GE250.out | refine below_set ?_ GE256.out | refine below_set ?_ GE266.out | refine below_set ?_ GE270.out) | exact HB.out)⟩
                        · rw [if_neg c93] at H
                          have c93b0 : (((rd_T45 l0_1 x84_3).f0) == (-1)) = false := beq_eq_false_iff_ne.mpr c93
                          have c93b1 : (((rd_T45 l0_1 x84_3).f0) != (-1)) = true := bne_iff_ne.mpr c93
                          have H' := Aside0.mk H
                          clear H
                          have p269 : 0 ≤ (x84_3 : Int) := of_decide_eq_true (by first | (with_reducible assumption) | assumption)
                          have q269 : x84_3 < (l0_1.length : Int) := of_decide_eq_true (by first | (with_reducible assumption) | assumption)
                          obtain ⟨ad269, e269, hx269_0, hx269_1⟩ := at_T45 HR0_1.out x84_3 p269 q269
                          cases e269
                          replace hx269_0 := (HB.out.cell (World.block_lt_of_cell? w _ hx269_0)).trans hx269_0
                          replace hx269_1 := (HB.out.cell (World.block_lt_of_cell? w _ hx269_1)).trans hx269_1
                          replace p269 := eq_true p269
                          replace q269 := eq_true q269
                          go_wp2_with (first | ((with_reducible refine gate_dst (N := 15) rfl ?_); (try (refine gate_guard (by rfl) ?_; dsimp only)); refine box_event ?hg (N := 15) ?hd (cs := #[.int .i64 0, .string (⟨#[]⟩ : ByteArray)]) (t := 45) ?hr ?_; (case hd => rfl); (case hg => rfl); (case hr => first | (go_simp; done) | (go_simp; rfl)); intro gb270 hg w104 hbox hb; have n0_ := Aside0.mk (Kd.R_below (by (with_reducible repeat (first | apply Kd.R_alloc | apply Kd.R_drewN | apply Kd.R_drew)); exact HO_243001.out) hb); have n1_ := Aside0.mk (Kd.V_below (Kd.V_elderB (by (with_reducible repeat (first | apply Kd.V_alloc | apply Kd.V_drewN | apply Kd.V_drew)); exact HO_251001.out) gb270 (Nat.le_of_eq hg.symm)) hb); have n2_ := Aside0.mk (Kd.R_below (by (with_reducible repeat (first | apply Kd.R_alloc | apply Kd.R_drewN | apply Kd.R_drew)); exact HO_257001.out) hb); have n3_ := Aside0.mk (Kd.R_below (by (with_reducible repeat (first | apply Kd.R_alloc | apply Kd.R_drewN | apply Kd.R_drew)); exact HO_267001.out) hb); have n4_ := Aside0.mk (blk_below (g := gb236) (o := .cells #[.int .i64 a0_0, .slice (some ad269) l0_1.length c0_1] 24 (0, 0)) (by (with_reducible repeat (first | refine blk_drewN ?_ _ | refine blk_drew ?_ | refine blk_alloc ?_ _)); exact BK236.out) hb); have n5_ := Aside0.mk (blk_below (g := gb242) (o := .cells #[.int .i64 t237, .slice Ao11 t238.length co11] 27 (0, 0)) (by (with_reducible repeat (first | refine blk_drewN ?_ _ | refine blk_drew ?_ | refine blk_alloc ?_ _)); exact BK242.out) hb); have n6_ := Aside0.mk (blk_below (g := gb250) (o := .cells #[.int .i64 t244, .slice Ao28 t245.length co28] 24 (0, 0)) (by (with_reducible repeat (first | refine blk_drewN ?_ _ | refine blk_drew ?_ | refine blk_alloc ?_ _)); exact BK250.out) hb); have n7_ := Aside0.mk (blk_below (g := gb256) (o := .cells #[.int .i64 t251, .slice Ao35 t252.length co35] 27 (0, 0)) (by (with_reducible repeat (first | refine blk_drewN ?_ _ | refine blk_drew ?_ | refine blk_alloc ?_ _)); exact BK256.out) hb); have n8_ := Aside0.mk (blk_below (g := gb266) (o := .cells #[.int .i64 t261, .slice Ao46 t262.length co46] 27 (0, 0)) (by (with_reducible repeat (first | refine blk_drewN ?_ _ | refine blk_drew ?_ | refine blk_alloc ?_ _)); exact BK266.out) hb); have n9_ := Aside0.mk (below_step (by repeat (first | (with_reducible first | exact HB.out | apply below_alloc | apply pw_below_drewN | apply below_drew1 | refine below_set ?_ GE236.out | refine below_set ?_ GE242.out | refine below_set ?_ GE250.out | refine below_set ?_ GE256.out | refine below_set ?_ GE266.out) | exact HB.out)) hb); have n10_ := Aside0.mk (hbox); have n11_ := Aside0.mk ((by rw [hg]; exact (below_size (by repeat (first | (with_reducible first | exact HB.out | apply below_alloc | apply pw_below_drewN | apply below_drew1 | refine below_set ?_ GE236.out | refine below_set ?_ GE242.out | refine below_set ?_ GE250.out | refine below_set ?_ GE256.out | refine below_set ?_ GE266.out) | exact HB.out))) : w.heap.size ≤ gb270)); have n12_ := Aside0.mk ((by rw [hg]; exact (below_size (by repeat (first | (with_reducible first | exact HB.out | apply below_alloc | apply pw_below_drewN | apply below_drew1 | refine below_set ?_ GE236.out | refine below_set ?_ GE242.out | refine below_set ?_ GE250.out | refine below_set ?_ GE256.out | refine below_set ?_ GE266.out) | exact HB.out))) : w.heap.size ≤ gb270)); have n13_ := Aside0.mk ((by rw [hg]; exact Nat.ne_of_lt (blk_lt (g := gb236) (o := .cells #[.int .i64 a0_0, .slice (some ad269) l0_1.length c0_1] 24 (0, 0)) (by (with_reducible repeat (first | refine blk_drewN ?_ _ | refine blk_drew ?_ | refine blk_alloc ?_ _)); exact BK236.out)) : gb236 ≠ gb270)); have n14_ := Aside0.mk ((by rw [hg]; exact Nat.ne_of_gt (blk_lt (g := gb236) (o := .cells #[.int .i64 a0_0, .slice (some ad269) l0_1.length c0_1] 24 (0, 0)) (by (with_reducible repeat (first | refine blk_drewN ?_ _ | refine blk_drew ?_ | refine blk_alloc ?_ _)); exact BK236.out)) : gb270 ≠ gb236)); have n15_ := Aside0.mk ((by rw [hg]; exact Nat.ne_of_lt (blk_lt (g := gb242) (o := .cells #[.int .i64 t237, .slice Ao11 t238.length co11] 27 (0, 0)) (by (with_reducible repeat (first | refine blk_drewN ?_ _ | refine blk_drew ?_ | refine blk_alloc ?_ _)); exact BK242.out)) : gb242 ≠ gb270)); have n16_ := Aside0.mk ((by rw [hg]; exact Nat.ne_of_gt (blk_lt (g := gb242) (o := .cells #[.int .i64 t237, .slice Ao11 t238.length co11] 27 (0, 0)) (by (with_reducible repeat (first | refine blk_drewN ?_ _ | refine blk_drew ?_ | refine blk_alloc ?_ _)); exact BK242.out)) : gb270 ≠ gb242)); have n17_ := Aside0.mk ((by rw [hg]; exact Nat.ne_of_lt (blk_lt (g := gb250) (o := .cells #[.int .i64 t244, .slice Ao28 t245.length co28] 24 (0, 0)) (by (with_reducible repeat (first | refine blk_drewN ?_ _ | refine blk_drew ?_ | refine blk_alloc ?_ _)); exact BK250.out)) : gb250 ≠ gb270)); have n18_ := Aside0.mk ((by rw [hg]; exact Nat.ne_of_gt (blk_lt (g := gb250) (o := .cells #[.int .i64 t244, .slice Ao28 t245.length co28] 24 (0, 0)) (by (with_reducible repeat (first | refine blk_drewN ?_ _ | refine blk_drew ?_ | refine blk_alloc ?_ _)); exact BK250.out)) : gb270 ≠ gb250)); have n19_ := Aside0.mk ((by rw [hg]; exact Nat.ne_of_lt (blk_lt (g := gb256) (o := .cells #[.int .i64 t251, .slice Ao35 t252.length co35] 27 (0, 0)) (by (with_reducible repeat (first | refine blk_drewN ?_ _ | refine blk_drew ?_ | refine blk_alloc ?_ _)); exact BK256.out)) : gb256 ≠ gb270)); have n20_ := Aside0.mk ((by rw [hg]; exact Nat.ne_of_gt (blk_lt (g := gb256) (o := .cells #[.int .i64 t251, .slice Ao35 t252.length co35] 27 (0, 0)) (by (with_reducible repeat (first | refine blk_drewN ?_ _ | refine blk_drew ?_ | refine blk_alloc ?_ _)); exact BK256.out)) : gb270 ≠ gb256)); have n21_ := Aside0.mk ((by rw [hg]; exact Nat.ne_of_lt (blk_lt (g := gb266) (o := .cells #[.int .i64 t261, .slice Ao46 t262.length co46] 27 (0, 0)) (by (with_reducible repeat (first | refine blk_drewN ?_ _ | refine blk_drew ?_ | refine blk_alloc ?_ _)); exact BK266.out)) : gb266 ≠ gb270)); have n22_ := Aside0.mk ((by rw [hg]; exact Nat.ne_of_gt (blk_lt (g := gb266) (o := .cells #[.int .i64 t261, .slice Ao46 t262.length co46] 27 (0, 0)) (by (with_reducible repeat (first | refine blk_drewN ?_ _ | refine blk_drew ?_ | refine blk_alloc ?_ _)); exact BK266.out)) : gb270 ≠ gb266)); clear HO_243001; clear HO_251001; clear HO_257001; clear HO_267001; clear BK236; clear BK242; clear BK250; clear BK256; clear BK266; clear HB; have HO_243001 := n0_; have HO_251001 := n1_; have HO_257001 := n2_; have HO_267001 := n3_; have BK236 := n4_; have BK242 := n5_; have BK250 := n6_; have BK256 := n7_; have BK266 := n8_; have HB := n9_; have BK270 := n10_; have GW270 := n11_; have GE270 := n12_; have NB236_270 := n13_; have NB270_236 := n14_; have NB242_270 := n15_; have NB270_242 := n16_; have NB250_270 := n17_; have NB270_250 := n18_; have NB256_270 := n19_; have NB270_256 := n20_; have NB266_270 := n21_; have NB270_266 := n22_; clear n0_ n1_ n2_ n3_ n4_ n5_ n6_ n7_ n8_ n9_ n10_ n11_ n12_ n13_ n14_ n15_ n16_ n17_ n18_ n19_ n20_ n21_ n22_; clear hb hbox hg; have hnb105 := NB270_236.out; have hnc105 := NB236_270.out; have hnb106 := NB270_242.out; have hnc106 := NB242_270.out; have hnb107 := NB270_250.out; have hnc107 := NB250_270.out; have hnb108 := NB270_256.out; have hnc108 := NB256_270.out; have hnb109 := NB270_266.out; have hnc109 := NB266_270.out; have hcz110_0 : w104.cell? ⟨gb270, 0, none⟩ = some (.int .i64 0) := (blk_cell BK270.out 0).trans rfl; have hcz110_1 : w104.cell? ⟨gb270, 1, none⟩ = some (.string (⟨#[]⟩ : ByteArray)) := (blk_cell BK270.out 1).trans rfl; have hfz110_0 := blk_frozen BK270.out 0; have hfz110_1 := blk_frozen BK270.out 1))
                          go_roundg k3
                          case measure => have := HJ3.out; have := HJ19.out; have := HK3.out; omega
                          case rel => exact ⟨(wrap64 (x84_3 + 1)), (by first | rfl | (simp; done) | (simp [*]; done)), H', ⟨by have := HJ3.out; have := HJ19.out; have := HK3.out; omega⟩, ⟨by (with_reducible repeat (first | apply Kd.R_alloc | apply Kd.R_drewN | apply Kd.R_drew)); exact Kd.R_mono (Kd.R_far (p := ⟨gb270, 1, none⟩) (Kd.R_far (p := ⟨gb270, 0, none⟩) (Kd.R_types HO_243001.out BK270.out (by decide)) (fun _ hk => hk.2) (.int .i64 ((rd_T45 l0_1 x84_3).f0))) (fun _ hk => hk.2) (.string ((rd_T45 l0_1 x84_3).f1))) (fun _ hk => ⟨hk.1.1, hk.1.2⟩)⟩, ⟨by (with_reducible repeat (first | apply Kd.V_alloc | apply Kd.V_drewN | apply Kd.V_drew)); exact Kd.V_mono (Kd.V_far (p := ⟨gb270, 1, none⟩) (Kd.V_far (p := ⟨gb270, 0, none⟩) (Kd.V_mono HO_251001.out (fun k_ hk => (⟨hk, hk.2⟩ : _ ∧ k_ ≠ gb270))) (fun _ hk => hk.2) (.int .i64 ((rd_T45 l0_1 x84_3).f0))) (fun _ hk => hk.2) (.string ((rd_T45 l0_1 x84_3).f1))) (fun _ hk => ⟨hk.1.1.1, ⟨hk.1.1.2.1, ⟨hk.1.1.2.2.1, ⟨hk.1.1.2.2.2.1, ⟨hk.1.1.2.2.2.2.1, ⟨hk.1.1.2.2.2.2.2.1, ⟨hk.1.1.2.2.2.2.2.2.1, hk.1.1.2.2.2.2.2.2.2⟩⟩⟩⟩⟩⟩⟩)⟩, ⟨by (with_reducible repeat (first | apply Kd.R_alloc | apply Kd.R_drewN | apply Kd.R_drew)); exact Kd.R_mono (Kd.R_far (p := ⟨gb270, 1, none⟩) (Kd.R_far (p := ⟨gb270, 0, none⟩) (Kd.R_types HO_257001.out BK270.out (by decide)) (fun _ hk => hk.2) (.int .i64 ((rd_T45 l0_1 x84_3).f0))) (fun _ hk => hk.2) (.string ((rd_T45 l0_1 x84_3).f1))) (fun _ hk => ⟨hk.1.1, hk.1.2⟩)⟩, ⟨by (with_reducible repeat (first | apply Kd.R_alloc | apply Kd.R_drewN | apply Kd.R_drew)); exact Kd.R_mono (Kd.R_far (p := ⟨gb270, 1, none⟩) (Kd.R_far (p := ⟨gb270, 0, none⟩) (Kd.R_types HO_267001.out BK270.out (by decide)) (fun _ hk => hk.2) (.int .i64 ((rd_T45 l0_1 x84_3).f0))) (fun _ hk => hk.2) (.string ((rd_T45 l0_1 x84_3).f1))) (fun _ hk => ⟨hk.1.1, hk.1.2⟩)⟩, ⟨by (with_reducible repeat (first | refine blk_drewN ?_ _ | refine blk_drew ?_ | refine blk_alloc ?_ _)); refine blk_far ?_ NB236_270.out _; (with_reducible repeat (first | refine blk_drewN ?_ _ | refine blk_drew ?_ | refine blk_alloc ?_ _)); refine blk_far ?_ NB236_270.out _; (with_reducible repeat (first | refine blk_drewN ?_ _ | refine blk_drew ?_ | refine blk_alloc ?_ _)); exact BK236.out⟩, ⟨by (with_reducible repeat (first | refine blk_drewN ?_ _ | refine blk_drew ?_ | refine blk_alloc ?_ _)); refine blk_far ?_ NB242_270.out _; (with_reducible repeat (first | refine blk_drewN ?_ _ | refine blk_drew ?_ | refine blk_alloc ?_ _)); refine blk_far ?_ NB242_270.out _; (with_reducible repeat (first | refine blk_drewN ?_ _ | refine blk_drew ?_ | refine blk_alloc ?_ _)); exact BK242.out⟩, ⟨by (with_reducible repeat (first | refine blk_drewN ?_ _ | refine blk_drew ?_ | refine blk_alloc ?_ _)); refine blk_far ?_ NB250_270.out _; (with_reducible repeat (first | refine blk_drewN ?_ _ | refine blk_drew ?_ | refine blk_alloc ?_ _)); refine blk_far ?_ NB250_270.out _; (with_reducible repeat (first | refine blk_drewN ?_ _ | refine blk_drew ?_ | refine blk_alloc ?_ _)); exact BK250.out⟩, ⟨by (with_reducible repeat (first | refine blk_drewN ?_ _ | refine blk_drew ?_ | refine blk_alloc ?_ _)); refine blk_far ?_ NB256_270.out _; (with_reducible repeat (first | refine blk_drewN ?_ _ | refine blk_drew ?_ | refine blk_alloc ?_ _)); refine blk_far ?_ NB256_270.out _; (with_reducible repeat (first | refine blk_drewN ?_ _ | refine blk_drew ?_ | refine blk_alloc ?_ _)); exact BK256.out⟩, ⟨by (with_reducible repeat (first | refine blk_drewN ?_ _ | refine blk_drew ?_ | refine blk_alloc ?_ _)); refine blk_far ?_ NB266_270.out _; (with_reducible repeat (first | refine blk_drewN ?_ _ | refine blk_drew ?_ | refine blk_alloc ?_ _)); refine blk_far ?_ NB266_270.out _; (with_reducible repeat (first | refine blk_drewN ?_ _ | refine blk_drew ?_ | refine blk_alloc ?_ _)); exact BK266.out⟩, ⟨by repeat (first | (with_reducible first | exact HB.out | apply below_alloc | apply pw_below_drewN | apply below_drew1 | refine below_set ?_ GE236.out | refine below_set ?_ GE242.out | refine below_set ?_ GE250.out | refine below_set ?_ GE256.out | refine below_set ?_ GE266.out | refine below_set ?_ GE270.out) | exact HB.out)⟩⟩
                      · rw [if_neg c92] at H
                        exact absurd H (by simp)
                    · rw [if_neg c91] at H
                      exact absurd H (by simp)
                  · rw [if_neg c90] at H
                    have c90b0 : decide (x84_3 < (l0_1.length : Int)) = false := decide_eq_false c90
                    clear c90
                    by_cases c111 : t249 = 0
                    · rw [if_pos c111] at H
                      have c111b0 : (t249 == 0) = true := beq_iff_eq.mpr c111
                      have c111b1 : (t249 != 0) = false := bne_eq_false_iff_eq.mpr c111
                      clear c111
                      exact absurd H (by simp)
                    · rw [if_neg c111] at H
                      have c111b0 : (t249 == 0) = false := beq_eq_false_iff_ne.mpr c111
                      have c111b1 : (t249 != 0) = true := bne_iff_ne.mpr c111
                      by_cases c112 : t248 = 0
                      · rw [if_pos c112] at H
                        have c112b0 : (t248 == 0) = true := beq_iff_eq.mpr c112
                        have c112b1 : (t248 != 0) = false := bne_eq_false_iff_eq.mpr c112
                        clear c112
                        replace H := Option.bind_eq_some_iff.mp H
                        obtain ⟨t272, A1130, H⟩ := H
                        replace H : (if t272 = true then ((switchboardref10_Same.f k3 t237 t238 t261 t262).bind fun t273 => (if t273 = true then ((switchboardlaw10_awake.f k3).bind fun t274 => (some t274)) else (some false))) else (some false)) = some true := H
                        have A113 := Aside0.mk A1130
                        clear A1130
                        by_cases c114 : t272 = true
                        · subst c114
                          have H1 : ((switchboardref10_Same.f k3 t237 t238 t261 t262).bind fun t273 => (if t273 = true then ((switchboardlaw10_awake.f k3).bind fun t274 => (some t274)) else (some false))) = some true := by rw [if_pos rfl] at H; exact H
                          clear H
                          have H := H1
                          clear H1
                          replace H := Option.bind_eq_some_iff.mp H
                          obtain ⟨t273, A1150, H⟩ := H
                          replace H : (if t273 = true then ((switchboardlaw10_awake.f k3).bind fun t274 => (some t274)) else (some false)) = some true := H
                          have A115 := Aside0.mk A1150
                          clear A1150
                          by_cases c116 : t273 = true
                          · subst c116
                            have H1 : ((switchboardlaw10_awake.f k3).bind fun t274 => (some t274)) = some true := by rw [if_pos rfl] at H; exact H
                            clear H
                            have H := H1
                            clear H1
                            replace H := Option.bind_eq_some_iff.mp H
                            obtain ⟨t274, A1170, H⟩ := H
                            replace H : (some t274) = some true := H
                            have A117 := Aside0.mk A1170
                            clear A1170
                            have hr_ := Aside0.mk (Option.some.inj H)
                            have hnb118 := NB242_236.out
                            have hnc118 := NB236_242.out
                            have hnb119 := NB242_250.out
                            have hnc119 := NB250_242.out
                            have hnb120 := NB242_256.out
                            have hnc120 := NB256_242.out
                            have hnb121 := NB242_266.out
                            have hnc121 := NB266_242.out
                            have hcz122_0 : wr.cell? ⟨gb242, 0, none⟩ = some (.int .i64 t237) := (blk_cell BK242.out 0).trans rfl
                            have hcz122_1 : wr.cell? ⟨gb242, 1, none⟩ = some (.slice Ao11 t238.length co11) := (blk_cell BK242.out 1).trans rfl
                            have hfz122_0 := blk_frozen BK242.out 0
                            have hfz122_1 := blk_frozen BK242.out 1
                            have hnb123 := NB256_236.out
                            have hnc123 := NB236_256.out
                            have hnb124 := NB256_250.out
                            have hnc124 := NB250_256.out
                            have hnb125 := NB256_266.out
                            have hnc125 := NB266_256.out
                            have hcz126_0 : wr.cell? ⟨gb256, 0, none⟩ = some (.int .i64 t251) := (blk_cell BK256.out 0).trans rfl
                            have hcz126_1 : wr.cell? ⟨gb256, 1, none⟩ = some (.slice Ao35 t252.length co35) := (blk_cell BK256.out 1).trans rfl
                            have hfz126_0 := blk_frozen BK256.out 0
                            have hfz126_1 := blk_frozen BK256.out 1
                            go_wp2_with (first | (go_at_call 12; (with_reducible refine (switchboardref10_Same.calls k3 t237 _ _ t238 t251 _ _ t252 true _ ?side1 ?side2 ?side3 ?side4 A113.out).mono ?_); (case side1 => repeat (first | exact (Kd.R_reads' HO_243001.out).2.2 | (with_reducible refine Kd.C_alloc ?_ _) | (with_reducible refine Kd.C_drewN ?_ _) | (with_reducible refine Kd.C_drew ?_))); (case side2 => exact (Kd.R_reads' HO_243001.out).2.1); (case side3 => repeat (first | exact (Kd.R_reads' HO_257001.out).2.2 | (with_reducible refine Kd.C_alloc ?_ _) | (with_reducible refine Kd.C_drewN ?_ _) | (with_reducible refine Kd.C_drew ?_))); (case side4 => exact (Kd.R_reads' HO_257001.out).2.1); rintro e w127 ⟨rfl, hb⟩; have n0_ := Aside0.mk (Kd.R_below (by (with_reducible repeat (first | apply Kd.R_alloc | apply Kd.R_drewN | apply Kd.R_drew)); exact HO_243001.out) hb); have n1_ := Aside0.mk (Kd.V_below (by (with_reducible repeat (first | apply Kd.V_alloc | apply Kd.V_drewN | apply Kd.V_drew)); exact HO_251001.out) hb); have n2_ := Aside0.mk (Kd.R_below (by (with_reducible repeat (first | apply Kd.R_alloc | apply Kd.R_drewN | apply Kd.R_drew)); exact HO_257001.out) hb); have n3_ := Aside0.mk (Kd.R_below (by (with_reducible repeat (first | apply Kd.R_alloc | apply Kd.R_drewN | apply Kd.R_drew)); exact HO_267001.out) hb); have n4_ := Aside0.mk (blk_below (g := gb236) (o := .cells #[.int .i64 a0_0, .slice A0_1 l0_1.length c0_1] 24 (0, 0)) (by (with_reducible repeat (first | refine blk_drewN ?_ _ | refine blk_drew ?_ | refine blk_alloc ?_ _)); exact BK236.out) hb); have n5_ := Aside0.mk (blk_below (g := gb242) (o := .cells #[.int .i64 t237, .slice Ao11 t238.length co11] 27 (0, 0)) (by (with_reducible repeat (first | refine blk_drewN ?_ _ | refine blk_drew ?_ | refine blk_alloc ?_ _)); exact BK242.out) hb); have n6_ := Aside0.mk (blk_below (g := gb250) (o := .cells #[.int .i64 t244, .slice Ao28 t245.length co28] 24 (0, 0)) (by (with_reducible repeat (first | refine blk_drewN ?_ _ | refine blk_drew ?_ | refine blk_alloc ?_ _)); exact BK250.out) hb); have n7_ := Aside0.mk (blk_below (g := gb256) (o := .cells #[.int .i64 t251, .slice Ao35 t252.length co35] 27 (0, 0)) (by (with_reducible repeat (first | refine blk_drewN ?_ _ | refine blk_drew ?_ | refine blk_alloc ?_ _)); exact BK256.out) hb); have n8_ := Aside0.mk (blk_below (g := gb266) (o := .cells #[.int .i64 t261, .slice Ao46 t262.length co46] 27 (0, 0)) (by (with_reducible repeat (first | refine blk_drewN ?_ _ | refine blk_drew ?_ | refine blk_alloc ?_ _)); exact BK266.out) hb); have n9_ := Aside0.mk (below_step (by repeat (first | (with_reducible first | exact HB.out | apply below_alloc | apply pw_below_drewN | apply below_drew1 | refine below_set ?_ GE236.out | refine below_set ?_ GE242.out | refine below_set ?_ GE250.out | refine below_set ?_ GE256.out | refine below_set ?_ GE266.out) | exact HB.out)) hb); clear HO_243001; clear HO_251001; clear HO_257001; clear HO_267001; clear BK236; clear BK242; clear BK250; clear BK256; clear BK266; clear HB; have HO_243001 := n0_; have HO_251001 := n1_; have HO_257001 := n2_; have HO_267001 := n3_; have BK236 := n4_; have BK242 := n5_; have BK250 := n6_; have BK256 := n7_; have BK266 := n8_; have HB := n9_; clear n0_ n1_ n2_ n3_ n4_ n5_ n6_ n7_ n8_ n9_; (try clear hb); (try clear hb2); (try clear hk); (try clear hi); have hcz128_0 : w127.cell? ⟨gb242, 0, none⟩ = some (.int .i64 t237) := (blk_cell BK242.out 0).trans rfl; have hcz128_1 : w127.cell? ⟨gb242, 1, none⟩ = some (.slice Ao11 t238.length co11) := (blk_cell BK242.out 1).trans rfl; have hfz128_0 := blk_frozen BK242.out 0; have hfz128_1 := blk_frozen BK242.out 1; have hnb129 := NB266_236.out; have hnc129 := NB236_266.out; have hnb130 := NB266_250.out; have hnc130 := NB250_266.out; have hcz131_0 : w127.cell? ⟨gb266, 0, none⟩ = some (.int .i64 t261) := (blk_cell BK266.out 0).trans rfl; have hcz131_1 : w127.cell? ⟨gb266, 1, none⟩ = some (.slice Ao46 t262.length co46) := (blk_cell BK266.out 1).trans rfl; have hfz131_0 := blk_frozen BK266.out 0; have hfz131_1 := blk_frozen BK266.out 1) | (go_at_call 12; (with_reducible refine (switchboardref10_Same.calls k3 t237 _ _ t238 t261 _ _ t262 true _ ?side1 ?side2 ?side3 ?side4 A115.out).mono ?_); (case side1 => repeat (first | exact (Kd.R_reads' HO_243001.out).2.2 | (with_reducible refine Kd.C_alloc ?_ _) | (with_reducible refine Kd.C_drewN ?_ _) | (with_reducible refine Kd.C_drew ?_))); (case side2 => exact (Kd.R_reads' HO_243001.out).2.1); (case side3 => repeat (first | exact (Kd.R_reads' HO_267001.out).2.2 | (with_reducible refine Kd.C_alloc ?_ _) | (with_reducible refine Kd.C_drewN ?_ _) | (with_reducible refine Kd.C_drew ?_))); (case side4 => exact (Kd.R_reads' HO_267001.out).2.1); rintro e w132 ⟨rfl, hb⟩; have n0_ := Aside0.mk (Kd.R_below (by (with_reducible repeat (first | apply Kd.R_alloc | apply Kd.R_drewN | apply Kd.R_drew)); exact HO_243001.out) hb); have n1_ := Aside0.mk (Kd.V_below (by (with_reducible repeat (first | apply Kd.V_alloc | apply Kd.V_drewN | apply Kd.V_drew)); exact HO_251001.out) hb); have n2_ := Aside0.mk (Kd.R_below (by (with_reducible repeat (first | apply Kd.R_alloc | apply Kd.R_drewN | apply Kd.R_drew)); exact HO_257001.out) hb); have n3_ := Aside0.mk (Kd.R_below (by (with_reducible repeat (first | apply Kd.R_alloc | apply Kd.R_drewN | apply Kd.R_drew)); exact HO_267001.out) hb); have n4_ := Aside0.mk (blk_below (g := gb236) (o := .cells #[.int .i64 a0_0, .slice A0_1 l0_1.length c0_1] 24 (0, 0)) (by (with_reducible repeat (first | refine blk_drewN ?_ _ | refine blk_drew ?_ | refine blk_alloc ?_ _)); exact BK236.out) hb); have n5_ := Aside0.mk (blk_below (g := gb242) (o := .cells #[.int .i64 t237, .slice Ao11 t238.length co11] 27 (0, 0)) (by (with_reducible repeat (first | refine blk_drewN ?_ _ | refine blk_drew ?_ | refine blk_alloc ?_ _)); exact BK242.out) hb); have n6_ := Aside0.mk (blk_below (g := gb250) (o := .cells #[.int .i64 t244, .slice Ao28 t245.length co28] 24 (0, 0)) (by (with_reducible repeat (first | refine blk_drewN ?_ _ | refine blk_drew ?_ | refine blk_alloc ?_ _)); exact BK250.out) hb); have n7_ := Aside0.mk (blk_below (g := gb256) (o := .cells #[.int .i64 t251, .slice Ao35 t252.length co35] 27 (0, 0)) (by (with_reducible repeat (first | refine blk_drewN ?_ _ | refine blk_drew ?_ | refine blk_alloc ?_ _)); exact BK256.out) hb); have n8_ := Aside0.mk (blk_below (g := gb266) (o := .cells #[.int .i64 t261, .slice Ao46 t262.length co46] 27 (0, 0)) (by (with_reducible repeat (first | refine blk_drewN ?_ _ | refine blk_drew ?_ | refine blk_alloc ?_ _)); exact BK266.out) hb); have n9_ := Aside0.mk (below_step (by repeat (first | (with_reducible first | exact HB.out | apply below_alloc | apply pw_below_drewN | apply below_drew1 | refine below_set ?_ GE236.out | refine below_set ?_ GE242.out | refine below_set ?_ GE250.out | refine below_set ?_ GE256.out | refine below_set ?_ GE266.out) | exact HB.out)) hb); clear HO_243001; clear HO_251001; clear HO_257001; clear HO_267001; clear BK236; clear BK242; clear BK250; clear BK256; clear BK266; clear HB; have HO_243001 := n0_; have HO_251001 := n1_; have HO_257001 := n2_; have HO_267001 := n3_; have BK236 := n4_; have BK242 := n5_; have BK250 := n6_; have BK256 := n7_; have BK266 := n8_; have HB := n9_; clear n0_ n1_ n2_ n3_ n4_ n5_ n6_ n7_ n8_ n9_; (try clear hb); (try clear hb2); (try clear hk); (try clear hi)) | (go_at_call 9; (with_reducible refine (switchboardlaw10_awake.calls k3  t274 _ A117.out).mono ?_); rintro e w133 ⟨rfl, hb⟩; have n0_ := Aside0.mk (Kd.R_below (by (with_reducible repeat (first | apply Kd.R_alloc | apply Kd.R_drewN | apply Kd.R_drew)); exact HO_243001.out) hb); have n1_ := Aside0.mk (Kd.V_below (by (with_reducible repeat (first | apply Kd.V_alloc | apply Kd.V_drewN | apply Kd.V_drew)); exact HO_251001.out) hb); have n2_ := Aside0.mk (Kd.R_below (by (with_reducible repeat (first | apply Kd.R_alloc | apply Kd.R_drewN | apply Kd.R_drew)); exact HO_257001.out) hb); have n3_ := Aside0.mk (Kd.R_below (by (with_reducible repeat (first | apply Kd.R_alloc | apply Kd.R_drewN | apply Kd.R_drew)); exact HO_267001.out) hb); have n4_ := Aside0.mk (blk_below (g := gb236) (o := .cells #[.int .i64 a0_0, .slice A0_1 l0_1.length c0_1] 24 (0, 0)) (by (with_reducible repeat (first | refine blk_drewN ?_ _ | refine blk_drew ?_ | refine blk_alloc ?_ _)); exact BK236.out) hb); have n5_ := Aside0.mk (blk_below (g := gb242) (o := .cells #[.int .i64 t237, .slice Ao11 t238.length co11] 27 (0, 0)) (by (with_reducible repeat (first | refine blk_drewN ?_ _ | refine blk_drew ?_ | refine blk_alloc ?_ _)); exact BK242.out) hb); have n6_ := Aside0.mk (blk_below (g := gb250) (o := .cells #[.int .i64 t244, .slice Ao28 t245.length co28] 24 (0, 0)) (by (with_reducible repeat (first | refine blk_drewN ?_ _ | refine blk_drew ?_ | refine blk_alloc ?_ _)); exact BK250.out) hb); have n7_ := Aside0.mk (blk_below (g := gb256) (o := .cells #[.int .i64 t251, .slice Ao35 t252.length co35] 27 (0, 0)) (by (with_reducible repeat (first | refine blk_drewN ?_ _ | refine blk_drew ?_ | refine blk_alloc ?_ _)); exact BK256.out) hb); have n8_ := Aside0.mk (blk_below (g := gb266) (o := .cells #[.int .i64 t261, .slice Ao46 t262.length co46] 27 (0, 0)) (by (with_reducible repeat (first | refine blk_drewN ?_ _ | refine blk_drew ?_ | refine blk_alloc ?_ _)); exact BK266.out) hb); have n9_ := Aside0.mk (below_step (by repeat (first | (with_reducible first | exact HB.out | apply below_alloc | apply pw_below_drewN | apply below_drew1 | refine below_set ?_ GE236.out | refine below_set ?_ GE242.out | refine below_set ?_ GE250.out | refine below_set ?_ GE256.out | refine below_set ?_ GE266.out) | exact HB.out)) hb); clear HO_243001; clear HO_251001; clear HO_257001; clear HO_267001; clear BK236; clear BK242; clear BK250; clear BK256; clear BK266; clear HB; have HO_243001 := n0_; have HO_251001 := n1_; have HO_257001 := n2_; have HO_267001 := n3_; have BK236 := n4_; have BK242 := n5_; have BK250 := n6_; have BK256 := n7_; have BK266 := n8_; have HB := n9_; clear n0_ n1_ n2_ n3_ n4_ n5_ n6_ n7_ n8_ n9_; (try clear hb); (try clear hb2); (try clear hk); (try clear hi)))
                            go_ret
                            exact ⟨by first | rfl | exact congrArg (fun b_ => Ending.returned (Value.bool b_)) hr_.out | exact congrArg (fun b_ => Ending.returned (Value.bool b_)) hr_.out | (simp [errW_none, errW_some] <;> rfl) | (simp [*, errW_none, errW_some] <;> rfl), by repeat (first | (with_reducible first | exact HB.out | apply below_alloc | apply pw_below_drewN | apply below_drew1 | refine below_set ?_ GE236.out | refine below_set ?_ GE242.out | refine below_set ?_ GE250.out | refine below_set ?_ GE256.out | refine below_set ?_ GE266.out) | exact HB.out)⟩
                          · replace c116 := Bool.eq_false_iff.mpr c116
                            subst c116
                            have H1 : (some false) = some true := by rw [if_neg (show ¬ (false = true) by decide)] at H; exact H
                            clear H
                            have H := H1
                            clear H1
                            exact absurd H (by simp)
                        · replace c114 := Bool.eq_false_iff.mpr c114
                          subst c114
                          have H1 : (some false) = some true := by rw [if_neg (show ¬ (false = true) by decide)] at H; exact H
                          clear H
                          have H := H1
                          clear H1
                          exact absurd H (by simp)
                      · rw [if_neg c112] at H
                        have c112b0 : (t248 == 0) = false := beq_eq_false_iff_ne.mpr c112
                        have c112b1 : (t248 != 0) = true := bne_iff_ne.mpr c112
                        exact absurd H (by simp)

end Go.Proofs.Ytikncbklhnaajaa.Pr
