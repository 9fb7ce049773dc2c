-- Laid by wip/xprint.py, a program of this session that runs the kit's print with some contracts given by hand; not a text of print.sh. Lean checks it.
import Derived.Test.YtlbkfeelkdombaaDoorPp0
namespace Go.Proofs.YtlbkfeelkdombaaDoor.Pp
open Go.RowKit Go.Proofs.YtlbkfeelkdombaaDoorW.PrintWords Go.Proofs.YtlbkfeelkdombaaDoorW.PrintLast Go.Proofs.YtlbkfeelkdombaaDoorW.PrintMore
attribute [local go_sem] max2_int min2_int max_two min_two max_three min_three max_four min_four   -- for this text's walks alone
set_option linter.unusedVariables false
set_option linter.unusedSimpArgs false

/-! ### switchboardref24_Reply: function 13 -/
def switchboardref24_Reply.l0 : Nat → Int → Int → List (S65) → Option ((List (List Int)) × Int)
  | 0, _, _, _ => none
  | k + 1, x1, x6, x231000 => if x6 < (x231000.length : Int) then (if 0 ≤ x6 then (if ((rd_T65 x231000 x6).f0) = x1 then (if (rd_T65 x231000 x6).f2 = true then (some ((rd_T65 x231000 x6).f3, 0)) else (some (([] : List (List Int)), 8))) else (switchboardref24_Reply.l0 k x1 (wrap64 (x6 + 1)) x231000)) else (none)) else (some (([] : List (List Int)), 4))
def switchboardref24_Reply.f (k : Nat) (l0_0 : List (S65)) (a1 : Int) : Option ((List (List Int)) × Int) := switchboardref24_Reply.l0 k a1 0 l0_0
theorem switchboardref24_Reply.mono_l : ∀ k, (∀ y0 y1 y2, LeO (switchboardref24_Reply.l0 k y0 y1 y2) (switchboardref24_Reply.l0 (k + 1) y0 y1 y2))
  | 0 => fun _ _ _ r h => by simp [switchboardref24_Reply.l0] at h
  | k + 1 => by
    have ih0 := switchboardref24_Reply.mono_l k
    · intro y0 y1 y2
      unfold switchboardref24_Reply.l0
      repeat' first
      | (with_reducible exact ih0 _ _ _)
      | (with_reducible exact LeO.refl _)
      | (with_reducible exact LeO.none _)
      | (with_reducible refine LeO.ite ?_ ?_)
      | (with_reducible refine LeO.bind ?_ (fun _ => ?_))
      | exact ih0 _ _ _
      | exact LeO.none _
      | refine LeO.ite ?_ ?_
      | refine LeO.bind ?_ (fun _ => ?_)
theorem switchboardref24_Reply.mono : ∀ a0 a1 k, LeO (switchboardref24_Reply.f k a0 a1) (switchboardref24_Reply.f (k + 1) a0 a1) := by
  intro a0 a1 k
  have ih0 := switchboardref24_Reply.mono_l k
  unfold switchboardref24_Reply.f
  repeat' first
      | (with_reducible exact ih0 _ _ _)
      | (with_reducible exact LeO.refl _)
      | (with_reducible exact LeO.none _)
      | (with_reducible refine LeO.ite ?_ ?_)
      | (with_reducible refine LeO.bind ?_ (fun _ => ?_))
      | exact ih0 _ _ _
      | exact LeO.none _
      | refine LeO.ite ?_ ?_
      | refine LeO.bind ?_ (fun _ => ?_)
set_option maxHeartbeats 8000000 in
set_option maxRecDepth 100000 in
theorem switchboardref24_Reply.calls (k : Nat) (P0_0_ : Nat → Prop) (A0_0 : Option Addr) (c0_0 : Nat) (l0_0 : List (S65)) (a1 : Int) (r1 : List (List Int)) (r2 : Int) (w : World) (hs0_0 : Kd.V k65 65 w w.heap.size (fun k_ => P0_0_ k_) (.slice A0_0 l0_0.length c0_0) l0_0) (h : switchboardref24_Reply.f k l0_0 a1 = some (r1, r2)) :
    Calls Tryd.prog 13 #[.agg #[.slice A0_0 l0_0.length c0_0], .int .i64 a1] w fun e w' => ∃ v0_ : Value, e = .returned (.tuple #[v0_, .int .i64 r2]) ∧ Kd.V (Kd.slice 3 (Kd.int .i64)) 42 w' w.heap.size (fun k_ => (P0_0_ k_ ∨ w.heap.size ≤ k_)) v0_ r1 ∧ Below w.heap.size w w' := by
  have hu28 := Tryd.underlying28
  have HO0_0 := Aside0.mk (show Kd.V k65 65 w w.heap.size (fun k_ => (P0_0_ k_ ∨ w.heap.size ≤ k_)) (.slice A0_0 l0_0.length c0_0) l0_0 from Kd.V_mono hs0_0 (fun k_ hk => .inl hk))
  have HB := Aside0.mk (Below.refl w.heap.size w)
  have H : (switchboardref24_Reply.l0 k a1 0 l0_0) = some (r1, r2) := h
  clear h
  have H' := Aside0.mk H
  clear H
  go_enter Tryd.func13, Tryd.ntmps13
  go_wp2_with (first | ((with_reducible refine gate_dst (N := 2) rfl ?_); refine box_event ?hg (N := 2) ?hd (cs := #[.slice A0_0 l0_0.length c0_0]) (t := 28) ?hr ?_; (case hd => rfl); (case hg => rfl); (case hr => first | (go_simp; done) | (go_simp; rfl)); intro gb230 hg w3 hbox hb; have n0_ := Aside0.mk (Kd.V_below (Kd.V_elderB (by (with_reducible repeat (first | apply Kd.V_alloc | apply Kd.V_drewN | apply Kd.V_drew)); exact HO0_0.out) gb230 (Nat.le_of_eq hg.symm)) hb); have n1_ := Aside0.mk (below_step (by repeat (first | (with_reducible first | exact HB.out | apply below_alloc | apply pw_below_drewN | apply below_drew1) | exact HB.out)) hb); have n2_ := Aside0.mk (hbox); have n3_ := Aside0.mk ((by rw [hg]; exact (below_size (by repeat (first | (with_reducible first | exact HB.out | apply below_alloc | apply pw_below_drewN | apply below_drew1) | exact HB.out))) : w.heap.size ≤ gb230)); have n4_ := Aside0.mk ((by rw [hg]; exact (below_size (by repeat (first | (with_reducible first | exact HB.out | apply below_alloc | apply pw_below_drewN | apply below_drew1) | exact HB.out))) : w.heap.size ≤ gb230)); clear HO0_0; clear HB; have HO0_0 := n0_; have HB := n1_; have BK230 := n2_; have GW230 := n3_; have GE230 := n4_; clear n0_ n1_ n2_ n3_ n4_; clear hb hbox hg))
  go_loopg [6] k (fun kq v6 w' => ∃ (x6_1 : Int), v6 = .int .i64 x6_1 ∧ Aside0 (switchboardref24_Reply.l0 kq a1 x6_1 l0_0 = some (r1, r2)) ∧ Aside0 (kq ≤ k) ∧ Aside0 (Kd.V k65 65 w' w.heap.size (fun k_ => (P0_0_ k_ ∨ w.heap.size ≤ k_) ∧ k_ ≠ gb230) (.slice A0_0 l0_0.length c0_0) l0_0) ∧ Aside0 (w'.heap[gb230]? = some (.cells #[(.slice A0_0 l0_0.length c0_0)] 28 (0, 0))) ∧ Aside0 (Below w.heap.size w w'))
  case atStart => exact ⟨(0), (by first | rfl | (simp; done) | (simp [*]; done)), H', ⟨Nat.le_refl _⟩, ⟨by (with_reducible repeat (first | apply Kd.V_alloc | apply Kd.V_drewN | apply Kd.V_drew)); exact HO0_0.out⟩, ⟨by (with_reducible repeat (first | refine blk_drewN ?_ _ | refine blk_drew ?_ | refine blk_alloc ?_ _)); exact BK230.out⟩, ⟨by repeat (first | (with_reducible first | exact HB.out | apply below_alloc | apply pw_below_drewN | apply below_drew1 | refine below_set ?_ GE230.out) | exact HB.out)⟩⟩
  case round =>
    clear H'
    try clear c1
    try clear p2
    obtain ⟨x6_1, rfl, HA, HK1, HO_231000, BK230, HB⟩ := hrel
    cases gk with
    | zero => exact absurd HA.out (by simp [switchboardref24_Reply.l0])
    | succ k1 =>
      have H := HA.out
      clear HA
      simp only [switchboardref24_Reply.l0] at H
      by_cases c4 : x6_1 < (l0_0.length : Int)
      · rw [if_pos c4] at H
        have c4b0 : decide (x6_1 < (l0_0.length : Int)) = true := decide_eq_true c4
        clear c4
        by_cases c5 : 0 ≤ x6_1
        · rw [if_pos c5] at H
          have c5b0 : decide (0 ≤ x6_1) = true := decide_eq_true c5
          clear c5
          by_cases c6 : ((rd_T65 l0_0 x6_1).f0) = a1
          · rw [if_pos c6] at H
            have c6b0 : (((rd_T65 l0_0 x6_1).f0) == a1) = true := beq_iff_eq.mpr c6
            have c6b1 : (((rd_T65 l0_0 x6_1).f0) != a1) = false := bne_eq_false_iff_eq.mpr c6
            clear c6
            obtain ⟨bq7, hbq7⟩ : ∃ b_ : Bool, b_ = ((rd_T65 l0_0 x6_1).f2) := ⟨_, rfl⟩
            replace H : (if bq7 = true then (some ((rd_T65 l0_0 x6_1).f3, 0)) else (some (([] : List (List Int)), 8))) = some (r1, r2) := by rw [← hbq7] at H; exact H
            have Nbq7 := Aside0.mk hbq7
            clear hbq7
            by_cases c8 : bq7 = true
            · subst c8
              have H1 : (some ((rd_T65 l0_0 x6_1).f3, 0)) = some (r1, r2) := by rw [if_pos rfl] at H; exact H
              clear H
              have H := H1
              clear H1
              simp only [Option.some.injEq, Prod.mk.injEq] at H
              obtain ⟨rfl, rfl⟩ := H
              have hcz9_0 : wr.cell? ⟨gb230, 0, none⟩ = some (.slice A0_0 l0_0.length c0_0) := (blk_cell BK230.out 0).trans rfl
              have hfz9_0 := blk_frozen BK230.out 0
              have p231 : 0 ≤ (x6_1 : Int) := of_decide_eq_true (by first | (with_reducible assumption) | assumption)
              have q231 : x6_1 < (l0_0.length : Int) := of_decide_eq_true (by first | (with_reducible assumption) | assumption)
              obtain ⟨ad231, A231_1, c231_1, A231_3, c231_3, e231, hx231_0, hx231_1, hx231_2, hx231_3, hl231_1, hi231_1, hl231_3, hi231_3⟩ := at_T65 (Kd.V_reads' HO_231000.out).2.2 x6_1 p231 q231
              (try rw [← Nbq7.out] at hx231_2)
              cases e231
              obtain ⟨ce231, hce231, hMe231, hcc231⟩ := Kd.V_get HO_231000.out z65 x6_1 p231 (by first | exact q231 | exact of_decide_eq_true (by first | (with_reducible assumption) | assumption) | (have e_ := (Kd.V_reads' HO_231000.out).1; omega))
              obtain ⟨ua231_1, uc231_1, ua231_3, uc231_3, rfl, ul231_1, ge231_1, ul231_3, ge231_3⟩ := k65_openF hMe231
              have hv231_1 := hcc231 1 _ rfl
              rw [add_field _ _ 1 (by omega)] at hv231_1
              replace hv231_1 := Option.some.inj (hv231_1.symm.trans hx231_1)
              injection hv231_1 with hva_ hvn_ hvc_
              rw [hva_] at ge231_1
              rw [hvc_] at ul231_1
              have HL231_1 := Aside0.mk (show Kd.V (Kd.slice 3 (Kd.int .i64)) 42 _ w.heap.size _ _ ((rd_T65 l0_0 x6_1).f1) from Kd.V_mk ul231_1 ge231_1)
              clear hva_ hvn_ hvc_ ge231_1 ul231_1
              have hv231_3 := hcc231 3 _ rfl
              rw [add_field _ _ 3 (by omega)] at hv231_3
              replace hv231_3 := Option.some.inj (hv231_3.symm.trans hx231_3)
              injection hv231_3 with hva_ hvn_ hvc_
              rw [hva_] at ge231_3
              rw [hvc_] at ul231_3
              have HL231_3 := Aside0.mk (show Kd.V (Kd.slice 3 (Kd.int .i64)) 42 _ w.heap.size _ _ ((rd_T65 l0_0 x6_1).f3) from Kd.V_mk ul231_3 ge231_3)
              clear hva_ hvn_ hvc_ ge231_3 ul231_3
              clear hcc231 hce231
              have HR231_1 := Aside0.mk hi231_1
              have HC231_1 := Aside0.mk hl231_1
              clear hi231_1 hl231_1
              have HR231_3 := Aside0.mk hi231_3
              have HC231_3 := Aside0.mk hl231_3
              clear hi231_3 hl231_3
              replace p231 := eq_true p231
              replace q231 := eq_true q231
              have p232 : 0 ≤ (x6_1 : Int) := of_decide_eq_true (by first | (with_reducible assumption) | assumption)
              have q232 : x6_1 < (l0_0.length : Int) := of_decide_eq_true (by first | (with_reducible assumption) | assumption)
              obtain ⟨ad232, A232_1, c232_1, A232_3, c232_3, e232, hx232_0, hx232_1, hx232_2, hx232_3, hl232_1, hi232_1, hl232_3, hi232_3⟩ := at_T65 (Kd.V_reads' HO_231000.out).2.2 x6_1 p232 q232
              (try rw [← Nbq7.out] at hx232_2)
              obtain rfl : ad231 = ad232 := (by injection e232)
              obtain ⟨ce232, hce232, hMe232, hcc232⟩ := Kd.V_get HO_231000.out z65 x6_1 p232 (by first | exact q232 | exact of_decide_eq_true (by first | (with_reducible assumption) | assumption) | (have e_ := (Kd.V_reads' HO_231000.out).1; omega))
              obtain ⟨ua232_1, uc232_1, ua232_3, uc232_3, rfl, ul232_1, ge232_1, ul232_3, ge232_3⟩ := k65_openF hMe232
              have hv232_1 := hcc232 1 _ rfl
              rw [add_field _ _ 1 (by omega)] at hv232_1
              replace hv232_1 := Option.some.inj (hv232_1.symm.trans hx232_1)
              injection hv232_1 with hva_ hvn_ hvc_
              rw [hva_] at ge232_1
              rw [hvc_] at ul232_1
              have HL232_1 := Aside0.mk (show Kd.V (Kd.slice 3 (Kd.int .i64)) 42 _ w.heap.size _ _ ((rd_T65 l0_0 x6_1).f1) from Kd.V_mk ul232_1 ge232_1)
              clear hva_ hvn_ hvc_ ge232_1 ul232_1
              have hv232_3 := hcc232 3 _ rfl
              rw [add_field _ _ 3 (by omega)] at hv232_3
              replace hv232_3 := Option.some.inj (hv232_3.symm.trans hx232_3)
              injection hv232_3 with hva_ hvn_ hvc_
              rw [hva_] at ge232_3
              rw [hvc_] at ul232_3
              have HL232_3 := Aside0.mk (show Kd.V (Kd.slice 3 (Kd.int .i64)) 42 _ w.heap.size _ _ ((rd_T65 l0_0 x6_1).f3) from Kd.V_mk ul232_3 ge232_3)
              clear hva_ hvn_ hvc_ ge232_3 ul232_3
              clear hcc232 hce232
              have HR232_1 := Aside0.mk hi232_1
              have HC232_1 := Aside0.mk hl232_1
              clear hi232_1 hl232_1
              have HR232_3 := Aside0.mk hi232_3
              have HC232_3 := Aside0.mk hl232_3
              clear hi232_3 hl232_3
              replace p232 := eq_true p232
              replace q232 := eq_true q232
              have ea_ := Option.some.inj (hx231_1.symm.trans hx232_1)
              injection ea_ with ea_ en_ ec_
              subst ea_
              subst ec_
              clear en_
              have ea_ := Option.some.inj (hx231_3.symm.trans hx232_3)
              injection ea_ with ea_ en_ ec_
              subst ea_
              subst ec_
              clear en_
              have p233 : 0 ≤ (x6_1 : Int) := of_decide_eq_true (by first | (with_reducible assumption) | assumption)
              have q233 : x6_1 < (l0_0.length : Int) := of_decide_eq_true (by first | (with_reducible assumption) | assumption)
              obtain ⟨ad233, A233_1, c233_1, A233_3, c233_3, e233, hx233_0, hx233_1, hx233_2, hx233_3, hl233_1, hi233_1, hl233_3, hi233_3⟩ := at_T65 (Kd.V_reads' HO_231000.out).2.2 x6_1 p233 q233
              (try rw [← Nbq7.out] at hx233_2)
              obtain rfl : ad231 = ad233 := (by injection e233)
              obtain ⟨ce233, hce233, hMe233, hcc233⟩ := Kd.V_get HO_231000.out z65 x6_1 p233 (by first | exact q233 | exact of_decide_eq_true (by first | (with_reducible assumption) | assumption) | (have e_ := (Kd.V_reads' HO_231000.out).1; omega))
              obtain ⟨ua233_1, uc233_1, ua233_3, uc233_3, rfl, ul233_1, ge233_1, ul233_3, ge233_3⟩ := k65_openF hMe233
              have hv233_1 := hcc233 1 _ rfl
              rw [add_field _ _ 1 (by omega)] at hv233_1
              replace hv233_1 := Option.some.inj (hv233_1.symm.trans hx233_1)
              injection hv233_1 with hva_ hvn_ hvc_
              rw [hva_] at ge233_1
              rw [hvc_] at ul233_1
              have HL233_1 := Aside0.mk (show Kd.V (Kd.slice 3 (Kd.int .i64)) 42 _ w.heap.size _ _ ((rd_T65 l0_0 x6_1).f1) from Kd.V_mk ul233_1 ge233_1)
              clear hva_ hvn_ hvc_ ge233_1 ul233_1
              have hv233_3 := hcc233 3 _ rfl
              rw [add_field _ _ 3 (by omega)] at hv233_3
              replace hv233_3 := Option.some.inj (hv233_3.symm.trans hx233_3)
              injection hv233_3 with hva_ hvn_ hvc_
              rw [hva_] at ge233_3
              rw [hvc_] at ul233_3
              have HL233_3 := Aside0.mk (show Kd.V (Kd.slice 3 (Kd.int .i64)) 42 _ w.heap.size _ _ ((rd_T65 l0_0 x6_1).f3) from Kd.V_mk ul233_3 ge233_3)
              clear hva_ hvn_ hvc_ ge233_3 ul233_3
              clear hcc233 hce233
              have HR233_1 := Aside0.mk hi233_1
              have HC233_1 := Aside0.mk hl233_1
              clear hi233_1 hl233_1
              have HR233_3 := Aside0.mk hi233_3
              have HC233_3 := Aside0.mk hl233_3
              clear hi233_3 hl233_3
              replace p233 := eq_true p233
              replace q233 := eq_true q233
              have ea_ := Option.some.inj (hx231_1.symm.trans hx233_1)
              injection ea_ with ea_ en_ ec_
              subst ea_
              subst ec_
              clear en_
              have ea_ := Option.some.inj (hx231_3.symm.trans hx233_3)
              injection ea_ with ea_ en_ ec_
              subst ea_
              subst ec_
              clear en_
              go_wp2
              go_ret2
              exact ⟨_, by first | rfl | (simp [errW_none, errW_some] <;> rfl) | (simp [*, errW_none, errW_some] <;> rfl), by (with_reducible repeat (first | apply Kd.V_alloc | apply Kd.V_drewN | apply Kd.V_drew)); exact Kd.V_mono HL233_3.out (fun _ hk => hk.1), by repeat (first | (with_reducible first | exact HB.out | apply below_alloc | apply pw_below_drewN | apply below_drew1 | refine below_set ?_ GE230.out) | exact HB.out)⟩
            · replace c8 := Bool.eq_false_iff.mpr c8
              subst c8
              have H1 : (some (([] : List (List Int)), 8)) = some (r1, r2) := by rw [if_neg (show ¬ (false = true) by decide)] at H; exact H
              clear H
              have H := H1
              clear H1
              simp only [Option.some.injEq, Prod.mk.injEq] at H
              obtain ⟨rfl, rfl⟩ := H
              have hcz10_0 : wr.cell? ⟨gb230, 0, none⟩ = some (.slice A0_0 l0_0.length c0_0) := (blk_cell BK230.out 0).trans rfl
              have hfz10_0 := blk_frozen BK230.out 0
              have p231 : 0 ≤ (x6_1 : Int) := of_decide_eq_true (by first | (with_reducible assumption) | assumption)
              have q231 : x6_1 < (l0_0.length : Int) := of_decide_eq_true (by first | (with_reducible assumption) | assumption)
              obtain ⟨ad231, A231_1, c231_1, A231_3, c231_3, e231, hx231_0, hx231_1, hx231_2, hx231_3, hl231_1, hi231_1, hl231_3, hi231_3⟩ := at_T65 (Kd.V_reads' HO_231000.out).2.2 x6_1 p231 q231
              (try rw [← Nbq7.out] at hx231_2)
              cases e231
              obtain ⟨ce231, hce231, hMe231, hcc231⟩ := Kd.V_get HO_231000.out z65 x6_1 p231 (by first | exact q231 | exact of_decide_eq_true (by first | (with_reducible assumption) | assumption) | (have e_ := (Kd.V_reads' HO_231000.out).1; omega))
              obtain ⟨ua231_1, uc231_1, ua231_3, uc231_3, rfl, ul231_1, ge231_1, ul231_3, ge231_3⟩ := k65_openF hMe231
              have hv231_1 := hcc231 1 _ rfl
              rw [add_field _ _ 1 (by omega)] at hv231_1
              replace hv231_1 := Option.some.inj (hv231_1.symm.trans hx231_1)
              injection hv231_1 with hva_ hvn_ hvc_
              rw [hva_] at ge231_1
              rw [hvc_] at ul231_1
              have HL231_1 := Aside0.mk (show Kd.V (Kd.slice 3 (Kd.int .i64)) 42 _ w.heap.size _ _ ((rd_T65 l0_0 x6_1).f1) from Kd.V_mk ul231_1 ge231_1)
              clear hva_ hvn_ hvc_ ge231_1 ul231_1
              have hv231_3 := hcc231 3 _ rfl
              rw [add_field _ _ 3 (by omega)] at hv231_3
              replace hv231_3 := Option.some.inj (hv231_3.symm.trans hx231_3)
              injection hv231_3 with hva_ hvn_ hvc_
              rw [hva_] at ge231_3
              rw [hvc_] at ul231_3
              have HL231_3 := Aside0.mk (show Kd.V (Kd.slice 3 (Kd.int .i64)) 42 _ w.heap.size _ _ ((rd_T65 l0_0 x6_1).f3) from Kd.V_mk ul231_3 ge231_3)
              clear hva_ hvn_ hvc_ ge231_3 ul231_3
              clear hcc231 hce231
              have HR231_1 := Aside0.mk hi231_1
              have HC231_1 := Aside0.mk hl231_1
              clear hi231_1 hl231_1
              have HR231_3 := Aside0.mk hi231_3
              have HC231_3 := Aside0.mk hl231_3
              clear hi231_3 hl231_3
              replace p231 := eq_true p231
              replace q231 := eq_true q231
              have p232 : 0 ≤ (x6_1 : Int) := of_decide_eq_true (by first | (with_reducible assumption) | assumption)
              have q232 : x6_1 < (l0_0.length : Int) := of_decide_eq_true (by first | (with_reducible assumption) | assumption)
              obtain ⟨ad232, A232_1, c232_1, A232_3, c232_3, e232, hx232_0, hx232_1, hx232_2, hx232_3, hl232_1, hi232_1, hl232_3, hi232_3⟩ := at_T65 (Kd.V_reads' HO_231000.out).2.2 x6_1 p232 q232
              (try rw [← Nbq7.out] at hx232_2)
              obtain rfl : ad231 = ad232 := (by injection e232)
              obtain ⟨ce232, hce232, hMe232, hcc232⟩ := Kd.V_get HO_231000.out z65 x6_1 p232 (by first | exact q232 | exact of_decide_eq_true (by first | (with_reducible assumption) | assumption) | (have e_ := (Kd.V_reads' HO_231000.out).1; omega))
              obtain ⟨ua232_1, uc232_1, ua232_3, uc232_3, rfl, ul232_1, ge232_1, ul232_3, ge232_3⟩ := k65_openF hMe232
              have hv232_1 := hcc232 1 _ rfl
              rw [add_field _ _ 1 (by omega)] at hv232_1
              replace hv232_1 := Option.some.inj (hv232_1.symm.trans hx232_1)
              injection hv232_1 with hva_ hvn_ hvc_
              rw [hva_] at ge232_1
              rw [hvc_] at ul232_1
              have HL232_1 := Aside0.mk (show Kd.V (Kd.slice 3 (Kd.int .i64)) 42 _ w.heap.size _ _ ((rd_T65 l0_0 x6_1).f1) from Kd.V_mk ul232_1 ge232_1)
              clear hva_ hvn_ hvc_ ge232_1 ul232_1
              have hv232_3 := hcc232 3 _ rfl
              rw [add_field _ _ 3 (by omega)] at hv232_3
              replace hv232_3 := Option.some.inj (hv232_3.symm.trans hx232_3)
              injection hv232_3 with hva_ hvn_ hvc_
              rw [hva_] at ge232_3
              rw [hvc_] at ul232_3
              have HL232_3 := Aside0.mk (show Kd.V (Kd.slice 3 (Kd.int .i64)) 42 _ w.heap.size _ _ ((rd_T65 l0_0 x6_1).f3) from Kd.V_mk ul232_3 ge232_3)
              clear hva_ hvn_ hvc_ ge232_3 ul232_3
              clear hcc232 hce232
              have HR232_1 := Aside0.mk hi232_1
              have HC232_1 := Aside0.mk hl232_1
              clear hi232_1 hl232_1
              have HR232_3 := Aside0.mk hi232_3
              have HC232_3 := Aside0.mk hl232_3
              clear hi232_3 hl232_3
              replace p232 := eq_true p232
              replace q232 := eq_true q232
              have ea_ := Option.some.inj (hx231_1.symm.trans hx232_1)
              injection ea_ with ea_ en_ ec_
              subst ea_
              subst ec_
              clear en_
              have ea_ := Option.some.inj (hx231_3.symm.trans hx232_3)
              injection ea_ with ea_ en_ ec_
              subst ea_
              subst ec_
              clear en_
              go_wp2
              go_ret2
              exact ⟨_, by first | rfl | (simp [errW_none, errW_some] <;> rfl) | (simp [*, errW_none, errW_some] <;> rfl), Kd.V_mono (Kd.V_nil _ _ _ _ _) (fun k_ hk => by first | exact ⟨(.inr (hk.1)), hk.2⟩ | exact (.inr (hk))), by repeat (first | (with_reducible first | exact HB.out | apply below_alloc | apply pw_below_drewN | apply below_drew1 | refine below_set ?_ GE230.out) | exact HB.out)⟩
          · rw [if_neg c6] at H
            have c6b0 : (((rd_T65 l0_0 x6_1).f0) == a1) = false := beq_eq_false_iff_ne.mpr c6
            have c6b1 : (((rd_T65 l0_0 x6_1).f0) != a1) = true := bne_iff_ne.mpr c6
            have H' := Aside0.mk H
            clear H
            have hcz11_0 : wr.cell? ⟨gb230, 0, none⟩ = some (.slice A0_0 l0_0.length c0_0) := (blk_cell BK230.out 0).trans rfl
            have hfz11_0 := blk_frozen BK230.out 0
            have p231 : 0 ≤ (x6_1 : Int) := of_decide_eq_true (by first | (with_reducible assumption) | assumption)
            have q231 : x6_1 < (l0_0.length : Int) := of_decide_eq_true (by first | (with_reducible assumption) | assumption)
            obtain ⟨ad231, A231_1, c231_1, A231_3, c231_3, e231, hx231_0, hx231_1, hx231_2, hx231_3, hl231_1, hi231_1, hl231_3, hi231_3⟩ := at_T65 (Kd.V_reads' HO_231000.out).2.2 x6_1 p231 q231
            cases e231
            obtain ⟨ce231, hce231, hMe231, hcc231⟩ := Kd.V_get HO_231000.out z65 x6_1 p231 (by first | exact q231 | exact of_decide_eq_true (by first | (with_reducible assumption) | assumption) | (have e_ := (Kd.V_reads' HO_231000.out).1; omega))
            obtain ⟨ua231_1, uc231_1, ua231_3, uc231_3, rfl, ul231_1, ge231_1, ul231_3, ge231_3⟩ := k65_openF hMe231
            have hv231_1 := hcc231 1 _ rfl
            rw [add_field _ _ 1 (by omega)] at hv231_1
            replace hv231_1 := Option.some.inj (hv231_1.symm.trans hx231_1)
            injection hv231_1 with hva_ hvn_ hvc_
            rw [hva_] at ge231_1
            rw [hvc_] at ul231_1
            have HL231_1 := Aside0.mk (show Kd.V (Kd.slice 3 (Kd.int .i64)) 42 _ w.heap.size _ _ ((rd_T65 l0_0 x6_1).f1) from Kd.V_mk ul231_1 ge231_1)
            clear hva_ hvn_ hvc_ ge231_1 ul231_1
            have hv231_3 := hcc231 3 _ rfl
            rw [add_field _ _ 3 (by omega)] at hv231_3
            replace hv231_3 := Option.some.inj (hv231_3.symm.trans hx231_3)
            injection hv231_3 with hva_ hvn_ hvc_
            rw [hva_] at ge231_3
            rw [hvc_] at ul231_3
            have HL231_3 := Aside0.mk (show Kd.V (Kd.slice 3 (Kd.int .i64)) 42 _ w.heap.size _ _ ((rd_T65 l0_0 x6_1).f3) from Kd.V_mk ul231_3 ge231_3)
            clear hva_ hvn_ hvc_ ge231_3 ul231_3
            clear hcc231 hce231
            have HR231_1 := Aside0.mk hi231_1
            have HC231_1 := Aside0.mk hl231_1
            clear hi231_1 hl231_1
            have HR231_3 := Aside0.mk hi231_3
            have HC231_3 := Aside0.mk hl231_3
            clear hi231_3 hl231_3
            replace p231 := eq_true p231
            replace q231 := eq_true q231
            go_wp2
            go_roundg k1
            case measure => have := HK1.out; omega
            case rel => exact ⟨(wrap64 (x6_1 + 1)), (by first | rfl | (simp; done) | (simp [*]; done)), H', ⟨by have := HK1.out; omega⟩, ⟨by (with_reducible repeat (first | apply Kd.V_alloc | apply Kd.V_drewN | apply Kd.V_drew)); exact HO_231000.out⟩, ⟨by (with_reducible repeat (first | refine blk_drewN ?_ _ | refine blk_drew ?_ | refine blk_alloc ?_ _)); exact BK230.out⟩, ⟨by repeat (first | (with_reducible first | exact HB.out | apply below_alloc | apply pw_below_drewN | apply below_drew1 | refine below_set ?_ GE230.out) | exact HB.out)⟩⟩
        · rw [if_neg c5] at H
          exact absurd H (by simp)
      · rw [if_neg c4] at H
        have c4b0 : decide (x6_1 < (l0_0.length : Int)) = false := decide_eq_false c4
        clear c4
        simp only [Option.some.injEq, Prod.mk.injEq] at H
        obtain ⟨rfl, rfl⟩ := H
        have hcz12_0 : wr.cell? ⟨gb230, 0, none⟩ = some (.slice A0_0 l0_0.length c0_0) := (blk_cell BK230.out 0).trans rfl
        have hfz12_0 := blk_frozen BK230.out 0
        go_wp2
        go_ret2
        exact ⟨_, by first | rfl | (simp [errW_none, errW_some] <;> rfl) | (simp [*, errW_none, errW_some] <;> rfl), Kd.V_mono (Kd.V_nil _ _ _ _ _) (fun k_ hk => by first | exact ⟨(.inr (hk.1)), hk.2⟩ | exact (.inr (hk))), by repeat (first | (with_reducible first | exact HB.out | apply below_alloc | apply pw_below_drewN | apply below_drew1 | refine below_set ?_ GE230.out) | exact HB.out)⟩

/-! ### switchboardref02_Same: function 16 -/
def switchboardref02_Same.l0 : Nat → List Int → List Int → Int → Option (Bool)
  | 0, _, _, _ => none
  | k + 1, x0, x1, x5 => if x5 < (x0.length : Int) then (if 0 ≤ x5 then (if x5 < (x1.length : Int) then (if (rd x0 x5) = (rd x1 x5) then (switchboardref02_Same.l0 k x0 x1 (wrap64 (x5 + 1))) else (some false)) else (none)) else (none)) else (some true)
def switchboardref02_Same.f (k : Nat) (l0 : List Int) (l1 : List Int) : Option (Bool) := if (l0.length : Int) = (l1.length : Int) then (switchboardref02_Same.l0 k l0 l1 0) else (some false)
theorem switchboardref02_Same.mono_l : ∀ k, (∀ y0 y1 y2, LeO (switchboardref02_Same.l0 k y0 y1 y2) (switchboardref02_Same.l0 (k + 1) y0 y1 y2))
  | 0 => fun _ _ _ r h => by simp [switchboardref02_Same.l0] at h
  | k + 1 => by
    have ih0 := switchboardref02_Same.mono_l k
    · intro y0 y1 y2
      unfold switchboardref02_Same.l0
      repeat' first
      | (with_reducible exact ih0 _ _ _)
      | (with_reducible exact LeO.refl _)
      | (with_reducible exact LeO.none _)
      | (with_reducible refine LeO.ite ?_ ?_)
      | (with_reducible refine LeO.bind ?_ (fun _ => ?_))
      | exact ih0 _ _ _
      | exact LeO.none _
      | refine LeO.ite ?_ ?_
      | refine LeO.bind ?_ (fun _ => ?_)
theorem switchboardref02_Same.mono : ∀ a0 a1 k, LeO (switchboardref02_Same.f k a0 a1) (switchboardref02_Same.f (k + 1) a0 a1) := by
  intro a0 a1 k
  have ih0 := switchboardref02_Same.mono_l k
  unfold switchboardref02_Same.f
  repeat' first
      | (with_reducible exact ih0 _ _ _)
      | (with_reducible exact LeO.refl _)
      | (with_reducible exact LeO.none _)
      | (with_reducible refine LeO.ite ?_ ?_)
      | (with_reducible refine LeO.bind ?_ (fun _ => ?_))
      | exact ih0 _ _ _
      | exact LeO.none _
      | refine LeO.ite ?_ ?_
      | refine LeO.bind ?_ (fun _ => ?_)
set_option maxHeartbeats 8000000 in
set_option maxRecDepth 100000 in
theorem switchboardref02_Same.calls (k : Nat) (A0 : Option Addr) (c0 : Nat) (l0 : List Int) (A1 : Option Addr) (c1 : Nat) (l1 : List Int) (r : Bool) (w : World) (hr0 : Kd.C (Kd.int .i64) w A0 l0.length l0) (hc0 : l0.length ≤ c0) (hr1 : Kd.C (Kd.int .i64) w A1 l1.length l1) (hc1 : l1.length ≤ c1) (h : switchboardref02_Same.f k l0 l1 = some r) :
    Calls Tryd.prog 16 #[.slice A0 l0.length c0, .slice A1 l1.length c1] w fun e w' => e = .returned (.bool r) ∧ Drawn0 w w' := by
  have HR0 := Aside0.mk hr0
  have HC0 := Aside0.mk hc0
  clear hr0 hc0
  have HR1 := Aside0.mk hr1
  have HC1 := Aside0.mk hc1
  clear hr1 hc1
  have H : (if (l0.length : Int) = (l1.length : Int) then (switchboardref02_Same.l0 k l0 l1 0) else (some false)) = some r := h
  clear h
  by_cases c3 : (l0.length : Int) = (l1.length : Int)
  · rw [if_pos c3] at H
    have c3b0 : ((l0.length : Int) == (l1.length : Int)) = true := beq_iff_eq.mpr c3
    have c3b1 : ((l0.length : Int) != (l1.length : Int)) = false := bne_eq_false_iff_eq.mpr c3
    have c3b2 : (l0.length == l1.length) = true := by first | simpa using c3 | (simp at c3 ⊢; omega)
    clear c3
    have H' := Aside0.mk H
    clear H
    go_enter Tryd.func16, Tryd.ntmps16
    go_wp2
    repeat (go_quiet (fail); try go_wp2)
    go_loopg [5] k (fun kq v5 w' => ∃ (x5_1 : Int), v5 = .int .i64 x5_1 ∧ Aside0 (switchboardref02_Same.l0 kq l0 l1 x5_1 = some r) ∧ Aside0 (kq ≤ k) ∧ Drawn0 w w')
    case atStart => exact ⟨(0), (by first | rfl | (simp; done) | (simp [*]; done)), H', ⟨Nat.le_refl _⟩, by repeat (first | exact Drawn0.refl _ | apply Drawn0.step)⟩
    case round =>
      clear H'
      try clear c1
      try clear p2
      try clear c3
      try clear c3b0
      try clear c3b1
      try clear c3b2
      obtain ⟨x5_1, rfl, HA, HK1, ⟨m1, rfl⟩⟩ := hrel
      cases gk with
      | zero => exact absurd HA.out (by simp [switchboardref02_Same.l0])
      | succ k1 =>
        have H := HA.out
        clear HA
        simp only [switchboardref02_Same.l0] at H
        by_cases c4 : x5_1 < (l0.length : Int)
        · rw [if_pos c4] at H
          have c4b0 : decide (x5_1 < (l0.length : Int)) = true := decide_eq_true c4
          clear c4
          by_cases c5 : 0 ≤ x5_1
          · rw [if_pos c5] at H
            have c5b0 : decide (0 ≤ x5_1) = true := decide_eq_true c5
            clear c5
            by_cases c6 : x5_1 < (l1.length : Int)
            · rw [if_pos c6] at H
              have c6b0 : decide (x5_1 < (l1.length : Int)) = true := decide_eq_true c6
              clear c6
              by_cases c7 : (rd l0 x5_1) = (rd l1 x5_1)
              · rw [if_pos c7] at H
                have c7b0 : ((rd l0 x5_1) == (rd l1 x5_1)) = true := beq_iff_eq.mpr c7
                have c7b1 : ((rd l0 x5_1) != (rd l1 x5_1)) = false := bne_eq_false_iff_eq.mpr c7
                clear c7
                have H' := Aside0.mk H
                clear H
                have p234 : 0 ≤ (x5_1 : Int) := of_decide_eq_true (by first | (with_reducible assumption) | assumption)
                have q234 : x5_1 < (l0.length : Int) := of_decide_eq_true (by first | (with_reducible assumption) | assumption)
                obtain ⟨ad234, e234, hx234_0⟩ := Kd.at_int HR0.out x5_1 p234 q234
                cases e234
                replace p234 := eq_true p234
                replace q234 := eq_true q234
                have p235 : 0 ≤ (x5_1 : Int) := of_decide_eq_true (by first | (with_reducible assumption) | assumption)
                have q235 : x5_1 < (l1.length : Int) := of_decide_eq_true (by first | (with_reducible assumption) | assumption)
                obtain ⟨ad235, e235, hx235_0⟩ := Kd.at_int HR1.out x5_1 p235 q235
                cases e235
                replace p235 := eq_true p235
                replace q235 := eq_true q235
                go_wp2
                repeat (go_quiet (fail); try go_wp2)
                go_roundg k1
                case measure => have := HK1.out; omega
                case rel => exact ⟨(wrap64 (x5_1 + 1)), (by first | rfl | (simp; done) | (simp [*]; done)), H', ⟨by have := HK1.out; omega⟩, by repeat (first | exact Drawn0.refl _ | apply Drawn0.step)⟩
              · rw [if_neg c7] at H
                have c7b0 : ((rd l0 x5_1) == (rd l1 x5_1)) = false := beq_eq_false_iff_ne.mpr c7
                have c7b1 : ((rd l0 x5_1) != (rd l1 x5_1)) = true := bne_iff_ne.mpr c7
                obtain rfl := Option.some.inj H
                have p234 : 0 ≤ (x5_1 : Int) := of_decide_eq_true (by first | (with_reducible assumption) | assumption)
                have q234 : x5_1 < (l0.length : Int) := of_decide_eq_true (by first | (with_reducible assumption) | assumption)
                obtain ⟨ad234, e234, hx234_0⟩ := Kd.at_int HR0.out x5_1 p234 q234
                cases e234
                replace p234 := eq_true p234
                replace q234 := eq_true q234
                have p235 : 0 ≤ (x5_1 : Int) := of_decide_eq_true (by first | (with_reducible assumption) | assumption)
                have q235 : x5_1 < (l1.length : Int) := of_decide_eq_true (by first | (with_reducible assumption) | assumption)
                obtain ⟨ad235, e235, hx235_0⟩ := Kd.at_int HR1.out x5_1 p235 q235
                cases e235
                replace p235 := eq_true p235
                replace q235 := eq_true q235
                go_wp2
                repeat (go_quiet (fail); try go_wp2)
                go_ret
                exact ⟨by first | rfl | (simp; done) | (simp [*]; done), by repeat (first | exact Drawn0.refl _ | apply Drawn0.step)⟩
            · rw [if_neg c6] at H
              exact absurd H (by simp)
          · rw [if_neg c5] at H
            exact absurd H (by simp)
        · rw [if_neg c4] at H
          have c4b0 : decide (x5_1 < (l0.length : Int)) = false := decide_eq_false c4
          clear c4
          obtain rfl := Option.some.inj H
          go_wp2
          repeat (go_quiet (fail); try go_wp2)
          go_ret
          exact ⟨by first | rfl | (simp; done) | (simp [*]; done), by repeat (first | exact Drawn0.refl _ | apply Drawn0.step)⟩
  · rw [if_neg c3] at H
    have c3b0 : ((l0.length : Int) == (l1.length : Int)) = false := beq_eq_false_iff_ne.mpr c3
    have c3b1 : ((l0.length : Int) != (l1.length : Int)) = true := bne_iff_ne.mpr c3
    have c3b2 : (l0.length == l1.length) = false := by first | simpa using c3 | (simp at c3 ⊢; omega)
    obtain rfl := Option.some.inj H
    go_enter Tryd.func16, Tryd.ntmps16
    go_wp2
    repeat (go_quiet (fail); try go_wp2)
    go_ret
    exact ⟨by first | rfl | (simp; done) | (simp [*]; done), by repeat (first | exact Drawn0.refl _ | apply Drawn0.step)⟩

/-! ### switchboardref15_Same: function 15 -/
def switchboardref15_Same.l0 : Nat → List (List Int) → List (List Int) → Int → Option (Bool)
  | 0, _, _, _ => none
  | k + 1, x0, x1, x5 => if x5 < (x0.length : Int) then (if 0 ≤ x5 then (if x5 < (x1.length : Int) then ((switchboardref02_Same.f k (rd_L1 x0 x5) (rd_L1 x1 x5)).bind fun t238 => (if t238 = true then (switchboardref15_Same.l0 k x0 x1 (wrap64 (x5 + 1))) else (some false))) else (none)) else (none)) else (some true)
def switchboardref15_Same.f (k : Nat) (l0 : List (List Int)) (l1 : List (List Int)) : Option (Bool) := if (l0.length : Int) = (l1.length : Int) then (switchboardref15_Same.l0 k l0 l1 0) else (some false)
theorem switchboardref15_Same.mono_l : ∀ k, (∀ y0 y1 y2, LeO (switchboardref15_Same.l0 k y0 y1 y2) (switchboardref15_Same.l0 (k + 1) y0 y1 y2))
  | 0 => fun _ _ _ r h => by simp [switchboardref15_Same.l0] at h
  | k + 1 => by
    have ih0 := switchboardref15_Same.mono_l k
    · intro y0 y1 y2
      unfold switchboardref15_Same.l0
      repeat' first
      | (with_reducible exact ih0 _ _ _)
      | (with_reducible exact switchboardref02_Same.mono _ _ _)
      | (with_reducible exact LeO.refl _)
      | (with_reducible exact LeO.none _)
      | (with_reducible refine LeO.ite ?_ ?_)
      | (with_reducible refine LeO.bind ?_ (fun _ => ?_))
      | exact ih0 _ _ _
      | exact switchboardref02_Same.mono _ _ _
      | exact LeO.none _
      | refine LeO.ite ?_ ?_
      | refine LeO.bind ?_ (fun _ => ?_)
theorem switchboardref15_Same.mono : ∀ a0 a1 k, LeO (switchboardref15_Same.f k a0 a1) (switchboardref15_Same.f (k + 1) a0 a1) := by
  intro a0 a1 k
  have ih0 := switchboardref15_Same.mono_l k
  unfold switchboardref15_Same.f
  repeat' first
      | (with_reducible exact ih0 _ _ _)
      | (with_reducible exact switchboardref02_Same.mono _ _ _)
      | (with_reducible exact LeO.refl _)
      | (with_reducible exact LeO.none _)
      | (with_reducible refine LeO.ite ?_ ?_)
      | (with_reducible refine LeO.bind ?_ (fun _ => ?_))
      | exact ih0 _ _ _
      | exact switchboardref02_Same.mono _ _ _
      | exact LeO.none _
      | refine LeO.ite ?_ ?_
      | refine LeO.bind ?_ (fun _ => ?_)
set_option maxHeartbeats 8000000 in
set_option maxRecDepth 100000 in
theorem switchboardref15_Same.calls (k : Nat) (A0 : Option Addr) (c0 : Nat) (l0 : List (List Int)) (A1 : Option Addr) (c1 : Nat) (l1 : List (List Int)) (r : Bool) (w : World) (hr0 : Kd.C (Kd.slice 3 (Kd.int .i64)) w A0 l0.length l0) (hc0 : l0.length ≤ c0) (hr1 : Kd.C (Kd.slice 3 (Kd.int .i64)) w A1 l1.length l1) (hc1 : l1.length ≤ c1) (h : switchboardref15_Same.f k l0 l1 = some r) :
    Calls Tryd.prog 15 #[.slice A0 l0.length c0, .slice A1 l1.length c1] w fun e w' => e = .returned (.bool r) ∧ Drawn0 w w' := by
  have HR0 := Aside0.mk hr0
  have HC0 := Aside0.mk hc0
  clear hr0 hc0
  have HR1 := Aside0.mk hr1
  have HC1 := Aside0.mk hc1
  clear hr1 hc1
  have H : (if (l0.length : Int) = (l1.length : Int) then (switchboardref15_Same.l0 k l0 l1 0) else (some false)) = some r := h
  clear h
  by_cases c3 : (l0.length : Int) = (l1.length : Int)
  · rw [if_pos c3] at H
    have c3b0 : ((l0.length : Int) == (l1.length : Int)) = true := beq_iff_eq.mpr c3
    have c3b1 : ((l0.length : Int) != (l1.length : Int)) = false := bne_eq_false_iff_eq.mpr c3
    have c3b2 : (l0.length == l1.length) = true := by first | simpa using c3 | (simp at c3 ⊢; omega)
    clear c3
    have H' := Aside0.mk H
    clear H
    go_enter Tryd.func15, Tryd.ntmps15
    go_wp2
    repeat (go_quiet (fail); try go_wp2)
    go_loopg [5] k (fun kq v5 w' => ∃ (x5_1 : Int), v5 = .int .i64 x5_1 ∧ Aside0 (switchboardref15_Same.l0 kq l0 l1 x5_1 = some r) ∧ Aside0 (kq ≤ k) ∧ Drawn0 w w')
    case atStart => exact ⟨(0), (by first | rfl | (simp; done) | (simp [*]; done)), H', ⟨Nat.le_refl _⟩, by repeat (first | exact Drawn0.refl _ | apply Drawn0.step)⟩
    case round =>
      clear H'
      try clear c1
      try clear p2
      try clear c3
      try clear c3b0
      try clear c3b1
      try clear c3b2
      obtain ⟨x5_1, rfl, HA, HK1, ⟨m1, rfl⟩⟩ := hrel
      cases gk with
      | zero => exact absurd HA.out (by simp [switchboardref15_Same.l0])
      | succ k1 =>
        have H := HA.out
        clear HA
        simp only [switchboardref15_Same.l0] at H
        by_cases c4 : x5_1 < (l0.length : Int)
        · rw [if_pos c4] at H
          have c4b0 : decide (x5_1 < (l0.length : Int)) = true := decide_eq_true c4
          clear c4
          by_cases c5 : 0 ≤ x5_1
          · rw [if_pos c5] at H
            have c5b0 : decide (0 ≤ x5_1) = true := decide_eq_true c5
            clear c5
            by_cases c6 : x5_1 < (l1.length : Int)
            · rw [if_pos c6] at H
              have c6b0 : decide (x5_1 < (l1.length : Int)) = true := decide_eq_true c6
              clear c6
              replace H := Option.bind_eq_some_iff.mp H
              obtain ⟨t238, A70, H⟩ := H
              replace H : (if t238 = true then (switchboardref15_Same.l0 k1 l0 l1 (wrap64 (x5_1 + 1))) else (some false)) = some r := H
              have A7 := Aside0.mk A70
              clear A70
              by_cases c8 : t238 = true
              · subst c8
                have H1 : (switchboardref15_Same.l0 k1 l0 l1 (wrap64 (x5_1 + 1))) = some r := by rw [if_pos rfl] at H; exact H
                clear H
                have H := H1
                clear H1
                have H' := Aside0.mk H
                clear H
                have p236 : 0 ≤ (x5_1 : Int) := of_decide_eq_true (by first | (with_reducible assumption) | assumption)
                have q236 : x5_1 < (l0.length : Int) := of_decide_eq_true (by first | (with_reducible assumption) | assumption)
                obtain ⟨ad236, A236_0, c236_0, e236, hx236_0, hl236_0, hi236_0⟩ := at_L1 HR0.out x5_1 p236 q236
                cases e236
                have HR236_0 := Aside0.mk hi236_0
                have HC236_0 := Aside0.mk hl236_0
                clear hi236_0 hl236_0
                replace p236 := eq_true p236
                replace q236 := eq_true q236
                have p237 : 0 ≤ (x5_1 : Int) := of_decide_eq_true (by first | (with_reducible assumption) | assumption)
                have q237 : x5_1 < (l1.length : Int) := of_decide_eq_true (by first | (with_reducible assumption) | assumption)
                obtain ⟨ad237, A237_0, c237_0, e237, hx237_0, hl237_0, hi237_0⟩ := at_L1 HR1.out x5_1 p237 q237
                cases e237
                have HR237_0 := Aside0.mk hi237_0
                have HC237_0 := Aside0.mk hl237_0
                clear hi237_0 hl237_0
                replace p237 := eq_true p237
                replace q237 := eq_true q237
                go_wp2_with (first | (go_at_call 16; (with_reducible refine (switchboardref02_Same.calls k1 _ _ (rd_L1 l0 x5_1) _ _ (rd_L1 l1 x5_1) true _ ?side1 ?side2 ?side3 ?side4 A7.out).mono ?_); (case side1 => repeat (first | exact HR236_0.out | (with_reducible refine Kd.C_alloc ?_ _) | (with_reducible refine Kd.C_drewN ?_ _) | (with_reducible refine Kd.C_drew ?_))); (case side2 => exact HC236_0.out); (case side3 => repeat (first | exact HR237_0.out | (with_reducible refine Kd.C_alloc ?_ _) | (with_reducible refine Kd.C_drewN ?_ _) | (with_reducible refine Kd.C_drew ?_))); (case side4 => exact HC237_0.out); rintro e w' ⟨rfl, ⟨nd, rfl⟩⟩; (try first | exact ⟨rfl, _, World.drewN_drewN _ _ _⟩ | exact ⟨rfl, _, Eq.trans (World.drewN_drewN _ _ _) (congrArg (World.drewN _) (Nat.add_assoc _ _ _))⟩)))
                repeat (go_quiet (first | (go_at_call 16; (with_reducible refine (switchboardref02_Same.calls k1 _ _ (rd_L1 l0 x5_1) _ _ (rd_L1 l1 x5_1) true _ ?side1 ?side2 ?side3 ?side4 A7.out).mono ?_); (case side1 => repeat (first | exact HR236_0.out | (with_reducible refine Kd.C_alloc ?_ _) | (with_reducible refine Kd.C_drewN ?_ _) | (with_reducible refine Kd.C_drew ?_))); (case side2 => exact HC236_0.out); (case side3 => repeat (first | exact HR237_0.out | (with_reducible refine Kd.C_alloc ?_ _) | (with_reducible refine Kd.C_drewN ?_ _) | (with_reducible refine Kd.C_drew ?_))); (case side4 => exact HC237_0.out); rintro e w' ⟨rfl, ⟨nd, rfl⟩⟩; (try first | exact ⟨rfl, _, World.drewN_drewN _ _ _⟩ | exact ⟨rfl, _, Eq.trans (World.drewN_drewN _ _ _) (congrArg (World.drewN _) (Nat.add_assoc _ _ _))⟩))); try go_wp2_with (first | (go_at_call 16; (with_reducible refine (switchboardref02_Same.calls k1 _ _ (rd_L1 l0 x5_1) _ _ (rd_L1 l1 x5_1) true _ ?side1 ?side2 ?side3 ?side4 A7.out).mono ?_); (case side1 => repeat (first | exact HR236_0.out | (with_reducible refine Kd.C_alloc ?_ _) | (with_reducible refine Kd.C_drewN ?_ _) | (with_reducible refine Kd.C_drew ?_))); (case side2 => exact HC236_0.out); (case side3 => repeat (first | exact HR237_0.out | (with_reducible refine Kd.C_alloc ?_ _) | (with_reducible refine Kd.C_drewN ?_ _) | (with_reducible refine Kd.C_drew ?_))); (case side4 => exact HC237_0.out); rintro e w' ⟨rfl, ⟨nd, rfl⟩⟩; (try first | exact ⟨rfl, _, World.drewN_drewN _ _ _⟩ | exact ⟨rfl, _, Eq.trans (World.drewN_drewN _ _ _) (congrArg (World.drewN _) (Nat.add_assoc _ _ _))⟩))))
                go_roundg k1
                case measure => have := HK1.out; omega
                case rel => exact ⟨(wrap64 (x5_1 + 1)), (by first | rfl | (simp; done) | (simp [*]; done)), H', ⟨by have := HK1.out; omega⟩, by repeat (first | exact Drawn0.refl _ | apply Drawn0.step)⟩
              · replace c8 := Bool.eq_false_iff.mpr c8
                subst c8
                have H1 : (some false) = some r := by rw [if_neg (show ¬ (false = true) by decide)] at H; exact H
                clear H
                have H := H1
                clear H1
                obtain rfl := Option.some.inj H
                have p236 : 0 ≤ (x5_1 : Int) := of_decide_eq_true (by first | (with_reducible assumption) | assumption)
                have q236 : x5_1 < (l0.length : Int) := of_decide_eq_true (by first | (with_reducible assumption) | assumption)
                obtain ⟨ad236, A236_0, c236_0, e236, hx236_0, hl236_0, hi236_0⟩ := at_L1 HR0.out x5_1 p236 q236
                cases e236
                have HR236_0 := Aside0.mk hi236_0
                have HC236_0 := Aside0.mk hl236_0
                clear hi236_0 hl236_0
                replace p236 := eq_true p236
                replace q236 := eq_true q236
                have p237 : 0 ≤ (x5_1 : Int) := of_decide_eq_true (by first | (with_reducible assumption) | assumption)
                have q237 : x5_1 < (l1.length : Int) := of_decide_eq_true (by first | (with_reducible assumption) | assumption)
                obtain ⟨ad237, A237_0, c237_0, e237, hx237_0, hl237_0, hi237_0⟩ := at_L1 HR1.out x5_1 p237 q237
                cases e237
                have HR237_0 := Aside0.mk hi237_0
                have HC237_0 := Aside0.mk hl237_0
                clear hi237_0 hl237_0
                replace p237 := eq_true p237
                replace q237 := eq_true q237
                go_wp2_with (first | (go_at_call 16; (with_reducible refine (switchboardref02_Same.calls k1 _ _ (rd_L1 l0 x5_1) _ _ (rd_L1 l1 x5_1) false _ ?side1 ?side2 ?side3 ?side4 A7.out).mono ?_); (case side1 => repeat (first | exact HR236_0.out | (with_reducible refine Kd.C_alloc ?_ _) | (with_reducible refine Kd.C_drewN ?_ _) | (with_reducible refine Kd.C_drew ?_))); (case side2 => exact HC236_0.out); (case side3 => repeat (first | exact HR237_0.out | (with_reducible refine Kd.C_alloc ?_ _) | (with_reducible refine Kd.C_drewN ?_ _) | (with_reducible refine Kd.C_drew ?_))); (case side4 => exact HC237_0.out); rintro e w' ⟨rfl, ⟨nd, rfl⟩⟩; (try first | exact ⟨rfl, _, World.drewN_drewN _ _ _⟩ | exact ⟨rfl, _, Eq.trans (World.drewN_drewN _ _ _) (congrArg (World.drewN _) (Nat.add_assoc _ _ _))⟩)))
                repeat (go_quiet (first | (go_at_call 16; (with_reducible refine (switchboardref02_Same.calls k1 _ _ (rd_L1 l0 x5_1) _ _ (rd_L1 l1 x5_1) false _ ?side1 ?side2 ?side3 ?side4 A7.out).mono ?_); (case side1 => repeat (first | exact HR236_0.out | (with_reducible refine Kd.C_alloc ?_ _) | (with_reducible refine Kd.C_drewN ?_ _) | (with_reducible refine Kd.C_drew ?_))); (case side2 => exact HC236_0.out); (case side3 => repeat (first | exact HR237_0.out | (with_reducible refine Kd.C_alloc ?_ _) | (with_reducible refine Kd.C_drewN ?_ _) | (with_reducible refine Kd.C_drew ?_))); (case side4 => exact HC237_0.out); rintro e w' ⟨rfl, ⟨nd, rfl⟩⟩; (try first | exact ⟨rfl, _, World.drewN_drewN _ _ _⟩ | exact ⟨rfl, _, Eq.trans (World.drewN_drewN _ _ _) (congrArg (World.drewN _) (Nat.add_assoc _ _ _))⟩))); try go_wp2_with (first | (go_at_call 16; (with_reducible refine (switchboardref02_Same.calls k1 _ _ (rd_L1 l0 x5_1) _ _ (rd_L1 l1 x5_1) false _ ?side1 ?side2 ?side3 ?side4 A7.out).mono ?_); (case side1 => repeat (first | exact HR236_0.out | (with_reducible refine Kd.C_alloc ?_ _) | (with_reducible refine Kd.C_drewN ?_ _) | (with_reducible refine Kd.C_drew ?_))); (case side2 => exact HC236_0.out); (case side3 => repeat (first | exact HR237_0.out | (with_reducible refine Kd.C_alloc ?_ _) | (with_reducible refine Kd.C_drewN ?_ _) | (with_reducible refine Kd.C_drew ?_))); (case side4 => exact HC237_0.out); rintro e w' ⟨rfl, ⟨nd, rfl⟩⟩; (try first | exact ⟨rfl, _, World.drewN_drewN _ _ _⟩ | exact ⟨rfl, _, Eq.trans (World.drewN_drewN _ _ _) (congrArg (World.drewN _) (Nat.add_assoc _ _ _))⟩))))
                go_ret
                exact ⟨by first | rfl | (simp; done) | (simp [*]; done), by repeat (first | exact Drawn0.refl _ | apply Drawn0.step)⟩
            · rw [if_neg c6] at H
              exact absurd H (by simp)
          · rw [if_neg c5] at H
            exact absurd H (by simp)
        · rw [if_neg c4] at H
          have c4b0 : decide (x5_1 < (l0.length : Int)) = false := decide_eq_false c4
          clear c4
          obtain rfl := Option.some.inj H
          go_wp2
          repeat (go_quiet (fail); try go_wp2)
          go_ret
          exact ⟨by first | rfl | (simp; done) | (simp [*]; done), by repeat (first | exact Drawn0.refl _ | apply Drawn0.step)⟩
  · rw [if_neg c3] at H
    have c3b0 : ((l0.length : Int) == (l1.length : Int)) = false := beq_eq_false_iff_ne.mpr c3
    have c3b1 : ((l0.length : Int) != (l1.length : Int)) = true := bne_iff_ne.mpr c3
    have c3b2 : (l0.length == l1.length) = false := by first | simpa using c3 | (simp at c3 ⊢; omega)
    obtain rfl := Option.some.inj H
    go_enter Tryd.func15, Tryd.ntmps15
    go_wp2
    repeat (go_quiet (fail); try go_wp2)
    go_ret
    exact ⟨by first | rfl | (simp; done) | (simp [*]; done), by repeat (first | exact Drawn0.refl _ | apply Drawn0.step)⟩

-- NOT PRINTED: function 14 (switchboardref24_Same)

-- NOT PRINTED: function 3 (switchboardlaw24_HallReplies)

end Go.Proofs.YtlbkfeelkdombaaDoor.Pp
