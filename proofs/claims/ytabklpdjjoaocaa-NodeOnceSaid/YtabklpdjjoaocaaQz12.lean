/- Own text, by hand: the walk of NodeOnce. -/
import Derived.Test.YtabklpdjjoaocaaQz0
import Derived.Test.YtabklpdjjoaocaaQz1
import Derived.Test.YtabklpdjjoaocaaQz2
import Derived.Test.YtabklpdjjoaocaaQz3
import Derived.Test.YtabklpdjjoaocaaQz4
import Derived.Test.YtabklpdjjoaocaaQz5
import Derived.Test.YtabklpdjjoaocaaQz6
import Derived.Test.YtabklpdjjoaocaaQz7
import Derived.Test.YtabklpdjjoaocaaQz8
import Derived.Test.YtabklpdjjoaocaaQz9
import Derived.Test.YtabklpdjjoaocaaQz10
import Derived.Test.YtabklpdjjoaocaaQz14
namespace Go.Proofs.Ytabklpdjjoaocaa.Qz
open Go.RowKit Go.Proofs.YtabklpdjjoaocaaW.PrintWords Go.Proofs.YtabklpdjjoaocaaW.PrintLast Go.Proofs.YtabklpdjjoaocaaW.PrintMore
attribute [local go_sem] max2_int min2_int max_two min_two max_three min_three max_four min_four   -- for this text's walks alone
set_option linter.unusedVariables false
set_option linter.unusedSimpArgs false

def switchboardlaw18_NodeOnce.f (k : Nat) (a0_0 : Int) (l0_1 : List S61) (a1_0 : Int) (l1_1 : List (List Int)) (a2 : Int) (a3_0 : Int) (a3_1 : Int) (a3_2 : Int) (a3_3 : Int) (a3_4 : Int) (a3_5 : Int) (a3_6 : Int) (a3_7 : Int) (a3_8 : Int) (a3_9 : Int) (l3_10 : List Int) (l4 : List Int) : Option Bool := some true
set_option maxHeartbeats 16000000 in
set_option maxRecDepth 100000 in
theorem switchboardlaw18_NodeOnce.calls (k : Nat) (a0_0 : Int) (A0_1 : Option Addr) (c0_1 : Nat) (l0_1 : List S61) (a1_0 : Int) (A1_1 : Option Addr) (c1_1 : Nat) (l1_1 : List (List Int)) (a2 : Int) (a3_0 : Int) (a3_1 : Int) (a3_2 : Int) (a3_3 : Int) (a3_4 : Int) (a3_5 : Int) (a3_6 : Int) (a3_7 : Int) (a3_8 : Int) (a3_9 : Int) (A3_10 : Option Addr) (c3_10 : Nat) (l3_10 : List Int) (A4 : Option Addr) (c4 : Nat) (l4 : List Int) (w : World) (hr0_1 : Kd.C k61 w A0_1 l0_1.length l0_1) (hc0_1 : l0_1.length ≤ c0_1) (hr1_1 : Kd.C (Kd.slice 3 (Kd.int .i64)) w A1_1 l1_1.length l1_1) (hc1_1 : l1_1.length ≤ c1_1) (hr3_10 : Kd.C (Kd.int .i64) w A3_10 l3_10.length l3_10) (hc3_10 : l3_10.length ≤ c3_10) (hr4 : Kd.C (Kd.int .i64) w A4 l4.length l4) (hc4 : l4.length ≤ c4) (h : switchboardlaw18_NodeOnce.f k a0_0 l0_1 a1_0 l1_1 a2 a3_0 a3_1 a3_2 a3_3 a3_4 a3_5 a3_6 a3_7 a3_8 a3_9 l3_10 l4 = some true) :
    Calls Try.prog 4 #[.agg #[.int .i64 a0_0, .slice A0_1 l0_1.length c0_1], .agg #[.int .i64 a1_0, .slice A1_1 l1_1.length c1_1], .int .i64 a2, .agg #[.int .i64 a3_0, .int .i64 a3_1, .int .i64 a3_2, .int .i64 a3_3, .int .i64 a3_4, .int .i64 a3_5, .int .i64 a3_6, .int .i64 a3_7, .int .i64 a3_8, .int .i64 a3_9, .slice A3_10 l3_10.length c3_10], .slice A4 l4.length c4] w fun e w' => e = .returned (.bool true) ∧ Below w.heap.size w w' := by
  clear h
  have HR4 := Aside0.mk hr4
  have HC4 := Aside0.mk hc4
  clear hr4 hc4
  have hu24 := Try.underlying24
  have hu27 := Try.underlying27
  have hu31 := Try.underlying31
  have HR0 := Aside0.mk hr0_1
  have HC0 := Aside0.mk hc0_1
  have HR1 := Aside0.mk hr1_1
  have HC1 := Aside0.mk hc1_1
  have HR3 := Aside0.mk hr3_10
  have HC3 := Aside0.mk hc3_10
  clear hr0_1 hc0_1 hr1_1 hc1_1 hr3_10 hc3_10
  have HL0 : Aside0 (LW w (((w.alloc (.cells #[.int .i64 a0_0, .slice A0_1 l0_1.length c0_1] 24)).alloc (.cells #[.int .i64 a1_0, .slice A1_1 l1_1.length c1_1] 27)).alloc (.cells #[.int .i64 a3_0, .int .i64 a3_1, .int .i64 a3_2, .int .i64 a3_3, .int .i64 a3_4, .int .i64 a3_5, .int .i64 a3_6, .int .i64 a3_7, .int .i64 a3_8, .int .i64 a3_9, .slice A3_10 l3_10.length c3_10] 31)) #[.int .i64 a0_0, .slice A0_1 l0_1.length c0_1] #[.int .i64 a1_0, .slice A1_1 l1_1.length c1_1] #[.int .i64 a3_0, .int .i64 a3_1, .int .i64 a3_2, .int .i64 a3_3, .int .i64 a3_4, .int .i64 a3_5, .int .i64 a3_6, .int .i64 a3_7, .int .i64 a3_8, .int .i64 a3_9, .slice A3_10 l3_10.length c3_10]) := ⟨⟨below_alloc (below_alloc (below_alloc (Below.refl _ _) _) _) _, blk_alloc (blk_alloc (alloc_at _ rfl) _) _, blk_alloc (alloc_at _ (by simp)) _, alloc_at _ (by simp)⟩⟩
  obtain ⟨b1, h1, q1⟩ := msmall_ev a0_0 l0_1
  obtain ⟨k1, s1⟩ := h1.rounds
  have S1 := Aside0.mk s1
  clear s1 h1
  cases b1
  case false =>
    go_enter Try.func4, Try.ntmps4
    go_wp2_with (first
      | (go_at_call 7; refine (switchboardref15_Small.calls k1 _ _ _ l0_1 false _ (Kd.C_below HR0.out HL0.out.hb) HC0.out S1.out).mono ?_; rintro e w1 ⟨rfl, hb⟩; have HL1 := Aside0.mk (HL0.out.below hb); clear hb; have hp1 : w1.cell? ⟨w.heap.size + 1, 1, none⟩ = some (.slice A1_1 l1_1.length c1_1) := (blk_cell HL1.out.p 1).trans rfl)
      | (go_at_call 9; refine (switchboardlaw18_awake.calls true _ rfl).mono ?_; rintro e w9 ⟨rfl, hb⟩; have HB9 := Aside0.mk (below_step HL1.out.hb hb); clear hb))
    go_ret
    exact ⟨rfl, HB9.out⟩
  obtain ⟨b2, h2, q2⟩ := small_ev l1_1
  obtain ⟨k2, s2⟩ := h2.rounds
  have S2 := Aside0.mk s2
  clear s2 h2
  cases b2
  case false =>
    go_enter Try.func4, Try.ntmps4
    go_wp2_with (first
      | (go_at_call 7; refine (switchboardref15_Small.calls k1 _ _ _ l0_1 true _ (Kd.C_below HR0.out HL0.out.hb) HC0.out S1.out).mono ?_; rintro e w1 ⟨rfl, hb⟩; have HL1 := Aside0.mk (HL0.out.below hb); clear hb; have hp1 : w1.cell? ⟨w.heap.size + 1, 1, none⟩ = some (.slice A1_1 l1_1.length c1_1) := (blk_cell HL1.out.p 1).trans rfl)
      | (go_at_call 8; refine (switchboardref03_Small.calls k2 _ _ l1_1 false _ (Kd.C_below HR1.out HL1.out.hb) HC1.out S2.out).mono ?_; rintro e w2 ⟨rfl, hd⟩; have HL2 := Aside0.mk (HL1.out.below hd.below); clear hp1 hd; have hm0 : w2.cell? ⟨w.heap.size, 0, none⟩ = some (.int .i64 a0_0) := (blk_cell HL2.out.m 0).trans rfl; have hm1 : w2.cell? ⟨w.heap.size, 1, none⟩ = some (.slice A0_1 l0_1.length c0_1) := (blk_cell HL2.out.m 1).trans rfl; have hp0 : w2.cell? ⟨w.heap.size + 1, 0, none⟩ = some (.int .i64 a1_0) := (blk_cell HL2.out.p 0).trans rfl; have hp1 : w2.cell? ⟨w.heap.size + 1, 1, none⟩ = some (.slice A1_1 l1_1.length c1_1) := (blk_cell HL2.out.p 1).trans rfl; have ha0 : w2.cell? ⟨w.heap.size + 1 + 1, 0, none⟩ = some (.int .i64 a3_0) := (blk_cell HL2.out.a 0).trans rfl; have ha1 : w2.cell? ⟨w.heap.size + 1 + 1, 1, none⟩ = some (.int .i64 a3_1) := (blk_cell HL2.out.a 1).trans rfl; have ha2 : w2.cell? ⟨w.heap.size + 1 + 1, 2, none⟩ = some (.int .i64 a3_2) := (blk_cell HL2.out.a 2).trans rfl; have ha3 : w2.cell? ⟨w.heap.size + 1 + 1, 3, none⟩ = some (.int .i64 a3_3) := (blk_cell HL2.out.a 3).trans rfl; have ha4 : w2.cell? ⟨w.heap.size + 1 + 1, 4, none⟩ = some (.int .i64 a3_4) := (blk_cell HL2.out.a 4).trans rfl; have ha5 : w2.cell? ⟨w.heap.size + 1 + 1, 5, none⟩ = some (.int .i64 a3_5) := (blk_cell HL2.out.a 5).trans rfl; have ha6 : w2.cell? ⟨w.heap.size + 1 + 1, 6, none⟩ = some (.int .i64 a3_6) := (blk_cell HL2.out.a 6).trans rfl; have ha7 : w2.cell? ⟨w.heap.size + 1 + 1, 7, none⟩ = some (.int .i64 a3_7) := (blk_cell HL2.out.a 7).trans rfl; have ha8 : w2.cell? ⟨w.heap.size + 1 + 1, 8, none⟩ = some (.int .i64 a3_8) := (blk_cell HL2.out.a 8).trans rfl; have ha9 : w2.cell? ⟨w.heap.size + 1 + 1, 9, none⟩ = some (.int .i64 a3_9) := (blk_cell HL2.out.a 9).trans rfl; have ha10 : w2.cell? ⟨w.heap.size + 1 + 1, 10, none⟩ = some (.slice A3_10 l3_10.length c3_10) := (blk_cell HL2.out.a 10).trans rfl)
      | (go_at_call 9; refine (switchboardlaw18_awake.calls true _ rfl).mono ?_; rintro e w9 ⟨rfl, hb⟩; have HB9 := Aside0.mk (below_step HL2.out.hb hb); clear hb))
    go_ret
    exact ⟨rfl, HB9.out⟩
  have FM := q1 rfl
  have FH := q2 rfl
  clear q1 q2
  by_cases hv : l3_10.length ≤ 30
  case neg =>
    have e1a : decide ((l3_10.length : Int) > 30) = true := decide_eq_true (by omega)
    have e1b : decide (30 < (l3_10.length : Int)) = true := decide_eq_true (by omega)
    have e1c : decide (30 < l3_10.length) = true := decide_eq_true (by omega)
    clear hv
    go_enter Try.func4, Try.ntmps4
    go_wp2_with (first
      | (go_at_call 7; refine (switchboardref15_Small.calls k1 _ _ _ l0_1 true _ (Kd.C_below HR0.out HL0.out.hb) HC0.out S1.out).mono ?_; rintro e w1 ⟨rfl, hb⟩; have HL1 := Aside0.mk (HL0.out.below hb); clear hb; have hp1 : w1.cell? ⟨w.heap.size + 1, 1, none⟩ = some (.slice A1_1 l1_1.length c1_1) := (blk_cell HL1.out.p 1).trans rfl)
      | (go_at_call 8; refine (switchboardref03_Small.calls k2 _ _ l1_1 true _ (Kd.C_below HR1.out HL1.out.hb) HC1.out S2.out).mono ?_; rintro e w2 ⟨rfl, hd⟩; have HL2 := Aside0.mk (HL1.out.below hd.below); clear hp1 hd; have hm0 : w2.cell? ⟨w.heap.size, 0, none⟩ = some (.int .i64 a0_0) := (blk_cell HL2.out.m 0).trans rfl; have hm1 : w2.cell? ⟨w.heap.size, 1, none⟩ = some (.slice A0_1 l0_1.length c0_1) := (blk_cell HL2.out.m 1).trans rfl; have hp0 : w2.cell? ⟨w.heap.size + 1, 0, none⟩ = some (.int .i64 a1_0) := (blk_cell HL2.out.p 0).trans rfl; have hp1 : w2.cell? ⟨w.heap.size + 1, 1, none⟩ = some (.slice A1_1 l1_1.length c1_1) := (blk_cell HL2.out.p 1).trans rfl; have ha0 : w2.cell? ⟨w.heap.size + 1 + 1, 0, none⟩ = some (.int .i64 a3_0) := (blk_cell HL2.out.a 0).trans rfl; have ha1 : w2.cell? ⟨w.heap.size + 1 + 1, 1, none⟩ = some (.int .i64 a3_1) := (blk_cell HL2.out.a 1).trans rfl; have ha2 : w2.cell? ⟨w.heap.size + 1 + 1, 2, none⟩ = some (.int .i64 a3_2) := (blk_cell HL2.out.a 2).trans rfl; have ha3 : w2.cell? ⟨w.heap.size + 1 + 1, 3, none⟩ = some (.int .i64 a3_3) := (blk_cell HL2.out.a 3).trans rfl; have ha4 : w2.cell? ⟨w.heap.size + 1 + 1, 4, none⟩ = some (.int .i64 a3_4) := (blk_cell HL2.out.a 4).trans rfl; have ha5 : w2.cell? ⟨w.heap.size + 1 + 1, 5, none⟩ = some (.int .i64 a3_5) := (blk_cell HL2.out.a 5).trans rfl; have ha6 : w2.cell? ⟨w.heap.size + 1 + 1, 6, none⟩ = some (.int .i64 a3_6) := (blk_cell HL2.out.a 6).trans rfl; have ha7 : w2.cell? ⟨w.heap.size + 1 + 1, 7, none⟩ = some (.int .i64 a3_7) := (blk_cell HL2.out.a 7).trans rfl; have ha8 : w2.cell? ⟨w.heap.size + 1 + 1, 8, none⟩ = some (.int .i64 a3_8) := (blk_cell HL2.out.a 8).trans rfl; have ha9 : w2.cell? ⟨w.heap.size + 1 + 1, 9, none⟩ = some (.int .i64 a3_9) := (blk_cell HL2.out.a 9).trans rfl; have ha10 : w2.cell? ⟨w.heap.size + 1 + 1, 10, none⟩ = some (.slice A3_10 l3_10.length c3_10) := (blk_cell HL2.out.a 10).trans rfl)
      | (go_at_call 9; refine (switchboardlaw18_awake.calls true _ rfl).mono ?_; rintro e w9 ⟨rfl, hb⟩; have HB9 := Aside0.mk (below_step HL2.out.hb hb); clear hb))
    go_ret
    exact ⟨rfl, HB9.out⟩
  have e1a : decide ((l3_10.length : Int) > 30) = false := decide_eq_false (by omega)
  have e1b : decide (30 < (l3_10.length : Int)) = false := decide_eq_false (by omega)
  have e1c : decide (30 < l3_10.length) = false := decide_eq_false (by omega)
  by_cases hv4 : l4.length ≤ 30
  case neg =>
    have e3a : decide ((l4.length : Int) > 30) = true := decide_eq_true (by omega)
    have e3b : decide (30 < (l4.length : Int)) = true := decide_eq_true (by omega)
    have e3c : decide (30 < l4.length) = true := decide_eq_true (by omega)
    clear hv hv4
    go_enter Try.func4, Try.ntmps4
    go_wp2_with (first
      | (go_at_call 7; refine (switchboardref15_Small.calls k1 _ _ _ l0_1 true _ (Kd.C_below HR0.out HL0.out.hb) HC0.out S1.out).mono ?_; rintro e w1 ⟨rfl, hb⟩; have HL1 := Aside0.mk (HL0.out.below hb); clear hb; have hp1 : w1.cell? ⟨w.heap.size + 1, 1, none⟩ = some (.slice A1_1 l1_1.length c1_1) := (blk_cell HL1.out.p 1).trans rfl)
      | (go_at_call 8; refine (switchboardref03_Small.calls k2 _ _ l1_1 true _ (Kd.C_below HR1.out HL1.out.hb) HC1.out S2.out).mono ?_; rintro e w2 ⟨rfl, hd⟩; have HL2 := Aside0.mk (HL1.out.below hd.below); clear hp1 hd; have hm0 : w2.cell? ⟨w.heap.size, 0, none⟩ = some (.int .i64 a0_0) := (blk_cell HL2.out.m 0).trans rfl; have hm1 : w2.cell? ⟨w.heap.size, 1, none⟩ = some (.slice A0_1 l0_1.length c0_1) := (blk_cell HL2.out.m 1).trans rfl; have hp0 : w2.cell? ⟨w.heap.size + 1, 0, none⟩ = some (.int .i64 a1_0) := (blk_cell HL2.out.p 0).trans rfl; have hp1 : w2.cell? ⟨w.heap.size + 1, 1, none⟩ = some (.slice A1_1 l1_1.length c1_1) := (blk_cell HL2.out.p 1).trans rfl; have ha0 : w2.cell? ⟨w.heap.size + 1 + 1, 0, none⟩ = some (.int .i64 a3_0) := (blk_cell HL2.out.a 0).trans rfl; have ha1 : w2.cell? ⟨w.heap.size + 1 + 1, 1, none⟩ = some (.int .i64 a3_1) := (blk_cell HL2.out.a 1).trans rfl; have ha2 : w2.cell? ⟨w.heap.size + 1 + 1, 2, none⟩ = some (.int .i64 a3_2) := (blk_cell HL2.out.a 2).trans rfl; have ha3 : w2.cell? ⟨w.heap.size + 1 + 1, 3, none⟩ = some (.int .i64 a3_3) := (blk_cell HL2.out.a 3).trans rfl; have ha4 : w2.cell? ⟨w.heap.size + 1 + 1, 4, none⟩ = some (.int .i64 a3_4) := (blk_cell HL2.out.a 4).trans rfl; have ha5 : w2.cell? ⟨w.heap.size + 1 + 1, 5, none⟩ = some (.int .i64 a3_5) := (blk_cell HL2.out.a 5).trans rfl; have ha6 : w2.cell? ⟨w.heap.size + 1 + 1, 6, none⟩ = some (.int .i64 a3_6) := (blk_cell HL2.out.a 6).trans rfl; have ha7 : w2.cell? ⟨w.heap.size + 1 + 1, 7, none⟩ = some (.int .i64 a3_7) := (blk_cell HL2.out.a 7).trans rfl; have ha8 : w2.cell? ⟨w.heap.size + 1 + 1, 8, none⟩ = some (.int .i64 a3_8) := (blk_cell HL2.out.a 8).trans rfl; have ha9 : w2.cell? ⟨w.heap.size + 1 + 1, 9, none⟩ = some (.int .i64 a3_9) := (blk_cell HL2.out.a 9).trans rfl; have ha10 : w2.cell? ⟨w.heap.size + 1 + 1, 10, none⟩ = some (.slice A3_10 l3_10.length c3_10) := (blk_cell HL2.out.a 10).trans rfl)
      | (go_at_call 9; refine (switchboardlaw18_awake.calls true _ rfl).mono ?_; rintro e w9 ⟨rfl, hb⟩; have HB9 := Aside0.mk (below_step HL2.out.hb hb); clear hb))
    go_ret
    exact ⟨rfl, HB9.out⟩
  have e3a : decide ((l4.length : Int) > 30) = false := decide_eq_false (by omega)
  have e3b : decide (30 < (l4.length : Int)) = false := decide_eq_false (by omega)
  have e3c : decide (30 < l4.length) = false := decide_eq_false (by omega)
  obtain ⟨pb, hp⟩ := place_ev a1_0 FH
  obtain ⟨hb, hh⟩ := holds_ev a1_0 FH a3_8 a2
  have hf := fits_ev hp a0_0 l0_1 a2 a3_0 a3_1 a3_2 a3_3 a3_4 a3_5 a3_6 a3_7 a3_8 a3_9 l3_10 (by omega)
  have hf2 := fits_ev hp a0_0 l0_1 a2 a3_0 a3_1 a3_2 a3_3 a3_4 a3_5 a3_6 a3_7 a3_8 a3_9 l4 (by omega)
  cases hfb : fitsB pb a0_0 l0_1 a2 a3_0 a3_1 a3_2 a3_3 a3_4 a3_5 a3_6 a3_7 a3_8 a3_9 l3_10
  all_goals rw [hfb] at hf
  case false =>
    obtain ⟨k3, w3e⟩ := (work_no (es := []) hf).rounds
    have K3 := Aside0.mk w3e
    obtain ⟨⟨es2, q0, q1, q2, q3, q4, q5, q6, q7, q8, q9, x2, ok2⟩, w4e⟩ := work_any rfl hf2 hh
    obtain ⟨k4, w4e⟩ := w4e.rounds
    have K4 := Aside0.mk w4e
    clear w3e w4e hf hf2 hh hp FM FH hv hv4 hfb
    go_enter Try.func4, Try.ntmps4
    go_upto_region 3 with (first | (go_at_call 7; refine (switchboardref15_Small.calls k1 _ _ _ l0_1 true _ (Kd.C_below HR0.out HL0.out.hb) HC0.out S1.out).mono ?_; rintro e w1 ⟨rfl, hb⟩; have HL1 := Aside0.mk (HL0.out.below hb); clear hb; have hp1 : w1.cell? ⟨w.heap.size + 1, 1, none⟩ = some (.slice A1_1 l1_1.length c1_1) := (blk_cell HL1.out.p 1).trans rfl) | (go_at_call 8; refine (switchboardref03_Small.calls k2 _ _ l1_1 true _ (Kd.C_below HR1.out HL1.out.hb) HC1.out S2.out).mono ?_; rintro e w2 ⟨rfl, hd⟩; have HL2 := Aside0.mk (HL1.out.below hd.below); clear hp1 hd; have hm0 : w2.cell? ⟨w.heap.size, 0, none⟩ = some (.int .i64 a0_0) := (blk_cell HL2.out.m 0).trans rfl; have hm1 : w2.cell? ⟨w.heap.size, 1, none⟩ = some (.slice A0_1 l0_1.length c0_1) := (blk_cell HL2.out.m 1).trans rfl; have hp0 : w2.cell? ⟨w.heap.size + 1, 0, none⟩ = some (.int .i64 a1_0) := (blk_cell HL2.out.p 0).trans rfl; have hp1 : w2.cell? ⟨w.heap.size + 1, 1, none⟩ = some (.slice A1_1 l1_1.length c1_1) := (blk_cell HL2.out.p 1).trans rfl; have ha0 : w2.cell? ⟨w.heap.size + 1 + 1, 0, none⟩ = some (.int .i64 a3_0) := (blk_cell HL2.out.a 0).trans rfl; have ha1 : w2.cell? ⟨w.heap.size + 1 + 1, 1, none⟩ = some (.int .i64 a3_1) := (blk_cell HL2.out.a 1).trans rfl; have ha2 : w2.cell? ⟨w.heap.size + 1 + 1, 2, none⟩ = some (.int .i64 a3_2) := (blk_cell HL2.out.a 2).trans rfl; have ha3 : w2.cell? ⟨w.heap.size + 1 + 1, 3, none⟩ = some (.int .i64 a3_3) := (blk_cell HL2.out.a 3).trans rfl; have ha4 : w2.cell? ⟨w.heap.size + 1 + 1, 4, none⟩ = some (.int .i64 a3_4) := (blk_cell HL2.out.a 4).trans rfl; have ha5 : w2.cell? ⟨w.heap.size + 1 + 1, 5, none⟩ = some (.int .i64 a3_5) := (blk_cell HL2.out.a 5).trans rfl; have ha6 : w2.cell? ⟨w.heap.size + 1 + 1, 6, none⟩ = some (.int .i64 a3_6) := (blk_cell HL2.out.a 6).trans rfl; have ha7 : w2.cell? ⟨w.heap.size + 1 + 1, 7, none⟩ = some (.int .i64 a3_7) := (blk_cell HL2.out.a 7).trans rfl; have ha8 : w2.cell? ⟨w.heap.size + 1 + 1, 8, none⟩ = some (.int .i64 a3_8) := (blk_cell HL2.out.a 8).trans rfl; have ha9 : w2.cell? ⟨w.heap.size + 1 + 1, 9, none⟩ = some (.int .i64 a3_9) := (blk_cell HL2.out.a 9).trans rfl; have ha10 : w2.cell? ⟨w.heap.size + 1 + 1, 10, none⟩ = some (.slice A3_10 l3_10.length c3_10) := (blk_cell HL2.out.a 10).trans rfl))
    go_upto_region 4 with (go_at_call 10; refine (node_Work.calls k3 a0_0 _ _ l0_1 a1_0 _ _ l1_1 a2 (fun _ => False) none 0 [] a3_0 a3_1 a3_2 a3_3 a3_4 a3_5 a3_6 a3_7 a3_8 a3_9 _ _ l3_10 [] 0 0 0 0 0 0 0 0 0 0 [] false _ (Kd.C_below HR0.out HL2.out.hb) HC0.out (Kd.C_below HR1.out HL2.out.hb) HC1.out (Kd.V_nil _ _ _ _ _) (Kd.C_below HR3.out HL2.out.hb) HC3.out K3.out).mono ?_; rintro e w3 ⟨v3, u3, rfl, hv3, ho3, hb⟩; have HL3 := Aside0.mk (HL2.out.below hb); clear hb hm0 hm1 hp0 hp1 ha0 ha1 ha2 ha3 ha4 ha5 ha6 ha7 ha8 ha9 ha10; obtain ⟨A3, c3, rfl⟩ := Kd.V_slice hv3; obtain ⟨A5, c5, rfl⟩ := Kd.R_slice ho3; have HV3 := Aside0.mk hv3; have HX3 := Aside0.mk (Kd.R_reads' ho3).2.2; have HXC := Aside0.mk (Kd.R_reads' ho3).2.1; clear hv3 ho3)
    have HL4 := Aside0.mk (HL3.out.below (below_alloc (Below.refl _ _) (.cells #[.int .i64 0, .int .i64 0, .int .i64 0, .int .i64 0, .int .i64 0, .int .i64 0, .int .i64 0, .int .i64 0, .int .i64 0, .int .i64 0, .slice A5 0 c5] 31)))
    have HB4 := Aside0.mk (alloc_at (W := w3) (.cells #[.int .i64 0, .int .i64 0, .int .i64 0, .int .i64 0, .int .i64 0, .int .i64 0, .int .i64 0, .int .i64 0, .int .i64 0, .int .i64 0, .slice A5 0 c5] 31) rfl)
    have HV4 := Aside0.mk (Kd.V_alloc HV3.out (.cells #[.int .i64 0, .int .i64 0, .int .i64 0, .int .i64 0, .int .i64 0, .int .i64 0, .int .i64 0, .int .i64 0, .int .i64 0, .int .i64 0, .slice A5 0 c5] 31))
    have HX4 := Aside0.mk (Kd.C_alloc HX3.out (.cells #[.int .i64 0, .int .i64 0, .int .i64 0, .int .i64 0, .int .i64 0, .int .i64 0, .int .i64 0, .int .i64 0, .int .i64 0, .int .i64 0, .slice A5 0 c5] 31))
    generalize w3.alloc (.cells #[.int .i64 0, .int .i64 0, .int .i64 0, .int .i64 0, .int .i64 0, .int .i64 0, .int .i64 0, .int .i64 0, .int .i64 0, .int .i64 0, .slice A5 0 c5] 31) = w4 at HL4 HB4 HV4 HX4 ⊢
    clear HL3 HV3 HX3
    have ha0 : w4.cell? ⟨w.heap.size + 1 + 1, 0, none⟩ = some (.int .i64 a3_0) := (blk_cell HL4.out.a 0).trans rfl
    have ha1 : w4.cell? ⟨w.heap.size + 1 + 1, 1, none⟩ = some (.int .i64 a3_1) := (blk_cell HL4.out.a 1).trans rfl
    have ha2 : w4.cell? ⟨w.heap.size + 1 + 1, 2, none⟩ = some (.int .i64 a3_2) := (blk_cell HL4.out.a 2).trans rfl
    have ha3 : w4.cell? ⟨w.heap.size + 1 + 1, 3, none⟩ = some (.int .i64 a3_3) := (blk_cell HL4.out.a 3).trans rfl
    have ha4 : w4.cell? ⟨w.heap.size + 1 + 1, 4, none⟩ = some (.int .i64 a3_4) := (blk_cell HL4.out.a 4).trans rfl
    have ha5 : w4.cell? ⟨w.heap.size + 1 + 1, 5, none⟩ = some (.int .i64 a3_5) := (blk_cell HL4.out.a 5).trans rfl
    have ha6 : w4.cell? ⟨w.heap.size + 1 + 1, 6, none⟩ = some (.int .i64 a3_6) := (blk_cell HL4.out.a 6).trans rfl
    have ha7 : w4.cell? ⟨w.heap.size + 1 + 1, 7, none⟩ = some (.int .i64 a3_7) := (blk_cell HL4.out.a 7).trans rfl
    have ha8 : w4.cell? ⟨w.heap.size + 1 + 1, 8, none⟩ = some (.int .i64 a3_8) := (blk_cell HL4.out.a 8).trans rfl
    have ha9 : w4.cell? ⟨w.heap.size + 1 + 1, 9, none⟩ = some (.int .i64 a3_9) := (blk_cell HL4.out.a 9).trans rfl
    have ha10 : w4.cell? ⟨w.heap.size + 1 + 1, 10, none⟩ = some (.slice A3_10 l3_10.length c3_10) := (blk_cell HL4.out.a 10).trans rfl
    go_upto_region 6 with (fail)
    have HL5 := Aside0.mk (HL4.out.below (below_alloc (Below.refl _ _) (.cells #[.int .i64 a3_0, .int .i64 a3_1, .int .i64 a3_2, .int .i64 a3_3, .int .i64 a3_4, .int .i64 a3_5, .int .i64 a3_6, .int .i64 a3_7, .int .i64 a3_8, .int .i64 a3_9, .slice A4 l4.length c4] 31)))
    have HB5 := Aside0.mk (blk_alloc HB4.out (.cells #[.int .i64 a3_0, .int .i64 a3_1, .int .i64 a3_2, .int .i64 a3_3, .int .i64 a3_4, .int .i64 a3_5, .int .i64 a3_6, .int .i64 a3_7, .int .i64 a3_8, .int .i64 a3_9, .slice A4 l4.length c4] 31))
    have HV5 := Aside0.mk (Kd.V_alloc HV4.out (.cells #[.int .i64 a3_0, .int .i64 a3_1, .int .i64 a3_2, .int .i64 a3_3, .int .i64 a3_4, .int .i64 a3_5, .int .i64 a3_6, .int .i64 a3_7, .int .i64 a3_8, .int .i64 a3_9, .slice A4 l4.length c4] 31))
    have HX5 := Aside0.mk (Kd.C_alloc HX4.out (.cells #[.int .i64 a3_0, .int .i64 a3_1, .int .i64 a3_2, .int .i64 a3_3, .int .i64 a3_4, .int .i64 a3_5, .int .i64 a3_6, .int .i64 a3_7, .int .i64 a3_8, .int .i64 a3_9, .slice A4 l4.length c4] 31))
    have HO5 := Aside0.mk (alloc_at (W := w4) (.cells #[.int .i64 a3_0, .int .i64 a3_1, .int .i64 a3_2, .int .i64 a3_3, .int .i64 a3_4, .int .i64 a3_5, .int .i64 a3_6, .int .i64 a3_7, .int .i64 a3_8, .int .i64 a3_9, .slice A4 l4.length c4] 31) rfl)
    generalize w4.alloc (.cells #[.int .i64 a3_0, .int .i64 a3_1, .int .i64 a3_2, .int .i64 a3_3, .int .i64 a3_4, .int .i64 a3_5, .int .i64 a3_6, .int .i64 a3_7, .int .i64 a3_8, .int .i64 a3_9, .slice A4 l4.length c4] 31) = w5 at HL5 HB5 HV5 HX5 HO5 ⊢
    clear HL4 HB4 HV4 HX4 ha0 ha1 ha2 ha3 ha4 ha5 ha6 ha7 ha8 ha9 ha10
    have hm0 : w5.cell? ⟨w.heap.size, 0, none⟩ = some (.int .i64 a0_0) := (blk_cell HL5.out.m 0).trans rfl
    have hm1 : w5.cell? ⟨w.heap.size, 1, none⟩ = some (.slice A0_1 l0_1.length c0_1) := (blk_cell HL5.out.m 1).trans rfl
    have hp0 : w5.cell? ⟨w.heap.size + 1, 0, none⟩ = some (.int .i64 a1_0) := (blk_cell HL5.out.p 0).trans rfl
    have hp1 : w5.cell? ⟨w.heap.size + 1, 1, none⟩ = some (.slice A1_1 l1_1.length c1_1) := (blk_cell HL5.out.p 1).trans rfl
    have hq0 : w5.cell? ⟨w4.heap.size, 0, none⟩ = some (.int .i64 a3_0) := (blk_cell HO5.out 0).trans rfl
    have hq1 : w5.cell? ⟨w4.heap.size, 1, none⟩ = some (.int .i64 a3_1) := (blk_cell HO5.out 1).trans rfl
    have hq2 : w5.cell? ⟨w4.heap.size, 2, none⟩ = some (.int .i64 a3_2) := (blk_cell HO5.out 2).trans rfl
    have hq3 : w5.cell? ⟨w4.heap.size, 3, none⟩ = some (.int .i64 a3_3) := (blk_cell HO5.out 3).trans rfl
    have hq4 : w5.cell? ⟨w4.heap.size, 4, none⟩ = some (.int .i64 a3_4) := (blk_cell HO5.out 4).trans rfl
    have hq5 : w5.cell? ⟨w4.heap.size, 5, none⟩ = some (.int .i64 a3_5) := (blk_cell HO5.out 5).trans rfl
    have hq6 : w5.cell? ⟨w4.heap.size, 6, none⟩ = some (.int .i64 a3_6) := (blk_cell HO5.out 6).trans rfl
    have hq7 : w5.cell? ⟨w4.heap.size, 7, none⟩ = some (.int .i64 a3_7) := (blk_cell HO5.out 7).trans rfl
    have hq8 : w5.cell? ⟨w4.heap.size, 8, none⟩ = some (.int .i64 a3_8) := (blk_cell HO5.out 8).trans rfl
    have hq9 : w5.cell? ⟨w4.heap.size, 9, none⟩ = some (.int .i64 a3_9) := (blk_cell HO5.out 9).trans rfl
    have hq10 : w5.cell? ⟨w4.heap.size, 10, none⟩ = some (.slice A4 l4.length c4) := (blk_cell HO5.out 10).trans rfl
    go_upto_region 7 with (go_at_call 10; refine (node_Work.calls k4 a0_0 _ _ l0_1 a1_0 _ _ l1_1 a2 _ _ _ [] a3_0 a3_1 a3_2 a3_3 a3_4 a3_5 a3_6 a3_7 a3_8 a3_9 _ _ l4 es2 q0 q1 q2 q3 q4 q5 q6 q7 q8 q9 x2 ok2 _ (Kd.C_below HR0.out HL5.out.hb) HC0.out (Kd.C_below HR1.out HL5.out.hb) HC1.out HV5.out (Kd.C_below HR4.out HL5.out.hb) HC4.out K4.out).mono ?_; rintro e w6 ⟨v6, u6, rfl, hv6, ho6, hb⟩; have HL6 := Aside0.mk (HL5.out.below hb); have HB6 := Aside0.mk (blk_below HB5.out hb); have HX6 := Aside0.mk (Kd.C_below HX5.out hb); clear hb hm0 hm1 hp0 hp1 hq0 hq1 hq2 hq3 hq4 hq5 hq6 hq7 hq8 hq9 hq10; obtain ⟨A6, c6, rfl⟩ := Kd.V_slice hv6; obtain ⟨A7, c7, rfl⟩ := Kd.R_slice ho6; have HY6 := Aside0.mk (Kd.R_reads' ho6).2.2; have HYC := Aside0.mk (Kd.R_reads' ho6).2.1; clear hv6 ho6)
    have HL7 := Aside0.mk (HL6.out.below (below_alloc (Below.refl _ _) (.cells #[.int .i64 q0, .int .i64 q1, .int .i64 q2, .int .i64 q3, .int .i64 q4, .int .i64 q5, .int .i64 q6, .int .i64 q7, .int .i64 q8, .int .i64 q9, .slice A7 x2.length c7] 31)))
    have HB7 := Aside0.mk (blk_alloc HB6.out (.cells #[.int .i64 q0, .int .i64 q1, .int .i64 q2, .int .i64 q3, .int .i64 q4, .int .i64 q5, .int .i64 q6, .int .i64 q7, .int .i64 q8, .int .i64 q9, .slice A7 x2.length c7] 31))
    have HX7 := Aside0.mk (Kd.C_alloc HX6.out (.cells #[.int .i64 q0, .int .i64 q1, .int .i64 q2, .int .i64 q3, .int .i64 q4, .int .i64 q5, .int .i64 q6, .int .i64 q7, .int .i64 q8, .int .i64 q9, .slice A7 x2.length c7] 31))
    have HY7 := Aside0.mk (Kd.C_alloc HY6.out (.cells #[.int .i64 q0, .int .i64 q1, .int .i64 q2, .int .i64 q3, .int .i64 q4, .int .i64 q5, .int .i64 q6, .int .i64 q7, .int .i64 q8, .int .i64 q9, .slice A7 x2.length c7] 31))
    have HD7 := Aside0.mk (alloc_at (W := w6) (.cells #[.int .i64 q0, .int .i64 q1, .int .i64 q2, .int .i64 q3, .int .i64 q4, .int .i64 q5, .int .i64 q6, .int .i64 q7, .int .i64 q8, .int .i64 q9, .slice A7 x2.length c7] 31) rfl)
    generalize w6.alloc (.cells #[.int .i64 q0, .int .i64 q1, .int .i64 q2, .int .i64 q3, .int .i64 q4, .int .i64 q5, .int .i64 q6, .int .i64 q7, .int .i64 q8, .int .i64 q9, .slice A7 x2.length c7] 31) = w7 at HL7 HB7 HX7 HY7 HD7 ⊢
    have hb0 : w7.cell? ⟨w3.heap.size, 0, none⟩ = some (.int .i64 0) := (blk_cell HB7.out 0).trans rfl
    have hb1 : w7.cell? ⟨w3.heap.size, 1, none⟩ = some (.int .i64 0) := (blk_cell HB7.out 1).trans rfl
    have hb2 : w7.cell? ⟨w3.heap.size, 2, none⟩ = some (.int .i64 0) := (blk_cell HB7.out 2).trans rfl
    have hb3 : w7.cell? ⟨w3.heap.size, 3, none⟩ = some (.int .i64 0) := (blk_cell HB7.out 3).trans rfl
    have hb4 : w7.cell? ⟨w3.heap.size, 4, none⟩ = some (.int .i64 0) := (blk_cell HB7.out 4).trans rfl
    have hb5 : w7.cell? ⟨w3.heap.size, 5, none⟩ = some (.int .i64 0) := (blk_cell HB7.out 5).trans rfl
    have hb6 : w7.cell? ⟨w3.heap.size, 6, none⟩ = some (.int .i64 0) := (blk_cell HB7.out 6).trans rfl
    have hb7 : w7.cell? ⟨w3.heap.size, 7, none⟩ = some (.int .i64 0) := (blk_cell HB7.out 7).trans rfl
    have hb8 : w7.cell? ⟨w3.heap.size, 8, none⟩ = some (.int .i64 0) := (blk_cell HB7.out 8).trans rfl
    have hb9 : w7.cell? ⟨w3.heap.size, 9, none⟩ = some (.int .i64 0) := (blk_cell HB7.out 9).trans rfl
    have hb10 : w7.cell? ⟨w3.heap.size, 10, none⟩ = some (.slice A5 0 c5) := (blk_cell HB7.out 10).trans rfl
    have hd0 : w7.cell? ⟨w6.heap.size, 0, none⟩ = some (.int .i64 q0) := (blk_cell HD7.out 0).trans rfl
    have hd1 : w7.cell? ⟨w6.heap.size, 1, none⟩ = some (.int .i64 q1) := (blk_cell HD7.out 1).trans rfl
    have hd2 : w7.cell? ⟨w6.heap.size, 2, none⟩ = some (.int .i64 q2) := (blk_cell HD7.out 2).trans rfl
    have hd3 : w7.cell? ⟨w6.heap.size, 3, none⟩ = some (.int .i64 q3) := (blk_cell HD7.out 3).trans rfl
    have hd4 : w7.cell? ⟨w6.heap.size, 4, none⟩ = some (.int .i64 q4) := (blk_cell HD7.out 4).trans rfl
    have hd5 : w7.cell? ⟨w6.heap.size, 5, none⟩ = some (.int .i64 q5) := (blk_cell HD7.out 5).trans rfl
    have hd6 : w7.cell? ⟨w6.heap.size, 6, none⟩ = some (.int .i64 q6) := (blk_cell HD7.out 6).trans rfl
    have hd7 : w7.cell? ⟨w6.heap.size, 7, none⟩ = some (.int .i64 q7) := (blk_cell HD7.out 7).trans rfl
    have hd8 : w7.cell? ⟨w6.heap.size, 8, none⟩ = some (.int .i64 q8) := (blk_cell HD7.out 8).trans rfl
    have hd9 : w7.cell? ⟨w6.heap.size, 9, none⟩ = some (.int .i64 q9) := (blk_cell HD7.out 9).trans rfl
    have hd10 : w7.cell? ⟨w6.heap.size, 10, none⟩ = some (.slice A7 x2.length c7) := (blk_cell HD7.out 10).trans rfl
    go_wp2_with (go_at_call 9; refine (switchboardlaw18_awake.calls true _ rfl).mono ?_; rintro e w9 ⟨rfl, hb⟩; have HB9 := Aside0.mk (below_step HL7.out.hb hb); clear hb)
    go_ret
    exact ⟨rfl, HB9.out⟩
  by_cases h9 : a3_9 = a1_0 ∧ hb = true
  case neg =>
    obtain ⟨k3, w3e⟩ := (work_stale (es := []) hf hh (by cases hb; exact .inr rfl; exact .inl (fun hc => h9 ⟨hc, rfl⟩))).rounds
    have K3 := Aside0.mk w3e
    obtain ⟨⟨es2, q0, q1, q2, q3, q4, q5, q6, q7, q8, q9, x2, ok2⟩, w4e⟩ := work_any rfl hf2 hh
    obtain ⟨k4, w4e⟩ := w4e.rounds
    have K4 := Aside0.mk w4e
    clear w3e w4e hf hf2 hh hp FM FH hv hv4 hfb h9
    go_enter Try.func4, Try.ntmps4
    go_upto_region 3 with (first | (go_at_call 7; refine (switchboardref15_Small.calls k1 _ _ _ l0_1 true _ (Kd.C_below HR0.out HL0.out.hb) HC0.out S1.out).mono ?_; rintro e w1 ⟨rfl, hb⟩; have HL1 := Aside0.mk (HL0.out.below hb); clear hb; have hp1 : w1.cell? ⟨w.heap.size + 1, 1, none⟩ = some (.slice A1_1 l1_1.length c1_1) := (blk_cell HL1.out.p 1).trans rfl) | (go_at_call 8; refine (switchboardref03_Small.calls k2 _ _ l1_1 true _ (Kd.C_below HR1.out HL1.out.hb) HC1.out S2.out).mono ?_; rintro e w2 ⟨rfl, hd⟩; have HL2 := Aside0.mk (HL1.out.below hd.below); clear hp1 hd; have hm0 : w2.cell? ⟨w.heap.size, 0, none⟩ = some (.int .i64 a0_0) := (blk_cell HL2.out.m 0).trans rfl; have hm1 : w2.cell? ⟨w.heap.size, 1, none⟩ = some (.slice A0_1 l0_1.length c0_1) := (blk_cell HL2.out.m 1).trans rfl; have hp0 : w2.cell? ⟨w.heap.size + 1, 0, none⟩ = some (.int .i64 a1_0) := (blk_cell HL2.out.p 0).trans rfl; have hp1 : w2.cell? ⟨w.heap.size + 1, 1, none⟩ = some (.slice A1_1 l1_1.length c1_1) := (blk_cell HL2.out.p 1).trans rfl; have ha0 : w2.cell? ⟨w.heap.size + 1 + 1, 0, none⟩ = some (.int .i64 a3_0) := (blk_cell HL2.out.a 0).trans rfl; have ha1 : w2.cell? ⟨w.heap.size + 1 + 1, 1, none⟩ = some (.int .i64 a3_1) := (blk_cell HL2.out.a 1).trans rfl; have ha2 : w2.cell? ⟨w.heap.size + 1 + 1, 2, none⟩ = some (.int .i64 a3_2) := (blk_cell HL2.out.a 2).trans rfl; have ha3 : w2.cell? ⟨w.heap.size + 1 + 1, 3, none⟩ = some (.int .i64 a3_3) := (blk_cell HL2.out.a 3).trans rfl; have ha4 : w2.cell? ⟨w.heap.size + 1 + 1, 4, none⟩ = some (.int .i64 a3_4) := (blk_cell HL2.out.a 4).trans rfl; have ha5 : w2.cell? ⟨w.heap.size + 1 + 1, 5, none⟩ = some (.int .i64 a3_5) := (blk_cell HL2.out.a 5).trans rfl; have ha6 : w2.cell? ⟨w.heap.size + 1 + 1, 6, none⟩ = some (.int .i64 a3_6) := (blk_cell HL2.out.a 6).trans rfl; have ha7 : w2.cell? ⟨w.heap.size + 1 + 1, 7, none⟩ = some (.int .i64 a3_7) := (blk_cell HL2.out.a 7).trans rfl; have ha8 : w2.cell? ⟨w.heap.size + 1 + 1, 8, none⟩ = some (.int .i64 a3_8) := (blk_cell HL2.out.a 8).trans rfl; have ha9 : w2.cell? ⟨w.heap.size + 1 + 1, 9, none⟩ = some (.int .i64 a3_9) := (blk_cell HL2.out.a 9).trans rfl; have ha10 : w2.cell? ⟨w.heap.size + 1 + 1, 10, none⟩ = some (.slice A3_10 l3_10.length c3_10) := (blk_cell HL2.out.a 10).trans rfl))
    go_upto_region 4 with (go_at_call 10; refine (node_Work.calls k3 a0_0 _ _ l0_1 a1_0 _ _ l1_1 a2 (fun _ => False) none 0 [] a3_0 a3_1 a3_2 a3_3 a3_4 a3_5 a3_6 a3_7 a3_8 a3_9 _ _ l3_10 [] 3 a2 a3_1 a3_3 a3_4 a3_5 a3_6 a3_7 a3_8 a1_0 [] true _ (Kd.C_below HR0.out HL2.out.hb) HC0.out (Kd.C_below HR1.out HL2.out.hb) HC1.out (Kd.V_nil _ _ _ _ _) (Kd.C_below HR3.out HL2.out.hb) HC3.out K3.out).mono ?_; rintro e w3 ⟨v3, u3, rfl, hv3, ho3, hb⟩; have HL3 := Aside0.mk (HL2.out.below hb); clear hb hm0 hm1 hp0 hp1 ha0 ha1 ha2 ha3 ha4 ha5 ha6 ha7 ha8 ha9 ha10; obtain ⟨A3, c3, rfl⟩ := Kd.V_slice hv3; obtain ⟨A5, c5, rfl⟩ := Kd.R_slice ho3; have HV3 := Aside0.mk hv3; have HX3 := Aside0.mk (Kd.R_reads' ho3).2.2; have HXC := Aside0.mk (Kd.R_reads' ho3).2.1; clear hv3 ho3)
    have HL4 := Aside0.mk (HL3.out.below (below_alloc (Below.refl _ _) (.cells #[.int .i64 3, .int .i64 a2, .int .i64 a3_1, .int .i64 a3_3, .int .i64 a3_4, .int .i64 a3_5, .int .i64 a3_6, .int .i64 a3_7, .int .i64 a3_8, .int .i64 a1_0, .slice A5 0 c5] 31)))
    have HB4 := Aside0.mk (alloc_at (W := w3) (.cells #[.int .i64 3, .int .i64 a2, .int .i64 a3_1, .int .i64 a3_3, .int .i64 a3_4, .int .i64 a3_5, .int .i64 a3_6, .int .i64 a3_7, .int .i64 a3_8, .int .i64 a1_0, .slice A5 0 c5] 31) rfl)
    have HV4 := Aside0.mk (Kd.V_alloc HV3.out (.cells #[.int .i64 3, .int .i64 a2, .int .i64 a3_1, .int .i64 a3_3, .int .i64 a3_4, .int .i64 a3_5, .int .i64 a3_6, .int .i64 a3_7, .int .i64 a3_8, .int .i64 a1_0, .slice A5 0 c5] 31))
    have HX4 := Aside0.mk (Kd.C_alloc HX3.out (.cells #[.int .i64 3, .int .i64 a2, .int .i64 a3_1, .int .i64 a3_3, .int .i64 a3_4, .int .i64 a3_5, .int .i64 a3_6, .int .i64 a3_7, .int .i64 a3_8, .int .i64 a1_0, .slice A5 0 c5] 31))
    generalize w3.alloc (.cells #[.int .i64 3, .int .i64 a2, .int .i64 a3_1, .int .i64 a3_3, .int .i64 a3_4, .int .i64 a3_5, .int .i64 a3_6, .int .i64 a3_7, .int .i64 a3_8, .int .i64 a1_0, .slice A5 0 c5] 31) = w4 at HL4 HB4 HV4 HX4 ⊢
    clear HL3 HV3 HX3
    have ha0 : w4.cell? ⟨w.heap.size + 1 + 1, 0, none⟩ = some (.int .i64 a3_0) := (blk_cell HL4.out.a 0).trans rfl
    have ha1 : w4.cell? ⟨w.heap.size + 1 + 1, 1, none⟩ = some (.int .i64 a3_1) := (blk_cell HL4.out.a 1).trans rfl
    have ha2 : w4.cell? ⟨w.heap.size + 1 + 1, 2, none⟩ = some (.int .i64 a3_2) := (blk_cell HL4.out.a 2).trans rfl
    have ha3 : w4.cell? ⟨w.heap.size + 1 + 1, 3, none⟩ = some (.int .i64 a3_3) := (blk_cell HL4.out.a 3).trans rfl
    have ha4 : w4.cell? ⟨w.heap.size + 1 + 1, 4, none⟩ = some (.int .i64 a3_4) := (blk_cell HL4.out.a 4).trans rfl
    have ha5 : w4.cell? ⟨w.heap.size + 1 + 1, 5, none⟩ = some (.int .i64 a3_5) := (blk_cell HL4.out.a 5).trans rfl
    have ha6 : w4.cell? ⟨w.heap.size + 1 + 1, 6, none⟩ = some (.int .i64 a3_6) := (blk_cell HL4.out.a 6).trans rfl
    have ha7 : w4.cell? ⟨w.heap.size + 1 + 1, 7, none⟩ = some (.int .i64 a3_7) := (blk_cell HL4.out.a 7).trans rfl
    have ha8 : w4.cell? ⟨w.heap.size + 1 + 1, 8, none⟩ = some (.int .i64 a3_8) := (blk_cell HL4.out.a 8).trans rfl
    have ha9 : w4.cell? ⟨w.heap.size + 1 + 1, 9, none⟩ = some (.int .i64 a3_9) := (blk_cell HL4.out.a 9).trans rfl
    have ha10 : w4.cell? ⟨w.heap.size + 1 + 1, 10, none⟩ = some (.slice A3_10 l3_10.length c3_10) := (blk_cell HL4.out.a 10).trans rfl
    go_upto_region 6 with (fail)
    have HL5 := Aside0.mk (HL4.out.below (below_alloc (Below.refl _ _) (.cells #[.int .i64 a3_0, .int .i64 a3_1, .int .i64 a3_2, .int .i64 a3_3, .int .i64 a3_4, .int .i64 a3_5, .int .i64 a3_6, .int .i64 a3_7, .int .i64 a3_8, .int .i64 a3_9, .slice A4 l4.length c4] 31)))
    have HB5 := Aside0.mk (blk_alloc HB4.out (.cells #[.int .i64 a3_0, .int .i64 a3_1, .int .i64 a3_2, .int .i64 a3_3, .int .i64 a3_4, .int .i64 a3_5, .int .i64 a3_6, .int .i64 a3_7, .int .i64 a3_8, .int .i64 a3_9, .slice A4 l4.length c4] 31))
    have HV5 := Aside0.mk (Kd.V_alloc HV4.out (.cells #[.int .i64 a3_0, .int .i64 a3_1, .int .i64 a3_2, .int .i64 a3_3, .int .i64 a3_4, .int .i64 a3_5, .int .i64 a3_6, .int .i64 a3_7, .int .i64 a3_8, .int .i64 a3_9, .slice A4 l4.length c4] 31))
    have HX5 := Aside0.mk (Kd.C_alloc HX4.out (.cells #[.int .i64 a3_0, .int .i64 a3_1, .int .i64 a3_2, .int .i64 a3_3, .int .i64 a3_4, .int .i64 a3_5, .int .i64 a3_6, .int .i64 a3_7, .int .i64 a3_8, .int .i64 a3_9, .slice A4 l4.length c4] 31))
    have HO5 := Aside0.mk (alloc_at (W := w4) (.cells #[.int .i64 a3_0, .int .i64 a3_1, .int .i64 a3_2, .int .i64 a3_3, .int .i64 a3_4, .int .i64 a3_5, .int .i64 a3_6, .int .i64 a3_7, .int .i64 a3_8, .int .i64 a3_9, .slice A4 l4.length c4] 31) rfl)
    generalize w4.alloc (.cells #[.int .i64 a3_0, .int .i64 a3_1, .int .i64 a3_2, .int .i64 a3_3, .int .i64 a3_4, .int .i64 a3_5, .int .i64 a3_6, .int .i64 a3_7, .int .i64 a3_8, .int .i64 a3_9, .slice A4 l4.length c4] 31) = w5 at HL5 HB5 HV5 HX5 HO5 ⊢
    clear HL4 HB4 HV4 HX4 ha0 ha1 ha2 ha3 ha4 ha5 ha6 ha7 ha8 ha9 ha10
    have hm0 : w5.cell? ⟨w.heap.size, 0, none⟩ = some (.int .i64 a0_0) := (blk_cell HL5.out.m 0).trans rfl
    have hm1 : w5.cell? ⟨w.heap.size, 1, none⟩ = some (.slice A0_1 l0_1.length c0_1) := (blk_cell HL5.out.m 1).trans rfl
    have hp0 : w5.cell? ⟨w.heap.size + 1, 0, none⟩ = some (.int .i64 a1_0) := (blk_cell HL5.out.p 0).trans rfl
    have hp1 : w5.cell? ⟨w.heap.size + 1, 1, none⟩ = some (.slice A1_1 l1_1.length c1_1) := (blk_cell HL5.out.p 1).trans rfl
    have hq0 : w5.cell? ⟨w4.heap.size, 0, none⟩ = some (.int .i64 a3_0) := (blk_cell HO5.out 0).trans rfl
    have hq1 : w5.cell? ⟨w4.heap.size, 1, none⟩ = some (.int .i64 a3_1) := (blk_cell HO5.out 1).trans rfl
    have hq2 : w5.cell? ⟨w4.heap.size, 2, none⟩ = some (.int .i64 a3_2) := (blk_cell HO5.out 2).trans rfl
    have hq3 : w5.cell? ⟨w4.heap.size, 3, none⟩ = some (.int .i64 a3_3) := (blk_cell HO5.out 3).trans rfl
    have hq4 : w5.cell? ⟨w4.heap.size, 4, none⟩ = some (.int .i64 a3_4) := (blk_cell HO5.out 4).trans rfl
    have hq5 : w5.cell? ⟨w4.heap.size, 5, none⟩ = some (.int .i64 a3_5) := (blk_cell HO5.out 5).trans rfl
    have hq6 : w5.cell? ⟨w4.heap.size, 6, none⟩ = some (.int .i64 a3_6) := (blk_cell HO5.out 6).trans rfl
    have hq7 : w5.cell? ⟨w4.heap.size, 7, none⟩ = some (.int .i64 a3_7) := (blk_cell HO5.out 7).trans rfl
    have hq8 : w5.cell? ⟨w4.heap.size, 8, none⟩ = some (.int .i64 a3_8) := (blk_cell HO5.out 8).trans rfl
    have hq9 : w5.cell? ⟨w4.heap.size, 9, none⟩ = some (.int .i64 a3_9) := (blk_cell HO5.out 9).trans rfl
    have hq10 : w5.cell? ⟨w4.heap.size, 10, none⟩ = some (.slice A4 l4.length c4) := (blk_cell HO5.out 10).trans rfl
    go_upto_region 7 with (go_at_call 10; refine (node_Work.calls k4 a0_0 _ _ l0_1 a1_0 _ _ l1_1 a2 _ _ _ [] a3_0 a3_1 a3_2 a3_3 a3_4 a3_5 a3_6 a3_7 a3_8 a3_9 _ _ l4 es2 q0 q1 q2 q3 q4 q5 q6 q7 q8 q9 x2 ok2 _ (Kd.C_below HR0.out HL5.out.hb) HC0.out (Kd.C_below HR1.out HL5.out.hb) HC1.out HV5.out (Kd.C_below HR4.out HL5.out.hb) HC4.out K4.out).mono ?_; rintro e w6 ⟨v6, u6, rfl, hv6, ho6, hb⟩; have HL6 := Aside0.mk (HL5.out.below hb); have HB6 := Aside0.mk (blk_below HB5.out hb); have HX6 := Aside0.mk (Kd.C_below HX5.out hb); clear hb hm0 hm1 hp0 hp1 hq0 hq1 hq2 hq3 hq4 hq5 hq6 hq7 hq8 hq9 hq10; obtain ⟨A6, c6, rfl⟩ := Kd.V_slice hv6; obtain ⟨A7, c7, rfl⟩ := Kd.R_slice ho6; have HY6 := Aside0.mk (Kd.R_reads' ho6).2.2; have HYC := Aside0.mk (Kd.R_reads' ho6).2.1; clear hv6 ho6)
    have HL7 := Aside0.mk (HL6.out.below (below_alloc (Below.refl _ _) (.cells #[.int .i64 q0, .int .i64 q1, .int .i64 q2, .int .i64 q3, .int .i64 q4, .int .i64 q5, .int .i64 q6, .int .i64 q7, .int .i64 q8, .int .i64 q9, .slice A7 x2.length c7] 31)))
    have HB7 := Aside0.mk (blk_alloc HB6.out (.cells #[.int .i64 q0, .int .i64 q1, .int .i64 q2, .int .i64 q3, .int .i64 q4, .int .i64 q5, .int .i64 q6, .int .i64 q7, .int .i64 q8, .int .i64 q9, .slice A7 x2.length c7] 31))
    have HX7 := Aside0.mk (Kd.C_alloc HX6.out (.cells #[.int .i64 q0, .int .i64 q1, .int .i64 q2, .int .i64 q3, .int .i64 q4, .int .i64 q5, .int .i64 q6, .int .i64 q7, .int .i64 q8, .int .i64 q9, .slice A7 x2.length c7] 31))
    have HY7 := Aside0.mk (Kd.C_alloc HY6.out (.cells #[.int .i64 q0, .int .i64 q1, .int .i64 q2, .int .i64 q3, .int .i64 q4, .int .i64 q5, .int .i64 q6, .int .i64 q7, .int .i64 q8, .int .i64 q9, .slice A7 x2.length c7] 31))
    have HD7 := Aside0.mk (alloc_at (W := w6) (.cells #[.int .i64 q0, .int .i64 q1, .int .i64 q2, .int .i64 q3, .int .i64 q4, .int .i64 q5, .int .i64 q6, .int .i64 q7, .int .i64 q8, .int .i64 q9, .slice A7 x2.length c7] 31) rfl)
    generalize w6.alloc (.cells #[.int .i64 q0, .int .i64 q1, .int .i64 q2, .int .i64 q3, .int .i64 q4, .int .i64 q5, .int .i64 q6, .int .i64 q7, .int .i64 q8, .int .i64 q9, .slice A7 x2.length c7] 31) = w7 at HL7 HB7 HX7 HY7 HD7 ⊢
    have hb0 : w7.cell? ⟨w3.heap.size, 0, none⟩ = some (.int .i64 3) := (blk_cell HB7.out 0).trans rfl
    have hb1 : w7.cell? ⟨w3.heap.size, 1, none⟩ = some (.int .i64 a2) := (blk_cell HB7.out 1).trans rfl
    have hb2 : w7.cell? ⟨w3.heap.size, 2, none⟩ = some (.int .i64 a3_1) := (blk_cell HB7.out 2).trans rfl
    have hb3 : w7.cell? ⟨w3.heap.size, 3, none⟩ = some (.int .i64 a3_3) := (blk_cell HB7.out 3).trans rfl
    have hb4 : w7.cell? ⟨w3.heap.size, 4, none⟩ = some (.int .i64 a3_4) := (blk_cell HB7.out 4).trans rfl
    have hb5 : w7.cell? ⟨w3.heap.size, 5, none⟩ = some (.int .i64 a3_5) := (blk_cell HB7.out 5).trans rfl
    have hb6 : w7.cell? ⟨w3.heap.size, 6, none⟩ = some (.int .i64 a3_6) := (blk_cell HB7.out 6).trans rfl
    have hb7 : w7.cell? ⟨w3.heap.size, 7, none⟩ = some (.int .i64 a3_7) := (blk_cell HB7.out 7).trans rfl
    have hb8 : w7.cell? ⟨w3.heap.size, 8, none⟩ = some (.int .i64 a3_8) := (blk_cell HB7.out 8).trans rfl
    have hb9 : w7.cell? ⟨w3.heap.size, 9, none⟩ = some (.int .i64 a1_0) := (blk_cell HB7.out 9).trans rfl
    have hb10 : w7.cell? ⟨w3.heap.size, 10, none⟩ = some (.slice A5 0 c5) := (blk_cell HB7.out 10).trans rfl
    have hd0 : w7.cell? ⟨w6.heap.size, 0, none⟩ = some (.int .i64 q0) := (blk_cell HD7.out 0).trans rfl
    have hd1 : w7.cell? ⟨w6.heap.size, 1, none⟩ = some (.int .i64 q1) := (blk_cell HD7.out 1).trans rfl
    have hd2 : w7.cell? ⟨w6.heap.size, 2, none⟩ = some (.int .i64 q2) := (blk_cell HD7.out 2).trans rfl
    have hd3 : w7.cell? ⟨w6.heap.size, 3, none⟩ = some (.int .i64 q3) := (blk_cell HD7.out 3).trans rfl
    have hd4 : w7.cell? ⟨w6.heap.size, 4, none⟩ = some (.int .i64 q4) := (blk_cell HD7.out 4).trans rfl
    have hd5 : w7.cell? ⟨w6.heap.size, 5, none⟩ = some (.int .i64 q5) := (blk_cell HD7.out 5).trans rfl
    have hd6 : w7.cell? ⟨w6.heap.size, 6, none⟩ = some (.int .i64 q6) := (blk_cell HD7.out 6).trans rfl
    have hd7 : w7.cell? ⟨w6.heap.size, 7, none⟩ = some (.int .i64 q7) := (blk_cell HD7.out 7).trans rfl
    have hd8 : w7.cell? ⟨w6.heap.size, 8, none⟩ = some (.int .i64 q8) := (blk_cell HD7.out 8).trans rfl
    have hd9 : w7.cell? ⟨w6.heap.size, 9, none⟩ = some (.int .i64 q9) := (blk_cell HD7.out 9).trans rfl
    have hd10 : w7.cell? ⟨w6.heap.size, 10, none⟩ = some (.slice A7 x2.length c7) := (blk_cell HD7.out 10).trans rfl
    go_wp2_with (go_at_call 9; refine (switchboardlaw18_awake.calls true _ rfl).mono ?_; rintro e w9 ⟨rfl, hb⟩; have HB9 := Aside0.mk (below_step HL7.out.hb hb); clear hb)
    go_ret
    exact ⟨rfl, HB9.out⟩
  obtain ⟨h9, rfl⟩ := h9
  obtain ⟨-, -, -, -, -, g5, g8, -, g5', g8'⟩ := fitsB_true hfb
  obtain ⟨x, hx⟩ : ∃ x, x = answer l0_1 a3_5 a3_8 l3_10 := ⟨_, rfl⟩
  have hxl : x.length ≤ 1000 := by rw [hx]; have := answer_len (l := l0_1) (a5 := a3_5) (a8 := a3_8) (v := l3_10); omega
  have hn := work_new hf hh h9 g5' g5 g8' g8 (find_nil ..) (enter_nil a3_4 a3_5 a3_6 a3_7 (v := answer l0_1 a3_5 a3_8 l3_10) (by rw [← hx]; exact hxl))
  rw [← hx] at hn
  obtain ⟨k3, w3e⟩ := hn.rounds
  have K3 := Aside0.mk w3e
  clear w3e hn
  cases hfb2 : fitsB pb a0_0 l0_1 a2 a3_0 a3_1 a3_2 a3_3 a3_4 a3_5 a3_6 a3_7 a3_8 a3_9 l4
  all_goals rw [hfb2] at hf2
  case false =>
    obtain ⟨k4, w4e⟩ := (work_no (es := [(⟨(⟨a3_4, a3_5, a3_6, a3_7⟩ : S37), x⟩ : S39)]) hf2).rounds
    have K4 := Aside0.mk w4e
    clear w4e hf hf2 hh hp FM FH hv hv4 hfb hfb2 h9 g5 g8 g5' g8' hx hxl
    go_enter Try.func4, Try.ntmps4
    go_upto_region 3 with (first | (go_at_call 7; refine (switchboardref15_Small.calls k1 _ _ _ l0_1 true _ (Kd.C_below HR0.out HL0.out.hb) HC0.out S1.out).mono ?_; rintro e w1 ⟨rfl, hb⟩; have HL1 := Aside0.mk (HL0.out.below hb); clear hb; have hp1 : w1.cell? ⟨w.heap.size + 1, 1, none⟩ = some (.slice A1_1 l1_1.length c1_1) := (blk_cell HL1.out.p 1).trans rfl) | (go_at_call 8; refine (switchboardref03_Small.calls k2 _ _ l1_1 true _ (Kd.C_below HR1.out HL1.out.hb) HC1.out S2.out).mono ?_; rintro e w2 ⟨rfl, hd⟩; have HL2 := Aside0.mk (HL1.out.below hd.below); clear hp1 hd; have hm0 : w2.cell? ⟨w.heap.size, 0, none⟩ = some (.int .i64 a0_0) := (blk_cell HL2.out.m 0).trans rfl; have hm1 : w2.cell? ⟨w.heap.size, 1, none⟩ = some (.slice A0_1 l0_1.length c0_1) := (blk_cell HL2.out.m 1).trans rfl; have hp0 : w2.cell? ⟨w.heap.size + 1, 0, none⟩ = some (.int .i64 a1_0) := (blk_cell HL2.out.p 0).trans rfl; have hp1 : w2.cell? ⟨w.heap.size + 1, 1, none⟩ = some (.slice A1_1 l1_1.length c1_1) := (blk_cell HL2.out.p 1).trans rfl; have ha0 : w2.cell? ⟨w.heap.size + 1 + 1, 0, none⟩ = some (.int .i64 a3_0) := (blk_cell HL2.out.a 0).trans rfl; have ha1 : w2.cell? ⟨w.heap.size + 1 + 1, 1, none⟩ = some (.int .i64 a3_1) := (blk_cell HL2.out.a 1).trans rfl; have ha2 : w2.cell? ⟨w.heap.size + 1 + 1, 2, none⟩ = some (.int .i64 a3_2) := (blk_cell HL2.out.a 2).trans rfl; have ha3 : w2.cell? ⟨w.heap.size + 1 + 1, 3, none⟩ = some (.int .i64 a3_3) := (blk_cell HL2.out.a 3).trans rfl; have ha4 : w2.cell? ⟨w.heap.size + 1 + 1, 4, none⟩ = some (.int .i64 a3_4) := (blk_cell HL2.out.a 4).trans rfl; have ha5 : w2.cell? ⟨w.heap.size + 1 + 1, 5, none⟩ = some (.int .i64 a3_5) := (blk_cell HL2.out.a 5).trans rfl; have ha6 : w2.cell? ⟨w.heap.size + 1 + 1, 6, none⟩ = some (.int .i64 a3_6) := (blk_cell HL2.out.a 6).trans rfl; have ha7 : w2.cell? ⟨w.heap.size + 1 + 1, 7, none⟩ = some (.int .i64 a3_7) := (blk_cell HL2.out.a 7).trans rfl; have ha8 : w2.cell? ⟨w.heap.size + 1 + 1, 8, none⟩ = some (.int .i64 a3_8) := (blk_cell HL2.out.a 8).trans rfl; have ha9 : w2.cell? ⟨w.heap.size + 1 + 1, 9, none⟩ = some (.int .i64 a3_9) := (blk_cell HL2.out.a 9).trans rfl; have ha10 : w2.cell? ⟨w.heap.size + 1 + 1, 10, none⟩ = some (.slice A3_10 l3_10.length c3_10) := (blk_cell HL2.out.a 10).trans rfl))
    go_upto_region 4 with (go_at_call 10; refine (node_Work.calls k3 a0_0 _ _ l0_1 a1_0 _ _ l1_1 a2 (fun _ => False) none 0 [] a3_0 a3_1 a3_2 a3_3 a3_4 a3_5 a3_6 a3_7 a3_8 a3_9 _ _ l3_10 [(⟨(⟨a3_4, a3_5, a3_6, a3_7⟩ : S37), x⟩ : S39)] 2 a2 a3_1 a3_3 a3_4 a3_5 a3_6 a3_7 a3_8 a1_0 x true _ (Kd.C_below HR0.out HL2.out.hb) HC0.out (Kd.C_below HR1.out HL2.out.hb) HC1.out (Kd.V_nil _ _ _ _ _) (Kd.C_below HR3.out HL2.out.hb) HC3.out K3.out).mono ?_; rintro e w3 ⟨v3, u3, rfl, hv3, ho3, hb⟩; have HL3 := Aside0.mk (HL2.out.below hb); clear hb hm0 hm1 hp0 hp1 ha0 ha1 ha2 ha3 ha4 ha5 ha6 ha7 ha8 ha9 ha10; obtain ⟨A3, c3, rfl⟩ := Kd.V_slice hv3; obtain ⟨A5, c5, rfl⟩ := Kd.R_slice ho3; have HV3 := Aside0.mk hv3; have HX3 := Aside0.mk (Kd.R_reads' ho3).2.2; have HXC := Aside0.mk (Kd.R_reads' ho3).2.1; clear hv3 ho3)
    have HL4 := Aside0.mk (HL3.out.below (below_alloc (Below.refl _ _) (.cells #[.int .i64 2, .int .i64 a2, .int .i64 a3_1, .int .i64 a3_3, .int .i64 a3_4, .int .i64 a3_5, .int .i64 a3_6, .int .i64 a3_7, .int .i64 a3_8, .int .i64 a1_0, .slice A5 x.length c5] 31)))
    have HB4 := Aside0.mk (alloc_at (W := w3) (.cells #[.int .i64 2, .int .i64 a2, .int .i64 a3_1, .int .i64 a3_3, .int .i64 a3_4, .int .i64 a3_5, .int .i64 a3_6, .int .i64 a3_7, .int .i64 a3_8, .int .i64 a1_0, .slice A5 x.length c5] 31) rfl)
    have HV4 := Aside0.mk (Kd.V_alloc HV3.out (.cells #[.int .i64 2, .int .i64 a2, .int .i64 a3_1, .int .i64 a3_3, .int .i64 a3_4, .int .i64 a3_5, .int .i64 a3_6, .int .i64 a3_7, .int .i64 a3_8, .int .i64 a1_0, .slice A5 x.length c5] 31))
    have HX4 := Aside0.mk (Kd.C_alloc HX3.out (.cells #[.int .i64 2, .int .i64 a2, .int .i64 a3_1, .int .i64 a3_3, .int .i64 a3_4, .int .i64 a3_5, .int .i64 a3_6, .int .i64 a3_7, .int .i64 a3_8, .int .i64 a1_0, .slice A5 x.length c5] 31))
    generalize w3.alloc (.cells #[.int .i64 2, .int .i64 a2, .int .i64 a3_1, .int .i64 a3_3, .int .i64 a3_4, .int .i64 a3_5, .int .i64 a3_6, .int .i64 a3_7, .int .i64 a3_8, .int .i64 a1_0, .slice A5 x.length c5] 31) = w4 at HL4 HB4 HV4 HX4 ⊢
    clear HL3 HV3 HX3
    have ha0 : w4.cell? ⟨w.heap.size + 1 + 1, 0, none⟩ = some (.int .i64 a3_0) := (blk_cell HL4.out.a 0).trans rfl
    have ha1 : w4.cell? ⟨w.heap.size + 1 + 1, 1, none⟩ = some (.int .i64 a3_1) := (blk_cell HL4.out.a 1).trans rfl
    have ha2 : w4.cell? ⟨w.heap.size + 1 + 1, 2, none⟩ = some (.int .i64 a3_2) := (blk_cell HL4.out.a 2).trans rfl
    have ha3 : w4.cell? ⟨w.heap.size + 1 + 1, 3, none⟩ = some (.int .i64 a3_3) := (blk_cell HL4.out.a 3).trans rfl
    have ha4 : w4.cell? ⟨w.heap.size + 1 + 1, 4, none⟩ = some (.int .i64 a3_4) := (blk_cell HL4.out.a 4).trans rfl
    have ha5 : w4.cell? ⟨w.heap.size + 1 + 1, 5, none⟩ = some (.int .i64 a3_5) := (blk_cell HL4.out.a 5).trans rfl
    have ha6 : w4.cell? ⟨w.heap.size + 1 + 1, 6, none⟩ = some (.int .i64 a3_6) := (blk_cell HL4.out.a 6).trans rfl
    have ha7 : w4.cell? ⟨w.heap.size + 1 + 1, 7, none⟩ = some (.int .i64 a3_7) := (blk_cell HL4.out.a 7).trans rfl
    have ha8 : w4.cell? ⟨w.heap.size + 1 + 1, 8, none⟩ = some (.int .i64 a3_8) := (blk_cell HL4.out.a 8).trans rfl
    have ha9 : w4.cell? ⟨w.heap.size + 1 + 1, 9, none⟩ = some (.int .i64 a3_9) := (blk_cell HL4.out.a 9).trans rfl
    have ha10 : w4.cell? ⟨w.heap.size + 1 + 1, 10, none⟩ = some (.slice A3_10 l3_10.length c3_10) := (blk_cell HL4.out.a 10).trans rfl
    go_upto_region 6 with (fail)
    have HL5 := Aside0.mk (HL4.out.below (below_alloc (Below.refl _ _) (.cells #[.int .i64 a3_0, .int .i64 a3_1, .int .i64 a3_2, .int .i64 a3_3, .int .i64 a3_4, .int .i64 a3_5, .int .i64 a3_6, .int .i64 a3_7, .int .i64 a3_8, .int .i64 a3_9, .slice A4 l4.length c4] 31)))
    have HB5 := Aside0.mk (blk_alloc HB4.out (.cells #[.int .i64 a3_0, .int .i64 a3_1, .int .i64 a3_2, .int .i64 a3_3, .int .i64 a3_4, .int .i64 a3_5, .int .i64 a3_6, .int .i64 a3_7, .int .i64 a3_8, .int .i64 a3_9, .slice A4 l4.length c4] 31))
    have HV5 := Aside0.mk (Kd.V_alloc HV4.out (.cells #[.int .i64 a3_0, .int .i64 a3_1, .int .i64 a3_2, .int .i64 a3_3, .int .i64 a3_4, .int .i64 a3_5, .int .i64 a3_6, .int .i64 a3_7, .int .i64 a3_8, .int .i64 a3_9, .slice A4 l4.length c4] 31))
    have HX5 := Aside0.mk (Kd.C_alloc HX4.out (.cells #[.int .i64 a3_0, .int .i64 a3_1, .int .i64 a3_2, .int .i64 a3_3, .int .i64 a3_4, .int .i64 a3_5, .int .i64 a3_6, .int .i64 a3_7, .int .i64 a3_8, .int .i64 a3_9, .slice A4 l4.length c4] 31))
    have HO5 := Aside0.mk (alloc_at (W := w4) (.cells #[.int .i64 a3_0, .int .i64 a3_1, .int .i64 a3_2, .int .i64 a3_3, .int .i64 a3_4, .int .i64 a3_5, .int .i64 a3_6, .int .i64 a3_7, .int .i64 a3_8, .int .i64 a3_9, .slice A4 l4.length c4] 31) rfl)
    generalize w4.alloc (.cells #[.int .i64 a3_0, .int .i64 a3_1, .int .i64 a3_2, .int .i64 a3_3, .int .i64 a3_4, .int .i64 a3_5, .int .i64 a3_6, .int .i64 a3_7, .int .i64 a3_8, .int .i64 a3_9, .slice A4 l4.length c4] 31) = w5 at HL5 HB5 HV5 HX5 HO5 ⊢
    clear HL4 HB4 HV4 HX4 ha0 ha1 ha2 ha3 ha4 ha5 ha6 ha7 ha8 ha9 ha10
    have hm0 : w5.cell? ⟨w.heap.size, 0, none⟩ = some (.int .i64 a0_0) := (blk_cell HL5.out.m 0).trans rfl
    have hm1 : w5.cell? ⟨w.heap.size, 1, none⟩ = some (.slice A0_1 l0_1.length c0_1) := (blk_cell HL5.out.m 1).trans rfl
    have hp0 : w5.cell? ⟨w.heap.size + 1, 0, none⟩ = some (.int .i64 a1_0) := (blk_cell HL5.out.p 0).trans rfl
    have hp1 : w5.cell? ⟨w.heap.size + 1, 1, none⟩ = some (.slice A1_1 l1_1.length c1_1) := (blk_cell HL5.out.p 1).trans rfl
    have hq0 : w5.cell? ⟨w4.heap.size, 0, none⟩ = some (.int .i64 a3_0) := (blk_cell HO5.out 0).trans rfl
    have hq1 : w5.cell? ⟨w4.heap.size, 1, none⟩ = some (.int .i64 a3_1) := (blk_cell HO5.out 1).trans rfl
    have hq2 : w5.cell? ⟨w4.heap.size, 2, none⟩ = some (.int .i64 a3_2) := (blk_cell HO5.out 2).trans rfl
    have hq3 : w5.cell? ⟨w4.heap.size, 3, none⟩ = some (.int .i64 a3_3) := (blk_cell HO5.out 3).trans rfl
    have hq4 : w5.cell? ⟨w4.heap.size, 4, none⟩ = some (.int .i64 a3_4) := (blk_cell HO5.out 4).trans rfl
    have hq5 : w5.cell? ⟨w4.heap.size, 5, none⟩ = some (.int .i64 a3_5) := (blk_cell HO5.out 5).trans rfl
    have hq6 : w5.cell? ⟨w4.heap.size, 6, none⟩ = some (.int .i64 a3_6) := (blk_cell HO5.out 6).trans rfl
    have hq7 : w5.cell? ⟨w4.heap.size, 7, none⟩ = some (.int .i64 a3_7) := (blk_cell HO5.out 7).trans rfl
    have hq8 : w5.cell? ⟨w4.heap.size, 8, none⟩ = some (.int .i64 a3_8) := (blk_cell HO5.out 8).trans rfl
    have hq9 : w5.cell? ⟨w4.heap.size, 9, none⟩ = some (.int .i64 a3_9) := (blk_cell HO5.out 9).trans rfl
    have hq10 : w5.cell? ⟨w4.heap.size, 10, none⟩ = some (.slice A4 l4.length c4) := (blk_cell HO5.out 10).trans rfl
    go_upto_region 7 with (go_at_call 10; refine (node_Work.calls k4 a0_0 _ _ l0_1 a1_0 _ _ l1_1 a2 _ _ _ [(⟨(⟨a3_4, a3_5, a3_6, a3_7⟩ : S37), x⟩ : S39)] a3_0 a3_1 a3_2 a3_3 a3_4 a3_5 a3_6 a3_7 a3_8 a3_9 _ _ l4 [(⟨(⟨a3_4, a3_5, a3_6, a3_7⟩ : S37), x⟩ : S39)] 0 0 0 0 0 0 0 0 0 0 [] false _ (Kd.C_below HR0.out HL5.out.hb) HC0.out (Kd.C_below HR1.out HL5.out.hb) HC1.out HV5.out (Kd.C_below HR4.out HL5.out.hb) HC4.out K4.out).mono ?_; rintro e w6 ⟨v6, u6, rfl, hv6, ho6, hb⟩; have HL6 := Aside0.mk (HL5.out.below hb); have HB6 := Aside0.mk (blk_below HB5.out hb); have HX6 := Aside0.mk (Kd.C_below HX5.out hb); clear hb hm0 hm1 hp0 hp1 hq0 hq1 hq2 hq3 hq4 hq5 hq6 hq7 hq8 hq9 hq10; obtain ⟨A6, c6, rfl⟩ := Kd.V_slice hv6; obtain ⟨A7, c7, rfl⟩ := Kd.R_slice ho6; have HY6 := Aside0.mk (Kd.R_reads' ho6).2.2; have HYC := Aside0.mk (Kd.R_reads' ho6).2.1; clear hv6 ho6)
    have HL7 := Aside0.mk (HL6.out.below (below_alloc (Below.refl _ _) (.cells #[.int .i64 0, .int .i64 0, .int .i64 0, .int .i64 0, .int .i64 0, .int .i64 0, .int .i64 0, .int .i64 0, .int .i64 0, .int .i64 0, .slice A7 0 c7] 31)))
    have HB7 := Aside0.mk (blk_alloc HB6.out (.cells #[.int .i64 0, .int .i64 0, .int .i64 0, .int .i64 0, .int .i64 0, .int .i64 0, .int .i64 0, .int .i64 0, .int .i64 0, .int .i64 0, .slice A7 0 c7] 31))
    have HX7 := Aside0.mk (Kd.C_alloc HX6.out (.cells #[.int .i64 0, .int .i64 0, .int .i64 0, .int .i64 0, .int .i64 0, .int .i64 0, .int .i64 0, .int .i64 0, .int .i64 0, .int .i64 0, .slice A7 0 c7] 31))
    have HY7 := Aside0.mk (Kd.C_alloc HY6.out (.cells #[.int .i64 0, .int .i64 0, .int .i64 0, .int .i64 0, .int .i64 0, .int .i64 0, .int .i64 0, .int .i64 0, .int .i64 0, .int .i64 0, .slice A7 0 c7] 31))
    have HD7 := Aside0.mk (alloc_at (W := w6) (.cells #[.int .i64 0, .int .i64 0, .int .i64 0, .int .i64 0, .int .i64 0, .int .i64 0, .int .i64 0, .int .i64 0, .int .i64 0, .int .i64 0, .slice A7 0 c7] 31) rfl)
    generalize w6.alloc (.cells #[.int .i64 0, .int .i64 0, .int .i64 0, .int .i64 0, .int .i64 0, .int .i64 0, .int .i64 0, .int .i64 0, .int .i64 0, .int .i64 0, .slice A7 0 c7] 31) = w7 at HL7 HB7 HX7 HY7 HD7 ⊢
    have hb0 : w7.cell? ⟨w3.heap.size, 0, none⟩ = some (.int .i64 2) := (blk_cell HB7.out 0).trans rfl
    have hb1 : w7.cell? ⟨w3.heap.size, 1, none⟩ = some (.int .i64 a2) := (blk_cell HB7.out 1).trans rfl
    have hb2 : w7.cell? ⟨w3.heap.size, 2, none⟩ = some (.int .i64 a3_1) := (blk_cell HB7.out 2).trans rfl
    have hb3 : w7.cell? ⟨w3.heap.size, 3, none⟩ = some (.int .i64 a3_3) := (blk_cell HB7.out 3).trans rfl
    have hb4 : w7.cell? ⟨w3.heap.size, 4, none⟩ = some (.int .i64 a3_4) := (blk_cell HB7.out 4).trans rfl
    have hb5 : w7.cell? ⟨w3.heap.size, 5, none⟩ = some (.int .i64 a3_5) := (blk_cell HB7.out 5).trans rfl
    have hb6 : w7.cell? ⟨w3.heap.size, 6, none⟩ = some (.int .i64 a3_6) := (blk_cell HB7.out 6).trans rfl
    have hb7 : w7.cell? ⟨w3.heap.size, 7, none⟩ = some (.int .i64 a3_7) := (blk_cell HB7.out 7).trans rfl
    have hb8 : w7.cell? ⟨w3.heap.size, 8, none⟩ = some (.int .i64 a3_8) := (blk_cell HB7.out 8).trans rfl
    have hb9 : w7.cell? ⟨w3.heap.size, 9, none⟩ = some (.int .i64 a1_0) := (blk_cell HB7.out 9).trans rfl
    have hb10 : w7.cell? ⟨w3.heap.size, 10, none⟩ = some (.slice A5 x.length c5) := (blk_cell HB7.out 10).trans rfl
    have hd0 : w7.cell? ⟨w6.heap.size, 0, none⟩ = some (.int .i64 0) := (blk_cell HD7.out 0).trans rfl
    have hd1 : w7.cell? ⟨w6.heap.size, 1, none⟩ = some (.int .i64 0) := (blk_cell HD7.out 1).trans rfl
    have hd2 : w7.cell? ⟨w6.heap.size, 2, none⟩ = some (.int .i64 0) := (blk_cell HD7.out 2).trans rfl
    have hd3 : w7.cell? ⟨w6.heap.size, 3, none⟩ = some (.int .i64 0) := (blk_cell HD7.out 3).trans rfl
    have hd4 : w7.cell? ⟨w6.heap.size, 4, none⟩ = some (.int .i64 0) := (blk_cell HD7.out 4).trans rfl
    have hd5 : w7.cell? ⟨w6.heap.size, 5, none⟩ = some (.int .i64 0) := (blk_cell HD7.out 5).trans rfl
    have hd6 : w7.cell? ⟨w6.heap.size, 6, none⟩ = some (.int .i64 0) := (blk_cell HD7.out 6).trans rfl
    have hd7 : w7.cell? ⟨w6.heap.size, 7, none⟩ = some (.int .i64 0) := (blk_cell HD7.out 7).trans rfl
    have hd8 : w7.cell? ⟨w6.heap.size, 8, none⟩ = some (.int .i64 0) := (blk_cell HD7.out 8).trans rfl
    have hd9 : w7.cell? ⟨w6.heap.size, 9, none⟩ = some (.int .i64 0) := (blk_cell HD7.out 9).trans rfl
    have hd10 : w7.cell? ⟨w6.heap.size, 10, none⟩ = some (.slice A7 0 c7) := (blk_cell HD7.out 10).trans rfl
    go_wp2_with (go_at_call 9; refine (switchboardlaw18_awake.calls true _ rfl).mono ?_; rintro e w9 ⟨rfl, hb⟩; have HB9 := Aside0.mk (below_step HL7.out.hb hb); clear hb)
    go_ret
    exact ⟨rfl, HB9.out⟩
  case true =>
    obtain ⟨k4, w4e⟩ := (work_found (es := [(⟨(⟨a3_4, a3_5, a3_6, a3_7⟩ : S37), x⟩ : S39)]) hf2 hh h9 (find_one_hit a3_4 a3_5 a3_6 a3_7 hxl)).rounds
    have K4 := Aside0.mk w4e
    obtain ⟨ks, hse⟩ := (same07 2 a2 a3_1 a3_3 a3_4 a3_5 a3_6 a3_7 a3_8 a1_0 hxl).rounds
    have KS := Aside0.mk hse
    clear w4e hse hf hf2 hh hp FM FH hv hv4 hfb hfb2 h9 g5 g8 g5' g8' hx hxl
    go_enter Try.func4, Try.ntmps4
    go_upto_region 3 with (first | (go_at_call 7; refine (switchboardref15_Small.calls k1 _ _ _ l0_1 true _ (Kd.C_below HR0.out HL0.out.hb) HC0.out S1.out).mono ?_; rintro e w1 ⟨rfl, hb⟩; have HL1 := Aside0.mk (HL0.out.below hb); clear hb; have hp1 : w1.cell? ⟨w.heap.size + 1, 1, none⟩ = some (.slice A1_1 l1_1.length c1_1) := (blk_cell HL1.out.p 1).trans rfl) | (go_at_call 8; refine (switchboardref03_Small.calls k2 _ _ l1_1 true _ (Kd.C_below HR1.out HL1.out.hb) HC1.out S2.out).mono ?_; rintro e w2 ⟨rfl, hd⟩; have HL2 := Aside0.mk (HL1.out.below hd.below); clear hp1 hd; have hm0 : w2.cell? ⟨w.heap.size, 0, none⟩ = some (.int .i64 a0_0) := (blk_cell HL2.out.m 0).trans rfl; have hm1 : w2.cell? ⟨w.heap.size, 1, none⟩ = some (.slice A0_1 l0_1.length c0_1) := (blk_cell HL2.out.m 1).trans rfl; have hp0 : w2.cell? ⟨w.heap.size + 1, 0, none⟩ = some (.int .i64 a1_0) := (blk_cell HL2.out.p 0).trans rfl; have hp1 : w2.cell? ⟨w.heap.size + 1, 1, none⟩ = some (.slice A1_1 l1_1.length c1_1) := (blk_cell HL2.out.p 1).trans rfl; have ha0 : w2.cell? ⟨w.heap.size + 1 + 1, 0, none⟩ = some (.int .i64 a3_0) := (blk_cell HL2.out.a 0).trans rfl; have ha1 : w2.cell? ⟨w.heap.size + 1 + 1, 1, none⟩ = some (.int .i64 a3_1) := (blk_cell HL2.out.a 1).trans rfl; have ha2 : w2.cell? ⟨w.heap.size + 1 + 1, 2, none⟩ = some (.int .i64 a3_2) := (blk_cell HL2.out.a 2).trans rfl; have ha3 : w2.cell? ⟨w.heap.size + 1 + 1, 3, none⟩ = some (.int .i64 a3_3) := (blk_cell HL2.out.a 3).trans rfl; have ha4 : w2.cell? ⟨w.heap.size + 1 + 1, 4, none⟩ = some (.int .i64 a3_4) := (blk_cell HL2.out.a 4).trans rfl; have ha5 : w2.cell? ⟨w.heap.size + 1 + 1, 5, none⟩ = some (.int .i64 a3_5) := (blk_cell HL2.out.a 5).trans rfl; have ha6 : w2.cell? ⟨w.heap.size + 1 + 1, 6, none⟩ = some (.int .i64 a3_6) := (blk_cell HL2.out.a 6).trans rfl; have ha7 : w2.cell? ⟨w.heap.size + 1 + 1, 7, none⟩ = some (.int .i64 a3_7) := (blk_cell HL2.out.a 7).trans rfl; have ha8 : w2.cell? ⟨w.heap.size + 1 + 1, 8, none⟩ = some (.int .i64 a3_8) := (blk_cell HL2.out.a 8).trans rfl; have ha9 : w2.cell? ⟨w.heap.size + 1 + 1, 9, none⟩ = some (.int .i64 a3_9) := (blk_cell HL2.out.a 9).trans rfl; have ha10 : w2.cell? ⟨w.heap.size + 1 + 1, 10, none⟩ = some (.slice A3_10 l3_10.length c3_10) := (blk_cell HL2.out.a 10).trans rfl))
    go_upto_region 4 with (go_at_call 10; refine (node_Work.calls k3 a0_0 _ _ l0_1 a1_0 _ _ l1_1 a2 (fun _ => False) none 0 [] a3_0 a3_1 a3_2 a3_3 a3_4 a3_5 a3_6 a3_7 a3_8 a3_9 _ _ l3_10 [(⟨(⟨a3_4, a3_5, a3_6, a3_7⟩ : S37), x⟩ : S39)] 2 a2 a3_1 a3_3 a3_4 a3_5 a3_6 a3_7 a3_8 a1_0 x true _ (Kd.C_below HR0.out HL2.out.hb) HC0.out (Kd.C_below HR1.out HL2.out.hb) HC1.out (Kd.V_nil _ _ _ _ _) (Kd.C_below HR3.out HL2.out.hb) HC3.out K3.out).mono ?_; rintro e w3 ⟨v3, u3, rfl, hv3, ho3, hb⟩; have HL3 := Aside0.mk (HL2.out.below hb); clear hb hm0 hm1 hp0 hp1 ha0 ha1 ha2 ha3 ha4 ha5 ha6 ha7 ha8 ha9 ha10; obtain ⟨A3, c3, rfl⟩ := Kd.V_slice hv3; obtain ⟨A5, c5, rfl⟩ := Kd.R_slice ho3; have HV3 := Aside0.mk hv3; have HX3 := Aside0.mk (Kd.R_reads' ho3).2.2; have HXC := Aside0.mk (Kd.R_reads' ho3).2.1; clear hv3 ho3)
    have HL4 := Aside0.mk (HL3.out.below (below_alloc (Below.refl _ _) (.cells #[.int .i64 2, .int .i64 a2, .int .i64 a3_1, .int .i64 a3_3, .int .i64 a3_4, .int .i64 a3_5, .int .i64 a3_6, .int .i64 a3_7, .int .i64 a3_8, .int .i64 a1_0, .slice A5 x.length c5] 31)))
    have HB4 := Aside0.mk (alloc_at (W := w3) (.cells #[.int .i64 2, .int .i64 a2, .int .i64 a3_1, .int .i64 a3_3, .int .i64 a3_4, .int .i64 a3_5, .int .i64 a3_6, .int .i64 a3_7, .int .i64 a3_8, .int .i64 a1_0, .slice A5 x.length c5] 31) rfl)
    have HV4 := Aside0.mk (Kd.V_alloc HV3.out (.cells #[.int .i64 2, .int .i64 a2, .int .i64 a3_1, .int .i64 a3_3, .int .i64 a3_4, .int .i64 a3_5, .int .i64 a3_6, .int .i64 a3_7, .int .i64 a3_8, .int .i64 a1_0, .slice A5 x.length c5] 31))
    have HX4 := Aside0.mk (Kd.C_alloc HX3.out (.cells #[.int .i64 2, .int .i64 a2, .int .i64 a3_1, .int .i64 a3_3, .int .i64 a3_4, .int .i64 a3_5, .int .i64 a3_6, .int .i64 a3_7, .int .i64 a3_8, .int .i64 a1_0, .slice A5 x.length c5] 31))
    generalize w3.alloc (.cells #[.int .i64 2, .int .i64 a2, .int .i64 a3_1, .int .i64 a3_3, .int .i64 a3_4, .int .i64 a3_5, .int .i64 a3_6, .int .i64 a3_7, .int .i64 a3_8, .int .i64 a1_0, .slice A5 x.length c5] 31) = w4 at HL4 HB4 HV4 HX4 ⊢
    clear HL3 HV3 HX3
    have ha0 : w4.cell? ⟨w.heap.size + 1 + 1, 0, none⟩ = some (.int .i64 a3_0) := (blk_cell HL4.out.a 0).trans rfl
    have ha1 : w4.cell? ⟨w.heap.size + 1 + 1, 1, none⟩ = some (.int .i64 a3_1) := (blk_cell HL4.out.a 1).trans rfl
    have ha2 : w4.cell? ⟨w.heap.size + 1 + 1, 2, none⟩ = some (.int .i64 a3_2) := (blk_cell HL4.out.a 2).trans rfl
    have ha3 : w4.cell? ⟨w.heap.size + 1 + 1, 3, none⟩ = some (.int .i64 a3_3) := (blk_cell HL4.out.a 3).trans rfl
    have ha4 : w4.cell? ⟨w.heap.size + 1 + 1, 4, none⟩ = some (.int .i64 a3_4) := (blk_cell HL4.out.a 4).trans rfl
    have ha5 : w4.cell? ⟨w.heap.size + 1 + 1, 5, none⟩ = some (.int .i64 a3_5) := (blk_cell HL4.out.a 5).trans rfl
    have ha6 : w4.cell? ⟨w.heap.size + 1 + 1, 6, none⟩ = some (.int .i64 a3_6) := (blk_cell HL4.out.a 6).trans rfl
    have ha7 : w4.cell? ⟨w.heap.size + 1 + 1, 7, none⟩ = some (.int .i64 a3_7) := (blk_cell HL4.out.a 7).trans rfl
    have ha8 : w4.cell? ⟨w.heap.size + 1 + 1, 8, none⟩ = some (.int .i64 a3_8) := (blk_cell HL4.out.a 8).trans rfl
    have ha9 : w4.cell? ⟨w.heap.size + 1 + 1, 9, none⟩ = some (.int .i64 a3_9) := (blk_cell HL4.out.a 9).trans rfl
    have ha10 : w4.cell? ⟨w.heap.size + 1 + 1, 10, none⟩ = some (.slice A3_10 l3_10.length c3_10) := (blk_cell HL4.out.a 10).trans rfl
    go_upto_region 6 with (fail)
    have HL5 := Aside0.mk (HL4.out.below (below_alloc (Below.refl _ _) (.cells #[.int .i64 a3_0, .int .i64 a3_1, .int .i64 a3_2, .int .i64 a3_3, .int .i64 a3_4, .int .i64 a3_5, .int .i64 a3_6, .int .i64 a3_7, .int .i64 a3_8, .int .i64 a3_9, .slice A4 l4.length c4] 31)))
    have HB5 := Aside0.mk (blk_alloc HB4.out (.cells #[.int .i64 a3_0, .int .i64 a3_1, .int .i64 a3_2, .int .i64 a3_3, .int .i64 a3_4, .int .i64 a3_5, .int .i64 a3_6, .int .i64 a3_7, .int .i64 a3_8, .int .i64 a3_9, .slice A4 l4.length c4] 31))
    have HV5 := Aside0.mk (Kd.V_alloc HV4.out (.cells #[.int .i64 a3_0, .int .i64 a3_1, .int .i64 a3_2, .int .i64 a3_3, .int .i64 a3_4, .int .i64 a3_5, .int .i64 a3_6, .int .i64 a3_7, .int .i64 a3_8, .int .i64 a3_9, .slice A4 l4.length c4] 31))
    have HX5 := Aside0.mk (Kd.C_alloc HX4.out (.cells #[.int .i64 a3_0, .int .i64 a3_1, .int .i64 a3_2, .int .i64 a3_3, .int .i64 a3_4, .int .i64 a3_5, .int .i64 a3_6, .int .i64 a3_7, .int .i64 a3_8, .int .i64 a3_9, .slice A4 l4.length c4] 31))
    have HO5 := Aside0.mk (alloc_at (W := w4) (.cells #[.int .i64 a3_0, .int .i64 a3_1, .int .i64 a3_2, .int .i64 a3_3, .int .i64 a3_4, .int .i64 a3_5, .int .i64 a3_6, .int .i64 a3_7, .int .i64 a3_8, .int .i64 a3_9, .slice A4 l4.length c4] 31) rfl)
    generalize w4.alloc (.cells #[.int .i64 a3_0, .int .i64 a3_1, .int .i64 a3_2, .int .i64 a3_3, .int .i64 a3_4, .int .i64 a3_5, .int .i64 a3_6, .int .i64 a3_7, .int .i64 a3_8, .int .i64 a3_9, .slice A4 l4.length c4] 31) = w5 at HL5 HB5 HV5 HX5 HO5 ⊢
    clear HL4 HB4 HV4 HX4 ha0 ha1 ha2 ha3 ha4 ha5 ha6 ha7 ha8 ha9 ha10
    have hm0 : w5.cell? ⟨w.heap.size, 0, none⟩ = some (.int .i64 a0_0) := (blk_cell HL5.out.m 0).trans rfl
    have hm1 : w5.cell? ⟨w.heap.size, 1, none⟩ = some (.slice A0_1 l0_1.length c0_1) := (blk_cell HL5.out.m 1).trans rfl
    have hp0 : w5.cell? ⟨w.heap.size + 1, 0, none⟩ = some (.int .i64 a1_0) := (blk_cell HL5.out.p 0).trans rfl
    have hp1 : w5.cell? ⟨w.heap.size + 1, 1, none⟩ = some (.slice A1_1 l1_1.length c1_1) := (blk_cell HL5.out.p 1).trans rfl
    have hq0 : w5.cell? ⟨w4.heap.size, 0, none⟩ = some (.int .i64 a3_0) := (blk_cell HO5.out 0).trans rfl
    have hq1 : w5.cell? ⟨w4.heap.size, 1, none⟩ = some (.int .i64 a3_1) := (blk_cell HO5.out 1).trans rfl
    have hq2 : w5.cell? ⟨w4.heap.size, 2, none⟩ = some (.int .i64 a3_2) := (blk_cell HO5.out 2).trans rfl
    have hq3 : w5.cell? ⟨w4.heap.size, 3, none⟩ = some (.int .i64 a3_3) := (blk_cell HO5.out 3).trans rfl
    have hq4 : w5.cell? ⟨w4.heap.size, 4, none⟩ = some (.int .i64 a3_4) := (blk_cell HO5.out 4).trans rfl
    have hq5 : w5.cell? ⟨w4.heap.size, 5, none⟩ = some (.int .i64 a3_5) := (blk_cell HO5.out 5).trans rfl
    have hq6 : w5.cell? ⟨w4.heap.size, 6, none⟩ = some (.int .i64 a3_6) := (blk_cell HO5.out 6).trans rfl
    have hq7 : w5.cell? ⟨w4.heap.size, 7, none⟩ = some (.int .i64 a3_7) := (blk_cell HO5.out 7).trans rfl
    have hq8 : w5.cell? ⟨w4.heap.size, 8, none⟩ = some (.int .i64 a3_8) := (blk_cell HO5.out 8).trans rfl
    have hq9 : w5.cell? ⟨w4.heap.size, 9, none⟩ = some (.int .i64 a3_9) := (blk_cell HO5.out 9).trans rfl
    have hq10 : w5.cell? ⟨w4.heap.size, 10, none⟩ = some (.slice A4 l4.length c4) := (blk_cell HO5.out 10).trans rfl
    go_upto_region 7 with (go_at_call 10; refine (node_Work.calls k4 a0_0 _ _ l0_1 a1_0 _ _ l1_1 a2 _ _ _ [(⟨(⟨a3_4, a3_5, a3_6, a3_7⟩ : S37), x⟩ : S39)] a3_0 a3_1 a3_2 a3_3 a3_4 a3_5 a3_6 a3_7 a3_8 a3_9 _ _ l4 [(⟨(⟨a3_4, a3_5, a3_6, a3_7⟩ : S37), x⟩ : S39)] 2 a2 a3_1 a3_3 a3_4 a3_5 a3_6 a3_7 a3_8 a1_0 x true _ (Kd.C_below HR0.out HL5.out.hb) HC0.out (Kd.C_below HR1.out HL5.out.hb) HC1.out HV5.out (Kd.C_below HR4.out HL5.out.hb) HC4.out K4.out).mono ?_; rintro e w6 ⟨v6, u6, rfl, hv6, ho6, hb⟩; have HL6 := Aside0.mk (HL5.out.below hb); have HB6 := Aside0.mk (blk_below HB5.out hb); have HX6 := Aside0.mk (Kd.C_below HX5.out hb); clear hb hm0 hm1 hp0 hp1 hq0 hq1 hq2 hq3 hq4 hq5 hq6 hq7 hq8 hq9 hq10; obtain ⟨A6, c6, rfl⟩ := Kd.V_slice hv6; obtain ⟨A7, c7, rfl⟩ := Kd.R_slice ho6; have HY6 := Aside0.mk (Kd.R_reads' ho6).2.2; have HYC := Aside0.mk (Kd.R_reads' ho6).2.1; clear hv6 ho6)
    have HL7 := Aside0.mk (HL6.out.below (below_alloc (Below.refl _ _) (.cells #[.int .i64 2, .int .i64 a2, .int .i64 a3_1, .int .i64 a3_3, .int .i64 a3_4, .int .i64 a3_5, .int .i64 a3_6, .int .i64 a3_7, .int .i64 a3_8, .int .i64 a1_0, .slice A7 x.length c7] 31)))
    have HB7 := Aside0.mk (blk_alloc HB6.out (.cells #[.int .i64 2, .int .i64 a2, .int .i64 a3_1, .int .i64 a3_3, .int .i64 a3_4, .int .i64 a3_5, .int .i64 a3_6, .int .i64 a3_7, .int .i64 a3_8, .int .i64 a1_0, .slice A7 x.length c7] 31))
    have HX7 := Aside0.mk (Kd.C_alloc HX6.out (.cells #[.int .i64 2, .int .i64 a2, .int .i64 a3_1, .int .i64 a3_3, .int .i64 a3_4, .int .i64 a3_5, .int .i64 a3_6, .int .i64 a3_7, .int .i64 a3_8, .int .i64 a1_0, .slice A7 x.length c7] 31))
    have HY7 := Aside0.mk (Kd.C_alloc HY6.out (.cells #[.int .i64 2, .int .i64 a2, .int .i64 a3_1, .int .i64 a3_3, .int .i64 a3_4, .int .i64 a3_5, .int .i64 a3_6, .int .i64 a3_7, .int .i64 a3_8, .int .i64 a1_0, .slice A7 x.length c7] 31))
    have HD7 := Aside0.mk (alloc_at (W := w6) (.cells #[.int .i64 2, .int .i64 a2, .int .i64 a3_1, .int .i64 a3_3, .int .i64 a3_4, .int .i64 a3_5, .int .i64 a3_6, .int .i64 a3_7, .int .i64 a3_8, .int .i64 a1_0, .slice A7 x.length c7] 31) rfl)
    generalize w6.alloc (.cells #[.int .i64 2, .int .i64 a2, .int .i64 a3_1, .int .i64 a3_3, .int .i64 a3_4, .int .i64 a3_5, .int .i64 a3_6, .int .i64 a3_7, .int .i64 a3_8, .int .i64 a1_0, .slice A7 x.length c7] 31) = w7 at HL7 HB7 HX7 HY7 HD7 ⊢
    have hb0 : w7.cell? ⟨w3.heap.size, 0, none⟩ = some (.int .i64 2) := (blk_cell HB7.out 0).trans rfl
    have hb1 : w7.cell? ⟨w3.heap.size, 1, none⟩ = some (.int .i64 a2) := (blk_cell HB7.out 1).trans rfl
    have hb2 : w7.cell? ⟨w3.heap.size, 2, none⟩ = some (.int .i64 a3_1) := (blk_cell HB7.out 2).trans rfl
    have hb3 : w7.cell? ⟨w3.heap.size, 3, none⟩ = some (.int .i64 a3_3) := (blk_cell HB7.out 3).trans rfl
    have hb4 : w7.cell? ⟨w3.heap.size, 4, none⟩ = some (.int .i64 a3_4) := (blk_cell HB7.out 4).trans rfl
    have hb5 : w7.cell? ⟨w3.heap.size, 5, none⟩ = some (.int .i64 a3_5) := (blk_cell HB7.out 5).trans rfl
    have hb6 : w7.cell? ⟨w3.heap.size, 6, none⟩ = some (.int .i64 a3_6) := (blk_cell HB7.out 6).trans rfl
    have hb7 : w7.cell? ⟨w3.heap.size, 7, none⟩ = some (.int .i64 a3_7) := (blk_cell HB7.out 7).trans rfl
    have hb8 : w7.cell? ⟨w3.heap.size, 8, none⟩ = some (.int .i64 a3_8) := (blk_cell HB7.out 8).trans rfl
    have hb9 : w7.cell? ⟨w3.heap.size, 9, none⟩ = some (.int .i64 a1_0) := (blk_cell HB7.out 9).trans rfl
    have hb10 : w7.cell? ⟨w3.heap.size, 10, none⟩ = some (.slice A5 x.length c5) := (blk_cell HB7.out 10).trans rfl
    have hd0 : w7.cell? ⟨w6.heap.size, 0, none⟩ = some (.int .i64 2) := (blk_cell HD7.out 0).trans rfl
    have hd1 : w7.cell? ⟨w6.heap.size, 1, none⟩ = some (.int .i64 a2) := (blk_cell HD7.out 1).trans rfl
    have hd2 : w7.cell? ⟨w6.heap.size, 2, none⟩ = some (.int .i64 a3_1) := (blk_cell HD7.out 2).trans rfl
    have hd3 : w7.cell? ⟨w6.heap.size, 3, none⟩ = some (.int .i64 a3_3) := (blk_cell HD7.out 3).trans rfl
    have hd4 : w7.cell? ⟨w6.heap.size, 4, none⟩ = some (.int .i64 a3_4) := (blk_cell HD7.out 4).trans rfl
    have hd5 : w7.cell? ⟨w6.heap.size, 5, none⟩ = some (.int .i64 a3_5) := (blk_cell HD7.out 5).trans rfl
    have hd6 : w7.cell? ⟨w6.heap.size, 6, none⟩ = some (.int .i64 a3_6) := (blk_cell HD7.out 6).trans rfl
    have hd7 : w7.cell? ⟨w6.heap.size, 7, none⟩ = some (.int .i64 a3_7) := (blk_cell HD7.out 7).trans rfl
    have hd8 : w7.cell? ⟨w6.heap.size, 8, none⟩ = some (.int .i64 a3_8) := (blk_cell HD7.out 8).trans rfl
    have hd9 : w7.cell? ⟨w6.heap.size, 9, none⟩ = some (.int .i64 a1_0) := (blk_cell HD7.out 9).trans rfl
    have hd10 : w7.cell? ⟨w6.heap.size, 10, none⟩ = some (.slice A7 x.length c7) := (blk_cell HD7.out 10).trans rfl
    go_wp2_with (first | (go_at_call 12; refine (switchboardref07_Same.calls ks 2 a2 a3_1 a3_3 a3_4 a3_5 a3_6 a3_7 a3_8 a1_0 _ _ x 2 a2 a3_1 a3_3 a3_4 a3_5 a3_6 a3_7 a3_8 a1_0 _ _ x true _ HX7.out HXC.out HY7.out HYC.out KS.out).mono ?_; rintro e w8 ⟨rfl, hb⟩; have HL8 := Aside0.mk (HL7.out.below hb); clear hb hb0 hd0 hb1 hd1 hb2 hd2 hb3 hd3 hb4 hd4 hb5 hd5 hb6 hd6 hb7 hd7 hb8 hd8 hb9 hd9 hb10 hd10) | (go_at_call 9; refine (switchboardlaw18_awake.calls true _ rfl).mono ?_; rintro e w9 ⟨rfl, hb⟩; have HB9 := Aside0.mk (below_step HL8.out.hb hb); clear hb))
    go_ret
    exact ⟨rfl, HB9.out⟩


end Go.Proofs.Ytabklpdjjoaocaa.Qz
