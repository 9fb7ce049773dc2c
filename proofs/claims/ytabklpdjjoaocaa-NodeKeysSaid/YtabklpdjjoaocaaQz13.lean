/- Own text, by hand: the walk of NodeKeys. -/
import Derived.Test.YtabklpdjjoaocaaQz0
import Derived.Test.YtabklpdjjoaocaaQz1
import Derived.Test.YtabklpdjjoaocaaQz2
import Derived.Test.YtabklpdjjoaocaaQz3
import Derived.Test.YtabklpdjjoaocaaQz4
import Derived.Test.YtabklpdjjoaocaaQz5
import Derived.Test.YtabklpdjjoaocaaQz6
import Derived.Test.YtabklpdjjoaocaaQz7
import Derived.Test.YtabklpdjjoaocaaQz8
import Derived.Test.YtabklpdjjoaocaaQz9
import Derived.Test.YtabklpdjjoaocaaQz10
import Derived.Test.YtabklpdjjoaocaaQz14
import Derived.Test.YtabklpdjjoaocaaQz15
namespace Go.Proofs.Ytabklpdjjoaocaa.Qz
open Go.RowKit Go.Proofs.YtabklpdjjoaocaaW.PrintWords Go.Proofs.YtabklpdjjoaocaaW.PrintLast Go.Proofs.YtabklpdjjoaocaaW.PrintMore
attribute [local go_sem] max2_int min2_int max_two min_two max_three min_three max_four min_four   -- for this text's walks alone
set_option linter.unusedVariables false
set_option linter.unusedSimpArgs false

def switchboardlaw18_NodeKeys.f (k : Nat) (a0_0 : Int) (l0_1 : List S61) (a1_0 : Int) (l1_1 : List (List Int)) (a2 : Int) (a3_0 : Int) (a3_1 : Int) (a3_2 : Int) (a3_3 : Int) (a3_4 : Int) (a3_5 : Int) (a3_6 : Int) (a3_7 : Int) (a3_8 : Int) (a3_9 : Int) (l3_10 : List Int) (l4 : List S57) : Option Bool := if l4.all (fun x => (decide (0 ≤ x.f0) && decide (x.f0 < 256)) && (decide (0 ≤ x.f1) && decide (x.f1 < 256))) = true then some true else none
theorem keys_range {k : Nat} {a0_0 : Int} {l0_1 : List S61} {a1_0 : Int} {l1_1 : List (List Int)} {a2 a3_0 a3_1 a3_2 a3_3 a3_4 a3_5 a3_6 a3_7 a3_8 a3_9 : Int} {l3_10 : List Int} {l4 : List S57} (h : switchboardlaw18_NodeKeys.f k a0_0 l0_1 a1_0 l1_1 a2 a3_0 a3_1 a3_2 a3_3 a3_4 a3_5 a3_6 a3_7 a3_8 a3_9 l3_10 l4 = some true) : ∀ j : Nat, j < l4.length → ∃ t0 r0 : Nat, t0 < 256 ∧ r0 < 256 ∧ (rd_T57 l4 (j : Int)).f0 = (t0 : Int) ∧ (rd_T57 l4 (j : Int)).f1 = (r0 : Int) := by
  intro j hj
  unfold switchboardlaw18_NodeKeys.f at h
  split at h
  · rename_i ha
    rw [List.all_eq_true] at ha
    have hmem : rd_T57 l4 (j : Int) ∈ l4 := by
      unfold rd_T57
      rw [Int.toNat_natCast, List.getD_eq_getElem?_getD, List.getElem?_eq_getElem hj]
      exact List.getElem_mem hj
    have := ha _ hmem
    simp only [Bool.and_eq_true, decide_eq_true_eq] at this
    exact ⟨(rd_T57 l4 (j : Int)).f0.toNat, (rd_T57 l4 (j : Int)).f1.toNat, by omega, by omega, by omega, by omega⟩
  · cases h
theorem LW.size {w W : World} {cm cp ca : Array Value} (h : LW w W cm cp ca) : w.heap.size + 3 ≤ W.heap.size := by
  have := blk_lt h.a
  omega
theorem LW.far {w W : World} {cm cp ca : Array Value} (h : LW w W cm cp ca) {g : Nat} (j : Nat) (u : Value) (hg : w.heap.size + 3 ≤ g) : LW w (W.setCell ⟨g, j, none⟩ u) cm cp ca := ⟨below_set h.hb (by omega), (Below.heap_setCell W ⟨g, j, none⟩ u w.heap.size (by show w.heap.size ≠ g; omega)).trans h.m, (Below.heap_setCell W ⟨g, j, none⟩ u (w.heap.size + 1) (by show w.heap.size + 1 ≠ g; omega)).trans h.p, (Below.heap_setCell W ⟨g, j, none⟩ u (w.heap.size + 1 + 1) (by show w.heap.size + 1 + 1 ≠ g; omega)).trans h.a⟩
set_option maxHeartbeats 16000000 in
set_option maxRecDepth 100000 in
theorem switchboardlaw18_NodeKeys.calls (k : Nat) (a0_0 : Int) (A0_1 : Option Addr) (c0_1 : Nat) (l0_1 : List S61) (a1_0 : Int) (A1_1 : Option Addr) (c1_1 : Nat) (l1_1 : List (List Int)) (a2 : Int) (a3_0 : Int) (a3_1 : Int) (a3_2 : Int) (a3_3 : Int) (a3_4 : Int) (a3_5 : Int) (a3_6 : Int) (a3_7 : Int) (a3_8 : Int) (a3_9 : Int) (A3_10 : Option Addr) (c3_10 : Nat) (l3_10 : List Int) (A4 : Option Addr) (c4 : Nat) (l4 : List S57) (w : World) (hr0_1 : Kd.C k61 w A0_1 l0_1.length l0_1) (hc0_1 : l0_1.length ≤ c0_1) (hr1_1 : Kd.C (Kd.slice 3 (Kd.int .i64)) w A1_1 l1_1.length l1_1) (hc1_1 : l1_1.length ≤ c1_1) (hr3_10 : Kd.C (Kd.int .i64) w A3_10 l3_10.length l3_10) (hc3_10 : l3_10.length ≤ c3_10) (hr4 : Kd.C k57 w A4 l4.length l4) (hc4 : l4.length ≤ c4) (h : switchboardlaw18_NodeKeys.f k a0_0 l0_1 a1_0 l1_1 a2 a3_0 a3_1 a3_2 a3_3 a3_4 a3_5 a3_6 a3_7 a3_8 a3_9 l3_10 l4 = some true) :
    Calls Try.prog 6 #[.agg #[.int .i64 a0_0, .slice A0_1 l0_1.length c0_1], .agg #[.int .i64 a1_0, .slice A1_1 l1_1.length c1_1], .int .i64 a2, .agg #[.int .i64 a3_0, .int .i64 a3_1, .int .i64 a3_2, .int .i64 a3_3, .int .i64 a3_4, .int .i64 a3_5, .int .i64 a3_6, .int .i64 a3_7, .int .i64 a3_8, .int .i64 a3_9, .slice A3_10 l3_10.length c3_10], .slice A4 l4.length c4] w fun e w' => e = .returned (.bool true) ∧ Below w.heap.size w w' := by
  have HR4 := Aside0.mk hr4
  have HC4 := Aside0.mk hc4
  have HK : Aside0 (∀ j : Nat, j < l4.length → ∃ t0 r0 : Nat, t0 < 256 ∧ r0 < 256 ∧ (rd_T57 l4 (j : Int)).f0 = (t0 : Int) ∧ (rd_T57 l4 (j : Int)).f1 = (r0 : Int)) := ⟨keys_range h⟩
  clear hr4 hc4 h
  have hu24 := Try.underlying24
  have hu27 := Try.underlying27
  have hu31 := Try.underlying31
  have HR0 := Aside0.mk hr0_1
  have HC0 := Aside0.mk hc0_1
  have HR1 := Aside0.mk hr1_1
  have HC1 := Aside0.mk hc1_1
  have HR3 := Aside0.mk hr3_10
  have HC3 := Aside0.mk hc3_10
  clear hr0_1 hc0_1 hr1_1 hc1_1 hr3_10 hc3_10
  have HL0 : Aside0 (LW w (((w.alloc (.cells #[.int .i64 a0_0, .slice A0_1 l0_1.length c0_1] 24)).alloc (.cells #[.int .i64 a1_0, .slice A1_1 l1_1.length c1_1] 27)).alloc (.cells #[.int .i64 a3_0, .int .i64 a3_1, .int .i64 a3_2, .int .i64 a3_3, .int .i64 a3_4, .int .i64 a3_5, .int .i64 a3_6, .int .i64 a3_7, .int .i64 a3_8, .int .i64 a3_9, .slice A3_10 l3_10.length c3_10] 31)) #[.int .i64 a0_0, .slice A0_1 l0_1.length c0_1] #[.int .i64 a1_0, .slice A1_1 l1_1.length c1_1] #[.int .i64 a3_0, .int .i64 a3_1, .int .i64 a3_2, .int .i64 a3_3, .int .i64 a3_4, .int .i64 a3_5, .int .i64 a3_6, .int .i64 a3_7, .int .i64 a3_8, .int .i64 a3_9, .slice A3_10 l3_10.length c3_10]) := ⟨⟨below_alloc (below_alloc (below_alloc (Below.refl _ _) _) _) _, blk_alloc (blk_alloc (alloc_at _ rfl) _) _, blk_alloc (alloc_at _ (by simp)) _, alloc_at _ (by simp)⟩⟩
  obtain ⟨b1, h1, q1⟩ := msmall_ev a0_0 l0_1
  obtain ⟨k1, s1⟩ := h1.rounds
  have S1 := Aside0.mk s1
  clear s1 h1
  cases b1
  case false =>
    go_enter Try.func6, Try.ntmps6
    go_wp2_with (first
      | (go_at_call 7; refine (switchboardref15_Small.calls k1 _ _ _ l0_1 false _ (Kd.C_below HR0.out HL0.out.hb) HC0.out S1.out).mono ?_; rintro e w1 ⟨rfl, hb⟩; have HL1 := Aside0.mk (HL0.out.below hb); clear hb; have hp1 : w1.cell? ⟨w.heap.size + 1, 1, none⟩ = some (.slice A1_1 l1_1.length c1_1) := (blk_cell HL1.out.p 1).trans rfl)
      | (go_at_call 9; refine (switchboardlaw18_awake.calls true _ rfl).mono ?_; rintro e w9 ⟨rfl, hb⟩; have HB9 := Aside0.mk (below_step HL1.out.hb hb); clear hb))
    go_ret
    exact ⟨rfl, HB9.out⟩
  obtain ⟨b2, h2, q2⟩ := small_ev l1_1
  obtain ⟨k2, s2⟩ := h2.rounds
  have S2 := Aside0.mk s2
  clear s2 h2
  cases b2
  case false =>
    go_enter Try.func6, Try.ntmps6
    go_wp2_with (first
      | (go_at_call 7; refine (switchboardref15_Small.calls k1 _ _ _ l0_1 true _ (Kd.C_below HR0.out HL0.out.hb) HC0.out S1.out).mono ?_; rintro e w1 ⟨rfl, hb⟩; have HL1 := Aside0.mk (HL0.out.below hb); clear hb; have hp1 : w1.cell? ⟨w.heap.size + 1, 1, none⟩ = some (.slice A1_1 l1_1.length c1_1) := (blk_cell HL1.out.p 1).trans rfl)
      | (go_at_call 8; refine (switchboardref03_Small.calls k2 _ _ l1_1 false _ (Kd.C_below HR1.out HL1.out.hb) HC1.out S2.out).mono ?_; rintro e w2 ⟨rfl, hd⟩; have HL2 := Aside0.mk (HL1.out.below hd.below); clear hp1 hd; have hm0 : w2.cell? ⟨w.heap.size, 0, none⟩ = some (.int .i64 a0_0) := (blk_cell HL2.out.m 0).trans rfl; have hm1 : w2.cell? ⟨w.heap.size, 1, none⟩ = some (.slice A0_1 l0_1.length c0_1) := (blk_cell HL2.out.m 1).trans rfl; have hp0 : w2.cell? ⟨w.heap.size + 1, 0, none⟩ = some (.int .i64 a1_0) := (blk_cell HL2.out.p 0).trans rfl; have hp1 : w2.cell? ⟨w.heap.size + 1, 1, none⟩ = some (.slice A1_1 l1_1.length c1_1) := (blk_cell HL2.out.p 1).trans rfl; have ha0 : w2.cell? ⟨w.heap.size + 1 + 1, 0, none⟩ = some (.int .i64 a3_0) := (blk_cell HL2.out.a 0).trans rfl; have ha1 : w2.cell? ⟨w.heap.size + 1 + 1, 1, none⟩ = some (.int .i64 a3_1) := (blk_cell HL2.out.a 1).trans rfl; have ha2 : w2.cell? ⟨w.heap.size + 1 + 1, 2, none⟩ = some (.int .i64 a3_2) := (blk_cell HL2.out.a 2).trans rfl; have ha3 : w2.cell? ⟨w.heap.size + 1 + 1, 3, none⟩ = some (.int .i64 a3_3) := (blk_cell HL2.out.a 3).trans rfl; have ha4 : w2.cell? ⟨w.heap.size + 1 + 1, 4, none⟩ = some (.int .i64 a3_4) := (blk_cell HL2.out.a 4).trans rfl; have ha5 : w2.cell? ⟨w.heap.size + 1 + 1, 5, none⟩ = some (.int .i64 a3_5) := (blk_cell HL2.out.a 5).trans rfl; have ha6 : w2.cell? ⟨w.heap.size + 1 + 1, 6, none⟩ = some (.int .i64 a3_6) := (blk_cell HL2.out.a 6).trans rfl; have ha7 : w2.cell? ⟨w.heap.size + 1 + 1, 7, none⟩ = some (.int .i64 a3_7) := (blk_cell HL2.out.a 7).trans rfl; have ha8 : w2.cell? ⟨w.heap.size + 1 + 1, 8, none⟩ = some (.int .i64 a3_8) := (blk_cell HL2.out.a 8).trans rfl; have ha9 : w2.cell? ⟨w.heap.size + 1 + 1, 9, none⟩ = some (.int .i64 a3_9) := (blk_cell HL2.out.a 9).trans rfl; have ha10 : w2.cell? ⟨w.heap.size + 1 + 1, 10, none⟩ = some (.slice A3_10 l3_10.length c3_10) := (blk_cell HL2.out.a 10).trans rfl)
      | (go_at_call 9; refine (switchboardlaw18_awake.calls true _ rfl).mono ?_; rintro e w9 ⟨rfl, hb⟩; have HB9 := Aside0.mk (below_step HL2.out.hb hb); clear hb))
    go_ret
    exact ⟨rfl, HB9.out⟩
  have FM := q1 rfl
  have FH := q2 rfl
  clear q1 q2
  by_cases hv : l3_10.length ≤ 30
  case neg =>
    have e1a : decide ((l3_10.length : Int) > 30) = true := decide_eq_true (by omega)
    have e1b : decide (30 < (l3_10.length : Int)) = true := decide_eq_true (by omega)
    have e1c : decide (30 < l3_10.length) = true := decide_eq_true (by omega)
    clear hv
    go_enter Try.func6, Try.ntmps6
    go_wp2_with (first
      | (go_at_call 7; refine (switchboardref15_Small.calls k1 _ _ _ l0_1 true _ (Kd.C_below HR0.out HL0.out.hb) HC0.out S1.out).mono ?_; rintro e w1 ⟨rfl, hb⟩; have HL1 := Aside0.mk (HL0.out.below hb); clear hb; have hp1 : w1.cell? ⟨w.heap.size + 1, 1, none⟩ = some (.slice A1_1 l1_1.length c1_1) := (blk_cell HL1.out.p 1).trans rfl)
      | (go_at_call 8; refine (switchboardref03_Small.calls k2 _ _ l1_1 true _ (Kd.C_below HR1.out HL1.out.hb) HC1.out S2.out).mono ?_; rintro e w2 ⟨rfl, hd⟩; have HL2 := Aside0.mk (HL1.out.below hd.below); clear hp1 hd; have hm0 : w2.cell? ⟨w.heap.size, 0, none⟩ = some (.int .i64 a0_0) := (blk_cell HL2.out.m 0).trans rfl; have hm1 : w2.cell? ⟨w.heap.size, 1, none⟩ = some (.slice A0_1 l0_1.length c0_1) := (blk_cell HL2.out.m 1).trans rfl; have hp0 : w2.cell? ⟨w.heap.size + 1, 0, none⟩ = some (.int .i64 a1_0) := (blk_cell HL2.out.p 0).trans rfl; have hp1 : w2.cell? ⟨w.heap.size + 1, 1, none⟩ = some (.slice A1_1 l1_1.length c1_1) := (blk_cell HL2.out.p 1).trans rfl; have ha0 : w2.cell? ⟨w.heap.size + 1 + 1, 0, none⟩ = some (.int .i64 a3_0) := (blk_cell HL2.out.a 0).trans rfl; have ha1 : w2.cell? ⟨w.heap.size + 1 + 1, 1, none⟩ = some (.int .i64 a3_1) := (blk_cell HL2.out.a 1).trans rfl; have ha2 : w2.cell? ⟨w.heap.size + 1 + 1, 2, none⟩ = some (.int .i64 a3_2) := (blk_cell HL2.out.a 2).trans rfl; have ha3 : w2.cell? ⟨w.heap.size + 1 + 1, 3, none⟩ = some (.int .i64 a3_3) := (blk_cell HL2.out.a 3).trans rfl; have ha4 : w2.cell? ⟨w.heap.size + 1 + 1, 4, none⟩ = some (.int .i64 a3_4) := (blk_cell HL2.out.a 4).trans rfl; have ha5 : w2.cell? ⟨w.heap.size + 1 + 1, 5, none⟩ = some (.int .i64 a3_5) := (blk_cell HL2.out.a 5).trans rfl; have ha6 : w2.cell? ⟨w.heap.size + 1 + 1, 6, none⟩ = some (.int .i64 a3_6) := (blk_cell HL2.out.a 6).trans rfl; have ha7 : w2.cell? ⟨w.heap.size + 1 + 1, 7, none⟩ = some (.int .i64 a3_7) := (blk_cell HL2.out.a 7).trans rfl; have ha8 : w2.cell? ⟨w.heap.size + 1 + 1, 8, none⟩ = some (.int .i64 a3_8) := (blk_cell HL2.out.a 8).trans rfl; have ha9 : w2.cell? ⟨w.heap.size + 1 + 1, 9, none⟩ = some (.int .i64 a3_9) := (blk_cell HL2.out.a 9).trans rfl; have ha10 : w2.cell? ⟨w.heap.size + 1 + 1, 10, none⟩ = some (.slice A3_10 l3_10.length c3_10) := (blk_cell HL2.out.a 10).trans rfl)
      | (go_at_call 9; refine (switchboardlaw18_awake.calls true _ rfl).mono ?_; rintro e w9 ⟨rfl, hb⟩; have HB9 := Aside0.mk (below_step HL2.out.hb hb); clear hb))
    go_ret
    exact ⟨rfl, HB9.out⟩
  have e1a : decide ((l3_10.length : Int) > 30) = false := decide_eq_false (by omega)
  have e1b : decide (30 < (l3_10.length : Int)) = false := decide_eq_false (by omega)
  have e1c : decide (30 < l3_10.length) = false := decide_eq_false (by omega)
  obtain ⟨pb, hp⟩ := place_ev a1_0 FH
  obtain ⟨hb, hh⟩ := holds_ev a1_0 FH a3_8 a2
  have HFT : ∀ tk rk : Nat, tk < 16 → rk < 2 → fitsB pb a0_0 l0_1 a2 a3_0 a3_1 a3_2 a3_3 a3_4 a3_5 (tk : Int) (rk : Int) a3_8 a3_9 l3_10 = fitsB pb a0_0 l0_1 a2 a3_0 a3_1 a3_2 a3_3 a3_4 a3_5 0 0 a3_8 a3_9 l3_10 := fun tk rk h1 h2 => fitsB_tok (inR_iff.2 (by omega)) (inR_iff.2 (by omega)) rfl rfl
  have HFE : ∀ tk rk : Nat, tk < 16 → rk < 2 → Ev (fun k => node_fits.f k a0_0 l0_1 a1_0 l1_1 a2 a3_0 a3_1 a3_2 a3_3 a3_4 a3_5 (tk : Int) (rk : Int) a3_8 a3_9 l3_10) (fitsB pb a0_0 l0_1 a2 a3_0 a3_1 a3_2 a3_3 a3_4 a3_5 0 0 a3_8 a3_9 l3_10) := fun tk rk h1 h2 => by rw [← HFT tk rk h1 h2]; exact fits_ev hp _ _ _ _ _ _ _ _ _ _ _ _ _ _ (by omega)
  cases hfb : fitsB pb a0_0 l0_1 a2 a3_0 a3_1 a3_2 a3_3 a3_4 a3_5 0 0 a3_8 a3_9 l3_10
  all_goals simp only [hfb] at HFE HFT
  case false =>
    have WK : Aside0 (∀ tk rk : Nat, tk < 16 → rk < 2 → ∃ k, node_Work.f k a0_0 l0_1 a1_0 l1_1 a2 [] a3_0 a3_1 a3_2 a3_3 a3_4 a3_5 (tk : Int) (rk : Int) a3_8 a3_9 l3_10 = some ([], 0, 0, 0, 0, 0, 0, 0, 0, 0, 0, [], false)) := ⟨fun tk rk h1 h2 => (work_no (es := []) (HFE tk rk h1 h2)).rounds⟩
    clear HFE HFT hfb hp hh FM FH hv
    go_enter Try.func6, Try.ntmps6
    go_wp2_with (first | (go_at_call 7; refine (switchboardref15_Small.calls k1 _ _ _ l0_1 true _ (Kd.C_below HR0.out HL0.out.hb) HC0.out S1.out).mono ?_; rintro e w1 ⟨rfl, hb⟩; have HL1 := Aside0.mk (HL0.out.below hb); clear hb; have hp1 : w1.cell? ⟨w.heap.size + 1, 1, none⟩ = some (.slice A1_1 l1_1.length c1_1) := (blk_cell HL1.out.p 1).trans rfl) | (go_at_call 8; refine (switchboardref03_Small.calls k2 _ _ l1_1 true _ (Kd.C_below HR1.out HL1.out.hb) HC1.out S2.out).mono ?_; rintro e w2 ⟨rfl, hd⟩; have HL2 := Aside0.mk (HL1.out.below hd.below); clear hp1 hd; have hm0 : w2.cell? ⟨w.heap.size, 0, none⟩ = some (.int .i64 a0_0) := (blk_cell HL2.out.m 0).trans rfl; have hm1 : w2.cell? ⟨w.heap.size, 1, none⟩ = some (.slice A0_1 l0_1.length c0_1) := (blk_cell HL2.out.m 1).trans rfl; have hp0 : w2.cell? ⟨w.heap.size + 1, 0, none⟩ = some (.int .i64 a1_0) := (blk_cell HL2.out.p 0).trans rfl; have hp1 : w2.cell? ⟨w.heap.size + 1, 1, none⟩ = some (.slice A1_1 l1_1.length c1_1) := (blk_cell HL2.out.p 1).trans rfl; have ha0 : w2.cell? ⟨w.heap.size + 1 + 1, 0, none⟩ = some (.int .i64 a3_0) := (blk_cell HL2.out.a 0).trans rfl; have ha1 : w2.cell? ⟨w.heap.size + 1 + 1, 1, none⟩ = some (.int .i64 a3_1) := (blk_cell HL2.out.a 1).trans rfl; have ha2 : w2.cell? ⟨w.heap.size + 1 + 1, 2, none⟩ = some (.int .i64 a3_2) := (blk_cell HL2.out.a 2).trans rfl; have ha3 : w2.cell? ⟨w.heap.size + 1 + 1, 3, none⟩ = some (.int .i64 a3_3) := (blk_cell HL2.out.a 3).trans rfl; have ha4 : w2.cell? ⟨w.heap.size + 1 + 1, 4, none⟩ = some (.int .i64 a3_4) := (blk_cell HL2.out.a 4).trans rfl; have ha5 : w2.cell? ⟨w.heap.size + 1 + 1, 5, none⟩ = some (.int .i64 a3_5) := (blk_cell HL2.out.a 5).trans rfl; have ha6 : w2.cell? ⟨w.heap.size + 1 + 1, 6, none⟩ = some (.int .i64 a3_6) := (blk_cell HL2.out.a 6).trans rfl; have ha7 : w2.cell? ⟨w.heap.size + 1 + 1, 7, none⟩ = some (.int .i64 a3_7) := (blk_cell HL2.out.a 7).trans rfl; have ha8 : w2.cell? ⟨w.heap.size + 1 + 1, 8, none⟩ = some (.int .i64 a3_8) := (blk_cell HL2.out.a 8).trans rfl; have ha9 : w2.cell? ⟨w.heap.size + 1 + 1, 9, none⟩ = some (.int .i64 a3_9) := (blk_cell HL2.out.a 9).trans rfl; have ha10 : w2.cell? ⟨w.heap.size + 1 + 1, 10, none⟩ = some (.slice A3_10 l3_10.length c3_10) := (blk_cell HL2.out.a 10).trans rfl) | ((with_reducible refine gate_dst (N := 12) rfl ?_); (try (refine gate_guard (by rfl) ?_; dsimp only)); refine box_event ?hg (N := 12) ?hd (cs := bcells (List.replicate 32 false)) (t := 56) ?hr ?_; (case hd => rfl); (case hg => rfl); (case hr => first | (go_simp; done) | (go_simp; rfl)); intro gb hg w3 hbox hb; have HA3 := Aside0.mk hbox; have HL3 := Aside0.mk (HL2.out.below hb); have HGB : Aside0 (w.heap.size + 3 ≤ gb) := ⟨by rw [hg]; exact HL2.out.size⟩; clear hg hbox hb hm0 hm1 hp0 hp1 ha0 ha1 ha2 ha3 ha4 ha5 ha6 ha7 ha8 ha9 ha10))
    go_loopw [11, 13, 14] (fun v11 v13 v14 W => ∃ i : Nat, v11 = .slice none 0 0 ∧ v13 = .int .i64 0 ∧ v14 = .int .i64 (i : Int) ∧ Aside0 (i ≤ 20) ∧ Aside0 (LW w W #[.int .i64 a0_0, .slice A0_1 l0_1.length c0_1] #[.int .i64 a1_0, .slice A1_1 l1_1.length c1_1] #[.int .i64 a3_0, .int .i64 a3_1, .int .i64 a3_2, .int .i64 a3_3, .int .i64 a3_4, .int .i64 a3_5, .int .i64 a3_6, .int .i64 a3_7, .int .i64 a3_8, .int .i64 a3_9, .slice A3_10 l3_10.length c3_10])) (fun _ _ _ _ => 0)
    case atStart => exact ⟨0, rfl, rfl, rfl, ⟨by omega⟩, HL3⟩
    case round =>
      clear HL3 HA3
      obtain ⟨i, rfl, rfl, rfl, HI, HL⟩ := hrel
      by_cases hlt : i < l4.length
      case neg =>
        have k1 : decide ((i : Int) < (l4.length : Int)) = false := decide_eq_false (by omega)
        have k1n : decide (i < l4.length) = false := decide_eq_false hlt
        clear hlt
        go_wp2_with (go_at_call 9; refine (switchboardlaw18_awake.calls true _ rfl).mono ?_; rintro e w9 ⟨rfl, hb⟩; have HB9 := Aside0.mk (below_step HL.out.hb hb); clear hb)
        go_ret
        exact ⟨rfl, HB9.out⟩
      have k1 : decide ((i : Int) < (l4.length : Int)) = true := decide_eq_true (by omega)
      have k1n : decide (i < l4.length) = true := decide_eq_true hlt
      by_cases h20 : i < 20
      case neg =>
        have k2 : decide ((i : Int) < 20) = false := decide_eq_false (by omega)
        clear hlt h20
        go_wp2_with (go_at_call 9; refine (switchboardlaw18_awake.calls true _ rfl).mono ?_; rintro e w9 ⟨rfl, hb⟩; have HB9 := Aside0.mk (below_step HL.out.hb hb); clear hb)
        go_ret
        exact ⟨rfl, HB9.out⟩
      have k2 : decide ((i : Int) < 20) = true := decide_eq_true (by omega)
      obtain ⟨t0, r0, ht0, hr0, et0, er0⟩ := HK.out i hlt
      obtain ⟨ad, hA, hy0, hy1⟩ := at_T57 HR4.out (i : Int) (by omega) (by omega)
      cases hA
      rw [Int.toNat_natCast, et0] at hy0
      rw [Int.toNat_natCast, er0] at hy1
      have HY0 := Aside0.mk hy0
      have HY1 := Aside0.mk hy1
      clear hy0 hy1 et0 er0
      have ha0 : wr.cell? ⟨w.heap.size + 1 + 1, 0, none⟩ = some (.int .i64 a3_0) := (blk_cell HL.out.a 0).trans rfl
      have ha1 : wr.cell? ⟨w.heap.size + 1 + 1, 1, none⟩ = some (.int .i64 a3_1) := (blk_cell HL.out.a 1).trans rfl
      have ha2 : wr.cell? ⟨w.heap.size + 1 + 1, 2, none⟩ = some (.int .i64 a3_2) := (blk_cell HL.out.a 2).trans rfl
      have ha3 : wr.cell? ⟨w.heap.size + 1 + 1, 3, none⟩ = some (.int .i64 a3_3) := (blk_cell HL.out.a 3).trans rfl
      have ha4 : wr.cell? ⟨w.heap.size + 1 + 1, 4, none⟩ = some (.int .i64 a3_4) := (blk_cell HL.out.a 4).trans rfl
      have ha5 : wr.cell? ⟨w.heap.size + 1 + 1, 5, none⟩ = some (.int .i64 a3_5) := (blk_cell HL.out.a 5).trans rfl
      have ha6 : wr.cell? ⟨w.heap.size + 1 + 1, 6, none⟩ = some (.int .i64 a3_6) := (blk_cell HL.out.a 6).trans rfl
      have ha7 : wr.cell? ⟨w.heap.size + 1 + 1, 7, none⟩ = some (.int .i64 a3_7) := (blk_cell HL.out.a 7).trans rfl
      have ha8 : wr.cell? ⟨w.heap.size + 1 + 1, 8, none⟩ = some (.int .i64 a3_8) := (blk_cell HL.out.a 8).trans rfl
      have ha9 : wr.cell? ⟨w.heap.size + 1 + 1, 9, none⟩ = some (.int .i64 a3_9) := (blk_cell HL.out.a 9).trans rfl
      have ha10 : wr.cell? ⟨w.heap.size + 1 + 1, 10, none⟩ = some (.slice A3_10 l3_10.length c3_10) := (blk_cell HL.out.a 10).trans rfl
      go_upto_region 10 with (fail)
      have HL4 := Aside0.mk (HL.out.below (below_drew (below_alloc (Below.refl _ _) (.cells #[.int .i64 a3_0, .int .i64 a3_1, .int .i64 a3_2, .int .i64 a3_3, .int .i64 a3_4, .int .i64 a3_5, .int .i64 a3_6, .int .i64 a3_7, .int .i64 a3_8, .int .i64 a3_9, .slice A3_10 l3_10.length c3_10] 31))))
      have HO4 := Aside0.mk (blk_drew (alloc_at (W := wr) (.cells #[.int .i64 a3_0, .int .i64 a3_1, .int .i64 a3_2, .int .i64 a3_3, .int .i64 a3_4, .int .i64 a3_5, .int .i64 a3_6, .int .i64 a3_7, .int .i64 a3_8, .int .i64 a3_9, .slice A3_10 l3_10.length c3_10] 31) rfl))
      refine start_ (n := 18) (S := fun W => W.cell? (ad.add (i * 2)) = some (.int .u8 (t0 : Int)) ∧ W.cell? ⟨(ad.add (i * 2)).block, (ad.add (i * 2)).off + 1, none⟩ = some (.int .u8 (r0 : Int))) (ds := []) #[false, false, false, false, false, false, false, false, false, false, false, false, false, false, false, false, false, false] (by kernel_rfl) rfl rfl ⟨(HL4.out.hb.cell (World.block_lt_of_cell? w _ HY0.out)).trans HY0.out, (HL4.out.hb.cell (World.block_lt_of_cell? w _ HY1.out)).trans HY1.out⟩ (fun hHeld => ?_)
      have HGW : Aside0 (w.heap.size + 3 ≤ wr.heap.size) := ⟨HL.out.size⟩
      generalize (wr.alloc (.cells #[.int .i64 a3_0, .int .i64 a3_1, .int .i64 a3_2, .int .i64 a3_3, .int .i64 a3_4, .int .i64 a3_5, .int .i64 a3_6, .int .i64 a3_7, .int .i64 a3_8, .int .i64 a3_9, .slice A3_10 l3_10.length c3_10] 31)).drew = w4 at HL4 HO4 hHeld  ⊢
      clear HL ha0 ha1 ha2 ha3 ha4 ha5 ha6 ha7 ha8 ha9 ha10
      obtain ⟨tk, htk⟩ : ∃ tk : Nat, tk = t0 % 16 := ⟨_, rfl⟩
      obtain ⟨rk, hrk⟩ : ∃ rk : Nat, rk = r0 % 2 := ⟨_, rfl⟩
      have hwt : wrap64 (tk : Int) = (tk : Int) := wrap_small (by omega) (by omega)
      have hwr : wrap64 (rk : Int) = (rk : Int) := wrap_small (by omega) (by omega)
      have HTK := Aside0.mk htk
      have HRK := Aside0.mk hrk
      clear htk hrk
      refine pure_ (i := 0) (N := some 46) (v := ?_) (a' := ?_) #[true, false, false, false, false, false, false, false, false, false, false, false, false, false, false, false, false, false] rfl rfl (any_of rfl (by kernel_rfl)) (fun _ _ _ h => h) (Or.inl ⟨by rfl, ?_⟩) ?_ ?_
      rotate_left
      · intro w'
        go_simp
        with_reducible rfl
      rotate_left
      · simp only [Act.put, List.setIfInBounds_toArray, List.set_cons_zero, List.set_cons_succ, i64_w, i32_w]
        rfl
      refine pure_ (i := 1) (N := some 47) (v := ?_) (a' := ?_) #[true, true, false, false, false, false, false, false, false, false, false, false, false, false, false, false, false, false] rfl rfl (any_of rfl (by kernel_rfl)) (fun _ _ _ h => h) (Or.inl ⟨by rfl, ?_⟩) ?_ ?_
      rotate_left
      · intro w'
        go_simp
        with_reducible rfl
      rotate_left
      · simp only [Act.put, List.setIfInBounds_toArray, List.set_cons_zero, List.set_cons_succ, i64_w, i32_w]
        rfl
      refine pure_ (i := 2) (N := some 48) (v := ?_) (a' := ?_) #[true, true, true, false, false, false, false, false, false, false, false, false, false, false, false, false, false, false] rfl rfl (any_of rfl (by kernel_rfl)) (fun _ _ _ h => h) (Or.inl ⟨by rfl, ?_⟩) ?_ ?_
      rotate_left
      · intro w'
        go_simp
        with_reducible rfl
      rotate_left
      · simp only [Act.put, List.setIfInBounds_toArray, List.set_cons_zero, List.set_cons_succ, i64_w, i32_w]
        rfl
      refine pure_ (i := 3) (N := some 49) (v := ?_) (a' := ?_) #[true, true, true, true, false, false, false, false, false, false, false, false, false, false, false, false, false, false] rfl rfl (any_of rfl (by kernel_rfl)) (fun _ _ _ h => h) (Or.inl ⟨by rfl, ?_⟩) ?_ ?_
      rotate_left
      · intro w'
        go_simp
        with_reducible rfl
      rotate_left
      · simp only [Act.put, List.setIfInBounds_toArray, List.set_cons_zero, List.set_cons_succ, i64_w, i32_w]
        rfl
      refine take_ (i := 4) (N := some 50) (v := ?_) (a' := ?_) #[true, true, true, true, true, false, false, false, false, false, false, false, false, false, false, false, false, false] rfl rfl (take_of rfl (by kernel_rfl)) (fun _ _ _ h => h) (Or.inl ⟨by rfl, ?_⟩) hHeld ?_ ?_
      rotate_left
      · rintro w' ⟨s0, s1⟩
        go_simp
        with_reducible rfl
      rotate_left
      · simp only [Act.put, List.setIfInBounds_toArray, List.set_cons_zero, List.set_cons_succ, i64_w, i32_w]
        rfl
      refine pure_ (i := 5) (N := some 51) (v := .int .u8 (tk : Int)) (a' := ?_) #[true, true, true, true, true, true, false, false, false, false, false, false, false, false, false, false, false, false] rfl rfl (any_of rfl (by kernel_rfl)) (fun _ _ _ h => h) (Or.inl ⟨by rfl, ?_⟩) ?_ ?_
      · intro w'
        first | (go_simp; done) | (go_simp; rfl) | (go_simp; rw [Int.tmod_eq_emod_of_nonneg (by omega)]; have h1_ := HTK.out; have h2_ := HRK.out; omega) | (go_simp; have h1_ := HTK.out; have h2_ := HRK.out; omega) | (go_simp; exact wrap_small (by omega) (by have h1_ := HTK.out; have h2_ := HRK.out; omega))
      rotate_left
      · simp only [Act.put, List.setIfInBounds_toArray, List.set_cons_zero, List.set_cons_succ, i64_w, i32_w]
        rfl
      refine pure_ (i := 6) (N := some 52) (v := ?_) (a' := ?_) #[true, true, true, true, true, true, true, false, false, false, false, false, false, false, false, false, false, false] rfl rfl (any_of rfl (by kernel_rfl)) (fun _ _ _ h => h) (Or.inl ⟨by rfl, ?_⟩) ?_ ?_
      rotate_left
      · intro w'
        go_simp
        with_reducible rfl
      rotate_left
      · simp only [Act.put, List.setIfInBounds_toArray, List.set_cons_zero, List.set_cons_succ, i64_w, i32_w]
        rfl
      refine pure_ (i := 7) (N := some 53) (v := ?_) (a' := ?_) #[true, true, true, true, true, true, true, true, false, false, false, false, false, false, false, false, false, false] rfl rfl (any_of rfl (by kernel_rfl)) (fun _ _ _ h => h) (Or.inl ⟨by rfl, ?_⟩) ?_ ?_
      rotate_left
      · intro w'
        go_simp
        with_reducible rfl
      rotate_left
      · simp only [Act.put, List.setIfInBounds_toArray, List.set_cons_zero, List.set_cons_succ, i64_w, i32_w]
        rfl
      refine pure_ (i := 8) (N := some 54) (v := ?_) (a' := ?_) #[true, true, true, true, true, true, true, true, true, false, false, false, false, false, false, false, false, false] rfl rfl (any_of rfl (by kernel_rfl)) (fun _ _ _ h => h) (Or.inl ⟨by rfl, ?_⟩) ?_ ?_
      rotate_left
      · intro w'
        go_simp
        with_reducible rfl
      rotate_left
      · simp only [Act.put, List.setIfInBounds_toArray, List.set_cons_zero, List.set_cons_succ, i64_w, i32_w]
        rfl
      refine pure_ (i := 9) (N := some 55) (v := ?_) (a' := ?_) #[true, true, true, true, true, true, true, true, true, true, false, false, false, false, false, false, false, false] rfl rfl (any_of rfl (by kernel_rfl)) (fun _ _ _ h => h) (Or.inl ⟨by rfl, ?_⟩) ?_ ?_
      rotate_left
      · intro w'
        go_simp
        with_reducible rfl
      rotate_left
      · simp only [Act.put, List.setIfInBounds_toArray, List.set_cons_zero, List.set_cons_succ, i64_w, i32_w]
        rfl
      refine pure_ (i := 10) (N := some 56) (v := ?_) (a' := ?_) #[true, true, true, true, true, true, true, true, true, true, true, false, false, false, false, false, false, false] rfl rfl (any_of rfl (by kernel_rfl)) (fun _ _ _ h => h) (Or.inl ⟨by rfl, ?_⟩) ?_ ?_
      rotate_left
      · intro w'
        go_simp
        with_reducible rfl
      rotate_left
      · simp only [Act.put, List.setIfInBounds_toArray, List.set_cons_zero, List.set_cons_succ, i64_w, i32_w]
        rfl
      refine take_ (i := 11) (N := some 57) (v := ?_) (a' := ?_) #[true, true, true, true, true, true, true, true, true, true, true, true, false, false, false, false, false, false] rfl rfl (take_of rfl (by kernel_rfl)) (fun _ _ _ h => h) (Or.inl ⟨by rfl, ?_⟩) hHeld ?_ ?_
      rotate_left
      · rintro w' ⟨s0, s1⟩
        go_simp
        with_reducible rfl
      rotate_left
      · simp only [Act.put, List.setIfInBounds_toArray, List.set_cons_zero, List.set_cons_succ, i64_w, i32_w]
        rfl
      refine pure_ (i := 12) (N := some 58) (v := .int .u8 (rk : Int)) (a' := ?_) #[true, true, true, true, true, true, true, true, true, true, true, true, true, false, false, false, false, false] rfl rfl (any_of rfl (by kernel_rfl)) (fun _ _ _ h => h) (Or.inl ⟨by rfl, ?_⟩) ?_ ?_
      · intro w'
        first | (go_simp; done) | (go_simp; rfl) | (go_simp; rw [Int.tmod_eq_emod_of_nonneg (by omega)]; have h1_ := HTK.out; have h2_ := HRK.out; omega) | (go_simp; have h1_ := HTK.out; have h2_ := HRK.out; omega) | (go_simp; exact wrap_small (by omega) (by have h1_ := HTK.out; have h2_ := HRK.out; omega))
      rotate_left
      · simp only [Act.put, List.setIfInBounds_toArray, List.set_cons_zero, List.set_cons_succ, i64_w, i32_w]
        rfl
      refine pure_ (i := 13) (N := some 59) (v := ?_) (a' := ?_) #[true, true, true, true, true, true, true, true, true, true, true, true, true, true, false, false, false, false] rfl rfl (any_of rfl (by kernel_rfl)) (fun _ _ _ h => h) (Or.inl ⟨by rfl, ?_⟩) ?_ ?_
      rotate_left
      · intro w'
        go_simp
        with_reducible rfl
      rotate_left
      · simp only [Act.put, List.setIfInBounds_toArray, List.set_cons_zero, List.set_cons_succ, i64_w, i32_w]
        rfl
      refine pure_ (i := 14) (N := some 60) (v := ?_) (a' := ?_) #[true, true, true, true, true, true, true, true, true, true, true, true, true, true, true, false, false, false] rfl rfl (any_of rfl (by kernel_rfl)) (fun _ _ _ h => h) (Or.inl ⟨by rfl, ?_⟩) ?_ ?_
      rotate_left
      · intro w'
        go_simp
        with_reducible rfl
      rotate_left
      · simp only [Act.put, List.setIfInBounds_toArray, List.set_cons_zero, List.set_cons_succ, i64_w, i32_w]
        rfl
      refine one_ (i := 15) (N := none) #[true, true, true, true, true, true, true, true, true, true, true, true, true, true, true, true, false, false] rfl rfl (one_of rfl (by kernel_rfl)) (by decide) (fun K hK => ?_)
      have hs6 : w4.cell? ⟨wr.heap.size, 6, none⟩ = some (.int .i64 a3_6) := (blk_cell HO4.out 6).trans rfl
      have hf6 := blk_frozen HO4.out 6
      refine skip_ (w1 := ?_) (by rfl) rfl ?_ ?_
      rotate_left
      · go_simp
        rfl
      clear hs6 hf6
      have HL5 := Aside0.mk (LW.far HL4.out 6 (.int .i64 (tk : Int)) HGW.out)
      have HO5 : Aside0 ((w4.setCell ⟨wr.heap.size, 6, none⟩ (.int .i64 (tk : Int))).heap[wr.heap.size]? = some (.cells #[.int .i64 a3_0, .int .i64 a3_1, .int .i64 a3_2, .int .i64 a3_3, .int .i64 a3_4, .int .i64 a3_5, .int .i64 (tk : Int), .int .i64 a3_7, .int .i64 a3_8, .int .i64 a3_9, .slice A3_10 l3_10.length c3_10] 31 (0, 0))) := ⟨blk_put HO4.out 6 _ rfl⟩
      generalize (w4.setCell ⟨wr.heap.size, 6, none⟩ (.int .i64 (tk : Int))) = w5 at HL5 HO5  ⊢
      clear hHeld HL4 HO4 
      refine hK.out _ _ ⟨(HL5.out.hb.cell (World.block_lt_of_cell? w _ HY0.out)).trans HY0.out, (HL5.out.hb.cell (World.block_lt_of_cell? w _ HY1.out)).trans HY1.out⟩ (fun hHeld => ?_)
      clear hK K
      refine pure_ (i := 16) (N := some 61) (v := ?_) (a' := ?_) #[true, true, true, true, true, true, true, true, true, true, true, true, true, true, true, true, true, false] rfl rfl (any_of rfl (by kernel_rfl)) (fun _ _ _ h => h) (Or.inl ⟨by rfl, ?_⟩) ?_ ?_
      rotate_left
      · intro w'
        go_simp
        with_reducible rfl
      rotate_left
      · simp only [Act.put, List.setIfInBounds_toArray, List.set_cons_zero, List.set_cons_succ, i64_w, i32_w]
        rfl
      refine one_ (i := 17) (N := none) #[true, true, true, true, true, true, true, true, true, true, true, true, true, true, true, true, true, true] rfl rfl (one_of rfl (by kernel_rfl)) (by decide) (fun K hK => ?_)
      have hs7 : w5.cell? ⟨wr.heap.size, 7, none⟩ = some (.int .i64 a3_7) := (blk_cell HO5.out 7).trans rfl
      have hf7 := blk_frozen HO5.out 7
      refine skip_ (w1 := ?_) (by rfl) rfl ?_ ?_
      rotate_left
      · go_simp
        rfl
      clear hs7 hf7
      have HL6 := Aside0.mk (LW.far HL5.out 7 (.int .i64 (rk : Int)) HGW.out)
      have HO6 : Aside0 ((w5.setCell ⟨wr.heap.size, 7, none⟩ (.int .i64 (rk : Int))).heap[wr.heap.size]? = some (.cells #[.int .i64 a3_0, .int .i64 a3_1, .int .i64 a3_2, .int .i64 a3_3, .int .i64 a3_4, .int .i64 a3_5, .int .i64 (tk : Int), .int .i64 (rk : Int), .int .i64 a3_8, .int .i64 a3_9, .slice A3_10 l3_10.length c3_10] 31 (0, 0))) := ⟨blk_put HO5.out 7 _ rfl⟩
      generalize (w5.setCell ⟨wr.heap.size, 7, none⟩ (.int .i64 (rk : Int))) = w6 at HL6 HO6  ⊢
      clear hHeld HL5 HO5 
      refine hK.out _ _ ⟨(HL6.out.hb.cell (World.block_lt_of_cell? w _ HY0.out)).trans HY0.out, (HL6.out.hb.cell (World.block_lt_of_cell? w _ HY1.out)).trans HY1.out⟩ (fun hHeld => ?_)
      clear hK K
      refine done_ (done_of rfl (by kernel_rfl)) ?_
      clear hHeld
      have hm0 : w6.cell? ⟨w.heap.size, 0, none⟩ = some (.int .i64 a0_0) := (blk_cell HL6.out.m 0).trans rfl
      have hm1 : w6.cell? ⟨w.heap.size, 1, none⟩ = some (.slice A0_1 l0_1.length c0_1) := (blk_cell HL6.out.m 1).trans rfl
      have hp0 : w6.cell? ⟨w.heap.size + 1, 0, none⟩ = some (.int .i64 a1_0) := (blk_cell HL6.out.p 0).trans rfl
      have hp1 : w6.cell? ⟨w.heap.size + 1, 1, none⟩ = some (.slice A1_1 l1_1.length c1_1) := (blk_cell HL6.out.p 1).trans rfl
      have hq0 : w6.cell? ⟨wr.heap.size, 0, none⟩ = some (.int .i64 a3_0) := (blk_cell HO6.out 0).trans rfl
      have hq1 : w6.cell? ⟨wr.heap.size, 1, none⟩ = some (.int .i64 a3_1) := (blk_cell HO6.out 1).trans rfl
      have hq2 : w6.cell? ⟨wr.heap.size, 2, none⟩ = some (.int .i64 a3_2) := (blk_cell HO6.out 2).trans rfl
      have hq3 : w6.cell? ⟨wr.heap.size, 3, none⟩ = some (.int .i64 a3_3) := (blk_cell HO6.out 3).trans rfl
      have hq4 : w6.cell? ⟨wr.heap.size, 4, none⟩ = some (.int .i64 a3_4) := (blk_cell HO6.out 4).trans rfl
      have hq5 : w6.cell? ⟨wr.heap.size, 5, none⟩ = some (.int .i64 a3_5) := (blk_cell HO6.out 5).trans rfl
      have hq6 : w6.cell? ⟨wr.heap.size, 6, none⟩ = some (.int .i64 (tk : Int)) := (blk_cell HO6.out 6).trans rfl
      have hq7 : w6.cell? ⟨wr.heap.size, 7, none⟩ = some (.int .i64 (rk : Int)) := (blk_cell HO6.out 7).trans rfl
      have hq8 : w6.cell? ⟨wr.heap.size, 8, none⟩ = some (.int .i64 a3_8) := (blk_cell HO6.out 8).trans rfl
      have hq9 : w6.cell? ⟨wr.heap.size, 9, none⟩ = some (.int .i64 a3_9) := (blk_cell HO6.out 9).trans rfl
      have hq10 : w6.cell? ⟨wr.heap.size, 10, none⟩ = some (.slice A3_10 l3_10.length c3_10) := (blk_cell HO6.out 10).trans rfl
      obtain ⟨k3, w3e⟩ := WK.out tk rk (by have := HTK.out; omega) (by have := HRK.out; omega)
      have K3 := Aside0.mk w3e
      clear w3e
      go_upto_region 12 with (go_at_call 10; refine (node_Work.calls k3 a0_0 _ _ l0_1 a1_0 _ _ l1_1 a2 (fun _ => False) none 0 [] a3_0 a3_1 a3_2 a3_3 a3_4 a3_5 (tk : Int) (rk : Int) a3_8 a3_9 _ _ l3_10 [] 0 0 0 0 0 0 0 0 0 0 [] false _ (Kd.C_below HR0.out HL6.out.hb) HC0.out (Kd.C_below HR1.out HL6.out.hb) HC1.out (Kd.V_nil _ _ _ _ _) (Kd.C_below HR3.out HL6.out.hb) HC3.out K3.out).mono ?_; rintro e w7 ⟨v3, u3, rfl, hv3, ho3, hb⟩; have HL7 := Aside0.mk (HL6.out.below hb); clear hb hm0 hm1 hp0 hp1 hq0 hq1 hq2 hq3 hq4 hq5 hq6 hq7 hq8 hq9 hq10; obtain ⟨A5, c5, rfl⟩ := Kd.V_slice hv3; obtain ⟨A6, c6, rfl⟩ := Kd.R_slice ho3; clear hv3 ho3)
      have HL8 := Aside0.mk (HL7.out.below (below_alloc (Below.refl _ _) (.cells #[.int .i64 0, .int .i64 0, .int .i64 0, .int .i64 0, .int .i64 0, .int .i64 0, .int .i64 0, .int .i64 0, .int .i64 0, .int .i64 0, .slice A6 0 c6] 31)))
      have HB8 := Aside0.mk (alloc_at (W := w7) (.cells #[.int .i64 0, .int .i64 0, .int .i64 0, .int .i64 0, .int .i64 0, .int .i64 0, .int .i64 0, .int .i64 0, .int .i64 0, .int .i64 0, .slice A6 0 c6] 31) rfl)
      generalize w7.alloc (.cells #[.int .i64 0, .int .i64 0, .int .i64 0, .int .i64 0, .int .i64 0, .int .i64 0, .int .i64 0, .int .i64 0, .int .i64 0, .int .i64 0, .slice A6 0 c6] 31) = w8 at HL8 HB8 ⊢
      have hb0 : w8.cell? ⟨w7.heap.size, 0, none⟩ = some (.int .i64 0) := (blk_cell HB8.out 0).trans rfl
      go_wp2_with (go_at_call 9; refine (switchboardlaw18_awake.calls true _ rfl).mono ?_; rintro e w9 ⟨rfl, hb⟩; have HB9 := Aside0.mk (below_step HL8.out.hb hb); clear hb)
      go_ret
      exact ⟨rfl, HB9.out⟩
  by_cases h9 : a3_9 = a1_0 ∧ hb = true
  case neg =>
    have WK : Aside0 (∀ tk rk : Nat, tk < 16 → rk < 2 → ∃ k, node_Work.f k a0_0 l0_1 a1_0 l1_1 a2 [] a3_0 a3_1 a3_2 a3_3 a3_4 a3_5 (tk : Int) (rk : Int) a3_8 a3_9 l3_10 = some ([], 3, a2, a3_1, a3_3, a3_4, a3_5, (tk : Int), (rk : Int), a3_8, a1_0, [], true)) := ⟨fun tk rk h1 h2 => (work_stale (es := []) (HFE tk rk h1 h2) hh (by cases hb; exact .inr rfl; exact .inl (fun hc => h9 ⟨hc, rfl⟩))).rounds⟩
    clear HFE HFT hfb hp hh FM FH hv h9
    go_enter Try.func6, Try.ntmps6
    go_wp2_with (first | (go_at_call 7; refine (switchboardref15_Small.calls k1 _ _ _ l0_1 true _ (Kd.C_below HR0.out HL0.out.hb) HC0.out S1.out).mono ?_; rintro e w1 ⟨rfl, hb⟩; have HL1 := Aside0.mk (HL0.out.below hb); clear hb; have hp1 : w1.cell? ⟨w.heap.size + 1, 1, none⟩ = some (.slice A1_1 l1_1.length c1_1) := (blk_cell HL1.out.p 1).trans rfl) | (go_at_call 8; refine (switchboardref03_Small.calls k2 _ _ l1_1 true _ (Kd.C_below HR1.out HL1.out.hb) HC1.out S2.out).mono ?_; rintro e w2 ⟨rfl, hd⟩; have HL2 := Aside0.mk (HL1.out.below hd.below); clear hp1 hd; have hm0 : w2.cell? ⟨w.heap.size, 0, none⟩ = some (.int .i64 a0_0) := (blk_cell HL2.out.m 0).trans rfl; have hm1 : w2.cell? ⟨w.heap.size, 1, none⟩ = some (.slice A0_1 l0_1.length c0_1) := (blk_cell HL2.out.m 1).trans rfl; have hp0 : w2.cell? ⟨w.heap.size + 1, 0, none⟩ = some (.int .i64 a1_0) := (blk_cell HL2.out.p 0).trans rfl; have hp1 : w2.cell? ⟨w.heap.size + 1, 1, none⟩ = some (.slice A1_1 l1_1.length c1_1) := (blk_cell HL2.out.p 1).trans rfl; have ha0 : w2.cell? ⟨w.heap.size + 1 + 1, 0, none⟩ = some (.int .i64 a3_0) := (blk_cell HL2.out.a 0).trans rfl; have ha1 : w2.cell? ⟨w.heap.size + 1 + 1, 1, none⟩ = some (.int .i64 a3_1) := (blk_cell HL2.out.a 1).trans rfl; have ha2 : w2.cell? ⟨w.heap.size + 1 + 1, 2, none⟩ = some (.int .i64 a3_2) := (blk_cell HL2.out.a 2).trans rfl; have ha3 : w2.cell? ⟨w.heap.size + 1 + 1, 3, none⟩ = some (.int .i64 a3_3) := (blk_cell HL2.out.a 3).trans rfl; have ha4 : w2.cell? ⟨w.heap.size + 1 + 1, 4, none⟩ = some (.int .i64 a3_4) := (blk_cell HL2.out.a 4).trans rfl; have ha5 : w2.cell? ⟨w.heap.size + 1 + 1, 5, none⟩ = some (.int .i64 a3_5) := (blk_cell HL2.out.a 5).trans rfl; have ha6 : w2.cell? ⟨w.heap.size + 1 + 1, 6, none⟩ = some (.int .i64 a3_6) := (blk_cell HL2.out.a 6).trans rfl; have ha7 : w2.cell? ⟨w.heap.size + 1 + 1, 7, none⟩ = some (.int .i64 a3_7) := (blk_cell HL2.out.a 7).trans rfl; have ha8 : w2.cell? ⟨w.heap.size + 1 + 1, 8, none⟩ = some (.int .i64 a3_8) := (blk_cell HL2.out.a 8).trans rfl; have ha9 : w2.cell? ⟨w.heap.size + 1 + 1, 9, none⟩ = some (.int .i64 a3_9) := (blk_cell HL2.out.a 9).trans rfl; have ha10 : w2.cell? ⟨w.heap.size + 1 + 1, 10, none⟩ = some (.slice A3_10 l3_10.length c3_10) := (blk_cell HL2.out.a 10).trans rfl) | ((with_reducible refine gate_dst (N := 12) rfl ?_); (try (refine gate_guard (by rfl) ?_; dsimp only)); refine box_event ?hg (N := 12) ?hd (cs := bcells (List.replicate 32 false)) (t := 56) ?hr ?_; (case hd => rfl); (case hg => rfl); (case hr => first | (go_simp; done) | (go_simp; rfl)); intro gb hg w3 hbox hb; have HA3 := Aside0.mk hbox; have HL3 := Aside0.mk (HL2.out.below hb); have HGB : Aside0 (w.heap.size + 3 ≤ gb) := ⟨by rw [hg]; exact HL2.out.size⟩; clear hg hbox hb hm0 hm1 hp0 hp1 ha0 ha1 ha2 ha3 ha4 ha5 ha6 ha7 ha8 ha9 ha10))
    go_loopw [11, 13, 14] (fun v11 v13 v14 W => ∃ i : Nat, v11 = .slice none 0 0 ∧ v13 = .int .i64 0 ∧ v14 = .int .i64 (i : Int) ∧ Aside0 (i ≤ 20) ∧ Aside0 (LW w W #[.int .i64 a0_0, .slice A0_1 l0_1.length c0_1] #[.int .i64 a1_0, .slice A1_1 l1_1.length c1_1] #[.int .i64 a3_0, .int .i64 a3_1, .int .i64 a3_2, .int .i64 a3_3, .int .i64 a3_4, .int .i64 a3_5, .int .i64 a3_6, .int .i64 a3_7, .int .i64 a3_8, .int .i64 a3_9, .slice A3_10 l3_10.length c3_10])) (fun _ _ _ _ => 0)
    case atStart => exact ⟨0, rfl, rfl, rfl, ⟨by omega⟩, HL3⟩
    case round =>
      clear HL3 HA3
      obtain ⟨i, rfl, rfl, rfl, HI, HL⟩ := hrel
      by_cases hlt : i < l4.length
      case neg =>
        have k1 : decide ((i : Int) < (l4.length : Int)) = false := decide_eq_false (by omega)
        have k1n : decide (i < l4.length) = false := decide_eq_false hlt
        clear hlt
        go_wp2_with (go_at_call 9; refine (switchboardlaw18_awake.calls true _ rfl).mono ?_; rintro e w9 ⟨rfl, hb⟩; have HB9 := Aside0.mk (below_step HL.out.hb hb); clear hb)
        go_ret
        exact ⟨rfl, HB9.out⟩
      have k1 : decide ((i : Int) < (l4.length : Int)) = true := decide_eq_true (by omega)
      have k1n : decide (i < l4.length) = true := decide_eq_true hlt
      by_cases h20 : i < 20
      case neg =>
        have k2 : decide ((i : Int) < 20) = false := decide_eq_false (by omega)
        clear hlt h20
        go_wp2_with (go_at_call 9; refine (switchboardlaw18_awake.calls true _ rfl).mono ?_; rintro e w9 ⟨rfl, hb⟩; have HB9 := Aside0.mk (below_step HL.out.hb hb); clear hb)
        go_ret
        exact ⟨rfl, HB9.out⟩
      have k2 : decide ((i : Int) < 20) = true := decide_eq_true (by omega)
      obtain ⟨t0, r0, ht0, hr0, et0, er0⟩ := HK.out i hlt
      obtain ⟨ad, hA, hy0, hy1⟩ := at_T57 HR4.out (i : Int) (by omega) (by omega)
      cases hA
      rw [Int.toNat_natCast, et0] at hy0
      rw [Int.toNat_natCast, er0] at hy1
      have HY0 := Aside0.mk hy0
      have HY1 := Aside0.mk hy1
      clear hy0 hy1 et0 er0
      have ha0 : wr.cell? ⟨w.heap.size + 1 + 1, 0, none⟩ = some (.int .i64 a3_0) := (blk_cell HL.out.a 0).trans rfl
      have ha1 : wr.cell? ⟨w.heap.size + 1 + 1, 1, none⟩ = some (.int .i64 a3_1) := (blk_cell HL.out.a 1).trans rfl
      have ha2 : wr.cell? ⟨w.heap.size + 1 + 1, 2, none⟩ = some (.int .i64 a3_2) := (blk_cell HL.out.a 2).trans rfl
      have ha3 : wr.cell? ⟨w.heap.size + 1 + 1, 3, none⟩ = some (.int .i64 a3_3) := (blk_cell HL.out.a 3).trans rfl
      have ha4 : wr.cell? ⟨w.heap.size + 1 + 1, 4, none⟩ = some (.int .i64 a3_4) := (blk_cell HL.out.a 4).trans rfl
      have ha5 : wr.cell? ⟨w.heap.size + 1 + 1, 5, none⟩ = some (.int .i64 a3_5) := (blk_cell HL.out.a 5).trans rfl
      have ha6 : wr.cell? ⟨w.heap.size + 1 + 1, 6, none⟩ = some (.int .i64 a3_6) := (blk_cell HL.out.a 6).trans rfl
      have ha7 : wr.cell? ⟨w.heap.size + 1 + 1, 7, none⟩ = some (.int .i64 a3_7) := (blk_cell HL.out.a 7).trans rfl
      have ha8 : wr.cell? ⟨w.heap.size + 1 + 1, 8, none⟩ = some (.int .i64 a3_8) := (blk_cell HL.out.a 8).trans rfl
      have ha9 : wr.cell? ⟨w.heap.size + 1 + 1, 9, none⟩ = some (.int .i64 a3_9) := (blk_cell HL.out.a 9).trans rfl
      have ha10 : wr.cell? ⟨w.heap.size + 1 + 1, 10, none⟩ = some (.slice A3_10 l3_10.length c3_10) := (blk_cell HL.out.a 10).trans rfl
      go_upto_region 10 with (fail)
      have HL4 := Aside0.mk (HL.out.below (below_drew (below_alloc (Below.refl _ _) (.cells #[.int .i64 a3_0, .int .i64 a3_1, .int .i64 a3_2, .int .i64 a3_3, .int .i64 a3_4, .int .i64 a3_5, .int .i64 a3_6, .int .i64 a3_7, .int .i64 a3_8, .int .i64 a3_9, .slice A3_10 l3_10.length c3_10] 31))))
      have HO4 := Aside0.mk (blk_drew (alloc_at (W := wr) (.cells #[.int .i64 a3_0, .int .i64 a3_1, .int .i64 a3_2, .int .i64 a3_3, .int .i64 a3_4, .int .i64 a3_5, .int .i64 a3_6, .int .i64 a3_7, .int .i64 a3_8, .int .i64 a3_9, .slice A3_10 l3_10.length c3_10] 31) rfl))
      refine start_ (n := 18) (S := fun W => W.cell? (ad.add (i * 2)) = some (.int .u8 (t0 : Int)) ∧ W.cell? ⟨(ad.add (i * 2)).block, (ad.add (i * 2)).off + 1, none⟩ = some (.int .u8 (r0 : Int))) (ds := []) #[false, false, false, false, false, false, false, false, false, false, false, false, false, false, false, false, false, false] (by kernel_rfl) rfl rfl ⟨(HL4.out.hb.cell (World.block_lt_of_cell? w _ HY0.out)).trans HY0.out, (HL4.out.hb.cell (World.block_lt_of_cell? w _ HY1.out)).trans HY1.out⟩ (fun hHeld => ?_)
      have HGW : Aside0 (w.heap.size + 3 ≤ wr.heap.size) := ⟨HL.out.size⟩
      generalize (wr.alloc (.cells #[.int .i64 a3_0, .int .i64 a3_1, .int .i64 a3_2, .int .i64 a3_3, .int .i64 a3_4, .int .i64 a3_5, .int .i64 a3_6, .int .i64 a3_7, .int .i64 a3_8, .int .i64 a3_9, .slice A3_10 l3_10.length c3_10] 31)).drew = w4 at HL4 HO4 hHeld  ⊢
      clear HL ha0 ha1 ha2 ha3 ha4 ha5 ha6 ha7 ha8 ha9 ha10
      obtain ⟨tk, htk⟩ : ∃ tk : Nat, tk = t0 % 16 := ⟨_, rfl⟩
      obtain ⟨rk, hrk⟩ : ∃ rk : Nat, rk = r0 % 2 := ⟨_, rfl⟩
      have hwt : wrap64 (tk : Int) = (tk : Int) := wrap_small (by omega) (by omega)
      have hwr : wrap64 (rk : Int) = (rk : Int) := wrap_small (by omega) (by omega)
      have HTK := Aside0.mk htk
      have HRK := Aside0.mk hrk
      clear htk hrk
      refine pure_ (i := 0) (N := some 46) (v := ?_) (a' := ?_) #[true, false, false, false, false, false, false, false, false, false, false, false, false, false, false, false, false, false] rfl rfl (any_of rfl (by kernel_rfl)) (fun _ _ _ h => h) (Or.inl ⟨by rfl, ?_⟩) ?_ ?_
      rotate_left
      · intro w'
        go_simp
        with_reducible rfl
      rotate_left
      · simp only [Act.put, List.setIfInBounds_toArray, List.set_cons_zero, List.set_cons_succ, i64_w, i32_w]
        rfl
      refine pure_ (i := 1) (N := some 47) (v := ?_) (a' := ?_) #[true, true, false, false, false, false, false, false, false, false, false, false, false, false, false, false, false, false] rfl rfl (any_of rfl (by kernel_rfl)) (fun _ _ _ h => h) (Or.inl ⟨by rfl, ?_⟩) ?_ ?_
      rotate_left
      · intro w'
        go_simp
        with_reducible rfl
      rotate_left
      · simp only [Act.put, List.setIfInBounds_toArray, List.set_cons_zero, List.set_cons_succ, i64_w, i32_w]
        rfl
      refine pure_ (i := 2) (N := some 48) (v := ?_) (a' := ?_) #[true, true, true, false, false, false, false, false, false, false, false, false, false, false, false, false, false, false] rfl rfl (any_of rfl (by kernel_rfl)) (fun _ _ _ h => h) (Or.inl ⟨by rfl, ?_⟩) ?_ ?_
      rotate_left
      · intro w'
        go_simp
        with_reducible rfl
      rotate_left
      · simp only [Act.put, List.setIfInBounds_toArray, List.set_cons_zero, List.set_cons_succ, i64_w, i32_w]
        rfl
      refine pure_ (i := 3) (N := some 49) (v := ?_) (a' := ?_) #[true, true, true, true, false, false, false, false, false, false, false, false, false, false, false, false, false, false] rfl rfl (any_of rfl (by kernel_rfl)) (fun _ _ _ h => h) (Or.inl ⟨by rfl, ?_⟩) ?_ ?_
      rotate_left
      · intro w'
        go_simp
        with_reducible rfl
      rotate_left
      · simp only [Act.put, List.setIfInBounds_toArray, List.set_cons_zero, List.set_cons_succ, i64_w, i32_w]
        rfl
      refine take_ (i := 4) (N := some 50) (v := ?_) (a' := ?_) #[true, true, true, true, true, false, false, false, false, false, false, false, false, false, false, false, false, false] rfl rfl (take_of rfl (by kernel_rfl)) (fun _ _ _ h => h) (Or.inl ⟨by rfl, ?_⟩) hHeld ?_ ?_
      rotate_left
      · rintro w' ⟨s0, s1⟩
        go_simp
        with_reducible rfl
      rotate_left
      · simp only [Act.put, List.setIfInBounds_toArray, List.set_cons_zero, List.set_cons_succ, i64_w, i32_w]
        rfl
      refine pure_ (i := 5) (N := some 51) (v := .int .u8 (tk : Int)) (a' := ?_) #[true, true, true, true, true, true, false, false, false, false, false, false, false, false, false, false, false, false] rfl rfl (any_of rfl (by kernel_rfl)) (fun _ _ _ h => h) (Or.inl ⟨by rfl, ?_⟩) ?_ ?_
      · intro w'
        first | (go_simp; done) | (go_simp; rfl) | (go_simp; rw [Int.tmod_eq_emod_of_nonneg (by omega)]; have h1_ := HTK.out; have h2_ := HRK.out; omega) | (go_simp; have h1_ := HTK.out; have h2_ := HRK.out; omega) | (go_simp; exact wrap_small (by omega) (by have h1_ := HTK.out; have h2_ := HRK.out; omega))
      rotate_left
      · simp only [Act.put, List.setIfInBounds_toArray, List.set_cons_zero, List.set_cons_succ, i64_w, i32_w]
        rfl
      refine pure_ (i := 6) (N := some 52) (v := ?_) (a' := ?_) #[true, true, true, true, true, true, true, false, false, false, false, false, false, false, false, false, false, false] rfl rfl (any_of rfl (by kernel_rfl)) (fun _ _ _ h => h) (Or.inl ⟨by rfl, ?_⟩) ?_ ?_
      rotate_left
      · intro w'
        go_simp
        with_reducible rfl
      rotate_left
      · simp only [Act.put, List.setIfInBounds_toArray, List.set_cons_zero, List.set_cons_succ, i64_w, i32_w]
        rfl
      refine pure_ (i := 7) (N := some 53) (v := ?_) (a' := ?_) #[true, true, true, true, true, true, true, true, false, false, false, false, false, false, false, false, false, false] rfl rfl (any_of rfl (by kernel_rfl)) (fun _ _ _ h => h) (Or.inl ⟨by rfl, ?_⟩) ?_ ?_
      rotate_left
      · intro w'
        go_simp
        with_reducible rfl
      rotate_left
      · simp only [Act.put, List.setIfInBounds_toArray, List.set_cons_zero, List.set_cons_succ, i64_w, i32_w]
        rfl
      refine pure_ (i := 8) (N := some 54) (v := ?_) (a' := ?_) #[true, true, true, true, true, true, true, true, true, false, false, false, false, false, false, false, false, false] rfl rfl (any_of rfl (by kernel_rfl)) (fun _ _ _ h => h) (Or.inl ⟨by rfl, ?_⟩) ?_ ?_
      rotate_left
      · intro w'
        go_simp
        with_reducible rfl
      rotate_left
      · simp only [Act.put, List.setIfInBounds_toArray, List.set_cons_zero, List.set_cons_succ, i64_w, i32_w]
        rfl
      refine pure_ (i := 9) (N := some 55) (v := ?_) (a' := ?_) #[true, true, true, true, true, true, true, true, true, true, false, false, false, false, false, false, false, false] rfl rfl (any_of rfl (by kernel_rfl)) (fun _ _ _ h => h) (Or.inl ⟨by rfl, ?_⟩) ?_ ?_
      rotate_left
      · intro w'
        go_simp
        with_reducible rfl
      rotate_left
      · simp only [Act.put, List.setIfInBounds_toArray, List.set_cons_zero, List.set_cons_succ, i64_w, i32_w]
        rfl
      refine pure_ (i := 10) (N := some 56) (v := ?_) (a' := ?_) #[true, true, true, true, true, true, true, true, true, true, true, false, false, false, false, false, false, false] rfl rfl (any_of rfl (by kernel_rfl)) (fun _ _ _ h => h) (Or.inl ⟨by rfl, ?_⟩) ?_ ?_
      rotate_left
      · intro w'
        go_simp
        with_reducible rfl
      rotate_left
      · simp only [Act.put, List.setIfInBounds_toArray, List.set_cons_zero, List.set_cons_succ, i64_w, i32_w]
        rfl
      refine take_ (i := 11) (N := some 57) (v := ?_) (a' := ?_) #[true, true, true, true, true, true, true, true, true, true, true, true, false, false, false, false, false, false] rfl rfl (take_of rfl (by kernel_rfl)) (fun _ _ _ h => h) (Or.inl ⟨by rfl, ?_⟩) hHeld ?_ ?_
      rotate_left
      · rintro w' ⟨s0, s1⟩
        go_simp
        with_reducible rfl
      rotate_left
      · simp only [Act.put, List.setIfInBounds_toArray, List.set_cons_zero, List.set_cons_succ, i64_w, i32_w]
        rfl
      refine pure_ (i := 12) (N := some 58) (v := .int .u8 (rk : Int)) (a' := ?_) #[true, true, true, true, true, true, true, true, true, true, true, true, true, false, false, false, false, false] rfl rfl (any_of rfl (by kernel_rfl)) (fun _ _ _ h => h) (Or.inl ⟨by rfl, ?_⟩) ?_ ?_
      · intro w'
        first | (go_simp; done) | (go_simp; rfl) | (go_simp; rw [Int.tmod_eq_emod_of_nonneg (by omega)]; have h1_ := HTK.out; have h2_ := HRK.out; omega) | (go_simp; have h1_ := HTK.out; have h2_ := HRK.out; omega) | (go_simp; exact wrap_small (by omega) (by have h1_ := HTK.out; have h2_ := HRK.out; omega))
      rotate_left
      · simp only [Act.put, List.setIfInBounds_toArray, List.set_cons_zero, List.set_cons_succ, i64_w, i32_w]
        rfl
      refine pure_ (i := 13) (N := some 59) (v := ?_) (a' := ?_) #[true, true, true, true, true, true, true, true, true, true, true, true, true, true, false, false, false, false] rfl rfl (any_of rfl (by kernel_rfl)) (fun _ _ _ h => h) (Or.inl ⟨by rfl, ?_⟩) ?_ ?_
      rotate_left
      · intro w'
        go_simp
        with_reducible rfl
      rotate_left
      · simp only [Act.put, List.setIfInBounds_toArray, List.set_cons_zero, List.set_cons_succ, i64_w, i32_w]
        rfl
      refine pure_ (i := 14) (N := some 60) (v := ?_) (a' := ?_) #[true, true, true, true, true, true, true, true, true, true, true, true, true, true, true, false, false, false] rfl rfl (any_of rfl (by kernel_rfl)) (fun _ _ _ h => h) (Or.inl ⟨by rfl, ?_⟩) ?_ ?_
      rotate_left
      · intro w'
        go_simp
        with_reducible rfl
      rotate_left
      · simp only [Act.put, List.setIfInBounds_toArray, List.set_cons_zero, List.set_cons_succ, i64_w, i32_w]
        rfl
      refine one_ (i := 15) (N := none) #[true, true, true, true, true, true, true, true, true, true, true, true, true, true, true, true, false, false] rfl rfl (one_of rfl (by kernel_rfl)) (by decide) (fun K hK => ?_)
      have hs6 : w4.cell? ⟨wr.heap.size, 6, none⟩ = some (.int .i64 a3_6) := (blk_cell HO4.out 6).trans rfl
      have hf6 := blk_frozen HO4.out 6
      refine skip_ (w1 := ?_) (by rfl) rfl ?_ ?_
      rotate_left
      · go_simp
        rfl
      clear hs6 hf6
      have HL5 := Aside0.mk (LW.far HL4.out 6 (.int .i64 (tk : Int)) HGW.out)
      have HO5 : Aside0 ((w4.setCell ⟨wr.heap.size, 6, none⟩ (.int .i64 (tk : Int))).heap[wr.heap.size]? = some (.cells #[.int .i64 a3_0, .int .i64 a3_1, .int .i64 a3_2, .int .i64 a3_3, .int .i64 a3_4, .int .i64 a3_5, .int .i64 (tk : Int), .int .i64 a3_7, .int .i64 a3_8, .int .i64 a3_9, .slice A3_10 l3_10.length c3_10] 31 (0, 0))) := ⟨blk_put HO4.out 6 _ rfl⟩
      generalize (w4.setCell ⟨wr.heap.size, 6, none⟩ (.int .i64 (tk : Int))) = w5 at HL5 HO5  ⊢
      clear hHeld HL4 HO4 
      refine hK.out _ _ ⟨(HL5.out.hb.cell (World.block_lt_of_cell? w _ HY0.out)).trans HY0.out, (HL5.out.hb.cell (World.block_lt_of_cell? w _ HY1.out)).trans HY1.out⟩ (fun hHeld => ?_)
      clear hK K
      refine pure_ (i := 16) (N := some 61) (v := ?_) (a' := ?_) #[true, true, true, true, true, true, true, true, true, true, true, true, true, true, true, true, true, false] rfl rfl (any_of rfl (by kernel_rfl)) (fun _ _ _ h => h) (Or.inl ⟨by rfl, ?_⟩) ?_ ?_
      rotate_left
      · intro w'
        go_simp
        with_reducible rfl
      rotate_left
      · simp only [Act.put, List.setIfInBounds_toArray, List.set_cons_zero, List.set_cons_succ, i64_w, i32_w]
        rfl
      refine one_ (i := 17) (N := none) #[true, true, true, true, true, true, true, true, true, true, true, true, true, true, true, true, true, true] rfl rfl (one_of rfl (by kernel_rfl)) (by decide) (fun K hK => ?_)
      have hs7 : w5.cell? ⟨wr.heap.size, 7, none⟩ = some (.int .i64 a3_7) := (blk_cell HO5.out 7).trans rfl
      have hf7 := blk_frozen HO5.out 7
      refine skip_ (w1 := ?_) (by rfl) rfl ?_ ?_
      rotate_left
      · go_simp
        rfl
      clear hs7 hf7
      have HL6 := Aside0.mk (LW.far HL5.out 7 (.int .i64 (rk : Int)) HGW.out)
      have HO6 : Aside0 ((w5.setCell ⟨wr.heap.size, 7, none⟩ (.int .i64 (rk : Int))).heap[wr.heap.size]? = some (.cells #[.int .i64 a3_0, .int .i64 a3_1, .int .i64 a3_2, .int .i64 a3_3, .int .i64 a3_4, .int .i64 a3_5, .int .i64 (tk : Int), .int .i64 (rk : Int), .int .i64 a3_8, .int .i64 a3_9, .slice A3_10 l3_10.length c3_10] 31 (0, 0))) := ⟨blk_put HO5.out 7 _ rfl⟩
      generalize (w5.setCell ⟨wr.heap.size, 7, none⟩ (.int .i64 (rk : Int))) = w6 at HL6 HO6  ⊢
      clear hHeld HL5 HO5 
      refine hK.out _ _ ⟨(HL6.out.hb.cell (World.block_lt_of_cell? w _ HY0.out)).trans HY0.out, (HL6.out.hb.cell (World.block_lt_of_cell? w _ HY1.out)).trans HY1.out⟩ (fun hHeld => ?_)
      clear hK K
      refine done_ (done_of rfl (by kernel_rfl)) ?_
      clear hHeld
      have hm0 : w6.cell? ⟨w.heap.size, 0, none⟩ = some (.int .i64 a0_0) := (blk_cell HL6.out.m 0).trans rfl
      have hm1 : w6.cell? ⟨w.heap.size, 1, none⟩ = some (.slice A0_1 l0_1.length c0_1) := (blk_cell HL6.out.m 1).trans rfl
      have hp0 : w6.cell? ⟨w.heap.size + 1, 0, none⟩ = some (.int .i64 a1_0) := (blk_cell HL6.out.p 0).trans rfl
      have hp1 : w6.cell? ⟨w.heap.size + 1, 1, none⟩ = some (.slice A1_1 l1_1.length c1_1) := (blk_cell HL6.out.p 1).trans rfl
      have hq0 : w6.cell? ⟨wr.heap.size, 0, none⟩ = some (.int .i64 a3_0) := (blk_cell HO6.out 0).trans rfl
      have hq1 : w6.cell? ⟨wr.heap.size, 1, none⟩ = some (.int .i64 a3_1) := (blk_cell HO6.out 1).trans rfl
      have hq2 : w6.cell? ⟨wr.heap.size, 2, none⟩ = some (.int .i64 a3_2) := (blk_cell HO6.out 2).trans rfl
      have hq3 : w6.cell? ⟨wr.heap.size, 3, none⟩ = some (.int .i64 a3_3) := (blk_cell HO6.out 3).trans rfl
      have hq4 : w6.cell? ⟨wr.heap.size, 4, none⟩ = some (.int .i64 a3_4) := (blk_cell HO6.out 4).trans rfl
      have hq5 : w6.cell? ⟨wr.heap.size, 5, none⟩ = some (.int .i64 a3_5) := (blk_cell HO6.out 5).trans rfl
      have hq6 : w6.cell? ⟨wr.heap.size, 6, none⟩ = some (.int .i64 (tk : Int)) := (blk_cell HO6.out 6).trans rfl
      have hq7 : w6.cell? ⟨wr.heap.size, 7, none⟩ = some (.int .i64 (rk : Int)) := (blk_cell HO6.out 7).trans rfl
      have hq8 : w6.cell? ⟨wr.heap.size, 8, none⟩ = some (.int .i64 a3_8) := (blk_cell HO6.out 8).trans rfl
      have hq9 : w6.cell? ⟨wr.heap.size, 9, none⟩ = some (.int .i64 a3_9) := (blk_cell HO6.out 9).trans rfl
      have hq10 : w6.cell? ⟨wr.heap.size, 10, none⟩ = some (.slice A3_10 l3_10.length c3_10) := (blk_cell HO6.out 10).trans rfl
      obtain ⟨k3, w3e⟩ := WK.out tk rk (by have := HTK.out; omega) (by have := HRK.out; omega)
      have K3 := Aside0.mk w3e
      clear w3e
      go_upto_region 12 with (go_at_call 10; refine (node_Work.calls k3 a0_0 _ _ l0_1 a1_0 _ _ l1_1 a2 (fun _ => False) none 0 [] a3_0 a3_1 a3_2 a3_3 a3_4 a3_5 (tk : Int) (rk : Int) a3_8 a3_9 _ _ l3_10 [] 3 a2 a3_1 a3_3 a3_4 a3_5 (tk : Int) (rk : Int) a3_8 a1_0 [] true _ (Kd.C_below HR0.out HL6.out.hb) HC0.out (Kd.C_below HR1.out HL6.out.hb) HC1.out (Kd.V_nil _ _ _ _ _) (Kd.C_below HR3.out HL6.out.hb) HC3.out K3.out).mono ?_; rintro e w7 ⟨v3, u3, rfl, hv3, ho3, hb⟩; have HL7 := Aside0.mk (HL6.out.below hb); clear hb hm0 hm1 hp0 hp1 hq0 hq1 hq2 hq3 hq4 hq5 hq6 hq7 hq8 hq9 hq10; obtain ⟨A5, c5, rfl⟩ := Kd.V_slice hv3; obtain ⟨A6, c6, rfl⟩ := Kd.R_slice ho3; clear hv3 ho3)
      have HL8 := Aside0.mk (HL7.out.below (below_alloc (Below.refl _ _) (.cells #[.int .i64 3, .int .i64 a2, .int .i64 a3_1, .int .i64 a3_3, .int .i64 a3_4, .int .i64 a3_5, .int .i64 (tk : Int), .int .i64 (rk : Int), .int .i64 a3_8, .int .i64 a1_0, .slice A6 0 c6] 31)))
      have HB8 := Aside0.mk (alloc_at (W := w7) (.cells #[.int .i64 3, .int .i64 a2, .int .i64 a3_1, .int .i64 a3_3, .int .i64 a3_4, .int .i64 a3_5, .int .i64 (tk : Int), .int .i64 (rk : Int), .int .i64 a3_8, .int .i64 a1_0, .slice A6 0 c6] 31) rfl)
      generalize w7.alloc (.cells #[.int .i64 3, .int .i64 a2, .int .i64 a3_1, .int .i64 a3_3, .int .i64 a3_4, .int .i64 a3_5, .int .i64 (tk : Int), .int .i64 (rk : Int), .int .i64 a3_8, .int .i64 a1_0, .slice A6 0 c6] 31) = w8 at HL8 HB8 ⊢
      have hb0 : w8.cell? ⟨w7.heap.size, 0, none⟩ = some (.int .i64 3) := (blk_cell HB8.out 0).trans rfl
      go_wp2_with (go_at_call 9; refine (switchboardlaw18_awake.calls true _ rfl).mono ?_; rintro e w9 ⟨rfl, hb⟩; have HB9 := Aside0.mk (below_step HL8.out.hb hb); clear hb)
      go_ret
      exact ⟨rfl, HB9.out⟩
  obtain ⟨h9, rfl⟩ := h9
  have WK : Aside0 (∀ (tk rk i : Nat) (es : List S39) (arr : List Bool), tk < 16 → rk < 2 → es.length ≤ i → i < 20 → KInv l3_10.length a3_4 a3_5 es arr es.length → ∃ (es' : List S39) (x : List Int) (kk : Nat), node_Work.f kk a0_0 l0_1 a1_0 l1_1 a2 es a3_0 a3_1 a3_2 a3_3 a3_4 a3_5 (tk : Int) (rk : Int) a3_8 a3_9 l3_10 = some (es', 2, a2, a3_1, a3_3, a3_4, a3_5, (tk : Int), (rk : Int), a3_8, a1_0, x, true) ∧ KInv l3_10.length a3_4 a3_5 es' (arr.set (2 * tk + rk) true) es'.length ∧ x.length = l3_10.length ∧ es'.length ≤ i + 1 ∧ ((arr.getD (2 * tk + rk) false = true ∧ es'.length = es.length) ∨ (arr.getD (2 * tk + rk) false = false ∧ es'.length = es.length + 1))) := ⟨by
    intro tk rk i es arr h1 h2 h3 h4 h5
    obtain ⟨es', x, many', g1, g2, g3, g4, g5⟩ := KInv.step ⟨h3, h4⟩ hv h5 h1 h2 (HFT tk rk h1 h2) (HFE tk rk h1 h2) hh h9
    obtain ⟨kk, g1⟩ := g1.rounds
    have hn := g2.num
    subst hn
    exact ⟨es', x, kk, g1, g2, g3, g4, g5⟩⟩
  clear HFE HFT hfb hp hh FM FH hv h9
  go_enter Try.func6, Try.ntmps6
  go_wp2_with (first | (go_at_call 7; refine (switchboardref15_Small.calls k1 _ _ _ l0_1 true _ (Kd.C_below HR0.out HL0.out.hb) HC0.out S1.out).mono ?_; rintro e w1 ⟨rfl, hb⟩; have HL1 := Aside0.mk (HL0.out.below hb); clear hb; have hp1 : w1.cell? ⟨w.heap.size + 1, 1, none⟩ = some (.slice A1_1 l1_1.length c1_1) := (blk_cell HL1.out.p 1).trans rfl) | (go_at_call 8; refine (switchboardref03_Small.calls k2 _ _ l1_1 true _ (Kd.C_below HR1.out HL1.out.hb) HC1.out S2.out).mono ?_; rintro e w2 ⟨rfl, hd⟩; have HL2 := Aside0.mk (HL1.out.below hd.below); clear hp1 hd; have hm0 : w2.cell? ⟨w.heap.size, 0, none⟩ = some (.int .i64 a0_0) := (blk_cell HL2.out.m 0).trans rfl; have hm1 : w2.cell? ⟨w.heap.size, 1, none⟩ = some (.slice A0_1 l0_1.length c0_1) := (blk_cell HL2.out.m 1).trans rfl; have hp0 : w2.cell? ⟨w.heap.size + 1, 0, none⟩ = some (.int .i64 a1_0) := (blk_cell HL2.out.p 0).trans rfl; have hp1 : w2.cell? ⟨w.heap.size + 1, 1, none⟩ = some (.slice A1_1 l1_1.length c1_1) := (blk_cell HL2.out.p 1).trans rfl; have ha0 : w2.cell? ⟨w.heap.size + 1 + 1, 0, none⟩ = some (.int .i64 a3_0) := (blk_cell HL2.out.a 0).trans rfl; have ha1 : w2.cell? ⟨w.heap.size + 1 + 1, 1, none⟩ = some (.int .i64 a3_1) := (blk_cell HL2.out.a 1).trans rfl; have ha2 : w2.cell? ⟨w.heap.size + 1 + 1, 2, none⟩ = some (.int .i64 a3_2) := (blk_cell HL2.out.a 2).trans rfl; have ha3 : w2.cell? ⟨w.heap.size + 1 + 1, 3, none⟩ = some (.int .i64 a3_3) := (blk_cell HL2.out.a 3).trans rfl; have ha4 : w2.cell? ⟨w.heap.size + 1 + 1, 4, none⟩ = some (.int .i64 a3_4) := (blk_cell HL2.out.a 4).trans rfl; have ha5 : w2.cell? ⟨w.heap.size + 1 + 1, 5, none⟩ = some (.int .i64 a3_5) := (blk_cell HL2.out.a 5).trans rfl; have ha6 : w2.cell? ⟨w.heap.size + 1 + 1, 6, none⟩ = some (.int .i64 a3_6) := (blk_cell HL2.out.a 6).trans rfl; have ha7 : w2.cell? ⟨w.heap.size + 1 + 1, 7, none⟩ = some (.int .i64 a3_7) := (blk_cell HL2.out.a 7).trans rfl; have ha8 : w2.cell? ⟨w.heap.size + 1 + 1, 8, none⟩ = some (.int .i64 a3_8) := (blk_cell HL2.out.a 8).trans rfl; have ha9 : w2.cell? ⟨w.heap.size + 1 + 1, 9, none⟩ = some (.int .i64 a3_9) := (blk_cell HL2.out.a 9).trans rfl; have ha10 : w2.cell? ⟨w.heap.size + 1 + 1, 10, none⟩ = some (.slice A3_10 l3_10.length c3_10) := (blk_cell HL2.out.a 10).trans rfl) | ((with_reducible refine gate_dst (N := 12) rfl ?_); (try (refine gate_guard (by rfl) ?_; dsimp only)); refine box_event ?hg (N := 12) ?hd (cs := bcells (List.replicate 32 false)) (t := 56) ?hr ?_; (case hd => rfl); (case hg => rfl); (case hr => first | (go_simp; done) | (go_simp; rfl)); intro gb hg w3 hbox hb; have HA3 := Aside0.mk hbox; have HL3 := Aside0.mk (HL2.out.below hb); have HGB : Aside0 (w.heap.size + 3 ≤ gb) := ⟨by rw [hg]; exact HL2.out.size⟩; clear hg hbox hb hm0 hm1 hp0 hp1 ha0 ha1 ha2 ha3 ha4 ha5 ha6 ha7 ha8 ha9 ha10))
  go_loopw [11, 13, 14] (fun v11 v13 v14 W => ∃ (i : Nat) (es : List S39) (arr : List Bool), v13 = .int .i64 (es.length : Int) ∧ v14 = .int .i64 (i : Int) ∧ Aside0 (i ≤ 20 ∧ es.length ≤ i) ∧ Aside0 (KInv l3_10.length a3_4 a3_5 es arr es.length) ∧ Aside0 (Kd.V k39 39 W 0 (fun k => k ≠ gb) v11 es) ∧ Aside0 (W.heap[gb]? = some (.cells (bcells arr) 56 (0, 0))) ∧ Aside0 (LW w W #[.int .i64 a0_0, .slice A0_1 l0_1.length c0_1] #[.int .i64 a1_0, .slice A1_1 l1_1.length c1_1] #[.int .i64 a3_0, .int .i64 a3_1, .int .i64 a3_2, .int .i64 a3_3, .int .i64 a3_4, .int .i64 a3_5, .int .i64 a3_6, .int .i64 a3_7, .int .i64 a3_8, .int .i64 a3_9, .slice A3_10 l3_10.length c3_10])) (fun _ _ v14 _ => 20 - (intOf v14).toNat)
  case atStart => exact ⟨0, [], List.replicate 32 false, rfl, rfl, ⟨by omega, Nat.le_refl _⟩, ⟨KInv.start _ _ _⟩, ⟨Kd.V_nil _ _ _ _ _⟩, HA3, HL3⟩
  case round =>
    clear HL3 HA3
    obtain ⟨i, es, arr, rfl, rfl, HI, HKI, HV, HA, HL⟩ := hrel
    obtain ⟨Ae, ce, rfl⟩ := Kd.V_slice HV.out
    by_cases hlt : i < l4.length
    case neg =>
      have k1 : decide ((i : Int) < (l4.length : Int)) = false := decide_eq_false (by omega)
      have k1n : decide (i < l4.length) = false := decide_eq_false hlt
      clear hlt
      go_wp2_with (go_at_call 9; refine (switchboardlaw18_awake.calls true _ rfl).mono ?_; rintro e w9 ⟨rfl, hb⟩; have HB9 := Aside0.mk (below_step HL.out.hb hb); clear hb)
      go_ret
      exact ⟨rfl, HB9.out⟩
    have k1 : decide ((i : Int) < (l4.length : Int)) = true := decide_eq_true (by omega)
    have k1n : decide (i < l4.length) = true := decide_eq_true hlt
    by_cases h20 : i < 20
    case neg =>
      have k2 : decide ((i : Int) < 20) = false := decide_eq_false (by omega)
      clear hlt h20
      go_wp2_with (go_at_call 9; refine (switchboardlaw18_awake.calls true _ rfl).mono ?_; rintro e w9 ⟨rfl, hb⟩; have HB9 := Aside0.mk (below_step HL.out.hb hb); clear hb)
      go_ret
      exact ⟨rfl, HB9.out⟩
    have k2 : decide ((i : Int) < 20) = true := decide_eq_true (by omega)
    obtain ⟨t0, r0, ht0, hr0, et0, er0⟩ := HK.out i hlt
    obtain ⟨ad, hA, hy0, hy1⟩ := at_T57 HR4.out (i : Int) (by omega) (by omega)
    cases hA
    rw [Int.toNat_natCast, et0] at hy0
    rw [Int.toNat_natCast, er0] at hy1
    have HY0 := Aside0.mk hy0
    have HY1 := Aside0.mk hy1
    clear hy0 hy1 et0 er0
    have ha0 : wr.cell? ⟨w.heap.size + 1 + 1, 0, none⟩ = some (.int .i64 a3_0) := (blk_cell HL.out.a 0).trans rfl
    have ha1 : wr.cell? ⟨w.heap.size + 1 + 1, 1, none⟩ = some (.int .i64 a3_1) := (blk_cell HL.out.a 1).trans rfl
    have ha2 : wr.cell? ⟨w.heap.size + 1 + 1, 2, none⟩ = some (.int .i64 a3_2) := (blk_cell HL.out.a 2).trans rfl
    have ha3 : wr.cell? ⟨w.heap.size + 1 + 1, 3, none⟩ = some (.int .i64 a3_3) := (blk_cell HL.out.a 3).trans rfl
    have ha4 : wr.cell? ⟨w.heap.size + 1 + 1, 4, none⟩ = some (.int .i64 a3_4) := (blk_cell HL.out.a 4).trans rfl
    have ha5 : wr.cell? ⟨w.heap.size + 1 + 1, 5, none⟩ = some (.int .i64 a3_5) := (blk_cell HL.out.a 5).trans rfl
    have ha6 : wr.cell? ⟨w.heap.size + 1 + 1, 6, none⟩ = some (.int .i64 a3_6) := (blk_cell HL.out.a 6).trans rfl
    have ha7 : wr.cell? ⟨w.heap.size + 1 + 1, 7, none⟩ = some (.int .i64 a3_7) := (blk_cell HL.out.a 7).trans rfl
    have ha8 : wr.cell? ⟨w.heap.size + 1 + 1, 8, none⟩ = some (.int .i64 a3_8) := (blk_cell HL.out.a 8).trans rfl
    have ha9 : wr.cell? ⟨w.heap.size + 1 + 1, 9, none⟩ = some (.int .i64 a3_9) := (blk_cell HL.out.a 9).trans rfl
    have ha10 : wr.cell? ⟨w.heap.size + 1 + 1, 10, none⟩ = some (.slice A3_10 l3_10.length c3_10) := (blk_cell HL.out.a 10).trans rfl
    go_upto_region 10 with (fail)
    have HL4 := Aside0.mk (HL.out.below (below_drew (below_alloc (Below.refl _ _) (.cells #[.int .i64 a3_0, .int .i64 a3_1, .int .i64 a3_2, .int .i64 a3_3, .int .i64 a3_4, .int .i64 a3_5, .int .i64 a3_6, .int .i64 a3_7, .int .i64 a3_8, .int .i64 a3_9, .slice A3_10 l3_10.length c3_10] 31))))
    have HO4 := Aside0.mk (blk_drew (alloc_at (W := wr) (.cells #[.int .i64 a3_0, .int .i64 a3_1, .int .i64 a3_2, .int .i64 a3_3, .int .i64 a3_4, .int .i64 a3_5, .int .i64 a3_6, .int .i64 a3_7, .int .i64 a3_8, .int .i64 a3_9, .slice A3_10 l3_10.length c3_10] 31) rfl))
    refine start_ (n := 18) (S := fun W => W.cell? (ad.add (i * 2)) = some (.int .u8 (t0 : Int)) ∧ W.cell? ⟨(ad.add (i * 2)).block, (ad.add (i * 2)).off + 1, none⟩ = some (.int .u8 (r0 : Int))) (ds := []) #[false, false, false, false, false, false, false, false, false, false, false, false, false, false, false, false, false, false] (by kernel_rfl) rfl rfl ⟨(HL4.out.hb.cell (World.block_lt_of_cell? w _ HY0.out)).trans HY0.out, (HL4.out.hb.cell (World.block_lt_of_cell? w _ HY1.out)).trans HY1.out⟩ (fun hHeld => ?_)
    have HA4 := Aside0.mk (blk_drew (blk_alloc HA.out (.cells #[.int .i64 a3_0, .int .i64 a3_1, .int .i64 a3_2, .int .i64 a3_3, .int .i64 a3_4, .int .i64 a3_5, .int .i64 a3_6, .int .i64 a3_7, .int .i64 a3_8, .int .i64 a3_9, .slice A3_10 l3_10.length c3_10] 31)))
    have HV4 := Aside0.mk (Kd.V_drew (Kd.V_alloc (Kd.V_elderB HV.out wr.heap.size (Nat.le_refl _)) (.cells #[.int .i64 a3_0, .int .i64 a3_1, .int .i64 a3_2, .int .i64 a3_3, .int .i64 a3_4, .int .i64 a3_5, .int .i64 a3_6, .int .i64 a3_7, .int .i64 a3_8, .int .i64 a3_9, .slice A3_10 l3_10.length c3_10] 31)))
    have HNG : Aside0 (gb ≠ wr.heap.size) := ⟨Nat.ne_of_lt (blk_lt HA.out)⟩
    have HGW : Aside0 (w.heap.size + 3 ≤ wr.heap.size) := ⟨HL.out.size⟩
    generalize (wr.alloc (.cells #[.int .i64 a3_0, .int .i64 a3_1, .int .i64 a3_2, .int .i64 a3_3, .int .i64 a3_4, .int .i64 a3_5, .int .i64 a3_6, .int .i64 a3_7, .int .i64 a3_8, .int .i64 a3_9, .slice A3_10 l3_10.length c3_10] 31)).drew = w4 at HL4 HO4 hHeld HA4 HV4 ⊢
    clear HL ha0 ha1 ha2 ha3 ha4 ha5 ha6 ha7 ha8 ha9 ha10
    obtain ⟨tk, htk⟩ : ∃ tk : Nat, tk = t0 % 16 := ⟨_, rfl⟩
    obtain ⟨rk, hrk⟩ : ∃ rk : Nat, rk = r0 % 2 := ⟨_, rfl⟩
    have hwt : wrap64 (tk : Int) = (tk : Int) := wrap_small (by omega) (by omega)
    have hwr : wrap64 (rk : Int) = (rk : Int) := wrap_small (by omega) (by omega)
    have HTK := Aside0.mk htk
    have HRK := Aside0.mk hrk
    clear htk hrk
    refine pure_ (i := 0) (N := some 46) (v := ?_) (a' := ?_) #[true, false, false, false, false, false, false, false, false, false, false, false, false, false, false, false, false, false] rfl rfl (any_of rfl (by kernel_rfl)) (fun _ _ _ h => h) (Or.inl ⟨by rfl, ?_⟩) ?_ ?_
    rotate_left
    · intro w'
      go_simp
      with_reducible rfl
    rotate_left
    · simp only [Act.put, List.setIfInBounds_toArray, List.set_cons_zero, List.set_cons_succ, i64_w, i32_w]
      rfl
    refine pure_ (i := 1) (N := some 47) (v := ?_) (a' := ?_) #[true, true, false, false, false, false, false, false, false, false, false, false, false, false, false, false, false, false] rfl rfl (any_of rfl (by kernel_rfl)) (fun _ _ _ h => h) (Or.inl ⟨by rfl, ?_⟩) ?_ ?_
    rotate_left
    · intro w'
      go_simp
      with_reducible rfl
    rotate_left
    · simp only [Act.put, List.setIfInBounds_toArray, List.set_cons_zero, List.set_cons_succ, i64_w, i32_w]
      rfl
    refine pure_ (i := 2) (N := some 48) (v := ?_) (a' := ?_) #[true, true, true, false, false, false, false, false, false, false, false, false, false, false, false, false, false, false] rfl rfl (any_of rfl (by kernel_rfl)) (fun _ _ _ h => h) (Or.inl ⟨by rfl, ?_⟩) ?_ ?_
    rotate_left
    · intro w'
      go_simp
      with_reducible rfl
    rotate_left
    · simp only [Act.put, List.setIfInBounds_toArray, List.set_cons_zero, List.set_cons_succ, i64_w, i32_w]
      rfl
    refine pure_ (i := 3) (N := some 49) (v := ?_) (a' := ?_) #[true, true, true, true, false, false, false, false, false, false, false, false, false, false, false, false, false, false] rfl rfl (any_of rfl (by kernel_rfl)) (fun _ _ _ h => h) (Or.inl ⟨by rfl, ?_⟩) ?_ ?_
    rotate_left
    · intro w'
      go_simp
      with_reducible rfl
    rotate_left
    · simp only [Act.put, List.setIfInBounds_toArray, List.set_cons_zero, List.set_cons_succ, i64_w, i32_w]
      rfl
    refine take_ (i := 4) (N := some 50) (v := ?_) (a' := ?_) #[true, true, true, true, true, false, false, false, false, false, false, false, false, false, false, false, false, false] rfl rfl (take_of rfl (by kernel_rfl)) (fun _ _ _ h => h) (Or.inl ⟨by rfl, ?_⟩) hHeld ?_ ?_
    rotate_left
    · rintro w' ⟨s0, s1⟩
      go_simp
      with_reducible rfl
    rotate_left
    · simp only [Act.put, List.setIfInBounds_toArray, List.set_cons_zero, List.set_cons_succ, i64_w, i32_w]
      rfl
    refine pure_ (i := 5) (N := some 51) (v := .int .u8 (tk : Int)) (a' := ?_) #[true, true, true, true, true, true, false, false, false, false, false, false, false, false, false, false, false, false] rfl rfl (any_of rfl (by kernel_rfl)) (fun _ _ _ h => h) (Or.inl ⟨by rfl, ?_⟩) ?_ ?_
    · intro w'
      first | (go_simp; done) | (go_simp; rfl) | (go_simp; rw [Int.tmod_eq_emod_of_nonneg (by omega)]; have h1_ := HTK.out; have h2_ := HRK.out; omega) | (go_simp; have h1_ := HTK.out; have h2_ := HRK.out; omega) | (go_simp; exact wrap_small (by omega) (by have h1_ := HTK.out; have h2_ := HRK.out; omega))
    rotate_left
    · simp only [Act.put, List.setIfInBounds_toArray, List.set_cons_zero, List.set_cons_succ, i64_w, i32_w]
      rfl
    refine pure_ (i := 6) (N := some 52) (v := ?_) (a' := ?_) #[true, true, true, true, true, true, true, false, false, false, false, false, false, false, false, false, false, false] rfl rfl (any_of rfl (by kernel_rfl)) (fun _ _ _ h => h) (Or.inl ⟨by rfl, ?_⟩) ?_ ?_
    rotate_left
    · intro w'
      go_simp
      with_reducible rfl
    rotate_left
    · simp only [Act.put, List.setIfInBounds_toArray, List.set_cons_zero, List.set_cons_succ, i64_w, i32_w]
      rfl
    refine pure_ (i := 7) (N := some 53) (v := ?_) (a' := ?_) #[true, true, true, true, true, true, true, true, false, false, false, false, false, false, false, false, false, false] rfl rfl (any_of rfl (by kernel_rfl)) (fun _ _ _ h => h) (Or.inl ⟨by rfl, ?_⟩) ?_ ?_
    rotate_left
    · intro w'
      go_simp
      with_reducible rfl
    rotate_left
    · simp only [Act.put, List.setIfInBounds_toArray, List.set_cons_zero, List.set_cons_succ, i64_w, i32_w]
      rfl
    refine pure_ (i := 8) (N := some 54) (v := ?_) (a' := ?_) #[true, true, true, true, true, true, true, true, true, false, false, false, false, false, false, false, false, false] rfl rfl (any_of rfl (by kernel_rfl)) (fun _ _ _ h => h) (Or.inl ⟨by rfl, ?_⟩) ?_ ?_
    rotate_left
    · intro w'
      go_simp
      with_reducible rfl
    rotate_left
    · simp only [Act.put, List.setIfInBounds_toArray, List.set_cons_zero, List.set_cons_succ, i64_w, i32_w]
      rfl
    refine pure_ (i := 9) (N := some 55) (v := ?_) (a' := ?_) #[true, true, true, true, true, true, true, true, true, true, false, false, false, false, false, false, false, false] rfl rfl (any_of rfl (by kernel_rfl)) (fun _ _ _ h => h) (Or.inl ⟨by rfl, ?_⟩) ?_ ?_
    rotate_left
    · intro w'
      go_simp
      with_reducible rfl
    rotate_left
    · simp only [Act.put, List.setIfInBounds_toArray, List.set_cons_zero, List.set_cons_succ, i64_w, i32_w]
      rfl
    refine pure_ (i := 10) (N := some 56) (v := ?_) (a' := ?_) #[true, true, true, true, true, true, true, true, true, true, true, false, false, false, false, false, false, false] rfl rfl (any_of rfl (by kernel_rfl)) (fun _ _ _ h => h) (Or.inl ⟨by rfl, ?_⟩) ?_ ?_
    rotate_left
    · intro w'
      go_simp
      with_reducible rfl
    rotate_left
    · simp only [Act.put, List.setIfInBounds_toArray, List.set_cons_zero, List.set_cons_succ, i64_w, i32_w]
      rfl
    refine take_ (i := 11) (N := some 57) (v := ?_) (a' := ?_) #[true, true, true, true, true, true, true, true, true, true, true, true, false, false, false, false, false, false] rfl rfl (take_of rfl (by kernel_rfl)) (fun _ _ _ h => h) (Or.inl ⟨by rfl, ?_⟩) hHeld ?_ ?_
    rotate_left
    · rintro w' ⟨s0, s1⟩
      go_simp
      with_reducible rfl
    rotate_left
    · simp only [Act.put, List.setIfInBounds_toArray, List.set_cons_zero, List.set_cons_succ, i64_w, i32_w]
      rfl
    refine pure_ (i := 12) (N := some 58) (v := .int .u8 (rk : Int)) (a' := ?_) #[true, true, true, true, true, true, true, true, true, true, true, true, true, false, false, false, false, false] rfl rfl (any_of rfl (by kernel_rfl)) (fun _ _ _ h => h) (Or.inl ⟨by rfl, ?_⟩) ?_ ?_
    · intro w'
      first | (go_simp; done) | (go_simp; rfl) | (go_simp; rw [Int.tmod_eq_emod_of_nonneg (by omega)]; have h1_ := HTK.out; have h2_ := HRK.out; omega) | (go_simp; have h1_ := HTK.out; have h2_ := HRK.out; omega) | (go_simp; exact wrap_small (by omega) (by have h1_ := HTK.out; have h2_ := HRK.out; omega))
    rotate_left
    · simp only [Act.put, List.setIfInBounds_toArray, List.set_cons_zero, List.set_cons_succ, i64_w, i32_w]
      rfl
    refine pure_ (i := 13) (N := some 59) (v := ?_) (a' := ?_) #[true, true, true, true, true, true, true, true, true, true, true, true, true, true, false, false, false, false] rfl rfl (any_of rfl (by kernel_rfl)) (fun _ _ _ h => h) (Or.inl ⟨by rfl, ?_⟩) ?_ ?_
    rotate_left
    · intro w'
      go_simp
      with_reducible rfl
    rotate_left
    · simp only [Act.put, List.setIfInBounds_toArray, List.set_cons_zero, List.set_cons_succ, i64_w, i32_w]
      rfl
    refine pure_ (i := 14) (N := some 60) (v := ?_) (a' := ?_) #[true, true, true, true, true, true, true, true, true, true, true, true, true, true, true, false, false, false] rfl rfl (any_of rfl (by kernel_rfl)) (fun _ _ _ h => h) (Or.inl ⟨by rfl, ?_⟩) ?_ ?_
    rotate_left
    · intro w'
      go_simp
      with_reducible rfl
    rotate_left
    · simp only [Act.put, List.setIfInBounds_toArray, List.set_cons_zero, List.set_cons_succ, i64_w, i32_w]
      rfl
    refine one_ (i := 15) (N := none) #[true, true, true, true, true, true, true, true, true, true, true, true, true, true, true, true, false, false] rfl rfl (one_of rfl (by kernel_rfl)) (by decide) (fun K hK => ?_)
    have hs6 : w4.cell? ⟨wr.heap.size, 6, none⟩ = some (.int .i64 a3_6) := (blk_cell HO4.out 6).trans rfl
    have hf6 := blk_frozen HO4.out 6
    refine skip_ (w1 := ?_) (by rfl) rfl ?_ ?_
    rotate_left
    · go_simp
      rfl
    clear hs6 hf6
    have HL5 := Aside0.mk (LW.far HL4.out 6 (.int .i64 (tk : Int)) HGW.out)
    have HO5 : Aside0 ((w4.setCell ⟨wr.heap.size, 6, none⟩ (.int .i64 (tk : Int))).heap[wr.heap.size]? = some (.cells #[.int .i64 a3_0, .int .i64 a3_1, .int .i64 a3_2, .int .i64 a3_3, .int .i64 a3_4, .int .i64 a3_5, .int .i64 (tk : Int), .int .i64 a3_7, .int .i64 a3_8, .int .i64 a3_9, .slice A3_10 l3_10.length c3_10] 31 (0, 0))) := ⟨blk_put HO4.out 6 _ rfl⟩
    have HA5 := Aside0.mk ((Below.heap_setCell w4 ⟨wr.heap.size, 6, none⟩ (.int .i64 (tk : Int)) gb HNG.out).trans HA4.out)
    have HV5 := Aside0.mk (Kd.V_far (p := ⟨wr.heap.size, 6, none⟩) HV4.out (fun k hk => hk.2) (.int .i64 (tk : Int)))
    generalize (w4.setCell ⟨wr.heap.size, 6, none⟩ (.int .i64 (tk : Int))) = w5 at HL5 HO5 HA5 HV5 ⊢
    clear hHeld HL4 HO4 HA4 HV4
    refine hK.out _ _ ⟨(HL5.out.hb.cell (World.block_lt_of_cell? w _ HY0.out)).trans HY0.out, (HL5.out.hb.cell (World.block_lt_of_cell? w _ HY1.out)).trans HY1.out⟩ (fun hHeld => ?_)
    clear hK K
    refine pure_ (i := 16) (N := some 61) (v := ?_) (a' := ?_) #[true, true, true, true, true, true, true, true, true, true, true, true, true, true, true, true, true, false] rfl rfl (any_of rfl (by kernel_rfl)) (fun _ _ _ h => h) (Or.inl ⟨by rfl, ?_⟩) ?_ ?_
    rotate_left
    · intro w'
      go_simp
      with_reducible rfl
    rotate_left
    · simp only [Act.put, List.setIfInBounds_toArray, List.set_cons_zero, List.set_cons_succ, i64_w, i32_w]
      rfl
    refine one_ (i := 17) (N := none) #[true, true, true, true, true, true, true, true, true, true, true, true, true, true, true, true, true, true] rfl rfl (one_of rfl (by kernel_rfl)) (by decide) (fun K hK => ?_)
    have hs7 : w5.cell? ⟨wr.heap.size, 7, none⟩ = some (.int .i64 a3_7) := (blk_cell HO5.out 7).trans rfl
    have hf7 := blk_frozen HO5.out 7
    refine skip_ (w1 := ?_) (by rfl) rfl ?_ ?_
    rotate_left
    · go_simp
      rfl
    clear hs7 hf7
    have HL6 := Aside0.mk (LW.far HL5.out 7 (.int .i64 (rk : Int)) HGW.out)
    have HO6 : Aside0 ((w5.setCell ⟨wr.heap.size, 7, none⟩ (.int .i64 (rk : Int))).heap[wr.heap.size]? = some (.cells #[.int .i64 a3_0, .int .i64 a3_1, .int .i64 a3_2, .int .i64 a3_3, .int .i64 a3_4, .int .i64 a3_5, .int .i64 (tk : Int), .int .i64 (rk : Int), .int .i64 a3_8, .int .i64 a3_9, .slice A3_10 l3_10.length c3_10] 31 (0, 0))) := ⟨blk_put HO5.out 7 _ rfl⟩
    have HA6 := Aside0.mk ((Below.heap_setCell w5 ⟨wr.heap.size, 7, none⟩ (.int .i64 (rk : Int)) gb HNG.out).trans HA5.out)
    have HV6 := Aside0.mk (Kd.V_far (p := ⟨wr.heap.size, 7, none⟩) HV5.out (fun k hk => hk.2) (.int .i64 (rk : Int)))
    generalize (w5.setCell ⟨wr.heap.size, 7, none⟩ (.int .i64 (rk : Int))) = w6 at HL6 HO6 HA6 HV6 ⊢
    clear hHeld HL5 HO5 HA5 HV5
    refine hK.out _ _ ⟨(HL6.out.hb.cell (World.block_lt_of_cell? w _ HY0.out)).trans HY0.out, (HL6.out.hb.cell (World.block_lt_of_cell? w _ HY1.out)).trans HY1.out⟩ (fun hHeld => ?_)
    clear hK K
    refine done_ (done_of rfl (by kernel_rfl)) ?_
    clear hHeld
    have hm0 : w6.cell? ⟨w.heap.size, 0, none⟩ = some (.int .i64 a0_0) := (blk_cell HL6.out.m 0).trans rfl
    have hm1 : w6.cell? ⟨w.heap.size, 1, none⟩ = some (.slice A0_1 l0_1.length c0_1) := (blk_cell HL6.out.m 1).trans rfl
    have hp0 : w6.cell? ⟨w.heap.size + 1, 0, none⟩ = some (.int .i64 a1_0) := (blk_cell HL6.out.p 0).trans rfl
    have hp1 : w6.cell? ⟨w.heap.size + 1, 1, none⟩ = some (.slice A1_1 l1_1.length c1_1) := (blk_cell HL6.out.p 1).trans rfl
    have hq0 : w6.cell? ⟨wr.heap.size, 0, none⟩ = some (.int .i64 a3_0) := (blk_cell HO6.out 0).trans rfl
    have hq1 : w6.cell? ⟨wr.heap.size, 1, none⟩ = some (.int .i64 a3_1) := (blk_cell HO6.out 1).trans rfl
    have hq2 : w6.cell? ⟨wr.heap.size, 2, none⟩ = some (.int .i64 a3_2) := (blk_cell HO6.out 2).trans rfl
    have hq3 : w6.cell? ⟨wr.heap.size, 3, none⟩ = some (.int .i64 a3_3) := (blk_cell HO6.out 3).trans rfl
    have hq4 : w6.cell? ⟨wr.heap.size, 4, none⟩ = some (.int .i64 a3_4) := (blk_cell HO6.out 4).trans rfl
    have hq5 : w6.cell? ⟨wr.heap.size, 5, none⟩ = some (.int .i64 a3_5) := (blk_cell HO6.out 5).trans rfl
    have hq6 : w6.cell? ⟨wr.heap.size, 6, none⟩ = some (.int .i64 (tk : Int)) := (blk_cell HO6.out 6).trans rfl
    have hq7 : w6.cell? ⟨wr.heap.size, 7, none⟩ = some (.int .i64 (rk : Int)) := (blk_cell HO6.out 7).trans rfl
    have hq8 : w6.cell? ⟨wr.heap.size, 8, none⟩ = some (.int .i64 a3_8) := (blk_cell HO6.out 8).trans rfl
    have hq9 : w6.cell? ⟨wr.heap.size, 9, none⟩ = some (.int .i64 a3_9) := (blk_cell HO6.out 9).trans rfl
    have hq10 : w6.cell? ⟨wr.heap.size, 10, none⟩ = some (.slice A3_10 l3_10.length c3_10) := (blk_cell HO6.out 10).trans rfl
    obtain ⟨es', x, k3, w3e, hki, hxl, hle, hbit⟩ := WK.out tk rk i es arr (by have := HTK.out; omega) (by have := HRK.out; omega) HI.out.2 h20 HKI.out
    have K3 := Aside0.mk w3e
    have HKI2 := Aside0.mk hki
    have HXL := Aside0.mk hxl
    have HLE := Aside0.mk hle
    have HBIT := Aside0.mk hbit
    clear w3e hki hxl hle hbit
    go_upto_region 12 with (go_at_call 10; refine (node_Work.calls k3 a0_0 _ _ l0_1 a1_0 _ _ l1_1 a2 _ _ _ es a3_0 a3_1 a3_2 a3_3 a3_4 a3_5 (tk : Int) (rk : Int) a3_8 a3_9 _ _ l3_10 es' 2 a2 a3_1 a3_3 a3_4 a3_5 (tk : Int) (rk : Int) a3_8 a1_0 x true _ (Kd.C_below HR0.out HL6.out.hb) HC0.out (Kd.C_below HR1.out HL6.out.hb) HC1.out HV6.out (Kd.C_below HR3.out HL6.out.hb) HC3.out K3.out).mono ?_; rintro e w7 ⟨v3, u3, rfl, hv3, ho3, hb⟩; have HL7 := Aside0.mk (HL6.out.below hb); have HO7 := Aside0.mk (blk_below HO6.out hb); have HA7 := Aside0.mk (blk_below HA6.out hb); have HV7 := Aside0.mk (Kd.V_mono (ok' := fun k => k ≠ gb) hv3 (fun k hk => hk.1.elim (fun hp => hp.1) (fun hge hc => by have h1 := blk_lt HA6.out; omega))); clear hb hm0 hm1 hp0 hp1 hq0 hq1 hq2 hq3 hq4 hq5 hq6 hq7 hq8 hq9 hq10; obtain ⟨A5, c5, rfl⟩ := Kd.V_slice hv3; obtain ⟨A6, c6, rfl⟩ := Kd.R_slice ho3; clear hv3 ho3)
    have HL8 := Aside0.mk (HL7.out.below (below_alloc (Below.refl _ _) (.cells #[.int .i64 2, .int .i64 a2, .int .i64 a3_1, .int .i64 a3_3, .int .i64 a3_4, .int .i64 a3_5, .int .i64 (tk : Int), .int .i64 (rk : Int), .int .i64 a3_8, .int .i64 a1_0, .slice A6 x.length c6] 31)))
    have HB8 := Aside0.mk (alloc_at (W := w7) (.cells #[.int .i64 2, .int .i64 a2, .int .i64 a3_1, .int .i64 a3_3, .int .i64 a3_4, .int .i64 a3_5, .int .i64 (tk : Int), .int .i64 (rk : Int), .int .i64 a3_8, .int .i64 a1_0, .slice A6 x.length c6] 31) rfl)
    have HO8 := Aside0.mk (blk_alloc HO7.out (.cells #[.int .i64 2, .int .i64 a2, .int .i64 a3_1, .int .i64 a3_3, .int .i64 a3_4, .int .i64 a3_5, .int .i64 (tk : Int), .int .i64 (rk : Int), .int .i64 a3_8, .int .i64 a1_0, .slice A6 x.length c6] 31))
    have HA8 := Aside0.mk (blk_alloc HA7.out (.cells #[.int .i64 2, .int .i64 a2, .int .i64 a3_1, .int .i64 a3_3, .int .i64 a3_4, .int .i64 a3_5, .int .i64 (tk : Int), .int .i64 (rk : Int), .int .i64 a3_8, .int .i64 a1_0, .slice A6 x.length c6] 31))
    have HV8 := Aside0.mk (Kd.V_alloc HV7.out (.cells #[.int .i64 2, .int .i64 a2, .int .i64 a3_1, .int .i64 a3_3, .int .i64 a3_4, .int .i64 a3_5, .int .i64 (tk : Int), .int .i64 (rk : Int), .int .i64 a3_8, .int .i64 a1_0, .slice A6 x.length c6] 31))
    have HNB : Aside0 (w7.heap.size ≠ gb) := ⟨by have := blk_lt HA7.out; omega⟩
    have HN6 : Aside0 (wr.heap.size ≠ gb) := ⟨fun hc => HNG.out hc.symm⟩
    generalize w7.alloc (.cells #[.int .i64 2, .int .i64 a2, .int .i64 a3_1, .int .i64 a3_3, .int .i64 a3_4, .int .i64 a3_5, .int .i64 (tk : Int), .int .i64 (rk : Int), .int .i64 a3_8, .int .i64 a1_0, .slice A6 x.length c6] 31) = w8 at HL8 HB8 HO8 HA8 HV8 ⊢
    clear HL7 HO7 HA7 HV7 HL6 HO6 HA6 HV6 HNG HV HA
    have hb0 : w8.cell? ⟨w7.heap.size, 0, none⟩ = some (.int .i64 2) := (blk_cell HB8.out 0).trans rfl
    have htk16 : tk < 16 := by have := HTK.out; omega
    have hrk2 : rk < 2 := by have := HRK.out; omega
    have htki := eq_true (show (tk : Int) < 16 by omega)
    have hrki := eq_true (show (rk : Int) < 2 by omega)
    have htkz := eq_true (show (0 : Int) ≤ (tk : Int) by omega)
    have hrkz := eq_true (show (0 : Int) ≤ (rk : Int) by omega)
    have hth : w8.cell? ⟨gb, tk * 2 + rk, none⟩ = some (.bool (arr.getD (2 * tk + rk) false)) := by rw [show tk * 2 + rk = 2 * tk + rk by omega]; exact (blk_cell HA8.out (2 * tk + rk)).trans (bcells_get (by rw [HKI.out.len]; omega))
    have hc6 : w8.cell? ⟨wr.heap.size, 6, none⟩ = some (.int .i64 (tk : Int)) := (blk_cell HO8.out 6).trans rfl
    have hc7 : w8.cell? ⟨wr.heap.size, 7, none⟩ = some (.int .i64 (rk : Int)) := (blk_cell HO8.out 7).trans rfl
    rcases HBIT.out with ⟨hbt, hnn⟩ | ⟨hbt, hnn⟩
    · rw [hbt] at hth
      go_upto_region 14 with (fail)
      go_quiet (fail)
      go_upto_region 16 with (fail)
      have HL9 := Aside0.mk (HL8.out.below (below_drew (pw_below_drewN (Below.refl _ _) nq)))
      have HO9 := Aside0.mk (blk_drew (blk_drewN HO8.out nq))
      have HB9 := Aside0.mk (blk_drew (blk_drewN HB8.out nq))
      have HA9 := Aside0.mk (blk_drew (blk_drewN HA8.out nq))
      have HV9 := Aside0.mk (Kd.V_drew (Kd.V_drewN HV8.out nq))
      refine start_ (n := 7) (S := fun W => W.cell? ⟨wr.heap.size, 6, none⟩ = some (.int .i64 (tk : Int)) ∧ W.cell? ⟨wr.heap.size, 7, none⟩ = some (.int .i64 (rk : Int))) (ds := []) #[false, false, false, false, false, false, false] (by kernel_rfl) rfl rfl ⟨(blk_cell HO9.out 6).trans rfl, (blk_cell HO9.out 7).trans rfl⟩ (fun hHeld => ?_)
      generalize (w8.drewN nq).drew = w9 at HL9 HO9 HB9 HA9 HV9 hHeld ⊢
      clear HL8 HO8 HB8 HA8 HV8 hb0 hth hc6 hc7
      refine pure_ (i := 0) (N := some 99) (v := ?_) (a' := ?_) #[true, false, false, false, false, false, false] rfl rfl (any_of rfl (by kernel_rfl)) (fun _ _ _ h => h) (Or.inl ⟨by rfl, ?_⟩) ?_ ?_
      rotate_left
      · intro w'
        go_simp
        with_reducible rfl
      rotate_left
      · simp only [Act.put, List.setIfInBounds_toArray, List.set_cons_zero, List.set_cons_succ, i64_w, i32_w]
        rfl
      refine take_ (i := 1) (N := some 100) (v := ?_) (a' := ?_) #[true, true, false, false, false, false, false] rfl rfl (take_of rfl (by kernel_rfl)) (fun _ _ _ h => h) (Or.inl ⟨by rfl, ?_⟩) hHeld ?_ ?_
      rotate_left
      · rintro w' ⟨s0, s1⟩
        go_simp
        with_reducible rfl
      rotate_left
      · simp only [Act.put, List.setIfInBounds_toArray, List.set_cons_zero, List.set_cons_succ, i64_w, i32_w]
        rfl
      refine pure_ (i := 2) (N := some 101) (v := ?_) (a' := ?_) #[true, true, true, false, false, false, false] rfl rfl (any_of rfl (by kernel_rfl)) (fun _ _ _ h => h) (Or.inl ⟨by rfl, ?_⟩) ?_ ?_
      rotate_left
      · intro w'
        go_simp
        with_reducible rfl
      rotate_left
      · simp only [Act.put, List.setIfInBounds_toArray, List.set_cons_zero, List.set_cons_succ, i64_w, i32_w]
        rfl
      refine take_ (i := 3) (N := some 102) (v := ?_) (a' := ?_) #[true, true, true, true, false, false, false] rfl rfl (take_of rfl (by kernel_rfl)) (fun _ _ _ h => h) (Or.inl ⟨by rfl, ?_⟩) hHeld ?_ ?_
      rotate_left
      · rintro w' ⟨s0, s1⟩
        go_simp
        with_reducible rfl
      rotate_left
      · simp only [Act.put, List.setIfInBounds_toArray, List.set_cons_zero, List.set_cons_succ, i64_w, i32_w]
        rfl
      refine pure_ (i := 4) (N := some 103) (v := ?_) (a' := ?_) #[true, true, true, true, true, false, false] rfl rfl (any_of rfl (by kernel_rfl)) (fun _ _ _ h => h) (Or.inl ⟨by rfl, ?_⟩) ?_ ?_
      rotate_left
      · intro w'
        go_simp
        with_reducible rfl
      rotate_left
      · simp only [Act.put, List.setIfInBounds_toArray, List.set_cons_zero, List.set_cons_succ, i64_w, i32_w]
        rfl
      refine pure_ (i := 5) (N := some 104) (v := ?_) (a' := ?_) #[true, true, true, true, true, true, false] rfl rfl (any_of rfl (by kernel_rfl)) (fun _ _ _ h => h) (Or.inl ⟨by rfl, ?_⟩) ?_ ?_
      rotate_left
      · intro w'
        go_simp
        with_reducible rfl
      rotate_left
      · simp only [Act.put, List.setIfInBounds_toArray, List.set_cons_zero, List.set_cons_succ, i64_w, i32_w]
        rfl
      refine one_ (i := 6) (N := none) #[true, true, true, true, true, true, true] rfl rfl (one_of rfl (by kernel_rfl)) (by decide) (fun K hK => ?_)
      have hs6 : w9.cell? ⟨gb, tk * 2 + rk, none⟩ = some (.bool (arr.getD (2 * tk + rk) false)) := by rw [show tk * 2 + rk = 2 * tk + rk by omega]; exact (blk_cell HA9.out (2 * tk + rk)).trans (bcells_get (by rw [HKI.out.len]; omega))
      have hf6 := blk_frozen HA9.out (tk * 2 + rk)
      refine skip_ (w1 := ?_) (by rfl) rfl ?_ ?_
      rotate_left
      · go_simp
        rfl
      clear hs6 hf6
      have HL10 := Aside0.mk (LW.far HL9.out (tk * 2 + rk) (.bool true) HGB.out)
      have HO10 := Aside0.mk ((Below.heap_setCell w9 ⟨gb, tk * 2 + rk, none⟩ (.bool true) wr.heap.size HN6.out).trans HO9.out)
      have HB10 := Aside0.mk ((Below.heap_setCell w9 ⟨gb, tk * 2 + rk, none⟩ (.bool true) w7.heap.size HNB.out).trans HB9.out)
      have HV10 := Aside0.mk (Kd.V_far (p := ⟨gb, tk * 2 + rk, none⟩) HV9.out (fun k hk => hk) (.bool true))
      have HA10 : Aside0 ((w9.setCell ⟨gb, tk * 2 + rk, none⟩ (.bool true)).heap[gb]? = some (.cells (bcells (arr.set (2 * tk + rk) true)) 56 (0, 0))) := ⟨by have := blk_put HA9.out (tk * 2 + rk) (.bool true) (bcells_set arr (tk * 2 + rk) true); rw [show arr.set (2 * tk + rk) true = arr.set (tk * 2 + rk) true by rw [show 2 * tk + rk = tk * 2 + rk by omega]]; exact this⟩
      generalize (w9.setCell ⟨gb, tk * 2 + rk, none⟩ (.bool true)) = w10 at HL10 HO10 HB10 HV10 HA10 ⊢
      clear hHeld HL9 HO9 HB9 HA9 HV9
      refine hK.out _ _ ⟨(blk_cell HO10.out 6).trans rfl, (blk_cell HO10.out 7).trans rfl⟩ (fun hHeld => ?_)
      clear hK K
      refine done_ (done_of rfl (by kernel_rfl)) ?_
      clear hHeld
      have hd6 : w10.cell? ⟨w7.heap.size, 6, none⟩ = some (.int .i64 (tk : Int)) := (blk_cell HB10.out 6).trans rfl
      have hd7 : w10.cell? ⟨w7.heap.size, 7, none⟩ = some (.int .i64 (rk : Int)) := (blk_cell HB10.out 7).trans rfl
      have hd10 : w10.cell? ⟨w7.heap.size, 10, none⟩ = some (.slice A6 x.length c6) := (blk_cell HB10.out 10).trans rfl
      have hc6 : w10.cell? ⟨wr.heap.size, 6, none⟩ = some (.int .i64 (tk : Int)) := (blk_cell HO10.out 6).trans rfl
      have hc7 : w10.cell? ⟨wr.heap.size, 7, none⟩ = some (.int .i64 (rk : Int)) := (blk_cell HO10.out 7).trans rfl
      have ha10 : w10.cell? ⟨w.heap.size + 1 + 1, 10, none⟩ = some (.slice A3_10 l3_10.length c3_10) := (blk_cell HL10.out.a 10).trans rfl
      have hx1 : ((x.length : Int) == (l3_10.length : Int)) = true := by rw [HXL.out]; exact beq_self_eq_true _
      have hx2 : ((x.length : Int) != (l3_10.length : Int)) = false := by rw [HXL.out]; exact bne_self_eq_false _
      have hn1 : ((es'.length : Int) != (es.length : Int)) = false := by rw [hnn]; exact bne_self_eq_false _
      have hn2 : ((es'.length : Int) == (es.length : Int)) = true := by rw [hnn]; exact beq_self_eq_true _
      have HNN := Aside0.mk hnn
      clear hnn hbt
      go_wp2
      go_roundw
      case rel => exact ⟨i + 1, es', arr.set (2 * tk + rk) true, by have := HNN.out; rw [this], by go_num, ⟨by omega, HLE.out⟩, HKI2, HV10, HA10, HL10⟩
      case measure => simp [intOf]; omega
    · have hwm : wrap64 ((es.length : Int) + 1) = (es.length : Int) + 1 := wrap_small (by omega) (by have := HI.out.2; omega)
      rw [hbt] at hth
      go_upto_region 14 with (fail)
      go_quiet (fail)
      go_upto_region 16 with (fail)
      have HL9 := Aside0.mk (HL8.out.below (below_drew (pw_below_drewN (Below.refl _ _) nq)))
      have HO9 := Aside0.mk (blk_drew (blk_drewN HO8.out nq))
      have HB9 := Aside0.mk (blk_drew (blk_drewN HB8.out nq))
      have HA9 := Aside0.mk (blk_drew (blk_drewN HA8.out nq))
      have HV9 := Aside0.mk (Kd.V_drew (Kd.V_drewN HV8.out nq))
      refine start_ (n := 7) (S := fun W => W.cell? ⟨wr.heap.size, 6, none⟩ = some (.int .i64 (tk : Int)) ∧ W.cell? ⟨wr.heap.size, 7, none⟩ = some (.int .i64 (rk : Int))) (ds := []) #[false, false, false, false, false, false, false] (by kernel_rfl) rfl rfl ⟨(blk_cell HO9.out 6).trans rfl, (blk_cell HO9.out 7).trans rfl⟩ (fun hHeld => ?_)
      generalize (w8.drewN nq).drew = w9 at HL9 HO9 HB9 HA9 HV9 hHeld ⊢
      clear HL8 HO8 HB8 HA8 HV8 hb0 hth hc6 hc7
      refine pure_ (i := 0) (N := some 99) (v := ?_) (a' := ?_) #[true, false, false, false, false, false, false] rfl rfl (any_of rfl (by kernel_rfl)) (fun _ _ _ h => h) (Or.inl ⟨by rfl, ?_⟩) ?_ ?_
      rotate_left
      · intro w'
        go_simp
        with_reducible rfl
      rotate_left
      · simp only [Act.put, List.setIfInBounds_toArray, List.set_cons_zero, List.set_cons_succ, i64_w, i32_w]
        rfl
      refine take_ (i := 1) (N := some 100) (v := ?_) (a' := ?_) #[true, true, false, false, false, false, false] rfl rfl (take_of rfl (by kernel_rfl)) (fun _ _ _ h => h) (Or.inl ⟨by rfl, ?_⟩) hHeld ?_ ?_
      rotate_left
      · rintro w' ⟨s0, s1⟩
        go_simp
        with_reducible rfl
      rotate_left
      · simp only [Act.put, List.setIfInBounds_toArray, List.set_cons_zero, List.set_cons_succ, i64_w, i32_w]
        rfl
      refine pure_ (i := 2) (N := some 101) (v := ?_) (a' := ?_) #[true, true, true, false, false, false, false] rfl rfl (any_of rfl (by kernel_rfl)) (fun _ _ _ h => h) (Or.inl ⟨by rfl, ?_⟩) ?_ ?_
      rotate_left
      · intro w'
        go_simp
        with_reducible rfl
      rotate_left
      · simp only [Act.put, List.setIfInBounds_toArray, List.set_cons_zero, List.set_cons_succ, i64_w, i32_w]
        rfl
      refine take_ (i := 3) (N := some 102) (v := ?_) (a' := ?_) #[true, true, true, true, false, false, false] rfl rfl (take_of rfl (by kernel_rfl)) (fun _ _ _ h => h) (Or.inl ⟨by rfl, ?_⟩) hHeld ?_ ?_
      rotate_left
      · rintro w' ⟨s0, s1⟩
        go_simp
        with_reducible rfl
      rotate_left
      · simp only [Act.put, List.setIfInBounds_toArray, List.set_cons_zero, List.set_cons_succ, i64_w, i32_w]
        rfl
      refine pure_ (i := 4) (N := some 103) (v := ?_) (a' := ?_) #[true, true, true, true, true, false, false] rfl rfl (any_of rfl (by kernel_rfl)) (fun _ _ _ h => h) (Or.inl ⟨by rfl, ?_⟩) ?_ ?_
      rotate_left
      · intro w'
        go_simp
        with_reducible rfl
      rotate_left
      · simp only [Act.put, List.setIfInBounds_toArray, List.set_cons_zero, List.set_cons_succ, i64_w, i32_w]
        rfl
      refine pure_ (i := 5) (N := some 104) (v := ?_) (a' := ?_) #[true, true, true, true, true, true, false] rfl rfl (any_of rfl (by kernel_rfl)) (fun _ _ _ h => h) (Or.inl ⟨by rfl, ?_⟩) ?_ ?_
      rotate_left
      · intro w'
        go_simp
        with_reducible rfl
      rotate_left
      · simp only [Act.put, List.setIfInBounds_toArray, List.set_cons_zero, List.set_cons_succ, i64_w, i32_w]
        rfl
      refine one_ (i := 6) (N := none) #[true, true, true, true, true, true, true] rfl rfl (one_of rfl (by kernel_rfl)) (by decide) (fun K hK => ?_)
      have hs6 : w9.cell? ⟨gb, tk * 2 + rk, none⟩ = some (.bool (arr.getD (2 * tk + rk) false)) := by rw [show tk * 2 + rk = 2 * tk + rk by omega]; exact (blk_cell HA9.out (2 * tk + rk)).trans (bcells_get (by rw [HKI.out.len]; omega))
      have hf6 := blk_frozen HA9.out (tk * 2 + rk)
      refine skip_ (w1 := ?_) (by rfl) rfl ?_ ?_
      rotate_left
      · go_simp
        rfl
      clear hs6 hf6
      have HL10 := Aside0.mk (LW.far HL9.out (tk * 2 + rk) (.bool true) HGB.out)
      have HO10 := Aside0.mk ((Below.heap_setCell w9 ⟨gb, tk * 2 + rk, none⟩ (.bool true) wr.heap.size HN6.out).trans HO9.out)
      have HB10 := Aside0.mk ((Below.heap_setCell w9 ⟨gb, tk * 2 + rk, none⟩ (.bool true) w7.heap.size HNB.out).trans HB9.out)
      have HV10 := Aside0.mk (Kd.V_far (p := ⟨gb, tk * 2 + rk, none⟩) HV9.out (fun k hk => hk) (.bool true))
      have HA10 : Aside0 ((w9.setCell ⟨gb, tk * 2 + rk, none⟩ (.bool true)).heap[gb]? = some (.cells (bcells (arr.set (2 * tk + rk) true)) 56 (0, 0))) := ⟨by have := blk_put HA9.out (tk * 2 + rk) (.bool true) (bcells_set arr (tk * 2 + rk) true); rw [show arr.set (2 * tk + rk) true = arr.set (tk * 2 + rk) true by rw [show 2 * tk + rk = tk * 2 + rk by omega]]; exact this⟩
      generalize (w9.setCell ⟨gb, tk * 2 + rk, none⟩ (.bool true)) = w10 at HL10 HO10 HB10 HV10 HA10 ⊢
      clear hHeld HL9 HO9 HB9 HA9 HV9
      refine hK.out _ _ ⟨(blk_cell HO10.out 6).trans rfl, (blk_cell HO10.out 7).trans rfl⟩ (fun hHeld => ?_)
      clear hK K
      refine done_ (done_of rfl (by kernel_rfl)) ?_
      clear hHeld
      have hd6 : w10.cell? ⟨w7.heap.size, 6, none⟩ = some (.int .i64 (tk : Int)) := (blk_cell HB10.out 6).trans rfl
      have hd7 : w10.cell? ⟨w7.heap.size, 7, none⟩ = some (.int .i64 (rk : Int)) := (blk_cell HB10.out 7).trans rfl
      have hd10 : w10.cell? ⟨w7.heap.size, 10, none⟩ = some (.slice A6 x.length c6) := (blk_cell HB10.out 10).trans rfl
      have hc6 : w10.cell? ⟨wr.heap.size, 6, none⟩ = some (.int .i64 (tk : Int)) := (blk_cell HO10.out 6).trans rfl
      have hc7 : w10.cell? ⟨wr.heap.size, 7, none⟩ = some (.int .i64 (rk : Int)) := (blk_cell HO10.out 7).trans rfl
      have ha10 : w10.cell? ⟨w.heap.size + 1 + 1, 10, none⟩ = some (.slice A3_10 l3_10.length c3_10) := (blk_cell HL10.out.a 10).trans rfl
      have hx1 : ((x.length : Int) == (l3_10.length : Int)) = true := by rw [HXL.out]; exact beq_self_eq_true _
      have hx2 : ((x.length : Int) != (l3_10.length : Int)) = false := by rw [HXL.out]; exact bne_self_eq_false _
      have hn1 : ((es'.length : Int) != (es.length : Int) + 1) = false := by rw [hnn]; exact bne_self_eq_false _
      have hn2 : ((es'.length : Int) == (es.length : Int) + 1) = true := by rw [hnn]; exact beq_self_eq_true _
      have HNN := Aside0.mk hnn
      clear hnn hbt
      go_wp2
      go_roundw
      case rel => exact ⟨i + 1, es', arr.set (2 * tk + rk) true, by have := HNN.out; rw [this, hwm]; rfl, by go_num, ⟨by omega, HLE.out⟩, HKI2, HV10, HA10, HL10⟩
      case measure => simp [intOf]; omega


end Go.Proofs.Ytabklpdjjoaocaa.Qz
