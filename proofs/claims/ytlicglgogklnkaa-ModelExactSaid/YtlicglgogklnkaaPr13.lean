-- Laid by wip/xprint.py, a program of this session that runs the kit's print with some contracts given by hand; not a text of print.sh. Lean checks it.
import Derived.Test.YtlicglgogklnkaaPr0
import Derived.Test.YtlicglgogklnkaaPr12
namespace Go.Proofs.Ytlicglgogklnkaa.Pr
open Go.RowKit Go.Proofs.YtlicglgogklnkaaW.PrintWords Go.Proofs.YtlicglgogklnkaaW.PrintLast Go.Proofs.YtlicglgogklnkaaW.PrintMore
attribute [local go_sem] max2_int min2_int max_two min_two max_three min_three max_four min_four   -- for this text's walks alone
set_option linter.unusedVariables false
set_option linter.unusedSimpArgs false

/-! ### switchboardref05_Share: function 57 -/
def switchboardref05_Share.l0 : Nat → Int → Int → Int → Int → Int → Option (Int)
  | 0, _, _, _, _, _ => none
  | k + 1, x5, x6, x7, x8, x9 => if x9 < 16 then (if (wrap64 (2 * x8)) ≥ (wrap64 (x5 + x6)) then (switchboardref05_Share.l0 k x5 x6 (wrap64 ((wrap64 (2 * x7)) + 1)) (wrap64 ((wrap64 (2 * x8)) - (wrap64 (x5 + x6)))) (wrap64 (x9 + 1))) else (switchboardref05_Share.l0 k x5 x6 (wrap64 (2 * x7)) (wrap64 (2 * x8)) (wrap64 (x9 + 1)))) else (some x7)
def switchboardref05_Share.f (k : Nat) (a0 : Int) (a1 : Int) : Option (Int) := (switchboardref05_part.f a0).bind fun t272 => ((switchboardref05_part.f a1).bind fun t273 => (switchboardref05_Share.l0 k t272 t273 0 t272 0))
theorem switchboardref05_Share.mono_l : ∀ k, (∀ y0 y1 y2 y3 y4, LeO (switchboardref05_Share.l0 k y0 y1 y2 y3 y4) (switchboardref05_Share.l0 (k + 1) y0 y1 y2 y3 y4))
  | 0 => fun _ _ _ _ _ r h => by simp [switchboardref05_Share.l0] at h
  | k + 1 => by
    have ih0 := switchboardref05_Share.mono_l k
    · intro y0 y1 y2 y3 y4
      unfold switchboardref05_Share.l0
      repeat' first
      | (with_reducible exact ih0 _ _ _ _ _)
      | (with_reducible exact LeO.refl _)
      | (with_reducible exact LeO.none _)
      | (with_reducible refine LeO.ite ?_ ?_)
      | (with_reducible refine LeO.bind ?_ (fun _ => ?_))
      | exact ih0 _ _ _ _ _
      | exact LeO.none _
      | refine LeO.ite ?_ ?_
      | refine LeO.bind ?_ (fun _ => ?_)
theorem switchboardref05_Share.mono : ∀ a0 a1 k, LeO (switchboardref05_Share.f k a0 a1) (switchboardref05_Share.f (k + 1) a0 a1) := by
  intro a0 a1 k
  have ih0 := switchboardref05_Share.mono_l k
  unfold switchboardref05_Share.f
  repeat' first
      | (with_reducible exact ih0 _ _ _ _ _)
      | (with_reducible exact LeO.refl _)
      | (with_reducible exact LeO.none _)
      | (with_reducible refine LeO.ite ?_ ?_)
      | (with_reducible refine LeO.bind ?_ (fun _ => ?_))
      | exact ih0 _ _ _ _ _
      | exact LeO.none _
      | refine LeO.ite ?_ ?_
      | refine LeO.bind ?_ (fun _ => ?_)
set_option maxHeartbeats 8000000 in
set_option maxRecDepth 100000 in
theorem switchboardref05_Share.calls (k : Nat) (a0 : Int) (a1 : Int) (r : Int) (w : World) (h : switchboardref05_Share.f k a0 a1 = some r) :
    Calls Try.prog 57 #[.int .i64 a0, .int .i64 a1] w fun e w' => e = .returned (.int .i64 r) ∧ Drawn0 w w' := by
  have H : ((switchboardref05_part.f a0).bind fun t272 => ((switchboardref05_part.f a1).bind fun t273 => (switchboardref05_Share.l0 k t272 t273 0 t272 0))) = some r := h
  clear h
  replace H := Option.bind_eq_some_iff.mp H
  obtain ⟨t272, A30, H⟩ := H
  replace H : ((switchboardref05_part.f a1).bind fun t273 => (switchboardref05_Share.l0 k t272 t273 0 t272 0)) = some r := H
  have A3 := Aside0.mk A30
  clear A30
  replace H := Option.bind_eq_some_iff.mp H
  obtain ⟨t273, A40, H⟩ := H
  replace H : (switchboardref05_Share.l0 k t272 t273 0 t272 0) = some r := H
  have A4 := Aside0.mk A40
  clear A40
  have H' := Aside0.mk H
  clear H
  go_enter Try.func57, Try.ntmps57
  go_wp2_with (first | ((with_reducible refine gate_callee (f := 76) rfl ?_); refine goesL_ (some 11) rfl rfl Try.func76 (by kernel_rfl) rfl #[.int .i64 a0] rfl (by (try simp only [List.map_toArray, List.map_cons, List.map_nil]); first | done | rfl | (simp only [List.length_drop, List.length_take]; rfl)) ?_; (with_reducible refine (switchboardref05_part.calls a0 t272 _ A3.out).mono ?_); rintro e w' ⟨rfl, ⟨nd, rfl⟩⟩; refine ⟨_, rfl, ?_⟩) | ((with_reducible refine gate_callee (f := 76) rfl ?_); refine goesL_ (some 13) rfl rfl Try.func76 (by kernel_rfl) rfl #[.int .i64 a1] rfl (by (try simp only [List.map_toArray, List.map_cons, List.map_nil]); first | done | rfl | (simp only [List.length_drop, List.length_take]; rfl)) ?_; (with_reducible refine (switchboardref05_part.calls a1 t273 _ A4.out).mono ?_); rintro e w' ⟨rfl, ⟨nd, rfl⟩⟩; refine ⟨_, rfl, ?_⟩))
  go_loopg [7, 8, 9] k (fun kq v7 v8 v9 w' => ∃ (x7_1 : Int) (x8_1 : Int) (x9_1 : Int), v7 = .int .i64 x7_1 ∧ v8 = .int .i64 x8_1 ∧ v9 = .int .i64 x9_1 ∧ Aside0 (switchboardref05_Share.l0 kq t272 t273 x7_1 x8_1 x9_1 = some r) ∧ Aside0 (kq ≤ k) ∧ Drawn0 w w')
  case atStart => exact ⟨(0), (t272), (0), (by first | rfl | (simp; done) | (simp [*]; done)), (by first | rfl | (simp; done) | (simp [*]; done)), (by first | rfl | (simp; done) | (simp [*]; done)), H', ⟨Nat.le_refl _⟩, by repeat (first | exact Drawn0.refl _ | apply Drawn0.step)⟩
  case round =>
    clear H'
    try clear p2
    obtain ⟨x7_1, x8_1, x9_1, rfl, rfl, rfl, HA, HK1, ⟨m1, rfl⟩⟩ := hrel
    cases gk with
    | zero => exact absurd HA.out (by simp [switchboardref05_Share.l0])
    | succ k1 =>
      have H := HA.out
      clear HA
      simp only [switchboardref05_Share.l0] at H
      by_cases c5 : x9_1 < 16
      · rw [if_pos c5] at H
        have c5b0 : decide (x9_1 < 16) = true := decide_eq_true c5
        clear c5
        by_cases c6 : (wrap64 (2 * x8_1)) ≥ (wrap64 (t272 + t273))
        · rw [if_pos c6] at H
          have c6b0 : decide ((wrap64 (t272 + t273)) ≤ (wrap64 (2 * x8_1))) = true := decide_eq_true c6
          clear c6
          have H' := Aside0.mk H
          clear H
          go_wp2
          go_roundg k1
          case measure => have := HK1.out; omega
          case rel => exact ⟨(wrap64 ((wrap64 (2 * x7_1)) + 1)), (wrap64 ((wrap64 (2 * x8_1)) - (wrap64 (t272 + t273)))), (wrap64 (x9_1 + 1)), (by first | rfl | (simp; done) | (simp [*]; done)), (by first | rfl | (simp; done) | (simp [*]; done)), (by first | rfl | (simp; done) | (simp [*]; done)), H', ⟨by have := HK1.out; omega⟩, by repeat (first | exact Drawn0.refl _ | apply Drawn0.step)⟩
        · rw [if_neg c6] at H
          have c6b0 : decide ((wrap64 (t272 + t273)) ≤ (wrap64 (2 * x8_1))) = false := decide_eq_false c6
          clear c6
          have H' := Aside0.mk H
          clear H
          go_wp2
          go_roundg k1
          case measure => have := HK1.out; omega
          case rel => exact ⟨(wrap64 (2 * x7_1)), (wrap64 (2 * x8_1)), (wrap64 (x9_1 + 1)), (by first | rfl | (simp; done) | (simp [*]; done)), (by first | rfl | (simp; done) | (simp [*]; done)), (by first | rfl | (simp; done) | (simp [*]; done)), H', ⟨by have := HK1.out; omega⟩, by repeat (first | exact Drawn0.refl _ | apply Drawn0.step)⟩
      · rw [if_neg c5] at H
        have c5b0 : decide (x9_1 < 16) = false := decide_eq_false c5
        clear c5
        obtain rfl := Option.some.inj H
        go_wp2
        go_ret
        exact ⟨by first | rfl | (simp; done) | (simp [*]; done), by repeat (first | exact Drawn0.refl _ | apply Drawn0.step)⟩

/-! ### switchboardref13_Choose: function 35 -/
def switchboardref13_Choose.j0 : Nat → List Int → Bool → Option (Int × Int × Int × Int × Bool)
  | 0, _, _ => none
  | k + 1, x6, x23 => if x23 = true then (some (0, 0, 0, 0, false)) else ((switchboardref04_Of.f k x6 0).bind fun t279 => ((switchboardref04_Of.f k x6 1).bind fun t280 => (if t280 ≥ 0 then (if 0 ≤ t279 then (if t279 < (x6.length : Int) then (if 0 ≤ t280 then (if t280 < (x6.length : Int) then ((switchboardref05_Share.f k (rd x6 t279) (rd x6 t280)).bind fun t283 => (some (t279, t280, t283, wrap64 (65536 - t283), true))) else (none)) else (none)) else (none)) else (none)) else (some (t279, t280, 65536, 65536 - 65536, true)))))
def switchboardref13_Choose.f (k : Nat) (l0 : List (List Int)) (l1 : List Int) : Option (Int × Int × Int × Int × Bool) := (switchboardref03_Apply.f k l0 l1).bind fun bt275 => (if bt275.2 = true then (switchboardref13_Choose.j0 k bt275.1 ((bt275.1.length : Int) == 0)) else (switchboardref13_Choose.j0 k bt275.1 true))
theorem switchboardref13_Choose.mono_l : ∀ k, (∀ y0 y1, LeO (switchboardref13_Choose.j0 k y0 y1) (switchboardref13_Choose.j0 (k + 1) y0 y1))
  | 0 => fun _ _ r h => by simp [switchboardref13_Choose.j0] at h
  | k + 1 => by
    have ih0 := switchboardref13_Choose.mono_l k
    · intro y0 y1
      unfold switchboardref13_Choose.j0
      repeat' first
      | (with_reducible exact ih0 _ _)
      | (with_reducible exact switchboardref03_Apply.mono _ _ _)
      | (with_reducible exact switchboardref04_Of.mono _ _ _)
      | (with_reducible exact switchboardref05_Share.mono _ _ _)
      | (with_reducible exact LeO.refl _)
      | (with_reducible exact LeO.none _)
      | (with_reducible refine LeO.ite ?_ ?_)
      | (with_reducible refine LeO.bind ?_ (fun _ => ?_))
      | exact ih0 _ _
      | exact switchboardref03_Apply.mono _ _ _
      | exact switchboardref04_Of.mono _ _ _
      | exact switchboardref05_Share.mono _ _ _
      | exact LeO.none _
      | refine LeO.ite ?_ ?_
      | refine LeO.bind ?_ (fun _ => ?_)
theorem switchboardref13_Choose.mono : ∀ a0 a1 k, LeO (switchboardref13_Choose.f k a0 a1) (switchboardref13_Choose.f (k + 1) a0 a1) := by
  intro a0 a1 k
  have ih0 := switchboardref13_Choose.mono_l k
  unfold switchboardref13_Choose.f
  repeat' first
      | (with_reducible exact ih0 _ _)
      | (with_reducible exact switchboardref03_Apply.mono _ _ _)
      | (with_reducible exact switchboardref04_Of.mono _ _ _)
      | (with_reducible exact switchboardref05_Share.mono _ _ _)
      | (with_reducible exact LeO.refl _)
      | (with_reducible exact LeO.none _)
      | (with_reducible refine LeO.ite ?_ ?_)
      | (with_reducible refine LeO.bind ?_ (fun _ => ?_))
      | exact ih0 _ _
      | exact switchboardref03_Apply.mono _ _ _
      | exact switchboardref04_Of.mono _ _ _
      | exact switchboardref05_Share.mono _ _ _
      | exact LeO.none _
      | refine LeO.ite ?_ ?_
      | refine LeO.bind ?_ (fun _ => ?_)
set_option maxHeartbeats 8000000 in
set_option maxRecDepth 100000 in
theorem switchboardref13_Choose.calls (k : Nat) (A0 : Option Addr) (c0 : Nat) (l0 : List (List Int)) (A1 : Option Addr) (c1 : Nat) (l1 : List Int) (r1 : Int) (r2 : Int) (r3 : Int) (r4 : Int) (r5 : Bool) (w : World) (hr0 : Kd.C (Kd.slice 3 (Kd.int .i64)) w A0 l0.length l0) (hc0 : l0.length ≤ c0) (hr1 : Kd.C (Kd.int .i64) w A1 l1.length l1) (hc1 : l1.length ≤ c1) (h : switchboardref13_Choose.f k l0 l1 = some (r1, r2, r3, r4, r5)) :
    Calls Try.prog 35 #[.slice A0 l0.length c0, .slice A1 l1.length c1] w fun e w' => e = .returned (.tuple #[.agg #[.int .i64 r1, .int .i64 r2, .int .i64 r3, .int .i64 r4], .bool r5]) ∧ Below w.heap.size w w' := by
  have hu70 := Try.underlying70
  have HR0 := Aside0.mk hr0
  have HC0 := Aside0.mk hc0
  clear hr0 hc0
  have HR1 := Aside0.mk hr1
  have HC1 := Aside0.mk hc1
  clear hr1 hc1
  have HB := Aside0.mk (Below.refl w.heap.size w)
  have H : ((switchboardref03_Apply.f k l0 l1).bind fun bt275 => (if bt275.2 = true then (switchboardref13_Choose.j0 k bt275.1 ((bt275.1.length : Int) == 0)) else (switchboardref13_Choose.j0 k bt275.1 true))) = some (r1, r2, r3, r4, r5) := h
  clear h
  replace H := Option.bind_eq_some_iff.mp H
  obtain ⟨⟨t275, t276⟩, A30, H⟩ := H
  replace H : (if t276 = true then (switchboardref13_Choose.j0 k t275 ((t275.length : Int) == 0)) else (switchboardref13_Choose.j0 k t275 true)) = some (r1, r2, r3, r4, r5) := H
  have A3 := Aside0.mk A30
  clear A30
  have HC4 := Aside0.mk H
  clear H
  go_enter Try.func35, Try.ntmps35
  go_upto_region 2 with (first | ((with_reducible refine gate_dst (N := 4) rfl ?_); (try (refine gate_guard (by rfl) ?_; dsimp only)); refine box_event ?hg (N := 4) ?hd (cs := #[.int .i64 0, .int .i64 0, .int .i64 0, .int .i64 0]) (t := 70) ?hr ?_; (case hd => rfl); (case hg => rfl); (case hr => first | (go_simp; done) | (go_simp; rfl)); intro gb274 hg w5 hbox hb; have n0_ := Aside0.mk (below_step (by repeat (first | (with_reducible first | exact HB.out | apply below_alloc | apply pw_below_drewN | apply below_drew1) | exact HB.out)) hb); have n1_ := Aside0.mk (hbox); have n2_ := Aside0.mk ((by rw [hg]; exact (below_size (by repeat (first | (with_reducible first | exact HB.out | apply below_alloc | apply pw_below_drewN | apply below_drew1) | exact HB.out))) : w.heap.size ≤ gb274)); have n3_ := Aside0.mk ((by rw [hg]; exact (below_size (by repeat (first | (with_reducible first | exact HB.out | apply below_alloc | apply pw_below_drewN | apply below_drew1) | exact HB.out))) : w.heap.size ≤ gb274)); clear HB; have HB := n0_; have BK274 := n1_; have GW274 := n2_; have GE274 := n3_; clear n0_ n1_ n2_ n3_; clear hb hbox hg) | (go_at_call 55; (with_reducible refine (switchboardref03_Apply.calls k _ _ l0 _ _ l1 t275 t276 _ ?side1 ?side2 ?side3 ?side4 A3.out).mono ?_); (case side1 => repeat (first | exact (Kd.C_below HR0.out HB.out) | (with_reducible refine Kd.C_alloc ?_ _) | (with_reducible refine Kd.C_drewN ?_ _) | (with_reducible refine Kd.C_drew ?_))); (case side2 => exact HC0.out); (case side3 => repeat (first | exact (Kd.C_below HR1.out HB.out) | (with_reducible refine Kd.C_alloc ?_ _) | (with_reducible refine Kd.C_drewN ?_ _) | (with_reducible refine Kd.C_drew ?_))); (case side4 => exact HC1.out); rintro e w6 ⟨v277, rfl, ho0, hb⟩; have n0_ := Aside0.mk (Kd.R_lower ho0 (below_size (by repeat (first | (with_reducible first | exact HB.out | apply below_alloc | apply pw_below_drewN | apply below_drew1 | refine below_set ?_ GE274.out) | exact HB.out)))); have n1_ := Aside0.mk (blk_below (g := gb274) (o := .cells #[.int .i64 0, .int .i64 0, .int .i64 0, .int .i64 0] 70 (0, 0)) (by (with_reducible repeat (first | refine blk_drewN ?_ _ | refine blk_drew ?_ | refine blk_alloc ?_ _)); exact BK274.out) hb); have n2_ := Aside0.mk (below_step (by repeat (first | (with_reducible first | exact HB.out | apply below_alloc | apply pw_below_drewN | apply below_drew1 | refine below_set ?_ GE274.out) | exact HB.out)) hb); clear BK274; clear HB; have HO278 := n0_; have BK274 := n1_; have HB := n2_; clear n0_ n1_ n2_; (try clear hb); (try clear hb2); (try clear hk); (try clear hi); (try clear ho0)))
  repeat (go_quiet (first | ((with_reducible refine gate_dst (N := 4) rfl ?_); (try (refine gate_guard (by rfl) ?_; dsimp only)); refine box_event ?hg (N := 4) ?hd (cs := #[.int .i64 0, .int .i64 0, .int .i64 0, .int .i64 0]) (t := 70) ?hr ?_; (case hd => rfl); (case hg => rfl); (case hr => first | (go_simp; done) | (go_simp; rfl)); intro gb274 hg w5 hbox hb; have n0_ := Aside0.mk (below_step (by repeat (first | (with_reducible first | exact HB.out | apply below_alloc | apply pw_below_drewN | apply below_drew1) | exact HB.out)) hb); have n1_ := Aside0.mk (hbox); have n2_ := Aside0.mk ((by rw [hg]; exact (below_size (by repeat (first | (with_reducible first | exact HB.out | apply below_alloc | apply pw_below_drewN | apply below_drew1) | exact HB.out))) : w.heap.size ≤ gb274)); have n3_ := Aside0.mk ((by rw [hg]; exact (below_size (by repeat (first | (with_reducible first | exact HB.out | apply below_alloc | apply pw_below_drewN | apply below_drew1) | exact HB.out))) : w.heap.size ≤ gb274)); clear HB; have HB := n0_; have BK274 := n1_; have GW274 := n2_; have GE274 := n3_; clear n0_ n1_ n2_ n3_; clear hb hbox hg) | (go_at_call 55; (with_reducible refine (switchboardref03_Apply.calls k _ _ l0 _ _ l1 t275 t276 _ ?side1 ?side2 ?side3 ?side4 A3.out).mono ?_); (case side1 => repeat (first | exact (Kd.C_below HR0.out HB.out) | (with_reducible refine Kd.C_alloc ?_ _) | (with_reducible refine Kd.C_drewN ?_ _) | (with_reducible refine Kd.C_drew ?_))); (case side2 => exact HC0.out); (case side3 => repeat (first | exact (Kd.C_below HR1.out HB.out) | (with_reducible refine Kd.C_alloc ?_ _) | (with_reducible refine Kd.C_drewN ?_ _) | (with_reducible refine Kd.C_drew ?_))); (case side4 => exact HC1.out); rintro e w6 ⟨v277, rfl, ho0, hb⟩; have n0_ := Aside0.mk (Kd.R_lower ho0 (below_size (by repeat (first | (with_reducible first | exact HB.out | apply below_alloc | apply pw_below_drewN | apply below_drew1 | refine below_set ?_ GE274.out) | exact HB.out)))); have n1_ := Aside0.mk (blk_below (g := gb274) (o := .cells #[.int .i64 0, .int .i64 0, .int .i64 0, .int .i64 0] 70 (0, 0)) (by (with_reducible repeat (first | refine blk_drewN ?_ _ | refine blk_drew ?_ | refine blk_alloc ?_ _)); exact BK274.out) hb); have n2_ := Aside0.mk (below_step (by repeat (first | (with_reducible first | exact HB.out | apply below_alloc | apply pw_below_drewN | apply below_drew1 | refine below_set ?_ GE274.out) | exact HB.out)) hb); clear BK274; clear HB; have HO278 := n0_; have BK274 := n1_; have HB := n2_; clear n0_ n1_ n2_; (try clear hb); (try clear hb2); (try clear hk); (try clear hi); (try clear ho0))); go_upto_region 2 with (first | ((with_reducible refine gate_dst (N := 4) rfl ?_); (try (refine gate_guard (by rfl) ?_; dsimp only)); refine box_event ?hg (N := 4) ?hd (cs := #[.int .i64 0, .int .i64 0, .int .i64 0, .int .i64 0]) (t := 70) ?hr ?_; (case hd => rfl); (case hg => rfl); (case hr => first | (go_simp; done) | (go_simp; rfl)); intro gb274 hg w5 hbox hb; have n0_ := Aside0.mk (below_step (by repeat (first | (with_reducible first | exact HB.out | apply below_alloc | apply pw_below_drewN | apply below_drew1) | exact HB.out)) hb); have n1_ := Aside0.mk (hbox); have n2_ := Aside0.mk ((by rw [hg]; exact (below_size (by repeat (first | (with_reducible first | exact HB.out | apply below_alloc | apply pw_below_drewN | apply below_drew1) | exact HB.out))) : w.heap.size ≤ gb274)); have n3_ := Aside0.mk ((by rw [hg]; exact (below_size (by repeat (first | (with_reducible first | exact HB.out | apply below_alloc | apply pw_below_drewN | apply below_drew1) | exact HB.out))) : w.heap.size ≤ gb274)); clear HB; have HB := n0_; have BK274 := n1_; have GW274 := n2_; have GE274 := n3_; clear n0_ n1_ n2_ n3_; clear hb hbox hg) | (go_at_call 55; (with_reducible refine (switchboardref03_Apply.calls k _ _ l0 _ _ l1 t275 t276 _ ?side1 ?side2 ?side3 ?side4 A3.out).mono ?_); (case side1 => repeat (first | exact (Kd.C_below HR0.out HB.out) | (with_reducible refine Kd.C_alloc ?_ _) | (with_reducible refine Kd.C_drewN ?_ _) | (with_reducible refine Kd.C_drew ?_))); (case side2 => exact HC0.out); (case side3 => repeat (first | exact (Kd.C_below HR1.out HB.out) | (with_reducible refine Kd.C_alloc ?_ _) | (with_reducible refine Kd.C_drewN ?_ _) | (with_reducible refine Kd.C_drew ?_))); (case side4 => exact HC1.out); rintro e w6 ⟨v277, rfl, ho0, hb⟩; have n0_ := Aside0.mk (Kd.R_lower ho0 (below_size (by repeat (first | (with_reducible first | exact HB.out | apply below_alloc | apply pw_below_drewN | apply below_drew1 | refine below_set ?_ GE274.out) | exact HB.out)))); have n1_ := Aside0.mk (blk_below (g := gb274) (o := .cells #[.int .i64 0, .int .i64 0, .int .i64 0, .int .i64 0] 70 (0, 0)) (by (with_reducible repeat (first | refine blk_drewN ?_ _ | refine blk_drew ?_ | refine blk_alloc ?_ _)); exact BK274.out) hb); have n2_ := Aside0.mk (below_step (by repeat (first | (with_reducible first | exact HB.out | apply below_alloc | apply pw_below_drewN | apply below_drew1 | refine below_set ?_ GE274.out) | exact HB.out)) hb); clear BK274; clear HB; have HO278 := n0_; have BK274 := n1_; have HB := n2_; clear n0_ n1_ n2_; (try clear hb); (try clear hb2); (try clear hk); (try clear hi); (try clear ho0))))
  (try simp only [Act.put, List.setIfInBounds_toArray, List.set_cons_zero, List.set_cons_succ])
  go_cut [23] (fun v23 wc => ∃ (kq : Nat) (x23_3 : Bool), v23 = .bool x23_3 ∧ Aside0 (switchboardref13_Choose.j0 kq t275 x23_3 = some (r1, r2, r3, r4, r5)) ∧ Aside0 (kq ≤ k) ∧ Aside0 (Kd.R (Kd.int .i64) 3 wc w.heap.size (fun _ => True) v277 t275) ∧ Aside0 (wc.heap[gb274]? = some (.cells #[.int .i64 0, .int .i64 0, .int .i64 0, .int .i64 0] 70 (0, 0))) ∧ Aside0 (Below w.heap.size w wc))
  case first =>
    have H := HC4.out
    clear HC4
    by_cases c7 : t276 = true
    · subst c7
      have H1 : (switchboardref13_Choose.j0 k t275 ((t275.length : Int) == 0)) = some (r1, r2, r3, r4, r5) := by rw [if_pos rfl] at H; exact H
      clear H
      have H := H1
      clear H1
      have H' := Aside0.mk H
      clear H
      obtain ⟨Ao8, co8, eo8⟩ := Kd.R_slice HO278.out
      subst eo8
      go_wp2
      repeat (go_quiet (fail); try go_wp2)
      go_meet
      case rel => exact ⟨_, (((t275.length : Int) == 0)), (by first | rfl | (simp; done) | (simp [*]; done)), H', ⟨by first | omega | exact Nat.le_refl _⟩, ⟨by (with_reducible repeat (first | apply Kd.R_alloc | apply Kd.R_drewN | apply Kd.R_drew)); exact HO278.out⟩, ⟨by (with_reducible repeat (first | refine blk_drewN ?_ _ | refine blk_drew ?_ | refine blk_alloc ?_ _)); exact BK274.out⟩, ⟨by repeat (first | (with_reducible first | exact HB.out | apply below_alloc | apply pw_below_drewN | apply below_drew1 | refine below_set ?_ GE274.out) | exact HB.out)⟩⟩
    · replace c7 := Bool.eq_false_iff.mpr c7
      subst c7
      have H1 : (switchboardref13_Choose.j0 k t275 true) = some (r1, r2, r3, r4, r5) := by rw [if_neg (show ¬ (false = true) by decide)] at H; exact H
      clear H
      have H := H1
      clear H1
      have H' := Aside0.mk H
      clear H
      go_wp2
      repeat (go_quiet (fail); try go_wp2)
      go_meet
      case rel => exact ⟨_, (true), (by first | rfl | (simp; done) | (simp [*]; done)), H', ⟨by first | omega | exact Nat.le_refl _⟩, ⟨by (with_reducible repeat (first | apply Kd.R_alloc | apply Kd.R_drewN | apply Kd.R_drew)); exact HO278.out⟩, ⟨by (with_reducible repeat (first | refine blk_drewN ?_ _ | refine blk_drew ?_ | refine blk_alloc ?_ _)); exact BK274.out⟩, ⟨by repeat (first | (with_reducible first | exact HB.out | apply below_alloc | apply pw_below_drewN | apply below_drew1 | refine below_set ?_ GE274.out) | exact HB.out)⟩⟩
  case rest =>
    clear HC4
    try clear c1
    try clear p2
    try clear c3
    try clear c7
    obtain ⟨kq, x23_3, rfl, HA, HJ3, HO_6, BK274, HB⟩ := hcut
    cases kq with
    | zero => exact absurd HA.out (by simp [switchboardref13_Choose.j0])
    | succ kj3 =>
      have H := HA.out
      clear HA
      simp only [switchboardref13_Choose.j0] at H
      by_cases c9 : x23_3 = true
      · subst c9
        have H1 : (some (0, 0, 0, 0, false)) = some (r1, r2, r3, r4, r5) := by rw [if_pos rfl] at H; exact H
        clear H
        have H := H1
        clear H1
        simp only [Option.some.injEq, Prod.mk.injEq] at H
        obtain ⟨rfl, rfl, rfl, rfl, rfl⟩ := H
        have hcz10_0 : wc.cell? ⟨gb274, 0, none⟩ = some (.int .i64 0) := (blk_cell BK274.out 0).trans rfl
        have hcz10_1 : wc.cell? ⟨gb274, 1, none⟩ = some (.int .i64 0) := (blk_cell BK274.out 1).trans rfl
        have hcz10_2 : wc.cell? ⟨gb274, 2, none⟩ = some (.int .i64 0) := (blk_cell BK274.out 2).trans rfl
        have hcz10_3 : wc.cell? ⟨gb274, 3, none⟩ = some (.int .i64 0) := (blk_cell BK274.out 3).trans rfl
        have hfz10_0 := blk_frozen BK274.out 0
        have hfz10_1 := blk_frozen BK274.out 1
        have hfz10_2 := blk_frozen BK274.out 2
        have hfz10_3 := blk_frozen BK274.out 3
        go_wp2
        repeat (go_quiet (fail); try go_wp2)
        refine bodyPost_ret (results_ct rfl _ _ gb274 70 #[.int .i64 0, .int .i64 0, .int .i64 0, .int .i64 0] (0, 0) _ rfl (by (with_reducible repeat (first | refine blk_drewN ?_ _ | refine blk_drew ?_ | refine blk_alloc ?_ _)); refine blk_put (cs := #[.int .i64 0, .int .i64 0, .int .i64 0, .int .i64 0]) ?_ 3 _ rfl; (with_reducible repeat (first | refine blk_drewN ?_ _ | refine blk_drew ?_ | refine blk_alloc ?_ _)); refine blk_put (cs := #[.int .i64 0, .int .i64 0, .int .i64 0, .int .i64 0]) ?_ 2 _ rfl; (with_reducible repeat (first | refine blk_drewN ?_ _ | refine blk_drew ?_ | refine blk_alloc ?_ _)); refine blk_put (cs := #[.int .i64 0, .int .i64 0, .int .i64 0, .int .i64 0]) ?_ 1 _ rfl; (with_reducible repeat (first | refine blk_drewN ?_ _ | refine blk_drew ?_ | refine blk_alloc ?_ _)); refine blk_put (cs := #[.int .i64 0, .int .i64 0, .int .i64 0, .int .i64 0]) ?_ 0 _ rfl; (with_reducible repeat (first | refine blk_drewN ?_ _ | refine blk_drew ?_ | refine blk_alloc ?_ _)); exact BK274.out) Try.underlying70 rfl (by kernel_rfl)) rfl ?_
        exact ⟨by first | rfl | (simp [errW_none, errW_some] <;> rfl) | (simp [*, errW_none, errW_some] <;> rfl), by repeat (first | (with_reducible first | exact HB.out | apply below_alloc | apply pw_below_drewN | apply below_drew1 | refine below_set ?_ GE274.out) | exact HB.out)⟩
      · replace c9 := Bool.eq_false_iff.mpr c9
        subst c9
        have H1 : ((switchboardref04_Of.f kj3 t275 0).bind fun t279 => ((switchboardref04_Of.f kj3 t275 1).bind fun t280 => (if t280 ≥ 0 then (if 0 ≤ t279 then (if t279 < (t275.length : Int) then (if 0 ≤ t280 then (if t280 < (t275.length : Int) then ((switchboardref05_Share.f kj3 (rd t275 t279) (rd t275 t280)).bind fun t283 => (some (t279, t280, t283, wrap64 (65536 - t283), true))) else (none)) else (none)) else (none)) else (none)) else (some (t279, t280, 65536, 65536 - 65536, true))))) = some (r1, r2, r3, r4, r5) := by rw [if_neg (show ¬ (false = true) by decide)] at H; exact H
        clear H
        have H := H1
        clear H1
        replace H := Option.bind_eq_some_iff.mp H
        obtain ⟨t279, A110, H⟩ := H
        replace H : ((switchboardref04_Of.f kj3 t275 1).bind fun t280 => (if t280 ≥ 0 then (if 0 ≤ t279 then (if t279 < (t275.length : Int) then (if 0 ≤ t280 then (if t280 < (t275.length : Int) then ((switchboardref05_Share.f kj3 (rd t275 t279) (rd t275 t280)).bind fun t283 => (some (t279, t280, t283, wrap64 (65536 - t283), true))) else (none)) else (none)) else (none)) else (none)) else (some (t279, t280, 65536, 65536 - 65536, true)))) = some (r1, r2, r3, r4, r5) := H
        have A11 := Aside0.mk A110
        clear A110
        replace H := Option.bind_eq_some_iff.mp H
        obtain ⟨t280, A120, H⟩ := H
        replace H : (if t280 ≥ 0 then (if 0 ≤ t279 then (if t279 < (t275.length : Int) then (if 0 ≤ t280 then (if t280 < (t275.length : Int) then ((switchboardref05_Share.f kj3 (rd t275 t279) (rd t275 t280)).bind fun t283 => (some (t279, t280, t283, wrap64 (65536 - t283), true))) else (none)) else (none)) else (none)) else (none)) else (some (t279, t280, 65536, 65536 - 65536, true))) = some (r1, r2, r3, r4, r5) := H
        have A12 := Aside0.mk A120
        clear A120
        by_cases c13 : t280 ≥ 0
        · rw [if_pos c13] at H
          have c13b0 : decide (0 ≤ t280) = true := decide_eq_true c13
          clear c13
          by_cases c14 : 0 ≤ t279
          · rw [if_pos c14] at H
            have c14b0 : decide (0 ≤ t279) = true := decide_eq_true c14
            clear c14
            by_cases c15 : t279 < (t275.length : Int)
            · rw [if_pos c15] at H
              have c15b0 : decide (t279 < (t275.length : Int)) = true := decide_eq_true c15
              clear c15
              by_cases c16 : 0 ≤ t280
              · rw [if_pos c16] at H
                have c16b0 : decide (0 ≤ t280) = true := decide_eq_true c16
                clear c16
                by_cases c17 : t280 < (t275.length : Int)
                · rw [if_pos c17] at H
                  have c17b0 : decide (t280 < (t275.length : Int)) = true := decide_eq_true c17
                  clear c17
                  replace H := Option.bind_eq_some_iff.mp H
                  obtain ⟨t283, A180, H⟩ := H
                  replace H : (some (t279, t280, t283, wrap64 (65536 - t283), true)) = some (r1, r2, r3, r4, r5) := H
                  have A18 := Aside0.mk A180
                  clear A180
                  simp only [Option.some.injEq, Prod.mk.injEq] at H
                  obtain ⟨rfl, rfl, rfl, rfl, rfl⟩ := H
                  obtain ⟨Ao19, co19, eo19⟩ := Kd.R_slice HO_6.out
                  subst eo19
                  go_wp2_with (first | (go_at_call 56; (with_reducible refine (switchboardref04_Of.calls kj3 _ _ t275 0 t279 _ ?side1 ?side2 A11.out).mono ?_); (case side1 => repeat (first | exact (Kd.R_reads' HO_6.out).2.2 | (with_reducible refine Kd.C_alloc ?_ _) | (with_reducible refine Kd.C_drewN ?_ _) | (with_reducible refine Kd.C_drew ?_))); (case side2 => exact (Kd.R_reads' HO_6.out).2.1); rintro e w' ⟨rfl, ⟨nd, rfl⟩⟩; (try first | exact ⟨rfl, _, World.drewN_drewN _ _ _⟩ | exact ⟨rfl, _, Eq.trans (World.drewN_drewN _ _ _) (congrArg (World.drewN _) (Nat.add_assoc _ _ _))⟩)) | (go_at_call 56; (with_reducible refine (switchboardref04_Of.calls kj3 _ _ t275 1 t280 _ ?side1 ?side2 A12.out).mono ?_); (case side1 => repeat (first | exact (Kd.R_reads' HO_6.out).2.2 | (with_reducible refine Kd.C_alloc ?_ _) | (with_reducible refine Kd.C_drewN ?_ _) | (with_reducible refine Kd.C_drew ?_))); (case side2 => exact (Kd.R_reads' HO_6.out).2.1); rintro e w' ⟨rfl, ⟨nd, rfl⟩⟩; (try first | exact ⟨rfl, _, World.drewN_drewN _ _ _⟩ | exact ⟨rfl, _, Eq.trans (World.drewN_drewN _ _ _) (congrArg (World.drewN _) (Nat.add_assoc _ _ _))⟩); have p281 : 0 ≤ (t279 : Int) := of_decide_eq_true (by first | (with_reducible assumption) | assumption); have q281 : t279 < (t275.length : Int) := of_decide_eq_true (by first | (with_reducible assumption) | assumption); obtain ⟨ad281, e281, hx281_0⟩ := Kd.at_int (Kd.R_reads' HO_6.out).2.2 t279 p281 q281; cases e281; replace p281 := eq_true p281; replace q281 := eq_true q281; have p282 : 0 ≤ (t280 : Int) := of_decide_eq_true (by first | (with_reducible assumption) | assumption); have q282 : t280 < (t275.length : Int) := of_decide_eq_true (by first | (with_reducible assumption) | assumption); obtain ⟨ad282, e282, hx282_0⟩ := Kd.at_int (Kd.R_reads' HO_6.out).2.2 t280 p282 q282; obtain rfl : ad281 = ad282 := (by injection e282); replace p282 := eq_true p282; replace q282 := eq_true q282) | (go_at_call 57; (with_reducible refine (switchboardref05_Share.calls kj3 (rd t275 t279) (rd t275 t280) t283 _ A18.out).mono ?_); rintro e w' ⟨rfl, ⟨nd, rfl⟩⟩; (try first | exact ⟨rfl, _, World.drewN_drewN _ _ _⟩ | exact ⟨rfl, _, Eq.trans (World.drewN_drewN _ _ _) (congrArg (World.drewN _) (Nat.add_assoc _ _ _))⟩); have hcz20_0 : wc.cell? ⟨gb274, 0, none⟩ = some (.int .i64 0) := (blk_cell BK274.out 0).trans rfl; have hcz20_1 : wc.cell? ⟨gb274, 1, none⟩ = some (.int .i64 0) := (blk_cell BK274.out 1).trans rfl; have hcz20_2 : wc.cell? ⟨gb274, 2, none⟩ = some (.int .i64 0) := (blk_cell BK274.out 2).trans rfl; have hcz20_3 : wc.cell? ⟨gb274, 3, none⟩ = some (.int .i64 0) := (blk_cell BK274.out 3).trans rfl; have hfz20_0 := blk_frozen BK274.out 0; have hfz20_1 := blk_frozen BK274.out 1; have hfz20_2 := blk_frozen BK274.out 2; have hfz20_3 := blk_frozen BK274.out 3))
                  repeat (go_quiet (first | (go_at_call 56; (with_reducible refine (switchboardref04_Of.calls kj3 _ _ t275 0 t279 _ ?side1 ?side2 A11.out).mono ?_); (case side1 => repeat (first | exact (Kd.R_reads' HO_6.out).2.2 | (with_reducible refine Kd.C_alloc ?_ _) | (with_reducible refine Kd.C_drewN ?_ _) | (with_reducible refine Kd.C_drew ?_))); (case side2 => exact (Kd.R_reads' HO_6.out).2.1); rintro e w' ⟨rfl, ⟨nd, rfl⟩⟩; (try first | exact ⟨rfl, _, World.drewN_drewN _ _ _⟩ | exact ⟨rfl, _, Eq.trans (World.drewN_drewN _ _ _) (congrArg (World.drewN _) (Nat.add_assoc _ _ _))⟩)) | (go_at_call 56; (with_reducible refine (switchboardref04_Of.calls kj3 _ _ t275 1 t280 _ ?side1 ?side2 A12.out).mono ?_); (case side1 => repeat (first | exact (Kd.R_reads' HO_6.out).2.2 | (with_reducible refine Kd.C_alloc ?_ _) | (with_reducible refine Kd.C_drewN ?_ _) | (with_reducible refine Kd.C_drew ?_))); (case side2 => exact (Kd.R_reads' HO_6.out).2.1); rintro e w' ⟨rfl, ⟨nd, rfl⟩⟩; (try first | exact ⟨rfl, _, World.drewN_drewN _ _ _⟩ | exact ⟨rfl, _, Eq.trans (World.drewN_drewN _ _ _) (congrArg (World.drewN _) (Nat.add_assoc _ _ _))⟩); have p281 : 0 ≤ (t279 : Int) := of_decide_eq_true (by first | (with_reducible assumption) | assumption); have q281 : t279 < (t275.length : Int) := of_decide_eq_true (by first | (with_reducible assumption) | assumption); obtain ⟨ad281, e281, hx281_0⟩ := Kd.at_int (Kd.R_reads' HO_6.out).2.2 t279 p281 q281; cases e281; replace p281 := eq_true p281; replace q281 := eq_true q281; have p282 : 0 ≤ (t280 : Int) := of_decide_eq_true (by first | (with_reducible assumption) | assumption); have q282 : t280 < (t275.length : Int) := of_decide_eq_true (by first | (with_reducible assumption) | assumption); obtain ⟨ad282, e282, hx282_0⟩ := Kd.at_int (Kd.R_reads' HO_6.out).2.2 t280 p282 q282; obtain rfl : ad281 = ad282 := (by injection e282); replace p282 := eq_true p282; replace q282 := eq_true q282) | (go_at_call 57; (with_reducible refine (switchboardref05_Share.calls kj3 (rd t275 t279) (rd t275 t280) t283 _ A18.out).mono ?_); rintro e w' ⟨rfl, ⟨nd, rfl⟩⟩; (try first | exact ⟨rfl, _, World.drewN_drewN _ _ _⟩ | exact ⟨rfl, _, Eq.trans (World.drewN_drewN _ _ _) (congrArg (World.drewN _) (Nat.add_assoc _ _ _))⟩); have hcz20_0 : wc.cell? ⟨gb274, 0, none⟩ = some (.int .i64 0) := (blk_cell BK274.out 0).trans rfl; have hcz20_1 : wc.cell? ⟨gb274, 1, none⟩ = some (.int .i64 0) := (blk_cell BK274.out 1).trans rfl; have hcz20_2 : wc.cell? ⟨gb274, 2, none⟩ = some (.int .i64 0) := (blk_cell BK274.out 2).trans rfl; have hcz20_3 : wc.cell? ⟨gb274, 3, none⟩ = some (.int .i64 0) := (blk_cell BK274.out 3).trans rfl; have hfz20_0 := blk_frozen BK274.out 0; have hfz20_1 := blk_frozen BK274.out 1; have hfz20_2 := blk_frozen BK274.out 2; have hfz20_3 := blk_frozen BK274.out 3)); try go_wp2_with (first | (go_at_call 56; (with_reducible refine (switchboardref04_Of.calls kj3 _ _ t275 0 t279 _ ?side1 ?side2 A11.out).mono ?_); (case side1 => repeat (first | exact (Kd.R_reads' HO_6.out).2.2 | (with_reducible refine Kd.C_alloc ?_ _) | (with_reducible refine Kd.C_drewN ?_ _) | (with_reducible refine Kd.C_drew ?_))); (case side2 => exact (Kd.R_reads' HO_6.out).2.1); rintro e w' ⟨rfl, ⟨nd, rfl⟩⟩; (try first | exact ⟨rfl, _, World.drewN_drewN _ _ _⟩ | exact ⟨rfl, _, Eq.trans (World.drewN_drewN _ _ _) (congrArg (World.drewN _) (Nat.add_assoc _ _ _))⟩)) | (go_at_call 56; (with_reducible refine (switchboardref04_Of.calls kj3 _ _ t275 1 t280 _ ?side1 ?side2 A12.out).mono ?_); (case side1 => repeat (first | exact (Kd.R_reads' HO_6.out).2.2 | (with_reducible refine Kd.C_alloc ?_ _) | (with_reducible refine Kd.C_drewN ?_ _) | (with_reducible refine Kd.C_drew ?_))); (case side2 => exact (Kd.R_reads' HO_6.out).2.1); rintro e w' ⟨rfl, ⟨nd, rfl⟩⟩; (try first | exact ⟨rfl, _, World.drewN_drewN _ _ _⟩ | exact ⟨rfl, _, Eq.trans (World.drewN_drewN _ _ _) (congrArg (World.drewN _) (Nat.add_assoc _ _ _))⟩); have p281 : 0 ≤ (t279 : Int) := of_decide_eq_true (by first | (with_reducible assumption) | assumption); have q281 : t279 < (t275.length : Int) := of_decide_eq_true (by first | (with_reducible assumption) | assumption); obtain ⟨ad281, e281, hx281_0⟩ := Kd.at_int (Kd.R_reads' HO_6.out).2.2 t279 p281 q281; cases e281; replace p281 := eq_true p281; replace q281 := eq_true q281; have p282 : 0 ≤ (t280 : Int) := of_decide_eq_true (by first | (with_reducible assumption) | assumption); have q282 : t280 < (t275.length : Int) := of_decide_eq_true (by first | (with_reducible assumption) | assumption); obtain ⟨ad282, e282, hx282_0⟩ := Kd.at_int (Kd.R_reads' HO_6.out).2.2 t280 p282 q282; obtain rfl : ad281 = ad282 := (by injection e282); replace p282 := eq_true p282; replace q282 := eq_true q282) | (go_at_call 57; (with_reducible refine (switchboardref05_Share.calls kj3 (rd t275 t279) (rd t275 t280) t283 _ A18.out).mono ?_); rintro e w' ⟨rfl, ⟨nd, rfl⟩⟩; (try first | exact ⟨rfl, _, World.drewN_drewN _ _ _⟩ | exact ⟨rfl, _, Eq.trans (World.drewN_drewN _ _ _) (congrArg (World.drewN _) (Nat.add_assoc _ _ _))⟩); have hcz20_0 : wc.cell? ⟨gb274, 0, none⟩ = some (.int .i64 0) := (blk_cell BK274.out 0).trans rfl; have hcz20_1 : wc.cell? ⟨gb274, 1, none⟩ = some (.int .i64 0) := (blk_cell BK274.out 1).trans rfl; have hcz20_2 : wc.cell? ⟨gb274, 2, none⟩ = some (.int .i64 0) := (blk_cell BK274.out 2).trans rfl; have hcz20_3 : wc.cell? ⟨gb274, 3, none⟩ = some (.int .i64 0) := (blk_cell BK274.out 3).trans rfl; have hfz20_0 := blk_frozen BK274.out 0; have hfz20_1 := blk_frozen BK274.out 1; have hfz20_2 := blk_frozen BK274.out 2; have hfz20_3 := blk_frozen BK274.out 3)))
                  refine bodyPost_ret (results_ct rfl _ _ gb274 70 #[.int .i64 t279, .int .i64 t280, .int .i64 t283, .int .i64 (wrap64 (65536 - t283))] (0, 0) _ rfl (by (with_reducible repeat (first | refine blk_drewN ?_ _ | refine blk_drew ?_ | refine blk_alloc ?_ _)); refine blk_put (cs := #[.int .i64 t279, .int .i64 t280, .int .i64 t283, .int .i64 0]) ?_ 3 _ rfl; (with_reducible repeat (first | refine blk_drewN ?_ _ | refine blk_drew ?_ | refine blk_alloc ?_ _)); refine blk_put (cs := #[.int .i64 t279, .int .i64 t280, .int .i64 0, .int .i64 0]) ?_ 2 _ rfl; (with_reducible repeat (first | refine blk_drewN ?_ _ | refine blk_drew ?_ | refine blk_alloc ?_ _)); refine blk_put (cs := #[.int .i64 t279, .int .i64 0, .int .i64 0, .int .i64 0]) ?_ 1 _ rfl; (with_reducible repeat (first | refine blk_drewN ?_ _ | refine blk_drew ?_ | refine blk_alloc ?_ _)); refine blk_put (cs := #[.int .i64 0, .int .i64 0, .int .i64 0, .int .i64 0]) ?_ 0 _ rfl; (with_reducible repeat (first | refine blk_drewN ?_ _ | refine blk_drew ?_ | refine blk_alloc ?_ _)); exact BK274.out) Try.underlying70 rfl (by kernel_rfl)) rfl ?_
                  exact ⟨by first | rfl | (simp [errW_none, errW_some] <;> rfl) | (simp [*, errW_none, errW_some] <;> rfl), by repeat (first | (with_reducible first | exact HB.out | apply below_alloc | apply pw_below_drewN | apply below_drew1 | refine below_set ?_ GE274.out) | exact HB.out)⟩
                · rw [if_neg c17] at H
                  exact absurd H (by simp)
              · rw [if_neg c16] at H
                exact absurd H (by simp)
            · rw [if_neg c15] at H
              exact absurd H (by simp)
          · rw [if_neg c14] at H
            exact absurd H (by simp)
        · rw [if_neg c13] at H
          have c13b0 : decide (0 ≤ t280) = false := decide_eq_false c13
          clear c13
          simp only [Option.some.injEq, Prod.mk.injEq] at H
          obtain ⟨rfl, rfl, rfl, rfl, rfl⟩ := H
          obtain ⟨Ao21, co21, eo21⟩ := Kd.R_slice HO_6.out
          subst eo21
          go_wp2_with (first | (go_at_call 56; (with_reducible refine (switchboardref04_Of.calls kj3 _ _ t275 0 t279 _ ?side1 ?side2 A11.out).mono ?_); (case side1 => repeat (first | exact (Kd.R_reads' HO_6.out).2.2 | (with_reducible refine Kd.C_alloc ?_ _) | (with_reducible refine Kd.C_drewN ?_ _) | (with_reducible refine Kd.C_drew ?_))); (case side2 => exact (Kd.R_reads' HO_6.out).2.1); rintro e w' ⟨rfl, ⟨nd, rfl⟩⟩; (try first | exact ⟨rfl, _, World.drewN_drewN _ _ _⟩ | exact ⟨rfl, _, Eq.trans (World.drewN_drewN _ _ _) (congrArg (World.drewN _) (Nat.add_assoc _ _ _))⟩)) | (go_at_call 56; (with_reducible refine (switchboardref04_Of.calls kj3 _ _ t275 1 t280 _ ?side1 ?side2 A12.out).mono ?_); (case side1 => repeat (first | exact (Kd.R_reads' HO_6.out).2.2 | (with_reducible refine Kd.C_alloc ?_ _) | (with_reducible refine Kd.C_drewN ?_ _) | (with_reducible refine Kd.C_drew ?_))); (case side2 => exact (Kd.R_reads' HO_6.out).2.1); rintro e w' ⟨rfl, ⟨nd, rfl⟩⟩; (try first | exact ⟨rfl, _, World.drewN_drewN _ _ _⟩ | exact ⟨rfl, _, Eq.trans (World.drewN_drewN _ _ _) (congrArg (World.drewN _) (Nat.add_assoc _ _ _))⟩); have hcz22_0 : wc.cell? ⟨gb274, 0, none⟩ = some (.int .i64 0) := (blk_cell BK274.out 0).trans rfl; have hcz22_1 : wc.cell? ⟨gb274, 1, none⟩ = some (.int .i64 0) := (blk_cell BK274.out 1).trans rfl; have hcz22_2 : wc.cell? ⟨gb274, 2, none⟩ = some (.int .i64 0) := (blk_cell BK274.out 2).trans rfl; have hcz22_3 : wc.cell? ⟨gb274, 3, none⟩ = some (.int .i64 0) := (blk_cell BK274.out 3).trans rfl; have hfz22_0 := blk_frozen BK274.out 0; have hfz22_1 := blk_frozen BK274.out 1; have hfz22_2 := blk_frozen BK274.out 2; have hfz22_3 := blk_frozen BK274.out 3))
          repeat (go_quiet (first | (go_at_call 56; (with_reducible refine (switchboardref04_Of.calls kj3 _ _ t275 0 t279 _ ?side1 ?side2 A11.out).mono ?_); (case side1 => repeat (first | exact (Kd.R_reads' HO_6.out).2.2 | (with_reducible refine Kd.C_alloc ?_ _) | (with_reducible refine Kd.C_drewN ?_ _) | (with_reducible refine Kd.C_drew ?_))); (case side2 => exact (Kd.R_reads' HO_6.out).2.1); rintro e w' ⟨rfl, ⟨nd, rfl⟩⟩; (try first | exact ⟨rfl, _, World.drewN_drewN _ _ _⟩ | exact ⟨rfl, _, Eq.trans (World.drewN_drewN _ _ _) (congrArg (World.drewN _) (Nat.add_assoc _ _ _))⟩)) | (go_at_call 56; (with_reducible refine (switchboardref04_Of.calls kj3 _ _ t275 1 t280 _ ?side1 ?side2 A12.out).mono ?_); (case side1 => repeat (first | exact (Kd.R_reads' HO_6.out).2.2 | (with_reducible refine Kd.C_alloc ?_ _) | (with_reducible refine Kd.C_drewN ?_ _) | (with_reducible refine Kd.C_drew ?_))); (case side2 => exact (Kd.R_reads' HO_6.out).2.1); rintro e w' ⟨rfl, ⟨nd, rfl⟩⟩; (try first | exact ⟨rfl, _, World.drewN_drewN _ _ _⟩ | exact ⟨rfl, _, Eq.trans (World.drewN_drewN _ _ _) (congrArg (World.drewN _) (Nat.add_assoc _ _ _))⟩); have hcz22_0 : wc.cell? ⟨gb274, 0, none⟩ = some (.int .i64 0) := (blk_cell BK274.out 0).trans rfl; have hcz22_1 : wc.cell? ⟨gb274, 1, none⟩ = some (.int .i64 0) := (blk_cell BK274.out 1).trans rfl; have hcz22_2 : wc.cell? ⟨gb274, 2, none⟩ = some (.int .i64 0) := (blk_cell BK274.out 2).trans rfl; have hcz22_3 : wc.cell? ⟨gb274, 3, none⟩ = some (.int .i64 0) := (blk_cell BK274.out 3).trans rfl; have hfz22_0 := blk_frozen BK274.out 0; have hfz22_1 := blk_frozen BK274.out 1; have hfz22_2 := blk_frozen BK274.out 2; have hfz22_3 := blk_frozen BK274.out 3)); try go_wp2_with (first | (go_at_call 56; (with_reducible refine (switchboardref04_Of.calls kj3 _ _ t275 0 t279 _ ?side1 ?side2 A11.out).mono ?_); (case side1 => repeat (first | exact (Kd.R_reads' HO_6.out).2.2 | (with_reducible refine Kd.C_alloc ?_ _) | (with_reducible refine Kd.C_drewN ?_ _) | (with_reducible refine Kd.C_drew ?_))); (case side2 => exact (Kd.R_reads' HO_6.out).2.1); rintro e w' ⟨rfl, ⟨nd, rfl⟩⟩; (try first | exact ⟨rfl, _, World.drewN_drewN _ _ _⟩ | exact ⟨rfl, _, Eq.trans (World.drewN_drewN _ _ _) (congrArg (World.drewN _) (Nat.add_assoc _ _ _))⟩)) | (go_at_call 56; (with_reducible refine (switchboardref04_Of.calls kj3 _ _ t275 1 t280 _ ?side1 ?side2 A12.out).mono ?_); (case side1 => repeat (first | exact (Kd.R_reads' HO_6.out).2.2 | (with_reducible refine Kd.C_alloc ?_ _) | (with_reducible refine Kd.C_drewN ?_ _) | (with_reducible refine Kd.C_drew ?_))); (case side2 => exact (Kd.R_reads' HO_6.out).2.1); rintro e w' ⟨rfl, ⟨nd, rfl⟩⟩; (try first | exact ⟨rfl, _, World.drewN_drewN _ _ _⟩ | exact ⟨rfl, _, Eq.trans (World.drewN_drewN _ _ _) (congrArg (World.drewN _) (Nat.add_assoc _ _ _))⟩); have hcz22_0 : wc.cell? ⟨gb274, 0, none⟩ = some (.int .i64 0) := (blk_cell BK274.out 0).trans rfl; have hcz22_1 : wc.cell? ⟨gb274, 1, none⟩ = some (.int .i64 0) := (blk_cell BK274.out 1).trans rfl; have hcz22_2 : wc.cell? ⟨gb274, 2, none⟩ = some (.int .i64 0) := (blk_cell BK274.out 2).trans rfl; have hcz22_3 : wc.cell? ⟨gb274, 3, none⟩ = some (.int .i64 0) := (blk_cell BK274.out 3).trans rfl; have hfz22_0 := blk_frozen BK274.out 0; have hfz22_1 := blk_frozen BK274.out 1; have hfz22_2 := blk_frozen BK274.out 2; have hfz22_3 := blk_frozen BK274.out 3)))
          refine bodyPost_ret (results_ct rfl _ _ gb274 70 #[.int .i64 t279, .int .i64 t280, .int .i64 65536, .int .i64 (65536 - 65536)] (0, 0) _ rfl (by (with_reducible repeat (first | refine blk_drewN ?_ _ | refine blk_drew ?_ | refine blk_alloc ?_ _)); refine blk_put (cs := #[.int .i64 t279, .int .i64 t280, .int .i64 65536, .int .i64 0]) ?_ 3 _ rfl; (with_reducible repeat (first | refine blk_drewN ?_ _ | refine blk_drew ?_ | refine blk_alloc ?_ _)); refine blk_put (cs := #[.int .i64 t279, .int .i64 t280, .int .i64 0, .int .i64 0]) ?_ 2 _ rfl; (with_reducible repeat (first | refine blk_drewN ?_ _ | refine blk_drew ?_ | refine blk_alloc ?_ _)); refine blk_put (cs := #[.int .i64 t279, .int .i64 0, .int .i64 0, .int .i64 0]) ?_ 1 _ rfl; (with_reducible repeat (first | refine blk_drewN ?_ _ | refine blk_drew ?_ | refine blk_alloc ?_ _)); refine blk_put (cs := #[.int .i64 0, .int .i64 0, .int .i64 0, .int .i64 0]) ?_ 0 _ rfl; (with_reducible repeat (first | refine blk_drewN ?_ _ | refine blk_drew ?_ | refine blk_alloc ?_ _)); exact BK274.out) Try.underlying70 rfl (by kernel_rfl)) rfl ?_
          exact ⟨by first | rfl | (simp [errW_none, errW_some] <;> rfl) | (simp [*, errW_none, errW_some] <;> rfl), by repeat (first | (with_reducible first | exact HB.out | apply below_alloc | apply pw_below_drewN | apply below_drew1 | refine below_set ?_ GE274.out) | exact HB.out)⟩

/-! ### switchboardref14_ahead: function 58 -/
mutual
def switchboardref14_ahead.l0 : Nat → List (S68) → Int → Int → Int → Int → Int → Option (Int)
  | 0, _, _, _, _, _, _ => none
  | k + 1, x0, x1, x2, x3, x9, x10 => if x10 ≤ x1 then (switchboardref14_ahead.l1 k x0 x1 x2 x3 x9 x10 0) else (some x9)
def switchboardref14_ahead.l1 : Nat → List (S68) → Int → Int → Int → Int → Int → Int → Option (Int)
  | 0, _, _, _, _, _, _, _ => none
  | k + 1, x0, x1, x2, x3, x9, x10, x11 => if x11 < 2 then (if 0 ≤ x10 then (if x10 < (x0.length : Int) then (if 0 ≤ x11 then (if (pick2 ((rd_T68 x0 x10).f0) ((rd_T68 x0 x10).f1) x11) = x3 then (if x10 < x1 then (switchboardref14_ahead.l1 k x0 x1 x2 x3 (wrap64 (x9 + 1)) x10 (wrap64 (x11 + 1))) else (if x11 < x2 then (switchboardref14_ahead.l1 k x0 x1 x2 x3 (wrap64 (x9 + 1)) x10 (wrap64 (x11 + 1))) else (switchboardref14_ahead.l1 k x0 x1 x2 x3 x9 x10 (wrap64 (x11 + 1))))) else (switchboardref14_ahead.l1 k x0 x1 x2 x3 x9 x10 (wrap64 (x11 + 1)))) else (none)) else (none)) else (none)) else (switchboardref14_ahead.l0 k x0 x1 x2 x3 x9 (wrap64 (x10 + 1)))
end
def switchboardref14_ahead.f (k : Nat) (l0 : List (S68)) (a1 : Int) (a2 : Int) (a3 : Int) : Option (Int) := switchboardref14_ahead.l0 k l0 a1 a2 a3 0 0
theorem switchboardref14_ahead.mono_l : ∀ k, (∀ y0 y1 y2 y3 y4 y5, LeO (switchboardref14_ahead.l0 k y0 y1 y2 y3 y4 y5) (switchboardref14_ahead.l0 (k + 1) y0 y1 y2 y3 y4 y5)) ∧ (∀ y0 y1 y2 y3 y4 y5 y6, LeO (switchboardref14_ahead.l1 k y0 y1 y2 y3 y4 y5 y6) (switchboardref14_ahead.l1 (k + 1) y0 y1 y2 y3 y4 y5 y6))
  | 0 => ⟨fun _ _ _ _ _ _ r h => by simp [switchboardref14_ahead.l0] at h, fun _ _ _ _ _ _ _ r h => by simp [switchboardref14_ahead.l1] at h⟩
  | k + 1 => by
    obtain ⟨ih0, ih1⟩ := switchboardref14_ahead.mono_l k
    refine ⟨?_, ?_⟩
    · intro y0 y1 y2 y3 y4 y5
      unfold switchboardref14_ahead.l0
      repeat' first
      | (with_reducible exact ih0 _ _ _ _ _ _)
      | (with_reducible exact ih1 _ _ _ _ _ _ _)
      | (with_reducible exact LeO.refl _)
      | (with_reducible exact LeO.none _)
      | (with_reducible refine LeO.ite ?_ ?_)
      | (with_reducible refine LeO.bind ?_ (fun _ => ?_))
      | exact ih0 _ _ _ _ _ _
      | exact ih1 _ _ _ _ _ _ _
      | exact LeO.none _
      | refine LeO.ite ?_ ?_
      | refine LeO.bind ?_ (fun _ => ?_)
    · intro y0 y1 y2 y3 y4 y5 y6
      unfold switchboardref14_ahead.l1
      repeat' first
      | (with_reducible exact ih0 _ _ _ _ _ _)
      | (with_reducible exact ih1 _ _ _ _ _ _ _)
      | (with_reducible exact LeO.refl _)
      | (with_reducible exact LeO.none _)
      | (with_reducible refine LeO.ite ?_ ?_)
      | (with_reducible refine LeO.bind ?_ (fun _ => ?_))
      | exact ih0 _ _ _ _ _ _
      | exact ih1 _ _ _ _ _ _ _
      | exact LeO.none _
      | refine LeO.ite ?_ ?_
      | refine LeO.bind ?_ (fun _ => ?_)
theorem switchboardref14_ahead.mono : ∀ a0 a1 a2 a3 k, LeO (switchboardref14_ahead.f k a0 a1 a2 a3) (switchboardref14_ahead.f (k + 1) a0 a1 a2 a3) := by
  intro a0 a1 a2 a3 k
  obtain ⟨ih0, ih1⟩ := switchboardref14_ahead.mono_l k
  unfold switchboardref14_ahead.f
  repeat' first
      | (with_reducible exact ih0 _ _ _ _ _ _)
      | (with_reducible exact ih1 _ _ _ _ _ _ _)
      | (with_reducible exact LeO.refl _)
      | (with_reducible exact LeO.none _)
      | (with_reducible refine LeO.ite ?_ ?_)
      | (with_reducible refine LeO.bind ?_ (fun _ => ?_))
      | exact ih0 _ _ _ _ _ _
      | exact ih1 _ _ _ _ _ _ _
      | exact LeO.none _
      | refine LeO.ite ?_ ?_
      | refine LeO.bind ?_ (fun _ => ?_)
set_option maxHeartbeats 8000000 in
set_option maxRecDepth 100000 in
theorem switchboardref14_ahead.calls (k : Nat) (A0 : Option Addr) (c0 : Nat) (l0 : List (S68)) (a1 : Int) (a2 : Int) (a3 : Int) (r : Int) (w : World) (hr0 : Kd.C k68 w A0 l0.length l0) (hc0 : l0.length ≤ c0) (h : switchboardref14_ahead.f k l0 a1 a2 a3 = some r) :
    Calls Try.prog 58 #[.slice A0 l0.length c0, .int .i64 a1, .int .i64 a2, .int .i64 a3] w fun e w' => e = .returned (.int .i64 r) ∧ Drawn0 w w' := by
  have HR0 := Aside0.mk hr0
  have HC0 := Aside0.mk hc0
  clear hr0 hc0
  have H : (switchboardref14_ahead.l0 k l0 a1 a2 a3 0 0) = some r := h
  clear h
  have H' := Aside0.mk H
  clear H
  go_enter Try.func58, Try.ntmps58
  go_wp2
  go_loopg [9, 10] k (fun kq v9 v10 w' => ∃ (x9_1 : Int) (x10_1 : Int), v9 = .int .i64 x9_1 ∧ v10 = .int .i64 x10_1 ∧ Aside0 (switchboardref14_ahead.l0 kq l0 a1 a2 a3 x9_1 x10_1 = some r) ∧ Aside0 (kq ≤ k) ∧ Drawn0 w w')
  case atStart => exact ⟨(0), (0), (by first | rfl | (simp; done) | (simp [*]; done)), (by first | rfl | (simp; done) | (simp [*]; done)), H', ⟨Nat.le_refl _⟩, by repeat (first | exact Drawn0.refl _ | apply Drawn0.step)⟩
  case round =>
    clear H'
    try clear p2
    obtain ⟨x9_1, x10_1, rfl, rfl, HA, HK1, ⟨m1, rfl⟩⟩ := hrel
    cases gk with
    | zero => exact absurd HA.out (by simp [switchboardref14_ahead.l0])
    | succ k1 =>
      have H := HA.out
      clear HA
      simp only [switchboardref14_ahead.l0] at H
      by_cases c5 : x10_1 ≤ a1
      · rw [if_pos c5] at H
        have c5b0 : decide (x10_1 ≤ a1) = true := decide_eq_true c5
        clear c5
        have H' := Aside0.mk H
        clear H
        go_wp2
        go_loopg [9, 11] k1 (fun kq v9 v11 w' => ∃ (x9_2 : Int) (x11_2 : Int), v9 = .int .i64 x9_2 ∧ v11 = .int .i64 x11_2 ∧ Aside0 (switchboardref14_ahead.l1 kq l0 a1 a2 a3 x9_2 x10_1 x11_2 = some r) ∧ Aside0 (kq ≤ k1) ∧ Drawn0 w w')
        case atStart => exact ⟨(x9_1), (0), (by first | rfl | (simp; done) | (simp [*]; done)), (by first | rfl | (simp; done) | (simp [*]; done)), H', ⟨Nat.le_refl _⟩, by repeat (first | exact Drawn0.refl _ | apply Drawn0.step)⟩
        case round =>
          clear H'
          try clear p2
          try clear c5
          try clear c5b0
          try clear p2
          obtain ⟨x9_2, x11_2, rfl, rfl, HA, HK2, ⟨m2, rfl⟩⟩ := hrel
          cases gk with
          | zero => exact absurd HA.out (by simp [switchboardref14_ahead.l1])
          | succ k2 =>
            have H := HA.out
            clear HA
            simp only [switchboardref14_ahead.l1] at H
            by_cases c6 : x11_2 < 2
            · rw [if_pos c6] at H
              have c6b0 : decide (x11_2 < 2) = true := decide_eq_true c6
              clear c6
              by_cases c7 : 0 ≤ x10_1
              · rw [if_pos c7] at H
                have c7b0 : decide (0 ≤ x10_1) = true := decide_eq_true c7
                clear c7
                by_cases c8 : x10_1 < (l0.length : Int)
                · rw [if_pos c8] at H
                  have c8b0 : decide (x10_1 < (l0.length : Int)) = true := decide_eq_true c8
                  clear c8
                  by_cases c9 : 0 ≤ x11_2
                  · rw [if_pos c9] at H
                    have c9b0 : decide (0 ≤ x11_2) = true := decide_eq_true c9
                    clear c9
                    by_cases c11 : (pick2 ((rd_T68 l0 x10_1).f0) ((rd_T68 l0 x10_1).f1) x11_2) = a3
                    · rw [if_pos c11] at H
                      have c11b0 : ((pick2 ((rd_T68 l0 x10_1).f0) ((rd_T68 l0 x10_1).f1) x11_2) == a3) = true := beq_iff_eq.mpr c11
                      have c11b1 : ((pick2 ((rd_T68 l0 x10_1).f0) ((rd_T68 l0 x10_1).f1) x11_2) != a3) = false := bne_eq_false_iff_eq.mpr c11
                      clear c11
                      by_cases c12 : x10_1 < a1
                      · rw [if_pos c12] at H
                        have c12b0 : decide (x10_1 < a1) = true := decide_eq_true c12
                        clear c12
                        have H' := Aside0.mk H
                        clear H
                        have p284 : 0 ≤ (x10_1 : Int) := of_decide_eq_true (by first | (with_reducible assumption) | assumption)
                        have q284 : x10_1 < (l0.length : Int) := of_decide_eq_true (by first | (with_reducible assumption) | assumption)
                        obtain ⟨ad284, e284, hx284_0, hx284_1⟩ := at_T68 HR0.out x10_1 p284 q284
                        cases e284
                        replace p284 := eq_true p284
                        replace q284 := eq_true q284
                        have p10 : 0 ≤ (x11_2 : Int) := of_decide_eq_true (by first | (with_reducible assumption) | assumption)
                        have q10 : x11_2 < 2 := of_decide_eq_true (by first | (with_reducible assumption) | assumption)
                        have hx10 := pick2_cell hx284_0 hx284_1 x11_2 p10 q10
                        replace p10 := eq_true p10
                        replace q10 := eq_true q10
                        go_wp2
                        go_roundg k2
                        case measure => have := HK1.out; have := HK2.out; omega
                        case rel => exact ⟨(wrap64 (x9_2 + 1)), (wrap64 (x11_2 + 1)), (by first | rfl | (simp; done) | (simp [*]; done)), (by first | rfl | (simp; done) | (simp [*]; done)), H', ⟨by have := HK1.out; have := HK2.out; omega⟩, by repeat (first | exact Drawn0.refl _ | apply Drawn0.step)⟩
                      · rw [if_neg c12] at H
                        have c12b0 : decide (x10_1 < a1) = false := decide_eq_false c12
                        clear c12
                        by_cases c13 : x11_2 < a2
                        · rw [if_pos c13] at H
                          have c13b0 : decide (x11_2 < a2) = true := decide_eq_true c13
                          clear c13
                          have H' := Aside0.mk H
                          clear H
                          have p284 : 0 ≤ (x10_1 : Int) := of_decide_eq_true (by first | (with_reducible assumption) | assumption)
                          have q284 : x10_1 < (l0.length : Int) := of_decide_eq_true (by first | (with_reducible assumption) | assumption)
                          obtain ⟨ad284, e284, hx284_0, hx284_1⟩ := at_T68 HR0.out x10_1 p284 q284
                          cases e284
                          replace p284 := eq_true p284
                          replace q284 := eq_true q284
                          have p10 : 0 ≤ (x11_2 : Int) := of_decide_eq_true (by first | (with_reducible assumption) | assumption)
                          have q10 : x11_2 < 2 := of_decide_eq_true (by first | (with_reducible assumption) | assumption)
                          have hx10 := pick2_cell hx284_0 hx284_1 x11_2 p10 q10
                          replace p10 := eq_true p10
                          replace q10 := eq_true q10
                          go_wp2
                          go_roundg k2
                          case measure => have := HK1.out; have := HK2.out; omega
                          case rel => exact ⟨(wrap64 (x9_2 + 1)), (wrap64 (x11_2 + 1)), (by first | rfl | (simp; done) | (simp [*]; done)), (by first | rfl | (simp; done) | (simp [*]; done)), H', ⟨by have := HK1.out; have := HK2.out; omega⟩, by repeat (first | exact Drawn0.refl _ | apply Drawn0.step)⟩
                        · rw [if_neg c13] at H
                          have c13b0 : decide (x11_2 < a2) = false := decide_eq_false c13
                          clear c13
                          have H' := Aside0.mk H
                          clear H
                          have p284 : 0 ≤ (x10_1 : Int) := of_decide_eq_true (by first | (with_reducible assumption) | assumption)
                          have q284 : x10_1 < (l0.length : Int) := of_decide_eq_true (by first | (with_reducible assumption) | assumption)
                          obtain ⟨ad284, e284, hx284_0, hx284_1⟩ := at_T68 HR0.out x10_1 p284 q284
                          cases e284
                          replace p284 := eq_true p284
                          replace q284 := eq_true q284
                          have p10 : 0 ≤ (x11_2 : Int) := of_decide_eq_true (by first | (with_reducible assumption) | assumption)
                          have q10 : x11_2 < 2 := of_decide_eq_true (by first | (with_reducible assumption) | assumption)
                          have hx10 := pick2_cell hx284_0 hx284_1 x11_2 p10 q10
                          replace p10 := eq_true p10
                          replace q10 := eq_true q10
                          go_wp2
                          go_roundg k2
                          case measure => have := HK1.out; have := HK2.out; omega
                          case rel => exact ⟨(x9_2), (wrap64 (x11_2 + 1)), (by first | rfl | (simp; done) | (simp [*]; done)), (by first | rfl | (simp; done) | (simp [*]; done)), H', ⟨by have := HK1.out; have := HK2.out; omega⟩, by repeat (first | exact Drawn0.refl _ | apply Drawn0.step)⟩
                    · rw [if_neg c11] at H
                      have c11b0 : ((pick2 ((rd_T68 l0 x10_1).f0) ((rd_T68 l0 x10_1).f1) x11_2) == a3) = false := beq_eq_false_iff_ne.mpr c11
                      have c11b1 : ((pick2 ((rd_T68 l0 x10_1).f0) ((rd_T68 l0 x10_1).f1) x11_2) != a3) = true := bne_iff_ne.mpr c11
                      have H' := Aside0.mk H
                      clear H
                      have p284 : 0 ≤ (x10_1 : Int) := of_decide_eq_true (by first | (with_reducible assumption) | assumption)
                      have q284 : x10_1 < (l0.length : Int) := of_decide_eq_true (by first | (with_reducible assumption) | assumption)
                      obtain ⟨ad284, e284, hx284_0, hx284_1⟩ := at_T68 HR0.out x10_1 p284 q284
                      cases e284
                      replace p284 := eq_true p284
                      replace q284 := eq_true q284
                      have p10 : 0 ≤ (x11_2 : Int) := of_decide_eq_true (by first | (with_reducible assumption) | assumption)
                      have q10 : x11_2 < 2 := of_decide_eq_true (by first | (with_reducible assumption) | assumption)
                      have hx10 := pick2_cell hx284_0 hx284_1 x11_2 p10 q10
                      replace p10 := eq_true p10
                      replace q10 := eq_true q10
                      go_wp2
                      go_roundg k2
                      case measure => have := HK1.out; have := HK2.out; omega
                      case rel => exact ⟨(x9_2), (wrap64 (x11_2 + 1)), (by first | rfl | (simp; done) | (simp [*]; done)), (by first | rfl | (simp; done) | (simp [*]; done)), H', ⟨by have := HK1.out; have := HK2.out; omega⟩, by repeat (first | exact Drawn0.refl _ | apply Drawn0.step)⟩
                  · rw [if_neg c9] at H
                    exact absurd H (by simp)
                · rw [if_neg c8] at H
                  exact absurd H (by simp)
              · rw [if_neg c7] at H
                exact absurd H (by simp)
            · rw [if_neg c6] at H
              have c6b0 : decide (x11_2 < 2) = false := decide_eq_false c6
              clear c6
              have H' := Aside0.mk H
              clear H
              go_wp2
              go_roundg k2
              case measure => have := HK1.out; have := HK2.out; omega
              case rel => exact ⟨(x9_2), (wrap64 (x10_1 + 1)), (by first | rfl | (simp; done) | (simp [*]; done)), (by first | rfl | (simp; done) | (simp [*]; done)), H', ⟨by have := HK1.out; have := HK2.out; omega⟩, by repeat (first | exact Drawn0.refl _ | apply Drawn0.step)⟩
      · rw [if_neg c5] at H
        have c5b0 : decide (x10_1 ≤ a1) = false := decide_eq_false c5
        clear c5
        obtain rfl := Option.some.inj H
        go_wp2
        go_ret
        exact ⟨by first | rfl | (simp; done) | (simp [*]; done), by repeat (first | exact Drawn0.refl _ | apply Drawn0.step)⟩

/-! ### switchboardref14_Slot: function 36 -/
def switchboardref14_Slot.f (k : Nat) (l0 : List (S68)) (a1 : Int) (a2 : Int) (a3 : Int) (a4 : Int) : Option (Int) := if 0 ≤ a3 then (if a3 < (l0.length : Int) then (if 0 ≤ a4 then (if a4 < 2 then ((switchboardref14_ahead.f k l0 a3 a4 (pick2 ((rd_T68 l0 a3).f0) ((rd_T68 l0 a3).f1) a4)).bind fun t286 => (if (pick2 ((rd_T68 l0 a3).f0) ((rd_T68 l0 a3).f1) a4) < 0 then (some (-1)) else (if (pick2 ((rd_T68 l0 a3).f0) ((rd_T68 l0 a3).f1) a4) ≥ a1 then (some (-1)) else (if t286 ≥ a2 then (some (-1)) else (some t286))))) else (none)) else (none)) else (none)) else (none)
theorem switchboardref14_Slot.mono : ∀ a0 a1 a2 a3 a4 k, LeO (switchboardref14_Slot.f k a0 a1 a2 a3 a4) (switchboardref14_Slot.f (k + 1) a0 a1 a2 a3 a4) := by
  intro a0 a1 a2 a3 a4 k
  unfold switchboardref14_Slot.f
  repeat' first
      | (with_reducible exact switchboardref14_ahead.mono _ _ _ _ _)
      | (with_reducible exact LeO.refl _)
      | (with_reducible exact LeO.none _)
      | (with_reducible refine LeO.ite ?_ ?_)
      | (with_reducible refine LeO.bind ?_ (fun _ => ?_))
      | exact switchboardref14_ahead.mono _ _ _ _ _
      | exact LeO.none _
      | refine LeO.ite ?_ ?_
      | refine LeO.bind ?_ (fun _ => ?_)
set_option maxHeartbeats 8000000 in
set_option maxRecDepth 100000 in
theorem switchboardref14_Slot.calls (k : Nat) (A0 : Option Addr) (c0 : Nat) (l0 : List (S68)) (a1 : Int) (a2 : Int) (a3 : Int) (a4 : Int) (r : Int) (w : World) (hr0 : Kd.C k68 w A0 l0.length l0) (hc0 : l0.length ≤ c0) (h : switchboardref14_Slot.f k l0 a1 a2 a3 a4 = some r) :
    Calls Try.prog 36 #[.slice A0 l0.length c0, .int .i64 a1, .int .i64 a2, .int .i64 a3, .int .i64 a4] w fun e w' => e = .returned (.int .i64 r) ∧ Drawn0 w w' := by
  have HR0 := Aside0.mk hr0
  have HC0 := Aside0.mk hc0
  clear hr0 hc0
  have H : (if 0 ≤ a3 then (if a3 < (l0.length : Int) then (if 0 ≤ a4 then (if a4 < 2 then ((switchboardref14_ahead.f k l0 a3 a4 (pick2 ((rd_T68 l0 a3).f0) ((rd_T68 l0 a3).f1) a4)).bind fun t286 => (if (pick2 ((rd_T68 l0 a3).f0) ((rd_T68 l0 a3).f1) a4) < 0 then (some (-1)) else (if (pick2 ((rd_T68 l0 a3).f0) ((rd_T68 l0 a3).f1) a4) ≥ a1 then (some (-1)) else (if t286 ≥ a2 then (some (-1)) else (some t286))))) else (none)) else (none)) else (none)) else (none)) = some r := h
  clear h
  by_cases c6 : 0 ≤ a3
  · rw [if_pos c6] at H
    have c6b0 : decide (0 ≤ a3) = true := decide_eq_true c6
    clear c6
    by_cases c7 : a3 < (l0.length : Int)
    · rw [if_pos c7] at H
      have c7b0 : decide (a3 < (l0.length : Int)) = true := decide_eq_true c7
      clear c7
      by_cases c8 : 0 ≤ a4
      · rw [if_pos c8] at H
        have c8b0 : decide (0 ≤ a4) = true := decide_eq_true c8
        clear c8
        by_cases c9 : a4 < 2
        · rw [if_pos c9] at H
          have c9b0 : decide (a4 < 2) = true := decide_eq_true c9
          clear c9
          replace H := Option.bind_eq_some_iff.mp H
          obtain ⟨t286, A110, H⟩ := H
          replace H : (if (pick2 ((rd_T68 l0 a3).f0) ((rd_T68 l0 a3).f1) a4) < 0 then (some (-1)) else (if (pick2 ((rd_T68 l0 a3).f0) ((rd_T68 l0 a3).f1) a4) ≥ a1 then (some (-1)) else (if t286 ≥ a2 then (some (-1)) else (some t286)))) = some r := H
          have A11 := Aside0.mk A110
          clear A110
          by_cases c12 : (pick2 ((rd_T68 l0 a3).f0) ((rd_T68 l0 a3).f1) a4) < 0
          · rw [if_pos c12] at H
            have c12b0 : decide ((pick2 ((rd_T68 l0 a3).f0) ((rd_T68 l0 a3).f1) a4) < 0) = true := decide_eq_true c12
            clear c12
            obtain rfl := Option.some.inj H
            have p285 : 0 ≤ (a3 : Int) := of_decide_eq_true (by first | (with_reducible assumption) | assumption)
            have q285 : a3 < (l0.length : Int) := of_decide_eq_true (by first | (with_reducible assumption) | assumption)
            obtain ⟨ad285, e285, hx285_0, hx285_1⟩ := at_T68 HR0.out a3 p285 q285
            cases e285
            replace p285 := eq_true p285
            replace q285 := eq_true q285
            have p10 : 0 ≤ (a4 : Int) := of_decide_eq_true (by first | (with_reducible assumption) | assumption)
            have q10 : a4 < 2 := of_decide_eq_true (by first | (with_reducible assumption) | assumption)
            have hx10 := pick2_cell hx285_0 hx285_1 a4 p10 q10
            replace p10 := eq_true p10
            replace q10 := eq_true q10
            go_enter Try.func36, Try.ntmps36
            go_wp2_with (first | ((with_reducible refine gate_callee (f := 58) rfl ?_); refine goesL_ (some 23) rfl rfl Try.func58 (by kernel_rfl) rfl #[.slice (some ad285) l0.length c0, .int .i64 a3, .int .i64 a4, .int .i64 (pick2 ((rd_T68 l0 a3).f0) ((rd_T68 l0 a3).f1) a4)] rfl (by (try simp only [List.map_toArray, List.map_cons, List.map_nil]); first | done | rfl | (simp only [List.length_drop, List.length_take]; rfl)) ?_; (with_reducible refine (switchboardref14_ahead.calls k _ _ l0 a3 a4 (pick2 ((rd_T68 l0 a3).f0) ((rd_T68 l0 a3).f1) a4) t286 _ ?side1 ?side2 A11.out).mono ?_); (case side1 => repeat (first | exact HR0.out | (with_reducible refine Kd.C_alloc ?_ _) | (with_reducible refine Kd.C_drewN ?_ _) | (with_reducible refine Kd.C_drew ?_))); (case side2 => exact HC0.out); rintro e w' ⟨rfl, ⟨nd, rfl⟩⟩; refine ⟨_, rfl, ?_⟩))
            go_ret
            exact ⟨by first | rfl | (simp; done) | (simp [*]; done), by repeat (first | exact Drawn0.refl _ | apply Drawn0.step)⟩
          · rw [if_neg c12] at H
            have c12b0 : decide ((pick2 ((rd_T68 l0 a3).f0) ((rd_T68 l0 a3).f1) a4) < 0) = false := decide_eq_false c12
            clear c12
            by_cases c13 : (pick2 ((rd_T68 l0 a3).f0) ((rd_T68 l0 a3).f1) a4) ≥ a1
            · rw [if_pos c13] at H
              have c13b0 : decide (a1 ≤ (pick2 ((rd_T68 l0 a3).f0) ((rd_T68 l0 a3).f1) a4)) = true := decide_eq_true c13
              clear c13
              obtain rfl := Option.some.inj H
              have p285 : 0 ≤ (a3 : Int) := of_decide_eq_true (by first | (with_reducible assumption) | assumption)
              have q285 : a3 < (l0.length : Int) := of_decide_eq_true (by first | (with_reducible assumption) | assumption)
              obtain ⟨ad285, e285, hx285_0, hx285_1⟩ := at_T68 HR0.out a3 p285 q285
              cases e285
              replace p285 := eq_true p285
              replace q285 := eq_true q285
              have p10 : 0 ≤ (a4 : Int) := of_decide_eq_true (by first | (with_reducible assumption) | assumption)
              have q10 : a4 < 2 := of_decide_eq_true (by first | (with_reducible assumption) | assumption)
              have hx10 := pick2_cell hx285_0 hx285_1 a4 p10 q10
              replace p10 := eq_true p10
              replace q10 := eq_true q10
              go_enter Try.func36, Try.ntmps36
              go_wp2_with (first | ((with_reducible refine gate_callee (f := 58) rfl ?_); refine goesL_ (some 23) rfl rfl Try.func58 (by kernel_rfl) rfl #[.slice (some ad285) l0.length c0, .int .i64 a3, .int .i64 a4, .int .i64 (pick2 ((rd_T68 l0 a3).f0) ((rd_T68 l0 a3).f1) a4)] rfl (by (try simp only [List.map_toArray, List.map_cons, List.map_nil]); first | done | rfl | (simp only [List.length_drop, List.length_take]; rfl)) ?_; (with_reducible refine (switchboardref14_ahead.calls k _ _ l0 a3 a4 (pick2 ((rd_T68 l0 a3).f0) ((rd_T68 l0 a3).f1) a4) t286 _ ?side1 ?side2 A11.out).mono ?_); (case side1 => repeat (first | exact HR0.out | (with_reducible refine Kd.C_alloc ?_ _) | (with_reducible refine Kd.C_drewN ?_ _) | (with_reducible refine Kd.C_drew ?_))); (case side2 => exact HC0.out); rintro e w' ⟨rfl, ⟨nd, rfl⟩⟩; refine ⟨_, rfl, ?_⟩))
              go_ret
              exact ⟨by first | rfl | (simp; done) | (simp [*]; done), by repeat (first | exact Drawn0.refl _ | apply Drawn0.step)⟩
            · rw [if_neg c13] at H
              have c13b0 : decide (a1 ≤ (pick2 ((rd_T68 l0 a3).f0) ((rd_T68 l0 a3).f1) a4)) = false := decide_eq_false c13
              clear c13
              by_cases c14 : t286 ≥ a2
              · rw [if_pos c14] at H
                have c14b0 : decide (a2 ≤ t286) = true := decide_eq_true c14
                clear c14
                obtain rfl := Option.some.inj H
                have p285 : 0 ≤ (a3 : Int) := of_decide_eq_true (by first | (with_reducible assumption) | assumption)
                have q285 : a3 < (l0.length : Int) := of_decide_eq_true (by first | (with_reducible assumption) | assumption)
                obtain ⟨ad285, e285, hx285_0, hx285_1⟩ := at_T68 HR0.out a3 p285 q285
                cases e285
                replace p285 := eq_true p285
                replace q285 := eq_true q285
                have p10 : 0 ≤ (a4 : Int) := of_decide_eq_true (by first | (with_reducible assumption) | assumption)
                have q10 : a4 < 2 := of_decide_eq_true (by first | (with_reducible assumption) | assumption)
                have hx10 := pick2_cell hx285_0 hx285_1 a4 p10 q10
                replace p10 := eq_true p10
                replace q10 := eq_true q10
                go_enter Try.func36, Try.ntmps36
                go_wp2_with (first | ((with_reducible refine gate_callee (f := 58) rfl ?_); refine goesL_ (some 23) rfl rfl Try.func58 (by kernel_rfl) rfl #[.slice (some ad285) l0.length c0, .int .i64 a3, .int .i64 a4, .int .i64 (pick2 ((rd_T68 l0 a3).f0) ((rd_T68 l0 a3).f1) a4)] rfl (by (try simp only [List.map_toArray, List.map_cons, List.map_nil]); first | done | rfl | (simp only [List.length_drop, List.length_take]; rfl)) ?_; (with_reducible refine (switchboardref14_ahead.calls k _ _ l0 a3 a4 (pick2 ((rd_T68 l0 a3).f0) ((rd_T68 l0 a3).f1) a4) t286 _ ?side1 ?side2 A11.out).mono ?_); (case side1 => repeat (first | exact HR0.out | (with_reducible refine Kd.C_alloc ?_ _) | (with_reducible refine Kd.C_drewN ?_ _) | (with_reducible refine Kd.C_drew ?_))); (case side2 => exact HC0.out); rintro e w' ⟨rfl, ⟨nd, rfl⟩⟩; refine ⟨_, rfl, ?_⟩))
                go_ret
                exact ⟨by first | rfl | (simp; done) | (simp [*]; done), by repeat (first | exact Drawn0.refl _ | apply Drawn0.step)⟩
              · rw [if_neg c14] at H
                have c14b0 : decide (a2 ≤ t286) = false := decide_eq_false c14
                clear c14
                obtain rfl := Option.some.inj H
                have p285 : 0 ≤ (a3 : Int) := of_decide_eq_true (by first | (with_reducible assumption) | assumption)
                have q285 : a3 < (l0.length : Int) := of_decide_eq_true (by first | (with_reducible assumption) | assumption)
                obtain ⟨ad285, e285, hx285_0, hx285_1⟩ := at_T68 HR0.out a3 p285 q285
                cases e285
                replace p285 := eq_true p285
                replace q285 := eq_true q285
                have p10 : 0 ≤ (a4 : Int) := of_decide_eq_true (by first | (with_reducible assumption) | assumption)
                have q10 : a4 < 2 := of_decide_eq_true (by first | (with_reducible assumption) | assumption)
                have hx10 := pick2_cell hx285_0 hx285_1 a4 p10 q10
                replace p10 := eq_true p10
                replace q10 := eq_true q10
                go_enter Try.func36, Try.ntmps36
                go_wp2_with (first | ((with_reducible refine gate_callee (f := 58) rfl ?_); refine goesL_ (some 23) rfl rfl Try.func58 (by kernel_rfl) rfl #[.slice (some ad285) l0.length c0, .int .i64 a3, .int .i64 a4, .int .i64 (pick2 ((rd_T68 l0 a3).f0) ((rd_T68 l0 a3).f1) a4)] rfl (by (try simp only [List.map_toArray, List.map_cons, List.map_nil]); first | done | rfl | (simp only [List.length_drop, List.length_take]; rfl)) ?_; (with_reducible refine (switchboardref14_ahead.calls k _ _ l0 a3 a4 (pick2 ((rd_T68 l0 a3).f0) ((rd_T68 l0 a3).f1) a4) t286 _ ?side1 ?side2 A11.out).mono ?_); (case side1 => repeat (first | exact HR0.out | (with_reducible refine Kd.C_alloc ?_ _) | (with_reducible refine Kd.C_drewN ?_ _) | (with_reducible refine Kd.C_drew ?_))); (case side2 => exact HC0.out); rintro e w' ⟨rfl, ⟨nd, rfl⟩⟩; refine ⟨_, rfl, ?_⟩))
                go_ret
                exact ⟨by first | rfl | (simp; done) | (simp [*]; done), by repeat (first | exact Drawn0.refl _ | apply Drawn0.step)⟩
        · rw [if_neg c9] at H
          exact absurd H (by simp)
      · rw [if_neg c8] at H
        exact absurd H (by simp)
    · rw [if_neg c7] at H
      exact absurd H (by simp)
  · rw [if_neg c6] at H
    exact absurd H (by simp)

-- NOT PRINTED: function 18 (switchboardref15_Parts)

/-! ### switchboardref02_Same: function 37 -/
def switchboardref02_Same.l0 : Nat → List Int → List Int → Int → Option (Bool)
  | 0, _, _, _ => none
  | k + 1, x0, x1, x5 => if x5 < (x0.length : Int) then (if 0 ≤ x5 then (if x5 < (x1.length : Int) then (if (rd x0 x5) = (rd x1 x5) then (switchboardref02_Same.l0 k x0 x1 (wrap64 (x5 + 1))) else (some false)) else (none)) else (none)) else (some true)
def switchboardref02_Same.f (k : Nat) (l0 : List Int) (l1 : List Int) : Option (Bool) := if (l0.length : Int) = (l1.length : Int) then (switchboardref02_Same.l0 k l0 l1 0) else (some false)
theorem switchboardref02_Same.mono_l : ∀ k, (∀ y0 y1 y2, LeO (switchboardref02_Same.l0 k y0 y1 y2) (switchboardref02_Same.l0 (k + 1) y0 y1 y2))
  | 0 => fun _ _ _ r h => by simp [switchboardref02_Same.l0] at h
  | k + 1 => by
    have ih0 := switchboardref02_Same.mono_l k
    · intro y0 y1 y2
      unfold switchboardref02_Same.l0
      repeat' first
      | (with_reducible exact ih0 _ _ _)
      | (with_reducible exact LeO.refl _)
      | (with_reducible exact LeO.none _)
      | (with_reducible refine LeO.ite ?_ ?_)
      | (with_reducible refine LeO.bind ?_ (fun _ => ?_))
      | exact ih0 _ _ _
      | exact LeO.none _
      | refine LeO.ite ?_ ?_
      | refine LeO.bind ?_ (fun _ => ?_)
theorem switchboardref02_Same.mono : ∀ a0 a1 k, LeO (switchboardref02_Same.f k a0 a1) (switchboardref02_Same.f (k + 1) a0 a1) := by
  intro a0 a1 k
  have ih0 := switchboardref02_Same.mono_l k
  unfold switchboardref02_Same.f
  repeat' first
      | (with_reducible exact ih0 _ _ _)
      | (with_reducible exact LeO.refl _)
      | (with_reducible exact LeO.none _)
      | (with_reducible refine LeO.ite ?_ ?_)
      | (with_reducible refine LeO.bind ?_ (fun _ => ?_))
      | exact ih0 _ _ _
      | exact LeO.none _
      | refine LeO.ite ?_ ?_
      | refine LeO.bind ?_ (fun _ => ?_)
set_option maxHeartbeats 8000000 in
set_option maxRecDepth 100000 in
theorem switchboardref02_Same.calls (k : Nat) (A0 : Option Addr) (c0 : Nat) (l0 : List Int) (A1 : Option Addr) (c1 : Nat) (l1 : List Int) (r : Bool) (w : World) (hr0 : Kd.C (Kd.int .i64) w A0 l0.length l0) (hc0 : l0.length ≤ c0) (hr1 : Kd.C (Kd.int .i64) w A1 l1.length l1) (hc1 : l1.length ≤ c1) (h : switchboardref02_Same.f k l0 l1 = some r) :
    Calls Try.prog 37 #[.slice A0 l0.length c0, .slice A1 l1.length c1] w fun e w' => e = .returned (.bool r) ∧ Drawn0 w w' := by
  have HR0 := Aside0.mk hr0
  have HC0 := Aside0.mk hc0
  clear hr0 hc0
  have HR1 := Aside0.mk hr1
  have HC1 := Aside0.mk hc1
  clear hr1 hc1
  have H : (if (l0.length : Int) = (l1.length : Int) then (switchboardref02_Same.l0 k l0 l1 0) else (some false)) = some r := h
  clear h
  by_cases c3 : (l0.length : Int) = (l1.length : Int)
  · rw [if_pos c3] at H
    have c3b0 : ((l0.length : Int) == (l1.length : Int)) = true := beq_iff_eq.mpr c3
    have c3b1 : ((l0.length : Int) != (l1.length : Int)) = false := bne_eq_false_iff_eq.mpr c3
    have c3b2 : (l0.length == l1.length) = true := by first | simpa using c3 | (simp at c3 ⊢; omega)
    clear c3
    have H' := Aside0.mk H
    clear H
    go_enter Try.func37, Try.ntmps37
    go_wp2
    repeat (go_quiet (fail); try go_wp2)
    go_loopg [5] k (fun kq v5 w' => ∃ (x5_1 : Int), v5 = .int .i64 x5_1 ∧ Aside0 (switchboardref02_Same.l0 kq l0 l1 x5_1 = some r) ∧ Aside0 (kq ≤ k) ∧ Drawn0 w w')
    case atStart => exact ⟨(0), (by first | rfl | (simp; done) | (simp [*]; done)), H', ⟨Nat.le_refl _⟩, by repeat (first | exact Drawn0.refl _ | apply Drawn0.step)⟩
    case round =>
      clear H'
      try clear c1
      try clear p2
      try clear c3
      try clear c3b0
      try clear c3b1
      try clear c3b2
      obtain ⟨x5_1, rfl, HA, HK1, ⟨m1, rfl⟩⟩ := hrel
      cases gk with
      | zero => exact absurd HA.out (by simp [switchboardref02_Same.l0])
      | succ k1 =>
        have H := HA.out
        clear HA
        simp only [switchboardref02_Same.l0] at H
        by_cases c4 : x5_1 < (l0.length : Int)
        · rw [if_pos c4] at H
          have c4b0 : decide (x5_1 < (l0.length : Int)) = true := decide_eq_true c4
          clear c4
          by_cases c5 : 0 ≤ x5_1
          · rw [if_pos c5] at H
            have c5b0 : decide (0 ≤ x5_1) = true := decide_eq_true c5
            clear c5
            by_cases c6 : x5_1 < (l1.length : Int)
            · rw [if_pos c6] at H
              have c6b0 : decide (x5_1 < (l1.length : Int)) = true := decide_eq_true c6
              clear c6
              by_cases c7 : (rd l0 x5_1) = (rd l1 x5_1)
              · rw [if_pos c7] at H
                have c7b0 : ((rd l0 x5_1) == (rd l1 x5_1)) = true := beq_iff_eq.mpr c7
                have c7b1 : ((rd l0 x5_1) != (rd l1 x5_1)) = false := bne_eq_false_iff_eq.mpr c7
                clear c7
                have H' := Aside0.mk H
                clear H
                have p287 : 0 ≤ (x5_1 : Int) := of_decide_eq_true (by first | (with_reducible assumption) | assumption)
                have q287 : x5_1 < (l0.length : Int) := of_decide_eq_true (by first | (with_reducible assumption) | assumption)
                obtain ⟨ad287, e287, hx287_0⟩ := Kd.at_int HR0.out x5_1 p287 q287
                cases e287
                replace p287 := eq_true p287
                replace q287 := eq_true q287
                have p288 : 0 ≤ (x5_1 : Int) := of_decide_eq_true (by first | (with_reducible assumption) | assumption)
                have q288 : x5_1 < (l1.length : Int) := of_decide_eq_true (by first | (with_reducible assumption) | assumption)
                obtain ⟨ad288, e288, hx288_0⟩ := Kd.at_int HR1.out x5_1 p288 q288
                cases e288
                replace p288 := eq_true p288
                replace q288 := eq_true q288
                go_wp2
                repeat (go_quiet (fail); try go_wp2)
                go_roundg k1
                case measure => have := HK1.out; omega
                case rel => exact ⟨(wrap64 (x5_1 + 1)), (by first | rfl | (simp; done) | (simp [*]; done)), H', ⟨by have := HK1.out; omega⟩, by repeat (first | exact Drawn0.refl _ | apply Drawn0.step)⟩
              · rw [if_neg c7] at H
                have c7b0 : ((rd l0 x5_1) == (rd l1 x5_1)) = false := beq_eq_false_iff_ne.mpr c7
                have c7b1 : ((rd l0 x5_1) != (rd l1 x5_1)) = true := bne_iff_ne.mpr c7
                obtain rfl := Option.some.inj H
                have p287 : 0 ≤ (x5_1 : Int) := of_decide_eq_true (by first | (with_reducible assumption) | assumption)
                have q287 : x5_1 < (l0.length : Int) := of_decide_eq_true (by first | (with_reducible assumption) | assumption)
                obtain ⟨ad287, e287, hx287_0⟩ := Kd.at_int HR0.out x5_1 p287 q287
                cases e287
                replace p287 := eq_true p287
                replace q287 := eq_true q287
                have p288 : 0 ≤ (x5_1 : Int) := of_decide_eq_true (by first | (with_reducible assumption) | assumption)
                have q288 : x5_1 < (l1.length : Int) := of_decide_eq_true (by first | (with_reducible assumption) | assumption)
                obtain ⟨ad288, e288, hx288_0⟩ := Kd.at_int HR1.out x5_1 p288 q288
                cases e288
                replace p288 := eq_true p288
                replace q288 := eq_true q288
                go_wp2
                repeat (go_quiet (fail); try go_wp2)
                go_ret
                exact ⟨by first | rfl | (simp; done) | (simp [*]; done), by repeat (first | exact Drawn0.refl _ | apply Drawn0.step)⟩
            · rw [if_neg c6] at H
              exact absurd H (by simp)
          · rw [if_neg c5] at H
            exact absurd H (by simp)
        · rw [if_neg c4] at H
          have c4b0 : decide (x5_1 < (l0.length : Int)) = false := decide_eq_false c4
          clear c4
          obtain rfl := Option.some.inj H
          go_wp2
          repeat (go_quiet (fail); try go_wp2)
          go_ret
          exact ⟨by first | rfl | (simp; done) | (simp [*]; done), by repeat (first | exact Drawn0.refl _ | apply Drawn0.step)⟩
  · rw [if_neg c3] at H
    have c3b0 : ((l0.length : Int) == (l1.length : Int)) = false := beq_eq_false_iff_ne.mpr c3
    have c3b1 : ((l0.length : Int) != (l1.length : Int)) = true := bne_iff_ne.mpr c3
    have c3b2 : (l0.length == l1.length) = false := by first | simpa using c3 | (simp at c3 ⊢; omega)
    obtain rfl := Option.some.inj H
    go_enter Try.func37, Try.ntmps37
    go_wp2
    repeat (go_quiet (fail); try go_wp2)
    go_ret
    exact ⟨by first | rfl | (simp; done) | (simp [*]; done), by repeat (first | exact Drawn0.refl _ | apply Drawn0.step)⟩

end Go.Proofs.Ytlicglgogklnkaa.Pr
