-- Laid by wip/xprint.py, a program of this session that runs the kit's print with some contracts given by hand; not a text of print.sh. Lean checks it.
import Derived.Test.YtfipiohchnaglaaPt0
namespace Go.Proofs.Ytfipiohchnaglaa.Pt
open Go.RowKit Go.Proofs.YtfipiohchnaglaaW.PrintWords Go.Proofs.YtfipiohchnaglaaW.PrintLast Go.Proofs.YtfipiohchnaglaaW.PrintMore
attribute [local go_sem] max2_int min2_int max_two min_two max_three min_three max_four min_four   -- for this text's walks alone
set_option linter.unusedVariables false
set_option linter.unusedSimpArgs false

/-! ### switchboardref03_Small: function 6 -/
mutual
def switchboardref03_Small.l0 : Nat → List (List Int) → Int → Option (Bool)
  | 0, _, _ => none
  | k + 1, x0, x3 => if x3 < (x0.length : Int) then (switchboardref03_Small.j1 k x0 x3 (decide (x3 < 30))) else (switchboardref03_Small.j1 k x0 x3 false)
def switchboardref03_Small.j1 : Nat → List (List Int) → Int → Bool → Option (Bool)
  | 0, _, _, _ => none
  | k + 1, x0, x3, x11 => if x11 = true then (if 0 ≤ x3 then (if x3 < (x0.length : Int) then (if ((rd_L1 x0 x3).length : Int) > 30 then (some false) else (switchboardref03_Small.l0 k x0 (wrap64 (x3 + 1)))) else (none)) else (none)) else (some (decide ((x0.length : Int) ≤ 30)))
end
def switchboardref03_Small.f (k : Nat) (l0 : List (List Int)) : Option (Bool) := switchboardref03_Small.l0 k l0 0
theorem switchboardref03_Small.mono_l : ∀ k, (∀ y0 y1, LeO (switchboardref03_Small.l0 k y0 y1) (switchboardref03_Small.l0 (k + 1) y0 y1)) ∧ (∀ y0 y1 y2, LeO (switchboardref03_Small.j1 k y0 y1 y2) (switchboardref03_Small.j1 (k + 1) y0 y1 y2))
  | 0 => ⟨fun _ _ r h => by simp [switchboardref03_Small.l0] at h, fun _ _ _ r h => by simp [switchboardref03_Small.j1] at h⟩
  | k + 1 => by
    obtain ⟨ih0, ih1⟩ := switchboardref03_Small.mono_l k
    refine ⟨?_, ?_⟩
    · intro y0 y1
      unfold switchboardref03_Small.l0
      repeat' first
      | (with_reducible exact ih0 _ _)
      | (with_reducible exact ih1 _ _ _)
      | (with_reducible exact LeO.refl _)
      | (with_reducible exact LeO.none _)
      | (with_reducible refine LeO.ite ?_ ?_)
      | (with_reducible refine LeO.bind ?_ (fun _ => ?_))
      | exact ih0 _ _
      | exact ih1 _ _ _
      | exact LeO.none _
      | refine LeO.ite ?_ ?_
      | refine LeO.bind ?_ (fun _ => ?_)
    · intro y0 y1 y2
      unfold switchboardref03_Small.j1
      repeat' first
      | (with_reducible exact ih0 _ _)
      | (with_reducible exact ih1 _ _ _)
      | (with_reducible exact LeO.refl _)
      | (with_reducible exact LeO.none _)
      | (with_reducible refine LeO.ite ?_ ?_)
      | (with_reducible refine LeO.bind ?_ (fun _ => ?_))
      | exact ih0 _ _
      | exact ih1 _ _ _
      | exact LeO.none _
      | refine LeO.ite ?_ ?_
      | refine LeO.bind ?_ (fun _ => ?_)
theorem switchboardref03_Small.mono : ∀ a0 k, LeO (switchboardref03_Small.f k a0) (switchboardref03_Small.f (k + 1) a0) := by
  intro a0 k
  obtain ⟨ih0, ih1⟩ := switchboardref03_Small.mono_l k
  unfold switchboardref03_Small.f
  repeat' first
      | (with_reducible exact ih0 _ _)
      | (with_reducible exact ih1 _ _ _)
      | (with_reducible exact LeO.refl _)
      | (with_reducible exact LeO.none _)
      | (with_reducible refine LeO.ite ?_ ?_)
      | (with_reducible refine LeO.bind ?_ (fun _ => ?_))
      | exact ih0 _ _
      | exact ih1 _ _ _
      | exact LeO.none _
      | refine LeO.ite ?_ ?_
      | refine LeO.bind ?_ (fun _ => ?_)
set_option maxHeartbeats 8000000 in
set_option maxRecDepth 100000 in
theorem switchboardref03_Small.calls (k : Nat) (A0 : Option Addr) (c0 : Nat) (l0 : List (List Int)) (r : Bool) (w : World) (hr0 : Kd.C (Kd.slice 3 (Kd.int .i64)) w A0 l0.length l0) (hc0 : l0.length ≤ c0) (h : switchboardref03_Small.f k l0 = some r) :
    Calls Try.prog 6 #[.slice A0 l0.length c0] w fun e w' => e = .returned (.bool r) ∧ Drawn0 w w' := by
  have HR0 := Aside0.mk hr0
  have HC0 := Aside0.mk hc0
  clear hr0 hc0
  have H : (switchboardref03_Small.l0 k l0 0) = some r := h
  clear h
  have H' := Aside0.mk H
  clear H
  go_enter Try.func6, Try.ntmps6
  go_wp2
  go_loopg [3] k (fun kq v3 w' => ∃ (x3_1 : Int), v3 = .int .i64 x3_1 ∧ Aside0 (switchboardref03_Small.l0 kq l0 x3_1 = some r) ∧ Aside0 (kq ≤ k) ∧ Drawn0 w w')
  case atStart => exact ⟨(0), (by first | rfl | (simp; done) | (simp [*]; done)), H', ⟨Nat.le_refl _⟩, by repeat (first | exact Drawn0.refl _ | apply Drawn0.step)⟩
  case round =>
    clear H'
    obtain ⟨x3_1, rfl, HA, HK1, ⟨m1, rfl⟩⟩ := hrel
    cases gk with
    | zero => exact absurd HA.out (by simp [switchboardref03_Small.l0])
    | succ k1 =>
      have H := HA.out
      clear HA
      simp only [switchboardref03_Small.l0] at H
      have HC2 := Aside0.mk H
      clear H
      go_upto_region 2 with (fail)
      go_cut [11] (fun v11 wc => ∃ (kq : Nat) (x11_1 : Bool), v11 = .bool x11_1 ∧ Aside0 (switchboardref03_Small.j1 kq l0 x3_1 x11_1 = some r) ∧ Aside0 (kq ≤ k1) ∧ Drawn0 w wc)
      case first =>
        have H := HC2.out
        clear HC2
        by_cases c3 : x3_1 < (l0.length : Int)
        · rw [if_pos c3] at H
          have c3b0 : decide (x3_1 < (l0.length : Int)) = true := decide_eq_true c3
          clear c3
          (first | rw [c3b0] | (simp only [i64_w, i32_w]; rw [c3b0]) | skip)
          have H' := Aside0.mk H
          clear H
          go_wp2
          go_meet
          case rel => exact ⟨_, (decide (x3_1 < 30)), (by first | rfl | (simp; done) | (simp [*]; done)), H', ⟨by have := HK1.out; first | omega | exact Nat.le_refl _⟩, by repeat (first | exact Drawn0.refl _ | apply Drawn0.step)⟩
        · rw [if_neg c3] at H
          have c3b0 : decide (x3_1 < (l0.length : Int)) = false := decide_eq_false c3
          clear c3
          (first | rw [c3b0] | (simp only [i64_w, i32_w]; rw [c3b0]) | skip)
          have H' := Aside0.mk H
          clear H
          go_wp2
          go_meet
          case rel => exact ⟨_, (false), (by first | rfl | (simp; done) | (simp [*]; done)), H', ⟨by have := HK1.out; first | omega | exact Nat.le_refl _⟩, by repeat (first | exact Drawn0.refl _ | apply Drawn0.step)⟩
      case rest =>
        clear HC2
        try clear p2
        try clear c3
        try clear c3b0
        obtain ⟨kq, x11_1, rfl, HA, HJ1, ⟨mc1, rfl⟩⟩ := hcut
        cases kq with
        | zero => exact absurd HA.out (by simp [switchboardref03_Small.j1])
        | succ kj1 =>
          have H := HA.out
          clear HA
          simp only [switchboardref03_Small.j1] at H
          by_cases c4 : x11_1 = true
          · subst c4
            have H1 : (if 0 ≤ x3_1 then (if x3_1 < (l0.length : Int) then (if ((rd_L1 l0 x3_1).length : Int) > 30 then (some false) else (switchboardref03_Small.l0 kj1 l0 (wrap64 (x3_1 + 1)))) else (none)) else (none)) = some r := by rw [if_pos rfl] at H; exact H
            clear H
            have H := H1
            clear H1
            by_cases c5 : 0 ≤ x3_1
            · rw [if_pos c5] at H
              have c5b0 : decide (0 ≤ x3_1) = true := decide_eq_true c5
              clear c5
              by_cases c6 : x3_1 < (l0.length : Int)
              · rw [if_pos c6] at H
                have c6b0 : decide (x3_1 < (l0.length : Int)) = true := decide_eq_true c6
                clear c6
                by_cases c7 : ((rd_L1 l0 x3_1).length : Int) > 30
                · rw [if_pos c7] at H
                  have c7b0 : decide (30 < ((rd_L1 l0 x3_1).length : Int)) = true := decide_eq_true c7
                  have c7b1 : decide (30 < (rd_L1 l0 x3_1).length) = true := decide_eq_true (by omega)
                  clear c7
                  obtain rfl := Option.some.inj H
                  have p101 : 0 ≤ (x3_1 : Int) := of_decide_eq_true (by first | (with_reducible assumption) | assumption)
                  have q101 : x3_1 < (l0.length : Int) := of_decide_eq_true (by first | (with_reducible assumption) | assumption)
                  obtain ⟨ad101, A101_0, c101_0, e101, hx101_0, hl101_0, hi101_0⟩ := at_L1 HR0.out x3_1 p101 q101
                  cases e101
                  have HR101_0 := Aside0.mk hi101_0
                  have HC101_0 := Aside0.mk hl101_0
                  clear hi101_0 hl101_0
                  replace p101 := eq_true p101
                  replace q101 := eq_true q101
                  go_wp2
                  go_ret
                  exact ⟨by first | rfl | (simp; done) | (simp [*]; done), by repeat (first | exact Drawn0.refl _ | apply Drawn0.step)⟩
                · rw [if_neg c7] at H
                  have c7b0 : decide (30 < ((rd_L1 l0 x3_1).length : Int)) = false := decide_eq_false c7
                  have c7b1 : decide (30 < (rd_L1 l0 x3_1).length) = false := decide_eq_false (by omega)
                  clear c7
                  have H' := Aside0.mk H
                  clear H
                  have p101 : 0 ≤ (x3_1 : Int) := of_decide_eq_true (by first | (with_reducible assumption) | assumption)
                  have q101 : x3_1 < (l0.length : Int) := of_decide_eq_true (by first | (with_reducible assumption) | assumption)
                  obtain ⟨ad101, A101_0, c101_0, e101, hx101_0, hl101_0, hi101_0⟩ := at_L1 HR0.out x3_1 p101 q101
                  cases e101
                  have HR101_0 := Aside0.mk hi101_0
                  have HC101_0 := Aside0.mk hl101_0
                  clear hi101_0 hl101_0
                  replace p101 := eq_true p101
                  replace q101 := eq_true q101
                  go_wp2
                  go_roundg kj1
                  case measure => have := HK1.out; have := HJ1.out; omega
                  case rel => exact ⟨(wrap64 (x3_1 + 1)), (by first | rfl | (simp; done) | (simp [*]; done)), H', ⟨by have := HK1.out; have := HJ1.out; omega⟩, by repeat (first | exact Drawn0.refl _ | apply Drawn0.step)⟩
              · rw [if_neg c6] at H
                exact absurd H (by simp)
            · rw [if_neg c5] at H
              exact absurd H (by simp)
          · replace c4 := Bool.eq_false_iff.mpr c4
            subst c4
            have H1 : (some (decide ((l0.length : Int) ≤ 30))) = some r := by rw [if_neg (show ¬ (false = true) by decide)] at H; exact H
            clear H
            have H := H1
            clear H1
            obtain rfl := Option.some.inj H
            go_wp2
            go_ret
            exact ⟨by first | rfl | (simp; done) | (simp [*]; done), by repeat (first | exact Drawn0.refl _ | apply Drawn0.step)⟩

/-! ### switchboardref15_Small: function 5 -/
mutual
def switchboardref15_Small.l0 : Nat → List (S31) → Int → Int → Option (Bool)
  | 0, _, _, _ => none
  | k + 1, x12, x13, x14 => if x14 < x13 then (if 0 ≤ x14 then (if x14 < (x12.length : Int) then (if (((rd_T31 x12 x14).f1).length : Int) > 9 then (switchboardref15_Small.j1 k x12 x13 x14 true ((rd_T31 x12 x14).f0) ((rd_T31 x12 x14).f1) ((rd_T31 x12 x14).f2)) else ((switchboardref03_Small.f k ((rd_T31 x12 x14).f0)).bind fun t105 => (switchboardref15_Small.j1 k x12 x13 x14 (!t105) ((rd_T31 x12 x14).f0) ((rd_T31 x12 x14).f1) ((rd_T31 x12 x14).f2)))) else (none)) else (none)) else (some true)
def switchboardref15_Small.j1 : Nat → List (S31) → Int → Int → Bool → List (List Int) → List (S33) → Int → Option (Bool)
  | 0, _, _, _, _, _, _, _ => none
  | k + 1, x12, x13, x14, x27, x105000, x105001, x105002 => if x27 = true then (some false) else (switchboardref15_Small.l1 k x12 x13 x14 x105001 (x105001.length : Int) 0)
def switchboardref15_Small.l1 : Nat → List (S31) → Int → Int → List (S33) → Int → Int → Option (Bool)
  | 0, _, _, _, _, _, _ => none
  | k + 1, x12, x13, x14, x29, x30, x31 => if x31 < x30 then (if 0 ≤ x31 then (if x31 < (x29.length : Int) then ((switchboardref03_Small.f k ((rd_T33 x29 x31).f0)).bind fun t108 => (if t108 = true then ((switchboardref03_Small.f k ((rd_T33 x29 x31).f1)).bind fun t109 => (if t109 = true then (switchboardref15_Small.l1 k x12 x13 x14 x29 x30 (wrap64 (x31 + 1))) else (some false))) else (some false))) else (none)) else (none)) else (switchboardref15_Small.l0 k x12 x13 (wrap64 (x14 + 1)))
end
def switchboardref15_Small.f (k : Nat) (a0_0 : Int) (l0_1 : List (S31)) : Option (Bool) := if (l0_1.length : Int) > 5 then (some false) else (switchboardref15_Small.l0 k l0_1 (l0_1.length : Int) 0)
theorem switchboardref15_Small.mono_l : ∀ k, (∀ y0 y1 y2, LeO (switchboardref15_Small.l0 k y0 y1 y2) (switchboardref15_Small.l0 (k + 1) y0 y1 y2)) ∧ (∀ y0 y1 y2 y3 y4 y5 y6, LeO (switchboardref15_Small.j1 k y0 y1 y2 y3 y4 y5 y6) (switchboardref15_Small.j1 (k + 1) y0 y1 y2 y3 y4 y5 y6)) ∧ (∀ y0 y1 y2 y3 y4 y5, LeO (switchboardref15_Small.l1 k y0 y1 y2 y3 y4 y5) (switchboardref15_Small.l1 (k + 1) y0 y1 y2 y3 y4 y5))
  | 0 => ⟨fun _ _ _ r h => by simp [switchboardref15_Small.l0] at h, fun _ _ _ _ _ _ _ r h => by simp [switchboardref15_Small.j1] at h, fun _ _ _ _ _ _ r h => by simp [switchboardref15_Small.l1] at h⟩
  | k + 1 => by
    obtain ⟨ih0, ih1, ih2⟩ := switchboardref15_Small.mono_l k
    refine ⟨?_, ?_, ?_⟩
    · intro y0 y1 y2
      unfold switchboardref15_Small.l0
      repeat' first
      | (with_reducible exact ih0 _ _ _)
      | (with_reducible exact ih1 _ _ _ _ _ _ _)
      | (with_reducible exact ih2 _ _ _ _ _ _)
      | (with_reducible exact switchboardref03_Small.mono _ _)
      | (with_reducible exact LeO.refl _)
      | (with_reducible exact LeO.none _)
      | (with_reducible refine LeO.ite ?_ ?_)
      | (with_reducible refine LeO.bind ?_ (fun _ => ?_))
      | exact ih0 _ _ _
      | exact ih1 _ _ _ _ _ _ _
      | exact ih2 _ _ _ _ _ _
      | exact switchboardref03_Small.mono _ _
      | exact LeO.none _
      | refine LeO.ite ?_ ?_
      | refine LeO.bind ?_ (fun _ => ?_)
    · intro y0 y1 y2 y3 y4 y5 y6
      unfold switchboardref15_Small.j1
      repeat' first
      | (with_reducible exact ih0 _ _ _)
      | (with_reducible exact ih1 _ _ _ _ _ _ _)
      | (with_reducible exact ih2 _ _ _ _ _ _)
      | (with_reducible exact switchboardref03_Small.mono _ _)
      | (with_reducible exact LeO.refl _)
      | (with_reducible exact LeO.none _)
      | (with_reducible refine LeO.ite ?_ ?_)
      | (with_reducible refine LeO.bind ?_ (fun _ => ?_))
      | exact ih0 _ _ _
      | exact ih1 _ _ _ _ _ _ _
      | exact ih2 _ _ _ _ _ _
      | exact switchboardref03_Small.mono _ _
      | exact LeO.none _
      | refine LeO.ite ?_ ?_
      | refine LeO.bind ?_ (fun _ => ?_)
    · intro y0 y1 y2 y3 y4 y5
      unfold switchboardref15_Small.l1
      repeat' first
      | (with_reducible exact ih0 _ _ _)
      | (with_reducible exact ih1 _ _ _ _ _ _ _)
      | (with_reducible exact ih2 _ _ _ _ _ _)
      | (with_reducible exact switchboardref03_Small.mono _ _)
      | (with_reducible exact LeO.refl _)
      | (with_reducible exact LeO.none _)
      | (with_reducible refine LeO.ite ?_ ?_)
      | (with_reducible refine LeO.bind ?_ (fun _ => ?_))
      | exact ih0 _ _ _
      | exact ih1 _ _ _ _ _ _ _
      | exact ih2 _ _ _ _ _ _
      | exact switchboardref03_Small.mono _ _
      | exact LeO.none _
      | refine LeO.ite ?_ ?_
      | refine LeO.bind ?_ (fun _ => ?_)
theorem switchboardref15_Small.mono : ∀ a0 a1 k, LeO (switchboardref15_Small.f k a0 a1) (switchboardref15_Small.f (k + 1) a0 a1) := by
  intro a0 a1 k
  obtain ⟨ih0, ih1, ih2⟩ := switchboardref15_Small.mono_l k
  unfold switchboardref15_Small.f
  repeat' first
      | (with_reducible exact ih0 _ _ _)
      | (with_reducible exact ih1 _ _ _ _ _ _ _)
      | (with_reducible exact ih2 _ _ _ _ _ _)
      | (with_reducible exact switchboardref03_Small.mono _ _)
      | (with_reducible exact LeO.refl _)
      | (with_reducible exact LeO.none _)
      | (with_reducible refine LeO.ite ?_ ?_)
      | (with_reducible refine LeO.bind ?_ (fun _ => ?_))
      | exact ih0 _ _ _
      | exact ih1 _ _ _ _ _ _ _
      | exact ih2 _ _ _ _ _ _
      | exact switchboardref03_Small.mono _ _
      | exact LeO.none _
      | refine LeO.ite ?_ ?_
      | refine LeO.bind ?_ (fun _ => ?_)
set_option maxHeartbeats 8000000 in
set_option maxRecDepth 100000 in
theorem switchboardref15_Small.calls (k : Nat) (a0_0 : Int) (A0_1 : Option Addr) (c0_1 : Nat) (l0_1 : List (S31)) (r : Bool) (w : World) (hr0_1 : Kd.C k31 w A0_1 l0_1.length l0_1) (hc0_1 : l0_1.length ≤ c0_1) (h : switchboardref15_Small.f k a0_0 l0_1 = some r) :
    Calls Try.prog 5 #[.agg #[.int .i64 a0_0, .slice A0_1 l0_1.length c0_1]] w fun e w' => e = .returned (.bool r) ∧ Below w.heap.size w w' := by
  have hu24 := Try.underlying24
  have hu31 := Try.underlying31
  have hu33 := Try.underlying33
  have HR0_1 := Aside0.mk hr0_1
  have HC0_1 := Aside0.mk hc0_1
  clear hr0_1 hc0_1
  have HB := Aside0.mk (Below.refl w.heap.size w)
  have H : (if (l0_1.length : Int) > 5 then (some false) else (switchboardref15_Small.l0 k l0_1 (l0_1.length : Int) 0)) = some r := h
  clear h
  by_cases c2 : (l0_1.length : Int) > 5
  · rw [if_pos c2] at H
    have c2b0 : decide (5 < (l0_1.length : Int)) = true := decide_eq_true c2
    have c2b1 : decide (5 < l0_1.length) = true := decide_eq_true (by omega)
    clear c2
    obtain rfl := Option.some.inj H
    go_enter Try.func5, Try.ntmps5
    go_wp2_with (first | ((with_reducible refine gate_dst (N := 1) rfl ?_); refine box_event ?hg (N := 1) ?hd (cs := #[.int .i64 a0_0, .slice A0_1 l0_1.length c0_1]) (t := 24) ?hr ?_; (case hd => rfl); (case hg => rfl); (case hr => first | (go_simp; done) | (go_simp; rfl)); intro gb102 hg w3 hbox hb; have n0_ := Aside0.mk (below_step (by repeat (first | (with_reducible first | exact HB.out | apply below_alloc | apply pw_below_drewN | apply below_drew1) | exact HB.out)) hb); have n1_ := Aside0.mk (hbox); have n2_ := Aside0.mk ((by rw [hg]; exact (below_size (by repeat (first | (with_reducible first | exact HB.out | apply below_alloc | apply pw_below_drewN | apply below_drew1) | exact HB.out))) : w.heap.size ≤ gb102)); have n3_ := Aside0.mk ((by rw [hg]; exact (below_size (by repeat (first | (with_reducible first | exact HB.out | apply below_alloc | apply pw_below_drewN | apply below_drew1) | exact HB.out))) : w.heap.size ≤ gb102)); clear HB; have HB := n0_; have BK102 := n1_; have GW102 := n2_; have GE102 := n3_; clear n0_ n1_ n2_ n3_; clear hb hbox hg; have hcz4_0 : w3.cell? ⟨gb102, 0, none⟩ = some (.int .i64 a0_0) := (blk_cell BK102.out 0).trans rfl; have hcz4_1 : w3.cell? ⟨gb102, 1, none⟩ = some (.slice A0_1 l0_1.length c0_1) := (blk_cell BK102.out 1).trans rfl; have hfz4_0 := blk_frozen BK102.out 0; have hfz4_1 := blk_frozen BK102.out 1))
    go_ret
    exact ⟨by first | rfl | (simp [errW_none, errW_some] <;> rfl) | (simp [*, errW_none, errW_some] <;> rfl), by repeat (first | (with_reducible first | exact HB.out | apply below_alloc | apply pw_below_drewN | apply below_drew1 | refine below_set ?_ GE102.out) | exact HB.out)⟩
  · rw [if_neg c2] at H
    have c2b0 : decide (5 < (l0_1.length : Int)) = false := decide_eq_false c2
    have c2b1 : decide (5 < l0_1.length) = false := decide_eq_false (by omega)
    clear c2
    have H' := Aside0.mk H
    clear H
    go_enter Try.func5, Try.ntmps5
    go_wp2_with (first | ((with_reducible refine gate_dst (N := 1) rfl ?_); refine box_event ?hg (N := 1) ?hd (cs := #[.int .i64 a0_0, .slice A0_1 l0_1.length c0_1]) (t := 24) ?hr ?_; (case hd => rfl); (case hg => rfl); (case hr => first | (go_simp; done) | (go_simp; rfl)); intro gb102 hg w5 hbox hb; have n0_ := Aside0.mk (below_step (by repeat (first | (with_reducible first | exact HB.out | apply below_alloc | apply pw_below_drewN | apply below_drew1) | exact HB.out)) hb); have n1_ := Aside0.mk (hbox); have n2_ := Aside0.mk ((by rw [hg]; exact (below_size (by repeat (first | (with_reducible first | exact HB.out | apply below_alloc | apply pw_below_drewN | apply below_drew1) | exact HB.out))) : w.heap.size ≤ gb102)); have n3_ := Aside0.mk ((by rw [hg]; exact (below_size (by repeat (first | (with_reducible first | exact HB.out | apply below_alloc | apply pw_below_drewN | apply below_drew1) | exact HB.out))) : w.heap.size ≤ gb102)); clear HB; have HB := n0_; have BK102 := n1_; have GW102 := n2_; have GE102 := n3_; clear n0_ n1_ n2_ n3_; clear hb hbox hg; have hcz6_0 : w5.cell? ⟨gb102, 0, none⟩ = some (.int .i64 a0_0) := (blk_cell BK102.out 0).trans rfl; have hcz6_1 : w5.cell? ⟨gb102, 1, none⟩ = some (.slice A0_1 l0_1.length c0_1) := (blk_cell BK102.out 1).trans rfl; have hfz6_0 := blk_frozen BK102.out 0; have hfz6_1 := blk_frozen BK102.out 1))
    go_loopg [14] k (fun kq v14 w' => ∃ (x14_1 : Int), v14 = .int .i64 x14_1 ∧ Aside0 (switchboardref15_Small.l0 kq l0_1 (l0_1.length : Int) x14_1 = some r) ∧ Aside0 (kq ≤ k) ∧ Aside0 (w'.heap[gb102]? = some (.cells #[.int .i64 a0_0, (.slice A0_1 l0_1.length c0_1)] 24 (0, 0))) ∧ Aside0 (Below w.heap.size w w'))
    case atStart => exact ⟨(0), (by first | rfl | (simp; done) | (simp [*]; done)), H', ⟨Nat.le_refl _⟩, ⟨by (with_reducible repeat (first | refine blk_drewN ?_ _ | refine blk_drew ?_ | refine blk_alloc ?_ _)); exact BK102.out⟩, ⟨by repeat (first | (with_reducible first | exact HB.out | apply below_alloc | apply pw_below_drewN | apply below_drew1 | refine below_set ?_ GE102.out) | exact HB.out)⟩⟩
    case round =>
      clear H'
      try clear c2
      try clear c2b0
      try clear c2b1
      try clear p2
      try clear c5
      try clear hcz4_0
      try clear hcz4_1
      try clear hcz6_0
      try clear hcz6_1
      try clear hfz4_0
      try clear hfz4_1
      try clear hfz6_0
      try clear hfz6_1
      obtain ⟨x14_1, rfl, HA, HK1, BK102, HB⟩ := hrel
      cases gk with
      | zero => exact absurd HA.out (by simp [switchboardref15_Small.l0])
      | succ k1 =>
        have H := HA.out
        clear HA
        simp only [switchboardref15_Small.l0] at H
        by_cases c7 : x14_1 < (l0_1.length : Int)
        · rw [if_pos c7] at H
          have c7b0 : decide (x14_1 < (l0_1.length : Int)) = true := decide_eq_true c7
          clear c7
          by_cases c8 : 0 ≤ x14_1
          · rw [if_pos c8] at H
            have c8b0 : decide (0 ≤ x14_1) = true := decide_eq_true c8
            clear c8
            by_cases c9 : x14_1 < (l0_1.length : Int)
            · rw [if_pos c9] at H
              have c9b0 : decide (x14_1 < (l0_1.length : Int)) = true := decide_eq_true c9
              clear c9
              have HC10 := Aside0.mk H
              clear H
              have p103 : 0 ≤ (x14_1 : Int) := of_decide_eq_true (by first | (with_reducible assumption) | assumption)
              have q103 : x14_1 < (l0_1.length : Int) := of_decide_eq_true (by first | (with_reducible assumption) | assumption)
              obtain ⟨ad103, A103_0, c103_0, A103_1, c103_1, e103, hx103_0, hx103_1, hx103_2, hl103_0, hi103_0, hl103_1, hi103_1⟩ := at_T31 HR0_1.out x14_1 p103 q103
              cases e103
              replace hx103_0 := (HB.out.cell (World.block_lt_of_cell? w _ hx103_0)).trans hx103_0
              replace hx103_1 := (HB.out.cell (World.block_lt_of_cell? w _ hx103_1)).trans hx103_1
              replace hx103_2 := (HB.out.cell (World.block_lt_of_cell? w _ hx103_2)).trans hx103_2
              have HR103_0 := Aside0.mk hi103_0
              have HC103_0 := Aside0.mk hl103_0
              clear hi103_0 hl103_0
              have HR103_1 := Aside0.mk hi103_1
              have HC103_1 := Aside0.mk hl103_1
              clear hi103_1 hl103_1
              replace p103 := eq_true p103
              replace q103 := eq_true q103
              go_upto_region 6 with (first | ((with_reducible refine gate_dst (N := 4) rfl ?_); refine box_event ?hg (N := 4) ?hd (cs := #[.slice none 0 0, .slice none 0 0, .int .i64 0]) (t := 31) ?hr ?_; (case hd => rfl); (case hg => rfl); (case hr => first | (go_simp; done) | (go_simp; rfl)); intro gb104 hg w11 hbox hb; have n0_ := Aside0.mk (blk_below (g := gb102) (o := .cells #[.int .i64 a0_0, .slice (some ad103) l0_1.length c0_1] 24 (0, 0)) (by (with_reducible repeat (first | refine blk_drewN ?_ _ | refine blk_drew ?_ | refine blk_alloc ?_ _)); exact BK102.out) hb); have n1_ := Aside0.mk (below_step (by repeat (first | (with_reducible first | exact HB.out | apply below_alloc | apply pw_below_drewN | apply below_drew1 | refine below_set ?_ GE102.out) | exact HB.out)) hb); have n2_ := Aside0.mk (hbox); have n3_ := Aside0.mk ((by rw [hg]; exact (below_size (by repeat (first | (with_reducible first | exact HB.out | apply below_alloc | apply pw_below_drewN | apply below_drew1 | refine below_set ?_ GE102.out) | exact HB.out))) : w.heap.size ≤ gb104)); have n4_ := Aside0.mk ((by rw [hg]; exact (below_size (by repeat (first | (with_reducible first | exact HB.out | apply below_alloc | apply pw_below_drewN | apply below_drew1 | refine below_set ?_ GE102.out) | exact HB.out))) : w.heap.size ≤ gb104)); have n5_ := Aside0.mk ((by rw [hg]; exact Nat.ne_of_lt (blk_lt (g := gb102) (o := .cells #[.int .i64 a0_0, .slice (some ad103) l0_1.length c0_1] 24 (0, 0)) (by (with_reducible repeat (first | refine blk_drewN ?_ _ | refine blk_drew ?_ | refine blk_alloc ?_ _)); exact BK102.out)) : gb102 ≠ gb104)); have n6_ := Aside0.mk ((by rw [hg]; exact Nat.ne_of_gt (blk_lt (g := gb102) (o := .cells #[.int .i64 a0_0, .slice (some ad103) l0_1.length c0_1] 24 (0, 0)) (by (with_reducible repeat (first | refine blk_drewN ?_ _ | refine blk_drew ?_ | refine blk_alloc ?_ _)); exact BK102.out)) : gb104 ≠ gb102)); clear BK102; clear HB; have BK102 := n0_; have HB := n1_; have BK104 := n2_; have GW104 := n3_; have GE104 := n4_; have NB102_104 := n5_; have NB104_102 := n6_; clear n0_ n1_ n2_ n3_ n4_ n5_ n6_; clear hb hbox hg; have hnb12 := NB104_102.out; have hnc12 := NB102_104.out; have hcz13_0 : w11.cell? ⟨gb104, 0, none⟩ = some (.slice none 0 0) := (blk_cell BK104.out 0).trans rfl; have hcz13_1 : w11.cell? ⟨gb104, 1, none⟩ = some (.slice none 0 0) := (blk_cell BK104.out 1).trans rfl; have hcz13_2 : w11.cell? ⟨gb104, 2, none⟩ = some (.int .i64 0) := (blk_cell BK104.out 2).trans rfl; have hfz13_0 := blk_frozen BK104.out 0; have hfz13_1 := blk_frozen BK104.out 1; have hfz13_2 := blk_frozen BK104.out 2))
              (try simp only [Act.put, List.setIfInBounds_toArray, List.set_cons_zero, List.set_cons_succ])
              go_cut [27] (fun v27 wc => ∃ (kq : Nat) (x27_9 : Bool), v27 = .bool x27_9 ∧ Aside0 (switchboardref15_Small.j1 kq l0_1 (l0_1.length : Int) x14_1 x27_9 ((rd_T31 l0_1 x14_1).f0) ((rd_T31 l0_1 x14_1).f1) ((rd_T31 l0_1 x14_1).f2) = some r) ∧ Aside0 (kq ≤ k1) ∧ Aside0 (wc.heap[gb102]? = some (.cells #[.int .i64 a0_0, (.slice (some ad103) l0_1.length c0_1)] 24 (0, 0))) ∧ Aside0 (wc.heap[gb104]? = some (.cells #[(.slice A103_0 ((rd_T31 l0_1 x14_1).f0).length c103_0), (.slice A103_1 ((rd_T31 l0_1 x14_1).f1).length c103_1), .int .i64 ((rd_T31 l0_1 x14_1).f2)] 31 (0, 0))) ∧ Aside0 (Below w.heap.size w wc))
              case first =>
                have H := HC10.out
                clear HC10
                by_cases c14 : (((rd_T31 l0_1 x14_1).f1).length : Int) > 9
                · rw [if_pos c14] at H
                  have c14b0 : decide (9 < (((rd_T31 l0_1 x14_1).f1).length : Int)) = true := decide_eq_true c14
                  have c14b1 : decide (9 < ((rd_T31 l0_1 x14_1).f1).length) = true := decide_eq_true (by omega)
                  clear c14
                  (first | rw [c14b0] | (simp only [i64_w, i32_w]; rw [c14b0]) | skip)
                  have H' := Aside0.mk H
                  clear H
                  have hnb15 := NB104_102.out
                  have hnc15 := NB102_104.out
                  have hcz16_0 : w11.cell? ⟨gb104, 0, none⟩ = some (.slice none 0 0) := (blk_cell BK104.out 0).trans rfl
                  have hcz16_1 : w11.cell? ⟨gb104, 1, none⟩ = some (.slice none 0 0) := (blk_cell BK104.out 1).trans rfl
                  have hcz16_2 : w11.cell? ⟨gb104, 2, none⟩ = some (.int .i64 0) := (blk_cell BK104.out 2).trans rfl
                  have hfz16_0 := blk_frozen BK104.out 0
                  have hfz16_1 := blk_frozen BK104.out 1
                  have hfz16_2 := blk_frozen BK104.out 2
                  go_wp2
                  go_meet
                  case rel => exact ⟨_, (true), (by first | rfl | (simp; done) | (simp [*]; done)), H', ⟨by have := HK1.out; first | omega | exact Nat.le_refl _⟩, ⟨by (with_reducible repeat (first | refine blk_drewN ?_ _ | refine blk_drew ?_ | refine blk_alloc ?_ _)); refine blk_far ?_ NB102_104.out _; (with_reducible repeat (first | refine blk_drewN ?_ _ | refine blk_drew ?_ | refine blk_alloc ?_ _)); refine blk_far ?_ NB102_104.out _; (with_reducible repeat (first | refine blk_drewN ?_ _ | refine blk_drew ?_ | refine blk_alloc ?_ _)); refine blk_far ?_ NB102_104.out _; (with_reducible repeat (first | refine blk_drewN ?_ _ | refine blk_drew ?_ | refine blk_alloc ?_ _)); exact BK102.out⟩, ⟨by (with_reducible repeat (first | refine blk_drewN ?_ _ | refine blk_drew ?_ | refine blk_alloc ?_ _)); refine blk_put (cs := #[.slice A103_0 ((rd_T31 l0_1 x14_1).f0).length c103_0, .slice A103_1 ((rd_T31 l0_1 x14_1).f1).length c103_1, .int .i64 0]) ?_ 2 _ rfl; (with_reducible repeat (first | refine blk_drewN ?_ _ | refine blk_drew ?_ | refine blk_alloc ?_ _)); refine blk_put (cs := #[.slice A103_0 ((rd_T31 l0_1 x14_1).f0).length c103_0, .slice none 0 0, .int .i64 0]) ?_ 1 _ rfl; (with_reducible repeat (first | refine blk_drewN ?_ _ | refine blk_drew ?_ | refine blk_alloc ?_ _)); refine blk_put (cs := #[.slice none 0 0, .slice none 0 0, .int .i64 0]) ?_ 0 _ rfl; (with_reducible repeat (first | refine blk_drewN ?_ _ | refine blk_drew ?_ | refine blk_alloc ?_ _)); exact BK104.out⟩, ⟨by repeat (first | (with_reducible first | exact HB.out | apply below_alloc | apply pw_below_drewN | apply below_drew1 | refine below_set ?_ GE102.out | refine below_set ?_ GE104.out) | exact HB.out)⟩⟩
                · rw [if_neg c14] at H
                  have c14b0 : decide (9 < (((rd_T31 l0_1 x14_1).f1).length : Int)) = false := decide_eq_false c14
                  have c14b1 : decide (9 < ((rd_T31 l0_1 x14_1).f1).length) = false := decide_eq_false (by omega)
                  clear c14
                  (first | rw [c14b0] | (simp only [i64_w, i32_w]; rw [c14b0]) | skip)
                  replace H := Option.bind_eq_some_iff.mp H
                  obtain ⟨t105, A170, H⟩ := H
                  replace H : (switchboardref15_Small.j1 k1 l0_1 (l0_1.length : Int) x14_1 (!t105) ((rd_T31 l0_1 x14_1).f0) ((rd_T31 l0_1 x14_1).f1) ((rd_T31 l0_1 x14_1).f2)) = some r := H
                  have A17 := Aside0.mk A170
                  clear A170
                  have H' := Aside0.mk H
                  clear H
                  have hnb18 := NB104_102.out
                  have hnc18 := NB102_104.out
                  have hcz19_0 : w11.cell? ⟨gb104, 0, none⟩ = some (.slice none 0 0) := (blk_cell BK104.out 0).trans rfl
                  have hcz19_1 : w11.cell? ⟨gb104, 1, none⟩ = some (.slice none 0 0) := (blk_cell BK104.out 1).trans rfl
                  have hcz19_2 : w11.cell? ⟨gb104, 2, none⟩ = some (.int .i64 0) := (blk_cell BK104.out 2).trans rfl
                  have hfz19_0 := blk_frozen BK104.out 0
                  have hfz19_1 := blk_frozen BK104.out 1
                  have hfz19_2 := blk_frozen BK104.out 2
                  go_wp2_with (first | (go_at_call 6; (with_reducible refine (switchboardref03_Small.calls k1 _ _ ((rd_T31 l0_1 x14_1).f0) t105 _ ?side1 ?side2 A17.out).mono ?_); (case side1 => exact Kd.C_below HR103_0.out (by repeat (first | (with_reducible first | exact HB.out | apply below_alloc | apply pw_below_drewN | apply below_drew1 | refine below_set ?_ GE102.out | refine below_set ?_ GE104.out) | exact HB.out))); (case side2 => exact HC103_0.out); rintro e w' ⟨rfl, ⟨nd, rfl⟩⟩))
                  go_meet
                  case rel => exact ⟨_, (!t105), (by first | rfl | (simp; done) | (simp [*]; done)), H', ⟨by have := HK1.out; first | omega | exact Nat.le_refl _⟩, ⟨by (with_reducible repeat (first | refine blk_drewN ?_ _ | refine blk_drew ?_ | refine blk_alloc ?_ _)); refine blk_far ?_ NB102_104.out _; (with_reducible repeat (first | refine blk_drewN ?_ _ | refine blk_drew ?_ | refine blk_alloc ?_ _)); refine blk_far ?_ NB102_104.out _; (with_reducible repeat (first | refine blk_drewN ?_ _ | refine blk_drew ?_ | refine blk_alloc ?_ _)); refine blk_far ?_ NB102_104.out _; (with_reducible repeat (first | refine blk_drewN ?_ _ | refine blk_drew ?_ | refine blk_alloc ?_ _)); exact BK102.out⟩, ⟨by (with_reducible repeat (first | refine blk_drewN ?_ _ | refine blk_drew ?_ | refine blk_alloc ?_ _)); refine blk_put (cs := #[.slice A103_0 ((rd_T31 l0_1 x14_1).f0).length c103_0, .slice A103_1 ((rd_T31 l0_1 x14_1).f1).length c103_1, .int .i64 0]) ?_ 2 _ rfl; (with_reducible repeat (first | refine blk_drewN ?_ _ | refine blk_drew ?_ | refine blk_alloc ?_ _)); refine blk_put (cs := #[.slice A103_0 ((rd_T31 l0_1 x14_1).f0).length c103_0, .slice none 0 0, .int .i64 0]) ?_ 1 _ rfl; (with_reducible repeat (first | refine blk_drewN ?_ _ | refine blk_drew ?_ | refine blk_alloc ?_ _)); refine blk_put (cs := #[.slice none 0 0, .slice none 0 0, .int .i64 0]) ?_ 0 _ rfl; (with_reducible repeat (first | refine blk_drewN ?_ _ | refine blk_drew ?_ | refine blk_alloc ?_ _)); exact BK104.out⟩, ⟨by repeat (first | (with_reducible first | exact HB.out | apply below_alloc | apply pw_below_drewN | apply below_drew1 | refine below_set ?_ GE102.out | refine below_set ?_ GE104.out) | exact HB.out)⟩⟩
              case rest =>
                clear HC10
                try clear c1
                try clear p1
                try clear q1
                try clear hx1
                try clear c2
                try clear c2b0
                try clear c2b1
                try clear p2
                try clear c5
                try clear c7
                try clear c7b0
                try clear c8
                try clear c8b0
                try clear c9
                try clear c9b0
                try clear c10
                try clear p10
                try clear q10
                try clear hx10
                try clear c12
                try clear c14
                try clear c14b0
                try clear c14b1
                try clear c15
                try clear c18
                try clear hcz13_0
                try clear hcz13_1
                try clear hcz13_2
                try clear hcz16_0
                try clear hcz16_1
                try clear hcz16_2
                try clear hcz19_0
                try clear hcz19_1
                try clear hcz19_2
                try clear hcz4_0
                try clear hcz4_1
                try clear hcz6_0
                try clear hcz6_1
                try clear hfz13_0
                try clear hfz13_1
                try clear hfz13_2
                try clear hfz16_0
                try clear hfz16_1
                try clear hfz16_2
                try clear hfz19_0
                try clear hfz19_1
                try clear hfz19_2
                try clear hfz4_0
                try clear hfz4_1
                try clear hfz6_0
                try clear hfz6_1
                try clear hx103_0
                try clear hx103_1
                try clear hx103_2
                try clear p103
                try clear p2
                try clear q103
                obtain ⟨kq, x27_9, rfl, HA, HJ9, BK102, BK104, HB⟩ := hcut
                cases kq with
                | zero => exact absurd HA.out (by simp [switchboardref15_Small.j1])
                | succ kj9 =>
                  have H := HA.out
                  clear HA
                  simp only [switchboardref15_Small.j1] at H
                  by_cases c20 : x27_9 = true
                  · subst c20
                    have H1 : (some false) = some r := by rw [if_pos rfl] at H; exact H
                    clear H
                    have H := H1
                    clear H1
                    obtain rfl := Option.some.inj H
                    go_wp2
                    go_ret
                    exact ⟨by first | rfl | (simp [errW_none, errW_some] <;> rfl) | (simp [*, errW_none, errW_some] <;> rfl), by repeat (first | (with_reducible first | exact HB.out | apply below_alloc | apply pw_below_drewN | apply below_drew1 | refine below_set ?_ GE102.out | refine below_set ?_ GE104.out) | exact HB.out)⟩
                  · replace c20 := Bool.eq_false_iff.mpr c20
                    subst c20
                    have H1 : (switchboardref15_Small.l1 kj9 l0_1 (l0_1.length : Int) x14_1 ((rd_T31 l0_1 x14_1).f1) (((rd_T31 l0_1 x14_1).f1).length : Int) 0) = some r := by rw [if_neg (show ¬ (false = true) by decide)] at H; exact H
                    clear H
                    have H := H1
                    clear H1
                    have H' := Aside0.mk H
                    clear H
                    have hnb21 := NB104_102.out
                    have hnc21 := NB102_104.out
                    have hcz22_0 : wc.cell? ⟨gb104, 0, none⟩ = some (.slice A103_0 ((rd_T31 l0_1 x14_1).f0).length c103_0) := (blk_cell BK104.out 0).trans rfl
                    have hcz22_1 : wc.cell? ⟨gb104, 1, none⟩ = some (.slice A103_1 ((rd_T31 l0_1 x14_1).f1).length c103_1) := (blk_cell BK104.out 1).trans rfl
                    have hcz22_2 : wc.cell? ⟨gb104, 2, none⟩ = some (.int .i64 ((rd_T31 l0_1 x14_1).f2)) := (blk_cell BK104.out 2).trans rfl
                    have hfz22_0 := blk_frozen BK104.out 0
                    have hfz22_1 := blk_frozen BK104.out 1
                    have hfz22_2 := blk_frozen BK104.out 2
                    go_wp2
                    go_loopg [31] kj9 (fun kq v31 w' => ∃ (x31_3 : Int), v31 = .int .i64 x31_3 ∧ Aside0 (switchboardref15_Small.l1 kq l0_1 (l0_1.length : Int) x14_1 ((rd_T31 l0_1 x14_1).f1) (((rd_T31 l0_1 x14_1).f1).length : Int) x31_3 = some r) ∧ Aside0 (kq ≤ kj9) ∧ Aside0 (w'.heap[gb102]? = some (.cells #[.int .i64 a0_0, (.slice (some ad103) l0_1.length c0_1)] 24 (0, 0))) ∧ Aside0 (w'.heap[gb104]? = some (.cells #[(.slice A103_0 ((rd_T31 l0_1 x14_1).f0).length c103_0), (.slice A103_1 ((rd_T31 l0_1 x14_1).f1).length c103_1), .int .i64 ((rd_T31 l0_1 x14_1).f2)] 31 (0, 0))) ∧ Aside0 (Below w.heap.size w w'))
                    case atStart => exact ⟨(0), (by first | rfl | (simp; done) | (simp [*]; done)), H', ⟨Nat.le_refl _⟩, ⟨by (with_reducible repeat (first | refine blk_drewN ?_ _ | refine blk_drew ?_ | refine blk_alloc ?_ _)); exact BK102.out⟩, ⟨by (with_reducible repeat (first | refine blk_drewN ?_ _ | refine blk_drew ?_ | refine blk_alloc ?_ _)); exact BK104.out⟩, ⟨by repeat (first | (with_reducible first | exact HB.out | apply below_alloc | apply pw_below_drewN | apply below_drew1 | refine below_set ?_ GE102.out | refine below_set ?_ GE104.out) | exact HB.out)⟩⟩
                    case round =>
                      clear H'
                      try clear c1
                      try clear p1
                      try clear q1
                      try clear hx1
                      try clear c2
                      try clear c2b0
                      try clear c2b1
                      try clear p2
                      try clear c5
                      try clear c7
                      try clear c7b0
                      try clear c8
                      try clear c8b0
                      try clear c9
                      try clear c9b0
                      try clear c10
                      try clear p10
                      try clear q10
                      try clear hx10
                      try clear c12
                      try clear c14
                      try clear c14b0
                      try clear c14b1
                      try clear c15
                      try clear c18
                      try clear c20
                      try clear c21
                      try clear hcz13_0
                      try clear hcz13_1
                      try clear hcz13_2
                      try clear hcz16_0
                      try clear hcz16_1
                      try clear hcz16_2
                      try clear hcz19_0
                      try clear hcz19_1
                      try clear hcz19_2
                      try clear hcz22_0
                      try clear hcz22_1
                      try clear hcz22_2
                      try clear hcz4_0
                      try clear hcz4_1
                      try clear hcz6_0
                      try clear hcz6_1
                      try clear hfz13_0
                      try clear hfz13_1
                      try clear hfz13_2
                      try clear hfz16_0
                      try clear hfz16_1
                      try clear hfz16_2
                      try clear hfz19_0
                      try clear hfz19_1
                      try clear hfz19_2
                      try clear hfz22_0
                      try clear hfz22_1
                      try clear hfz22_2
                      try clear hfz4_0
                      try clear hfz4_1
                      try clear hfz6_0
                      try clear hfz6_1
                      try clear hx103_0
                      try clear hx103_1
                      try clear hx103_2
                      try clear p1
                      try clear p10
                      try clear p103
                      try clear p2
                      try clear q1
                      try clear q10
                      try clear q103
                      obtain ⟨x31_3, rfl, HA, HK3, BK102, BK104, HB⟩ := hrel
                      cases gk with
                      | zero => exact absurd HA.out (by simp [switchboardref15_Small.l1])
                      | succ k3 =>
                        have H := HA.out
                        clear HA
                        simp only [switchboardref15_Small.l1] at H
                        by_cases c23 : x31_3 < (((rd_T31 l0_1 x14_1).f1).length : Int)
                        · rw [if_pos c23] at H
                          have c23b0 : decide (x31_3 < (((rd_T31 l0_1 x14_1).f1).length : Int)) = true := decide_eq_true c23
                          clear c23
                          by_cases c24 : 0 ≤ x31_3
                          · rw [if_pos c24] at H
                            have c24b0 : decide (0 ≤ x31_3) = true := decide_eq_true c24
                            clear c24
                            by_cases c25 : x31_3 < (((rd_T31 l0_1 x14_1).f1).length : Int)
                            · rw [if_pos c25] at H
                              have c25b0 : decide (x31_3 < (((rd_T31 l0_1 x14_1).f1).length : Int)) = true := decide_eq_true c25
                              clear c25
                              replace H := Option.bind_eq_some_iff.mp H
                              obtain ⟨t108, A260, H⟩ := H
                              replace H : (if t108 = true then ((switchboardref03_Small.f k3 ((rd_T33 ((rd_T31 l0_1 x14_1).f1) x31_3).f1)).bind fun t109 => (if t109 = true then (switchboardref15_Small.l1 k3 l0_1 (l0_1.length : Int) x14_1 ((rd_T31 l0_1 x14_1).f1) (((rd_T31 l0_1 x14_1).f1).length : Int) (wrap64 (x31_3 + 1))) else (some false))) else (some false)) = some r := H
                              have A26 := Aside0.mk A260
                              clear A260
                              by_cases c27 : t108 = true
                              · subst c27
                                have H1 : ((switchboardref03_Small.f k3 ((rd_T33 ((rd_T31 l0_1 x14_1).f1) x31_3).f1)).bind fun t109 => (if t109 = true then (switchboardref15_Small.l1 k3 l0_1 (l0_1.length : Int) x14_1 ((rd_T31 l0_1 x14_1).f1) (((rd_T31 l0_1 x14_1).f1).length : Int) (wrap64 (x31_3 + 1))) else (some false))) = some r := by rw [if_pos rfl] at H; exact H
                                clear H
                                have H := H1
                                clear H1
                                replace H := Option.bind_eq_some_iff.mp H
                                obtain ⟨t109, A280, H⟩ := H
                                replace H : (if t109 = true then (switchboardref15_Small.l1 k3 l0_1 (l0_1.length : Int) x14_1 ((rd_T31 l0_1 x14_1).f1) (((rd_T31 l0_1 x14_1).f1).length : Int) (wrap64 (x31_3 + 1))) else (some false)) = some r := H
                                have A28 := Aside0.mk A280
                                clear A280
                                by_cases c29 : t109 = true
                                · subst c29
                                  have H1 : (switchboardref15_Small.l1 k3 l0_1 (l0_1.length : Int) x14_1 ((rd_T31 l0_1 x14_1).f1) (((rd_T31 l0_1 x14_1).f1).length : Int) (wrap64 (x31_3 + 1))) = some r := by rw [if_pos rfl] at H; exact H
                                  clear H
                                  have H := H1
                                  clear H1
                                  have H' := Aside0.mk H
                                  clear H
                                  have p106 : 0 ≤ (x31_3 : Int) := of_decide_eq_true (by first | (with_reducible assumption) | assumption)
                                  have q106 : x31_3 < (((rd_T31 l0_1 x14_1).f1).length : Int) := of_decide_eq_true (by first | (with_reducible assumption) | assumption)
                                  obtain ⟨ad106, A106_0, c106_0, A106_1, c106_1, e106, hx106_0, hx106_1, hl106_0, hi106_0, hl106_1, hi106_1⟩ := at_T33 HR103_1.out x31_3 p106 q106
                                  cases e106
                                  replace hx106_0 := (HB.out.cell (World.block_lt_of_cell? w _ hx106_0)).trans hx106_0
                                  replace hx106_1 := (HB.out.cell (World.block_lt_of_cell? w _ hx106_1)).trans hx106_1
                                  have HR106_0 := Aside0.mk hi106_0
                                  have HC106_0 := Aside0.mk hl106_0
                                  clear hi106_0 hl106_0
                                  have HR106_1 := Aside0.mk hi106_1
                                  have HC106_1 := Aside0.mk hl106_1
                                  clear hi106_1 hl106_1
                                  replace p106 := eq_true p106
                                  replace q106 := eq_true q106
                                  go_wp2_with (first | ((with_reducible refine gate_dst (N := 6) rfl ?_); refine box_event ?hg (N := 6) ?hd (cs := #[.slice none 0 0, .slice none 0 0]) (t := 33) ?hr ?_; (case hd => rfl); (case hg => rfl); (case hr => first | (go_simp; done) | (go_simp; rfl)); intro gb107 hg w30 hbox hb; have n0_ := Aside0.mk (blk_below (g := gb102) (o := .cells #[.int .i64 a0_0, .slice (some ad103) l0_1.length c0_1] 24 (0, 0)) (by (with_reducible repeat (first | refine blk_drewN ?_ _ | refine blk_drew ?_ | refine blk_alloc ?_ _)); exact BK102.out) hb); have n1_ := Aside0.mk (blk_below (g := gb104) (o := .cells #[.slice A103_0 ((rd_T31 l0_1 x14_1).f0).length c103_0, .slice (some ad106) ((rd_T31 l0_1 x14_1).f1).length c103_1, .int .i64 ((rd_T31 l0_1 x14_1).f2)] 31 (0, 0)) (by (with_reducible repeat (first | refine blk_drewN ?_ _ | refine blk_drew ?_ | refine blk_alloc ?_ _)); exact BK104.out) hb); have n2_ := Aside0.mk (below_step (by repeat (first | (with_reducible first | exact HB.out | apply below_alloc | apply pw_below_drewN | apply below_drew1 | refine below_set ?_ GE102.out | refine below_set ?_ GE104.out) | exact HB.out)) hb); have n3_ := Aside0.mk (hbox); have n4_ := Aside0.mk ((by rw [hg]; exact (below_size (by repeat (first | (with_reducible first | exact HB.out | apply below_alloc | apply pw_below_drewN | apply below_drew1 | refine below_set ?_ GE102.out | refine below_set ?_ GE104.out) | exact HB.out))) : w.heap.size ≤ gb107)); have n5_ := Aside0.mk ((by rw [hg]; exact (below_size (by repeat (first | (with_reducible first | exact HB.out | apply below_alloc | apply pw_below_drewN | apply below_drew1 | refine below_set ?_ GE102.out | refine below_set ?_ GE104.out) | exact HB.out))) : w.heap.size ≤ gb107)); have n6_ := Aside0.mk ((by rw [hg]; exact Nat.ne_of_lt (blk_lt (g := gb102) (o := .cells #[.int .i64 a0_0, .slice (some ad103) l0_1.length c0_1] 24 (0, 0)) (by (with_reducible repeat (first | refine blk_drewN ?_ _ | refine blk_drew ?_ | refine blk_alloc ?_ _)); exact BK102.out)) : gb102 ≠ gb107)); have n7_ := Aside0.mk ((by rw [hg]; exact Nat.ne_of_gt (blk_lt (g := gb102) (o := .cells #[.int .i64 a0_0, .slice (some ad103) l0_1.length c0_1] 24 (0, 0)) (by (with_reducible repeat (first | refine blk_drewN ?_ _ | refine blk_drew ?_ | refine blk_alloc ?_ _)); exact BK102.out)) : gb107 ≠ gb102)); have n8_ := Aside0.mk ((by rw [hg]; exact Nat.ne_of_lt (blk_lt (g := gb104) (o := .cells #[.slice A103_0 ((rd_T31 l0_1 x14_1).f0).length c103_0, .slice (some ad106) ((rd_T31 l0_1 x14_1).f1).length c103_1, .int .i64 ((rd_T31 l0_1 x14_1).f2)] 31 (0, 0)) (by (with_reducible repeat (first | refine blk_drewN ?_ _ | refine blk_drew ?_ | refine blk_alloc ?_ _)); exact BK104.out)) : gb104 ≠ gb107)); have n9_ := Aside0.mk ((by rw [hg]; exact Nat.ne_of_gt (blk_lt (g := gb104) (o := .cells #[.slice A103_0 ((rd_T31 l0_1 x14_1).f0).length c103_0, .slice (some ad106) ((rd_T31 l0_1 x14_1).f1).length c103_1, .int .i64 ((rd_T31 l0_1 x14_1).f2)] 31 (0, 0)) (by (with_reducible repeat (first | refine blk_drewN ?_ _ | refine blk_drew ?_ | refine blk_alloc ?_ _)); exact BK104.out)) : gb107 ≠ gb104)); clear BK102; clear BK104; clear HB; have BK102 := n0_; have BK104 := n1_; have HB := n2_; have BK107 := n3_; have GW107 := n4_; have GE107 := n5_; have NB102_107 := n6_; have NB107_102 := n7_; have NB104_107 := n8_; have NB107_104 := n9_; clear n0_ n1_ n2_ n3_ n4_ n5_ n6_ n7_ n8_ n9_; clear hb hbox hg; have hnb31 := NB107_102.out; have hnc31 := NB102_107.out; have hnb32 := NB107_104.out; have hnc32 := NB104_107.out; have hcz33_0 : w30.cell? ⟨gb107, 0, none⟩ = some (.slice none 0 0) := (blk_cell BK107.out 0).trans rfl; have hcz33_1 : w30.cell? ⟨gb107, 1, none⟩ = some (.slice none 0 0) := (blk_cell BK107.out 1).trans rfl; have hfz33_0 := blk_frozen BK107.out 0; have hfz33_1 := blk_frozen BK107.out 1) | ((with_reducible refine gate_callee (f := 6) rfl ?_); refine goesL_ (some 37) rfl rfl Try.func6 (by kernel_rfl) rfl #[.slice A106_0 ((rd_T33 ((rd_T31 l0_1 x14_1).f1) x31_3).f0).length c106_0] rfl (by (try simp only [List.map_toArray, List.map_cons, List.map_nil]); first | done | rfl | (simp only [List.length_drop, List.length_take]; rfl)) ?_; (with_reducible refine (switchboardref03_Small.calls k3 _ _ ((rd_T33 ((rd_T31 l0_1 x14_1).f1) x31_3).f0) true _ ?side1 ?side2 A26.out).mono ?_); (case side1 => exact Kd.C_below HR106_0.out (by repeat (first | (with_reducible first | exact HB.out | apply below_alloc | apply pw_below_drewN | apply below_drew1 | refine below_set ?_ GE102.out | refine below_set ?_ GE104.out | refine below_set ?_ GE107.out) | exact HB.out))); (case side2 => exact HC106_0.out); rintro e w' ⟨rfl, ⟨nd, rfl⟩⟩; refine ⟨_, rfl, ?_⟩) | (go_at_call 6; (with_reducible refine (switchboardref03_Small.calls k3 _ _ ((rd_T33 ((rd_T31 l0_1 x14_1).f1) x31_3).f1) true _ ?side1 ?side2 A28.out).mono ?_); (case side1 => exact Kd.C_below HR106_1.out (by repeat (first | (with_reducible first | exact HB.out | apply below_alloc | apply pw_below_drewN | apply below_drew1 | refine below_set ?_ GE102.out | refine below_set ?_ GE104.out | refine below_set ?_ GE107.out) | exact HB.out))); (case side2 => exact HC106_1.out); rintro e w' ⟨rfl, ⟨nd, rfl⟩⟩))
                                  go_roundg k3
                                  case measure => have := HK1.out; have := HJ9.out; have := HK3.out; omega
                                  case rel => exact ⟨(wrap64 (x31_3 + 1)), (by first | rfl | (simp; done) | (simp [*]; done)), H', ⟨by have := HK1.out; have := HJ9.out; have := HK3.out; omega⟩, ⟨by (with_reducible repeat (first | refine blk_drewN ?_ _ | refine blk_drew ?_ | refine blk_alloc ?_ _)); refine blk_far ?_ NB102_107.out _; (with_reducible repeat (first | refine blk_drewN ?_ _ | refine blk_drew ?_ | refine blk_alloc ?_ _)); refine blk_far ?_ NB102_107.out _; (with_reducible repeat (first | refine blk_drewN ?_ _ | refine blk_drew ?_ | refine blk_alloc ?_ _)); exact BK102.out⟩, ⟨by (with_reducible repeat (first | refine blk_drewN ?_ _ | refine blk_drew ?_ | refine blk_alloc ?_ _)); refine blk_far ?_ NB104_107.out _; (with_reducible repeat (first | refine blk_drewN ?_ _ | refine blk_drew ?_ | refine blk_alloc ?_ _)); refine blk_far ?_ NB104_107.out _; (with_reducible repeat (first | refine blk_drewN ?_ _ | refine blk_drew ?_ | refine blk_alloc ?_ _)); exact BK104.out⟩, ⟨by repeat (first | (with_reducible first | exact HB.out | apply below_alloc | apply pw_below_drewN | apply below_drew1 | refine below_set ?_ GE102.out | refine below_set ?_ GE104.out | refine below_set ?_ GE107.out) | exact HB.out)⟩⟩
                                · replace c29 := Bool.eq_false_iff.mpr c29
                                  subst c29
                                  have H1 : (some false) = some r := by rw [if_neg (show ¬ (false = true) by decide)] at H; exact H
                                  clear H
                                  have H := H1
                                  clear H1
                                  obtain rfl := Option.some.inj H
                                  have p106 : 0 ≤ (x31_3 : Int) := of_decide_eq_true (by first | (with_reducible assumption) | assumption)
                                  have q106 : x31_3 < (((rd_T31 l0_1 x14_1).f1).length : Int) := of_decide_eq_true (by first | (with_reducible assumption) | assumption)
                                  obtain ⟨ad106, A106_0, c106_0, A106_1, c106_1, e106, hx106_0, hx106_1, hl106_0, hi106_0, hl106_1, hi106_1⟩ := at_T33 HR103_1.out x31_3 p106 q106
                                  cases e106
                                  replace hx106_0 := (HB.out.cell (World.block_lt_of_cell? w _ hx106_0)).trans hx106_0
                                  replace hx106_1 := (HB.out.cell (World.block_lt_of_cell? w _ hx106_1)).trans hx106_1
                                  have HR106_0 := Aside0.mk hi106_0
                                  have HC106_0 := Aside0.mk hl106_0
                                  clear hi106_0 hl106_0
                                  have HR106_1 := Aside0.mk hi106_1
                                  have HC106_1 := Aside0.mk hl106_1
                                  clear hi106_1 hl106_1
                                  replace p106 := eq_true p106
                                  replace q106 := eq_true q106
                                  go_wp2_with (first | ((with_reducible refine gate_dst (N := 6) rfl ?_); refine box_event ?hg (N := 6) ?hd (cs := #[.slice none 0 0, .slice none 0 0]) (t := 33) ?hr ?_; (case hd => rfl); (case hg => rfl); (case hr => first | (go_simp; done) | (go_simp; rfl)); intro gb107 hg w34 hbox hb; have n0_ := Aside0.mk (blk_below (g := gb102) (o := .cells #[.int .i64 a0_0, .slice (some ad103) l0_1.length c0_1] 24 (0, 0)) (by (with_reducible repeat (first | refine blk_drewN ?_ _ | refine blk_drew ?_ | refine blk_alloc ?_ _)); exact BK102.out) hb); have n1_ := Aside0.mk (blk_below (g := gb104) (o := .cells #[.slice A103_0 ((rd_T31 l0_1 x14_1).f0).length c103_0, .slice (some ad106) ((rd_T31 l0_1 x14_1).f1).length c103_1, .int .i64 ((rd_T31 l0_1 x14_1).f2)] 31 (0, 0)) (by (with_reducible repeat (first | refine blk_drewN ?_ _ | refine blk_drew ?_ | refine blk_alloc ?_ _)); exact BK104.out) hb); have n2_ := Aside0.mk (below_step (by repeat (first | (with_reducible first | exact HB.out | apply below_alloc | apply pw_below_drewN | apply below_drew1 | refine below_set ?_ GE102.out | refine below_set ?_ GE104.out) | exact HB.out)) hb); have n3_ := Aside0.mk (hbox); have n4_ := Aside0.mk ((by rw [hg]; exact (below_size (by repeat (first | (with_reducible first | exact HB.out | apply below_alloc | apply pw_below_drewN | apply below_drew1 | refine below_set ?_ GE102.out | refine below_set ?_ GE104.out) | exact HB.out))) : w.heap.size ≤ gb107)); have n5_ := Aside0.mk ((by rw [hg]; exact (below_size (by repeat (first | (with_reducible first | exact HB.out | apply below_alloc | apply pw_below_drewN | apply below_drew1 | refine below_set ?_ GE102.out | refine below_set ?_ GE104.out) | exact HB.out))) : w.heap.size ≤ gb107)); have n6_ := Aside0.mk ((by rw [hg]; exact Nat.ne_of_lt (blk_lt (g := gb102) (o := .cells #[.int .i64 a0_0, .slice (some ad103) l0_1.length c0_1] 24 (0, 0)) (by (with_reducible repeat (first | refine blk_drewN ?_ _ | refine blk_drew ?_ | refine blk_alloc ?_ _)); exact BK102.out)) : gb102 ≠ gb107)); have n7_ := Aside0.mk ((by rw [hg]; exact Nat.ne_of_gt (blk_lt (g := gb102) (o := .cells #[.int .i64 a0_0, .slice (some ad103) l0_1.length c0_1] 24 (0, 0)) (by (with_reducible repeat (first | refine blk_drewN ?_ _ | refine blk_drew ?_ | refine blk_alloc ?_ _)); exact BK102.out)) : gb107 ≠ gb102)); have n8_ := Aside0.mk ((by rw [hg]; exact Nat.ne_of_lt (blk_lt (g := gb104) (o := .cells #[.slice A103_0 ((rd_T31 l0_1 x14_1).f0).length c103_0, .slice (some ad106) ((rd_T31 l0_1 x14_1).f1).length c103_1, .int .i64 ((rd_T31 l0_1 x14_1).f2)] 31 (0, 0)) (by (with_reducible repeat (first | refine blk_drewN ?_ _ | refine blk_drew ?_ | refine blk_alloc ?_ _)); exact BK104.out)) : gb104 ≠ gb107)); have n9_ := Aside0.mk ((by rw [hg]; exact Nat.ne_of_gt (blk_lt (g := gb104) (o := .cells #[.slice A103_0 ((rd_T31 l0_1 x14_1).f0).length c103_0, .slice (some ad106) ((rd_T31 l0_1 x14_1).f1).length c103_1, .int .i64 ((rd_T31 l0_1 x14_1).f2)] 31 (0, 0)) (by (with_reducible repeat (first | refine blk_drewN ?_ _ | refine blk_drew ?_ | refine blk_alloc ?_ _)); exact BK104.out)) : gb107 ≠ gb104)); clear BK102; clear BK104; clear HB; have BK102 := n0_; have BK104 := n1_; have HB := n2_; have BK107 := n3_; have GW107 := n4_; have GE107 := n5_; have NB102_107 := n6_; have NB107_102 := n7_; have NB104_107 := n8_; have NB107_104 := n9_; clear n0_ n1_ n2_ n3_ n4_ n5_ n6_ n7_ n8_ n9_; clear hb hbox hg; have hnb35 := NB107_102.out; have hnc35 := NB102_107.out; have hnb36 := NB107_104.out; have hnc36 := NB104_107.out; have hcz37_0 : w34.cell? ⟨gb107, 0, none⟩ = some (.slice none 0 0) := (blk_cell BK107.out 0).trans rfl; have hcz37_1 : w34.cell? ⟨gb107, 1, none⟩ = some (.slice none 0 0) := (blk_cell BK107.out 1).trans rfl; have hfz37_0 := blk_frozen BK107.out 0; have hfz37_1 := blk_frozen BK107.out 1) | ((with_reducible refine gate_callee (f := 6) rfl ?_); refine goesL_ (some 37) rfl rfl Try.func6 (by kernel_rfl) rfl #[.slice A106_0 ((rd_T33 ((rd_T31 l0_1 x14_1).f1) x31_3).f0).length c106_0] rfl (by (try simp only [List.map_toArray, List.map_cons, List.map_nil]); first | done | rfl | (simp only [List.length_drop, List.length_take]; rfl)) ?_; (with_reducible refine (switchboardref03_Small.calls k3 _ _ ((rd_T33 ((rd_T31 l0_1 x14_1).f1) x31_3).f0) true _ ?side1 ?side2 A26.out).mono ?_); (case side1 => exact Kd.C_below HR106_0.out (by repeat (first | (with_reducible first | exact HB.out | apply below_alloc | apply pw_below_drewN | apply below_drew1 | refine below_set ?_ GE102.out | refine below_set ?_ GE104.out | refine below_set ?_ GE107.out) | exact HB.out))); (case side2 => exact HC106_0.out); rintro e w' ⟨rfl, ⟨nd, rfl⟩⟩; refine ⟨_, rfl, ?_⟩) | (go_at_call 6; (with_reducible refine (switchboardref03_Small.calls k3 _ _ ((rd_T33 ((rd_T31 l0_1 x14_1).f1) x31_3).f1) false _ ?side1 ?side2 A28.out).mono ?_); (case side1 => exact Kd.C_below HR106_1.out (by repeat (first | (with_reducible first | exact HB.out | apply below_alloc | apply pw_below_drewN | apply below_drew1 | refine below_set ?_ GE102.out | refine below_set ?_ GE104.out | refine below_set ?_ GE107.out) | exact HB.out))); (case side2 => exact HC106_1.out); rintro e w' ⟨rfl, ⟨nd, rfl⟩⟩))
                                  go_ret
                                  exact ⟨by first | rfl | (simp [errW_none, errW_some] <;> rfl) | (simp [*, errW_none, errW_some] <;> rfl), by repeat (first | (with_reducible first | exact HB.out | apply below_alloc | apply pw_below_drewN | apply below_drew1 | refine below_set ?_ GE102.out | refine below_set ?_ GE104.out | refine below_set ?_ GE107.out) | exact HB.out)⟩
                              · replace c27 := Bool.eq_false_iff.mpr c27
                                subst c27
                                have H1 : (some false) = some r := by rw [if_neg (show ¬ (false = true) by decide)] at H; exact H
                                clear H
                                have H := H1
                                clear H1
                                obtain rfl := Option.some.inj H
                                have p106 : 0 ≤ (x31_3 : Int) := of_decide_eq_true (by first | (with_reducible assumption) | assumption)
                                have q106 : x31_3 < (((rd_T31 l0_1 x14_1).f1).length : Int) := of_decide_eq_true (by first | (with_reducible assumption) | assumption)
                                obtain ⟨ad106, A106_0, c106_0, A106_1, c106_1, e106, hx106_0, hx106_1, hl106_0, hi106_0, hl106_1, hi106_1⟩ := at_T33 HR103_1.out x31_3 p106 q106
                                cases e106
                                replace hx106_0 := (HB.out.cell (World.block_lt_of_cell? w _ hx106_0)).trans hx106_0
                                replace hx106_1 := (HB.out.cell (World.block_lt_of_cell? w _ hx106_1)).trans hx106_1
                                have HR106_0 := Aside0.mk hi106_0
                                have HC106_0 := Aside0.mk hl106_0
                                clear hi106_0 hl106_0
                                have HR106_1 := Aside0.mk hi106_1
                                have HC106_1 := Aside0.mk hl106_1
                                clear hi106_1 hl106_1
                                replace p106 := eq_true p106
                                replace q106 := eq_true q106
                                go_wp2_with (first | ((with_reducible refine gate_dst (N := 6) rfl ?_); refine box_event ?hg (N := 6) ?hd (cs := #[.slice none 0 0, .slice none 0 0]) (t := 33) ?hr ?_; (case hd => rfl); (case hg => rfl); (case hr => first | (go_simp; done) | (go_simp; rfl)); intro gb107 hg w38 hbox hb; have n0_ := Aside0.mk (blk_below (g := gb102) (o := .cells #[.int .i64 a0_0, .slice (some ad103) l0_1.length c0_1] 24 (0, 0)) (by (with_reducible repeat (first | refine blk_drewN ?_ _ | refine blk_drew ?_ | refine blk_alloc ?_ _)); exact BK102.out) hb); have n1_ := Aside0.mk (blk_below (g := gb104) (o := .cells #[.slice A103_0 ((rd_T31 l0_1 x14_1).f0).length c103_0, .slice (some ad106) ((rd_T31 l0_1 x14_1).f1).length c103_1, .int .i64 ((rd_T31 l0_1 x14_1).f2)] 31 (0, 0)) (by (with_reducible repeat (first | refine blk_drewN ?_ _ | refine blk_drew ?_ | refine blk_alloc ?_ _)); exact BK104.out) hb); have n2_ := Aside0.mk (below_step (by repeat (first | (with_reducible first | exact HB.out | apply below_alloc | apply pw_below_drewN | apply below_drew1 | refine below_set ?_ GE102.out | refine below_set ?_ GE104.out) | exact HB.out)) hb); have n3_ := Aside0.mk (hbox); have n4_ := Aside0.mk ((by rw [hg]; exact (below_size (by repeat (first | (with_reducible first | exact HB.out | apply below_alloc | apply pw_below_drewN | apply below_drew1 | refine below_set ?_ GE102.out | refine below_set ?_ GE104.out) | exact HB.out))) : w.heap.size ≤ gb107)); have n5_ := Aside0.mk ((by rw [hg]; exact (below_size (by repeat (first | (with_reducible first | exact HB.out | apply below_alloc | apply pw_below_drewN | apply below_drew1 | refine below_set ?_ GE102.out | refine below_set ?_ GE104.out) | exact HB.out))) : w.heap.size ≤ gb107)); have n6_ := Aside0.mk ((by rw [hg]; exact Nat.ne_of_lt (blk_lt (g := gb102) (o := .cells #[.int .i64 a0_0, .slice (some ad103) l0_1.length c0_1] 24 (0, 0)) (by (with_reducible repeat (first | refine blk_drewN ?_ _ | refine blk_drew ?_ | refine blk_alloc ?_ _)); exact BK102.out)) : gb102 ≠ gb107)); have n7_ := Aside0.mk ((by rw [hg]; exact Nat.ne_of_gt (blk_lt (g := gb102) (o := .cells #[.int .i64 a0_0, .slice (some ad103) l0_1.length c0_1] 24 (0, 0)) (by (with_reducible repeat (first | refine blk_drewN ?_ _ | refine blk_drew ?_ | refine blk_alloc ?_ _)); exact BK102.out)) : gb107 ≠ gb102)); have n8_ := Aside0.mk ((by rw [hg]; exact Nat.ne_of_lt (blk_lt (g := gb104) (o := .cells #[.slice A103_0 ((rd_T31 l0_1 x14_1).f0).length c103_0, .slice (some ad106) ((rd_T31 l0_1 x14_1).f1).length c103_1, .int .i64 ((rd_T31 l0_1 x14_1).f2)] 31 (0, 0)) (by (with_reducible repeat (first | refine blk_drewN ?_ _ | refine blk_drew ?_ | refine blk_alloc ?_ _)); exact BK104.out)) : gb104 ≠ gb107)); have n9_ := Aside0.mk ((by rw [hg]; exact Nat.ne_of_gt (blk_lt (g := gb104) (o := .cells #[.slice A103_0 ((rd_T31 l0_1 x14_1).f0).length c103_0, .slice (some ad106) ((rd_T31 l0_1 x14_1).f1).length c103_1, .int .i64 ((rd_T31 l0_1 x14_1).f2)] 31 (0, 0)) (by (with_reducible repeat (first | refine blk_drewN ?_ _ | refine blk_drew ?_ | refine blk_alloc ?_ _)); exact BK104.out)) : gb107 ≠ gb104)); clear BK102; clear BK104; clear HB; have BK102 := n0_; have BK104 := n1_; have HB := n2_; have BK107 := n3_; have GW107 := n4_; have GE107 := n5_; have NB102_107 := n6_; have NB107_102 := n7_; have NB104_107 := n8_; have NB107_104 := n9_; clear n0_ n1_ n2_ n3_ n4_ n5_ n6_ n7_ n8_ n9_; clear hb hbox hg; have hnb39 := NB107_102.out; have hnc39 := NB102_107.out; have hnb40 := NB107_104.out; have hnc40 := NB104_107.out; have hcz41_0 : w38.cell? ⟨gb107, 0, none⟩ = some (.slice none 0 0) := (blk_cell BK107.out 0).trans rfl; have hcz41_1 : w38.cell? ⟨gb107, 1, none⟩ = some (.slice none 0 0) := (blk_cell BK107.out 1).trans rfl; have hfz41_0 := blk_frozen BK107.out 0; have hfz41_1 := blk_frozen BK107.out 1) | ((with_reducible refine gate_callee (f := 6) rfl ?_); refine goesL_ (some 37) rfl rfl Try.func6 (by kernel_rfl) rfl #[.slice A106_0 ((rd_T33 ((rd_T31 l0_1 x14_1).f1) x31_3).f0).length c106_0] rfl (by (try simp only [List.map_toArray, List.map_cons, List.map_nil]); first | done | rfl | (simp only [List.length_drop, List.length_take]; rfl)) ?_; (with_reducible refine (switchboardref03_Small.calls k3 _ _ ((rd_T33 ((rd_T31 l0_1 x14_1).f1) x31_3).f0) false _ ?side1 ?side2 A26.out).mono ?_); (case side1 => exact Kd.C_below HR106_0.out (by repeat (first | (with_reducible first | exact HB.out | apply below_alloc | apply pw_below_drewN | apply below_drew1 | refine below_set ?_ GE102.out | refine below_set ?_ GE104.out | refine below_set ?_ GE107.out) | exact HB.out))); (case side2 => exact HC106_0.out); rintro e w' ⟨rfl, ⟨nd, rfl⟩⟩; refine ⟨_, rfl, ?_⟩))
                                go_ret
                                exact ⟨by first | rfl | (simp [errW_none, errW_some] <;> rfl) | (simp [*, errW_none, errW_some] <;> rfl), by repeat (first | (with_reducible first | exact HB.out | apply below_alloc | apply pw_below_drewN | apply below_drew1 | refine below_set ?_ GE102.out | refine below_set ?_ GE104.out | refine below_set ?_ GE107.out) | exact HB.out)⟩
                            · rw [if_neg c25] at H
                              exact absurd H (by simp)
                          · rw [if_neg c24] at H
                            exact absurd H (by simp)
                        · rw [if_neg c23] at H
                          have c23b0 : decide (x31_3 < (((rd_T31 l0_1 x14_1).f1).length : Int)) = false := decide_eq_false c23
                          clear c23
                          have H' := Aside0.mk H
                          clear H
                          go_wp2
                          go_roundg k3
                          case measure => have := HK1.out; have := HJ9.out; have := HK3.out; omega
                          case rel => exact ⟨(wrap64 (x14_1 + 1)), (by first | rfl | (simp; done) | (simp [*]; done)), H', ⟨by have := HK1.out; have := HJ9.out; have := HK3.out; omega⟩, ⟨by (with_reducible repeat (first | refine blk_drewN ?_ _ | refine blk_drew ?_ | refine blk_alloc ?_ _)); exact BK102.out⟩, ⟨by repeat (first | (with_reducible first | exact HB.out | apply below_alloc | apply pw_below_drewN | apply below_drew1 | refine below_set ?_ GE102.out | refine below_set ?_ GE104.out) | exact HB.out)⟩⟩
            · rw [if_neg c9] at H
              exact absurd H (by simp)
          · rw [if_neg c8] at H
            exact absurd H (by simp)
        · rw [if_neg c7] at H
          have c7b0 : decide (x14_1 < (l0_1.length : Int)) = false := decide_eq_false c7
          clear c7
          obtain rfl := Option.some.inj H
          go_wp2
          go_ret
          exact ⟨by first | rfl | (simp [errW_none, errW_some] <;> rfl) | (simp [*, errW_none, errW_some] <;> rfl), by repeat (first | (with_reducible first | exact HB.out | apply below_alloc | apply pw_below_drewN | apply below_drew1 | refine below_set ?_ GE102.out) | exact HB.out)⟩

end Go.Proofs.Ytfipiohchnaglaa.Pt
