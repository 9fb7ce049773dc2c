-- Laid by wip/xprint.py, a program of this session that runs the kit's print with some contracts given by hand; not a text of print.sh. Lean checks it.
import Derived.Test.YtikncbklhnaajaaPr0
import Derived.Test.YtikncbklhnaajaaPr2
import Derived.Test.YtikncbklhnaajaaPr3
namespace Go.Proofs.Ytikncbklhnaajaa.Pr
open Go.RowKit Go.Proofs.YtikncbklhnaajaaW.PrintWords Go.Proofs.YtikncbklhnaajaaW.PrintLast Go.Proofs.YtikncbklhnaajaaW.PrintMore
attribute [local go_sem] max2_int min2_int max_two min_two max_three min_three max_four min_four   -- for this text's walks alone
set_option linter.unusedVariables false
set_option linter.unusedSimpArgs false

/-! ### switchboardlaw10_LinkNumbers: function 6 -/
mutual
def switchboardlaw10_LinkNumbers.l0 : Nat → List Bool → Int → Int → Int → List (S45) → Option (Bool)
  | 0, _, _, _, _, _ => none
  | k + 1, x0, x4, x5, x276000, x276001 => if x5 < (x0.length : Int) then (switchboardlaw10_LinkNumbers.j1 k x0 x4 x5 (decide (x5 < 200)) x276000 x276001) else (switchboardlaw10_LinkNumbers.j1 k x0 x4 x5 false x276000 x276001)
def switchboardlaw10_LinkNumbers.j1 : Nat → List Bool → Int → Int → Bool → Int → List (S45) → Option (Bool)
  | 0, _, _, _, _, _, _ => none
  | k + 1, x0, x4, x5, x16, x276000, x276001 => if x16 = true then ((link_Push.f k x276000 x276001 (⟨#[120]⟩ : ByteArray)).bind fun bt277 => (if bt277.2.2.2 = 0 then (if bt277.2.2.1 = x5 then (switchboardlaw10_LinkNumbers.j2 k x0 x4 x5 bt277.2.2.1 (bt277.1 != (wrap64 (x5 + 1))) bt277.1 bt277.2.1) else (switchboardlaw10_LinkNumbers.j2 k x0 x4 x5 bt277.2.2.1 true bt277.1 bt277.2.1)) else (switchboardlaw10_LinkNumbers.j2 k x0 x4 x5 bt277.2.2.1 true bt277.1 bt277.2.1))) else ((switchboardlaw10_awake.f k).bind fun t276 => (some t276))
def switchboardlaw10_LinkNumbers.j2 : Nat → List Bool → Int → Int → Int → Bool → Int → List (S45) → Option (Bool)
  | 0, _, _, _, _, _, _, _ => none
  | k + 1, x0, x4, x5, x7, x38, x284000, x284001 => if x38 = true then (some false) else (if x5 < 60 then (if 0 ≤ x5 then (if x5 < (x0.length : Int) then (switchboardlaw10_LinkNumbers.j3 k x0 x4 x5 x7 (rdOf false x0 x5) x284000 x284001) else (none)) else (none)) else (switchboardlaw10_LinkNumbers.j3 k x0 x4 x5 x7 false x284000 x284001))
def switchboardlaw10_LinkNumbers.j3 : Nat → List Bool → Int → Int → Int → Bool → Int → List (S45) → Option (Bool)
  | 0, _, _, _, _, _, _, _ => none
  | k + 1, x0, x4, x5, x7, x47, x276000, x276001 => if x47 = true then (if (x276001.length : Int) = (wrap64 (x4 + 1)) then (switchboardlaw10_LinkNumbers.l0 k x0 (wrap64 (x4 + 1)) (wrap64 (x5 + 1)) x276000 x276001) else (some false)) else ((link_Told.f x276000 x276001 x7).bind fun bt285 => (if (bt285.2.length : Int) = x4 then (switchboardlaw10_LinkNumbers.l0 k x0 x4 (wrap64 (x5 + 1)) bt285.1 bt285.2) else (some false)))
end
def switchboardlaw10_LinkNumbers.f (k : Nat) (l0 : List Bool) : Option (Bool) := switchboardlaw10_LinkNumbers.l0 k l0 0 0 0 ([] : List (S45))
theorem switchboardlaw10_LinkNumbers.mono_l : ∀ k, (∀ y0 y1 y2 y3 y4, LeO (switchboardlaw10_LinkNumbers.l0 k y0 y1 y2 y3 y4) (switchboardlaw10_LinkNumbers.l0 (k + 1) y0 y1 y2 y3 y4)) ∧ (∀ y0 y1 y2 y3 y4 y5, LeO (switchboardlaw10_LinkNumbers.j1 k y0 y1 y2 y3 y4 y5) (switchboardlaw10_LinkNumbers.j1 (k + 1) y0 y1 y2 y3 y4 y5)) ∧ (∀ y0 y1 y2 y3 y4 y5 y6, LeO (switchboardlaw10_LinkNumbers.j2 k y0 y1 y2 y3 y4 y5 y6) (switchboardlaw10_LinkNumbers.j2 (k + 1) y0 y1 y2 y3 y4 y5 y6)) ∧ (∀ y0 y1 y2 y3 y4 y5 y6, LeO (switchboardlaw10_LinkNumbers.j3 k y0 y1 y2 y3 y4 y5 y6) (switchboardlaw10_LinkNumbers.j3 (k + 1) y0 y1 y2 y3 y4 y5 y6))
  | 0 => ⟨fun _ _ _ _ _ r h => by simp [switchboardlaw10_LinkNumbers.l0] at h, fun _ _ _ _ _ _ r h => by simp [switchboardlaw10_LinkNumbers.j1] at h, fun _ _ _ _ _ _ _ r h => by simp [switchboardlaw10_LinkNumbers.j2] at h, fun _ _ _ _ _ _ _ r h => by simp [switchboardlaw10_LinkNumbers.j3] at h⟩
  | k + 1 => by
    obtain ⟨ih0, ih1, ih2, ih3⟩ := switchboardlaw10_LinkNumbers.mono_l k
    refine ⟨?_, ?_, ?_, ?_⟩
    · intro y0 y1 y2 y3 y4
      unfold switchboardlaw10_LinkNumbers.l0
      repeat' first
      | (with_reducible exact ih0 _ _ _ _ _)
      | (with_reducible exact ih1 _ _ _ _ _ _)
      | (with_reducible exact ih2 _ _ _ _ _ _ _)
      | (with_reducible exact ih3 _ _ _ _ _ _ _)
      | (with_reducible exact link_Push.mono _ _ _ _)
      | (with_reducible exact switchboardlaw10_awake.mono _)
      | (with_reducible exact LeO.refl _)
      | (with_reducible exact LeO.none _)
      | (with_reducible refine LeO.ite ?_ ?_)
      | (with_reducible refine LeO.bind ?_ (fun _ => ?_))
      | exact ih0 _ _ _ _ _
      | exact ih1 _ _ _ _ _ _
      | exact ih2 _ _ _ _ _ _ _
      | exact ih3 _ _ _ _ _ _ _
      | exact link_Push.mono _ _ _ _
      | exact switchboardlaw10_awake.mono _
      | exact LeO.none _
      | refine LeO.ite ?_ ?_
      | refine LeO.bind ?_ (fun _ => ?_)
    · intro y0 y1 y2 y3 y4 y5
      unfold switchboardlaw10_LinkNumbers.j1
      repeat' first
      | (with_reducible exact ih0 _ _ _ _ _)
      | (with_reducible exact ih1 _ _ _ _ _ _)
      | (with_reducible exact ih2 _ _ _ _ _ _ _)
      | (with_reducible exact ih3 _ _ _ _ _ _ _)
      | (with_reducible exact link_Push.mono _ _ _ _)
      | (with_reducible exact switchboardlaw10_awake.mono _)
      | (with_reducible exact LeO.refl _)
      | (with_reducible exact LeO.none _)
      | (with_reducible refine LeO.ite ?_ ?_)
      | (with_reducible refine LeO.bind ?_ (fun _ => ?_))
      | exact ih0 _ _ _ _ _
      | exact ih1 _ _ _ _ _ _
      | exact ih2 _ _ _ _ _ _ _
      | exact ih3 _ _ _ _ _ _ _
      | exact link_Push.mono _ _ _ _
      | exact switchboardlaw10_awake.mono _
      | exact LeO.none _
      | refine LeO.ite ?_ ?_
      | refine LeO.bind ?_ (fun _ => ?_)
    · intro y0 y1 y2 y3 y4 y5 y6
      unfold switchboardlaw10_LinkNumbers.j2
      repeat' first
      | (with_reducible exact ih0 _ _ _ _ _)
      | (with_reducible exact ih1 _ _ _ _ _ _)
      | (with_reducible exact ih2 _ _ _ _ _ _ _)
      | (with_reducible exact ih3 _ _ _ _ _ _ _)
      | (with_reducible exact link_Push.mono _ _ _ _)
      | (with_reducible exact switchboardlaw10_awake.mono _)
      | (with_reducible exact LeO.refl _)
      | (with_reducible exact LeO.none _)
      | (with_reducible refine LeO.ite ?_ ?_)
      | (with_reducible refine LeO.bind ?_ (fun _ => ?_))
      | exact ih0 _ _ _ _ _
      | exact ih1 _ _ _ _ _ _
      | exact ih2 _ _ _ _ _ _ _
      | exact ih3 _ _ _ _ _ _ _
      | exact link_Push.mono _ _ _ _
      | exact switchboardlaw10_awake.mono _
      | exact LeO.none _
      | refine LeO.ite ?_ ?_
      | refine LeO.bind ?_ (fun _ => ?_)
    · intro y0 y1 y2 y3 y4 y5 y6
      unfold switchboardlaw10_LinkNumbers.j3
      repeat' first
      | (with_reducible exact ih0 _ _ _ _ _)
      | (with_reducible exact ih1 _ _ _ _ _ _)
      | (with_reducible exact ih2 _ _ _ _ _ _ _)
      | (with_reducible exact ih3 _ _ _ _ _ _ _)
      | (with_reducible exact link_Push.mono _ _ _ _)
      | (with_reducible exact switchboardlaw10_awake.mono _)
      | (with_reducible exact LeO.refl _)
      | (with_reducible exact LeO.none _)
      | (with_reducible refine LeO.ite ?_ ?_)
      | (with_reducible refine LeO.bind ?_ (fun _ => ?_))
      | exact ih0 _ _ _ _ _
      | exact ih1 _ _ _ _ _ _
      | exact ih2 _ _ _ _ _ _ _
      | exact ih3 _ _ _ _ _ _ _
      | exact link_Push.mono _ _ _ _
      | exact switchboardlaw10_awake.mono _
      | exact LeO.none _
      | refine LeO.ite ?_ ?_
      | refine LeO.bind ?_ (fun _ => ?_)
theorem switchboardlaw10_LinkNumbers.mono : ∀ a0 k, LeO (switchboardlaw10_LinkNumbers.f k a0) (switchboardlaw10_LinkNumbers.f (k + 1) a0) := by
  intro a0 k
  obtain ⟨ih0, ih1, ih2, ih3⟩ := switchboardlaw10_LinkNumbers.mono_l k
  unfold switchboardlaw10_LinkNumbers.f
  repeat' first
      | (with_reducible exact ih0 _ _ _ _ _)
      | (with_reducible exact ih1 _ _ _ _ _ _)
      | (with_reducible exact ih2 _ _ _ _ _ _ _)
      | (with_reducible exact ih3 _ _ _ _ _ _ _)
      | (with_reducible exact link_Push.mono _ _ _ _)
      | (with_reducible exact switchboardlaw10_awake.mono _)
      | (with_reducible exact LeO.refl _)
      | (with_reducible exact LeO.none _)
      | (with_reducible refine LeO.ite ?_ ?_)
      | (with_reducible refine LeO.bind ?_ (fun _ => ?_))
      | exact ih0 _ _ _ _ _
      | exact ih1 _ _ _ _ _ _
      | exact ih2 _ _ _ _ _ _ _
      | exact ih3 _ _ _ _ _ _ _
      | exact link_Push.mono _ _ _ _
      | exact switchboardlaw10_awake.mono _
      | exact LeO.none _
      | refine LeO.ite ?_ ?_
      | refine LeO.bind ?_ (fun _ => ?_)
set_option maxHeartbeats 8000000 in
set_option maxRecDepth 100000 in
theorem switchboardlaw10_LinkNumbers.calls (k : Nat) (A0 : Option Addr) (c0 : Nat) (l0 : List Bool) (w : World) (hr0 : Kd.C Kd.bool w A0 l0.length l0) (hc0 : l0.length ≤ c0) (h : switchboardlaw10_LinkNumbers.f k l0 = some true) :
    Calls Try.prog 6 #[.slice A0 l0.length c0] w fun e w' => e = .returned (.bool true) ∧ Below w.heap.size w w' := by
  have hu24 := Try.underlying24
  have HR0 := Aside0.mk hr0
  have HC0 := Aside0.mk hc0
  clear hr0 hc0
  have HB := Aside0.mk (Below.refl w.heap.size w)
  have H : (switchboardlaw10_LinkNumbers.l0 k l0 0 0 0 ([] : List (S45))) = some true := h
  clear h
  have H' := Aside0.mk H
  clear H
  go_enter Try.func6, Try.ntmps6
  go_wp2_with (first | ((with_reducible refine gate_dst (N := 3) rfl ?_); refine box_event ?hg (N := 3) ?hd (cs := #[.int .i64 0, .slice none 0 0]) (t := 24) ?hr ?_; (case hd => rfl); (case hg => rfl); (case hr => first | (go_simp; done) | (go_simp; rfl)); intro gb275 hg w2 hbox hb; have n0_ := Aside0.mk (below_step (by repeat (first | (with_reducible first | exact HB.out | apply below_alloc | apply pw_below_drewN | apply below_drew1) | exact HB.out)) hb); have n1_ := Aside0.mk (hbox); have n2_ := Aside0.mk ((by rw [hg]; exact (below_size (by repeat (first | (with_reducible first | exact HB.out | apply below_alloc | apply pw_below_drewN | apply below_drew1) | exact HB.out))) : w.heap.size ≤ gb275)); have n3_ := Aside0.mk ((by rw [hg]; exact (below_size (by repeat (first | (with_reducible first | exact HB.out | apply below_alloc | apply pw_below_drewN | apply below_drew1) | exact HB.out))) : w.heap.size ≤ gb275)); clear HB; have HB := n0_; have BK275 := n1_; have GW275 := n2_; have GE275 := n3_; clear n0_ n1_ n2_ n3_; clear hb hbox hg))
  go_loopg [4, 5] k (fun kq v4 v5 w' => ∃ (x4_1 : Int) (x5_1 : Int) (x276000_1 : Int) (x276001_1 : List (S45)) (u276001 : Value), v4 = .int .i64 x4_1 ∧ v5 = .int .i64 x5_1 ∧ Aside0 (switchboardlaw10_LinkNumbers.l0 kq l0 x4_1 x5_1 x276000_1 x276001_1 = some true) ∧ Aside0 (kq ≤ k) ∧ Aside0 (Kd.V k45 45 w' w.heap.size (fun k_ => k_ ≠ gb275) u276001 x276001_1) ∧ Aside0 (w'.heap[gb275]? = some (.cells #[.int .i64 x276000_1, u276001] 24 (0, 0))) ∧ Aside0 (Below w.heap.size w w'))
  case atStart => exact ⟨(0), (0), (0), (([] : List (S45))), (.slice none 0 0), (by first | rfl | (simp; done) | (simp [*]; done)), (by first | rfl | (simp; done) | (simp [*]; done)), H', ⟨Nat.le_refl _⟩, ⟨Kd.V_nil _ _ _ _ _⟩, ⟨by (with_reducible repeat (first | refine blk_drewN ?_ _ | refine blk_drew ?_ | refine blk_alloc ?_ _)); exact BK275.out⟩, ⟨by repeat (first | (with_reducible first | exact HB.out | apply below_alloc | apply pw_below_drewN | apply below_drew1 | refine below_set ?_ GE275.out) | exact HB.out)⟩⟩
  case round =>
    clear H'
    try clear p2
    obtain ⟨x4_1, x5_1, x276000_1, x276001_1, u276001, rfl, rfl, HA, HK1, HO_276001, BK275, HB⟩ := hrel
    cases gk with
    | zero => exact absurd HA.out (by simp [switchboardlaw10_LinkNumbers.l0])
    | succ k1 =>
      have H := HA.out
      clear HA
      simp only [switchboardlaw10_LinkNumbers.l0] at H
      have HC3 := Aside0.mk H
      clear H
      go_upto_region 4 with (fail)
      go_cut [16] (fun v16 wc => ∃ (kq : Nat) (x16_2 : Bool), v16 = .bool x16_2 ∧ Aside0 (switchboardlaw10_LinkNumbers.j1 kq l0 x4_1 x5_1 x16_2 x276000_1 x276001_1 = some true) ∧ Aside0 (kq ≤ k1) ∧ Aside0 (Kd.V k45 45 wc w.heap.size (fun k_ => k_ ≠ gb275) u276001 x276001_1) ∧ Aside0 (wc.heap[gb275]? = some (.cells #[.int .i64 x276000_1, u276001] 24 (0, 0))) ∧ Aside0 (Below w.heap.size w wc))
      case first =>
        have H := HC3.out
        clear HC3
        by_cases c4 : x5_1 < (l0.length : Int)
        · rw [if_pos c4] at H
          have c4b0 : decide (x5_1 < (l0.length : Int)) = true := decide_eq_true c4
          clear c4
          (first | rw [c4b0] | (simp only [i64_w, i32_w]; rw [c4b0]) | skip)
          have H' := Aside0.mk H
          clear H
          go_wp2
          go_meet
          case rel => exact ⟨_, (decide (x5_1 < 200)), (by first | rfl | (simp; done) | (simp [*]; done)), H', ⟨by have := HK1.out; first | omega | exact Nat.le_refl _⟩, ⟨by (with_reducible repeat (first | apply Kd.V_alloc | apply Kd.V_drewN | apply Kd.V_drew)); exact HO_276001.out⟩, ⟨by (with_reducible repeat (first | refine blk_drewN ?_ _ | refine blk_drew ?_ | refine blk_alloc ?_ _)); exact BK275.out⟩, ⟨by repeat (first | (with_reducible first | exact HB.out | apply below_alloc | apply pw_below_drewN | apply below_drew1 | refine below_set ?_ GE275.out) | exact HB.out)⟩⟩
        · rw [if_neg c4] at H
          have c4b0 : decide (x5_1 < (l0.length : Int)) = false := decide_eq_false c4
          clear c4
          (first | rw [c4b0] | (simp only [i64_w, i32_w]; rw [c4b0]) | skip)
          have H' := Aside0.mk H
          clear H
          go_wp2
          go_meet
          case rel => exact ⟨_, (false), (by first | rfl | (simp; done) | (simp [*]; done)), H', ⟨by have := HK1.out; first | omega | exact Nat.le_refl _⟩, ⟨by (with_reducible repeat (first | apply Kd.V_alloc | apply Kd.V_drewN | apply Kd.V_drew)); exact HO_276001.out⟩, ⟨by (with_reducible repeat (first | refine blk_drewN ?_ _ | refine blk_drew ?_ | refine blk_alloc ?_ _)); exact BK275.out⟩, ⟨by repeat (first | (with_reducible first | exact HB.out | apply below_alloc | apply pw_below_drewN | apply below_drew1 | refine below_set ?_ GE275.out) | exact HB.out)⟩⟩
      case rest =>
        clear HC3
        try clear p2
        try clear c4
        try clear c4b0
        try clear p2
        obtain ⟨kq, x16_2, rfl, HA, HJ2, HO_276001, BK275, HB⟩ := hcut
        cases kq with
        | zero => exact absurd HA.out (by simp [switchboardlaw10_LinkNumbers.j1])
        | succ kj2 =>
          have H := HA.out
          clear HA
          simp only [switchboardlaw10_LinkNumbers.j1] at H
          by_cases c5 : x16_2 = true
          · subst c5
            have H1 : ((link_Push.f kj2 x276000_1 x276001_1 (⟨#[120]⟩ : ByteArray)).bind fun bt277 => (if bt277.2.2.2 = 0 then (if bt277.2.2.1 = x5_1 then (switchboardlaw10_LinkNumbers.j2 kj2 l0 x4_1 x5_1 bt277.2.2.1 (bt277.1 != (wrap64 (x5_1 + 1))) bt277.1 bt277.2.1) else (switchboardlaw10_LinkNumbers.j2 kj2 l0 x4_1 x5_1 bt277.2.2.1 true bt277.1 bt277.2.1)) else (switchboardlaw10_LinkNumbers.j2 kj2 l0 x4_1 x5_1 bt277.2.2.1 true bt277.1 bt277.2.1))) = some true := by rw [if_pos rfl] at H; exact H
            clear H
            have H := H1
            clear H1
            replace H := Option.bind_eq_some_iff.mp H
            obtain ⟨⟨t277, t278, t281, t282⟩, A60, H⟩ := H
            replace H : (if t282 = 0 then (if t281 = x5_1 then (switchboardlaw10_LinkNumbers.j2 kj2 l0 x4_1 x5_1 t281 (t277 != (wrap64 (x5_1 + 1))) t277 t278) else (switchboardlaw10_LinkNumbers.j2 kj2 l0 x4_1 x5_1 t281 true t277 t278)) else (switchboardlaw10_LinkNumbers.j2 kj2 l0 x4_1 x5_1 t281 true t277 t278)) = some true := H
            have A6 := Aside0.mk A60
            clear A60
            have HC7 := Aside0.mk H
            clear H
            have hcz8_0 : wc.cell? ⟨gb275, 0, none⟩ = some (.int .i64 x276000_1) := (blk_cell BK275.out 0).trans rfl
            have hcz8_1 : wc.cell? ⟨gb275, 1, none⟩ = some (u276001) := (blk_cell BK275.out 1).trans rfl
            have hfz8_0 := blk_frozen BK275.out 0
            have hfz8_1 := blk_frozen BK275.out 1
            obtain ⟨Ao9, co9, eo9⟩ := Kd.V_slice HO_276001.out
            subst eo9
            go_upto_region 7 with (first | ((with_reducible refine gate_callee (f := 10) rfl ?_); refine goesL_ (some 21) rfl rfl Try.func10 (by kernel_rfl) rfl #[.agg #[.int .i64 x276000_1, .slice Ao9 x276001_1.length co9], .string (⟨#[120]⟩ : ByteArray)] rfl (by (try simp only [List.map_toArray, List.map_cons, List.map_nil]); first | done | rfl | (simp only [List.length_drop, List.length_take]; rfl)) ?_; (with_reducible refine (link_Push.calls kj2 x276000_1 (fun k_ => k_ ≠ gb275) _ _ x276001_1 (⟨#[120]⟩ : ByteArray) t277 t278 t281 t282 _ ?side1 A6.out).mono ?_); (case side1 => exact HO_276001.out); rintro e w10 ⟨v279, rfl, ho0, hb⟩; refine ⟨_, rfl, ?_⟩; have n0_ := Aside0.mk (Kd.V_below (by (with_reducible repeat (first | apply Kd.V_alloc | apply Kd.V_drewN | apply Kd.V_drew)); exact HO_276001.out) hb); have n1_ := Aside0.mk (Kd.V_lower (Kd.V_mono (ok' := fun k_ => k_ ≠ gb275) ho0 (fun k_ hk_ => Or.elim hk_ (fun hs_ => hs_) (fun hn_ => (Kd.freshB (g := gb275) (o := .cells #[.int .i64 x276000_1, .slice Ao9 x276001_1.length co9] 24 (0, 0)) (by (with_reducible repeat (first | refine blk_drewN ?_ _ | refine blk_drew ?_ | refine blk_alloc ?_ _)); exact BK275.out) k_ hn_)))) (below_size (by repeat (first | (with_reducible first | exact HB.out | apply below_alloc | apply pw_below_drewN | apply below_drew1 | refine below_set ?_ GE275.out) | exact HB.out)))); have n2_ := Aside0.mk (blk_below (g := gb275) (o := .cells #[.int .i64 x276000_1, .slice Ao9 x276001_1.length co9] 24 (0, 0)) (by (with_reducible repeat (first | refine blk_drewN ?_ _ | refine blk_drew ?_ | refine blk_alloc ?_ _)); exact BK275.out) hb); have n3_ := Aside0.mk (below_step (by repeat (first | (with_reducible first | exact HB.out | apply below_alloc | apply pw_below_drewN | apply below_drew1 | refine below_set ?_ GE275.out) | exact HB.out)) hb); clear HO_276001; clear BK275; clear HB; have HO_276001 := n0_; have HO280 := n1_; have BK275 := n2_; have HB := n3_; clear n0_ n1_ n2_ n3_; (try clear hb); (try clear hb2); (try clear hk); (try clear hi); (try clear ho0)) | ((with_reducible refine gate_dst (N := 6) rfl ?_); refine box_event ?hg (N := 6) ?hd (cs := #[.int .i64 0, .slice none 0 0]) (t := 24) ?hr ?_; (case hd => rfl); (case hg => rfl); (case hr => first | (go_simp; done) | (go_simp; rfl)); intro gb283 hg w11 hbox hb; have n0_ := Aside0.mk (Kd.V_below (Kd.V_elderB (by (with_reducible repeat (first | apply Kd.V_alloc | apply Kd.V_drewN | apply Kd.V_drew)); exact HO_276001.out) gb283 (Nat.le_of_eq hg.symm)) hb); have n1_ := Aside0.mk (Kd.V_below (Kd.V_elderB (by (with_reducible repeat (first | apply Kd.V_alloc | apply Kd.V_drewN | apply Kd.V_drew)); exact HO280.out) gb283 (Nat.le_of_eq hg.symm)) hb); have n2_ := Aside0.mk (blk_below (g := gb275) (o := .cells #[.int .i64 x276000_1, .slice Ao9 x276001_1.length co9] 24 (0, 0)) (by (with_reducible repeat (first | refine blk_drewN ?_ _ | refine blk_drew ?_ | refine blk_alloc ?_ _)); exact BK275.out) hb); have n3_ := Aside0.mk (below_step (by repeat (first | (with_reducible first | exact HB.out | apply below_alloc | apply pw_below_drewN | apply below_drew1 | refine below_set ?_ GE275.out) | exact HB.out)) hb); have n4_ := Aside0.mk (hbox); have n5_ := Aside0.mk ((by rw [hg]; exact (below_size (by repeat (first | (with_reducible first | exact HB.out | apply below_alloc | apply pw_below_drewN | apply below_drew1 | refine below_set ?_ GE275.out) | exact HB.out))) : w.heap.size ≤ gb283)); have n6_ := Aside0.mk ((by rw [hg]; exact (below_size (by repeat (first | (with_reducible first | exact HB.out | apply below_alloc | apply pw_below_drewN | apply below_drew1 | refine below_set ?_ GE275.out) | exact HB.out))) : w.heap.size ≤ gb283)); have n7_ := Aside0.mk ((by rw [hg]; exact Nat.ne_of_lt (blk_lt (g := gb275) (o := .cells #[.int .i64 x276000_1, .slice Ao9 x276001_1.length co9] 24 (0, 0)) (by (with_reducible repeat (first | refine blk_drewN ?_ _ | refine blk_drew ?_ | refine blk_alloc ?_ _)); exact BK275.out)) : gb275 ≠ gb283)); have n8_ := Aside0.mk ((by rw [hg]; exact Nat.ne_of_gt (blk_lt (g := gb275) (o := .cells #[.int .i64 x276000_1, .slice Ao9 x276001_1.length co9] 24 (0, 0)) (by (with_reducible repeat (first | refine blk_drewN ?_ _ | refine blk_drew ?_ | refine blk_alloc ?_ _)); exact BK275.out)) : gb283 ≠ gb275)); clear HO_276001; clear HO280; clear BK275; clear HB; have HO_276001 := n0_; have HO280 := n1_; have BK275 := n2_; have HB := n3_; have BK283 := n4_; have GW283 := n5_; have GE283 := n6_; have NB275_283 := n7_; have NB283_275 := n8_; clear n0_ n1_ n2_ n3_ n4_ n5_ n6_ n7_ n8_; clear hb hbox hg; have hnb12 := NB283_275.out; have hnc12 := NB275_283.out; have hcz13_0 : w11.cell? ⟨gb283, 0, none⟩ = some (.int .i64 0) := (blk_cell BK283.out 0).trans rfl; have hcz13_1 : w11.cell? ⟨gb283, 1, none⟩ = some (.slice none 0 0) := (blk_cell BK283.out 1).trans rfl; have hfz13_0 := blk_frozen BK283.out 0; have hfz13_1 := blk_frozen BK283.out 1; obtain ⟨Ao14, co14, eo14⟩ := Kd.V_slice HO280.out; subst eo14))
            (try simp only [Act.put, List.setIfInBounds_toArray, List.set_cons_zero, List.set_cons_succ])
            go_cut [38] (fun v38 wc => ∃ (kq : Nat) (x38_6 : Bool), v38 = .bool x38_6 ∧ Aside0 (switchboardlaw10_LinkNumbers.j2 kq l0 x4_1 x5_1 t281 x38_6 t277 t278 = some true) ∧ Aside0 (kq ≤ kj2) ∧ Aside0 (Kd.V k45 45 wc w.heap.size (fun k_ => k_ ≠ gb275 ∧ k_ ≠ gb283) (.slice Ao9 x276001_1.length co9) x276001_1) ∧ Aside0 (Kd.V k45 45 wc w.heap.size (fun k_ => k_ ≠ gb275 ∧ k_ ≠ gb283) (.slice Ao14 t278.length co14) t278) ∧ Aside0 (wc.heap[gb275]? = some (.cells #[.int .i64 x276000_1, (.slice Ao9 x276001_1.length co9)] 24 (0, 0))) ∧ Aside0 (wc.heap[gb283]? = some (.cells #[.int .i64 t277, (.slice Ao14 t278.length co14)] 24 (0, 0))) ∧ Aside0 (Below w.heap.size w wc))
            case first =>
              have H := HC7.out
              clear HC7
              by_cases c15 : t282 = 0
              · rw [if_pos c15] at H
                have c15b0 : (t282 == 0) = true := beq_iff_eq.mpr c15
                have c15b1 : (t282 != 0) = false := bne_eq_false_iff_eq.mpr c15
                clear c15
                (first | rw [c15b0] | (simp only [i64_w, i32_w]; rw [c15b0]) | skip)
                by_cases c16 : t281 = x5_1
                · rw [if_pos c16] at H
                  have c16b0 : (t281 == x5_1) = true := beq_iff_eq.mpr c16
                  have c16b1 : (t281 != x5_1) = false := bne_eq_false_iff_eq.mpr c16
                  clear c16
                  have H' := Aside0.mk H
                  clear H
                  have hnb17 := NB283_275.out
                  have hnc17 := NB275_283.out
                  have hcz18_0 : w11.cell? ⟨gb283, 0, none⟩ = some (.int .i64 0) := (blk_cell BK283.out 0).trans rfl
                  have hcz18_1 : w11.cell? ⟨gb283, 1, none⟩ = some (.slice none 0 0) := (blk_cell BK283.out 1).trans rfl
                  have hfz18_0 := blk_frozen BK283.out 0
                  have hfz18_1 := blk_frozen BK283.out 1
                  go_wp2
                  go_meet
                  case rel => exact ⟨_, ((t277 != (wrap64 (x5_1 + 1)))), (by first | rfl | (simp; done) | (simp [*]; done)), H', ⟨by have := HK1.out; have := HJ2.out; first | omega | exact Nat.le_refl _⟩, ⟨by (with_reducible repeat (first | apply Kd.V_alloc | apply Kd.V_drewN | apply Kd.V_drew)); exact Kd.V_mono (Kd.V_far (p := ⟨gb283, 1, none⟩) (Kd.V_far (p := ⟨gb283, 0, none⟩) (Kd.V_mono HO_276001.out (fun k_ hk => (⟨hk, hk.2⟩ : _ ∧ k_ ≠ gb283))) (fun _ hk => hk.2) (.int .i64 t277)) (fun _ hk => hk.2) (.slice Ao14 t278.length co14)) (fun _ hk => ⟨hk.1.1, hk.1.2⟩)⟩, ⟨by (with_reducible repeat (first | apply Kd.V_alloc | apply Kd.V_drewN | apply Kd.V_drew)); exact Kd.V_mono (Kd.V_far (p := ⟨gb283, 1, none⟩) (Kd.V_far (p := ⟨gb283, 0, none⟩) (Kd.V_mono HO280.out (fun k_ hk => (⟨hk, hk.2⟩ : _ ∧ k_ ≠ gb283))) (fun _ hk => hk.2) (.int .i64 t277)) (fun _ hk => hk.2) (.slice Ao14 t278.length co14)) (fun _ hk => ⟨hk.1.1, hk.1.2⟩)⟩, ⟨by (with_reducible repeat (first | refine blk_drewN ?_ _ | refine blk_drew ?_ | refine blk_alloc ?_ _)); refine blk_far ?_ NB275_283.out _; (with_reducible repeat (first | refine blk_drewN ?_ _ | refine blk_drew ?_ | refine blk_alloc ?_ _)); refine blk_far ?_ NB275_283.out _; (with_reducible repeat (first | refine blk_drewN ?_ _ | refine blk_drew ?_ | refine blk_alloc ?_ _)); exact BK275.out⟩, ⟨by (with_reducible repeat (first | refine blk_drewN ?_ _ | refine blk_drew ?_ | refine blk_alloc ?_ _)); refine blk_put (cs := #[.int .i64 t277, .slice none 0 0]) ?_ 1 _ rfl; (with_reducible repeat (first | refine blk_drewN ?_ _ | refine blk_drew ?_ | refine blk_alloc ?_ _)); refine blk_put (cs := #[.int .i64 0, .slice none 0 0]) ?_ 0 _ rfl; (with_reducible repeat (first | refine blk_drewN ?_ _ | refine blk_drew ?_ | refine blk_alloc ?_ _)); exact BK283.out⟩, ⟨by repeat (first | (with_reducible first | exact HB.out | apply below_alloc | apply pw_below_drewN | apply below_drew1 | refine below_set ?_ GE275.out | refine below_set ?_ GE283.out) | exact HB.out)⟩⟩
                · rw [if_neg c16] at H
                  have c16b0 : (t281 == x5_1) = false := beq_eq_false_iff_ne.mpr c16
                  have c16b1 : (t281 != x5_1) = true := bne_iff_ne.mpr c16
                  have H' := Aside0.mk H
                  clear H
                  go_wp2
                  go_meet
                  case rel => exact ⟨_, (true), (by first | rfl | (simp; done) | (simp [*]; done)), H', ⟨by have := HK1.out; have := HJ2.out; first | omega | exact Nat.le_refl _⟩, ⟨by (with_reducible repeat (first | apply Kd.V_alloc | apply Kd.V_drewN | apply Kd.V_drew)); exact Kd.V_mono (Kd.V_far (p := ⟨gb283, 1, none⟩) (Kd.V_far (p := ⟨gb283, 0, none⟩) (Kd.V_mono HO_276001.out (fun k_ hk => (⟨hk, hk.2⟩ : _ ∧ k_ ≠ gb283))) (fun _ hk => hk.2) (.int .i64 t277)) (fun _ hk => hk.2) (.slice Ao14 t278.length co14)) (fun _ hk => ⟨hk.1.1, hk.1.2⟩)⟩, ⟨by (with_reducible repeat (first | apply Kd.V_alloc | apply Kd.V_drewN | apply Kd.V_drew)); exact Kd.V_mono (Kd.V_far (p := ⟨gb283, 1, none⟩) (Kd.V_far (p := ⟨gb283, 0, none⟩) (Kd.V_mono HO280.out (fun k_ hk => (⟨hk, hk.2⟩ : _ ∧ k_ ≠ gb283))) (fun _ hk => hk.2) (.int .i64 t277)) (fun _ hk => hk.2) (.slice Ao14 t278.length co14)) (fun _ hk => ⟨hk.1.1, hk.1.2⟩)⟩, ⟨by (with_reducible repeat (first | refine blk_drewN ?_ _ | refine blk_drew ?_ | refine blk_alloc ?_ _)); refine blk_far ?_ NB275_283.out _; (with_reducible repeat (first | refine blk_drewN ?_ _ | refine blk_drew ?_ | refine blk_alloc ?_ _)); refine blk_far ?_ NB275_283.out _; (with_reducible repeat (first | refine blk_drewN ?_ _ | refine blk_drew ?_ | refine blk_alloc ?_ _)); exact BK275.out⟩, ⟨by (with_reducible repeat (first | refine blk_drewN ?_ _ | refine blk_drew ?_ | refine blk_alloc ?_ _)); refine blk_put (cs := #[.int .i64 t277, .slice none 0 0]) ?_ 1 _ rfl; (with_reducible repeat (first | refine blk_drewN ?_ _ | refine blk_drew ?_ | refine blk_alloc ?_ _)); refine blk_put (cs := #[.int .i64 0, .slice none 0 0]) ?_ 0 _ rfl; (with_reducible repeat (first | refine blk_drewN ?_ _ | refine blk_drew ?_ | refine blk_alloc ?_ _)); exact BK283.out⟩, ⟨by repeat (first | (with_reducible first | exact HB.out | apply below_alloc | apply pw_below_drewN | apply below_drew1 | refine below_set ?_ GE275.out | refine below_set ?_ GE283.out) | exact HB.out)⟩⟩
              · rw [if_neg c15] at H
                have c15b0 : (t282 == 0) = false := beq_eq_false_iff_ne.mpr c15
                have c15b1 : (t282 != 0) = true := bne_iff_ne.mpr c15
                (first | rw [c15b0] | (simp only [i64_w, i32_w]; rw [c15b0]) | skip)
                have H' := Aside0.mk H
                clear H
                go_wp2
                go_meet
                case rel => exact ⟨_, (true), (by first | rfl | (simp; done) | (simp [*]; done)), H', ⟨by have := HK1.out; have := HJ2.out; first | omega | exact Nat.le_refl _⟩, ⟨by (with_reducible repeat (first | apply Kd.V_alloc | apply Kd.V_drewN | apply Kd.V_drew)); exact Kd.V_mono (Kd.V_far (p := ⟨gb283, 1, none⟩) (Kd.V_far (p := ⟨gb283, 0, none⟩) (Kd.V_mono HO_276001.out (fun k_ hk => (⟨hk, hk.2⟩ : _ ∧ k_ ≠ gb283))) (fun _ hk => hk.2) (.int .i64 t277)) (fun _ hk => hk.2) (.slice Ao14 t278.length co14)) (fun _ hk => ⟨hk.1.1, hk.1.2⟩)⟩, ⟨by (with_reducible repeat (first | apply Kd.V_alloc | apply Kd.V_drewN | apply Kd.V_drew)); exact Kd.V_mono (Kd.V_far (p := ⟨gb283, 1, none⟩) (Kd.V_far (p := ⟨gb283, 0, none⟩) (Kd.V_mono HO280.out (fun k_ hk => (⟨hk, hk.2⟩ : _ ∧ k_ ≠ gb283))) (fun _ hk => hk.2) (.int .i64 t277)) (fun _ hk => hk.2) (.slice Ao14 t278.length co14)) (fun _ hk => ⟨hk.1.1, hk.1.2⟩)⟩, ⟨by (with_reducible repeat (first | refine blk_drewN ?_ _ | refine blk_drew ?_ | refine blk_alloc ?_ _)); refine blk_far ?_ NB275_283.out _; (with_reducible repeat (first | refine blk_drewN ?_ _ | refine blk_drew ?_ | refine blk_alloc ?_ _)); refine blk_far ?_ NB275_283.out _; (with_reducible repeat (first | refine blk_drewN ?_ _ | refine blk_drew ?_ | refine blk_alloc ?_ _)); exact BK275.out⟩, ⟨by (with_reducible repeat (first | refine blk_drewN ?_ _ | refine blk_drew ?_ | refine blk_alloc ?_ _)); refine blk_put (cs := #[.int .i64 t277, .slice none 0 0]) ?_ 1 _ rfl; (with_reducible repeat (first | refine blk_drewN ?_ _ | refine blk_drew ?_ | refine blk_alloc ?_ _)); refine blk_put (cs := #[.int .i64 0, .slice none 0 0]) ?_ 0 _ rfl; (with_reducible repeat (first | refine blk_drewN ?_ _ | refine blk_drew ?_ | refine blk_alloc ?_ _)); exact BK283.out⟩, ⟨by repeat (first | (with_reducible first | exact HB.out | apply below_alloc | apply pw_below_drewN | apply below_drew1 | refine below_set ?_ GE275.out | refine below_set ?_ GE283.out) | exact HB.out)⟩⟩
            case rest =>
              clear HC7
              try clear c1
              try clear p2
              try clear c4
              try clear c4b0
              try clear c5
              try clear c6
              try clear p6
              try clear c10
              try clear c12
              try clear c15
              try clear c15b0
              try clear c15b1
              try clear c16
              try clear c16b0
              try clear c16b1
              try clear c17
              try clear hcz13_0
              try clear hcz13_1
              try clear hcz18_0
              try clear hcz18_1
              try clear hcz8_0
              try clear hcz8_1
              try clear hfz13_0
              try clear hfz13_1
              try clear hfz18_0
              try clear hfz18_1
              try clear hfz8_0
              try clear hfz8_1
              try clear p2
              obtain ⟨kq, x38_6, rfl, HA, HJ6, HO_276001, HO_284001, BK275, BK283, HB⟩ := hcut
              cases kq with
              | zero => exact absurd HA.out (by simp [switchboardlaw10_LinkNumbers.j2])
              | succ kj6 =>
                have H := HA.out
                clear HA
                simp only [switchboardlaw10_LinkNumbers.j2] at H
                by_cases c19 : x38_6 = true
                · subst c19
                  have H1 : (some false) = some true := by rw [if_pos rfl] at H; exact H
                  clear H
                  have H := H1
                  clear H1
                  exact absurd H (by simp)
                · replace c19 := Bool.eq_false_iff.mpr c19
                  subst c19
                  have H1 : (if x5_1 < 60 then (if 0 ≤ x5_1 then (if x5_1 < (l0.length : Int) then (switchboardlaw10_LinkNumbers.j3 kj6 l0 x4_1 x5_1 t281 (rdOf false l0 x5_1) t277 t278) else (none)) else (none)) else (switchboardlaw10_LinkNumbers.j3 kj6 l0 x4_1 x5_1 t281 false t277 t278)) = some true := by rw [if_neg (show ¬ (false = true) by decide)] at H; exact H
                  clear H
                  have H := H1
                  clear H1
                  have HC20 := Aside0.mk H
                  clear H
                  have hnb21 := NB283_275.out
                  have hnc21 := NB275_283.out
                  have hcz22_0 : wc.cell? ⟨gb283, 0, none⟩ = some (.int .i64 t277) := (blk_cell BK283.out 0).trans rfl
                  have hcz22_1 : wc.cell? ⟨gb283, 1, none⟩ = some (.slice Ao14 t278.length co14) := (blk_cell BK283.out 1).trans rfl
                  have hfz22_0 := blk_frozen BK283.out 0
                  have hfz22_1 := blk_frozen BK283.out 1
                  have hcz23_0 : wc.cell? ⟨gb275, 0, none⟩ = some (.int .i64 x276000_1) := (blk_cell BK275.out 0).trans rfl
                  have hcz23_1 : wc.cell? ⟨gb275, 1, none⟩ = some (.slice Ao9 x276001_1.length co9) := (blk_cell BK275.out 1).trans rfl
                  have hfz23_0 := blk_frozen BK275.out 0
                  have hfz23_1 := blk_frozen BK275.out 1
                  go_upto_region 10 with (fail)
                  go_cut [47] (fun v47 wc => ∃ (kq : Nat) (x47_19 : Bool), v47 = .bool x47_19 ∧ Aside0 (switchboardlaw10_LinkNumbers.j3 kq l0 x4_1 x5_1 t281 x47_19 t277 t278 = some true) ∧ Aside0 (kq ≤ kj6) ∧ Aside0 (Kd.V k45 45 wc w.heap.size (fun k_ => k_ ≠ gb275 ∧ k_ ≠ gb283) (.slice Ao14 t278.length co14) t278) ∧ Aside0 (Kd.V k45 45 wc w.heap.size (fun k_ => k_ ≠ gb275 ∧ k_ ≠ gb283) (.slice Ao14 t278.length co14) t278) ∧ Aside0 (wc.heap[gb275]? = some (.cells #[.int .i64 t277, (.slice Ao14 t278.length co14)] 24 (0, 0))) ∧ Aside0 (wc.heap[gb283]? = some (.cells #[.int .i64 t277, (.slice Ao14 t278.length co14)] 24 (0, 0))) ∧ Aside0 (Below w.heap.size w wc))
                  case first =>
                    have H := HC20.out
                    clear HC20
                    by_cases c24 : x5_1 < 60
                    · rw [if_pos c24] at H
                      have c24b0 : decide (x5_1 < 60) = true := decide_eq_true c24
                      clear c24
                      (first | rw [c24b0] | (simp only [i64_w, i32_w]; rw [c24b0]) | skip)
                      by_cases c25 : 0 ≤ x5_1
                      · rw [if_pos c25] at H
                        have c25b0 : decide (0 ≤ x5_1) = true := decide_eq_true c25
                        clear c25
                        by_cases c26 : x5_1 < (l0.length : Int)
                        · rw [if_pos c26] at H
                          have c26b0 : decide (x5_1 < (l0.length : Int)) = true := decide_eq_true c26
                          clear c26
                          have H' := Aside0.mk H
                          clear H
                          have p284 : 0 ≤ (x5_1 : Int) := of_decide_eq_true (by first | (with_reducible assumption) | assumption)
                          have q284 : x5_1 < (l0.length : Int) := of_decide_eq_true (by first | (with_reducible assumption) | assumption)
                          obtain ⟨ad284, e284, hx284_0⟩ := Kd.at_bool HR0.out x5_1 p284 q284
                          cases e284
                          have hn284_0 : ad284.block ≠ gb275 := Nat.ne_of_lt (Nat.lt_of_lt_of_le (by have := World.block_lt_of_cell? _ _ hx284_0; first | rwa [add_block] at this | exact this) GW275.out)
                          have hn284_1 : ad284.block ≠ gb275 := Nat.ne_of_lt (Nat.lt_of_lt_of_le (by have := World.block_lt_of_cell? _ _ hx284_0; first | rwa [add_block] at this | exact this) GW275.out)
                          replace hx284_0 := (HB.out.cell (World.block_lt_of_cell? w _ hx284_0)).trans hx284_0
                          replace hx284_0 := (cell_far (p := ⟨gb275, 0, none⟩) (by first | (rw [add_block]; exact hn284_0) | (show (Addr.add _ _).block ≠ _; rw [add_block]; exact hn284_0) | exact hn284_0) (.int .i64 t277)).trans hx284_0
                          replace hx284_0 := (cell_far (p := ⟨gb275, 1, none⟩) (by first | (rw [add_block]; exact hn284_1) | (show (Addr.add _ _).block ≠ _; rw [add_block]; exact hn284_1) | exact hn284_1) (.slice Ao14 t278.length co14)).trans hx284_0
                          clear hn284_0
                          clear hn284_1
                          replace p284 := eq_true p284
                          replace q284 := eq_true q284
                          go_wp2
                          go_meet
                          case rel => exact ⟨_, (rdOf false l0 x5_1), (by first | rfl | (simp; done) | (simp [*]; done)), H', ⟨by have := HK1.out; have := HJ2.out; have := HJ6.out; first | omega | exact Nat.le_refl _⟩, ⟨by (with_reducible repeat (first | apply Kd.V_alloc | apply Kd.V_drewN | apply Kd.V_drew)); exact Kd.V_mono (Kd.V_far (p := ⟨gb275, 1, none⟩) (Kd.V_far (p := ⟨gb275, 0, none⟩) (Kd.V_mono HO_284001.out (fun k_ hk => (⟨hk, hk.1⟩ : _ ∧ k_ ≠ gb275))) (fun _ hk => hk.2) (.int .i64 t277)) (fun _ hk => hk.2) (.slice Ao14 t278.length co14)) (fun _ hk => ⟨hk.1.1, hk.1.2⟩)⟩, ⟨by (with_reducible repeat (first | apply Kd.V_alloc | apply Kd.V_drewN | apply Kd.V_drew)); exact Kd.V_mono (Kd.V_far (p := ⟨gb275, 1, none⟩) (Kd.V_far (p := ⟨gb275, 0, none⟩) (Kd.V_mono HO_284001.out (fun k_ hk => (⟨hk, hk.1⟩ : _ ∧ k_ ≠ gb275))) (fun _ hk => hk.2) (.int .i64 t277)) (fun _ hk => hk.2) (.slice Ao14 t278.length co14)) (fun _ hk => ⟨hk.1.1, hk.1.2⟩)⟩, ⟨by (with_reducible repeat (first | refine blk_drewN ?_ _ | refine blk_drew ?_ | refine blk_alloc ?_ _)); refine blk_put (cs := #[.int .i64 t277, .slice Ao9 x276001_1.length co9]) ?_ 1 _ rfl; (with_reducible repeat (first | refine blk_drewN ?_ _ | refine blk_drew ?_ | refine blk_alloc ?_ _)); refine blk_put (cs := #[.int .i64 x276000_1, .slice Ao9 x276001_1.length co9]) ?_ 0 _ rfl; (with_reducible repeat (first | refine blk_drewN ?_ _ | refine blk_drew ?_ | refine blk_alloc ?_ _)); exact BK275.out⟩, ⟨by (with_reducible repeat (first | refine blk_drewN ?_ _ | refine blk_drew ?_ | refine blk_alloc ?_ _)); refine blk_far ?_ NB283_275.out _; (with_reducible repeat (first | refine blk_drewN ?_ _ | refine blk_drew ?_ | refine blk_alloc ?_ _)); refine blk_far ?_ NB283_275.out _; (with_reducible repeat (first | refine blk_drewN ?_ _ | refine blk_drew ?_ | refine blk_alloc ?_ _)); exact BK283.out⟩, ⟨by repeat (first | (with_reducible first | exact HB.out | apply below_alloc | apply pw_below_drewN | apply below_drew1 | refine below_set ?_ GE275.out | refine below_set ?_ GE283.out) | exact HB.out)⟩⟩
                        · rw [if_neg c26] at H
                          exact absurd H (by simp)
                      · rw [if_neg c25] at H
                        exact absurd H (by simp)
                    · rw [if_neg c24] at H
                      have c24b0 : decide (x5_1 < 60) = false := decide_eq_false c24
                      clear c24
                      (first | rw [c24b0] | (simp only [i64_w, i32_w]; rw [c24b0]) | skip)
                      have H' := Aside0.mk H
                      clear H
                      go_wp2
                      go_meet
                      case rel => exact ⟨_, (false), (by first | rfl | (simp; done) | (simp [*]; done)), H', ⟨by have := HK1.out; have := HJ2.out; have := HJ6.out; first | omega | exact Nat.le_refl _⟩, ⟨by (with_reducible repeat (first | apply Kd.V_alloc | apply Kd.V_drewN | apply Kd.V_drew)); exact Kd.V_mono (Kd.V_far (p := ⟨gb275, 1, none⟩) (Kd.V_far (p := ⟨gb275, 0, none⟩) (Kd.V_mono HO_284001.out (fun k_ hk => (⟨hk, hk.1⟩ : _ ∧ k_ ≠ gb275))) (fun _ hk => hk.2) (.int .i64 t277)) (fun _ hk => hk.2) (.slice Ao14 t278.length co14)) (fun _ hk => ⟨hk.1.1, hk.1.2⟩)⟩, ⟨by (with_reducible repeat (first | apply Kd.V_alloc | apply Kd.V_drewN | apply Kd.V_drew)); exact Kd.V_mono (Kd.V_far (p := ⟨gb275, 1, none⟩) (Kd.V_far (p := ⟨gb275, 0, none⟩) (Kd.V_mono HO_284001.out (fun k_ hk => (⟨hk, hk.1⟩ : _ ∧ k_ ≠ gb275))) (fun _ hk => hk.2) (.int .i64 t277)) (fun _ hk => hk.2) (.slice Ao14 t278.length co14)) (fun _ hk => ⟨hk.1.1, hk.1.2⟩)⟩, ⟨by (with_reducible repeat (first | refine blk_drewN ?_ _ | refine blk_drew ?_ | refine blk_alloc ?_ _)); refine blk_put (cs := #[.int .i64 t277, .slice Ao9 x276001_1.length co9]) ?_ 1 _ rfl; (with_reducible repeat (first | refine blk_drewN ?_ _ | refine blk_drew ?_ | refine blk_alloc ?_ _)); refine blk_put (cs := #[.int .i64 x276000_1, .slice Ao9 x276001_1.length co9]) ?_ 0 _ rfl; (with_reducible repeat (first | refine blk_drewN ?_ _ | refine blk_drew ?_ | refine blk_alloc ?_ _)); exact BK275.out⟩, ⟨by (with_reducible repeat (first | refine blk_drewN ?_ _ | refine blk_drew ?_ | refine blk_alloc ?_ _)); refine blk_far ?_ NB283_275.out _; (with_reducible repeat (first | refine blk_drewN ?_ _ | refine blk_drew ?_ | refine blk_alloc ?_ _)); refine blk_far ?_ NB283_275.out _; (with_reducible repeat (first | refine blk_drewN ?_ _ | refine blk_drew ?_ | refine blk_alloc ?_ _)); exact BK283.out⟩, ⟨by repeat (first | (with_reducible first | exact HB.out | apply below_alloc | apply pw_below_drewN | apply below_drew1 | refine below_set ?_ GE275.out | refine below_set ?_ GE283.out) | exact HB.out)⟩⟩
                  case rest =>
                    clear HC20
                    try clear c1
                    try clear c2
                    try clear p2
                    try clear q2
                    try clear hx2
                    try clear c4
                    try clear c4b0
                    try clear c5
                    try clear c6
                    try clear p6
                    try clear c10
                    try clear c12
                    try clear c15
                    try clear c15b0
                    try clear c15b1
                    try clear c16
                    try clear c16b0
                    try clear c16b1
                    try clear c17
                    try clear c19
                    try clear c21
                    try clear c24
                    try clear c24b0
                    try clear c25
                    try clear c25b0
                    try clear c26
                    try clear c26b0
                    try clear hcz13_0
                    try clear hcz13_1
                    try clear hcz18_0
                    try clear hcz18_1
                    try clear hcz22_0
                    try clear hcz22_1
                    try clear hcz23_0
                    try clear hcz23_1
                    try clear hcz8_0
                    try clear hcz8_1
                    try clear hfz13_0
                    try clear hfz13_1
                    try clear hfz18_0
                    try clear hfz18_1
                    try clear hfz22_0
                    try clear hfz22_1
                    try clear hfz23_0
                    try clear hfz23_1
                    try clear hfz8_0
                    try clear hfz8_1
                    try clear hx284_0
                    try clear p2
                    try clear p284
                    try clear p6
                    try clear q284
                    obtain ⟨kq, x47_19, rfl, HA, HJ19, HO_276001, HO_284001, BK275, BK283, HB⟩ := hcut
                    cases kq with
                    | zero => exact absurd HA.out (by simp [switchboardlaw10_LinkNumbers.j3])
                    | succ kj19 =>
                      have H := HA.out
                      clear HA
                      simp only [switchboardlaw10_LinkNumbers.j3] at H
                      by_cases c27 : x47_19 = true
                      · subst c27
                        have H1 : (if (t278.length : Int) = (wrap64 (x4_1 + 1)) then (switchboardlaw10_LinkNumbers.l0 kj19 l0 (wrap64 (x4_1 + 1)) (wrap64 (x5_1 + 1)) t277 t278) else (some false)) = some true := by rw [if_pos rfl] at H; exact H
                        clear H
                        have H := H1
                        clear H1
                        by_cases c28 : (t278.length : Int) = (wrap64 (x4_1 + 1))
                        · rw [if_pos c28] at H
                          have c28b0 : ((t278.length : Int) == (wrap64 (x4_1 + 1))) = true := beq_iff_eq.mpr c28
                          have c28b1 : ((t278.length : Int) != (wrap64 (x4_1 + 1))) = false := bne_eq_false_iff_eq.mpr c28
                          clear c28
                          have H' := Aside0.mk H
                          clear H
                          have hnb29 := NB275_283.out
                          have hnc29 := NB283_275.out
                          have hcz30_0 : wc.cell? ⟨gb275, 0, none⟩ = some (.int .i64 t277) := (blk_cell BK275.out 0).trans rfl
                          have hcz30_1 : wc.cell? ⟨gb275, 1, none⟩ = some (.slice Ao14 t278.length co14) := (blk_cell BK275.out 1).trans rfl
                          have hfz30_0 := blk_frozen BK275.out 0
                          have hfz30_1 := blk_frozen BK275.out 1
                          go_wp2
                          go_roundg kj19
                          case measure => have := HK1.out; have := HJ2.out; have := HJ6.out; have := HJ19.out; omega
                          case rel => exact ⟨(wrap64 (x4_1 + 1)), (wrap64 (x5_1 + 1)), (t277), (t278), (.slice Ao14 t278.length co14), (by first | rfl | (simp; done) | (simp [*]; done)), (by first | rfl | (simp; done) | (simp [*]; done)), H', ⟨by have := HK1.out; have := HJ2.out; have := HJ6.out; have := HJ19.out; omega⟩, ⟨by (with_reducible repeat (first | apply Kd.V_alloc | apply Kd.V_drewN | apply Kd.V_drew)); exact Kd.V_mono HO_276001.out (fun _ hk => hk.1)⟩, ⟨by (with_reducible repeat (first | refine blk_drewN ?_ _ | refine blk_drew ?_ | refine blk_alloc ?_ _)); exact BK275.out⟩, ⟨by repeat (first | (with_reducible first | exact HB.out | apply below_alloc | apply pw_below_drewN | apply below_drew1 | refine below_set ?_ GE275.out | refine below_set ?_ GE283.out) | exact HB.out)⟩⟩
                        · rw [if_neg c28] at H
                          have c28b0 : ((t278.length : Int) == (wrap64 (x4_1 + 1))) = false := beq_eq_false_iff_ne.mpr c28
                          have c28b1 : ((t278.length : Int) != (wrap64 (x4_1 + 1))) = true := bne_iff_ne.mpr c28
                          exact absurd H (by simp)
                      · replace c27 := Bool.eq_false_iff.mpr c27
                        subst c27
                        have H1 : ((link_Told.f t277 t278 t281).bind fun bt285 => (if (bt285.2.length : Int) = x4_1 then (switchboardlaw10_LinkNumbers.l0 kj19 l0 x4_1 (wrap64 (x5_1 + 1)) bt285.1 bt285.2) else (some false))) = some true := by rw [if_neg (show ¬ (false = true) by decide)] at H; exact H
                        clear H
                        have H := H1
                        clear H1
                        replace H := Option.bind_eq_some_iff.mp H
                        obtain ⟨⟨t285, t286⟩, A310, H⟩ := H
                        replace H : (if (t286.length : Int) = x4_1 then (switchboardlaw10_LinkNumbers.l0 kj19 l0 x4_1 (wrap64 (x5_1 + 1)) t285 t286) else (some false)) = some true := H
                        have A31 := Aside0.mk A310
                        clear A310
                        by_cases c32 : (t286.length : Int) = x4_1
                        · rw [if_pos c32] at H
                          have c32b0 : ((t286.length : Int) == x4_1) = true := beq_iff_eq.mpr c32
                          have c32b1 : ((t286.length : Int) != x4_1) = false := bne_eq_false_iff_eq.mpr c32
                          clear c32
                          have H' := Aside0.mk H
                          clear H
                          have hnb33 := NB275_283.out
                          have hnc33 := NB283_275.out
                          have hcz34_0 : wc.cell? ⟨gb275, 0, none⟩ = some (.int .i64 t277) := (blk_cell BK275.out 0).trans rfl
                          have hcz34_1 : wc.cell? ⟨gb275, 1, none⟩ = some (.slice Ao14 t278.length co14) := (blk_cell BK275.out 1).trans rfl
                          have hfz34_0 := blk_frozen BK275.out 0
                          have hfz34_1 := blk_frozen BK275.out 1
                          go_wp2_with (first | ((with_reducible refine gate_callee (f := 11) rfl ?_); refine goesL_ (some 52) rfl rfl Try.func11 (by kernel_rfl) rfl #[.agg #[.int .i64 t277, .slice Ao14 t278.length co14], .int .i64 t281] rfl (by (try simp only [List.map_toArray, List.map_cons, List.map_nil]); first | done | rfl | (simp only [List.length_drop, List.length_take]; rfl)) ?_; (with_reducible refine (link_Told.calls t277 _ _ t278 t281 t285 t286 _ ?side1 ?side2 A31.out).mono ?_); (case side1 => repeat (first | exact (Kd.V_reads' HO_276001.out).2.2 | (with_reducible refine Kd.C_alloc ?_ _) | (with_reducible refine Kd.C_drewN ?_ _) | (with_reducible refine Kd.C_drew ?_))); (case side2 => exact (Kd.V_reads' HO_276001.out).2.1); rintro e w35 ⟨v287, rfl, ho0, hb⟩; refine ⟨_, rfl, ?_⟩; have n0_ := Aside0.mk (Kd.V_elder' (by (with_reducible repeat (first | apply Kd.V_alloc | apply Kd.V_drewN | apply Kd.V_drew)); exact HO_276001.out) (Kd.R_base ho0) hb); have n1_ := Aside0.mk (Kd.V_elder' (by (with_reducible repeat (first | apply Kd.V_alloc | apply Kd.V_drewN | apply Kd.V_drew)); exact HO_284001.out) (Kd.R_base ho0) hb); have n2_ := Aside0.mk (Kd.R_lower ho0 (below_size (by repeat (first | (with_reducible first | exact HB.out | apply below_alloc | apply pw_below_drewN | apply below_drew1 | refine below_set ?_ GE275.out | refine below_set ?_ GE283.out) | exact HB.out)))); have n3_ := Aside0.mk (blk_below (g := gb275) (o := .cells #[.int .i64 t277, .slice Ao14 t278.length co14] 24 (0, 0)) (by (with_reducible repeat (first | refine blk_drewN ?_ _ | refine blk_drew ?_ | refine blk_alloc ?_ _)); exact BK275.out) hb); have n4_ := Aside0.mk (blk_below (g := gb283) (o := .cells #[.int .i64 t277, .slice Ao14 t278.length co14] 24 (0, 0)) (by (with_reducible repeat (first | refine blk_drewN ?_ _ | refine blk_drew ?_ | refine blk_alloc ?_ _)); exact BK283.out) hb); have n5_ := Aside0.mk (below_step (by repeat (first | (with_reducible first | exact HB.out | apply below_alloc | apply pw_below_drewN | apply below_drew1 | refine below_set ?_ GE275.out | refine below_set ?_ GE283.out) | exact HB.out)) hb); clear HO_276001; clear HO_284001; clear BK275; clear BK283; clear HB; have HO_276001 := n0_; have HO_284001 := n1_; have HO288 := n2_; have BK275 := n3_; have BK283 := n4_; have HB := n5_; clear n0_ n1_ n2_ n3_ n4_ n5_; (try clear hb); (try clear hb2); (try clear hk); (try clear hi); (try clear ho0); have hcz36_0 : w35.cell? ⟨gb275, 0, none⟩ = some (.int .i64 t277) := (blk_cell BK275.out 0).trans rfl; have hcz36_1 : w35.cell? ⟨gb275, 1, none⟩ = some (.slice Ao14 t278.length co14) := (blk_cell BK275.out 1).trans rfl; have hfz36_0 := blk_frozen BK275.out 0; have hfz36_1 := blk_frozen BK275.out 1; obtain ⟨Ao37, co37, eo37⟩ := Kd.R_slice HO288.out; subst eo37))
                          go_roundg kj19
                          case measure => have := HK1.out; have := HJ2.out; have := HJ6.out; have := HJ19.out; omega
                          case rel => exact ⟨(x4_1), (wrap64 (x5_1 + 1)), (t285), (t286), (.slice Ao37 t286.length co37), (by first | rfl | (simp; done) | (simp [*]; done)), (by first | rfl | (simp; done) | (simp [*]; done)), H', ⟨by have := HK1.out; have := HJ2.out; have := HJ6.out; have := HJ19.out; omega⟩, ⟨Kd.R_V (by (with_reducible repeat (first | apply Kd.R_alloc | apply Kd.R_drewN | apply Kd.R_drew)); exact Kd.R_mono (Kd.R_far (p := ⟨gb275, 1, none⟩) (Kd.R_far (p := ⟨gb275, 0, none⟩) (Kd.R_types (Kd.R_types HO288.out BK275.out (by decide)) BK275.out (by decide)) (fun _ hk => hk.2) (.int .i64 t285)) (fun _ hk => hk.2) (.slice Ao37 t286.length co37)) (fun _ hk => hk.1.2))⟩, ⟨by (with_reducible repeat (first | refine blk_drewN ?_ _ | refine blk_drew ?_ | refine blk_alloc ?_ _)); refine blk_put (cs := #[.int .i64 t285, .slice Ao14 t278.length co14]) ?_ 1 _ rfl; (with_reducible repeat (first | refine blk_drewN ?_ _ | refine blk_drew ?_ | refine blk_alloc ?_ _)); refine blk_put (cs := #[.int .i64 t277, .slice Ao14 t278.length co14]) ?_ 0 _ rfl; (with_reducible repeat (first | refine blk_drewN ?_ _ | refine blk_drew ?_ | refine blk_alloc ?_ _)); exact BK275.out⟩, ⟨by repeat (first | (with_reducible first | exact HB.out | apply below_alloc | apply pw_below_drewN | apply below_drew1 | refine below_set ?_ GE275.out | refine below_set ?_ GE283.out) | exact HB.out)⟩⟩
                        · rw [if_neg c32] at H
                          have c32b0 : ((t286.length : Int) == x4_1) = false := beq_eq_false_iff_ne.mpr c32
                          have c32b1 : ((t286.length : Int) != x4_1) = true := bne_iff_ne.mpr c32
                          exact absurd H (by simp)
          · replace c5 := Bool.eq_false_iff.mpr c5
            subst c5
            have H1 : ((switchboardlaw10_awake.f kj2).bind fun t276 => (some t276)) = some true := by rw [if_neg (show ¬ (false = true) by decide)] at H; exact H
            clear H
            have H := H1
            clear H1
            replace H := Option.bind_eq_some_iff.mp H
            obtain ⟨t276, A380, H⟩ := H
            replace H : (some t276) = some true := H
            have A38 := Aside0.mk A380
            clear A380
            have hr_ := Aside0.mk (Option.some.inj H)
            go_wp2_with (first | ((with_reducible refine gate_callee (f := 9) rfl ?_); refine goesL_ (some 58) rfl rfl Try.func9 (by kernel_rfl) rfl #[] rfl (by (try simp only [List.map_toArray, List.map_cons, List.map_nil]); first | done | rfl | (simp only [List.length_drop, List.length_take]; rfl)) ?_; (with_reducible refine (switchboardlaw10_awake.calls kj2  t276 _ A38.out).mono ?_); rintro e w39 ⟨rfl, hb⟩; refine ⟨_, rfl, ?_⟩; have n0_ := Aside0.mk (Kd.V_below (by (with_reducible repeat (first | apply Kd.V_alloc | apply Kd.V_drewN | apply Kd.V_drew)); exact HO_276001.out) hb); have n1_ := Aside0.mk (blk_below (g := gb275) (o := .cells #[.int .i64 x276000_1, u276001] 24 (0, 0)) (by (with_reducible repeat (first | refine blk_drewN ?_ _ | refine blk_drew ?_ | refine blk_alloc ?_ _)); exact BK275.out) hb); have n2_ := Aside0.mk (below_step (by repeat (first | (with_reducible first | exact HB.out | apply below_alloc | apply pw_below_drewN | apply below_drew1 | refine below_set ?_ GE275.out) | exact HB.out)) hb); clear HO_276001; clear BK275; clear HB; have HO_276001 := n0_; have BK275 := n1_; have HB := n2_; clear n0_ n1_ n2_; (try clear hb); (try clear hb2); (try clear hk); (try clear hi)))
            go_ret
            exact ⟨by first | rfl | exact congrArg (fun b_ => Ending.returned (Value.bool b_)) hr_.out | exact congrArg (fun b_ => Ending.returned (Value.bool b_)) hr_.out | (simp [errW_none, errW_some] <;> rfl) | (simp [*, errW_none, errW_some] <;> rfl), by repeat (first | (with_reducible first | exact HB.out | apply below_alloc | apply pw_below_drewN | apply below_drew1 | refine below_set ?_ GE275.out) | exact HB.out)⟩

end Go.Proofs.Ytikncbklhnaajaa.Pr
