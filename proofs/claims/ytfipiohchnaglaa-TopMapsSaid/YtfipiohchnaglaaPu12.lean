-- Laid by wip/xprint.py, a program of this session that runs the kit's print with some contracts given by hand; not a text of print.sh. Lean checks it.
import Derived.Test.YtfipiohchnaglaaPu0
import Derived.Test.YtfipiohchnaglaaPu10
import Derived.Test.YtfipiohchnaglaaPu11
namespace Go.Proofs.Ytfipiohchnaglaa.Pu
open Go.RowKit Go.Proofs.YtfipiohchnaglaaW.PrintWords Go.Proofs.YtfipiohchnaglaaW.PrintLast Go.Proofs.YtfipiohchnaglaaW.PrintMore
attribute [local go_sem] max2_int min2_int max_two min_two max_three min_three max_four min_four   -- for this text's walks alone
set_option linter.unusedVariables false
set_option linter.unusedSimpArgs false

/-! ### switchboardref19_May: function 15 -/
/-! ### place_Right: function 56 -/
mutual
def place_Right.l0 : Nat → List (List Int) → Int → Int → Int → List (List Int) → Option (Bool)
  | 0, _, _, _, _, _ => none
  | k + 1, x9, x10, x11, x296000, x296001 => if x11 < x10 then (if 0 ≤ x11 then (if x11 < (x9.length : Int) then (place_Right.l1 k (rd_L1 x9 x11) 0 x9 x10 x11 (rd_L1 x9 x11) ((rd_L1 x9 x11).length : Int) 0 x296000 x296001) else (none)) else (none)) else (if x296000 ≥ 0 then (if x296000 ≤ 2147483647 then (some (decide ((x296001.length : Int) ≤ 8))) else (some false)) else (some false))
def place_Right.l1 : Nat → List Int → Int → List (List Int) → Int → Int → List Int → Int → Int → Int → List (List Int) → Option (Bool)
  | 0, _, _, _, _, _, _, _, _, _, _ => none
  | k + 1, x4, x5, x9, x10, x11, x15, x16, x17, x296000, x296001 => if x17 < x16 then (if 0 ≤ x17 then (if x17 < (x15.length : Int) then (if (rd x15 x17) ≤ x5 then (some false) else (if (rd x15 x17) > 4 then (some false) else (place_Right.l1 k x4 (rd x15 x17) x9 x10 x11 x15 x16 (wrap64 (x17 + 1)) x296000 x296001))) else (none)) else (none)) else (if (x4.length : Int) = 0 then (some false) else (place_Right.l0 k x9 x10 (wrap64 (x11 + 1)) x296000 x296001))
end
def place_Right.f (k : Nat) (a0_0 : Int) (l0_1 : List (List Int)) : Option (Bool) := place_Right.l0 k l0_1 (l0_1.length : Int) 0 a0_0 l0_1
set_option maxHeartbeats 8000000 in
set_option maxRecDepth 100000 in
theorem place_Right.calls (k : Nat) (a0_0 : Int) (A0_1 : Option Addr) (c0_1 : Nat) (l0_1 : List (List Int)) (r : Bool) (w : World) (hr0_1 : Kd.C (Kd.slice 3 (Kd.int .i64)) w A0_1 l0_1.length l0_1) (hc0_1 : l0_1.length ≤ c0_1) (h : place_Right.f k a0_0 l0_1 = some r) :
    Calls Try.prog 56 #[.agg #[.int .i64 a0_0, .slice A0_1 l0_1.length c0_1]] w fun e w' => e = .returned (.bool r) ∧ Below w.heap.size w w' := by
  have hu48 := Try.underlying48
  have HR0_1 := Aside0.mk hr0_1
  have HC0_1 := Aside0.mk hc0_1
  clear hr0_1 hc0_1
  have HB := Aside0.mk (Below.refl w.heap.size w)
  have H : (place_Right.l0 k l0_1 (l0_1.length : Int) 0 a0_0 l0_1) = some r := h
  clear h
  have H' := Aside0.mk H
  clear H
  go_enter Try.func56, Try.ntmps56
  go_wp2_with (first | ((with_reducible refine gate_dst (N := 1) rfl ?_); (try (refine gate_guard (by rfl) ?_; dsimp only)); refine box_event ?hg (N := 1) ?hd (cs := #[.int .i64 a0_0, .slice A0_1 l0_1.length c0_1]) (t := 48) ?hr ?_; (case hd => rfl); (case hg => rfl); (case hr => first | (go_simp; done) | (go_simp; rfl)); intro gb295 hg w2 hbox hb; have n0_ := Aside0.mk (below_step (by repeat (first | (with_reducible first | exact HB.out | apply below_alloc | apply pw_below_drewN | apply below_drew1) | exact HB.out)) hb); have n1_ := Aside0.mk (hbox); have n2_ := Aside0.mk ((by rw [hg]; exact (below_size (by repeat (first | (with_reducible first | exact HB.out | apply below_alloc | apply pw_below_drewN | apply below_drew1) | exact HB.out))) : w.heap.size ≤ gb295)); have n3_ := Aside0.mk ((by rw [hg]; exact (below_size (by repeat (first | (with_reducible first | exact HB.out | apply below_alloc | apply pw_below_drewN | apply below_drew1) | exact HB.out))) : w.heap.size ≤ gb295)); clear HB; have HB := n0_; have BK295 := n1_; have GW295 := n2_; have GE295 := n3_; clear n0_ n1_ n2_ n3_; clear hb hbox hg; have hcz3_0 : w2.cell? ⟨gb295, 0, none⟩ = some (.int .i64 a0_0) := (blk_cell BK295.out 0).trans rfl; have hcz3_1 : w2.cell? ⟨gb295, 1, none⟩ = some (.slice A0_1 l0_1.length c0_1) := (blk_cell BK295.out 1).trans rfl; have hfz3_0 := blk_frozen BK295.out 0; have hfz3_1 := blk_frozen BK295.out 1))
  go_loopg [11] k (fun kq v11 w' => ∃ (x11_1 : Int), v11 = .int .i64 x11_1 ∧ Aside0 (place_Right.l0 kq l0_1 (l0_1.length : Int) x11_1 a0_0 l0_1 = some r) ∧ Aside0 (kq ≤ k) ∧ Aside0 (w'.heap[gb295]? = some (.cells #[.int .i64 a0_0, (.slice A0_1 l0_1.length c0_1)] 48 (0, 0))) ∧ Aside0 (Below w.heap.size w w'))
  case atStart => exact ⟨(0), (by first | rfl | (simp; done) | (simp [*]; done)), H', ⟨Nat.le_refl _⟩, ⟨by (with_reducible repeat (first | refine blk_drewN ?_ _ | refine blk_drew ?_ | refine blk_alloc ?_ _)); exact BK295.out⟩, ⟨by repeat (first | (with_reducible first | exact HB.out | apply below_alloc | apply pw_below_drewN | apply below_drew1 | refine below_set ?_ GE295.out) | exact HB.out)⟩⟩
  case round =>
    clear H'
    try clear p2
    try clear hcz3_0
    try clear hcz3_1
    try clear hfz3_0
    try clear hfz3_1
    obtain ⟨x11_1, rfl, HA, HK1, BK295, HB⟩ := hrel
    cases gk with
    | zero => exact absurd HA.out (by simp [place_Right.l0])
    | succ k1 =>
      have H := HA.out
      clear HA
      simp only [place_Right.l0] at H
      by_cases c4 : x11_1 < (l0_1.length : Int)
      · rw [if_pos c4] at H
        have c4b0 : decide (x11_1 < (l0_1.length : Int)) = true := decide_eq_true c4
        clear c4
        by_cases c5 : 0 ≤ x11_1
        · rw [if_pos c5] at H
          have c5b0 : decide (0 ≤ x11_1) = true := decide_eq_true c5
          clear c5
          by_cases c6 : x11_1 < (l0_1.length : Int)
          · rw [if_pos c6] at H
            have c6b0 : decide (x11_1 < (l0_1.length : Int)) = true := decide_eq_true c6
            clear c6
            have H' := Aside0.mk H
            clear H
            have p296 : 0 ≤ (x11_1 : Int) := of_decide_eq_true (by first | (with_reducible assumption) | assumption)
            have q296 : x11_1 < (l0_1.length : Int) := of_decide_eq_true (by first | (with_reducible assumption) | assumption)
            obtain ⟨ad296, A296_0, c296_0, e296, hx296_0, hl296_0, hi296_0⟩ := at_L1 HR0_1.out x11_1 p296 q296
            cases e296
            replace hx296_0 := (HB.out.cell (World.block_lt_of_cell? w _ hx296_0)).trans hx296_0
            have HR296_0 := Aside0.mk hi296_0
            have HC296_0 := Aside0.mk hl296_0
            clear hi296_0 hl296_0
            replace p296 := eq_true p296
            replace q296 := eq_true q296
            go_wp2
            go_loopg [5, 17] k1 (fun kq v5 v17 w' => ∃ (x5_2 : Int) (x17_2 : Int), v5 = .int .i64 x5_2 ∧ v17 = .int .i64 x17_2 ∧ Aside0 (place_Right.l1 kq (rd_L1 l0_1 x11_1) x5_2 l0_1 (l0_1.length : Int) x11_1 (rd_L1 l0_1 x11_1) ((rd_L1 l0_1 x11_1).length : Int) x17_2 a0_0 l0_1 = some r) ∧ Aside0 (kq ≤ k1) ∧ Aside0 (w'.heap[gb295]? = some (.cells #[.int .i64 a0_0, (.slice (some ad296) l0_1.length c0_1)] 48 (0, 0))) ∧ Aside0 (Below w.heap.size w w'))
            case atStart => exact ⟨(0), (0), (by first | rfl | (simp; done) | (simp [*]; done)), (by first | rfl | (simp; done) | (simp [*]; done)), H', ⟨Nat.le_refl _⟩, ⟨by (with_reducible repeat (first | refine blk_drewN ?_ _ | refine blk_drew ?_ | refine blk_alloc ?_ _)); exact BK295.out⟩, ⟨by repeat (first | (with_reducible first | exact HB.out | apply below_alloc | apply pw_below_drewN | apply below_drew1 | refine below_set ?_ GE295.out) | exact HB.out)⟩⟩
            case round =>
              clear H'
              try clear c2
              try clear p2
              try clear q2
              try clear hx2
              try clear c4
              try clear c4b0
              try clear c5
              try clear c5b0
              try clear c6
              try clear c6b0
              try clear hcz3_0
              try clear hcz3_1
              try clear hfz3_0
              try clear hfz3_1
              try clear hx296_0
              try clear p2
              try clear p296
              try clear q296
              obtain ⟨x5_2, x17_2, rfl, rfl, HA, HK2, BK295, HB⟩ := hrel
              cases gk with
              | zero => exact absurd HA.out (by simp [place_Right.l1])
              | succ k2 =>
                have H := HA.out
                clear HA
                simp only [place_Right.l1] at H
                by_cases c7 : x17_2 < ((rd_L1 l0_1 x11_1).length : Int)
                · rw [if_pos c7] at H
                  have c7b0 : decide (x17_2 < ((rd_L1 l0_1 x11_1).length : Int)) = true := decide_eq_true c7
                  clear c7
                  by_cases c8 : 0 ≤ x17_2
                  · rw [if_pos c8] at H
                    have c8b0 : decide (0 ≤ x17_2) = true := decide_eq_true c8
                    clear c8
                    by_cases c9 : x17_2 < ((rd_L1 l0_1 x11_1).length : Int)
                    · rw [if_pos c9] at H
                      have c9b0 : decide (x17_2 < ((rd_L1 l0_1 x11_1).length : Int)) = true := decide_eq_true c9
                      clear c9
                      by_cases c10 : (rd (rd_L1 l0_1 x11_1) x17_2) ≤ x5_2
                      · rw [if_pos c10] at H
                        have c10b0 : decide ((rd (rd_L1 l0_1 x11_1) x17_2) ≤ x5_2) = true := decide_eq_true c10
                        clear c10
                        obtain rfl := Option.some.inj H
                        have p297 : 0 ≤ (x17_2 : Int) := of_decide_eq_true (by first | (with_reducible assumption) | assumption)
                        have q297 : x17_2 < ((rd_L1 l0_1 x11_1).length : Int) := of_decide_eq_true (by first | (with_reducible assumption) | assumption)
                        obtain ⟨ad297, e297, hx297_0⟩ := Kd.at_int HR296_0.out x17_2 p297 q297
                        cases e297
                        replace hx297_0 := (HB.out.cell (World.block_lt_of_cell? w _ hx297_0)).trans hx297_0
                        replace p297 := eq_true p297
                        replace q297 := eq_true q297
                        go_wp2
                        go_ret
                        exact ⟨by first | rfl | (simp [errW_none, errW_some] <;> rfl) | (simp [*, errW_none, errW_some] <;> rfl), by repeat (first | (with_reducible first | exact HB.out | apply below_alloc | apply pw_below_drewN | apply below_drew1 | refine below_set ?_ GE295.out) | exact HB.out)⟩
                      · rw [if_neg c10] at H
                        have c10b0 : decide ((rd (rd_L1 l0_1 x11_1) x17_2) ≤ x5_2) = false := decide_eq_false c10
                        clear c10
                        by_cases c11 : (rd (rd_L1 l0_1 x11_1) x17_2) > 4
                        · rw [if_pos c11] at H
                          have c11b0 : decide (4 < (rd (rd_L1 l0_1 x11_1) x17_2)) = true := decide_eq_true c11
                          clear c11
                          obtain rfl := Option.some.inj H
                          have p297 : 0 ≤ (x17_2 : Int) := of_decide_eq_true (by first | (with_reducible assumption) | assumption)
                          have q297 : x17_2 < ((rd_L1 l0_1 x11_1).length : Int) := of_decide_eq_true (by first | (with_reducible assumption) | assumption)
                          obtain ⟨ad297, e297, hx297_0⟩ := Kd.at_int HR296_0.out x17_2 p297 q297
                          cases e297
                          replace hx297_0 := (HB.out.cell (World.block_lt_of_cell? w _ hx297_0)).trans hx297_0
                          replace p297 := eq_true p297
                          replace q297 := eq_true q297
                          go_wp2
                          go_ret
                          exact ⟨by first | rfl | (simp [errW_none, errW_some] <;> rfl) | (simp [*, errW_none, errW_some] <;> rfl), by repeat (first | (with_reducible first | exact HB.out | apply below_alloc | apply pw_below_drewN | apply below_drew1 | refine below_set ?_ GE295.out) | exact HB.out)⟩
                        · rw [if_neg c11] at H
                          have c11b0 : decide (4 < (rd (rd_L1 l0_1 x11_1) x17_2)) = false := decide_eq_false c11
                          clear c11
                          have H' := Aside0.mk H
                          clear H
                          have p297 : 0 ≤ (x17_2 : Int) := of_decide_eq_true (by first | (with_reducible assumption) | assumption)
                          have q297 : x17_2 < ((rd_L1 l0_1 x11_1).length : Int) := of_decide_eq_true (by first | (with_reducible assumption) | assumption)
                          obtain ⟨ad297, e297, hx297_0⟩ := Kd.at_int HR296_0.out x17_2 p297 q297
                          cases e297
                          replace hx297_0 := (HB.out.cell (World.block_lt_of_cell? w _ hx297_0)).trans hx297_0
                          replace p297 := eq_true p297
                          replace q297 := eq_true q297
                          go_wp2
                          go_roundg k2
                          case measure => have := HK1.out; have := HK2.out; omega
                          case rel => exact ⟨(rd (rd_L1 l0_1 x11_1) x17_2), (wrap64 (x17_2 + 1)), (by first | rfl | (simp; done) | (simp [*]; done)), (by first | rfl | (simp; done) | (simp [*]; done)), H', ⟨by have := HK1.out; have := HK2.out; omega⟩, ⟨by (with_reducible repeat (first | refine blk_drewN ?_ _ | refine blk_drew ?_ | refine blk_alloc ?_ _)); exact BK295.out⟩, ⟨by repeat (first | (with_reducible first | exact HB.out | apply below_alloc | apply pw_below_drewN | apply below_drew1 | refine below_set ?_ GE295.out) | exact HB.out)⟩⟩
                    · rw [if_neg c9] at H
                      exact absurd H (by simp)
                  · rw [if_neg c8] at H
                    exact absurd H (by simp)
                · rw [if_neg c7] at H
                  have c7b0 : decide (x17_2 < ((rd_L1 l0_1 x11_1).length : Int)) = false := decide_eq_false c7
                  clear c7
                  by_cases c12 : ((rd_L1 l0_1 x11_1).length : Int) = 0
                  · rw [if_pos c12] at H
                    have c12b0 : (((rd_L1 l0_1 x11_1).length : Int) == 0) = true := beq_iff_eq.mpr c12
                    have c12b1 : (((rd_L1 l0_1 x11_1).length : Int) != 0) = false := bne_eq_false_iff_eq.mpr c12
                    clear c12
                    obtain rfl := Option.some.inj H
                    go_wp2
                    go_ret
                    exact ⟨by first | rfl | (simp [errW_none, errW_some] <;> rfl) | (simp [*, errW_none, errW_some] <;> rfl), by repeat (first | (with_reducible first | exact HB.out | apply below_alloc | apply pw_below_drewN | apply below_drew1 | refine below_set ?_ GE295.out) | exact HB.out)⟩
                  · rw [if_neg c12] at H
                    have c12b0 : (((rd_L1 l0_1 x11_1).length : Int) == 0) = false := beq_eq_false_iff_ne.mpr c12
                    have c12b1 : (((rd_L1 l0_1 x11_1).length : Int) != 0) = true := bne_iff_ne.mpr c12
                    have c12b2 : ¬ ((rd_L1 l0_1 x11_1) = []) := fun h_ => c12 (by rw [h_]; rfl)
                    have H' := Aside0.mk H
                    clear H
                    go_wp2
                    go_roundg k2
                    case measure => have := HK1.out; have := HK2.out; omega
                    case rel => exact ⟨(wrap64 (x11_1 + 1)), (by first | rfl | (simp; done) | (simp [*]; done)), H', ⟨by have := HK1.out; have := HK2.out; omega⟩, ⟨by (with_reducible repeat (first | refine blk_drewN ?_ _ | refine blk_drew ?_ | refine blk_alloc ?_ _)); exact BK295.out⟩, ⟨by repeat (first | (with_reducible first | exact HB.out | apply below_alloc | apply pw_below_drewN | apply below_drew1 | refine below_set ?_ GE295.out) | exact HB.out)⟩⟩
          · rw [if_neg c6] at H
            exact absurd H (by simp)
        · rw [if_neg c5] at H
          exact absurd H (by simp)
      · rw [if_neg c4] at H
        have c4b0 : decide (x11_1 < (l0_1.length : Int)) = false := decide_eq_false c4
        clear c4
        by_cases c13 : a0_0 ≥ 0
        · rw [if_pos c13] at H
          have c13b0 : decide (0 ≤ a0_0) = true := decide_eq_true c13
          clear c13
          by_cases c14 : a0_0 ≤ 2147483647
          · rw [if_pos c14] at H
            have c14b0 : decide (a0_0 ≤ 2147483647) = true := decide_eq_true c14
            clear c14
            obtain rfl := Option.some.inj H
            have hcz15_0 : wr.cell? ⟨gb295, 0, none⟩ = some (.int .i64 a0_0) := (blk_cell BK295.out 0).trans rfl
            have hcz15_1 : wr.cell? ⟨gb295, 1, none⟩ = some (.slice A0_1 l0_1.length c0_1) := (blk_cell BK295.out 1).trans rfl
            have hfz15_0 := blk_frozen BK295.out 0
            have hfz15_1 := blk_frozen BK295.out 1
            go_wp2
            go_ret
            exact ⟨by first | rfl | (simp [errW_none, errW_some] <;> rfl) | (simp [*, errW_none, errW_some] <;> rfl), by repeat (first | (with_reducible first | exact HB.out | apply below_alloc | apply pw_below_drewN | apply below_drew1 | refine below_set ?_ GE295.out) | exact HB.out)⟩
          · rw [if_neg c14] at H
            have c14b0 : decide (a0_0 ≤ 2147483647) = false := decide_eq_false c14
            clear c14
            obtain rfl := Option.some.inj H
            have hcz16_0 : wr.cell? ⟨gb295, 0, none⟩ = some (.int .i64 a0_0) := (blk_cell BK295.out 0).trans rfl
            have hcz16_1 : wr.cell? ⟨gb295, 1, none⟩ = some (.slice A0_1 l0_1.length c0_1) := (blk_cell BK295.out 1).trans rfl
            have hfz16_0 := blk_frozen BK295.out 0
            have hfz16_1 := blk_frozen BK295.out 1
            go_wp2
            go_ret
            exact ⟨by first | rfl | (simp [errW_none, errW_some] <;> rfl) | (simp [*, errW_none, errW_some] <;> rfl), by repeat (first | (with_reducible first | exact HB.out | apply below_alloc | apply pw_below_drewN | apply below_drew1 | refine below_set ?_ GE295.out) | exact HB.out)⟩
        · rw [if_neg c13] at H
          have c13b0 : decide (0 ≤ a0_0) = false := decide_eq_false c13
          clear c13
          obtain rfl := Option.some.inj H
          have hcz17_0 : wr.cell? ⟨gb295, 0, none⟩ = some (.int .i64 a0_0) := (blk_cell BK295.out 0).trans rfl
          have hcz17_1 : wr.cell? ⟨gb295, 1, none⟩ = some (.slice A0_1 l0_1.length c0_1) := (blk_cell BK295.out 1).trans rfl
          have hfz17_0 := blk_frozen BK295.out 0
          have hfz17_1 := blk_frozen BK295.out 1
          go_wp2
          go_ret
          exact ⟨by first | rfl | (simp [errW_none, errW_some] <;> rfl) | (simp [*, errW_none, errW_some] <;> rfl), by repeat (first | (with_reducible first | exact HB.out | apply below_alloc | apply pw_below_drewN | apply below_drew1 | refine below_set ?_ GE295.out) | exact HB.out)⟩

/-! ### crc_Sum: function 23 (given by hand) -/
/-- One bit, n bits, one byte, n bytes of the sum; the sum. -/
def crcBit (d : Int) : Int := bits BinOp.xor IntKind.u32 (d / 2) (3988292384 * bits BinOp.and IntKind.u32 d 1 % 4294967296)
def crcIt : Nat → Int → Int
  | 0, d => d
  | n + 1, d => crcBit (crcIt n d)
def crcByte (c b : Int) : Int := crcIt 8 (bits BinOp.xor IntKind.u32 c (b % 4294967296))
def crcTo (s : ByteArray) : Nat → Int
  | 0 => 4294967295
  | n + 1 => crcByte (crcTo s n) ((s.data.toList.getD n 0).toNat : Int)
def crcF (s : ByteArray) : Int := wrap64 (bits BinOp.xor IntKind.u32 (crcTo s s.size) 4294967295)
def crc_Sum.f (s : ByteArray) : Option Int := if s.size ≤ 1000000 then some (crcF s) else none
theorem bytes_cell (w : World) (s : ByteArray) (j : Nat) (hj : j < s.size) (c : Nat) (fz : Nat × Nat) : (w.drew.alloc (.cells (bytesRow s c) 5 fz)).cell? ⟨w.heap.size, j, none⟩ = some (.int .u8 (s.data.toList.getD j 0).toNat) := by
  have h : (w.drew.alloc (.cells (bytesRow s c) 5 fz)).heap[w.heap.size]? = some (.cells (bytesRow s c) 5 fz) := by
    show (w.heap.push _)[w.heap.size]? = _
    simp
  unfold World.cell?
  rw [h]
  simp [bytesRow, Array.getElem?_append, List.getD, hj]
set_option maxHeartbeats 8000000 in
set_option maxRecDepth 100000 in
theorem crc_Sum.calls (a0 : ByteArray) (r : Int) (w : World) (h : crc_Sum.f a0 = some r) :
    Calls Try.prog 23 #[.string a0] w fun e w' => e = .returned (.int .i64 r) ∧ Below w.heap.size w w' := by
  obtain ⟨s, rfl⟩ : ∃ s, s = a0 := ⟨_, rfl⟩
  unfold crc_Sum.f at h
  by_cases hs : s.size ≤ 1000000
  rotate_left
  · rw [if_neg hs] at h
    cases h
  rw [if_pos hs] at h
  obtain rfl := Option.some.inj h
  clear h
  have hu58 := Try.underlying58
  have HS := Aside0.mk hs
  go_enter Try.func23, Try.ntmps23
  go_upto_region 3 with (fail)
  rw [run_bytes_of_string w 9 58 5 s Try.underlying9 Try.underlying58 Try.underlying5]
  simp only [Result.andThen]
  rw [Oper.upon_value]
  obtain ⟨cp, hcp⟩ : ∃ cp, cp = grownCap w s.size 0 5 := ⟨_, rfl⟩
  rw [← hcp]
  clear hcp
  have HB0 := Aside0.mk (below_alloc (below_drew (Below.refl w.heap.size w)) (.cells (bytesRow s cp) 5 ((bytesRow s cp).size, (bytesRow s cp).size + 1)))
  have HC0 : Aside0 (∀ j, j < s.size → (w.drew.alloc (.cells (bytesRow s cp) 5 ((bytesRow s cp).size, (bytesRow s cp).size + 1))).cell? ⟨w.heap.size, j, none⟩ = some (.int .u8 (s.data.toList.getD j 0).toNat)) := ⟨fun j hj => bytes_cell w s j hj cp _⟩
  generalize w.drew.alloc (.cells (bytesRow s cp) 5 ((bytesRow s cp).size, (bytesRow s cp).size + 1)) = w1 at HB0 HC0 ⊢
  have hl6 : (s.size : Int) < 10000000 := by have := HS.out; omega
  obtain ⟨n, hn⟩ : ∃ n, n = s.size := ⟨_, rfl⟩
  rw [← hn] at HC0 hl6 ⊢
  have HN := Aside0.mk hn
  clear hn hs HS
  go_wp2
  go_loopw [3, 10] (fun v3 v10 W => ∃ (i : Nat) (c : Int), v10 = .int .i64 (i : Int) ∧ v3 = .int .u32 c ∧ Aside0 (c = crcTo s i) ∧ Aside0 (i ≤ n) ∧ Aside0 (Below w1.heap.size w1 W)) (fun _ v10 _ => n - (intOf v10).toNat)
  case atStart => exact ⟨0, _, rfl, rfl, ⟨rfl⟩, ⟨by omega⟩, ⟨Below.refl _ _⟩⟩
  case round =>
    obtain ⟨i, c, rfl, rfl, HC, HI, HW⟩ := hrel
    by_cases hlt : i < n
    rotate_left
    · have k1 : decide ((i : Int) < (n : Int)) = false := decide_eq_false (by omega)
      have k1n : decide (i < n) = false := decide_eq_false hlt
      have hi : i = s.size := by have h1 := HI.out; have h2 := HN.out; omega
      have HCE : Aside0 (wrap64 (bits BinOp.xor IntKind.u32 c 4294967295) = crcF s) := ⟨by unfold crcF; rw [HC.out, hi]⟩
      clear hi hlt
      go_wp2
      go_ret
      refine ⟨?_, below_step HB0.out HW.out⟩
      rw [HCE.out]
      first | done | rfl
    have k1 : decide ((i : Int) < (n : Int)) = true := decide_eq_true (by omega)
    have k1n : decide (i < n) = true := decide_eq_true hlt
    have hx := HW.out.cell (World.block_lt_of_cell? w1 _ (HC0.out i hlt)) |>.trans (HC0.out i hlt)
    obtain ⟨b, hb⟩ : ∃ b : Int, b = ((s.data.toList.getD i 0).toNat : Int) := ⟨_, rfl⟩
    rw [← hb] at hx
    have HBE := Aside0.mk hb
    have HLT := Aside0.mk hlt
    clear hb
    obtain ⟨w2, hw2⟩ : ∃ w2, w2 = wr := ⟨_, rfl⟩
    rw [← hw2] at HW hx ⊢
    clear hw2
    go_upto_region 7 with (fail)
    clear hx
    obtain ⟨x0, hx0⟩ : ∃ x0, x0 = bits BinOp.xor IntKind.u32 c (b % 4294967296) := ⟨_, rfl⟩
    rw [← hx0]
    have HX0 := Aside0.mk hx0
    clear hx0
    go_wp2
    go_loopw [3, 18] (fun v3 v18 W => ∃ (j : Nat) (d : Int), v18 = .int .i64 (j : Int) ∧ v3 = .int .u32 d ∧ Aside0 (d = crcIt j x0) ∧ Aside0 (j ≤ 8) ∧ Aside0 (Below w2.heap.size w2 W)) (fun _ v18 _ => 8 - (intOf v18).toNat)
    case atStart => exact ⟨0, _, rfl, rfl, ⟨rfl⟩, ⟨by omega⟩, ⟨Below.refl _ _⟩⟩
    case round =>
      obtain ⟨j, d, rfl, rfl, HD, HJ, HW2⟩ := hrel
      by_cases hj : j < 8
      rotate_left
      · have k3 : decide ((j : Int) < 8) = false := decide_eq_false (by omega)
        have k3n : decide (j < 8) = false := decide_eq_false hj
        have hj8 : j = 8 := by have := HJ.out; omega
        have HDE : Aside0 (d = crcTo s (i + 1)) := ⟨by rw [HD.out, hj8, HX0.out, HC.out, HBE.out]; rfl⟩
        clear hj hj8
        have HWN := Aside0.mk (below_step HW.out HW2.out)
        go_wp2
        refine ⟨⟨i + 1, d, by simp, rfl, HDE, ⟨HLT.out⟩, HWN⟩, ?_⟩
        have := HLT.out
        simp [intOf]
        omega
      have k3 : decide ((j : Int) < 8) = true := decide_eq_true (by omega)
      have k3n : decide (j < 8) = true := decide_eq_true hj
      have HDE : Aside0 (bits BinOp.xor IntKind.u32 (d / 2) (3988292384 * bits BinOp.and IntKind.u32 d 1 % 4294967296) = crcIt (j + 1) x0) := ⟨by rw [HD.out]; rfl⟩
      go_wp2
      refine ⟨⟨j + 1, _, by simp, rfl, HDE, ⟨by omega⟩, HW2⟩, ?_⟩
      simp [intOf]
      omega

/-! ### wire_numbers: function 104 -/
def wire_numbers.f (a0_0 : Int) (a0_1 : Int) (a0_2 : Int) (a0_3 : Int) (a0_4 : Int) (a0_5 : Int) (a0_6 : Int) (a0_7 : Int) (a0_8 : Int) (a0_9 : Int) (l0_10 : List Int) : Option (List Int) := some (([a0_0, a0_1, a0_2, a0_3, a0_4, a0_5, a0_6, a0_7, a0_8, a0_9] : List Int))
set_option maxHeartbeats 8000000 in
set_option maxRecDepth 100000 in
theorem wire_numbers.calls (a0_0 : Int) (a0_1 : Int) (a0_2 : Int) (a0_3 : Int) (a0_4 : Int) (a0_5 : Int) (a0_6 : Int) (a0_7 : Int) (a0_8 : Int) (a0_9 : Int) (A0_10 : Option Addr) (c0_10 : Nat) (l0_10 : List Int) (r : List Int) (w : World) (hr0_10 : Kd.C (Kd.int .i64) w A0_10 l0_10.length l0_10) (hc0_10 : l0_10.length ≤ c0_10) (h : wire_numbers.f a0_0 a0_1 a0_2 a0_3 a0_4 a0_5 a0_6 a0_7 a0_8 a0_9 l0_10 = some r) :
    Calls Try.prog 104 #[.agg #[.int .i64 a0_0, .int .i64 a0_1, .int .i64 a0_2, .int .i64 a0_3, .int .i64 a0_4, .int .i64 a0_5, .int .i64 a0_6, .int .i64 a0_7, .int .i64 a0_8, .int .i64 a0_9, .slice A0_10 l0_10.length c0_10]] w fun e w' => ∃ v0_ : Value, e = .returned (v0_) ∧ Kd.R (Kd.int .i64) 3 w' w.heap.size (fun _ => True) v0_ r ∧ Below w.heap.size w w' := by
  have hu121 := Try.underlying121
  have HR0_10 := Aside0.mk hr0_10
  have HC0_10 := Aside0.mk hc0_10
  clear hr0_10 hc0_10
  have HB := Aside0.mk (Below.refl w.heap.size w)
  have H : (some (([a0_0, a0_1, a0_2, a0_3, a0_4, a0_5, a0_6, a0_7, a0_8, a0_9] : List Int))) = some r := h
  clear h
  obtain ⟨y299, hy299⟩ : ∃ y_ : List Int, y_ = (([a0_0, a0_1, a0_2, a0_3, a0_4, a0_5, a0_6, a0_7, a0_8, a0_9] : List Int)) := ⟨_, rfl⟩
  replace H : (some y299) = some r := by first | (rw [hy299]; with_reducible exact H) | (have H2_ := (Option.bind_some _ _).symm.trans H; rw [hy299]; with_reducible exact H2_) | (have H2_ := (Option.bind_some _ _).symm.trans H; with_reducible exact H2_) | with_reducible exact H | (rw [hy299]; exact H) | exact H
  have Ny299 := Aside0.mk hy299
  clear hy299
  obtain rfl := Option.some.inj H
  go_enter Try.func104, Try.ntmps104
  go_wp2_with (first | ((with_reducible refine gate_dst (N := 1) rfl ?_); refine box_event ?hg (N := 1) ?hd (cs := #[.int .i64 a0_0, .int .i64 a0_1, .int .i64 a0_2, .int .i64 a0_3, .int .i64 a0_4, .int .i64 a0_5, .int .i64 a0_6, .int .i64 a0_7, .int .i64 a0_8, .int .i64 a0_9, .slice A0_10 l0_10.length c0_10]) (t := 121) ?hr ?_; (case hd => rfl); (case hg => rfl); (case hr => first | (go_simp; done) | (go_simp; rfl)); intro gb298 hg w2 hbox hb; have n0_ := Aside0.mk (below_step (by repeat (first | (with_reducible first | exact HB.out | apply below_alloc | apply pw_below_drewN | apply below_drew1) | exact HB.out)) hb); have n1_ := Aside0.mk (hbox); have n2_ := Aside0.mk ((by rw [hg]; exact (below_size (by repeat (first | (with_reducible first | exact HB.out | apply below_alloc | apply pw_below_drewN | apply below_drew1) | exact HB.out))) : w.heap.size ≤ gb298)); have n3_ := Aside0.mk ((by rw [hg]; exact (below_size (by repeat (first | (with_reducible first | exact HB.out | apply below_alloc | apply pw_below_drewN | apply below_drew1) | exact HB.out))) : w.heap.size ≤ gb298)); clear HB; have HB := n0_; have BK298 := n1_; have GW298 := n2_; have GE298 := n3_; clear n0_ n1_ n2_ n3_; clear hb hbox hg; have hcz3_0 : w2.cell? ⟨gb298, 0, none⟩ = some (.int .i64 a0_0) := (blk_cell BK298.out 0).trans rfl; have hcz3_1 : w2.cell? ⟨gb298, 1, none⟩ = some (.int .i64 a0_1) := (blk_cell BK298.out 1).trans rfl; have hcz3_2 : w2.cell? ⟨gb298, 2, none⟩ = some (.int .i64 a0_2) := (blk_cell BK298.out 2).trans rfl; have hcz3_3 : w2.cell? ⟨gb298, 3, none⟩ = some (.int .i64 a0_3) := (blk_cell BK298.out 3).trans rfl; have hcz3_4 : w2.cell? ⟨gb298, 4, none⟩ = some (.int .i64 a0_4) := (blk_cell BK298.out 4).trans rfl; have hcz3_5 : w2.cell? ⟨gb298, 5, none⟩ = some (.int .i64 a0_5) := (blk_cell BK298.out 5).trans rfl; have hcz3_6 : w2.cell? ⟨gb298, 6, none⟩ = some (.int .i64 a0_6) := (blk_cell BK298.out 6).trans rfl; have hcz3_7 : w2.cell? ⟨gb298, 7, none⟩ = some (.int .i64 a0_7) := (blk_cell BK298.out 7).trans rfl; have hcz3_8 : w2.cell? ⟨gb298, 8, none⟩ = some (.int .i64 a0_8) := (blk_cell BK298.out 8).trans rfl; have hcz3_9 : w2.cell? ⟨gb298, 9, none⟩ = some (.int .i64 a0_9) := (blk_cell BK298.out 9).trans rfl; have hcz3_10 : w2.cell? ⟨gb298, 10, none⟩ = some (.slice A0_10 l0_10.length c0_10) := (blk_cell BK298.out 10).trans rfl; have hfz3_0 := blk_frozen BK298.out 0; have hfz3_1 := blk_frozen BK298.out 1; have hfz3_2 := blk_frozen BK298.out 2; have hfz3_3 := blk_frozen BK298.out 3; have hfz3_4 := blk_frozen BK298.out 4; have hfz3_5 := blk_frozen BK298.out 5; have hfz3_6 := blk_frozen BK298.out 6; have hfz3_7 := blk_frozen BK298.out 7; have hfz3_8 := blk_frozen BK298.out 8; have hfz3_9 := blk_frozen BK298.out 9; have hfz3_10 := blk_frozen BK298.out 10) | ((with_reducible refine gate_dst (N := 23) rfl ?_); refine Kd.R_lit (Kd.int .i64) _ 3 ?hg (N := 23) ?hd (xs := ([a0_0, a0_1, a0_2, a0_3, a0_4, a0_5, a0_6, a0_7, a0_8, a0_9] : List Int)) (inner := [.int .i64 a0_0, .int .i64 a0_1, .int .i64 a0_2, .int .i64 a0_3, .int .i64 a0_4, .int .i64 a0_5, .int .i64 a0_6, .int .i64 a0_7, .int .i64 a0_8, .int .i64 a0_9]) (ok := fun _ => True) (okp := fun _ => True) ?hr ?hp (fun _ hk => hk) trivial (Below.refl _ _) (Nat.le_refl _) (by simp) ?_; (case hd => rfl); (case hg => rfl); (case hr => first | (go_simp; done) | (go_simp; rfl)); (case hp => exact (Reps.one (show Kd.M (Kd.int .i64) _ _ _ a0_0 [.int .i64 a0_0] from rfl) (Reps.one (show Kd.M (Kd.int .i64) _ _ _ a0_1 [.int .i64 a0_1] from rfl) (Reps.one (show Kd.M (Kd.int .i64) _ _ _ a0_2 [.int .i64 a0_2] from rfl) (Reps.one (show Kd.M (Kd.int .i64) _ _ _ a0_3 [.int .i64 a0_3] from rfl) (Reps.one (show Kd.M (Kd.int .i64) _ _ _ a0_4 [.int .i64 a0_4] from rfl) (Reps.one (show Kd.M (Kd.int .i64) _ _ _ a0_5 [.int .i64 a0_5] from rfl) (Reps.one (show Kd.M (Kd.int .i64) _ _ _ a0_6 [.int .i64 a0_6] from rfl) (Reps.one (show Kd.M (Kd.int .i64) _ _ _ a0_7 [.int .i64 a0_7] from rfl) (Reps.one (show Kd.M (Kd.int .i64) _ _ _ a0_8 [.int .i64 a0_8] from rfl) (Reps.one (show Kd.M (Kd.int .i64) _ _ _ a0_9 [.int .i64 a0_9] from rfl) (Reps.none _ _)))))))))))); intro v300 w4 ho5 hb hg_ hnew_; clear hg_ hnew_; (first | rw [← Ny299.out] at ho5 | (simp only [Int.reduceToNat] at ho5; rw [← Ny299.out] at ho5)); have n0_ := Aside0.mk (Kd.R_lower ho5 (below_size (by repeat (first | (with_reducible first | exact HB.out | apply below_alloc | apply pw_below_drewN | apply below_drew1 | refine below_set ?_ GE298.out) | exact HB.out)))); have n1_ := Aside0.mk (blk_below (g := gb298) (o := .cells #[.int .i64 a0_0, .int .i64 a0_1, .int .i64 a0_2, .int .i64 a0_3, .int .i64 a0_4, .int .i64 a0_5, .int .i64 a0_6, .int .i64 a0_7, .int .i64 a0_8, .int .i64 a0_9, .slice A0_10 l0_10.length c0_10] 121 (0, 0)) (by (with_reducible repeat (first | refine blk_drewN ?_ _ | refine blk_drew ?_ | refine blk_alloc ?_ _)); exact BK298.out) hb); have n2_ := Aside0.mk (below_step (by repeat (first | (with_reducible first | exact HB.out | apply below_alloc | apply pw_below_drewN | apply below_drew1 | refine below_set ?_ GE298.out) | exact HB.out)) hb); clear BK298; clear HB; have HO301 := n0_; have BK298 := n1_; have HB := n2_; clear n0_ n1_ n2_; clear hb ho5))
  go_ret
  exact ⟨_, by first | rfl | (simp [errW_none, errW_some] <;> rfl) | (simp [*, errW_none, errW_some] <;> rfl), by (with_reducible repeat (first | apply Kd.R_alloc | apply Kd.R_drewN | apply Kd.R_drew)); exact HO301.out, by repeat (first | (with_reducible first | exact HB.out | apply below_alloc | apply pw_below_drewN | apply below_drew1 | refine below_set ?_ GE298.out) | exact HB.out)⟩

end Go.Proofs.Ytfipiohchnaglaa.Pu
