-- Laid by wip/xprint.py, a program of this session that runs the kit's print with some contracts given by hand; not a text of print.sh. Lean checks it.
import Derived.Test.YtabklpdjjoaocaaQy0
namespace Go.Proofs.Ytabklpdjjoaocaa.Qy
open Go.RowKit Go.Proofs.YtabklpdjjoaocaaW.PrintWords Go.Proofs.YtabklpdjjoaocaaW.PrintLast Go.Proofs.YtabklpdjjoaocaaW.PrintMore
attribute [local go_sem] max2_int min2_int max_two min_two max_three min_three max_four min_four   -- for this text's walks alone
set_option linter.unusedVariables false
set_option linter.unusedSimpArgs false

/-! ### switchboardlaw18_tiny: function 15 (given by hand) -/
def tinyY : S61 := ⟨[[65536]], [(⟨[[65536]], [[65536]]⟩ : S63)], 1⟩
theorem C_one {α : Type} {d : Kd α} {w : World} {g : Nat} {cs : List Value} {t : Nat} {x : α} (hb : w.heap[g]? = some (.cells cs.toArray t (0, 0))) (hk : d.K w x cs) (hl : cs.length = d.sz) : Kd.C d w (some ⟨g, 0, none⟩) 1 [x] := by
  refine ⟨rfl, by decide, fun _ => ⟨_, rfl, fun j p hj => ?_⟩⟩
  cases j with
  | zero =>
    obtain rfl : x = p := by simpa using hj
    refine ⟨cs, hl, hk, fun i u hu => ?_⟩
    rw [Nat.zero_mul, Nat.zero_add, add_plain, blk_cell hb i]
    simpa using hu
  | succ j => simp at hj
theorem alloc_at {W : World} {g : Nat} (o : Obj) (h : g = W.heap.size) : (W.alloc o).heap[g]? = some o := by rw [h]; exact heap_alloc_new W o
theorem tiny_C (W : World) (g : Nat) (hb0 : W.heap[g]? = some (.cells [Value.int .i64 65536].toArray 3 (0, 0))) (hb1 : W.heap[g + 1]? = some (.cells [Value.slice (some ⟨g, 0, none⟩) 1 1].toArray 29 (0, 0)))
    (hb2 : W.heap[g + 1 + 1]? = some (.cells [Value.slice (some ⟨g + 1, 0, none⟩) 1 1, .slice (some ⟨g + 1, 0, none⟩) 1 1].toArray 63 (0, 0)))
    (hb3 : W.heap[g + 1 + 1 + 1]? = some (.cells [Value.slice (some ⟨g + 1, 0, none⟩) 1 1, .slice (some ⟨g + 1 + 1, 0, none⟩) 1 1, .int .i64 1].toArray 61 (0, 0))) :
    Kd.C k61 W (some ⟨g + 1 + 1 + 1, 0, none⟩) 1 [tinyY] := by
  have c0 : Kd.C (Kd.int .i64) W (some ⟨g, 0, none⟩) 1 [65536] := C_one hb0 rfl rfl
  have c1 : Kd.C (Kd.slice 3 (Kd.int .i64)) W (some ⟨g + 1, 0, none⟩) 1 [[65536]] := C_one hb1 ⟨_, _, rfl, Nat.le_refl _, c0⟩ rfl
  have c2 : Kd.C k63 W (some ⟨g + 1 + 1, 0, none⟩) 1 [(⟨[[65536]], [[65536]]⟩ : S63)] := C_one hb2 (k63_mk W (⟨[[65536]], [[65536]]⟩ : S63) (Nat.le_refl _) c1 (Nat.le_refl _) c1) rfl
  exact C_one hb3 (k61_mk W tinyY (Nat.le_refl _) c1 (Nat.le_refl _) c2) rfl
theorem tiny_F (W : World) (b g : Nat) (hg : b ≤ g) (hb0 : W.heap[g]? = some (.cells [Value.int .i64 65536].toArray 3 (0, 0))) (hb1 : W.heap[g + 1]? = some (.cells [Value.slice (some ⟨g, 0, none⟩) 1 1].toArray 29 (0, 0)))
    (hb2 : W.heap[g + 1 + 1]? = some (.cells [Value.slice (some ⟨g + 1, 0, none⟩) 1 1, .slice (some ⟨g + 1, 0, none⟩) 1 1].toArray 63 (0, 0)))
    (hb3 : W.heap[g + 1 + 1 + 1]? = some (.cells [Value.slice (some ⟨g + 1, 0, none⟩) 1 1, .slice (some ⟨g + 1 + 1, 0, none⟩) 1 1, .int .i64 1].toArray 61 (0, 0))) :
    Kd.V k61 61 W b (fun k_ => (b ≤ k_)) (.slice (some ⟨g + 1 + 1 + 1, 0, none⟩) 1 1) [tinyY] :=
  Kd.V_mk (xs := [tinyY]) (Nat.le_refl _) (fun W' hW => tiny_C W' g ((hW _ hg (blk_lt hb0)).trans hb0) ((hW _ (by omega) (blk_lt hb1)).trans hb1) ((hW _ (by omega) (blk_lt hb2)).trans hb2) ((hW _ (by omega) (blk_lt hb3)).trans hb3))
def switchboardlaw18_tiny.f : Option (Int × List S61) := some (1, [tinyY])
set_option maxHeartbeats 8000000 in
set_option maxRecDepth 100000 in
theorem switchboardlaw18_tiny.calls (r1 : Int) (r2 : List S61) (w : World) (h : switchboardlaw18_tiny.f = some (r1, r2)) :
    Calls Try.prog 15 #[] w fun e w' => ∃ v1_ : Value, e = .returned (.agg #[.int .i64 r1, v1_]) ∧ Kd.V k61 61 w' w.heap.size (fun k_ => (w.heap.size ≤ k_)) v1_ r2 ∧ Below w.heap.size w w' := by
  have hu := Try.underlying24
  have hu2 := Try.underlying61
  have hu3 := Try.underlying63
  unfold switchboardlaw18_tiny.f at h
  simp only [Option.some.injEq, Prod.mk.injEq] at h
  obtain ⟨rfl, rfl⟩ := h
  go_enter Try.func15, Try.ntmps15
  go_wp2
  refine bodyPost_ret (results_single rfl (.cell w.heap.size 24 #[.int .i64 1, .slice (some ⟨w.heap.size + 1 + 1 + 1 + 1, 0, none⟩) 1 1] (0, 0) _ rfl (blk_alloc (blk_alloc (blk_alloc (blk_alloc (alloc_at _ rfl) _) _) _) _) Try.underlying24 rfl (by kernel_rfl) .nil)) rfl ?_
  refine ⟨_, rfl, tiny_F _ _ (w.heap.size + 1) (by omega) ?_ ?_ ?_ ?_, below_alloc (below_alloc (below_alloc (below_alloc (below_alloc (Below.refl _ _) _) _) _) _) _⟩
  · exact blk_alloc (blk_alloc (blk_alloc (alloc_at _ (by simp)) _) _) _
  · exact blk_alloc (blk_alloc (alloc_at _ (by simp)) _) _
  · exact blk_alloc (alloc_at _ (by simp)) _
  · exact alloc_at _ (by simp)

-- NOT PRINTED: function 9 (switchboardlaw18_awake)

/-! ### switchboardref03_Right: function 41 -/
mutual
def switchboardref03_Right.l0 : Nat → List (List Int) → Int → Int → Option (Bool)
  | 0, _, _, _ => none
  | k + 1, x0, x2, x7 => if x7 < (x0.length : Int) then (if 0 ≤ x7 then (if ((rd_L1 x0 x7).length : Int) = x2 then (switchboardref03_Right.l1 k x0 x2 x7 0) else (some false)) else (none)) else (some true)
def switchboardref03_Right.l1 : Nat → List (List Int) → Int → Int → Int → Option (Bool)
  | 0, _, _, _, _ => none
  | k + 1, x0, x2, x7, x8 => if 0 ≤ x7 then (if x7 < (x0.length : Int) then (if x8 < ((rd_L1 x0 x7).length : Int) then (if 0 ≤ x8 then (if (rd (rd_L1 x0 x7) x8) > 2147483647 then (some false) else (if (rd (rd_L1 x0 x7) x8) < (-2147483647) then (some false) else (switchboardref03_Right.l1 k x0 x2 x7 (wrap64 (x8 + 1))))) else (none)) else (switchboardref03_Right.l0 k x0 x2 (wrap64 (x7 + 1)))) else (none)) else (none)
end
def switchboardref03_Right.f (k : Nat) (l0 : List (List Int)) (a1 : Int) (a2 : Int) : Option (Bool) := if (l0.length : Int) = a1 then (switchboardref03_Right.l0 k l0 a2 0) else (some false)
theorem switchboardref03_Right.mono_l : ∀ k, (∀ y0 y1 y2, LeO (switchboardref03_Right.l0 k y0 y1 y2) (switchboardref03_Right.l0 (k + 1) y0 y1 y2)) ∧ (∀ y0 y1 y2 y3, LeO (switchboardref03_Right.l1 k y0 y1 y2 y3) (switchboardref03_Right.l1 (k + 1) y0 y1 y2 y3))
  | 0 => ⟨fun _ _ _ r h => by simp [switchboardref03_Right.l0] at h, fun _ _ _ _ r h => by simp [switchboardref03_Right.l1] at h⟩
  | k + 1 => by
    obtain ⟨ih0, ih1⟩ := switchboardref03_Right.mono_l k
    refine ⟨?_, ?_⟩
    · intro y0 y1 y2
      unfold switchboardref03_Right.l0
      repeat' first
      | (with_reducible exact ih0 _ _ _)
      | (with_reducible exact ih1 _ _ _ _)
      | (with_reducible exact LeO.refl _)
      | (with_reducible exact LeO.none _)
      | (with_reducible refine LeO.ite ?_ ?_)
      | (with_reducible refine LeO.bind ?_ (fun _ => ?_))
      | exact ih0 _ _ _
      | exact ih1 _ _ _ _
      | exact LeO.none _
      | refine LeO.ite ?_ ?_
      | refine LeO.bind ?_ (fun _ => ?_)
    · intro y0 y1 y2 y3
      unfold switchboardref03_Right.l1
      repeat' first
      | (with_reducible exact ih0 _ _ _)
      | (with_reducible exact ih1 _ _ _ _)
      | (with_reducible exact LeO.refl _)
      | (with_reducible exact LeO.none _)
      | (with_reducible refine LeO.ite ?_ ?_)
      | (with_reducible refine LeO.bind ?_ (fun _ => ?_))
      | exact ih0 _ _ _
      | exact ih1 _ _ _ _
      | exact LeO.none _
      | refine LeO.ite ?_ ?_
      | refine LeO.bind ?_ (fun _ => ?_)
theorem switchboardref03_Right.mono : ∀ a0 a1 a2 k, LeO (switchboardref03_Right.f k a0 a1 a2) (switchboardref03_Right.f (k + 1) a0 a1 a2) := by
  intro a0 a1 a2 k
  obtain ⟨ih0, ih1⟩ := switchboardref03_Right.mono_l k
  unfold switchboardref03_Right.f
  repeat' first
      | (with_reducible exact ih0 _ _ _)
      | (with_reducible exact ih1 _ _ _ _)
      | (with_reducible exact LeO.refl _)
      | (with_reducible exact LeO.none _)
      | (with_reducible refine LeO.ite ?_ ?_)
      | (with_reducible refine LeO.bind ?_ (fun _ => ?_))
      | exact ih0 _ _ _
      | exact ih1 _ _ _ _
      | exact LeO.none _
      | refine LeO.ite ?_ ?_
      | refine LeO.bind ?_ (fun _ => ?_)
set_option maxHeartbeats 8000000 in
set_option maxRecDepth 100000 in
theorem switchboardref03_Right.calls (k : Nat) (A0 : Option Addr) (c0 : Nat) (l0 : List (List Int)) (a1 : Int) (a2 : Int) (r : Bool) (w : World) (hr0 : Kd.C (Kd.slice 3 (Kd.int .i64)) w A0 l0.length l0) (hc0 : l0.length ≤ c0) (h : switchboardref03_Right.f k l0 a1 a2 = some r) :
    Calls Try.prog 41 #[.slice A0 l0.length c0, .int .i64 a1, .int .i64 a2] w fun e w' => e = .returned (.bool r) ∧ Drawn0 w w' := by
  have HR0 := Aside0.mk hr0
  have HC0 := Aside0.mk hc0
  clear hr0 hc0
  have H : (if (l0.length : Int) = a1 then (switchboardref03_Right.l0 k l0 a2 0) else (some false)) = some r := h
  clear h
  by_cases c4 : (l0.length : Int) = a1
  · rw [if_pos c4] at H
    have c4b0 : ((l0.length : Int) == a1) = true := beq_iff_eq.mpr c4
    have c4b1 : ((l0.length : Int) != a1) = false := bne_eq_false_iff_eq.mpr c4
    clear c4
    have H' := Aside0.mk H
    clear H
    go_enter Try.func41, Try.ntmps41
    go_wp2
    go_loopg [7] k (fun kq v7 w' => ∃ (x7_1 : Int), v7 = .int .i64 x7_1 ∧ Aside0 (switchboardref03_Right.l0 kq l0 a2 x7_1 = some r) ∧ Aside0 (kq ≤ k) ∧ Drawn0 w w')
    case atStart => exact ⟨(0), (by first | rfl | (simp; done) | (simp [*]; done)), H', ⟨Nat.le_refl _⟩, by repeat (first | exact Drawn0.refl _ | apply Drawn0.step)⟩
    case round =>
      clear H'
      try clear p2
      try clear c4
      try clear c4b0
      try clear c4b1
      obtain ⟨x7_1, rfl, HA, HK1, ⟨m1, rfl⟩⟩ := hrel
      cases gk with
      | zero => exact absurd HA.out (by simp [switchboardref03_Right.l0])
      | succ k1 =>
        have H := HA.out
        clear HA
        simp only [switchboardref03_Right.l0] at H
        by_cases c5 : x7_1 < (l0.length : Int)
        · rw [if_pos c5] at H
          have c5b0 : decide (x7_1 < (l0.length : Int)) = true := decide_eq_true c5
          clear c5
          by_cases c6 : 0 ≤ x7_1
          · rw [if_pos c6] at H
            have c6b0 : decide (0 ≤ x7_1) = true := decide_eq_true c6
            clear c6
            by_cases c7 : ((rd_L1 l0 x7_1).length : Int) = a2
            · rw [if_pos c7] at H
              have c7b0 : (((rd_L1 l0 x7_1).length : Int) == a2) = true := beq_iff_eq.mpr c7
              have c7b1 : (((rd_L1 l0 x7_1).length : Int) != a2) = false := bne_eq_false_iff_eq.mpr c7
              clear c7
              have H' := Aside0.mk H
              clear H
              have p267 : 0 ≤ (x7_1 : Int) := of_decide_eq_true (by first | (with_reducible assumption) | assumption)
              have q267 : x7_1 < (l0.length : Int) := of_decide_eq_true (by first | (with_reducible assumption) | assumption)
              obtain ⟨ad267, A267_0, c267_0, e267, hx267_0, hl267_0, hi267_0⟩ := at_L1 HR0.out x7_1 p267 q267
              cases e267
              have HR267_0 := Aside0.mk hi267_0
              have HC267_0 := Aside0.mk hl267_0
              clear hi267_0 hl267_0
              replace p267 := eq_true p267
              replace q267 := eq_true q267
              go_wp2
              go_loopg [8] k1 (fun kq v8 w' => ∃ (x8_2 : Int), v8 = .int .i64 x8_2 ∧ Aside0 (switchboardref03_Right.l1 kq l0 a2 x7_1 x8_2 = some r) ∧ Aside0 (kq ≤ k1) ∧ Drawn0 w w')
              case atStart => exact ⟨(0), (by first | rfl | (simp; done) | (simp [*]; done)), H', ⟨Nat.le_refl _⟩, by repeat (first | exact Drawn0.refl _ | apply Drawn0.step)⟩
              case round =>
                clear H'
                try clear c2
                try clear p2
                try clear q2
                try clear hx2
                try clear c4
                try clear c4b0
                try clear c4b1
                try clear c5
                try clear c5b0
                try clear c6
                try clear c6b0
                try clear c7
                try clear c7b0
                try clear c7b1
                try clear hx267_0
                try clear p2
                try clear p267
                try clear q267
                obtain ⟨x8_2, rfl, HA, HK2, ⟨m2, rfl⟩⟩ := hrel
                cases gk with
                | zero => exact absurd HA.out (by simp [switchboardref03_Right.l1])
                | succ k2 =>
                  have H := HA.out
                  clear HA
                  simp only [switchboardref03_Right.l1] at H
                  by_cases c8 : 0 ≤ x7_1
                  · rw [if_pos c8] at H
                    have c8b0 : decide (0 ≤ x7_1) = true := decide_eq_true c8
                    clear c8
                    by_cases c9 : x7_1 < (l0.length : Int)
                    · rw [if_pos c9] at H
                      have c9b0 : decide (x7_1 < (l0.length : Int)) = true := decide_eq_true c9
                      clear c9
                      by_cases c10 : x8_2 < ((rd_L1 l0 x7_1).length : Int)
                      · rw [if_pos c10] at H
                        have c10b0 : decide (x8_2 < ((rd_L1 l0 x7_1).length : Int)) = true := decide_eq_true c10
                        clear c10
                        by_cases c11 : 0 ≤ x8_2
                        · rw [if_pos c11] at H
                          have c11b0 : decide (0 ≤ x8_2) = true := decide_eq_true c11
                          clear c11
                          by_cases c12 : (rd (rd_L1 l0 x7_1) x8_2) > 2147483647
                          · rw [if_pos c12] at H
                            have c12b0 : decide (2147483647 < (rd (rd_L1 l0 x7_1) x8_2)) = true := decide_eq_true c12
                            clear c12
                            obtain rfl := Option.some.inj H
                            have p268 : 0 ≤ (x7_1 : Int) := of_decide_eq_true (by first | (with_reducible assumption) | assumption)
                            have q268 : x7_1 < (l0.length : Int) := of_decide_eq_true (by first | (with_reducible assumption) | assumption)
                            obtain ⟨ad268, A268_0, c268_0, e268, hx268_0, hl268_0, hi268_0⟩ := at_L1 HR0.out x7_1 p268 q268
                            obtain rfl : ad267 = ad268 := (by injection e268)
                            have HR268_0 := Aside0.mk hi268_0
                            have HC268_0 := Aside0.mk hl268_0
                            clear hi268_0 hl268_0
                            replace p268 := eq_true p268
                            replace q268 := eq_true q268
                            have p269 : 0 ≤ (x7_1 : Int) := of_decide_eq_true (by first | (with_reducible assumption) | assumption)
                            have q269 : x7_1 < (l0.length : Int) := of_decide_eq_true (by first | (with_reducible assumption) | assumption)
                            obtain ⟨ad269, A269_0, c269_0, e269, hx269_0, hl269_0, hi269_0⟩ := at_L1 HR0.out x7_1 p269 q269
                            obtain rfl : ad267 = ad269 := (by injection e269)
                            have HR269_0 := Aside0.mk hi269_0
                            have HC269_0 := Aside0.mk hl269_0
                            clear hi269_0 hl269_0
                            replace p269 := eq_true p269
                            replace q269 := eq_true q269
                            have ea_ := Option.some.inj (hx268_0.symm.trans hx269_0)
                            injection ea_ with ea_ en_ ec_
                            subst ea_
                            subst ec_
                            clear en_
                            have p270 : 0 ≤ (x8_2 : Int) := of_decide_eq_true (by first | (with_reducible assumption) | assumption)
                            have q270 : x8_2 < ((rd_L1 l0 x7_1).length : Int) := of_decide_eq_true (by first | (with_reducible assumption) | assumption)
                            obtain ⟨ad270, e270, hx270_0⟩ := Kd.at_int HR269_0.out x8_2 p270 q270
                            cases e270
                            replace p270 := eq_true p270
                            replace q270 := eq_true q270
                            go_wp2
                            go_ret
                            exact ⟨by first | rfl | (simp; done) | (simp [*]; done), by repeat (first | exact Drawn0.refl _ | apply Drawn0.step)⟩
                          · rw [if_neg c12] at H
                            have c12b0 : decide (2147483647 < (rd (rd_L1 l0 x7_1) x8_2)) = false := decide_eq_false c12
                            clear c12
                            by_cases c13 : (rd (rd_L1 l0 x7_1) x8_2) < (-2147483647)
                            · rw [if_pos c13] at H
                              have c13b0 : decide ((rd (rd_L1 l0 x7_1) x8_2) < (-2147483647)) = true := decide_eq_true c13
                              clear c13
                              obtain rfl := Option.some.inj H
                              have p268 : 0 ≤ (x7_1 : Int) := of_decide_eq_true (by first | (with_reducible assumption) | assumption)
                              have q268 : x7_1 < (l0.length : Int) := of_decide_eq_true (by first | (with_reducible assumption) | assumption)
                              obtain ⟨ad268, A268_0, c268_0, e268, hx268_0, hl268_0, hi268_0⟩ := at_L1 HR0.out x7_1 p268 q268
                              obtain rfl : ad267 = ad268 := (by injection e268)
                              have HR268_0 := Aside0.mk hi268_0
                              have HC268_0 := Aside0.mk hl268_0
                              clear hi268_0 hl268_0
                              replace p268 := eq_true p268
                              replace q268 := eq_true q268
                              have p269 : 0 ≤ (x7_1 : Int) := of_decide_eq_true (by first | (with_reducible assumption) | assumption)
                              have q269 : x7_1 < (l0.length : Int) := of_decide_eq_true (by first | (with_reducible assumption) | assumption)
                              obtain ⟨ad269, A269_0, c269_0, e269, hx269_0, hl269_0, hi269_0⟩ := at_L1 HR0.out x7_1 p269 q269
                              obtain rfl : ad267 = ad269 := (by injection e269)
                              have HR269_0 := Aside0.mk hi269_0
                              have HC269_0 := Aside0.mk hl269_0
                              clear hi269_0 hl269_0
                              replace p269 := eq_true p269
                              replace q269 := eq_true q269
                              have ea_ := Option.some.inj (hx268_0.symm.trans hx269_0)
                              injection ea_ with ea_ en_ ec_
                              subst ea_
                              subst ec_
                              clear en_
                              have p270 : 0 ≤ (x8_2 : Int) := of_decide_eq_true (by first | (with_reducible assumption) | assumption)
                              have q270 : x8_2 < ((rd_L1 l0 x7_1).length : Int) := of_decide_eq_true (by first | (with_reducible assumption) | assumption)
                              obtain ⟨ad270, e270, hx270_0⟩ := Kd.at_int HR269_0.out x8_2 p270 q270
                              cases e270
                              replace p270 := eq_true p270
                              replace q270 := eq_true q270
                              have p271 : 0 ≤ (x7_1 : Int) := of_decide_eq_true (by first | (with_reducible assumption) | assumption)
                              have q271 : x7_1 < (l0.length : Int) := of_decide_eq_true (by first | (with_reducible assumption) | assumption)
                              obtain ⟨ad271, A271_0, c271_0, e271, hx271_0, hl271_0, hi271_0⟩ := at_L1 HR0.out x7_1 p271 q271
                              obtain rfl : ad267 = ad271 := (by injection e271)
                              have HR271_0 := Aside0.mk hi271_0
                              have HC271_0 := Aside0.mk hl271_0
                              clear hi271_0 hl271_0
                              replace p271 := eq_true p271
                              replace q271 := eq_true q271
                              have ea_ := Option.some.inj (hx268_0.symm.trans hx271_0)
                              injection ea_ with ea_ en_ ec_
                              subst ea_
                              subst ec_
                              clear en_
                              have p272 : 0 ≤ (x8_2 : Int) := of_decide_eq_true (by first | (with_reducible assumption) | assumption)
                              have q272 : x8_2 < ((rd_L1 l0 x7_1).length : Int) := of_decide_eq_true (by first | (with_reducible assumption) | assumption)
                              obtain ⟨ad272, e272, hx272_0⟩ := Kd.at_int HR271_0.out x8_2 p272 q272
                              cases e272
                              replace p272 := eq_true p272
                              replace q272 := eq_true q272
                              go_wp2
                              go_ret
                              exact ⟨by first | rfl | (simp; done) | (simp [*]; done), by repeat (first | exact Drawn0.refl _ | apply Drawn0.step)⟩
                            · rw [if_neg c13] at H
                              have c13b0 : decide ((rd (rd_L1 l0 x7_1) x8_2) < (-2147483647)) = false := decide_eq_false c13
                              clear c13
                              have H' := Aside0.mk H
                              clear H
                              have p268 : 0 ≤ (x7_1 : Int) := of_decide_eq_true (by first | (with_reducible assumption) | assumption)
                              have q268 : x7_1 < (l0.length : Int) := of_decide_eq_true (by first | (with_reducible assumption) | assumption)
                              obtain ⟨ad268, A268_0, c268_0, e268, hx268_0, hl268_0, hi268_0⟩ := at_L1 HR0.out x7_1 p268 q268
                              obtain rfl : ad267 = ad268 := (by injection e268)
                              have HR268_0 := Aside0.mk hi268_0
                              have HC268_0 := Aside0.mk hl268_0
                              clear hi268_0 hl268_0
                              replace p268 := eq_true p268
                              replace q268 := eq_true q268
                              have p269 : 0 ≤ (x7_1 : Int) := of_decide_eq_true (by first | (with_reducible assumption) | assumption)
                              have q269 : x7_1 < (l0.length : Int) := of_decide_eq_true (by first | (with_reducible assumption) | assumption)
                              obtain ⟨ad269, A269_0, c269_0, e269, hx269_0, hl269_0, hi269_0⟩ := at_L1 HR0.out x7_1 p269 q269
                              obtain rfl : ad267 = ad269 := (by injection e269)
                              have HR269_0 := Aside0.mk hi269_0
                              have HC269_0 := Aside0.mk hl269_0
                              clear hi269_0 hl269_0
                              replace p269 := eq_true p269
                              replace q269 := eq_true q269
                              have ea_ := Option.some.inj (hx268_0.symm.trans hx269_0)
                              injection ea_ with ea_ en_ ec_
                              subst ea_
                              subst ec_
                              clear en_
                              have p270 : 0 ≤ (x8_2 : Int) := of_decide_eq_true (by first | (with_reducible assumption) | assumption)
                              have q270 : x8_2 < ((rd_L1 l0 x7_1).length : Int) := of_decide_eq_true (by first | (with_reducible assumption) | assumption)
                              obtain ⟨ad270, e270, hx270_0⟩ := Kd.at_int HR269_0.out x8_2 p270 q270
                              cases e270
                              replace p270 := eq_true p270
                              replace q270 := eq_true q270
                              have p271 : 0 ≤ (x7_1 : Int) := of_decide_eq_true (by first | (with_reducible assumption) | assumption)
                              have q271 : x7_1 < (l0.length : Int) := of_decide_eq_true (by first | (with_reducible assumption) | assumption)
                              obtain ⟨ad271, A271_0, c271_0, e271, hx271_0, hl271_0, hi271_0⟩ := at_L1 HR0.out x7_1 p271 q271
                              obtain rfl : ad267 = ad271 := (by injection e271)
                              have HR271_0 := Aside0.mk hi271_0
                              have HC271_0 := Aside0.mk hl271_0
                              clear hi271_0 hl271_0
                              replace p271 := eq_true p271
                              replace q271 := eq_true q271
                              have ea_ := Option.some.inj (hx268_0.symm.trans hx271_0)
                              injection ea_ with ea_ en_ ec_
                              subst ea_
                              subst ec_
                              clear en_
                              have p272 : 0 ≤ (x8_2 : Int) := of_decide_eq_true (by first | (with_reducible assumption) | assumption)
                              have q272 : x8_2 < ((rd_L1 l0 x7_1).length : Int) := of_decide_eq_true (by first | (with_reducible assumption) | assumption)
                              obtain ⟨ad272, e272, hx272_0⟩ := Kd.at_int HR271_0.out x8_2 p272 q272
                              cases e272
                              replace p272 := eq_true p272
                              replace q272 := eq_true q272
                              go_wp2
                              go_roundg k2
                              case measure => have := HK1.out; have := HK2.out; omega
                              case rel => exact ⟨(wrap64 (x8_2 + 1)), (by first | rfl | (simp; done) | (simp [*]; done)), H', ⟨by have := HK1.out; have := HK2.out; omega⟩, by repeat (first | exact Drawn0.refl _ | apply Drawn0.step)⟩
                        · rw [if_neg c11] at H
                          exact absurd H (by simp)
                      · rw [if_neg c10] at H
                        have c10b0 : decide (x8_2 < ((rd_L1 l0 x7_1).length : Int)) = false := decide_eq_false c10
                        clear c10
                        have H' := Aside0.mk H
                        clear H
                        have p268 : 0 ≤ (x7_1 : Int) := of_decide_eq_true (by first | (with_reducible assumption) | assumption)
                        have q268 : x7_1 < (l0.length : Int) := of_decide_eq_true (by first | (with_reducible assumption) | assumption)
                        obtain ⟨ad268, A268_0, c268_0, e268, hx268_0, hl268_0, hi268_0⟩ := at_L1 HR0.out x7_1 p268 q268
                        obtain rfl : ad267 = ad268 := (by injection e268)
                        have HR268_0 := Aside0.mk hi268_0
                        have HC268_0 := Aside0.mk hl268_0
                        clear hi268_0 hl268_0
                        replace p268 := eq_true p268
                        replace q268 := eq_true q268
                        go_wp2
                        go_roundg k2
                        case measure => have := HK1.out; have := HK2.out; omega
                        case rel => exact ⟨(wrap64 (x7_1 + 1)), (by first | rfl | (simp; done) | (simp [*]; done)), H', ⟨by have := HK1.out; have := HK2.out; omega⟩, by repeat (first | exact Drawn0.refl _ | apply Drawn0.step)⟩
                    · rw [if_neg c9] at H
                      exact absurd H (by simp)
                  · rw [if_neg c8] at H
                    exact absurd H (by simp)
            · rw [if_neg c7] at H
              have c7b0 : (((rd_L1 l0 x7_1).length : Int) == a2) = false := beq_eq_false_iff_ne.mpr c7
              have c7b1 : (((rd_L1 l0 x7_1).length : Int) != a2) = true := bne_iff_ne.mpr c7
              obtain rfl := Option.some.inj H
              have p267 : 0 ≤ (x7_1 : Int) := of_decide_eq_true (by first | (with_reducible assumption) | assumption)
              have q267 : x7_1 < (l0.length : Int) := of_decide_eq_true (by first | (with_reducible assumption) | assumption)
              obtain ⟨ad267, A267_0, c267_0, e267, hx267_0, hl267_0, hi267_0⟩ := at_L1 HR0.out x7_1 p267 q267
              cases e267
              have HR267_0 := Aside0.mk hi267_0
              have HC267_0 := Aside0.mk hl267_0
              clear hi267_0 hl267_0
              replace p267 := eq_true p267
              replace q267 := eq_true q267
              go_wp2
              go_ret
              exact ⟨by first | rfl | (simp; done) | (simp [*]; done), by repeat (first | exact Drawn0.refl _ | apply Drawn0.step)⟩
          · rw [if_neg c6] at H
            exact absurd H (by simp)
        · rw [if_neg c5] at H
          have c5b0 : decide (x7_1 < (l0.length : Int)) = false := decide_eq_false c5
          clear c5
          obtain rfl := Option.some.inj H
          go_wp2
          go_ret
          exact ⟨by first | rfl | (simp; done) | (simp [*]; done), by repeat (first | exact Drawn0.refl _ | apply Drawn0.step)⟩
  · rw [if_neg c4] at H
    have c4b0 : ((l0.length : Int) == a1) = false := beq_eq_false_iff_ne.mpr c4
    have c4b1 : ((l0.length : Int) != a1) = true := bne_iff_ne.mpr c4
    obtain rfl := Option.some.inj H
    go_enter Try.func41, Try.ntmps41
    go_wp2
    go_ret
    exact ⟨by first | rfl | (simp; done) | (simp [*]; done), by repeat (first | exact Drawn0.refl _ | apply Drawn0.step)⟩

/-! ### switchboardref11_Right: function 42 -/
def switchboardref11_Right.j0 : Nat → Int → Int → Bool → List (List Int) → List (List Int) → Option (Bool)
  | 0, _, _, _, _, _ => none
  | k + 1, x1, x5, x22, x274000, x274001 => if x22 = true then (some false) else ((switchboardref03_Right.f k x274000 x5 x1).bind fun t274 => (if t274 = true then ((switchboardref03_Right.f k x274001 x1 x5).bind fun t275 => (some t275)) else (some false)))
def switchboardref11_Right.f (k : Nat) (l0_0 : List (List Int)) (l0_1 : List (List Int)) (a1 : Int) : Option (Bool) := if a1 < 1 then (switchboardref11_Right.j0 k a1 (l0_0.length : Int) true l0_0 l0_1) else (if a1 > 8 then (switchboardref11_Right.j0 k a1 (l0_0.length : Int) true l0_0 l0_1) else (if (l0_0.length : Int) < 1 then (switchboardref11_Right.j0 k a1 (l0_0.length : Int) true l0_0 l0_1) else (switchboardref11_Right.j0 k a1 (l0_0.length : Int) (decide ((l0_0.length : Int) > 8)) l0_0 l0_1)))
theorem switchboardref11_Right.mono_l : ∀ k, (∀ y0 y1 y2 y3 y4, LeO (switchboardref11_Right.j0 k y0 y1 y2 y3 y4) (switchboardref11_Right.j0 (k + 1) y0 y1 y2 y3 y4))
  | 0 => fun _ _ _ _ _ r h => by simp [switchboardref11_Right.j0] at h
  | k + 1 => by
    have ih0 := switchboardref11_Right.mono_l k
    · intro y0 y1 y2 y3 y4
      unfold switchboardref11_Right.j0
      repeat' first
      | (with_reducible exact ih0 _ _ _ _ _)
      | (with_reducible exact switchboardref03_Right.mono _ _ _ _)
      | (with_reducible exact LeO.refl _)
      | (with_reducible exact LeO.none _)
      | (with_reducible refine LeO.ite ?_ ?_)
      | (with_reducible refine LeO.bind ?_ (fun _ => ?_))
      | exact ih0 _ _ _ _ _
      | exact switchboardref03_Right.mono _ _ _ _
      | exact LeO.none _
      | refine LeO.ite ?_ ?_
      | refine LeO.bind ?_ (fun _ => ?_)
theorem switchboardref11_Right.mono : ∀ a0 a1 a2 k, LeO (switchboardref11_Right.f k a0 a1 a2) (switchboardref11_Right.f (k + 1) a0 a1 a2) := by
  intro a0 a1 a2 k
  have ih0 := switchboardref11_Right.mono_l k
  unfold switchboardref11_Right.f
  repeat' first
      | (with_reducible exact ih0 _ _ _ _ _)
      | (with_reducible exact switchboardref03_Right.mono _ _ _ _)
      | (with_reducible exact LeO.refl _)
      | (with_reducible exact LeO.none _)
      | (with_reducible refine LeO.ite ?_ ?_)
      | (with_reducible refine LeO.bind ?_ (fun _ => ?_))
      | exact ih0 _ _ _ _ _
      | exact switchboardref03_Right.mono _ _ _ _
      | exact LeO.none _
      | refine LeO.ite ?_ ?_
      | refine LeO.bind ?_ (fun _ => ?_)
set_option maxHeartbeats 8000000 in
set_option maxRecDepth 100000 in
theorem switchboardref11_Right.calls (k : Nat) (A0_0 : Option Addr) (c0_0 : Nat) (l0_0 : List (List Int)) (A0_1 : Option Addr) (c0_1 : Nat) (l0_1 : List (List Int)) (a1 : Int) (r : Bool) (w : World) (hr0_0 : Kd.C (Kd.slice 3 (Kd.int .i64)) w A0_0 l0_0.length l0_0) (hc0_0 : l0_0.length ≤ c0_0) (hr0_1 : Kd.C (Kd.slice 3 (Kd.int .i64)) w A0_1 l0_1.length l0_1) (hc0_1 : l0_1.length ≤ c0_1) (h : switchboardref11_Right.f k l0_0 l0_1 a1 = some r) :
    Calls Try.prog 42 #[.agg #[.slice A0_0 l0_0.length c0_0, .slice A0_1 l0_1.length c0_1], .int .i64 a1] w fun e w' => e = .returned (.bool r) ∧ Below w.heap.size w w' := by
  have hu63 := Try.underlying63
  have HR0_0 := Aside0.mk hr0_0
  have HC0_0 := Aside0.mk hc0_0
  clear hr0_0 hc0_0
  have HR0_1 := Aside0.mk hr0_1
  have HC0_1 := Aside0.mk hc0_1
  clear hr0_1 hc0_1
  have HB := Aside0.mk (Below.refl w.heap.size w)
  have H : (if a1 < 1 then (switchboardref11_Right.j0 k a1 (l0_0.length : Int) true l0_0 l0_1) else (if a1 > 8 then (switchboardref11_Right.j0 k a1 (l0_0.length : Int) true l0_0 l0_1) else (if (l0_0.length : Int) < 1 then (switchboardref11_Right.j0 k a1 (l0_0.length : Int) true l0_0 l0_1) else (switchboardref11_Right.j0 k a1 (l0_0.length : Int) (decide ((l0_0.length : Int) > 8)) l0_0 l0_1)))) = some r := h
  clear h
  have HC3 := Aside0.mk H
  clear H
  go_enter Try.func42, Try.ntmps42
  go_upto_region 2 with (first | ((with_reducible refine gate_dst (N := 2) rfl ?_); refine box_event ?hg (N := 2) ?hd (cs := #[.slice A0_0 l0_0.length c0_0, .slice A0_1 l0_1.length c0_1]) (t := 63) ?hr ?_; (case hd => rfl); (case hg => rfl); (case hr => first | (go_simp; done) | (go_simp; rfl)); intro gb273 hg w4 hbox hb; have n0_ := Aside0.mk (below_step (by repeat (first | (with_reducible first | exact HB.out | apply below_alloc | apply pw_below_drewN | apply below_drew1) | exact HB.out)) hb); have n1_ := Aside0.mk (hbox); have n2_ := Aside0.mk ((by rw [hg]; exact (below_size (by repeat (first | (with_reducible first | exact HB.out | apply below_alloc | apply pw_below_drewN | apply below_drew1) | exact HB.out))) : w.heap.size ≤ gb273)); have n3_ := Aside0.mk ((by rw [hg]; exact (below_size (by repeat (first | (with_reducible first | exact HB.out | apply below_alloc | apply pw_below_drewN | apply below_drew1) | exact HB.out))) : w.heap.size ≤ gb273)); clear HB; have HB := n0_; have BK273 := n1_; have GW273 := n2_; have GE273 := n3_; clear n0_ n1_ n2_ n3_; clear hb hbox hg; have hcz5_0 : w4.cell? ⟨gb273, 0, none⟩ = some (.slice A0_0 l0_0.length c0_0) := (blk_cell BK273.out 0).trans rfl; have hcz5_1 : w4.cell? ⟨gb273, 1, none⟩ = some (.slice A0_1 l0_1.length c0_1) := (blk_cell BK273.out 1).trans rfl; have hfz5_0 := blk_frozen BK273.out 0; have hfz5_1 := blk_frozen BK273.out 1))
  (try simp only [Act.put, List.setIfInBounds_toArray, List.set_cons_zero, List.set_cons_succ])
  go_cut [22] (fun v22 wc => ∃ (kq : Nat) (x22_2 : Bool), v22 = .bool x22_2 ∧ Aside0 (switchboardref11_Right.j0 kq a1 (l0_0.length : Int) x22_2 l0_0 l0_1 = some r) ∧ Aside0 (kq ≤ k) ∧ Aside0 (wc.heap[gb273]? = some (.cells #[(.slice A0_0 l0_0.length c0_0), (.slice A0_1 l0_1.length c0_1)] 63 (0, 0))) ∧ Aside0 (Below w.heap.size w wc))
  case first =>
    have H := HC3.out
    clear HC3
    by_cases c6 : a1 < 1
    · rw [if_pos c6] at H
      have c6b0 : decide (a1 < 1) = true := decide_eq_true c6
      clear c6
      (first | rw [c6b0] | (simp only [i64_w, i32_w]; rw [c6b0]) | skip)
      have H' := Aside0.mk H
      clear H
      go_wp2
      go_meet
      case rel => exact ⟨_, (true), (by first | rfl | (simp; done) | (simp [*]; done)), H', ⟨by first | omega | exact Nat.le_refl _⟩, ⟨by (with_reducible repeat (first | refine blk_drewN ?_ _ | refine blk_drew ?_ | refine blk_alloc ?_ _)); exact BK273.out⟩, ⟨by repeat (first | (with_reducible first | exact HB.out | apply below_alloc | apply pw_below_drewN | apply below_drew1 | refine below_set ?_ GE273.out) | exact HB.out)⟩⟩
    · rw [if_neg c6] at H
      have c6b0 : decide (a1 < 1) = false := decide_eq_false c6
      clear c6
      (first | rw [c6b0] | (simp only [i64_w, i32_w]; rw [c6b0]) | skip)
      by_cases c7 : a1 > 8
      · rw [if_pos c7] at H
        have c7b0 : decide (8 < a1) = true := decide_eq_true c7
        clear c7
        have H' := Aside0.mk H
        clear H
        go_wp2
        go_meet
        case rel => exact ⟨_, (true), (by first | rfl | (simp; done) | (simp [*]; done)), H', ⟨by first | omega | exact Nat.le_refl _⟩, ⟨by (with_reducible repeat (first | refine blk_drewN ?_ _ | refine blk_drew ?_ | refine blk_alloc ?_ _)); exact BK273.out⟩, ⟨by repeat (first | (with_reducible first | exact HB.out | apply below_alloc | apply pw_below_drewN | apply below_drew1 | refine below_set ?_ GE273.out) | exact HB.out)⟩⟩
      · rw [if_neg c7] at H
        have c7b0 : decide (8 < a1) = false := decide_eq_false c7
        clear c7
        by_cases c8 : (l0_0.length : Int) < 1
        · rw [if_pos c8] at H
          have c8b0 : decide ((l0_0.length : Int) < 1) = true := decide_eq_true c8
          have c8b1 : decide (l0_0.length < 1) = true := decide_eq_true (by omega)
          clear c8
          have H' := Aside0.mk H
          clear H
          go_wp2
          go_meet
          case rel => exact ⟨_, (true), (by first | rfl | (simp; done) | (simp [*]; done)), H', ⟨by first | omega | exact Nat.le_refl _⟩, ⟨by (with_reducible repeat (first | refine blk_drewN ?_ _ | refine blk_drew ?_ | refine blk_alloc ?_ _)); exact BK273.out⟩, ⟨by repeat (first | (with_reducible first | exact HB.out | apply below_alloc | apply pw_below_drewN | apply below_drew1 | refine below_set ?_ GE273.out) | exact HB.out)⟩⟩
        · rw [if_neg c8] at H
          have c8b0 : decide ((l0_0.length : Int) < 1) = false := decide_eq_false c8
          have c8b1 : decide (l0_0.length < 1) = false := decide_eq_false (by omega)
          clear c8
          have H' := Aside0.mk H
          clear H
          go_wp2
          go_meet
          case rel => exact ⟨_, (decide ((l0_0.length : Int) > 8)), (by first | rfl | (simp; done) | (simp [*]; done)), H', ⟨by first | omega | exact Nat.le_refl _⟩, ⟨by (with_reducible repeat (first | refine blk_drewN ?_ _ | refine blk_drew ?_ | refine blk_alloc ?_ _)); exact BK273.out⟩, ⟨by repeat (first | (with_reducible first | exact HB.out | apply below_alloc | apply pw_below_drewN | apply below_drew1 | refine below_set ?_ GE273.out) | exact HB.out)⟩⟩
  case rest =>
    clear HC3
    try clear p2
    try clear c4
    try clear c6
    try clear c6b0
    try clear c7
    try clear c7b0
    try clear c8
    try clear c8b0
    try clear c8b1
    try clear hcz5_0
    try clear hcz5_1
    try clear hfz5_0
    try clear hfz5_1
    obtain ⟨kq, x22_2, rfl, HA, HJ2, BK273, HB⟩ := hcut
    cases kq with
    | zero => exact absurd HA.out (by simp [switchboardref11_Right.j0])
    | succ kj2 =>
      have H := HA.out
      clear HA
      simp only [switchboardref11_Right.j0] at H
      by_cases c9 : x22_2 = true
      · subst c9
        have H1 : (some false) = some r := by rw [if_pos rfl] at H; exact H
        clear H
        have H := H1
        clear H1
        obtain rfl := Option.some.inj H
        go_wp2
        go_ret
        exact ⟨by first | rfl | (simp [errW_none, errW_some] <;> rfl) | (simp [*, errW_none, errW_some] <;> rfl), by repeat (first | (with_reducible first | exact HB.out | apply below_alloc | apply pw_below_drewN | apply below_drew1 | refine below_set ?_ GE273.out) | exact HB.out)⟩
      · replace c9 := Bool.eq_false_iff.mpr c9
        subst c9
        have H1 : ((switchboardref03_Right.f kj2 l0_0 (l0_0.length : Int) a1).bind fun t274 => (if t274 = true then ((switchboardref03_Right.f kj2 l0_1 a1 (l0_0.length : Int)).bind fun t275 => (some t275)) else (some false))) = some r := by rw [if_neg (show ¬ (false = true) by decide)] at H; exact H
        clear H
        have H := H1
        clear H1
        replace H := Option.bind_eq_some_iff.mp H
        obtain ⟨t274, A100, H⟩ := H
        replace H : (if t274 = true then ((switchboardref03_Right.f kj2 l0_1 a1 (l0_0.length : Int)).bind fun t275 => (some t275)) else (some false)) = some r := H
        have A10 := Aside0.mk A100
        clear A100
        by_cases c11 : t274 = true
        · subst c11
          have H1 : ((switchboardref03_Right.f kj2 l0_1 a1 (l0_0.length : Int)).bind fun t275 => (some t275)) = some r := by rw [if_pos rfl] at H; exact H
          clear H
          have H := H1
          clear H1
          replace H := Option.bind_eq_some_iff.mp H
          obtain ⟨t275, A120, H⟩ := H
          replace H : (some t275) = some r := H
          have A12 := Aside0.mk A120
          clear A120
          obtain rfl := Option.some.inj H
          have hcz13_0 : wc.cell? ⟨gb273, 0, none⟩ = some (.slice A0_0 l0_0.length c0_0) := (blk_cell BK273.out 0).trans rfl
          have hcz13_1 : wc.cell? ⟨gb273, 1, none⟩ = some (.slice A0_1 l0_1.length c0_1) := (blk_cell BK273.out 1).trans rfl
          have hfz13_0 := blk_frozen BK273.out 0
          have hfz13_1 := blk_frozen BK273.out 1
          go_wp2_with (first | ((with_reducible refine gate_callee (f := 41) rfl ?_); refine goesL_ (some 27) rfl rfl Try.func41 (by kernel_rfl) rfl #[.slice A0_0 l0_0.length c0_0, .int .i64 (l0_0.length : Int), .int .i64 a1] rfl (by (try simp only [List.map_toArray, List.map_cons, List.map_nil]); first | done | rfl | (simp only [List.length_drop, List.length_take]; rfl)) ?_; (with_reducible refine (switchboardref03_Right.calls kj2 _ _ l0_0 (l0_0.length : Int) a1 true _ ?side1 ?side2 A10.out).mono ?_); (case side1 => repeat (first | exact (Kd.C_below HR0_0.out HB.out) | (with_reducible refine Kd.C_alloc ?_ _) | (with_reducible refine Kd.C_drewN ?_ _) | (with_reducible refine Kd.C_drew ?_))); (case side2 => exact HC0_0.out); rintro e w' ⟨rfl, ⟨nd, rfl⟩⟩; refine ⟨_, rfl, ?_⟩) | (go_at_call 41; (with_reducible refine (switchboardref03_Right.calls kj2 _ _ l0_1 a1 (l0_0.length : Int) t275 _ ?side1 ?side2 A12.out).mono ?_); (case side1 => repeat (first | exact (Kd.C_below HR0_1.out (by repeat (first | (with_reducible first | exact HB.out | apply below_alloc | apply pw_below_drewN | apply below_drew1 | refine below_set ?_ GE273.out) | exact HB.out))) | (with_reducible refine Kd.C_alloc ?_ _) | (with_reducible refine Kd.C_drewN ?_ _) | (with_reducible refine Kd.C_drew ?_))); (case side2 => exact HC0_1.out); rintro e w' ⟨rfl, ⟨nd, rfl⟩⟩))
          go_ret
          exact ⟨by first | rfl | (simp [errW_none, errW_some] <;> rfl) | (simp [*, errW_none, errW_some] <;> rfl), by repeat (first | (with_reducible first | exact HB.out | apply below_alloc | apply pw_below_drewN | apply below_drew1 | refine below_set ?_ GE273.out) | exact HB.out)⟩
        · replace c11 := Bool.eq_false_iff.mpr c11
          subst c11
          have H1 : (some false) = some r := by rw [if_neg (show ¬ (false = true) by decide)] at H; exact H
          clear H
          have H := H1
          clear H1
          obtain rfl := Option.some.inj H
          have hcz14_0 : wc.cell? ⟨gb273, 0, none⟩ = some (.slice A0_0 l0_0.length c0_0) := (blk_cell BK273.out 0).trans rfl
          have hcz14_1 : wc.cell? ⟨gb273, 1, none⟩ = some (.slice A0_1 l0_1.length c0_1) := (blk_cell BK273.out 1).trans rfl
          have hfz14_0 := blk_frozen BK273.out 0
          have hfz14_1 := blk_frozen BK273.out 1
          go_wp2_with (first | ((with_reducible refine gate_callee (f := 41) rfl ?_); refine goesL_ (some 27) rfl rfl Try.func41 (by kernel_rfl) rfl #[.slice A0_0 l0_0.length c0_0, .int .i64 (l0_0.length : Int), .int .i64 a1] rfl (by (try simp only [List.map_toArray, List.map_cons, List.map_nil]); first | done | rfl | (simp only [List.length_drop, List.length_take]; rfl)) ?_; (with_reducible refine (switchboardref03_Right.calls kj2 _ _ l0_0 (l0_0.length : Int) a1 false _ ?side1 ?side2 A10.out).mono ?_); (case side1 => repeat (first | exact (Kd.C_below HR0_0.out HB.out) | (with_reducible refine Kd.C_alloc ?_ _) | (with_reducible refine Kd.C_drewN ?_ _) | (with_reducible refine Kd.C_drew ?_))); (case side2 => exact HC0_0.out); rintro e w' ⟨rfl, ⟨nd, rfl⟩⟩; refine ⟨_, rfl, ?_⟩))
          go_ret
          exact ⟨by first | rfl | (simp [errW_none, errW_some] <;> rfl) | (simp [*, errW_none, errW_some] <;> rfl), by repeat (first | (with_reducible first | exact HB.out | apply below_alloc | apply pw_below_drewN | apply below_drew1 | refine below_set ?_ GE273.out) | exact HB.out)⟩

end Go.Proofs.Ytabklpdjjoaocaa.Qy
