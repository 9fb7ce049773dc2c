-- Laid by wip/xprint.py, a program of this session that runs the kit's print with some contracts given by hand; not a text of print.sh. Lean checks it.
import Derived.Test.YtfipiohchnaglaaPu0
import Derived.Test.YtfipiohchnaglaaWEqStruct
import Derived.Test.YtfipiohchnaglaaPu14
namespace Go.Proofs.Ytfipiohchnaglaa.Pu
open Go.RowKit Go.Proofs.YtfipiohchnaglaaW.PrintWords Go.Proofs.YtfipiohchnaglaaW.PrintLast Go.Proofs.YtfipiohchnaglaaW.PrintMore
attribute [local go_sem] max2_int min2_int max_two min_two max_three min_three max_four min_four   -- for this text's walks alone
set_option linter.unusedVariables false
set_option linter.unusedSimpArgs false

/-! ### slices_Delete_string_string: function 86 (given by hand) -/
set_option maxHeartbeats 8000000 in
set_option maxRecDepth 100000 in
theorem delete86_calls (g n c : Nat) (xs : List ByteArray) (i : Nat) (base : Nat) (ok : Nat → Prop) (w0 W : World) (HO : Kd.R Kd.string 9 W base ok (.slice (some ⟨g, 0, none⟩) n c) xs) (hi : i < n) (HB : Below base w0 W) (hbase : base ≤ W.heap.size) :
    Calls Try.prog 86 #[.slice (some ⟨g, 0, none⟩) n c, .int .i64 (i : Int), .int .i64 ((i : Int) + 1)] W fun e w' => e = .returned (.slice (some ⟨g, 0, none⟩) (n - 1) c) ∧ Kd.R Kd.string 9 w' base ok (.slice (some ⟨g, 0, none⟩) (n - 1) c) (xs.eraseIdx i) ∧ Below base w0 w' := by
  have hr := Kd.R_reads' HO
  obtain rfl : n = xs.length := hr.1
  have hnc : xs.length ≤ c := hr.2.1
  have hmax : xs.length ≤ 9223372036854775807 := hr.2.2.2.1
  have HO1 := Aside0.mk HO
  have HB1 := Aside0.mk HB
  clear HO HB hr
  have h1 : ((i : Int) == (i : Int) + 1) = false := by rw [beq_eq_false_iff_ne]; omega
  have hic : i ≤ c := by omega
  have hwr : IntKind.i64.wrap ((i : Int) + 1) = (i : Int) + 1 := by rw [IntKind.wrap_i64]; omega
  have hp0 : (0 : Int) ≤ (i : Int) + 1 := by omega
  have hp1 : (i : Int) + 1 ≤ (xs.length : Int) := by omega
  have hp2 : ((i : Int) + 1).toNat = i + 1 := by omega
  obtain ⟨A, hA⟩ : ∃ A : Option Addr, A = (if c = i + 1 then some (⟨g, 0, none⟩ : Addr) else some ⟨g, i + 1, none⟩) := ⟨_, rfl⟩
  have hA2 : Aside0 (A = if c = i + 1 then some (⟨g, 0, none⟩ : Addr) else (some (⟨g, 0, none⟩ : Addr)).map (·.add ((i + 1) * Kd.string.sz))) := ⟨by
    rw [hA]
    split
    · rfl
    · simp [Addr.add, show Kd.string.sz = 1 from rfl]⟩
  have hA3 := hA.symm
  clear hA
  go_enter Try.func86, Try.ntmps86
  go_wp2_with fail
  go_region_law (refine Kd.R_delete_step Kd.string (w0 := w0) base rfl (.tmp 22) (.tmp 25) 37 9 rfl Try.underlying37 (by kernel_rfl) (g := g) (n := xs.length) (c := c) (k := i) (m := xs.length - (i + 1)) (c2 := c - (i + 1)) (A := A) (xs := xs) (ok := ok) (by simp [Act.eval, Act.put]) (by simp [Act.eval, Act.put]) hA2.out rfl (Kd.R_drew HO1.out) hi (below_drew HB1.out) hbase ?_; intro w1 ho hb _; have HO2 := Aside0.mk ho; have HB2 := Aside0.mk hb; clear ho hb)
  clear hA3 hA2 HO1 HB1
  have hel : (xs.eraseIdx i).length = xs.length - 1 := List.length_eraseIdx_of_lt hi
  have ho := Kd.own_of_R (enc := Value.string) (h1 := fun _ => rfl) HO2.out
  obtain ⟨hg0, cur, hh, hcs⟩ : base ≤ g ∧ ∃ cur, w1.heap[g]? = some (.cells cur 9 (0, 0)) ∧ cur.size = c := by
    rcases ho.2 with ⟨h, _⟩ | ⟨g', cap, cur, hv, hb, hh, _, _, hcs, _⟩
    · cases h
    · injection hv with ha _ hc
      injection ha with ha
      injection ha with hg
      subst hg; subst hc
      exact ⟨hb, cur, hh, by omega⟩
  have hclr : ∀ c2 : Nat, (Builtin.clear_ #[37] 0 #[.slice (some ⟨g, xs.length - 1, none⟩) (xs.length - (xs.length - 1)) c2]).run Try.prog w1 = .ok (.tuple #[]) (w1.setCell ⟨g, xs.length - 1, none⟩ (.string ⟨#[]⟩)) := fun c2 => by
    have e := Lib.run_clear_slice (P := Try.prog) w1 37 9 0 (.string ⟨#[]⟩) Try.underlying37 (fun _ => by kernel_rfl) rfl rfl g (xs.length - 1) 1 c2 (by omega)
      (fun j hj => by rw [cell_of_row w1 g _ cur 9 (0, 0) hh, Array.getElem?_eq_getElem (by omega)]; rfl) (fun j hj => blk_frozen hh _)
    rw [show xs.length - (xs.length - 1) = 1 by omega]
    exact e
  rw [hel] at ho
  have ho3 := (ho.stored (xs.length - 1) (.string ⟨#[]⟩)).1
  rw [List.set_eq_of_length_le (by rw [encs_length, hel]; omega)] at ho3
  have HO3 : Aside0 (Kd.R Kd.string 9 (w1.setCell ⟨g, xs.length - 1, none⟩ (.string ⟨#[]⟩)) base ok (.slice (some ⟨g, 0, none⟩) (xs.length - 1) c) (xs.eraseIdx i)) := ⟨Kd.R_of_own (enc := Value.string) (h1 := fun _ => rfl) (by rw [hel]; exact ho3) HO2.out.1⟩
  have HB3 : Aside0 (Below base w0 (w1.setCell ⟨g, xs.length - 1, none⟩ (.string ⟨#[]⟩))) := ⟨HB2.out.setCell hg0 _⟩
  clear ho ho3 hh hcs HO2 HB2 hel
  generalize w1.setCell ⟨g, xs.length - 1, none⟩ (.string ⟨#[]⟩) = w2 at *
  go_wp2_with fail
  go_ret
  exact ⟨rfl, HO3.out, HB3.out⟩

/-! ### bag_Take: function 60 (given by hand) -/
theorem own_slice_str {W : World} {e base : Nat} {ok : Nat → Prop} {v : Value} {xs : List ByteArray} (h : Kd.R Kd.string e W base ok v xs) (hne : 0 < xs.length) : ∃ g c, v = .slice (some ⟨g, 0, none⟩) xs.length c := by
  have ho := Kd.own_of_R (enc := Value.string) (h1 := fun _ => rfl) h
  rcases ho.2 with ⟨h, h2⟩ | ⟨g', cap, cur, hv, _⟩
  · simp [h2] at hne
  · refine ⟨g', cap, ?_⟩
    rw [hv]
def bag_Take.f (l0 : List ByteArray) (a1 : Int) : Option (ByteArray × List ByteArray × Bool) := (slices_Clone_string_string.f l0).bind fun t => if a1 < 0 then some (ByteArray.empty, t, false) else if a1 ≥ (l0.length : Int) then some (ByteArray.empty, t, false) else some (rdOf ByteArray.empty l0 a1, t.eraseIdx a1.toNat, true)
set_option maxHeartbeats 8000000 in
set_option maxRecDepth 100000 in
theorem bag_Take.calls (A0 : Option Addr) (c0 : Nat) (l0 : List ByteArray) (a1 : Int) (r1 : ByteArray) (r2 : List ByteArray) (r3 : Bool) (w : World) (hr0 : Kd.C Kd.string w A0 l0.length l0) (hc0 : l0.length ≤ c0) (h : bag_Take.f l0 a1 = some (r1, r2, r3)) :
    Calls Try.prog 60 #[.slice A0 l0.length c0, .int .i64 a1] w fun e w' => ∃ v0_ : Value, e = .returned (.tuple #[.string r1, v0_, .bool r3]) ∧ Kd.R Kd.string 9 w' w.heap.size (fun _ => True) v0_ r2 ∧ Below w.heap.size w w' := by
  unfold bag_Take.f at h
  obtain ⟨t, ht, h⟩ := Option.bind_eq_some_iff.mp h
  have htl : t = l0 := by
    unfold slices_Clone_string_string.f at ht
    simp only [Option.bind_some, List.length_nil, Nat.zero_add, List.nil_append] at ht
    split at ht
    · exact (Option.some.inj ht).symm
    · cases ht
  have HR0 := Aside0.mk hr0
  have HC0 := Aside0.mk hc0
  have HT := Aside0.mk ht
  clear hr0 hc0 ht
  have HB := Aside0.mk (Below.refl w.heap.size w)
  by_cases c1 : a1 < 0
  · rw [if_pos c1] at h
    have c1b : decide (a1 < 0) = true := decide_eq_true c1
    clear c1
    simp only [Option.some.injEq, Prod.mk.injEq] at h
    obtain ⟨rfl, rfl, rfl⟩ := h
    clear htl
    go_enter Try.func60, Try.ntmps60
    go_wp2_with (go_at_call 85; refine (slices_Clone_string_string.calls _ _ l0 t _ HR0.out HC0.out HT.out).mono ?_; rintro e w1 ⟨v1, rfl, ho, hb⟩; have HO := Aside0.mk ho; have HB2 := Aside0.mk hb; clear ho hb HB)
    go_ret3
    exact ⟨_, rfl, HO.out, HB2.out⟩
  rw [if_neg c1] at h
  have c1b : decide (a1 < 0) = false := decide_eq_false c1
  by_cases c2 : a1 ≥ (l0.length : Int)
  · rw [if_pos c2] at h
    have c2b : decide (a1 ≥ (l0.length : Int)) = true := decide_eq_true c2
    have c2c : decide ((l0.length : Int) ≤ a1) = true := decide_eq_true c2
    clear c1 c2
    simp only [Option.some.injEq, Prod.mk.injEq] at h
    obtain ⟨rfl, rfl, rfl⟩ := h
    clear htl
    go_enter Try.func60, Try.ntmps60
    go_wp2_with (go_at_call 85; refine (slices_Clone_string_string.calls _ _ l0 t _ HR0.out HC0.out HT.out).mono ?_; rintro e w1 ⟨v1, rfl, ho, hb⟩; have HO := Aside0.mk ho; have HB2 := Aside0.mk hb; clear ho hb HB)
    go_ret3
    exact ⟨_, rfl, HO.out, HB2.out⟩
  · rw [if_neg c2] at h
    have c2b : decide (a1 ≥ (l0.length : Int)) = false := decide_eq_false c2
    have c2c : decide ((l0.length : Int) ≤ a1) = false := decide_eq_false c2
    simp only [Option.some.injEq, Prod.mk.injEq] at h
    obtain ⟨rfl, rfl, rfl⟩ := h
    obtain ⟨i, rfl⟩ : ∃ i : Nat, a1 = (i : Int) := ⟨a1.toNat, by omega⟩
    have hi : i < t.length := by rw [htl]; omega
    have p1 : 0 ≤ (i : Int) := by omega
    have q1 : (i : Int) < (l0.length : Int) := by omega
    obtain ⟨ad, e1, hx⟩ := Kd.at_string HR0.out (i : Int) p1 q1
    cases e1
    have hwr : IntKind.i64.wrap ((i : Int) + 1) = (i : Int) + 1 := by
      rw [IntKind.wrap_i64]
      have := (Kd.C_max HR0.out)
      omega
    replace p1 := eq_true p1
    replace q1 := eq_true q1
    have c2d : decide (l0.length ≤ i) = false := decide_eq_false (by omega)
    clear c1 c2
    have HI := Aside0.mk hi
    have HX : Aside0 (∀ w', Below w.heap.size w w' → (w'.cell? (ad.add i) = some (.string (rdOf ByteArray.empty l0 (i : Int))) ∧ Below w.heap.size w w')) := ⟨fun w' hb => ⟨(hb.cell (World.block_lt_of_cell? w _ hx)).trans hx, hb⟩⟩
    clear hi htl h
    go_enter Try.func60, Try.ntmps60
    go_wp2
    go_region_held3 (fun w' => w'.cell? (ad.add i) = some (.string (rdOf ByteArray.empty l0 (i : Int))) ∧ Below w.heap.size w w') (first | exact HX.out _ HB3.out | exact HX.out _ HB2.out | exact HX.out _ (below_drew HB.out))
      (first
        | (go_at_call 85; refine (slices_Clone_string_string.calls _ _ l0 t _ (Kd.C_drew HR0.out) HC0.out HT.out).mono ?_; rintro e w1 ⟨v1, rfl, ho, hb⟩; obtain ⟨g, c, rfl⟩ := own_slice_str ho (Nat.lt_of_le_of_lt (Nat.zero_le _) HI.out); have HO := Aside0.mk ho; have HB2 := Aside0.mk ((below_drew HB.out).trans hb); clear ho hb)
        | (go_at_call 86; refine (delete86_calls g _ c t i w.heap.size _ w _ HO.out HI.out HB2.out HB2.out.size).mono ?_; rintro e w2 ⟨rfl, ho, hb⟩; have HO2 := Aside0.mk ho; have HB3 := Aside0.mk hb; clear ho hb HO))
    go_wp2
    go_ret3
    exact ⟨_, rfl, HO2.out, HB3.out⟩

/-! ### wire_number: function 87 -/
def wire_number.l0 : Nat → ByteArray → Int → Int → Int → Option (Int)
  | 0, _, _, _, _ => none
  | k + 1, x0, x1, x5, x6 => if x6 ≥ 0 then (if 0 ≤ (wrap64 ((wrap64 (4 * x1)) + x6)) then (if (wrap64 ((wrap64 (4 * x1)) + x6)) < (x0.size : Int) then (wire_number.l0 k x0 x1 (Go.bits .or .i64 (wrap64 (x5 * 256)) (wrap64 (bt x0 (wrap64 ((wrap64 (4 * x1)) + x6))))) (wrap64 (x6 - 1))) else (none)) else (none)) else (some x5)
def wire_number.f (k : Nat) (a0 : ByteArray) (a1 : Int) : Option (Int) := wire_number.l0 k a0 a1 0 3
set_option maxHeartbeats 8000000 in
set_option maxRecDepth 100000 in
theorem wire_number.calls (k : Nat) (a0 : ByteArray) (a1 : Int) (r : Int) (w : World) (h : wire_number.f k a0 a1 = some r) :
    Calls Try.prog 87 #[.string a0, .int .i64 a1] w fun e w' => e = .returned (.int .i64 r) ∧ Drawn0 w w' := by
  have H : (wire_number.l0 k a0 a1 0 3) = some r := h
  clear h
  have H' := Aside0.mk H
  clear H
  go_enter Try.func87, Try.ntmps87
  go_wp2
  go_loopg [5, 6] k (fun kq v5 v6 w' => ∃ (x5_1 : Int) (x6_1 : Int), v5 = .int .i64 x5_1 ∧ v6 = .int .i64 x6_1 ∧ Aside0 (wire_number.l0 kq a0 a1 x5_1 x6_1 = some r) ∧ Aside0 (kq ≤ k) ∧ Drawn0 w w')
  case atStart => exact ⟨(0), (3), (by first | rfl | (simp; done) | (simp [*]; done)), (by first | rfl | (simp; done) | (simp [*]; done)), H', ⟨Nat.le_refl _⟩, by repeat (first | exact Drawn0.refl _ | apply Drawn0.step)⟩
  case round =>
    clear H'
    try clear p2
    obtain ⟨x5_1, x6_1, rfl, rfl, HA, HK1, ⟨m1, rfl⟩⟩ := hrel
    cases gk with
    | zero => exact absurd HA.out (by simp [wire_number.l0])
    | succ k1 =>
      have H := HA.out
      clear HA
      simp only [wire_number.l0] at H
      by_cases c3 : x6_1 ≥ 0
      · rw [if_pos c3] at H
        have c3b0 : decide (0 ≤ x6_1) = true := decide_eq_true c3
        clear c3
        obtain ⟨ji4, hji4⟩ : ∃ j_ : Int, (wrap64 ((wrap64 (4 * a1)) + x6_1)) = j_ := ⟨_, rfl⟩
        replace H : (if 0 ≤ (ji4) then (if (ji4) < (a0.size : Int) then (wire_number.l0 k1 a0 a1 (Go.bits .or .i64 (wrap64 (x5_1 * 256)) (wrap64 (bt a0 (ji4)))) (wrap64 (x6_1 - 1))) else (none)) else (none)) = some r := by first | (rw [hji4] at H; exact H) | (simp only [hji4] at H ⊢; exact H)
        have hji4w : (IntKind.i64.wrap ((wrap64 (4 * a1)) + x6_1)) = ji4 := (i64_w _).trans hji4
        by_cases c5 : 0 ≤ (ji4)
        · rw [if_pos c5] at H
          have c5b0 : decide (0 ≤ (ji4)) = true := decide_eq_true c5
          clear c5
          by_cases c6 : (ji4) < (a0.size : Int)
          · rw [if_pos c6] at H
            have c6b0 : decide ((ji4) < (a0.size : Int)) = true := decide_eq_true c6
            clear c6
            have H' := Aside0.mk H
            clear H
            have p7 : 0 ≤ ((ji4) : Int) := of_decide_eq_true (by first | (with_reducible assumption) | assumption)
            have q7 : (ji4) < (a0.size : Int) := of_decide_eq_true (by first | (with_reducible assumption) | assumption)
            have hx7 := bt_at a0 (ji4)
            replace p7 := eq_true p7
            replace q7 := eq_true q7
            go_wp2
            go_roundg k1
            case measure => have := HK1.out; omega
            case rel => exact ⟨(Go.bits .or .i64 (wrap64 (x5_1 * 256)) (wrap64 (bt a0 (ji4)))), (wrap64 (x6_1 - 1)), (by first | rfl | (simp; done) | (simp only [← hji4] <;> (first | rfl | simp)) | (simp [*]; done)), (by first | rfl | (simp; done) | (simp [*]; done)), H', ⟨by have := HK1.out; omega⟩, by repeat (first | exact Drawn0.refl _ | apply Drawn0.step)⟩
          · rw [if_neg c6] at H
            exact absurd H (by simp)
        · rw [if_neg c5] at H
          exact absurd H (by simp)
      · rw [if_neg c3] at H
        have c3b0 : decide (0 ≤ x6_1) = false := decide_eq_false c3
        clear c3
        obtain rfl := Option.some.inj H
        go_wp2
        go_ret
        exact ⟨by first | rfl | (simp; done) | (simp [*]; done), by repeat (first | exact Drawn0.refl _ | apply Drawn0.step)⟩

/-! ### wire_signed: function 88 -/
def wire_signed.f (a0 : Int) : Option (Int) := some (wrap64 (wrap32 (a0)))
set_option maxHeartbeats 8000000 in
set_option maxRecDepth 100000 in
theorem wire_signed.calls (a0 : Int) (r : Int) (w : World) (h : wire_signed.f a0 = some r) :
    Calls Try.prog 88 #[.int .i64 a0] w fun e w' => e = .returned (.int .i64 r) ∧ Drawn0 w w' := by
  have H : (some (wrap64 (wrap32 (a0)))) = some r := h
  clear h
  obtain rfl := Option.some.inj H
  go_enter Try.func88, Try.ntmps88
  go_wp2
  go_ret
  exact ⟨by first | rfl | (simp; done) | (simp [*]; done), by repeat (first | exact Drawn0.refl _ | apply Drawn0.step)⟩

-- NOT PRINTED: function 61 (wire_Take)

-- NOT PRINTED: function 90 (model_Part)

-- NOT PRINTED: function 62 (fleet_Fleet_answer)

-- NOT PRINTED: function 92 (node_fits)

/-! ### slices_Index_int_int: function 111 -/
def slices_Index_int_int.l0 : Nat → List Int → Int → Int → Int → Option (Int)
  | 0, _, _, _, _ => none
  | k + 1, x0, x1, x7, x8 => if x8 < x7 then (if 0 ≤ x8 then (if x8 < (x0.length : Int) then (if x1 = (rd x0 x8) then (some x8) else (slices_Index_int_int.l0 k x0 x1 x7 (wrap64 (x8 + 1)))) else (none)) else (none)) else (some (-1))
def slices_Index_int_int.f (k : Nat) (l0 : List Int) (a1 : Int) : Option (Int) := slices_Index_int_int.l0 k l0 a1 (l0.length : Int) 0
set_option maxHeartbeats 8000000 in
set_option maxRecDepth 100000 in
theorem slices_Index_int_int.calls (k : Nat) (A0 : Option Addr) (c0 : Nat) (l0 : List Int) (a1 : Int) (r : Int) (w : World) (hr0 : Kd.C (Kd.int .i64) w A0 l0.length l0) (hc0 : l0.length ≤ c0) (h : slices_Index_int_int.f k l0 a1 = some r) :
    Calls Try.prog 111 #[.slice A0 l0.length c0, .int .i64 a1] w fun e w' => e = .returned (.int .i64 r) ∧ Drawn0 w w' := by
  have HR0 := Aside0.mk hr0
  have HC0 := Aside0.mk hc0
  clear hr0 hc0
  have H : (slices_Index_int_int.l0 k l0 a1 (l0.length : Int) 0) = some r := h
  clear h
  have H' := Aside0.mk H
  clear H
  go_enter Try.func111, Try.ntmps111
  go_wp2
  go_loopg [8] k (fun kq v8 w' => ∃ (x8_1 : Int), v8 = .int .i64 x8_1 ∧ Aside0 (slices_Index_int_int.l0 kq l0 a1 (l0.length : Int) x8_1 = some r) ∧ Aside0 (kq ≤ k) ∧ Drawn0 w w')
  case atStart => exact ⟨(0), (by first | rfl | (simp; done) | (simp [*]; done)), H', ⟨Nat.le_refl _⟩, by repeat (first | exact Drawn0.refl _ | apply Drawn0.step)⟩
  case round =>
    clear H'
    try clear c1
    try clear p2
    obtain ⟨x8_1, rfl, HA, HK1, ⟨m1, rfl⟩⟩ := hrel
    cases gk with
    | zero => exact absurd HA.out (by simp [slices_Index_int_int.l0])
    | succ k1 =>
      have H := HA.out
      clear HA
      simp only [slices_Index_int_int.l0] at H
      by_cases c3 : x8_1 < (l0.length : Int)
      · rw [if_pos c3] at H
        have c3b0 : decide (x8_1 < (l0.length : Int)) = true := decide_eq_true c3
        clear c3
        by_cases c4 : 0 ≤ x8_1
        · rw [if_pos c4] at H
          have c4b0 : decide (0 ≤ x8_1) = true := decide_eq_true c4
          clear c4
          by_cases c5 : x8_1 < (l0.length : Int)
          · rw [if_pos c5] at H
            have c5b0 : decide (x8_1 < (l0.length : Int)) = true := decide_eq_true c5
            clear c5
            by_cases c6 : a1 = (rd l0 x8_1)
            · rw [if_pos c6] at H
              have c6b0 : (a1 == (rd l0 x8_1)) = true := beq_iff_eq.mpr c6
              have c6b1 : (a1 != (rd l0 x8_1)) = false := bne_eq_false_iff_eq.mpr c6
              clear c6
              obtain rfl := Option.some.inj H
              have p379 : 0 ≤ (x8_1 : Int) := of_decide_eq_true (by first | (with_reducible assumption) | assumption)
              have q379 : x8_1 < (l0.length : Int) := of_decide_eq_true (by first | (with_reducible assumption) | assumption)
              obtain ⟨ad379, e379, hx379_0⟩ := Kd.at_int HR0.out x8_1 p379 q379
              cases e379
              replace p379 := eq_true p379
              replace q379 := eq_true q379
              go_wp2
              go_ret
              exact ⟨by first | rfl | (simp; done) | (simp [*]; done), by repeat (first | exact Drawn0.refl _ | apply Drawn0.step)⟩
            · rw [if_neg c6] at H
              have c6b0 : (a1 == (rd l0 x8_1)) = false := beq_eq_false_iff_ne.mpr c6
              have c6b1 : (a1 != (rd l0 x8_1)) = true := bne_iff_ne.mpr c6
              have H' := Aside0.mk H
              clear H
              have p379 : 0 ≤ (x8_1 : Int) := of_decide_eq_true (by first | (with_reducible assumption) | assumption)
              have q379 : x8_1 < (l0.length : Int) := of_decide_eq_true (by first | (with_reducible assumption) | assumption)
              obtain ⟨ad379, e379, hx379_0⟩ := Kd.at_int HR0.out x8_1 p379 q379
              cases e379
              replace p379 := eq_true p379
              replace q379 := eq_true q379
              go_wp2
              go_roundg k1
              case measure => have := HK1.out; omega
              case rel => exact ⟨(wrap64 (x8_1 + 1)), (by first | rfl | (simp; done) | (simp [*]; done)), H', ⟨by have := HK1.out; omega⟩, by repeat (first | exact Drawn0.refl _ | apply Drawn0.step)⟩
          · rw [if_neg c5] at H
            exact absurd H (by simp)
        · rw [if_neg c4] at H
          exact absurd H (by simp)
      · rw [if_neg c3] at H
        have c3b0 : decide (x8_1 < (l0.length : Int)) = false := decide_eq_false c3
        clear c3
        obtain rfl := Option.some.inj H
        go_wp2
        go_ret
        exact ⟨by first | rfl | (simp; done) | (simp [*]; done), by repeat (first | exact Drawn0.refl _ | apply Drawn0.step)⟩

/-! ### slices_Contains_int_int: function 105 -/
def slices_Contains_int_int.f (k : Nat) (l0 : List Int) (a1 : Int) : Option (Bool) := (slices_Index_int_int.f k l0 a1).bind fun t380 => (some (decide (t380 ≥ 0)))
set_option maxHeartbeats 8000000 in
set_option maxRecDepth 100000 in
theorem slices_Contains_int_int.calls (k : Nat) (A0 : Option Addr) (c0 : Nat) (l0 : List Int) (a1 : Int) (r : Bool) (w : World) (hr0 : Kd.C (Kd.int .i64) w A0 l0.length l0) (hc0 : l0.length ≤ c0) (h : slices_Contains_int_int.f k l0 a1 = some r) :
    Calls Try.prog 105 #[.slice A0 l0.length c0, .int .i64 a1] w fun e w' => e = .returned (.bool r) ∧ Drawn0 w w' := by
  have HR0 := Aside0.mk hr0
  have HC0 := Aside0.mk hc0
  clear hr0 hc0
  have H : ((slices_Index_int_int.f k l0 a1).bind fun t380 => (some (decide (t380 ≥ 0)))) = some r := h
  clear h
  replace H := Option.bind_eq_some_iff.mp H
  obtain ⟨t380, A30, H⟩ := H
  replace H : (some (decide (t380 ≥ 0))) = some r := H
  have A3 := Aside0.mk A30
  clear A30
  obtain rfl := Option.some.inj H
  go_enter Try.func105, Try.ntmps105
  go_wp2_with (first | ((with_reducible refine gate_callee (f := 111) rfl ?_); refine goesL_ (some 7) rfl rfl Try.func111 (by kernel_rfl) rfl #[.slice A0 l0.length c0, .int .i64 a1] rfl (by (try simp only [List.map_toArray, List.map_cons, List.map_nil]); first | done | rfl | (simp only [List.length_drop, List.length_take]; rfl)) ?_; (with_reducible refine (slices_Index_int_int.calls k _ _ l0 a1 t380 _ ?side1 ?side2 A3.out).mono ?_); (case side1 => repeat (first | exact HR0.out | (with_reducible refine Kd.C_alloc ?_ _) | (with_reducible refine Kd.C_drewN ?_ _) | (with_reducible refine Kd.C_drew ?_))); (case side2 => exact HC0.out); rintro e w' ⟨rfl, ⟨nd, rfl⟩⟩; refine ⟨_, rfl, ?_⟩))
  go_ret
  exact ⟨by first | rfl | (simp; done) | (simp [*]; done), by repeat (first | exact Drawn0.refl _ | apply Drawn0.step)⟩

/-! ### place_Holds: function 93 -/
def place_Holds.f (k : Nat) (a0_0 : Int) (l0_1 : List (List Int)) (a1 : Int) (a2 : Int) : Option (Bool) := if a1 ≥ 0 then (if a1 < (l0_1.length : Int) then (if 0 ≤ a1 then ((slices_Contains_int_int.f k (rd_L1 l0_1 a1) a2).bind fun t383 => (some t383)) else (none)) else (some false)) else (some false)
set_option maxHeartbeats 8000000 in
set_option maxRecDepth 100000 in
theorem place_Holds.calls (k : Nat) (a0_0 : Int) (A0_1 : Option Addr) (c0_1 : Nat) (l0_1 : List (List Int)) (a1 : Int) (a2 : Int) (r : Bool) (w : World) (hr0_1 : Kd.C (Kd.slice 3 (Kd.int .i64)) w A0_1 l0_1.length l0_1) (hc0_1 : l0_1.length ≤ c0_1) (h : place_Holds.f k a0_0 l0_1 a1 a2 = some r) :
    Calls Try.prog 93 #[.agg #[.int .i64 a0_0, .slice A0_1 l0_1.length c0_1], .int .i64 a1, .int .i64 a2] w fun e w' => e = .returned (.bool r) ∧ Below w.heap.size w w' := by
  have hu48 := Try.underlying48
  have HR0_1 := Aside0.mk hr0_1
  have HC0_1 := Aside0.mk hc0_1
  clear hr0_1 hc0_1
  have HB := Aside0.mk (Below.refl w.heap.size w)
  have H : (if a1 ≥ 0 then (if a1 < (l0_1.length : Int) then (if 0 ≤ a1 then ((slices_Contains_int_int.f k (rd_L1 l0_1 a1) a2).bind fun t383 => (some t383)) else (none)) else (some false)) else (some false)) = some r := h
  clear h
  by_cases c4 : a1 ≥ 0
  · rw [if_pos c4] at H
    have c4b0 : decide (0 ≤ a1) = true := decide_eq_true c4
    clear c4
    by_cases c5 : a1 < (l0_1.length : Int)
    · rw [if_pos c5] at H
      have c5b0 : decide (a1 < (l0_1.length : Int)) = true := decide_eq_true c5
      clear c5
      by_cases c6 : 0 ≤ a1
      · rw [if_pos c6] at H
        have c6b0 : decide (0 ≤ a1) = true := decide_eq_true c6
        clear c6
        replace H := Option.bind_eq_some_iff.mp H
        obtain ⟨t383, A70, H⟩ := H
        replace H : (some t383) = some r := H
        have A7 := Aside0.mk A70
        clear A70
        obtain rfl := Option.some.inj H
        go_enter Try.func93, Try.ntmps93
        go_wp2_with (first | ((with_reducible refine gate_dst (N := 3) rfl ?_); (try (refine gate_guard (by rfl) ?_; dsimp only)); refine box_event ?hg (N := 3) ?hd (cs := #[.int .i64 a0_0, .slice A0_1 l0_1.length c0_1]) (t := 48) ?hr ?_; (case hd => rfl); (case hg => rfl); (case hr => first | (go_simp; done) | (go_simp; rfl)); intro gb381 hg w8 hbox hb; have n0_ := Aside0.mk (below_step (by repeat (first | (with_reducible first | exact HB.out | apply below_alloc | apply pw_below_drewN | apply below_drew1) | exact HB.out)) hb); have n1_ := Aside0.mk (hbox); have n2_ := Aside0.mk ((by rw [hg]; exact (below_size (by repeat (first | (with_reducible first | exact HB.out | apply below_alloc | apply pw_below_drewN | apply below_drew1) | exact HB.out))) : w.heap.size ≤ gb381)); have n3_ := Aside0.mk ((by rw [hg]; exact (below_size (by repeat (first | (with_reducible first | exact HB.out | apply below_alloc | apply pw_below_drewN | apply below_drew1) | exact HB.out))) : w.heap.size ≤ gb381)); clear HB; have HB := n0_; have BK381 := n1_; have GW381 := n2_; have GE381 := n3_; clear n0_ n1_ n2_ n3_; clear hb hbox hg; have hcz9_0 : w8.cell? ⟨gb381, 0, none⟩ = some (.int .i64 a0_0) := (blk_cell BK381.out 0).trans rfl; have hcz9_1 : w8.cell? ⟨gb381, 1, none⟩ = some (.slice A0_1 l0_1.length c0_1) := (blk_cell BK381.out 1).trans rfl; have hfz9_0 := blk_frozen BK381.out 0; have hfz9_1 := blk_frozen BK381.out 1; have p382 : 0 ≤ (a1 : Int) := of_decide_eq_true (by first | (with_reducible assumption) | assumption); have q382 : a1 < (l0_1.length : Int) := of_decide_eq_true (by first | (with_reducible assumption) | assumption); obtain ⟨ad382, A382_0, c382_0, e382, hx382_0, hl382_0, hi382_0⟩ := at_L1 HR0_1.out a1 p382 q382; cases e382; replace hx382_0 := (HB.out.cell (World.block_lt_of_cell? w _ hx382_0)).trans hx382_0; have HR382_0 := Aside0.mk hi382_0; have HC382_0 := Aside0.mk hl382_0; clear hi382_0 hl382_0; replace p382 := eq_true p382; replace q382 := eq_true q382) | (go_at_call 105; (with_reducible refine (slices_Contains_int_int.calls k _ _ (rd_L1 l0_1 a1) a2 t383 _ ?side1 ?side2 A7.out).mono ?_); (case side1 => repeat (first | exact (Kd.C_below HR382_0.out HB.out) | (with_reducible refine Kd.C_alloc ?_ _) | (with_reducible refine Kd.C_drewN ?_ _) | (with_reducible refine Kd.C_drew ?_))); (case side2 => exact HC382_0.out); rintro e w' ⟨rfl, ⟨nd, rfl⟩⟩))
        go_ret
        exact ⟨by first | rfl | (simp [errW_none, errW_some] <;> rfl) | (simp [*, errW_none, errW_some] <;> rfl), by repeat (first | (with_reducible first | exact HB.out | apply below_alloc | apply pw_below_drewN | apply below_drew1 | refine below_set ?_ GE381.out) | exact HB.out)⟩
      · rw [if_neg c6] at H
        exact absurd H (by simp)
    · rw [if_neg c5] at H
      have c5b0 : decide (a1 < (l0_1.length : Int)) = false := decide_eq_false c5
      clear c5
      obtain rfl := Option.some.inj H
      go_enter Try.func93, Try.ntmps93
      go_wp2_with (first | ((with_reducible refine gate_dst (N := 3) rfl ?_); (try (refine gate_guard (by rfl) ?_; dsimp only)); refine box_event ?hg (N := 3) ?hd (cs := #[.int .i64 a0_0, .slice A0_1 l0_1.length c0_1]) (t := 48) ?hr ?_; (case hd => rfl); (case hg => rfl); (case hr => first | (go_simp; done) | (go_simp; rfl)); intro gb381 hg w10 hbox hb; have n0_ := Aside0.mk (below_step (by repeat (first | (with_reducible first | exact HB.out | apply below_alloc | apply pw_below_drewN | apply below_drew1) | exact HB.out)) hb); have n1_ := Aside0.mk (hbox); have n2_ := Aside0.mk ((by rw [hg]; exact (below_size (by repeat (first | (with_reducible first | exact HB.out | apply below_alloc | apply pw_below_drewN | apply below_drew1) | exact HB.out))) : w.heap.size ≤ gb381)); have n3_ := Aside0.mk ((by rw [hg]; exact (below_size (by repeat (first | (with_reducible first | exact HB.out | apply below_alloc | apply pw_below_drewN | apply below_drew1) | exact HB.out))) : w.heap.size ≤ gb381)); clear HB; have HB := n0_; have BK381 := n1_; have GW381 := n2_; have GE381 := n3_; clear n0_ n1_ n2_ n3_; clear hb hbox hg; have hcz11_0 : w10.cell? ⟨gb381, 0, none⟩ = some (.int .i64 a0_0) := (blk_cell BK381.out 0).trans rfl; have hcz11_1 : w10.cell? ⟨gb381, 1, none⟩ = some (.slice A0_1 l0_1.length c0_1) := (blk_cell BK381.out 1).trans rfl; have hfz11_0 := blk_frozen BK381.out 0; have hfz11_1 := blk_frozen BK381.out 1))
      go_ret
      exact ⟨by first | rfl | (simp [errW_none, errW_some] <;> rfl) | (simp [*, errW_none, errW_some] <;> rfl), by repeat (first | (with_reducible first | exact HB.out | apply below_alloc | apply pw_below_drewN | apply below_drew1 | refine below_set ?_ GE381.out) | exact HB.out)⟩
  · rw [if_neg c4] at H
    have c4b0 : decide (0 ≤ a1) = false := decide_eq_false c4
    clear c4
    obtain rfl := Option.some.inj H
    go_enter Try.func93, Try.ntmps93
    go_wp2_with (first | ((with_reducible refine gate_dst (N := 3) rfl ?_); (try (refine gate_guard (by rfl) ?_; dsimp only)); refine box_event ?hg (N := 3) ?hd (cs := #[.int .i64 a0_0, .slice A0_1 l0_1.length c0_1]) (t := 48) ?hr ?_; (case hd => rfl); (case hg => rfl); (case hr => first | (go_simp; done) | (go_simp; rfl)); intro gb381 hg w12 hbox hb; have n0_ := Aside0.mk (below_step (by repeat (first | (with_reducible first | exact HB.out | apply below_alloc | apply pw_below_drewN | apply below_drew1) | exact HB.out)) hb); have n1_ := Aside0.mk (hbox); have n2_ := Aside0.mk ((by rw [hg]; exact (below_size (by repeat (first | (with_reducible first | exact HB.out | apply below_alloc | apply pw_below_drewN | apply below_drew1) | exact HB.out))) : w.heap.size ≤ gb381)); have n3_ := Aside0.mk ((by rw [hg]; exact (below_size (by repeat (first | (with_reducible first | exact HB.out | apply below_alloc | apply pw_below_drewN | apply below_drew1) | exact HB.out))) : w.heap.size ≤ gb381)); clear HB; have HB := n0_; have BK381 := n1_; have GW381 := n2_; have GE381 := n3_; clear n0_ n1_ n2_ n3_; clear hb hbox hg))
    go_ret
    exact ⟨by first | rfl | (simp [errW_none, errW_some] <;> rfl) | (simp [*, errW_none, errW_some] <;> rfl), by repeat (first | (with_reducible first | exact HB.out | apply below_alloc | apply pw_below_drewN | apply below_drew1 | refine below_set ?_ GE381.out) | exact HB.out)⟩

/-! ### ledger_Entry_106: function 106 (given by hand) -/
/-- The place of the first element for which p holds, counted from i on; -1: there is none. -/
def idxFrom106 {α : Type} (p : α → Bool) : List α → Nat → Int
  | [], _ => -1
  | x :: r, i => if p x = true then (i : Int) else idxFrom106 p r (i + 1)
theorem drop_at106 {α : Type} (l : List α) (k : Nat) (h : k < l.length) : l.drop k = l[k] :: l.drop (k + 1) := List.drop_eq_getElem_cons h
set_option maxHeartbeats 8000000 in
set_option maxRecDepth 100000 in
theorem idx106_calls (g : Nat) {fn : Func} (hfn : Try.prog.funcs[g]? = some fn) (hname : (fn.name == "runtime.NumGoroutine") = false) (hbody : fn.body.isSome = true) (lb : Array Value) (p : S167 → Bool)
    (A0 : Option Addr) (c0 : Nat) (l0 : List S167) (w : World) (hr0 : Kd.C k167 w A0 l0.length l0)
    (hP : ∀ (x : S167) (A : Option Addr) (c : Nat) (W : World), Below w.heap.size w W → Calls Try.prog g (#[(.agg #[.int .i64 x.f0.f0, .int .i64 x.f0.f1, .int .i64 x.f0.f2, .int .i64 x.f0.f3, .slice A x.f1.length c])] ++ lb) W fun e w' => e = .returned (.bool (p x)) ∧ Below W.heap.size W w') :
    Calls Try.prog 106 #[.slice A0 l0.length c0, .func (.func g) #[] lb] w fun e w' => e = .returned (.int .i64 (idxFrom106 p l0 0)) ∧ Below w.heap.size w w' := by
  have HR0 := Aside0.mk hr0
  have HP := Aside0.mk hP
  clear hr0 hP
  have HB := Aside0.mk (Below.refl w.heap.size w)
  have hmax : l0.length ≤ 9223372036854775807 := HR0.out.2.1
  have eg : ∀ (args : Array Value) (w : World), (callFunc g args).run Try.prog w = .ok (.enter g args) w := fun args w => enters_ hfn hname hbody args w
  go_enter Try.func106, Try.ntmps106
  go_wp2
  go_loopw [8] (fun v8 w' => ∃ k : Nat, Aside0 (k ≤ l0.length) ∧ v8 = .int .i64 (k : Int) ∧ Aside0 (idxFrom106 p (l0.drop k) k = idxFrom106 p l0 0) ∧ Aside0 (Below w.heap.size w w')) (fun v8 _ => l0.length - (intOf v8).toNat)
  case atStart => exact ⟨0, ⟨Nat.zero_le _⟩, rfl, ⟨rfl⟩, HB⟩
  case round =>
    obtain ⟨k, HK, rfl, HI, HB⟩ := hrel
    by_cases hlt : k < l0.length
    · obtain ⟨ad, A, c, hA, hx0, hx1, hx2, hx3, hx4, _, _⟩ := at_T167 HR0.out (k : Int) (by omega) (by omega)
      cases hA
      have hget : rd_T167 l0 (k : Int) = l0[k] := by
        unfold rd_T167
        rw [Int.toNat_natCast, List.getD_eq_getElem?_getD, List.getElem?_eq_getElem hlt]
        rfl
      rw [hget, Int.toNat_natCast] at hx0 hx1 hx2 hx3 hx4
      replace hx0 := (HB.out.cell (World.block_lt_of_cell? w _ hx0)).trans hx0
      replace hx1 := (HB.out.cell (World.block_lt_of_cell? w _ hx1)).trans hx1
      replace hx2 := (HB.out.cell (World.block_lt_of_cell? w _ hx2)).trans hx2
      replace hx3 := (HB.out.cell (World.block_lt_of_cell? w _ hx3)).trans hx3
      replace hx4 := (HB.out.cell (World.block_lt_of_cell? w _ hx4)).trans hx4
      have hc : decide (k < l0.length) = true := decide_eq_true hlt
      have HC := Aside0.mk (fun W => HP.out l0[k] A c W)
      have HD := Aside0.mk (drop_at106 l0 k hlt)
      clear hget
      cases hp : p l0[k]
      · have HC1 : Aside0 (∀ W : World, Below w.heap.size w W → Calls Try.prog g (#[(.agg #[.int .i64 l0[k].f0.f0, .int .i64 l0[k].f0.f1, .int .i64 l0[k].f0.f2, .int .i64 l0[k].f0.f3, .slice A l0[k].f1.length c])] ++ lb) W fun e w' => e = .returned (.bool false) ∧ Below W.heap.size W w') := ⟨fun W hW => by have := HC.out W hW; rwa [hp] at this⟩
        have HN : Aside0 (idxFrom106 p (l0.drop (k + 1)) (k + 1) = idxFrom106 p l0 0) := ⟨by have := HI.out; rw [HD.out] at this; simp only [idxFrom106, hp] at this; exact this⟩
        clear HC HI HD hp
        go_wp2_with (go_at_fn g; refine (HC1.out _ ?cb).mono ?_; (case cb => exact HB.out); rintro e w' ⟨rfl, hb0⟩; have n1_ := Aside0.mk (below_step HB.out hb0); clear hb0; clear HB; have HB := n1_; clear n1_)
        go_roundw
        case rel => exact ⟨k + 1, ⟨by omega⟩, by go_num, HN, HB⟩
        case measure => simp [intOf]; omega
      · have HC1 : Aside0 (∀ W : World, Below w.heap.size w W → Calls Try.prog g (#[(.agg #[.int .i64 l0[k].f0.f0, .int .i64 l0[k].f0.f1, .int .i64 l0[k].f0.f2, .int .i64 l0[k].f0.f3, .slice A l0[k].f1.length c])] ++ lb) W fun e w' => e = .returned (.bool true) ∧ Below W.heap.size W w') := ⟨fun W hW => by have := HC.out W hW; rwa [hp] at this⟩
        have HN : Aside0 (((k : Nat) : Int) = idxFrom106 p l0 0) := ⟨by have := HI.out; rw [HD.out] at this; simp only [idxFrom106, hp] at this; exact this⟩
        clear HC HI HD hp
        go_wp2_with (go_at_fn g; refine (HC1.out _ ?cb).mono ?_; (case cb => exact HB.out); rintro e w' ⟨rfl, hb0⟩; have n1_ := Aside0.mk (below_step HB.out hb0); clear hb0; clear HB; have HB := n1_; clear n1_)
        go_ret
        exact ⟨by rw [← HN.out]; rfl, HB.out⟩
    · have hc : decide (k < l0.length) = false := decide_eq_false hlt
      have hk : k = l0.length := by have := HK.out; omega
      have HN : Aside0 ((-1 : Int) = idxFrom106 p l0 0) := ⟨by have := HI.out; rw [hk, List.drop_length] at this; exact this⟩
      clear hk
      go_wp2
      go_ret
      exact ⟨by rw [← HN.out]; rfl, HB.out⟩

/-! ### slices_Clone_int_int_108: function 108 -/
def slices_Clone_int_int_108.f (l0 : List Int) : Option (List Int) := (some (([] : List Int) : List Int)).bind fun y384 => (if y384.length + l0.length < 17592186044416 then (some (y384 ++ l0)) else (none))
set_option maxHeartbeats 8000000 in
set_option maxRecDepth 100000 in
theorem slices_Clone_int_int_108.calls (A0 : Option Addr) (c0 : Nat) (l0 : List Int) (r : List Int) (w : World) (hr0 : Kd.C (Kd.int .i64) w A0 l0.length l0) (hc0 : l0.length ≤ c0) (h : slices_Clone_int_int_108.f l0 = some r) :
    Calls Try.prog 108 #[.slice A0 l0.length c0] w fun e w' => ∃ v0_ : Value, e = .returned (v0_) ∧ Kd.R (Kd.int .i64) 3 w' w.heap.size (fun _ => True) v0_ r ∧ Below w.heap.size w w' := by
  by_cases hA0_ : A0 = none
  · subst hA0_
    obtain rfl : l0 = [] := by
      refine List.eq_nil_of_length_eq_zero (Classical.byContradiction fun hz => ?_)
      obtain ⟨_, he_, _⟩ := hr0.2.2 (by omega)
      cases he_
    have hrn_ : r = [] := by
      unfold slices_Clone_int_int_108.f at h
      simp at h
      exact h
    subst hrn_
    have hqn_ : ∀ (W : World) (n c : Nat), (binOp .eql 54 (.slice none n c) (.slice none 0 0)).run Try.prog W = .ok (.bool true) W := fun W n c => Lib.run_eql_slice_nil (P := Try.prog) W 54 3 none n c 0 0 Try.underlying54
    go_enter Try.func108, Try.ntmps108
    go_wp2
    go_ret
    exact ⟨_, rfl, by first | exact Kd.R_nil _ _ _ _ _ | exact Kd.N_nil _ _ _ _ _ | exact Kd.V_nil _ _ _ _ _, Below.refl _ _⟩
  have hq0_ : ∀ (W : World) (n c : Nat), (binOp .eql 54 (.slice A0 n c) (.slice none 0 0)).run Try.prog W = .ok (.bool false) W := fun W n c => by
    rw [Lib.run_eql_slice_nil (P := Try.prog) W 54 3 A0 n c 0 0 Try.underlying54]
    cases A0
    · exact absurd rfl hA0_
    · rfl
  clear hA0_
  have HR0 := Aside0.mk hr0
  have HC0 := Aside0.mk hc0
  clear hr0 hc0
  have HB := Aside0.mk (Below.refl w.heap.size w)
  have H : ((some (([] : List Int) : List Int)).bind fun y384 => (if y384.length + l0.length < 17592186044416 then (some (y384 ++ l0)) else (none))) = some r := h
  clear h
  obtain ⟨y384, hy384⟩ : ∃ y_ : List Int, y_ = (([] : List Int)) := ⟨_, rfl⟩
  replace H : (if y384.length + l0.length < 17592186044416 then (some (y384 ++ l0)) else (none)) = some r := by first | (rw [hy384]; with_reducible exact H) | (have H2_ := (Option.bind_some _ _).symm.trans H; rw [hy384]; with_reducible exact H2_) | (have H2_ := (Option.bind_some _ _).symm.trans H; with_reducible exact H2_) | with_reducible exact H | (rw [hy384]; exact H) | exact H
  have Ny384 := Aside0.mk hy384
  clear hy384
  by_cases c2 : y384.length + l0.length < 17592186044416
  · rw [if_pos c2] at H
    have LMc2 := Aside0.mk c2
    clear c2
    obtain ⟨y387, hy387⟩ : ∃ y_ : List Int, y_ = (y384 ++ l0) := ⟨_, rfl⟩
    replace H : (some y387) = some r := by first | (rw [hy387]; with_reducible exact H) | (have H2_ := (Option.bind_some _ _).symm.trans H; rw [hy387]; with_reducible exact H2_) | (have H2_ := (Option.bind_some _ _).symm.trans H; with_reducible exact H2_) | with_reducible exact H | (rw [hy387]; exact H) | exact H
    have Ny387 := Aside0.mk hy387
    clear hy387
    obtain rfl := Option.some.inj H
    go_enter Try.func108, Try.ntmps108
    go_wp2_with (first | ((with_reducible refine gate_dst (N := 5) rfl ?_); refine Kd.R_lit (Kd.int .i64) _ 3 ?hg (N := 5) ?hd (xs := ([] : List Int)) (inner := []) (ok := fun _ => True) (okp := fun _ => True) ?hr ?hp (fun _ hk => hk) trivial (Below.refl _ _) (Nat.le_refl _) (by simp) ?_; (case hd => rfl); (case hg => rfl); (case hr => first | (go_simp; done) | (go_simp; rfl)); (case hp => exact (Reps.none _ _)); intro v385 w3 ho4 hb hg_ hnew_; clear hg_ hnew_; (first | rw [← Ny384.out] at ho4 | (simp only [Int.reduceToNat] at ho4; rw [← Ny384.out] at ho4)); have n0_ := Aside0.mk (Kd.R_lower ho4 (below_size (by repeat (first | (with_reducible first | exact HB.out | apply below_alloc | apply pw_below_drewN | apply below_drew1) | exact HB.out)))); have n1_ := Aside0.mk (below_step (by repeat (first | (with_reducible first | exact HB.out | apply below_alloc | apply pw_below_drewN | apply below_drew1) | exact HB.out)) hb); clear HB; have HO386 := n0_; have HB := n1_; clear n0_ n1_; clear hb ho4) | ((with_reducible refine gate_builtin (b := .append) (xs := #[.tmp 5, .tmp 6]) rfl ?_); at_builtin; refine Kd.R_append_rows (Kd.int .i64) (w0 := w) w.heap.size rfl (.tmp 5) (.tmp 6) 54 3 (.int .i64 0) 8 rfl Try.underlying54 info3 rfl (by decide) (by omega) v385 y384 l0 _ _ _ (fun _ => True) (fun _ => False) rfl rfl ?aO ?aR (fun _ _ h => h) (fun _ h => h.elim) ?aF ?aB ?aS ?aL ?_; (case aR => repeat (first | exact (Kd.C_below HR0.out HB.out) | (with_reducible refine Kd.C_alloc ?_ _) | (with_reducible refine Kd.C_drewN ?_ _) | (with_reducible refine Kd.C_drew ?_))); (case aB => exact (by repeat (first | (with_reducible first | exact HB.out | apply below_alloc | apply pw_below_drewN | apply below_drew1) | exact HB.out))); (case aF => exact (fun _ _ => trivial)); (case aO => exact (by (with_reducible repeat (first | apply Kd.R_alloc | apply Kd.R_drewN | apply Kd.R_drew)); exact HO386.out)); (case aS => exact (below_size (by repeat (first | (with_reducible first | exact HB.out | apply below_alloc | apply pw_below_drewN | apply below_drew1) | exact HB.out)))); (case aL => have := LMc2.out; omega); intro v388 w5 ho hb hg hat; rw [← Ny387.out] at ho; have n0_ := Aside0.mk (hb); have n1_ := Aside0.mk (ho); clear HB; clear HO386; have HB := n0_; have HO389 := n1_; clear n0_ n1_; clear ho hb hg hat))
    go_ret
    exact ⟨_, by first | rfl | (simp [errW_none, errW_some] <;> rfl) | (simp [*, errW_none, errW_some] <;> rfl), by (with_reducible repeat (first | apply Kd.R_alloc | apply Kd.R_drewN | apply Kd.R_drew)); exact HO389.out, by repeat (first | (with_reducible first | exact HB.out | apply below_alloc | apply pw_below_drewN | apply below_drew1) | exact HB.out)⟩
  · rw [if_neg c2] at H
    exact absurd H (by simp)

/-! ### ledger_Find: function 94 (given by hand) -/
def keyB (x : S167) (a b c d : Int) : Bool := (x.f0.f0 == a) && ((x.f0.f1 == b) && ((x.f0.f2 == c) && (x.f0.f3 == d)))
theorem keyA (d : Nat) (w : World) (x0 y0 : Int) (x1 y1 : Int) (x2 y2 : Int) (x3 y3 : Int) :
    (Op.equalIn (d + 2) 151 (.agg #[.int .i64 x0, .int .i64 x1, .int .i64 x2, .int .i64 x3]) (.agg #[.int .i64 y0, .int .i64 y1, .int .i64 y2, .int .i64 y3])).run Try.prog w = .ok (x0 == y0 && (x1 == y1 && (x2 == y2 && (x3 == y3)))) w := by
  refine eqA_of Try.underlying151 (by kernel_rfl) ?_
  refine eqf_cons (by rfl) (by go_simp; rfl) (by go_simp; rfl) (by go_simp) ?_
  refine eqf_cons (by rfl) (by go_simp; rfl) (by go_simp; rfl) (by go_simp) ?_
  refine eqf_cons (by rfl) (by go_simp; rfl) (by go_simp; rfl) (by go_simp) ?_
  exact eqf_last (by rfl) (by go_simp; rfl) (by go_simp; rfl) (by go_simp)
theorem keyEq (a b c d a' b' c' d' : Int) (W : World) : (binOp .eql 151 (.agg #[.int .i64 a, .int .i64 b, .int .i64 c, .int .i64 d]) (.agg #[.int .i64 a', .int .i64 b', .int .i64 c', .int .i64 d'])).run Try.prog W = .ok (.bool ((a == a') && ((b == b') && ((c == c') && (d == d'))))) W := by
  simp only [binOp]
  simp [Op.equal, Op.maxDepth, keyA 9998]
set_option maxHeartbeats 8000000 in
set_option maxRecDepth 100000 in
theorem find_one.calls (x : S167) (A : Option Addr) (n : Nat) (a b c d : Int) (B : Nat) (W : World) (h0 : W.cell? ⟨B, 0, none⟩ = some (.int .i64 a)) (h1 : W.cell? ⟨B, 1, none⟩ = some (.int .i64 b)) (h2 : W.cell? ⟨B, 2, none⟩ = some (.int .i64 c)) (h3 : W.cell? ⟨B, 3, none⟩ = some (.int .i64 d)) :
    Calls Try.prog 107 #[.agg #[.int .i64 x.f0.f0, .int .i64 x.f0.f1, .int .i64 x.f0.f2, .int .i64 x.f0.f3, .slice A x.f1.length n], .pointer (some ⟨B, 0, none⟩)] W fun e w' => e = .returned (.bool (keyB x a b c d)) ∧ Below W.heap.size W w' := by
  have g0 : ∀ o, (W.alloc o).cell? ⟨B, 0, none⟩ = some (.int .i64 a) := fun o => Lib.cell?_alloc_some o h0
  have g1 : ∀ o, (W.alloc o).cell? ⟨B, 1, none⟩ = some (.int .i64 b) := fun o => Lib.cell?_alloc_some o h1
  have g2 : ∀ o, (W.alloc o).cell? ⟨B, 2, none⟩ = some (.int .i64 c) := fun o => Lib.cell?_alloc_some o h2
  have g3 : ∀ o, (W.alloc o).cell? ⟨B, 3, none⟩ = some (.int .i64 d) := fun o => Lib.cell?_alloc_some o h3
  have hk := keyEq x.f0.f0 x.f0.f1 x.f0.f2 x.f0.f3 a b c d
  have hu1 := Try.underlying167
  have hu2 := Try.underlying151
  go_enter Try.func107, Try.ntmps107
  go_wp2
  go_ret
  exact ⟨rfl, below_alloc (Below.refl _ _) _⟩
theorem idxSpec94 {α : Type} (p : α → Bool) : ∀ (l : List α) (i : Nat), idxFrom106 p l i = -1 ∨ ∃ k, k < l.length ∧ idxFrom106 p l i = ((i + k : Nat) : Int) := by
  intro l
  induction l with
  | nil => intro i; exact .inl rfl
  | cons x r ih =>
    intro i
    by_cases h : p x = true
    · refine .inr ⟨0, by simp, ?_⟩
      simp only [idxFrom106, if_pos h]
      rfl
    · have hs : idxFrom106 p (x :: r) i = idxFrom106 p r (i + 1) := by simp only [idxFrom106]; rw [if_neg h]
      rw [hs]
      rcases ih (i + 1) with e | ⟨k, hk, e⟩
      · exact .inl e
      · exact .inr ⟨k + 1, by simp; exact hk, by rw [e]; congr 1; omega⟩
def ledger_Find.f (l0 : List S167) (a1_0 : Int) (a1_1 : Int) (a1_2 : Int) (a1_3 : Int) : Option (List Int × Bool) := if idxFrom106 (fun x => keyB x a1_0 a1_1 a1_2 a1_3) l0 0 < 0 then some ([], false) else (slices_Clone_int_int_108.f (rd_T167 l0 (idxFrom106 (fun x => keyB x a1_0 a1_1 a1_2 a1_3) l0 0)).f1).bind fun t => some (t, true)
set_option maxHeartbeats 8000000 in
set_option maxRecDepth 100000 in
theorem ledger_Find.calls (A0 : Option Addr) (c0 : Nat) (l0 : List S167) (a1_0 : Int) (a1_1 : Int) (a1_2 : Int) (a1_3 : Int) (r1 : List Int) (r2 : Bool) (w : World) (hr0 : Kd.C k167 w A0 l0.length l0) (hc0 : l0.length ≤ c0) (h : ledger_Find.f l0 a1_0 a1_1 a1_2 a1_3 = some (r1, r2)) :
    Calls Try.prog 94 #[.slice A0 l0.length c0, .agg #[.int .i64 a1_0, .int .i64 a1_1, .int .i64 a1_2, .int .i64 a1_3]] w fun e w' => ∃ v0_ : Value, e = .returned (.tuple #[v0_, .bool r2]) ∧ Kd.R (Kd.int .i64) 3 w' w.heap.size (fun _ => True) v0_ r1 ∧ Below w.heap.size w w' := by
  have hmf : ∀ (fn : Fn) (first cap : Array Value) (w : World), (Instr.makeFunc fn first cap).run Try.prog w = .ok (.func fn first cap) w := fun _ _ _ _ => rfl
  have hu24 := Try.underlying167
  have hu25 := Try.underlying151
  unfold ledger_Find.f at h
  obtain ⟨j, hj⟩ : ∃ j, j = idxFrom106 (fun x => keyB x a1_0 a1_1 a1_2 a1_3) l0 0 := ⟨_, rfl⟩
  have hs := idxSpec94 (fun x => keyB x a1_0 a1_1 a1_2 a1_3) l0 0
  rw [← hj] at h hs
  have HR := Aside0.mk hr0
  have HC := Aside0.mk hc0
  have HJ := Aside0.mk hj
  clear hc0 hj
  rcases hs with e1 | ⟨i, hi, e1⟩
  · subst e1
    rw [if_pos (by decide)] at h
    simp only [Option.some.injEq, Prod.mk.injEq] at h
    obtain ⟨rfl, rfl⟩ := h
    clear hr0
    go_enter Try.func94, Try.ntmps94
    go_wp2_with (first
      | ((with_reducible refine gate_dst (N := 3) rfl ?_); refine box_event ?hg (N := 3) ?hd (cs := #[.int .i64 a1_0, .int .i64 a1_1, .int .i64 a1_2, .int .i64 a1_3]) (t := 151) ?hr ?_; (case hd => rfl); (case hg => rfl); (case hr => first | (go_simp; done) | (go_simp; rfl)); intro gb3 hgb w3 hbox hb; have BK3 := Aside0.mk hbox; have HB1 := Aside0.mk hb; clear hgb hbox hb)
      | (go_at_call 106; refine (idx106_calls 107 Try.func107 rfl rfl #[.pointer (some ⟨gb3, 0, none⟩)] (fun x => keyB x a1_0 a1_1 a1_2 a1_3) _ c0 l0 _ (Kd.C_below HR.out HB1.out) ?hP).mono ?_; (case hP => (intro x A c W' hb; have hb4 := blk_below BK3.out hb; exact find_one.calls x A c a1_0 a1_1 a1_2 a1_3 gb3 W' ((blk_cell hb4 0).trans rfl) ((blk_cell hb4 1).trans rfl) ((blk_cell hb4 2).trans rfl) ((blk_cell hb4 3).trans rfl))); rw [← HJ.out]; rintro e w4 ⟨rfl, hb⟩; have HB2 := Aside0.mk (below_step HB1.out hb); clear hb; (try (have hx4 := (HB2.out.cell (World.block_lt_of_cell? w _ HX4.out)).trans HX4.out))))
    go_ret2
    exact ⟨_, rfl, Kd.R_nil _ _ _ _ _, HB2.out⟩
  · rw [Nat.zero_add] at e1
    subst e1
    rw [if_neg (by omega)] at h
    obtain ⟨t, ht, h⟩ := Option.bind_eq_some_iff.mp h
    simp only [Option.some.injEq, Prod.mk.injEq] at h
    obtain ⟨rfl, rfl⟩ := h
    have HT := Aside0.mk ht
    clear ht
    obtain ⟨ad, A4, c4, hA, _, _, _, _, hx4, hl4, hC4⟩ := at_T167 hr0 (i : Int) (by omega) (by omega)
    cases hA
    rw [Int.toNat_natCast] at hx4
    have HX4 := Aside0.mk hx4
    have HL4 := Aside0.mk hl4
    have HC4 := Aside0.mk hC4
    have hneg : decide ((i : Int) < 0) = false := decide_eq_false (by omega)
    clear hr0 hx4 hl4 hC4
    go_enter Try.func94, Try.ntmps94
    go_wp2_with (first
      | ((with_reducible refine gate_dst (N := 3) rfl ?_); refine box_event ?hg (N := 3) ?hd (cs := #[.int .i64 a1_0, .int .i64 a1_1, .int .i64 a1_2, .int .i64 a1_3]) (t := 151) ?hr ?_; (case hd => rfl); (case hg => rfl); (case hr => first | (go_simp; done) | (go_simp; rfl)); intro gb3 hgb w3 hbox hb; have BK3 := Aside0.mk hbox; have HB1 := Aside0.mk hb; clear hgb hbox hb)
      | (go_at_call 106; refine (idx106_calls 107 Try.func107 rfl rfl #[.pointer (some ⟨gb3, 0, none⟩)] (fun x => keyB x a1_0 a1_1 a1_2 a1_3) _ c0 l0 _ (Kd.C_below HR.out HB1.out) ?hP).mono ?_; (case hP => (intro x A c W' hb; have hb4 := blk_below BK3.out hb; exact find_one.calls x A c a1_0 a1_1 a1_2 a1_3 gb3 W' ((blk_cell hb4 0).trans rfl) ((blk_cell hb4 1).trans rfl) ((blk_cell hb4 2).trans rfl) ((blk_cell hb4 3).trans rfl))); rw [← HJ.out]; rintro e w4 ⟨rfl, hb⟩; have HB2 := Aside0.mk (below_step HB1.out hb); clear hb; (try (have hx4 := (HB2.out.cell (World.block_lt_of_cell? w _ HX4.out)).trans HX4.out)))
      | (go_at_call 108; refine (slices_Clone_int_int_108.calls _ _ _ t _ (Kd.C_below HC4.out HB2.out) HL4.out HT.out).mono ?_; rintro e w5 ⟨v5, rfl, ho, hb⟩; have HO5 := Aside0.mk ho; have HB5 := Aside0.mk hb; clear ho hb))
    go_ret2
    exact ⟨_, rfl, Kd.R_lower HO5.out HB2.out.size, below_step HB2.out HB5.out⟩

/-! ### ledger_Entry_109: function 109 -/
def ledger_Entry_109.f (l0 : List (S167)) : Option ((List (S167))) := (some (([] : List (S167)) : List (S167))).bind fun y390 => (if y390.length + l0.length < 2513169434916 then (some (y390 ++ l0)) else (none))
set_option maxHeartbeats 8000000 in
set_option maxRecDepth 100000 in
theorem ledger_Entry_109.calls (P0_ : Nat → Prop) (A0 : Option Addr) (c0 : Nat) (l0 : List (S167)) (r : List (S167)) (w : World) (hs0 : Kd.V k167 167 w w.heap.size (fun k_ => P0_ k_) (.slice A0 l0.length c0) l0) (h : ledger_Entry_109.f l0 = some r) :
    Calls Try.prog 109 #[.slice A0 l0.length c0] w fun e w' => ∃ v0_ : Value, e = .returned (v0_) ∧ Kd.N k167 167 w' w.heap.size (fun k_ => (P0_ k_ ∨ w.heap.size ≤ k_)) v0_ r ∧ Below w.heap.size w w' := by
  by_cases hA0_ : A0 = none
  · subst hA0_
    obtain rfl : l0 = [] := by
      refine List.eq_nil_of_length_eq_zero (Classical.byContradiction fun hz => ?_)
      obtain ⟨_, he_, _⟩ := (Kd.V_reads' hs0).2.2.2.2 (by omega)
      cases he_
    have hrn_ : r = [] := by
      unfold ledger_Entry_109.f at h
      simp at h
      exact h
    subst hrn_
    have hqn_ : ∀ (W : World) (n c : Nat), (binOp .eql 113 (.slice none n c) (.slice none 0 0)).run Try.prog W = .ok (.bool true) W := fun W n c => Lib.run_eql_slice_nil (P := Try.prog) W 113 167 none n c 0 0 Try.underlying113
    go_enter Try.func109, Try.ntmps109
    go_wp2
    go_ret
    exact ⟨_, rfl, by first | exact Kd.R_nil _ _ _ _ _ | exact Kd.N_nil _ _ _ _ _ | exact Kd.V_nil _ _ _ _ _, Below.refl _ _⟩
  have hq0_ : ∀ (W : World) (n c : Nat), (binOp .eql 113 (.slice A0 n c) (.slice none 0 0)).run Try.prog W = .ok (.bool false) W := fun W n c => by
    rw [Lib.run_eql_slice_nil (P := Try.prog) W 113 167 A0 n c 0 0 Try.underlying113]
    cases A0
    · exact absurd rfl hA0_
    · rfl
  clear hA0_
  have HO0 := Aside0.mk (show Kd.V k167 167 w w.heap.size (fun k_ => (P0_ k_ ∨ w.heap.size ≤ k_)) (.slice A0 l0.length c0) l0 from Kd.V_mono hs0 (fun k_ hk => .inl hk))
  have HB := Aside0.mk (Below.refl w.heap.size w)
  have H : ((some (([] : List (S167)) : List (S167))).bind fun y390 => (if y390.length + l0.length < 2513169434916 then (some (y390 ++ l0)) else (none))) = some r := h
  clear h
  obtain ⟨y390, hy390⟩ : ∃ y_ : List (S167), y_ = (([] : List (S167))) := ⟨_, rfl⟩
  replace H : (if y390.length + l0.length < 2513169434916 then (some (y390 ++ l0)) else (none)) = some r := by first | (rw [hy390]; with_reducible exact H) | (have H2_ := (Option.bind_some _ _).symm.trans H; rw [hy390]; with_reducible exact H2_) | (have H2_ := (Option.bind_some _ _).symm.trans H; with_reducible exact H2_) | with_reducible exact H | (rw [hy390]; exact H) | exact H
  have Ny390 := Aside0.mk hy390
  clear hy390
  by_cases c2 : y390.length + l0.length < 2513169434916
  · rw [if_pos c2] at H
    have LMc2 := Aside0.mk c2
    clear c2
    obtain ⟨y393, hy393⟩ : ∃ y_ : List (S167), y_ = (y390 ++ l0) := ⟨_, rfl⟩
    replace H : (some y393) = some r := by first | (rw [hy393]; with_reducible exact H) | (have H2_ := (Option.bind_some _ _).symm.trans H; rw [hy393]; with_reducible exact H2_) | (have H2_ := (Option.bind_some _ _).symm.trans H; with_reducible exact H2_) | with_reducible exact H | (rw [hy393]; exact H) | exact H
    have Ny393 := Aside0.mk hy393
    clear hy393
    obtain rfl := Option.some.inj H
    go_enter Try.func109, Try.ntmps109
    go_wp2_with (first | ((with_reducible refine gate_dst (N := 5) rfl ?_); refine Kd.N_lit k167 _ 167 ?hg (N' := 5) ?hd (xs := ([] : List (S167))) (inner := []) (ok := (fun k_ => (P0_ k_ ∨ w.heap.size ≤ k_))) (okp := (fun k_ => (P0_ k_ ∨ w.heap.size ≤ k_))) ?hr ?hp (fun _ hk => hk) ((show ∀ k_, w.heap.size ≤ k_ → (fun k_ => (P0_ k_ ∨ w.heap.size ≤ k_)) k_ from fun k_ hk => (.inr (Nat.le_trans (below_size (by repeat (first | (with_reducible first | exact HB.out | apply below_alloc | apply pw_below_drewN | apply below_drew1) | exact HB.out))) hk))) _ (Nat.le_refl _)) (Below.refl _ _) (Nat.le_refl _) (by simp) ?_; (case hd => rfl); (case hg => rfl); (case hr => first | (go_simp; done) | (go_simp; rfl)); (case hp => exact (Reps.none _ _)); intro v391 w3 ho4 hb hg_ hnew_; clear hg_ hnew_; (first | rw [← Ny390.out] at ho4 | (simp only [Int.reduceToNat] at ho4; rw [← Ny390.out] at ho4)); have n0_ := Aside0.mk (Kd.V_elder' (by (with_reducible repeat (first | apply Kd.V_alloc | apply Kd.V_drewN | apply Kd.V_drew)); exact HO0.out) (Kd.N_base ho4) hb); have n1_ := Aside0.mk (Kd.N_lower ho4 (below_size (by repeat (first | (with_reducible first | exact HB.out | apply below_alloc | apply pw_below_drewN | apply below_drew1) | exact HB.out)))); have n2_ := Aside0.mk (below_step (by repeat (first | (with_reducible first | exact HB.out | apply below_alloc | apply pw_below_drewN | apply below_drew1) | exact HB.out)) hb); clear HO0; clear HB; have HO0 := n0_; have HO392 := n1_; have HB := n2_; clear n0_ n1_ n2_; clear hb ho4) | ((with_reducible refine gate_builtin (b := .append) (xs := #[.tmp 5, .tmp 6]) rfl ?_); at_builtin; refine Kd.N_append_rows k167 (w0 := w) w.heap.size rfl (.tmp 5) (.tmp 6) 113 167 (.agg #[(.int .i64 0), (.int .i64 0), (.int .i64 0), (.int .i64 0), (.slice none 0 0)]) 56 rfl Try.underlying113 info167 rfl (by decide) (by omega) v391 y390 l0 _ _ _ (fun k_ => (P0_ k_ ∨ w.heap.size ≤ k_)) (fun k_ => ((fun k_ => (P0_ k_ ∨ w.heap.size ≤ k_))) k_ ∧ some k_ ≠ (v391 : Value).ownBlock) rfl rfl ?aO ?aR (fun _ hk => hk) ?aF ?aB ?aS ?aL ?_; (case aR => exact (by skip; exact Kd.V_F (Kd.V_mono (ok' := (fun k_ => ((fun k_ => (P0_ k_ ∨ w.heap.size ≤ k_))) k_ ∧ some k_ ≠ (v391 : Value).ownBlock)) (HO0.out) (fun k_ hk => ⟨hk.1, hk.2⟩)))); (case aB => exact (by repeat (first | (with_reducible first | exact HB.out | apply below_alloc | apply pw_below_drewN | apply below_drew1) | exact HB.out))); (case aF => exact (fun k_ hk => (.inr (Nat.le_trans (below_size (by repeat (first | (with_reducible first | exact HB.out | apply below_alloc | apply pw_below_drewN | apply below_drew1) | exact HB.out))) hk)))); (case aO => exact (by (with_reducible repeat (first | apply Kd.N_alloc | apply Kd.N_drewN | apply Kd.N_drew)); exact HO392.out)); (case aS => exact (below_size (by repeat (first | (with_reducible first | exact HB.out | apply below_alloc | apply pw_below_drewN | apply below_drew1) | exact HB.out)))); (case aL => have := LMc2.out; omega); intro v394 w5 ho hb hg hat; rw [← Ny393.out] at ho; have n0_ := Aside0.mk (Kd.V_afterv (ok := (fun k_ => (P0_ k_ ∨ w.heap.size ≤ k_))) (by (with_reducible repeat (first | apply Kd.V_alloc | apply Kd.V_drewN | apply Kd.V_drew)); exact HO0.out) hg hat); have n1_ := Aside0.mk (hb); have n2_ := Aside0.mk (ho); clear HO0; clear HB; clear HO392; have HO0 := n0_; have HB := n1_; have HO395 := n2_; clear n0_ n1_ n2_; clear ho hb hg hat))
    go_ret
    exact ⟨_, by first | rfl | (simp [errW_none, errW_some] <;> rfl) | (simp [*, errW_none, errW_some] <;> rfl), by (with_reducible repeat (first | apply Kd.N_alloc | apply Kd.N_drewN | apply Kd.N_drew)); exact HO395.out, by repeat (first | (with_reducible first | exact HB.out | apply below_alloc | apply pw_below_drewN | apply below_drew1) | exact HB.out)⟩
  · rw [if_neg c2] at H
    exact absurd H (by simp)

end Go.Proofs.Ytfipiohchnaglaa.Pu
