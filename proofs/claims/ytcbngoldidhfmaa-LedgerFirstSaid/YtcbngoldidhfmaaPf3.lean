/- Own text, by hand: what a ledger of tokens holds, and the walk of LedgerFirst. -/
import Derived.Test.YtcbngoldidhfmaaPf0
import Derived.Test.YtcbngoldidhfmaaPf1
import Derived.Test.YtcbngoldidhfmaaPf2
namespace Go.Proofs.Ytcbngoldidhfmaa.Pf
open Go.RowKit Go.Proofs.YtcbngoldidhfmaaW.PrintWords Go.Proofs.YtcbngoldidhfmaaW.PrintLast Go.Proofs.YtcbngoldidhfmaaW.PrintMore
attribute [local go_sem] max2_int min2_int max_two min_two max_three min_three max_four min_four   -- for this text's walks alone
set_option linter.unusedVariables false
set_option linter.unusedSimpArgs false

def switchboardlaw12_LedgerFirst.f (k : Nat) (l0 : List Int) : Option Bool := if l0.all (fun x => decide (0 ≤ x) && decide (x < 256)) = true then some true else none
theorem one_C {W : World} {g : Nat} {x : Int} (hb : W.heap[g]? = some (.cells #[Value.int .i64 x] 3 (0, 0))) : Kd.C (Kd.int .i64) W (some ⟨g, 0, none⟩) 1 [x] := by
  refine ⟨rfl, by decide, fun _ => ⟨_, rfl, fun j p hj => ?_⟩⟩
  cases j with
  | zero =>
    obtain rfl : x = p := by simpa using hj
    refine ⟨[.int .i64 x], rfl, rfl, fun i u hu => ?_⟩
    rw [Nat.zero_mul, Nat.zero_add, add_plain, blk_cell hb i]
    simpa using hu
  | succ j => simp at hj
theorem alloc_at {W : World} {g : Nat} (o : Obj) (h : g = W.heap.size) : (W.alloc o).heap[g]? = some o := by rw [h]; exact heap_alloc_new W o
set_option maxHeartbeats 8000000 in
set_option maxRecDepth 100000 in
theorem switchboardlaw12_LedgerFirst.calls (k : Nat) (A0 : Option Addr) (c0 : Nat) (l0 : List Int) (w : World) (hr0 : Kd.C (Kd.int .u8) w A0 l0.length l0) (hc0 : l0.length ≤ c0) (h : switchboardlaw12_LedgerFirst.f k l0 = some true) :
    Calls Try.prog 4 #[.slice A0 l0.length c0] w fun e w' => e = .returned (.bool true) ∧ Below w.heap.size w w' := by
  have hu24 := Try.underlying24
  have hu41 := Try.underlying41
  have HT : Aside0 (∀ j : Nat, j < l0.length → ∃ t : Nat, t < 256 ∧ rd l0 (j : Int) = (t : Int)) := ⟨by
    intro j hj
    unfold switchboardlaw12_LedgerFirst.f at h
    by_cases ha : l0.all (fun x => decide (0 ≤ x) && decide (x < 256)) = true
    · rw [List.all_eq_true] at ha
      have := ha _ (rd_mem (v := l0) (i := (j : Int)) (by omega) (by omega))
      rw [Bool.and_eq_true, decide_eq_true_eq, decide_eq_true_eq] at this
      exact ⟨(rd l0 (j : Int)).toNat, by omega, by omega⟩
    · rw [if_neg ha] at h
      cases h⟩
  have HR := Aside0.mk hr0
  have HC := Aside0.mk hc0
  clear hr0 hc0 h
  go_enter Try.func4, Try.ntmps4
  go_wp2_with (first
    | ((with_reducible refine gate_dst (N := 4) rfl ?_); (try (refine gate_guard (by rfl) ?_; dsimp only)); refine box_event ?hg (N := 4) ?hd (cs := acells (List.replicate 256 0)) (t := 41) ?hr ?_; (case hd => rfl); (case hg => rfl); (case hr => first | (go_simp; done) | (go_simp; rfl)); intro gb hg w1 hbox hb; have BK := Aside0.mk hbox; have HB := Aside0.mk hb; have HG := Aside0.mk hg; clear hg hbox hb))
  go_loopw [3, 5] (fun v3 v5 W => ∃ (i : Nat) (l : List S29) (arr : List Int), v5 = .int .i64 (i : Int) ∧ Aside0 (i ≤ 100) ∧ Aside0 (LInv i l arr) ∧ Aside0 (Kd.V k29 29 W w.heap.size (fun k_ => k_ ≠ gb) v3 l) ∧ Aside0 (W.heap[gb]? = some (.cells (acells arr) 41 (0, 0))) ∧ Aside0 (Below w.heap.size w W)) (fun _ v5 _ => 100 - (intOf v5).toNat)
  case atStart => exact ⟨0, [], List.replicate 256 0, rfl, ⟨by omega⟩, ⟨LInv.start⟩, ⟨Kd.V_nil _ _ _ _ _⟩, BK, HB⟩
  case round =>
    clear BK HB
    obtain ⟨i, l, arr, rfl, HI, HL, HV, BK, HB⟩ := hrel
    by_cases hlt : i < l0.length
    case neg =>
      have k1 : decide ((i : Int) < (l0.length : Int)) = false := decide_eq_false (by omega)
      have k1n : decide (i < l0.length) = false := decide_eq_false hlt
      clear hlt
      go_wp2_with (go_at_call 7; refine (switchboardlaw12_awake.calls true _ awake_f).mono ?_; rintro e w2 ⟨rfl, hb⟩; have HB2 := Aside0.mk (below_step HB.out hb); clear hb)
      go_ret
      exact ⟨rfl, HB2.out⟩
    have k1 : decide ((i : Int) < (l0.length : Int)) = true := decide_eq_true (by omega)
    have k1n : decide (i < l0.length) = true := decide_eq_true hlt
    by_cases h100 : i < 100
    case neg =>
      have k2 : decide ((i : Int) < 100) = false := decide_eq_false (by omega)
      clear hlt h100
      go_wp2_with (go_at_call 7; refine (switchboardlaw12_awake.calls true _ awake_f).mono ?_; rintro e w2 ⟨rfl, hb⟩; have HB2 := Aside0.mk (below_step HB.out hb); clear hb)
      go_ret
      exact ⟨rfl, HB2.out⟩
    have k2 : decide ((i : Int) < 100) = true := decide_eq_true (by omega)
    obtain ⟨t, ht, het⟩ := HT.out i hlt
    obtain ⟨ad, hA, hx⟩ := Kd.at_int HR.out (i : Int) (by omega) (by omega)
    cases hA
    rw [Int.toNat_natCast, het] at hx
    have HX := Aside0.mk hx
    replace hx := (HB.out.cell (World.block_lt_of_cell? w _ hx)).trans hx
    obtain ⟨ok, l', arr', x, hE, hF, hxr, hI', hcase⟩ := HL.out.step HI.out ht
    rw [show ((i + 1 : Nat) : Int) = (i : Int) + 1 by omega] at hE hcase
    obtain ⟨A3, c3, rfl⟩ := Kd.V_slice HV.out
    have hlt' := blk_lt BK.out
    have HLT := Aside0.mk hlt'
    have HE := Aside0.mk hE
    have HF := Aside0.mk hF
    have HI' := Aside0.mk hI'
    have HXR := Aside0.mk hxr
    have HAT : Aside0 ((acells arr)[t]? = some (.int .i64 (rd arr (t : Int)))) := ⟨acells_get (by rw [HL.out.len]; exact ht)⟩
    have hw1 : wrap64 ((i : Int) + 1) = (i : Int) + 1 := wrap_small (by omega) (by omega)
    have hwt : wrap64 (t : Int) = (t : Int) := wrap_small (by omega) (by omega)
    clear hE hF hI' hxr hlt'
    rcases hcase with ⟨rfl, h0, harr⟩ | ⟨rfl, h0, harr⟩
    · have HARR := Aside0.mk harr
      have hb0 : (rd arr (t : Int) == 0) = true := beq_iff_eq.2 h0
      have HAT5 : Aside0 ((acells (arr.set t ((i : Int) + 1)))[t]? = some (.int .i64 x)) := ⟨by rw [acells_get (by rw [List.length_set, HL.out.len]; exact ht), ← HXR.out, harr]⟩
      clear harr h0
      go_wp2_with (first
        | (go_at_call 10; refine (ledger_Enter.calls (fun k_ => k_ ≠ gb) A3 c3 l 0 0 (t : Int) 0 _ 1 [(i : Int) + 1] l' true _ (Kd.V_alloc (Kd.V_alloc HV.out _) _) (one_C (alloc_at _ (by simp))) (Nat.le_refl _) HE.out).mono ?_; rintro e w4 ⟨v4, rfl, hv, hb⟩; have HV4 := Aside0.mk (Kd.V_mono (ok' := fun k_ => k_ ≠ gb) hv (fun k_ hk => hk.elim id (fun hge hc => by subst hc; have h1 := HLT.out; simp at hge; omega))); have BK4 := Aside0.mk (blk_below (blk_alloc (blk_alloc BK.out _) _) hb); have BKK := Aside0.mk (blk_below (blk_alloc (alloc_at (W := wr) _ rfl) _) hb); have HB4 := Aside0.mk (below_step (below_alloc (below_alloc HB.out _) _) hb); clear hv hb; obtain ⟨A4, c4, rfl⟩ := Kd.V_slice HV4.out; have hx4 := (HB4.out.cell (World.block_lt_of_cell? w _ HX.out)).trans HX.out; have hfc : w4.cell? ⟨gb, t, none⟩ = some (.int .i64 (rd arr (t : Int))) := (blk_cell BK4.out t).trans HAT.out; have hfz : w4.frozen? ⟨gb, t, none⟩ = false := blk_frozen BK4.out t; have BK5 : Aside0 ((w4.setCell ⟨gb, t, none⟩ (.int .i64 ((i : Int) + 1))).heap[gb]? = some (.cells (acells (arr.set t ((i : Int) + 1))) 41 (0, 0))) := ⟨blk_put BK4.out t _ (acells_set arr t _)⟩; have HB5 : Aside0 (Below w.heap.size w (w4.setCell ⟨gb, t, none⟩ (.int .i64 ((i : Int) + 1)))) := ⟨below_set HB4.out (by show w.heap.size ≤ gb; exact Nat.le_of_eq HG.out.symm)⟩; have BKK5 : (w4.setCell ⟨gb, t, none⟩ (.int .i64 ((i : Int) + 1))).heap[wr.heap.size]? = some (.cells #[.int .i64 0, .int .i64 0, .int .i64 (t : Int), .int .i64 0] 24 (0, 0)) := (Below.heap_setCell w4 ⟨gb, t, none⟩ _ wr.heap.size (by show wr.heap.size ≠ gb; have := HLT.out; omega)).trans BKK.out; have hk0 := (blk_cell BKK5 0).trans (show _ = some (Value.int .i64 0) from rfl); have hk1 := (blk_cell BKK5 1).trans (show _ = some (Value.int .i64 0) from rfl); have hk2 := (blk_cell BKK5 2).trans (show _ = some (Value.int .i64 (t : Int)) from rfl); have hk3 := (blk_cell BKK5 3).trans (show _ = some (Value.int .i64 0) from rfl); clear BKK5; have hx5 := (HB5.out.cell (World.block_lt_of_cell? w _ HX.out)).trans HX.out)
        | (go_at_call 9; refine (ledger_Find.calls A4 c4 l' 0 0 (t : Int) 0 [x] true _ (Kd.V_reads' (Kd.V_far HV4.out (fun _ hk => hk) _)).2.2 (Kd.V_reads' HV4.out).2.1 HF.out).mono ?_; rintro e w6 ⟨v6, rfl, ho, hb⟩; have HB6 := Aside0.mk (below_step HB5.out hb); have HV6 := Aside0.mk (Kd.V_below (Kd.V_far HV4.out (fun _ hk => hk) _) hb); have BK6 := Aside0.mk (blk_below BK5.out hb); clear hb hx5 hk0 hk1 hk2 hk3; obtain ⟨A6, c6, rfl⟩ := Kd.R_slice ho; obtain ⟨ad6, hA6, hv0⟩ := Kd.at_int (Kd.R_reads' ho).2.2 0 (by omega) (by simp); cases hA6; clear ho; have hx6 := (HB6.out.cell (World.block_lt_of_cell? w _ HX.out)).trans HX.out; have hf6 : w6.cell? ⟨gb, t, none⟩ = some (.int .i64 x) := (blk_cell BK6.out t).trans HAT5.out; replace hv0 : w6.cell? ad6 = some (.int .i64 x) := hv0))
      go_quiet (fail)
      go_wp2
      go_roundw
      case rel => exact ⟨i + 1, l', arr.set t ((i : Int) + 1), by go_num, ⟨by have := HI.out; omega⟩, ⟨by rw [← HARR.out]; exact HI'.out⟩, ⟨Kd.V_drewN HV6.out _⟩, ⟨blk_drewN BK6.out _⟩, ⟨pw_below_drewN HB6.out _⟩⟩
      case measure => simp [intOf]; omega
    · replace harr := harr.symm
      subst harr
      have hb0 : (rd arr (t : Int) == 0) = false := beq_eq_false_iff_ne.2 h0
      clear h0
      have HAT5 : Aside0 ((acells arr)[t]? = some (.int .i64 x)) := ⟨by rw [HAT.out, HXR.out]⟩
      go_wp2_with (first
        | (go_at_call 10; refine (ledger_Enter.calls (fun k_ => k_ ≠ gb) A3 c3 l 0 0 (t : Int) 0 _ 1 [(i : Int) + 1] l' false _ (Kd.V_alloc (Kd.V_alloc HV.out _) _) (one_C (alloc_at _ (by simp))) (Nat.le_refl _) HE.out).mono ?_; rintro e w4 ⟨v4, rfl, hv, hb⟩; have HV4 := Aside0.mk (Kd.V_mono (ok' := fun k_ => k_ ≠ gb) hv (fun k_ hk => hk.elim id (fun hge hc => by subst hc; have h1 := HLT.out; simp at hge; omega))); have BK4 := Aside0.mk (blk_below (blk_alloc (blk_alloc BK.out _) _) hb); have BKK := Aside0.mk (blk_below (blk_alloc (alloc_at (W := wr) _ rfl) _) hb); have HB4 := Aside0.mk (below_step (below_alloc (below_alloc HB.out _) _) hb); clear hv hb; obtain ⟨A4, c4, rfl⟩ := Kd.V_slice HV4.out; have hx4 := (HB4.out.cell (World.block_lt_of_cell? w _ HX.out)).trans HX.out; have hfc : w4.cell? ⟨gb, t, none⟩ = some (.int .i64 (rd arr (t : Int))) := (blk_cell BK4.out t).trans HAT.out; have hk0 := (blk_cell BKK.out 0).trans (show _ = some (Value.int .i64 0) from rfl); have hk1 := (blk_cell BKK.out 1).trans (show _ = some (Value.int .i64 0) from rfl); have hk2 := (blk_cell BKK.out 2).trans (show _ = some (Value.int .i64 (t : Int)) from rfl); have hk3 := (blk_cell BKK.out 3).trans (show _ = some (Value.int .i64 0) from rfl))
        | (go_at_call 9; refine (ledger_Find.calls A4 c4 l' 0 0 (t : Int) 0 [x] true _ (Kd.V_reads' HV4.out).2.2 (Kd.V_reads' HV4.out).2.1 HF.out).mono ?_; rintro e w6 ⟨v6, rfl, ho, hb⟩; have HB6 := Aside0.mk (below_step HB4.out hb); have HV6 := Aside0.mk (Kd.V_below HV4.out hb); have BK6 := Aside0.mk (blk_below BK4.out hb); clear hb hk0 hk1 hk2 hk3; obtain ⟨A6, c6, rfl⟩ := Kd.R_slice ho; obtain ⟨ad6, hA6, hv0⟩ := Kd.at_int (Kd.R_reads' ho).2.2 0 (by omega) (by simp); cases hA6; clear ho; have hx6 := (HB6.out.cell (World.block_lt_of_cell? w _ HX.out)).trans HX.out; have hf6 : w6.cell? ⟨gb, t, none⟩ = some (.int .i64 x) := (blk_cell BK6.out t).trans HAT5.out; replace hv0 : w6.cell? ad6 = some (.int .i64 x) := hv0))
      go_quiet (fail)
      go_wp2
      go_roundw
      case rel => exact ⟨i + 1, l', arr, by go_num, ⟨by have := HI.out; omega⟩, HI', ⟨Kd.V_drewN HV6.out _⟩, ⟨blk_drewN BK6.out _⟩, ⟨pw_below_drewN HB6.out _⟩⟩
      case measure => simp [intOf]; omega

end Go.Proofs.Ytcbngoldidhfmaa.Pf
