/- Own text, by hand: the walk of HallKeeps. -/
import Derived.Test.YtlbkfeelkdombaaDoorPh0
import Derived.Test.YtlbkfeelkdombaaDoorPh1
import Derived.Test.YtlbkfeelkdombaaDoorPh2
import Derived.Test.YtlbkfeelkdombaaDoorPh3
import Derived.Test.YtlbkfeelkdombaaDoorPh4
import Derived.Test.YtlbkfeelkdombaaDoorPh5
import Derived.Test.YtlbkfeelkdombaaDoorPh7
namespace Go.Proofs.YtlbkfeelkdombaaDoor.Ph
open Go.RowKit Go.Proofs.YtlbkfeelkdombaaDoorW.PrintWords Go.Proofs.YtlbkfeelkdombaaDoorW.PrintLast Go.Proofs.YtlbkfeelkdombaaDoorW.PrintMore
attribute [local go_sem] max2_int min2_int max_two min_two max_three min_three max_four min_four
set_option linter.unusedVariables false
set_option linter.unusedSimpArgs false

def switchboardlaw24_HallKeeps.f (k : Nat) (l0 : List Int) : Option Bool := if l0.all (fun x => decide (0 ≤ x) && decide (x < 256)) = true then some true else none
theorem u8_range {k : Nat} {l0 : List Int} (h : switchboardlaw24_HallKeeps.f k l0 = some true) : ∀ j : Nat, j < l0.length → ∃ t : Nat, t < 256 ∧ rd l0 (j : Int) = (t : Int) := by
  intro j hj
  unfold switchboardlaw24_HallKeeps.f at h
  by_cases ha : l0.all (fun x => decide (0 ≤ x) && decide (x < 256)) = true
  · rw [List.all_eq_true] at ha
    have := ha _ (rd_mem (v := l0) (i := (j : Int)) (by omega) (by omega))
    rw [Bool.and_eq_true, decide_eq_true_eq, decide_eq_true_eq] at this
    exact ⟨(rd l0 (j : Int)).toNat, by omega, by omega⟩
  · rw [if_neg ha] at h
    cases h
theorem open_le (l : List S44) : (openOf l).length ≤ l.length := by
  unfold openOf
  rw [List.length_map]
  exact List.length_filter_le _ _
set_option maxHeartbeats 16000000 in
set_option maxRecDepth 100000 in
theorem switchboardlaw24_HallKeeps.calls (k : Nat) (A0 : Option Addr) (c0 : Nat) (l0 : List Int) (w : World) (hr0 : Kd.C (Kd.int .u8) w A0 l0.length l0) (hc0 : l0.length ≤ c0) (h : switchboardlaw24_HallKeeps.f k l0 = some true) :
    Calls Tryd.prog 4 #[.slice A0 l0.length c0] w fun e w' => e = .returned (.bool true) ∧ Below w.heap.size w w' := by
  have hu24 := Tryd.underlying24
  have hu51 := Tryd.underlying51
  have HT := Aside0.mk (u8_range h)
  have HR0 := Aside0.mk hr0
  clear hr0 hc0 h
  have HL0 : Aside0 (KW w (((w.alloc (.cells #[.slice none 0 0] 24)).alloc (.cells #[.bool false, .bool false, .bool false, .bool false, .bool false, .bool false, .bool false, .bool false, .bool false] 51)).alloc (.cells #[.bool false, .bool false, .bool false, .bool false, .bool false, .bool false, .bool false, .bool false, .bool false] 51)) (.slice none 0 0) (List.replicate 9 false) (List.replicate 9 false)) := ⟨⟨below_alloc (below_alloc (below_alloc (Below.refl _ _) _) _) _, blk_alloc (blk_alloc (alloc_at _ rfl) _) _, blk_alloc (alloc_at _ (by simp)) _, alloc_at _ (by simp)⟩⟩
  go_enter Tryd.func4, Tryd.ntmps4
  go_wp2
  go_loopw [6, 7] (fun v6 v7 W => ∃ (i : Nat) (l : List S44) (op dn : List Bool) (Ah : Option Addr) (ch : Nat), v6 = .int .i64 ((openOf l).length : Int) ∧ v7 = .int .i64 (i : Int) ∧ Aside0 (i ≤ 60 ∧ l.length ≤ i) ∧ Aside0 (KInv l op dn) ∧ Aside0 (KW w W (.slice Ah l.length ch) op dn) ∧ Aside0 (Kd.V k44 44 W 0 (fun k => k ≠ w.heap.size ∧ k ≠ w.heap.size + 1 ∧ k ≠ w.heap.size + 1 + 1) (.slice Ah l.length ch) l)) (fun _ v7 _ => 60 - (intOf v7).toNat)
  case atStart => exact ⟨0, [], List.replicate 9 false, List.replicate 9 false, none, 0, rfl, rfl, ⟨by simp⟩, ⟨KInv.start⟩, HL0, ⟨Kd.V_nil _ _ _ _ _⟩⟩
  case round =>
    clear HL0
    obtain ⟨i, l, op, dn, Ah, ch, rfl, rfl, HI, HO, HL, HV⟩ := hrel
    by_cases hlt : i < l0.length
    case neg =>
      have k1 : decide ((i : Int) < (l0.length : Int)) = false := decide_eq_false (by omega)
      have k1n : decide (i < l0.length) = false := decide_eq_false hlt
      clear hlt
      go_wp2_with (go_at_call 9; refine (switchboardlaw24_awake.calls true _ rfl).mono ?_; rintro e w9 ⟨rfl, hb⟩; have HB9 := Aside0.mk (below_step HL.out.hb hb); clear hb)
      go_ret
      exact ⟨rfl, HB9.out⟩
    have k1 : decide ((i : Int) < (l0.length : Int)) = true := decide_eq_true (by omega)
    have k1n : decide (i < l0.length) = true := decide_eq_true hlt
    by_cases h60 : i < 60
    case neg =>
      have k2 : decide ((i : Int) < 60) = false := decide_eq_false (by omega)
      have k2n : decide (i < 60) = false := decide_eq_false h60
      clear hlt h60
      go_wp2_with (go_at_call 9; refine (switchboardlaw24_awake.calls true _ rfl).mono ?_; rintro e w9 ⟨rfl, hb⟩; have HB9 := Aside0.mk (below_step HL.out.hb hb); clear hb)
      go_ret
      exact ⟨rfl, HB9.out⟩
    have k2 : decide ((i : Int) < 60) = true := decide_eq_true (by omega)
    have k2n : decide (i < 60) = true := decide_eq_true h60
    obtain ⟨t, ht, het⟩ := HT.out i hlt
    obtain ⟨ad, hA, hx⟩ := Kd.at_int HR0.out (i : Int) (by omega) (by omega)
    cases hA
    rw [Int.toNat_natCast, het] at hx
    replace hx := (HL.out.hb.cell (World.block_lt_of_cell? w _ hx)).trans hx
    obtain ⟨m, hm⟩ : ∃ m : Nat, m = 1 + t % 8 := ⟨_, rfl⟩
    have HM := Aside0.mk hm
    have hm1 : 1 ≤ m := by omega
    have hm8 : m ≤ 8 := by omega
    have hmi : (1 : Int) + (t : Int) % 8 = (m : Int) := by omega
    have HMI := Aside0.mk hmi
    clear hm hmi het
    have hw1 : wrap64 (100 + (m : Int)) = 100 + (m : Int) := wrap_small (by omega) (by omega)
    go_upto_region 8 with (fail)
    rw [HMI.out]
    by_cases hact : t % 16 < 8
    · have ha1 : decide (t % 16 < 8) = true := decide_eq_true (by omega)
      have ha2 : decide ((t : Int) % 16 < 8) = true := decide_eq_true (by omega)
      clear hact
      go_upto_if 39 with (fail)
      clear hlt h60
      go_cut [6] from 17 to 180 (fun v6 W => ∃ (l : List S44) (op dn : List Bool) (Ah : Option Addr) (ch : Nat), v6 = .int .i64 ((openOf l).length : Int) ∧ Aside0 (l.length ≤ i + 1) ∧ Aside0 (KInv l op dn) ∧ Aside0 (KW w W (.slice Ah l.length ch) op dn) ∧ Aside0 (Kd.V k44 44 W 0 (fun k => k ≠ w.heap.size ∧ k ≠ w.heap.size + 1 ∧ k ≠ w.heap.size + 1 + 1) (.slice Ah l.length ch) l))
      case first =>
        obtain ⟨kk, l', e0, hE, hcase⟩ := HO.out.admit (by have := HI.out; omega) hm1 hm8
        have HE := Aside0.mk hE
        have HC := Aside0.mk hcase
        have HGW := Aside0.mk HL.out.size
        clear hE hcase
        go_upto_region 9 with (fail)
        refine start_ (n := 13) (S := fun W => W.cell? ⟨w.heap.size, 0, none⟩ = some (.slice Ah l.length ch)) (ds := []) #[false, false, false, false, false, false, false, false, false, false, false, false, false] (by kernel_rfl) rfl rfl ((blk_cell (blk_drew HL.out.h) 0).trans rfl) (fun hHeld => ?_)
        have HZ : Aside0 (wr.heap.size ≤ wr.drew.heap.size) := ⟨Nat.le_refl _⟩
        have NL := Aside0.mk (HL.out.below (below_drew (Below.refl _ _)))
        have NV := Aside0.mk (Kd.V_drew HV.out)
        have HFR : Aside0 (∀ k, wr.heap.size ≤ k → k ≠ w.heap.size ∧ k ≠ w.heap.size + 1 ∧ k ≠ w.heap.size + 1 + 1) := ⟨fun k hk => by have := HGW.out; omega⟩
        clear HL HV hx
        have HL := NL
        have HV := NV
        clear NL NV
        generalize wr.drew = w1 at HZ HL HV hHeld ⊢
        refine take_ (i := 0) (N := some 41) (v := ?_) (a' := ?_) #[true, false, false, false, false, false, false, false, false, false, false, false, false] rfl rfl (take_of rfl (by kernel_rfl)) (fun _ _ _ h => h) (Or.inl ⟨by rfl, ?_⟩) hHeld ?_ ?_
        rotate_left
        · rintro w' s0
          go_simp
          with_reducible rfl
        rotate_left
        · simp only [Act.put, List.setIfInBounds_toArray, List.set_cons_zero, List.set_cons_succ, i64_w, i32_w]
          rfl
        refine pure_ (i := 2) (N := some 43) (v := ?_) (a' := ?_) #[true, false, true, false, false, false, false, false, false, false, false, false, false] rfl rfl (any_of rfl (by kernel_rfl)) (fun _ _ _ h => h) (Or.inl ⟨by rfl, ?_⟩) ?_ ?_
        rotate_left
        · intro w'
          go_simp
          with_reducible rfl
        rotate_left
        · simp only [Act.put, List.setIfInBounds_toArray, List.set_cons_zero, List.set_cons_succ, i64_w, i32_w]
          rfl
        refine pure_ (i := 3) (N := some 44) (v := ?_) (a' := ?_) #[true, false, true, true, false, false, false, false, false, false, false, false, false] rfl rfl (any_of rfl (by kernel_rfl)) (fun _ _ _ h => h) (Or.inl ⟨by rfl, ?_⟩) ?_ ?_
        rotate_left
        · intro w'
          go_simp
          with_reducible rfl
        rotate_left
        · simp only [Act.put, List.setIfInBounds_toArray, List.set_cons_zero, List.set_cons_succ, i64_w, i32_w]
          rfl
        clear hHeld
        refine join_ (σ := Value × Value × Value × Value × Nat) 2 #[true, true, true, true, true, true, true, true, true, true, true, false, false] (fun s_ => [(42, s_.1), (45, s_.2.1), (46, s_.2.2.1), (47, .tuple #[.agg #[s_.2.2.2.1], .int .i64 e0]), (40, .tuple #[.agg #[s_.2.2.2.1], .int .i64 e0]), (48, .agg #[s_.2.2.2.1]), (49, .int .i64 e0), (9, .pointer (some ⟨s_.2.2.2.2, 0, none⟩))]) (fun s_ w' => (w'.cell? ⟨w.heap.size, 0, none⟩ = some (.slice Ah l.length ch)) ∧ (wr.heap.size ≤ w'.heap.size) ∧ (KW w w' (.slice Ah l.length ch) op dn) ∧ (Kd.V k44 44 w' 0 (fun k => (k ≠ w.heap.size ∧ k ≠ w.heap.size + 1 ∧ k ≠ w.heap.size + 1 + 1) ∧ k ≠ s_.2.2.2.2) s_.2.2.2.1 l') ∧ (w'.heap[s_.2.2.2.2]? = some (.cells #[.slice none 0 0] 24 (0, 0))) ∧ (wr.heap.size ≤ s_.2.2.2.2)) ?_ ?_
        rotate_left
        · intro hJ
          refine three_ (i := 1) (j := 4) (k := 10) (Ni := some 42) (Nj := some 45) (Nk := some 9) #[true, true, true, true, false, false, false, false, false, false, false, false, false] #[true, false, true, true, true, false, false, false, false, false, false, false, false] #[true, false, true, true, false, false, false, false, false, false, true, false, false] rfl rfl rfl rfl rfl rfl (three_of rfl (by kernel_rfl)) (by decide) (by decide) (by decide) (fun K hK => ?_) (fun K hK => ?_) (fun K hK => ?_)
          · refine goes_ Tryd.func19 (by kernel_rfl) rfl #[] (by rfl) rfl rfl (by (try simp only [List.map_toArray, List.map_cons, List.map_nil]); first | done | rfl) ?_
            refine (switchboardlaw24_tiny.calls 1 [tinyY] _ rfl).mono ?_
            rintro e q1 ⟨vt, rfl, hvt, hb⟩
            obtain ⟨At, ct, rfl⟩ := Kd.V_slice hvt
            have HVT := Aside0.mk hvt
            clear hvt
            have NHZ := Aside0.mk (Nat.le_trans HZ.out hb.size)
            have NHL := Aside0.mk (HL.out.below hb)
            have NHV := Aside0.mk (Kd.V_below HV.out hb)
            clear HZ HL HV
            have HZ := NHZ
            have HL := NHL
            have HV := NHV
            clear NHZ NHL NHV
            clear hb
            refine ⟨_, rfl, ?_⟩
            refine hK.out _ _ ((blk_cell HL.out.h 0).trans rfl) (fun _ => ?_)
            clear hK K
            refine norm_ (a' := ?_) ?_ ?_
            rotate_left
            · show Act.put _ (some 42) _ = _
              simp only [Act.put, List.setIfInBounds_toArray, List.set_cons_zero, List.set_cons_succ, i64_w, i32_w]
              rfl
            refine two_ (i := 4) (j := 10) (Ni := some 45) (Nj := some 9) #[true, true, true, true, true, false, false, false, false, false, false, false, false] #[true, true, true, true, false, false, false, false, false, false, true, false, false] rfl rfl rfl rfl (two_of rfl (by kernel_rfl)) (by decide) (by decide) (fun K hK => ?_) (fun K hK => ?_)
            · refine lit_step ?hg (N := 45) ?hd (cs := #[.int .i64 (m : Int)]) (t := 3) (n := 1) ?hr ?_; (case hd => rfl); (case hg => rfl); (case hr => first | (go_simp; done) | (go_simp; rfl))
              intro g1 hg q2 hbox hb
              have HS1 := Aside0.mk hbox
              have GHS1 : Aside0 (wr.heap.size ≤ g1) := ⟨by rw [hg]; exact HZ.out⟩
              have NHZ := Aside0.mk (Nat.le_trans HZ.out hb.size)
              have NHL := Aside0.mk (HL.out.below hb)
              have NHV := Aside0.mk (Kd.V_below HV.out hb)
              have NHVT := Aside0.mk (Kd.V_below HVT.out hb)
              clear HZ HL HV HVT
              have HZ := NHZ
              have HL := NHL
              have HV := NHV
              have HVT := NHVT
              clear NHZ NHL NHV NHVT
              clear hg hbox hb
              refine hK.out _ _ ((blk_cell HL.out.h 0).trans rfl) (fun _ => ?_)
              clear hK K
              refine norm_ (a' := ?_) ?_ ?_
              rotate_left
              · show Act.put _ (some 45) _ = _
                simp only [Act.put, List.setIfInBounds_toArray, List.set_cons_zero, List.set_cons_succ, i64_w, i32_w]
                rfl
              refine two_ (i := 5) (j := 10) (Ni := some 46) (Nj := some 9) #[true, true, true, true, true, true, false, false, false, false, false, false, false] #[true, true, true, true, true, false, false, false, false, false, true, false, false] rfl rfl rfl rfl (two_of rfl (by kernel_rfl)) (by decide) (by decide) (fun K hK => ?_) (fun K hK => ?_)
              · refine lit_step ?hg (N := 46) ?hd (cs := #[.slice (some ⟨g1, 0, none⟩) 1 1]) (t := 42) (n := 1) ?hr ?_; (case hd => rfl); (case hg => rfl); (case hr => first | (go_simp; done) | (go_simp; rfl))
                intro g2 hg q3 hbox hb
                have HS2 := Aside0.mk hbox
                have GHS2 : Aside0 (wr.heap.size ≤ g2) := ⟨by rw [hg]; exact HZ.out⟩
                have NHZ := Aside0.mk (Nat.le_trans HZ.out hb.size)
                have NHL := Aside0.mk (HL.out.below hb)
                have NHV := Aside0.mk (Kd.V_below HV.out hb)
                have NHVT := Aside0.mk (Kd.V_below HVT.out hb)
                have NHS1 := Aside0.mk (blk_below HS1.out hb)
                clear HZ HL HV HVT HS1
                have HZ := NHZ
                have HL := NHL
                have HV := NHV
                have HVT := NHVT
                have HS1 := NHS1
                clear NHZ NHL NHV NHVT NHS1
                clear hg hbox hb
                refine hK.out _ _ ((blk_cell HL.out.h 0).trans rfl) (fun _ => ?_)
                clear hK K
                refine norm_ (a' := ?_) ?_ ?_
                rotate_left
                · show Act.put _ (some 46) _ = _
                  simp only [Act.put, List.setIfInBounds_toArray, List.set_cons_zero, List.set_cons_succ, i64_w, i32_w]
                  rfl
                refine two_ (i := 6) (j := 10) (Ni := some 47) (Nj := some 9) #[true, true, true, true, true, true, true, false, false, false, false, false, false] #[true, true, true, true, true, true, false, false, false, false, true, false, false] rfl rfl rfl rfl (two_of rfl (by kernel_rfl)) (by decide) (by decide) (fun K hK => ?_) (fun K hK => ?_)
                · refine goes_ Tryd.func18 (by kernel_rfl) rfl #[.agg #[.slice Ah l.length ch], .agg #[.int .i64 1, .slice At 1 ct], .int .i64 (m : Int), .slice (some ⟨g2, 0, none⟩) 1 1] (by rfl) rfl rfl (by (try simp only [List.map_toArray, List.map_cons, List.map_nil]); first | done | rfl) ?_
                  refine (hall_Admit.calls kk _ _ _ _ 1 _ ct [tinyY] (m : Int) _ _ 1 [[(m : Int)]] l' e0 _ HV.out (Kd.V_reads' HVT.out).2.2 (Kd.V_reads' HVT.out).2.1 (row2_V HS1.out HS2.out) HE.out).mono ?_
                  rintro e q4 ⟨vn, rfl, hvn, hb⟩
                  have HVN := Aside0.mk (Kd.V_mono (ok' := fun k => k ≠ w.heap.size ∧ k ≠ w.heap.size + 1 ∧ k ≠ w.heap.size + 1 + 1) hvn (fun k hk => by rcases hk with (hk | hk | hk) | hk; exact hk; (subst hk; exact HFR.out _ GHS1.out); (subst hk; exact HFR.out _ GHS2.out); exact HFR.out k (Nat.le_trans (HZ.out) hk)))
                  clear hvn HV
                  obtain ⟨An, cn, rfl⟩ := Kd.V_slice HVN.out
                  have NHZ := Aside0.mk (Nat.le_trans HZ.out hb.size)
                  have NHL := Aside0.mk (HL.out.below hb)
                  clear HZ HL
                  have HZ := NHZ
                  have HL := NHL
                  clear NHZ NHL
                  clear hb HVT HS1 HS2
                  have HV := HVN
                  clear HVN
                  refine ⟨_, rfl, ?_⟩
                  refine hK.out _ _ ((blk_cell HL.out.h 0).trans rfl) (fun _ => ?_)
                  clear hK K
                  refine norm_ (a' := ?_) ?_ ?_
                  rotate_left
                  · show Act.put _ (some 47) _ = _
                    simp only [Act.put, List.setIfInBounds_toArray, List.set_cons_zero, List.set_cons_succ, i64_w, i32_w]
                    rfl
                  refine pure_ (i := 7) (N := some 40) (v := ?_) (a' := ?_) #[true, true, true, true, true, true, true, true, false, false, false, false, false] rfl rfl (any_of rfl (by kernel_rfl)) (fun _ _ _ h => h) (Or.inl ⟨by rfl, ?_⟩) ?_ ?_
                  rotate_left
                  · intro w'
                    go_simp
                    with_reducible rfl
                  rotate_left
                  · simp only [Act.put, List.setIfInBounds_toArray, List.set_cons_zero, List.set_cons_succ, i64_w, i32_w]
                    rfl
                  refine pure_ (i := 8) (N := some 48) (v := ?_) (a' := ?_) #[true, true, true, true, true, true, true, true, true, false, false, false, false] rfl rfl (any_of rfl (by kernel_rfl)) (fun _ _ _ h => h) (Or.inl ⟨by rfl, ?_⟩) ?_ ?_
                  rotate_left
                  · intro w'
                    go_simp
                    with_reducible rfl
                  rotate_left
                  · simp only [Act.put, List.setIfInBounds_toArray, List.set_cons_zero, List.set_cons_succ, i64_w, i32_w]
                    rfl
                  refine pure_ (i := 9) (N := some 49) (v := ?_) (a' := ?_) #[true, true, true, true, true, true, true, true, true, true, false, false, false] rfl rfl (any_of rfl (by kernel_rfl)) (fun _ _ _ h => h) (Or.inl ⟨by rfl, ?_⟩) ?_ ?_
                  rotate_left
                  · intro w'
                    go_simp
                    with_reducible rfl
                  rotate_left
                  · simp only [Act.put, List.setIfInBounds_toArray, List.set_cons_zero, List.set_cons_succ, i64_w, i32_w]
                    rfl
                  refine one_ (i := 10) (N := some 9) #[true, true, true, true, true, true, true, true, true, true, true, false, false] rfl rfl (one_of rfl (by kernel_rfl)) (by decide) (fun K hK => ?_)
                  · refine box_step ?hg (N := 9) ?hd (cs := #[.slice none 0 0]) (t := 24) ?hr ?_; (case hd => rfl); (case hg => rfl); (case hr => first | (go_simp; done) | (go_simp; rfl))
                    intro ga hg q5 hbox hb
                    have HA := Aside0.mk hbox
                    have HG : Aside0 (wr.heap.size ≤ ga) := ⟨by rw [hg]; exact HZ.out⟩
                    have NHZ := Aside0.mk (Nat.le_trans HZ.out hb.size)
                    have NHL := Aside0.mk (HL.out.below hb)
                    have NHV := Aside0.mk (Kd.V_below (Kd.V_elderB HV.out ga (Nat.le_of_eq hg.symm)) hb)
                    clear HZ HL HV
                    have HZ := NHZ
                    have HL := NHL
                    have HV := NHV
                    clear NHZ NHL NHV
                    clear hg hbox hb
                    refine hK.out _ _ ((blk_cell HL.out.h 0).trans rfl) (fun _ => ?_)
                    clear hK K
                    refine norm_ (a' := ?_) ?_ ?_
                    rotate_left
                    · show Act.put _ (some 9) _ = _
                      simp only [Act.put, List.setIfInBounds_toArray, List.set_cons_zero, List.set_cons_succ, i64_w, i32_w]
                      rfl
                    refine norm_ ?_ (hJ (.agg #[.int .i64 1, .slice At 1 ct], .slice (some ⟨g1, 0, none⟩) 1 1, .slice (some ⟨g2, 0, none⟩) 1 1, .slice An l'.length cn, ga) _ ⟨(blk_cell HL.out.h 0).trans rfl, HZ.out, HL.out, HV.out, HA.out, HG.out⟩)
                    simp only [putAll, Act.put, List.setIfInBounds_toArray, List.set_cons_zero, List.set_cons_succ] <;> rfl
                · refine box_step ?hg (N := 9) ?hd (cs := #[.slice none 0 0]) (t := 24) ?hr ?_; (case hd => rfl); (case hg => rfl); (case hr => first | (go_simp; done) | (go_simp; rfl))
                  intro ga hg q6 hbox hb
                  have HA := Aside0.mk hbox
                  have HG : Aside0 (wr.heap.size ≤ ga) := ⟨by rw [hg]; exact HZ.out⟩
                  have NHZ := Aside0.mk (Nat.le_trans HZ.out hb.size)
                  have NHL := Aside0.mk (HL.out.below hb)
                  have NHV := Aside0.mk (Kd.V_below (Kd.V_elderB HV.out ga (Nat.le_of_eq hg.symm)) hb)
                  have NHVT := Aside0.mk (Kd.V_below HVT.out hb)
                  have NHS1 := Aside0.mk (blk_below HS1.out hb)
                  have NHS2 := Aside0.mk (blk_below HS2.out hb)
                  clear HZ HL HV HVT HS1 HS2
                  have HZ := NHZ
                  have HL := NHL
                  have HV := NHV
                  have HVT := NHVT
                  have HS1 := NHS1
                  have HS2 := NHS2
                  clear NHZ NHL NHV NHVT NHS1 NHS2
                  clear hg hbox hb
                  refine hK.out _ _ ((blk_cell HL.out.h 0).trans rfl) (fun _ => ?_)
                  clear hK K
                  refine norm_ (a' := ?_) ?_ ?_
                  rotate_left
                  · show Act.put _ (some 9) _ = _
                    simp only [Act.put, List.setIfInBounds_toArray, List.set_cons_zero, List.set_cons_succ, i64_w, i32_w]
                    rfl
                  refine one_ (i := 6) (N := some 47) #[true, true, true, true, true, true, true, false, false, false, true, false, false] rfl rfl (one_of rfl (by kernel_rfl)) (by decide) (fun K hK => ?_)
                  · refine goes_ Tryd.func18 (by kernel_rfl) rfl #[.agg #[.slice Ah l.length ch], .agg #[.int .i64 1, .slice At 1 ct], .int .i64 (m : Int), .slice (some ⟨g2, 0, none⟩) 1 1] (by rfl) rfl rfl (by (try simp only [List.map_toArray, List.map_cons, List.map_nil]); first | done | rfl) ?_
                    refine (hall_Admit.calls kk _ _ _ _ 1 _ ct [tinyY] (m : Int) _ _ 1 [[(m : Int)]] l' e0 _ HV.out (Kd.V_reads' HVT.out).2.2 (Kd.V_reads' HVT.out).2.1 (row2_V HS1.out HS2.out) HE.out).mono ?_
                    rintro e q7 ⟨vn, rfl, hvn, hb⟩
                    have HVN := Aside0.mk (Kd.V_mono (ok' := fun k => (k ≠ w.heap.size ∧ k ≠ w.heap.size + 1 ∧ k ≠ w.heap.size + 1 + 1) ∧ k ≠ ga) hvn (fun k hk => by rcases hk with (hk | hk | hk) | hk; exact hk; (subst hk; exact ⟨HFR.out _ GHS1.out, fun e => by have h_ := HS1.out; rw [e] at h_; have := h_.symm.trans HA.out; simp at this⟩); (subst hk; exact ⟨HFR.out _ GHS2.out, fun e => by have h_ := HS2.out; rw [e] at h_; have := h_.symm.trans HA.out; simp at this⟩); exact ⟨HFR.out k (Nat.le_trans (HZ.out) hk), fun e => by have h_ := blk_lt HA.out; omega⟩))
                    clear hvn HV
                    obtain ⟨An, cn, rfl⟩ := Kd.V_slice HVN.out
                    have NHZ := Aside0.mk (Nat.le_trans HZ.out hb.size)
                    have NHL := Aside0.mk (HL.out.below hb)
                    have NHA := Aside0.mk (blk_below HA.out hb)
                    clear HZ HL HA
                    have HZ := NHZ
                    have HL := NHL
                    have HA := NHA
                    clear NHZ NHL NHA
                    clear hb HVT HS1 HS2
                    have HV := HVN
                    clear HVN
                    refine ⟨_, rfl, ?_⟩
                    refine hK.out _ _ ((blk_cell HL.out.h 0).trans rfl) (fun _ => ?_)
                    clear hK K
                    refine norm_ (a' := ?_) ?_ ?_
                    rotate_left
                    · show Act.put _ (some 47) _ = _
                      simp only [Act.put, List.setIfInBounds_toArray, List.set_cons_zero, List.set_cons_succ, i64_w, i32_w]
                      rfl
                    refine pure_ (i := 7) (N := some 40) (v := ?_) (a' := ?_) #[true, true, true, true, true, true, true, true, false, false, true, false, false] rfl rfl (any_of rfl (by kernel_rfl)) (fun _ _ _ h => h) (Or.inl ⟨by rfl, ?_⟩) ?_ ?_
                    rotate_left
                    · intro w'
                      go_simp
                      with_reducible rfl
                    rotate_left
                    · simp only [Act.put, List.setIfInBounds_toArray, List.set_cons_zero, List.set_cons_succ, i64_w, i32_w]
                      rfl
                    refine pure_ (i := 8) (N := some 48) (v := ?_) (a' := ?_) #[true, true, true, true, true, true, true, true, true, false, true, false, false] rfl rfl (any_of rfl (by kernel_rfl)) (fun _ _ _ h => h) (Or.inl ⟨by rfl, ?_⟩) ?_ ?_
                    rotate_left
                    · intro w'
                      go_simp
                      with_reducible rfl
                    rotate_left
                    · simp only [Act.put, List.setIfInBounds_toArray, List.set_cons_zero, List.set_cons_succ, i64_w, i32_w]
                      rfl
                    refine pure_ (i := 9) (N := some 49) (v := ?_) (a' := ?_) #[true, true, true, true, true, true, true, true, true, true, true, false, false] rfl rfl (any_of rfl (by kernel_rfl)) (fun _ _ _ h => h) (Or.inl ⟨by rfl, ?_⟩) ?_ ?_
                    rotate_left
                    · intro w'
                      go_simp
                      with_reducible rfl
                    rotate_left
                    · simp only [Act.put, List.setIfInBounds_toArray, List.set_cons_zero, List.set_cons_succ, i64_w, i32_w]
                      rfl
                    refine norm_ ?_ (hJ (.agg #[.int .i64 1, .slice At 1 ct], .slice (some ⟨g1, 0, none⟩) 1 1, .slice (some ⟨g2, 0, none⟩) 1 1, .slice An l'.length cn, ga) _ ⟨(blk_cell HL.out.h 0).trans rfl, HZ.out, HL.out, HV.out, HA.out, HG.out⟩)
                    simp only [putAll, Act.put, List.setIfInBounds_toArray, List.set_cons_zero, List.set_cons_succ] <;> rfl
              · refine box_step ?hg (N := 9) ?hd (cs := #[.slice none 0 0]) (t := 24) ?hr ?_; (case hd => rfl); (case hg => rfl); (case hr => first | (go_simp; done) | (go_simp; rfl))
                intro ga hg q8 hbox hb
                have HA := Aside0.mk hbox
                have HG : Aside0 (wr.heap.size ≤ ga) := ⟨by rw [hg]; exact HZ.out⟩
                have NHZ := Aside0.mk (Nat.le_trans HZ.out hb.size)
                have NHL := Aside0.mk (HL.out.below hb)
                have NHV := Aside0.mk (Kd.V_below (Kd.V_elderB HV.out ga (Nat.le_of_eq hg.symm)) hb)
                have NHVT := Aside0.mk (Kd.V_below HVT.out hb)
                have NHS1 := Aside0.mk (blk_below HS1.out hb)
                clear HZ HL HV HVT HS1
                have HZ := NHZ
                have HL := NHL
                have HV := NHV
                have HVT := NHVT
                have HS1 := NHS1
                clear NHZ NHL NHV NHVT NHS1
                clear hg hbox hb
                refine hK.out _ _ ((blk_cell HL.out.h 0).trans rfl) (fun _ => ?_)
                clear hK K
                refine norm_ (a' := ?_) ?_ ?_
                rotate_left
                · show Act.put _ (some 9) _ = _
                  simp only [Act.put, List.setIfInBounds_toArray, List.set_cons_zero, List.set_cons_succ, i64_w, i32_w]
                  rfl
                refine one_ (i := 5) (N := some 46) #[true, true, true, true, true, true, false, false, false, false, true, false, false] rfl rfl (one_of rfl (by kernel_rfl)) (by decide) (fun K hK => ?_)
                · refine lit_step ?hg (N := 46) ?hd (cs := #[.slice (some ⟨g1, 0, none⟩) 1 1]) (t := 42) (n := 1) ?hr ?_; (case hd => rfl); (case hg => rfl); (case hr => first | (go_simp; done) | (go_simp; rfl))
                  intro g2 hg q9 hbox hb
                  have HS2 := Aside0.mk hbox
                  have GHS2 : Aside0 (wr.heap.size ≤ g2) := ⟨by rw [hg]; exact HZ.out⟩
                  have NHZ := Aside0.mk (Nat.le_trans HZ.out hb.size)
                  have NHL := Aside0.mk (HL.out.below hb)
                  have NHV := Aside0.mk (Kd.V_below HV.out hb)
                  have NHVT := Aside0.mk (Kd.V_below HVT.out hb)
                  have NHS1 := Aside0.mk (blk_below HS1.out hb)
                  have NHA := Aside0.mk (blk_below HA.out hb)
                  clear HZ HL HV HVT HS1 HA
                  have HZ := NHZ
                  have HL := NHL
                  have HV := NHV
                  have HVT := NHVT
                  have HS1 := NHS1
                  have HA := NHA
                  clear NHZ NHL NHV NHVT NHS1 NHA
                  clear hg hbox hb
                  refine hK.out _ _ ((blk_cell HL.out.h 0).trans rfl) (fun _ => ?_)
                  clear hK K
                  refine norm_ (a' := ?_) ?_ ?_
                  rotate_left
                  · show Act.put _ (some 46) _ = _
                    simp only [Act.put, List.setIfInBounds_toArray, List.set_cons_zero, List.set_cons_succ, i64_w, i32_w]
                    rfl
                  refine one_ (i := 6) (N := some 47) #[true, true, true, true, true, true, true, false, false, false, true, false, false] rfl rfl (one_of rfl (by kernel_rfl)) (by decide) (fun K hK => ?_)
                  · refine goes_ Tryd.func18 (by kernel_rfl) rfl #[.agg #[.slice Ah l.length ch], .agg #[.int .i64 1, .slice At 1 ct], .int .i64 (m : Int), .slice (some ⟨g2, 0, none⟩) 1 1] (by rfl) rfl rfl (by (try simp only [List.map_toArray, List.map_cons, List.map_nil]); first | done | rfl) ?_
                    refine (hall_Admit.calls kk _ _ _ _ 1 _ ct [tinyY] (m : Int) _ _ 1 [[(m : Int)]] l' e0 _ HV.out (Kd.V_reads' HVT.out).2.2 (Kd.V_reads' HVT.out).2.1 (row2_V HS1.out HS2.out) HE.out).mono ?_
                    rintro e q10 ⟨vn, rfl, hvn, hb⟩
                    have HVN := Aside0.mk (Kd.V_mono (ok' := fun k => (k ≠ w.heap.size ∧ k ≠ w.heap.size + 1 ∧ k ≠ w.heap.size + 1 + 1) ∧ k ≠ ga) hvn (fun k hk => by rcases hk with (hk | hk | hk) | hk; exact hk; (subst hk; exact ⟨HFR.out _ GHS1.out, fun e => by have h_ := HS1.out; rw [e] at h_; have := h_.symm.trans HA.out; simp at this⟩); (subst hk; exact ⟨HFR.out _ GHS2.out, fun e => by have h_ := HS2.out; rw [e] at h_; have := h_.symm.trans HA.out; simp at this⟩); exact ⟨HFR.out k (Nat.le_trans (HZ.out) hk), fun e => by have h_ := blk_lt HA.out; omega⟩))
                    clear hvn HV
                    obtain ⟨An, cn, rfl⟩ := Kd.V_slice HVN.out
                    have NHZ := Aside0.mk (Nat.le_trans HZ.out hb.size)
                    have NHL := Aside0.mk (HL.out.below hb)
                    have NHA := Aside0.mk (blk_below HA.out hb)
                    clear HZ HL HA
                    have HZ := NHZ
                    have HL := NHL
                    have HA := NHA
                    clear NHZ NHL NHA
                    clear hb HVT HS1 HS2
                    have HV := HVN
                    clear HVN
                    refine ⟨_, rfl, ?_⟩
                    refine hK.out _ _ ((blk_cell HL.out.h 0).trans rfl) (fun _ => ?_)
                    clear hK K
                    refine norm_ (a' := ?_) ?_ ?_
                    rotate_left
                    · show Act.put _ (some 47) _ = _
                      simp only [Act.put, List.setIfInBounds_toArray, List.set_cons_zero, List.set_cons_succ, i64_w, i32_w]
                      rfl
                    refine pure_ (i := 7) (N := some 40) (v := ?_) (a' := ?_) #[true, true, true, true, true, true, true, true, false, false, true, false, false] rfl rfl (any_of rfl (by kernel_rfl)) (fun _ _ _ h => h) (Or.inl ⟨by rfl, ?_⟩) ?_ ?_
                    rotate_left
                    · intro w'
                      go_simp
                      with_reducible rfl
                    rotate_left
                    · simp only [Act.put, List.setIfInBounds_toArray, List.set_cons_zero, List.set_cons_succ, i64_w, i32_w]
                      rfl
                    refine pure_ (i := 8) (N := some 48) (v := ?_) (a' := ?_) #[true, true, true, true, true, true, true, true, true, false, true, false, false] rfl rfl (any_of rfl (by kernel_rfl)) (fun _ _ _ h => h) (Or.inl ⟨by rfl, ?_⟩) ?_ ?_
                    rotate_left
                    · intro w'
                      go_simp
                      with_reducible rfl
                    rotate_left
                    · simp only [Act.put, List.setIfInBounds_toArray, List.set_cons_zero, List.set_cons_succ, i64_w, i32_w]
                      rfl
                    refine pure_ (i := 9) (N := some 49) (v := ?_) (a' := ?_) #[true, true, true, true, true, true, true, true, true, true, true, false, false] rfl rfl (any_of rfl (by kernel_rfl)) (fun _ _ _ h => h) (Or.inl ⟨by rfl, ?_⟩) ?_ ?_
                    rotate_left
                    · intro w'
                      go_simp
                      with_reducible rfl
                    rotate_left
                    · simp only [Act.put, List.setIfInBounds_toArray, List.set_cons_zero, List.set_cons_succ, i64_w, i32_w]
                      rfl
                    refine norm_ ?_ (hJ (.agg #[.int .i64 1, .slice At 1 ct], .slice (some ⟨g1, 0, none⟩) 1 1, .slice (some ⟨g2, 0, none⟩) 1 1, .slice An l'.length cn, ga) _ ⟨(blk_cell HL.out.h 0).trans rfl, HZ.out, HL.out, HV.out, HA.out, HG.out⟩)
                    simp only [putAll, Act.put, List.setIfInBounds_toArray, List.set_cons_zero, List.set_cons_succ] <;> rfl
            · refine box_step ?hg (N := 9) ?hd (cs := #[.slice none 0 0]) (t := 24) ?hr ?_; (case hd => rfl); (case hg => rfl); (case hr => first | (go_simp; done) | (go_simp; rfl))
              intro ga hg q11 hbox hb
              have HA := Aside0.mk hbox
              have HG : Aside0 (wr.heap.size ≤ ga) := ⟨by rw [hg]; exact HZ.out⟩
              have NHZ := Aside0.mk (Nat.le_trans HZ.out hb.size)
              have NHL := Aside0.mk (HL.out.below hb)
              have NHV := Aside0.mk (Kd.V_below (Kd.V_elderB HV.out ga (Nat.le_of_eq hg.symm)) hb)
              have NHVT := Aside0.mk (Kd.V_below HVT.out hb)
              clear HZ HL HV HVT
              have HZ := NHZ
              have HL := NHL
              have HV := NHV
              have HVT := NHVT
              clear NHZ NHL NHV NHVT
              clear hg hbox hb
              refine hK.out _ _ ((blk_cell HL.out.h 0).trans rfl) (fun _ => ?_)
              clear hK K
              refine norm_ (a' := ?_) ?_ ?_
              rotate_left
              · show Act.put _ (some 9) _ = _
                simp only [Act.put, List.setIfInBounds_toArray, List.set_cons_zero, List.set_cons_succ, i64_w, i32_w]
                rfl
              refine one_ (i := 4) (N := some 45) #[true, true, true, true, true, false, false, false, false, false, true, false, false] rfl rfl (one_of rfl (by kernel_rfl)) (by decide) (fun K hK => ?_)
              · refine lit_step ?hg (N := 45) ?hd (cs := #[.int .i64 (m : Int)]) (t := 3) (n := 1) ?hr ?_; (case hd => rfl); (case hg => rfl); (case hr => first | (go_simp; done) | (go_simp; rfl))
                intro g1 hg q12 hbox hb
                have HS1 := Aside0.mk hbox
                have GHS1 : Aside0 (wr.heap.size ≤ g1) := ⟨by rw [hg]; exact HZ.out⟩
                have NHZ := Aside0.mk (Nat.le_trans HZ.out hb.size)
                have NHL := Aside0.mk (HL.out.below hb)
                have NHV := Aside0.mk (Kd.V_below HV.out hb)
                have NHVT := Aside0.mk (Kd.V_below HVT.out hb)
                have NHA := Aside0.mk (blk_below HA.out hb)
                clear HZ HL HV HVT HA
                have HZ := NHZ
                have HL := NHL
                have HV := NHV
                have HVT := NHVT
                have HA := NHA
                clear NHZ NHL NHV NHVT NHA
                clear hg hbox hb
                refine hK.out _ _ ((blk_cell HL.out.h 0).trans rfl) (fun _ => ?_)
                clear hK K
                refine norm_ (a' := ?_) ?_ ?_
                rotate_left
                · show Act.put _ (some 45) _ = _
                  simp only [Act.put, List.setIfInBounds_toArray, List.set_cons_zero, List.set_cons_succ, i64_w, i32_w]
                  rfl
                refine one_ (i := 5) (N := some 46) #[true, true, true, true, true, true, false, false, false, false, true, false, false] rfl rfl (one_of rfl (by kernel_rfl)) (by decide) (fun K hK => ?_)
                · refine lit_step ?hg (N := 46) ?hd (cs := #[.slice (some ⟨g1, 0, none⟩) 1 1]) (t := 42) (n := 1) ?hr ?_; (case hd => rfl); (case hg => rfl); (case hr => first | (go_simp; done) | (go_simp; rfl))
                  intro g2 hg q13 hbox hb
                  have HS2 := Aside0.mk hbox
                  have GHS2 : Aside0 (wr.heap.size ≤ g2) := ⟨by rw [hg]; exact HZ.out⟩
                  have NHZ := Aside0.mk (Nat.le_trans HZ.out hb.size)
                  have NHL := Aside0.mk (HL.out.below hb)
                  have NHV := Aside0.mk (Kd.V_below HV.out hb)
                  have NHVT := Aside0.mk (Kd.V_below HVT.out hb)
                  have NHA := Aside0.mk (blk_below HA.out hb)
                  have NHS1 := Aside0.mk (blk_below HS1.out hb)
                  clear HZ HL HV HVT HA HS1
                  have HZ := NHZ
                  have HL := NHL
                  have HV := NHV
                  have HVT := NHVT
                  have HA := NHA
                  have HS1 := NHS1
                  clear NHZ NHL NHV NHVT NHA NHS1
                  clear hg hbox hb
                  refine hK.out _ _ ((blk_cell HL.out.h 0).trans rfl) (fun _ => ?_)
                  clear hK K
                  refine norm_ (a' := ?_) ?_ ?_
                  rotate_left
                  · show Act.put _ (some 46) _ = _
                    simp only [Act.put, List.setIfInBounds_toArray, List.set_cons_zero, List.set_cons_succ, i64_w, i32_w]
                    rfl
                  refine one_ (i := 6) (N := some 47) #[true, true, true, true, true, true, true, false, false, false, true, false, false] rfl rfl (one_of rfl (by kernel_rfl)) (by decide) (fun K hK => ?_)
                  · refine goes_ Tryd.func18 (by kernel_rfl) rfl #[.agg #[.slice Ah l.length ch], .agg #[.int .i64 1, .slice At 1 ct], .int .i64 (m : Int), .slice (some ⟨g2, 0, none⟩) 1 1] (by rfl) rfl rfl (by (try simp only [List.map_toArray, List.map_cons, List.map_nil]); first | done | rfl) ?_
                    refine (hall_Admit.calls kk _ _ _ _ 1 _ ct [tinyY] (m : Int) _ _ 1 [[(m : Int)]] l' e0 _ HV.out (Kd.V_reads' HVT.out).2.2 (Kd.V_reads' HVT.out).2.1 (row2_V HS1.out HS2.out) HE.out).mono ?_
                    rintro e q14 ⟨vn, rfl, hvn, hb⟩
                    have HVN := Aside0.mk (Kd.V_mono (ok' := fun k => (k ≠ w.heap.size ∧ k ≠ w.heap.size + 1 ∧ k ≠ w.heap.size + 1 + 1) ∧ k ≠ ga) hvn (fun k hk => by rcases hk with (hk | hk | hk) | hk; exact hk; (subst hk; exact ⟨HFR.out _ GHS1.out, fun e => by have h_ := HS1.out; rw [e] at h_; have := h_.symm.trans HA.out; simp at this⟩); (subst hk; exact ⟨HFR.out _ GHS2.out, fun e => by have h_ := HS2.out; rw [e] at h_; have := h_.symm.trans HA.out; simp at this⟩); exact ⟨HFR.out k (Nat.le_trans (HZ.out) hk), fun e => by have h_ := blk_lt HA.out; omega⟩))
                    clear hvn HV
                    obtain ⟨An, cn, rfl⟩ := Kd.V_slice HVN.out
                    have NHZ := Aside0.mk (Nat.le_trans HZ.out hb.size)
                    have NHL := Aside0.mk (HL.out.below hb)
                    have NHA := Aside0.mk (blk_below HA.out hb)
                    clear HZ HL HA
                    have HZ := NHZ
                    have HL := NHL
                    have HA := NHA
                    clear NHZ NHL NHA
                    clear hb HVT HS1 HS2
                    have HV := HVN
                    clear HVN
                    refine ⟨_, rfl, ?_⟩
                    refine hK.out _ _ ((blk_cell HL.out.h 0).trans rfl) (fun _ => ?_)
                    clear hK K
                    refine norm_ (a' := ?_) ?_ ?_
                    rotate_left
                    · show Act.put _ (some 47) _ = _
                      simp only [Act.put, List.setIfInBounds_toArray, List.set_cons_zero, List.set_cons_succ, i64_w, i32_w]
                      rfl
                    refine pure_ (i := 7) (N := some 40) (v := ?_) (a' := ?_) #[true, true, true, true, true, true, true, true, false, false, true, false, false] rfl rfl (any_of rfl (by kernel_rfl)) (fun _ _ _ h => h) (Or.inl ⟨by rfl, ?_⟩) ?_ ?_
                    rotate_left
                    · intro w'
                      go_simp
                      with_reducible rfl
                    rotate_left
                    · simp only [Act.put, List.setIfInBounds_toArray, List.set_cons_zero, List.set_cons_succ, i64_w, i32_w]
                      rfl
                    refine pure_ (i := 8) (N := some 48) (v := ?_) (a' := ?_) #[true, true, true, true, true, true, true, true, true, false, true, false, false] rfl rfl (any_of rfl (by kernel_rfl)) (fun _ _ _ h => h) (Or.inl ⟨by rfl, ?_⟩) ?_ ?_
                    rotate_left
                    · intro w'
                      go_simp
                      with_reducible rfl
                    rotate_left
                    · simp only [Act.put, List.setIfInBounds_toArray, List.set_cons_zero, List.set_cons_succ, i64_w, i32_w]
                      rfl
                    refine pure_ (i := 9) (N := some 49) (v := ?_) (a' := ?_) #[true, true, true, true, true, true, true, true, true, true, true, false, false] rfl rfl (any_of rfl (by kernel_rfl)) (fun _ _ _ h => h) (Or.inl ⟨by rfl, ?_⟩) ?_ ?_
                    rotate_left
                    · intro w'
                      go_simp
                      with_reducible rfl
                    rotate_left
                    · simp only [Act.put, List.setIfInBounds_toArray, List.set_cons_zero, List.set_cons_succ, i64_w, i32_w]
                      rfl
                    refine norm_ ?_ (hJ (.agg #[.int .i64 1, .slice At 1 ct], .slice (some ⟨g1, 0, none⟩) 1 1, .slice (some ⟨g2, 0, none⟩) 1 1, .slice An l'.length cn, ga) _ ⟨(blk_cell HL.out.h 0).trans rfl, HZ.out, HL.out, HV.out, HA.out, HG.out⟩)
                    simp only [putAll, Act.put, List.setIfInBounds_toArray, List.set_cons_zero, List.set_cons_succ] <;> rfl
          · refine lit_step ?hg (N := 45) ?hd (cs := #[.int .i64 (m : Int)]) (t := 3) (n := 1) ?hr ?_; (case hd => rfl); (case hg => rfl); (case hr => first | (go_simp; done) | (go_simp; rfl))
            intro g1 hg q15 hbox hb
            have HS1 := Aside0.mk hbox
            have GHS1 : Aside0 (wr.heap.size ≤ g1) := ⟨by rw [hg]; exact HZ.out⟩
            have NHZ := Aside0.mk (Nat.le_trans HZ.out hb.size)
            have NHL := Aside0.mk (HL.out.below hb)
            have NHV := Aside0.mk (Kd.V_below HV.out hb)
            clear HZ HL HV
            have HZ := NHZ
            have HL := NHL
            have HV := NHV
            clear NHZ NHL NHV
            clear hg hbox hb
            refine hK.out _ _ ((blk_cell HL.out.h 0).trans rfl) (fun _ => ?_)
            clear hK K
            refine norm_ (a' := ?_) ?_ ?_
            rotate_left
            · show Act.put _ (some 45) _ = _
              simp only [Act.put, List.setIfInBounds_toArray, List.set_cons_zero, List.set_cons_succ, i64_w, i32_w]
              rfl
            refine three_ (i := 1) (j := 5) (k := 10) (Ni := some 42) (Nj := some 46) (Nk := some 9) #[true, true, true, true, true, false, false, false, false, false, false, false, false] #[true, false, true, true, true, true, false, false, false, false, false, false, false] #[true, false, true, true, true, false, false, false, false, false, true, false, false] rfl rfl rfl rfl rfl rfl (three_of rfl (by kernel_rfl)) (by decide) (by decide) (by decide) (fun K hK => ?_) (fun K hK => ?_) (fun K hK => ?_)
            · refine goes_ Tryd.func19 (by kernel_rfl) rfl #[] (by rfl) rfl rfl (by (try simp only [List.map_toArray, List.map_cons, List.map_nil]); first | done | rfl) ?_
              refine (switchboardlaw24_tiny.calls 1 [tinyY] _ rfl).mono ?_
              rintro e q16 ⟨vt, rfl, hvt, hb⟩
              obtain ⟨At, ct, rfl⟩ := Kd.V_slice hvt
              have HVT := Aside0.mk hvt
              clear hvt
              have NHZ := Aside0.mk (Nat.le_trans HZ.out hb.size)
              have NHL := Aside0.mk (HL.out.below hb)
              have NHV := Aside0.mk (Kd.V_below HV.out hb)
              have NHS1 := Aside0.mk (blk_below HS1.out hb)
              clear HZ HL HV HS1
              have HZ := NHZ
              have HL := NHL
              have HV := NHV
              have HS1 := NHS1
              clear NHZ NHL NHV NHS1
              clear hb
              refine ⟨_, rfl, ?_⟩
              refine hK.out _ _ ((blk_cell HL.out.h 0).trans rfl) (fun _ => ?_)
              clear hK K
              refine norm_ (a' := ?_) ?_ ?_
              rotate_left
              · show Act.put _ (some 42) _ = _
                simp only [Act.put, List.setIfInBounds_toArray, List.set_cons_zero, List.set_cons_succ, i64_w, i32_w]
                rfl
              refine two_ (i := 5) (j := 10) (Ni := some 46) (Nj := some 9) #[true, true, true, true, true, true, false, false, false, false, false, false, false] #[true, true, true, true, true, false, false, false, false, false, true, false, false] rfl rfl rfl rfl (two_of rfl (by kernel_rfl)) (by decide) (by decide) (fun K hK => ?_) (fun K hK => ?_)
              · refine lit_step ?hg (N := 46) ?hd (cs := #[.slice (some ⟨g1, 0, none⟩) 1 1]) (t := 42) (n := 1) ?hr ?_; (case hd => rfl); (case hg => rfl); (case hr => first | (go_simp; done) | (go_simp; rfl))
                intro g2 hg q17 hbox hb
                have HS2 := Aside0.mk hbox
                have GHS2 : Aside0 (wr.heap.size ≤ g2) := ⟨by rw [hg]; exact HZ.out⟩
                have NHZ := Aside0.mk (Nat.le_trans HZ.out hb.size)
                have NHL := Aside0.mk (HL.out.below hb)
                have NHV := Aside0.mk (Kd.V_below HV.out hb)
                have NHS1 := Aside0.mk (blk_below HS1.out hb)
                have NHVT := Aside0.mk (Kd.V_below HVT.out hb)
                clear HZ HL HV HS1 HVT
                have HZ := NHZ
                have HL := NHL
                have HV := NHV
                have HS1 := NHS1
                have HVT := NHVT
                clear NHZ NHL NHV NHS1 NHVT
                clear hg hbox hb
                refine hK.out _ _ ((blk_cell HL.out.h 0).trans rfl) (fun _ => ?_)
                clear hK K
                refine norm_ (a' := ?_) ?_ ?_
                rotate_left
                · show Act.put _ (some 46) _ = _
                  simp only [Act.put, List.setIfInBounds_toArray, List.set_cons_zero, List.set_cons_succ, i64_w, i32_w]
                  rfl
                refine two_ (i := 6) (j := 10) (Ni := some 47) (Nj := some 9) #[true, true, true, true, true, true, true, false, false, false, false, false, false] #[true, true, true, true, true, true, false, false, false, false, true, false, false] rfl rfl rfl rfl (two_of rfl (by kernel_rfl)) (by decide) (by decide) (fun K hK => ?_) (fun K hK => ?_)
                · refine goes_ Tryd.func18 (by kernel_rfl) rfl #[.agg #[.slice Ah l.length ch], .agg #[.int .i64 1, .slice At 1 ct], .int .i64 (m : Int), .slice (some ⟨g2, 0, none⟩) 1 1] (by rfl) rfl rfl (by (try simp only [List.map_toArray, List.map_cons, List.map_nil]); first | done | rfl) ?_
                  refine (hall_Admit.calls kk _ _ _ _ 1 _ ct [tinyY] (m : Int) _ _ 1 [[(m : Int)]] l' e0 _ HV.out (Kd.V_reads' HVT.out).2.2 (Kd.V_reads' HVT.out).2.1 (row2_V HS1.out HS2.out) HE.out).mono ?_
                  rintro e q18 ⟨vn, rfl, hvn, hb⟩
                  have HVN := Aside0.mk (Kd.V_mono (ok' := fun k => k ≠ w.heap.size ∧ k ≠ w.heap.size + 1 ∧ k ≠ w.heap.size + 1 + 1) hvn (fun k hk => by rcases hk with (hk | hk | hk) | hk; exact hk; (subst hk; exact HFR.out _ GHS1.out); (subst hk; exact HFR.out _ GHS2.out); exact HFR.out k (Nat.le_trans (HZ.out) hk)))
                  clear hvn HV
                  obtain ⟨An, cn, rfl⟩ := Kd.V_slice HVN.out
                  have NHZ := Aside0.mk (Nat.le_trans HZ.out hb.size)
                  have NHL := Aside0.mk (HL.out.below hb)
                  clear HZ HL
                  have HZ := NHZ
                  have HL := NHL
                  clear NHZ NHL
                  clear hb HVT HS1 HS2
                  have HV := HVN
                  clear HVN
                  refine ⟨_, rfl, ?_⟩
                  refine hK.out _ _ ((blk_cell HL.out.h 0).trans rfl) (fun _ => ?_)
                  clear hK K
                  refine norm_ (a' := ?_) ?_ ?_
                  rotate_left
                  · show Act.put _ (some 47) _ = _
                    simp only [Act.put, List.setIfInBounds_toArray, List.set_cons_zero, List.set_cons_succ, i64_w, i32_w]
                    rfl
                  refine pure_ (i := 7) (N := some 40) (v := ?_) (a' := ?_) #[true, true, true, true, true, true, true, true, false, false, false, false, false] rfl rfl (any_of rfl (by kernel_rfl)) (fun _ _ _ h => h) (Or.inl ⟨by rfl, ?_⟩) ?_ ?_
                  rotate_left
                  · intro w'
                    go_simp
                    with_reducible rfl
                  rotate_left
                  · simp only [Act.put, List.setIfInBounds_toArray, List.set_cons_zero, List.set_cons_succ, i64_w, i32_w]
                    rfl
                  refine pure_ (i := 8) (N := some 48) (v := ?_) (a' := ?_) #[true, true, true, true, true, true, true, true, true, false, false, false, false] rfl rfl (any_of rfl (by kernel_rfl)) (fun _ _ _ h => h) (Or.inl ⟨by rfl, ?_⟩) ?_ ?_
                  rotate_left
                  · intro w'
                    go_simp
                    with_reducible rfl
                  rotate_left
                  · simp only [Act.put, List.setIfInBounds_toArray, List.set_cons_zero, List.set_cons_succ, i64_w, i32_w]
                    rfl
                  refine pure_ (i := 9) (N := some 49) (v := ?_) (a' := ?_) #[true, true, true, true, true, true, true, true, true, true, false, false, false] rfl rfl (any_of rfl (by kernel_rfl)) (fun _ _ _ h => h) (Or.inl ⟨by rfl, ?_⟩) ?_ ?_
                  rotate_left
                  · intro w'
                    go_simp
                    with_reducible rfl
                  rotate_left
                  · simp only [Act.put, List.setIfInBounds_toArray, List.set_cons_zero, List.set_cons_succ, i64_w, i32_w]
                    rfl
                  refine one_ (i := 10) (N := some 9) #[true, true, true, true, true, true, true, true, true, true, true, false, false] rfl rfl (one_of rfl (by kernel_rfl)) (by decide) (fun K hK => ?_)
                  · refine box_step ?hg (N := 9) ?hd (cs := #[.slice none 0 0]) (t := 24) ?hr ?_; (case hd => rfl); (case hg => rfl); (case hr => first | (go_simp; done) | (go_simp; rfl))
                    intro ga hg q19 hbox hb
                    have HA := Aside0.mk hbox
                    have HG : Aside0 (wr.heap.size ≤ ga) := ⟨by rw [hg]; exact HZ.out⟩
                    have NHZ := Aside0.mk (Nat.le_trans HZ.out hb.size)
                    have NHL := Aside0.mk (HL.out.below hb)
                    have NHV := Aside0.mk (Kd.V_below (Kd.V_elderB HV.out ga (Nat.le_of_eq hg.symm)) hb)
                    clear HZ HL HV
                    have HZ := NHZ
                    have HL := NHL
                    have HV := NHV
                    clear NHZ NHL NHV
                    clear hg hbox hb
                    refine hK.out _ _ ((blk_cell HL.out.h 0).trans rfl) (fun _ => ?_)
                    clear hK K
                    refine norm_ (a' := ?_) ?_ ?_
                    rotate_left
                    · show Act.put _ (some 9) _ = _
                      simp only [Act.put, List.setIfInBounds_toArray, List.set_cons_zero, List.set_cons_succ, i64_w, i32_w]
                      rfl
                    refine norm_ ?_ (hJ (.agg #[.int .i64 1, .slice At 1 ct], .slice (some ⟨g1, 0, none⟩) 1 1, .slice (some ⟨g2, 0, none⟩) 1 1, .slice An l'.length cn, ga) _ ⟨(blk_cell HL.out.h 0).trans rfl, HZ.out, HL.out, HV.out, HA.out, HG.out⟩)
                    simp only [putAll, Act.put, List.setIfInBounds_toArray, List.set_cons_zero, List.set_cons_succ] <;> rfl
                · refine box_step ?hg (N := 9) ?hd (cs := #[.slice none 0 0]) (t := 24) ?hr ?_; (case hd => rfl); (case hg => rfl); (case hr => first | (go_simp; done) | (go_simp; rfl))
                  intro ga hg q20 hbox hb
                  have HA := Aside0.mk hbox
                  have HG : Aside0 (wr.heap.size ≤ ga) := ⟨by rw [hg]; exact HZ.out⟩
                  have NHZ := Aside0.mk (Nat.le_trans HZ.out hb.size)
                  have NHL := Aside0.mk (HL.out.below hb)
                  have NHV := Aside0.mk (Kd.V_below (Kd.V_elderB HV.out ga (Nat.le_of_eq hg.symm)) hb)
                  have NHS1 := Aside0.mk (blk_below HS1.out hb)
                  have NHVT := Aside0.mk (Kd.V_below HVT.out hb)
                  have NHS2 := Aside0.mk (blk_below HS2.out hb)
                  clear HZ HL HV HS1 HVT HS2
                  have HZ := NHZ
                  have HL := NHL
                  have HV := NHV
                  have HS1 := NHS1
                  have HVT := NHVT
                  have HS2 := NHS2
                  clear NHZ NHL NHV NHS1 NHVT NHS2
                  clear hg hbox hb
                  refine hK.out _ _ ((blk_cell HL.out.h 0).trans rfl) (fun _ => ?_)
                  clear hK K
                  refine norm_ (a' := ?_) ?_ ?_
                  rotate_left
                  · show Act.put _ (some 9) _ = _
                    simp only [Act.put, List.setIfInBounds_toArray, List.set_cons_zero, List.set_cons_succ, i64_w, i32_w]
                    rfl
                  refine one_ (i := 6) (N := some 47) #[true, true, true, true, true, true, true, false, false, false, true, false, false] rfl rfl (one_of rfl (by kernel_rfl)) (by decide) (fun K hK => ?_)
                  · refine goes_ Tryd.func18 (by kernel_rfl) rfl #[.agg #[.slice Ah l.length ch], .agg #[.int .i64 1, .slice At 1 ct], .int .i64 (m : Int), .slice (some ⟨g2, 0, none⟩) 1 1] (by rfl) rfl rfl (by (try simp only [List.map_toArray, List.map_cons, List.map_nil]); first | done | rfl) ?_
                    refine (hall_Admit.calls kk _ _ _ _ 1 _ ct [tinyY] (m : Int) _ _ 1 [[(m : Int)]] l' e0 _ HV.out (Kd.V_reads' HVT.out).2.2 (Kd.V_reads' HVT.out).2.1 (row2_V HS1.out HS2.out) HE.out).mono ?_
                    rintro e q21 ⟨vn, rfl, hvn, hb⟩
                    have HVN := Aside0.mk (Kd.V_mono (ok' := fun k => (k ≠ w.heap.size ∧ k ≠ w.heap.size + 1 ∧ k ≠ w.heap.size + 1 + 1) ∧ k ≠ ga) hvn (fun k hk => by rcases hk with (hk | hk | hk) | hk; exact hk; (subst hk; exact ⟨HFR.out _ GHS1.out, fun e => by have h_ := HS1.out; rw [e] at h_; have := h_.symm.trans HA.out; simp at this⟩); (subst hk; exact ⟨HFR.out _ GHS2.out, fun e => by have h_ := HS2.out; rw [e] at h_; have := h_.symm.trans HA.out; simp at this⟩); exact ⟨HFR.out k (Nat.le_trans (HZ.out) hk), fun e => by have h_ := blk_lt HA.out; omega⟩))
                    clear hvn HV
                    obtain ⟨An, cn, rfl⟩ := Kd.V_slice HVN.out
                    have NHZ := Aside0.mk (Nat.le_trans HZ.out hb.size)
                    have NHL := Aside0.mk (HL.out.below hb)
                    have NHA := Aside0.mk (blk_below HA.out hb)
                    clear HZ HL HA
                    have HZ := NHZ
                    have HL := NHL
                    have HA := NHA
                    clear NHZ NHL NHA
                    clear hb HVT HS1 HS2
                    have HV := HVN
                    clear HVN
                    refine ⟨_, rfl, ?_⟩
                    refine hK.out _ _ ((blk_cell HL.out.h 0).trans rfl) (fun _ => ?_)
                    clear hK K
                    refine norm_ (a' := ?_) ?_ ?_
                    rotate_left
                    · show Act.put _ (some 47) _ = _
                      simp only [Act.put, List.setIfInBounds_toArray, List.set_cons_zero, List.set_cons_succ, i64_w, i32_w]
                      rfl
                    refine pure_ (i := 7) (N := some 40) (v := ?_) (a' := ?_) #[true, true, true, true, true, true, true, true, false, false, true, false, false] rfl rfl (any_of rfl (by kernel_rfl)) (fun _ _ _ h => h) (Or.inl ⟨by rfl, ?_⟩) ?_ ?_
                    rotate_left
                    · intro w'
                      go_simp
                      with_reducible rfl
                    rotate_left
                    · simp only [Act.put, List.setIfInBounds_toArray, List.set_cons_zero, List.set_cons_succ, i64_w, i32_w]
                      rfl
                    refine pure_ (i := 8) (N := some 48) (v := ?_) (a' := ?_) #[true, true, true, true, true, true, true, true, true, false, true, false, false] rfl rfl (any_of rfl (by kernel_rfl)) (fun _ _ _ h => h) (Or.inl ⟨by rfl, ?_⟩) ?_ ?_
                    rotate_left
                    · intro w'
                      go_simp
                      with_reducible rfl
                    rotate_left
                    · simp only [Act.put, List.setIfInBounds_toArray, List.set_cons_zero, List.set_cons_succ, i64_w, i32_w]
                      rfl
                    refine pure_ (i := 9) (N := some 49) (v := ?_) (a' := ?_) #[true, true, true, true, true, true, true, true, true, true, true, false, false] rfl rfl (any_of rfl (by kernel_rfl)) (fun _ _ _ h => h) (Or.inl ⟨by rfl, ?_⟩) ?_ ?_
                    rotate_left
                    · intro w'
                      go_simp
                      with_reducible rfl
                    rotate_left
                    · simp only [Act.put, List.setIfInBounds_toArray, List.set_cons_zero, List.set_cons_succ, i64_w, i32_w]
                      rfl
                    refine norm_ ?_ (hJ (.agg #[.int .i64 1, .slice At 1 ct], .slice (some ⟨g1, 0, none⟩) 1 1, .slice (some ⟨g2, 0, none⟩) 1 1, .slice An l'.length cn, ga) _ ⟨(blk_cell HL.out.h 0).trans rfl, HZ.out, HL.out, HV.out, HA.out, HG.out⟩)
                    simp only [putAll, Act.put, List.setIfInBounds_toArray, List.set_cons_zero, List.set_cons_succ] <;> rfl
              · refine box_step ?hg (N := 9) ?hd (cs := #[.slice none 0 0]) (t := 24) ?hr ?_; (case hd => rfl); (case hg => rfl); (case hr => first | (go_simp; done) | (go_simp; rfl))
                intro ga hg q22 hbox hb
                have HA := Aside0.mk hbox
                have HG : Aside0 (wr.heap.size ≤ ga) := ⟨by rw [hg]; exact HZ.out⟩
                have NHZ := Aside0.mk (Nat.le_trans HZ.out hb.size)
                have NHL := Aside0.mk (HL.out.below hb)
                have NHV := Aside0.mk (Kd.V_below (Kd.V_elderB HV.out ga (Nat.le_of_eq hg.symm)) hb)
                have NHS1 := Aside0.mk (blk_below HS1.out hb)
                have NHVT := Aside0.mk (Kd.V_below HVT.out hb)
                clear HZ HL HV HS1 HVT
                have HZ := NHZ
                have HL := NHL
                have HV := NHV
                have HS1 := NHS1
                have HVT := NHVT
                clear NHZ NHL NHV NHS1 NHVT
                clear hg hbox hb
                refine hK.out _ _ ((blk_cell HL.out.h 0).trans rfl) (fun _ => ?_)
                clear hK K
                refine norm_ (a' := ?_) ?_ ?_
                rotate_left
                · show Act.put _ (some 9) _ = _
                  simp only [Act.put, List.setIfInBounds_toArray, List.set_cons_zero, List.set_cons_succ, i64_w, i32_w]
                  rfl
                refine one_ (i := 5) (N := some 46) #[true, true, true, true, true, true, false, false, false, false, true, false, false] rfl rfl (one_of rfl (by kernel_rfl)) (by decide) (fun K hK => ?_)
                · refine lit_step ?hg (N := 46) ?hd (cs := #[.slice (some ⟨g1, 0, none⟩) 1 1]) (t := 42) (n := 1) ?hr ?_; (case hd => rfl); (case hg => rfl); (case hr => first | (go_simp; done) | (go_simp; rfl))
                  intro g2 hg q23 hbox hb
                  have HS2 := Aside0.mk hbox
                  have GHS2 : Aside0 (wr.heap.size ≤ g2) := ⟨by rw [hg]; exact HZ.out⟩
                  have NHZ := Aside0.mk (Nat.le_trans HZ.out hb.size)
                  have NHL := Aside0.mk (HL.out.below hb)
                  have NHV := Aside0.mk (Kd.V_below HV.out hb)
                  have NHS1 := Aside0.mk (blk_below HS1.out hb)
                  have NHVT := Aside0.mk (Kd.V_below HVT.out hb)
                  have NHA := Aside0.mk (blk_below HA.out hb)
                  clear HZ HL HV HS1 HVT HA
                  have HZ := NHZ
                  have HL := NHL
                  have HV := NHV
                  have HS1 := NHS1
                  have HVT := NHVT
                  have HA := NHA
                  clear NHZ NHL NHV NHS1 NHVT NHA
                  clear hg hbox hb
                  refine hK.out _ _ ((blk_cell HL.out.h 0).trans rfl) (fun _ => ?_)
                  clear hK K
                  refine norm_ (a' := ?_) ?_ ?_
                  rotate_left
                  · show Act.put _ (some 46) _ = _
                    simp only [Act.put, List.setIfInBounds_toArray, List.set_cons_zero, List.set_cons_succ, i64_w, i32_w]
                    rfl
                  refine one_ (i := 6) (N := some 47) #[true, true, true, true, true, true, true, false, false, false, true, false, false] rfl rfl (one_of rfl (by kernel_rfl)) (by decide) (fun K hK => ?_)
                  · refine goes_ Tryd.func18 (by kernel_rfl) rfl #[.agg #[.slice Ah l.length ch], .agg #[.int .i64 1, .slice At 1 ct], .int .i64 (m : Int), .slice (some ⟨g2, 0, none⟩) 1 1] (by rfl) rfl rfl (by (try simp only [List.map_toArray, List.map_cons, List.map_nil]); first | done | rfl) ?_
                    refine (hall_Admit.calls kk _ _ _ _ 1 _ ct [tinyY] (m : Int) _ _ 1 [[(m : Int)]] l' e0 _ HV.out (Kd.V_reads' HVT.out).2.2 (Kd.V_reads' HVT.out).2.1 (row2_V HS1.out HS2.out) HE.out).mono ?_
                    rintro e q24 ⟨vn, rfl, hvn, hb⟩
                    have HVN := Aside0.mk (Kd.V_mono (ok' := fun k => (k ≠ w.heap.size ∧ k ≠ w.heap.size + 1 ∧ k ≠ w.heap.size + 1 + 1) ∧ k ≠ ga) hvn (fun k hk => by rcases hk with (hk | hk | hk) | hk; exact hk; (subst hk; exact ⟨HFR.out _ GHS1.out, fun e => by have h_ := HS1.out; rw [e] at h_; have := h_.symm.trans HA.out; simp at this⟩); (subst hk; exact ⟨HFR.out _ GHS2.out, fun e => by have h_ := HS2.out; rw [e] at h_; have := h_.symm.trans HA.out; simp at this⟩); exact ⟨HFR.out k (Nat.le_trans (HZ.out) hk), fun e => by have h_ := blk_lt HA.out; omega⟩))
                    clear hvn HV
                    obtain ⟨An, cn, rfl⟩ := Kd.V_slice HVN.out
                    have NHZ := Aside0.mk (Nat.le_trans HZ.out hb.size)
                    have NHL := Aside0.mk (HL.out.below hb)
                    have NHA := Aside0.mk (blk_below HA.out hb)
                    clear HZ HL HA
                    have HZ := NHZ
                    have HL := NHL
                    have HA := NHA
                    clear NHZ NHL NHA
                    clear hb HVT HS1 HS2
                    have HV := HVN
                    clear HVN
                    refine ⟨_, rfl, ?_⟩
                    refine hK.out _ _ ((blk_cell HL.out.h 0).trans rfl) (fun _ => ?_)
                    clear hK K
                    refine norm_ (a' := ?_) ?_ ?_
                    rotate_left
                    · show Act.put _ (some 47) _ = _
                      simp only [Act.put, List.setIfInBounds_toArray, List.set_cons_zero, List.set_cons_succ, i64_w, i32_w]
                      rfl
                    refine pure_ (i := 7) (N := some 40) (v := ?_) (a' := ?_) #[true, true, true, true, true, true, true, true, false, false, true, false, false] rfl rfl (any_of rfl (by kernel_rfl)) (fun _ _ _ h => h) (Or.inl ⟨by rfl, ?_⟩) ?_ ?_
                    rotate_left
                    · intro w'
                      go_simp
                      with_reducible rfl
                    rotate_left
                    · simp only [Act.put, List.setIfInBounds_toArray, List.set_cons_zero, List.set_cons_succ, i64_w, i32_w]
                      rfl
                    refine pure_ (i := 8) (N := some 48) (v := ?_) (a' := ?_) #[true, true, true, true, true, true, true, true, true, false, true, false, false] rfl rfl (any_of rfl (by kernel_rfl)) (fun _ _ _ h => h) (Or.inl ⟨by rfl, ?_⟩) ?_ ?_
                    rotate_left
                    · intro w'
                      go_simp
                      with_reducible rfl
                    rotate_left
                    · simp only [Act.put, List.setIfInBounds_toArray, List.set_cons_zero, List.set_cons_succ, i64_w, i32_w]
                      rfl
                    refine pure_ (i := 9) (N := some 49) (v := ?_) (a' := ?_) #[true, true, true, true, true, true, true, true, true, true, true, false, false] rfl rfl (any_of rfl (by kernel_rfl)) (fun _ _ _ h => h) (Or.inl ⟨by rfl, ?_⟩) ?_ ?_
                    rotate_left
                    · intro w'
                      go_simp
                      with_reducible rfl
                    rotate_left
                    · simp only [Act.put, List.setIfInBounds_toArray, List.set_cons_zero, List.set_cons_succ, i64_w, i32_w]
                      rfl
                    refine norm_ ?_ (hJ (.agg #[.int .i64 1, .slice At 1 ct], .slice (some ⟨g1, 0, none⟩) 1 1, .slice (some ⟨g2, 0, none⟩) 1 1, .slice An l'.length cn, ga) _ ⟨(blk_cell HL.out.h 0).trans rfl, HZ.out, HL.out, HV.out, HA.out, HG.out⟩)
                    simp only [putAll, Act.put, List.setIfInBounds_toArray, List.set_cons_zero, List.set_cons_succ] <;> rfl
            · refine lit_step ?hg (N := 46) ?hd (cs := #[.slice (some ⟨g1, 0, none⟩) 1 1]) (t := 42) (n := 1) ?hr ?_; (case hd => rfl); (case hg => rfl); (case hr => first | (go_simp; done) | (go_simp; rfl))
              intro g2 hg q25 hbox hb
              have HS2 := Aside0.mk hbox
              have GHS2 : Aside0 (wr.heap.size ≤ g2) := ⟨by rw [hg]; exact HZ.out⟩
              have NHZ := Aside0.mk (Nat.le_trans HZ.out hb.size)
              have NHL := Aside0.mk (HL.out.below hb)
              have NHV := Aside0.mk (Kd.V_below HV.out hb)
              have NHS1 := Aside0.mk (blk_below HS1.out hb)
              clear HZ HL HV HS1
              have HZ := NHZ
              have HL := NHL
              have HV := NHV
              have HS1 := NHS1
              clear NHZ NHL NHV NHS1
              clear hg hbox hb
              refine hK.out _ _ ((blk_cell HL.out.h 0).trans rfl) (fun _ => ?_)
              clear hK K
              refine norm_ (a' := ?_) ?_ ?_
              rotate_left
              · show Act.put _ (some 46) _ = _
                simp only [Act.put, List.setIfInBounds_toArray, List.set_cons_zero, List.set_cons_succ, i64_w, i32_w]
                rfl
              refine two_ (i := 1) (j := 10) (Ni := some 42) (Nj := some 9) #[true, true, true, true, true, true, false, false, false, false, false, false, false] #[true, false, true, true, true, true, false, false, false, false, true, false, false] rfl rfl rfl rfl (two_of rfl (by kernel_rfl)) (by decide) (by decide) (fun K hK => ?_) (fun K hK => ?_)
              · refine goes_ Tryd.func19 (by kernel_rfl) rfl #[] (by rfl) rfl rfl (by (try simp only [List.map_toArray, List.map_cons, List.map_nil]); first | done | rfl) ?_
                refine (switchboardlaw24_tiny.calls 1 [tinyY] _ rfl).mono ?_
                rintro e q26 ⟨vt, rfl, hvt, hb⟩
                obtain ⟨At, ct, rfl⟩ := Kd.V_slice hvt
                have HVT := Aside0.mk hvt
                clear hvt
                have NHZ := Aside0.mk (Nat.le_trans HZ.out hb.size)
                have NHL := Aside0.mk (HL.out.below hb)
                have NHV := Aside0.mk (Kd.V_below HV.out hb)
                have NHS1 := Aside0.mk (blk_below HS1.out hb)
                have NHS2 := Aside0.mk (blk_below HS2.out hb)
                clear HZ HL HV HS1 HS2
                have HZ := NHZ
                have HL := NHL
                have HV := NHV
                have HS1 := NHS1
                have HS2 := NHS2
                clear NHZ NHL NHV NHS1 NHS2
                clear hb
                refine ⟨_, rfl, ?_⟩
                refine hK.out _ _ ((blk_cell HL.out.h 0).trans rfl) (fun _ => ?_)
                clear hK K
                refine norm_ (a' := ?_) ?_ ?_
                rotate_left
                · show Act.put _ (some 42) _ = _
                  simp only [Act.put, List.setIfInBounds_toArray, List.set_cons_zero, List.set_cons_succ, i64_w, i32_w]
                  rfl
                refine two_ (i := 6) (j := 10) (Ni := some 47) (Nj := some 9) #[true, true, true, true, true, true, true, false, false, false, false, false, false] #[true, true, true, true, true, true, false, false, false, false, true, false, false] rfl rfl rfl rfl (two_of rfl (by kernel_rfl)) (by decide) (by decide) (fun K hK => ?_) (fun K hK => ?_)
                · refine goes_ Tryd.func18 (by kernel_rfl) rfl #[.agg #[.slice Ah l.length ch], .agg #[.int .i64 1, .slice At 1 ct], .int .i64 (m : Int), .slice (some ⟨g2, 0, none⟩) 1 1] (by rfl) rfl rfl (by (try simp only [List.map_toArray, List.map_cons, List.map_nil]); first | done | rfl) ?_
                  refine (hall_Admit.calls kk _ _ _ _ 1 _ ct [tinyY] (m : Int) _ _ 1 [[(m : Int)]] l' e0 _ HV.out (Kd.V_reads' HVT.out).2.2 (Kd.V_reads' HVT.out).2.1 (row2_V HS1.out HS2.out) HE.out).mono ?_
                  rintro e q27 ⟨vn, rfl, hvn, hb⟩
                  have HVN := Aside0.mk (Kd.V_mono (ok' := fun k => k ≠ w.heap.size ∧ k ≠ w.heap.size + 1 ∧ k ≠ w.heap.size + 1 + 1) hvn (fun k hk => by rcases hk with (hk | hk | hk) | hk; exact hk; (subst hk; exact HFR.out _ GHS1.out); (subst hk; exact HFR.out _ GHS2.out); exact HFR.out k (Nat.le_trans (HZ.out) hk)))
                  clear hvn HV
                  obtain ⟨An, cn, rfl⟩ := Kd.V_slice HVN.out
                  have NHZ := Aside0.mk (Nat.le_trans HZ.out hb.size)
                  have NHL := Aside0.mk (HL.out.below hb)
                  clear HZ HL
                  have HZ := NHZ
                  have HL := NHL
                  clear NHZ NHL
                  clear hb HVT HS1 HS2
                  have HV := HVN
                  clear HVN
                  refine ⟨_, rfl, ?_⟩
                  refine hK.out _ _ ((blk_cell HL.out.h 0).trans rfl) (fun _ => ?_)
                  clear hK K
                  refine norm_ (a' := ?_) ?_ ?_
                  rotate_left
                  · show Act.put _ (some 47) _ = _
                    simp only [Act.put, List.setIfInBounds_toArray, List.set_cons_zero, List.set_cons_succ, i64_w, i32_w]
                    rfl
                  refine pure_ (i := 7) (N := some 40) (v := ?_) (a' := ?_) #[true, true, true, true, true, true, true, true, false, false, false, false, false] rfl rfl (any_of rfl (by kernel_rfl)) (fun _ _ _ h => h) (Or.inl ⟨by rfl, ?_⟩) ?_ ?_
                  rotate_left
                  · intro w'
                    go_simp
                    with_reducible rfl
                  rotate_left
                  · simp only [Act.put, List.setIfInBounds_toArray, List.set_cons_zero, List.set_cons_succ, i64_w, i32_w]
                    rfl
                  refine pure_ (i := 8) (N := some 48) (v := ?_) (a' := ?_) #[true, true, true, true, true, true, true, true, true, false, false, false, false] rfl rfl (any_of rfl (by kernel_rfl)) (fun _ _ _ h => h) (Or.inl ⟨by rfl, ?_⟩) ?_ ?_
                  rotate_left
                  · intro w'
                    go_simp
                    with_reducible rfl
                  rotate_left
                  · simp only [Act.put, List.setIfInBounds_toArray, List.set_cons_zero, List.set_cons_succ, i64_w, i32_w]
                    rfl
                  refine pure_ (i := 9) (N := some 49) (v := ?_) (a' := ?_) #[true, true, true, true, true, true, true, true, true, true, false, false, false] rfl rfl (any_of rfl (by kernel_rfl)) (fun _ _ _ h => h) (Or.inl ⟨by rfl, ?_⟩) ?_ ?_
                  rotate_left
                  · intro w'
                    go_simp
                    with_reducible rfl
                  rotate_left
                  · simp only [Act.put, List.setIfInBounds_toArray, List.set_cons_zero, List.set_cons_succ, i64_w, i32_w]
                    rfl
                  refine one_ (i := 10) (N := some 9) #[true, true, true, true, true, true, true, true, true, true, true, false, false] rfl rfl (one_of rfl (by kernel_rfl)) (by decide) (fun K hK => ?_)
                  · refine box_step ?hg (N := 9) ?hd (cs := #[.slice none 0 0]) (t := 24) ?hr ?_; (case hd => rfl); (case hg => rfl); (case hr => first | (go_simp; done) | (go_simp; rfl))
                    intro ga hg q28 hbox hb
                    have HA := Aside0.mk hbox
                    have HG : Aside0 (wr.heap.size ≤ ga) := ⟨by rw [hg]; exact HZ.out⟩
                    have NHZ := Aside0.mk (Nat.le_trans HZ.out hb.size)
                    have NHL := Aside0.mk (HL.out.below hb)
                    have NHV := Aside0.mk (Kd.V_below (Kd.V_elderB HV.out ga (Nat.le_of_eq hg.symm)) hb)
                    clear HZ HL HV
                    have HZ := NHZ
                    have HL := NHL
                    have HV := NHV
                    clear NHZ NHL NHV
                    clear hg hbox hb
                    refine hK.out _ _ ((blk_cell HL.out.h 0).trans rfl) (fun _ => ?_)
                    clear hK K
                    refine norm_ (a' := ?_) ?_ ?_
                    rotate_left
                    · show Act.put _ (some 9) _ = _
                      simp only [Act.put, List.setIfInBounds_toArray, List.set_cons_zero, List.set_cons_succ, i64_w, i32_w]
                      rfl
                    refine norm_ ?_ (hJ (.agg #[.int .i64 1, .slice At 1 ct], .slice (some ⟨g1, 0, none⟩) 1 1, .slice (some ⟨g2, 0, none⟩) 1 1, .slice An l'.length cn, ga) _ ⟨(blk_cell HL.out.h 0).trans rfl, HZ.out, HL.out, HV.out, HA.out, HG.out⟩)
                    simp only [putAll, Act.put, List.setIfInBounds_toArray, List.set_cons_zero, List.set_cons_succ] <;> rfl
                · refine box_step ?hg (N := 9) ?hd (cs := #[.slice none 0 0]) (t := 24) ?hr ?_; (case hd => rfl); (case hg => rfl); (case hr => first | (go_simp; done) | (go_simp; rfl))
                  intro ga hg q29 hbox hb
                  have HA := Aside0.mk hbox
                  have HG : Aside0 (wr.heap.size ≤ ga) := ⟨by rw [hg]; exact HZ.out⟩
                  have NHZ := Aside0.mk (Nat.le_trans HZ.out hb.size)
                  have NHL := Aside0.mk (HL.out.below hb)
                  have NHV := Aside0.mk (Kd.V_below (Kd.V_elderB HV.out ga (Nat.le_of_eq hg.symm)) hb)
                  have NHS1 := Aside0.mk (blk_below HS1.out hb)
                  have NHS2 := Aside0.mk (blk_below HS2.out hb)
                  have NHVT := Aside0.mk (Kd.V_below HVT.out hb)
                  clear HZ HL HV HS1 HS2 HVT
                  have HZ := NHZ
                  have HL := NHL
                  have HV := NHV
                  have HS1 := NHS1
                  have HS2 := NHS2
                  have HVT := NHVT
                  clear NHZ NHL NHV NHS1 NHS2 NHVT
                  clear hg hbox hb
                  refine hK.out _ _ ((blk_cell HL.out.h 0).trans rfl) (fun _ => ?_)
                  clear hK K
                  refine norm_ (a' := ?_) ?_ ?_
                  rotate_left
                  · show Act.put _ (some 9) _ = _
                    simp only [Act.put, List.setIfInBounds_toArray, List.set_cons_zero, List.set_cons_succ, i64_w, i32_w]
                    rfl
                  refine one_ (i := 6) (N := some 47) #[true, true, true, true, true, true, true, false, false, false, true, false, false] rfl rfl (one_of rfl (by kernel_rfl)) (by decide) (fun K hK => ?_)
                  · refine goes_ Tryd.func18 (by kernel_rfl) rfl #[.agg #[.slice Ah l.length ch], .agg #[.int .i64 1, .slice At 1 ct], .int .i64 (m : Int), .slice (some ⟨g2, 0, none⟩) 1 1] (by rfl) rfl rfl (by (try simp only [List.map_toArray, List.map_cons, List.map_nil]); first | done | rfl) ?_
                    refine (hall_Admit.calls kk _ _ _ _ 1 _ ct [tinyY] (m : Int) _ _ 1 [[(m : Int)]] l' e0 _ HV.out (Kd.V_reads' HVT.out).2.2 (Kd.V_reads' HVT.out).2.1 (row2_V HS1.out HS2.out) HE.out).mono ?_
                    rintro e q30 ⟨vn, rfl, hvn, hb⟩
                    have HVN := Aside0.mk (Kd.V_mono (ok' := fun k => (k ≠ w.heap.size ∧ k ≠ w.heap.size + 1 ∧ k ≠ w.heap.size + 1 + 1) ∧ k ≠ ga) hvn (fun k hk => by rcases hk with (hk | hk | hk) | hk; exact hk; (subst hk; exact ⟨HFR.out _ GHS1.out, fun e => by have h_ := HS1.out; rw [e] at h_; have := h_.symm.trans HA.out; simp at this⟩); (subst hk; exact ⟨HFR.out _ GHS2.out, fun e => by have h_ := HS2.out; rw [e] at h_; have := h_.symm.trans HA.out; simp at this⟩); exact ⟨HFR.out k (Nat.le_trans (HZ.out) hk), fun e => by have h_ := blk_lt HA.out; omega⟩))
                    clear hvn HV
                    obtain ⟨An, cn, rfl⟩ := Kd.V_slice HVN.out
                    have NHZ := Aside0.mk (Nat.le_trans HZ.out hb.size)
                    have NHL := Aside0.mk (HL.out.below hb)
                    have NHA := Aside0.mk (blk_below HA.out hb)
                    clear HZ HL HA
                    have HZ := NHZ
                    have HL := NHL
                    have HA := NHA
                    clear NHZ NHL NHA
                    clear hb HVT HS1 HS2
                    have HV := HVN
                    clear HVN
                    refine ⟨_, rfl, ?_⟩
                    refine hK.out _ _ ((blk_cell HL.out.h 0).trans rfl) (fun _ => ?_)
                    clear hK K
                    refine norm_ (a' := ?_) ?_ ?_
                    rotate_left
                    · show Act.put _ (some 47) _ = _
                      simp only [Act.put, List.setIfInBounds_toArray, List.set_cons_zero, List.set_cons_succ, i64_w, i32_w]
                      rfl
                    refine pure_ (i := 7) (N := some 40) (v := ?_) (a' := ?_) #[true, true, true, true, true, true, true, true, false, false, true, false, false] rfl rfl (any_of rfl (by kernel_rfl)) (fun _ _ _ h => h) (Or.inl ⟨by rfl, ?_⟩) ?_ ?_
                    rotate_left
                    · intro w'
                      go_simp
                      with_reducible rfl
                    rotate_left
                    · simp only [Act.put, List.setIfInBounds_toArray, List.set_cons_zero, List.set_cons_succ, i64_w, i32_w]
                      rfl
                    refine pure_ (i := 8) (N := some 48) (v := ?_) (a' := ?_) #[true, true, true, true, true, true, true, true, true, false, true, false, false] rfl rfl (any_of rfl (by kernel_rfl)) (fun _ _ _ h => h) (Or.inl ⟨by rfl, ?_⟩) ?_ ?_
                    rotate_left
                    · intro w'
                      go_simp
                      with_reducible rfl
                    rotate_left
                    · simp only [Act.put, List.setIfInBounds_toArray, List.set_cons_zero, List.set_cons_succ, i64_w, i32_w]
                      rfl
                    refine pure_ (i := 9) (N := some 49) (v := ?_) (a' := ?_) #[true, true, true, true, true, true, true, true, true, true, true, false, false] rfl rfl (any_of rfl (by kernel_rfl)) (fun _ _ _ h => h) (Or.inl ⟨by rfl, ?_⟩) ?_ ?_
                    rotate_left
                    · intro w'
                      go_simp
                      with_reducible rfl
                    rotate_left
                    · simp only [Act.put, List.setIfInBounds_toArray, List.set_cons_zero, List.set_cons_succ, i64_w, i32_w]
                      rfl
                    refine norm_ ?_ (hJ (.agg #[.int .i64 1, .slice At 1 ct], .slice (some ⟨g1, 0, none⟩) 1 1, .slice (some ⟨g2, 0, none⟩) 1 1, .slice An l'.length cn, ga) _ ⟨(blk_cell HL.out.h 0).trans rfl, HZ.out, HL.out, HV.out, HA.out, HG.out⟩)
                    simp only [putAll, Act.put, List.setIfInBounds_toArray, List.set_cons_zero, List.set_cons_succ] <;> rfl
              · refine box_step ?hg (N := 9) ?hd (cs := #[.slice none 0 0]) (t := 24) ?hr ?_; (case hd => rfl); (case hg => rfl); (case hr => first | (go_simp; done) | (go_simp; rfl))
                intro ga hg q31 hbox hb
                have HA := Aside0.mk hbox
                have HG : Aside0 (wr.heap.size ≤ ga) := ⟨by rw [hg]; exact HZ.out⟩
                have NHZ := Aside0.mk (Nat.le_trans HZ.out hb.size)
                have NHL := Aside0.mk (HL.out.below hb)
                have NHV := Aside0.mk (Kd.V_below (Kd.V_elderB HV.out ga (Nat.le_of_eq hg.symm)) hb)
                have NHS1 := Aside0.mk (blk_below HS1.out hb)
                have NHS2 := Aside0.mk (blk_below HS2.out hb)
                clear HZ HL HV HS1 HS2
                have HZ := NHZ
                have HL := NHL
                have HV := NHV
                have HS1 := NHS1
                have HS2 := NHS2
                clear NHZ NHL NHV NHS1 NHS2
                clear hg hbox hb
                refine hK.out _ _ ((blk_cell HL.out.h 0).trans rfl) (fun _ => ?_)
                clear hK K
                refine norm_ (a' := ?_) ?_ ?_
                rotate_left
                · show Act.put _ (some 9) _ = _
                  simp only [Act.put, List.setIfInBounds_toArray, List.set_cons_zero, List.set_cons_succ, i64_w, i32_w]
                  rfl
                refine one_ (i := 1) (N := some 42) #[true, true, true, true, true, true, false, false, false, false, true, false, false] rfl rfl (one_of rfl (by kernel_rfl)) (by decide) (fun K hK => ?_)
                · refine goes_ Tryd.func19 (by kernel_rfl) rfl #[] (by rfl) rfl rfl (by (try simp only [List.map_toArray, List.map_cons, List.map_nil]); first | done | rfl) ?_
                  refine (switchboardlaw24_tiny.calls 1 [tinyY] _ rfl).mono ?_
                  rintro e q32 ⟨vt, rfl, hvt, hb⟩
                  obtain ⟨At, ct, rfl⟩ := Kd.V_slice hvt
                  have HVT := Aside0.mk hvt
                  clear hvt
                  have NHZ := Aside0.mk (Nat.le_trans HZ.out hb.size)
                  have NHL := Aside0.mk (HL.out.below hb)
                  have NHV := Aside0.mk (Kd.V_below HV.out hb)
                  have NHS1 := Aside0.mk (blk_below HS1.out hb)
                  have NHS2 := Aside0.mk (blk_below HS2.out hb)
                  have NHA := Aside0.mk (blk_below HA.out hb)
                  clear HZ HL HV HS1 HS2 HA
                  have HZ := NHZ
                  have HL := NHL
                  have HV := NHV
                  have HS1 := NHS1
                  have HS2 := NHS2
                  have HA := NHA
                  clear NHZ NHL NHV NHS1 NHS2 NHA
                  clear hb
                  refine ⟨_, rfl, ?_⟩
                  refine hK.out _ _ ((blk_cell HL.out.h 0).trans rfl) (fun _ => ?_)
                  clear hK K
                  refine norm_ (a' := ?_) ?_ ?_
                  rotate_left
                  · show Act.put _ (some 42) _ = _
                    simp only [Act.put, List.setIfInBounds_toArray, List.set_cons_zero, List.set_cons_succ, i64_w, i32_w]
                    rfl
                  refine one_ (i := 6) (N := some 47) #[true, true, true, true, true, true, true, false, false, false, true, false, false] rfl rfl (one_of rfl (by kernel_rfl)) (by decide) (fun K hK => ?_)
                  · refine goes_ Tryd.func18 (by kernel_rfl) rfl #[.agg #[.slice Ah l.length ch], .agg #[.int .i64 1, .slice At 1 ct], .int .i64 (m : Int), .slice (some ⟨g2, 0, none⟩) 1 1] (by rfl) rfl rfl (by (try simp only [List.map_toArray, List.map_cons, List.map_nil]); first | done | rfl) ?_
                    refine (hall_Admit.calls kk _ _ _ _ 1 _ ct [tinyY] (m : Int) _ _ 1 [[(m : Int)]] l' e0 _ HV.out (Kd.V_reads' HVT.out).2.2 (Kd.V_reads' HVT.out).2.1 (row2_V HS1.out HS2.out) HE.out).mono ?_
                    rintro e q33 ⟨vn, rfl, hvn, hb⟩
                    have HVN := Aside0.mk (Kd.V_mono (ok' := fun k => (k ≠ w.heap.size ∧ k ≠ w.heap.size + 1 ∧ k ≠ w.heap.size + 1 + 1) ∧ k ≠ ga) hvn (fun k hk => by rcases hk with (hk | hk | hk) | hk; exact hk; (subst hk; exact ⟨HFR.out _ GHS1.out, fun e => by have h_ := HS1.out; rw [e] at h_; have := h_.symm.trans HA.out; simp at this⟩); (subst hk; exact ⟨HFR.out _ GHS2.out, fun e => by have h_ := HS2.out; rw [e] at h_; have := h_.symm.trans HA.out; simp at this⟩); exact ⟨HFR.out k (Nat.le_trans (HZ.out) hk), fun e => by have h_ := blk_lt HA.out; omega⟩))
                    clear hvn HV
                    obtain ⟨An, cn, rfl⟩ := Kd.V_slice HVN.out
                    have NHZ := Aside0.mk (Nat.le_trans HZ.out hb.size)
                    have NHL := Aside0.mk (HL.out.below hb)
                    have NHA := Aside0.mk (blk_below HA.out hb)
                    clear HZ HL HA
                    have HZ := NHZ
                    have HL := NHL
                    have HA := NHA
                    clear NHZ NHL NHA
                    clear hb HVT HS1 HS2
                    have HV := HVN
                    clear HVN
                    refine ⟨_, rfl, ?_⟩
                    refine hK.out _ _ ((blk_cell HL.out.h 0).trans rfl) (fun _ => ?_)
                    clear hK K
                    refine norm_ (a' := ?_) ?_ ?_
                    rotate_left
                    · show Act.put _ (some 47) _ = _
                      simp only [Act.put, List.setIfInBounds_toArray, List.set_cons_zero, List.set_cons_succ, i64_w, i32_w]
                      rfl
                    refine pure_ (i := 7) (N := some 40) (v := ?_) (a' := ?_) #[true, true, true, true, true, true, true, true, false, false, true, false, false] rfl rfl (any_of rfl (by kernel_rfl)) (fun _ _ _ h => h) (Or.inl ⟨by rfl, ?_⟩) ?_ ?_
                    rotate_left
                    · intro w'
                      go_simp
                      with_reducible rfl
                    rotate_left
                    · simp only [Act.put, List.setIfInBounds_toArray, List.set_cons_zero, List.set_cons_succ, i64_w, i32_w]
                      rfl
                    refine pure_ (i := 8) (N := some 48) (v := ?_) (a' := ?_) #[true, true, true, true, true, true, true, true, true, false, true, false, false] rfl rfl (any_of rfl (by kernel_rfl)) (fun _ _ _ h => h) (Or.inl ⟨by rfl, ?_⟩) ?_ ?_
                    rotate_left
                    · intro w'
                      go_simp
                      with_reducible rfl
                    rotate_left
                    · simp only [Act.put, List.setIfInBounds_toArray, List.set_cons_zero, List.set_cons_succ, i64_w, i32_w]
                      rfl
                    refine pure_ (i := 9) (N := some 49) (v := ?_) (a' := ?_) #[true, true, true, true, true, true, true, true, true, true, true, false, false] rfl rfl (any_of rfl (by kernel_rfl)) (fun _ _ _ h => h) (Or.inl ⟨by rfl, ?_⟩) ?_ ?_
                    rotate_left
                    · intro w'
                      go_simp
                      with_reducible rfl
                    rotate_left
                    · simp only [Act.put, List.setIfInBounds_toArray, List.set_cons_zero, List.set_cons_succ, i64_w, i32_w]
                      rfl
                    refine norm_ ?_ (hJ (.agg #[.int .i64 1, .slice At 1 ct], .slice (some ⟨g1, 0, none⟩) 1 1, .slice (some ⟨g2, 0, none⟩) 1 1, .slice An l'.length cn, ga) _ ⟨(blk_cell HL.out.h 0).trans rfl, HZ.out, HL.out, HV.out, HA.out, HG.out⟩)
                    simp only [putAll, Act.put, List.setIfInBounds_toArray, List.set_cons_zero, List.set_cons_succ] <;> rfl
            · refine box_step ?hg (N := 9) ?hd (cs := #[.slice none 0 0]) (t := 24) ?hr ?_; (case hd => rfl); (case hg => rfl); (case hr => first | (go_simp; done) | (go_simp; rfl))
              intro ga hg q34 hbox hb
              have HA := Aside0.mk hbox
              have HG : Aside0 (wr.heap.size ≤ ga) := ⟨by rw [hg]; exact HZ.out⟩
              have NHZ := Aside0.mk (Nat.le_trans HZ.out hb.size)
              have NHL := Aside0.mk (HL.out.below hb)
              have NHV := Aside0.mk (Kd.V_below (Kd.V_elderB HV.out ga (Nat.le_of_eq hg.symm)) hb)
              have NHS1 := Aside0.mk (blk_below HS1.out hb)
              clear HZ HL HV HS1
              have HZ := NHZ
              have HL := NHL
              have HV := NHV
              have HS1 := NHS1
              clear NHZ NHL NHV NHS1
              clear hg hbox hb
              refine hK.out _ _ ((blk_cell HL.out.h 0).trans rfl) (fun _ => ?_)
              clear hK K
              refine norm_ (a' := ?_) ?_ ?_
              rotate_left
              · show Act.put _ (some 9) _ = _
                simp only [Act.put, List.setIfInBounds_toArray, List.set_cons_zero, List.set_cons_succ, i64_w, i32_w]
                rfl
              refine two_ (i := 1) (j := 5) (Ni := some 42) (Nj := some 46) #[true, true, true, true, true, false, false, false, false, false, true, false, false] #[true, false, true, true, true, true, false, false, false, false, true, false, false] rfl rfl rfl rfl (two_of rfl (by kernel_rfl)) (by decide) (by decide) (fun K hK => ?_) (fun K hK => ?_)
              · refine goes_ Tryd.func19 (by kernel_rfl) rfl #[] (by rfl) rfl rfl (by (try simp only [List.map_toArray, List.map_cons, List.map_nil]); first | done | rfl) ?_
                refine (switchboardlaw24_tiny.calls 1 [tinyY] _ rfl).mono ?_
                rintro e q35 ⟨vt, rfl, hvt, hb⟩
                obtain ⟨At, ct, rfl⟩ := Kd.V_slice hvt
                have HVT := Aside0.mk hvt
                clear hvt
                have NHZ := Aside0.mk (Nat.le_trans HZ.out hb.size)
                have NHL := Aside0.mk (HL.out.below hb)
                have NHV := Aside0.mk (Kd.V_below HV.out hb)
                have NHS1 := Aside0.mk (blk_below HS1.out hb)
                have NHA := Aside0.mk (blk_below HA.out hb)
                clear HZ HL HV HS1 HA
                have HZ := NHZ
                have HL := NHL
                have HV := NHV
                have HS1 := NHS1
                have HA := NHA
                clear NHZ NHL NHV NHS1 NHA
                clear hb
                refine ⟨_, rfl, ?_⟩
                refine hK.out _ _ ((blk_cell HL.out.h 0).trans rfl) (fun _ => ?_)
                clear hK K
                refine norm_ (a' := ?_) ?_ ?_
                rotate_left
                · show Act.put _ (some 42) _ = _
                  simp only [Act.put, List.setIfInBounds_toArray, List.set_cons_zero, List.set_cons_succ, i64_w, i32_w]
                  rfl
                refine one_ (i := 5) (N := some 46) #[true, true, true, true, true, true, false, false, false, false, true, false, false] rfl rfl (one_of rfl (by kernel_rfl)) (by decide) (fun K hK => ?_)
                · refine lit_step ?hg (N := 46) ?hd (cs := #[.slice (some ⟨g1, 0, none⟩) 1 1]) (t := 42) (n := 1) ?hr ?_; (case hd => rfl); (case hg => rfl); (case hr => first | (go_simp; done) | (go_simp; rfl))
                  intro g2 hg q36 hbox hb
                  have HS2 := Aside0.mk hbox
                  have GHS2 : Aside0 (wr.heap.size ≤ g2) := ⟨by rw [hg]; exact HZ.out⟩
                  have NHZ := Aside0.mk (Nat.le_trans HZ.out hb.size)
                  have NHL := Aside0.mk (HL.out.below hb)
                  have NHV := Aside0.mk (Kd.V_below HV.out hb)
                  have NHS1 := Aside0.mk (blk_below HS1.out hb)
                  have NHA := Aside0.mk (blk_below HA.out hb)
                  have NHVT := Aside0.mk (Kd.V_below HVT.out hb)
                  clear HZ HL HV HS1 HA HVT
                  have HZ := NHZ
                  have HL := NHL
                  have HV := NHV
                  have HS1 := NHS1
                  have HA := NHA
                  have HVT := NHVT
                  clear NHZ NHL NHV NHS1 NHA NHVT
                  clear hg hbox hb
                  refine hK.out _ _ ((blk_cell HL.out.h 0).trans rfl) (fun _ => ?_)
                  clear hK K
                  refine norm_ (a' := ?_) ?_ ?_
                  rotate_left
                  · show Act.put _ (some 46) _ = _
                    simp only [Act.put, List.setIfInBounds_toArray, List.set_cons_zero, List.set_cons_succ, i64_w, i32_w]
                    rfl
                  refine one_ (i := 6) (N := some 47) #[true, true, true, true, true, true, true, false, false, false, true, false, false] rfl rfl (one_of rfl (by kernel_rfl)) (by decide) (fun K hK => ?_)
                  · refine goes_ Tryd.func18 (by kernel_rfl) rfl #[.agg #[.slice Ah l.length ch], .agg #[.int .i64 1, .slice At 1 ct], .int .i64 (m : Int), .slice (some ⟨g2, 0, none⟩) 1 1] (by rfl) rfl rfl (by (try simp only [List.map_toArray, List.map_cons, List.map_nil]); first | done | rfl) ?_
                    refine (hall_Admit.calls kk _ _ _ _ 1 _ ct [tinyY] (m : Int) _ _ 1 [[(m : Int)]] l' e0 _ HV.out (Kd.V_reads' HVT.out).2.2 (Kd.V_reads' HVT.out).2.1 (row2_V HS1.out HS2.out) HE.out).mono ?_
                    rintro e q37 ⟨vn, rfl, hvn, hb⟩
                    have HVN := Aside0.mk (Kd.V_mono (ok' := fun k => (k ≠ w.heap.size ∧ k ≠ w.heap.size + 1 ∧ k ≠ w.heap.size + 1 + 1) ∧ k ≠ ga) hvn (fun k hk => by rcases hk with (hk | hk | hk) | hk; exact hk; (subst hk; exact ⟨HFR.out _ GHS1.out, fun e => by have h_ := HS1.out; rw [e] at h_; have := h_.symm.trans HA.out; simp at this⟩); (subst hk; exact ⟨HFR.out _ GHS2.out, fun e => by have h_ := HS2.out; rw [e] at h_; have := h_.symm.trans HA.out; simp at this⟩); exact ⟨HFR.out k (Nat.le_trans (HZ.out) hk), fun e => by have h_ := blk_lt HA.out; omega⟩))
                    clear hvn HV
                    obtain ⟨An, cn, rfl⟩ := Kd.V_slice HVN.out
                    have NHZ := Aside0.mk (Nat.le_trans HZ.out hb.size)
                    have NHL := Aside0.mk (HL.out.below hb)
                    have NHA := Aside0.mk (blk_below HA.out hb)
                    clear HZ HL HA
                    have HZ := NHZ
                    have HL := NHL
                    have HA := NHA
                    clear NHZ NHL NHA
                    clear hb HVT HS1 HS2
                    have HV := HVN
                    clear HVN
                    refine ⟨_, rfl, ?_⟩
                    refine hK.out _ _ ((blk_cell HL.out.h 0).trans rfl) (fun _ => ?_)
                    clear hK K
                    refine norm_ (a' := ?_) ?_ ?_
                    rotate_left
                    · show Act.put _ (some 47) _ = _
                      simp only [Act.put, List.setIfInBounds_toArray, List.set_cons_zero, List.set_cons_succ, i64_w, i32_w]
                      rfl
                    refine pure_ (i := 7) (N := some 40) (v := ?_) (a' := ?_) #[true, true, true, true, true, true, true, true, false, false, true, false, false] rfl rfl (any_of rfl (by kernel_rfl)) (fun _ _ _ h => h) (Or.inl ⟨by rfl, ?_⟩) ?_ ?_
                    rotate_left
                    · intro w'
                      go_simp
                      with_reducible rfl
                    rotate_left
                    · simp only [Act.put, List.setIfInBounds_toArray, List.set_cons_zero, List.set_cons_succ, i64_w, i32_w]
                      rfl
                    refine pure_ (i := 8) (N := some 48) (v := ?_) (a' := ?_) #[true, true, true, true, true, true, true, true, true, false, true, false, false] rfl rfl (any_of rfl (by kernel_rfl)) (fun _ _ _ h => h) (Or.inl ⟨by rfl, ?_⟩) ?_ ?_
                    rotate_left
                    · intro w'
                      go_simp
                      with_reducible rfl
                    rotate_left
                    · simp only [Act.put, List.setIfInBounds_toArray, List.set_cons_zero, List.set_cons_succ, i64_w, i32_w]
                      rfl
                    refine pure_ (i := 9) (N := some 49) (v := ?_) (a' := ?_) #[true, true, true, true, true, true, true, true, true, true, true, false, false] rfl rfl (any_of rfl (by kernel_rfl)) (fun _ _ _ h => h) (Or.inl ⟨by rfl, ?_⟩) ?_ ?_
                    rotate_left
                    · intro w'
                      go_simp
                      with_reducible rfl
                    rotate_left
                    · simp only [Act.put, List.setIfInBounds_toArray, List.set_cons_zero, List.set_cons_succ, i64_w, i32_w]
                      rfl
                    refine norm_ ?_ (hJ (.agg #[.int .i64 1, .slice At 1 ct], .slice (some ⟨g1, 0, none⟩) 1 1, .slice (some ⟨g2, 0, none⟩) 1 1, .slice An l'.length cn, ga) _ ⟨(blk_cell HL.out.h 0).trans rfl, HZ.out, HL.out, HV.out, HA.out, HG.out⟩)
                    simp only [putAll, Act.put, List.setIfInBounds_toArray, List.set_cons_zero, List.set_cons_succ] <;> rfl
              · refine lit_step ?hg (N := 46) ?hd (cs := #[.slice (some ⟨g1, 0, none⟩) 1 1]) (t := 42) (n := 1) ?hr ?_; (case hd => rfl); (case hg => rfl); (case hr => first | (go_simp; done) | (go_simp; rfl))
                intro g2 hg q38 hbox hb
                have HS2 := Aside0.mk hbox
                have GHS2 : Aside0 (wr.heap.size ≤ g2) := ⟨by rw [hg]; exact HZ.out⟩
                have NHZ := Aside0.mk (Nat.le_trans HZ.out hb.size)
                have NHL := Aside0.mk (HL.out.below hb)
                have NHV := Aside0.mk (Kd.V_below HV.out hb)
                have NHS1 := Aside0.mk (blk_below HS1.out hb)
                have NHA := Aside0.mk (blk_below HA.out hb)
                clear HZ HL HV HS1 HA
                have HZ := NHZ
                have HL := NHL
                have HV := NHV
                have HS1 := NHS1
                have HA := NHA
                clear NHZ NHL NHV NHS1 NHA
                clear hg hbox hb
                refine hK.out _ _ ((blk_cell HL.out.h 0).trans rfl) (fun _ => ?_)
                clear hK K
                refine norm_ (a' := ?_) ?_ ?_
                rotate_left
                · show Act.put _ (some 46) _ = _
                  simp only [Act.put, List.setIfInBounds_toArray, List.set_cons_zero, List.set_cons_succ, i64_w, i32_w]
                  rfl
                refine one_ (i := 1) (N := some 42) #[true, true, true, true, true, true, false, false, false, false, true, false, false] rfl rfl (one_of rfl (by kernel_rfl)) (by decide) (fun K hK => ?_)
                · refine goes_ Tryd.func19 (by kernel_rfl) rfl #[] (by rfl) rfl rfl (by (try simp only [List.map_toArray, List.map_cons, List.map_nil]); first | done | rfl) ?_
                  refine (switchboardlaw24_tiny.calls 1 [tinyY] _ rfl).mono ?_
                  rintro e q39 ⟨vt, rfl, hvt, hb⟩
                  obtain ⟨At, ct, rfl⟩ := Kd.V_slice hvt
                  have HVT := Aside0.mk hvt
                  clear hvt
                  have NHZ := Aside0.mk (Nat.le_trans HZ.out hb.size)
                  have NHL := Aside0.mk (HL.out.below hb)
                  have NHV := Aside0.mk (Kd.V_below HV.out hb)
                  have NHS1 := Aside0.mk (blk_below HS1.out hb)
                  have NHA := Aside0.mk (blk_below HA.out hb)
                  have NHS2 := Aside0.mk (blk_below HS2.out hb)
                  clear HZ HL HV HS1 HA HS2
                  have HZ := NHZ
                  have HL := NHL
                  have HV := NHV
                  have HS1 := NHS1
                  have HA := NHA
                  have HS2 := NHS2
                  clear NHZ NHL NHV NHS1 NHA NHS2
                  clear hb
                  refine ⟨_, rfl, ?_⟩
                  refine hK.out _ _ ((blk_cell HL.out.h 0).trans rfl) (fun _ => ?_)
                  clear hK K
                  refine norm_ (a' := ?_) ?_ ?_
                  rotate_left
                  · show Act.put _ (some 42) _ = _
                    simp only [Act.put, List.setIfInBounds_toArray, List.set_cons_zero, List.set_cons_succ, i64_w, i32_w]
                    rfl
                  refine one_ (i := 6) (N := some 47) #[true, true, true, true, true, true, true, false, false, false, true, false, false] rfl rfl (one_of rfl (by kernel_rfl)) (by decide) (fun K hK => ?_)
                  · refine goes_ Tryd.func18 (by kernel_rfl) rfl #[.agg #[.slice Ah l.length ch], .agg #[.int .i64 1, .slice At 1 ct], .int .i64 (m : Int), .slice (some ⟨g2, 0, none⟩) 1 1] (by rfl) rfl rfl (by (try simp only [List.map_toArray, List.map_cons, List.map_nil]); first | done | rfl) ?_
                    refine (hall_Admit.calls kk _ _ _ _ 1 _ ct [tinyY] (m : Int) _ _ 1 [[(m : Int)]] l' e0 _ HV.out (Kd.V_reads' HVT.out).2.2 (Kd.V_reads' HVT.out).2.1 (row2_V HS1.out HS2.out) HE.out).mono ?_
                    rintro e q40 ⟨vn, rfl, hvn, hb⟩
                    have HVN := Aside0.mk (Kd.V_mono (ok' := fun k => (k ≠ w.heap.size ∧ k ≠ w.heap.size + 1 ∧ k ≠ w.heap.size + 1 + 1) ∧ k ≠ ga) hvn (fun k hk => by rcases hk with (hk | hk | hk) | hk; exact hk; (subst hk; exact ⟨HFR.out _ GHS1.out, fun e => by have h_ := HS1.out; rw [e] at h_; have := h_.symm.trans HA.out; simp at this⟩); (subst hk; exact ⟨HFR.out _ GHS2.out, fun e => by have h_ := HS2.out; rw [e] at h_; have := h_.symm.trans HA.out; simp at this⟩); exact ⟨HFR.out k (Nat.le_trans (HZ.out) hk), fun e => by have h_ := blk_lt HA.out; omega⟩))
                    clear hvn HV
                    obtain ⟨An, cn, rfl⟩ := Kd.V_slice HVN.out
                    have NHZ := Aside0.mk (Nat.le_trans HZ.out hb.size)
                    have NHL := Aside0.mk (HL.out.below hb)
                    have NHA := Aside0.mk (blk_below HA.out hb)
                    clear HZ HL HA
                    have HZ := NHZ
                    have HL := NHL
                    have HA := NHA
                    clear NHZ NHL NHA
                    clear hb HVT HS1 HS2
                    have HV := HVN
                    clear HVN
                    refine ⟨_, rfl, ?_⟩
                    refine hK.out _ _ ((blk_cell HL.out.h 0).trans rfl) (fun _ => ?_)
                    clear hK K
                    refine norm_ (a' := ?_) ?_ ?_
                    rotate_left
                    · show Act.put _ (some 47) _ = _
                      simp only [Act.put, List.setIfInBounds_toArray, List.set_cons_zero, List.set_cons_succ, i64_w, i32_w]
                      rfl
                    refine pure_ (i := 7) (N := some 40) (v := ?_) (a' := ?_) #[true, true, true, true, true, true, true, true, false, false, true, false, false] rfl rfl (any_of rfl (by kernel_rfl)) (fun _ _ _ h => h) (Or.inl ⟨by rfl, ?_⟩) ?_ ?_
                    rotate_left
                    · intro w'
                      go_simp
                      with_reducible rfl
                    rotate_left
                    · simp only [Act.put, List.setIfInBounds_toArray, List.set_cons_zero, List.set_cons_succ, i64_w, i32_w]
                      rfl
                    refine pure_ (i := 8) (N := some 48) (v := ?_) (a' := ?_) #[true, true, true, true, true, true, true, true, true, false, true, false, false] rfl rfl (any_of rfl (by kernel_rfl)) (fun _ _ _ h => h) (Or.inl ⟨by rfl, ?_⟩) ?_ ?_
                    rotate_left
                    · intro w'
                      go_simp
                      with_reducible rfl
                    rotate_left
                    · simp only [Act.put, List.setIfInBounds_toArray, List.set_cons_zero, List.set_cons_succ, i64_w, i32_w]
                      rfl
                    refine pure_ (i := 9) (N := some 49) (v := ?_) (a' := ?_) #[true, true, true, true, true, true, true, true, true, true, true, false, false] rfl rfl (any_of rfl (by kernel_rfl)) (fun _ _ _ h => h) (Or.inl ⟨by rfl, ?_⟩) ?_ ?_
                    rotate_left
                    · intro w'
                      go_simp
                      with_reducible rfl
                    rotate_left
                    · simp only [Act.put, List.setIfInBounds_toArray, List.set_cons_zero, List.set_cons_succ, i64_w, i32_w]
                      rfl
                    refine norm_ ?_ (hJ (.agg #[.int .i64 1, .slice At 1 ct], .slice (some ⟨g1, 0, none⟩) 1 1, .slice (some ⟨g2, 0, none⟩) 1 1, .slice An l'.length cn, ga) _ ⟨(blk_cell HL.out.h 0).trans rfl, HZ.out, HL.out, HV.out, HA.out, HG.out⟩)
                    simp only [putAll, Act.put, List.setIfInBounds_toArray, List.set_cons_zero, List.set_cons_succ] <;> rfl
          · refine box_step ?hg (N := 9) ?hd (cs := #[.slice none 0 0]) (t := 24) ?hr ?_; (case hd => rfl); (case hg => rfl); (case hr => first | (go_simp; done) | (go_simp; rfl))
            intro ga hg q41 hbox hb
            have HA := Aside0.mk hbox
            have HG : Aside0 (wr.heap.size ≤ ga) := ⟨by rw [hg]; exact HZ.out⟩
            have NHZ := Aside0.mk (Nat.le_trans HZ.out hb.size)
            have NHL := Aside0.mk (HL.out.below hb)
            have NHV := Aside0.mk (Kd.V_below (Kd.V_elderB HV.out ga (Nat.le_of_eq hg.symm)) hb)
            clear HZ HL HV
            have HZ := NHZ
            have HL := NHL
            have HV := NHV
            clear NHZ NHL NHV
            clear hg hbox hb
            refine hK.out _ _ ((blk_cell HL.out.h 0).trans rfl) (fun _ => ?_)
            clear hK K
            refine norm_ (a' := ?_) ?_ ?_
            rotate_left
            · show Act.put _ (some 9) _ = _
              simp only [Act.put, List.setIfInBounds_toArray, List.set_cons_zero, List.set_cons_succ, i64_w, i32_w]
              rfl
            refine two_ (i := 1) (j := 4) (Ni := some 42) (Nj := some 45) #[true, true, true, true, false, false, false, false, false, false, true, false, false] #[true, false, true, true, true, false, false, false, false, false, true, false, false] rfl rfl rfl rfl (two_of rfl (by kernel_rfl)) (by decide) (by decide) (fun K hK => ?_) (fun K hK => ?_)
            · refine goes_ Tryd.func19 (by kernel_rfl) rfl #[] (by rfl) rfl rfl (by (try simp only [List.map_toArray, List.map_cons, List.map_nil]); first | done | rfl) ?_
              refine (switchboardlaw24_tiny.calls 1 [tinyY] _ rfl).mono ?_
              rintro e q42 ⟨vt, rfl, hvt, hb⟩
              obtain ⟨At, ct, rfl⟩ := Kd.V_slice hvt
              have HVT := Aside0.mk hvt
              clear hvt
              have NHZ := Aside0.mk (Nat.le_trans HZ.out hb.size)
              have NHL := Aside0.mk (HL.out.below hb)
              have NHV := Aside0.mk (Kd.V_below HV.out hb)
              have NHA := Aside0.mk (blk_below HA.out hb)
              clear HZ HL HV HA
              have HZ := NHZ
              have HL := NHL
              have HV := NHV
              have HA := NHA
              clear NHZ NHL NHV NHA
              clear hb
              refine ⟨_, rfl, ?_⟩
              refine hK.out _ _ ((blk_cell HL.out.h 0).trans rfl) (fun _ => ?_)
              clear hK K
              refine norm_ (a' := ?_) ?_ ?_
              rotate_left
              · show Act.put _ (some 42) _ = _
                simp only [Act.put, List.setIfInBounds_toArray, List.set_cons_zero, List.set_cons_succ, i64_w, i32_w]
                rfl
              refine one_ (i := 4) (N := some 45) #[true, true, true, true, true, false, false, false, false, false, true, false, false] rfl rfl (one_of rfl (by kernel_rfl)) (by decide) (fun K hK => ?_)
              · refine lit_step ?hg (N := 45) ?hd (cs := #[.int .i64 (m : Int)]) (t := 3) (n := 1) ?hr ?_; (case hd => rfl); (case hg => rfl); (case hr => first | (go_simp; done) | (go_simp; rfl))
                intro g1 hg q43 hbox hb
                have HS1 := Aside0.mk hbox
                have GHS1 : Aside0 (wr.heap.size ≤ g1) := ⟨by rw [hg]; exact HZ.out⟩
                have NHZ := Aside0.mk (Nat.le_trans HZ.out hb.size)
                have NHL := Aside0.mk (HL.out.below hb)
                have NHV := Aside0.mk (Kd.V_below HV.out hb)
                have NHA := Aside0.mk (blk_below HA.out hb)
                have NHVT := Aside0.mk (Kd.V_below HVT.out hb)
                clear HZ HL HV HA HVT
                have HZ := NHZ
                have HL := NHL
                have HV := NHV
                have HA := NHA
                have HVT := NHVT
                clear NHZ NHL NHV NHA NHVT
                clear hg hbox hb
                refine hK.out _ _ ((blk_cell HL.out.h 0).trans rfl) (fun _ => ?_)
                clear hK K
                refine norm_ (a' := ?_) ?_ ?_
                rotate_left
                · show Act.put _ (some 45) _ = _
                  simp only [Act.put, List.setIfInBounds_toArray, List.set_cons_zero, List.set_cons_succ, i64_w, i32_w]
                  rfl
                refine one_ (i := 5) (N := some 46) #[true, true, true, true, true, true, false, false, false, false, true, false, false] rfl rfl (one_of rfl (by kernel_rfl)) (by decide) (fun K hK => ?_)
                · refine lit_step ?hg (N := 46) ?hd (cs := #[.slice (some ⟨g1, 0, none⟩) 1 1]) (t := 42) (n := 1) ?hr ?_; (case hd => rfl); (case hg => rfl); (case hr => first | (go_simp; done) | (go_simp; rfl))
                  intro g2 hg q44 hbox hb
                  have HS2 := Aside0.mk hbox
                  have GHS2 : Aside0 (wr.heap.size ≤ g2) := ⟨by rw [hg]; exact HZ.out⟩
                  have NHZ := Aside0.mk (Nat.le_trans HZ.out hb.size)
                  have NHL := Aside0.mk (HL.out.below hb)
                  have NHV := Aside0.mk (Kd.V_below HV.out hb)
                  have NHA := Aside0.mk (blk_below HA.out hb)
                  have NHVT := Aside0.mk (Kd.V_below HVT.out hb)
                  have NHS1 := Aside0.mk (blk_below HS1.out hb)
                  clear HZ HL HV HA HVT HS1
                  have HZ := NHZ
                  have HL := NHL
                  have HV := NHV
                  have HA := NHA
                  have HVT := NHVT
                  have HS1 := NHS1
                  clear NHZ NHL NHV NHA NHVT NHS1
                  clear hg hbox hb
                  refine hK.out _ _ ((blk_cell HL.out.h 0).trans rfl) (fun _ => ?_)
                  clear hK K
                  refine norm_ (a' := ?_) ?_ ?_
                  rotate_left
                  · show Act.put _ (some 46) _ = _
                    simp only [Act.put, List.setIfInBounds_toArray, List.set_cons_zero, List.set_cons_succ, i64_w, i32_w]
                    rfl
                  refine one_ (i := 6) (N := some 47) #[true, true, true, true, true, true, true, false, false, false, true, false, false] rfl rfl (one_of rfl (by kernel_rfl)) (by decide) (fun K hK => ?_)
                  · refine goes_ Tryd.func18 (by kernel_rfl) rfl #[.agg #[.slice Ah l.length ch], .agg #[.int .i64 1, .slice At 1 ct], .int .i64 (m : Int), .slice (some ⟨g2, 0, none⟩) 1 1] (by rfl) rfl rfl (by (try simp only [List.map_toArray, List.map_cons, List.map_nil]); first | done | rfl) ?_
                    refine (hall_Admit.calls kk _ _ _ _ 1 _ ct [tinyY] (m : Int) _ _ 1 [[(m : Int)]] l' e0 _ HV.out (Kd.V_reads' HVT.out).2.2 (Kd.V_reads' HVT.out).2.1 (row2_V HS1.out HS2.out) HE.out).mono ?_
                    rintro e q45 ⟨vn, rfl, hvn, hb⟩
                    have HVN := Aside0.mk (Kd.V_mono (ok' := fun k => (k ≠ w.heap.size ∧ k ≠ w.heap.size + 1 ∧ k ≠ w.heap.size + 1 + 1) ∧ k ≠ ga) hvn (fun k hk => by rcases hk with (hk | hk | hk) | hk; exact hk; (subst hk; exact ⟨HFR.out _ GHS1.out, fun e => by have h_ := HS1.out; rw [e] at h_; have := h_.symm.trans HA.out; simp at this⟩); (subst hk; exact ⟨HFR.out _ GHS2.out, fun e => by have h_ := HS2.out; rw [e] at h_; have := h_.symm.trans HA.out; simp at this⟩); exact ⟨HFR.out k (Nat.le_trans (HZ.out) hk), fun e => by have h_ := blk_lt HA.out; omega⟩))
                    clear hvn HV
                    obtain ⟨An, cn, rfl⟩ := Kd.V_slice HVN.out
                    have NHZ := Aside0.mk (Nat.le_trans HZ.out hb.size)
                    have NHL := Aside0.mk (HL.out.below hb)
                    have NHA := Aside0.mk (blk_below HA.out hb)
                    clear HZ HL HA
                    have HZ := NHZ
                    have HL := NHL
                    have HA := NHA
                    clear NHZ NHL NHA
                    clear hb HVT HS1 HS2
                    have HV := HVN
                    clear HVN
                    refine ⟨_, rfl, ?_⟩
                    refine hK.out _ _ ((blk_cell HL.out.h 0).trans rfl) (fun _ => ?_)
                    clear hK K
                    refine norm_ (a' := ?_) ?_ ?_
                    rotate_left
                    · show Act.put _ (some 47) _ = _
                      simp only [Act.put, List.setIfInBounds_toArray, List.set_cons_zero, List.set_cons_succ, i64_w, i32_w]
                      rfl
                    refine pure_ (i := 7) (N := some 40) (v := ?_) (a' := ?_) #[true, true, true, true, true, true, true, true, false, false, true, false, false] rfl rfl (any_of rfl (by kernel_rfl)) (fun _ _ _ h => h) (Or.inl ⟨by rfl, ?_⟩) ?_ ?_
                    rotate_left
                    · intro w'
                      go_simp
                      with_reducible rfl
                    rotate_left
                    · simp only [Act.put, List.setIfInBounds_toArray, List.set_cons_zero, List.set_cons_succ, i64_w, i32_w]
                      rfl
                    refine pure_ (i := 8) (N := some 48) (v := ?_) (a' := ?_) #[true, true, true, true, true, true, true, true, true, false, true, false, false] rfl rfl (any_of rfl (by kernel_rfl)) (fun _ _ _ h => h) (Or.inl ⟨by rfl, ?_⟩) ?_ ?_
                    rotate_left
                    · intro w'
                      go_simp
                      with_reducible rfl
                    rotate_left
                    · simp only [Act.put, List.setIfInBounds_toArray, List.set_cons_zero, List.set_cons_succ, i64_w, i32_w]
                      rfl
                    refine pure_ (i := 9) (N := some 49) (v := ?_) (a' := ?_) #[true, true, true, true, true, true, true, true, true, true, true, false, false] rfl rfl (any_of rfl (by kernel_rfl)) (fun _ _ _ h => h) (Or.inl ⟨by rfl, ?_⟩) ?_ ?_
                    rotate_left
                    · intro w'
                      go_simp
                      with_reducible rfl
                    rotate_left
                    · simp only [Act.put, List.setIfInBounds_toArray, List.set_cons_zero, List.set_cons_succ, i64_w, i32_w]
                      rfl
                    refine norm_ ?_ (hJ (.agg #[.int .i64 1, .slice At 1 ct], .slice (some ⟨g1, 0, none⟩) 1 1, .slice (some ⟨g2, 0, none⟩) 1 1, .slice An l'.length cn, ga) _ ⟨(blk_cell HL.out.h 0).trans rfl, HZ.out, HL.out, HV.out, HA.out, HG.out⟩)
                    simp only [putAll, Act.put, List.setIfInBounds_toArray, List.set_cons_zero, List.set_cons_succ] <;> rfl
            · refine lit_step ?hg (N := 45) ?hd (cs := #[.int .i64 (m : Int)]) (t := 3) (n := 1) ?hr ?_; (case hd => rfl); (case hg => rfl); (case hr => first | (go_simp; done) | (go_simp; rfl))
              intro g1 hg q46 hbox hb
              have HS1 := Aside0.mk hbox
              have GHS1 : Aside0 (wr.heap.size ≤ g1) := ⟨by rw [hg]; exact HZ.out⟩
              have NHZ := Aside0.mk (Nat.le_trans HZ.out hb.size)
              have NHL := Aside0.mk (HL.out.below hb)
              have NHV := Aside0.mk (Kd.V_below HV.out hb)
              have NHA := Aside0.mk (blk_below HA.out hb)
              clear HZ HL HV HA
              have HZ := NHZ
              have HL := NHL
              have HV := NHV
              have HA := NHA
              clear NHZ NHL NHV NHA
              clear hg hbox hb
              refine hK.out _ _ ((blk_cell HL.out.h 0).trans rfl) (fun _ => ?_)
              clear hK K
              refine norm_ (a' := ?_) ?_ ?_
              rotate_left
              · show Act.put _ (some 45) _ = _
                simp only [Act.put, List.setIfInBounds_toArray, List.set_cons_zero, List.set_cons_succ, i64_w, i32_w]
                rfl
              refine two_ (i := 1) (j := 5) (Ni := some 42) (Nj := some 46) #[true, true, true, true, true, false, false, false, false, false, true, false, false] #[true, false, true, true, true, true, false, false, false, false, true, false, false] rfl rfl rfl rfl (two_of rfl (by kernel_rfl)) (by decide) (by decide) (fun K hK => ?_) (fun K hK => ?_)
              · refine goes_ Tryd.func19 (by kernel_rfl) rfl #[] (by rfl) rfl rfl (by (try simp only [List.map_toArray, List.map_cons, List.map_nil]); first | done | rfl) ?_
                refine (switchboardlaw24_tiny.calls 1 [tinyY] _ rfl).mono ?_
                rintro e q47 ⟨vt, rfl, hvt, hb⟩
                obtain ⟨At, ct, rfl⟩ := Kd.V_slice hvt
                have HVT := Aside0.mk hvt
                clear hvt
                have NHZ := Aside0.mk (Nat.le_trans HZ.out hb.size)
                have NHL := Aside0.mk (HL.out.below hb)
                have NHV := Aside0.mk (Kd.V_below HV.out hb)
                have NHA := Aside0.mk (blk_below HA.out hb)
                have NHS1 := Aside0.mk (blk_below HS1.out hb)
                clear HZ HL HV HA HS1
                have HZ := NHZ
                have HL := NHL
                have HV := NHV
                have HA := NHA
                have HS1 := NHS1
                clear NHZ NHL NHV NHA NHS1
                clear hb
                refine ⟨_, rfl, ?_⟩
                refine hK.out _ _ ((blk_cell HL.out.h 0).trans rfl) (fun _ => ?_)
                clear hK K
                refine norm_ (a' := ?_) ?_ ?_
                rotate_left
                · show Act.put _ (some 42) _ = _
                  simp only [Act.put, List.setIfInBounds_toArray, List.set_cons_zero, List.set_cons_succ, i64_w, i32_w]
                  rfl
                refine one_ (i := 5) (N := some 46) #[true, true, true, true, true, true, false, false, false, false, true, false, false] rfl rfl (one_of rfl (by kernel_rfl)) (by decide) (fun K hK => ?_)
                · refine lit_step ?hg (N := 46) ?hd (cs := #[.slice (some ⟨g1, 0, none⟩) 1 1]) (t := 42) (n := 1) ?hr ?_; (case hd => rfl); (case hg => rfl); (case hr => first | (go_simp; done) | (go_simp; rfl))
                  intro g2 hg q48 hbox hb
                  have HS2 := Aside0.mk hbox
                  have GHS2 : Aside0 (wr.heap.size ≤ g2) := ⟨by rw [hg]; exact HZ.out⟩
                  have NHZ := Aside0.mk (Nat.le_trans HZ.out hb.size)
                  have NHL := Aside0.mk (HL.out.below hb)
                  have NHV := Aside0.mk (Kd.V_below HV.out hb)
                  have NHA := Aside0.mk (blk_below HA.out hb)
                  have NHS1 := Aside0.mk (blk_below HS1.out hb)
                  have NHVT := Aside0.mk (Kd.V_below HVT.out hb)
                  clear HZ HL HV HA HS1 HVT
                  have HZ := NHZ
                  have HL := NHL
                  have HV := NHV
                  have HA := NHA
                  have HS1 := NHS1
                  have HVT := NHVT
                  clear NHZ NHL NHV NHA NHS1 NHVT
                  clear hg hbox hb
                  refine hK.out _ _ ((blk_cell HL.out.h 0).trans rfl) (fun _ => ?_)
                  clear hK K
                  refine norm_ (a' := ?_) ?_ ?_
                  rotate_left
                  · show Act.put _ (some 46) _ = _
                    simp only [Act.put, List.setIfInBounds_toArray, List.set_cons_zero, List.set_cons_succ, i64_w, i32_w]
                    rfl
                  refine one_ (i := 6) (N := some 47) #[true, true, true, true, true, true, true, false, false, false, true, false, false] rfl rfl (one_of rfl (by kernel_rfl)) (by decide) (fun K hK => ?_)
                  · refine goes_ Tryd.func18 (by kernel_rfl) rfl #[.agg #[.slice Ah l.length ch], .agg #[.int .i64 1, .slice At 1 ct], .int .i64 (m : Int), .slice (some ⟨g2, 0, none⟩) 1 1] (by rfl) rfl rfl (by (try simp only [List.map_toArray, List.map_cons, List.map_nil]); first | done | rfl) ?_
                    refine (hall_Admit.calls kk _ _ _ _ 1 _ ct [tinyY] (m : Int) _ _ 1 [[(m : Int)]] l' e0 _ HV.out (Kd.V_reads' HVT.out).2.2 (Kd.V_reads' HVT.out).2.1 (row2_V HS1.out HS2.out) HE.out).mono ?_
                    rintro e q49 ⟨vn, rfl, hvn, hb⟩
                    have HVN := Aside0.mk (Kd.V_mono (ok' := fun k => (k ≠ w.heap.size ∧ k ≠ w.heap.size + 1 ∧ k ≠ w.heap.size + 1 + 1) ∧ k ≠ ga) hvn (fun k hk => by rcases hk with (hk | hk | hk) | hk; exact hk; (subst hk; exact ⟨HFR.out _ GHS1.out, fun e => by have h_ := HS1.out; rw [e] at h_; have := h_.symm.trans HA.out; simp at this⟩); (subst hk; exact ⟨HFR.out _ GHS2.out, fun e => by have h_ := HS2.out; rw [e] at h_; have := h_.symm.trans HA.out; simp at this⟩); exact ⟨HFR.out k (Nat.le_trans (HZ.out) hk), fun e => by have h_ := blk_lt HA.out; omega⟩))
                    clear hvn HV
                    obtain ⟨An, cn, rfl⟩ := Kd.V_slice HVN.out
                    have NHZ := Aside0.mk (Nat.le_trans HZ.out hb.size)
                    have NHL := Aside0.mk (HL.out.below hb)
                    have NHA := Aside0.mk (blk_below HA.out hb)
                    clear HZ HL HA
                    have HZ := NHZ
                    have HL := NHL
                    have HA := NHA
                    clear NHZ NHL NHA
                    clear hb HVT HS1 HS2
                    have HV := HVN
                    clear HVN
                    refine ⟨_, rfl, ?_⟩
                    refine hK.out _ _ ((blk_cell HL.out.h 0).trans rfl) (fun _ => ?_)
                    clear hK K
                    refine norm_ (a' := ?_) ?_ ?_
                    rotate_left
                    · show Act.put _ (some 47) _ = _
                      simp only [Act.put, List.setIfInBounds_toArray, List.set_cons_zero, List.set_cons_succ, i64_w, i32_w]
                      rfl
                    refine pure_ (i := 7) (N := some 40) (v := ?_) (a' := ?_) #[true, true, true, true, true, true, true, true, false, false, true, false, false] rfl rfl (any_of rfl (by kernel_rfl)) (fun _ _ _ h => h) (Or.inl ⟨by rfl, ?_⟩) ?_ ?_
                    rotate_left
                    · intro w'
                      go_simp
                      with_reducible rfl
                    rotate_left
                    · simp only [Act.put, List.setIfInBounds_toArray, List.set_cons_zero, List.set_cons_succ, i64_w, i32_w]
                      rfl
                    refine pure_ (i := 8) (N := some 48) (v := ?_) (a' := ?_) #[true, true, true, true, true, true, true, true, true, false, true, false, false] rfl rfl (any_of rfl (by kernel_rfl)) (fun _ _ _ h => h) (Or.inl ⟨by rfl, ?_⟩) ?_ ?_
                    rotate_left
                    · intro w'
                      go_simp
                      with_reducible rfl
                    rotate_left
                    · simp only [Act.put, List.setIfInBounds_toArray, List.set_cons_zero, List.set_cons_succ, i64_w, i32_w]
                      rfl
                    refine pure_ (i := 9) (N := some 49) (v := ?_) (a' := ?_) #[true, true, true, true, true, true, true, true, true, true, true, false, false] rfl rfl (any_of rfl (by kernel_rfl)) (fun _ _ _ h => h) (Or.inl ⟨by rfl, ?_⟩) ?_ ?_
                    rotate_left
                    · intro w'
                      go_simp
                      with_reducible rfl
                    rotate_left
                    · simp only [Act.put, List.setIfInBounds_toArray, List.set_cons_zero, List.set_cons_succ, i64_w, i32_w]
                      rfl
                    refine norm_ ?_ (hJ (.agg #[.int .i64 1, .slice At 1 ct], .slice (some ⟨g1, 0, none⟩) 1 1, .slice (some ⟨g2, 0, none⟩) 1 1, .slice An l'.length cn, ga) _ ⟨(blk_cell HL.out.h 0).trans rfl, HZ.out, HL.out, HV.out, HA.out, HG.out⟩)
                    simp only [putAll, Act.put, List.setIfInBounds_toArray, List.set_cons_zero, List.set_cons_succ] <;> rfl
              · refine lit_step ?hg (N := 46) ?hd (cs := #[.slice (some ⟨g1, 0, none⟩) 1 1]) (t := 42) (n := 1) ?hr ?_; (case hd => rfl); (case hg => rfl); (case hr => first | (go_simp; done) | (go_simp; rfl))
                intro g2 hg q50 hbox hb
                have HS2 := Aside0.mk hbox
                have GHS2 : Aside0 (wr.heap.size ≤ g2) := ⟨by rw [hg]; exact HZ.out⟩
                have NHZ := Aside0.mk (Nat.le_trans HZ.out hb.size)
                have NHL := Aside0.mk (HL.out.below hb)
                have NHV := Aside0.mk (Kd.V_below HV.out hb)
                have NHA := Aside0.mk (blk_below HA.out hb)
                have NHS1 := Aside0.mk (blk_below HS1.out hb)
                clear HZ HL HV HA HS1
                have HZ := NHZ
                have HL := NHL
                have HV := NHV
                have HA := NHA
                have HS1 := NHS1
                clear NHZ NHL NHV NHA NHS1
                clear hg hbox hb
                refine hK.out _ _ ((blk_cell HL.out.h 0).trans rfl) (fun _ => ?_)
                clear hK K
                refine norm_ (a' := ?_) ?_ ?_
                rotate_left
                · show Act.put _ (some 46) _ = _
                  simp only [Act.put, List.setIfInBounds_toArray, List.set_cons_zero, List.set_cons_succ, i64_w, i32_w]
                  rfl
                refine one_ (i := 1) (N := some 42) #[true, true, true, true, true, true, false, false, false, false, true, false, false] rfl rfl (one_of rfl (by kernel_rfl)) (by decide) (fun K hK => ?_)
                · refine goes_ Tryd.func19 (by kernel_rfl) rfl #[] (by rfl) rfl rfl (by (try simp only [List.map_toArray, List.map_cons, List.map_nil]); first | done | rfl) ?_
                  refine (switchboardlaw24_tiny.calls 1 [tinyY] _ rfl).mono ?_
                  rintro e q51 ⟨vt, rfl, hvt, hb⟩
                  obtain ⟨At, ct, rfl⟩ := Kd.V_slice hvt
                  have HVT := Aside0.mk hvt
                  clear hvt
                  have NHZ := Aside0.mk (Nat.le_trans HZ.out hb.size)
                  have NHL := Aside0.mk (HL.out.below hb)
                  have NHV := Aside0.mk (Kd.V_below HV.out hb)
                  have NHA := Aside0.mk (blk_below HA.out hb)
                  have NHS1 := Aside0.mk (blk_below HS1.out hb)
                  have NHS2 := Aside0.mk (blk_below HS2.out hb)
                  clear HZ HL HV HA HS1 HS2
                  have HZ := NHZ
                  have HL := NHL
                  have HV := NHV
                  have HA := NHA
                  have HS1 := NHS1
                  have HS2 := NHS2
                  clear NHZ NHL NHV NHA NHS1 NHS2
                  clear hb
                  refine ⟨_, rfl, ?_⟩
                  refine hK.out _ _ ((blk_cell HL.out.h 0).trans rfl) (fun _ => ?_)
                  clear hK K
                  refine norm_ (a' := ?_) ?_ ?_
                  rotate_left
                  · show Act.put _ (some 42) _ = _
                    simp only [Act.put, List.setIfInBounds_toArray, List.set_cons_zero, List.set_cons_succ, i64_w, i32_w]
                    rfl
                  refine one_ (i := 6) (N := some 47) #[true, true, true, true, true, true, true, false, false, false, true, false, false] rfl rfl (one_of rfl (by kernel_rfl)) (by decide) (fun K hK => ?_)
                  · refine goes_ Tryd.func18 (by kernel_rfl) rfl #[.agg #[.slice Ah l.length ch], .agg #[.int .i64 1, .slice At 1 ct], .int .i64 (m : Int), .slice (some ⟨g2, 0, none⟩) 1 1] (by rfl) rfl rfl (by (try simp only [List.map_toArray, List.map_cons, List.map_nil]); first | done | rfl) ?_
                    refine (hall_Admit.calls kk _ _ _ _ 1 _ ct [tinyY] (m : Int) _ _ 1 [[(m : Int)]] l' e0 _ HV.out (Kd.V_reads' HVT.out).2.2 (Kd.V_reads' HVT.out).2.1 (row2_V HS1.out HS2.out) HE.out).mono ?_
                    rintro e q52 ⟨vn, rfl, hvn, hb⟩
                    have HVN := Aside0.mk (Kd.V_mono (ok' := fun k => (k ≠ w.heap.size ∧ k ≠ w.heap.size + 1 ∧ k ≠ w.heap.size + 1 + 1) ∧ k ≠ ga) hvn (fun k hk => by rcases hk with (hk | hk | hk) | hk; exact hk; (subst hk; exact ⟨HFR.out _ GHS1.out, fun e => by have h_ := HS1.out; rw [e] at h_; have := h_.symm.trans HA.out; simp at this⟩); (subst hk; exact ⟨HFR.out _ GHS2.out, fun e => by have h_ := HS2.out; rw [e] at h_; have := h_.symm.trans HA.out; simp at this⟩); exact ⟨HFR.out k (Nat.le_trans (HZ.out) hk), fun e => by have h_ := blk_lt HA.out; omega⟩))
                    clear hvn HV
                    obtain ⟨An, cn, rfl⟩ := Kd.V_slice HVN.out
                    have NHZ := Aside0.mk (Nat.le_trans HZ.out hb.size)
                    have NHL := Aside0.mk (HL.out.below hb)
                    have NHA := Aside0.mk (blk_below HA.out hb)
                    clear HZ HL HA
                    have HZ := NHZ
                    have HL := NHL
                    have HA := NHA
                    clear NHZ NHL NHA
                    clear hb HVT HS1 HS2
                    have HV := HVN
                    clear HVN
                    refine ⟨_, rfl, ?_⟩
                    refine hK.out _ _ ((blk_cell HL.out.h 0).trans rfl) (fun _ => ?_)
                    clear hK K
                    refine norm_ (a' := ?_) ?_ ?_
                    rotate_left
                    · show Act.put _ (some 47) _ = _
                      simp only [Act.put, List.setIfInBounds_toArray, List.set_cons_zero, List.set_cons_succ, i64_w, i32_w]
                      rfl
                    refine pure_ (i := 7) (N := some 40) (v := ?_) (a' := ?_) #[true, true, true, true, true, true, true, true, false, false, true, false, false] rfl rfl (any_of rfl (by kernel_rfl)) (fun _ _ _ h => h) (Or.inl ⟨by rfl, ?_⟩) ?_ ?_
                    rotate_left
                    · intro w'
                      go_simp
                      with_reducible rfl
                    rotate_left
                    · simp only [Act.put, List.setIfInBounds_toArray, List.set_cons_zero, List.set_cons_succ, i64_w, i32_w]
                      rfl
                    refine pure_ (i := 8) (N := some 48) (v := ?_) (a' := ?_) #[true, true, true, true, true, true, true, true, true, false, true, false, false] rfl rfl (any_of rfl (by kernel_rfl)) (fun _ _ _ h => h) (Or.inl ⟨by rfl, ?_⟩) ?_ ?_
                    rotate_left
                    · intro w'
                      go_simp
                      with_reducible rfl
                    rotate_left
                    · simp only [Act.put, List.setIfInBounds_toArray, List.set_cons_zero, List.set_cons_succ, i64_w, i32_w]
                      rfl
                    refine pure_ (i := 9) (N := some 49) (v := ?_) (a' := ?_) #[true, true, true, true, true, true, true, true, true, true, true, false, false] rfl rfl (any_of rfl (by kernel_rfl)) (fun _ _ _ h => h) (Or.inl ⟨by rfl, ?_⟩) ?_ ?_
                    rotate_left
                    · intro w'
                      go_simp
                      with_reducible rfl
                    rotate_left
                    · simp only [Act.put, List.setIfInBounds_toArray, List.set_cons_zero, List.set_cons_succ, i64_w, i32_w]
                      rfl
                    refine norm_ ?_ (hJ (.agg #[.int .i64 1, .slice At 1 ct], .slice (some ⟨g1, 0, none⟩) 1 1, .slice (some ⟨g2, 0, none⟩) 1 1, .slice An l'.length cn, ga) _ ⟨(blk_cell HL.out.h 0).trans rfl, HZ.out, HL.out, HV.out, HA.out, HG.out⟩)
                    simp only [putAll, Act.put, List.setIfInBounds_toArray, List.set_cons_zero, List.set_cons_succ] <;> rfl
        rintro ⟨u28, u30, u31, v4, ga⟩ wj ⟨hHeld, hHZ, hHL, hV, hA, hG⟩
        (try dsimp only at hHZ)
        (try dsimp only at hHL)
        (try dsimp only at hV)
        (try dsimp only at hA)
        (try dsimp only at hG)
        have HZ := Aside0.mk hHZ
        have HL := Aside0.mk hHL
        have HV := Aside0.mk hV
        have HA := Aside0.mk hA
        have HG := Aside0.mk hG
        clear hHZ hHL hV hA hG
        obtain ⟨An, cn, rfl⟩ := Kd.V_slice HV.out
        refine norm_ (a' := ?_) ?_ ?_
        rotate_left
        · simp only [putAll, Act.put, List.setIfInBounds_toArray, List.set_cons_zero, List.set_cons_succ]
          rfl
        refine one_ (i := 11) (N := none) #[true, true, true, true, true, true, true, true, true, true, true, true, false] rfl rfl (one_of rfl (by kernel_rfl)) (by decide) (fun K hK => ?_)
        have hs : wj.cell? ⟨ga, 0, none⟩ = some (.slice none 0 0) := (blk_cell HA.out 0).trans rfl
        have hf := blk_frozen HA.out 0
        refine skip_ (w1 := ?_) (by rfl) rfl ?_ ?_
        rotate_left
        · go_simp
          rfl
        clear hs hf
        have HGA : Aside0 (w.heap.size + 3 ≤ ga) := ⟨by have := HGW.out; have := HG.out; omega⟩
        have HL2 := Aside0.mk (HL.out.far 0 (.slice An l'.length cn) HGA.out)
        have HV2 := Aside0.mk (Kd.V_mono (ok' := fun k => k ≠ w.heap.size ∧ k ≠ w.heap.size + 1 ∧ k ≠ w.heap.size + 1 + 1) (Kd.V_far (p := ⟨ga, 0, none⟩) HV.out (fun k hk => hk.2) (.slice An l'.length cn)) (fun k hk => hk.1))
        have HM2 := Aside0.mk (blk_put HA.out 0 (.slice An l'.length cn) rfl)
        generalize (wj.setCell ⟨ga, 0, none⟩ (.slice An l'.length cn)) = w2 at HL2 HV2 HM2 ⊢
        clear HL HV HA hHeld
        refine hK.out _ _ ((blk_cell HL2.out.h 0).trans rfl) (fun hHeld => ?_)
        clear hK K hHeld
        refine pure_ (i := 12) (N := some 10) (v := ?_) (a' := ?_) #[true, true, true, true, true, true, true, true, true, true, true, true, true] rfl rfl (any_of rfl (by kernel_rfl)) (fun _ _ _ h => h) (Or.inl ⟨by rfl, ?_⟩) ?_ ?_
        rotate_left
        · intro w'
          go_simp
          with_reducible rfl
        rotate_left
        · simp only [Act.put, List.setIfInBounds_toArray, List.set_cons_zero, List.set_cons_succ, i64_w, i32_w]
          rfl
        refine done_ (done_of rfl (by kernel_rfl)) ?_
        have hg9 : w2.cell? ⟨ga, 0, none⟩ = some (.slice An l'.length cn) := (blk_cell HM2.out 0).trans rfl
        have hg3 : w2.cell? ⟨w.heap.size, 0, none⟩ = some (.slice Ah l.length ch) := (blk_cell HL2.out.h 0).trans rfl
        have hf3 := blk_frozen HL2.out.h 0
        rcases HC.out with ⟨rfl, hl', hod⟩ | ⟨rfl, hl', hbo, hbd, h4⟩ | ⟨rfl, hbo, hbd, h4, hl', hI', hn'⟩
        · subst hl'
          rcases hod with ⟨hbo, hbd⟩ | ⟨hbo, hbd⟩
          · have ho : w2.cell? ⟨w.heap.size + 1, m, none⟩ = some (.bool true) := (blk_cell HL2.out.o m).trans ((bcells_get (by rw [HO.out.lop]; omega)).trans (by rw [hbo]))
            have hd : w2.cell? ⟨w.heap.size + 1 + 1, m, none⟩ = some (.bool false) := (blk_cell HL2.out.d m).trans ((bcells_get (by rw [HO.out.ldn]; omega)).trans (by rw [hbd]))
            have hfo := blk_frozen HL2.out.o m
            have hmn : (m : Int) < 9 := by omega
            have hmn9 : m < 9 := by omega
            clear hbo hbd
            go_wp2
            go_meet
            case rel => exact ⟨l', op, dn, An, cn, rfl, ⟨by have := HI.out; omega⟩, HO, ⟨HL2.out.puth (.slice An l'.length cn)⟩, ⟨Kd.V_far (p := ⟨w.heap.size, 0, none⟩) HV2.out (fun k hk => hk.1) (.slice An l'.length cn)⟩⟩
          · have ho : w2.cell? ⟨w.heap.size + 1, m, none⟩ = some (.bool false) := (blk_cell HL2.out.o m).trans ((bcells_get (by rw [HO.out.lop]; omega)).trans (by rw [hbo]))
            have hd : w2.cell? ⟨w.heap.size + 1 + 1, m, none⟩ = some (.bool true) := (blk_cell HL2.out.d m).trans ((bcells_get (by rw [HO.out.ldn]; omega)).trans (by rw [hbd]))
            have hfo := blk_frozen HL2.out.o m
            have hmn : (m : Int) < 9 := by omega
            have hmn9 : m < 9 := by omega
            clear hbo hbd
            go_wp2
            go_meet
            case rel => exact ⟨l', op, dn, An, cn, rfl, ⟨by have := HI.out; omega⟩, HO, ⟨HL2.out.puth (.slice An l'.length cn)⟩, ⟨Kd.V_far (p := ⟨w.heap.size, 0, none⟩) HV2.out (fun k hk => hk.1) (.slice An l'.length cn)⟩⟩
        · subst hl'
          have h4a : decide (((openOf l').length : Int) < 4) = false := decide_eq_false (by omega)
          have h4b : decide ((openOf l').length < 4) = false := decide_eq_false (by omega)
          clear h4
          have ho : w2.cell? ⟨w.heap.size + 1, m, none⟩ = some (.bool false) := (blk_cell HL2.out.o m).trans ((bcells_get (by rw [HO.out.lop]; omega)).trans (by rw [hbo]))
          have hd : w2.cell? ⟨w.heap.size + 1 + 1, m, none⟩ = some (.bool false) := (blk_cell HL2.out.d m).trans ((bcells_get (by rw [HO.out.ldn]; omega)).trans (by rw [hbd]))
          have hfo := blk_frozen HL2.out.o m
          have hmn : (m : Int) < 9 := by omega
          have hmn9 : m < 9 := by omega
          clear hbo hbd
          go_wp2
          go_meet
          case rel => exact ⟨l', op, dn, An, cn, rfl, ⟨by have := HI.out; omega⟩, HO, ⟨HL2.out.puth (.slice An l'.length cn)⟩, ⟨Kd.V_far (p := ⟨w.heap.size, 0, none⟩) HV2.out (fun k hk => hk.1) (.slice An l'.length cn)⟩⟩
        · have h4a : decide (((openOf l).length : Int) < 4) = true := decide_eq_true (by omega)
          have h4b : decide ((openOf l).length < 4) = true := decide_eq_true (by omega)
          have HN' := Aside0.mk hn'
          have HI' := Aside0.mk hI'
          have HLL := Aside0.mk hl'
          clear h4 hn' hI' hl'
          have ho : w2.cell? ⟨w.heap.size + 1, m, none⟩ = some (.bool false) := (blk_cell HL2.out.o m).trans ((bcells_get (by rw [HO.out.lop]; omega)).trans (by rw [hbo]))
          have hd : w2.cell? ⟨w.heap.size + 1 + 1, m, none⟩ = some (.bool false) := (blk_cell HL2.out.d m).trans ((bcells_get (by rw [HO.out.ldn]; omega)).trans (by rw [hbd]))
          have hfo := blk_frozen HL2.out.o m
          have hmn : (m : Int) < 9 := by omega
          have hmn9 : m < 9 := by omega
          clear hbo hbd
          have hwu : wrap64 (((openOf l).length : Int) + 1) = ((openOf l).length : Int) + 1 := wrap_small (by omega) (by have := of_decide_eq_true h4a; omega)
          go_wp2
          go_meet
          case rel => exact ⟨l', op.set m true, dn, An, cn, by rw [HN'.out]; go_num, ⟨by have := HI.out; have := HLL.out; omega⟩, HI', ⟨(HL2.out.puto m true).puth (.slice An l'.length cn)⟩, ⟨Kd.V_far (p := ⟨w.heap.size, 0, none⟩) (Kd.V_far (p := ⟨w.heap.size + 1, m, none⟩) HV2.out (fun k hk => hk.2.1) (.bool true)) (fun k hk => hk.1) (.slice An l'.length cn)⟩⟩
      case rest =>
        skip
        obtain ⟨l2, op2, dn2, A2, c2, rfl, HI2, HO2, HL2, HV2⟩ := hcut
        obtain ⟨kO, hO⟩ := (open_ev l2 (by have := HI2.out; have := HI.out; omega)).rounds
        have KO := Aside0.mk hO
        clear hO
        have hg3 : wc.cell? ⟨w.heap.size, 0, none⟩ = some (.slice A2 l2.length c2) := (blk_cell HL2.out.h 0).trans rfl
        go_upto_region 26 with (go_at_call 17; (with_reducible refine (hall_Open.calls kO A2 c2 l2 (openOf l2) _ (Kd.V_reads' HV2.out).2.2 (Kd.V_reads' HV2.out).2.1 KO.out).mono ?_); rintro e w3 ⟨vo, rfl, ho, hb⟩; obtain ⟨Ao, co, rfl⟩ := Kd.R_slice ho; have HL3 := Aside0.mk (HL2.out.below hb); have HV3 := Aside0.mk (Kd.V_below HV2.out hb); clear ho hb hg3)
        go_wp2
        go_loopw [14] (fun v14 W => ∃ n : Nat, v14 = .int .i64 (n : Int) ∧ Aside0 (1 ≤ n ∧ n ≤ 9) ∧ Aside0 (KW w W (.slice A2 l2.length c2) op2 dn2) ∧ Aside0 (Kd.V k44 44 W 0 (fun k => k ≠ w.heap.size ∧ k ≠ w.heap.size + 1 ∧ k ≠ w.heap.size + 1 + 1) (.slice A2 l2.length c2) l2)) (fun v14 _ => 9 - (intOf v14).toNat)
        case atStart => exact ⟨1, rfl, ⟨by omega⟩, HL3, HV3⟩
        case round =>
          clear HL3 HV3
          obtain ⟨n, rfl, HN, HL4, HV4⟩ := hrel
          by_cases hn : n < 9
          case neg =>
            have k9 : decide ((n : Int) < 9) = false := decide_eq_false (by omega)
            have k9n : decide (n < 9) = false := decide_eq_false hn
            clear hn
            have hi60 := HI.out.1
            have hwi : wrap64 ((i : Int) + 1) = (i : Int) + 1 := wrap_small (by omega) (by omega)
            have HI60 := Aside0.mk (of_decide_eq_true k2n)
            go_wp2
            go_roundw
            case rel => exact ⟨i + 1, l2, op2, dn2, A2, c2, rfl, by go_num, ⟨by have := HI2.out; have := HI60.out; omega⟩, HO2, HL4, HV4⟩
            case measure => have := HI60.out; simp [intOf]; omega
          have k9 : decide ((n : Int) < 9) = true := decide_eq_true (by omega)
          have k9n : decide (n < 9) = true := decide_eq_true hn
          have hn1 := HN.out.1
          obtain ⟨r, e0, hE, hcase⟩ := HO2.out.reply hn1 (by omega)
          have HE := Aside0.mk hE
          clear hE
          have hwn : wrap64 (100 + (n : Int)) = 100 + (n : Int) := wrap_small (by omega) (by omega)
          have hwn1 : wrap64 ((n : Int) + 1) = (n : Int) + 1 := wrap_small (by omega) (by omega)
          have hnn : (n : Int) < 9 := by omega
          have hg3 : wr.cell? ⟨w.heap.size, 0, none⟩ = some (.slice A2 l2.length c2) := (blk_cell HL4.out.h 0).trans rfl
          rcases hcase with ⟨hbo, hbd, rfl, rfl⟩ | ⟨hbo, hbd, rfl, rfl⟩ | ⟨hbo, hbd, rfl, rfl⟩
          · go_upto_region 30 with (go_at_call 12; (with_reducible refine (hall_Reply.calls (fun k => k ≠ w.heap.size ∧ k ≠ w.heap.size + 1 ∧ k ≠ w.heap.size + 1 + 1) A2 c2 l2 (n : Int) [[100 + (n : Int)]] 0 _ HV4.out HE.out).mono ?_); rintro e w5 ⟨vq, rfl, hvq, hb⟩; have HL5 := Aside0.mk (HL4.out.below hb); have HV5 := Aside0.mk (Kd.V_below HV4.out hb); have HQ := Aside0.mk (Kd.N_V (base' := 0) hvq); have ho5 : w5.cell? ⟨w.heap.size + 1, n, none⟩ = some (.bool false) := (blk_cell HL5.out.o n).trans ((bcells_get (by rw [HO2.out.lop]; omega)).trans (by rw [hbo])); have hd5 : w5.cell? ⟨w.heap.size + 1 + 1, n, none⟩ = some (.bool true) := (blk_cell HL5.out.d n).trans ((bcells_get (by rw [HO2.out.ldn]; omega)).trans (by rw [hbd])); obtain ⟨Aq, cq, rfl⟩ := Kd.V_slice HQ.out; obtain ⟨aq, bq, x, hqa, hq1, hq2⟩ := row_one (Kd.V_reads' HQ.out).2.2; subst hqa; clear hb hvq hg3)
            clear hbo hbd
            go_wp2
            go_roundw
            case rel => exact ⟨n + 1, by go_num, ⟨by omega⟩, HL5, HV5⟩
            case measure => simp [intOf]; omega
          · go_upto_region 30 with (go_at_call 12; (with_reducible refine (hall_Reply.calls (fun k => k ≠ w.heap.size ∧ k ≠ w.heap.size + 1 ∧ k ≠ w.heap.size + 1 + 1) A2 c2 l2 (n : Int) [] 8 _ HV4.out HE.out).mono ?_); rintro e w5 ⟨vq, rfl, hvq, hb⟩; have HL5 := Aside0.mk (HL4.out.below hb); have HV5 := Aside0.mk (Kd.V_below HV4.out hb); have HQ := Aside0.mk (Kd.N_V (base' := 0) hvq); have ho5 : w5.cell? ⟨w.heap.size + 1, n, none⟩ = some (.bool true) := (blk_cell HL5.out.o n).trans ((bcells_get (by rw [HO2.out.lop]; omega)).trans (by rw [hbo])); have hd5 : w5.cell? ⟨w.heap.size + 1 + 1, n, none⟩ = some (.bool false) := (blk_cell HL5.out.d n).trans ((bcells_get (by rw [HO2.out.ldn]; omega)).trans (by rw [hbd])); clear hb hvq hg3)
            clear hbo hbd
            go_wp2
            go_roundw
            case rel => exact ⟨n + 1, by go_num, ⟨by omega⟩, HL5, HV5⟩
            case measure => simp [intOf]; omega
          · go_upto_region 30 with (go_at_call 12; (with_reducible refine (hall_Reply.calls (fun k => k ≠ w.heap.size ∧ k ≠ w.heap.size + 1 ∧ k ≠ w.heap.size + 1 + 1) A2 c2 l2 (n : Int) [] 4 _ HV4.out HE.out).mono ?_); rintro e w5 ⟨vq, rfl, hvq, hb⟩; have HL5 := Aside0.mk (HL4.out.below hb); have HV5 := Aside0.mk (Kd.V_below HV4.out hb); have HQ := Aside0.mk (Kd.N_V (base' := 0) hvq); have ho5 : w5.cell? ⟨w.heap.size + 1, n, none⟩ = some (.bool false) := (blk_cell HL5.out.o n).trans ((bcells_get (by rw [HO2.out.lop]; omega)).trans (by rw [hbo])); have hd5 : w5.cell? ⟨w.heap.size + 1 + 1, n, none⟩ = some (.bool false) := (blk_cell HL5.out.d n).trans ((bcells_get (by rw [HO2.out.ldn]; omega)).trans (by rw [hbd])); clear hb hvq hg3)
            clear hbo hbd
            go_wp2
            go_roundw
            case rel => exact ⟨n + 1, by go_num, ⟨by omega⟩, HL5, HV5⟩
            case measure => simp [intOf]; omega
    · have ha1 : decide (t % 16 < 8) = false := decide_eq_false (by omega)
      have ha2 : decide ((t : Int) % 16 < 8) = false := decide_eq_false (by omega)
      clear hact
      go_upto_if 39 with (fail)
      clear hlt h60
      go_cut [6] from 17 to 180 (fun v6 W => ∃ (l : List S44) (op dn : List Bool) (Ah : Option Addr) (ch : Nat), v6 = .int .i64 ((openOf l).length : Int) ∧ Aside0 (l.length ≤ i + 1) ∧ Aside0 (KInv l op dn) ∧ Aside0 (KW w W (.slice Ah l.length ch) op dn) ∧ Aside0 (Kd.V k44 44 W 0 (fun k => k ≠ w.heap.size ∧ k ≠ w.heap.size + 1 ∧ k ≠ w.heap.size + 1 + 1) (.slice Ah l.length ch) l))
      case first =>
        obtain ⟨l', e0, hE, hl', hcase⟩ := HO.out.finish (by have := HI.out; omega) hm1 hm8
        have HE := Aside0.mk hE
        have HC := Aside0.mk hcase
        have HLL := Aside0.mk hl'
        have HGW := Aside0.mk HL.out.size
        clear hE hcase hl'
        have hg3 : wr.cell? ⟨w.heap.size, 0, none⟩ = some (.slice Ah l.length ch) := (blk_cell HL.out.h 0).trans rfl
        go_upto_region 18 with (go_at_call 10; refine (hall_Finish.calls (fun k => k ≠ w.heap.size ∧ k ≠ w.heap.size + 1 ∧ k ≠ w.heap.size + 1 + 1) Ah ch l (m : Int) _ _ 1 [[100 + (m : Int)]] l' e0 _ (Kd.V_below HV.out (below_alloc (below_alloc (Below.refl _ _) _) _)) (row2_V (g1 := wr.heap.size) (g2 := wr.heap.size + 1) ?b1 ?b2) HE.out).mono ?_; (case b1 => exact blk_alloc (alloc_at _ rfl) _); (case b2 => exact alloc_at _ (by simp)); rintro e w7 ⟨vf, rfl, hvf, hb⟩; obtain ⟨An, cn, rfl⟩ := Kd.V_slice hvf; have HB7 := Aside0.mk (below_step (below_alloc (below_alloc (Below.refl wr.heap.size wr) _) _) hb); have HV7 := Aside0.mk (Kd.V_mono (ok' := fun k => k ≠ w.heap.size ∧ k ≠ w.heap.size + 1 ∧ k ≠ w.heap.size + 1 + 1) hvf (fun k hk => by have hg6 := HGW.out; rcases hk with (hk | hk | hk) | hk; exact hk; omega; omega; (simp at hk; omega))); have HL7 := Aside0.mk (HL.out.below HB7.out); clear hvf hb hg3 hx)
        have HL8 := Aside0.mk (HL7.out.below (below_alloc (Below.refl _ _) (.cells #[.slice An l'.length cn] 24)))
        have HV8 := Aside0.mk (Kd.V_alloc HV7.out (.cells #[.slice An l'.length cn] 24))
        have HM8 := Aside0.mk (alloc_at (W := w7) (.cells #[.slice An l'.length cn] 24) rfl)
        generalize w7.alloc (.cells #[.slice An l'.length cn] 24) = w8 at HL8 HV8 HM8 ⊢
        clear HL7 HV7 HB7 HL HV
        generalize w7.heap.size = ga at HM8 ⊢
        have hg9 : w8.cell? ⟨ga, 0, none⟩ = some (.slice An l'.length cn) := (blk_cell HM8.out 0).trans rfl
        have hg3 : w8.cell? ⟨w.heap.size, 0, none⟩ = some (.slice Ah l.length ch) := (blk_cell HL8.out.h 0).trans rfl
        have hf3 := blk_frozen HL8.out.h 0
        have hmn : (m : Int) < 9 := by omega
        have hmn9 : m < 9 := by omega
        have hfo := blk_frozen HL8.out.o m
        have hfd := blk_frozen HL8.out.d m
        rcases HC.out with ⟨rfl, hl', hbo⟩ | ⟨rfl, hbo, hI', hn'⟩
        · subst hl'
          have ho : w8.cell? ⟨w.heap.size + 1, m, none⟩ = some (.bool false) := (blk_cell HL8.out.o m).trans ((bcells_get (by rw [HO.out.lop]; omega)).trans (by rw [hbo]))
          clear hbo
          go_wp2
          go_meet
          case rel => exact ⟨l', op, dn, An, cn, rfl, ⟨by have := HI.out; omega⟩, HO, ⟨HL8.out.puth (.slice An l'.length cn)⟩, ⟨Kd.V_far (p := ⟨w.heap.size, 0, none⟩) HV8.out (fun k hk => hk.1) (.slice An l'.length cn)⟩⟩
        · have HN' := Aside0.mk hn'
          have HI' := Aside0.mk hI'
          have ho : w8.cell? ⟨w.heap.size + 1, m, none⟩ = some (.bool true) := (blk_cell HL8.out.o m).trans ((bcells_get (by rw [HO.out.lop]; omega)).trans (by rw [hbo]))
          have hd : w8.cell? ⟨w.heap.size + 1 + 1, m, none⟩ = some (.bool (dn.getD m false)) := (blk_cell HL8.out.d m).trans (bcells_get (by rw [HO.out.ldn]; omega))
          have hwu : wrap64 (((openOf l).length : Int) - 1) = ((openOf l).length : Int) - 1 := wrap_small (by omega) (by have h1 := HI.out; have h2 : (openOf l).length ≤ l.length := open_le l; omega)
          clear hbo hI' hn'
          go_wp2
          go_meet
          case rel => exact ⟨l', op.set m false, dn.set m true, An, cn, by have := HN'.out; exact congrArg (Value.int .i64) (by omega), ⟨by have := HI.out; have := HLL.out; omega⟩, HI', ⟨((HL8.out.puto m false).putd m true).puth (.slice An l'.length cn)⟩, ⟨Kd.V_far (p := ⟨w.heap.size, 0, none⟩) (Kd.V_far (p := ⟨w.heap.size + 1 + 1, m, none⟩) (Kd.V_far (p := ⟨w.heap.size + 1, m, none⟩) HV8.out (fun k hk => hk.2.1) (.bool false)) (fun k hk => hk.2.2) (.bool true)) (fun k hk => hk.1) (.slice An l'.length cn)⟩⟩
      case rest =>
        skip
        obtain ⟨l2, op2, dn2, A2, c2, rfl, HI2, HO2, HL2, HV2⟩ := hcut
        obtain ⟨kO, hO⟩ := (open_ev l2 (by have := HI2.out; have := HI.out; omega)).rounds
        have KO := Aside0.mk hO
        clear hO
        have hg3 : wc.cell? ⟨w.heap.size, 0, none⟩ = some (.slice A2 l2.length c2) := (blk_cell HL2.out.h 0).trans rfl
        go_upto_region 26 with (go_at_call 17; (with_reducible refine (hall_Open.calls kO A2 c2 l2 (openOf l2) _ (Kd.V_reads' HV2.out).2.2 (Kd.V_reads' HV2.out).2.1 KO.out).mono ?_); rintro e w3 ⟨vo, rfl, ho, hb⟩; obtain ⟨Ao, co, rfl⟩ := Kd.R_slice ho; have HL3 := Aside0.mk (HL2.out.below hb); have HV3 := Aside0.mk (Kd.V_below HV2.out hb); clear ho hb hg3)
        go_wp2
        go_loopw [14] (fun v14 W => ∃ n : Nat, v14 = .int .i64 (n : Int) ∧ Aside0 (1 ≤ n ∧ n ≤ 9) ∧ Aside0 (KW w W (.slice A2 l2.length c2) op2 dn2) ∧ Aside0 (Kd.V k44 44 W 0 (fun k => k ≠ w.heap.size ∧ k ≠ w.heap.size + 1 ∧ k ≠ w.heap.size + 1 + 1) (.slice A2 l2.length c2) l2)) (fun v14 _ => 9 - (intOf v14).toNat)
        case atStart => exact ⟨1, rfl, ⟨by omega⟩, HL3, HV3⟩
        case round =>
          clear HL3 HV3
          obtain ⟨n, rfl, HN, HL4, HV4⟩ := hrel
          by_cases hn : n < 9
          case neg =>
            have k9 : decide ((n : Int) < 9) = false := decide_eq_false (by omega)
            have k9n : decide (n < 9) = false := decide_eq_false hn
            clear hn
            have hi60 := HI.out.1
            have hwi : wrap64 ((i : Int) + 1) = (i : Int) + 1 := wrap_small (by omega) (by omega)
            have HI60 := Aside0.mk (of_decide_eq_true k2n)
            go_wp2
            go_roundw
            case rel => exact ⟨i + 1, l2, op2, dn2, A2, c2, rfl, by go_num, ⟨by have := HI2.out; have := HI60.out; omega⟩, HO2, HL4, HV4⟩
            case measure => have := HI60.out; simp [intOf]; omega
          have k9 : decide ((n : Int) < 9) = true := decide_eq_true (by omega)
          have k9n : decide (n < 9) = true := decide_eq_true hn
          have hn1 := HN.out.1
          obtain ⟨r, e0, hE, hcase⟩ := HO2.out.reply hn1 (by omega)
          have HE := Aside0.mk hE
          clear hE
          have hwn : wrap64 (100 + (n : Int)) = 100 + (n : Int) := wrap_small (by omega) (by omega)
          have hwn1 : wrap64 ((n : Int) + 1) = (n : Int) + 1 := wrap_small (by omega) (by omega)
          have hnn : (n : Int) < 9 := by omega
          have hg3 : wr.cell? ⟨w.heap.size, 0, none⟩ = some (.slice A2 l2.length c2) := (blk_cell HL4.out.h 0).trans rfl
          rcases hcase with ⟨hbo, hbd, rfl, rfl⟩ | ⟨hbo, hbd, rfl, rfl⟩ | ⟨hbo, hbd, rfl, rfl⟩
          · go_upto_region 30 with (go_at_call 12; (with_reducible refine (hall_Reply.calls (fun k => k ≠ w.heap.size ∧ k ≠ w.heap.size + 1 ∧ k ≠ w.heap.size + 1 + 1) A2 c2 l2 (n : Int) [[100 + (n : Int)]] 0 _ HV4.out HE.out).mono ?_); rintro e w5 ⟨vq, rfl, hvq, hb⟩; have HL5 := Aside0.mk (HL4.out.below hb); have HV5 := Aside0.mk (Kd.V_below HV4.out hb); have HQ := Aside0.mk (Kd.N_V (base' := 0) hvq); have ho5 : w5.cell? ⟨w.heap.size + 1, n, none⟩ = some (.bool false) := (blk_cell HL5.out.o n).trans ((bcells_get (by rw [HO2.out.lop]; omega)).trans (by rw [hbo])); have hd5 : w5.cell? ⟨w.heap.size + 1 + 1, n, none⟩ = some (.bool true) := (blk_cell HL5.out.d n).trans ((bcells_get (by rw [HO2.out.ldn]; omega)).trans (by rw [hbd])); obtain ⟨Aq, cq, rfl⟩ := Kd.V_slice HQ.out; obtain ⟨aq, bq, x, hqa, hq1, hq2⟩ := row_one (Kd.V_reads' HQ.out).2.2; subst hqa; clear hb hvq hg3)
            clear hbo hbd
            go_wp2
            go_roundw
            case rel => exact ⟨n + 1, by go_num, ⟨by omega⟩, HL5, HV5⟩
            case measure => simp [intOf]; omega
          · go_upto_region 30 with (go_at_call 12; (with_reducible refine (hall_Reply.calls (fun k => k ≠ w.heap.size ∧ k ≠ w.heap.size + 1 ∧ k ≠ w.heap.size + 1 + 1) A2 c2 l2 (n : Int) [] 8 _ HV4.out HE.out).mono ?_); rintro e w5 ⟨vq, rfl, hvq, hb⟩; have HL5 := Aside0.mk (HL4.out.below hb); have HV5 := Aside0.mk (Kd.V_below HV4.out hb); have HQ := Aside0.mk (Kd.N_V (base' := 0) hvq); have ho5 : w5.cell? ⟨w.heap.size + 1, n, none⟩ = some (.bool true) := (blk_cell HL5.out.o n).trans ((bcells_get (by rw [HO2.out.lop]; omega)).trans (by rw [hbo])); have hd5 : w5.cell? ⟨w.heap.size + 1 + 1, n, none⟩ = some (.bool false) := (blk_cell HL5.out.d n).trans ((bcells_get (by rw [HO2.out.ldn]; omega)).trans (by rw [hbd])); clear hb hvq hg3)
            clear hbo hbd
            go_wp2
            go_roundw
            case rel => exact ⟨n + 1, by go_num, ⟨by omega⟩, HL5, HV5⟩
            case measure => simp [intOf]; omega
          · go_upto_region 30 with (go_at_call 12; (with_reducible refine (hall_Reply.calls (fun k => k ≠ w.heap.size ∧ k ≠ w.heap.size + 1 ∧ k ≠ w.heap.size + 1 + 1) A2 c2 l2 (n : Int) [] 4 _ HV4.out HE.out).mono ?_); rintro e w5 ⟨vq, rfl, hvq, hb⟩; have HL5 := Aside0.mk (HL4.out.below hb); have HV5 := Aside0.mk (Kd.V_below HV4.out hb); have HQ := Aside0.mk (Kd.N_V (base' := 0) hvq); have ho5 : w5.cell? ⟨w.heap.size + 1, n, none⟩ = some (.bool false) := (blk_cell HL5.out.o n).trans ((bcells_get (by rw [HO2.out.lop]; omega)).trans (by rw [hbo])); have hd5 : w5.cell? ⟨w.heap.size + 1 + 1, n, none⟩ = some (.bool false) := (blk_cell HL5.out.d n).trans ((bcells_get (by rw [HO2.out.ldn]; omega)).trans (by rw [hbd])); clear hb hvq hg3)
            clear hbo hbd
            go_wp2
            go_roundw
            case rel => exact ⟨n + 1, by go_num, ⟨by omega⟩, HL5, HV5⟩
            case measure => simp [intOf]; omega


end Go.Proofs.YtlbkfeelkdombaaDoor.Ph
