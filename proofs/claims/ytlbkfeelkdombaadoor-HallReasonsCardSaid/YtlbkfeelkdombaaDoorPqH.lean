/- Own text, by hand: the walk of the fixed answer. -/
import Derived.Test.YtlbkfeelkdombaaDoorPq0
import Derived.Test.YtlbkfeelkdombaaDoorPq1
import Derived.Test.YtlbkfeelkdombaaDoorPq2
import Derived.Test.YtlbkfeelkdombaaDoorPq3
import Derived.Test.YtlbkfeelkdombaaDoorPq4
import Derived.Test.YtlbkfeelkdombaaDoorPq5
import Derived.Test.YtlbkfeelkdombaaDoorPqG
namespace Go.Proofs.YtlbkfeelkdombaaDoor.Pq
open Go.RowKit Go.Proofs.YtlbkfeelkdombaaDoorW.PrintWords Go.Proofs.YtlbkfeelkdombaaDoorW.PrintLast Go.Proofs.YtlbkfeelkdombaaDoorW.PrintMore
attribute [local go_sem] max2_int min2_int max_two min_two max_three min_three max_four min_four
set_option linter.unusedVariables false
set_option linter.unusedSimpArgs false

theorem addr_add0 (a : Addr) : a.add 0 = a := by
  obtain ⟨b, o, p⟩ := a
  unfold Addr.add
  split <;> simp_all
/-- A row of one row of one number: where its cells lie. -/
theorem row_one {W : World} {A : Option Addr} {x : Int} (h : (Kd.slice 3 (Kd.int .i64)).C W A 1 [[x]]) : ∃ (ad bd : Addr) (c : Nat), A = some ad ∧ W.cell? ad = some (.slice (some bd) 1 c) ∧ W.cell? bd = some (.int .i64 x) := by
  obtain ⟨_, _, h1⟩ := h
  obtain ⟨ad, hA, h2⟩ := h1 (by decide)
  obtain ⟨cs, hl, ⟨B, c, rfl, hc, hr⟩, h3⟩ := h2 0 [x] rfl
  have h4 := h3 0 _ rfl
  obtain ⟨bd, rfl, h5⟩ := Kd.at_int hr 0 (by decide) (by simp)
  rw [show 0 * (Kd.slice 3 (Kd.int .i64)).sz + 0 = 0 from rfl, addr_add0] at h4
  rw [show (0 : Int).toNat = 0 from rfl, addr_add0] at h5
  exact ⟨ad, bd, c, hA, h4, h5⟩

def switchboardlaw24_awake.f : Option Bool := some true
set_option maxHeartbeats 4000000 in
set_option maxRecDepth 100000 in
theorem switchboardlaw24_awake.calls (r : Bool) (w : World) (h : switchboardlaw24_awake.f = some r) :
    Calls Tryd.prog 9 #[] w fun e w' => e = .returned (.bool r) ∧ Below w.heap.size w w' := by
  have hu24 := Tryd.underlying24
  obtain rfl := Option.some.inj h
  clear h
  obtain ⟨l1, hl1⟩ : ∃ l, l = [mkE 1 5] := ⟨_, rfl⟩
  obtain ⟨l2, hl2⟩ : ∃ l : List S44, l = [⟨1, [[5]], true, [[6]]⟩] := ⟨_, rfl⟩
  have K1 : Aside0 (hall_Admit.f 9 [] 1 [tinyY] 1 [[5]] = some (l1, 0)) := ⟨by rw [hl1]; kernel_rfl⟩
  have K2 : Aside0 (hall_Reply.f l1 1 = some ([], 8)) := ⟨by rw [hl1]; kernel_rfl⟩
  have K3 : Aside0 (hall_Admit.f 9 l1 1 [tinyY] 1 [[5]] = some (l1, 5)) := ⟨by rw [hl1]; kernel_rfl⟩
  have K4 : Aside0 (hall_Finish.f l1 1 [[6]] = some (l2, 0)) := ⟨by rw [hl1, hl2]; kernel_rfl⟩
  have K5 : Aside0 (hall_Reply.f l2 1 = some ([[6]], 0)) := ⟨by rw [hl2]; kernel_rfl⟩
  clear hl1 hl2
  go_enter Tryd.func9, Tryd.ntmps9
  go_upto_region 2 with (first | (go_at_call 19; refine (switchboardlaw24_tiny.calls 1 [tinyY] _ rfl).mono ?_; rintro e w1 ⟨vt, rfl, hvt, hb⟩; obtain ⟨At, ct, rfl⟩ := Kd.V_slice hvt; have HVT := Aside0.mk hvt; have HB1 := Aside0.mk hb; clear hvt hb) | (go_at_call 18; refine (hall_Admit.calls 9 (fun _ => False) none 0 [] 1 _ ct [tinyY] 1 _ _ 1 [[5]] l1 0 _ (Kd.V_nil _ _ _ _ _) (Kd.C_below (Kd.V_reads' HVT.out).2.2 (below_alloc (below_alloc (Below.refl _ _) _) _)) (Kd.V_reads' HVT.out).2.1 (row2_V (g1 := w1.heap.size) (g2 := w1.heap.size + 1) ?b1 ?b2) K1.out).mono ?_; (case b1 => exact blk_alloc (alloc_at _ rfl) _); (case b2 => exact alloc_at _ (by simp)); rintro e w2 ⟨vh, rfl, hvh, hb⟩; obtain ⟨Ah, ch, rfl⟩ := Kd.V_slice hvh; have HVH := Aside0.mk hvh; have HB2 := Aside0.mk (below_step (below_alloc (below_alloc HB1.out _) _) hb); clear hvh hb HB1 HVT))
  have HL : Aside0 (HW w (w2.alloc (.cells #[.slice Ah l1.length ch] 24)) w2.heap.size #[.slice Ah l1.length ch]) := ⟨⟨below_alloc HB2.out _, below_size HB2.out, alloc_at _ rfl⟩⟩
  have HV := Aside0.mk (Kd.V_mono (ok' := fun k => k ≠ w2.heap.size) (Kd.V_alloc (Kd.V_bound HVH.out) (.cells #[.slice Ah l1.length ch] 24)) (fun k hk => Nat.ne_of_lt hk.2))
  clear HVH HB2
  generalize w2.alloc (.cells #[.slice Ah l1.length ch] 24) = w3 at HL HV ⊢
  generalize w2.heap.size = gh at HL HV ⊢
  have hh : w3.cell? ⟨gh, 0, none⟩ = some (.slice Ah l1.length ch) := (blk_cell HL.out.box 0).trans rfl
  go_upto_region 3 with (go_at_call 12; refine (hall_Reply.calls _ Ah ch l1 1 [] 8 _ HV.out K2.out).mono ?_; rintro e w4 ⟨vr, rfl, hvr, hb⟩; have HL4 := Aside0.mk (HL.out.below hb); have HV4 := Aside0.mk (Kd.V_below HV.out hb); clear hb hvr hh HL HV)
  have HGW := Aside0.mk (blk_lt HL4.out.box)
  refine start_ (n := 11) (S := fun W => W.cell? ⟨gh, 0, none⟩ = some (.slice Ah l1.length ch)) (ds := []) #[false, false, false, false, false, false, false, false, false, false, false] (by kernel_rfl) rfl rfl ((blk_cell (blk_drew HL4.out.box) 0).trans rfl) (fun hHeld => ?_)
  have HZ : Aside0 (w4.heap.size ≤ w4.drew.heap.size) := ⟨Nat.le_refl _⟩
  have HL := Aside0.mk (HL4.out.below (below_drew (Below.refl _ _)))
  have HV := Aside0.mk (Kd.V_drew HV4.out)
  have HO := Aside0.mk (Kd.V_bound (Kd.V_drew HV4.out))
  have HO : Aside0 (Kd.V k44 44 w4.drew 0 (fun k => k ≠ gh ∧ k < w4.heap.size) (.slice Ah l1.length ch) l1) := ⟨HO.out⟩
  have HFR : Aside0 (∀ k, w4.heap.size ≤ k → k ≠ gh) := ⟨fun k hk => by have := HGW.out; omega⟩
  clear HL4 HV4
  generalize w4.drew = w5 at HZ HL HV HO hHeld ⊢
  refine take_ (i := 0) (N := some 24) (v := ?_) (a' := ?_) #[true, false, false, false, false, false, false, false, false, false, false] rfl rfl (take_of rfl (by kernel_rfl)) (fun _ _ _ h => h) (Or.inl ⟨by rfl, ?_⟩) hHeld ?_ ?_
  rotate_left
  · rintro w' s0
    go_simp
    with_reducible rfl
  rotate_left
  · simp only [Act.put, List.setIfInBounds_toArray, List.set_cons_zero, List.set_cons_succ, i64_w, i32_w]
    rfl
  clear hHeld
  refine join_ (σ := Value × Value × Value × Value × Nat) 2 #[true, true, true, true, true, true, true, true, true, false, false] (fun s_ => [(25, s_.1), (26, s_.2.1), (27, s_.2.2.1), (28, .tuple #[.agg #[s_.2.2.2.1], .int .i64 5]), (23, .tuple #[.agg #[s_.2.2.2.1], .int .i64 5]), (29, .agg #[s_.2.2.2.1]), (30, .int .i64 5), (5, .pointer (some ⟨s_.2.2.2.2, 0, none⟩))]) (fun s_ w' => (w'.cell? ⟨gh, 0, none⟩ = some (.slice Ah l1.length ch)) ∧ (w4.heap.size ≤ w'.heap.size) ∧ (HW w w' gh #[.slice Ah l1.length ch]) ∧ (Kd.V k44 44 w' 0 (fun k => k ≠ gh ∧ k < w4.heap.size) (.slice Ah l1.length ch) l1) ∧ (Kd.V k44 44 w' 0 (fun k => (k ≠ gh) ∧ k ≠ s_.2.2.2.2) s_.2.2.2.1 l1) ∧ (w'.heap[s_.2.2.2.2]? = some (.cells #[.slice none 0 0] 24 (0, 0))) ∧ (w4.heap.size ≤ s_.2.2.2.2)) ?_ ?_
  rotate_left
  · intro hJ
    refine three_ (i := 1) (j := 2) (k := 8) (Ni := some 25) (Nj := some 26) (Nk := some 5) #[true, true, false, false, false, false, false, false, false, false, false] #[true, false, true, false, false, false, false, false, false, false, false] #[true, false, false, false, false, false, false, false, true, false, false] rfl rfl rfl rfl rfl rfl (three_of rfl (by kernel_rfl)) (by decide) (by decide) (by decide) (fun K hK => ?_) (fun K hK => ?_) (fun K hK => ?_)
    · refine goes_ Tryd.func19 (by kernel_rfl) rfl #[] (by rfl) rfl rfl (by (try simp only [List.map_toArray, List.map_cons, List.map_nil]); first | done | rfl) ?_
      refine (switchboardlaw24_tiny.calls 1 [tinyY] _ rfl).mono ?_
      rintro e q1 ⟨vt, rfl, hvt, hb⟩
      obtain ⟨At, ct, rfl⟩ := Kd.V_slice hvt
      have HVT := Aside0.mk hvt
      clear hvt
      have NHZ := Aside0.mk (Nat.le_trans HZ.out hb.size)
      have NHL := Aside0.mk (HL.out.below hb)
      have NHO := Aside0.mk (Kd.V_below HO.out hb)
      have NHV := Aside0.mk (Kd.V_below HV.out hb)
      clear HZ HL HO HV
      have HZ := NHZ
      have HL := NHL
      have HO := NHO
      have HV := NHV
      clear NHZ NHL NHO NHV
      clear hb
      refine ⟨_, rfl, ?_⟩
      refine hK.out _ _ ((blk_cell HL.out.box 0).trans rfl) (fun _ => ?_)
      clear hK K
      refine norm_ (a' := ?_) ?_ ?_
      rotate_left
      · show Act.put _ (some 25) _ = _
        simp only [Act.put, List.setIfInBounds_toArray, List.set_cons_zero, List.set_cons_succ, i64_w, i32_w]
        rfl
      refine two_ (i := 2) (j := 8) (Ni := some 26) (Nj := some 5) #[true, true, true, false, false, false, false, false, false, false, false] #[true, true, false, false, false, false, false, false, true, false, false] rfl rfl rfl rfl (two_of rfl (by kernel_rfl)) (by decide) (by decide) (fun K hK => ?_) (fun K hK => ?_)
      · refine lit_step ?hg (N := 26) ?hd (cs := #[.int .i64 5]) (t := 3) (n := 1) ?hr ?_; (case hd => rfl); (case hg => rfl); (case hr => first | (go_simp; done) | (go_simp; rfl))
        intro g1 hg q2 hbox hb
        have HS1 := Aside0.mk hbox
        have GHS1 : Aside0 (w4.heap.size ≤ g1) := ⟨by rw [hg]; exact HZ.out⟩
        have NHZ := Aside0.mk (Nat.le_trans HZ.out hb.size)
        have NHL := Aside0.mk (HL.out.below hb)
        have NHO := Aside0.mk (Kd.V_below HO.out hb)
        have NHV := Aside0.mk (Kd.V_below HV.out hb)
        have NHVT := Aside0.mk (Kd.V_below HVT.out hb)
        clear HZ HL HO HV HVT
        have HZ := NHZ
        have HL := NHL
        have HO := NHO
        have HV := NHV
        have HVT := NHVT
        clear NHZ NHL NHO NHV NHVT
        clear hg hbox hb
        refine hK.out _ _ ((blk_cell HL.out.box 0).trans rfl) (fun _ => ?_)
        clear hK K
        refine norm_ (a' := ?_) ?_ ?_
        rotate_left
        · show Act.put _ (some 26) _ = _
          simp only [Act.put, List.setIfInBounds_toArray, List.set_cons_zero, List.set_cons_succ, i64_w, i32_w]
          rfl
        refine two_ (i := 3) (j := 8) (Ni := some 27) (Nj := some 5) #[true, true, true, true, false, false, false, false, false, false, false] #[true, true, true, false, false, false, false, false, true, false, false] rfl rfl rfl rfl (two_of rfl (by kernel_rfl)) (by decide) (by decide) (fun K hK => ?_) (fun K hK => ?_)
        · refine lit_step ?hg (N := 27) ?hd (cs := #[.slice (some ⟨g1, 0, none⟩) 1 1]) (t := 42) (n := 1) ?hr ?_; (case hd => rfl); (case hg => rfl); (case hr => first | (go_simp; done) | (go_simp; rfl))
          intro g2 hg q3 hbox hb
          have HS2 := Aside0.mk hbox
          have GHS2 : Aside0 (w4.heap.size ≤ g2) := ⟨by rw [hg]; exact HZ.out⟩
          have NHZ := Aside0.mk (Nat.le_trans HZ.out hb.size)
          have NHL := Aside0.mk (HL.out.below hb)
          have NHO := Aside0.mk (Kd.V_below HO.out hb)
          have NHV := Aside0.mk (Kd.V_below HV.out hb)
          have NHVT := Aside0.mk (Kd.V_below HVT.out hb)
          have NHS1 := Aside0.mk (blk_below HS1.out hb)
          clear HZ HL HO HV HVT HS1
          have HZ := NHZ
          have HL := NHL
          have HO := NHO
          have HV := NHV
          have HVT := NHVT
          have HS1 := NHS1
          clear NHZ NHL NHO NHV NHVT NHS1
          clear hg hbox hb
          refine hK.out _ _ ((blk_cell HL.out.box 0).trans rfl) (fun _ => ?_)
          clear hK K
          refine norm_ (a' := ?_) ?_ ?_
          rotate_left
          · show Act.put _ (some 27) _ = _
            simp only [Act.put, List.setIfInBounds_toArray, List.set_cons_zero, List.set_cons_succ, i64_w, i32_w]
            rfl
          refine two_ (i := 4) (j := 8) (Ni := some 28) (Nj := some 5) #[true, true, true, true, true, false, false, false, false, false, false] #[true, true, true, true, false, false, false, false, true, false, false] rfl rfl rfl rfl (two_of rfl (by kernel_rfl)) (by decide) (by decide) (fun K hK => ?_) (fun K hK => ?_)
          · refine goes_ Tryd.func18 (by kernel_rfl) rfl #[.agg #[.slice Ah l1.length ch], .agg #[.int .i64 1, .slice At 1 ct], .int .i64 1, .slice (some ⟨g2, 0, none⟩) 1 1] (by rfl) rfl rfl (by (try simp only [List.map_toArray, List.map_cons, List.map_nil]); first | done | rfl) ?_
            refine (hall_Admit.calls 9 _ _ _ _ 1 _ ct [tinyY] 1 _ _ 1 [[5]] l1 5 _ HV.out (Kd.V_reads' HVT.out).2.2 (Kd.V_reads' HVT.out).2.1 (row2_V HS1.out HS2.out) K3.out).mono ?_
            rintro e q4 ⟨vn, rfl, hvn, hb⟩
            have HVN := Aside0.mk (Kd.V_mono (ok' := fun k => k ≠ gh) hvn (fun k hk => by rcases hk with (hk | hk | hk) | hk; exact hk; (subst hk; exact HFR.out _ GHS1.out); (subst hk; exact HFR.out _ GHS2.out); exact HFR.out k (Nat.le_trans (HZ.out) hk)))
            clear hvn HV
            obtain ⟨An, cn, rfl⟩ := Kd.V_slice HVN.out
            have NHZ := Aside0.mk (Nat.le_trans HZ.out hb.size)
            have NHL := Aside0.mk (HL.out.below hb)
            have NHO := Aside0.mk (Kd.V_below HO.out hb)
            clear HZ HL HO
            have HZ := NHZ
            have HL := NHL
            have HO := NHO
            clear NHZ NHL NHO
            clear hb HVT HS1 HS2
            have HV := HVN
            clear HVN
            refine ⟨_, rfl, ?_⟩
            refine hK.out _ _ ((blk_cell HL.out.box 0).trans rfl) (fun _ => ?_)
            clear hK K
            refine norm_ (a' := ?_) ?_ ?_
            rotate_left
            · show Act.put _ (some 28) _ = _
              simp only [Act.put, List.setIfInBounds_toArray, List.set_cons_zero, List.set_cons_succ, i64_w, i32_w]
              rfl
            refine pure_ (i := 5) (N := some 23) (v := ?_) (a' := ?_) #[true, true, true, true, true, true, false, false, false, false, false] rfl rfl (any_of rfl (by kernel_rfl)) (fun _ _ _ h => h) (Or.inl ⟨by rfl, ?_⟩) ?_ ?_
            rotate_left
            · intro w'
              go_simp
              with_reducible rfl
            rotate_left
            · simp only [Act.put, List.setIfInBounds_toArray, List.set_cons_zero, List.set_cons_succ, i64_w, i32_w]
              rfl
            refine pure_ (i := 6) (N := some 29) (v := ?_) (a' := ?_) #[true, true, true, true, true, true, true, false, false, false, false] rfl rfl (any_of rfl (by kernel_rfl)) (fun _ _ _ h => h) (Or.inl ⟨by rfl, ?_⟩) ?_ ?_
            rotate_left
            · intro w'
              go_simp
              with_reducible rfl
            rotate_left
            · simp only [Act.put, List.setIfInBounds_toArray, List.set_cons_zero, List.set_cons_succ, i64_w, i32_w]
              rfl
            refine pure_ (i := 7) (N := some 30) (v := ?_) (a' := ?_) #[true, true, true, true, true, true, true, true, false, false, false] rfl rfl (any_of rfl (by kernel_rfl)) (fun _ _ _ h => h) (Or.inl ⟨by rfl, ?_⟩) ?_ ?_
            rotate_left
            · intro w'
              go_simp
              with_reducible rfl
            rotate_left
            · simp only [Act.put, List.setIfInBounds_toArray, List.set_cons_zero, List.set_cons_succ, i64_w, i32_w]
              rfl
            refine one_ (i := 8) (N := some 5) #[true, true, true, true, true, true, true, true, true, false, false] rfl rfl (one_of rfl (by kernel_rfl)) (by decide) (fun K hK => ?_)
            · refine box_step ?hg (N := 5) ?hd (cs := #[.slice none 0 0]) (t := 24) ?hr ?_; (case hd => rfl); (case hg => rfl); (case hr => first | (go_simp; done) | (go_simp; rfl))
              intro ga hg q5 hbox hb
              have HA := Aside0.mk hbox
              have HG : Aside0 (w4.heap.size ≤ ga) := ⟨by rw [hg]; exact HZ.out⟩
              have NHZ := Aside0.mk (Nat.le_trans HZ.out hb.size)
              have NHL := Aside0.mk (HL.out.below hb)
              have NHO := Aside0.mk (Kd.V_below HO.out hb)
              have NHV := Aside0.mk (Kd.V_below (Kd.V_elderB HV.out ga (Nat.le_of_eq hg.symm)) hb)
              clear HZ HL HO HV
              have HZ := NHZ
              have HL := NHL
              have HO := NHO
              have HV := NHV
              clear NHZ NHL NHO NHV
              clear hg hbox hb
              refine hK.out _ _ ((blk_cell HL.out.box 0).trans rfl) (fun _ => ?_)
              clear hK K
              refine norm_ (a' := ?_) ?_ ?_
              rotate_left
              · show Act.put _ (some 5) _ = _
                simp only [Act.put, List.setIfInBounds_toArray, List.set_cons_zero, List.set_cons_succ, i64_w, i32_w]
                rfl
              refine norm_ ?_ (hJ (.agg #[.int .i64 1, .slice At 1 ct], .slice (some ⟨g1, 0, none⟩) 1 1, .slice (some ⟨g2, 0, none⟩) 1 1, .slice An l1.length cn, ga) _ ⟨(blk_cell HL.out.box 0).trans rfl, HZ.out, HL.out, HO.out, HV.out, HA.out, HG.out⟩)
              simp only [putAll, Act.put, List.setIfInBounds_toArray, List.set_cons_zero, List.set_cons_succ] <;> rfl
          · refine box_step ?hg (N := 5) ?hd (cs := #[.slice none 0 0]) (t := 24) ?hr ?_; (case hd => rfl); (case hg => rfl); (case hr => first | (go_simp; done) | (go_simp; rfl))
            intro ga hg q6 hbox hb
            have HA := Aside0.mk hbox
            have HG : Aside0 (w4.heap.size ≤ ga) := ⟨by rw [hg]; exact HZ.out⟩
            have NHZ := Aside0.mk (Nat.le_trans HZ.out hb.size)
            have NHL := Aside0.mk (HL.out.below hb)
            have NHO := Aside0.mk (Kd.V_below HO.out hb)
            have NHV := Aside0.mk (Kd.V_below (Kd.V_elderB HV.out ga (Nat.le_of_eq hg.symm)) hb)
            have NHVT := Aside0.mk (Kd.V_below HVT.out hb)
            have NHS1 := Aside0.mk (blk_below HS1.out hb)
            have NHS2 := Aside0.mk (blk_below HS2.out hb)
            clear HZ HL HO HV HVT HS1 HS2
            have HZ := NHZ
            have HL := NHL
            have HO := NHO
            have HV := NHV
            have HVT := NHVT
            have HS1 := NHS1
            have HS2 := NHS2
            clear NHZ NHL NHO NHV NHVT NHS1 NHS2
            clear hg hbox hb
            refine hK.out _ _ ((blk_cell HL.out.box 0).trans rfl) (fun _ => ?_)
            clear hK K
            refine norm_ (a' := ?_) ?_ ?_
            rotate_left
            · show Act.put _ (some 5) _ = _
              simp only [Act.put, List.setIfInBounds_toArray, List.set_cons_zero, List.set_cons_succ, i64_w, i32_w]
              rfl
            refine one_ (i := 4) (N := some 28) #[true, true, true, true, true, false, false, false, true, false, false] rfl rfl (one_of rfl (by kernel_rfl)) (by decide) (fun K hK => ?_)
            · refine goes_ Tryd.func18 (by kernel_rfl) rfl #[.agg #[.slice Ah l1.length ch], .agg #[.int .i64 1, .slice At 1 ct], .int .i64 1, .slice (some ⟨g2, 0, none⟩) 1 1] (by rfl) rfl rfl (by (try simp only [List.map_toArray, List.map_cons, List.map_nil]); first | done | rfl) ?_
              refine (hall_Admit.calls 9 _ _ _ _ 1 _ ct [tinyY] 1 _ _ 1 [[5]] l1 5 _ HV.out (Kd.V_reads' HVT.out).2.2 (Kd.V_reads' HVT.out).2.1 (row2_V HS1.out HS2.out) K3.out).mono ?_
              rintro e q7 ⟨vn, rfl, hvn, hb⟩
              have HVN := Aside0.mk (Kd.V_mono (ok' := fun k => (k ≠ gh) ∧ k ≠ ga) hvn (fun k hk => by rcases hk with (hk | hk | hk) | hk; exact hk; (subst hk; exact ⟨HFR.out _ GHS1.out, fun e => by have h_ := HS1.out; rw [e] at h_; have := h_.symm.trans HA.out; simp at this⟩); (subst hk; exact ⟨HFR.out _ GHS2.out, fun e => by have h_ := HS2.out; rw [e] at h_; have := h_.symm.trans HA.out; simp at this⟩); exact ⟨HFR.out k (Nat.le_trans (HZ.out) hk), fun e => by have h_ := blk_lt HA.out; omega⟩))
              clear hvn HV
              obtain ⟨An, cn, rfl⟩ := Kd.V_slice HVN.out
              have NHZ := Aside0.mk (Nat.le_trans HZ.out hb.size)
              have NHL := Aside0.mk (HL.out.below hb)
              have NHO := Aside0.mk (Kd.V_below HO.out hb)
              have NHA := Aside0.mk (blk_below HA.out hb)
              clear HZ HL HO HA
              have HZ := NHZ
              have HL := NHL
              have HO := NHO
              have HA := NHA
              clear NHZ NHL NHO NHA
              clear hb HVT HS1 HS2
              have HV := HVN
              clear HVN
              refine ⟨_, rfl, ?_⟩
              refine hK.out _ _ ((blk_cell HL.out.box 0).trans rfl) (fun _ => ?_)
              clear hK K
              refine norm_ (a' := ?_) ?_ ?_
              rotate_left
              · show Act.put _ (some 28) _ = _
                simp only [Act.put, List.setIfInBounds_toArray, List.set_cons_zero, List.set_cons_succ, i64_w, i32_w]
                rfl
              refine pure_ (i := 5) (N := some 23) (v := ?_) (a' := ?_) #[true, true, true, true, true, true, false, false, true, false, false] rfl rfl (any_of rfl (by kernel_rfl)) (fun _ _ _ h => h) (Or.inl ⟨by rfl, ?_⟩) ?_ ?_
              rotate_left
              · intro w'
                go_simp
                with_reducible rfl
              rotate_left
              · simp only [Act.put, List.setIfInBounds_toArray, List.set_cons_zero, List.set_cons_succ, i64_w, i32_w]
                rfl
              refine pure_ (i := 6) (N := some 29) (v := ?_) (a' := ?_) #[true, true, true, true, true, true, true, false, true, false, false] rfl rfl (any_of rfl (by kernel_rfl)) (fun _ _ _ h => h) (Or.inl ⟨by rfl, ?_⟩) ?_ ?_
              rotate_left
              · intro w'
                go_simp
                with_reducible rfl
              rotate_left
              · simp only [Act.put, List.setIfInBounds_toArray, List.set_cons_zero, List.set_cons_succ, i64_w, i32_w]
                rfl
              refine pure_ (i := 7) (N := some 30) (v := ?_) (a' := ?_) #[true, true, true, true, true, true, true, true, true, false, false] rfl rfl (any_of rfl (by kernel_rfl)) (fun _ _ _ h => h) (Or.inl ⟨by rfl, ?_⟩) ?_ ?_
              rotate_left
              · intro w'
                go_simp
                with_reducible rfl
              rotate_left
              · simp only [Act.put, List.setIfInBounds_toArray, List.set_cons_zero, List.set_cons_succ, i64_w, i32_w]
                rfl
              refine norm_ ?_ (hJ (.agg #[.int .i64 1, .slice At 1 ct], .slice (some ⟨g1, 0, none⟩) 1 1, .slice (some ⟨g2, 0, none⟩) 1 1, .slice An l1.length cn, ga) _ ⟨(blk_cell HL.out.box 0).trans rfl, HZ.out, HL.out, HO.out, HV.out, HA.out, HG.out⟩)
              simp only [putAll, Act.put, List.setIfInBounds_toArray, List.set_cons_zero, List.set_cons_succ] <;> rfl
        · refine box_step ?hg (N := 5) ?hd (cs := #[.slice none 0 0]) (t := 24) ?hr ?_; (case hd => rfl); (case hg => rfl); (case hr => first | (go_simp; done) | (go_simp; rfl))
          intro ga hg q8 hbox hb
          have HA := Aside0.mk hbox
          have HG : Aside0 (w4.heap.size ≤ ga) := ⟨by rw [hg]; exact HZ.out⟩
          have NHZ := Aside0.mk (Nat.le_trans HZ.out hb.size)
          have NHL := Aside0.mk (HL.out.below hb)
          have NHO := Aside0.mk (Kd.V_below HO.out hb)
          have NHV := Aside0.mk (Kd.V_below (Kd.V_elderB HV.out ga (Nat.le_of_eq hg.symm)) hb)
          have NHVT := Aside0.mk (Kd.V_below HVT.out hb)
          have NHS1 := Aside0.mk (blk_below HS1.out hb)
          clear HZ HL HO HV HVT HS1
          have HZ := NHZ
          have HL := NHL
          have HO := NHO
          have HV := NHV
          have HVT := NHVT
          have HS1 := NHS1
          clear NHZ NHL NHO NHV NHVT NHS1
          clear hg hbox hb
          refine hK.out _ _ ((blk_cell HL.out.box 0).trans rfl) (fun _ => ?_)
          clear hK K
          refine norm_ (a' := ?_) ?_ ?_
          rotate_left
          · show Act.put _ (some 5) _ = _
            simp only [Act.put, List.setIfInBounds_toArray, List.set_cons_zero, List.set_cons_succ, i64_w, i32_w]
            rfl
          refine one_ (i := 3) (N := some 27) #[true, true, true, true, false, false, false, false, true, false, false] rfl rfl (one_of rfl (by kernel_rfl)) (by decide) (fun K hK => ?_)
          · refine lit_step ?hg (N := 27) ?hd (cs := #[.slice (some ⟨g1, 0, none⟩) 1 1]) (t := 42) (n := 1) ?hr ?_; (case hd => rfl); (case hg => rfl); (case hr => first | (go_simp; done) | (go_simp; rfl))
            intro g2 hg q9 hbox hb
            have HS2 := Aside0.mk hbox
            have GHS2 : Aside0 (w4.heap.size ≤ g2) := ⟨by rw [hg]; exact HZ.out⟩
            have NHZ := Aside0.mk (Nat.le_trans HZ.out hb.size)
            have NHL := Aside0.mk (HL.out.below hb)
            have NHO := Aside0.mk (Kd.V_below HO.out hb)
            have NHV := Aside0.mk (Kd.V_below HV.out hb)
            have NHVT := Aside0.mk (Kd.V_below HVT.out hb)
            have NHS1 := Aside0.mk (blk_below HS1.out hb)
            have NHA := Aside0.mk (blk_below HA.out hb)
            clear HZ HL HO HV HVT HS1 HA
            have HZ := NHZ
            have HL := NHL
            have HO := NHO
            have HV := NHV
            have HVT := NHVT
            have HS1 := NHS1
            have HA := NHA
            clear NHZ NHL NHO NHV NHVT NHS1 NHA
            clear hg hbox hb
            refine hK.out _ _ ((blk_cell HL.out.box 0).trans rfl) (fun _ => ?_)
            clear hK K
            refine norm_ (a' := ?_) ?_ ?_
            rotate_left
            · show Act.put _ (some 27) _ = _
              simp only [Act.put, List.setIfInBounds_toArray, List.set_cons_zero, List.set_cons_succ, i64_w, i32_w]
              rfl
            refine one_ (i := 4) (N := some 28) #[true, true, true, true, true, false, false, false, true, false, false] rfl rfl (one_of rfl (by kernel_rfl)) (by decide) (fun K hK => ?_)
            · refine goes_ Tryd.func18 (by kernel_rfl) rfl #[.agg #[.slice Ah l1.length ch], .agg #[.int .i64 1, .slice At 1 ct], .int .i64 1, .slice (some ⟨g2, 0, none⟩) 1 1] (by rfl) rfl rfl (by (try simp only [List.map_toArray, List.map_cons, List.map_nil]); first | done | rfl) ?_
              refine (hall_Admit.calls 9 _ _ _ _ 1 _ ct [tinyY] 1 _ _ 1 [[5]] l1 5 _ HV.out (Kd.V_reads' HVT.out).2.2 (Kd.V_reads' HVT.out).2.1 (row2_V HS1.out HS2.out) K3.out).mono ?_
              rintro e q10 ⟨vn, rfl, hvn, hb⟩
              have HVN := Aside0.mk (Kd.V_mono (ok' := fun k => (k ≠ gh) ∧ k ≠ ga) hvn (fun k hk => by rcases hk with (hk | hk | hk) | hk; exact hk; (subst hk; exact ⟨HFR.out _ GHS1.out, fun e => by have h_ := HS1.out; rw [e] at h_; have := h_.symm.trans HA.out; simp at this⟩); (subst hk; exact ⟨HFR.out _ GHS2.out, fun e => by have h_ := HS2.out; rw [e] at h_; have := h_.symm.trans HA.out; simp at this⟩); exact ⟨HFR.out k (Nat.le_trans (HZ.out) hk), fun e => by have h_ := blk_lt HA.out; omega⟩))
              clear hvn HV
              obtain ⟨An, cn, rfl⟩ := Kd.V_slice HVN.out
              have NHZ := Aside0.mk (Nat.le_trans HZ.out hb.size)
              have NHL := Aside0.mk (HL.out.below hb)
              have NHO := Aside0.mk (Kd.V_below HO.out hb)
              have NHA := Aside0.mk (blk_below HA.out hb)
              clear HZ HL HO HA
              have HZ := NHZ
              have HL := NHL
              have HO := NHO
              have HA := NHA
              clear NHZ NHL NHO NHA
              clear hb HVT HS1 HS2
              have HV := HVN
              clear HVN
              refine ⟨_, rfl, ?_⟩
              refine hK.out _ _ ((blk_cell HL.out.box 0).trans rfl) (fun _ => ?_)
              clear hK K
              refine norm_ (a' := ?_) ?_ ?_
              rotate_left
              · show Act.put _ (some 28) _ = _
                simp only [Act.put, List.setIfInBounds_toArray, List.set_cons_zero, List.set_cons_succ, i64_w, i32_w]
                rfl
              refine pure_ (i := 5) (N := some 23) (v := ?_) (a' := ?_) #[true, true, true, true, true, true, false, false, true, false, false] rfl rfl (any_of rfl (by kernel_rfl)) (fun _ _ _ h => h) (Or.inl ⟨by rfl, ?_⟩) ?_ ?_
              rotate_left
              · intro w'
                go_simp
                with_reducible rfl
              rotate_left
              · simp only [Act.put, List.setIfInBounds_toArray, List.set_cons_zero, List.set_cons_succ, i64_w, i32_w]
                rfl
              refine pure_ (i := 6) (N := some 29) (v := ?_) (a' := ?_) #[true, true, true, true, true, true, true, false, true, false, false] rfl rfl (any_of rfl (by kernel_rfl)) (fun _ _ _ h => h) (Or.inl ⟨by rfl, ?_⟩) ?_ ?_
              rotate_left
              · intro w'
                go_simp
                with_reducible rfl
              rotate_left
              · simp only [Act.put, List.setIfInBounds_toArray, List.set_cons_zero, List.set_cons_succ, i64_w, i32_w]
                rfl
              refine pure_ (i := 7) (N := some 30) (v := ?_) (a' := ?_) #[true, true, true, true, true, true, true, true, true, false, false] rfl rfl (any_of rfl (by kernel_rfl)) (fun _ _ _ h => h) (Or.inl ⟨by rfl, ?_⟩) ?_ ?_
              rotate_left
              · intro w'
                go_simp
                with_reducible rfl
              rotate_left
              · simp only [Act.put, List.setIfInBounds_toArray, List.set_cons_zero, List.set_cons_succ, i64_w, i32_w]
                rfl
              refine norm_ ?_ (hJ (.agg #[.int .i64 1, .slice At 1 ct], .slice (some ⟨g1, 0, none⟩) 1 1, .slice (some ⟨g2, 0, none⟩) 1 1, .slice An l1.length cn, ga) _ ⟨(blk_cell HL.out.box 0).trans rfl, HZ.out, HL.out, HO.out, HV.out, HA.out, HG.out⟩)
              simp only [putAll, Act.put, List.setIfInBounds_toArray, List.set_cons_zero, List.set_cons_succ] <;> rfl
      · refine box_step ?hg (N := 5) ?hd (cs := #[.slice none 0 0]) (t := 24) ?hr ?_; (case hd => rfl); (case hg => rfl); (case hr => first | (go_simp; done) | (go_simp; rfl))
        intro ga hg q11 hbox hb
        have HA := Aside0.mk hbox
        have HG : Aside0 (w4.heap.size ≤ ga) := ⟨by rw [hg]; exact HZ.out⟩
        have NHZ := Aside0.mk (Nat.le_trans HZ.out hb.size)
        have NHL := Aside0.mk (HL.out.below hb)
        have NHO := Aside0.mk (Kd.V_below HO.out hb)
        have NHV := Aside0.mk (Kd.V_below (Kd.V_elderB HV.out ga (Nat.le_of_eq hg.symm)) hb)
        have NHVT := Aside0.mk (Kd.V_below HVT.out hb)
        clear HZ HL HO HV HVT
        have HZ := NHZ
        have HL := NHL
        have HO := NHO
        have HV := NHV
        have HVT := NHVT
        clear NHZ NHL NHO NHV NHVT
        clear hg hbox hb
        refine hK.out _ _ ((blk_cell HL.out.box 0).trans rfl) (fun _ => ?_)
        clear hK K
        refine norm_ (a' := ?_) ?_ ?_
        rotate_left
        · show Act.put _ (some 5) _ = _
          simp only [Act.put, List.setIfInBounds_toArray, List.set_cons_zero, List.set_cons_succ, i64_w, i32_w]
          rfl
        refine one_ (i := 2) (N := some 26) #[true, true, true, false, false, false, false, false, true, false, false] rfl rfl (one_of rfl (by kernel_rfl)) (by decide) (fun K hK => ?_)
        · refine lit_step ?hg (N := 26) ?hd (cs := #[.int .i64 5]) (t := 3) (n := 1) ?hr ?_; (case hd => rfl); (case hg => rfl); (case hr => first | (go_simp; done) | (go_simp; rfl))
          intro g1 hg q12 hbox hb
          have HS1 := Aside0.mk hbox
          have GHS1 : Aside0 (w4.heap.size ≤ g1) := ⟨by rw [hg]; exact HZ.out⟩
          have NHZ := Aside0.mk (Nat.le_trans HZ.out hb.size)
          have NHL := Aside0.mk (HL.out.below hb)
          have NHO := Aside0.mk (Kd.V_below HO.out hb)
          have NHV := Aside0.mk (Kd.V_below HV.out hb)
          have NHVT := Aside0.mk (Kd.V_below HVT.out hb)
          have NHA := Aside0.mk (blk_below HA.out hb)
          clear HZ HL HO HV HVT HA
          have HZ := NHZ
          have HL := NHL
          have HO := NHO
          have HV := NHV
          have HVT := NHVT
          have HA := NHA
          clear NHZ NHL NHO NHV NHVT NHA
          clear hg hbox hb
          refine hK.out _ _ ((blk_cell HL.out.box 0).trans rfl) (fun _ => ?_)
          clear hK K
          refine norm_ (a' := ?_) ?_ ?_
          rotate_left
          · show Act.put _ (some 26) _ = _
            simp only [Act.put, List.setIfInBounds_toArray, List.set_cons_zero, List.set_cons_succ, i64_w, i32_w]
            rfl
          refine one_ (i := 3) (N := some 27) #[true, true, true, true, false, false, false, false, true, false, false] rfl rfl (one_of rfl (by kernel_rfl)) (by decide) (fun K hK => ?_)
          · refine lit_step ?hg (N := 27) ?hd (cs := #[.slice (some ⟨g1, 0, none⟩) 1 1]) (t := 42) (n := 1) ?hr ?_; (case hd => rfl); (case hg => rfl); (case hr => first | (go_simp; done) | (go_simp; rfl))
            intro g2 hg q13 hbox hb
            have HS2 := Aside0.mk hbox
            have GHS2 : Aside0 (w4.heap.size ≤ g2) := ⟨by rw [hg]; exact HZ.out⟩
            have NHZ := Aside0.mk (Nat.le_trans HZ.out hb.size)
            have NHL := Aside0.mk (HL.out.below hb)
            have NHO := Aside0.mk (Kd.V_below HO.out hb)
            have NHV := Aside0.mk (Kd.V_below HV.out hb)
            have NHVT := Aside0.mk (Kd.V_below HVT.out hb)
            have NHA := Aside0.mk (blk_below HA.out hb)
            have NHS1 := Aside0.mk (blk_below HS1.out hb)
            clear HZ HL HO HV HVT HA HS1
            have HZ := NHZ
            have HL := NHL
            have HO := NHO
            have HV := NHV
            have HVT := NHVT
            have HA := NHA
            have HS1 := NHS1
            clear NHZ NHL NHO NHV NHVT NHA NHS1
            clear hg hbox hb
            refine hK.out _ _ ((blk_cell HL.out.box 0).trans rfl) (fun _ => ?_)
            clear hK K
            refine norm_ (a' := ?_) ?_ ?_
            rotate_left
            · show Act.put _ (some 27) _ = _
              simp only [Act.put, List.setIfInBounds_toArray, List.set_cons_zero, List.set_cons_succ, i64_w, i32_w]
              rfl
            refine one_ (i := 4) (N := some 28) #[true, true, true, true, true, false, false, false, true, false, false] rfl rfl (one_of rfl (by kernel_rfl)) (by decide) (fun K hK => ?_)
            · refine goes_ Tryd.func18 (by kernel_rfl) rfl #[.agg #[.slice Ah l1.length ch], .agg #[.int .i64 1, .slice At 1 ct], .int .i64 1, .slice (some ⟨g2, 0, none⟩) 1 1] (by rfl) rfl rfl (by (try simp only [List.map_toArray, List.map_cons, List.map_nil]); first | done | rfl) ?_
              refine (hall_Admit.calls 9 _ _ _ _ 1 _ ct [tinyY] 1 _ _ 1 [[5]] l1 5 _ HV.out (Kd.V_reads' HVT.out).2.2 (Kd.V_reads' HVT.out).2.1 (row2_V HS1.out HS2.out) K3.out).mono ?_
              rintro e q14 ⟨vn, rfl, hvn, hb⟩
              have HVN := Aside0.mk (Kd.V_mono (ok' := fun k => (k ≠ gh) ∧ k ≠ ga) hvn (fun k hk => by rcases hk with (hk | hk | hk) | hk; exact hk; (subst hk; exact ⟨HFR.out _ GHS1.out, fun e => by have h_ := HS1.out; rw [e] at h_; have := h_.symm.trans HA.out; simp at this⟩); (subst hk; exact ⟨HFR.out _ GHS2.out, fun e => by have h_ := HS2.out; rw [e] at h_; have := h_.symm.trans HA.out; simp at this⟩); exact ⟨HFR.out k (Nat.le_trans (HZ.out) hk), fun e => by have h_ := blk_lt HA.out; omega⟩))
              clear hvn HV
              obtain ⟨An, cn, rfl⟩ := Kd.V_slice HVN.out
              have NHZ := Aside0.mk (Nat.le_trans HZ.out hb.size)
              have NHL := Aside0.mk (HL.out.below hb)
              have NHO := Aside0.mk (Kd.V_below HO.out hb)
              have NHA := Aside0.mk (blk_below HA.out hb)
              clear HZ HL HO HA
              have HZ := NHZ
              have HL := NHL
              have HO := NHO
              have HA := NHA
              clear NHZ NHL NHO NHA
              clear hb HVT HS1 HS2
              have HV := HVN
              clear HVN
              refine ⟨_, rfl, ?_⟩
              refine hK.out _ _ ((blk_cell HL.out.box 0).trans rfl) (fun _ => ?_)
              clear hK K
              refine norm_ (a' := ?_) ?_ ?_
              rotate_left
              · show Act.put _ (some 28) _ = _
                simp only [Act.put, List.setIfInBounds_toArray, List.set_cons_zero, List.set_cons_succ, i64_w, i32_w]
                rfl
              refine pure_ (i := 5) (N := some 23) (v := ?_) (a' := ?_) #[true, true, true, true, true, true, false, false, true, false, false] rfl rfl (any_of rfl (by kernel_rfl)) (fun _ _ _ h => h) (Or.inl ⟨by rfl, ?_⟩) ?_ ?_
              rotate_left
              · intro w'
                go_simp
                with_reducible rfl
              rotate_left
              · simp only [Act.put, List.setIfInBounds_toArray, List.set_cons_zero, List.set_cons_succ, i64_w, i32_w]
                rfl
              refine pure_ (i := 6) (N := some 29) (v := ?_) (a' := ?_) #[true, true, true, true, true, true, true, false, true, false, false] rfl rfl (any_of rfl (by kernel_rfl)) (fun _ _ _ h => h) (Or.inl ⟨by rfl, ?_⟩) ?_ ?_
              rotate_left
              · intro w'
                go_simp
                with_reducible rfl
              rotate_left
              · simp only [Act.put, List.setIfInBounds_toArray, List.set_cons_zero, List.set_cons_succ, i64_w, i32_w]
                rfl
              refine pure_ (i := 7) (N := some 30) (v := ?_) (a' := ?_) #[true, true, true, true, true, true, true, true, true, false, false] rfl rfl (any_of rfl (by kernel_rfl)) (fun _ _ _ h => h) (Or.inl ⟨by rfl, ?_⟩) ?_ ?_
              rotate_left
              · intro w'
                go_simp
                with_reducible rfl
              rotate_left
              · simp only [Act.put, List.setIfInBounds_toArray, List.set_cons_zero, List.set_cons_succ, i64_w, i32_w]
                rfl
              refine norm_ ?_ (hJ (.agg #[.int .i64 1, .slice At 1 ct], .slice (some ⟨g1, 0, none⟩) 1 1, .slice (some ⟨g2, 0, none⟩) 1 1, .slice An l1.length cn, ga) _ ⟨(blk_cell HL.out.box 0).trans rfl, HZ.out, HL.out, HO.out, HV.out, HA.out, HG.out⟩)
              simp only [putAll, Act.put, List.setIfInBounds_toArray, List.set_cons_zero, List.set_cons_succ] <;> rfl
    · refine lit_step ?hg (N := 26) ?hd (cs := #[.int .i64 5]) (t := 3) (n := 1) ?hr ?_; (case hd => rfl); (case hg => rfl); (case hr => first | (go_simp; done) | (go_simp; rfl))
      intro g1 hg q15 hbox hb
      have HS1 := Aside0.mk hbox
      have GHS1 : Aside0 (w4.heap.size ≤ g1) := ⟨by rw [hg]; exact HZ.out⟩
      have NHZ := Aside0.mk (Nat.le_trans HZ.out hb.size)
      have NHL := Aside0.mk (HL.out.below hb)
      have NHO := Aside0.mk (Kd.V_below HO.out hb)
      have NHV := Aside0.mk (Kd.V_below HV.out hb)
      clear HZ HL HO HV
      have HZ := NHZ
      have HL := NHL
      have HO := NHO
      have HV := NHV
      clear NHZ NHL NHO NHV
      clear hg hbox hb
      refine hK.out _ _ ((blk_cell HL.out.box 0).trans rfl) (fun _ => ?_)
      clear hK K
      refine norm_ (a' := ?_) ?_ ?_
      rotate_left
      · show Act.put _ (some 26) _ = _
        simp only [Act.put, List.setIfInBounds_toArray, List.set_cons_zero, List.set_cons_succ, i64_w, i32_w]
        rfl
      refine three_ (i := 1) (j := 3) (k := 8) (Ni := some 25) (Nj := some 27) (Nk := some 5) #[true, true, true, false, false, false, false, false, false, false, false] #[true, false, true, true, false, false, false, false, false, false, false] #[true, false, true, false, false, false, false, false, true, false, false] rfl rfl rfl rfl rfl rfl (three_of rfl (by kernel_rfl)) (by decide) (by decide) (by decide) (fun K hK => ?_) (fun K hK => ?_) (fun K hK => ?_)
      · refine goes_ Tryd.func19 (by kernel_rfl) rfl #[] (by rfl) rfl rfl (by (try simp only [List.map_toArray, List.map_cons, List.map_nil]); first | done | rfl) ?_
        refine (switchboardlaw24_tiny.calls 1 [tinyY] _ rfl).mono ?_
        rintro e q16 ⟨vt, rfl, hvt, hb⟩
        obtain ⟨At, ct, rfl⟩ := Kd.V_slice hvt
        have HVT := Aside0.mk hvt
        clear hvt
        have NHZ := Aside0.mk (Nat.le_trans HZ.out hb.size)
        have NHL := Aside0.mk (HL.out.below hb)
        have NHO := Aside0.mk (Kd.V_below HO.out hb)
        have NHV := Aside0.mk (Kd.V_below HV.out hb)
        have NHS1 := Aside0.mk (blk_below HS1.out hb)
        clear HZ HL HO HV HS1
        have HZ := NHZ
        have HL := NHL
        have HO := NHO
        have HV := NHV
        have HS1 := NHS1
        clear NHZ NHL NHO NHV NHS1
        clear hb
        refine ⟨_, rfl, ?_⟩
        refine hK.out _ _ ((blk_cell HL.out.box 0).trans rfl) (fun _ => ?_)
        clear hK K
        refine norm_ (a' := ?_) ?_ ?_
        rotate_left
        · show Act.put _ (some 25) _ = _
          simp only [Act.put, List.setIfInBounds_toArray, List.set_cons_zero, List.set_cons_succ, i64_w, i32_w]
          rfl
        refine two_ (i := 3) (j := 8) (Ni := some 27) (Nj := some 5) #[true, true, true, true, false, false, false, false, false, false, false] #[true, true, true, false, false, false, false, false, true, false, false] rfl rfl rfl rfl (two_of rfl (by kernel_rfl)) (by decide) (by decide) (fun K hK => ?_) (fun K hK => ?_)
        · refine lit_step ?hg (N := 27) ?hd (cs := #[.slice (some ⟨g1, 0, none⟩) 1 1]) (t := 42) (n := 1) ?hr ?_; (case hd => rfl); (case hg => rfl); (case hr => first | (go_simp; done) | (go_simp; rfl))
          intro g2 hg q17 hbox hb
          have HS2 := Aside0.mk hbox
          have GHS2 : Aside0 (w4.heap.size ≤ g2) := ⟨by rw [hg]; exact HZ.out⟩
          have NHZ := Aside0.mk (Nat.le_trans HZ.out hb.size)
          have NHL := Aside0.mk (HL.out.below hb)
          have NHO := Aside0.mk (Kd.V_below HO.out hb)
          have NHV := Aside0.mk (Kd.V_below HV.out hb)
          have NHS1 := Aside0.mk (blk_below HS1.out hb)
          have NHVT := Aside0.mk (Kd.V_below HVT.out hb)
          clear HZ HL HO HV HS1 HVT
          have HZ := NHZ
          have HL := NHL
          have HO := NHO
          have HV := NHV
          have HS1 := NHS1
          have HVT := NHVT
          clear NHZ NHL NHO NHV NHS1 NHVT
          clear hg hbox hb
          refine hK.out _ _ ((blk_cell HL.out.box 0).trans rfl) (fun _ => ?_)
          clear hK K
          refine norm_ (a' := ?_) ?_ ?_
          rotate_left
          · show Act.put _ (some 27) _ = _
            simp only [Act.put, List.setIfInBounds_toArray, List.set_cons_zero, List.set_cons_succ, i64_w, i32_w]
            rfl
          refine two_ (i := 4) (j := 8) (Ni := some 28) (Nj := some 5) #[true, true, true, true, true, false, false, false, false, false, false] #[true, true, true, true, false, false, false, false, true, false, false] rfl rfl rfl rfl (two_of rfl (by kernel_rfl)) (by decide) (by decide) (fun K hK => ?_) (fun K hK => ?_)
          · refine goes_ Tryd.func18 (by kernel_rfl) rfl #[.agg #[.slice Ah l1.length ch], .agg #[.int .i64 1, .slice At 1 ct], .int .i64 1, .slice (some ⟨g2, 0, none⟩) 1 1] (by rfl) rfl rfl (by (try simp only [List.map_toArray, List.map_cons, List.map_nil]); first | done | rfl) ?_
            refine (hall_Admit.calls 9 _ _ _ _ 1 _ ct [tinyY] 1 _ _ 1 [[5]] l1 5 _ HV.out (Kd.V_reads' HVT.out).2.2 (Kd.V_reads' HVT.out).2.1 (row2_V HS1.out HS2.out) K3.out).mono ?_
            rintro e q18 ⟨vn, rfl, hvn, hb⟩
            have HVN := Aside0.mk (Kd.V_mono (ok' := fun k => k ≠ gh) hvn (fun k hk => by rcases hk with (hk | hk | hk) | hk; exact hk; (subst hk; exact HFR.out _ GHS1.out); (subst hk; exact HFR.out _ GHS2.out); exact HFR.out k (Nat.le_trans (HZ.out) hk)))
            clear hvn HV
            obtain ⟨An, cn, rfl⟩ := Kd.V_slice HVN.out
            have NHZ := Aside0.mk (Nat.le_trans HZ.out hb.size)
            have NHL := Aside0.mk (HL.out.below hb)
            have NHO := Aside0.mk (Kd.V_below HO.out hb)
            clear HZ HL HO
            have HZ := NHZ
            have HL := NHL
            have HO := NHO
            clear NHZ NHL NHO
            clear hb HVT HS1 HS2
            have HV := HVN
            clear HVN
            refine ⟨_, rfl, ?_⟩
            refine hK.out _ _ ((blk_cell HL.out.box 0).trans rfl) (fun _ => ?_)
            clear hK K
            refine norm_ (a' := ?_) ?_ ?_
            rotate_left
            · show Act.put _ (some 28) _ = _
              simp only [Act.put, List.setIfInBounds_toArray, List.set_cons_zero, List.set_cons_succ, i64_w, i32_w]
              rfl
            refine pure_ (i := 5) (N := some 23) (v := ?_) (a' := ?_) #[true, true, true, true, true, true, false, false, false, false, false] rfl rfl (any_of rfl (by kernel_rfl)) (fun _ _ _ h => h) (Or.inl ⟨by rfl, ?_⟩) ?_ ?_
            rotate_left
            · intro w'
              go_simp
              with_reducible rfl
            rotate_left
            · simp only [Act.put, List.setIfInBounds_toArray, List.set_cons_zero, List.set_cons_succ, i64_w, i32_w]
              rfl
            refine pure_ (i := 6) (N := some 29) (v := ?_) (a' := ?_) #[true, true, true, true, true, true, true, false, false, false, false] rfl rfl (any_of rfl (by kernel_rfl)) (fun _ _ _ h => h) (Or.inl ⟨by rfl, ?_⟩) ?_ ?_
            rotate_left
            · intro w'
              go_simp
              with_reducible rfl
            rotate_left
            · simp only [Act.put, List.setIfInBounds_toArray, List.set_cons_zero, List.set_cons_succ, i64_w, i32_w]
              rfl
            refine pure_ (i := 7) (N := some 30) (v := ?_) (a' := ?_) #[true, true, true, true, true, true, true, true, false, false, false] rfl rfl (any_of rfl (by kernel_rfl)) (fun _ _ _ h => h) (Or.inl ⟨by rfl, ?_⟩) ?_ ?_
            rotate_left
            · intro w'
              go_simp
              with_reducible rfl
            rotate_left
            · simp only [Act.put, List.setIfInBounds_toArray, List.set_cons_zero, List.set_cons_succ, i64_w, i32_w]
              rfl
            refine one_ (i := 8) (N := some 5) #[true, true, true, true, true, true, true, true, true, false, false] rfl rfl (one_of rfl (by kernel_rfl)) (by decide) (fun K hK => ?_)
            · refine box_step ?hg (N := 5) ?hd (cs := #[.slice none 0 0]) (t := 24) ?hr ?_; (case hd => rfl); (case hg => rfl); (case hr => first | (go_simp; done) | (go_simp; rfl))
              intro ga hg q19 hbox hb
              have HA := Aside0.mk hbox
              have HG : Aside0 (w4.heap.size ≤ ga) := ⟨by rw [hg]; exact HZ.out⟩
              have NHZ := Aside0.mk (Nat.le_trans HZ.out hb.size)
              have NHL := Aside0.mk (HL.out.below hb)
              have NHO := Aside0.mk (Kd.V_below HO.out hb)
              have NHV := Aside0.mk (Kd.V_below (Kd.V_elderB HV.out ga (Nat.le_of_eq hg.symm)) hb)
              clear HZ HL HO HV
              have HZ := NHZ
              have HL := NHL
              have HO := NHO
              have HV := NHV
              clear NHZ NHL NHO NHV
              clear hg hbox hb
              refine hK.out _ _ ((blk_cell HL.out.box 0).trans rfl) (fun _ => ?_)
              clear hK K
              refine norm_ (a' := ?_) ?_ ?_
              rotate_left
              · show Act.put _ (some 5) _ = _
                simp only [Act.put, List.setIfInBounds_toArray, List.set_cons_zero, List.set_cons_succ, i64_w, i32_w]
                rfl
              refine norm_ ?_ (hJ (.agg #[.int .i64 1, .slice At 1 ct], .slice (some ⟨g1, 0, none⟩) 1 1, .slice (some ⟨g2, 0, none⟩) 1 1, .slice An l1.length cn, ga) _ ⟨(blk_cell HL.out.box 0).trans rfl, HZ.out, HL.out, HO.out, HV.out, HA.out, HG.out⟩)
              simp only [putAll, Act.put, List.setIfInBounds_toArray, List.set_cons_zero, List.set_cons_succ] <;> rfl
          · refine box_step ?hg (N := 5) ?hd (cs := #[.slice none 0 0]) (t := 24) ?hr ?_; (case hd => rfl); (case hg => rfl); (case hr => first | (go_simp; done) | (go_simp; rfl))
            intro ga hg q20 hbox hb
            have HA := Aside0.mk hbox
            have HG : Aside0 (w4.heap.size ≤ ga) := ⟨by rw [hg]; exact HZ.out⟩
            have NHZ := Aside0.mk (Nat.le_trans HZ.out hb.size)
            have NHL := Aside0.mk (HL.out.below hb)
            have NHO := Aside0.mk (Kd.V_below HO.out hb)
            have NHV := Aside0.mk (Kd.V_below (Kd.V_elderB HV.out ga (Nat.le_of_eq hg.symm)) hb)
            have NHS1 := Aside0.mk (blk_below HS1.out hb)
            have NHVT := Aside0.mk (Kd.V_below HVT.out hb)
            have NHS2 := Aside0.mk (blk_below HS2.out hb)
            clear HZ HL HO HV HS1 HVT HS2
            have HZ := NHZ
            have HL := NHL
            have HO := NHO
            have HV := NHV
            have HS1 := NHS1
            have HVT := NHVT
            have HS2 := NHS2
            clear NHZ NHL NHO NHV NHS1 NHVT NHS2
            clear hg hbox hb
            refine hK.out _ _ ((blk_cell HL.out.box 0).trans rfl) (fun _ => ?_)
            clear hK K
            refine norm_ (a' := ?_) ?_ ?_
            rotate_left
            · show Act.put _ (some 5) _ = _
              simp only [Act.put, List.setIfInBounds_toArray, List.set_cons_zero, List.set_cons_succ, i64_w, i32_w]
              rfl
            refine one_ (i := 4) (N := some 28) #[true, true, true, true, true, false, false, false, true, false, false] rfl rfl (one_of rfl (by kernel_rfl)) (by decide) (fun K hK => ?_)
            · refine goes_ Tryd.func18 (by kernel_rfl) rfl #[.agg #[.slice Ah l1.length ch], .agg #[.int .i64 1, .slice At 1 ct], .int .i64 1, .slice (some ⟨g2, 0, none⟩) 1 1] (by rfl) rfl rfl (by (try simp only [List.map_toArray, List.map_cons, List.map_nil]); first | done | rfl) ?_
              refine (hall_Admit.calls 9 _ _ _ _ 1 _ ct [tinyY] 1 _ _ 1 [[5]] l1 5 _ HV.out (Kd.V_reads' HVT.out).2.2 (Kd.V_reads' HVT.out).2.1 (row2_V HS1.out HS2.out) K3.out).mono ?_
              rintro e q21 ⟨vn, rfl, hvn, hb⟩
              have HVN := Aside0.mk (Kd.V_mono (ok' := fun k => (k ≠ gh) ∧ k ≠ ga) hvn (fun k hk => by rcases hk with (hk | hk | hk) | hk; exact hk; (subst hk; exact ⟨HFR.out _ GHS1.out, fun e => by have h_ := HS1.out; rw [e] at h_; have := h_.symm.trans HA.out; simp at this⟩); (subst hk; exact ⟨HFR.out _ GHS2.out, fun e => by have h_ := HS2.out; rw [e] at h_; have := h_.symm.trans HA.out; simp at this⟩); exact ⟨HFR.out k (Nat.le_trans (HZ.out) hk), fun e => by have h_ := blk_lt HA.out; omega⟩))
              clear hvn HV
              obtain ⟨An, cn, rfl⟩ := Kd.V_slice HVN.out
              have NHZ := Aside0.mk (Nat.le_trans HZ.out hb.size)
              have NHL := Aside0.mk (HL.out.below hb)
              have NHO := Aside0.mk (Kd.V_below HO.out hb)
              have NHA := Aside0.mk (blk_below HA.out hb)
              clear HZ HL HO HA
              have HZ := NHZ
              have HL := NHL
              have HO := NHO
              have HA := NHA
              clear NHZ NHL NHO NHA
              clear hb HVT HS1 HS2
              have HV := HVN
              clear HVN
              refine ⟨_, rfl, ?_⟩
              refine hK.out _ _ ((blk_cell HL.out.box 0).trans rfl) (fun _ => ?_)
              clear hK K
              refine norm_ (a' := ?_) ?_ ?_
              rotate_left
              · show Act.put _ (some 28) _ = _
                simp only [Act.put, List.setIfInBounds_toArray, List.set_cons_zero, List.set_cons_succ, i64_w, i32_w]
                rfl
              refine pure_ (i := 5) (N := some 23) (v := ?_) (a' := ?_) #[true, true, true, true, true, true, false, false, true, false, false] rfl rfl (any_of rfl (by kernel_rfl)) (fun _ _ _ h => h) (Or.inl ⟨by rfl, ?_⟩) ?_ ?_
              rotate_left
              · intro w'
                go_simp
                with_reducible rfl
              rotate_left
              · simp only [Act.put, List.setIfInBounds_toArray, List.set_cons_zero, List.set_cons_succ, i64_w, i32_w]
                rfl
              refine pure_ (i := 6) (N := some 29) (v := ?_) (a' := ?_) #[true, true, true, true, true, true, true, false, true, false, false] rfl rfl (any_of rfl (by kernel_rfl)) (fun _ _ _ h => h) (Or.inl ⟨by rfl, ?_⟩) ?_ ?_
              rotate_left
              · intro w'
                go_simp
                with_reducible rfl
              rotate_left
              · simp only [Act.put, List.setIfInBounds_toArray, List.set_cons_zero, List.set_cons_succ, i64_w, i32_w]
                rfl
              refine pure_ (i := 7) (N := some 30) (v := ?_) (a' := ?_) #[true, true, true, true, true, true, true, true, true, false, false] rfl rfl (any_of rfl (by kernel_rfl)) (fun _ _ _ h => h) (Or.inl ⟨by rfl, ?_⟩) ?_ ?_
              rotate_left
              · intro w'
                go_simp
                with_reducible rfl
              rotate_left
              · simp only [Act.put, List.setIfInBounds_toArray, List.set_cons_zero, List.set_cons_succ, i64_w, i32_w]
                rfl
              refine norm_ ?_ (hJ (.agg #[.int .i64 1, .slice At 1 ct], .slice (some ⟨g1, 0, none⟩) 1 1, .slice (some ⟨g2, 0, none⟩) 1 1, .slice An l1.length cn, ga) _ ⟨(blk_cell HL.out.box 0).trans rfl, HZ.out, HL.out, HO.out, HV.out, HA.out, HG.out⟩)
              simp only [putAll, Act.put, List.setIfInBounds_toArray, List.set_cons_zero, List.set_cons_succ] <;> rfl
        · refine box_step ?hg (N := 5) ?hd (cs := #[.slice none 0 0]) (t := 24) ?hr ?_; (case hd => rfl); (case hg => rfl); (case hr => first | (go_simp; done) | (go_simp; rfl))
          intro ga hg q22 hbox hb
          have HA := Aside0.mk hbox
          have HG : Aside0 (w4.heap.size ≤ ga) := ⟨by rw [hg]; exact HZ.out⟩
          have NHZ := Aside0.mk (Nat.le_trans HZ.out hb.size)
          have NHL := Aside0.mk (HL.out.below hb)
          have NHO := Aside0.mk (Kd.V_below HO.out hb)
          have NHV := Aside0.mk (Kd.V_below (Kd.V_elderB HV.out ga (Nat.le_of_eq hg.symm)) hb)
          have NHS1 := Aside0.mk (blk_below HS1.out hb)
          have NHVT := Aside0.mk (Kd.V_below HVT.out hb)
          clear HZ HL HO HV HS1 HVT
          have HZ := NHZ
          have HL := NHL
          have HO := NHO
          have HV := NHV
          have HS1 := NHS1
          have HVT := NHVT
          clear NHZ NHL NHO NHV NHS1 NHVT
          clear hg hbox hb
          refine hK.out _ _ ((blk_cell HL.out.box 0).trans rfl) (fun _ => ?_)
          clear hK K
          refine norm_ (a' := ?_) ?_ ?_
          rotate_left
          · show Act.put _ (some 5) _ = _
            simp only [Act.put, List.setIfInBounds_toArray, List.set_cons_zero, List.set_cons_succ, i64_w, i32_w]
            rfl
          refine one_ (i := 3) (N := some 27) #[true, true, true, true, false, false, false, false, true, false, false] rfl rfl (one_of rfl (by kernel_rfl)) (by decide) (fun K hK => ?_)
          · refine lit_step ?hg (N := 27) ?hd (cs := #[.slice (some ⟨g1, 0, none⟩) 1 1]) (t := 42) (n := 1) ?hr ?_; (case hd => rfl); (case hg => rfl); (case hr => first | (go_simp; done) | (go_simp; rfl))
            intro g2 hg q23 hbox hb
            have HS2 := Aside0.mk hbox
            have GHS2 : Aside0 (w4.heap.size ≤ g2) := ⟨by rw [hg]; exact HZ.out⟩
            have NHZ := Aside0.mk (Nat.le_trans HZ.out hb.size)
            have NHL := Aside0.mk (HL.out.below hb)
            have NHO := Aside0.mk (Kd.V_below HO.out hb)
            have NHV := Aside0.mk (Kd.V_below HV.out hb)
            have NHS1 := Aside0.mk (blk_below HS1.out hb)
            have NHVT := Aside0.mk (Kd.V_below HVT.out hb)
            have NHA := Aside0.mk (blk_below HA.out hb)
            clear HZ HL HO HV HS1 HVT HA
            have HZ := NHZ
            have HL := NHL
            have HO := NHO
            have HV := NHV
            have HS1 := NHS1
            have HVT := NHVT
            have HA := NHA
            clear NHZ NHL NHO NHV NHS1 NHVT NHA
            clear hg hbox hb
            refine hK.out _ _ ((blk_cell HL.out.box 0).trans rfl) (fun _ => ?_)
            clear hK K
            refine norm_ (a' := ?_) ?_ ?_
            rotate_left
            · show Act.put _ (some 27) _ = _
              simp only [Act.put, List.setIfInBounds_toArray, List.set_cons_zero, List.set_cons_succ, i64_w, i32_w]
              rfl
            refine one_ (i := 4) (N := some 28) #[true, true, true, true, true, false, false, false, true, false, false] rfl rfl (one_of rfl (by kernel_rfl)) (by decide) (fun K hK => ?_)
            · refine goes_ Tryd.func18 (by kernel_rfl) rfl #[.agg #[.slice Ah l1.length ch], .agg #[.int .i64 1, .slice At 1 ct], .int .i64 1, .slice (some ⟨g2, 0, none⟩) 1 1] (by rfl) rfl rfl (by (try simp only [List.map_toArray, List.map_cons, List.map_nil]); first | done | rfl) ?_
              refine (hall_Admit.calls 9 _ _ _ _ 1 _ ct [tinyY] 1 _ _ 1 [[5]] l1 5 _ HV.out (Kd.V_reads' HVT.out).2.2 (Kd.V_reads' HVT.out).2.1 (row2_V HS1.out HS2.out) K3.out).mono ?_
              rintro e q24 ⟨vn, rfl, hvn, hb⟩
              have HVN := Aside0.mk (Kd.V_mono (ok' := fun k => (k ≠ gh) ∧ k ≠ ga) hvn (fun k hk => by rcases hk with (hk | hk | hk) | hk; exact hk; (subst hk; exact ⟨HFR.out _ GHS1.out, fun e => by have h_ := HS1.out; rw [e] at h_; have := h_.symm.trans HA.out; simp at this⟩); (subst hk; exact ⟨HFR.out _ GHS2.out, fun e => by have h_ := HS2.out; rw [e] at h_; have := h_.symm.trans HA.out; simp at this⟩); exact ⟨HFR.out k (Nat.le_trans (HZ.out) hk), fun e => by have h_ := blk_lt HA.out; omega⟩))
              clear hvn HV
              obtain ⟨An, cn, rfl⟩ := Kd.V_slice HVN.out
              have NHZ := Aside0.mk (Nat.le_trans HZ.out hb.size)
              have NHL := Aside0.mk (HL.out.below hb)
              have NHO := Aside0.mk (Kd.V_below HO.out hb)
              have NHA := Aside0.mk (blk_below HA.out hb)
              clear HZ HL HO HA
              have HZ := NHZ
              have HL := NHL
              have HO := NHO
              have HA := NHA
              clear NHZ NHL NHO NHA
              clear hb HVT HS1 HS2
              have HV := HVN
              clear HVN
              refine ⟨_, rfl, ?_⟩
              refine hK.out _ _ ((blk_cell HL.out.box 0).trans rfl) (fun _ => ?_)
              clear hK K
              refine norm_ (a' := ?_) ?_ ?_
              rotate_left
              · show Act.put _ (some 28) _ = _
                simp only [Act.put, List.setIfInBounds_toArray, List.set_cons_zero, List.set_cons_succ, i64_w, i32_w]
                rfl
              refine pure_ (i := 5) (N := some 23) (v := ?_) (a' := ?_) #[true, true, true, true, true, true, false, false, true, false, false] rfl rfl (any_of rfl (by kernel_rfl)) (fun _ _ _ h => h) (Or.inl ⟨by rfl, ?_⟩) ?_ ?_
              rotate_left
              · intro w'
                go_simp
                with_reducible rfl
              rotate_left
              · simp only [Act.put, List.setIfInBounds_toArray, List.set_cons_zero, List.set_cons_succ, i64_w, i32_w]
                rfl
              refine pure_ (i := 6) (N := some 29) (v := ?_) (a' := ?_) #[true, true, true, true, true, true, true, false, true, false, false] rfl rfl (any_of rfl (by kernel_rfl)) (fun _ _ _ h => h) (Or.inl ⟨by rfl, ?_⟩) ?_ ?_
              rotate_left
              · intro w'
                go_simp
                with_reducible rfl
              rotate_left
              · simp only [Act.put, List.setIfInBounds_toArray, List.set_cons_zero, List.set_cons_succ, i64_w, i32_w]
                rfl
              refine pure_ (i := 7) (N := some 30) (v := ?_) (a' := ?_) #[true, true, true, true, true, true, true, true, true, false, false] rfl rfl (any_of rfl (by kernel_rfl)) (fun _ _ _ h => h) (Or.inl ⟨by rfl, ?_⟩) ?_ ?_
              rotate_left
              · intro w'
                go_simp
                with_reducible rfl
              rotate_left
              · simp only [Act.put, List.setIfInBounds_toArray, List.set_cons_zero, List.set_cons_succ, i64_w, i32_w]
                rfl
              refine norm_ ?_ (hJ (.agg #[.int .i64 1, .slice At 1 ct], .slice (some ⟨g1, 0, none⟩) 1 1, .slice (some ⟨g2, 0, none⟩) 1 1, .slice An l1.length cn, ga) _ ⟨(blk_cell HL.out.box 0).trans rfl, HZ.out, HL.out, HO.out, HV.out, HA.out, HG.out⟩)
              simp only [putAll, Act.put, List.setIfInBounds_toArray, List.set_cons_zero, List.set_cons_succ] <;> rfl
      · refine lit_step ?hg (N := 27) ?hd (cs := #[.slice (some ⟨g1, 0, none⟩) 1 1]) (t := 42) (n := 1) ?hr ?_; (case hd => rfl); (case hg => rfl); (case hr => first | (go_simp; done) | (go_simp; rfl))
        intro g2 hg q25 hbox hb
        have HS2 := Aside0.mk hbox
        have GHS2 : Aside0 (w4.heap.size ≤ g2) := ⟨by rw [hg]; exact HZ.out⟩
        have NHZ := Aside0.mk (Nat.le_trans HZ.out hb.size)
        have NHL := Aside0.mk (HL.out.below hb)
        have NHO := Aside0.mk (Kd.V_below HO.out hb)
        have NHV := Aside0.mk (Kd.V_below HV.out hb)
        have NHS1 := Aside0.mk (blk_below HS1.out hb)
        clear HZ HL HO HV HS1
        have HZ := NHZ
        have HL := NHL
        have HO := NHO
        have HV := NHV
        have HS1 := NHS1
        clear NHZ NHL NHO NHV NHS1
        clear hg hbox hb
        refine hK.out _ _ ((blk_cell HL.out.box 0).trans rfl) (fun _ => ?_)
        clear hK K
        refine norm_ (a' := ?_) ?_ ?_
        rotate_left
        · show Act.put _ (some 27) _ = _
          simp only [Act.put, List.setIfInBounds_toArray, List.set_cons_zero, List.set_cons_succ, i64_w, i32_w]
          rfl
        refine two_ (i := 1) (j := 8) (Ni := some 25) (Nj := some 5) #[true, true, true, true, false, false, false, false, false, false, false] #[true, false, true, true, false, false, false, false, true, false, false] rfl rfl rfl rfl (two_of rfl (by kernel_rfl)) (by decide) (by decide) (fun K hK => ?_) (fun K hK => ?_)
        · refine goes_ Tryd.func19 (by kernel_rfl) rfl #[] (by rfl) rfl rfl (by (try simp only [List.map_toArray, List.map_cons, List.map_nil]); first | done | rfl) ?_
          refine (switchboardlaw24_tiny.calls 1 [tinyY] _ rfl).mono ?_
          rintro e q26 ⟨vt, rfl, hvt, hb⟩
          obtain ⟨At, ct, rfl⟩ := Kd.V_slice hvt
          have HVT := Aside0.mk hvt
          clear hvt
          have NHZ := Aside0.mk (Nat.le_trans HZ.out hb.size)
          have NHL := Aside0.mk (HL.out.below hb)
          have NHO := Aside0.mk (Kd.V_below HO.out hb)
          have NHV := Aside0.mk (Kd.V_below HV.out hb)
          have NHS1 := Aside0.mk (blk_below HS1.out hb)
          have NHS2 := Aside0.mk (blk_below HS2.out hb)
          clear HZ HL HO HV HS1 HS2
          have HZ := NHZ
          have HL := NHL
          have HO := NHO
          have HV := NHV
          have HS1 := NHS1
          have HS2 := NHS2
          clear NHZ NHL NHO NHV NHS1 NHS2
          clear hb
          refine ⟨_, rfl, ?_⟩
          refine hK.out _ _ ((blk_cell HL.out.box 0).trans rfl) (fun _ => ?_)
          clear hK K
          refine norm_ (a' := ?_) ?_ ?_
          rotate_left
          · show Act.put _ (some 25) _ = _
            simp only [Act.put, List.setIfInBounds_toArray, List.set_cons_zero, List.set_cons_succ, i64_w, i32_w]
            rfl
          refine two_ (i := 4) (j := 8) (Ni := some 28) (Nj := some 5) #[true, true, true, true, true, false, false, false, false, false, false] #[true, true, true, true, false, false, false, false, true, false, false] rfl rfl rfl rfl (two_of rfl (by kernel_rfl)) (by decide) (by decide) (fun K hK => ?_) (fun K hK => ?_)
          · refine goes_ Tryd.func18 (by kernel_rfl) rfl #[.agg #[.slice Ah l1.length ch], .agg #[.int .i64 1, .slice At 1 ct], .int .i64 1, .slice (some ⟨g2, 0, none⟩) 1 1] (by rfl) rfl rfl (by (try simp only [List.map_toArray, List.map_cons, List.map_nil]); first | done | rfl) ?_
            refine (hall_Admit.calls 9 _ _ _ _ 1 _ ct [tinyY] 1 _ _ 1 [[5]] l1 5 _ HV.out (Kd.V_reads' HVT.out).2.2 (Kd.V_reads' HVT.out).2.1 (row2_V HS1.out HS2.out) K3.out).mono ?_
            rintro e q27 ⟨vn, rfl, hvn, hb⟩
            have HVN := Aside0.mk (Kd.V_mono (ok' := fun k => k ≠ gh) hvn (fun k hk => by rcases hk with (hk | hk | hk) | hk; exact hk; (subst hk; exact HFR.out _ GHS1.out); (subst hk; exact HFR.out _ GHS2.out); exact HFR.out k (Nat.le_trans (HZ.out) hk)))
            clear hvn HV
            obtain ⟨An, cn, rfl⟩ := Kd.V_slice HVN.out
            have NHZ := Aside0.mk (Nat.le_trans HZ.out hb.size)
            have NHL := Aside0.mk (HL.out.below hb)
            have NHO := Aside0.mk (Kd.V_below HO.out hb)
            clear HZ HL HO
            have HZ := NHZ
            have HL := NHL
            have HO := NHO
            clear NHZ NHL NHO
            clear hb HVT HS1 HS2
            have HV := HVN
            clear HVN
            refine ⟨_, rfl, ?_⟩
            refine hK.out _ _ ((blk_cell HL.out.box 0).trans rfl) (fun _ => ?_)
            clear hK K
            refine norm_ (a' := ?_) ?_ ?_
            rotate_left
            · show Act.put _ (some 28) _ = _
              simp only [Act.put, List.setIfInBounds_toArray, List.set_cons_zero, List.set_cons_succ, i64_w, i32_w]
              rfl
            refine pure_ (i := 5) (N := some 23) (v := ?_) (a' := ?_) #[true, true, true, true, true, true, false, false, false, false, false] rfl rfl (any_of rfl (by kernel_rfl)) (fun _ _ _ h => h) (Or.inl ⟨by rfl, ?_⟩) ?_ ?_
            rotate_left
            · intro w'
              go_simp
              with_reducible rfl
            rotate_left
            · simp only [Act.put, List.setIfInBounds_toArray, List.set_cons_zero, List.set_cons_succ, i64_w, i32_w]
              rfl
            refine pure_ (i := 6) (N := some 29) (v := ?_) (a' := ?_) #[true, true, true, true, true, true, true, false, false, false, false] rfl rfl (any_of rfl (by kernel_rfl)) (fun _ _ _ h => h) (Or.inl ⟨by rfl, ?_⟩) ?_ ?_
            rotate_left
            · intro w'
              go_simp
              with_reducible rfl
            rotate_left
            · simp only [Act.put, List.setIfInBounds_toArray, List.set_cons_zero, List.set_cons_succ, i64_w, i32_w]
              rfl
            refine pure_ (i := 7) (N := some 30) (v := ?_) (a' := ?_) #[true, true, true, true, true, true, true, true, false, false, false] rfl rfl (any_of rfl (by kernel_rfl)) (fun _ _ _ h => h) (Or.inl ⟨by rfl, ?_⟩) ?_ ?_
            rotate_left
            · intro w'
              go_simp
              with_reducible rfl
            rotate_left
            · simp only [Act.put, List.setIfInBounds_toArray, List.set_cons_zero, List.set_cons_succ, i64_w, i32_w]
              rfl
            refine one_ (i := 8) (N := some 5) #[true, true, true, true, true, true, true, true, true, false, false] rfl rfl (one_of rfl (by kernel_rfl)) (by decide) (fun K hK => ?_)
            · refine box_step ?hg (N := 5) ?hd (cs := #[.slice none 0 0]) (t := 24) ?hr ?_; (case hd => rfl); (case hg => rfl); (case hr => first | (go_simp; done) | (go_simp; rfl))
              intro ga hg q28 hbox hb
              have HA := Aside0.mk hbox
              have HG : Aside0 (w4.heap.size ≤ ga) := ⟨by rw [hg]; exact HZ.out⟩
              have NHZ := Aside0.mk (Nat.le_trans HZ.out hb.size)
              have NHL := Aside0.mk (HL.out.below hb)
              have NHO := Aside0.mk (Kd.V_below HO.out hb)
              have NHV := Aside0.mk (Kd.V_below (Kd.V_elderB HV.out ga (Nat.le_of_eq hg.symm)) hb)
              clear HZ HL HO HV
              have HZ := NHZ
              have HL := NHL
              have HO := NHO
              have HV := NHV
              clear NHZ NHL NHO NHV
              clear hg hbox hb
              refine hK.out _ _ ((blk_cell HL.out.box 0).trans rfl) (fun _ => ?_)
              clear hK K
              refine norm_ (a' := ?_) ?_ ?_
              rotate_left
              · show Act.put _ (some 5) _ = _
                simp only [Act.put, List.setIfInBounds_toArray, List.set_cons_zero, List.set_cons_succ, i64_w, i32_w]
                rfl
              refine norm_ ?_ (hJ (.agg #[.int .i64 1, .slice At 1 ct], .slice (some ⟨g1, 0, none⟩) 1 1, .slice (some ⟨g2, 0, none⟩) 1 1, .slice An l1.length cn, ga) _ ⟨(blk_cell HL.out.box 0).trans rfl, HZ.out, HL.out, HO.out, HV.out, HA.out, HG.out⟩)
              simp only [putAll, Act.put, List.setIfInBounds_toArray, List.set_cons_zero, List.set_cons_succ] <;> rfl
          · refine box_step ?hg (N := 5) ?hd (cs := #[.slice none 0 0]) (t := 24) ?hr ?_; (case hd => rfl); (case hg => rfl); (case hr => first | (go_simp; done) | (go_simp; rfl))
            intro ga hg q29 hbox hb
            have HA := Aside0.mk hbox
            have HG : Aside0 (w4.heap.size ≤ ga) := ⟨by rw [hg]; exact HZ.out⟩
            have NHZ := Aside0.mk (Nat.le_trans HZ.out hb.size)
            have NHL := Aside0.mk (HL.out.below hb)
            have NHO := Aside0.mk (Kd.V_below HO.out hb)
            have NHV := Aside0.mk (Kd.V_below (Kd.V_elderB HV.out ga (Nat.le_of_eq hg.symm)) hb)
            have NHS1 := Aside0.mk (blk_below HS1.out hb)
            have NHS2 := Aside0.mk (blk_below HS2.out hb)
            have NHVT := Aside0.mk (Kd.V_below HVT.out hb)
            clear HZ HL HO HV HS1 HS2 HVT
            have HZ := NHZ
            have HL := NHL
            have HO := NHO
            have HV := NHV
            have HS1 := NHS1
            have HS2 := NHS2
            have HVT := NHVT
            clear NHZ NHL NHO NHV NHS1 NHS2 NHVT
            clear hg hbox hb
            refine hK.out _ _ ((blk_cell HL.out.box 0).trans rfl) (fun _ => ?_)
            clear hK K
            refine norm_ (a' := ?_) ?_ ?_
            rotate_left
            · show Act.put _ (some 5) _ = _
              simp only [Act.put, List.setIfInBounds_toArray, List.set_cons_zero, List.set_cons_succ, i64_w, i32_w]
              rfl
            refine one_ (i := 4) (N := some 28) #[true, true, true, true, true, false, false, false, true, false, false] rfl rfl (one_of rfl (by kernel_rfl)) (by decide) (fun K hK => ?_)
            · refine goes_ Tryd.func18 (by kernel_rfl) rfl #[.agg #[.slice Ah l1.length ch], .agg #[.int .i64 1, .slice At 1 ct], .int .i64 1, .slice (some ⟨g2, 0, none⟩) 1 1] (by rfl) rfl rfl (by (try simp only [List.map_toArray, List.map_cons, List.map_nil]); first | done | rfl) ?_
              refine (hall_Admit.calls 9 _ _ _ _ 1 _ ct [tinyY] 1 _ _ 1 [[5]] l1 5 _ HV.out (Kd.V_reads' HVT.out).2.2 (Kd.V_reads' HVT.out).2.1 (row2_V HS1.out HS2.out) K3.out).mono ?_
              rintro e q30 ⟨vn, rfl, hvn, hb⟩
              have HVN := Aside0.mk (Kd.V_mono (ok' := fun k => (k ≠ gh) ∧ k ≠ ga) hvn (fun k hk => by rcases hk with (hk | hk | hk) | hk; exact hk; (subst hk; exact ⟨HFR.out _ GHS1.out, fun e => by have h_ := HS1.out; rw [e] at h_; have := h_.symm.trans HA.out; simp at this⟩); (subst hk; exact ⟨HFR.out _ GHS2.out, fun e => by have h_ := HS2.out; rw [e] at h_; have := h_.symm.trans HA.out; simp at this⟩); exact ⟨HFR.out k (Nat.le_trans (HZ.out) hk), fun e => by have h_ := blk_lt HA.out; omega⟩))
              clear hvn HV
              obtain ⟨An, cn, rfl⟩ := Kd.V_slice HVN.out
              have NHZ := Aside0.mk (Nat.le_trans HZ.out hb.size)
              have NHL := Aside0.mk (HL.out.below hb)
              have NHO := Aside0.mk (Kd.V_below HO.out hb)
              have NHA := Aside0.mk (blk_below HA.out hb)
              clear HZ HL HO HA
              have HZ := NHZ
              have HL := NHL
              have HO := NHO
              have HA := NHA
              clear NHZ NHL NHO NHA
              clear hb HVT HS1 HS2
              have HV := HVN
              clear HVN
              refine ⟨_, rfl, ?_⟩
              refine hK.out _ _ ((blk_cell HL.out.box 0).trans rfl) (fun _ => ?_)
              clear hK K
              refine norm_ (a' := ?_) ?_ ?_
              rotate_left
              · show Act.put _ (some 28) _ = _
                simp only [Act.put, List.setIfInBounds_toArray, List.set_cons_zero, List.set_cons_succ, i64_w, i32_w]
                rfl
              refine pure_ (i := 5) (N := some 23) (v := ?_) (a' := ?_) #[true, true, true, true, true, true, false, false, true, false, false] rfl rfl (any_of rfl (by kernel_rfl)) (fun _ _ _ h => h) (Or.inl ⟨by rfl, ?_⟩) ?_ ?_
              rotate_left
              · intro w'
                go_simp
                with_reducible rfl
              rotate_left
              · simp only [Act.put, List.setIfInBounds_toArray, List.set_cons_zero, List.set_cons_succ, i64_w, i32_w]
                rfl
              refine pure_ (i := 6) (N := some 29) (v := ?_) (a' := ?_) #[true, true, true, true, true, true, true, false, true, false, false] rfl rfl (any_of rfl (by kernel_rfl)) (fun _ _ _ h => h) (Or.inl ⟨by rfl, ?_⟩) ?_ ?_
              rotate_left
              · intro w'
                go_simp
                with_reducible rfl
              rotate_left
              · simp only [Act.put, List.setIfInBounds_toArray, List.set_cons_zero, List.set_cons_succ, i64_w, i32_w]
                rfl
              refine pure_ (i := 7) (N := some 30) (v := ?_) (a' := ?_) #[true, true, true, true, true, true, true, true, true, false, false] rfl rfl (any_of rfl (by kernel_rfl)) (fun _ _ _ h => h) (Or.inl ⟨by rfl, ?_⟩) ?_ ?_
              rotate_left
              · intro w'
                go_simp
                with_reducible rfl
              rotate_left
              · simp only [Act.put, List.setIfInBounds_toArray, List.set_cons_zero, List.set_cons_succ, i64_w, i32_w]
                rfl
              refine norm_ ?_ (hJ (.agg #[.int .i64 1, .slice At 1 ct], .slice (some ⟨g1, 0, none⟩) 1 1, .slice (some ⟨g2, 0, none⟩) 1 1, .slice An l1.length cn, ga) _ ⟨(blk_cell HL.out.box 0).trans rfl, HZ.out, HL.out, HO.out, HV.out, HA.out, HG.out⟩)
              simp only [putAll, Act.put, List.setIfInBounds_toArray, List.set_cons_zero, List.set_cons_succ] <;> rfl
        · refine box_step ?hg (N := 5) ?hd (cs := #[.slice none 0 0]) (t := 24) ?hr ?_; (case hd => rfl); (case hg => rfl); (case hr => first | (go_simp; done) | (go_simp; rfl))
          intro ga hg q31 hbox hb
          have HA := Aside0.mk hbox
          have HG : Aside0 (w4.heap.size ≤ ga) := ⟨by rw [hg]; exact HZ.out⟩
          have NHZ := Aside0.mk (Nat.le_trans HZ.out hb.size)
          have NHL := Aside0.mk (HL.out.below hb)
          have NHO := Aside0.mk (Kd.V_below HO.out hb)
          have NHV := Aside0.mk (Kd.V_below (Kd.V_elderB HV.out ga (Nat.le_of_eq hg.symm)) hb)
          have NHS1 := Aside0.mk (blk_below HS1.out hb)
          have NHS2 := Aside0.mk (blk_below HS2.out hb)
          clear HZ HL HO HV HS1 HS2
          have HZ := NHZ
          have HL := NHL
          have HO := NHO
          have HV := NHV
          have HS1 := NHS1
          have HS2 := NHS2
          clear NHZ NHL NHO NHV NHS1 NHS2
          clear hg hbox hb
          refine hK.out _ _ ((blk_cell HL.out.box 0).trans rfl) (fun _ => ?_)
          clear hK K
          refine norm_ (a' := ?_) ?_ ?_
          rotate_left
          · show Act.put _ (some 5) _ = _
            simp only [Act.put, List.setIfInBounds_toArray, List.set_cons_zero, List.set_cons_succ, i64_w, i32_w]
            rfl
          refine one_ (i := 1) (N := some 25) #[true, true, true, true, false, false, false, false, true, false, false] rfl rfl (one_of rfl (by kernel_rfl)) (by decide) (fun K hK => ?_)
          · refine goes_ Tryd.func19 (by kernel_rfl) rfl #[] (by rfl) rfl rfl (by (try simp only [List.map_toArray, List.map_cons, List.map_nil]); first | done | rfl) ?_
            refine (switchboardlaw24_tiny.calls 1 [tinyY] _ rfl).mono ?_
            rintro e q32 ⟨vt, rfl, hvt, hb⟩
            obtain ⟨At, ct, rfl⟩ := Kd.V_slice hvt
            have HVT := Aside0.mk hvt
            clear hvt
            have NHZ := Aside0.mk (Nat.le_trans HZ.out hb.size)
            have NHL := Aside0.mk (HL.out.below hb)
            have NHO := Aside0.mk (Kd.V_below HO.out hb)
            have NHV := Aside0.mk (Kd.V_below HV.out hb)
            have NHS1 := Aside0.mk (blk_below HS1.out hb)
            have NHS2 := Aside0.mk (blk_below HS2.out hb)
            have NHA := Aside0.mk (blk_below HA.out hb)
            clear HZ HL HO HV HS1 HS2 HA
            have HZ := NHZ
            have HL := NHL
            have HO := NHO
            have HV := NHV
            have HS1 := NHS1
            have HS2 := NHS2
            have HA := NHA
            clear NHZ NHL NHO NHV NHS1 NHS2 NHA
            clear hb
            refine ⟨_, rfl, ?_⟩
            refine hK.out _ _ ((blk_cell HL.out.box 0).trans rfl) (fun _ => ?_)
            clear hK K
            refine norm_ (a' := ?_) ?_ ?_
            rotate_left
            · show Act.put _ (some 25) _ = _
              simp only [Act.put, List.setIfInBounds_toArray, List.set_cons_zero, List.set_cons_succ, i64_w, i32_w]
              rfl
            refine one_ (i := 4) (N := some 28) #[true, true, true, true, true, false, false, false, true, false, false] rfl rfl (one_of rfl (by kernel_rfl)) (by decide) (fun K hK => ?_)
            · refine goes_ Tryd.func18 (by kernel_rfl) rfl #[.agg #[.slice Ah l1.length ch], .agg #[.int .i64 1, .slice At 1 ct], .int .i64 1, .slice (some ⟨g2, 0, none⟩) 1 1] (by rfl) rfl rfl (by (try simp only [List.map_toArray, List.map_cons, List.map_nil]); first | done | rfl) ?_
              refine (hall_Admit.calls 9 _ _ _ _ 1 _ ct [tinyY] 1 _ _ 1 [[5]] l1 5 _ HV.out (Kd.V_reads' HVT.out).2.2 (Kd.V_reads' HVT.out).2.1 (row2_V HS1.out HS2.out) K3.out).mono ?_
              rintro e q33 ⟨vn, rfl, hvn, hb⟩
              have HVN := Aside0.mk (Kd.V_mono (ok' := fun k => (k ≠ gh) ∧ k ≠ ga) hvn (fun k hk => by rcases hk with (hk | hk | hk) | hk; exact hk; (subst hk; exact ⟨HFR.out _ GHS1.out, fun e => by have h_ := HS1.out; rw [e] at h_; have := h_.symm.trans HA.out; simp at this⟩); (subst hk; exact ⟨HFR.out _ GHS2.out, fun e => by have h_ := HS2.out; rw [e] at h_; have := h_.symm.trans HA.out; simp at this⟩); exact ⟨HFR.out k (Nat.le_trans (HZ.out) hk), fun e => by have h_ := blk_lt HA.out; omega⟩))
              clear hvn HV
              obtain ⟨An, cn, rfl⟩ := Kd.V_slice HVN.out
              have NHZ := Aside0.mk (Nat.le_trans HZ.out hb.size)
              have NHL := Aside0.mk (HL.out.below hb)
              have NHO := Aside0.mk (Kd.V_below HO.out hb)
              have NHA := Aside0.mk (blk_below HA.out hb)
              clear HZ HL HO HA
              have HZ := NHZ
              have HL := NHL
              have HO := NHO
              have HA := NHA
              clear NHZ NHL NHO NHA
              clear hb HVT HS1 HS2
              have HV := HVN
              clear HVN
              refine ⟨_, rfl, ?_⟩
              refine hK.out _ _ ((blk_cell HL.out.box 0).trans rfl) (fun _ => ?_)
              clear hK K
              refine norm_ (a' := ?_) ?_ ?_
              rotate_left
              · show Act.put _ (some 28) _ = _
                simp only [Act.put, List.setIfInBounds_toArray, List.set_cons_zero, List.set_cons_succ, i64_w, i32_w]
                rfl
              refine pure_ (i := 5) (N := some 23) (v := ?_) (a' := ?_) #[true, true, true, true, true, true, false, false, true, false, false] rfl rfl (any_of rfl (by kernel_rfl)) (fun _ _ _ h => h) (Or.inl ⟨by rfl, ?_⟩) ?_ ?_
              rotate_left
              · intro w'
                go_simp
                with_reducible rfl
              rotate_left
              · simp only [Act.put, List.setIfInBounds_toArray, List.set_cons_zero, List.set_cons_succ, i64_w, i32_w]
                rfl
              refine pure_ (i := 6) (N := some 29) (v := ?_) (a' := ?_) #[true, true, true, true, true, true, true, false, true, false, false] rfl rfl (any_of rfl (by kernel_rfl)) (fun _ _ _ h => h) (Or.inl ⟨by rfl, ?_⟩) ?_ ?_
              rotate_left
              · intro w'
                go_simp
                with_reducible rfl
              rotate_left
              · simp only [Act.put, List.setIfInBounds_toArray, List.set_cons_zero, List.set_cons_succ, i64_w, i32_w]
                rfl
              refine pure_ (i := 7) (N := some 30) (v := ?_) (a' := ?_) #[true, true, true, true, true, true, true, true, true, false, false] rfl rfl (any_of rfl (by kernel_rfl)) (fun _ _ _ h => h) (Or.inl ⟨by rfl, ?_⟩) ?_ ?_
              rotate_left
              · intro w'
                go_simp
                with_reducible rfl
              rotate_left
              · simp only [Act.put, List.setIfInBounds_toArray, List.set_cons_zero, List.set_cons_succ, i64_w, i32_w]
                rfl
              refine norm_ ?_ (hJ (.agg #[.int .i64 1, .slice At 1 ct], .slice (some ⟨g1, 0, none⟩) 1 1, .slice (some ⟨g2, 0, none⟩) 1 1, .slice An l1.length cn, ga) _ ⟨(blk_cell HL.out.box 0).trans rfl, HZ.out, HL.out, HO.out, HV.out, HA.out, HG.out⟩)
              simp only [putAll, Act.put, List.setIfInBounds_toArray, List.set_cons_zero, List.set_cons_succ] <;> rfl
      · refine box_step ?hg (N := 5) ?hd (cs := #[.slice none 0 0]) (t := 24) ?hr ?_; (case hd => rfl); (case hg => rfl); (case hr => first | (go_simp; done) | (go_simp; rfl))
        intro ga hg q34 hbox hb
        have HA := Aside0.mk hbox
        have HG : Aside0 (w4.heap.size ≤ ga) := ⟨by rw [hg]; exact HZ.out⟩
        have NHZ := Aside0.mk (Nat.le_trans HZ.out hb.size)
        have NHL := Aside0.mk (HL.out.below hb)
        have NHO := Aside0.mk (Kd.V_below HO.out hb)
        have NHV := Aside0.mk (Kd.V_below (Kd.V_elderB HV.out ga (Nat.le_of_eq hg.symm)) hb)
        have NHS1 := Aside0.mk (blk_below HS1.out hb)
        clear HZ HL HO HV HS1
        have HZ := NHZ
        have HL := NHL
        have HO := NHO
        have HV := NHV
        have HS1 := NHS1
        clear NHZ NHL NHO NHV NHS1
        clear hg hbox hb
        refine hK.out _ _ ((blk_cell HL.out.box 0).trans rfl) (fun _ => ?_)
        clear hK K
        refine norm_ (a' := ?_) ?_ ?_
        rotate_left
        · show Act.put _ (some 5) _ = _
          simp only [Act.put, List.setIfInBounds_toArray, List.set_cons_zero, List.set_cons_succ, i64_w, i32_w]
          rfl
        refine two_ (i := 1) (j := 3) (Ni := some 25) (Nj := some 27) #[true, true, true, false, false, false, false, false, true, false, false] #[true, false, true, true, false, false, false, false, true, false, false] rfl rfl rfl rfl (two_of rfl (by kernel_rfl)) (by decide) (by decide) (fun K hK => ?_) (fun K hK => ?_)
        · refine goes_ Tryd.func19 (by kernel_rfl) rfl #[] (by rfl) rfl rfl (by (try simp only [List.map_toArray, List.map_cons, List.map_nil]); first | done | rfl) ?_
          refine (switchboardlaw24_tiny.calls 1 [tinyY] _ rfl).mono ?_
          rintro e q35 ⟨vt, rfl, hvt, hb⟩
          obtain ⟨At, ct, rfl⟩ := Kd.V_slice hvt
          have HVT := Aside0.mk hvt
          clear hvt
          have NHZ := Aside0.mk (Nat.le_trans HZ.out hb.size)
          have NHL := Aside0.mk (HL.out.below hb)
          have NHO := Aside0.mk (Kd.V_below HO.out hb)
          have NHV := Aside0.mk (Kd.V_below HV.out hb)
          have NHS1 := Aside0.mk (blk_below HS1.out hb)
          have NHA := Aside0.mk (blk_below HA.out hb)
          clear HZ HL HO HV HS1 HA
          have HZ := NHZ
          have HL := NHL
          have HO := NHO
          have HV := NHV
          have HS1 := NHS1
          have HA := NHA
          clear NHZ NHL NHO NHV NHS1 NHA
          clear hb
          refine ⟨_, rfl, ?_⟩
          refine hK.out _ _ ((blk_cell HL.out.box 0).trans rfl) (fun _ => ?_)
          clear hK K
          refine norm_ (a' := ?_) ?_ ?_
          rotate_left
          · show Act.put _ (some 25) _ = _
            simp only [Act.put, List.setIfInBounds_toArray, List.set_cons_zero, List.set_cons_succ, i64_w, i32_w]
            rfl
          refine one_ (i := 3) (N := some 27) #[true, true, true, true, false, false, false, false, true, false, false] rfl rfl (one_of rfl (by kernel_rfl)) (by decide) (fun K hK => ?_)
          · refine lit_step ?hg (N := 27) ?hd (cs := #[.slice (some ⟨g1, 0, none⟩) 1 1]) (t := 42) (n := 1) ?hr ?_; (case hd => rfl); (case hg => rfl); (case hr => first | (go_simp; done) | (go_simp; rfl))
            intro g2 hg q36 hbox hb
            have HS2 := Aside0.mk hbox
            have GHS2 : Aside0 (w4.heap.size ≤ g2) := ⟨by rw [hg]; exact HZ.out⟩
            have NHZ := Aside0.mk (Nat.le_trans HZ.out hb.size)
            have NHL := Aside0.mk (HL.out.below hb)
            have NHO := Aside0.mk (Kd.V_below HO.out hb)
            have NHV := Aside0.mk (Kd.V_below HV.out hb)
            have NHS1 := Aside0.mk (blk_below HS1.out hb)
            have NHA := Aside0.mk (blk_below HA.out hb)
            have NHVT := Aside0.mk (Kd.V_below HVT.out hb)
            clear HZ HL HO HV HS1 HA HVT
            have HZ := NHZ
            have HL := NHL
            have HO := NHO
            have HV := NHV
            have HS1 := NHS1
            have HA := NHA
            have HVT := NHVT
            clear NHZ NHL NHO NHV NHS1 NHA NHVT
            clear hg hbox hb
            refine hK.out _ _ ((blk_cell HL.out.box 0).trans rfl) (fun _ => ?_)
            clear hK K
            refine norm_ (a' := ?_) ?_ ?_
            rotate_left
            · show Act.put _ (some 27) _ = _
              simp only [Act.put, List.setIfInBounds_toArray, List.set_cons_zero, List.set_cons_succ, i64_w, i32_w]
              rfl
            refine one_ (i := 4) (N := some 28) #[true, true, true, true, true, false, false, false, true, false, false] rfl rfl (one_of rfl (by kernel_rfl)) (by decide) (fun K hK => ?_)
            · refine goes_ Tryd.func18 (by kernel_rfl) rfl #[.agg #[.slice Ah l1.length ch], .agg #[.int .i64 1, .slice At 1 ct], .int .i64 1, .slice (some ⟨g2, 0, none⟩) 1 1] (by rfl) rfl rfl (by (try simp only [List.map_toArray, List.map_cons, List.map_nil]); first | done | rfl) ?_
              refine (hall_Admit.calls 9 _ _ _ _ 1 _ ct [tinyY] 1 _ _ 1 [[5]] l1 5 _ HV.out (Kd.V_reads' HVT.out).2.2 (Kd.V_reads' HVT.out).2.1 (row2_V HS1.out HS2.out) K3.out).mono ?_
              rintro e q37 ⟨vn, rfl, hvn, hb⟩
              have HVN := Aside0.mk (Kd.V_mono (ok' := fun k => (k ≠ gh) ∧ k ≠ ga) hvn (fun k hk => by rcases hk with (hk | hk | hk) | hk; exact hk; (subst hk; exact ⟨HFR.out _ GHS1.out, fun e => by have h_ := HS1.out; rw [e] at h_; have := h_.symm.trans HA.out; simp at this⟩); (subst hk; exact ⟨HFR.out _ GHS2.out, fun e => by have h_ := HS2.out; rw [e] at h_; have := h_.symm.trans HA.out; simp at this⟩); exact ⟨HFR.out k (Nat.le_trans (HZ.out) hk), fun e => by have h_ := blk_lt HA.out; omega⟩))
              clear hvn HV
              obtain ⟨An, cn, rfl⟩ := Kd.V_slice HVN.out
              have NHZ := Aside0.mk (Nat.le_trans HZ.out hb.size)
              have NHL := Aside0.mk (HL.out.below hb)
              have NHO := Aside0.mk (Kd.V_below HO.out hb)
              have NHA := Aside0.mk (blk_below HA.out hb)
              clear HZ HL HO HA
              have HZ := NHZ
              have HL := NHL
              have HO := NHO
              have HA := NHA
              clear NHZ NHL NHO NHA
              clear hb HVT HS1 HS2
              have HV := HVN
              clear HVN
              refine ⟨_, rfl, ?_⟩
              refine hK.out _ _ ((blk_cell HL.out.box 0).trans rfl) (fun _ => ?_)
              clear hK K
              refine norm_ (a' := ?_) ?_ ?_
              rotate_left
              · show Act.put _ (some 28) _ = _
                simp only [Act.put, List.setIfInBounds_toArray, List.set_cons_zero, List.set_cons_succ, i64_w, i32_w]
                rfl
              refine pure_ (i := 5) (N := some 23) (v := ?_) (a' := ?_) #[true, true, true, true, true, true, false, false, true, false, false] rfl rfl (any_of rfl (by kernel_rfl)) (fun _ _ _ h => h) (Or.inl ⟨by rfl, ?_⟩) ?_ ?_
              rotate_left
              · intro w'
                go_simp
                with_reducible rfl
              rotate_left
              · simp only [Act.put, List.setIfInBounds_toArray, List.set_cons_zero, List.set_cons_succ, i64_w, i32_w]
                rfl
              refine pure_ (i := 6) (N := some 29) (v := ?_) (a' := ?_) #[true, true, true, true, true, true, true, false, true, false, false] rfl rfl (any_of rfl (by kernel_rfl)) (fun _ _ _ h => h) (Or.inl ⟨by rfl, ?_⟩) ?_ ?_
              rotate_left
              · intro w'
                go_simp
                with_reducible rfl
              rotate_left
              · simp only [Act.put, List.setIfInBounds_toArray, List.set_cons_zero, List.set_cons_succ, i64_w, i32_w]
                rfl
              refine pure_ (i := 7) (N := some 30) (v := ?_) (a' := ?_) #[true, true, true, true, true, true, true, true, true, false, false] rfl rfl (any_of rfl (by kernel_rfl)) (fun _ _ _ h => h) (Or.inl ⟨by rfl, ?_⟩) ?_ ?_
              rotate_left
              · intro w'
                go_simp
                with_reducible rfl
              rotate_left
              · simp only [Act.put, List.setIfInBounds_toArray, List.set_cons_zero, List.set_cons_succ, i64_w, i32_w]
                rfl
              refine norm_ ?_ (hJ (.agg #[.int .i64 1, .slice At 1 ct], .slice (some ⟨g1, 0, none⟩) 1 1, .slice (some ⟨g2, 0, none⟩) 1 1, .slice An l1.length cn, ga) _ ⟨(blk_cell HL.out.box 0).trans rfl, HZ.out, HL.out, HO.out, HV.out, HA.out, HG.out⟩)
              simp only [putAll, Act.put, List.setIfInBounds_toArray, List.set_cons_zero, List.set_cons_succ] <;> rfl
        · refine lit_step ?hg (N := 27) ?hd (cs := #[.slice (some ⟨g1, 0, none⟩) 1 1]) (t := 42) (n := 1) ?hr ?_; (case hd => rfl); (case hg => rfl); (case hr => first | (go_simp; done) | (go_simp; rfl))
          intro g2 hg q38 hbox hb
          have HS2 := Aside0.mk hbox
          have GHS2 : Aside0 (w4.heap.size ≤ g2) := ⟨by rw [hg]; exact HZ.out⟩
          have NHZ := Aside0.mk (Nat.le_trans HZ.out hb.size)
          have NHL := Aside0.mk (HL.out.below hb)
          have NHO := Aside0.mk (Kd.V_below HO.out hb)
          have NHV := Aside0.mk (Kd.V_below HV.out hb)
          have NHS1 := Aside0.mk (blk_below HS1.out hb)
          have NHA := Aside0.mk (blk_below HA.out hb)
          clear HZ HL HO HV HS1 HA
          have HZ := NHZ
          have HL := NHL
          have HO := NHO
          have HV := NHV
          have HS1 := NHS1
          have HA := NHA
          clear NHZ NHL NHO NHV NHS1 NHA
          clear hg hbox hb
          refine hK.out _ _ ((blk_cell HL.out.box 0).trans rfl) (fun _ => ?_)
          clear hK K
          refine norm_ (a' := ?_) ?_ ?_
          rotate_left
          · show Act.put _ (some 27) _ = _
            simp only [Act.put, List.setIfInBounds_toArray, List.set_cons_zero, List.set_cons_succ, i64_w, i32_w]
            rfl
          refine one_ (i := 1) (N := some 25) #[true, true, true, true, false, false, false, false, true, false, false] rfl rfl (one_of rfl (by kernel_rfl)) (by decide) (fun K hK => ?_)
          · refine goes_ Tryd.func19 (by kernel_rfl) rfl #[] (by rfl) rfl rfl (by (try simp only [List.map_toArray, List.map_cons, List.map_nil]); first | done | rfl) ?_
            refine (switchboardlaw24_tiny.calls 1 [tinyY] _ rfl).mono ?_
            rintro e q39 ⟨vt, rfl, hvt, hb⟩
            obtain ⟨At, ct, rfl⟩ := Kd.V_slice hvt
            have HVT := Aside0.mk hvt
            clear hvt
            have NHZ := Aside0.mk (Nat.le_trans HZ.out hb.size)
            have NHL := Aside0.mk (HL.out.below hb)
            have NHO := Aside0.mk (Kd.V_below HO.out hb)
            have NHV := Aside0.mk (Kd.V_below HV.out hb)
            have NHS1 := Aside0.mk (blk_below HS1.out hb)
            have NHA := Aside0.mk (blk_below HA.out hb)
            have NHS2 := Aside0.mk (blk_below HS2.out hb)
            clear HZ HL HO HV HS1 HA HS2
            have HZ := NHZ
            have HL := NHL
            have HO := NHO
            have HV := NHV
            have HS1 := NHS1
            have HA := NHA
            have HS2 := NHS2
            clear NHZ NHL NHO NHV NHS1 NHA NHS2
            clear hb
            refine ⟨_, rfl, ?_⟩
            refine hK.out _ _ ((blk_cell HL.out.box 0).trans rfl) (fun _ => ?_)
            clear hK K
            refine norm_ (a' := ?_) ?_ ?_
            rotate_left
            · show Act.put _ (some 25) _ = _
              simp only [Act.put, List.setIfInBounds_toArray, List.set_cons_zero, List.set_cons_succ, i64_w, i32_w]
              rfl
            refine one_ (i := 4) (N := some 28) #[true, true, true, true, true, false, false, false, true, false, false] rfl rfl (one_of rfl (by kernel_rfl)) (by decide) (fun K hK => ?_)
            · refine goes_ Tryd.func18 (by kernel_rfl) rfl #[.agg #[.slice Ah l1.length ch], .agg #[.int .i64 1, .slice At 1 ct], .int .i64 1, .slice (some ⟨g2, 0, none⟩) 1 1] (by rfl) rfl rfl (by (try simp only [List.map_toArray, List.map_cons, List.map_nil]); first | done | rfl) ?_
              refine (hall_Admit.calls 9 _ _ _ _ 1 _ ct [tinyY] 1 _ _ 1 [[5]] l1 5 _ HV.out (Kd.V_reads' HVT.out).2.2 (Kd.V_reads' HVT.out).2.1 (row2_V HS1.out HS2.out) K3.out).mono ?_
              rintro e q40 ⟨vn, rfl, hvn, hb⟩
              have HVN := Aside0.mk (Kd.V_mono (ok' := fun k => (k ≠ gh) ∧ k ≠ ga) hvn (fun k hk => by rcases hk with (hk | hk | hk) | hk; exact hk; (subst hk; exact ⟨HFR.out _ GHS1.out, fun e => by have h_ := HS1.out; rw [e] at h_; have := h_.symm.trans HA.out; simp at this⟩); (subst hk; exact ⟨HFR.out _ GHS2.out, fun e => by have h_ := HS2.out; rw [e] at h_; have := h_.symm.trans HA.out; simp at this⟩); exact ⟨HFR.out k (Nat.le_trans (HZ.out) hk), fun e => by have h_ := blk_lt HA.out; omega⟩))
              clear hvn HV
              obtain ⟨An, cn, rfl⟩ := Kd.V_slice HVN.out
              have NHZ := Aside0.mk (Nat.le_trans HZ.out hb.size)
              have NHL := Aside0.mk (HL.out.below hb)
              have NHO := Aside0.mk (Kd.V_below HO.out hb)
              have NHA := Aside0.mk (blk_below HA.out hb)
              clear HZ HL HO HA
              have HZ := NHZ
              have HL := NHL
              have HO := NHO
              have HA := NHA
              clear NHZ NHL NHO NHA
              clear hb HVT HS1 HS2
              have HV := HVN
              clear HVN
              refine ⟨_, rfl, ?_⟩
              refine hK.out _ _ ((blk_cell HL.out.box 0).trans rfl) (fun _ => ?_)
              clear hK K
              refine norm_ (a' := ?_) ?_ ?_
              rotate_left
              · show Act.put _ (some 28) _ = _
                simp only [Act.put, List.setIfInBounds_toArray, List.set_cons_zero, List.set_cons_succ, i64_w, i32_w]
                rfl
              refine pure_ (i := 5) (N := some 23) (v := ?_) (a' := ?_) #[true, true, true, true, true, true, false, false, true, false, false] rfl rfl (any_of rfl (by kernel_rfl)) (fun _ _ _ h => h) (Or.inl ⟨by rfl, ?_⟩) ?_ ?_
              rotate_left
              · intro w'
                go_simp
                with_reducible rfl
              rotate_left
              · simp only [Act.put, List.setIfInBounds_toArray, List.set_cons_zero, List.set_cons_succ, i64_w, i32_w]
                rfl
              refine pure_ (i := 6) (N := some 29) (v := ?_) (a' := ?_) #[true, true, true, true, true, true, true, false, true, false, false] rfl rfl (any_of rfl (by kernel_rfl)) (fun _ _ _ h => h) (Or.inl ⟨by rfl, ?_⟩) ?_ ?_
              rotate_left
              · intro w'
                go_simp
                with_reducible rfl
              rotate_left
              · simp only [Act.put, List.setIfInBounds_toArray, List.set_cons_zero, List.set_cons_succ, i64_w, i32_w]
                rfl
              refine pure_ (i := 7) (N := some 30) (v := ?_) (a' := ?_) #[true, true, true, true, true, true, true, true, true, false, false] rfl rfl (any_of rfl (by kernel_rfl)) (fun _ _ _ h => h) (Or.inl ⟨by rfl, ?_⟩) ?_ ?_
              rotate_left
              · intro w'
                go_simp
                with_reducible rfl
              rotate_left
              · simp only [Act.put, List.setIfInBounds_toArray, List.set_cons_zero, List.set_cons_succ, i64_w, i32_w]
                rfl
              refine norm_ ?_ (hJ (.agg #[.int .i64 1, .slice At 1 ct], .slice (some ⟨g1, 0, none⟩) 1 1, .slice (some ⟨g2, 0, none⟩) 1 1, .slice An l1.length cn, ga) _ ⟨(blk_cell HL.out.box 0).trans rfl, HZ.out, HL.out, HO.out, HV.out, HA.out, HG.out⟩)
              simp only [putAll, Act.put, List.setIfInBounds_toArray, List.set_cons_zero, List.set_cons_succ] <;> rfl
    · refine box_step ?hg (N := 5) ?hd (cs := #[.slice none 0 0]) (t := 24) ?hr ?_; (case hd => rfl); (case hg => rfl); (case hr => first | (go_simp; done) | (go_simp; rfl))
      intro ga hg q41 hbox hb
      have HA := Aside0.mk hbox
      have HG : Aside0 (w4.heap.size ≤ ga) := ⟨by rw [hg]; exact HZ.out⟩
      have NHZ := Aside0.mk (Nat.le_trans HZ.out hb.size)
      have NHL := Aside0.mk (HL.out.below hb)
      have NHO := Aside0.mk (Kd.V_below HO.out hb)
      have NHV := Aside0.mk (Kd.V_below (Kd.V_elderB HV.out ga (Nat.le_of_eq hg.symm)) hb)
      clear HZ HL HO HV
      have HZ := NHZ
      have HL := NHL
      have HO := NHO
      have HV := NHV
      clear NHZ NHL NHO NHV
      clear hg hbox hb
      refine hK.out _ _ ((blk_cell HL.out.box 0).trans rfl) (fun _ => ?_)
      clear hK K
      refine norm_ (a' := ?_) ?_ ?_
      rotate_left
      · show Act.put _ (some 5) _ = _
        simp only [Act.put, List.setIfInBounds_toArray, List.set_cons_zero, List.set_cons_succ, i64_w, i32_w]
        rfl
      refine two_ (i := 1) (j := 2) (Ni := some 25) (Nj := some 26) #[true, true, false, false, false, false, false, false, true, false, false] #[true, false, true, false, false, false, false, false, true, false, false] rfl rfl rfl rfl (two_of rfl (by kernel_rfl)) (by decide) (by decide) (fun K hK => ?_) (fun K hK => ?_)
      · refine goes_ Tryd.func19 (by kernel_rfl) rfl #[] (by rfl) rfl rfl (by (try simp only [List.map_toArray, List.map_cons, List.map_nil]); first | done | rfl) ?_
        refine (switchboardlaw24_tiny.calls 1 [tinyY] _ rfl).mono ?_
        rintro e q42 ⟨vt, rfl, hvt, hb⟩
        obtain ⟨At, ct, rfl⟩ := Kd.V_slice hvt
        have HVT := Aside0.mk hvt
        clear hvt
        have NHZ := Aside0.mk (Nat.le_trans HZ.out hb.size)
        have NHL := Aside0.mk (HL.out.below hb)
        have NHO := Aside0.mk (Kd.V_below HO.out hb)
        have NHV := Aside0.mk (Kd.V_below HV.out hb)
        have NHA := Aside0.mk (blk_below HA.out hb)
        clear HZ HL HO HV HA
        have HZ := NHZ
        have HL := NHL
        have HO := NHO
        have HV := NHV
        have HA := NHA
        clear NHZ NHL NHO NHV NHA
        clear hb
        refine ⟨_, rfl, ?_⟩
        refine hK.out _ _ ((blk_cell HL.out.box 0).trans rfl) (fun _ => ?_)
        clear hK K
        refine norm_ (a' := ?_) ?_ ?_
        rotate_left
        · show Act.put _ (some 25) _ = _
          simp only [Act.put, List.setIfInBounds_toArray, List.set_cons_zero, List.set_cons_succ, i64_w, i32_w]
          rfl
        refine one_ (i := 2) (N := some 26) #[true, true, true, false, false, false, false, false, true, false, false] rfl rfl (one_of rfl (by kernel_rfl)) (by decide) (fun K hK => ?_)
        · refine lit_step ?hg (N := 26) ?hd (cs := #[.int .i64 5]) (t := 3) (n := 1) ?hr ?_; (case hd => rfl); (case hg => rfl); (case hr => first | (go_simp; done) | (go_simp; rfl))
          intro g1 hg q43 hbox hb
          have HS1 := Aside0.mk hbox
          have GHS1 : Aside0 (w4.heap.size ≤ g1) := ⟨by rw [hg]; exact HZ.out⟩
          have NHZ := Aside0.mk (Nat.le_trans HZ.out hb.size)
          have NHL := Aside0.mk (HL.out.below hb)
          have NHO := Aside0.mk (Kd.V_below HO.out hb)
          have NHV := Aside0.mk (Kd.V_below HV.out hb)
          have NHA := Aside0.mk (blk_below HA.out hb)
          have NHVT := Aside0.mk (Kd.V_below HVT.out hb)
          clear HZ HL HO HV HA HVT
          have HZ := NHZ
          have HL := NHL
          have HO := NHO
          have HV := NHV
          have HA := NHA
          have HVT := NHVT
          clear NHZ NHL NHO NHV NHA NHVT
          clear hg hbox hb
          refine hK.out _ _ ((blk_cell HL.out.box 0).trans rfl) (fun _ => ?_)
          clear hK K
          refine norm_ (a' := ?_) ?_ ?_
          rotate_left
          · show Act.put _ (some 26) _ = _
            simp only [Act.put, List.setIfInBounds_toArray, List.set_cons_zero, List.set_cons_succ, i64_w, i32_w]
            rfl
          refine one_ (i := 3) (N := some 27) #[true, true, true, true, false, false, false, false, true, false, false] rfl rfl (one_of rfl (by kernel_rfl)) (by decide) (fun K hK => ?_)
          · refine lit_step ?hg (N := 27) ?hd (cs := #[.slice (some ⟨g1, 0, none⟩) 1 1]) (t := 42) (n := 1) ?hr ?_; (case hd => rfl); (case hg => rfl); (case hr => first | (go_simp; done) | (go_simp; rfl))
            intro g2 hg q44 hbox hb
            have HS2 := Aside0.mk hbox
            have GHS2 : Aside0 (w4.heap.size ≤ g2) := ⟨by rw [hg]; exact HZ.out⟩
            have NHZ := Aside0.mk (Nat.le_trans HZ.out hb.size)
            have NHL := Aside0.mk (HL.out.below hb)
            have NHO := Aside0.mk (Kd.V_below HO.out hb)
            have NHV := Aside0.mk (Kd.V_below HV.out hb)
            have NHA := Aside0.mk (blk_below HA.out hb)
            have NHVT := Aside0.mk (Kd.V_below HVT.out hb)
            have NHS1 := Aside0.mk (blk_below HS1.out hb)
            clear HZ HL HO HV HA HVT HS1
            have HZ := NHZ
            have HL := NHL
            have HO := NHO
            have HV := NHV
            have HA := NHA
            have HVT := NHVT
            have HS1 := NHS1
            clear NHZ NHL NHO NHV NHA NHVT NHS1
            clear hg hbox hb
            refine hK.out _ _ ((blk_cell HL.out.box 0).trans rfl) (fun _ => ?_)
            clear hK K
            refine norm_ (a' := ?_) ?_ ?_
            rotate_left
            · show Act.put _ (some 27) _ = _
              simp only [Act.put, List.setIfInBounds_toArray, List.set_cons_zero, List.set_cons_succ, i64_w, i32_w]
              rfl
            refine one_ (i := 4) (N := some 28) #[true, true, true, true, true, false, false, false, true, false, false] rfl rfl (one_of rfl (by kernel_rfl)) (by decide) (fun K hK => ?_)
            · refine goes_ Tryd.func18 (by kernel_rfl) rfl #[.agg #[.slice Ah l1.length ch], .agg #[.int .i64 1, .slice At 1 ct], .int .i64 1, .slice (some ⟨g2, 0, none⟩) 1 1] (by rfl) rfl rfl (by (try simp only [List.map_toArray, List.map_cons, List.map_nil]); first | done | rfl) ?_
              refine (hall_Admit.calls 9 _ _ _ _ 1 _ ct [tinyY] 1 _ _ 1 [[5]] l1 5 _ HV.out (Kd.V_reads' HVT.out).2.2 (Kd.V_reads' HVT.out).2.1 (row2_V HS1.out HS2.out) K3.out).mono ?_
              rintro e q45 ⟨vn, rfl, hvn, hb⟩
              have HVN := Aside0.mk (Kd.V_mono (ok' := fun k => (k ≠ gh) ∧ k ≠ ga) hvn (fun k hk => by rcases hk with (hk | hk | hk) | hk; exact hk; (subst hk; exact ⟨HFR.out _ GHS1.out, fun e => by have h_ := HS1.out; rw [e] at h_; have := h_.symm.trans HA.out; simp at this⟩); (subst hk; exact ⟨HFR.out _ GHS2.out, fun e => by have h_ := HS2.out; rw [e] at h_; have := h_.symm.trans HA.out; simp at this⟩); exact ⟨HFR.out k (Nat.le_trans (HZ.out) hk), fun e => by have h_ := blk_lt HA.out; omega⟩))
              clear hvn HV
              obtain ⟨An, cn, rfl⟩ := Kd.V_slice HVN.out
              have NHZ := Aside0.mk (Nat.le_trans HZ.out hb.size)
              have NHL := Aside0.mk (HL.out.below hb)
              have NHO := Aside0.mk (Kd.V_below HO.out hb)
              have NHA := Aside0.mk (blk_below HA.out hb)
              clear HZ HL HO HA
              have HZ := NHZ
              have HL := NHL
              have HO := NHO
              have HA := NHA
              clear NHZ NHL NHO NHA
              clear hb HVT HS1 HS2
              have HV := HVN
              clear HVN
              refine ⟨_, rfl, ?_⟩
              refine hK.out _ _ ((blk_cell HL.out.box 0).trans rfl) (fun _ => ?_)
              clear hK K
              refine norm_ (a' := ?_) ?_ ?_
              rotate_left
              · show Act.put _ (some 28) _ = _
                simp only [Act.put, List.setIfInBounds_toArray, List.set_cons_zero, List.set_cons_succ, i64_w, i32_w]
                rfl
              refine pure_ (i := 5) (N := some 23) (v := ?_) (a' := ?_) #[true, true, true, true, true, true, false, false, true, false, false] rfl rfl (any_of rfl (by kernel_rfl)) (fun _ _ _ h => h) (Or.inl ⟨by rfl, ?_⟩) ?_ ?_
              rotate_left
              · intro w'
                go_simp
                with_reducible rfl
              rotate_left
              · simp only [Act.put, List.setIfInBounds_toArray, List.set_cons_zero, List.set_cons_succ, i64_w, i32_w]
                rfl
              refine pure_ (i := 6) (N := some 29) (v := ?_) (a' := ?_) #[true, true, true, true, true, true, true, false, true, false, false] rfl rfl (any_of rfl (by kernel_rfl)) (fun _ _ _ h => h) (Or.inl ⟨by rfl, ?_⟩) ?_ ?_
              rotate_left
              · intro w'
                go_simp
                with_reducible rfl
              rotate_left
              · simp only [Act.put, List.setIfInBounds_toArray, List.set_cons_zero, List.set_cons_succ, i64_w, i32_w]
                rfl
              refine pure_ (i := 7) (N := some 30) (v := ?_) (a' := ?_) #[true, true, true, true, true, true, true, true, true, false, false] rfl rfl (any_of rfl (by kernel_rfl)) (fun _ _ _ h => h) (Or.inl ⟨by rfl, ?_⟩) ?_ ?_
              rotate_left
              · intro w'
                go_simp
                with_reducible rfl
              rotate_left
              · simp only [Act.put, List.setIfInBounds_toArray, List.set_cons_zero, List.set_cons_succ, i64_w, i32_w]
                rfl
              refine norm_ ?_ (hJ (.agg #[.int .i64 1, .slice At 1 ct], .slice (some ⟨g1, 0, none⟩) 1 1, .slice (some ⟨g2, 0, none⟩) 1 1, .slice An l1.length cn, ga) _ ⟨(blk_cell HL.out.box 0).trans rfl, HZ.out, HL.out, HO.out, HV.out, HA.out, HG.out⟩)
              simp only [putAll, Act.put, List.setIfInBounds_toArray, List.set_cons_zero, List.set_cons_succ] <;> rfl
      · refine lit_step ?hg (N := 26) ?hd (cs := #[.int .i64 5]) (t := 3) (n := 1) ?hr ?_; (case hd => rfl); (case hg => rfl); (case hr => first | (go_simp; done) | (go_simp; rfl))
        intro g1 hg q46 hbox hb
        have HS1 := Aside0.mk hbox
        have GHS1 : Aside0 (w4.heap.size ≤ g1) := ⟨by rw [hg]; exact HZ.out⟩
        have NHZ := Aside0.mk (Nat.le_trans HZ.out hb.size)
        have NHL := Aside0.mk (HL.out.below hb)
        have NHO := Aside0.mk (Kd.V_below HO.out hb)
        have NHV := Aside0.mk (Kd.V_below HV.out hb)
        have NHA := Aside0.mk (blk_below HA.out hb)
        clear HZ HL HO HV HA
        have HZ := NHZ
        have HL := NHL
        have HO := NHO
        have HV := NHV
        have HA := NHA
        clear NHZ NHL NHO NHV NHA
        clear hg hbox hb
        refine hK.out _ _ ((blk_cell HL.out.box 0).trans rfl) (fun _ => ?_)
        clear hK K
        refine norm_ (a' := ?_) ?_ ?_
        rotate_left
        · show Act.put _ (some 26) _ = _
          simp only [Act.put, List.setIfInBounds_toArray, List.set_cons_zero, List.set_cons_succ, i64_w, i32_w]
          rfl
        refine two_ (i := 1) (j := 3) (Ni := some 25) (Nj := some 27) #[true, true, true, false, false, false, false, false, true, false, false] #[true, false, true, true, false, false, false, false, true, false, false] rfl rfl rfl rfl (two_of rfl (by kernel_rfl)) (by decide) (by decide) (fun K hK => ?_) (fun K hK => ?_)
        · refine goes_ Tryd.func19 (by kernel_rfl) rfl #[] (by rfl) rfl rfl (by (try simp only [List.map_toArray, List.map_cons, List.map_nil]); first | done | rfl) ?_
          refine (switchboardlaw24_tiny.calls 1 [tinyY] _ rfl).mono ?_
          rintro e q47 ⟨vt, rfl, hvt, hb⟩
          obtain ⟨At, ct, rfl⟩ := Kd.V_slice hvt
          have HVT := Aside0.mk hvt
          clear hvt
          have NHZ := Aside0.mk (Nat.le_trans HZ.out hb.size)
          have NHL := Aside0.mk (HL.out.below hb)
          have NHO := Aside0.mk (Kd.V_below HO.out hb)
          have NHV := Aside0.mk (Kd.V_below HV.out hb)
          have NHA := Aside0.mk (blk_below HA.out hb)
          have NHS1 := Aside0.mk (blk_below HS1.out hb)
          clear HZ HL HO HV HA HS1
          have HZ := NHZ
          have HL := NHL
          have HO := NHO
          have HV := NHV
          have HA := NHA
          have HS1 := NHS1
          clear NHZ NHL NHO NHV NHA NHS1
          clear hb
          refine ⟨_, rfl, ?_⟩
          refine hK.out _ _ ((blk_cell HL.out.box 0).trans rfl) (fun _ => ?_)
          clear hK K
          refine norm_ (a' := ?_) ?_ ?_
          rotate_left
          · show Act.put _ (some 25) _ = _
            simp only [Act.put, List.setIfInBounds_toArray, List.set_cons_zero, List.set_cons_succ, i64_w, i32_w]
            rfl
          refine one_ (i := 3) (N := some 27) #[true, true, true, true, false, false, false, false, true, false, false] rfl rfl (one_of rfl (by kernel_rfl)) (by decide) (fun K hK => ?_)
          · refine lit_step ?hg (N := 27) ?hd (cs := #[.slice (some ⟨g1, 0, none⟩) 1 1]) (t := 42) (n := 1) ?hr ?_; (case hd => rfl); (case hg => rfl); (case hr => first | (go_simp; done) | (go_simp; rfl))
            intro g2 hg q48 hbox hb
            have HS2 := Aside0.mk hbox
            have GHS2 : Aside0 (w4.heap.size ≤ g2) := ⟨by rw [hg]; exact HZ.out⟩
            have NHZ := Aside0.mk (Nat.le_trans HZ.out hb.size)
            have NHL := Aside0.mk (HL.out.below hb)
            have NHO := Aside0.mk (Kd.V_below HO.out hb)
            have NHV := Aside0.mk (Kd.V_below HV.out hb)
            have NHA := Aside0.mk (blk_below HA.out hb)
            have NHS1 := Aside0.mk (blk_below HS1.out hb)
            have NHVT := Aside0.mk (Kd.V_below HVT.out hb)
            clear HZ HL HO HV HA HS1 HVT
            have HZ := NHZ
            have HL := NHL
            have HO := NHO
            have HV := NHV
            have HA := NHA
            have HS1 := NHS1
            have HVT := NHVT
            clear NHZ NHL NHO NHV NHA NHS1 NHVT
            clear hg hbox hb
            refine hK.out _ _ ((blk_cell HL.out.box 0).trans rfl) (fun _ => ?_)
            clear hK K
            refine norm_ (a' := ?_) ?_ ?_
            rotate_left
            · show Act.put _ (some 27) _ = _
              simp only [Act.put, List.setIfInBounds_toArray, List.set_cons_zero, List.set_cons_succ, i64_w, i32_w]
              rfl
            refine one_ (i := 4) (N := some 28) #[true, true, true, true, true, false, false, false, true, false, false] rfl rfl (one_of rfl (by kernel_rfl)) (by decide) (fun K hK => ?_)
            · refine goes_ Tryd.func18 (by kernel_rfl) rfl #[.agg #[.slice Ah l1.length ch], .agg #[.int .i64 1, .slice At 1 ct], .int .i64 1, .slice (some ⟨g2, 0, none⟩) 1 1] (by rfl) rfl rfl (by (try simp only [List.map_toArray, List.map_cons, List.map_nil]); first | done | rfl) ?_
              refine (hall_Admit.calls 9 _ _ _ _ 1 _ ct [tinyY] 1 _ _ 1 [[5]] l1 5 _ HV.out (Kd.V_reads' HVT.out).2.2 (Kd.V_reads' HVT.out).2.1 (row2_V HS1.out HS2.out) K3.out).mono ?_
              rintro e q49 ⟨vn, rfl, hvn, hb⟩
              have HVN := Aside0.mk (Kd.V_mono (ok' := fun k => (k ≠ gh) ∧ k ≠ ga) hvn (fun k hk => by rcases hk with (hk | hk | hk) | hk; exact hk; (subst hk; exact ⟨HFR.out _ GHS1.out, fun e => by have h_ := HS1.out; rw [e] at h_; have := h_.symm.trans HA.out; simp at this⟩); (subst hk; exact ⟨HFR.out _ GHS2.out, fun e => by have h_ := HS2.out; rw [e] at h_; have := h_.symm.trans HA.out; simp at this⟩); exact ⟨HFR.out k (Nat.le_trans (HZ.out) hk), fun e => by have h_ := blk_lt HA.out; omega⟩))
              clear hvn HV
              obtain ⟨An, cn, rfl⟩ := Kd.V_slice HVN.out
              have NHZ := Aside0.mk (Nat.le_trans HZ.out hb.size)
              have NHL := Aside0.mk (HL.out.below hb)
              have NHO := Aside0.mk (Kd.V_below HO.out hb)
              have NHA := Aside0.mk (blk_below HA.out hb)
              clear HZ HL HO HA
              have HZ := NHZ
              have HL := NHL
              have HO := NHO
              have HA := NHA
              clear NHZ NHL NHO NHA
              clear hb HVT HS1 HS2
              have HV := HVN
              clear HVN
              refine ⟨_, rfl, ?_⟩
              refine hK.out _ _ ((blk_cell HL.out.box 0).trans rfl) (fun _ => ?_)
              clear hK K
              refine norm_ (a' := ?_) ?_ ?_
              rotate_left
              · show Act.put _ (some 28) _ = _
                simp only [Act.put, List.setIfInBounds_toArray, List.set_cons_zero, List.set_cons_succ, i64_w, i32_w]
                rfl
              refine pure_ (i := 5) (N := some 23) (v := ?_) (a' := ?_) #[true, true, true, true, true, true, false, false, true, false, false] rfl rfl (any_of rfl (by kernel_rfl)) (fun _ _ _ h => h) (Or.inl ⟨by rfl, ?_⟩) ?_ ?_
              rotate_left
              · intro w'
                go_simp
                with_reducible rfl
              rotate_left
              · simp only [Act.put, List.setIfInBounds_toArray, List.set_cons_zero, List.set_cons_succ, i64_w, i32_w]
                rfl
              refine pure_ (i := 6) (N := some 29) (v := ?_) (a' := ?_) #[true, true, true, true, true, true, true, false, true, false, false] rfl rfl (any_of rfl (by kernel_rfl)) (fun _ _ _ h => h) (Or.inl ⟨by rfl, ?_⟩) ?_ ?_
              rotate_left
              · intro w'
                go_simp
                with_reducible rfl
              rotate_left
              · simp only [Act.put, List.setIfInBounds_toArray, List.set_cons_zero, List.set_cons_succ, i64_w, i32_w]
                rfl
              refine pure_ (i := 7) (N := some 30) (v := ?_) (a' := ?_) #[true, true, true, true, true, true, true, true, true, false, false] rfl rfl (any_of rfl (by kernel_rfl)) (fun _ _ _ h => h) (Or.inl ⟨by rfl, ?_⟩) ?_ ?_
              rotate_left
              · intro w'
                go_simp
                with_reducible rfl
              rotate_left
              · simp only [Act.put, List.setIfInBounds_toArray, List.set_cons_zero, List.set_cons_succ, i64_w, i32_w]
                rfl
              refine norm_ ?_ (hJ (.agg #[.int .i64 1, .slice At 1 ct], .slice (some ⟨g1, 0, none⟩) 1 1, .slice (some ⟨g2, 0, none⟩) 1 1, .slice An l1.length cn, ga) _ ⟨(blk_cell HL.out.box 0).trans rfl, HZ.out, HL.out, HO.out, HV.out, HA.out, HG.out⟩)
              simp only [putAll, Act.put, List.setIfInBounds_toArray, List.set_cons_zero, List.set_cons_succ] <;> rfl
        · refine lit_step ?hg (N := 27) ?hd (cs := #[.slice (some ⟨g1, 0, none⟩) 1 1]) (t := 42) (n := 1) ?hr ?_; (case hd => rfl); (case hg => rfl); (case hr => first | (go_simp; done) | (go_simp; rfl))
          intro g2 hg q50 hbox hb
          have HS2 := Aside0.mk hbox
          have GHS2 : Aside0 (w4.heap.size ≤ g2) := ⟨by rw [hg]; exact HZ.out⟩
          have NHZ := Aside0.mk (Nat.le_trans HZ.out hb.size)
          have NHL := Aside0.mk (HL.out.below hb)
          have NHO := Aside0.mk (Kd.V_below HO.out hb)
          have NHV := Aside0.mk (Kd.V_below HV.out hb)
          have NHA := Aside0.mk (blk_below HA.out hb)
          have NHS1 := Aside0.mk (blk_below HS1.out hb)
          clear HZ HL HO HV HA HS1
          have HZ := NHZ
          have HL := NHL
          have HO := NHO
          have HV := NHV
          have HA := NHA
          have HS1 := NHS1
          clear NHZ NHL NHO NHV NHA NHS1
          clear hg hbox hb
          refine hK.out _ _ ((blk_cell HL.out.box 0).trans rfl) (fun _ => ?_)
          clear hK K
          refine norm_ (a' := ?_) ?_ ?_
          rotate_left
          · show Act.put _ (some 27) _ = _
            simp only [Act.put, List.setIfInBounds_toArray, List.set_cons_zero, List.set_cons_succ, i64_w, i32_w]
            rfl
          refine one_ (i := 1) (N := some 25) #[true, true, true, true, false, false, false, false, true, false, false] rfl rfl (one_of rfl (by kernel_rfl)) (by decide) (fun K hK => ?_)
          · refine goes_ Tryd.func19 (by kernel_rfl) rfl #[] (by rfl) rfl rfl (by (try simp only [List.map_toArray, List.map_cons, List.map_nil]); first | done | rfl) ?_
            refine (switchboardlaw24_tiny.calls 1 [tinyY] _ rfl).mono ?_
            rintro e q51 ⟨vt, rfl, hvt, hb⟩
            obtain ⟨At, ct, rfl⟩ := Kd.V_slice hvt
            have HVT := Aside0.mk hvt
            clear hvt
            have NHZ := Aside0.mk (Nat.le_trans HZ.out hb.size)
            have NHL := Aside0.mk (HL.out.below hb)
            have NHO := Aside0.mk (Kd.V_below HO.out hb)
            have NHV := Aside0.mk (Kd.V_below HV.out hb)
            have NHA := Aside0.mk (blk_below HA.out hb)
            have NHS1 := Aside0.mk (blk_below HS1.out hb)
            have NHS2 := Aside0.mk (blk_below HS2.out hb)
            clear HZ HL HO HV HA HS1 HS2
            have HZ := NHZ
            have HL := NHL
            have HO := NHO
            have HV := NHV
            have HA := NHA
            have HS1 := NHS1
            have HS2 := NHS2
            clear NHZ NHL NHO NHV NHA NHS1 NHS2
            clear hb
            refine ⟨_, rfl, ?_⟩
            refine hK.out _ _ ((blk_cell HL.out.box 0).trans rfl) (fun _ => ?_)
            clear hK K
            refine norm_ (a' := ?_) ?_ ?_
            rotate_left
            · show Act.put _ (some 25) _ = _
              simp only [Act.put, List.setIfInBounds_toArray, List.set_cons_zero, List.set_cons_succ, i64_w, i32_w]
              rfl
            refine one_ (i := 4) (N := some 28) #[true, true, true, true, true, false, false, false, true, false, false] rfl rfl (one_of rfl (by kernel_rfl)) (by decide) (fun K hK => ?_)
            · refine goes_ Tryd.func18 (by kernel_rfl) rfl #[.agg #[.slice Ah l1.length ch], .agg #[.int .i64 1, .slice At 1 ct], .int .i64 1, .slice (some ⟨g2, 0, none⟩) 1 1] (by rfl) rfl rfl (by (try simp only [List.map_toArray, List.map_cons, List.map_nil]); first | done | rfl) ?_
              refine (hall_Admit.calls 9 _ _ _ _ 1 _ ct [tinyY] 1 _ _ 1 [[5]] l1 5 _ HV.out (Kd.V_reads' HVT.out).2.2 (Kd.V_reads' HVT.out).2.1 (row2_V HS1.out HS2.out) K3.out).mono ?_
              rintro e q52 ⟨vn, rfl, hvn, hb⟩
              have HVN := Aside0.mk (Kd.V_mono (ok' := fun k => (k ≠ gh) ∧ k ≠ ga) hvn (fun k hk => by rcases hk with (hk | hk | hk) | hk; exact hk; (subst hk; exact ⟨HFR.out _ GHS1.out, fun e => by have h_ := HS1.out; rw [e] at h_; have := h_.symm.trans HA.out; simp at this⟩); (subst hk; exact ⟨HFR.out _ GHS2.out, fun e => by have h_ := HS2.out; rw [e] at h_; have := h_.symm.trans HA.out; simp at this⟩); exact ⟨HFR.out k (Nat.le_trans (HZ.out) hk), fun e => by have h_ := blk_lt HA.out; omega⟩))
              clear hvn HV
              obtain ⟨An, cn, rfl⟩ := Kd.V_slice HVN.out
              have NHZ := Aside0.mk (Nat.le_trans HZ.out hb.size)
              have NHL := Aside0.mk (HL.out.below hb)
              have NHO := Aside0.mk (Kd.V_below HO.out hb)
              have NHA := Aside0.mk (blk_below HA.out hb)
              clear HZ HL HO HA
              have HZ := NHZ
              have HL := NHL
              have HO := NHO
              have HA := NHA
              clear NHZ NHL NHO NHA
              clear hb HVT HS1 HS2
              have HV := HVN
              clear HVN
              refine ⟨_, rfl, ?_⟩
              refine hK.out _ _ ((blk_cell HL.out.box 0).trans rfl) (fun _ => ?_)
              clear hK K
              refine norm_ (a' := ?_) ?_ ?_
              rotate_left
              · show Act.put _ (some 28) _ = _
                simp only [Act.put, List.setIfInBounds_toArray, List.set_cons_zero, List.set_cons_succ, i64_w, i32_w]
                rfl
              refine pure_ (i := 5) (N := some 23) (v := ?_) (a' := ?_) #[true, true, true, true, true, true, false, false, true, false, false] rfl rfl (any_of rfl (by kernel_rfl)) (fun _ _ _ h => h) (Or.inl ⟨by rfl, ?_⟩) ?_ ?_
              rotate_left
              · intro w'
                go_simp
                with_reducible rfl
              rotate_left
              · simp only [Act.put, List.setIfInBounds_toArray, List.set_cons_zero, List.set_cons_succ, i64_w, i32_w]
                rfl
              refine pure_ (i := 6) (N := some 29) (v := ?_) (a' := ?_) #[true, true, true, true, true, true, true, false, true, false, false] rfl rfl (any_of rfl (by kernel_rfl)) (fun _ _ _ h => h) (Or.inl ⟨by rfl, ?_⟩) ?_ ?_
              rotate_left
              · intro w'
                go_simp
                with_reducible rfl
              rotate_left
              · simp only [Act.put, List.setIfInBounds_toArray, List.set_cons_zero, List.set_cons_succ, i64_w, i32_w]
                rfl
              refine pure_ (i := 7) (N := some 30) (v := ?_) (a' := ?_) #[true, true, true, true, true, true, true, true, true, false, false] rfl rfl (any_of rfl (by kernel_rfl)) (fun _ _ _ h => h) (Or.inl ⟨by rfl, ?_⟩) ?_ ?_
              rotate_left
              · intro w'
                go_simp
                with_reducible rfl
              rotate_left
              · simp only [Act.put, List.setIfInBounds_toArray, List.set_cons_zero, List.set_cons_succ, i64_w, i32_w]
                rfl
              refine norm_ ?_ (hJ (.agg #[.int .i64 1, .slice At 1 ct], .slice (some ⟨g1, 0, none⟩) 1 1, .slice (some ⟨g2, 0, none⟩) 1 1, .slice An l1.length cn, ga) _ ⟨(blk_cell HL.out.box 0).trans rfl, HZ.out, HL.out, HO.out, HV.out, HA.out, HG.out⟩)
              simp only [putAll, Act.put, List.setIfInBounds_toArray, List.set_cons_zero, List.set_cons_succ] <;> rfl
  rintro ⟨u28, u30, u31, v4, ga⟩ wj ⟨hHeld, hHZ, hHL, hHO, hV, hA, hG⟩
  (try dsimp only at hHZ)
  (try dsimp only at hHL)
  (try dsimp only at hHO)
  (try dsimp only at hV)
  (try dsimp only at hA)
  (try dsimp only at hG)
  have HZ := Aside0.mk hHZ
  have HL := Aside0.mk hHL
  have HO := Aside0.mk hHO
  have HV := Aside0.mk hV
  have HA := Aside0.mk hA
  have HG := Aside0.mk hG
  clear hHZ hHL hHO hV hA hG
  obtain ⟨An, cn, rfl⟩ := Kd.V_slice HV.out
  refine norm_ (a' := ?_) ?_ ?_
  rotate_left
  · simp only [putAll, Act.put, List.setIfInBounds_toArray, List.set_cons_zero, List.set_cons_succ]
    rfl
  refine one_ (i := 9) (N := none) #[true, true, true, true, true, true, true, true, true, true, false] rfl rfl (one_of rfl (by kernel_rfl)) (by decide) (fun K hK => ?_)
  have hs : wj.cell? ⟨ga, 0, none⟩ = some (.slice none 0 0) := (blk_cell HA.out 0).trans rfl
  have hf := blk_frozen HA.out 0
  refine skip_ (w1 := ?_) (by rfl) rfl ?_ ?_
  rotate_left
  · go_simp
    rfl
  clear hs hf
  have HNG : Aside0 (gh ≠ ga) := ⟨by have := HGW.out; have := HG.out; omega⟩
  have HL2 := Aside0.mk (HL.out.far 0 (.slice An l1.length cn) (by have := HL.out.lo; have := HG.out; have := HGW.out; omega) HNG.out)
  have HO2 := Aside0.mk (Kd.V_mono (ok' := fun k => k ≠ gh) (Kd.V_far (p := ⟨ga, 0, none⟩) HO.out (fun k hk => by show k ≠ ga; have := HG.out; omega) (.slice An l1.length cn)) (fun k hk => hk.1))
  generalize (wj.setCell ⟨ga, 0, none⟩ (.slice An l1.length cn)) = w6 at HL2 HO2 ⊢
  clear HL HO HV HA hHeld
  refine hK.out _ _ ((blk_cell HL2.out.box 0).trans rfl) (fun hHeld => ?_)
  clear hK K hHeld
  refine pure_ (i := 10) (N := some 6) (v := ?_) (a' := ?_) #[true, true, true, true, true, true, true, true, true, true, true] rfl rfl (any_of rfl (by kernel_rfl)) (fun _ _ _ h => h) (Or.inl ⟨by rfl, ?_⟩) ?_ ?_
  rotate_left
  · intro w'
    go_simp
    with_reducible rfl
  rotate_left
  · simp only [Act.put, List.setIfInBounds_toArray, List.set_cons_zero, List.set_cons_succ, i64_w, i32_w]
    rfl
  refine done_ (done_of rfl (by kernel_rfl)) ?_
  have hh : w6.cell? ⟨gh, 0, none⟩ = some (.slice Ah l1.length ch) := (blk_cell HL2.out.box 0).trans rfl
  have hhf := blk_frozen HL2.out.box 0
  have HG6 := Aside0.mk (blk_lt HL2.out.box)
  go_upto_region 5 with (go_at_call 10; refine (hall_Finish.calls (fun k => k ≠ gh) Ah ch l1 1 _ _ 1 [[6]] l2 0 _ (Kd.V_below HO2.out (below_alloc (below_alloc (Below.refl _ _) _) _)) (row2_V (g1 := w6.heap.size) (g2 := w6.heap.size + 1) ?b1 ?b2) K4.out).mono ?_; (case b1 => exact blk_alloc (alloc_at _ rfl) _); (case b2 => exact alloc_at _ (by simp)); rintro e w7 ⟨vf, rfl, hvf, hb⟩; obtain ⟨Af, cf, rfl⟩ := Kd.V_slice hvf; have HB7 := Aside0.mk (below_step (below_alloc (below_alloc (Below.refl w6.heap.size w6) _) _) hb); have HV7 := Aside0.mk (Kd.V_mono (ok' := fun k => k ≠ gh) hvf (fun k hk => by have hg6 := HG6.out; rcases hk with (hk | hk | hk) | hk; exact hk; omega; omega; (simp at hk; omega))); have HL7 := Aside0.mk (HL2.out.below HB7.out); have hc7 : w7.cell? ⟨gh, 0, none⟩ = some (.slice Ah l1.length ch) := (blk_cell HL7.out.box 0).trans rfl; have hf7 := blk_frozen HL7.out.box 0; clear hvf hb hh hhf)
  clear hc7 hf7
  have HL8 := Aside0.mk (HL7.out.put (.slice Af l2.length cf))
  have HV8 := Aside0.mk (Kd.V_far (p := ⟨gh, 0, none⟩) HV7.out (fun k hk => hk) (.slice Af l2.length cf))
  generalize w7.setCell ⟨gh, 0, none⟩ (.slice Af l2.length cf) = w8 at HL8 HV8 ⊢
  clear HL7 HV7 HB7 HL2 HO2
  have hh : w8.cell? ⟨gh, 0, none⟩ = some (.slice Af l2.length cf) := (blk_cell HL8.out.box 0).trans rfl
  go_upto_region 6 with (go_at_call 12; refine (hall_Reply.calls _ Af cf l2 1 [[6]] 0 _ HV8.out K5.out).mono ?_; rintro e w9 ⟨vq, rfl, hvq, hb⟩; have HL9 := Aside0.mk (HL8.out.below hb); have HQ := Aside0.mk (Kd.N_V (base' := 0) hvq); clear hb hvq hh)
  obtain ⟨Aq, cq, rfl⟩ := Kd.V_slice HQ.out
  obtain ⟨aq, bq, x, rfl, hq1, hq2⟩ := row_one (Kd.V_reads' HQ.out).2.2
  go_wp2
  go_ret
  exact ⟨rfl, HL9.out.hb⟩


end Go.Proofs.YtlbkfeelkdombaaDoor.Pq
