/- Own text, by hand: the walk of ModelExact. -/
import Derived.Test.YtlicglgogklnkaaPr0
import Derived.Test.YtlicglgogklnkaaPr1
import Derived.Test.YtlicglgogklnkaaPr2
import Derived.Test.YtlicglgogklnkaaPr3
import Derived.Test.YtlicglgogklnkaaPr4
import Derived.Test.YtlicglgogklnkaaPr5
import Derived.Test.YtlicglgogklnkaaPr6
import Derived.Test.YtlicglgogklnkaaPr7
import Derived.Test.YtlicglgogklnkaaPr8
import Derived.Test.YtlicglgogklnkaaPr9
import Derived.Test.YtlicglgogklnkaaPr10
import Derived.Test.YtlicglgogklnkaaPr11
import Derived.Test.YtlicglgogklnkaaPr12
import Derived.Test.YtlicglgogklnkaaPr13
import Derived.Test.YtlicglgogklnkaaPr14
import Derived.Test.YtlicglgogklnkaaPr15
import Derived.Test.YtlicglgogklnkaaPrD
import Derived.Test.YtlicglgogklnkaaPrF
import Derived.Test.YtlicglgogklnkaaPrE
namespace Go.Proofs.Ytlicglgogklnkaa.Pr
open Go.RowKit Go.Proofs.YtlicglgogklnkaaW.PrintWords Go.Proofs.YtlicglgogklnkaaW.PrintLast Go.Proofs.YtlicglgogklnkaaW.PrintMore
attribute [local go_sem] max2_int min2_int max_two min_two max_three min_three max_four min_four
set_option linter.unusedVariables false
set_option linter.unusedSimpArgs false

/-- The model's variable in memory. -/
structure MW (w W : World) (x y : Value) : Prop where
  hb : Below w.heap.size w W
  m : W.heap[w.heap.size]? = some (.cells #[x, y] 24 (0, 0))
theorem MW.below {w W W' : World} {x y : Value} (h : MW w W x y) (hb : Below W.heap.size W W') : MW w W' x y := ⟨below_step h.hb hb, blk_below h.m hb⟩
theorem MW.c0 {w W : World} {x y : Value} (h : MW w W x y) : W.cell? ⟨w.heap.size, 0, none⟩ = some x := (blk_cell h.m 0).trans rfl
theorem MW.c1 {w W : World} {x y : Value} (h : MW w W x y) : W.cell? ⟨w.heap.size, 1, none⟩ = some y := (blk_cell h.m 1).trans rfl
def switchboardlaw15_ModelExact.f (_ : Nat) (_ : Int) (_ : List S37) (_ : List (List Int)) : Option Bool := some true
set_option maxHeartbeats 8000000 in
set_option maxRecDepth 100000 in
theorem switchboardlaw15_ModelExact.calls (k : Nat) (n : Int) (A0 : Option Addr) (c0 : Nat) (ls : List S37) (P1 : Nat → Prop) (A1 : Option Addr) (c1 : Nat) (tk : List (List Int)) (w : World) (hr0_1 : Kd.C k37 w A0 ls.length ls) (hc0_1 : ls.length ≤ c0) (hs1 : Kd.V (Kd.slice 3 (Kd.int .i64)) 47 w w.heap.size (fun k_ => P1 k_) (.slice A1 tk.length c1) tk) (h : switchboardlaw15_ModelExact.f k n ls tk = some true) :
    Calls Try.prog 3 #[.agg #[.int .i64 n, .slice A0 ls.length c0], .slice A1 tk.length c1] w fun e w' => e = .returned (.bool true) ∧ Below w.heap.size w w' := by
  have hu24 := Try.underlying24
  clear h
  have HR := Aside0.mk hr0_1
  have HC := Aside0.mk hc0_1
  have HV := Aside0.mk (Kd.V_mono (ok' := fun k => k < w.heap.size) (Kd.V_bound hs1) (fun k hk => hk.2))
  clear hr0_1 hc0_1 hs1
  have HL0 : Aside0 (MW w (w.alloc (.cells #[.int .i64 n, .slice A0 ls.length c0] 24)) (.int .i64 n) (.slice A0 ls.length c0)) := ⟨⟨below_alloc (Below.refl _ _) _, alloc_atR _ rfl⟩⟩
  obtain ⟨b1, hb1, qb1⟩ := msmall_ev n ls
  obtain ⟨k1, hb1⟩ := hb1.rounds
  have S1 := Aside0.mk hb1
  clear hb1
  cases b1
  case false =>
    go_enter Try.func3, Try.ntmps3
    go_wp2_with (first | (go_at_call 9; (with_reducible refine (switchboardref15_Small.calls k1 n A0 c0 ls false _ (Kd.C_below HR.out HL0.out.hb) HC.out S1.out).mono ?_); rintro e w1 ⟨rfl, hb⟩; have HL1 := Aside0.mk (HL0.out.below hb); have hx0 := HL1.out.c0; have hx1 := HL1.out.c1; clear hb) | (go_at_call 11; refine (switchboardlaw15_awake.calls true _ rfl).mono ?_; rintro e w9 ⟨rfl, hb⟩; have HB9 := Aside0.mk (below_step HL1.out.hb hb); clear hb))
    go_ret
    exact ⟨rfl, HB9.out⟩
  replace qb1 := qb1 rfl
  obtain ⟨b2, hb2, qb2⟩ := small_ev tk
  obtain ⟨k2, hb2⟩ := hb2.rounds
  have S2 := Aside0.mk hb2
  clear hb2
  cases b2
  case false =>
    go_enter Try.func3, Try.ntmps3
    go_wp2_with (first | (go_at_call 9; (with_reducible refine (switchboardref15_Small.calls k1 n A0 c0 ls true _ (Kd.C_below HR.out HL0.out.hb) HC.out S1.out).mono ?_); rintro e w1 ⟨rfl, hb⟩; have HL1 := Aside0.mk (HL0.out.below hb); have hx0 := HL1.out.c0; have hx1 := HL1.out.c1; clear hb) | (go_at_call 10; (with_reducible refine (switchboardref03_Small.calls k2 A1 c1 tk false _ (Kd.V_reads' (Kd.V_below HV.out HL1.out.hb)).2.2 (Kd.V_reads' HV.out).2.1 S2.out).mono ?_); rintro e w2 ⟨rfl, hd⟩; have HL2 := Aside0.mk (HL1.out.below hd.below); clear hx0 hx1; have hx0 := HL2.out.c0; have hx1 := HL2.out.c1; have HVW := Aside0.mk (show Kd.V (Kd.slice 3 (Kd.int .i64)) 47 w2 w2.heap.size (fun k => k < w.heap.size) (.slice A1 tk.length c1) tk from Kd.V_below HV.out HL2.out.hb); clear hd) | (go_at_call 11; refine (switchboardlaw15_awake.calls true _ rfl).mono ?_; rintro e w9 ⟨rfl, hb⟩; have HB9 := Aside0.mk (below_step HL2.out.hb hb); clear hb))
    go_ret
    exact ⟨rfl, HB9.out⟩
  replace qb2 := qb2 rfl
  obtain ⟨kR, hkR⟩ := (mright_is n ls qb1).rounds
  obtain ⟨kT, hkT⟩ := (mtokens_is n ls tk qb2).rounds
  have HRE := Aside0.mk hkR
  have HTE := Aside0.mk hkT
  clear hkR hkT
  have HMR : Aside0 (model_Right.f n ls = some (modelOk n ls)) := ⟨rfl⟩
  have HMT : Aside0 (model_Tokens.f n ls tk = some (tokOk n tk)) := ⟨rfl⟩
  obtain ⟨rw, vF, hF, hG⟩ : ∃ (e : Int) (l : List (List Int)), Ev (fun k => model_Forward.f k n ls tk) (l, e) ∧ ((e = 1 ∧ l = [] ∧ ¬ (modelOk n ls = true ∧ tokOk n tk = true)) ∨ (e = 0 ∧ l.length = tk.length ∧ ∃ ch, ChAll ch ∧ GoodM n ls ∧ GoodT n tk ∧ l = fwdV ch ls tk)) := by
    by_cases hq : modelOk n ls = true ∧ tokOk n tk = true
    · obtain ⟨ch, hch⟩ := ch_all
      exact ⟨0, _, fwd_ev hch (goodM_of hq.1) (goodT_of hq.2), .inr ⟨rfl, fwdV_length ch ls tk, ch, hch, goodM_of hq.1, goodT_of hq.2, rfl⟩⟩
    · exact ⟨1, [], fwd_no hq, .inl ⟨rfl, rfl, hq⟩⟩
  obtain ⟨kF, hkF⟩ := hF.rounds
  have HFE := Aside0.mk hkF
  have HG := Aside0.mk hG
  clear hF hkF hG qb1 qb2
  obtain ⟨mo, hmo⟩ : ∃ mo, mo = modelOk n ls := ⟨_, rfl⟩
  obtain ⟨tq, htq⟩ : ∃ tq, tq = tokOk n tk := ⟨_, rfl⟩
  rw [← hmo] at HRE HMR HG
  rw [← htq] at HTE HMT HG
  have HMO := Aside0.mk hmo
  have HTO := Aside0.mk htq
  clear hmo htq
  go_enter Try.func3, Try.ntmps3
  go_upto_region 4 with (first | (go_at_call 9; (with_reducible refine (switchboardref15_Small.calls k1 n A0 c0 ls true _ (Kd.C_below HR.out HL0.out.hb) HC.out S1.out).mono ?_); rintro e w1 ⟨rfl, hb⟩; have HL1 := Aside0.mk (HL0.out.below hb); have hx0 := HL1.out.c0; have hx1 := HL1.out.c1; clear hb) | (go_at_call 10; (with_reducible refine (switchboardref03_Small.calls k2 A1 c1 tk true _ (Kd.V_reads' (Kd.V_below HV.out HL1.out.hb)).2.2 (Kd.V_reads' HV.out).2.1 S2.out).mono ?_); rintro e w2 ⟨rfl, hd⟩; have HL2 := Aside0.mk (HL1.out.below hd.below); clear hx0 hx1; have hx0 := HL2.out.c0; have hx1 := HL2.out.c1; have HVW := Aside0.mk (show Kd.V (Kd.slice 3 (Kd.int .i64)) 47 w2 w2.heap.size (fun k => k < w.heap.size) (.slice A1 tk.length c1) tk from Kd.V_below HV.out HL2.out.hb); clear hd) | (go_at_call 12; (with_reducible refine (model_Forward.calls kF n A0 c0 ls _ A1 c1 tk vF rw _ (Kd.C_below HR.out HL2.out.hb) HC.out HVW.out HFE.out).mono ?_); rintro e w3 ⟨v5, rfl, hv, hb⟩; obtain ⟨A5, c5, rfl⟩ := Kd.V_slice hv; have HV5 := Aside0.mk hv; have HL3 := Aside0.mk (HL2.out.below hb); clear hx0 hx1 HVW hv hb))
  have HVT := Aside0.mk (Kd.V_below HV.out HL3.out.hb)
  clear HL0 HL1 HL2
  refine start_ (n := 7) (S := fun W => W.cell? ⟨w.heap.size, 0, none⟩ = some (.int .i64 n) ∧ W.cell? ⟨w.heap.size, 1, none⟩ = some (.slice A0 ls.length c0)) (ds := []) #[false, false, false, false, false, false, false] (by kernel_rfl) rfl rfl ((fun h_ => ⟨h_.c0, h_.c1⟩) (HL3.out.below (below_drew (Below.refl _ _)))) (fun hHeld => ?_)
  have HL := Aside0.mk (HL3.out.below (below_drew (Below.refl _ _)))
  have NV := Aside0.mk (Kd.V_below HVT.out (below_drew (Below.refl _ _)))
  have NV5 := Aside0.mk (Kd.V_below HV5.out (below_drew (Below.refl _ _)))
  clear HL3 HVT HV5
  have HVT := NV
  have HV5 := NV5
  clear NV NV5
  generalize w3.drew = w4 at HL HVT HV5 hHeld ⊢
  refine take_ (i := 0) (N := some 27) (v := ?_) (a' := ?_) #[true, false, false, false, false, false, false] rfl rfl (take_of rfl (by kernel_rfl)) (fun _ _ _ h => h) (Or.inl ⟨by rfl, ?_⟩) hHeld ?_ ?_
  rotate_left
  · rintro w' ⟨s0, s1⟩
    go_simp
    with_reducible rfl
  rotate_left
  · simp only [Act.put, List.setIfInBounds_toArray, List.set_cons_zero, List.set_cons_succ, i64_w, i32_w]
    rfl
  refine take_ (i := 2) (N := some 29) (v := ?_) (a' := ?_) #[true, false, true, false, false, false, false] rfl rfl (take_of rfl (by kernel_rfl)) (fun _ _ _ h => h) (Or.inl ⟨by rfl, ?_⟩) hHeld ?_ ?_
  rotate_left
  · rintro w' ⟨s0, s1⟩
    go_simp
    with_reducible rfl
  rotate_left
  · simp only [Act.put, List.setIfInBounds_toArray, List.set_cons_zero, List.set_cons_succ, i64_w, i32_w]
    rfl
  refine pure_ (i := 3) (N := some 30) (v := ?_) (a' := ?_) #[true, false, true, true, false, false, false] rfl rfl (any_of rfl (by kernel_rfl)) (fun _ _ _ h => h) (Or.inl ⟨by rfl, ?_⟩) ?_ ?_
  rotate_left
  · intro w'
    go_simp
    with_reducible rfl
  rotate_left
  · simp only [Act.put, List.setIfInBounds_toArray, List.set_cons_zero, List.set_cons_succ, i64_w, i32_w]
    rfl
  clear hHeld
  refine one_ (i := 1) (N := some 28) #[true, true, true, true, false, false, false] rfl rfl (one_of rfl (by kernel_rfl)) (by decide) (fun K hK => ?_)
  have R_ := switchboardref15_Right.calls kR n A0 c0 ls mo w4 (Kd.C_below HR.out HL.out.hb) HC.out HRE.out
  refine goes_ Try.func13 (by kernel_rfl) rfl #[.agg #[.int .i64 n, .slice A0 ls.length c0]] (by rfl) rfl rfl (by (try simp only [List.map_toArray, List.map_cons, List.map_nil]); first | done | rfl) ?_
  refine R_.mono ?_
  clear R_
  rintro e_ w5 ⟨rfl, hb⟩
  have NHL := Aside0.mk (HL.out.below hb)
  have NHVT := Aside0.mk (Kd.V_below HVT.out hb)
  have NHV5 := Aside0.mk (Kd.V_below HV5.out hb)
  clear HL HVT HV5
  have HL := NHL
  have HVT := NHVT
  have HV5 := NHV5
  clear NHL NHVT NHV5
  clear hb
  refine ⟨_, rfl, ?_⟩
  refine hK.out _ _ ⟨HL.out.c0, HL.out.c1⟩ (fun hHeld => ?_)
  clear hK K
  refine norm_ (a' := ?_) ?_ ?_
  rotate_left
  · show Act.put _ (some 28) _ = _
    simp only [Act.put, List.setIfInBounds_toArray, List.set_cons_zero, List.set_cons_succ, i64_w, i32_w]
    rfl
  clear hHeld
  refine one_ (i := 4) (N := some 31) #[true, true, true, true, true, false, false] rfl rfl (one_of rfl (by kernel_rfl)) (by decide) (fun K hK => ?_)
  have R_ := switchboardref15_Tokens.calls kT n A0 c0 ls A1 c1 tk tq w5 (Kd.C_below HR.out HL.out.hb) HC.out (Kd.V_reads' HVT.out).2.2 (Kd.V_reads' HVT.out).2.1 HTE.out
  refine goes_ Try.func14 (by kernel_rfl) rfl #[.agg #[.int .i64 n, .slice A0 ls.length c0], .slice A1 tk.length c1] (by rfl) rfl rfl (by (try simp only [List.map_toArray, List.map_cons, List.map_nil]); first | done | rfl) ?_
  refine R_.mono ?_
  clear R_
  rintro e_ w6 ⟨rfl, hb⟩
  have NHL := Aside0.mk (HL.out.below hb)
  have NHVT := Aside0.mk (Kd.V_below HVT.out hb)
  have NHV5 := Aside0.mk (Kd.V_below HV5.out hb)
  clear HL HVT HV5
  have HL := NHL
  have HVT := NHVT
  have HV5 := NHV5
  clear NHL NHVT NHV5
  clear hb
  refine ⟨_, rfl, ?_⟩
  refine hK.out _ _ ⟨HL.out.c0, HL.out.c1⟩ (fun hHeld => ?_)
  clear hK K
  refine norm_ (a' := ?_) ?_ ?_
  rotate_left
  · show Act.put _ (some 31) _ = _
    simp only [Act.put, List.setIfInBounds_toArray, List.set_cons_zero, List.set_cons_succ, i64_w, i32_w]
    rfl
  refine pure_ (i := 5) (N := some 7) (v := ?_) (a' := ?_) #[true, true, true, true, true, true, false] rfl rfl (any_of rfl (by kernel_rfl)) (fun _ _ _ h => h) (Or.inl ⟨by rfl, ?_⟩) ?_ ?_
  rotate_left
  · intro w'
    go_simp
    with_reducible rfl
  rotate_left
  · simp only [Act.put, List.setIfInBounds_toArray, List.set_cons_zero, List.set_cons_succ, i64_w, i32_w]
    rfl
  refine pure_ (i := 6) (N := some 8) (v := ?_) (a' := ?_) #[true, true, true, true, true, true, true] rfl rfl (any_of rfl (by kernel_rfl)) (fun _ _ _ h => h) (Or.inl ⟨by rfl, ?_⟩) ?_ ?_
  rotate_left
  · intro w'
    go_simp
    with_reducible rfl
  rotate_left
  · simp only [Act.put, List.setIfInBounds_toArray, List.set_cons_zero, List.set_cons_succ, i64_w, i32_w]
    rfl
  refine done_ (done_of rfl (by kernel_rfl)) ?_
  clear hHeld
  cases mo
  · cases tq
    · rcases HG.out with ⟨rfl, rfl, _⟩ | ⟨_, _, ch, _, hM, hT, _⟩
      rotate_left
      · have h1 := modelOk_good hM
        have h2 := tokOk_good hT
        rw [← HMO.out] at h1
        rw [← HTO.out] at h2
        first | (exact absurd h1 (by decide)) | (exact absurd h2 (by decide))
      have hx0 := HL.out.c0
      have hx1 := HL.out.c1
      go_wp2_with (first | (go_at_call 15; (with_reducible refine (model_Right.calls n A0 c0 ls false _ (Kd.C_below HR.out HL.out.hb) HC.out HMR.out).mono ?_); rintro e w7 ⟨rfl, hb⟩; have HL7 := Aside0.mk (HL.out.below hb); have HVT7 := Aside0.mk (Kd.V_below HVT.out hb); have HV57 := Aside0.mk (Kd.V_below HV5.out hb); clear hx0 hx1; have hx0 := HL7.out.c0; have hx1 := HL7.out.c1; clear hb) | (go_at_call 16; (with_reducible refine (model_Tokens.calls n A0 c0 ls A1 c1 tk false _ (Kd.C_below HR.out HL7.out.hb) HC.out (Kd.V_reads' HVT7.out).2.2 (Kd.V_reads' HVT7.out).2.1 HMT.out).mono ?_); rintro e w8 ⟨rfl, hb⟩; have HL8 := Aside0.mk (HL7.out.below hb); have HVT8 := Aside0.mk (Kd.V_below HVT7.out hb); have HV58 := Aside0.mk (Kd.V_below HV57.out hb); clear hx0 hx1 hb) | (go_at_call 11; refine (switchboardlaw15_awake.calls true _ rfl).mono ?_; rintro e w9 ⟨rfl, hb⟩; have HB9 := Aside0.mk (below_step HL8.out.hb hb); clear hb))
      go_ret
      exact ⟨rfl, HB9.out⟩
    · rcases HG.out with ⟨rfl, rfl, _⟩ | ⟨_, _, ch, _, hM, hT, _⟩
      rotate_left
      · have h1 := modelOk_good hM
        have h2 := tokOk_good hT
        rw [← HMO.out] at h1
        rw [← HTO.out] at h2
        first | (exact absurd h1 (by decide)) | (exact absurd h2 (by decide))
      have hx0 := HL.out.c0
      have hx1 := HL.out.c1
      go_wp2_with (first | (go_at_call 15; (with_reducible refine (model_Right.calls n A0 c0 ls false _ (Kd.C_below HR.out HL.out.hb) HC.out HMR.out).mono ?_); rintro e w7 ⟨rfl, hb⟩; have HL7 := Aside0.mk (HL.out.below hb); have HVT7 := Aside0.mk (Kd.V_below HVT.out hb); have HV57 := Aside0.mk (Kd.V_below HV5.out hb); clear hx0 hx1; have hx0 := HL7.out.c0; have hx1 := HL7.out.c1; clear hb) | (go_at_call 16; (with_reducible refine (model_Tokens.calls n A0 c0 ls A1 c1 tk true _ (Kd.C_below HR.out HL7.out.hb) HC.out (Kd.V_reads' HVT7.out).2.2 (Kd.V_reads' HVT7.out).2.1 HMT.out).mono ?_); rintro e w8 ⟨rfl, hb⟩; have HL8 := Aside0.mk (HL7.out.below hb); have HVT8 := Aside0.mk (Kd.V_below HVT7.out hb); have HV58 := Aside0.mk (Kd.V_below HV57.out hb); clear hx0 hx1 hb) | (go_at_call 11; refine (switchboardlaw15_awake.calls true _ rfl).mono ?_; rintro e w9 ⟨rfl, hb⟩; have HB9 := Aside0.mk (below_step HL8.out.hb hb); clear hb))
      go_ret
      exact ⟨rfl, HB9.out⟩
  · cases tq
    · rcases HG.out with ⟨rfl, rfl, _⟩ | ⟨_, _, ch, _, hM, hT, _⟩
      rotate_left
      · have h1 := modelOk_good hM
        have h2 := tokOk_good hT
        rw [← HMO.out] at h1
        rw [← HTO.out] at h2
        first | (exact absurd h1 (by decide)) | (exact absurd h2 (by decide))
      have hx0 := HL.out.c0
      have hx1 := HL.out.c1
      go_wp2_with (first | (go_at_call 15; (with_reducible refine (model_Right.calls n A0 c0 ls true _ (Kd.C_below HR.out HL.out.hb) HC.out HMR.out).mono ?_); rintro e w7 ⟨rfl, hb⟩; have HL7 := Aside0.mk (HL.out.below hb); have HVT7 := Aside0.mk (Kd.V_below HVT.out hb); have HV57 := Aside0.mk (Kd.V_below HV5.out hb); clear hx0 hx1; have hx0 := HL7.out.c0; have hx1 := HL7.out.c1; clear hb) | (go_at_call 16; (with_reducible refine (model_Tokens.calls n A0 c0 ls A1 c1 tk false _ (Kd.C_below HR.out HL7.out.hb) HC.out (Kd.V_reads' HVT7.out).2.2 (Kd.V_reads' HVT7.out).2.1 HMT.out).mono ?_); rintro e w8 ⟨rfl, hb⟩; have HL8 := Aside0.mk (HL7.out.below hb); have HVT8 := Aside0.mk (Kd.V_below HVT7.out hb); have HV58 := Aside0.mk (Kd.V_below HV57.out hb); clear hx0 hx1 hb) | (go_at_call 11; refine (switchboardlaw15_awake.calls true _ rfl).mono ?_; rintro e w9 ⟨rfl, hb⟩; have HB9 := Aside0.mk (below_step HL8.out.hb hb); clear hb))
      go_ret
      exact ⟨rfl, HB9.out⟩
    · rcases HG.out with ⟨_, _, hno⟩ | ⟨rfl, hlen, ch, hch, hM, hT, hl⟩
      · exact absurd ⟨rfl, rfl⟩ hno
      have HCH := Aside0.mk hch
      have HM := Aside0.mk hM
      have HTT := Aside0.mk hT
      have HVF := Aside0.mk hl
      clear hlen hch hM hT hl HG
      have hx0 := HL.out.c0
      have hx1 := HL.out.c1
      go_upto_region 9 with (first | (go_at_call 15; (with_reducible refine (model_Right.calls n A0 c0 ls true _ (Kd.C_below HR.out HL.out.hb) HC.out HMR.out).mono ?_); rintro e w7 ⟨rfl, hb⟩; have HL7 := Aside0.mk (HL.out.below hb); have HVT7 := Aside0.mk (Kd.V_below HVT.out hb); have HV57 := Aside0.mk (Kd.V_below HV5.out hb); clear hx0 hx1; have hx0 := HL7.out.c0; have hx1 := HL7.out.c1; clear hb) | (go_at_call 16; (with_reducible refine (model_Tokens.calls n A0 c0 ls A1 c1 tk true _ (Kd.C_below HR.out HL7.out.hb) HC.out (Kd.V_reads' HVT7.out).2.2 (Kd.V_reads' HVT7.out).2.1 HMT.out).mono ?_); rintro e w8 ⟨rfl, hb⟩; have HL8 := Aside0.mk (HL7.out.below hb); have HVT8 := Aside0.mk (Kd.V_below HVT7.out hb); have HV58 := Aside0.mk (Kd.V_below HV57.out hb); clear hx0 hx1 hb))
      clear HL HVT HV5 HL7 HVT7 HV57
      have hl0 : (0 : Int) < (ls.length : Int) := by have := HM.out.2.2.1; omega
      have hl0n : 0 < ls.length := by omega
      obtain ⟨ad, B0, d0, B1, d1, hA, hx0, hx1, hx2, hb0, hC0, hb1, hC1⟩ := at_T37 (Kd.C_below HR.out HL8.out.hb) (0 : Int) (by decide) hl0
      subst hA
      obtain ⟨x, hxe⟩ : ∃ x, x = rd_T37 ls (0 : Int) := ⟨_, rfl⟩
      rw [← hxe] at hx0 hx1 hx2 hb0 hC0 hb1 hC1
      have HXY : Aside0 (GoodY n x) := ⟨by rw [hxe]; exact HM.out.2.2.2.2 _ (rdY_mem (l := ls) (t := 0) (by omega))⟩
      have HC0 := Aside0.mk hC0
      have HC1 := Aside0.mk hC1
      have HB0 := Aside0.mk hb0
      have HB1 := Aside0.mk hb1
      clear hxe hC0 hC1 hb0 hb1
      have HX0 : Aside0 (w8.cell? ad = some (.slice B0 x.f0.length d0)) := ⟨hx0⟩
      have HX1 : Aside0 (w8.cell? ⟨ad.block, ad.off + 1, none⟩ = some (.slice B1 x.f1.length d1)) := ⟨hx1⟩
      have HX2 : Aside0 (w8.cell? ⟨ad.block, ad.off + 2, none⟩ = some (.int .i64 x.f2)) := ⟨hx2⟩
      clear hx0 hx1 hx2
      have HT60 : Aside0 (tk.length ≤ 60) := ⟨by have := HTT.out.2.1; omega⟩
      obtain ⟨PS, hPS⟩ : ∃ PS, PS = partsV ch x.f0 (x.f1.length : Int) x.f2 tk := ⟨_, rfl⟩
      obtain ⟨kP, hkP⟩ := (parts_ev HCH.out x.f0 x.f1 x.f2 tk HT60.out (by have := HXY.out.2.1; omega) (good_can ⟨HM.out.1, HM.out.2.1⟩ HXY.out HTT.out)).rounds
      obtain ⟨cc, s0, s1, hkQ, hUp⟩ := partsH_good HCH.out x tk HT60.out (good_can ⟨HM.out.1, HM.out.2.1⟩ HXY.out HTT.out)
      have hpl := partsV_length ch x.f0 (x.f1.length : Int) x.f2 tk
      rw [← hPS] at hkP hUp hpl
      have HPL : Aside0 (PS.length ≤ 200) := ⟨by have := HT60.out; omega⟩
      obtain ⟨QS, hQS⟩ : ∃ QS, QS = PS.map toR := ⟨_, rfl⟩
      rw [← hQS] at hUp
      have HUP := Aside0.mk hUp
      have HQL : Aside0 (QS.length = PS.length) := ⟨by rw [hQS, List.length_map]⟩
      have HQ : Aside0 (∀ i : Nat, i < PS.length → rd_T41 QS (i : Int) = toR (rd_T42 PS (i : Int))) := ⟨fun i hi => by rw [hQS, rdR_get PS hi, rdQ_get hi]⟩
      have HKP := Aside0.mk hkP
      have HKQ := Aside0.mk hkQ
      clear hPS hQS hkP hkQ hpl hUp
      have HB := Aside0.mk (below_drew (Below.refl w8.heap.size w8))
      refine start_ (n := 14) (S := fun W => W.cell? ⟨w.heap.size, 1, none⟩ = some (.slice (some ad) ls.length c0) ∧ W.cell? ad = some (.slice B0 x.f0.length d0) ∧ W.cell? ⟨ad.block, ad.off + 1, none⟩ = some (.slice B1 x.f1.length d1) ∧ W.cell? ⟨ad.block, ad.off + 2, none⟩ = some (.int .i64 x.f2)) (ds := []) #[false, false, false, false, false, false, false, false, false, false, false, false, false, false] (by kernel_rfl) rfl rfl ((fun h_ => ⟨h_.c1, pw_cell_below HB.out HX0.out, pw_cell_below HB.out HX1.out, pw_cell_below HB.out HX2.out⟩) (HL8.out.below HB.out)) (fun hHeld => ?_)
      have HL := Aside0.mk (HL8.out.below HB.out)
      have HVT := Aside0.mk (Kd.V_below HVT8.out HB.out)
      have HV5 := Aside0.mk (Kd.V_below HV58.out HB.out)
      clear HL8 HVT8 HV58
      generalize w8.drew = w10 at HB HL HVT HV5 hHeld ⊢
      refine pure_ (i := 0) (N := some 59) (v := ?_) (a' := ?_) #[true, false, false, false, false, false, false, false, false, false, false, false, false, false] rfl rfl (any_of rfl (by kernel_rfl)) (fun _ _ _ h => h) (Or.inl ⟨by rfl, ?_⟩) ?_ ?_
      rotate_left
      · intro w'
        go_simp
        with_reducible rfl
      rotate_left
      · simp only [Act.put, List.setIfInBounds_toArray, List.set_cons_zero, List.set_cons_succ, i64_w, i32_w]
        rfl
      refine take_ (i := 1) (N := some 60) (v := ?_) (a' := ?_) #[true, true, false, false, false, false, false, false, false, false, false, false, false, false] rfl rfl (take_of rfl (by kernel_rfl)) (fun _ _ _ h => h) (Or.inl ⟨by rfl, ?_⟩) hHeld ?_ ?_
      rotate_left
      · rintro w' ⟨s0, s1, s2, s3⟩
        go_simp
        with_reducible rfl
      rotate_left
      · simp only [Act.put, List.setIfInBounds_toArray, List.set_cons_zero, List.set_cons_succ, i64_w, i32_w]
        rfl
      refine pure_ (i := 2) (N := some 61) (v := ?_) (a' := ?_) #[true, true, true, false, false, false, false, false, false, false, false, false, false, false] rfl rfl (any_of rfl (by kernel_rfl)) (fun _ _ _ h => h) (Or.inl ⟨by rfl, ?_⟩) ?_ ?_
      rotate_left
      · intro w'
        go_simp
        with_reducible rfl
      rotate_left
      · simp only [Act.put, List.setIfInBounds_toArray, List.set_cons_zero, List.set_cons_succ, i64_w, i32_w]
        rfl
      refine take_ (i := 3) (N := some 62) (v := ?_) (a' := ?_) #[true, true, true, true, false, false, false, false, false, false, false, false, false, false] rfl rfl (take_of rfl (by kernel_rfl)) (fun _ _ _ h => h) (Or.inl ⟨by rfl, ?_⟩) hHeld ?_ ?_
      rotate_left
      · rintro w' ⟨s0, s1, s2, s3⟩
        go_simp
        with_reducible rfl
      rotate_left
      · simp only [Act.put, List.setIfInBounds_toArray, List.set_cons_zero, List.set_cons_succ, i64_w, i32_w]
        rfl
      refine pure_ (i := 4) (N := some 63) (v := ?_) (a' := ?_) #[true, true, true, true, true, false, false, false, false, false, false, false, false, false] rfl rfl (any_of rfl (by kernel_rfl)) (fun _ _ _ h => h) (Or.inl ⟨by rfl, ?_⟩) ?_ ?_
      rotate_left
      · intro w'
        go_simp
        with_reducible rfl
      rotate_left
      · simp only [Act.put, List.setIfInBounds_toArray, List.set_cons_zero, List.set_cons_succ, i64_w, i32_w]
        rfl
      refine pure_ (i := 6) (N := some 65) (v := ?_) (a' := ?_) #[true, true, true, true, true, false, true, false, false, false, false, false, false, false] rfl rfl (any_of rfl (by kernel_rfl)) (fun _ _ _ h => h) (Or.inl ⟨by rfl, ?_⟩) ?_ ?_
      rotate_left
      · intro w'
        go_simp
        with_reducible rfl
      rotate_left
      · simp only [Act.put, List.setIfInBounds_toArray, List.set_cons_zero, List.set_cons_succ, i64_w, i32_w]
        rfl
      refine take_ (i := 7) (N := some 66) (v := ?_) (a' := ?_) #[true, true, true, true, true, false, true, true, false, false, false, false, false, false] rfl rfl (take_of rfl (by kernel_rfl)) (fun _ _ _ h => h) (Or.inl ⟨by rfl, ?_⟩) hHeld ?_ ?_
      rotate_left
      · rintro w' ⟨s0, s1, s2, s3⟩
        go_simp
        with_reducible rfl
      rotate_left
      · simp only [Act.put, List.setIfInBounds_toArray, List.set_cons_zero, List.set_cons_succ, i64_w, i32_w]
        rfl
      refine pure_ (i := 8) (N := some 67) (v := ?_) (a' := ?_) #[true, true, true, true, true, false, true, true, true, false, false, false, false, false] rfl rfl (any_of rfl (by kernel_rfl)) (fun _ _ _ h => h) (Or.inl ⟨by rfl, ?_⟩) ?_ ?_
      rotate_left
      · intro w'
        go_simp
        with_reducible rfl
      rotate_left
      · simp only [Act.put, List.setIfInBounds_toArray, List.set_cons_zero, List.set_cons_succ, i64_w, i32_w]
        rfl
      refine take_ (i := 9) (N := some 68) (v := ?_) (a' := ?_) #[true, true, true, true, true, false, true, true, true, true, false, false, false, false] rfl rfl (take_of rfl (by kernel_rfl)) (fun _ _ _ h => h) (Or.inl ⟨by rfl, ?_⟩) hHeld ?_ ?_
      rotate_left
      · rintro w' ⟨s0, s1, s2, s3⟩
        go_simp
        with_reducible rfl
      rotate_left
      · simp only [Act.put, List.setIfInBounds_toArray, List.set_cons_zero, List.set_cons_succ, i64_w, i32_w]
        rfl
      refine pure_ (i := 10) (N := some 69) (v := ?_) (a' := ?_) #[true, true, true, true, true, false, true, true, true, true, true, false, false, false] rfl rfl (any_of rfl (by kernel_rfl)) (fun _ _ _ h => h) (Or.inl ⟨by rfl, ?_⟩) ?_ ?_
      rotate_left
      · intro w'
        go_simp
        with_reducible rfl
      rotate_left
      · simp only [Act.put, List.setIfInBounds_toArray, List.set_cons_zero, List.set_cons_succ, i64_w, i32_w]
        rfl
      clear hHeld
      refine one_ (i := 5) (N := some 64) #[true, true, true, true, true, true, true, true, true, true, true, false, false, false] rfl rfl (one_of rfl (by kernel_rfl)) (by decide) (fun K hK => ?_)
      have R_ := model_Parts.calls kP B0 d0 x.f0 B1 d1 x.f1 x.f2 A1 c1 tk PS w10 (Kd.C_below HC0.out (below_step (Below.refl _ _) HB.out)) HB0.out (Kd.C_below HC1.out HB.out) HB1.out (Kd.V_reads' HVT.out).2.2 (Kd.V_reads' HVT.out).2.1 HKP.out
      refine goes_ Try.func17 (by kernel_rfl) rfl #[.agg #[.slice B0 x.f0.length d0, .slice B1 x.f1.length d1, .int .i64 x.f2], .slice A1 tk.length c1] (by rfl) rfl rfl (by (try simp only [List.map_toArray, List.map_cons, List.map_nil]); first | done | rfl) ?_
      refine R_.mono ?_
      clear R_
      rintro e_ w11 ⟨v9, rfl, ho, hb⟩
      obtain ⟨A9, c9, rfl⟩ := Kd.R_slice ho
      have HP9 := Aside0.mk ho
      clear ho
      have NHL := Aside0.mk (HL.out.below hb)
      have NHVT := Aside0.mk (Kd.V_below HVT.out hb)
      have NHV5 := Aside0.mk (Kd.V_below HV5.out hb)
      have NHB := Aside0.mk (below_step HB.out hb)
      clear HL HVT HV5 HB
      have HL := NHL
      have HVT := NHVT
      have HV5 := NHV5
      have HB := NHB
      clear NHL NHVT NHV5 NHB
      clear hb
      refine ⟨_, rfl, ?_⟩
      refine hK.out _ _ ⟨HL.out.c1, pw_cell_below HB.out HX0.out, pw_cell_below HB.out HX1.out, pw_cell_below HB.out HX2.out⟩ (fun hHeld => ?_)
      clear hK K
      refine norm_ (a' := ?_) ?_ ?_
      rotate_left
      · show Act.put _ (some 64) _ = _
        simp only [Act.put, List.setIfInBounds_toArray, List.set_cons_zero, List.set_cons_succ, i64_w, i32_w]
        rfl
      clear hHeld
      refine one_ (i := 11) (N := some 70) #[true, true, true, true, true, true, true, true, true, true, true, true, false, false] rfl rfl (one_of rfl (by kernel_rfl)) (by decide) (fun K hK => ?_)
      have R_ := switchboardref15_Parts.calls B0 d0 B1 d1 x A1 c1 tk cc s0 s1 w11 (Kd.C_below HC0.out HB.out) HB0.out (Kd.C_below HC1.out HB.out) HB1.out (Kd.V_reads' HVT.out).2.2 (Kd.V_reads' HVT.out).2.1 HKQ.out
      refine goes_ Try.func18 (by kernel_rfl) rfl #[.agg #[.slice B0 x.f0.length d0, .slice B1 x.f1.length d1, .int .i64 x.f2], .slice A1 tk.length c1] (by rfl) rfl rfl (by (try simp only [List.map_toArray, List.map_cons, List.map_nil]); first | done | rfl) ?_
      refine R_.mono ?_
      clear R_
      rintro e_ w12 ⟨v10, rfl, ho, hb⟩
      obtain ⟨A10, c10, hv⟩ : ∃ A c, v10 = .slice A PS.length c := by rw [HUP.out] at ho; obtain ⟨A, c, h_⟩ := Kd.R_slice ho; exact ⟨A, c, by rw [h_, HQL.out]⟩
      subst hv
      rw [HUP.out] at ho
      have HP10 := Aside0.mk ho
      clear ho
      have NHL := Aside0.mk (HL.out.below hb)
      have NHVT := Aside0.mk (Kd.V_below HVT.out hb)
      have NHV5 := Aside0.mk (Kd.V_below HV5.out hb)
      have NHB := Aside0.mk (below_step HB.out hb)
      have NHP9 := Aside0.mk (Kd.R_below HP9.out hb)
      clear HL HVT HV5 HB HP9
      have HL := NHL
      have HVT := NHVT
      have HV5 := NHV5
      have HB := NHB
      have HP9 := NHP9
      clear NHL NHVT NHV5 NHB NHP9
      clear hb
      refine ⟨_, rfl, ?_⟩
      refine hK.out _ _ ⟨HL.out.c1, pw_cell_below HB.out HX0.out, pw_cell_below HB.out HX1.out, pw_cell_below HB.out HX2.out⟩ (fun hHeld => ?_)
      clear hK K
      refine norm_ (a' := ?_) ?_ ?_
      rotate_left
      · show Act.put _ (some 70) _ = _
        simp only [Act.put, List.setIfInBounds_toArray, List.set_cons_zero, List.set_cons_succ, i64_w, i32_w]
        rfl
      refine pure_ (i := 12) (N := some 9) (v := ?_) (a' := ?_) #[true, true, true, true, true, true, true, true, true, true, true, true, true, false] rfl rfl (any_of rfl (by kernel_rfl)) (fun _ _ _ h => h) (Or.inl ⟨by rfl, ?_⟩) ?_ ?_
      rotate_left
      · intro w'
        go_simp
        with_reducible rfl
      rotate_left
      · simp only [Act.put, List.setIfInBounds_toArray, List.set_cons_zero, List.set_cons_succ, i64_w, i32_w]
        rfl
      refine pure_ (i := 13) (N := some 10) (v := ?_) (a' := ?_) #[true, true, true, true, true, true, true, true, true, true, true, true, true, true] rfl rfl (any_of rfl (by kernel_rfl)) (fun _ _ _ h => h) (Or.inl ⟨by rfl, ?_⟩) ?_ ?_
      rotate_left
      · intro w'
        go_simp
        with_reducible rfl
      rotate_left
      · simp only [Act.put, List.setIfInBounds_toArray, List.set_cons_zero, List.set_cons_succ, i64_w, i32_w]
        rfl
      refine done_ (done_of rfl (by kernel_rfl)) ?_
      clear hHeld
      have hpl : (PS.length : Int) < 1000000 := by have := HPL.out; omega
      go_wp2
      go_loopw [78] (fun v78 W => ∃ (i : Nat), v78 = .int .i64 (i : Int) ∧ Aside0 (i ≤ PS.length) ∧ Aside0 (Below w12.heap.size w12 W)) (fun v78 _ => PS.length - (intOf v78).toNat)
      case atStart => exact ⟨0, rfl, ⟨by omega⟩, ⟨Below.refl _ _⟩⟩
      case round =>
        obtain ⟨i, rfl, HI, HBW⟩ := hrel
        by_cases hlt : i < PS.length
        rotate_left
        · have k1 : decide ((i : Int) < (PS.length : Int)) = false := decide_eq_false (by omega)
          have k1n : decide (i < PS.length) = false := decide_eq_false hlt
          clear hlt
          have HL13 := Aside0.mk (HL.out.below HBW.out)
          have HVT13 := Aside0.mk (Kd.V_below HVT.out HBW.out)
          have HV513 := Aside0.mk (Kd.V_below HV5.out HBW.out)
          have hx0 := HL13.out.c0
          have hx1 := HL13.out.c1
          have HFH : Aside0 (FwdH ls tk vF) := ⟨by rw [HVF.out]; exact fwdH_good HCH.out ⟨HM.out.1, HM.out.2.1⟩ ls tk HM.out.2.2.2.2 HTT.out⟩
          have hgs := good_short HM.out.2.1 (fwdV_good ch ls tk HTT.out)
          rw [← HVF.out] at hgs
          obtain ⟨kS, hkS⟩ := (same15 (a := vF) (b := vF) rfl hgs.1 hgs.2).rounds
          have HKS := Aside0.mk hkS
          have HLS : Aside0 (ls.length ≤ 60) := ⟨by have := HM.out.2.2.2.1; omega⟩
          clear hgs hkS
          have HVTW := Aside0.mk (show Kd.V (Kd.slice 3 (Kd.int .i64)) 47 wr wr.heap.size (fun k => k < w.heap.size) (.slice A1 tk.length c1) tk from HVT13.out)
          go_wp2_with (first | (go_at_call 20; (with_reducible refine (switchboardref15_Forward.calls n (some ad) c0 ls _ A1 c1 tk vF _ (Kd.C_below HR.out HL13.out.hb) HC.out HVTW.out HLS.out HFH.out).mono ?_); rintro e w14 ⟨v94, rfl, hv, hb⟩; obtain ⟨A94, c94, rfl⟩ := Kd.V_slice hv; have HV94 := Aside0.mk hv; have HL14 := Aside0.mk (HL13.out.below hb); have HV514 := Aside0.mk (Kd.V_below HV513.out hb); clear hx0 hx1 hv hb) | (go_at_call 19; (with_reducible refine (switchboardref15_Same.calls kS A5 c5 vF A94 c94 vF true _ (Kd.V_reads' HV514.out).2.2 (Kd.V_reads' HV514.out).2.1 (Kd.V_reads' HV94.out).2.2 (Kd.V_reads' HV94.out).2.1 HKS.out).mono ?_); rintro e w15 ⟨rfl, hd⟩; have HL15 := Aside0.mk (HL14.out.below hd.below); clear hd) | (go_at_call 11; refine (switchboardlaw15_awake.calls true _ rfl).mono ?_; rintro e w9 ⟨rfl, hb⟩; have HB9 := Aside0.mk (below_step HL15.out.hb hb); clear hb))
          go_ret
          exact ⟨rfl, HB9.out⟩
        · have k1 : decide ((i : Int) < (PS.length : Int)) = true := decide_eq_true (by omega)
          have k1n : decide (i < PS.length) = true := decide_eq_true hlt
          have HW1 : Aside0 (wrap64 ((i : Int) + 1) = (i : Int) + 1) := ⟨wrap_small (by omega) (by omega)⟩
          have HIL := Aside0.mk hlt
          obtain ⟨a9, hA, hp0, hp1, hp2, hp3⟩ := at_T42 (Kd.C_below (Kd.R_reads' HP9.out).2.2 HBW.out) (i : Int) (by omega) (by omega)
          subst hA
          obtain ⟨a10, hA, hq0, hq1, hq2, hq3⟩ := at_T41 (Kd.C_below (Kd.R_reads' HP10.out).2.2 HBW.out) (i : Int) (by omega) (by have := HQL.out; omega)
          subst hA
          rw [HQ.out i hlt] at hq0 hq1 hq2 hq3
          rw [Int.toNat_natCast] at hp0 hp1 hp2 hp3 hq0 hq1 hq2 hq3
          obtain ⟨p, hp⟩ : ∃ p, p = rd_T42 PS (i : Int) := ⟨_, rfl⟩
          rw [← hp] at hp0 hp1 hp2 hp3 hq0 hq1 hq2 hq3
          clear hp
          go_upto_region 15 with (fail)
          have HBD := Aside0.mk (below_drew (Below.refl wr.heap.size wr))
          have HB13 := Aside0.mk (below_step HBW.out HBD.out)
          refine start_ (n := 9) (S := fun W => W.cell? (a9.add (i * 4)) = some (.int .i64 p.f0) ∧ W.cell? ⟨(a9.add (i * 4)).block, (a9.add (i * 4)).off + 1, none⟩ = some (.int .i64 p.f1) ∧ W.cell? ⟨(a9.add (i * 4)).block, (a9.add (i * 4)).off + 2, none⟩ = some (.int .i64 p.f2) ∧ W.cell? ⟨(a9.add (i * 4)).block, (a9.add (i * 4)).off + 3, none⟩ = some (.int .i64 p.f3) ∧ W.cell? (a10.add (i * 4)) = some (.int .i64 p.f0) ∧ W.cell? ⟨(a10.add (i * 4)).block, (a10.add (i * 4)).off + 1, none⟩ = some (.int .i64 p.f1) ∧ W.cell? ⟨(a10.add (i * 4)).block, (a10.add (i * 4)).off + 2, none⟩ = some (.int .i64 p.f2) ∧ W.cell? ⟨(a10.add (i * 4)).block, (a10.add (i * 4)).off + 3, none⟩ = some (.int .i64 p.f3)) (ds := []) #[false, false, false, false, false, false, false, false, false] (by kernel_rfl) rfl rfl ⟨pw_cell_below HBD.out hp0, pw_cell_below HBD.out hp1, pw_cell_below HBD.out hp2, pw_cell_below HBD.out hp3, pw_cell_below HBD.out hq0, pw_cell_below HBD.out hq1, pw_cell_below HBD.out hq2, pw_cell_below HBD.out hq3⟩ (fun hHeld => ?_)
          clear hp0 hp1 hp2 hp3 hq0 hq1 hq2 hq3 HBD
          generalize wr.drew = w13 at HB13 hHeld ⊢
          refine pure_ (i := 0) (N := some 81) (v := ?_) (a' := ?_) #[true, false, false, false, false, false, false, false, false] rfl rfl (any_of rfl (by kernel_rfl)) (fun _ _ _ h => h) (Or.inl ⟨by rfl, ?_⟩) ?_ ?_
          rotate_left
          · intro w'
            go_simp
            with_reducible rfl
          rotate_left
          · simp only [Act.put, List.setIfInBounds_toArray, List.set_cons_zero, List.set_cons_succ, i64_w, i32_w]
            rfl
          refine pure_ (i := 1) (N := some 82) (v := ?_) (a' := ?_) #[true, true, false, false, false, false, false, false, false] rfl rfl (any_of rfl (by kernel_rfl)) (fun _ _ _ h => h) (Or.inl ⟨by rfl, ?_⟩) ?_ ?_
          rotate_left
          · intro w'
            go_simp
            with_reducible rfl
          rotate_left
          · simp only [Act.put, List.setIfInBounds_toArray, List.set_cons_zero, List.set_cons_succ, i64_w, i32_w]
            rfl
          refine pure_ (i := 2) (N := some 83) (v := ?_) (a' := ?_) #[true, true, true, false, false, false, false, false, false] rfl rfl (any_of rfl (by kernel_rfl)) (fun _ _ _ h => h) (Or.inl ⟨by rfl, ?_⟩) ?_ ?_
          rotate_left
          · intro w'
            go_simp
            with_reducible rfl
          rotate_left
          · simp only [Act.put, List.setIfInBounds_toArray, List.set_cons_zero, List.set_cons_succ, i64_w, i32_w]
            rfl
          refine take_ (i := 3) (N := some 84) (v := ?_) (a' := ?_) #[true, true, true, true, false, false, false, false, false] rfl rfl (take_of rfl (by kernel_rfl)) (fun _ _ _ h => h) (Or.inl ⟨by rfl, ?_⟩) hHeld ?_ ?_
          rotate_left
          · rintro w' ⟨s0, s1, s2, s3, s4, s5, s6, s7⟩
            go_simp
            with_reducible rfl
          rotate_left
          · simp only [Act.put, List.setIfInBounds_toArray, List.set_cons_zero, List.set_cons_succ, i64_w, i32_w]
            rfl
          refine pure_ (i := 4) (N := some 85) (v := ?_) (a' := ?_) #[true, true, true, true, true, false, false, false, false] rfl rfl (any_of rfl (by kernel_rfl)) (fun _ _ _ h => h) (Or.inl ⟨by rfl, ?_⟩) ?_ ?_
          rotate_left
          · intro w'
            go_simp
            with_reducible rfl
          rotate_left
          · simp only [Act.put, List.setIfInBounds_toArray, List.set_cons_zero, List.set_cons_succ, i64_w, i32_w]
            rfl
          refine pure_ (i := 5) (N := some 86) (v := ?_) (a' := ?_) #[true, true, true, true, true, true, false, false, false] rfl rfl (any_of rfl (by kernel_rfl)) (fun _ _ _ h => h) (Or.inl ⟨by rfl, ?_⟩) ?_ ?_
          rotate_left
          · intro w'
            go_simp
            with_reducible rfl
          rotate_left
          · simp only [Act.put, List.setIfInBounds_toArray, List.set_cons_zero, List.set_cons_succ, i64_w, i32_w]
            rfl
          refine pure_ (i := 6) (N := some 87) (v := ?_) (a' := ?_) #[true, true, true, true, true, true, true, false, false] rfl rfl (any_of rfl (by kernel_rfl)) (fun _ _ _ h => h) (Or.inl ⟨by rfl, ?_⟩) ?_ ?_
          rotate_left
          · intro w'
            go_simp
            with_reducible rfl
          rotate_left
          · simp only [Act.put, List.setIfInBounds_toArray, List.set_cons_zero, List.set_cons_succ, i64_w, i32_w]
            rfl
          refine take_ (i := 7) (N := some 88) (v := ?_) (a' := ?_) #[true, true, true, true, true, true, true, true, false] rfl rfl (take_of rfl (by kernel_rfl)) (fun _ _ _ h => h) (Or.inl ⟨by rfl, ?_⟩) hHeld ?_ ?_
          rotate_left
          · rintro w' ⟨s0, s1, s2, s3, s4, s5, s6, s7⟩
            go_simp
            with_reducible rfl
          rotate_left
          · simp only [Act.put, List.setIfInBounds_toArray, List.set_cons_zero, List.set_cons_succ, i64_w, i32_w]
            rfl
          refine pure_ (i := 8) (N := some 89) (v := ?_) (a' := ?_) #[true, true, true, true, true, true, true, true, true] rfl rfl (any_of rfl (by kernel_rfl)) (fun _ _ _ h => h) (Or.inl ⟨by rfl, ?_⟩) ?_ ?_
          rotate_left
          · intro w'
            go_simp
            with_reducible rfl
          rotate_left
          · simp only [Act.put, List.setIfInBounds_toArray, List.set_cons_zero, List.set_cons_succ, i64_w, i32_w]
            rfl
          refine done_ (done_of rfl (by kernel_rfl)) ?_
          clear hHeld
          go_wp2
          go_roundw
          case rel => exact ⟨i + 1, by first | (rw [HW1.out]; go_num) | go_num, ⟨by have := HIL.out; omega⟩, HB13⟩
          case measure => (try rw [HW1.out]); have := HIL.out; simp [intOf]; omega


end Go.Proofs.Ytlicglgogklnkaa.Pr
