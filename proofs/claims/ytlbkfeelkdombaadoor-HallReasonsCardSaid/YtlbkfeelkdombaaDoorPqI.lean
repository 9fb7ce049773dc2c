/- Own text, by hand: the walk of HallReasons. -/
import Derived.Test.YtlbkfeelkdombaaDoorPq0
import Derived.Test.YtlbkfeelkdombaaDoorPq1
import Derived.Test.YtlbkfeelkdombaaDoorPq2
import Derived.Test.YtlbkfeelkdombaaDoorPq3
import Derived.Test.YtlbkfeelkdombaaDoorPq4
import Derived.Test.YtlbkfeelkdombaaDoorPq5
import Derived.Test.YtlbkfeelkdombaaDoorPqG
import Derived.Test.YtlbkfeelkdombaaDoorPqH
import Derived.Test.YtlbkfeelkdombaaDoorPqE
import Derived.Test.YtlbkfeelkdombaaDoorPqF
namespace Go.Proofs.YtlbkfeelkdombaaDoor.Pq
open Go.RowKit Go.Proofs.YtlbkfeelkdombaaDoorW.PrintWords Go.Proofs.YtlbkfeelkdombaaDoorW.PrintLast Go.Proofs.YtlbkfeelkdombaaDoorW.PrintMore
attribute [local go_sem] max2_int min2_int max_two min_two max_three min_three max_four min_four
set_option linter.unusedVariables false
set_option linter.unusedSimpArgs false

/-- The cells of a row that is an element. -/
theorem kslice_openF {W : World} {ok : Nat → Prop} {x : List Int} {cs : List Value} (h : Kd.FK (Kd.slice 3 (Kd.int .i64)) W ok x cs) : ∃ A c, cs = [.slice A x.length c] ∧ x.length ≤ c ∧ Kd.F (Kd.int .i64) W ok A x.length x := by
  obtain ⟨A, c, rfl, hl, _⟩ := Kd.FK_now h
  refine ⟨A, c, rfl, hl, fun W' hW => ?_⟩
  obtain ⟨A', c', he, _, hC⟩ := h W' hW
  injection he with he _
  injection he with ha _ _
  rw [ha]
  exact hC
def switchboardlaw24_HallReasons.f (k : Nat) (a0_0 : Int) (l0_1 : List S73) (l1 : List (List Int)) (a2 : Int) : Option Bool := if 0 ≤ a2 ∧ a2 < 256 then some true else none
/-- The model's variable in memory. -/
structure MW (w W : World) (x y : Value) : Prop where
  hb : Below w.heap.size w W
  m : W.heap[w.heap.size]? = some (.cells #[x, y] 55 (0, 0))
theorem MW.below {w W W' : World} {x y : Value} (h : MW w W x y) (hb : Below W.heap.size W W') : MW w W' x y := ⟨below_step h.hb hb, blk_below h.m hb⟩
theorem MW.c0 {w W : World} {x y : Value} (h : MW w W x y) : W.cell? ⟨w.heap.size, 0, none⟩ = some x := (blk_cell h.m 0).trans rfl
theorem MW.c1 {w W : World} {x y : Value} (h : MW w W x y) : W.cell? ⟨w.heap.size, 1, none⟩ = some y := (blk_cell h.m 1).trans rfl
theorem info42_ : (Tryd.prog.info? 42).map (fun i => (i.zero, i.size, i.bytes)) = some (some (.slice none 0 0), 1, 24) := by kernel_rfl
set_option maxHeartbeats 8000000 in
set_option maxRecDepth 100000 in
theorem switchboardlaw24_HallReasons.calls (k : Nat) (n : Int) (A0 : Option Addr) (c0 : Nat) (ls : List S73) (P1 : Nat → Prop) (A1 : Option Addr) (c1 : Nat) (tk : List (List Int)) (a2 : Int) (w : World) (hr0_1 : Kd.C k73 w A0 ls.length ls) (hc0_1 : ls.length ≤ c0) (hs1 : Kd.V (Kd.slice 3 (Kd.int .i64)) 42 w w.heap.size (fun k_ => P1 k_) (.slice A1 tk.length c1) tk) (hL : ∃ aM aS, LaidW w aM aS) (h : switchboardlaw24_HallReasons.f k n ls tk a2 = some true) :
    Calls Tryd.prog 5 #[.agg #[.int .i64 n, .slice A0 ls.length c0], .slice A1 tk.length c1, .int .u8 a2] w fun e w' => e = .returned (.bool true) ∧ Below w.heap.size w w' := by
  have hu55 := Tryd.underlying55
  obtain ⟨aM, aS, hL⟩ := hL
  obtain ⟨tt, htt, ha2⟩ : ∃ tt : Nat, tt < 256 ∧ a2 = (tt : Int) := by
    unfold switchboardlaw24_HallReasons.f at h
    by_cases hq : 0 ≤ a2 ∧ a2 < 256
    · exact ⟨a2.toNat, by omega, by omega⟩
    · rw [if_neg hq] at h
      cases h
  subst ha2
  clear h
  have HLD := Aside0.mk hL
  have HR := Aside0.mk hr0_1
  have HC := Aside0.mk hc0_1
  have HV := Aside0.mk (Kd.V_mono (ok' := fun k => k < w.heap.size) (Kd.V_bound hs1) (fun k hk => hk.2))
  clear hL hr0_1 hc0_1 hs1
  have HL0 : Aside0 (MW w (w.alloc (.cells #[.int .i64 n, .slice A0 ls.length c0] 55)) (.int .i64 n) (.slice A0 ls.length c0)) := ⟨⟨below_alloc (Below.refl _ _) _, alloc_at _ rfl⟩⟩
  obtain ⟨b1, hb1, qb1⟩ := msmall_ev n ls
  obtain ⟨k1, hb1⟩ := hb1.rounds
  have S1 := Aside0.mk hb1
  clear hb1
  cases b1
  case false =>
    go_enter Tryd.func5, Tryd.ntmps5
    go_wp2_with (first | (go_at_call 20; (with_reducible refine (switchboardref15_Small.calls k1 n A0 c0 ls false _ (Kd.C_below HR.out HL0.out.hb) HC.out S1.out).mono ?_); rintro e w1 ⟨rfl, hb⟩; have HL1 := Aside0.mk (HL0.out.below hb); have hx0 := HL1.out.c0; have hx1 := HL1.out.c1; clear hb) | (go_at_call 9; refine (switchboardlaw24_awake.calls true _ rfl).mono ?_; rintro e w9 ⟨rfl, hb⟩; have HB9 := Aside0.mk (below_step HL1.out.hb hb); clear hb))
    go_ret
    exact ⟨rfl, HB9.out⟩
  replace qb1 := qb1 rfl
  obtain ⟨b2, hb2, qb2⟩ := small_ev tk
  obtain ⟨k2, hb2⟩ := hb2.rounds
  have S2 := Aside0.mk hb2
  clear hb2
  cases b2
  case false =>
    go_enter Tryd.func5, Tryd.ntmps5
    go_wp2_with (first | (go_at_call 20; (with_reducible refine (switchboardref15_Small.calls k1 n A0 c0 ls true _ (Kd.C_below HR.out HL0.out.hb) HC.out S1.out).mono ?_); rintro e w1 ⟨rfl, hb⟩; have HL1 := Aside0.mk (HL0.out.below hb); have hx0 := HL1.out.c0; have hx1 := HL1.out.c1; clear hb) | (go_at_call 8; (with_reducible refine (switchboardref03_Small.calls k2 A1 c1 tk false _ (Kd.V_reads' (Kd.V_below HV.out HL1.out.hb)).2.2 (Kd.V_reads' HV.out).2.1 S2.out).mono ?_); rintro e w2 ⟨rfl, hd⟩; have HL2 := Aside0.mk (HL1.out.below hd.below); clear hx0 hx1; have hx0 := HL2.out.c0; have hx1 := HL2.out.c1; clear hd) | (go_at_call 9; refine (switchboardlaw24_awake.calls true _ rfl).mono ?_; rintro e w9 ⟨rfl, hb⟩; have HB9 := Aside0.mk (below_step HL2.out.hb hb); clear hb))
    go_ret
    exact ⟨rfl, HB9.out⟩
  replace qb2 := qb2 rfl
  obtain ⟨b3, hb3, qb3⟩ := mright_ev n ls qb1
  obtain ⟨k3, hb3⟩ := hb3.rounds
  have S3 := Aside0.mk hb3
  clear hb3
  cases b3
  case false =>
    go_enter Tryd.func5, Tryd.ntmps5
    go_wp2_with (first | (go_at_call 20; (with_reducible refine (switchboardref15_Small.calls k1 n A0 c0 ls true _ (Kd.C_below HR.out HL0.out.hb) HC.out S1.out).mono ?_); rintro e w1 ⟨rfl, hb⟩; have HL1 := Aside0.mk (HL0.out.below hb); have hx0 := HL1.out.c0; have hx1 := HL1.out.c1; clear hb) | (go_at_call 8; (with_reducible refine (switchboardref03_Small.calls k2 A1 c1 tk true _ (Kd.V_reads' (Kd.V_below HV.out HL1.out.hb)).2.2 (Kd.V_reads' HV.out).2.1 S2.out).mono ?_); rintro e w2 ⟨rfl, hd⟩; have HL2 := Aside0.mk (HL1.out.below hd.below); clear hx0 hx1; have hx0 := HL2.out.c0; have hx1 := HL2.out.c1; clear hd) | (go_at_call 21; (with_reducible refine (switchboardref15_Right.calls k3 n A0 c0 ls false _ (Kd.C_below HR.out HL2.out.hb) HC.out S3.out).mono ?_); rintro e w3 ⟨rfl, hb⟩; have HL3 := Aside0.mk (HL2.out.below hb); clear hx0 hx1; have hx0 := HL3.out.c0; have hx1 := HL3.out.c1; clear hb) | (go_at_call 9; refine (switchboardlaw24_awake.calls true _ rfl).mono ?_; rintro e w9 ⟨rfl, hb⟩; have HB9 := Aside0.mk (below_step HL3.out.hb hb); clear hb))
    go_ret
    exact ⟨rfl, HB9.out⟩
  replace qb3 := qb3 rfl
  obtain ⟨b4, hb4, qb4⟩ := mtokens_ev n ls tk qb2
  obtain ⟨k4, hb4⟩ := hb4.rounds
  have S4 := Aside0.mk hb4
  clear hb4
  cases b4
  case false =>
    go_enter Tryd.func5, Tryd.ntmps5
    go_wp2_with (first | (go_at_call 20; (with_reducible refine (switchboardref15_Small.calls k1 n A0 c0 ls true _ (Kd.C_below HR.out HL0.out.hb) HC.out S1.out).mono ?_); rintro e w1 ⟨rfl, hb⟩; have HL1 := Aside0.mk (HL0.out.below hb); have hx0 := HL1.out.c0; have hx1 := HL1.out.c1; clear hb) | (go_at_call 8; (with_reducible refine (switchboardref03_Small.calls k2 A1 c1 tk true _ (Kd.V_reads' (Kd.V_below HV.out HL1.out.hb)).2.2 (Kd.V_reads' HV.out).2.1 S2.out).mono ?_); rintro e w2 ⟨rfl, hd⟩; have HL2 := Aside0.mk (HL1.out.below hd.below); clear hx0 hx1; have hx0 := HL2.out.c0; have hx1 := HL2.out.c1; clear hd) | (go_at_call 21; (with_reducible refine (switchboardref15_Right.calls k3 n A0 c0 ls true _ (Kd.C_below HR.out HL2.out.hb) HC.out S3.out).mono ?_); rintro e w3 ⟨rfl, hb⟩; have HL3 := Aside0.mk (HL2.out.below hb); clear hx0 hx1; have hx0 := HL3.out.c0; have hx1 := HL3.out.c1; clear hb) | (go_at_call 22; (with_reducible refine (switchboardref15_Tokens.calls k4 n A0 c0 ls A1 c1 tk false _ (Kd.C_below HR.out HL3.out.hb) HC.out (Kd.V_reads' (Kd.V_below HV.out HL3.out.hb)).2.2 (Kd.V_reads' HV.out).2.1 S4.out).mono ?_); rintro e w4 ⟨rfl, hb⟩; have HL4 := Aside0.mk (HL3.out.below hb); clear hx0 hx1; clear hb) | (go_at_call 9; refine (switchboardlaw24_awake.calls true _ rfl).mono ?_; rintro e w9 ⟨rfl, hb⟩; have HB9 := Aside0.mk (below_step HL4.out.hb hb); clear hb))
    go_ret
    exact ⟨rfl, HB9.out⟩
  replace qb4 := qb4 rfl
  have HM := Aside0.mk (modelOk_good qb3)
  have HT := Aside0.mk qb4
  have HRS : Aside0 (hall_Reason.f n ls tk = some 0) := ⟨by unfold hall_Reason.f; rw [if_pos ⟨modelOk_good qb3, tokOk_good qb4, by have := qb4.1; omega, by have := qb4.2.1; omega⟩]⟩
  have hn1 : 1 ≤ tk.length := by have := qb4.1; omega
  have hn16 : tk.length ≤ 16 := by have := qb4.2.1; omega
  obtain ⟨j, hj⟩ : ∃ j : Nat, j = tt % tk.length := ⟨_, rfl⟩
  have hjl : j < tk.length := by rw [hj]; exact Nat.mod_lt _ (by omega)
  have HJ := Aside0.mk hj
  have HN1 := Aside0.mk hn1
  have HN16 := Aside0.mk hn16
  have HJL := Aside0.mk hjl
  have HRL : Aside0 (∀ r ∈ tk, r.length ≤ 30) := ⟨qb2.2⟩
  clear qb1 qb2 qb3 qb4 hj hn1 hn16 hjl
  go_enter Tryd.func5, Tryd.ntmps5
  go_upto_region 3 with (first | (go_at_call 20; (with_reducible refine (switchboardref15_Small.calls k1 n A0 c0 ls true _ (Kd.C_below HR.out HL0.out.hb) HC.out S1.out).mono ?_); rintro e w1 ⟨rfl, hb⟩; have HL1 := Aside0.mk (HL0.out.below hb); have hx0 := HL1.out.c0; have hx1 := HL1.out.c1; clear hb) | (go_at_call 8; (with_reducible refine (switchboardref03_Small.calls k2 A1 c1 tk true _ (Kd.V_reads' (Kd.V_below HV.out HL1.out.hb)).2.2 (Kd.V_reads' HV.out).2.1 S2.out).mono ?_); rintro e w2 ⟨rfl, hd⟩; have HL2 := Aside0.mk (HL1.out.below hd.below); clear hx0 hx1; have hx0 := HL2.out.c0; have hx1 := HL2.out.c1; clear hd) | (go_at_call 21; (with_reducible refine (switchboardref15_Right.calls k3 n A0 c0 ls true _ (Kd.C_below HR.out HL2.out.hb) HC.out S3.out).mono ?_); rintro e w3 ⟨rfl, hb⟩; have HL3 := Aside0.mk (HL2.out.below hb); clear hx0 hx1; have hx0 := HL3.out.c0; have hx1 := HL3.out.c1; clear hb) | (go_at_call 22; (with_reducible refine (switchboardref15_Tokens.calls k4 n A0 c0 ls A1 c1 tk true _ (Kd.C_below HR.out HL3.out.hb) HC.out (Kd.V_reads' (Kd.V_below HV.out HL3.out.hb)).2.2 (Kd.V_reads' HV.out).2.1 S4.out).mono ?_); rintro e w4 ⟨rfl, hb⟩; have HL4 := Aside0.mk (HL3.out.below hb); clear hx0 hx1; clear hb))
  have HLD4 := Aside0.mk (HLD.out.below HL4.out.hb)
  have HV4 := Aside0.mk (Kd.V_below HV.out HL4.out.hb)
  clear HL0 HL1 HL2 HL3
  have HS4 := Aside0.mk (below_size HL4.out.hb)
  go_upto_region 4 with (first | ((with_reducible refine gate_dst (N := 29) rfl ?_); refine Kd.N_lit (Kd.slice 3 (Kd.int .i64)) w4.heap.size 42 ?hg (N' := 29) ?hd (xs := ([] : List (List Int))) (inner := []) (ok := fun k => k < w.heap.size ∨ w4.heap.size ≤ k) (okp := fun k => k < w.heap.size ∨ w4.heap.size ≤ k) ?hr ?hp (fun _ hk => hk) (.inr (Nat.le_refl _)) (w0 := w4) (Below.refl _ _) (Nat.le_refl _) (by simp) ?_; (case hd => rfl); (case hg => rfl); (case hr => first | (go_simp; done) | (go_simp; rfl)); (case hp => exact (Reps.none _ _)); intro v5 w5 ho hb hg hat; have HO5 := Aside0.mk ho; have HB5 := Aside0.mk hb; clear ho hb hg hat) | (at_builtin; refine Kd.N_append_rows (Kd.slice 3 (Kd.int .i64)) (w0 := w4) w4.heap.size rfl (.tmp 29) (.tmp 30) 25 42 (.slice none 0 0) 24 rfl Tryd.underlying25 info42_ rfl (by decide) (by omega) v5 [] tk A1 tk.length c1 (fun k => k < w.heap.size ∨ w4.heap.size ≤ k) (fun k => k < w.heap.size) rfl rfl ?aO ?aR ?aK ?aF ?aB ?aS ?aL ?_; (case aO => exact HO5.out); (case aR => exact Kd.V_F (Kd.V_below HV4.out HB5.out)); (case aK => exact (fun k hk => ⟨.inl hk, fun e => by have h1 := Kd.N_base HO5.out k e.symm; have h2 := HS4.out; omega⟩)); (case aF => exact (fun k hk => .inr (Nat.le_trans (below_size HB5.out) hk))); (case aB => exact HB5.out); (case aS => exact below_size HB5.out); (case aL => have := HN16.out; simp; omega); intro v6 w6 ho hb hg hat; have HO6 := Aside0.mk (show Kd.N (Kd.slice 3 (Kd.int .i64)) 42 w6 w4.heap.size (fun k => k < w.heap.size ∨ w4.heap.size ≤ k) v6 tk from ho); have HB6 := Aside0.mk hb; clear ho hb hg hat HO5 HB5))
  obtain ⟨g7, c7, rfl, hg7, hg7l, hg7t⟩ := Kd.N_form HO6.out (by have := HN1.out; omega)
  have HG7 := Aside0.mk hg7
  clear hg7 hg7l hg7t
  have HL6 := Aside0.mk (HL4.out.below HB6.out)
  have HLD6 := Aside0.mk (HLD4.out.below HB6.out)
  have HV6 := Aside0.mk (Kd.V_below HV4.out HB6.out)
  have hjI : (j : Int) < (tk.length : Int) := by have := HJL.out; omega
  obtain ⟨cc, hcl, hFK, hcc, hfr⟩ := Kd.N_elem HO6.out [] (j : Int) (by omega) hjI
  obtain ⟨Aj, cj, rfl, hlj, hFj⟩ := kslice_openF hFK
  rw [Int.toNat_natCast] at hcc hfr hFj hlj
  have hgj : tk.getD j [] = tk[j]'HJL.out := by rw [List.getD_eq_getElem?_getD, List.getElem?_eq_getElem HJL.out]; rfl
  obtain ⟨rj, hrj⟩ : ∃ rj, rj = tk.getD j [] := ⟨_, rfl⟩
  rw [← hrj] at hFj hlj hgj
  have hxj : w6.cell? ⟨g7, j, none⟩ = some (.slice Aj rj.length cj) := by have h_ := hcc 0 _ rfl; rw [show (Kd.slice 3 (Kd.int .i64)).sz = 1 from rfl, Nat.mul_one, Nat.add_zero, ← hrj] at h_; exact h_
  have hfj : w6.frozen? ⟨g7, j, none⟩ = false := by have h_ := hfr 0; rw [show (Kd.slice 3 (Kd.int .i64)).sz = 1 from rfl, Nat.mul_one, Nat.add_zero] at h_; exact h_
  have HFJ := Aside0.mk hFj
  have HLJ := Aside0.mk hlj
  have HRJ := Aside0.mk hgj
  have HRJL : Aside0 (rj.length ≤ 30) := ⟨by rw [hgj]; exact HRL.out _ (List.getElem_mem _)⟩
  have HXJ := Aside0.mk hxj
  have HCC := Aside0.mk hcc
  clear hcl hFK hfr hFj hlj hgj hrj hcc
  have hn0 : (tk.length : Int) ≠ 0 := by have := HN1.out; omega
  have hnp : (0 : Int) < (tk.length : Int) := by have := HN1.out; omega
  have hjm : (tt : Int) % (tk.length : Int) = (j : Int) := by rw [HJ.out]; simp
  have hjt : Int.tmod (tt : Int) (tk.length : Int) = (j : Int) := by rw [HJ.out]; rfl
  have hj0 : (0 : Int) ≤ (j : Int) := by omega
  have hne : ¬ tk = [] := by intro e; rw [e] at hnp; exact absurd hnp (by decide)
  have hwt : wrap64 (tt : Int) = (tt : Int) := wrap_small (by omega) (by omega)
  refine start_ (n := 20) (S := fun W => W.cell? ⟨g7, j, none⟩ = some (.slice Aj rj.length cj)) (ds := [19]) #[false, false, false, false, false, false, false, false, false, false, false, false, false, false, false, false, false, false, false, false] (by kernel_rfl) rfl rfl hxj (fun hHeld => ?_)
  have HB7 := Aside0.mk (below_drew (Below.refl w6.heap.size w6))
  generalize w6.drew = w7 at HB7 hHeld ⊢
  refine pure_ (i := 0) (N := some 32) (v := ?_) (a' := ?_) #[true, false, false, false, false, false, false, false, false, false, false, false, false, false, false, false, false, false, false, false] rfl rfl (any_of rfl (by kernel_rfl)) (fun _ _ _ h => h) (Or.inl ⟨by rfl, ?_⟩) ?_ ?_
  rotate_left
  · intro w'
    go_simp
    with_reducible rfl
  rotate_left
  · simp only [Act.put, List.setIfInBounds_toArray, List.set_cons_zero, List.set_cons_succ, i64_w, i32_w]
    rfl
  refine pure_ (i := 1) (N := some 33) (v := ?_) (a' := ?_) #[true, true, false, false, false, false, false, false, false, false, false, false, false, false, false, false, false, false, false, false] rfl rfl (any_of rfl (by kernel_rfl)) (fun _ _ _ h => h) (Or.inl ⟨by rfl, ?_⟩) ?_ ?_
  rotate_left
  · intro w'
    go_simp
    with_reducible rfl
  rotate_left
  · simp only [Act.put, List.setIfInBounds_toArray, List.set_cons_zero, List.set_cons_succ, i64_w, i32_w]
    rfl
  refine pure_ (i := 2) (N := some 34) (v := ?_) (a' := ?_) #[true, true, true, false, false, false, false, false, false, false, false, false, false, false, false, false, false, false, false, false] rfl rfl (any_of rfl (by kernel_rfl)) (fun _ _ _ h => h) (Or.inl ⟨by rfl, ?_⟩) ?_ ?_
  rotate_left
  · intro w'
    go_simp
    with_reducible rfl
  rotate_left
  · simp only [Act.put, List.setIfInBounds_toArray, List.set_cons_zero, List.set_cons_succ, i64_w, i32_w]
    rfl
  refine pure_ (i := 3) (N := some 35) (v := ?_) (a' := ?_) #[true, true, true, true, false, false, false, false, false, false, false, false, false, false, false, false, false, false, false, false] rfl rfl (any_of rfl (by kernel_rfl)) (fun _ _ _ h => h) (Or.inl ⟨by rfl, ?_⟩) ?_ ?_
  rotate_left
  · intro w'
    go_simp
    with_reducible rfl
  rotate_left
  · simp only [Act.put, List.setIfInBounds_toArray, List.set_cons_zero, List.set_cons_succ, i64_w, i32_w]
    rfl
  refine pure_ (i := 4) (N := some 36) (v := ?_) (a' := ?_) #[true, true, true, true, true, false, false, false, false, false, false, false, false, false, false, false, false, false, false, false] rfl rfl (any_of rfl (by kernel_rfl)) (fun _ _ _ h => h) (Or.inl ⟨by rfl, ?_⟩) ?_ ?_
  rotate_left
  · intro w'
    go_simp
    with_reducible rfl
  rotate_left
  · simp only [Act.put, List.setIfInBounds_toArray, List.set_cons_zero, List.set_cons_succ, i64_w, i32_w]
    rfl
  refine pure_ (i := 5) (N := some 37) (v := ?_) (a' := ?_) #[true, true, true, true, true, true, false, false, false, false, false, false, false, false, false, false, false, false, false, false] rfl rfl (any_of rfl (by kernel_rfl)) (fun _ _ _ h => h) (Or.inl ⟨by rfl, ?_⟩) ?_ ?_
  rotate_left
  · intro w'
    go_simp
    with_reducible rfl
  rotate_left
  · simp only [Act.put, List.setIfInBounds_toArray, List.set_cons_zero, List.set_cons_succ, i64_w, i32_w]
    rfl
  refine pure_ (i := 7) (N := some 39) (v := ?_) (a' := ?_) #[true, true, true, true, true, true, false, true, false, false, false, false, false, false, false, false, false, false, false, false] rfl rfl (any_of rfl (by kernel_rfl)) (fun _ _ _ h => h) (Or.inl ⟨by rfl, ?_⟩) ?_ ?_
  rotate_left
  · intro w'
    go_simp
    with_reducible rfl
  rotate_left
  · simp only [Act.put, List.setIfInBounds_toArray, List.set_cons_zero, List.set_cons_succ, i64_w, i32_w]
    rfl
  refine pure_ (i := 8) (N := some 40) (v := ?_) (a' := ?_) #[true, true, true, true, true, true, false, true, true, false, false, false, false, false, false, false, false, false, false, false] rfl rfl (any_of rfl (by kernel_rfl)) (fun _ _ _ h => h) (Or.inl ⟨by rfl, ?_⟩) ?_ ?_
  rotate_left
  · intro w'
    go_simp
    with_reducible rfl
  rotate_left
  · simp only [Act.put, List.setIfInBounds_toArray, List.set_cons_zero, List.set_cons_succ, i64_w, i32_w]
    rfl
  refine pure_ (i := 9) (N := some 41) (v := ?_) (a' := ?_) #[true, true, true, true, true, true, false, true, true, true, false, false, false, false, false, false, false, false, false, false] rfl rfl (any_of rfl (by kernel_rfl)) (fun _ _ _ h => h) (Or.inl ⟨by rfl, ?_⟩) ?_ ?_
  rotate_left
  · intro w'
    go_simp
    with_reducible rfl
  rotate_left
  · simp only [Act.put, List.setIfInBounds_toArray, List.set_cons_zero, List.set_cons_succ, i64_w, i32_w]
    rfl
  refine pure_ (i := 10) (N := some 42) (v := ?_) (a' := ?_) #[true, true, true, true, true, true, false, true, true, true, true, false, false, false, false, false, false, false, false, false] rfl rfl (any_of rfl (by kernel_rfl)) (fun _ _ _ h => h) (Or.inl ⟨by rfl, ?_⟩) ?_ ?_
  rotate_left
  · intro w'
    go_simp
    with_reducible rfl
  rotate_left
  · simp only [Act.put, List.setIfInBounds_toArray, List.set_cons_zero, List.set_cons_succ, i64_w, i32_w]
    rfl
  refine pure_ (i := 11) (N := some 43) (v := ?_) (a' := ?_) #[true, true, true, true, true, true, false, true, true, true, true, true, false, false, false, false, false, false, false, false] rfl rfl (any_of rfl (by kernel_rfl)) (fun _ _ _ h => h) (Or.inl ⟨by rfl, ?_⟩) ?_ ?_
  rotate_left
  · intro w'
    go_simp
    with_reducible rfl
  rotate_left
  · simp only [Act.put, List.setIfInBounds_toArray, List.set_cons_zero, List.set_cons_succ, i64_w, i32_w]
    rfl
  refine pure_ (i := 12) (N := some 44) (v := ?_) (a' := ?_) #[true, true, true, true, true, true, false, true, true, true, true, true, true, false, false, false, false, false, false, false] rfl rfl (any_of rfl (by kernel_rfl)) (fun _ _ _ h => h) (Or.inl ⟨by rfl, ?_⟩) ?_ ?_
  rotate_left
  · intro w'
    go_simp
    with_reducible rfl
  rotate_left
  · simp only [Act.put, List.setIfInBounds_toArray, List.set_cons_zero, List.set_cons_succ, i64_w, i32_w]
    rfl
  refine pure_ (i := 13) (N := some 45) (v := ?_) (a' := ?_) #[true, true, true, true, true, true, false, true, true, true, true, true, true, true, false, false, false, false, false, false] rfl rfl (any_of rfl (by kernel_rfl)) (fun _ _ _ h => h) (Or.inl ⟨by rfl, ?_⟩) ?_ ?_
  rotate_left
  · intro w'
    go_simp
    with_reducible rfl
  rotate_left
  · simp only [Act.put, List.setIfInBounds_toArray, List.set_cons_zero, List.set_cons_succ, i64_w, i32_w]
    rfl
  refine take_ (i := 14) (N := some 46) (v := ?_) (a' := ?_) #[true, true, true, true, true, true, false, true, true, true, true, true, true, true, true, false, false, false, false, false] rfl rfl (take_of rfl (by kernel_rfl)) (fun _ _ _ h => h) (Or.inl ⟨by rfl, ?_⟩) hHeld ?_ ?_
  rotate_left
  · rintro w' s0
    go_simp
    with_reducible rfl
  rotate_left
  · simp only [Act.put, List.setIfInBounds_toArray, List.set_cons_zero, List.set_cons_succ, i64_w, i32_w]
    rfl
  have HS7 := Aside0.mk hHeld
  have HBL := Aside0.mk (Below.refl w7.heap.size w7)
  have HF7 := Aside0.mk (Kd.F_below HFJ.out HB7.out)
  clear hHeld
  refine join_ (σ := Value × Value × Nat) 3 #[true, true, true, true, true, true, true, true, true, true, true, true, true, true, true, true, true, false, false, false] (fun s_ => [(38, s_.1), (47, s_.2.1), (48, .slice (some ⟨s_.2.2, 0, none⟩) 1 1)]) (fun s_ w' => (w'.cell? ⟨g7, j, none⟩ = some (.slice Aj rj.length cj)) ∧ (Below w7.heap.size w7 w') ∧ (Kd.R (Kd.int .i64) 3 w' w7.heap.size (fun k => k ≠ s_.2.2) s_.2.1 rj) ∧ (w'.heap[s_.2.2]? = some (.cells #[.int .i64 1] 3 (0, 0))) ∧ (w7.heap.size ≤ s_.2.2)) ?_ ?_
  rotate_left
  · intro hJ
    refine two_ (i := 6) (j := 16) (Ni := some 38) (Nj := some 48) #[true, true, true, true, true, true, true, true, true, true, true, true, true, true, true, false, false, false, false, false] #[true, true, true, true, true, true, false, true, true, true, true, true, true, true, true, false, true, false, false, false] rfl rfl rfl rfl (two_of rfl (by kernel_rfl)) (by decide) (by decide) (fun K hK => ?_) (fun K hK => ?_)
    · refine Kd.R_lit_step (Kd.int .i64) w7.heap.size 3 ?hw (N := 38) ?hd (xs := ([] : List Int)) (inner := []) (ok := fun _ => True) (okp := fun _ => False) (w0 := w7) ?hr (Reps.none _ _) (fun _ hk => hk.elim) trivial HBL.out (below_size HBL.out) (by simp) ?_; (case hw => rfl); (case hd => rfl); (case hr => first | (go_simp; done) | (go_simp; rfl))
      intro vE wa ho hb hg hat
      have HE := Aside0.mk ho
      have NB := Aside0.mk hb
      clear HBL ho hb hg hat
      have HBL := NB
      clear NB
      refine hK.out _ _ (pw_cell_below HBL.out HS7.out) (fun _ => ?_)
      clear hK K
      refine norm_ (a' := ?_) ?_ ?_
      rotate_left
      · show Act.put _ (some 38) _ = _
        simp only [Act.put, List.setIfInBounds_toArray, List.set_cons_zero, List.set_cons_succ, i64_w, i32_w]
        rfl
      refine two_ (i := 15) (j := 16) (Ni := some 47) (Nj := some 48) #[true, true, true, true, true, true, true, true, true, true, true, true, true, true, true, true, false, false, false, false] #[true, true, true, true, true, true, true, true, true, true, true, true, true, true, true, false, true, false, false, false] rfl rfl rfl rfl (two_of rfl (by kernel_rfl)) (by decide) (by decide) (fun K hK => ?_) (fun K hK => ?_)
      · obtain ⟨AE, cE, rfl⟩ := Kd.R_slice HE.out
        refine Kd.R_append_rows_step (Kd.int .i64) (w0 := w7) w7.heap.size ?hw (.tmp 38) (.tmp 46) 42 3 (.int .i64 0) 8 rfl Tryd.underlying42 info_int rfl (by decide) (by omega) _ [] rj Aj rj.length cj (fun _ => True) (fun _ => False) rfl rfl HE.out (Kd.F_now (Kd.F_below HF7.out HBL.out)) (fun _ _ hk => hk) (fun _ hk => hk.elim) ?aF HBL.out (below_size HBL.out) ?aL ?_; (case hw => rfl); (case aF => exact (fun _ _ => trivial)); (case aL => have := HRJL.out; simp; omega)
        intro vP wb ho hb hg hat
        have HP := Aside0.mk (show Kd.R (Kd.int .i64) 3 wb w7.heap.size (fun _ => True) vP rj from ho)
        have NB := Aside0.mk hb
        clear HBL HE ho hb hg hat
        have HBL := NB
        clear NB
        refine hK.out _ _ (pw_cell_below HBL.out HS7.out) (fun _ => ?_)
        clear hK K
        refine norm_ (a' := ?_) ?_ ?_
        rotate_left
        · show Act.put _ (some 47) _ = _
          simp only [Act.put, List.setIfInBounds_toArray, List.set_cons_zero, List.set_cons_succ, i64_w, i32_w]
          rfl
        refine one_ (i := 16) (N := some 48) #[true, true, true, true, true, true, true, true, true, true, true, true, true, true, true, true, true, false, false, false] rfl rfl (one_of rfl (by kernel_rfl)) (by decide) (fun K hK => ?_)
        refine lit_step ?hg (N := 48) ?hd (cs := #[.int .i64 1]) (t := 3) (n := 1) ?hr ?_; (case hd => rfl); (case hg => rfl); (case hr => first | (go_simp; done) | (go_simp; rfl))
        intro g48 hg wc hbox hb
        have HS := Aside0.mk hbox
        have HG48 : Aside0 (w7.heap.size ≤ g48) := ⟨by rw [hg]; exact below_size HBL.out⟩
        have N_ := Aside0.mk (Kd.R_below (Kd.R_mono (ok' := fun k => k ≠ g48) (Kd.R_elderB HP.out g48 (Nat.le_of_eq hg.symm)) (fun k hk => hk.2)) hb)
        clear HP
        have HP := N_
        clear N_
        have NB := Aside0.mk (below_step HBL.out hb)
        clear HBL hg hbox hb
        have HBL := NB
        clear NB
        refine hK.out _ _ (pw_cell_below HBL.out HS7.out) (fun _ => ?_)
        clear hK K
        refine norm_ (a' := ?_) ?_ ?_
        rotate_left
        · show Act.put _ (some 48) _ = _
          simp only [Act.put, List.setIfInBounds_toArray, List.set_cons_zero, List.set_cons_succ, i64_w, i32_w]
          rfl
        refine norm_ ?_ (hJ ((.slice AE ([] : List Int).length cE), vP, g48) _ ⟨(pw_cell_below HBL.out HS7.out), HBL.out, HP.out, HS.out, HG48.out⟩)
        simp only [putAll, Act.put, List.setIfInBounds_toArray, List.set_cons_zero, List.set_cons_succ]
      · refine lit_step ?hg (N := 48) ?hd (cs := #[.int .i64 1]) (t := 3) (n := 1) ?hr ?_; (case hd => rfl); (case hg => rfl); (case hr => first | (go_simp; done) | (go_simp; rfl))
        intro g48 hg wb hbox hb
        have HS := Aside0.mk hbox
        have HG48 : Aside0 (w7.heap.size ≤ g48) := ⟨by rw [hg]; exact below_size HBL.out⟩
        have N_ := Aside0.mk (Kd.R_below (Kd.R_mono (ok' := fun k => k ≠ g48) (Kd.R_elderB HE.out g48 (Nat.le_of_eq hg.symm)) (fun k hk => hk.2)) hb)
        clear HE
        have HE := N_
        clear N_
        have NB := Aside0.mk (below_step HBL.out hb)
        clear HBL hg hbox hb
        have HBL := NB
        clear NB
        refine hK.out _ _ (pw_cell_below HBL.out HS7.out) (fun _ => ?_)
        clear hK K
        refine norm_ (a' := ?_) ?_ ?_
        rotate_left
        · show Act.put _ (some 48) _ = _
          simp only [Act.put, List.setIfInBounds_toArray, List.set_cons_zero, List.set_cons_succ, i64_w, i32_w]
          rfl
        refine one_ (i := 15) (N := some 47) #[true, true, true, true, true, true, true, true, true, true, true, true, true, true, true, true, true, false, false, false] rfl rfl (one_of rfl (by kernel_rfl)) (by decide) (fun K hK => ?_)
        obtain ⟨AE, cE, rfl⟩ := Kd.R_slice HE.out
        refine Kd.R_append_rows_step (Kd.int .i64) (w0 := w7) w7.heap.size ?hw (.tmp 38) (.tmp 46) 42 3 (.int .i64 0) 8 rfl Tryd.underlying42 info_int rfl (by decide) (by omega) _ [] rj Aj rj.length cj (fun k => k ≠ g48) (fun _ => False) rfl rfl HE.out (Kd.F_now (Kd.F_below HF7.out HBL.out)) (fun _ _ hk => hk) (fun _ hk => hk.elim) ?aF HBL.out (below_size HBL.out) ?aL ?_; (case hw => rfl); (case aF => exact (fun k hk e => by have := blk_lt HS.out; omega)); (case aL => have := HRJL.out; simp; omega)
        intro vP wc ho hb hg hat
        have HP := Aside0.mk (show Kd.R (Kd.int .i64) 3 wc w7.heap.size (fun k => k ≠ g48) vP rj from ho)
        have HS_ := Aside0.mk (blk_grown HS.out hg (Kd.R_away HE.out (fun _ hk => hk)))
        clear HS
        have HS := HS_
        clear HS_
        have NB := Aside0.mk hb
        clear HBL HE ho hb hg hat
        have HBL := NB
        clear NB
        refine hK.out _ _ (pw_cell_below HBL.out HS7.out) (fun _ => ?_)
        clear hK K
        refine norm_ (a' := ?_) ?_ ?_
        rotate_left
        · show Act.put _ (some 47) _ = _
          simp only [Act.put, List.setIfInBounds_toArray, List.set_cons_zero, List.set_cons_succ, i64_w, i32_w]
          rfl
        refine norm_ ?_ (hJ ((.slice AE ([] : List Int).length cE), vP, g48) _ ⟨(pw_cell_below HBL.out HS7.out), HBL.out, HP.out, HS.out, HG48.out⟩)
        simp only [putAll, Act.put, List.setIfInBounds_toArray, List.set_cons_zero, List.set_cons_succ]
    · refine lit_step ?hg (N := 48) ?hd (cs := #[.int .i64 1]) (t := 3) (n := 1) ?hr ?_; (case hd => rfl); (case hg => rfl); (case hr => first | (go_simp; done) | (go_simp; rfl))
      intro g48 hg wa hbox hb
      have HS := Aside0.mk hbox
      have HG48 : Aside0 (w7.heap.size ≤ g48) := ⟨by rw [hg]; exact below_size HBL.out⟩
      have NB := Aside0.mk (below_step HBL.out hb)
      clear HBL hg hbox hb
      have HBL := NB
      clear NB
      refine hK.out _ _ (pw_cell_below HBL.out HS7.out) (fun _ => ?_)
      clear hK K
      refine norm_ (a' := ?_) ?_ ?_
      rotate_left
      · show Act.put _ (some 48) _ = _
        simp only [Act.put, List.setIfInBounds_toArray, List.set_cons_zero, List.set_cons_succ, i64_w, i32_w]
        rfl
      refine one_ (i := 6) (N := some 38) #[true, true, true, true, true, true, true, true, true, true, true, true, true, true, true, false, true, false, false, false] rfl rfl (one_of rfl (by kernel_rfl)) (by decide) (fun K hK => ?_)
      refine Kd.R_lit_step (Kd.int .i64) w7.heap.size 3 ?hw (N := 38) ?hd (xs := ([] : List Int)) (inner := []) (ok := fun k => k ≠ g48) (okp := fun _ => False) (w0 := w7) ?hr (Reps.none _ _) (fun _ hk => hk.elim) (fun e => by have := blk_lt HS.out; omega) HBL.out (below_size HBL.out) (by simp) ?_; (case hw => rfl); (case hd => rfl); (case hr => first | (go_simp; done) | (go_simp; rfl))
      intro vE wb ho hb hg hat
      have HE := Aside0.mk ho
      have HS_ := Aside0.mk (blk_grown HS.out hg (by simp))
      clear HS
      have HS := HS_
      clear HS_
      have NB := Aside0.mk hb
      clear HBL ho hb hg hat
      have HBL := NB
      clear NB
      refine hK.out _ _ (pw_cell_below HBL.out HS7.out) (fun _ => ?_)
      clear hK K
      refine norm_ (a' := ?_) ?_ ?_
      rotate_left
      · show Act.put _ (some 38) _ = _
        simp only [Act.put, List.setIfInBounds_toArray, List.set_cons_zero, List.set_cons_succ, i64_w, i32_w]
        rfl
      refine one_ (i := 15) (N := some 47) #[true, true, true, true, true, true, true, true, true, true, true, true, true, true, true, true, true, false, false, false] rfl rfl (one_of rfl (by kernel_rfl)) (by decide) (fun K hK => ?_)
      obtain ⟨AE, cE, rfl⟩ := Kd.R_slice HE.out
      refine Kd.R_append_rows_step (Kd.int .i64) (w0 := w7) w7.heap.size ?hw (.tmp 38) (.tmp 46) 42 3 (.int .i64 0) 8 rfl Tryd.underlying42 info_int rfl (by decide) (by omega) _ [] rj Aj rj.length cj (fun k => k ≠ g48) (fun _ => False) rfl rfl HE.out (Kd.F_now (Kd.F_below HF7.out HBL.out)) (fun _ _ hk => hk) (fun _ hk => hk.elim) ?aF HBL.out (below_size HBL.out) ?aL ?_; (case hw => rfl); (case aF => exact (fun k hk e => by have := blk_lt HS.out; omega)); (case aL => have := HRJL.out; simp; omega)
      intro vP wc ho hb hg hat
      have HP := Aside0.mk (show Kd.R (Kd.int .i64) 3 wc w7.heap.size (fun k => k ≠ g48) vP rj from ho)
      have HS_ := Aside0.mk (blk_grown HS.out hg (Kd.R_away HE.out (fun _ hk => hk)))
      clear HS
      have HS := HS_
      clear HS_
      have NB := Aside0.mk hb
      clear HBL HE ho hb hg hat
      have HBL := NB
      clear NB
      refine hK.out _ _ (pw_cell_below HBL.out HS7.out) (fun _ => ?_)
      clear hK K
      refine norm_ (a' := ?_) ?_ ?_
      rotate_left
      · show Act.put _ (some 47) _ = _
        simp only [Act.put, List.setIfInBounds_toArray, List.set_cons_zero, List.set_cons_succ, i64_w, i32_w]
        rfl
      refine norm_ ?_ (hJ ((.slice AE ([] : List Int).length cE), vP, g48) _ ⟨(pw_cell_below HBL.out HS7.out), HBL.out, HP.out, HS.out, HG48.out⟩)
      simp only [putAll, Act.put, List.setIfInBounds_toArray, List.set_cons_zero, List.set_cons_succ]
  rintro ⟨u38, vP, g48⟩ wj ⟨hHeld, h1, h2, h3, h4⟩
  (try dsimp only at h2)
  (try dsimp only at h3)
  (try dsimp only at h4)
  have HBL2 := Aside0.mk h1
  have HP := Aside0.mk h2
  have HS := Aside0.mk h3
  have HG48 := Aside0.mk h4
  clear h1 h2 h3 h4 HBL hHeld
  have HBL := HBL2
  clear HBL2
  obtain ⟨AP, cP, rfl⟩ := Kd.R_slice HP.out
  refine norm_ (a' := ?_) ?_ ?_
  rotate_left
  · simp only [putAll, Act.put, List.setIfInBounds_toArray, List.set_cons_zero, List.set_cons_succ]
    rfl
  refine one_ (i := 17) (N := some 49) #[true, true, true, true, true, true, true, true, true, true, true, true, true, true, true, true, true, true, false, false] rfl rfl (one_of rfl (by kernel_rfl)) (by decide) (fun K hK => ?_)
  refine Kd.R_append_rows_step (Kd.int .i64) (w0 := w7) w7.heap.size ?hw (.tmp 47) (.tmp 48) 42 3 (.int .i64 0) 8 rfl Tryd.underlying42 info_int rfl (by decide) (by omega) _ rj [1] (some ⟨g48, 0, none⟩) 1 1 (fun k => k ≠ g48) (fun _ => False) rfl rfl HP.out (C_one (cs := [Value.int .i64 1]) HS.out rfl rfl) (fun _ _ hk => hk) (fun _ hk => hk.elim) (fun k hk e => by have := blk_lt HS.out; omega) HBL.out (below_size HBL.out) ?aL ?_; (case hw => rfl); (case aL => have := HRJL.out; omega)
  intro v49 w8 ho hb hg hat
  have HQ := Aside0.mk ho
  have NB := Aside0.mk hb
  clear HBL HP HS ho hb hg hat
  have HBL := NB
  clear NB
  refine hK.out _ _ (pw_cell_below HBL.out HS7.out) (fun _ => ?_)
  clear hK K
  refine norm_ (a' := ?_) ?_ ?_
  rotate_left
  · show Act.put _ (some 49) _ = _
    simp only [Act.put, List.setIfInBounds_toArray, List.set_cons_zero, List.set_cons_succ, i64_w, i32_w]
    rfl
  obtain ⟨rq, hrq⟩ : ∃ rq, rq = rj ++ [1] := ⟨_, rfl⟩
  have HRQ := Aside0.mk hrq
  have HQ2 := Aside0.mk (show Kd.R (Kd.int .i64) 3 w8 w7.heap.size (fun k => k ≠ g48) v49 rq by rw [hrq]; exact HQ.out)
  clear hrq HQ
  have HQ := HQ2
  clear HQ2
  obtain ⟨AQ, cQ, rfl⟩ := Kd.R_slice HQ.out
  refine pure_ (i := 18) (N := some 50) (v := ?_) (a' := ?_) #[true, true, true, true, true, true, true, true, true, true, true, true, true, true, true, true, true, true, true, false] rfl rfl (any_of rfl (by kernel_rfl)) (fun _ _ _ h => h) (Or.inl ⟨by rfl, ?_⟩) ?_ ?_
  rotate_left
  · intro w'
    go_simp
    with_reducible rfl
  rotate_left
  · simp only [Act.put, List.setIfInBounds_toArray, List.set_cons_zero, List.set_cons_succ, i64_w, i32_w]
    rfl
  have HO8 := Aside0.mk (Kd.N_below (Kd.N_below HO6.out HB7.out) HBL.out)
  have HG7L : Aside0 (g7 < w7.heap.size) := ⟨World.block_lt_of_cell? _ _ HS7.out⟩
  have HST := Aside0.mk (Kd.N_seg HO8.out (j : Int) hj0 hjI (seg := [(.slice AQ rq.length cQ)]) (j := 0) (c := [.slice Aj rj.length cj]) rfl (okp := fun k => w7.heap.size ≤ k) ?hcc (Nat.le_refl 1) (x' := rq) ?hown ?hokp)
  case hcc =>
    intro q u hu
    cases q with
    | zero => cases hu; rw [show (Kd.slice 3 (Kd.int .i64)).sz = 1 from rfl, Nat.mul_one, Nat.add_zero, Int.toNat_natCast]; exact pw_cell_below HBL.out HS7.out
    | succ q => simp at hu
  case hown => exact FK_slice_own (ok := fun k => w7.heap.size ≤ k) (Kd.R_mono (ok' := fun k => w7.heap.size ≤ k) (Kd.R_bound HQ.out) (fun k hk => hk.2.1))
  case hokp => exact fun k hk => by have h1 := HG7L.out; have h2 := below_size HB7.out; have h3 := below_size HB6.out; exact ⟨.inr (by omega), by omega⟩
  have hz8 := (Kd.N_elem HO8.out [] (j : Int) hj0 hjI)
  obtain ⟨c8, hl8, hk8, hc8, hf8⟩ := hz8
  have hf : w8.frozen? ⟨g7, j, none⟩ = false := by have h_ := hf8 0; rw [show (Kd.slice 3 (Kd.int .i64)).sz = 1 from rfl, Nat.mul_one, Nat.add_zero, Int.toNat_natCast] at h_; exact h_
  have hs := pw_cell_below HBL.out HS7.out
  clear hl8 hk8 hc8 hf8 c8
  refine last_ (i := 19) (N := none) #[true, true, true, true, true, true, true, true, true, true, true, true, true, true, true, true, true, true, true, true] rfl rfl (one_of rfl (by kernel_rfl)) (by decide) (fun K hK => ?_)
  refine skip_ (w1 := ?_) (by rfl) rfl ?_ ?_
  rotate_left
  · go_simp
    rfl
  clear hs hf
  have HB8 : Aside0 (Below w4.heap.size w4 (w8.setCell ⟨g7, j, none⟩ (.slice AQ rq.length cQ))) := ⟨(below_step (below_step HB6.out HB7.out) HBL.out).setCell (p := ⟨g7, j, none⟩) HG7.out _⟩
  have HO9 : Aside0 (Kd.N (Kd.slice 3 (Kd.int .i64)) 42 (w8.setCell ⟨g7, j, none⟩ (.slice AQ rq.length cQ)) w4.heap.size (fun k => k < w.heap.size ∨ w4.heap.size ≤ k) (.slice (some ⟨g7, 0, none⟩) tk.length c7) (tk.set j rq)) := ⟨by have h_ := HST.out.1; rw [show (Kd.slice 3 (Kd.int .i64)).sz = 1 from rfl, Nat.mul_one, Nat.add_zero, Int.toNat_natCast] at h_; exact h_⟩
  generalize (w8.setCell ⟨g7, j, none⟩ (.slice AQ rq.length cQ)) = w9 at HB8 HO9 ⊢
  refine hK.out _ _ ?_
  clear hK K HST HO8 HQ HBL HB7 HB6 HO6 HL6 HLD6 HV6 HF7 HS7 HFJ HXJ HCC HLJ HG48
  refine done_ (done_of rfl (by kernel_rfl)) ?_
  clear hxj hjI hn0 hnp hjm hjt hj0 hne hwt
  have HL9 := Aside0.mk (HL4.out.below HB8.out)
  have HLD9 := Aside0.mk (HLD4.out.below HB8.out)
  have HV9 := Aside0.mk (Kd.V_below HV4.out HB8.out)
  clear HL4 HLD4 HV4
  have hn1z : (0 : Int) < (tk.length : Int) := by have := HN1.out; omega
  obtain ⟨ad, ct, hA, hct, hFT, hcc, _⟩ := Kd.F_get (Kd.V_F HV9.out) [] (0 : Int) (by decide) hn1z
  subst hA
  obtain ⟨B0, d0, rfl, hl0, hF0⟩ := kslice_openF hFT
  obtain ⟨t0, ht0⟩ : ∃ t0, t0 = tk.getD (0 : Int).toNat [] := ⟨_, rfl⟩
  rw [← ht0] at hFT hcc hl0 hF0
  have hx0 : w9.cell? ad = some (.slice B0 t0.length d0) := by have h_ := hcc 0 _ rfl; exact h_
  have HT0 : Aside0 (t0 ∈ tk) := ⟨by rw [ht0]; show tk.getD 0 [] ∈ tk; rw [List.getD_eq_getElem?_getD, List.getElem?_eq_getElem (by have := HN1.out; omega)]; exact List.getElem_mem _⟩
  have HFT := Aside0.mk hFT
  have HX0 := Aside0.mk hx0
  clear hcc hct hl0 hF0 ht0 hFT hx0
  go_wp2
  go_loopw [8, 51] (fun v8 v51 W => ∃ (i : Nat), v51 = .int .i64 (i : Int) ∧ Aside0 (i ≤ 17) ∧ Aside0 (Below w9.heap.size w9 W) ∧ Aside0 (Kd.N (Kd.slice 3 (Kd.int .i64)) 42 W w9.heap.size (fun k => k < w.heap.size ∨ w9.heap.size ≤ k) v8 (List.replicate i t0))) (fun _ v51 _ => 17 - (intOf v51).toNat)
  case atStart => exact ⟨0, rfl, ⟨by omega⟩, ⟨Below.refl _ _⟩, ⟨Kd.N_nil _ _ _ _ _⟩⟩
  case round =>
    obtain ⟨i, rfl, HI, HBW, HNW⟩ := hrel
    by_cases hlt : i < 17
    rotate_left
    · have k1 : decide ((i : Int) < 17) = false := decide_eq_false (by omega)
      have k1n : decide (i < 17) = false := decide_eq_false hlt
      have hi : i = 17 := by have := HI.out; omega
      subst hi
      clear hlt HI
      obtain ⟨ys, hys⟩ : ∃ ys, ys = List.replicate 17 t0 := ⟨_, rfl⟩
      rw [← hys] at HNW
      have hyl : ys.length = 17 := by rw [hys, List.length_replicate]
      have HYT : Aside0 (ys.take 16 = List.replicate 16 t0) := ⟨by rw [hys]; rfl⟩
      obtain ⟨g8, c8, rfl, _, _, _⟩ := Kd.N_form HNW.out (by omega)
      have HYL := Aside0.mk hyl
      clear hys hyl
      obtain ⟨bt, hbt⟩ : ∃ bt, bt = tk.set j rq := ⟨_, rfl⟩
      have HB_ := Aside0.mk hbt
      rw [← hbt] at HO9
      have HBTL : Aside0 (bt.length = tk.length) := ⟨by rw [hbt, List.length_set]⟩
      have HBTB : Aside0 (tokOk n bt = false) := ⟨by rw [hbt, HRQ.out, HRJ.out]; exact tokOk_bad HT.out HJL.out 1⟩
      clear hbt
      have HO10 := Aside0.mk (Kd.N_below HO9.out HBW.out)
      have HL10 := Aside0.mk (HL9.out.below HBW.out)
      have HLD10 := Aside0.mk (HLD9.out.below HBW.out)
      have HV10 := Aside0.mk (Kd.V_below HV9.out HBW.out)
      clear HO9 HL9 HLD9 HV9
      go_upto_region 10 with (fail)
      refine start_ (n := 32) (S := fun W => W.cell? ⟨w.heap.size, 0, none⟩ = some (.int .i64 n) ∧ W.cell? ⟨w.heap.size, 1, none⟩ = some (.slice A0 ls.length c0)) (ds := []) #[false, false, false, false, false, false, false, false, false, false, false, false, false, false, false, false, false, false, false, false, false, false, false, false, false, false, false, false, false, false, false, false] (by kernel_rfl) rfl rfl ((fun h_ => ⟨h_.c0, h_.c1⟩) (HL10.out.below (below_drew (Below.refl _ _)))) (fun hHeld => ?_)
      have HL := Aside0.mk (HL10.out.below (below_drew (Below.refl _ _)))
      have HLD := Aside0.mk (HLD10.out.below (below_drew (Below.refl _ _)))
      have HV := Aside0.mk (Kd.V_below HV10.out (below_drew (Below.refl _ _)))
      have HB := Aside0.mk (Kd.N_below HO10.out (below_drew (Below.refl _ _)))
      have HM8 := Aside0.mk (Kd.N_below HNW.out (below_drew (Below.refl _ _)))
      clear HL10 HLD10 HV10 HO10 HNW
      generalize wr.drew = w10 at HL HLD HV HB HM8 hHeld ⊢
      refine take_ (i := 0) (N := some 60) (v := ?_) (a' := ?_) #[true, false, false, false, false, false, false, false, false, false, false, false, false, false, false, false, false, false, false, false, false, false, false, false, false, false, false, false, false, false, false, false] rfl rfl (take_of rfl (by kernel_rfl)) (fun _ _ _ h => h) (Or.inl ⟨by rfl, ?_⟩) hHeld ?_ ?_
      rotate_left
      · rintro w' ⟨s0, s1⟩
        go_simp
        with_reducible rfl
      rotate_left
      · simp only [Act.put, List.setIfInBounds_toArray, List.set_cons_zero, List.set_cons_succ, i64_w, i32_w]
        rfl
      refine pure_ (i := 1) (N := some 61) (v := ?_) (a' := ?_) #[true, true, false, false, false, false, false, false, false, false, false, false, false, false, false, false, false, false, false, false, false, false, false, false, false, false, false, false, false, false, false, false] rfl rfl (any_of rfl (by kernel_rfl)) (fun _ _ _ h => h) (Or.inl ⟨by rfl, ?_⟩) ?_ ?_
      rotate_left
      · intro w'
        go_simp
        with_reducible rfl
      rotate_left
      · simp only [Act.put, List.setIfInBounds_toArray, List.set_cons_zero, List.set_cons_succ, i64_w, i32_w]
        rfl
      refine one_ (i := 2) (N := some 62) #[true, true, true, false, false, false, false, false, false, false, false, false, false, false, false, false, false, false, false, false, false, false, false, false, false, false, false, false, false, false, false, false] rfl rfl (one_of rfl (by kernel_rfl)) (by decide) (fun K hK => ?_)
      have R_ := hall_Reason.calls n A0 c0 ls (some ad) c1 tk 0 w10 (Kd.C_below HR.out HL.out.hb) HC.out (Kd.V_reads' HV.out).2.2 (Kd.V_reads' HV.out).2.1 HRS.out
      refine goes_ Tryd.func23 (by kernel_rfl) rfl #[.agg #[.int .i64 n, .slice A0 ls.length c0], .slice (some ad) tk.length c1] (by rfl) rfl rfl (by (try simp only [List.map_toArray, List.map_cons, List.map_nil]); first | done | rfl) ?_
      refine R_.mono ?_
      clear R_
      rintro e w11 ⟨rfl, hb⟩
      have NHL := Aside0.mk (HL.out.below hb)
      have NHLD := Aside0.mk (HLD.out.below hb)
      have NHV := Aside0.mk (Kd.V_below HV.out hb)
      have NHB := Aside0.mk (Kd.N_below HB.out hb)
      have NHM8 := Aside0.mk (Kd.N_below HM8.out hb)
      clear HL HLD HV HB HM8
      have HL := NHL
      have HLD := NHLD
      have HV := NHV
      have HB := NHB
      have HM8 := NHM8
      clear NHL NHLD NHV NHB NHM8
      clear hb
      refine ⟨_, rfl, ?_⟩
      clear hHeld
      refine hK.out _ _ ⟨HL.out.c0, HL.out.c1⟩ (fun hHeld => ?_)
      clear hK K
      refine norm_ (a' := ?_) ?_ ?_
      rotate_left
      · show Act.put _ (some 62) _ = _
        simp only [Act.put, List.setIfInBounds_toArray, List.set_cons_zero, List.set_cons_succ, i64_w, i32_w]
        rfl
      refine pure_ (i := 3) (N := some 63) (v := ?_) (a' := ?_) #[true, true, true, true, false, false, false, false, false, false, false, false, false, false, false, false, false, false, false, false, false, false, false, false, false, false, false, false, false, false, false, false] rfl rfl (any_of rfl (by kernel_rfl)) (fun _ _ _ h => h) (Or.inl ⟨by rfl, ?_⟩) ?_ ?_
      rotate_left
      · intro w'
        go_simp
        with_reducible rfl
      rotate_left
      · simp only [Act.put, List.setIfInBounds_toArray, List.set_cons_zero, List.set_cons_succ, i64_w, i32_w]
        rfl
      refine pure_ (i := 4) (N := some 64) (v := ?_) (a' := ?_) #[true, true, true, true, true, false, false, false, false, false, false, false, false, false, false, false, false, false, false, false, false, false, false, false, false, false, false, false, false, false, false, false] rfl rfl (any_of rfl (by kernel_rfl)) (fun _ _ _ h => h) (Or.inl ⟨by rfl, ?_⟩) ?_ ?_
      rotate_left
      · intro w'
        go_simp
        with_reducible rfl
      rotate_left
      · simp only [Act.put, List.setIfInBounds_toArray, List.set_cons_zero, List.set_cons_succ, i64_w, i32_w]
        rfl
      refine take_ (i := 5) (N := some 65) (v := ?_) (a' := ?_) #[true, true, true, true, true, true, false, false, false, false, false, false, false, false, false, false, false, false, false, false, false, false, false, false, false, false, false, false, false, false, false, false] rfl rfl (take_of rfl (by kernel_rfl)) (fun _ _ _ h => h) (Or.inl ⟨by rfl, ?_⟩) hHeld ?_ ?_
      rotate_left
      · rintro w' ⟨s0, s1⟩
        go_simp
        with_reducible rfl
      rotate_left
      · simp only [Act.put, List.setIfInBounds_toArray, List.set_cons_zero, List.set_cons_succ, i64_w, i32_w]
        rfl
      refine pure_ (i := 6) (N := some 66) (v := ?_) (a' := ?_) #[true, true, true, true, true, true, true, false, false, false, false, false, false, false, false, false, false, false, false, false, false, false, false, false, false, false, false, false, false, false, false, false] rfl rfl (any_of rfl (by kernel_rfl)) (fun _ _ _ h => h) (Or.inl ⟨by rfl, ?_⟩) ?_ ?_
      rotate_left
      · intro w'
        go_simp
        with_reducible rfl
      rotate_left
      · simp only [Act.put, List.setIfInBounds_toArray, List.set_cons_zero, List.set_cons_succ, i64_w, i32_w]
        rfl
      refine one_ (i := 7) (N := some 67) #[true, true, true, true, true, true, true, true, false, false, false, false, false, false, false, false, false, false, false, false, false, false, false, false, false, false, false, false, false, false, false, false] rfl rfl (one_of rfl (by kernel_rfl)) (by decide) (fun K hK => ?_)
      have h7 := Kd.N_reads' HB.out
      have R_ := reason_bad n A0 c0 ls (some ⟨g7, 0, none⟩) c7 bt w11 aM aS HLD.out (Kd.C_below HR.out HL.out.hb) HC.out HM.out h7.2.2 (by have := h7.1; have := h7.2.1; omega) (by rw [HBTL.out]; exact HN1.out) (by rw [HBTL.out]; exact HN16.out) HBTB.out
      clear h7
      rw [HBTL.out] at R_
      refine goes_ Tryd.func23 (by kernel_rfl) rfl #[.agg #[.int .i64 n, .slice A0 ls.length c0], .slice (some ⟨g7, 0, none⟩) tk.length c7] (by rfl) rfl rfl (by (try simp only [List.map_toArray, List.map_cons, List.map_nil]); first | done | rfl) ?_
      refine R_.mono ?_
      clear R_
      rintro e w12 ⟨rfl, hb⟩
      have NHL := Aside0.mk (HL.out.below hb)
      have NHLD := Aside0.mk (HLD.out.below hb)
      have NHV := Aside0.mk (Kd.V_below HV.out hb)
      have NHB := Aside0.mk (Kd.N_below HB.out hb)
      have NHM8 := Aside0.mk (Kd.N_below HM8.out hb)
      clear HL HLD HV HB HM8
      have HL := NHL
      have HLD := NHLD
      have HV := NHV
      have HB := NHB
      have HM8 := NHM8
      clear NHL NHLD NHV NHB NHM8
      clear hb
      refine ⟨_, rfl, ?_⟩
      clear hHeld
      refine hK.out _ _ ⟨HL.out.c0, HL.out.c1⟩ (fun hHeld => ?_)
      clear hK K
      refine norm_ (a' := ?_) ?_ ?_
      rotate_left
      · show Act.put _ (some 67) _ = _
        simp only [Act.put, List.setIfInBounds_toArray, List.set_cons_zero, List.set_cons_succ, i64_w, i32_w]
        rfl
      refine pure_ (i := 8) (N := some 68) (v := ?_) (a' := ?_) #[true, true, true, true, true, true, true, true, true, false, false, false, false, false, false, false, false, false, false, false, false, false, false, false, false, false, false, false, false, false, false, false] rfl rfl (any_of rfl (by kernel_rfl)) (fun _ _ _ h => h) (Or.inl ⟨by rfl, ?_⟩) ?_ ?_
      rotate_left
      · intro w'
        go_simp
        with_reducible rfl
      rotate_left
      · simp only [Act.put, List.setIfInBounds_toArray, List.set_cons_zero, List.set_cons_succ, i64_w, i32_w]
        rfl
      refine pure_ (i := 9) (N := some 69) (v := ?_) (a' := ?_) #[true, true, true, true, true, true, true, true, true, true, false, false, false, false, false, false, false, false, false, false, false, false, false, false, false, false, false, false, false, false, false, false] rfl rfl (any_of rfl (by kernel_rfl)) (fun _ _ _ h => h) (Or.inl ⟨by rfl, ?_⟩) ?_ ?_
      rotate_left
      · intro w'
        go_simp
        with_reducible rfl
      rotate_left
      · simp only [Act.put, List.setIfInBounds_toArray, List.set_cons_zero, List.set_cons_succ, i64_w, i32_w]
        rfl
      refine pure_ (i := 10) (N := some 70) (v := ?_) (a' := ?_) #[true, true, true, true, true, true, true, true, true, true, true, false, false, false, false, false, false, false, false, false, false, false, false, false, false, false, false, false, false, false, false, false] rfl rfl (any_of rfl (by kernel_rfl)) (fun _ _ _ h => h) (Or.inl ⟨by rfl, ?_⟩) ?_ ?_
      rotate_left
      · intro w'
        go_simp
        with_reducible rfl
      rotate_left
      · simp only [Act.put, List.setIfInBounds_toArray, List.set_cons_zero, List.set_cons_succ, i64_w, i32_w]
        rfl
      refine take_ (i := 11) (N := some 71) (v := ?_) (a' := ?_) #[true, true, true, true, true, true, true, true, true, true, true, true, false, false, false, false, false, false, false, false, false, false, false, false, false, false, false, false, false, false, false, false] rfl rfl (take_of rfl (by kernel_rfl)) (fun _ _ _ h => h) (Or.inl ⟨by rfl, ?_⟩) hHeld ?_ ?_
      rotate_left
      · rintro w' ⟨s0, s1⟩
        go_simp
        with_reducible rfl
      rotate_left
      · simp only [Act.put, List.setIfInBounds_toArray, List.set_cons_zero, List.set_cons_succ, i64_w, i32_w]
        rfl
      refine pure_ (i := 12) (N := some 72) (v := ?_) (a' := ?_) #[true, true, true, true, true, true, true, true, true, true, true, true, true, false, false, false, false, false, false, false, false, false, false, false, false, false, false, false, false, false, false, false] rfl rfl (any_of rfl (by kernel_rfl)) (fun _ _ _ h => h) (Or.inl ⟨by rfl, ?_⟩) ?_ ?_
      rotate_left
      · intro w'
        go_simp
        with_reducible rfl
      rotate_left
      · simp only [Act.put, List.setIfInBounds_toArray, List.set_cons_zero, List.set_cons_succ, i64_w, i32_w]
        rfl
      refine one_ (i := 13) (N := some 73) #[true, true, true, true, true, true, true, true, true, true, true, true, true, true, false, false, false, false, false, false, false, false, false, false, false, false, false, false, false, false, false, false] rfl rfl (one_of rfl (by kernel_rfl)) (by decide) (fun K hK => ?_)
      have R_ := reason_many n A0 c0 ls (some ⟨g8, 0, none⟩) c8 ys w12 aM aS HLD.out (Kd.C_below HR.out HL.out.hb) HC.out HM.out (by rw [HYL.out]; decide)
      refine goes_ Tryd.func23 (by kernel_rfl) rfl #[.agg #[.int .i64 n, .slice A0 ls.length c0], .slice (some ⟨g8, 0, none⟩) ys.length c8] (by rfl) rfl rfl (by (try simp only [List.map_toArray, List.map_cons, List.map_nil]); first | done | rfl) ?_
      refine R_.mono ?_
      clear R_
      rintro e w13 ⟨rfl, hb⟩
      have NHL := Aside0.mk (HL.out.below hb)
      have NHLD := Aside0.mk (HLD.out.below hb)
      have NHV := Aside0.mk (Kd.V_below HV.out hb)
      have NHB := Aside0.mk (Kd.N_below HB.out hb)
      have NHM8 := Aside0.mk (Kd.N_below HM8.out hb)
      clear HL HLD HV HB HM8
      have HL := NHL
      have HLD := NHLD
      have HV := NHV
      have HB := NHB
      have HM8 := NHM8
      clear NHL NHLD NHV NHB NHM8
      clear hb
      refine ⟨_, rfl, ?_⟩
      clear hHeld
      refine hK.out _ _ ⟨HL.out.c0, HL.out.c1⟩ (fun hHeld => ?_)
      clear hK K
      refine norm_ (a' := ?_) ?_ ?_
      rotate_left
      · show Act.put _ (some 73) _ = _
        simp only [Act.put, List.setIfInBounds_toArray, List.set_cons_zero, List.set_cons_succ, i64_w, i32_w]
        rfl
      refine pure_ (i := 14) (N := some 74) (v := ?_) (a' := ?_) #[true, true, true, true, true, true, true, true, true, true, true, true, true, true, true, false, false, false, false, false, false, false, false, false, false, false, false, false, false, false, false, false] rfl rfl (any_of rfl (by kernel_rfl)) (fun _ _ _ h => h) (Or.inl ⟨by rfl, ?_⟩) ?_ ?_
      rotate_left
      · intro w'
        go_simp
        with_reducible rfl
      rotate_left
      · simp only [Act.put, List.setIfInBounds_toArray, List.set_cons_zero, List.set_cons_succ, i64_w, i32_w]
        rfl
      refine pure_ (i := 15) (N := some 75) (v := ?_) (a' := ?_) #[true, true, true, true, true, true, true, true, true, true, true, true, true, true, true, true, false, false, false, false, false, false, false, false, false, false, false, false, false, false, false, false] rfl rfl (any_of rfl (by kernel_rfl)) (fun _ _ _ h => h) (Or.inl ⟨by rfl, ?_⟩) ?_ ?_
      rotate_left
      · intro w'
        go_simp
        with_reducible rfl
      rotate_left
      · simp only [Act.put, List.setIfInBounds_toArray, List.set_cons_zero, List.set_cons_succ, i64_w, i32_w]
        rfl
      refine pure_ (i := 16) (N := some 76) (v := ?_) (a' := ?_) #[true, true, true, true, true, true, true, true, true, true, true, true, true, true, true, true, true, false, false, false, false, false, false, false, false, false, false, false, false, false, false, false] rfl rfl (any_of rfl (by kernel_rfl)) (fun _ _ _ h => h) (Or.inl ⟨by rfl, ?_⟩) ?_ ?_
      rotate_left
      · intro w'
        go_simp
        with_reducible rfl
      rotate_left
      · simp only [Act.put, List.setIfInBounds_toArray, List.set_cons_zero, List.set_cons_succ, i64_w, i32_w]
        rfl
      refine take_ (i := 17) (N := some 77) (v := ?_) (a' := ?_) #[true, true, true, true, true, true, true, true, true, true, true, true, true, true, true, true, true, true, false, false, false, false, false, false, false, false, false, false, false, false, false, false] rfl rfl (take_of rfl (by kernel_rfl)) (fun _ _ _ h => h) (Or.inl ⟨by rfl, ?_⟩) hHeld ?_ ?_
      rotate_left
      · rintro w' ⟨s0, s1⟩
        go_simp
        with_reducible rfl
      rotate_left
      · simp only [Act.put, List.setIfInBounds_toArray, List.set_cons_zero, List.set_cons_succ, i64_w, i32_w]
        rfl
      refine one_ (i := 18) (N := some 78) #[true, true, true, true, true, true, true, true, true, true, true, true, true, true, true, true, true, true, true, false, false, false, false, false, false, false, false, false, false, false, false, false] rfl rfl (one_of rfl (by kernel_rfl)) (by decide) (fun K hK => ?_)
      have R_ := reason_none n A0 c0 ls w13 aM aS HLD.out (Kd.C_below HR.out HL.out.hb) HC.out HM.out
      refine goes_ Tryd.func23 (by kernel_rfl) rfl #[.agg #[.int .i64 n, .slice A0 ls.length c0], .slice none 0 0] (by rfl) rfl rfl (by (try simp only [List.map_toArray, List.map_cons, List.map_nil]); first | done | rfl) ?_
      refine R_.mono ?_
      clear R_
      rintro e w14 ⟨rfl, hb⟩
      have NHL := Aside0.mk (HL.out.below hb)
      have NHLD := Aside0.mk (HLD.out.below hb)
      have NHV := Aside0.mk (Kd.V_below HV.out hb)
      have NHB := Aside0.mk (Kd.N_below HB.out hb)
      have NHM8 := Aside0.mk (Kd.N_below HM8.out hb)
      clear HL HLD HV HB HM8
      have HL := NHL
      have HLD := NHLD
      have HV := NHV
      have HB := NHB
      have HM8 := NHM8
      clear NHL NHLD NHV NHB NHM8
      clear hb
      refine ⟨_, rfl, ?_⟩
      clear hHeld
      refine hK.out _ _ ⟨HL.out.c0, HL.out.c1⟩ (fun hHeld => ?_)
      clear hK K
      refine norm_ (a' := ?_) ?_ ?_
      rotate_left
      · show Act.put _ (some 78) _ = _
        simp only [Act.put, List.setIfInBounds_toArray, List.set_cons_zero, List.set_cons_succ, i64_w, i32_w]
        rfl
      refine pure_ (i := 19) (N := some 79) (v := ?_) (a' := ?_) #[true, true, true, true, true, true, true, true, true, true, true, true, true, true, true, true, true, true, true, true, false, false, false, false, false, false, false, false, false, false, false, false] rfl rfl (any_of rfl (by kernel_rfl)) (fun _ _ _ h => h) (Or.inl ⟨by rfl, ?_⟩) ?_ ?_
      rotate_left
      · intro w'
        go_simp
        with_reducible rfl
      rotate_left
      · simp only [Act.put, List.setIfInBounds_toArray, List.set_cons_zero, List.set_cons_succ, i64_w, i32_w]
        rfl
      refine pure_ (i := 20) (N := some 80) (v := ?_) (a' := ?_) #[true, true, true, true, true, true, true, true, true, true, true, true, true, true, true, true, true, true, true, true, true, false, false, false, false, false, false, false, false, false, false, false] rfl rfl (any_of rfl (by kernel_rfl)) (fun _ _ _ h => h) (Or.inl ⟨by rfl, ?_⟩) ?_ ?_
      rotate_left
      · intro w'
        go_simp
        with_reducible rfl
      rotate_left
      · simp only [Act.put, List.setIfInBounds_toArray, List.set_cons_zero, List.set_cons_succ, i64_w, i32_w]
        rfl
      refine pure_ (i := 21) (N := some 81) (v := ?_) (a' := ?_) #[true, true, true, true, true, true, true, true, true, true, true, true, true, true, true, true, true, true, true, true, true, true, false, false, false, false, false, false, false, false, false, false] rfl rfl (any_of rfl (by kernel_rfl)) (fun _ _ _ h => h) (Or.inl ⟨by rfl, ?_⟩) ?_ ?_
      rotate_left
      · intro w'
        go_simp
        with_reducible rfl
      rotate_left
      · simp only [Act.put, List.setIfInBounds_toArray, List.set_cons_zero, List.set_cons_succ, i64_w, i32_w]
        rfl
      refine take_ (i := 22) (N := some 82) (v := ?_) (a' := ?_) #[true, true, true, true, true, true, true, true, true, true, true, true, true, true, true, true, true, true, true, true, true, true, true, false, false, false, false, false, false, false, false, false] rfl rfl (take_of rfl (by kernel_rfl)) (fun _ _ _ h => h) (Or.inl ⟨by rfl, ?_⟩) hHeld ?_ ?_
      rotate_left
      · rintro w' ⟨s0, s1⟩
        go_simp
        with_reducible rfl
      rotate_left
      · simp only [Act.put, List.setIfInBounds_toArray, List.set_cons_zero, List.set_cons_succ, i64_w, i32_w]
        rfl
      refine pure_ (i := 23) (N := some 83) (v := ?_) (a' := ?_) #[true, true, true, true, true, true, true, true, true, true, true, true, true, true, true, true, true, true, true, true, true, true, true, true, false, false, false, false, false, false, false, false] rfl rfl (any_of rfl (by kernel_rfl)) (fun _ _ _ h => h) (Or.inl ⟨by rfl, ?_⟩) ?_ ?_
      rotate_left
      · intro w'
        go_simp
        with_reducible rfl
      rotate_left
      · simp only [Act.put, List.setIfInBounds_toArray, List.set_cons_zero, List.set_cons_succ, i64_w, i32_w]
        rfl
      have HC8 : Aside0 (16 ≤ c8) := ⟨by have h1 := (Kd.N_reads' HM8.out).2.1; have h2 := HYL.out; omega⟩
      refine pure_ (i := 24) (N := some 84) (v := .slice (some ⟨g8, 0, none⟩) 16 c8) (a' := ?_) #[true, true, true, true, true, true, true, true, true, true, true, true, true, true, true, true, true, true, true, true, true, true, true, true, true, false, false, false, false, false, false, false] rfl rfl (any_of rfl (by kernel_rfl)) (fun _ _ _ h => h) (Or.inl ⟨by rfl, ?_⟩) ?_ ?_
      · intro w'
        have hc8 := HC8.out
        go_simp
        intro hcc
        exact absurd hcc (by omega)
      rotate_left
      · simp only [Act.put, List.setIfInBounds_toArray, List.set_cons_zero, List.set_cons_succ, i64_w, i32_w]
        rfl
      refine one_ (i := 25) (N := some 85) #[true, true, true, true, true, true, true, true, true, true, true, true, true, true, true, true, true, true, true, true, true, true, true, true, true, true, false, false, false, false, false, false] rfl rfl (one_of rfl (by kernel_rfl)) (by decide) (fun K hK => ?_)
      have h8 := Kd.N_reads' HM8.out
      have h16 : (ys.take 16).length = 16 := by rw [List.length_take, HYL.out]; rfl
      have R_ := hall_Reason.calls n A0 c0 ls (some ⟨g8, 0, none⟩) c8 (ys.take 16) 0 w14 (Kd.C_below HR.out HL.out.hb) HC.out (Kd.C_take h8.2.2 (by have := HYL.out; omega)) (by rw [h16]; exact HC8.out) (by unfold hall_Reason.f; rw [if_pos ⟨HM.out, by rw [HYT.out]; exact good_many HT.out HT0.out (by decide) (by decide), by rw [h16]; decide, by rw [h16]; decide⟩])
      rw [h16] at R_
      clear h8 h16
      refine goes_ Tryd.func23 (by kernel_rfl) rfl #[.agg #[.int .i64 n, .slice A0 ls.length c0], .slice (some ⟨g8, 0, none⟩) 16 c8] (by rfl) rfl rfl (by (try simp only [List.map_toArray, List.map_cons, List.map_nil]); first | done | rfl) ?_
      refine R_.mono ?_
      clear R_
      rintro e w15 ⟨rfl, hb⟩
      have NHL := Aside0.mk (HL.out.below hb)
      have NHLD := Aside0.mk (HLD.out.below hb)
      have NHV := Aside0.mk (Kd.V_below HV.out hb)
      have NHB := Aside0.mk (Kd.N_below HB.out hb)
      have NHM8 := Aside0.mk (Kd.N_below HM8.out hb)
      clear HL HLD HV HB HM8
      have HL := NHL
      have HLD := NHLD
      have HV := NHV
      have HB := NHB
      have HM8 := NHM8
      clear NHL NHLD NHV NHB NHM8
      clear hb
      refine ⟨_, rfl, ?_⟩
      clear hHeld
      refine hK.out _ _ ⟨HL.out.c0, HL.out.c1⟩ (fun hHeld => ?_)
      clear hK K
      refine norm_ (a' := ?_) ?_ ?_
      rotate_left
      · show Act.put _ (some 85) _ = _
        simp only [Act.put, List.setIfInBounds_toArray, List.set_cons_zero, List.set_cons_succ, i64_w, i32_w]
        rfl
      refine pure_ (i := 26) (N := some 86) (v := ?_) (a' := ?_) #[true, true, true, true, true, true, true, true, true, true, true, true, true, true, true, true, true, true, true, true, true, true, true, true, true, true, true, false, false, false, false, false] rfl rfl (any_of rfl (by kernel_rfl)) (fun _ _ _ h => h) (Or.inl ⟨by rfl, ?_⟩) ?_ ?_
      rotate_left
      · intro w'
        go_simp
        with_reducible rfl
      rotate_left
      · simp only [Act.put, List.setIfInBounds_toArray, List.set_cons_zero, List.set_cons_succ, i64_w, i32_w]
        rfl
      refine pure_ (i := 27) (N := some 87) (v := ?_) (a' := ?_) #[true, true, true, true, true, true, true, true, true, true, true, true, true, true, true, true, true, true, true, true, true, true, true, true, true, true, true, true, false, false, false, false] rfl rfl (any_of rfl (by kernel_rfl)) (fun _ _ _ h => h) (Or.inl ⟨by rfl, ?_⟩) ?_ ?_
      rotate_left
      · intro w'
        go_simp
        with_reducible rfl
      rotate_left
      · simp only [Act.put, List.setIfInBounds_toArray, List.set_cons_zero, List.set_cons_succ, i64_w, i32_w]
        rfl
      refine pure_ (i := 28) (N := some 88) (v := ?_) (a' := ?_) #[true, true, true, true, true, true, true, true, true, true, true, true, true, true, true, true, true, true, true, true, true, true, true, true, true, true, true, true, true, false, false, false] rfl rfl (any_of rfl (by kernel_rfl)) (fun _ _ _ h => h) (Or.inl ⟨by rfl, ?_⟩) ?_ ?_
      rotate_left
      · intro w'
        go_simp
        with_reducible rfl
      rotate_left
      · simp only [Act.put, List.setIfInBounds_toArray, List.set_cons_zero, List.set_cons_succ, i64_w, i32_w]
        rfl
      refine one_ (i := 29) (N := some 89) #[true, true, true, true, true, true, true, true, true, true, true, true, true, true, true, true, true, true, true, true, true, true, true, true, true, true, true, true, true, true, false, false] rfl rfl (one_of rfl (by kernel_rfl)) (by decide) (fun K hK => ?_)
      have R_ := switchboardlaw24_awake.calls true w15 rfl
      refine goes_ Tryd.func9 (by kernel_rfl) rfl #[] (by rfl) rfl rfl (by (try simp only [List.map_toArray, List.map_cons, List.map_nil]); first | done | rfl) ?_
      refine R_.mono ?_
      clear R_
      rintro e w20 ⟨rfl, hb⟩
      have HL20 := Aside0.mk (HL.out.below hb)
      clear hb
      refine ⟨_, rfl, ?_⟩
      clear hHeld
      refine hK.out _ _ ⟨HL20.out.c0, HL20.out.c1⟩ (fun hHeld => ?_)
      clear hK K
      refine norm_ (a' := ?_) ?_ ?_
      rotate_left
      · show Act.put _ (some 89) _ = _
        simp only [Act.put, List.setIfInBounds_toArray, List.set_cons_zero, List.set_cons_succ, i64_w, i32_w]
        rfl
      refine pure_ (i := 30) (N := some 90) (v := ?_) (a' := ?_) #[true, true, true, true, true, true, true, true, true, true, true, true, true, true, true, true, true, true, true, true, true, true, true, true, true, true, true, true, true, true, true, false] rfl rfl (any_of rfl (by kernel_rfl)) (fun _ _ _ h => h) (Or.inl ⟨by rfl, ?_⟩) ?_ ?_
      rotate_left
      · intro w'
        go_simp
        with_reducible rfl
      rotate_left
      · simp only [Act.put, List.setIfInBounds_toArray, List.set_cons_zero, List.set_cons_succ, i64_w, i32_w]
        rfl
      refine pure_ (i := 31) (N := some 6) (v := ?_) (a' := ?_) #[true, true, true, true, true, true, true, true, true, true, true, true, true, true, true, true, true, true, true, true, true, true, true, true, true, true, true, true, true, true, true, true] rfl rfl (any_of rfl (by kernel_rfl)) (fun _ _ _ h => h) (Or.inl ⟨by rfl, ?_⟩) ?_ ?_
      rotate_left
      · intro w'
        go_simp
        with_reducible rfl
      rotate_left
      · simp only [Act.put, List.setIfInBounds_toArray, List.set_cons_zero, List.set_cons_succ, i64_w, i32_w]
        rfl
      refine done_ (done_of rfl (by kernel_rfl)) ?_
      go_wp2
      all_goals (go_ret; exact ⟨rfl, HL20.out.hb⟩)
    · have k1 : decide ((i : Int) < 17) = true := decide_eq_true (by omega)
      have k1n : decide (i < 17) = true := decide_eq_true hlt
      have HW1 : Aside0 (wrap64 ((i : Int) + 1) = (i : Int) + 1) := ⟨wrap_small (by omega) (by omega)⟩
      have HIL := Aside0.mk hlt
      clear hlt
      have hx0 : wr.cell? ad = some (.slice B0 t0.length d0) := pw_cell_below HBW.out HX0.out
      go_wp2_with ((at_builtin; refine Kd.N_append (Kd.slice 3 (Kd.int .i64)) (w0 := w9) w9.heap.size rfl (.tmp 53) (.tmp 57) 25 42 (.slice none 0 0) 24 rfl Tryd.underlying25 info42_ rfl (by decide) (by omega) _ (List.replicate i t0) t0 [.slice B0 t0.length d0] (fun k => k < w.heap.size ∨ w9.heap.size ≤ k) (fun k => k < w.heap.size) rfl rfl ?aP ?aK ?aF ?aO ?aB ?aS ?aL ?_; (case aP => exact Kd.FK_below HFT.out HBW.out); (case aK => exact (fun k hk => ⟨.inl hk, fun e => by have h1 := Kd.N_base HNW.out k e.symm; have h2 := below_size HL9.out.hb; omega⟩)); (case aF => exact (fun k hk => .inr (Nat.le_trans (below_size HBW.out) hk))); (case aO => exact HNW.out); (case aB => exact HBW.out); (case aS => exact below_size HBW.out); (case aL => have := HIL.out; simp; omega); intro v3 w3 ho hb hg hat; have HN3 := Aside0.mk (show Kd.N (Kd.slice 3 (Kd.int .i64)) 42 w3 w9.heap.size (fun k => k < w.heap.size ∨ w9.heap.size ≤ k) v3 (List.replicate (i + 1) t0) by rw [List.replicate_succ']; exact ho); have HB3 := Aside0.mk hb; clear ho hb hg hat hx0))
      go_roundw
      case rel => exact ⟨i + 1, by rw [HW1.out]; go_num, ⟨by have := HIL.out; omega⟩, HB3, HN3⟩
      case measure => rw [HW1.out]; have := HIL.out; simp [intOf]; omega


end Go.Proofs.YtlbkfeelkdombaaDoor.Pq
