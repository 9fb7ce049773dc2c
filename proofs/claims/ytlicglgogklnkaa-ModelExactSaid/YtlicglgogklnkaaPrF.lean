/- Own text, by hand: the walk of ref15.Forward. -/
import Derived.Test.YtlicglgogklnkaaPr0
import Derived.Test.YtlicglgogklnkaaPr14
import Derived.Test.YtlicglgogklnkaaPr15
import Derived.Test.YtlicglgogklnkaaPrQ
namespace Go.Proofs.Ytlicglgogklnkaa.Pr
open Go.RowKit Go.Proofs.YtlicglgogklnkaaW.PrintWords Go.Proofs.YtlicglgogklnkaaW.PrintLast Go.Proofs.YtlicglgogklnkaaW.PrintMore
attribute [local go_sem] max2_int min2_int max_two min_two max_three min_three max_four min_four
set_option linter.unusedVariables false
set_option linter.unusedSimpArgs false

/-- The form of a row that is an element. -/
theorem kslice_openF {W : World} {ok : Nat → Prop} {x : List Int} {cs : List Value} (h : Kd.FK (Kd.slice 3 (Kd.int .i64)) W ok x cs) : ∃ A c, cs = [.slice A x.length c] ∧ x.length ≤ c ∧ Kd.F (Kd.int .i64) W ok A x.length x := by
  obtain ⟨A, c, rfl, hl, _⟩ := Kd.FK_now h
  refine ⟨A, c, rfl, hl, fun W' hW => ?_⟩
  obtain ⟨A', c', he, _, hC⟩ := h W' hW
  injection he with he _
  injection he with ha _ _
  rw [ha]
  exact hC
/-- What one layer makes of tokens: V t j is token t's value behind j parts. -/
def LayH (x : S37) (T R : List (List Int)) : Prop := ∃ (PS : List S41) (V : Nat → Nat → List Int) (c : Nat → Int × Int × Int × Int × Bool) (s0 s1 : Nat → Int), T.length ≤ 60 ∧ PS.length ≤ 200 ∧ R.length = T.length ∧ PartsH x T c s0 s1 ∧ PS = ptUp c s0 s1 T.length ∧
  (∀ t, t < T.length → V t 0 = T.getD t [] ∧ V t PS.length = R.getD t []) ∧
  ∀ t j : Nat, t < T.length → j < PS.length → ((rd_T41 PS (j : Int)).f0 = (t : Int) → 0 ≤ (rd_T41 PS (j : Int)).f2 ∧ (rd_T41 PS (j : Int)).f2 < (x.f1.length : Int) ∧ ∃ y z, Ev (fun k => switchboardref11_Run.f k (rd_T46 x.f1 (rd_T41 PS (j : Int)).f2).f0 (rd_T46 x.f1 (rd_T41 PS (j : Int)).f2).f1 (T.getD t [])) y ∧ Ev (fun k => switchboardref02_Scale.f k y (rd_T41 PS (j : Int)).f3) z ∧ Ev (fun k => switchboardref02_Add.f k (V t j) z) (V t (j + 1))) ∧ ((rd_T41 PS (j : Int)).f0 ≠ (t : Int) → V t (j + 1) = V t j)
def FwdH : List S37 → List (List Int) → List (List Int) → Prop
  | [], T, R => R = T
  | x :: r, T, R => ∃ M, LayH x T M ∧ FwdH r M R
theorem FwdH.cons {ls : List S37} {i : Nat} {T R : List (List Int)} (hi : i < ls.length) (h : FwdH (ls.drop i) T R) : ∃ M, LayH (rd_T37 ls (i : Int)) T M ∧ FwdH (ls.drop (i + 1)) M R := by
  rw [List.drop_eq_getElem_cons hi] at h
  have e : rd_T37 ls (i : Int) = ls[i] := by unfold rd_T37; rw [Int.toNat_natCast, List.getD_eq_getElem?_getD, List.getElem?_eq_getElem hi]; rfl
  rw [e]
  exact h
theorem take_snoc {R : List (List Int)} {t : Nat} (h : t < R.length) : R.take t ++ [R.getD t []] = R.take (t + 1) := by
  rw [List.take_succ_eq_append_getElem h, List.getD_eq_getElem?_getD, List.getElem?_eq_getElem h]
  rfl
theorem V_of_R {base : Nat} {W w1 : World} {v : Value} {xs : List Int} (h : Kd.R (Kd.int .i64) 3 w1 W.heap.size (fun _ => True) v xs) (ok : Nat → Prop) (hok : ∀ k, W.heap.size ≤ k → ok k) (hb : base ≤ W.heap.size) : Kd.V (Kd.int .i64) 3 w1 base ok v xs :=
  Kd.V_mono (Kd.R_V (Kd.R_mono (ok' := fun k => W.heap.size ≤ k) (Kd.R_bound h) (fun k hk => hk.2.1))) hok
theorem info47_ : (Try.prog.info? 47).map (fun i => (i.zero, i.size, i.bytes)) = some (some (.slice none 0 0), 1, 24) := by kernel_rfl
set_option maxHeartbeats 8000000 in
set_option maxRecDepth 100000 in
theorem switchboardref15_Forward.calls (n : Int) (A0 : Option Addr) (c0 : Nat) (ls : List S37) (P1 : Nat → Prop) (A1 : Option Addr) (c1 : Nat) (tk R : List (List Int)) (w : World) (hr0_1 : Kd.C k37 w A0 ls.length ls) (hc0_1 : ls.length ≤ c0) (hs1 : Kd.V (Kd.slice 3 (Kd.int .i64)) 47 w w.heap.size (fun k_ => P1 k_) (.slice A1 tk.length c1) tk) (hl : ls.length ≤ 60) (h : FwdH ls tk R) :
    Calls Try.prog 20 #[.agg #[.int .i64 n, .slice A0 ls.length c0], .slice A1 tk.length c1] w fun e w' => ∃ v0_ : Value, e = .returned v0_ ∧ Kd.V (Kd.slice 3 (Kd.int .i64)) 47 w' w.heap.size (fun _ => True) v0_ R ∧ Below w.heap.size w w' := by
  have hu24 := Try.underlying24
  have hu37 := Try.underlying37
  have hu41 := Try.underlying41
  have HR := Aside0.mk hr0_1
  have HC := Aside0.mk hc0_1
  have HH := Aside0.mk h
  have HLL := Aside0.mk hl
  have HV0 : Aside0 (Kd.V (Kd.slice 3 (Kd.int .i64)) 47 (w.alloc (.cells #[.int .i64 n, .slice A0 ls.length c0] 24)) w.heap.size (fun _ => True) (.slice A1 tk.length c1) tk) := ⟨Kd.V_mono (Kd.V_alloc hs1 _) (fun _ _ => trivial)⟩
  have HB0 : Aside0 (Below w.heap.size w (w.alloc (.cells #[.int .i64 n, .slice A0 ls.length c0] 24))) := ⟨below_alloc (Below.refl _ _) _⟩
  clear h hl hr0_1 hc0_1 hs1
  go_enter Try.func20, Try.ntmps20
  go_wp2
  go_loopw [1, 16] (fun v1 v16 W => ∃ (i : Nat) (T : List (List Int)), v16 = .int .i64 (i : Int) ∧ Aside0 (i ≤ ls.length) ∧ Aside0 (FwdH (ls.drop i) T R) ∧ Aside0 (Below w.heap.size w W) ∧ Aside0 (Kd.V (Kd.slice 3 (Kd.int .i64)) 47 W w.heap.size (fun _ => True) v1 T)) (fun _ v16 _ => ls.length - (intOf v16).toNat)
  case atStart => exact ⟨0, tk, rfl, ⟨by omega⟩, HH, HB0, HV0⟩
  case round =>
    obtain ⟨i, T, rfl, HI, HF, HBW, HVW⟩ := hrel
    clear HB0 HV0 HH
    by_cases hlt : i < ls.length
    case neg =>
      have k1 : decide ((i : Int) < (ls.length : Int)) = false := decide_eq_false (by omega)
      have k1n : decide (i < ls.length) = false := decide_eq_false hlt
      have hF := HF.out
      rw [List.drop_eq_nil_of_le (by omega)] at hF
      have hRT : R = T := hF
      subst hRT
      clear hF HF hlt
      obtain ⟨A1', c1', rfl⟩ := Kd.V_slice HVW.out
      go_wp2
      go_ret
      exact ⟨_, rfl, HVW.out, HBW.out⟩
    have k1 : decide ((i : Int) < (ls.length : Int)) = true := decide_eq_true (by omega)
    have k1n : decide (i < ls.length) = true := decide_eq_true hlt
    have HW1 : Aside0 (wrap64 ((i : Int) + 1) = (i : Int) + 1) := ⟨wrap_ok (by omega) (by have := HLL.out; omega)⟩
    have HIL := Aside0.mk hlt
    obtain ⟨M, ⟨PS, V, c, s0, s1, hT60, hP200, hRl, hPH, hPS, hV0, hVj⟩, hrest⟩ := HF.out.cons hlt
    have HT60 := Aside0.mk hT60
    have HP200 := Aside0.mk hP200
    have HML := Aside0.mk hRl
    have HV0 := Aside0.mk hV0
    have HVJ := Aside0.mk hVj
    have HRS := Aside0.mk hrest
    have HPE := Aside0.mk hPH
    have HPS := Aside0.mk hPS
    clear hT60 hP200 hRl hPH hPS hV0 hVj hrest HF
    obtain ⟨ad, B0, d0, B1, d1, hA, hx0, hx1, hx2, hl0, hC0, hl1, hC1⟩ := at_T37 (Kd.C_below HR.out HBW.out) (i : Int) (by omega) (by omega)
    subst hA
    rw [Int.toNat_natCast] at hx0 hx1 hx2
    obtain ⟨x, hx⟩ : ∃ x, x = rd_T37 ls (i : Int) := ⟨_, rfl⟩
    rw [← hx] at hx0 hx1 hx2 hl0 hC0 hl1 hC1
    rw [← hx] at HPE HVJ
    have HC0 := Aside0.mk hC0
    have HC1 := Aside0.mk hC1
    have HL0 := Aside0.mk hl0
    have HL1 := Aside0.mk hl1
    clear hx hl0 hC0 hl1 hC1
    obtain ⟨At, ct, rfl⟩ := Kd.V_slice HVW.out
    go_upto_region 4 with (fail)
    clear hlt
    have h6 : (wr.alloc (.cells #[.slice B0 x.f0.length d0, .slice B1 x.f1.length d1, .int .i64 x.f2] 37)).heap[wr.heap.size]? = some (.cells #[.slice B0 x.f0.length d0, .slice B1 x.f1.length d1, .int .i64 x.f2] 37) := alloc_atR _ rfl
    have H6 := Aside0.mk h6
    have HB1 := Aside0.mk (below_alloc HBW.out (.cells #[.slice B0 x.f0.length d0, .slice B1 x.f1.length d1, .int .i64 x.f2] 37))
    have HV1 := Aside0.mk (Kd.V_alloc HVW.out (.cells #[.slice B0 x.f0.length d0, .slice B1 x.f1.length d1, .int .i64 x.f2] 37))
    have HD0 := Aside0.mk (Kd.C_alloc HC0.out (.cells #[.slice B0 x.f0.length d0, .slice B1 x.f1.length d1, .int .i64 x.f2] 37))
    have HD1 := Aside0.mk (Kd.C_alloc HC1.out (.cells #[.slice B0 x.f0.length d0, .slice B1 x.f1.length d1, .int .i64 x.f2] 37))
    clear h6 hx0 hx1 hx2
    generalize wr.alloc (.cells #[.slice B0 x.f0.length d0, .slice B1 x.f1.length d1, .int .i64 x.f2] 37) = w1 at H6 HB1 HV1 HD0 HD1 ⊢
    generalize wr.heap.size = g6 at H6 ⊢
    clear HBW HVW HC0 HC1
    have hc0 : w1.cell? ⟨g6, 0, none⟩ = some (.slice B0 x.f0.length d0) := (blk_cell H6.out 0).trans rfl
    have hc1 : w1.cell? ⟨g6, 1, none⟩ = some (.slice B1 x.f1.length d1) := (blk_cell H6.out 1).trans rfl
    have hc2 : w1.cell? ⟨g6, 2, none⟩ = some (.int .i64 x.f2) := (blk_cell H6.out 2).trans rfl
    go_upto_region 6 with ((go_at_call 18; (with_reducible refine (switchboardref15_Parts.calls B0 d0 B1 d1 x At ct T c s0 s1 _ HD0.out HL0.out HD1.out HL1.out (Kd.V_reads' HV1.out).2.2 (Kd.V_reads' HV1.out).2.1 HPE.out).mono ?_); rintro e w2 ⟨vp, rfl, hp, hb⟩; have H7 := Aside0.mk (show Kd.R k41 41 w2 _ (fun _ => True) vp PS by rw [HPS.out]; exact hp); have H6b := Aside0.mk (blk_below H6.out hb); have HB2 := Aside0.mk (below_step HB1.out hb); have HV2 := Aside0.mk (Kd.V_below HV1.out hb); have HE2 := Aside0.mk (Kd.C_below HD1.out hb); clear hp hb hc0 hc1 hc2))
    clear H6 HB1 HV1 HD0 HD1
    obtain ⟨Ap, cp, rfl⟩ := Kd.R_slice H7.out
    have HML2 := Aside0.mk (show M.length = T.length from HML.out)
    go_wp2
    go_loopw [8, 9] (fun v8 v9 W => ∃ (t : Nat), v9 = .int .i64 (t : Int) ∧ Aside0 (t ≤ T.length) ∧ Aside0 (Below w2.heap.size w2 W) ∧ Aside0 (Kd.N (Kd.slice 3 (Kd.int .i64)) 47 W w2.heap.size (fun _ => True) v8 (M.take t))) (fun _ v9 _ => T.length - (intOf v9).toNat)
    case atStart => exact ⟨0, rfl, ⟨by omega⟩, ⟨Below.refl _ _⟩, ⟨Kd.N_nil _ _ _ _ _⟩⟩
    case round =>
      obtain ⟨t, rfl, HT, HBW, HNW⟩ := hrel
      by_cases hlt : t < T.length
      case neg =>
        have k2 : decide ((t : Int) < (T.length : Int)) = false := decide_eq_false (by omega)
        have k2n : decide (t < T.length) = false := decide_eq_false hlt
        have hM : M.take t = M := List.take_of_length_le (by have := HML.out; omega)
        have HN9 := Aside0.mk HNW.out
        rw [hM] at HN9
        clear hM HNW hlt
        obtain ⟨A8, c8, rfl⟩ := Kd.N_slice HN9.out
        have HB9 := Aside0.mk (below_step HB2.out HBW.out)
        have hl8 := HML.out
        have HV9 : Aside0 (Kd.V (Kd.slice 3 (Kd.int .i64)) 47 wr w.heap.size (fun _ => True) (.slice A8 M.length c8) M) := ⟨Kd.V_mk (Kd.N_reads' HN9.out).2.1 (Kd.N_F HN9.out)⟩
        clear hl8
        go_wp2
        go_roundw
        case rel => exact ⟨i + 1, M, by rw [HW1.out]; go_num, ⟨by have := HIL.out; omega⟩, HRS, HB9, HV9⟩
        case measure => rw [HW1.out]; have := HIL.out; simp [intOf]; omega
      have k2 : decide ((t : Int) < (T.length : Int)) = true := decide_eq_true (by omega)
      have k2n : decide (t < T.length) = true := decide_eq_true hlt
      have HW2 : Aside0 (wrap64 ((t : Int) + 1) = (t : Int) + 1) := ⟨wrap_ok (by omega) (by have := HT60.out; omega)⟩
      have HTL := Aside0.mk hlt
      obtain ⟨w3, hw3⟩ : ∃ w3, w3 = wr := ⟨_, rfl⟩
      rw [← hw3] at HBW HNW ⊢
      clear hw3
      have HV3 := Aside0.mk (Kd.V_below HV2.out HBW.out)
      have HS3 := Aside0.mk (below_size HBW.out)
      obtain ⟨at_, ct_, hA, hct, hFT, hcc, _⟩ := Kd.F_get (Kd.V_F (Kd.V_mono (Kd.V_below (Kd.V_mono (ok' := fun k => k < w2.heap.size) (Kd.V_bound HV2.out) (fun k hk => hk.2)) HBW.out) (fun k hk => hk))) [] (t : Int) (by omega) (by omega)
      subst hA
      obtain ⟨Bt, dt, rfl, hlt0, hFt⟩ := kslice_openF hFT
      rw [Int.toNat_natCast] at hcc hFt hlt0
      obtain ⟨u, hu⟩ : ∃ u, u = T.getD t [] := ⟨_, rfl⟩
      rw [← hu] at hFt hcc hlt0
      have hxt : w3.cell? (at_.add t) = some (.slice Bt u.length dt) := by have h_ := hcc 0 _ rfl; rw [show (Kd.slice 3 (Kd.int .i64)).sz = 1 from rfl, Nat.mul_one, Nat.add_zero] at h_; exact h_
      have HFT := Aside0.mk hFt
      have HLT := Aside0.mk hlt0
      have HUV : Aside0 (V t 0 = u) := ⟨by rw [hu]; exact (HV0.out t hlt).1⟩
      have HU := Aside0.mk hu
      have HXT := Aside0.mk hxt
      clear hcc hct hFT hFt hlt0 hu
      have HVI : Aside0 (Kd.V (Kd.int .i64) 3 w3 w3.heap.size (fun k => k < w2.heap.size ∨ w3.heap.size ≤ k) (.slice Bt u.length dt) u) := ⟨Kd.V_mono (Kd.V_mk HLT.out HFT.out) (fun k hk => .inl hk)⟩
      have hpl : (PS.length : Int) < 1000000 := by have := HP200.out; omega
      go_wp2
      clear hxt hlt
      go_loopw [10, 35] (fun v10 v35 W => ∃ (j : Nat), v35 = .int .i64 (j : Int) ∧ Aside0 (j ≤ PS.length) ∧ Aside0 (Below w3.heap.size w3 W) ∧ Aside0 (Kd.V (Kd.int .i64) 3 W w3.heap.size (fun k => k < w2.heap.size ∨ w3.heap.size ≤ k) v10 (V t j))) (fun _ v35 _ => PS.length - (intOf v35).toNat)
      case atStart => exact ⟨0, rfl, ⟨by omega⟩, ⟨Below.refl _ _⟩, ⟨by rw [HUV.out]; exact HVI.out⟩⟩
      case round =>
        obtain ⟨j, rfl, HJ, HBX, HVX⟩ := hrel
        by_cases hlt : j < PS.length
        case neg =>
          have k3 : decide ((j : Int) < (PS.length : Int)) = false := decide_eq_false (by omega)
          have k3n : decide (j < PS.length) = false := decide_eq_false hlt
          have hj : j = PS.length := by have := HJ.out; omega
          subst hj
          have HX := Aside0.mk HVX.out
          rw [(HV0.out t HTL.out).2] at HX
          obtain ⟨Ax, cx, rfl⟩ := Kd.V_slice HX.out
          have HKX : Aside0 (Kd.FK (Kd.slice 3 (Kd.int .i64)) wr (fun k => k < w2.heap.size ∨ w3.heap.size ≤ k) (M.getD t []) [.slice Ax (M.getD t []).length cx]) := ⟨fun W' hW => ⟨Ax, cx, rfl, (Kd.V_reads' HX.out).2.1, (Kd.V_F HX.out) W' hW⟩⟩
          clear HVX hlt
          go_wp2_with ((at_builtin; refine Kd.N_append (Kd.slice 3 (Kd.int .i64)) (w0 := w2) w2.heap.size rfl (.tmp 60) (.tmp 62) 25 47 (.slice none 0 0) 24 rfl Try.underlying25 info47_ rfl (by decide) (by omega) _ (M.take t) (M.getD t []) [.slice Ax (M.getD t []).length cx] (fun _ => True) (fun k => k < w2.heap.size ∨ w3.heap.size ≤ k) rfl rfl ?aP ?aK ?aF ?aO ?aB ?aS ?aL ?_; (case aP => exact HKX.out); (case aK => exact (fun k hk => ⟨trivial, fun e => by have h1 := Kd.N_base HNW.out k e.symm; have h2 := Kd.N_lt HNW.out k e.symm; rcases hk with h | h <;> omega⟩)); (case aF => exact (fun k hk => trivial)); (case aO => exact Kd.N_below HNW.out HBX.out); (case aB => exact below_step HBW.out HBX.out); (case aS => exact Nat.le_trans HS3.out (below_size HBX.out)); (case aL => have h1 := HT60.out; have h2 := HTL.out; simp; omega); intro v5 w5 ho hb hg hat; have HN5 := Aside0.mk (show Kd.N (Kd.slice 3 (Kd.int .i64)) 47 w5 w2.heap.size (fun _ => True) v5 (M.take (t + 1)) by rw [← take_snoc (by have h1 := HTL.out; have h2 := HML.out; omega)]; exact ho); have HB5 := Aside0.mk hb; clear ho hb hg hat))
          go_roundw
          case rel => exact ⟨t + 1, by rw [HW2.out]; go_num, ⟨by have := HTL.out; omega⟩, HB5, HN5⟩
          case measure => rw [HW2.out]; have := HTL.out; simp [intOf]; omega
        have k3 : decide ((j : Int) < (PS.length : Int)) = true := decide_eq_true (by omega)
        have k3n : decide (j < PS.length) = true := decide_eq_true hlt
        have HW3 : Aside0 (wrap64 ((j : Int) + 1) = (j : Int) + 1) := ⟨wrap_ok (by omega) (by omega)⟩
        have HJL := Aside0.mk hlt
        obtain ⟨w4, hw4⟩ : ∃ w4, w4 = wr := ⟨_, rfl⟩
        rw [← hw4] at HBX HVX ⊢
        clear hw4
        have HB4 := Aside0.mk (below_step HBW.out HBX.out)
        obtain ⟨ap, hA, hp0, hp1, hp2, hp3⟩ := at_T41 (Kd.C_below (Kd.R_reads' H7.out).2.2 HB4.out) (j : Int) (by omega) (by omega)
        subst hA
        rw [Int.toNat_natCast] at hp0 hp1 hp2 hp3
        have hvj := HVJ.out t j HTL.out hlt
        obtain ⟨p, hp⟩ : ∃ p, p = rd_T41 PS (j : Int) := ⟨_, rfl⟩
        rw [← hp] at hp0 hp1 hp2 hp3 hvj
        have HVJ2 := Aside0.mk hvj
        clear hp hvj
        go_upto_region 13 with (fail)
        clear hlt
        have h12 : (w4.alloc (.cells #[.int .i64 p.f0, .int .i64 p.f1, .int .i64 p.f2, .int .i64 p.f3] 41)).heap[w4.heap.size]? = some (.cells #[.int .i64 p.f0, .int .i64 p.f1, .int .i64 p.f2, .int .i64 p.f3] 41) := alloc_atR _ rfl
        have H12 := Aside0.mk h12
        have HBY := Aside0.mk (below_alloc HBX.out (.cells #[.int .i64 p.f0, .int .i64 p.f1, .int .i64 p.f2, .int .i64 p.f3] 41))
        have HVY := Aside0.mk (Kd.V_alloc HVX.out (.cells #[.int .i64 p.f0, .int .i64 p.f1, .int .i64 p.f2, .int .i64 p.f3] 41))
        clear h12 hp0 hp1 hp2 hp3
        generalize w4.alloc (.cells #[.int .i64 p.f0, .int .i64 p.f1, .int .i64 p.f2, .int .i64 p.f3] 41) = w5 at H12 HBY HVY ⊢
        generalize w4.heap.size = g12 at H12 ⊢
        clear HBX HVX HB4
        have hc0 : w5.cell? ⟨g12, 0, none⟩ = some (.int .i64 p.f0) := (blk_cell H12.out 0).trans rfl
        obtain ⟨Av, cv, hav⟩ := Kd.V_slice HVY.out
        subst hav
        by_cases hpt : p.f0 = (t : Int)
        rotate_left
        · have HVN := Aside0.mk (HVJ2.out.2 hpt)
          have k4 : decide (p.f0 = (t : Int)) = false := decide_eq_false hpt
          have hpt' : ((p.f0 : Int) == (t : Int)) = false := beq_eq_false_iff_ne.2 hpt
          go_wp2
          go_roundw
          case rel => exact ⟨j + 1, by rw [HW3.out]; go_num, ⟨by have := HJL.out; omega⟩, HBY, ⟨by rw [HVN.out]; exact HVY.out⟩⟩
          case measure => rw [HW3.out]; have := HJL.out; simp [intOf]; omega
        · obtain ⟨he0, he1, y, z, hy, hz, ha⟩ := HVJ2.out.1 hpt
          obtain ⟨e, he⟩ : ∃ e : Nat, p.f2 = (e : Int) := ⟨p.f2.toNat, by omega⟩
          rw [he] at he0 he1 hy
          obtain ⟨k1_, hk1⟩ := hy.rounds
          obtain ⟨k2_, hk2⟩ := hz.rounds
          obtain ⟨k3_, hk3⟩ := ha.rounds
          have HY := Aside0.mk hk1
          have HZ := Aside0.mk hk2
          have HA := Aside0.mk hk3
          rw [← HU.out] at HY
          clear hy hz ha hk1 hk2 hk3
          have HB5 := Aside0.mk (below_step HBW.out HBY.out)
          obtain ⟨ae, E0, e0, E1, e1, hA, hx0, hx1, hl0, hCe0, hl1, hCe1⟩ := at_T46 (Kd.C_below HE2.out HB5.out) (e : Int) he0 he1
          subst hA
          rw [Int.toNat_natCast] at hx0 hx1
          obtain ⟨ex, hex⟩ : ∃ ex, ex = rd_T46 x.f1 (e : Int) := ⟨_, rfl⟩
          rw [← hex] at hx0 hx1 hl0 hCe0 hl1 hCe1 HY
          have HE0 := Aside0.mk hCe0
          have HE1 := Aside0.mk hCe1
          have HLE0 := Aside0.mk hl0
          have HLE1 := Aside0.mk hl1
          clear hex hl0 hCe0 hl1 hCe1
          have hb1 : w5.cell? ⟨g6, 1, none⟩ = some (.slice (some ae) x.f1.length d1) := pw_cell_below HB5.out ((blk_cell H6b.out 1).trans rfl)
          have hc2 : w5.cell? ⟨g12, 2, none⟩ = some (.int .i64 (e : Int)) := by rw [← he]; exact (blk_cell H12.out 2).trans rfl
          have hc3 : w5.cell? ⟨g12, 3, none⟩ = some (.int .i64 p.f3) := (blk_cell H12.out 3).trans rfl
          have hxt : w5.cell? (at_.add t) = some (.slice Bt u.length dt) := pw_cell_below HBY.out HXT.out
          have k4 : decide (p.f0 = (t : Int)) = true := decide_eq_true hpt
          have htl := HTL.out
          go_upto_region 14 with (fail)
          have HS0 := Aside0.mk hb1
          have HS1 := Aside0.mk hc2
          have HS2 := Aside0.mk hc3
          have HS3 := Aside0.mk hxt
          have HS4 := Aside0.mk hx0
          have HS5 := Aside0.mk hx1
          have HZ5 := Aside0.mk (Below.refl w5.heap.size w5)
          clear hb1 hc2 hc3 hxt hx0 hx1
          refine start_ (n := 17) (S := fun W => W.cell? ⟨g6, 1, none⟩ = some (.slice (some ae) x.f1.length d1) ∧ W.cell? ⟨g12, 2, none⟩ = some (.int .i64 (e : Int)) ∧ W.cell? ⟨g12, 3, none⟩ = some (.int .i64 p.f3) ∧ W.cell? (at_.add t) = some (.slice Bt u.length dt) ∧ W.cell? (ae.add (e * 2)) = some (.slice E0 ex.f0.length e0) ∧ W.cell? ⟨(ae.add (e * 2)).block, (ae.add (e * 2)).off + 1, none⟩ = some (.slice E1 ex.f1.length e1)) (ds := []) #[false, false, false, false, false, false, false, false, false, false, false, false, false, false, false, false, false] (by kernel_rfl) rfl rfl ⟨pw_cell_below (below_drew (Below.refl w5.heap.size w5)) HS0.out, pw_cell_below (below_drew (Below.refl w5.heap.size w5)) HS1.out, pw_cell_below (below_drew (Below.refl w5.heap.size w5)) HS2.out, pw_cell_below (below_drew (Below.refl w5.heap.size w5)) HS3.out, pw_cell_below (below_drew (Below.refl w5.heap.size w5)) HS4.out, pw_cell_below (below_drew (Below.refl w5.heap.size w5)) HS5.out⟩ (fun hHeld => ?_)
          have HB6 := Aside0.mk (below_drew (Below.refl w5.heap.size w5))
          generalize w5.drew = w6 at HB6 hHeld ⊢
          refine pure_ (i := 0) (N := some 43) (v := ?_) (a' := ?_) #[true, false, false, false, false, false, false, false, false, false, false, false, false, false, false, false, false] rfl rfl (any_of rfl (by kernel_rfl)) (fun _ _ _ h => h) (Or.inl ⟨by rfl, ?_⟩) ?_ ?_
          rotate_left
          · intro w'
            go_simp
            with_reducible rfl
          rotate_left
          · simp only [Act.put, List.setIfInBounds_toArray, List.set_cons_zero, List.set_cons_succ, i64_w, i32_w]
            rfl
          refine pure_ (i := 1) (N := some 44) (v := ?_) (a' := ?_) #[true, true, false, false, false, false, false, false, false, false, false, false, false, false, false, false, false] rfl rfl (any_of rfl (by kernel_rfl)) (fun _ _ _ h => h) (Or.inl ⟨by rfl, ?_⟩) ?_ ?_
          rotate_left
          · intro w'
            go_simp
            with_reducible rfl
          rotate_left
          · simp only [Act.put, List.setIfInBounds_toArray, List.set_cons_zero, List.set_cons_succ, i64_w, i32_w]
            rfl
          refine take_ (i := 2) (N := some 45) (v := ?_) (a' := ?_) #[true, true, true, false, false, false, false, false, false, false, false, false, false, false, false, false, false] rfl rfl (take_of rfl (by kernel_rfl)) (fun _ _ _ h => h) (Or.inl ⟨by rfl, ?_⟩) hHeld ?_ ?_
          rotate_left
          · rintro w' ⟨s0, s1, s2, s3, s4, s5⟩
            go_simp
            with_reducible rfl
          rotate_left
          · simp only [Act.put, List.setIfInBounds_toArray, List.set_cons_zero, List.set_cons_succ, i64_w, i32_w]
            rfl
          refine pure_ (i := 3) (N := some 46) (v := ?_) (a' := ?_) #[true, true, true, true, false, false, false, false, false, false, false, false, false, false, false, false, false] rfl rfl (any_of rfl (by kernel_rfl)) (fun _ _ _ h => h) (Or.inl ⟨by rfl, ?_⟩) ?_ ?_
          rotate_left
          · intro w'
            go_simp
            with_reducible rfl
          rotate_left
          · simp only [Act.put, List.setIfInBounds_toArray, List.set_cons_zero, List.set_cons_succ, i64_w, i32_w]
            rfl
          refine take_ (i := 4) (N := some 47) (v := ?_) (a' := ?_) #[true, true, true, true, true, false, false, false, false, false, false, false, false, false, false, false, false] rfl rfl (take_of rfl (by kernel_rfl)) (fun _ _ _ h => h) (Or.inl ⟨by rfl, ?_⟩) hHeld ?_ ?_
          rotate_left
          · rintro w' ⟨s0, s1, s2, s3, s4, s5⟩
            go_simp
            with_reducible rfl
          rotate_left
          · simp only [Act.put, List.setIfInBounds_toArray, List.set_cons_zero, List.set_cons_succ, i64_w, i32_w]
            rfl
          refine pure_ (i := 5) (N := some 48) (v := ?_) (a' := ?_) #[true, true, true, true, true, true, false, false, false, false, false, false, false, false, false, false, false] rfl rfl (any_of rfl (by kernel_rfl)) (fun _ _ _ h => h) (Or.inl ⟨by rfl, ?_⟩) ?_ ?_
          rotate_left
          · intro w'
            go_simp
            with_reducible rfl
          rotate_left
          · simp only [Act.put, List.setIfInBounds_toArray, List.set_cons_zero, List.set_cons_succ, i64_w, i32_w]
            rfl
          refine take_ (i := 6) (N := some 49) (v := ?_) (a' := ?_) #[true, true, true, true, true, true, true, false, false, false, false, false, false, false, false, false, false] rfl rfl (take_of rfl (by kernel_rfl)) (fun _ _ _ h => h) (Or.inl ⟨by rfl, ?_⟩) hHeld ?_ ?_
          rotate_left
          · rintro w' ⟨s0, s1, s2, s3, s4, s5⟩
            go_simp
            with_reducible rfl
          rotate_left
          · simp only [Act.put, List.setIfInBounds_toArray, List.set_cons_zero, List.set_cons_succ, i64_w, i32_w]
            rfl
          refine pure_ (i := 7) (N := some 50) (v := ?_) (a' := ?_) #[true, true, true, true, true, true, true, true, false, false, false, false, false, false, false, false, false] rfl rfl (any_of rfl (by kernel_rfl)) (fun _ _ _ h => h) (Or.inl ⟨by rfl, ?_⟩) ?_ ?_
          rotate_left
          · intro w'
            go_simp
            with_reducible rfl
          rotate_left
          · simp only [Act.put, List.setIfInBounds_toArray, List.set_cons_zero, List.set_cons_succ, i64_w, i32_w]
            rfl
          refine pure_ (i := 8) (N := some 51) (v := ?_) (a' := ?_) #[true, true, true, true, true, true, true, true, true, false, false, false, false, false, false, false, false] rfl rfl (any_of rfl (by kernel_rfl)) (fun _ _ _ h => h) (Or.inl ⟨by rfl, ?_⟩) ?_ ?_
          rotate_left
          · intro w'
            go_simp
            with_reducible rfl
          rotate_left
          · simp only [Act.put, List.setIfInBounds_toArray, List.set_cons_zero, List.set_cons_succ, i64_w, i32_w]
            rfl
          refine pure_ (i := 9) (N := some 52) (v := ?_) (a' := ?_) #[true, true, true, true, true, true, true, true, true, true, false, false, false, false, false, false, false] rfl rfl (any_of rfl (by kernel_rfl)) (fun _ _ _ h => h) (Or.inl ⟨by rfl, ?_⟩) ?_ ?_
          rotate_left
          · intro w'
            go_simp
            with_reducible rfl
          rotate_left
          · simp only [Act.put, List.setIfInBounds_toArray, List.set_cons_zero, List.set_cons_succ, i64_w, i32_w]
            rfl
          refine take_ (i := 10) (N := some 53) (v := ?_) (a' := ?_) #[true, true, true, true, true, true, true, true, true, true, true, false, false, false, false, false, false] rfl rfl (take_of rfl (by kernel_rfl)) (fun _ _ _ h => h) (Or.inl ⟨by rfl, ?_⟩) hHeld ?_ ?_
          rotate_left
          · rintro w' ⟨s0, s1, s2, s3, s4, s5⟩
            go_simp
            with_reducible rfl
          rotate_left
          · simp only [Act.put, List.setIfInBounds_toArray, List.set_cons_zero, List.set_cons_succ, i64_w, i32_w]
            rfl
          refine pure_ (i := 12) (N := some 55) (v := ?_) (a' := ?_) #[true, true, true, true, true, true, true, true, true, true, true, false, true, false, false, false, false] rfl rfl (any_of rfl (by kernel_rfl)) (fun _ _ _ h => h) (Or.inl ⟨by rfl, ?_⟩) ?_ ?_
          rotate_left
          · intro w'
            go_simp
            with_reducible rfl
          rotate_left
          · simp only [Act.put, List.setIfInBounds_toArray, List.set_cons_zero, List.set_cons_succ, i64_w, i32_w]
            rfl
          refine take_ (i := 13) (N := some 56) (v := ?_) (a' := ?_) #[true, true, true, true, true, true, true, true, true, true, true, false, true, true, false, false, false] rfl rfl (take_of rfl (by kernel_rfl)) (fun _ _ _ h => h) (Or.inl ⟨by rfl, ?_⟩) hHeld ?_ ?_
          rotate_left
          · rintro w' ⟨s0, s1, s2, s3, s4, s5⟩
            go_simp
            with_reducible rfl
          rotate_left
          · simp only [Act.put, List.setIfInBounds_toArray, List.set_cons_zero, List.set_cons_succ, i64_w, i32_w]
            rfl
          clear hHeld
          refine one_ (i := 11) (N := some 54) #[true, true, true, true, true, true, true, true, true, true, true, true, true, true, false, false, false] rfl rfl (one_of rfl (by kernel_rfl)) (by decide) (fun K hK => ?_)
          have R_ := switchboardref11_Run.calls k1_ E0 e0 ex.f0 E1 e1 ex.f1 Bt dt u y w6 (Kd.C_below HE0.out HB6.out) HLE0.out (Kd.C_below HE1.out HB6.out) HLE1.out (Kd.V_reads' (Kd.V_below HVI.out (below_step HBY.out HB6.out))).2.2 HLT.out HY.out
          refine goes_ Try.func40 (by kernel_rfl) rfl #[.agg #[.slice E0 ex.f0.length e0, .slice E1 ex.f1.length e1], .slice Bt u.length dt] (by rfl) rfl rfl (by (try simp only [List.map_toArray, List.map_cons, List.map_nil]); first | done | rfl) ?_
          refine R_.mono ?_
          clear R_
          rintro e_ w7 ⟨v_, rfl, ho, hb⟩
          obtain ⟨Ay, cy, rfl⟩ := Kd.R_slice ho
          have HRY := Aside0.mk ho
          have HB7 := Aside0.mk (below_step HB6.out hb)
          clear ho hb
          refine ⟨_, rfl, ?_⟩
          refine hK.out _ _ ⟨pw_cell_below HB7.out HS0.out, pw_cell_below HB7.out HS1.out, pw_cell_below HB7.out HS2.out, pw_cell_below HB7.out HS3.out, pw_cell_below HB7.out HS4.out, pw_cell_below HB7.out HS5.out⟩ (fun hHeld => ?_)
          clear hK K
          refine norm_ (a' := ?_) ?_ ?_
          rotate_left
          · show Act.put _ (some 54) _ = _
            simp only [Act.put, List.setIfInBounds_toArray, List.set_cons_zero, List.set_cons_succ, i64_w, i32_w]
            rfl
          clear hHeld
          refine one_ (i := 14) (N := some 57) #[true, true, true, true, true, true, true, true, true, true, true, true, true, true, true, false, false] rfl rfl (one_of rfl (by kernel_rfl)) (by decide) (fun K hK => ?_)
          have R_ := switchboardref02_Scale.calls k2_ Ay cy y p.f3 z w7 (Kd.R_reads' HRY.out).2.2 (Kd.R_reads' HRY.out).2.1 HZ.out
          refine goes_ Try.func39 (by kernel_rfl) rfl #[.slice Ay y.length cy, .int .i64 p.f3] (by rfl) rfl rfl (by (try simp only [List.map_toArray, List.map_cons, List.map_nil]); first | done | rfl) ?_
          refine R_.mono ?_
          clear R_
          rintro e_ w8 ⟨v_, rfl, ho, hb⟩
          obtain ⟨Az, cz, rfl⟩ := Kd.R_slice ho
          have HRZ := Aside0.mk ho
          have HB8 := Aside0.mk (below_step HB7.out hb)
          clear ho hb
          refine ⟨_, rfl, ?_⟩
          refine hK.out _ _ ⟨pw_cell_below HB8.out HS0.out, pw_cell_below HB8.out HS1.out, pw_cell_below HB8.out HS2.out, pw_cell_below HB8.out HS3.out, pw_cell_below HB8.out HS4.out, pw_cell_below HB8.out HS5.out⟩ (fun hHeld => ?_)
          clear hK K
          refine norm_ (a' := ?_) ?_ ?_
          rotate_left
          · show Act.put _ (some 57) _ = _
            simp only [Act.put, List.setIfInBounds_toArray, List.set_cons_zero, List.set_cons_succ, i64_w, i32_w]
            rfl
          clear hHeld
          refine one_ (i := 15) (N := some 58) #[true, true, true, true, true, true, true, true, true, true, true, true, true, true, true, true, false] rfl rfl (one_of rfl (by kernel_rfl)) (by decide) (fun K hK => ?_)
          have R_ := switchboardref02_Add.calls k3_ Av cv (V t j) Az cz z (V t (j + 1)) w8 (Kd.V_reads' (Kd.V_below HVY.out HB8.out)).2.2 (Kd.V_reads' HVY.out).2.1 (Kd.R_reads' HRZ.out).2.2 (Kd.R_reads' HRZ.out).2.1 HA.out
          refine goes_ Try.func38 (by kernel_rfl) rfl #[.slice Av (V t j).length cv, .slice Az z.length cz] (by rfl) rfl rfl (by (try simp only [List.map_toArray, List.map_cons, List.map_nil]); first | done | rfl) ?_
          refine R_.mono ?_
          clear R_
          rintro e_ w9 ⟨v_, rfl, ho, hb⟩
          have HRA := Aside0.mk ho
          have HB9 := Aside0.mk (below_step HB8.out hb)
          clear ho hb
          refine ⟨_, rfl, ?_⟩
          refine hK.out _ _ ⟨pw_cell_below HB9.out HS0.out, pw_cell_below HB9.out HS1.out, pw_cell_below HB9.out HS2.out, pw_cell_below HB9.out HS3.out, pw_cell_below HB9.out HS4.out, pw_cell_below HB9.out HS5.out⟩ (fun hHeld => ?_)
          clear hK K
          refine norm_ (a' := ?_) ?_ ?_
          rotate_left
          · show Act.put _ (some 58) _ = _
            simp only [Act.put, List.setIfInBounds_toArray, List.set_cons_zero, List.set_cons_succ, i64_w, i32_w]
            rfl
          refine pure_ (i := 16) (N := some 10) (v := ?_) (a' := ?_) #[true, true, true, true, true, true, true, true, true, true, true, true, true, true, true, true, true] rfl rfl (any_of rfl (by kernel_rfl)) (fun _ _ _ h => h) (Or.inl ⟨by rfl, ?_⟩) ?_ ?_
          rotate_left
          · intro w'
            go_simp
            with_reducible rfl
          rotate_left
          · simp only [Act.put, List.setIfInBounds_toArray, List.set_cons_zero, List.set_cons_succ, i64_w, i32_w]
            rfl
          refine done_ (done_of rfl (by kernel_rfl)) ?_
          have HBF := Aside0.mk (below_step HBY.out HB9.out)
          have HVF := Aside0.mk (V_of_R (base := w3.heap.size) HRA.out (fun k => k < w2.heap.size ∨ w3.heap.size ≤ k) (fun k hk => .inr (Nat.le_trans (Nat.le_trans (below_size HBY.out) (below_size HB8.out)) hk)) (Nat.le_trans (below_size HBY.out) (below_size HB8.out)))
          clear hHeld
          go_wp2
          go_roundw
          case rel => exact ⟨j + 1, by rw [HW3.out]; go_num, ⟨by have := HJL.out; omega⟩, HBF, HVF⟩
          case measure => rw [HW3.out]; have := HJL.out; simp [intOf]; omega


end Go.Proofs.Ytlicglgogklnkaa.Pr
