/- Own text, by hand: walks for HallReplies. -/
import Derived.Test.YtlbkfeelkdombaaDoorPp0
import Derived.Test.YtlbkfeelkdombaaDoorPp1
import Derived.Test.YtlbkfeelkdombaaDoorPp2
import Derived.Test.YtlbkfeelkdombaaDoorPp3
import Derived.Test.YtlbkfeelkdombaaDoorPp4
import Derived.Test.YtlbkfeelkdombaaDoorPp5
import Derived.Test.YtlbkfeelkdombaaDoorPp6
import Derived.Test.YtlbkfeelkdombaaDoorPp7
namespace Go.Proofs.YtlbkfeelkdombaaDoor.Pp
open Go.RowKit Go.Proofs.YtlbkfeelkdombaaDoorW.PrintWords Go.Proofs.YtlbkfeelkdombaaDoorW.PrintLast Go.Proofs.YtlbkfeelkdombaaDoorW.PrintMore
attribute [local go_sem] max2_int min2_int max_two min_two max_three min_three max_four min_four
set_option linter.unusedVariables false
set_option linter.unusedSimpArgs false

def switchboardlaw24_HallReplies.f (k : Nat) (l0_0 : List S44) (a1 : Int) (l2 : List (List Int)) : Option Bool := some true
/-- Variables of one cell in memory: block, value, type. -/
structure PW (w W : World) (bs : List (Nat × Value × Nat)) : Prop where
  hb : Below w.heap.size w W
  box : ∀ g v t, (g, v, t) ∈ bs → W.heap[g]? = some (.cells #[v] t (0, 0))
theorem PW.below {w W W' : World} {bs : List (Nat × Value × Nat)} (h : PW w W bs) (hb : Below W.heap.size W W') : PW w W' bs := ⟨below_step h.hb hb, fun g v t hm => blk_below (h.box g v t hm) hb⟩
theorem PW.add {w W : World} {bs : List (Nat × Value × Nat)} (h : PW w W bs) (v : Value) (t : Nat) : PW w (W.alloc (.cells #[v] t)) ((W.heap.size, v, t) :: bs) := ⟨below_alloc h.hb _, fun g u s hm => by
  rcases List.mem_cons.1 hm with he | hm
  · injection he with h1 h2
    injection h2 with h2 h3
    subst h1 h2 h3
    exact alloc_at _ rfl
  · exact blk_alloc (h.box g u s hm) _⟩
theorem PW.at_ {w W : World} {bs : List (Nat × Value × Nat)} (h : PW w W bs) {g : Nat} {v : Value} {t : Nat} (hm : (g, v, t) ∈ bs) : W.cell? ⟨g, 0, none⟩ = some v := (blk_cell (h.box g v t hm) 0).trans rfl
theorem open_le (l : List S44) : (openOf l).length ≤ l.length := by
  unfold openOf
  rw [List.length_map]
  exact List.length_filter_le _ _
theorem mem0 {α : Type} {a : α} {l : List α} : a ∈ a :: l := List.mem_cons_self
theorem mem1 {α : Type} {a b : α} {l : List α} : a ∈ b :: a :: l := List.mem_cons_of_mem _ List.mem_cons_self
theorem mem2 {α : Type} {a b c : α} {l : List α} : a ∈ b :: c :: a :: l := List.mem_cons_of_mem _ mem1
theorem mem3 {α : Type} {a b c d : α} {l : List α} : a ∈ b :: c :: d :: a :: l := List.mem_cons_of_mem _ mem2
theorem mem4 {α : Type} {a b c d e : α} {l : List α} : a ∈ b :: c :: d :: e :: a :: l := List.mem_cons_of_mem _ mem3
set_option maxHeartbeats 8000000 in
set_option maxRecDepth 100000 in
theorem switchboardlaw24_HallReplies.calls (k : Nat) (P0 : Nat → Prop) (A0 : Option Addr) (c0 : Nat) (l : List S44) (a1 : Int) (P2 : Nat → Prop) (A2 : Option Addr) (c2 : Nat) (l2 : List (List Int)) (w : World) (hs0_0 : Kd.V k44 44 w w.heap.size (fun k_ => P0 k_) (.slice A0 l.length c0) l) (hs2 : Kd.V (Kd.slice 3 (Kd.int .i64)) 42 w w.heap.size (fun k_ => P2 k_) (.slice A2 l2.length c2) l2) (h : switchboardlaw24_HallReplies.f k l a1 l2 = some true) :
    Calls Tryd.prog 3 #[.agg #[.slice A0 l.length c0], .int .i64 a1, .slice A2 l2.length c2] w fun e w' => e = .returned (.bool true) ∧ Below w.heap.size w w' := by
  have hu24 := Tryd.underlying24
  have hu28 := Tryd.underlying28
  have hu44 := Tryd.underlying44
  have HV : Aside0 (Kd.V k44 44 w 0 (fun _ => True) (.slice A0 l.length c0) l) := ⟨Kd.V_mono hs0_0 (fun _ _ => trivial)⟩
  have HA : Aside0 (Kd.V (Kd.slice 3 (Kd.int .i64)) 42 w 0 (fun _ => True) (.slice A2 l2.length c2) l2) := ⟨Kd.V_mono hs2 (fun _ _ => trivial)⟩
  clear hs0_0 hs2 h
  have HL0 : Aside0 (PW w (w.alloc (.cells #[.slice A0 l.length c0] 24)) [(w.heap.size, .slice A0 l.length c0, 24)]) := ⟨⟨below_alloc (Below.refl _ _) _, fun g v t hm => by rw [List.mem_singleton] at hm; injection hm with h1 h2; injection h2 with h2 h3; subst h1 h2 h3; exact alloc_at _ rfl⟩⟩
  go_enter Tryd.func3, Tryd.ntmps3
  go_upto_region 2 with (go_at_call 7; refine (ref_calls A0 c0 l _ (Kd.V_alloc HV.out _)).mono ?_; rintro e w1 ⟨vx, b, rfl, hb, ⟨Ax, nx, cx, rfl⟩, hy, hn⟩; have HY := Aside0.mk hy; have HL1 := Aside0.mk (HL0.out.below hb); clear hb hy hn)
  have HL2 := Aside0.mk (HL1.out.add (.slice Ax nx cx) 28)
  have HB12 := Aside0.mk (below_alloc (Below.refl w1.heap.size w1) (.cells #[.slice Ax nx cx] 28))
  generalize w1.alloc (.cells #[.slice Ax nx cx] 28) = w2 at HL2 HB12 ⊢
  skip
  cases b
  case false =>
    clear HY HB12
    go_wp2_with (go_at_call 9; refine (switchboardlaw24_awake.calls true _ rfl).mono ?_; rintro e w9 ⟨rfl, hb⟩; have HB9 := Aside0.mk (below_step HL2.out.hb hb); clear hb)
    go_ret
    exact ⟨rfl, HB9.out⟩
  obtain ⟨⟨h30, hs⟩, hvx⟩ := HY.out rfl
  clear HY
  obtain ⟨lx, hlx⟩ : ∃ lx, lx = l.map conv := ⟨_, rfl⟩
  rw [← hlx] at hvx
  obtain ⟨hnx, _, _⟩ := Kd.V_reads' hvx
  subst hnx
  have HVX := Aside0.mk (Kd.V_below hvx HB12.out)
  have H30 := Aside0.mk h30
  have HS := Aside0.mk hs
  have HLX := Aside0.mk hlx
  clear hvx h30 hs hlx HB12 HL1
  obtain ⟨b2, e2, q2⟩ := small_ev l2
  obtain ⟨m2, e2⟩ := e2.rounds
  have S2 := Aside0.mk e2
  clear e2 q2
  cases b2
  case false =>
    go_wp2_with (first | (go_at_call 8; (with_reducible refine (switchboardref03_Small.calls m2 A2 c2 l2 false _ (Kd.V_reads' (Kd.V_below HA.out HL2.out.hb)).2.2 (Kd.V_reads' HA.out).2.1 S2.out).mono ?_); rintro e w3 ⟨rfl, hd⟩; have HB3 := Aside0.mk (below_step HL2.out.hb hd.below); clear hd) | (go_at_call 9; refine (switchboardlaw24_awake.calls true _ rfl).mono ?_; rintro e w9 ⟨rfl, hb⟩; have HB9 := Aside0.mk (below_step HB3.out hb); clear hb))
    go_ret
    exact ⟨rfl, HB9.out⟩
  obtain ⟨r, e0, kF, hF, hG, hr30, hrs⟩ := finish_both H30.out HS.out a1 (t := l2) ⟨m2, S2.out⟩
  obtain ⟨q, e1, kR, hP, hQ, hq1, hq2⟩ := reply_both H30.out HS.out a1
  obtain ⟨ry, hry⟩ : ∃ ry, ry = r.map conv := ⟨_, rfl⟩
  rw [← HLX.out, ← hry] at hG
  rw [← HLX.out] at hQ
  obtain ⟨kO, hO⟩ := (open_ev l (by have := H30.out; omega)).rounds
  obtain ⟨kS, hS⟩ := (same2_ev (a := openOf l) rfl (by have h1 := H30.out; have h2 := open_le l; omega)).rounds
  obtain ⟨kT, hT⟩ := (same15 (a := q) rfl hq1 hq2).rounds
  have HF := Aside0.mk hF
  have HG := Aside0.mk hG
  have HR3 : Aside0 (r.length ≤ 30 ∧ ∀ x ∈ r, SmallE x.f1 ∧ SmallE x.f3) := ⟨⟨hr30, hrs⟩⟩
  have HP := Aside0.mk hP
  have HQ := Aside0.mk hQ
  have HRY := Aside0.mk hry
  have HO := Aside0.mk hO
  have HSS := Aside0.mk hS
  have HT := Aside0.mk hT
  clear hF hG hr30 hrs hP hQ hq1 hq2 hry hO hS hT
  go_upto_region 4 with (go_at_call 8; (with_reducible refine (switchboardref03_Small.calls m2 A2 c2 l2 true _ (Kd.V_reads' (Kd.V_below HA.out HL2.out.hb)).2.2 (Kd.V_reads' HA.out).2.1 S2.out).mono ?_); rintro e w3 ⟨rfl, hd⟩; have HL3 := Aside0.mk (HL2.out.below hd.below); have HVX3 := Aside0.mk (Kd.V_below HVX.out hd.below); clear hd)
  clear HL2 HVX
  have hc3 := HL3.out.at_ mem1
  go_upto_region 5 with (go_at_call 10; (with_reducible refine (hall_Finish.calls (fun _ => True) A0 c0 l a1 (fun _ => True) A2 c2 l2 r e0 _ (Kd.V_below HV.out HL3.out.hb) (Kd.V_below HA.out HL3.out.hb) HF.out).mono ?_); rintro e w4 ⟨vk, rfl, hv, hb⟩; obtain ⟨Ak, ck, rfl⟩ := Kd.V_slice hv; have HVK := Aside0.mk (Kd.V_mono (ok' := fun _ => True) hv (fun _ _ => trivial)); have HL4 := Aside0.mk (HL3.out.below hb); have HVX4 := Aside0.mk (Kd.V_below HVX3.out hb); clear hv hb hc3)
  have HL5 := Aside0.mk (HL4.out.add (.slice Ak r.length ck) 24)
  have HVK5 := Aside0.mk (Kd.V_alloc HVK.out (.cells #[.slice Ak r.length ck] 24))
  have HVX5 := Aside0.mk (Kd.V_alloc HVX4.out (.cells #[.slice Ak r.length ck] 24))
  generalize w4.alloc (.cells #[.slice Ak r.length ck] 24) = w5 at HL5 HVK5 HVX5 ⊢
  generalize w4.heap.size = gk at HL5 ⊢
  clear HL4 HVK HVX4
  clear HL3 HVX3
  have hc5 := HL5.out.at_ mem0
  go_upto_region 6 with (go_at_call 7; refine (ref_calls Ak ck r _ HVK5.out).mono ?_; rintro e w6 ⟨vy, b, rfl, hb, ⟨Ay, ny, cy, rfl⟩, hy, hn⟩; obtain rfl : b = true := (by cases b; exact absurd HR3.out (hn rfl); rfl); obtain ⟨_, hvy⟩ := hy rfl; rw [← HRY.out] at hvy; obtain ⟨hny, _, _⟩ := Kd.V_reads' hvy; subst hny; have HVY := Aside0.mk hvy; have HL6 := Aside0.mk (HL5.out.below hb); have HVX6 := Aside0.mk (Kd.V_below HVX5.out hb); clear hb hy hn hvy hc5)
  have HL7 := Aside0.mk (HL6.out.add (.slice Ay ry.length cy) 28)
  have HVY7 := Aside0.mk (Kd.V_alloc HVY.out (.cells #[.slice Ay ry.length cy] 28))
  have HVX7 := Aside0.mk (Kd.V_alloc HVX6.out (.cells #[.slice Ay ry.length cy] 28))
  generalize w6.alloc (.cells #[.slice Ay ry.length cy] 28) = w7 at HL7 HVY7 HVX7 ⊢
  generalize w6.heap.size = gy at HL7 ⊢
  clear HL6 HVY HVX6
  clear HL5 HVX5 HVK5
  have hc7 := HL7.out.at_ mem2
  go_upto_region 7 with (go_at_call 11; (with_reducible refine (switchboardref24_Finish.calls kF (fun _ => True) Ax cx lx a1 (fun _ => True) A2 c2 l2 ry e0 _ HVX7.out (Kd.V_below HA.out HL7.out.hb) HG.out).mono ?_); rintro e w8 ⟨vz, rfl, hv, hb⟩; obtain ⟨Az, cz, rfl⟩ := Kd.V_slice hv; have HVZ := Aside0.mk (Kd.V_mono (ok' := fun _ => True) hv (fun _ _ => trivial)); have HL8 := Aside0.mk (HL7.out.below hb); have HVY8 := Aside0.mk (Kd.V_below HVY7.out hb); have HVX8 := Aside0.mk (Kd.V_below HVX7.out hb); clear hv hb hc7)
  have HL10 := Aside0.mk (HL8.out.add (.slice Az ry.length cz) 28)
  have HVZ10 := Aside0.mk (Kd.V_alloc HVZ.out (.cells #[.slice Az ry.length cz] 28))
  have HVY10 := Aside0.mk (Kd.V_alloc HVY8.out (.cells #[.slice Az ry.length cz] 28))
  have HVX10 := Aside0.mk (Kd.V_alloc HVX8.out (.cells #[.slice Az ry.length cz] 28))
  generalize w8.alloc (.cells #[.slice Az ry.length cz] 28) = w10 at HL10 HVZ10 HVY10 HVX10 ⊢
  generalize w8.heap.size = gz at HL10 ⊢
  clear HL8 HVZ HVY8 HVX8
  clear HL7 HVY7 HVX7
  have hc10 := HL10.out.at_ mem4
  go_upto_region 8 with (go_at_call 12; (with_reducible refine (hall_Reply.calls (fun _ => True) A0 c0 l a1 q e1 _ (Kd.V_below HV.out HL10.out.hb) HP.out).mono ?_); rintro e w11 ⟨vq, rfl, hv, hb⟩; have hv2 := Kd.N_V (base' := 0) hv; obtain ⟨Aq, cq, rfl⟩ := Kd.V_slice hv2; have HVQ := Aside0.mk hv2; have HL11 := Aside0.mk (HL10.out.below hb); have HVY11 := Aside0.mk (Kd.V_below HVY10.out hb); have HVZ11 := Aside0.mk (Kd.V_below HVZ10.out hb); have HVX11 := Aside0.mk (Kd.V_below HVX10.out hb); clear hv hv2 hb hc10)
  clear HL10 HVY10 HVZ10 HVX10
  have hc11 := HL11.out.at_ mem3
  go_upto_region 9 with (go_at_call 13; (with_reducible refine (switchboardref24_Reply.calls kR (fun _ => True) Ax cx lx a1 q e1 _ HVX11.out HQ.out).mono ?_); rintro e w12 ⟨vp, rfl, hv, hb⟩; obtain ⟨Ap, cp, rfl⟩ := Kd.V_slice hv; have HVP := Aside0.mk hv; have HL12 := Aside0.mk (HL11.out.below hb); have HVY12 := Aside0.mk (Kd.V_below HVY11.out hb); have HVZ12 := Aside0.mk (Kd.V_below HVZ11.out hb); have HVQ12 := Aside0.mk (Kd.V_below HVQ.out hb); clear hv hb hc11)
  clear HL11 HVY11 HVZ11 HVX11 HVQ
  have hc12 := HL12.out.at_ mem4
  have HC12 := Aside0.mk (Kd.V_reads' (Kd.V_below HV.out HL12.out.hb)).2.2
  go_wp2
  go_loopw [19, 69] (fun v19 v69 W => ∃ (i : Nat) (xs : List Int), v69 = .int .i64 (i : Int) ∧ Aside0 (i ≤ l.length) ∧ Aside0 (xs = openOf (l.take i)) ∧ Aside0 (Below w12.heap.size w12 W) ∧ Aside0 (Kd.R (Kd.int .i64) 3 W w12.heap.size (fun _ => True) v19 xs)) (fun _ v69 _ => l.length - (intOf v69).toNat)
  case atStart => exact ⟨0, [], rfl, ⟨by omega⟩, ⟨rfl⟩, ⟨Below.refl _ _⟩, ⟨Kd.R_nil _ _ _ _ _⟩⟩
  case round =>
    clear hc12
    obtain ⟨i, xs, rfl, HI, HXS, HBW, HRW⟩ := hrel
    by_cases hlt : i < l.length
    case neg =>
      have k1 : decide ((i : Int) < (l.length : Int)) = false := decide_eq_false (by omega)
      have k1n : decide (i < l.length) = false := decide_eq_false hlt
      have hxs : xs = openOf l := by rw [HXS.out, List.take_of_length_le (by omega)]
      subst hxs
      obtain ⟨Ao, co, rfl⟩ := Kd.R_slice HRW.out
      clear hlt
      have HLW := Aside0.mk (HL12.out.below HBW.out)
      have hc3 := HLW.out.at_ mem4
      have hcy := HLW.out.at_ mem1
      have hcz := HLW.out.at_ mem0
      have HRYL : Aside0 (ry.length ≤ 30 ∧ ∀ x ∈ ry, (x.f1.length ≤ 30 ∧ ∀ r ∈ x.f1, r.length ≤ 30) ∧ (x.f3.length ≤ 30 ∧ ∀ r ∈ x.f3, r.length ≤ 30)) := ⟨⟨by rw [HRY.out, List.length_map]; exact HR3.out.1, fun x hx => by rw [HRY.out] at hx; obtain ⟨z, hz, rfl⟩ := List.mem_map.1 hx; exact ⟨(HR3.out.2 z hz).1.few, (HR3.out.2 z hz).2.few⟩⟩⟩
      go_wp2_with (first | (go_at_call 14; (with_reducible refine (same24_calls Ay cy Az cz ry _ HRYL.out.1 HRYL.out.2 (Kd.V_reads' (Kd.V_below HVY12.out HBW.out)).2.2 (Kd.V_reads' (Kd.V_below HVZ12.out HBW.out)).2.2).mono ?_); rintro e w13 ⟨rfl, hb⟩; have HB13 := Aside0.mk (below_step HBW.out hb); have hc4 : w13.cell? ⟨w.heap.size, 0, none⟩ = some (.slice A0 l.length c0) := (hb.cell (World.block_lt_of_cell? _ _ hc3)).trans hc3; have HR13 := Aside0.mk (Kd.R_below HRW.out hb); clear hb hc3 hcy hcz) | (go_at_call 15; (with_reducible refine (switchboardref15_Same.calls kT Aq cq q Ap cp q true _ (Kd.V_reads' (Kd.V_below HVQ12.out HB13.out)).2.2 (Kd.V_reads' HVQ12.out).2.1 (Kd.V_reads' (Kd.V_below HVP.out HB13.out)).2.2 (Kd.V_reads' HVP.out).2.1 HT.out).mono ?_); rintro e w14 ⟨rfl, hd⟩; have HB14 := Aside0.mk (below_step HB13.out hd.below); have hc5 : w14.cell? ⟨w.heap.size, 0, none⟩ = some (.slice A0 l.length c0) := (hd.below.cell (World.block_lt_of_cell? _ _ hc4)).trans hc4; have HR14 := Aside0.mk (Kd.R_below HR13.out hd.below); clear hd hc4) | (go_at_call 17; (with_reducible refine (hall_Open.calls kO A0 c0 l (openOf l) _ (Kd.C_below HC12.out HB14.out) (Kd.V_reads' HV.out).2.1 HO.out).mono ?_); rintro e w15 ⟨vo, rfl, ho, hb⟩; obtain ⟨Av, cv, rfl⟩ := Kd.R_slice ho; have HO15 := Aside0.mk ho; have HB15 := Aside0.mk (below_step HB14.out hb); have HR15 := Aside0.mk (Kd.R_below HR14.out hb); clear ho hb hc5) | (go_at_call 16; (with_reducible refine (switchboardref02_Same.calls kS Av cv (openOf l) Ao co (openOf l) true _ (Kd.R_reads' HO15.out).2.2 (Kd.R_reads' HO15.out).2.1 (Kd.R_reads' HR15.out).2.2 (Kd.R_reads' HR15.out).2.1 HSS.out).mono ?_); rintro e w16 ⟨rfl, hd⟩; have HB16 := Aside0.mk (below_step HL12.out.hb (below_step HB15.out hd.below)); clear hd) | (go_at_call 9; refine (switchboardlaw24_awake.calls true _ rfl).mono ?_; rintro e w9 ⟨rfl, hb⟩; have HB9 := Aside0.mk (below_step HB16.out hb); clear hb))
      go_ret
      exact ⟨rfl, HB9.out⟩
    have k1 : decide ((i : Int) < (l.length : Int)) = true := decide_eq_true (by omega)
    have k1n : decide (i < l.length) = true := decide_eq_true hlt
    have HW1 : Aside0 (wrap64 ((i : Int) + 1) = (i : Int) + 1) := ⟨wrap_small (by omega) (by have := H30.out; omega)⟩
    obtain ⟨ad, B1, d1, B3, d3, hA, hx0, hx1, hx2, hx3, -, -, -, -⟩ := at_T44 (Kd.C_below HC12.out HBW.out) (i : Int) (by omega) (by omega)
    subst hA
    rw [rd44 hlt] at hx0 hx1 hx2 hx3
    rw [Int.toNat_natCast] at hx0 hx1 hx2 hx3
    have HXI := Aside0.mk (show openOf (l.take (i + 1)) = openOf (l.take i) ++ openOf [l[i]] by rw [List.take_succ_eq_append_getElem hlt]; unfold openOf; rw [List.filter_append, List.map_append])
    have HIL := Aside0.mk hlt
    cases hb2 : l[i].f2
    · have HXN : Aside0 (xs ++ [l[i].f0] = openOf (l.take (i + 1))) := ⟨by rw [HXI.out, HXS.out, open_cons_no hb2]; rfl⟩
      have HXL : Aside0 (xs.length ≤ 30) := ⟨by rw [HXS.out]; have h1 := H30.out; have h2 := open_le (l.take i); rw [List.length_take] at h2; omega⟩
      rw [hb2] at hx2
      clear hb2
      obtain ⟨Aw, cw, rfl⟩ := Kd.R_slice HRW.out
      go_upto_region 14 with (fail)
      have HR1 := Aside0.mk (Kd.R_alloc HRW.out (.cells #[.int .i64 l[i].f0, .slice B1 l[i].f1.length d1, .bool false, .slice B3 l[i].f3.length d3] 44))
      have HB1 := Aside0.mk (below_alloc HBW.out (.cells #[.int .i64 l[i].f0, .slice B1 l[i].f1.length d1, .bool false, .slice B3 l[i].f3.length d3] 44))
      have hy0 : (wr.alloc (.cells #[.int .i64 l[i].f0, .slice B1 l[i].f1.length d1, .bool false, .slice B3 l[i].f3.length d3] 44)).cell? ⟨wr.heap.size, 0, none⟩ = some (.int .i64 l[i].f0) := (blk_cell (alloc_at (.cells #[.int .i64 l[i].f0, .slice B1 l[i].f1.length d1, .bool false, .slice B3 l[i].f3.length d3] 44) rfl) 0).trans rfl
      generalize wr.alloc (.cells #[.int .i64 l[i].f0, .slice B1 l[i].f1.length d1, .bool false, .slice B3 l[i].f3.length d3] 44) = w1 at HR1 HB1 hy0 ⊢
      generalize wr.heap.size = ge at hy0 ⊢
      clear HRW HBW hx0 hx1 hx2 hx3
      go_wp2_with (at_builtin; refine Kd.R_append (Kd.int .i64) (w0 := w12) w12.heap.size rfl (.tmp 76) (.tmp 79) 42 3 (.int .i64 0) 8 rfl Tryd.underlying42 info_int rfl (by decide) (by omega) (.slice Aw xs.length cw) xs (l[i].f0) [.int .i64 l[i].f0] (fun _ => True) (fun _ => False) rfl rfl ?aP (fun _ hk => hk.elim) ?aF ?aO ?aB ?aS ?aL ?_; (case aP => exact rfl); (case aF => exact (fun _ _ => trivial)); (case aO => exact HR1.out); (case aB => exact HB1.out); (case aS => exact below_size HB1.out); (case aL => have := HXL.out; omega); intro v3 w3 ho hb hg hat; have HR3 := Aside0.mk ho; have HB3 := Aside0.mk hb; clear ho hb hg hat hy0)
      go_roundw
      case rel => exact ⟨i + 1, xs ++ [l[i].f0], by rw [HW1.out]; go_num, ⟨by have := HIL.out; omega⟩, HXN, HB3, HR3⟩
      case measure => rw [HW1.out]; have := HIL.out; simp [intOf]; omega
    · have HXN : Aside0 (xs = openOf (l.take (i + 1))) := ⟨by rw [HXI.out, HXS.out, open_cons_yes hb2]; simp [openOf]⟩
      rw [hb2] at hx2
      clear hb2
      go_upto_region 13 with (fail)
      have HR1 := Aside0.mk (Kd.R_alloc HRW.out (.cells #[.int .i64 l[i].f0, .slice B1 l[i].f1.length d1, .bool true, .slice B3 l[i].f3.length d3] 44))
      have HB1 := Aside0.mk (below_alloc HBW.out (.cells #[.int .i64 l[i].f0, .slice B1 l[i].f1.length d1, .bool true, .slice B3 l[i].f3.length d3] 44))
      have hy2 : (wr.alloc (.cells #[.int .i64 l[i].f0, .slice B1 l[i].f1.length d1, .bool true, .slice B3 l[i].f3.length d3] 44)).cell? ⟨wr.heap.size, 2, none⟩ = some (.bool true) := (blk_cell (alloc_at (.cells #[.int .i64 l[i].f0, .slice B1 l[i].f1.length d1, .bool true, .slice B3 l[i].f3.length d3] 44) rfl) 2).trans rfl
      generalize wr.alloc (.cells #[.int .i64 l[i].f0, .slice B1 l[i].f1.length d1, .bool true, .slice B3 l[i].f3.length d3] 44) = w1 at HR1 HB1 hy2 ⊢
      generalize wr.heap.size = ge at hy2 ⊢
      clear HRW HBW hx0 hx1 hx2 hx3
      go_wp2
      go_roundw
      case rel => exact ⟨i + 1, xs, by rw [HW1.out]; go_num, ⟨by have := HIL.out; omega⟩, HXN, HB1, HR1⟩
      case measure => rw [HW1.out]; have := HIL.out; simp [intOf]; omega


end Go.Proofs.YtlbkfeelkdombaaDoor.Pp
