/- Own text, by hand: the walk of TopChunks. -/
import Derived.Test.YtfipiohchnaglaaPt0
import Derived.Test.YtfipiohchnaglaaPt1
import Derived.Test.YtfipiohchnaglaaPt2
import Derived.Test.YtfipiohchnaglaaPt3
import Derived.Test.YtfipiohchnaglaaPt4
import Derived.Test.YtfipiohchnaglaaPt5
import Derived.Test.YtfipiohchnaglaaPt6
import Derived.Test.YtfipiohchnaglaaPt7
import Derived.Test.YtfipiohchnaglaaPt8
import Derived.Test.YtfipiohchnaglaaPt9
import Derived.Test.YtfipiohchnaglaaPt10
import Derived.Test.YtfipiohchnaglaaPt11
import Derived.Test.YtfipiohchnaglaaPtS
import Derived.Test.YtfipiohchnaglaaPtC
import Derived.Test.YtfipiohchnaglaaPtX
import Derived.Test.YtfipiohchnaglaaPtI
import Derived.Test.YtfipiohchnaglaaPtJ
import Derived.Test.YtfipiohchnaglaaPtL
import Derived.Test.YtfipiohchnaglaaPtP
import Derived.Test.YtfipiohchnaglaaPtD
import Derived.Test.YtfipiohchnaglaaPtE
namespace Go.Proofs.Ytfipiohchnaglaa.Pt
open Go.RowKit Go.Proofs.YtfipiohchnaglaaW.PrintWords Go.Proofs.YtfipiohchnaglaaW.PrintLast Go.Proofs.YtfipiohchnaglaaW.PrintMore
attribute [local go_sem] max2_int min2_int max_two min_two max_three min_three max_four min_four
set_option linter.unusedVariables false
set_option linter.unusedSimpArgs false

def switchboardtop_TopChunks.f (_ : Nat) (_ : Int) (_ : List S31) (_ : List (List Int)) (z : Int) : Option Bool := if 0 ≤ z ∧ z ≤ 255 then some true else none
structure M1 (w W : World) (x y : Value) : Prop where
  hb : Below w.heap.size w W
  m : W.heap[w.heap.size]? = some (.cells #[x, y] 24 (0, 0))
theorem M1.below {w W W' : World} {x y : Value} (h : M1 w W x y) (hb : Below W.heap.size W W') : M1 w W' x y := ⟨below_step h.hb hb, blk_below h.m hb⟩
theorem M1.c0 {w W : World} {x y : Value} (h : M1 w W x y) : W.cell? ⟨w.heap.size, 0, none⟩ = some x := (blk_cell h.m 0).trans rfl
theorem M1.c1 {w W : World} {x y : Value} (h : M1 w W x y) : W.cell? ⟨w.heap.size, 1, none⟩ = some y := (blk_cell h.m 1).trans rfl
theorem M1.low {w W W' : World} {B : Nat} {x y : Value} (h : M1 w W x y) (hb : Below B W W') (hlt : w.heap.size < B) : M1 w W' x y := ⟨h.hb.trans (Below.mono hb (Nat.le_of_lt hlt)), (hb.block _ hlt).trans h.m⟩
theorem atF_T31 {w : World} {ok : Nat → Prop} {A : Option Addr} {m : Nat} {xs : List S31} (h : Kd.F k31 w ok A m xs) (i : Nat) (h1 : i < m) : ∃ ad A0 c0 A1 c1, A = some ad ∧ w.cell? (ad.add (i * 3)) = some (.slice A0 (xs.getD i z31).f0.length c0) ∧ w.cell? ⟨(ad.add (i * 3)).block, (ad.add (i * 3)).off + 1, none⟩ = some (.slice A1 (xs.getD i z31).f1.length c1) ∧ w.cell? ⟨(ad.add (i * 3)).block, (ad.add (i * 3)).off + 2, none⟩ = some (.int .i64 (xs.getD i z31).f2) ∧ (xs.getD i z31).f0.length ≤ c0 ∧ Kd.F (Kd.slice 3 (Kd.int .i64)) w ok A0 (xs.getD i z31).f0.length (xs.getD i z31).f0 ∧ (xs.getD i z31).f1.length ≤ c1 ∧ Kd.F k33 w ok A1 (xs.getD i z31).f1.length (xs.getD i z31).f1 := by
  obtain ⟨ad, c, e, _, hK, hc0, _⟩ := Kd.F_get h z31 (i : Int) (by omega) (by omega)
  rw [Int.toNat_natCast] at hK hc0
  have hc : ∀ j u, c[j]? = some u → w.cell? (ad.add (i * 3 + j)) = some u := hc0
  obtain ⟨A0, c0, A1, c1, rfl, l0, g0, l1, g1⟩ := k31_openF hK
  exact ⟨ad, A0, c0, A1, c1, e, hc 0 _ rfl, by rw [← add_field _ _ 1 (by omega)]; exact hc 1 _ rfl, by rw [← add_field _ _ 2 (by omega)]; exact hc 2 _ rfl, l0, g0, l1, g1⟩
theorem take31 (l : List S31) {i : Nat} (h : i < l.length) : l.take i ++ [l.getD i z31] = l.take (i + 1) := by
  rw [List.take_succ_eq_append_getElem h, List.getD_eq_getElem?_getD, List.getElem?_eq_getElem h]
  rfl
theorem take33 (l : List S33) {i : Nat} (h : i < l.length) : l.take i ++ [l.getD i z33] = l.take (i + 1) := by
  rw [List.take_succ_eq_append_getElem h, List.getD_eq_getElem?_getD, List.getElem?_eq_getElem h]
  rfl
theorem getD_in {α : Type} {l : List α} {z : α} {i : Nat} (h : i < l.length) : l.getD i z ∈ l := by
  rw [List.getD_eq_getElem?_getD, List.getElem?_eq_getElem h]
  exact List.getElem_mem h
set_option maxHeartbeats 8000000 in
set_option maxRecDepth 100000 in
theorem switchboardtop_TopChunks.calls (k : Nat) (n : Int) (A0 : Option Addr) (c0 : Nat) (ls : List S31) (P1 : Nat → Prop) (A1 : Option Addr) (c1 : Nat) (tk : List (List Int)) (z : Int) (w : World) (hr0_1 : Kd.C k31 w A0 ls.length ls) (hc0_1 : ls.length ≤ c0) (hs1 : Kd.V (Kd.slice 3 (Kd.int .i64)) 54 w w.heap.size (fun k_ => P1 k_) (.slice A1 tk.length c1) tk) (h : switchboardtop_TopChunks.f k n ls tk z = some true) :
    Calls Try.prog 3 #[.agg #[.int .i64 n, .slice A0 ls.length c0], .slice A1 tk.length c1, .int .u8 z] w fun e w' => e = .returned (.bool true) ∧ Below w.heap.size w w' := by
  have hu24 := Try.underlying24
  have hu31 := Try.underlying31
  have hu33 := Try.underlying33
  have hz : 0 ≤ z ∧ z ≤ 255 := by
    unfold switchboardtop_TopChunks.f at h
    by_cases hq : 0 ≤ z ∧ z ≤ 255
    · exact hq
    · rw [if_neg hq] at h; cases h
  have HZ := Aside0.mk hz
  clear h hz
  have HR := Aside0.mk hr0_1
  have HC := Aside0.mk hc0_1
  have HV := Aside0.mk (Kd.V_mono (ok' := fun k => k < w.heap.size) (Kd.V_bound hs1) (fun k hk => hk.2))
  clear hr0_1 hc0_1 hs1
  have HL0 : Aside0 (M1 w (w.alloc (.cells #[.int .i64 n, .slice A0 ls.length c0] 24)) (.int .i64 n) (.slice A0 ls.length c0)) := ⟨⟨below_alloc (Below.refl _ _) _, heap_alloc_new _ _⟩⟩
  obtain ⟨b1, hb1, qb1⟩ := msmall_ev n ls
  obtain ⟨k1, hb1⟩ := hb1.rounds
  have S1 := Aside0.mk hb1
  clear hb1
  cases b1
  case false =>
    go_enter Try.func3, Try.ntmps3
    go_wp2_with (first | (go_at_call 5; (with_reducible refine (switchboardref15_Small.calls k1 n A0 c0 ls false _ (Kd.C_below HR.out HL0.out.hb) HC.out S1.out).mono ?_); rintro e_ w1 ⟨rfl, hb⟩; have HL1 := Aside0.mk (HL0.out.below hb); have hx0 := HL1.out.c0; have hx1 := HL1.out.c1; clear hb) | (go_at_call 8; refine (switchboardtop_lives.calls true _ rfl).mono ?_; rintro e_ w9 ⟨rfl, hb⟩; have HB9 := Aside0.mk (below_step HL1.out.hb hb); clear hb))
    go_ret
    exact ⟨rfl, HB9.out⟩
  replace qb1 := qb1 rfl
  obtain ⟨b2, hb2, qb2⟩ := small_ev tk
  obtain ⟨k2, hb2⟩ := hb2.rounds
  have S2 := Aside0.mk hb2
  clear hb2
  cases b2
  case false =>
    go_enter Try.func3, Try.ntmps3
    go_wp2_with (first | (go_at_call 5; (with_reducible refine (switchboardref15_Small.calls k1 n A0 c0 ls true _ (Kd.C_below HR.out HL0.out.hb) HC.out S1.out).mono ?_); rintro e_ w1 ⟨rfl, hb⟩; have HL1 := Aside0.mk (HL0.out.below hb); have hx0 := HL1.out.c0; have hx1 := HL1.out.c1; clear hb) | (go_at_call 6; (with_reducible refine (switchboardref03_Small.calls k2 A1 c1 tk false _ (Kd.V_reads' (Kd.V_below HV.out HL1.out.hb)).2.2 (Kd.V_reads' HV.out).2.1 S2.out).mono ?_); rintro e_ w2 ⟨rfl, hd⟩; have HL2 := Aside0.mk (HL1.out.below hd.below); clear hx0 hx1; have hx0 := HL2.out.c0; have hx1 := HL2.out.c1; clear hd) | (go_at_call 8; refine (switchboardtop_lives.calls true _ rfl).mono ?_; rintro e_ w9 ⟨rfl, hb⟩; have HB9 := Aside0.mk (below_step HL2.out.hb hb); clear hb))
    go_ret
    exact ⟨rfl, HB9.out⟩
  replace qb2 := qb2 rfl
  obtain ⟨b3, hb3, qb3⟩ := mright_ev n ls qb1
  obtain ⟨k3, hb3⟩ := hb3.rounds
  have S3 := Aside0.mk hb3
  clear hb3
  cases b3
  case false =>
    go_enter Try.func3, Try.ntmps3
    go_wp2_with (first | (go_at_call 5; (with_reducible refine (switchboardref15_Small.calls k1 n A0 c0 ls true _ (Kd.C_below HR.out HL0.out.hb) HC.out S1.out).mono ?_); rintro e_ w1 ⟨rfl, hb⟩; have HL1 := Aside0.mk (HL0.out.below hb); have hx0 := HL1.out.c0; have hx1 := HL1.out.c1; clear hb) | (go_at_call 6; (with_reducible refine (switchboardref03_Small.calls k2 A1 c1 tk true _ (Kd.V_reads' (Kd.V_below HV.out HL1.out.hb)).2.2 (Kd.V_reads' HV.out).2.1 S2.out).mono ?_); rintro e_ w2 ⟨rfl, hd⟩; have HL2 := Aside0.mk (HL1.out.below hd.below); clear hx0 hx1; have hx0 := HL2.out.c0; have hx1 := HL2.out.c1; clear hd) | (go_at_call 7; (with_reducible refine (switchboardref15_Right.calls k3 n A0 c0 ls false _ (Kd.C_below HR.out HL2.out.hb) HC.out S3.out).mono ?_); rintro e_ w3 ⟨rfl, hb⟩; have HL3 := Aside0.mk (HL2.out.below hb); clear hx0 hx1; have hx0 := HL3.out.c0; have hx1 := HL3.out.c1; clear hb) | (go_at_call 8; refine (switchboardtop_lives.calls true _ rfl).mono ?_; rintro e_ w9 ⟨rfl, hb⟩; have HB9 := Aside0.mk (below_step HL3.out.hb hb); clear hb))
    go_ret
    exact ⟨rfl, HB9.out⟩
  replace qb3 := qb3 rfl
  have HM := Aside0.mk qb3
  have HFT := Aside0.mk qb2
  clear qb1 qb2 qb3
  go_enter Try.func3, Try.ntmps3
  go_upto_region 4 with (first | (go_at_call 5; (with_reducible refine (switchboardref15_Small.calls k1 n A0 c0 ls true _ (Kd.C_below HR.out HL0.out.hb) HC.out S1.out).mono ?_); rintro e_ w1 ⟨rfl, hb⟩; have HL1 := Aside0.mk (HL0.out.below hb); have hx0 := HL1.out.c0; have hx1 := HL1.out.c1; clear hb) | (go_at_call 6; (with_reducible refine (switchboardref03_Small.calls k2 A1 c1 tk true _ (Kd.V_reads' (Kd.V_below HV.out HL1.out.hb)).2.2 (Kd.V_reads' HV.out).2.1 S2.out).mono ?_); rintro e_ w2 ⟨rfl, hd⟩; have HL2 := Aside0.mk (HL1.out.below hd.below); clear hx0 hx1; have hx0 := HL2.out.c0; have hx1 := HL2.out.c1; clear hd) | (go_at_call 7; (with_reducible refine (switchboardref15_Right.calls k3 n A0 c0 ls true _ (Kd.C_below HR.out HL2.out.hb) HC.out S3.out).mono ?_); rintro e_ w3 ⟨rfl, hb⟩; have HL3 := Aside0.mk (HL2.out.below hb); clear hx0 hx1; have hx0 := HL3.out.c0; have hx1 := HL3.out.c1; clear hb))
  clear HL0 HL1 HL2
  have hb := below_alloc (Below.refl w3.heap.size w3) (.cells #[.int .i64 n, .slice none 0 0] 24)
  have HL4 := Aside0.mk (HL3.out.below hb)
  have HA4 : Aside0 ((w3.alloc (.cells #[.int .i64 n, .slice none 0 0] 24)).heap[w3.heap.size]? = some (.cells #[.int .i64 n, .slice none 0 0] 24 (0, 0))) := ⟨heap_alloc_new _ _⟩
  have HG4 : Aside0 (w.heap.size < w3.heap.size ∧ w3.heap.size < (w3.alloc (.cells #[.int .i64 n, .slice none 0 0] 24)).heap.size) := ⟨blk_lt HL3.out.m, blk_lt HA4.out⟩
  clear hb HL3 hx0 hx1
  generalize w3.alloc (.cells #[.int .i64 n, .slice none 0 0] 24) = w4 at HL4 HA4 HG4 ⊢
  have hx0 := HL4.out.c0
  have hx1 := HL4.out.c1
  have hF4 := Aside0.mk (Kd.C_F k31_heap HR.out)
  go_upto_region 5 with (fail)
  clear hx0 hx1
  have hlsl : (ls.length : Int) < 1000000 := by have := HM.out.2.2.2.1; omega
  go_wp2
  go_loopw [44] (fun v44 W => ∃ (i : Nat) (Al : Option Addr) (cl : Nat), v44 = .int .i64 (i : Int) ∧ Aside0 (i ≤ ls.length) ∧ Aside0 (Below w3.heap.size w4 W) ∧ Aside0 (w4.heap.size ≤ W.heap.size) ∧ Aside0 (W.heap[w3.heap.size]? = some (.cells #[.int .i64 n, .slice Al i cl] 24 (0, 0))) ∧ Aside0 (Kd.N k31 31 W w4.heap.size (fun k => k < w.heap.size ∨ w4.heap.size ≤ k) (.slice Al i cl) (ls.take i))) (fun v44 _ => ls.length - (intOf v44).toNat)
  case atStart => exact ⟨0, none, 0, rfl, ⟨by omega⟩, ⟨Below.refl _ _⟩, ⟨Nat.le_refl _⟩, HA4, ⟨Kd.N_nil _ _ _ _ _⟩⟩
  case round =>
    obtain ⟨i, Al, cl, rfl, HI, HB5, HS5, HA5, HN5⟩ := hrel
    clear HA4
    by_cases hi : i < ls.length
    rotate_left
    · have k1 : decide ((i : Int) < (ls.length : Int)) = false := decide_eq_false (by omega)
      have k1n : decide (i < ls.length) = false := decide_eq_false hi
      have hil : i = ls.length := by have := HI.out; omega
      rw [show ls.take i = ls from List.take_of_length_le (by omega)] at HN5
      subst hil
      clear hi
      obtain ⟨er, vF, hF, hS⟩ : ∃ (e : Int) (l : List (List Int)), Ev (fun k => model_Forward.f k n ls tk) (l, e) ∧ Ev (fun k => switchboardref15_Same.f k l l) true := by
        by_cases hq : modelOk n ls = true ∧ tokOk n tk = true
        · obtain ⟨ch, hch⟩ := ch_all
          have hg := good_short HM.out.2.1 (fwdV_good ch ls tk (goodT_of hq.2))
          exact ⟨0, _, fwd_ev hch (goodM_of hq.1) (goodT_of hq.2), same15 rfl hg.1 hg.2⟩
        · exact ⟨1, [], fwd_no hq, same15 rfl (by simp) (by simp)⟩
      obtain ⟨kF, hkF⟩ := hF.rounds
      obtain ⟨kS, hkS⟩ := hS.rounds
      have HFW := Aside0.mk hkF
      have HSM := Aside0.mk hkS
      clear hF hS hkF hkS
      have HL5 := Aside0.mk (HL4.out.low HB5.out HG4.out.1)
      have HVW := Aside0.mk (show Kd.V (Kd.slice 3 (Kd.int .i64)) 54 wr wr.heap.size (fun k => k < w.heap.size) (.slice A1 tk.length c1) tk from Kd.V_below HV.out HL5.out.hb)
      have hx0 := HL5.out.c0
      have hx1 := HL5.out.c1
      go_wp2_with (first | (go_at_call 13; (with_reducible refine (model_Forward.calls kF n A0 c0 ls _ A1 c1 tk vF er _ (Kd.C_below HR.out HL5.out.hb) HC.out HVW.out HFW.out).mono ?_); rintro e_ wa ⟨va, rfl, hv, hb⟩; obtain ⟨Ba, da, rfl⟩ := Kd.V_slice hv; have HVA := Aside0.mk hv; have HLA := Aside0.mk (HL5.out.below hb); have HNA := Aside0.mk (Kd.N_below HN5.out hb); have HAA := Aside0.mk (blk_below HA5.out hb); have HVX := Aside0.mk (show Kd.V (Kd.slice 3 (Kd.int .i64)) 54 wa wa.heap.size (fun k => k < w.heap.size) (.slice A1 tk.length c1) tk from Kd.V_below HV.out HLA.out.hb); have ha0 : wa.cell? ⟨w3.heap.size, 0, none⟩ = some (.int .i64 n) := (blk_cell HAA.out 0).trans rfl; have ha1 : wa.cell? ⟨w3.heap.size, 1, none⟩ = some (.slice Al ls.length cl) := (blk_cell HAA.out 1).trans rfl; clear hv hb hx0 hx1) | (go_at_call 13; (with_reducible refine (model_Forward.calls kF n Al cl ls _ A1 c1 tk vF er _ (Kd.N_reads' HNA.out).2.2 (Kd.N_reads' HNA.out).2.1 HVX.out HFW.out).mono ?_); rintro e_ wb ⟨vb, rfl, hv, hb⟩; obtain ⟨Bb, db, rfl⟩ := Kd.V_slice hv; have HVB := Aside0.mk hv; have HLB := Aside0.mk (HLA.out.below hb); have HVC := Aside0.mk (Kd.V_below HVA.out hb); clear hv hb ha0 ha1) | (go_at_call 14; (with_reducible refine (switchboardref15_Same.calls kS Ba da vF Bb db vF true _ (Kd.V_reads' HVC.out).2.2 (Kd.V_reads' HVC.out).2.1 (Kd.V_reads' HVB.out).2.2 (Kd.V_reads' HVB.out).2.1 HSM.out).mono ?_); rintro e_ wc ⟨rfl, hd⟩; have HLC := Aside0.mk (HLB.out.below hd.below); clear hd) | (go_at_call 8; refine (switchboardtop_lives.calls true _ rfl).mono ?_; rintro e_ w9 ⟨rfl, hb⟩; have HB9 := Aside0.mk (below_step HLC.out.hb hb); clear hb))
      go_ret
      exact ⟨rfl, HB9.out⟩
    · have k1 : decide ((i : Int) < (ls.length : Int)) = true := decide_eq_true (by omega)
      have k1n : decide (i < ls.length) = true := decide_eq_true hi
      have HI2 := Aside0.mk hi
      obtain ⟨w5, hw5⟩ : ∃ w5, w5 = wr := ⟨_, rfl⟩
      rw [← hw5] at HB5 HS5 HA5 HN5 ⊢
      clear hw5
      have HL5 := Aside0.mk (HL4.out.low HB5.out HG4.out.1)
      have HN5b := Aside0.mk (Kd.N_bound HN5.out)
      obtain ⟨al, Ag, cg, Ae, ce, hA, hy0, hy1, hy2, hlg, hFg, hle, hFe⟩ := atF_T31 (Kd.F_step (W1 := w5) hF4.out (fun k hk _ => HL5.out.hb.block k hk)) i hi
      subst hA
      obtain ⟨x, hx⟩ : ∃ x, x = ls.getD i z31 := ⟨_, rfl⟩
      rw [← hx] at hy0 hy1 hy2 hlg hFg hle hFe
      have HXE := Aside0.mk hx
      have HGY : Aside0 (GoodY n x) := ⟨HM.out.2.2.2.2 x (by rw [hx]; exact getD_in hi)⟩
      have HLG := Aside0.mk hlg
      have HFG := Aside0.mk hFg
      have HLE := Aside0.mk hle
      have HFE := Aside0.mk hFe
      clear hx hlg hFg hle hFe
      go_upto_region 8 with (fail)
      clear hy0 hy1 hy2 hi
      have hs1 : (w5.alloc (.cells #[.slice Ag x.f0.length cg, .slice Ae x.f1.length ce, .int .i64 x.f2] 31)).heap.size = w5.heap.size + 1 := by show (w5.heap.push _).size = _; exact Array.size_push ..
      have hb1 := below_alloc (Below.refl w5.heap.size w5) (.cells #[.slice Ag x.f0.length cg, .slice Ae x.f1.length ce, .int .i64 x.f2] 31)
      have hb2 := below_alloc hb1 (.cells #[.slice Ag x.f0.length cg, .slice none 0 0, .int .i64 x.f2] 31)
      have HL6 := Aside0.mk (HL5.out.below hb2)
      have HA6 := Aside0.mk (blk_below HA5.out hb2)
      have HB6 := Aside0.mk (below_then HB5.out (Nat.le_trans (Nat.le_of_lt HG4.out.2) HS5.out) hb2)
      have HN6 := Aside0.mk (Kd.N_below HN5b.out hb2)
      have HFE6 := Aside0.mk (Kd.F_below HFE.out hb2)
      have HFG6 := Aside0.mk (Kd.F_below HFG.out hb2)
      have HX6 : Aside0 (((w5.alloc (.cells #[.slice Ag x.f0.length cg, .slice Ae x.f1.length ce, .int .i64 x.f2] 31)).alloc (.cells #[.slice Ag x.f0.length cg, .slice none 0 0, .int .i64 x.f2] 31)).heap[w5.heap.size]? = some (.cells #[.slice Ag x.f0.length cg, .slice Ae x.f1.length ce, .int .i64 x.f2] 31 (0, 0))) := ⟨blk_alloc (heap_alloc_new _ _) _⟩
      have HK6 : Aside0 (((w5.alloc (.cells #[.slice Ag x.f0.length cg, .slice Ae x.f1.length ce, .int .i64 x.f2] 31)).alloc (.cells #[.slice Ag x.f0.length cg, .slice none 0 0, .int .i64 x.f2] 31)).heap[w5.heap.size + 1]? = some (.cells #[.slice Ag x.f0.length cg, .slice none 0 0, .int .i64 x.f2] 31 (0, 0))) := ⟨by rw [← hs1]; exact heap_alloc_new _ _⟩
      have HS6 : Aside0 (((w5.alloc (.cells #[.slice Ag x.f0.length cg, .slice Ae x.f1.length ce, .int .i64 x.f2] 31)).alloc (.cells #[.slice Ag x.f0.length cg, .slice none 0 0, .int .i64 x.f2] 31)).heap.size = w5.heap.size + 1 + 1) := ⟨by show (Array.push _ _).size = _; rw [Array.size_push, hs1]⟩
      have HB5b := HB5
      have HA5b := HA5
      have HB56 := Aside0.mk hb2
      have HNL0 : Aside0 (∀ k, (Value.slice Al i cl).ownBlock = some k → k < w5.heap.size + 1 + 1) := ⟨fun k hk => Nat.lt_succ_of_lt (Nat.lt_succ_of_lt (Kd.N_lt HN5.out k hk))⟩
      clear hs1 hb1 hb2 HN5 HN5b HA5 HB5 HFE HFG
      generalize ((w5.alloc (.cells #[.slice Ag x.f0.length cg, .slice Ae x.f1.length ce, .int .i64 x.f2] 31)).alloc (.cells #[.slice Ag x.f0.length cg, .slice none 0 0, .int .i64 x.f2] 31)) = w6 at HL6 HA6 HB6 HB56 HN6 HFE6 HFG6 HX6 HK6 HS6 ⊢
      have hv1 : w6.cell? ⟨w5.heap.size, 1, none⟩ = some (.slice Ae x.f1.length ce) := (blk_cell HX6.out 1).trans rfl
      go_upto_region 9 with (fail)
      clear hv1
      have hxl : (x.f1.length : Int) < 1000000 := by have := HGY.out.2.1; omega
      go_wp2
      go_loopw [56] (fun v56 W => ∃ (j : Nat) (Ax : Option Addr) (cx : Nat), v56 = .int .i64 (j : Int) ∧ Aside0 (j ≤ x.f1.length) ∧ Aside0 (Below (w5.heap.size + 1) w6 W) ∧ Aside0 (w6.heap.size ≤ W.heap.size) ∧ Aside0 (W.heap[w5.heap.size + 1]? = some (.cells #[.slice Ag x.f0.length cg, .slice Ax j cx, .int .i64 x.f2] 31 (0, 0))) ∧ Aside0 (Kd.N k33 33 W w6.heap.size (fun k => w6.heap.size ≤ k) (.slice Ax j cx) (x.f1.take j))) (fun v56 _ => x.f1.length - (intOf v56).toNat)
      case atStart => exact ⟨0, none, 0, rfl, ⟨by omega⟩, ⟨Below.refl _ _⟩, ⟨Nat.le_refl _⟩, HK6, ⟨Kd.N_nil _ _ _ _ _⟩⟩
      case round =>
        obtain ⟨j, Ax, cx, rfl, HJ, HB7, HS7, HK7, HN7⟩ := hrel
        clear HK6
        by_cases hj : j < x.f1.length
        rotate_left
        · have k2 : decide ((j : Int) < (x.f1.length : Int)) = false := decide_eq_false (by omega)
          have k2n : decide (j < x.f1.length) = false := decide_eq_false hj
          have hjl : j = x.f1.length := by have := HJ.out; omega
          rw [show x.f1.take j = x.f1 from List.take_of_length_le (by omega)] at HN7
          subst hjl
          clear hj
          have hsz := HS6.out
          have HL7 := Aside0.mk (HL6.out.low HB7.out (by have h1 := blk_lt HL5.out.m; omega))
          have HA7 : Aside0 (wr.heap[w3.heap.size]? = some (.cells #[.int .i64 n, .slice Al i cl] 24 (0, 0))) := ⟨(HB7.out.block w3.heap.size (by have h1 := HG4.out.2; have h2 := HS5.out; omega)).trans HA6.out⟩
          have HN8 := Aside0.mk (Kd.N_step HN6.out (w1 := wr) (fun k hk hlt => HB7.out.block k (by have h1 := hk.2; omega)))
          have HFG7 := Aside0.mk (Kd.F_step (W1 := wr) HFG6.out (fun k hk hlt => HB7.out.block k (by have h1 := blk_lt HL5.out.m; omega)))
          have HFX7 := Aside0.mk (Kd.N_F HN7.out)
          have HCX := Aside0.mk (Kd.N_reads' HN7.out).2.1
          have hk0 : wr.cell? ⟨w5.heap.size + 1, 0, none⟩ = some (.slice Ag x.f0.length cg) := (blk_cell HK7.out 0).trans rfl
          have hk1 : wr.cell? ⟨w5.heap.size + 1, 1, none⟩ = some (.slice Ax x.f1.length cx) := (blk_cell HK7.out 1).trans rfl
          have hk2 : wr.cell? ⟨w5.heap.size + 1, 2, none⟩ = some (.int .i64 x.f2) := (blk_cell HK7.out 2).trans rfl
          have ha1 : wr.cell? ⟨w3.heap.size, 1, none⟩ = some (.slice Al i cl) := (blk_cell HA7.out 1).trans rfl
          clear hsz
          have HNL : Aside0 (∀ k, (Value.slice Al i cl).ownBlock = some k → k < w5.heap.size + 1 + 1) := ⟨HNL0.out⟩
          have HBO : Aside0 (Below w4.heap.size w5 wr) := ⟨Below.mono (HB56.out.trans (Below.mono HB7.out (Nat.le_succ _))) HS5.out⟩
          go_upto_region 19 with ((at_builtin; refine Kd.N_append k31 (w0 := w5) w4.heap.size rfl (.tmp 107) (.tmp 109) 22 31 (.agg #[(.slice none 0 0), (.slice none 0 0), (.int .i64 0)]) 56 rfl Try.underlying22 info31 rfl (by decide) (by omega) (.slice Al i cl) (ls.take i) x [.slice Ag x.f0.length cg, .slice Ax x.f1.length cx, .int .i64 x.f2] (fun k => k < w.heap.size ∨ w4.heap.size ≤ k) (fun k => k < w.heap.size ∨ w6.heap.size ≤ k) rfl rfl ?aP ?aK ?aF ?aO ?aB ?aS ?aL ?_; (case aP => exact (k31_mkF _ _ x HLG.out (Kd.F_mono HFG7.out (fun k hk => .inl hk)) HCX.out (Kd.F_mono HFX7.out (fun k hk => .inr hk)))); (case aK => exact (fun k hk => ⟨by have h1 := HS6.out; have h2 := HS5.out; rcases hk with hk | hk; exact .inl hk; exact .inr (by omega), fun e_ => by have h1 := Kd.N_base HN8.out k e_.symm; have h2 := HNL.out k e_.symm; have h3 := HG4.out; have h4 := HS6.out; rcases hk with hk | hk <;> omega⟩)); (case aF => exact (fun k hk => .inr (by have h1 := HS7.out; have h2 := HS6.out; have h3 := HS5.out; omega))); (case aO => exact Kd.N_mono HN8.out (fun k hk => hk.1)); (case aB => exact (Below.mono HBO.out (Nat.le_refl _))); (case aS => have h1 := HS7.out; have h2 := HS6.out; have h3 := HS5.out; omega); (case aL => have h1 := HM.out.2.2.2.1; rw [List.length_take]; omega); intro va w8 ho hb hg hat; obtain ⟨Aw, cw, hva⟩ := Kd.N_slice ho; rw [HXE.out, take31 ls HI2.out] at ho hva; rw [show (ls.take (i + 1)).length = i + 1 by have := HI2.out; rw [List.length_take]; omega] at hva; subst hva; have HN9 := Aside0.mk ho; have HB9 := Aside0.mk hb; have HA9 := Aside0.mk ((hb.block w3.heap.size HG4.out.2).trans HA5b.out); have ha2 : w8.cell? ⟨w3.heap.size, 1, none⟩ = some (.slice Al i cl) := (blk_cell HA9.out 1).trans rfl; have haf := blk_frozen HA9.out 1; clear ho hb hg hat hk0 hk1 hk2 ha1))
          clear ha2 haf
          have HB10 : Aside0 (Below w3.heap.size w4 (w8.setCell ⟨w3.heap.size, 1, none⟩ (.slice Aw (i + 1) cw))) := ⟨(HB5b.out.trans (Below.mono HB9.out (Nat.le_of_lt HG4.out.2))).setCell (p := ⟨w3.heap.size, 1, none⟩) (Nat.le_refl _) _⟩
          have HS10 : Aside0 (w4.heap.size ≤ (w8.setCell ⟨w3.heap.size, 1, none⟩ (.slice Aw (i + 1) cw)).heap.size) := ⟨HB10.out.size⟩
          have HA10 : Aside0 ((w8.setCell ⟨w3.heap.size, 1, none⟩ (.slice Aw (i + 1) cw)).heap[w3.heap.size]? = some (.cells #[.int .i64 n, .slice Aw (i + 1) cw] 24 (0, 0))) := ⟨blk_put HA9.out 1 _ rfl⟩
          have HN10 := Aside0.mk (Kd.N_far HN9.out (p := ⟨w3.heap.size, 1, none⟩) (fun k hk => by have h1 := HG4.out; show k ≠ w3.heap.size; rcases hk with hk | hk <;> omega) (.slice Aw (i + 1) cw))
          generalize w8.setCell ⟨w3.heap.size, 1, none⟩ (.slice Aw (i + 1) cw) = w10 at HB10 HS10 HA10 HN10 ⊢
          go_wp2
          have hw1 : wrap64 ((i : Int) + 1) = (i : Int) + 1 := wrap_ok (by omega) (by have := HI2.out; omega)
          refine ⟨⟨i + 1, Aw, cw, by first | (rw [hw1]; simp; done) | simp, ⟨HI2.out⟩, HB10, HS10, HA10, HN10⟩, ?_⟩
          have := HI2.out
          (try rw [hw1])
          simp [intOf]
          omega
        · have k2 : decide ((j : Int) < (x.f1.length : Int)) = true := decide_eq_true (by omega)
          have k2n : decide (j < x.f1.length) = true := decide_eq_true hj
          have HJ2 := Aside0.mk hj
          obtain ⟨w7, hw7⟩ : ∃ w7, w7 = wr := ⟨_, rfl⟩
          rw [← hw7] at HB7 HS7 HK7 HN7 ⊢
          clear hw7
          have HL7 := Aside0.mk (HL6.out.low HB7.out (by have h1 := blk_lt HL5.out.m; omega))
          have hCE := Kd.F_now (Kd.F_step (W1 := w7) HFE6.out (fun k hk hlt => HB7.out.block k (by have h1 := blk_lt HL5.out.m; omega)))
          obtain ⟨ae, Ay, cy, Az, cz, hA, hq0, hq1, hly, hCy, hlz, hCz⟩ := at_T33 hCE (j : Int) (by omega) (by omega)
          subst hA
          rw [Int.toNat_natCast] at hq0 hq1
          obtain ⟨y, hy⟩ : ∃ y, y = rd_T33 x.f1 (j : Int) := ⟨_, rfl⟩
          rw [← hy] at hq0 hq1 hly hCy hlz hCz
          have HYE : Aside0 (y = x.f1.getD j z33) := ⟨by rw [hy]; unfold rd_T33; rw [Int.toNat_natCast]⟩
          have HGE : Aside0 (GoodE n y) := ⟨goodE ⟨HM.out.1, HM.out.2.1⟩ (HGY.out.2.2.2.2.2 y (by rw [HYE.out]; exact getD_in hj))⟩
          have HLY := Aside0.mk hly
          have HCY := Aside0.mk hCy
          have HLZ := Aside0.mk hlz
          have HCZ := Aside0.mk hCz
          clear hy hCE hly hCy hlz hCz
          go_upto_region 11 with (fail)
          clear hq0 hq1 hj
          have hb := below_alloc (Below.refl w7.heap.size w7) (.cells #[.slice Ay y.f0.length cy, .slice Az y.f1.length cz] 33)
          have HY8 : Aside0 ((w7.alloc (.cells #[.slice Ay y.f0.length cy, .slice Az y.f1.length cz] 33)).heap[w7.heap.size]? = some (.cells #[.slice Ay y.f0.length cy, .slice Az y.f1.length cz] 33 (0, 0))) := ⟨heap_alloc_new _ _⟩
          have HB8 := Aside0.mk hb
          have HL8 := Aside0.mk (HL7.out.below hb)
          clear hb
          generalize w7.alloc (.cells #[.slice Ay y.f0.length cy, .slice Az y.f1.length cz] 33) = w8 at HY8 HB8 HL8 ⊢
          have hv0 : w8.cell? ⟨w7.heap.size, 0, none⟩ = some (.slice Ay y.f0.length cy) := (blk_cell HY8.out 0).trans rfl
          have hv1 : w8.cell? ⟨w7.heap.size, 1, none⟩ = some (.slice Az y.f1.length cz) := (blk_cell HY8.out 1).trans rfl
          have hx0 := HL8.out.c0
          obtain ⟨SS, hSS⟩ : ∃ SS, SS = expS y.f0 y.f1 n := ⟨_, rfl⟩
          have HEX : Aside0 (Calls Try.prog 9 #[.agg #[.slice Ay y.f0.length cy, .slice Az y.f1.length cz], .int .i64 n] w8 fun e w' => e = .returned (.tuple #[.string SS, .int .i64 0]) ∧ Below w8.heap.size w8 w') := ⟨by rw [hSS]; exact chunk_Export.calls Ay cy y.f0 Az cz y.f1 n w8 (Kd.C_below HCY.out HB8.out) HLY.out (Kd.C_below HCZ.out HB8.out) HLZ.out HGE.out.f0 HGE.out.f1 HGE.out.right⟩
          have hzr : 1 ≤ 1 + z % 64 ∧ 1 + z % 64 ≤ 64 := by omega
          obtain ⟨kc, pl, hCu, hSj, hjl, hpl, hpn⟩ := HGE.out.cut _ hzr
          obtain ⟨ki, ei, Si, s5i, csi, hIm⟩ := HGE.out.imp
          rw [← hSS] at hCu hSj hIm
          have HCU := Aside0.mk hCu
          have HSJ := Aside0.mk hSj
          have HJLE := Aside0.mk hjl
          have HPL := Aside0.mk hpl
          have HPN := Aside0.mk hpn
          have HIM := Aside0.mk hIm
          clear hSS hCu hSj hjl hpl hpn hIm hzr
          have hzz := HZ.out
          go_upto_region 14 with (first | (go_at_call 9; refine HEX.out.mono ?_; rintro e_ w9 ⟨rfl, hb⟩; have HB9 := Aside0.mk (below_step HB8.out hb); clear hb hv0 hv1 hx0) | (go_at_call 10; go_loud ((with_reducible refine (chunk_Cut.calls kc SS (1 + z % 64) pl true _ HCU.out).mono ?_); rintro e_ w10 ⟨v0, rfl, hv, hb⟩; obtain ⟨gp, cp, rfl, hgp⟩ := R_addr hv HPN.out; have HRP := Aside0.mk hv; have HGP := Aside0.mk hgp; have HB10 := Aside0.mk (below_step HB9.out hb); clear hv hgp hb)) | (go_at_call 12; go_loud (refine (chunk_Join.calls gp cp pl SS _ (Kd.R_reads' HRP.out).2.2 (Kd.R_reads' HRP.out).2.1 HGP.out HPL.out HSJ.out HJLE.out).mono ?_; rintro e_ w11 ⟨rfl, hb⟩; have HB11 := Aside0.mk (below_step HB10.out hb); clear hb)) | (go_at_call 11; go_loud (refine (chunk_Import.calls SS y.f0 y.f1 n ki ei Si s5i csi _ HIM.out).mono ?_; rintro e_ w12 ⟨Ai, Bi, ci, di, rfl, hci, hdi, hFi, hGi, hb⟩; have HCI := Aside0.mk hci; have HDI := Aside0.mk hdi; have HFI := Aside0.mk hFi; have HGI := Aside0.mk hGi; have HB12 := Aside0.mk (below_step HB11.out hb); clear hci hdi hFi hGi hb)))
          have hb := below_alloc (Below.refl w12.heap.size w12) (.cells #[.slice Ai y.f0.length ci, .slice Bi y.f1.length di] 33)
          have HB13 := Aside0.mk (below_step HB12.out hb)
          have HI13 : Aside0 ((w12.alloc (.cells #[.slice Ai y.f0.length ci, .slice Bi y.f1.length di] 33)).heap[w12.heap.size]? = some (.cells #[.slice Ai y.f0.length ci, .slice Bi y.f1.length di] 33 (0, 0))) := ⟨heap_alloc_new _ _⟩
          have HF13 := Aside0.mk (Kd.F_below HFI.out hb)
          have HG13 := Aside0.mk (Kd.F_below HGI.out hb)
          have HZ11 : Aside0 (w7.heap.size ≤ w11.heap.size) := ⟨below_size HB11.out⟩
          skip
          clear hb HB8 HB9 HB10 HB11 HB12 HFI HGI HRP HGP
          generalize w12.alloc (.cells #[.slice Ai y.f0.length ci, .slice Bi y.f1.length di] 33) = w13 at HB13 HI13 HF13 HG13 ⊢
          have HL13 := Aside0.mk (HL7.out.below HB13.out)
          have hx0 := HL13.out.c0
          have hk0 : w13.cell? ⟨w5.heap.size + 1, 1, none⟩ = some (.slice Ax j cx) := (blk_cell (blk_below HK7.out HB13.out) 1).trans rfl
          have hi0 : w13.cell? ⟨w12.heap.size, 0, none⟩ = some (.slice Ai y.f0.length ci) := (blk_cell HI13.out 0).trans rfl
          have hi1 : w13.cell? ⟨w12.heap.size, 1, none⟩ = some (.slice Bi y.f1.length di) := (blk_cell HI13.out 1).trans rfl
          go_upto_region 17 with ((at_builtin; refine Kd.N_append k33 (w0 := w7) w6.heap.size rfl (.tmp 100) (.tmp 102) 29 33 (.agg #[(.slice none 0 0), (.slice none 0 0)]) 48 rfl Try.underlying29 info33 rfl (by decide) (by omega) (.slice Ax j cx) (x.f1.take j) y [.slice Ai y.f0.length ci, .slice Bi y.f1.length di] (fun k => w6.heap.size ≤ k) (fun k => w11.heap.size ≤ k) rfl rfl ?aP ?aK ?aF ?aO ?aB ?aS ?aL ?_; (case aP => exact (k33_mkF _ _ y HCI.out HF13.out HDI.out HG13.out)); (case aK => exact (fun k hk => ⟨Nat.le_trans HS7.out (Nat.le_trans HZ11.out hk), fun e_ => by have h1 := Kd.N_lt HN7.out k e_.symm; have h2 := HZ11.out; omega⟩)); (case aF => exact (fun k hk => Nat.le_trans HS7.out (Nat.le_trans (below_size HB13.out) hk))); (case aO => exact Kd.N_below HN7.out HB13.out); (case aB => exact Below.mono HB13.out HS7.out); (case aS => exact Nat.le_trans HS7.out (below_size HB13.out)); (case aL => have h1 := HGY.out.2.1; rw [List.length_take]; omega); intro va w14 ho hb hg hat; obtain ⟨Aw, cw, hva⟩ := Kd.N_slice ho; rw [HYE.out, take33 x.f1 HJ2.out] at ho hva; rw [show (x.f1.take (j + 1)).length = j + 1 by have := HJ2.out; rw [List.length_take]; omega] at hva; subst hva; have HN14 := Aside0.mk ho; have HB14 := Aside0.mk hb; have HK14 := Aside0.mk ((hb.block (w5.heap.size + 1) (by have := HS6.out; omega)).trans HK7.out); have hk1 : w14.cell? ⟨w5.heap.size + 1, 1, none⟩ = some (.slice Ax j cx) := (blk_cell HK14.out 1).trans rfl; have hkf := blk_frozen HK14.out 1; clear ho hb hg hat hx0 hk0 hi0 hi1))
          clear hk1 hkf
          have HB15 : Aside0 (Below (w5.heap.size + 1) w6 (w14.setCell ⟨w5.heap.size + 1, 1, none⟩ (.slice Aw (j + 1) cw))) := ⟨(HB7.out.trans (Below.mono HB14.out (by have := HS6.out; omega))).setCell (p := ⟨w5.heap.size + 1, 1, none⟩) (Nat.le_refl _) _⟩
          have HS15 : Aside0 (w6.heap.size ≤ (w14.setCell ⟨w5.heap.size + 1, 1, none⟩ (.slice Aw (j + 1) cw)).heap.size) := ⟨by have h1 := HB15.out.size; exact h1⟩
          have HK15 : Aside0 ((w14.setCell ⟨w5.heap.size + 1, 1, none⟩ (.slice Aw (j + 1) cw)).heap[w5.heap.size + 1]? = some (.cells #[.slice Ag x.f0.length cg, .slice Aw (j + 1) cw, .int .i64 x.f2] 31 (0, 0))) := ⟨blk_put HK14.out 1 _ rfl⟩
          have HN15 := Aside0.mk (Kd.N_far HN14.out (p := ⟨w5.heap.size + 1, 1, none⟩) (fun k hk => by have h1 := HS6.out; show k ≠ w5.heap.size + 1; omega) (.slice Aw (j + 1) cw))
          generalize w14.setCell ⟨w5.heap.size + 1, 1, none⟩ (.slice Aw (j + 1) cw) = w15 at HB15 HS15 HK15 HN15 ⊢
          go_wp2
          have hw1 : wrap64 ((j : Int) + 1) = (j : Int) + 1 := wrap_ok (by omega) (by have := HJ2.out; omega)
          refine ⟨⟨j + 1, Aw, cw, by first | (rw [hw1]; simp; done) | simp, ⟨HJ2.out⟩, HB15, HS15, HK15, HN15⟩, ?_⟩
          have := HJ2.out
          (try rw [hw1])
          simp [intOf]
          omega


end Go.Proofs.Ytfipiohchnaglaa.Pt
