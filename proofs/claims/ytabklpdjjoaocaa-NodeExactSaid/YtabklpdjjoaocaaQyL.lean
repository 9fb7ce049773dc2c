/- Own text, by hand: the walk of NodeExact. -/
import Derived.Test.YtabklpdjjoaocaaQy0
import Derived.Test.YtabklpdjjoaocaaQy1
import Derived.Test.YtabklpdjjoaocaaQy2
import Derived.Test.YtabklpdjjoaocaaQy3
import Derived.Test.YtabklpdjjoaocaaQy4
import Derived.Test.YtabklpdjjoaocaaQy5
import Derived.Test.YtabklpdjjoaocaaQy6
import Derived.Test.YtabklpdjjoaocaaQy7
import Derived.Test.YtabklpdjjoaocaaQy8
import Derived.Test.YtabklpdjjoaocaaQy9
import Derived.Test.YtabklpdjjoaocaaQy10
import Derived.Test.YtabklpdjjoaocaaQy11
import Derived.Test.YtabklpdjjoaocaaQy12
import Derived.Test.YtabklpdjjoaocaaQy13
import Derived.Test.YtabklpdjjoaocaaQy14
import Derived.Test.YtabklpdjjoaocaaQyD
import Derived.Test.YtabklpdjjoaocaaQyF
import Derived.Test.YtabklpdjjoaocaaQyW
import Derived.Test.YtabklpdjjoaocaaQyA
import Derived.Test.YtabklpdjjoaocaaQyE
namespace Go.Proofs.Ytabklpdjjoaocaa.Qy
open Go.RowKit Go.Proofs.YtabklpdjjoaocaaW.PrintWords Go.Proofs.YtabklpdjjoaocaaW.PrintLast Go.Proofs.YtabklpdjjoaocaaW.PrintMore
attribute [local go_sem] max2_int min2_int max_two min_two max_three min_three max_four min_four
set_option linter.unusedVariables false
set_option linter.unusedSimpArgs false

structure LX (w W : World) (cm cp ca : Array Value) : Prop where
 hb : Below w.heap.size w W
 m : W.heap[w.heap.size]? = some (.cells cm 24 (0, 0))
 p : W.heap[w.heap.size + 1]? = some (.cells cp 27 (0, 0))
 a : W.heap[w.heap.size + 1 + 1]? = some (.cells ca 31 (0, 0))
theorem LX.below {w W W' : World} {cm cp ca : Array Value} (h : LX w W cm cp ca) (hb : Below W.heap.size W W') : LX w W' cm cp ca := ⟨below_step h.hb hb, blk_below h.m hb, blk_below h.p hb, blk_below h.a hb⟩
theorem LX.start (w : World) (m p a : Array Value) : LX w (((w.alloc (.cells m 24)).alloc (.cells p 27)).alloc (.cells a 31)) m p a := by
 refine ⟨below_alloc (below_alloc (below_alloc (Below.refl _ _) _) _) _, ?_, ?_, ?_⟩
 ·
  exact blk_below (blk_below (by rw [heap_alloc_new]) (below_alloc (Below.refl _ _) _)) (below_alloc (Below.refl _ _) _)
 ·
  refine blk_below ?_ (below_alloc (Below.refl _ _) _)
  have h := heap_alloc_new (w.alloc (.cells m 24)) (.cells p 27)
  rw [heap_size_alloc] at h
  exact h
 ·
  have h := heap_alloc_new ((w.alloc (.cells m 24)).alloc (.cells p 27)) (.cells a 31)
  rw [heap_size_alloc, heap_size_alloc] at h
  exact h
theorem k39_heap : Kd.Heap k39 := Kd.heap_iso _ (Kd.heap_pair (Kd.heap_iso _ (Kd.heap_pair (Kd.heap_int .i64) (Kd.heap_pair (Kd.heap_int .i64) (Kd.heap_pair (Kd.heap_int .i64) (Kd.heap_int .i64))))) (Kd.heap_slice 3 (Kd.heap_int .i64)))
theorem info42_ : (Try.prog.info? 42).map (fun i => (i.zero, i.size, i.bytes)) = some (some (.agg #[(.int .i64 0), (.int .i64 0), (.int .i64 0), (.int .i64 0), (.slice none 0 0)]), 5, 56) := by kernel_rfl
theorem take_cv (l : List S39) {i : Nat} (h : i < l.length) : (l.take i).map cvE ++ [cvE (l.getD i z39)] = (l.take (i + 1)).map cvE := by
 rw [List.getD_eq_getElem?_getD, List.getElem?_eq_getElem h, List.take_succ_eq_append_getElem h, List.map_append]
 rfl
theorem atF_T39 {w : World} {ok : Nat → Prop} {A : Option Addr} {m : Nat} {xs : List S39} (h : Kd.F k39 w ok A m xs) (i : Nat) (h1 : i < m) : ∃ ad A4 c4, A = some ad ∧ w.cell? (ad.add (i * 5)) = some (.int .i64 (xs.getD i z39).f0.f0) ∧ w.cell? ⟨(ad.add (i * 5)).block, (ad.add (i * 5)).off + 1, none⟩ = some (.int .i64 (xs.getD i z39).f0.f1) ∧ w.cell? ⟨(ad.add (i * 5)).block, (ad.add (i * 5)).off + 2, none⟩ = some (.int .i64 (xs.getD i z39).f0.f2) ∧ w.cell? ⟨(ad.add (i * 5)).block, (ad.add (i * 5)).off + 3, none⟩ = some (.int .i64 (xs.getD i z39).f0.f3) ∧ w.cell? ⟨(ad.add (i * 5)).block, (ad.add (i * 5)).off + 4, none⟩ = some (.slice A4 (xs.getD i z39).f1.length c4) ∧ (xs.getD i z39).f1.length ≤ c4 ∧ Kd.F (Kd.int .i64) w ok A4 (xs.getD i z39).f1.length (xs.getD i z39).f1 := by
 obtain ⟨ad, c, e, _, hK, hc0, _⟩ := Kd.F_get h z39 (i : Int) (by omega) (by omega)
 rw [Int.toNat_natCast] at hK hc0
 have hc : ∀ j u, c[j]? = some u → w.cell? (ad.add (i * 5 + j)) = some u := hc0
 obtain ⟨A4, c4, rfl, l4, g4⟩ := k39_openF hK
 exact ⟨ad, A4, c4, e, hc 0 _ rfl, by rw [← add_field _ _ 1 (by omega)]; exact hc 1 _ rfl, by rw [← add_field _ _ 2 (by omega)]; exact hc 2 _ rfl, by rw [← add_field _ _ 3 (by omega)]; exact hc 3 _ rfl, by rw [← add_field _ _ 4 (by omega)]; exact hc 4 _ rfl, l4, g4⟩
theorem take_all {l : List S39} {i : Nat} (h : i < l.length) (hx : ∀ x ∈ l.take i, x.f1.length ≤ 30) (hy : (l.getD i z39).f1.length ≤ 30) : ∀ x ∈ l.take (i + 1), x.f1.length ≤ 30 := by
 intro x hm
 rw [List.take_succ_eq_append_getElem h, List.mem_append, List.mem_singleton] at hm
 rcases hm with hm | rfl
 ·
  exact hx x hm
 ·
  rw [List.getD_eq_getElem?_getD, List.getElem?_eq_getElem h] at hy
  exact hy
def switchboardlaw18_NodeExact.f (_ : Nat) (_ : Int) (_ : List S61) (_ : Int) (_ : List (List Int)) (_ : Int) (_ : List S39) (_ : Int) (_ : Int) (_ : Int) (_ : Int) (_ : Int) (_ : Int) (_ : Int) (_ : Int) (_ : Int) (_ : Int) (_ : List Int) : Option Bool := some true
set_option maxHeartbeats 8000000 in
set_option maxRecDepth 100000 in
theorem switchboardlaw18_NodeExact.calls (k : Nat) (n : Int) (A0 : Option Addr) (c0 : Nat) (ls : List S61) (e : Int) (A1 : Option Addr) (c1 : Nat) (hs : List (List Int)) (me : Int) (P3 : Nat → Prop) (A3 : Option Addr) (c3 : Nat) (l : List S39) (a0 : Int) (a1 : Int) (a2 : Int) (a3 : Int) (a4 : Int) (a5 : Int) (a6 : Int) (a7 : Int) (a8 : Int) (a9 : Int) (A4 : Option Addr) (c4 : Nat) (v : List Int) (w : World) (hr0_1 : Kd.C k61 w A0 ls.length ls) (hc0_1 : ls.length ≤ c0) (hr1_1 : Kd.C (Kd.slice 3 (Kd.int .i64)) w A1 hs.length hs) (hc1_1 : hs.length ≤ c1) (hs3 : Kd.V k39 39 w w.heap.size (fun k_ => P3 k_) (.slice A3 l.length c3) l) (hr4_10 : Kd.C (Kd.int .i64) w A4 v.length v) (hc4_10 : v.length ≤ c4) (h : switchboardlaw18_NodeExact.f k n ls e hs me l a0 a1 a2 a3 a4 a5 a6 a7 a8 a9 v = some true) :
 Calls Try.prog 3 #[.agg #[.int .i64 n, .slice A0 ls.length c0], .agg #[.int .i64 e, .slice A1 hs.length c1], .int .i64 me, .slice A3 l.length c3, .agg #[.int .i64 a0, .int .i64 a1, .int .i64 a2, .int .i64 a3, .int .i64 a4, .int .i64 a5, .int .i64 a6, .int .i64 a7, .int .i64 a8, .int .i64 a9, .slice A4 v.length c4]] w fun e w' => e = .returned (.bool true) ∧ Below w.heap.size w w' := by
 have hu24 := Try.underlying24; have hu27 := Try.underlying27; have hu31 := Try.underlying31; have hu37 := Try.underlying37; have hu39 := Try.underlying39; have hu42 := Try.underlying42; have hu45 := Try.underlying45; clear h; have HR0 := Aside0.mk hr0_1; have HC0 := Aside0.mk hc0_1; have HR1 := Aside0.mk hr1_1; have HC1 := Aside0.mk hc1_1; have HR4 := Aside0.mk hr4_10; have HC4 := Aside0.mk hc4_10
 have HV := Aside0.mk (Kd.V_mono (ok' := fun k => k < w.heap.size) (Kd.V_bound hs3) (fun k hk => hk.2))
 clear hr0_1 hc0_1 hr1_1 hc1_1 hs3 hr4_10 hc4_10
 have HL0 := Aside0.mk (LX.start w #[.int .i64 n, .slice A0 ls.length c0] #[.int .i64 e, .slice A1 hs.length c1] #[.int .i64 a0, .int .i64 a1, .int .i64 a2, .int .i64 a3, .int .i64 a4, .int .i64 a5, .int .i64 a6, .int .i64 a7, .int .i64 a8, .int .i64 a9, .slice A4 v.length c4])
 obtain ⟨b1, hb1, qb1⟩ := msmall_ev n ls
 obtain ⟨k1, hb1⟩ := hb1.rounds
 have S1 := Aside0.mk hb1; clear hb1; cases b1
 case false =>
  go_enter Try.func3, Try.ntmps3
  go_wp2_with (first | (go_at_call 7; (with_reducible refine (switchboardref15_Small.calls k1 n A0 c0 ls false _ (Kd.C_below HR0.out HL0.out.hb) HC0.out S1.out).mono ?_); rintro e_ w1 ⟨rfl, hb⟩; have HL1 := Aside0.mk (HL0.out.below hb); have hm0 : w1.cell? ⟨w.heap.size, 0, none⟩ = some (.int .i64 n) := (blk_cell HL1.out.m 0).trans rfl; have hm1 : w1.cell? ⟨w.heap.size, 1, none⟩ = some (.slice A0 ls.length c0) := (blk_cell HL1.out.m 1).trans rfl; have hp0 : w1.cell? ⟨w.heap.size + 1, 0, none⟩ = some (.int .i64 e) := (blk_cell HL1.out.p 0).trans rfl; have hp1 : w1.cell? ⟨w.heap.size + 1, 1, none⟩ = some (.slice A1 hs.length c1) := (blk_cell HL1.out.p 1).trans rfl; obtain ⟨ha0, ha1, ha2, ha3, ha4, ha5, ha6, ha7, ha8, ha9, ha10⟩ := cells11 HL1.out.a; clear hb) | (go_at_call 9; refine (switchboardlaw18_awake.calls true _ rfl).mono ?_; rintro e_ w9 ⟨rfl, hb⟩; have HB9 := Aside0.mk (below_step HL1.out.hb hb); clear hb))
  go_ret
  exact ⟨rfl, HB9.out⟩
 replace qb1 := qb1 rfl
 obtain ⟨b2, hb2, qb2⟩ := small_ev hs
 obtain ⟨k2, hb2⟩ := hb2.rounds
 have S2 := Aside0.mk hb2; clear hb2; cases b2
 case false =>
  go_enter Try.func3, Try.ntmps3
  go_wp2_with (first | (go_at_call 7; (with_reducible refine (switchboardref15_Small.calls k1 n A0 c0 ls true _ (Kd.C_below HR0.out HL0.out.hb) HC0.out S1.out).mono ?_); rintro e_ w1 ⟨rfl, hb⟩; have HL1 := Aside0.mk (HL0.out.below hb); have hm0 : w1.cell? ⟨w.heap.size, 0, none⟩ = some (.int .i64 n) := (blk_cell HL1.out.m 0).trans rfl; have hm1 : w1.cell? ⟨w.heap.size, 1, none⟩ = some (.slice A0 ls.length c0) := (blk_cell HL1.out.m 1).trans rfl; have hp0 : w1.cell? ⟨w.heap.size + 1, 0, none⟩ = some (.int .i64 e) := (blk_cell HL1.out.p 0).trans rfl; have hp1 : w1.cell? ⟨w.heap.size + 1, 1, none⟩ = some (.slice A1 hs.length c1) := (blk_cell HL1.out.p 1).trans rfl; obtain ⟨ha0, ha1, ha2, ha3, ha4, ha5, ha6, ha7, ha8, ha9, ha10⟩ := cells11 HL1.out.a; clear hb) | (go_at_call 8; (with_reducible refine (switchboardref03_Small.calls k2 A1 c1 hs false _ (Kd.C_below HR1.out HL1.out.hb) HC1.out S2.out).mono ?_); rintro e_ w2 ⟨rfl, hd⟩; have HL2 := Aside0.mk (HL1.out.below hd.below); clear hm0 hm1 hp0 hp1 ha0 ha1 ha2 ha3 ha4 ha5 ha6 ha7 ha8 ha9 ha10; have hm0 : w2.cell? ⟨w.heap.size, 0, none⟩ = some (.int .i64 n) := (blk_cell HL2.out.m 0).trans rfl; have hm1 : w2.cell? ⟨w.heap.size, 1, none⟩ = some (.slice A0 ls.length c0) := (blk_cell HL2.out.m 1).trans rfl; have hp0 : w2.cell? ⟨w.heap.size + 1, 0, none⟩ = some (.int .i64 e) := (blk_cell HL2.out.p 0).trans rfl; have hp1 : w2.cell? ⟨w.heap.size + 1, 1, none⟩ = some (.slice A1 hs.length c1) := (blk_cell HL2.out.p 1).trans rfl; obtain ⟨ha0, ha1, ha2, ha3, ha4, ha5, ha6, ha7, ha8, ha9, ha10⟩ := cells11 HL2.out.a; clear hd) | (go_at_call 9; refine (switchboardlaw18_awake.calls true _ rfl).mono ?_; rintro e_ w9 ⟨rfl, hb⟩; have HB9 := Aside0.mk (below_step HL2.out.hb hb); clear hb))
  go_ret
  exact ⟨rfl, HB9.out⟩
 replace qb2 := qb2 rfl
 by_cases hl60 : l.length ≤ 60
 rotate_left
 ·
  have k6 : decide ((l.length : Int) > 60) = true := decide_eq_true (by omega)
  have k6' : decide (60 < (l.length : Int)) = true := decide_eq_true (by omega)
  have k6n : decide (60 < l.length) = true := decide_eq_true (by omega)
  go_enter Try.func3, Try.ntmps3
  go_wp2_with (first | (go_at_call 7; (with_reducible refine (switchboardref15_Small.calls k1 n A0 c0 ls true _ (Kd.C_below HR0.out HL0.out.hb) HC0.out S1.out).mono ?_); rintro e_ w1 ⟨rfl, hb⟩; have HL1 := Aside0.mk (HL0.out.below hb); have hm0 : w1.cell? ⟨w.heap.size, 0, none⟩ = some (.int .i64 n) := (blk_cell HL1.out.m 0).trans rfl; have hm1 : w1.cell? ⟨w.heap.size, 1, none⟩ = some (.slice A0 ls.length c0) := (blk_cell HL1.out.m 1).trans rfl; have hp0 : w1.cell? ⟨w.heap.size + 1, 0, none⟩ = some (.int .i64 e) := (blk_cell HL1.out.p 0).trans rfl; have hp1 : w1.cell? ⟨w.heap.size + 1, 1, none⟩ = some (.slice A1 hs.length c1) := (blk_cell HL1.out.p 1).trans rfl; obtain ⟨ha0, ha1, ha2, ha3, ha4, ha5, ha6, ha7, ha8, ha9, ha10⟩ := cells11 HL1.out.a; clear hb) | (go_at_call 8; (with_reducible refine (switchboardref03_Small.calls k2 A1 c1 hs true _ (Kd.C_below HR1.out HL1.out.hb) HC1.out S2.out).mono ?_); rintro e_ w2 ⟨rfl, hd⟩; have HL2 := Aside0.mk (HL1.out.below hd.below); clear hm0 hm1 hp0 hp1 ha0 ha1 ha2 ha3 ha4 ha5 ha6 ha7 ha8 ha9 ha10; have hm0 : w2.cell? ⟨w.heap.size, 0, none⟩ = some (.int .i64 n) := (blk_cell HL2.out.m 0).trans rfl; have hm1 : w2.cell? ⟨w.heap.size, 1, none⟩ = some (.slice A0 ls.length c0) := (blk_cell HL2.out.m 1).trans rfl; have hp0 : w2.cell? ⟨w.heap.size + 1, 0, none⟩ = some (.int .i64 e) := (blk_cell HL2.out.p 0).trans rfl; have hp1 : w2.cell? ⟨w.heap.size + 1, 1, none⟩ = some (.slice A1 hs.length c1) := (blk_cell HL2.out.p 1).trans rfl; obtain ⟨ha0, ha1, ha2, ha3, ha4, ha5, ha6, ha7, ha8, ha9, ha10⟩ := cells11 HL2.out.a; clear hd) | (go_at_call 9; refine (switchboardlaw18_awake.calls true _ rfl).mono ?_; rintro e_ w9 ⟨rfl, hb⟩; have HB9 := Aside0.mk (below_step HL2.out.hb hb); clear hb))
  go_ret
  exact ⟨rfl, HB9.out⟩
 have k6 : decide ((l.length : Int) > 60) = false := decide_eq_false (by omega)
 have k6' : decide (60 < (l.length : Int)) = false := decide_eq_false (by omega)
 have k6n : decide (60 < l.length) = false := decide_eq_false (by omega)
 by_cases hv30 : v.length ≤ 30
 rotate_left
 ·
  have k7 : decide ((v.length : Int) > 30) = true := decide_eq_true (by omega)
  have k7' : decide (30 < (v.length : Int)) = true := decide_eq_true (by omega)
  have k7n : decide (30 < v.length) = true := decide_eq_true (by omega)
  go_enter Try.func3, Try.ntmps3
  go_wp2_with (first | (go_at_call 7; (with_reducible refine (switchboardref15_Small.calls k1 n A0 c0 ls true _ (Kd.C_below HR0.out HL0.out.hb) HC0.out S1.out).mono ?_); rintro e_ w1 ⟨rfl, hb⟩; have HL1 := Aside0.mk (HL0.out.below hb); have hm0 : w1.cell? ⟨w.heap.size, 0, none⟩ = some (.int .i64 n) := (blk_cell HL1.out.m 0).trans rfl; have hm1 : w1.cell? ⟨w.heap.size, 1, none⟩ = some (.slice A0 ls.length c0) := (blk_cell HL1.out.m 1).trans rfl; have hp0 : w1.cell? ⟨w.heap.size + 1, 0, none⟩ = some (.int .i64 e) := (blk_cell HL1.out.p 0).trans rfl; have hp1 : w1.cell? ⟨w.heap.size + 1, 1, none⟩ = some (.slice A1 hs.length c1) := (blk_cell HL1.out.p 1).trans rfl; obtain ⟨ha0, ha1, ha2, ha3, ha4, ha5, ha6, ha7, ha8, ha9, ha10⟩ := cells11 HL1.out.a; clear hb) | (go_at_call 8; (with_reducible refine (switchboardref03_Small.calls k2 A1 c1 hs true _ (Kd.C_below HR1.out HL1.out.hb) HC1.out S2.out).mono ?_); rintro e_ w2 ⟨rfl, hd⟩; have HL2 := Aside0.mk (HL1.out.below hd.below); clear hm0 hm1 hp0 hp1 ha0 ha1 ha2 ha3 ha4 ha5 ha6 ha7 ha8 ha9 ha10; have hm0 : w2.cell? ⟨w.heap.size, 0, none⟩ = some (.int .i64 n) := (blk_cell HL2.out.m 0).trans rfl; have hm1 : w2.cell? ⟨w.heap.size, 1, none⟩ = some (.slice A0 ls.length c0) := (blk_cell HL2.out.m 1).trans rfl; have hp0 : w2.cell? ⟨w.heap.size + 1, 0, none⟩ = some (.int .i64 e) := (blk_cell HL2.out.p 0).trans rfl; have hp1 : w2.cell? ⟨w.heap.size + 1, 1, none⟩ = some (.slice A1 hs.length c1) := (blk_cell HL2.out.p 1).trans rfl; obtain ⟨ha0, ha1, ha2, ha3, ha4, ha5, ha6, ha7, ha8, ha9, ha10⟩ := cells11 HL2.out.a; clear hd) | (go_at_call 9; refine (switchboardlaw18_awake.calls true _ rfl).mono ?_; rintro e_ w9 ⟨rfl, hb⟩; have HB9 := Aside0.mk (below_step HL2.out.hb hb); clear hb))
  go_ret
  exact ⟨rfl, HB9.out⟩
 have k7 : decide ((v.length : Int) > 30) = false := decide_eq_false (by omega)
 have k7' : decide (30 < (v.length : Int)) = false := decide_eq_false (by omega)
 have k7n : decide (30 < v.length) = false := decide_eq_false (by omega)
 have HL60 := Aside0.mk hl60; have HV30 := Aside0.mk hv30; have HFM := Aside0.mk qb1; have HFP := Aside0.mk qb2; clear qb1 qb2 hl60 hv30
 go_enter Try.func3, Try.ntmps3
 go_upto_region 3 with (first | (go_at_call 7; (with_reducible refine (switchboardref15_Small.calls k1 n A0 c0 ls true _ (Kd.C_below HR0.out HL0.out.hb) HC0.out S1.out).mono ?_); rintro e_ w1 ⟨rfl, hb⟩; have HL1 := Aside0.mk (HL0.out.below hb); have hm0 : w1.cell? ⟨w.heap.size, 0, none⟩ = some (.int .i64 n) := (blk_cell HL1.out.m 0).trans rfl; have hm1 : w1.cell? ⟨w.heap.size, 1, none⟩ = some (.slice A0 ls.length c0) := (blk_cell HL1.out.m 1).trans rfl; have hp0 : w1.cell? ⟨w.heap.size + 1, 0, none⟩ = some (.int .i64 e) := (blk_cell HL1.out.p 0).trans rfl; have hp1 : w1.cell? ⟨w.heap.size + 1, 1, none⟩ = some (.slice A1 hs.length c1) := (blk_cell HL1.out.p 1).trans rfl; obtain ⟨ha0, ha1, ha2, ha3, ha4, ha5, ha6, ha7, ha8, ha9, ha10⟩ := cells11 HL1.out.a; clear hb) | (go_at_call 8; (with_reducible refine (switchboardref03_Small.calls k2 A1 c1 hs true _ (Kd.C_below HR1.out HL1.out.hb) HC1.out S2.out).mono ?_); rintro e_ w2 ⟨rfl, hd⟩; have HL2 := Aside0.mk (HL1.out.below hd.below); clear hm0 hm1 hp0 hp1 ha0 ha1 ha2 ha3 ha4 ha5 ha6 ha7 ha8 ha9 ha10; have hm0 : w2.cell? ⟨w.heap.size, 0, none⟩ = some (.int .i64 n) := (blk_cell HL2.out.m 0).trans rfl; have hm1 : w2.cell? ⟨w.heap.size, 1, none⟩ = some (.slice A0 ls.length c0) := (blk_cell HL2.out.m 1).trans rfl; have hp0 : w2.cell? ⟨w.heap.size + 1, 0, none⟩ = some (.int .i64 e) := (blk_cell HL2.out.p 0).trans rfl; have hp1 : w2.cell? ⟨w.heap.size + 1, 1, none⟩ = some (.slice A1 hs.length c1) := (blk_cell HL2.out.p 1).trans rfl; obtain ⟨ha0, ha1, ha2, ha3, ha4, ha5, ha6, ha7, ha8, ha9, ha10⟩ := cells11 HL2.out.a; clear hd))
 clear HL0 HL1 k6 k6' k6n k7 k7' k7n hm0 hm1 hp0 hp1 ha0 ha1 ha2 ha3 ha4 ha5 ha6 ha7 ha8 ha9 ha10
 have HS2 := Aside0.mk (below_size HL2.out.hb)
 have HV2 := Aside0.mk (show Kd.V k39 39 w2 w2.heap.size (fun k => k < w.heap.size) (.slice A3 l.length c3) l from Kd.V_below HV.out HL2.out.hb)
 have hl6 : (l.length : Int) < 1000000 := by have := HL60.out; omega
 go_wp2
 go_loopw [11, 45] (fun v11 v45 W => ∃ (i : Nat), v45 = .int .i64 (i : Int) ∧ Aside0 (i ≤ l.length) ∧ Aside0 (∀ x ∈ l.take i, x.f1.length ≤ 30) ∧ Aside0 (Below w2.heap.size w2 W) ∧ Aside0 (Kd.N k42 42 W w2.heap.size (fun _ => True) v11 ((l.take i).map cvE))) (fun _ v45 _ => l.length - (intOf v45).toNat)
 case atStart => exact ⟨0, rfl, ⟨by omega⟩, ⟨by simp⟩, ⟨Below.refl _ _⟩, ⟨Kd.N_nil _ _ _ _ _⟩⟩
 case round =>
  obtain ⟨i, rfl, HI, HX, HBW, HN⟩ := hrel
  by_cases hlt : i < l.length
  rotate_left
  ·
   have k1 : decide ((i : Int) < (l.length : Int)) = false := decide_eq_false (by omega)
   have k1n : decide (i < l.length) = false := decide_eq_false hlt
   have HT : Aside0 (l.take i = l) := ⟨List.take_of_length_le (by omega)⟩
   rw [HT.out] at HX HN
   clear HI HT
   obtain ⟨XS, hXS⟩ : ∃ XS, XS = l.map cvE := ⟨_, rfl⟩
   rw [← hXS] at HN
   have HXL : Aside0 (XS.length = l.length) := ⟨by rw [hXS, List.length_map]⟩
   have HXS := Aside0.mk hXS; clear hXS
   go_upto_region 11 with (fail)
   clear k1 k1n hlt
   obtain ⟨A11, c11, hu11⟩ := Kd.N_slice HN.out
   subst hu11; have HLL := Aside0.mk (HL2.out.below HBW.out)
   have HVL := Aside0.mk (show Kd.V k39 39 wr wr.heap.size (fun k => k < w.heap.size) (.slice A3 l.length c3) l from Kd.V_below HV.out HLL.out.hb)
   obtain ⟨bR, bM, bA, bT, fr, hF, hor⟩ := node_all n ls e hs me l a0 a1 a2 a3 a4 a5 a6 a7 a8 a9 v HFM.out HFP.out HL60.out HV30.out HX.out
   have HFH := Aside0.mk hF
   obtain ⟨r1, q0, q1, q2, q3, q4, q5, q6, q7, q8, q9, qv, ok, hW, hG⟩ : ∃ (r1 : List S39) (q0 q1 q2 q3 q4 q5 q6 q7 q8 q9 : Int) (qv : List Int) (ok : Bool), Ev (fun k => node_Work.f k n ls e hs me l a0 a1 a2 a3 a4 a5 a6 a7 a8 a9 v) (r1, q0, q1, q2, q3, q4, q5, q6, q7, q8, q9, qv, ok) ∧ ((fr = false ∧ l = r1 ∧ (0, 0, 0, 0, 0, 0, 0, 0, 0, 0, [], false) = (q0, q1, q2, q3, q4, q5, q6, q7, q8, q9, qv, ok)) ∨ (fr = true ∧ ok = true ∧ ∃ hB at_ k0 rv r, WorkH n ls e hs me (l.map cvE) a0 a1 a2 a3 a4 a5 a6 a7 a8 a9 v hB at_ k0 rv r ∧ (k0, me, a1, a3, a4, a5, a6, a7, a8, e, rv) = (q0, q1, q2, q3, q4, q5, q6, q7, q8, q9, qv) ∧ rv.length ≤ 30 ∧ (r = false → l = r1) ∧ (r = true → r1.length = l.length + 1 ∧ rd_T39 r1 (l.length : Int) = ⟨⟨a4, a5, a6, a7⟩, rv⟩))) := by
    rcases hor with ⟨hf, hw⟩ | ⟨hf, hB, at_, k0, rv, r, r1, hwh, hw, h3, h4, h5⟩
    ·
     exact ⟨_, _, _, _, _, _, _, _, _, _, _, _, _, hw, .inl ⟨hf, rfl, rfl⟩⟩
    ·
     exact ⟨_, _, _, _, _, _, _, _, _, _, _, _, _, hw, .inr ⟨hf, rfl, hB, at_, k0, rv, r, hwh, rfl, h3, fun h_ => (h4 h_).symm, h5⟩⟩
   obtain ⟨kW, hkW⟩ := hW.rounds
   have HWE := Aside0.mk hkW; have HG := Aside0.mk hG; clear hF hor hW hG hkW
   have hm0 : wr.cell? ⟨w.heap.size, 0, none⟩ = some (.int .i64 n) := (blk_cell HLL.out.m 0).trans rfl
   have hm1 : wr.cell? ⟨w.heap.size, 1, none⟩ = some (.slice A0 ls.length c0) := (blk_cell HLL.out.m 1).trans rfl
   have hp0 : wr.cell? ⟨w.heap.size + 1, 0, none⟩ = some (.int .i64 e) := (blk_cell HLL.out.p 0).trans rfl
   have hp1 : wr.cell? ⟨w.heap.size + 1, 1, none⟩ = some (.slice A1 hs.length c1) := (blk_cell HLL.out.p 1).trans rfl
   obtain ⟨ha0, ha1, ha2, ha3, ha4, ha5, ha6, ha7, ha8, ha9, ha10⟩ := cells11 HLL.out.a
   go_upto_region 12 with ((go_at_call 10; have R_ := node_Work.calls kW n A0 c0 ls e A1 c1 hs me (fun k => k < w.heap.size) A3 c3 l a0 a1 a2 a3 a4 a5 a6 a7 a8 a9 A4 c4 v r1 q0 q1 q2 q3 q4 q5 q6 q7 q8 q9 qv ok wr (Kd.C_below HR0.out HLL.out.hb) HC0.out (Kd.C_below HR1.out HLL.out.hb) HC1.out HVL.out (Kd.C_below HR4.out HLL.out.hb) HC4.out HWE.out; refine R_.mono ?_; clear R_; rintro e_ w5 ⟨v0, v11, rfl, hv0, hv11, hb⟩; obtain ⟨A5, c5, rfl⟩ := Kd.V_slice hv0; obtain ⟨A6, c6, rfl⟩ := Kd.R_slice hv11; have HV5 := Aside0.mk hv0; have HR5 := Aside0.mk hv11; have HL5 := Aside0.mk (HLL.out.below hb); have HN5 := Aside0.mk (Kd.N_below HN.out hb); clear hb hv0 hv11 hm0 hm1 hp0 hp1 ha0 ha1 ha2 ha3 ha4 ha5 ha6 ha7 ha8 ha9 ha10))
   clear HLL HVL HBW HN
   have HL6 := Aside0.mk (HL5.out.below (below_alloc (Below.refl w5.heap.size w5) (.cells #[.int .i64 q0, .int .i64 q1, .int .i64 q2, .int .i64 q3, .int .i64 q4, .int .i64 q5, .int .i64 q6, .int .i64 q7, .int .i64 q8, .int .i64 q9, .slice A6 qv.length c6] 31)))
   have HV6 := Aside0.mk (Kd.V_alloc HV5.out (.cells #[.int .i64 q0, .int .i64 q1, .int .i64 q2, .int .i64 q3, .int .i64 q4, .int .i64 q5, .int .i64 q6, .int .i64 q7, .int .i64 q8, .int .i64 q9, .slice A6 qv.length c6] 31))
   have HR6 := Aside0.mk (Kd.R_alloc HR5.out (.cells #[.int .i64 q0, .int .i64 q1, .int .i64 q2, .int .i64 q3, .int .i64 q4, .int .i64 q5, .int .i64 q6, .int .i64 q7, .int .i64 q8, .int .i64 q9, .slice A6 qv.length c6] 31))
   have HN6 := Aside0.mk (Kd.N_alloc HN5.out (.cells #[.int .i64 q0, .int .i64 q1, .int .i64 q2, .int .i64 q3, .int .i64 q4, .int .i64 q5, .int .i64 q6, .int .i64 q7, .int .i64 q8, .int .i64 q9, .slice A6 qv.length c6] 31))
   have HK6 : Aside0 ((w5.alloc (.cells #[.int .i64 q0, .int .i64 q1, .int .i64 q2, .int .i64 q3, .int .i64 q4, .int .i64 q5, .int .i64 q6, .int .i64 q7, .int .i64 q8, .int .i64 q9, .slice A6 qv.length c6] 31)).heap[w5.heap.size]? = some (.cells #[.int .i64 q0, .int .i64 q1, .int .i64 q2, .int .i64 q3, .int .i64 q4, .int .i64 q5, .int .i64 q6, .int .i64 q7, .int .i64 q8, .int .i64 q9, .slice A6 qv.length c6] 31 (0, 0))) := ⟨heap_alloc_new _ _⟩
   clear HL5 HV5 HR5 HN5
   generalize w5.alloc (.cells #[.int .i64 q0, .int .i64 q1, .int .i64 q2, .int .i64 q3, .int .i64 q4, .int .i64 q5, .int .i64 q6, .int .i64 q7, .int .i64 q8, .int .i64 q9, .slice A6 qv.length c6] 31) = w6 at HL6 HV6 HR6 HN6 HK6 ⊢
   have hp0 : w6.cell? ⟨w.heap.size + 1, 0, none⟩ = some (.int .i64 e) := (blk_cell HL6.out.p 0).trans rfl
   have hp1 : w6.cell? ⟨w.heap.size + 1, 1, none⟩ = some (.slice A1 hs.length c1) := (blk_cell HL6.out.p 1).trans rfl
   go_upto_region 13 with (fail)
   clear hp0 hp1
   have HL7 := Aside0.mk (HL6.out.below (below_alloc (Below.refl w6.heap.size w6) (.cells #[.int .i64 e, .slice A1 hs.length c1] 45)))
   have HV7 := Aside0.mk (Kd.V_alloc HV6.out (.cells #[.int .i64 e, .slice A1 hs.length c1] 45))
   have HR7 := Aside0.mk (Kd.R_alloc HR6.out (.cells #[.int .i64 e, .slice A1 hs.length c1] 45))
   have HN7 := Aside0.mk (Kd.N_alloc HN6.out (.cells #[.int .i64 e, .slice A1 hs.length c1] 45))
   have HK7 := Aside0.mk (blk_alloc HK6.out (.cells #[.int .i64 e, .slice A1 hs.length c1] 45))
   have HQ7 : Aside0 ((w6.alloc (.cells #[.int .i64 e, .slice A1 hs.length c1] 45)).heap[w6.heap.size]? = some (.cells #[.int .i64 e, .slice A1 hs.length c1] 45 (0, 0))) := ⟨heap_alloc_new _ _⟩
   clear HL6 HV6 HR6 HN6 HK6
   generalize w6.alloc (.cells #[.int .i64 e, .slice A1 hs.length c1] 45) = w7 at HL7 HV7 HR7 HN7 HK7 HQ7 ⊢
   have hm0 : w7.cell? ⟨w.heap.size, 0, none⟩ = some (.int .i64 n) := (blk_cell HL7.out.m 0).trans rfl
   have hm1 : w7.cell? ⟨w.heap.size, 1, none⟩ = some (.slice A0 ls.length c0) := (blk_cell HL7.out.m 1).trans rfl
   obtain ⟨ha0, ha1, ha2, ha3, ha4, ha5, ha6, ha7, ha8, ha9, ha10⟩ := cells11 HL7.out.a
   have hq_0 : w7.cell? ⟨w6.heap.size, 0, none⟩ = some (.int .i64 e) := (blk_cell HQ7.out 0).trans rfl
   have hq_1 : w7.cell? ⟨w6.heap.size, 1, none⟩ = some (.slice A1 hs.length c1) := (blk_cell HQ7.out 1).trans rfl
   rcases HG.out with ⟨rfl, rfl, hq⟩ | ⟨rfl, rfl, hB, at_, k0, rv, r, hwh, hq, hr30, hrf, hrt⟩
   ·
    simp only [Prod.mk.injEq] at hq
    obtain ⟨rfl, rfl, rfl, rfl, rfl, rfl, rfl, rfl, rfl, rfl, hqv, rfl⟩ := hq
    have hse : Ev (fun k => switchboardref07_Same.f k 0 0 0 0 0 0 0 0 0 0 qv 0 0 0 0 0 0 0 0 0 0 []) true := by rw [← hqv]; exact same07 0 0 0 0 0 0 0 0 0 0 (by simp)
    obtain ⟨kS, hkS⟩ := hse.rounds
    have HSE := Aside0.mk hkS; clear hse hkS hqv HG
    go_wp2_with (first | (go_at_call 11; have R_ := switchboardref18_Fits.calls n A0 c0 ls e A1 c1 hs me a0 a1 a2 a3 a4 a5 a6 a7 a8 a9 A4 c4 v bR bM bA bT false w7 (Kd.C_below HR0.out HL7.out.hb) HC0.out (Kd.C_below HR1.out HL7.out.hb) HC1.out (Kd.C_below HR4.out HL7.out.hb) HC4.out HFH.out; refine R_.mono ?_; clear R_; rintro e_ w8 ⟨rfl, hb⟩; have HL8 := Aside0.mk (HL7.out.below hb); have HV8 := Aside0.mk (Kd.V_below HV7.out hb); have HR8 := Aside0.mk (Kd.R_below HR7.out hb); have HN8 := Aside0.mk (Kd.N_below HN7.out hb); have HK8 := Aside0.mk (blk_below HK7.out hb); have HQ8 := Aside0.mk (blk_below HQ7.out hb); clear hb hm0 hm1 ha0 ha1 ha2 ha3 ha4 ha5 ha6 ha7 ha8 ha9 ha10 hq_0 hq_1; obtain ⟨hb_0, hb_1, hb_2, hb_3, hb_4, hb_5, hb_6, hb_7, hb_8, hb_9, hb_10⟩ := cells11 HK8.out) | (go_at_call 12; have R_ := switchboardref07_Same.calls kS 0 0 0 0 0 0 0 0 0 0 A6 c6 qv 0 0 0 0 0 0 0 0 0 0 none 0 [] true w8 (Kd.R_reads' HR8.out).2.2 (Kd.R_reads' HR8.out).2.1 (Kd.C_nil _ _) (Nat.le_refl 0) HSE.out; refine R_.mono ?_; clear R_; rintro e_ w10 ⟨rfl, hb⟩; have HL10 := Aside0.mk (HL8.out.below hb); clear hb hb_0 hb_1 hb_2 hb_3 hb_4 hb_5 hb_6 hb_7 hb_8 hb_9 hb_10) | (go_at_call 9; refine (switchboardlaw18_awake.calls true _ rfl).mono ?_; rintro e_ w9 ⟨rfl, hb⟩; have HB9 := Aside0.mk (below_step HL10.out.hb hb); clear hb))
    go_ret
    exact ⟨rfl, HB9.out⟩
   ·
    simp only [Prod.mk.injEq] at hq
    obtain ⟨rfl, rfl, rfl, rfl, rfl, rfl, rfl, rfl, rfl, rfl, rfl⟩ := hq
    rw [← HXS.out] at hwh
    have HWH := Aside0.mk hwh; have HR30 := Aside0.mk hr30; have HRF := Aside0.mk hrf; have HRT := Aside0.mk hrt
    obtain ⟨kS, hkS⟩ := (same07 k0 me a1 a3 a4 a5 a6 a7 a8 e (x := rv) (by omega)).rounds
    have HSE := Aside0.mk hkS; clear hwh hr30 hrf hrt hkS HG HXS
    go_upto_region 16 with (first | (go_at_call 11; have R_ := switchboardref18_Fits.calls n A0 c0 ls e A1 c1 hs me a0 a1 a2 a3 a4 a5 a6 a7 a8 a9 A4 c4 v bR bM bA bT true w7 (Kd.C_below HR0.out HL7.out.hb) HC0.out (Kd.C_below HR1.out HL7.out.hb) HC1.out (Kd.C_below HR4.out HL7.out.hb) HC4.out HFH.out; refine R_.mono ?_; clear R_; rintro e_ w8 ⟨rfl, hb⟩; have HL8 := Aside0.mk (HL7.out.below hb); have HV8 := Aside0.mk (Kd.V_below HV7.out hb); have HR8 := Aside0.mk (Kd.R_below HR7.out hb); have HN8 := Aside0.mk (Kd.N_below HN7.out hb); have HK8 := Aside0.mk (blk_below HK7.out hb); have HQ8 := Aside0.mk (blk_below HQ7.out hb); clear hb hm0 hm1 ha0 ha1 ha2 ha3 ha4 ha5 ha6 ha7 ha8 ha9 ha10 hq_0 hq_1; obtain ⟨hb_0, hb_1, hb_2, hb_3, hb_4, hb_5, hb_6, hb_7, hb_8, hb_9, hb_10⟩ := cells11 HK8.out; have hm0 : w8.cell? ⟨w.heap.size, 0, none⟩ = some (.int .i64 n) := (blk_cell HL8.out.m 0).trans rfl; have hm1 : w8.cell? ⟨w.heap.size, 1, none⟩ = some (.slice A0 ls.length c0) := (blk_cell HL8.out.m 1).trans rfl; obtain ⟨ha0, ha1, ha2, ha3, ha4, ha5, ha6, ha7, ha8, ha9, ha10⟩ := cells11 HL8.out.a; have hq_0 : w8.cell? ⟨w6.heap.size, 0, none⟩ = some (.int .i64 e) := (blk_cell HQ8.out 0).trans rfl; have hq_1 : w8.cell? ⟨w6.heap.size, 1, none⟩ = some (.slice A1 hs.length c1) := (blk_cell HQ8.out 1).trans rfl) | (go_at_call 13; have R_ := switchboardref18_Work.calls n A0 c0 ls e A1 c1 hs me A11 c11 XS a0 a1 a2 a3 a4 a5 a6 a7 a8 a9 A4 c4 v hB at_ k0 rv r w8 (Kd.C_below HR0.out HL8.out.hb) HC0.out (Kd.C_below HR1.out HL8.out.hb) HC1.out (Kd.N_reads' HN8.out).2.2 (Kd.N_reads' HN8.out).2.1 (Kd.C_below HR4.out HL8.out.hb) HC4.out HWH.out; refine R_.mono ?_; clear R_; rintro e_ w10 ⟨A7, c7, rfl, hl7, hC7, hb⟩; have HL10 := Aside0.mk (HL8.out.below hb); have HV10 := Aside0.mk (Kd.V_below HV8.out hb); have HR10 := Aside0.mk (Kd.R_below HR8.out hb); have HK10 := Aside0.mk (blk_below HK8.out hb); have HLE7 := Aside0.mk hl7; have HC7 := Aside0.mk hC7; clear hb hl7 hC7 hm0 hm1 ha0 ha1 ha2 ha3 ha4 ha5 ha6 ha7 ha8 ha9 ha10 hq_0 hq_1 hb_0 hb_1 hb_2 hb_3 hb_4 hb_5 hb_6 hb_7 hb_8 hb_9 hb_10))
    clear HL7 HV7 HR7 HN7 HK7 HQ7 HL8 HV8 HR8 HN8 HK8 HQ8; skip
    have HL12 := Aside0.mk (HL10.out.below (below_alloc (Below.refl w10.heap.size w10) (.cells #[.int .i64 k0, .int .i64 me, .int .i64 a1, .int .i64 a3, .int .i64 a4, .int .i64 a5, .int .i64 a6, .int .i64 a7, .int .i64 a8, .int .i64 e, .slice A7 rv.length c7] 31)))
    have HV12 := Aside0.mk (Kd.V_alloc HV10.out (.cells #[.int .i64 k0, .int .i64 me, .int .i64 a1, .int .i64 a3, .int .i64 a4, .int .i64 a5, .int .i64 a6, .int .i64 a7, .int .i64 a8, .int .i64 e, .slice A7 rv.length c7] 31))
    have HR12 := Aside0.mk (Kd.R_alloc HR10.out (.cells #[.int .i64 k0, .int .i64 me, .int .i64 a1, .int .i64 a3, .int .i64 a4, .int .i64 a5, .int .i64 a6, .int .i64 a7, .int .i64 a8, .int .i64 e, .slice A7 rv.length c7] 31))
    have HK12 := Aside0.mk (blk_alloc HK10.out (.cells #[.int .i64 k0, .int .i64 me, .int .i64 a1, .int .i64 a3, .int .i64 a4, .int .i64 a5, .int .i64 a6, .int .i64 a7, .int .i64 a8, .int .i64 e, .slice A7 rv.length c7] 31))
    have HC12 := Aside0.mk (Kd.C_alloc HC7.out (.cells #[.int .i64 k0, .int .i64 me, .int .i64 a1, .int .i64 a3, .int .i64 a4, .int .i64 a5, .int .i64 a6, .int .i64 a7, .int .i64 a8, .int .i64 e, .slice A7 rv.length c7] 31))
    have HW12 : Aside0 ((w10.alloc (.cells #[.int .i64 k0, .int .i64 me, .int .i64 a1, .int .i64 a3, .int .i64 a4, .int .i64 a5, .int .i64 a6, .int .i64 a7, .int .i64 a8, .int .i64 e, .slice A7 rv.length c7] 31)).heap[w10.heap.size]? = some (.cells #[.int .i64 k0, .int .i64 me, .int .i64 a1, .int .i64 a3, .int .i64 a4, .int .i64 a5, .int .i64 a6, .int .i64 a7, .int .i64 a8, .int .i64 e, .slice A7 rv.length c7] 31 (0, 0))) := ⟨heap_alloc_new _ _⟩
    clear HL10 HV10 HR10 HK10 HC7
    generalize w10.alloc (.cells #[.int .i64 k0, .int .i64 me, .int .i64 a1, .int .i64 a3, .int .i64 a4, .int .i64 a5, .int .i64 a6, .int .i64 a7, .int .i64 a8, .int .i64 e, .slice A7 rv.length c7] 31) = w12 at HL12 HV12 HR12 HK12 HC12 HW12 ⊢
    obtain ⟨hb_0, hb_1, hb_2, hb_3, hb_4, hb_5, hb_6, hb_7, hb_8, hb_9, hb_10⟩ := cells11 HK12.out
    obtain ⟨hw_0, hw_1, hw_2, hw_3, hw_4, hw_5, hw_6, hw_7, hw_8, hw_9, hw_10⟩ := cells11 HW12.out
    cases r
    case false =>
     have hrl := HRF.out rfl
     subst hrl
     go_wp2_with (first | (go_at_call 12; have R_ := switchboardref07_Same.calls kS k0 me a1 a3 a4 a5 a6 a7 a8 e A6 c6 rv k0 me a1 a3 a4 a5 a6 a7 a8 e A7 c7 rv true w12 (Kd.R_reads' HR12.out).2.2 (Kd.R_reads' HR12.out).2.1 HC12.out HLE7.out HSE.out; refine R_.mono ?_; clear R_; rintro e_ w14 ⟨rfl, hb⟩; have HL14 := Aside0.mk (HL12.out.below hb); have HV14 := Aside0.mk (Kd.V_below HV12.out hb); have HC14 := Aside0.mk (Kd.C_below HC12.out hb); have HW14 := Aside0.mk (blk_below HW12.out hb); clear hb hb_0 hb_1 hb_2 hb_3 hb_4 hb_5 hb_6 hb_7 hb_8 hb_9 hb_10 hw_0 hw_1 hw_2 hw_3 hw_4 hw_5 hw_6 hw_7 hw_8 hw_9 hw_10) | (go_at_call 9; refine (switchboardlaw18_awake.calls true _ rfl).mono ?_; rintro e_ w9 ⟨rfl, hb⟩; have HB9 := Aside0.mk (below_step HL14.out.hb hb); clear hb))
     go_ret
     exact ⟨rfl, HB9.out⟩
    case true =>
     obtain ⟨hrl, hrd⟩ := HRT.out rfl
     obtain ⟨m, hm⟩ : ∃ m, m = r1.length := ⟨_, rfl⟩
     have HMR := Aside0.mk hm
     have HML : Aside0 (m = l.length + 1) := ⟨by omega⟩
     have HRD := Aside0.mk hrd
     rw [← hm]
     clear hrl hrd hm
     have hw1 : (l.length : Int) + 1 = (m : Int) := by have := HML.out; omega
     have kq1 : decide ((m : Int) = (l.length : Int) + 1) = true := decide_eq_true (by omega)
     have kq2 : decide (¬ (m : Int) = (l.length : Int) + 1) = false := decide_eq_false (by omega)
     go_upto_region 22 with ((go_at_call 12; have R_ := switchboardref07_Same.calls kS k0 me a1 a3 a4 a5 a6 a7 a8 e A6 c6 rv k0 me a1 a3 a4 a5 a6 a7 a8 e A7 c7 rv true w12 (Kd.R_reads' HR12.out).2.2 (Kd.R_reads' HR12.out).2.1 HC12.out HLE7.out HSE.out; refine R_.mono ?_; clear R_; rintro e_ w14 ⟨rfl, hb⟩; have HL14 := Aside0.mk (HL12.out.below hb); have HV14 := Aside0.mk (Kd.V_below HV12.out hb); have HC14 := Aside0.mk (Kd.C_below HC12.out hb); have HW14 := Aside0.mk (blk_below HW12.out hb); clear hb hb_0 hb_1 hb_2 hb_3 hb_4 hb_5 hb_6 hb_7 hb_8 hb_9 hb_10 hw_0 hw_1 hw_2 hw_3 hw_4 hw_5 hw_6 hw_7 hw_8 hw_9 hw_10))
     clear hw1 kq1 kq2
     obtain ⟨ar, Br, dr, hA, hz0, hz1, hz2, hz3, hz4, hlr, hCr⟩ := at_T39 (Kd.V_reads' (show Kd.V k39 39 w14 0 _ (.slice A5 r1.length c5) r1 from HV14.out)).2.2 (l.length : Int) (by omega) (by have := HML.out; have := HMR.out; omega)
     subst hA
     rw [HRD.out] at hz0 hz1 hz2 hz3 hz4 hlr hCr
     rw [Int.toNat_natCast] at hz0 hz1 hz2 hz3 hz4
     dsimp only at hz0 hz1 hz2 hz3 hz4 hlr hCr
     have HLR := Aside0.mk hlr; have HCR := Aside0.mk hCr; clear hlr hCr
     have hlm : l.length < m := by have := HML.out; omega
     go_upto_region 23 with (fail)
     clear hz0 hz1 hz2 hz3 hz4 hlm
     have HB16 := Aside0.mk (below_alloc (Below.refl w14.heap.size w14) (.cells #[.int .i64 a4, .int .i64 a5, .int .i64 a6, .int .i64 a7, .slice Br rv.length dr] 39))
     have HL16 := Aside0.mk (HL14.out.below HB16.out)
     have HC16 := Aside0.mk (Kd.C_below HC14.out HB16.out)
     have HCR16 := Aside0.mk (Kd.C_below HCR.out HB16.out)
     have HW16 := Aside0.mk (blk_below HW14.out HB16.out)
     have HF16 : Aside0 ((w14.alloc (.cells #[.int .i64 a4, .int .i64 a5, .int .i64 a6, .int .i64 a7, .slice Br rv.length dr] 39)).heap[w14.heap.size]? = some (.cells #[.int .i64 a4, .int .i64 a5, .int .i64 a6, .int .i64 a7, .slice Br rv.length dr] 39 (0, 0))) := ⟨heap_alloc_new _ _⟩
     clear HB16 HL14 HV14 HC14 HW14 HCR
     generalize w14.alloc (.cells #[.int .i64 a4, .int .i64 a5, .int .i64 a6, .int .i64 a7, .slice Br rv.length dr] 39) = w16 at HL16 HC16 HCR16 HW16 HF16 ⊢
     have hf_0 : w16.cell? ⟨w14.heap.size, 0, none⟩ = some (.int .i64 a4) := (blk_cell HF16.out 0).trans rfl
     have hf_1 : w16.cell? ⟨w14.heap.size, 1, none⟩ = some (.int .i64 a5) := (blk_cell HF16.out 1).trans rfl
     have hf_2 : w16.cell? ⟨w14.heap.size, 2, none⟩ = some (.int .i64 a6) := (blk_cell HF16.out 2).trans rfl
     have hf_3 : w16.cell? ⟨w14.heap.size, 3, none⟩ = some (.int .i64 a7) := (blk_cell HF16.out 3).trans rfl
     have hf_4 : w16.cell? ⟨w14.heap.size, 4, none⟩ = some (.slice Br rv.length dr) := (blk_cell HF16.out 4).trans rfl
     have ha4 : w16.cell? ⟨w.heap.size + 1 + 1, 4, none⟩ = some (.int .i64 a4) := (blk_cell HL16.out.a 4).trans rfl
     have ha5 : w16.cell? ⟨w.heap.size + 1 + 1, 5, none⟩ = some (.int .i64 a5) := (blk_cell HL16.out.a 5).trans rfl
     have ha6 : w16.cell? ⟨w.heap.size + 1 + 1, 6, none⟩ = some (.int .i64 a6) := (blk_cell HL16.out.a 6).trans rfl
     have ha7 : w16.cell? ⟨w.heap.size + 1 + 1, 7, none⟩ = some (.int .i64 a7) := (blk_cell HL16.out.a 7).trans rfl
     have hw_10 : w16.cell? ⟨w10.heap.size, 10, none⟩ = some (.slice A7 rv.length c7) := (blk_cell HW16.out 10).trans rfl
     obtain ⟨k2_, hk2_⟩ := (same_refl rv (by have := HR30.out; omega)).rounds
     have HS2E := Aside0.mk hk2_; clear hk2_
     go_wp2_with (first | (go_at_call 14; have R_ := switchboardref02_Same.calls k2_ Br dr rv A7 c7 rv true w16 HCR16.out HLR.out HC16.out HLE7.out HS2E.out; refine R_.mono ?_; clear R_; rintro e_ w18 ⟨rfl, hd⟩; have HL18 := Aside0.mk (HL16.out.below hd.below); clear hd) | (go_at_call 9; refine (switchboardlaw18_awake.calls true _ rfl).mono ?_; rintro e_ w9 ⟨rfl, hb⟩; have HB9 := Aside0.mk (below_step HL18.out.hb hb); clear hb))
     go_ret
     exact ⟨rfl, HB9.out⟩
  ·
   have k1 : decide ((i : Int) < (l.length : Int)) = true := decide_eq_true (by omega)
   have k1n : decide (i < l.length) = true := decide_eq_true hlt
   have HW1 : Aside0 (wrap64 ((i : Int) + 1) = (i : Int) + 1) := ⟨wrap_small (by omega) (by omega)⟩
   have HIL := Aside0.mk hlt
   obtain ⟨w3, hw3⟩ : ∃ w3, w3 = wr := ⟨_, rfl⟩
   rw [← hw3] at HBW HN ⊢
   clear hw3
   obtain ⟨al, Be, de, hA, hy0, hy1, hy2, hy3, hy4, hle, hFe⟩ := atF_T39 (Kd.V_F (Kd.V_below HV2.out HBW.out)) i hlt
   subst hA
   obtain ⟨y, hy⟩ : ∃ y, y = l.getD i z39 := ⟨_, rfl⟩
   rw [← hy] at hy0 hy1 hy2 hy3 hy4 hle hFe
   have HY := Aside0.mk hy; have HLE := Aside0.mk hle; have HFE := Aside0.mk hFe; clear hy hle hFe
   go_upto_region 7 with (fail)
   clear hy0 hy1 hy2 hy3 hy4
   have HB4 := Aside0.mk (below_alloc HBW.out (.cells #[.int .i64 y.f0.f0, .int .i64 y.f0.f1, .int .i64 y.f0.f2, .int .i64 y.f0.f3, .slice Be y.f1.length de] 39))
   have HE4 : Aside0 ((w3.alloc (.cells #[.int .i64 y.f0.f0, .int .i64 y.f0.f1, .int .i64 y.f0.f2, .int .i64 y.f0.f3, .slice Be y.f1.length de] 39)).heap[w3.heap.size]? = some (.cells #[.int .i64 y.f0.f0, .int .i64 y.f0.f1, .int .i64 y.f0.f2, .int .i64 y.f0.f3, .slice Be y.f1.length de] 39 (0, 0))) := ⟨heap_alloc_new _ _⟩
   have HN4 := Aside0.mk (Kd.N_alloc HN.out (.cells #[.int .i64 y.f0.f0, .int .i64 y.f0.f1, .int .i64 y.f0.f2, .int .i64 y.f0.f3, .slice Be y.f1.length de] 39))
   have HFE4 := Aside0.mk (Kd.F_alloc HFE.out (.cells #[.int .i64 y.f0.f0, .int .i64 y.f0.f1, .int .i64 y.f0.f2, .int .i64 y.f0.f3, .slice Be y.f1.length de] 39))
   clear HN HFE
   generalize w3.alloc (.cells #[.int .i64 y.f0.f0, .int .i64 y.f0.f1, .int .i64 y.f0.f2, .int .i64 y.f0.f3, .slice Be y.f1.length de] 39) = w4 at HB4 HE4 HN4 HFE4 ⊢
   have he0 : w4.cell? ⟨w3.heap.size, 0, none⟩ = some (.int .i64 y.f0.f0) := (blk_cell HE4.out 0).trans rfl
   have he1 : w4.cell? ⟨w3.heap.size, 1, none⟩ = some (.int .i64 y.f0.f1) := (blk_cell HE4.out 1).trans rfl
   have he2 : w4.cell? ⟨w3.heap.size, 2, none⟩ = some (.int .i64 y.f0.f2) := (blk_cell HE4.out 2).trans rfl
   have he3 : w4.cell? ⟨w3.heap.size, 3, none⟩ = some (.int .i64 y.f0.f3) := (blk_cell HE4.out 3).trans rfl
   have he4 : w4.cell? ⟨w3.heap.size, 4, none⟩ = some (.slice Be y.f1.length de) := (blk_cell HE4.out 4).trans rfl
   by_cases h30 : y.f1.length ≤ 30
   rotate_left
   ·
    have k8 : decide ((y.f1.length : Int) > 30) = true := decide_eq_true (by omega)
    have k8' : decide (30 < (y.f1.length : Int)) = true := decide_eq_true (by omega)
    have k8n : decide (30 < y.f1.length) = true := decide_eq_true (by omega)
    go_wp2_with ((go_at_call 9; refine (switchboardlaw18_awake.calls true _ rfl).mono ?_; rintro e_ w9 ⟨rfl, hb⟩; have HB9 := Aside0.mk (below_step (below_step HL2.out.hb HB4.out) hb); clear hb))
    go_ret
    exact ⟨rfl, HB9.out⟩
   have k8 : decide ((y.f1.length : Int) > 30) = false := decide_eq_false (by omega)
   have k8' : decide (30 < (y.f1.length : Int)) = false := decide_eq_false (by omega)
   have k8n : decide (30 < y.f1.length) = false := decide_eq_false (by omega)
   have HX5 := Aside0.mk (take_all hlt HX.out (by rw [← HY.out]; exact h30))
   clear h30 hlt
   go_wp2_with ((at_builtin; refine Kd.N_append k42 (w0 := w2) w2.heap.size rfl (.tmp 54) (.tmp 60) 35 42 (.agg #[(.int .i64 0), (.int .i64 0), (.int .i64 0), (.int .i64 0), (.slice none 0 0)]) 56 rfl Try.underlying35 info42_ rfl (by decide) (by omega) _ ((l.take i).map cvE) (cvE y) [.int .i64 y.f0.f0, .int .i64 y.f0.f1, .int .i64 y.f0.f2, .int .i64 y.f0.f3, .slice Be y.f1.length de] (fun _ => True) (fun k => k < w.heap.size) rfl rfl ?aP ?aK ?aF ?aO ?aB ?aS ?aL ?_; (case aP => exact (k42_mkF _ _ (cvE y) HLE.out HFE4.out)); (case aK => exact (fun k hk => ⟨trivial, fun e_ => by have h1 := Kd.N_base HN4.out k e_.symm; have h2 := HS2.out; omega⟩)); (case aF => exact (fun k hk => trivial)); (case aO => exact HN4.out); (case aB => exact HB4.out); (case aS => exact below_size HB4.out); (case aL => have h1 := HL60.out; have h2 := HIL.out; rw [List.length_map, List.length_take]; omega); intro v5 w5 ho hb hg hat; have HN5 := Aside0.mk (show Kd.N k42 42 w5 w2.heap.size (fun _ => True) v5 ((l.take (i + 1)).map cvE) by rw [← take_cv l HIL.out, ← HY.out]; exact ho); have HB5 := Aside0.mk hb; clear ho hb hg hat))
   go_roundw
   case rel => exact ⟨i + 1, by rw [HW1.out]; go_num, ⟨by have := HIL.out; omega⟩, HX5, HB5, HN5⟩
   case measure => rw [HW1.out]; have := HIL.out; simp [intOf]; omega


end Go.Proofs.Ytabklpdjjoaocaa.Qy
