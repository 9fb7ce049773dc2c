/- Own text, by hand: the walk of ref18.Fits. -/
import Derived.Test.YtabklpdjjoaocaaQy0
import Derived.Test.YtabklpdjjoaocaaQy8
import Derived.Test.YtabklpdjjoaocaaQy10
import Derived.Test.YtabklpdjjoaocaaQy11
import Derived.Test.YtabklpdjjoaocaaQy12
namespace Go.Proofs.Ytabklpdjjoaocaa.Qy
open Go.RowKit Go.Proofs.YtabklpdjjoaocaaW.PrintWords Go.Proofs.YtabklpdjjoaocaaW.PrintLast Go.Proofs.YtabklpdjjoaocaaW.PrintMore
attribute [local go_sem] max2_int min2_int max_two min_two max_three min_three max_four min_four
set_option linter.unusedVariables false
set_option linter.unusedSimpArgs false

/-- What is asked of a message: the three parts, and the tokens. -/
structure FitsH (n : Int) (ls : List S61) (e : Int) (hs : List (List Int)) (node : Int) (a0 a1 a2 a3 a4 a5 a6 a7 a8 a9 : Int) (v : List Int) (bR bM bA bT r : Bool) : Prop where
 hR : Ev (fun k => switchboardref15_Right.f k n ls) bR
 hM : Ev (fun k => switchboardref17_Right.f k e hs) bM
 hA : Ev (fun k => switchboardref07_Right.f k a0 a1 a2 a3 a4 a5 a6 a7 a8 a9 v) bA
 hT : Ev (fun k => switchboardref15_Tokens.f k n ls [v]) bT
 pos : bA = true → 0 ≤ a5 ∧ 0 ≤ a8
 r0 : ¬ (bR = true ∧ bM = true ∧ bA = true ∧ a0 = 1 ∧ a2 = node) → r = false
 r1 : bR = true → bM = true → bA = true → a0 = 1 → a2 = node → a5 ≥ (ls.length : Int) → r = false
 r2 : bR = true → bM = true → bA = true → a0 = 1 → a2 = node → a5 < (ls.length : Int) → a8 ≥ ((rd_T61 ls a5).f1.length : Int) → r = false
 r3 : bR = true → bM = true → bA = true → a0 = 1 → a2 = node → a5 < (ls.length : Int) → a8 < ((rd_T61 ls a5).f1.length : Int) → r = bT
/-- The three parameters in memory. -/
structure BW (w W : World) (m p a : Array Value) : Prop where
 hb : Below w.heap.size w W
 m : W.heap[w.heap.size]? = some (.cells m 24 (0, 0))
 p : W.heap[w.heap.size + 1]? = some (.cells p 45 (0, 0))
 a : W.heap[w.heap.size + 1 + 1]? = some (.cells a 31 (0, 0))
theorem BW.below {w W W' : World} {m p a : Array Value} (h : BW w W m p a) (hb : Below W.heap.size W W') : BW w W' m p a := ⟨below_step h.hb hb, blk_below h.m hb, blk_below h.p hb, blk_below h.a hb⟩
theorem C_oneF {α : Type} {d : Kd α} {w : World} {g : Nat} {cs : List Value} {t : Nat} {x : α} (hb : w.heap[g]? = some (.cells cs.toArray t (0, 0))) (hk : d.K w x cs) (hl : cs.length = d.sz) : Kd.C d w (some ⟨g, 0, none⟩) 1 [x] := by
 refine ⟨rfl, by decide, fun _ => ⟨_, rfl, fun j p hj => ?_⟩⟩
 cases j with
 | zero =>
  obtain rfl : x = p := by simpa using hj
  refine ⟨cs, hl, hk, fun i u hu => ?_⟩
  rw [Nat.zero_mul, Nat.zero_add, add_plain, blk_cell hb i]
  simpa using hu
 | succ j => simp at hj
theorem heap_size_alloc (w : World) (o : Obj) : (w.alloc o).heap.size = w.heap.size + 1 := by
 show (w.heap.push o).size = _
 exact Array.size_push ..
theorem BW.start (w : World) (m p a : Array Value) : BW w (((w.alloc (.cells m 24)).alloc (.cells p 45)).alloc (.cells a 31)) m p a := by
 refine ⟨below_alloc (below_alloc (below_alloc (Below.refl _ _) _) _) _, ?_, ?_, ?_⟩
 ·
  exact blk_below (blk_below (by rw [heap_alloc_new]) (below_alloc (Below.refl _ _) _)) (below_alloc (Below.refl _ _) _)
 ·
  refine blk_below ?_ (below_alloc (Below.refl _ _) _)
  have h := heap_alloc_new (w.alloc (.cells m 24)) (.cells p 45)
  rw [heap_size_alloc] at h
  exact h
 ·
  have h := heap_alloc_new ((w.alloc (.cells m 24)).alloc (.cells p 45)) (.cells a 31)
  rw [heap_size_alloc, heap_size_alloc] at h
  exact h
set_option maxHeartbeats 8000000 in
set_option maxRecDepth 100000 in
theorem switchboardref18_Fits.calls (n : Int) (A0 : Option Addr) (c0 : Nat) (ls : List S61) (e : Int) (A1 : Option Addr) (c1 : Nat) (hs : List (List Int)) (node : Int) (a0 a1 a2 a3 a4 a5 a6 a7 a8 a9 : Int) (A2 : Option Addr) (c2 : Nat) (v : List Int) (bR bM bA bT r : Bool) (w : World) (hr0 : Kd.C k61 w A0 ls.length ls) (hc0 : ls.length ≤ c0) (hr1 : Kd.C (Kd.slice 3 (Kd.int .i64)) w A1 hs.length hs) (hc1 : hs.length ≤ c1) (hr2 : Kd.C (Kd.int .i64) w A2 v.length v) (hc2 : v.length ≤ c2) (h : FitsH n ls e hs node a0 a1 a2 a3 a4 a5 a6 a7 a8 a9 v bR bM bA bT r) :
 Calls Try.prog 11 #[.agg #[.int .i64 n, .slice A0 ls.length c0], .agg #[.int .i64 e, .slice A1 hs.length c1], .int .i64 node, .agg #[.int .i64 a0, .int .i64 a1, .int .i64 a2, .int .i64 a3, .int .i64 a4, .int .i64 a5, .int .i64 a6, .int .i64 a7, .int .i64 a8, .int .i64 a9, .slice A2 v.length c2]] w fun ev w' => ev = .returned (.bool r) ∧ Below w.heap.size w w' := by
 have hu24 := Try.underlying24; have hu45 := Try.underlying45; have hu31 := Try.underlying31
 obtain ⟨kR, hkR⟩ := h.hR.rounds
 obtain ⟨kM, hkM⟩ := h.hM.rounds
 obtain ⟨kA, hkA⟩ := h.hA.rounds
 obtain ⟨kT, hkT⟩ := h.hT.rounds
 have HH := Aside0.mk h; have HRE := Aside0.mk hkR; have HME := Aside0.mk hkM; have HAE := Aside0.mk hkA; have HTE := Aside0.mk hkT; have HR0 := Aside0.mk hr0; have HC0 := Aside0.mk hc0; have HR1 := Aside0.mk hr1; have HC1 := Aside0.mk hc1; have HR2 := Aside0.mk hr2; have HC2 := Aside0.mk hc2; clear h hkR hkM hkA hkT hr0 hc0 hr1 hc1 hr2 hc2
 have HL0 := Aside0.mk (BW.start w #[.int .i64 n, .slice A0 ls.length c0] #[.int .i64 e, .slice A1 hs.length c1] #[.int .i64 a0, .int .i64 a1, .int .i64 a2, .int .i64 a3, .int .i64 a4, .int .i64 a5, .int .i64 a6, .int .i64 a7, .int .i64 a8, .int .i64 a9, .slice A2 v.length c2])
 go_enter Try.func11, Try.ntmps11
 cases bR
 case false =>
  have hr : r = false := HH.out.r0 (by rintro ⟨h_, _⟩; exact absurd h_ (by decide))
  subst hr
  go_wp2_with (first | (go_at_call 21; (with_reducible refine (switchboardref15_Right.calls kR n A0 c0 ls false _ (Kd.C_below HR0.out HL0.out.hb) HC0.out HRE.out).mono ?_); rintro e_ w1 ⟨rfl, hb⟩; have HL1 := Aside0.mk (HL0.out.below hb); have hm0 : w1.cell? ⟨w.heap.size, 0, none⟩ = some (.int .i64 n) := (blk_cell HL1.out.m 0).trans rfl; have hm1 : w1.cell? ⟨w.heap.size, 1, none⟩ = some (.slice A0 ls.length c0) := (blk_cell HL1.out.m 1).trans rfl; have hp0 : w1.cell? ⟨w.heap.size + 1, 0, none⟩ = some (.int .i64 e) := (blk_cell HL1.out.p 0).trans rfl; have hp1 : w1.cell? ⟨w.heap.size + 1, 1, none⟩ = some (.slice A1 hs.length c1) := (blk_cell HL1.out.p 1).trans rfl; obtain ⟨hx0, hx1, hx2, hx3, hx4, hx5, hx6, hx7, hx8, hx9, hx10⟩ := cells11 HL1.out.a; clear hb))
  go_ret
  exact ⟨rfl, HL1.out.hb⟩
 cases bM
 case false =>
  have hr : r = false := HH.out.r0 (by rintro ⟨_, h_, _⟩; exact absurd h_ (by decide))
  subst hr
  go_wp2_with (first | (go_at_call 21; (with_reducible refine (switchboardref15_Right.calls kR n A0 c0 ls true _ (Kd.C_below HR0.out HL0.out.hb) HC0.out HRE.out).mono ?_); rintro e_ w1 ⟨rfl, hb⟩; have HL1 := Aside0.mk (HL0.out.below hb); have hm0 : w1.cell? ⟨w.heap.size, 0, none⟩ = some (.int .i64 n) := (blk_cell HL1.out.m 0).trans rfl; have hm1 : w1.cell? ⟨w.heap.size, 1, none⟩ = some (.slice A0 ls.length c0) := (blk_cell HL1.out.m 1).trans rfl; have hp0 : w1.cell? ⟨w.heap.size + 1, 0, none⟩ = some (.int .i64 e) := (blk_cell HL1.out.p 0).trans rfl; have hp1 : w1.cell? ⟨w.heap.size + 1, 1, none⟩ = some (.slice A1 hs.length c1) := (blk_cell HL1.out.p 1).trans rfl; obtain ⟨hx0, hx1, hx2, hx3, hx4, hx5, hx6, hx7, hx8, hx9, hx10⟩ := cells11 HL1.out.a; clear hb) | (go_at_call 22; (with_reducible refine (switchboardref17_Right.calls kM e A1 c1 hs false _ (Kd.C_below HR1.out HL1.out.hb) HC1.out HME.out).mono ?_); rintro e_ w2 ⟨rfl, hb⟩; have HL2 := Aside0.mk (HL1.out.below hb); clear hm0 hm1 hp0 hp1 hx0 hx1 hx2 hx3 hx4 hx5 hx6 hx7 hx8 hx9 hx10; have hm0 : w2.cell? ⟨w.heap.size, 0, none⟩ = some (.int .i64 n) := (blk_cell HL2.out.m 0).trans rfl; have hm1 : w2.cell? ⟨w.heap.size, 1, none⟩ = some (.slice A0 ls.length c0) := (blk_cell HL2.out.m 1).trans rfl; have hp0 : w2.cell? ⟨w.heap.size + 1, 0, none⟩ = some (.int .i64 e) := (blk_cell HL2.out.p 0).trans rfl; have hp1 : w2.cell? ⟨w.heap.size + 1, 1, none⟩ = some (.slice A1 hs.length c1) := (blk_cell HL2.out.p 1).trans rfl; obtain ⟨hx0, hx1, hx2, hx3, hx4, hx5, hx6, hx7, hx8, hx9, hx10⟩ := cells11 HL2.out.a; clear hb))
  go_ret
  exact ⟨rfl, HL2.out.hb⟩
 cases bA
 case false =>
  have hr : r = false := HH.out.r0 (by rintro ⟨_, _, h_, _⟩; exact absurd h_ (by decide))
  subst hr
  go_wp2_with (first | (go_at_call 21; (with_reducible refine (switchboardref15_Right.calls kR n A0 c0 ls true _ (Kd.C_below HR0.out HL0.out.hb) HC0.out HRE.out).mono ?_); rintro e_ w1 ⟨rfl, hb⟩; have HL1 := Aside0.mk (HL0.out.below hb); have hm0 : w1.cell? ⟨w.heap.size, 0, none⟩ = some (.int .i64 n) := (blk_cell HL1.out.m 0).trans rfl; have hm1 : w1.cell? ⟨w.heap.size, 1, none⟩ = some (.slice A0 ls.length c0) := (blk_cell HL1.out.m 1).trans rfl; have hp0 : w1.cell? ⟨w.heap.size + 1, 0, none⟩ = some (.int .i64 e) := (blk_cell HL1.out.p 0).trans rfl; have hp1 : w1.cell? ⟨w.heap.size + 1, 1, none⟩ = some (.slice A1 hs.length c1) := (blk_cell HL1.out.p 1).trans rfl; obtain ⟨hx0, hx1, hx2, hx3, hx4, hx5, hx6, hx7, hx8, hx9, hx10⟩ := cells11 HL1.out.a; clear hb) | (go_at_call 22; (with_reducible refine (switchboardref17_Right.calls kM e A1 c1 hs true _ (Kd.C_below HR1.out HL1.out.hb) HC1.out HME.out).mono ?_); rintro e_ w2 ⟨rfl, hb⟩; have HL2 := Aside0.mk (HL1.out.below hb); clear hm0 hm1 hp0 hp1 hx0 hx1 hx2 hx3 hx4 hx5 hx6 hx7 hx8 hx9 hx10; have hm0 : w2.cell? ⟨w.heap.size, 0, none⟩ = some (.int .i64 n) := (blk_cell HL2.out.m 0).trans rfl; have hm1 : w2.cell? ⟨w.heap.size, 1, none⟩ = some (.slice A0 ls.length c0) := (blk_cell HL2.out.m 1).trans rfl; have hp0 : w2.cell? ⟨w.heap.size + 1, 0, none⟩ = some (.int .i64 e) := (blk_cell HL2.out.p 0).trans rfl; have hp1 : w2.cell? ⟨w.heap.size + 1, 1, none⟩ = some (.slice A1 hs.length c1) := (blk_cell HL2.out.p 1).trans rfl; obtain ⟨hx0, hx1, hx2, hx3, hx4, hx5, hx6, hx7, hx8, hx9, hx10⟩ := cells11 HL2.out.a; clear hb) | (go_at_call 23; (with_reducible refine (switchboardref07_Right.calls kA a0 a1 a2 a3 a4 a5 a6 a7 a8 a9 A2 c2 v false _ (Kd.C_below HR2.out HL2.out.hb) HC2.out HAE.out).mono ?_); rintro e_ w3 ⟨rfl, hb⟩; have HL3 := Aside0.mk (HL2.out.below hb); clear hm0 hm1 hp0 hp1 hx0 hx1 hx2 hx3 hx4 hx5 hx6 hx7 hx8 hx9 hx10; have hm0 : w3.cell? ⟨w.heap.size, 0, none⟩ = some (.int .i64 n) := (blk_cell HL3.out.m 0).trans rfl; have hm1 : w3.cell? ⟨w.heap.size, 1, none⟩ = some (.slice A0 ls.length c0) := (blk_cell HL3.out.m 1).trans rfl; have hp0 : w3.cell? ⟨w.heap.size + 1, 0, none⟩ = some (.int .i64 e) := (blk_cell HL3.out.p 0).trans rfl; have hp1 : w3.cell? ⟨w.heap.size + 1, 1, none⟩ = some (.slice A1 hs.length c1) := (blk_cell HL3.out.p 1).trans rfl; obtain ⟨hx0, hx1, hx2, hx3, hx4, hx5, hx6, hx7, hx8, hx9, hx10⟩ := cells11 HL3.out.a; clear hb))
  go_ret
  exact ⟨rfl, HL3.out.hb⟩
 by_cases h0 : a0 = 1
 case neg =>
  have k0 : decide (a0 = 1) = false := decide_eq_false h0
  have k0n : decide (¬ a0 = 1) = true := decide_eq_true h0
  have hr : r = false := HH.out.r0 (by rintro ⟨_, _, _, h_, _⟩; exact h0 h_)
  subst hr
  go_wp2_with (first | (go_at_call 21; (with_reducible refine (switchboardref15_Right.calls kR n A0 c0 ls true _ (Kd.C_below HR0.out HL0.out.hb) HC0.out HRE.out).mono ?_); rintro e_ w1 ⟨rfl, hb⟩; have HL1 := Aside0.mk (HL0.out.below hb); have hm0 : w1.cell? ⟨w.heap.size, 0, none⟩ = some (.int .i64 n) := (blk_cell HL1.out.m 0).trans rfl; have hm1 : w1.cell? ⟨w.heap.size, 1, none⟩ = some (.slice A0 ls.length c0) := (blk_cell HL1.out.m 1).trans rfl; have hp0 : w1.cell? ⟨w.heap.size + 1, 0, none⟩ = some (.int .i64 e) := (blk_cell HL1.out.p 0).trans rfl; have hp1 : w1.cell? ⟨w.heap.size + 1, 1, none⟩ = some (.slice A1 hs.length c1) := (blk_cell HL1.out.p 1).trans rfl; obtain ⟨hx0, hx1, hx2, hx3, hx4, hx5, hx6, hx7, hx8, hx9, hx10⟩ := cells11 HL1.out.a; clear hb) | (go_at_call 22; (with_reducible refine (switchboardref17_Right.calls kM e A1 c1 hs true _ (Kd.C_below HR1.out HL1.out.hb) HC1.out HME.out).mono ?_); rintro e_ w2 ⟨rfl, hb⟩; have HL2 := Aside0.mk (HL1.out.below hb); clear hm0 hm1 hp0 hp1 hx0 hx1 hx2 hx3 hx4 hx5 hx6 hx7 hx8 hx9 hx10; have hm0 : w2.cell? ⟨w.heap.size, 0, none⟩ = some (.int .i64 n) := (blk_cell HL2.out.m 0).trans rfl; have hm1 : w2.cell? ⟨w.heap.size, 1, none⟩ = some (.slice A0 ls.length c0) := (blk_cell HL2.out.m 1).trans rfl; have hp0 : w2.cell? ⟨w.heap.size + 1, 0, none⟩ = some (.int .i64 e) := (blk_cell HL2.out.p 0).trans rfl; have hp1 : w2.cell? ⟨w.heap.size + 1, 1, none⟩ = some (.slice A1 hs.length c1) := (blk_cell HL2.out.p 1).trans rfl; obtain ⟨hx0, hx1, hx2, hx3, hx4, hx5, hx6, hx7, hx8, hx9, hx10⟩ := cells11 HL2.out.a; clear hb) | (go_at_call 23; (with_reducible refine (switchboardref07_Right.calls kA a0 a1 a2 a3 a4 a5 a6 a7 a8 a9 A2 c2 v true _ (Kd.C_below HR2.out HL2.out.hb) HC2.out HAE.out).mono ?_); rintro e_ w3 ⟨rfl, hb⟩; have HL3 := Aside0.mk (HL2.out.below hb); clear hm0 hm1 hp0 hp1 hx0 hx1 hx2 hx3 hx4 hx5 hx6 hx7 hx8 hx9 hx10; have hm0 : w3.cell? ⟨w.heap.size, 0, none⟩ = some (.int .i64 n) := (blk_cell HL3.out.m 0).trans rfl; have hm1 : w3.cell? ⟨w.heap.size, 1, none⟩ = some (.slice A0 ls.length c0) := (blk_cell HL3.out.m 1).trans rfl; have hp0 : w3.cell? ⟨w.heap.size + 1, 0, none⟩ = some (.int .i64 e) := (blk_cell HL3.out.p 0).trans rfl; have hp1 : w3.cell? ⟨w.heap.size + 1, 1, none⟩ = some (.slice A1 hs.length c1) := (blk_cell HL3.out.p 1).trans rfl; obtain ⟨hx0, hx1, hx2, hx3, hx4, hx5, hx6, hx7, hx8, hx9, hx10⟩ := cells11 HL3.out.a; clear hb))
  go_ret
  exact ⟨rfl, HL3.out.hb⟩
 by_cases h2 : a2 = node
 case neg =>
  subst h0
  have k2 : decide (a2 = node) = false := decide_eq_false h2
  have hr : r = false := HH.out.r0 (by rintro ⟨_, _, _, _, h_⟩; exact h2 h_)
  subst hr
  go_wp2_with (first | (go_at_call 21; (with_reducible refine (switchboardref15_Right.calls kR n A0 c0 ls true _ (Kd.C_below HR0.out HL0.out.hb) HC0.out HRE.out).mono ?_); rintro e_ w1 ⟨rfl, hb⟩; have HL1 := Aside0.mk (HL0.out.below hb); have hm0 : w1.cell? ⟨w.heap.size, 0, none⟩ = some (.int .i64 n) := (blk_cell HL1.out.m 0).trans rfl; have hm1 : w1.cell? ⟨w.heap.size, 1, none⟩ = some (.slice A0 ls.length c0) := (blk_cell HL1.out.m 1).trans rfl; have hp0 : w1.cell? ⟨w.heap.size + 1, 0, none⟩ = some (.int .i64 e) := (blk_cell HL1.out.p 0).trans rfl; have hp1 : w1.cell? ⟨w.heap.size + 1, 1, none⟩ = some (.slice A1 hs.length c1) := (blk_cell HL1.out.p 1).trans rfl; obtain ⟨hx0, hx1, hx2, hx3, hx4, hx5, hx6, hx7, hx8, hx9, hx10⟩ := cells11 HL1.out.a; clear hb) | (go_at_call 22; (with_reducible refine (switchboardref17_Right.calls kM e A1 c1 hs true _ (Kd.C_below HR1.out HL1.out.hb) HC1.out HME.out).mono ?_); rintro e_ w2 ⟨rfl, hb⟩; have HL2 := Aside0.mk (HL1.out.below hb); clear hm0 hm1 hp0 hp1 hx0 hx1 hx2 hx3 hx4 hx5 hx6 hx7 hx8 hx9 hx10; have hm0 : w2.cell? ⟨w.heap.size, 0, none⟩ = some (.int .i64 n) := (blk_cell HL2.out.m 0).trans rfl; have hm1 : w2.cell? ⟨w.heap.size, 1, none⟩ = some (.slice A0 ls.length c0) := (blk_cell HL2.out.m 1).trans rfl; have hp0 : w2.cell? ⟨w.heap.size + 1, 0, none⟩ = some (.int .i64 e) := (blk_cell HL2.out.p 0).trans rfl; have hp1 : w2.cell? ⟨w.heap.size + 1, 1, none⟩ = some (.slice A1 hs.length c1) := (blk_cell HL2.out.p 1).trans rfl; obtain ⟨hx0, hx1, hx2, hx3, hx4, hx5, hx6, hx7, hx8, hx9, hx10⟩ := cells11 HL2.out.a; clear hb) | (go_at_call 23; (with_reducible refine (switchboardref07_Right.calls kA 1 a1 a2 a3 a4 a5 a6 a7 a8 a9 A2 c2 v true _ (Kd.C_below HR2.out HL2.out.hb) HC2.out HAE.out).mono ?_); rintro e_ w3 ⟨rfl, hb⟩; have HL3 := Aside0.mk (HL2.out.below hb); clear hm0 hm1 hp0 hp1 hx0 hx1 hx2 hx3 hx4 hx5 hx6 hx7 hx8 hx9 hx10; have hm0 : w3.cell? ⟨w.heap.size, 0, none⟩ = some (.int .i64 n) := (blk_cell HL3.out.m 0).trans rfl; have hm1 : w3.cell? ⟨w.heap.size, 1, none⟩ = some (.slice A0 ls.length c0) := (blk_cell HL3.out.m 1).trans rfl; have hp0 : w3.cell? ⟨w.heap.size + 1, 0, none⟩ = some (.int .i64 e) := (blk_cell HL3.out.p 0).trans rfl; have hp1 : w3.cell? ⟨w.heap.size + 1, 1, none⟩ = some (.slice A1 hs.length c1) := (blk_cell HL3.out.p 1).trans rfl; obtain ⟨hx0, hx1, hx2, hx3, hx4, hx5, hx6, hx7, hx8, hx9, hx10⟩ := cells11 HL3.out.a; clear hb))
  go_ret
  exact ⟨rfl, HL3.out.hb⟩
 subst h0; subst h2
 go_upto_region 3 with (first | (go_at_call 21; (with_reducible refine (switchboardref15_Right.calls kR n A0 c0 ls true _ (Kd.C_below HR0.out HL0.out.hb) HC0.out HRE.out).mono ?_); rintro e_ w1 ⟨rfl, hb⟩; have HL1 := Aside0.mk (HL0.out.below hb); have hm0 : w1.cell? ⟨w.heap.size, 0, none⟩ = some (.int .i64 n) := (blk_cell HL1.out.m 0).trans rfl; have hm1 : w1.cell? ⟨w.heap.size, 1, none⟩ = some (.slice A0 ls.length c0) := (blk_cell HL1.out.m 1).trans rfl; have hp0 : w1.cell? ⟨w.heap.size + 1, 0, none⟩ = some (.int .i64 e) := (blk_cell HL1.out.p 0).trans rfl; have hp1 : w1.cell? ⟨w.heap.size + 1, 1, none⟩ = some (.slice A1 hs.length c1) := (blk_cell HL1.out.p 1).trans rfl; obtain ⟨hx0, hx1, hx2, hx3, hx4, hx5, hx6, hx7, hx8, hx9, hx10⟩ := cells11 HL1.out.a; clear hb) | (go_at_call 22; (with_reducible refine (switchboardref17_Right.calls kM e A1 c1 hs true _ (Kd.C_below HR1.out HL1.out.hb) HC1.out HME.out).mono ?_); rintro e_ w2 ⟨rfl, hb⟩; have HL2 := Aside0.mk (HL1.out.below hb); clear hm0 hm1 hp0 hp1 hx0 hx1 hx2 hx3 hx4 hx5 hx6 hx7 hx8 hx9 hx10; have hm0 : w2.cell? ⟨w.heap.size, 0, none⟩ = some (.int .i64 n) := (blk_cell HL2.out.m 0).trans rfl; have hm1 : w2.cell? ⟨w.heap.size, 1, none⟩ = some (.slice A0 ls.length c0) := (blk_cell HL2.out.m 1).trans rfl; have hp0 : w2.cell? ⟨w.heap.size + 1, 0, none⟩ = some (.int .i64 e) := (blk_cell HL2.out.p 0).trans rfl; have hp1 : w2.cell? ⟨w.heap.size + 1, 1, none⟩ = some (.slice A1 hs.length c1) := (blk_cell HL2.out.p 1).trans rfl; obtain ⟨hx0, hx1, hx2, hx3, hx4, hx5, hx6, hx7, hx8, hx9, hx10⟩ := cells11 HL2.out.a; clear hb) | (go_at_call 23; (with_reducible refine (switchboardref07_Right.calls kA 1 a1 a2 a3 a4 a5 a6 a7 a8 a9 A2 c2 v true _ (Kd.C_below HR2.out HL2.out.hb) HC2.out HAE.out).mono ?_); rintro e_ w3 ⟨rfl, hb⟩; have HL3 := Aside0.mk (HL2.out.below hb); clear hm0 hm1 hp0 hp1 hx0 hx1 hx2 hx3 hx4 hx5 hx6 hx7 hx8 hx9 hx10; have hm0 : w3.cell? ⟨w.heap.size, 0, none⟩ = some (.int .i64 n) := (blk_cell HL3.out.m 0).trans rfl; have hm1 : w3.cell? ⟨w.heap.size, 1, none⟩ = some (.slice A0 ls.length c0) := (blk_cell HL3.out.m 1).trans rfl; have hp0 : w3.cell? ⟨w.heap.size + 1, 0, none⟩ = some (.int .i64 e) := (blk_cell HL3.out.p 0).trans rfl; have hp1 : w3.cell? ⟨w.heap.size + 1, 1, none⟩ = some (.slice A1 hs.length c1) := (blk_cell HL3.out.p 1).trans rfl; obtain ⟨hx0, hx1, hx2, hx3, hx4, hx5, hx6, hx7, hx8, hx9, hx10⟩ := cells11 HL3.out.a; clear hb))
 obtain ⟨h50, h80⟩ := HH.out.pos rfl
 obtain ⟨q, rfl⟩ : ∃ q : Nat, a5 = (q : Int) := ⟨a5.toNat, by omega⟩
 by_cases h5 : q < ls.length
 rotate_left
 ·
  have hr : r = false := HH.out.r1 rfl rfl rfl rfl rfl (by omega)
  subst hr
  have k5 : decide ((q : Int) ≥ (ls.length : Int)) = true := decide_eq_true (by omega)
  have k5' : decide ((ls.length : Int) ≤ (q : Int)) = true := decide_eq_true (by omega)
  have k5n : decide (ls.length ≤ q) = true := decide_eq_true (by omega)
  clear h50 h80
  have HD := Aside0.mk (below_drew (Below.refl w3.heap.size w3))
  refine start_ (n := 19) (S := fun W => W.cell? ⟨w.heap.size + 1 + 1, 5, none⟩ = some (.int .i64 (q : Int)) ∧ W.cell? ⟨w.heap.size, 1, none⟩ = some (.slice A0 ls.length c0) ∧ W.cell? ⟨w.heap.size + 1 + 1, 8, none⟩ = some (.int .i64 a8)) (ds := []) #[false, false, false, false, false, false, false, false, false, false, false, false, false, false, false, false, false, false, false] (by kernel_rfl) rfl rfl ⟨pw_cell_below HD.out hx5, pw_cell_below HD.out hm1, pw_cell_below HD.out hx8⟩ (fun hHeld => ?_)
  have HL4 := Aside0.mk (HL3.out.below HD.out); clear hm0 hm1 hp0 hp1 hx0 hx1 hx2 hx3 hx4 hx5 hx6 hx7 hx8 hx9 hx10
  generalize w3.drew = w4 at HD HL4 hHeld ⊢
  refine pure_ (i := 0) (N := some 33) (v := ?_) (a' := ?_) #[true, false, false, false, false, false, false, false, false, false, false, false, false, false, false, false, false, false, false] rfl rfl (any_of rfl (by kernel_rfl)) (fun _ _ _ h => h) (Or.inl ⟨by rfl, ?_⟩) ?_ ?_
  rotate_left
  ·
   intro w'; go_simp; with_reducible rfl
  rotate_left
  ·
   simp only [Act.put, List.setIfInBounds_toArray, List.set_cons_zero, List.set_cons_succ, i64_w, i32_w]
   rfl
  refine take_ (i := 1) (N := some 34) (v := ?_) (a' := ?_) #[true, true, false, false, false, false, false, false, false, false, false, false, false, false, false, false, false, false, false] rfl rfl (take_of rfl (by kernel_rfl)) (fun _ _ _ h => h) (Or.inl ⟨by rfl, ?_⟩) hHeld ?_ ?_
  rotate_left
  ·
   rintro w' ⟨s0, s1, s2⟩; go_simp; with_reducible rfl
  rotate_left
  ·
   simp only [Act.put, List.setIfInBounds_toArray, List.set_cons_zero, List.set_cons_succ, i64_w, i32_w]
   rfl
  refine pure_ (i := 2) (N := some 35) (v := ?_) (a' := ?_) #[true, true, true, false, false, false, false, false, false, false, false, false, false, false, false, false, false, false, false] rfl rfl (any_of rfl (by kernel_rfl)) (fun _ _ _ h => h) (Or.inl ⟨by rfl, ?_⟩) ?_ ?_
  rotate_left
  ·
   intro w'; go_simp; with_reducible rfl
  rotate_left
  ·
   simp only [Act.put, List.setIfInBounds_toArray, List.set_cons_zero, List.set_cons_succ, i64_w, i32_w]
   rfl
  refine take_ (i := 3) (N := some 36) (v := ?_) (a' := ?_) #[true, true, true, true, false, false, false, false, false, false, false, false, false, false, false, false, false, false, false] rfl rfl (take_of rfl (by kernel_rfl)) (fun _ _ _ h => h) (Or.inl ⟨by rfl, ?_⟩) hHeld ?_ ?_
  rotate_left
  ·
   rintro w' ⟨s0, s1, s2⟩; go_simp; with_reducible rfl
  rotate_left
  ·
   simp only [Act.put, List.setIfInBounds_toArray, List.set_cons_zero, List.set_cons_succ, i64_w, i32_w]
   rfl
  refine pure_ (i := 4) (N := some 37) (v := ?_) (a' := ?_) #[true, true, true, true, true, false, false, false, false, false, false, false, false, false, false, false, false, false, false] rfl rfl (any_of rfl (by kernel_rfl)) (fun _ _ _ h => h) (Or.inl ⟨by rfl, ?_⟩) ?_ ?_
  rotate_left
  ·
   intro w'; go_simp; with_reducible rfl
  rotate_left
  ·
   simp only [Act.put, List.setIfInBounds_toArray, List.set_cons_zero, List.set_cons_succ, i64_w, i32_w]
   rfl
  refine pure_ (i := 5) (N := some 38) (v := ?_) (a' := ?_) #[true, true, true, true, true, true, false, false, false, false, false, false, false, false, false, false, false, false, false] rfl rfl (any_of rfl (by kernel_rfl)) (fun _ _ _ h => h) (Or.inl ⟨by rfl, ?_⟩) ?_ ?_
  rotate_left
  ·
   intro w'; go_simp; with_reducible rfl
  rotate_left
  ·
   simp only [Act.put, List.setIfInBounds_toArray, List.set_cons_zero, List.set_cons_succ, i64_w, i32_w]
   rfl
  refine pure_ (i := 6) (N := some 39) (v := ?_) (a' := ?_) #[true, true, true, true, true, true, true, false, false, false, false, false, false, false, false, false, false, false, false] rfl rfl (any_of rfl (by kernel_rfl)) (fun _ _ _ h => h) (Or.inl ⟨by rfl, ?_⟩) ?_ ?_
  rotate_left
  ·
   intro w'; go_simp; with_reducible rfl
  rotate_left
  ·
   simp only [Act.put, List.setIfInBounds_toArray, List.set_cons_zero, List.set_cons_succ, i64_w, i32_w]
   rfl
  refine pure_ (i := 7) (N := some 40) (v := undef) (a' := ?_) #[true, true, true, true, true, true, true, true, false, false, false, false, false, false, false, false, false, false, false] rfl rfl (any_of rfl (by kernel_rfl)) (fun _ _ _ h => h) (Or.inr ⟨by rfl, rfl⟩) ?_ ?_
  rotate_left
  ·
   simp only [Act.put, List.setIfInBounds_toArray, List.set_cons_zero, List.set_cons_succ, i64_w, i32_w]
   rfl
  refine pure_ (i := 8) (N := some 41) (v := undef) (a' := ?_) #[true, true, true, true, true, true, true, true, true, false, false, false, false, false, false, false, false, false, false] rfl rfl (any_of rfl (by kernel_rfl)) (fun _ _ _ h => h) (Or.inr ⟨by rfl, rfl⟩) ?_ ?_
  rotate_left
  ·
   simp only [Act.put, List.setIfInBounds_toArray, List.set_cons_zero, List.set_cons_succ, i64_w, i32_w]
   rfl
  refine pure_ (i := 9) (N := some 42) (v := undef) (a' := ?_) #[true, true, true, true, true, true, true, true, true, true, false, false, false, false, false, false, false, false, false] rfl rfl (any_of rfl (by kernel_rfl)) (fun _ _ _ h => h) (Or.inr ⟨by rfl, rfl⟩) ?_ ?_
  rotate_left
  ·
   simp only [Act.put, List.setIfInBounds_toArray, List.set_cons_zero, List.set_cons_succ, i64_w, i32_w]
   rfl
  refine pure_ (i := 10) (N := some 43) (v := undef) (a' := ?_) #[true, true, true, true, true, true, true, true, true, true, true, false, false, false, false, false, false, false, false] rfl rfl (any_of rfl (by kernel_rfl)) (fun _ _ _ h => h) (Or.inr ⟨by rfl, rfl⟩) ?_ ?_
  rotate_left
  ·
   simp only [Act.put, List.setIfInBounds_toArray, List.set_cons_zero, List.set_cons_succ, i64_w, i32_w]
   rfl
  refine pure_ (i := 11) (N := some 44) (v := undef) (a' := ?_) #[true, true, true, true, true, true, true, true, true, true, true, true, false, false, false, false, false, false, false] rfl rfl (any_of rfl (by kernel_rfl)) (fun _ _ _ h => h) (Or.inr ⟨by rfl, rfl⟩) ?_ ?_
  rotate_left
  ·
   simp only [Act.put, List.setIfInBounds_toArray, List.set_cons_zero, List.set_cons_succ, i64_w, i32_w]
   rfl
  refine pure_ (i := 12) (N := some 45) (v := undef) (a' := ?_) #[true, true, true, true, true, true, true, true, true, true, true, true, true, false, false, false, false, false, false] rfl rfl (any_of rfl (by kernel_rfl)) (fun _ _ _ h => h) (Or.inr ⟨by rfl, rfl⟩) ?_ ?_
  rotate_left
  ·
   simp only [Act.put, List.setIfInBounds_toArray, List.set_cons_zero, List.set_cons_succ, i64_w, i32_w]
   rfl
  refine pure_ (i := 13) (N := some 46) (v := undef) (a' := ?_) #[true, true, true, true, true, true, true, true, true, true, true, true, true, true, false, false, false, false, false] rfl rfl (any_of rfl (by kernel_rfl)) (fun _ _ _ h => h) (Or.inr ⟨by rfl, rfl⟩) ?_ ?_
  rotate_left
  ·
   simp only [Act.put, List.setIfInBounds_toArray, List.set_cons_zero, List.set_cons_succ, i64_w, i32_w]
   rfl
  refine pure_ (i := 14) (N := some 47) (v := undef) (a' := ?_) #[true, true, true, true, true, true, true, true, true, true, true, true, true, true, true, false, false, false, false] rfl rfl (any_of rfl (by kernel_rfl)) (fun _ _ _ h => h) (Or.inr ⟨by rfl, rfl⟩) ?_ ?_
  rotate_left
  ·
   simp only [Act.put, List.setIfInBounds_toArray, List.set_cons_zero, List.set_cons_succ, i64_w, i32_w]
   rfl
  refine pure_ (i := 15) (N := some 48) (v := undef) (a' := ?_) #[true, true, true, true, true, true, true, true, true, true, true, true, true, true, true, true, false, false, false] rfl rfl (any_of rfl (by kernel_rfl)) (fun _ _ _ h => h) (Or.inr ⟨by rfl, rfl⟩) ?_ ?_
  rotate_left
  ·
   simp only [Act.put, List.setIfInBounds_toArray, List.set_cons_zero, List.set_cons_succ, i64_w, i32_w]
   rfl
  refine pure_ (i := 16) (N := some 49) (v := undef) (a' := ?_) #[true, true, true, true, true, true, true, true, true, true, true, true, true, true, true, true, true, false, false] rfl rfl (any_of rfl (by kernel_rfl)) (fun _ _ _ h => h) (Or.inr ⟨by rfl, rfl⟩) ?_ ?_
  rotate_left
  ·
   simp only [Act.put, List.setIfInBounds_toArray, List.set_cons_zero, List.set_cons_succ, i64_w, i32_w]
   rfl
  refine pure_ (i := 17) (N := some 50) (v := undef) (a' := ?_) #[true, true, true, true, true, true, true, true, true, true, true, true, true, true, true, true, true, true, false] rfl rfl (any_of rfl (by kernel_rfl)) (fun _ _ _ h => h) (Or.inr ⟨by rfl, rfl⟩) ?_ ?_
  rotate_left
  ·
   simp only [Act.put, List.setIfInBounds_toArray, List.set_cons_zero, List.set_cons_succ, i64_w, i32_w]
   rfl
  refine pure_ (i := 18) (N := some 51) (v := ?_) (a' := ?_) #[true, true, true, true, true, true, true, true, true, true, true, true, true, true, true, true, true, true, true] rfl rfl (any_of rfl (by kernel_rfl)) (fun _ _ _ h => h) (Or.inl ⟨by rfl, ?_⟩) ?_ ?_
  rotate_left
  ·
   intro w'; go_simp; with_reducible rfl
  rotate_left
  ·
   simp only [Act.put, List.setIfInBounds_toArray, List.set_cons_zero, List.set_cons_succ, i64_w, i32_w]
   rfl
  refine done_ (done_of rfl (by kernel_rfl)) ?_
  clear hHeld
  go_wp2
  all_goals (go_ret; exact ⟨rfl, HL4.out.hb⟩)
 ·
  have k5 : decide ((q : Int) ≥ (ls.length : Int)) = false := decide_eq_false (by omega)
  have k5' : decide ((ls.length : Int) ≤ (q : Int)) = false := decide_eq_false (by omega)
  have k5n : decide (ls.length ≤ q) = false := decide_eq_false (by omega)
  obtain ⟨ad, B0, d0, B1, d1, hA, hy0, hy1, hy2, -, -, -, -⟩ := at_T61 (Kd.C_below HR0.out HL3.out.hb) (q : Int) (by omega) (by omega)
  subst hA
  rw [Int.toNat_natCast] at hy0 hy1 hy2
  obtain ⟨x, hx⟩ : ∃ x, x = rd_T61 ls (q : Int) := ⟨_, rfl⟩
  rw [← hx] at hy0 hy1 hy2
  have r2 := HH.out.r2 rfl rfl rfl rfl rfl (by omega)
  have r3 := HH.out.r3 rfl rfl rfl rfl rfl (by omega)
  rw [← hx] at r2 r3
  clear hx hy0 hy2
  by_cases h8 : a8 < (x.f1.length : Int)
  rotate_left
  ·
   have hr : r = false := r2 (by omega)
   subst hr
   have k8 : decide (a8 ≥ (x.f1.length : Int)) = true := decide_eq_true (by omega)
   have k8' : decide ((x.f1.length : Int) ≤ a8) = true := decide_eq_true (by omega)
   clear r2 r3 h50 h80
   have HD := Aside0.mk (below_drew (Below.refl w3.heap.size w3))
   refine start_ (n := 19) (S := fun W => W.cell? ⟨w.heap.size + 1 + 1, 5, none⟩ = some (.int .i64 (q : Int)) ∧ W.cell? ⟨w.heap.size, 1, none⟩ = some (.slice (some ad) ls.length c0) ∧ W.cell? ⟨w.heap.size + 1 + 1, 8, none⟩ = some (.int .i64 a8) ∧ W.cell? ⟨(ad.add (q * 3)).block, (ad.add (q * 3)).off + 1, none⟩ = some (.slice B1 x.f1.length d1)) (ds := []) #[false, false, false, false, false, false, false, false, false, false, false, false, false, false, false, false, false, false, false] (by kernel_rfl) rfl rfl ⟨pw_cell_below HD.out hx5, pw_cell_below HD.out hm1, pw_cell_below HD.out hx8, pw_cell_below HD.out hy1⟩ (fun hHeld => ?_)
   have HL4 := Aside0.mk (HL3.out.below HD.out); clear hm0 hm1 hp0 hp1 hx0 hx1 hx2 hx3 hx4 hx5 hx6 hx7 hx8 hx9 hx10
   generalize w3.drew = w4 at HD HL4 hHeld ⊢
   refine pure_ (i := 0) (N := some 33) (v := ?_) (a' := ?_) #[true, false, false, false, false, false, false, false, false, false, false, false, false, false, false, false, false, false, false] rfl rfl (any_of rfl (by kernel_rfl)) (fun _ _ _ h => h) (Or.inl ⟨by rfl, ?_⟩) ?_ ?_
   rotate_left
   ·
    intro w'; go_simp; with_reducible rfl
   rotate_left
   ·
    simp only [Act.put, List.setIfInBounds_toArray, List.set_cons_zero, List.set_cons_succ, i64_w, i32_w]
    rfl
   refine take_ (i := 1) (N := some 34) (v := ?_) (a' := ?_) #[true, true, false, false, false, false, false, false, false, false, false, false, false, false, false, false, false, false, false] rfl rfl (take_of rfl (by kernel_rfl)) (fun _ _ _ h => h) (Or.inl ⟨by rfl, ?_⟩) hHeld ?_ ?_
   rotate_left
   ·
    rintro w' ⟨s0, s1, s2, s3⟩; go_simp; with_reducible rfl
   rotate_left
   ·
    simp only [Act.put, List.setIfInBounds_toArray, List.set_cons_zero, List.set_cons_succ, i64_w, i32_w]
    rfl
   refine pure_ (i := 2) (N := some 35) (v := ?_) (a' := ?_) #[true, true, true, false, false, false, false, false, false, false, false, false, false, false, false, false, false, false, false] rfl rfl (any_of rfl (by kernel_rfl)) (fun _ _ _ h => h) (Or.inl ⟨by rfl, ?_⟩) ?_ ?_
   rotate_left
   ·
    intro w'; go_simp; with_reducible rfl
   rotate_left
   ·
    simp only [Act.put, List.setIfInBounds_toArray, List.set_cons_zero, List.set_cons_succ, i64_w, i32_w]
    rfl
   refine take_ (i := 3) (N := some 36) (v := ?_) (a' := ?_) #[true, true, true, true, false, false, false, false, false, false, false, false, false, false, false, false, false, false, false] rfl rfl (take_of rfl (by kernel_rfl)) (fun _ _ _ h => h) (Or.inl ⟨by rfl, ?_⟩) hHeld ?_ ?_
   rotate_left
   ·
    rintro w' ⟨s0, s1, s2, s3⟩; go_simp; with_reducible rfl
   rotate_left
   ·
    simp only [Act.put, List.setIfInBounds_toArray, List.set_cons_zero, List.set_cons_succ, i64_w, i32_w]
    rfl
   refine pure_ (i := 4) (N := some 37) (v := ?_) (a' := ?_) #[true, true, true, true, true, false, false, false, false, false, false, false, false, false, false, false, false, false, false] rfl rfl (any_of rfl (by kernel_rfl)) (fun _ _ _ h => h) (Or.inl ⟨by rfl, ?_⟩) ?_ ?_
   rotate_left
   ·
    intro w'; go_simp; with_reducible rfl
   rotate_left
   ·
    simp only [Act.put, List.setIfInBounds_toArray, List.set_cons_zero, List.set_cons_succ, i64_w, i32_w]
    rfl
   refine pure_ (i := 5) (N := some 38) (v := ?_) (a' := ?_) #[true, true, true, true, true, true, false, false, false, false, false, false, false, false, false, false, false, false, false] rfl rfl (any_of rfl (by kernel_rfl)) (fun _ _ _ h => h) (Or.inl ⟨by rfl, ?_⟩) ?_ ?_
   rotate_left
   ·
    intro w'; go_simp; with_reducible rfl
   rotate_left
   ·
    simp only [Act.put, List.setIfInBounds_toArray, List.set_cons_zero, List.set_cons_succ, i64_w, i32_w]
    rfl
   refine pure_ (i := 6) (N := some 39) (v := ?_) (a' := ?_) #[true, true, true, true, true, true, true, false, false, false, false, false, false, false, false, false, false, false, false] rfl rfl (any_of rfl (by kernel_rfl)) (fun _ _ _ h => h) (Or.inl ⟨by rfl, ?_⟩) ?_ ?_
   rotate_left
   ·
    intro w'; go_simp; with_reducible rfl
   rotate_left
   ·
    simp only [Act.put, List.setIfInBounds_toArray, List.set_cons_zero, List.set_cons_succ, i64_w, i32_w]
    rfl
   refine pure_ (i := 7) (N := some 40) (v := ?_) (a' := ?_) #[true, true, true, true, true, true, true, true, false, false, false, false, false, false, false, false, false, false, false] rfl rfl (any_of rfl (by kernel_rfl)) (fun _ _ _ h => h) (Or.inl ⟨by rfl, ?_⟩) ?_ ?_
   rotate_left
   ·
    intro w'; go_simp; with_reducible rfl
   rotate_left
   ·
    simp only [Act.put, List.setIfInBounds_toArray, List.set_cons_zero, List.set_cons_succ, i64_w, i32_w]
    rfl
   refine take_ (i := 8) (N := some 41) (v := ?_) (a' := ?_) #[true, true, true, true, true, true, true, true, true, false, false, false, false, false, false, false, false, false, false] rfl rfl (take_of rfl (by kernel_rfl)) (fun _ _ _ h => h) (Or.inl ⟨by rfl, ?_⟩) hHeld ?_ ?_
   rotate_left
   ·
    rintro w' ⟨s0, s1, s2, s3⟩; go_simp; with_reducible rfl
   rotate_left
   ·
    simp only [Act.put, List.setIfInBounds_toArray, List.set_cons_zero, List.set_cons_succ, i64_w, i32_w]
    rfl
   refine pure_ (i := 9) (N := some 42) (v := ?_) (a' := ?_) #[true, true, true, true, true, true, true, true, true, true, false, false, false, false, false, false, false, false, false] rfl rfl (any_of rfl (by kernel_rfl)) (fun _ _ _ h => h) (Or.inl ⟨by rfl, ?_⟩) ?_ ?_
   rotate_left
   ·
    intro w'; go_simp; with_reducible rfl
   rotate_left
   ·
    simp only [Act.put, List.setIfInBounds_toArray, List.set_cons_zero, List.set_cons_succ, i64_w, i32_w]
    rfl
   refine take_ (i := 10) (N := some 43) (v := ?_) (a' := ?_) #[true, true, true, true, true, true, true, true, true, true, true, false, false, false, false, false, false, false, false] rfl rfl (take_of rfl (by kernel_rfl)) (fun _ _ _ h => h) (Or.inl ⟨by rfl, ?_⟩) hHeld ?_ ?_
   rotate_left
   ·
    rintro w' ⟨s0, s1, s2, s3⟩; go_simp; with_reducible rfl
   rotate_left
   ·
    simp only [Act.put, List.setIfInBounds_toArray, List.set_cons_zero, List.set_cons_succ, i64_w, i32_w]
    rfl
   refine pure_ (i := 11) (N := some 44) (v := ?_) (a' := ?_) #[true, true, true, true, true, true, true, true, true, true, true, true, false, false, false, false, false, false, false] rfl rfl (any_of rfl (by kernel_rfl)) (fun _ _ _ h => h) (Or.inl ⟨by rfl, ?_⟩) ?_ ?_
   rotate_left
   ·
    intro w'; go_simp; with_reducible rfl
   rotate_left
   ·
    simp only [Act.put, List.setIfInBounds_toArray, List.set_cons_zero, List.set_cons_succ, i64_w, i32_w]
    rfl
   refine take_ (i := 12) (N := some 45) (v := ?_) (a' := ?_) #[true, true, true, true, true, true, true, true, true, true, true, true, true, false, false, false, false, false, false] rfl rfl (take_of rfl (by kernel_rfl)) (fun _ _ _ h => h) (Or.inl ⟨by rfl, ?_⟩) hHeld ?_ ?_
   rotate_left
   ·
    rintro w' ⟨s0, s1, s2, s3⟩; go_simp; with_reducible rfl
   rotate_left
   ·
    simp only [Act.put, List.setIfInBounds_toArray, List.set_cons_zero, List.set_cons_succ, i64_w, i32_w]
    rfl
   refine pure_ (i := 13) (N := some 46) (v := ?_) (a' := ?_) #[true, true, true, true, true, true, true, true, true, true, true, true, true, true, false, false, false, false, false] rfl rfl (any_of rfl (by kernel_rfl)) (fun _ _ _ h => h) (Or.inl ⟨by rfl, ?_⟩) ?_ ?_
   rotate_left
   ·
    intro w'; go_simp; with_reducible rfl
   rotate_left
   ·
    simp only [Act.put, List.setIfInBounds_toArray, List.set_cons_zero, List.set_cons_succ, i64_w, i32_w]
    rfl
   refine pure_ (i := 14) (N := some 47) (v := ?_) (a' := ?_) #[true, true, true, true, true, true, true, true, true, true, true, true, true, true, true, false, false, false, false] rfl rfl (any_of rfl (by kernel_rfl)) (fun _ _ _ h => h) (Or.inl ⟨by rfl, ?_⟩) ?_ ?_
   rotate_left
   ·
    intro w'; go_simp; with_reducible rfl
   rotate_left
   ·
    simp only [Act.put, List.setIfInBounds_toArray, List.set_cons_zero, List.set_cons_succ, i64_w, i32_w]
    rfl
   refine take_ (i := 15) (N := some 48) (v := ?_) (a' := ?_) #[true, true, true, true, true, true, true, true, true, true, true, true, true, true, true, true, false, false, false] rfl rfl (take_of rfl (by kernel_rfl)) (fun _ _ _ h => h) (Or.inl ⟨by rfl, ?_⟩) hHeld ?_ ?_
   rotate_left
   ·
    rintro w' ⟨s0, s1, s2, s3⟩; go_simp; with_reducible rfl
   rotate_left
   ·
    simp only [Act.put, List.setIfInBounds_toArray, List.set_cons_zero, List.set_cons_succ, i64_w, i32_w]
    rfl
   refine pure_ (i := 16) (N := some 49) (v := ?_) (a' := ?_) #[true, true, true, true, true, true, true, true, true, true, true, true, true, true, true, true, true, false, false] rfl rfl (any_of rfl (by kernel_rfl)) (fun _ _ _ h => h) (Or.inl ⟨by rfl, ?_⟩) ?_ ?_
   rotate_left
   ·
    intro w'; go_simp; with_reducible rfl
   rotate_left
   ·
    simp only [Act.put, List.setIfInBounds_toArray, List.set_cons_zero, List.set_cons_succ, i64_w, i32_w]
    rfl
   refine pure_ (i := 17) (N := some 50) (v := ?_) (a' := ?_) #[true, true, true, true, true, true, true, true, true, true, true, true, true, true, true, true, true, true, false] rfl rfl (any_of rfl (by kernel_rfl)) (fun _ _ _ h => h) (Or.inl ⟨by rfl, ?_⟩) ?_ ?_
   rotate_left
   ·
    intro w'; go_simp; with_reducible rfl
   rotate_left
   ·
    simp only [Act.put, List.setIfInBounds_toArray, List.set_cons_zero, List.set_cons_succ, i64_w, i32_w]
    rfl
   refine pure_ (i := 18) (N := some 51) (v := ?_) (a' := ?_) #[true, true, true, true, true, true, true, true, true, true, true, true, true, true, true, true, true, true, true] rfl rfl (any_of rfl (by kernel_rfl)) (fun _ _ _ h => h) (Or.inl ⟨by rfl, ?_⟩) ?_ ?_
   rotate_left
   ·
    intro w'; go_simp; with_reducible rfl
   rotate_left
   ·
    simp only [Act.put, List.setIfInBounds_toArray, List.set_cons_zero, List.set_cons_succ, i64_w, i32_w]
    rfl
   refine done_ (done_of rfl (by kernel_rfl)) ?_
   clear hHeld
   go_wp2
   all_goals (go_ret; exact ⟨rfl, HL4.out.hb⟩)
  ·
   have hr : r = bT := r3 h8
   subst hr
   have k8 : decide (a8 ≥ (x.f1.length : Int)) = false := decide_eq_false (by omega)
   have k8' : decide ((x.f1.length : Int) ≤ a8) = false := decide_eq_false (by omega)
   clear r2 r3 h50 h80
   have HD := Aside0.mk (below_drew (Below.refl w3.heap.size w3))
   refine start_ (n := 19) (S := fun W => W.cell? ⟨w.heap.size + 1 + 1, 5, none⟩ = some (.int .i64 (q : Int)) ∧ W.cell? ⟨w.heap.size, 1, none⟩ = some (.slice (some ad) ls.length c0) ∧ W.cell? ⟨w.heap.size + 1 + 1, 8, none⟩ = some (.int .i64 a8) ∧ W.cell? ⟨(ad.add (q * 3)).block, (ad.add (q * 3)).off + 1, none⟩ = some (.slice B1 x.f1.length d1)) (ds := []) #[false, false, false, false, false, false, false, false, false, false, false, false, false, false, false, false, false, false, false] (by kernel_rfl) rfl rfl ⟨pw_cell_below HD.out hx5, pw_cell_below HD.out hm1, pw_cell_below HD.out hx8, pw_cell_below HD.out hy1⟩ (fun hHeld => ?_)
   have HL4 := Aside0.mk (HL3.out.below HD.out); clear hm0 hm1 hp0 hp1 hx0 hx1 hx2 hx3 hx4 hx5 hx6 hx7 hx8 hx9 hx10
   generalize w3.drew = w4 at HD HL4 hHeld ⊢
   refine pure_ (i := 0) (N := some 33) (v := ?_) (a' := ?_) #[true, false, false, false, false, false, false, false, false, false, false, false, false, false, false, false, false, false, false] rfl rfl (any_of rfl (by kernel_rfl)) (fun _ _ _ h => h) (Or.inl ⟨by rfl, ?_⟩) ?_ ?_
   rotate_left
   ·
    intro w'; go_simp; with_reducible rfl
   rotate_left
   ·
    simp only [Act.put, List.setIfInBounds_toArray, List.set_cons_zero, List.set_cons_succ, i64_w, i32_w]
    rfl
   refine take_ (i := 1) (N := some 34) (v := ?_) (a' := ?_) #[true, true, false, false, false, false, false, false, false, false, false, false, false, false, false, false, false, false, false] rfl rfl (take_of rfl (by kernel_rfl)) (fun _ _ _ h => h) (Or.inl ⟨by rfl, ?_⟩) hHeld ?_ ?_
   rotate_left
   ·
    rintro w' ⟨s0, s1, s2, s3⟩; go_simp; with_reducible rfl
   rotate_left
   ·
    simp only [Act.put, List.setIfInBounds_toArray, List.set_cons_zero, List.set_cons_succ, i64_w, i32_w]
    rfl
   refine pure_ (i := 2) (N := some 35) (v := ?_) (a' := ?_) #[true, true, true, false, false, false, false, false, false, false, false, false, false, false, false, false, false, false, false] rfl rfl (any_of rfl (by kernel_rfl)) (fun _ _ _ h => h) (Or.inl ⟨by rfl, ?_⟩) ?_ ?_
   rotate_left
   ·
    intro w'; go_simp; with_reducible rfl
   rotate_left
   ·
    simp only [Act.put, List.setIfInBounds_toArray, List.set_cons_zero, List.set_cons_succ, i64_w, i32_w]
    rfl
   refine take_ (i := 3) (N := some 36) (v := ?_) (a' := ?_) #[true, true, true, true, false, false, false, false, false, false, false, false, false, false, false, false, false, false, false] rfl rfl (take_of rfl (by kernel_rfl)) (fun _ _ _ h => h) (Or.inl ⟨by rfl, ?_⟩) hHeld ?_ ?_
   rotate_left
   ·
    rintro w' ⟨s0, s1, s2, s3⟩; go_simp; with_reducible rfl
   rotate_left
   ·
    simp only [Act.put, List.setIfInBounds_toArray, List.set_cons_zero, List.set_cons_succ, i64_w, i32_w]
    rfl
   refine pure_ (i := 4) (N := some 37) (v := ?_) (a' := ?_) #[true, true, true, true, true, false, false, false, false, false, false, false, false, false, false, false, false, false, false] rfl rfl (any_of rfl (by kernel_rfl)) (fun _ _ _ h => h) (Or.inl ⟨by rfl, ?_⟩) ?_ ?_
   rotate_left
   ·
    intro w'; go_simp; with_reducible rfl
   rotate_left
   ·
    simp only [Act.put, List.setIfInBounds_toArray, List.set_cons_zero, List.set_cons_succ, i64_w, i32_w]
    rfl
   refine pure_ (i := 5) (N := some 38) (v := ?_) (a' := ?_) #[true, true, true, true, true, true, false, false, false, false, false, false, false, false, false, false, false, false, false] rfl rfl (any_of rfl (by kernel_rfl)) (fun _ _ _ h => h) (Or.inl ⟨by rfl, ?_⟩) ?_ ?_
   rotate_left
   ·
    intro w'; go_simp; with_reducible rfl
   rotate_left
   ·
    simp only [Act.put, List.setIfInBounds_toArray, List.set_cons_zero, List.set_cons_succ, i64_w, i32_w]
    rfl
   refine pure_ (i := 6) (N := some 39) (v := ?_) (a' := ?_) #[true, true, true, true, true, true, true, false, false, false, false, false, false, false, false, false, false, false, false] rfl rfl (any_of rfl (by kernel_rfl)) (fun _ _ _ h => h) (Or.inl ⟨by rfl, ?_⟩) ?_ ?_
   rotate_left
   ·
    intro w'; go_simp; with_reducible rfl
   rotate_left
   ·
    simp only [Act.put, List.setIfInBounds_toArray, List.set_cons_zero, List.set_cons_succ, i64_w, i32_w]
    rfl
   refine pure_ (i := 7) (N := some 40) (v := ?_) (a' := ?_) #[true, true, true, true, true, true, true, true, false, false, false, false, false, false, false, false, false, false, false] rfl rfl (any_of rfl (by kernel_rfl)) (fun _ _ _ h => h) (Or.inl ⟨by rfl, ?_⟩) ?_ ?_
   rotate_left
   ·
    intro w'; go_simp; with_reducible rfl
   rotate_left
   ·
    simp only [Act.put, List.setIfInBounds_toArray, List.set_cons_zero, List.set_cons_succ, i64_w, i32_w]
    rfl
   refine take_ (i := 8) (N := some 41) (v := ?_) (a' := ?_) #[true, true, true, true, true, true, true, true, true, false, false, false, false, false, false, false, false, false, false] rfl rfl (take_of rfl (by kernel_rfl)) (fun _ _ _ h => h) (Or.inl ⟨by rfl, ?_⟩) hHeld ?_ ?_
   rotate_left
   ·
    rintro w' ⟨s0, s1, s2, s3⟩; go_simp; with_reducible rfl
   rotate_left
   ·
    simp only [Act.put, List.setIfInBounds_toArray, List.set_cons_zero, List.set_cons_succ, i64_w, i32_w]
    rfl
   refine pure_ (i := 9) (N := some 42) (v := ?_) (a' := ?_) #[true, true, true, true, true, true, true, true, true, true, false, false, false, false, false, false, false, false, false] rfl rfl (any_of rfl (by kernel_rfl)) (fun _ _ _ h => h) (Or.inl ⟨by rfl, ?_⟩) ?_ ?_
   rotate_left
   ·
    intro w'; go_simp; with_reducible rfl
   rotate_left
   ·
    simp only [Act.put, List.setIfInBounds_toArray, List.set_cons_zero, List.set_cons_succ, i64_w, i32_w]
    rfl
   refine take_ (i := 10) (N := some 43) (v := ?_) (a' := ?_) #[true, true, true, true, true, true, true, true, true, true, true, false, false, false, false, false, false, false, false] rfl rfl (take_of rfl (by kernel_rfl)) (fun _ _ _ h => h) (Or.inl ⟨by rfl, ?_⟩) hHeld ?_ ?_
   rotate_left
   ·
    rintro w' ⟨s0, s1, s2, s3⟩; go_simp; with_reducible rfl
   rotate_left
   ·
    simp only [Act.put, List.setIfInBounds_toArray, List.set_cons_zero, List.set_cons_succ, i64_w, i32_w]
    rfl
   refine pure_ (i := 11) (N := some 44) (v := ?_) (a' := ?_) #[true, true, true, true, true, true, true, true, true, true, true, true, false, false, false, false, false, false, false] rfl rfl (any_of rfl (by kernel_rfl)) (fun _ _ _ h => h) (Or.inl ⟨by rfl, ?_⟩) ?_ ?_
   rotate_left
   ·
    intro w'; go_simp; with_reducible rfl
   rotate_left
   ·
    simp only [Act.put, List.setIfInBounds_toArray, List.set_cons_zero, List.set_cons_succ, i64_w, i32_w]
    rfl
   refine take_ (i := 12) (N := some 45) (v := ?_) (a' := ?_) #[true, true, true, true, true, true, true, true, true, true, true, true, true, false, false, false, false, false, false] rfl rfl (take_of rfl (by kernel_rfl)) (fun _ _ _ h => h) (Or.inl ⟨by rfl, ?_⟩) hHeld ?_ ?_
   rotate_left
   ·
    rintro w' ⟨s0, s1, s2, s3⟩; go_simp; with_reducible rfl
   rotate_left
   ·
    simp only [Act.put, List.setIfInBounds_toArray, List.set_cons_zero, List.set_cons_succ, i64_w, i32_w]
    rfl
   refine pure_ (i := 13) (N := some 46) (v := ?_) (a' := ?_) #[true, true, true, true, true, true, true, true, true, true, true, true, true, true, false, false, false, false, false] rfl rfl (any_of rfl (by kernel_rfl)) (fun _ _ _ h => h) (Or.inl ⟨by rfl, ?_⟩) ?_ ?_
   rotate_left
   ·
    intro w'; go_simp; with_reducible rfl
   rotate_left
   ·
    simp only [Act.put, List.setIfInBounds_toArray, List.set_cons_zero, List.set_cons_succ, i64_w, i32_w]
    rfl
   refine pure_ (i := 14) (N := some 47) (v := ?_) (a' := ?_) #[true, true, true, true, true, true, true, true, true, true, true, true, true, true, true, false, false, false, false] rfl rfl (any_of rfl (by kernel_rfl)) (fun _ _ _ h => h) (Or.inl ⟨by rfl, ?_⟩) ?_ ?_
   rotate_left
   ·
    intro w'; go_simp; with_reducible rfl
   rotate_left
   ·
    simp only [Act.put, List.setIfInBounds_toArray, List.set_cons_zero, List.set_cons_succ, i64_w, i32_w]
    rfl
   refine take_ (i := 15) (N := some 48) (v := ?_) (a' := ?_) #[true, true, true, true, true, true, true, true, true, true, true, true, true, true, true, true, false, false, false] rfl rfl (take_of rfl (by kernel_rfl)) (fun _ _ _ h => h) (Or.inl ⟨by rfl, ?_⟩) hHeld ?_ ?_
   rotate_left
   ·
    rintro w' ⟨s0, s1, s2, s3⟩; go_simp; with_reducible rfl
   rotate_left
   ·
    simp only [Act.put, List.setIfInBounds_toArray, List.set_cons_zero, List.set_cons_succ, i64_w, i32_w]
    rfl
   refine pure_ (i := 16) (N := some 49) (v := ?_) (a' := ?_) #[true, true, true, true, true, true, true, true, true, true, true, true, true, true, true, true, true, false, false] rfl rfl (any_of rfl (by kernel_rfl)) (fun _ _ _ h => h) (Or.inl ⟨by rfl, ?_⟩) ?_ ?_
   rotate_left
   ·
    intro w'; go_simp; with_reducible rfl
   rotate_left
   ·
    simp only [Act.put, List.setIfInBounds_toArray, List.set_cons_zero, List.set_cons_succ, i64_w, i32_w]
    rfl
   refine pure_ (i := 17) (N := some 50) (v := ?_) (a' := ?_) #[true, true, true, true, true, true, true, true, true, true, true, true, true, true, true, true, true, true, false] rfl rfl (any_of rfl (by kernel_rfl)) (fun _ _ _ h => h) (Or.inl ⟨by rfl, ?_⟩) ?_ ?_
   rotate_left
   ·
    intro w'; go_simp; with_reducible rfl
   rotate_left
   ·
    simp only [Act.put, List.setIfInBounds_toArray, List.set_cons_zero, List.set_cons_succ, i64_w, i32_w]
    rfl
   refine pure_ (i := 18) (N := some 51) (v := ?_) (a' := ?_) #[true, true, true, true, true, true, true, true, true, true, true, true, true, true, true, true, true, true, true] rfl rfl (any_of rfl (by kernel_rfl)) (fun _ _ _ h => h) (Or.inl ⟨by rfl, ?_⟩) ?_ ?_
   rotate_left
   ·
    intro w'; go_simp; with_reducible rfl
   rotate_left
   ·
    simp only [Act.put, List.setIfInBounds_toArray, List.set_cons_zero, List.set_cons_succ, i64_w, i32_w]
    rfl
   refine done_ (done_of rfl (by kernel_rfl)) ?_
   clear hHeld
   have hm0 : w4.cell? ⟨w.heap.size, 0, none⟩ = some (.int .i64 n) := (blk_cell HL4.out.m 0).trans rfl
   have hm1 : w4.cell? ⟨w.heap.size, 1, none⟩ = some (.slice (some ad) ls.length c0) := (blk_cell HL4.out.m 1).trans rfl
   have hx10 : w4.cell? ⟨w.heap.size + 1 + 1, 10, none⟩ = some (.slice A2 v.length c2) := (blk_cell HL4.out.a 10).trans rfl
   have HL5 := Aside0.mk (HL4.out.below (below_alloc (Below.refl w4.heap.size w4) (.cells #[.slice A2 v.length c2] 29)))
   have H29 : Aside0 ((w4.alloc (.cells #[.slice A2 v.length c2] 29)).heap[w4.heap.size]? = some (.cells #[.slice A2 v.length c2] 29 (0, 0))) := ⟨heap_alloc_new _ _⟩
   go_wp2_with (first | (go_at_call 24; have R_ := switchboardref15_Tokens.calls kT n (some ad) c0 ls (some ⟨w4.heap.size, 0, none⟩) 1 [v] r (w4.alloc (.cells #[.slice A2 v.length c2] 29)) (Kd.C_below HR0.out HL5.out.hb) HC0.out (C_oneF (cs := [Value.slice A2 v.length c2]) H29.out ⟨A2, c2, rfl, HC2.out, Kd.C_below HR2.out HL5.out.hb⟩ rfl) (Nat.le_refl 1) HTE.out; refine R_.mono ?_; clear R_; rintro e_ w6 ⟨rfl, hb⟩; have HL6 := Aside0.mk (HL5.out.below hb); clear hb))
   all_goals (go_ret; exact ⟨rfl, HL6.out.hb⟩)


end Go.Proofs.Ytabklpdjjoaocaa.Qy
