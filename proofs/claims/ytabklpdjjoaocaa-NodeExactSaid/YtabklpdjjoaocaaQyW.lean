/- Own text, by hand: the walk of ref18.Work. -/
import Derived.Test.YtabklpdjjoaocaaQy0
import Derived.Test.YtabklpdjjoaocaaQy8
import Derived.Test.YtabklpdjjoaocaaQy12
import Derived.Test.YtabklpdjjoaocaaQy13
import Derived.Test.YtabklpdjjoaocaaQy14
import Derived.Test.YtabklpdjjoaocaaQyF
namespace Go.Proofs.Ytabklpdjjoaocaa.Qy
open Go.RowKit Go.Proofs.YtabklpdjjoaocaaW.PrintWords Go.Proofs.YtabklpdjjoaocaaW.PrintLast Go.Proofs.YtabklpdjjoaocaaW.PrintMore
attribute [local go_sem] max2_int min2_int max_two min_two max_three min_three max_four min_four
set_option linter.unusedVariables false
set_option linter.unusedSimpArgs false

/-- What a node answers to a message that fits: k0 its kind, rv its numbers, r whether they are worked out anew. -/
structure WorkH (n : Int) (ls : List S61) (e : Int) (hs : List (List Int)) (node : Int) (es : List S42) (a0 a1 a2 a3 a4 a5 a6 a7 a8 a9 : Int) (v : List Int) (hB : Bool) (at_ : Int) (k0 : Int) (rv : List Int) (r : Bool) : Prop where
 p8 : 0 ≤ a8
 p5 : 0 ≤ a5 ∧ a5 < (ls.length : Int)
 px : a8 < ((rd_T61 ls a5).f1.length : Int)
 hHas : a9 = e → a8 < (hs.length : Int) → Ev (fun k => switchboardref17_Has.f k (rd_L1 hs a8) node) hB
 hFind : Ev (fun k => switchboardref12_Find.f k es a4 a5 a6 a7) at_
 stale : ¬ (a9 = e ∧ a8 < (hs.length : Int) ∧ hB = true) → k0 = 3 ∧ rv = [] ∧ r = false
 found : a9 = e → a8 < (hs.length : Int) → hB = true → 0 ≤ at_ → at_ < (es.length : Int) ∧ k0 = 2 ∧ rv = (rd_T42 es at_).f1 ∧ r = false
 anew : a9 = e → a8 < (hs.length : Int) → hB = true → at_ < 0 → k0 = 2 ∧ r = true ∧ Ev (fun k => switchboardref11_Run.f k (rd_T63 (rd_T61 ls a5).f1 a8).f0 (rd_T63 (rd_T61 ls a5).f1 a8).f1 v) rv
/-- The five blocks of the call: the three parameters, the result, the answer under way. -/
structure WW (w W : World) (m p a r o : Array Value) : Prop where
 hb : Below w.heap.size w W
 m : W.heap[w.heap.size]? = some (.cells m 24 (0, 0))
 p : W.heap[w.heap.size + 1]? = some (.cells p 45 (0, 0))
 a : W.heap[w.heap.size + 1 + 1]? = some (.cells a 31 (0, 0))
 r : W.heap[w.heap.size + 1 + 1 + 1]? = some (.cells r 31 (0, 0))
 o : W.heap[w.heap.size + 1 + 1 + 1 + 1]? = some (.cells o 31 (0, 0))
theorem WW.below {w W W' : World} {m p a r o : Array Value} (h : WW w W m p a r o) (hb : Below W.heap.size W W') : WW w W' m p a r o := ⟨below_step h.hb hb, blk_below h.m hb, blk_below h.p hb, blk_below h.a hb, blk_below h.r hb, blk_below h.o hb⟩
theorem WW.start (w : World) (m p a r o : Array Value) : WW w (((((w.alloc (.cells m 24)).alloc (.cells p 45)).alloc (.cells a 31)).alloc (.cells r 31)).alloc (.cells o 31)) m p a r o := by
 have h := BW.start w m p a
 have h1 := h.below (below_alloc (Below.refl _ _) (.cells r 31))
 have h2 := h1.below (below_alloc (Below.refl _ _) (.cells o 31))
 refine ⟨h2.hb, h2.m, h2.p, h2.a, ?_, ?_⟩
 ·
  refine blk_below ?_ (below_alloc (Below.refl _ _) _)
  have h := heap_alloc_new (((w.alloc (.cells m 24)).alloc (.cells p 45)).alloc (.cells a 31)) (.cells r 31)
  rw [heap_size_alloc, heap_size_alloc, heap_size_alloc] at h
  exact h
 ·
  have h := heap_alloc_new ((((w.alloc (.cells m 24)).alloc (.cells p 45)).alloc (.cells a 31)).alloc (.cells r 31)) (.cells o 31)
  rw [heap_size_alloc, heap_size_alloc, heap_size_alloc, heap_size_alloc] at h
  exact h
theorem WW.putr {w W : World} {m p a r o : Array Value} (h : WW w W m p a r o) (i : Nat) (u : Value) : WW w (W.setCell ⟨w.heap.size + 1 + 1 + 1, i, none⟩ u) m p a (r.setIfInBounds i u) o :=
 have far : ∀ k, k ≠ w.heap.size + 1 + 1 + 1 → (W.setCell ⟨w.heap.size + 1 + 1 + 1, i, none⟩ u).heap[k]? = W.heap[k]? := fun k hk => Below.heap_setCell W _ u k hk
 ⟨h.hb.setCell (p := ⟨w.heap.size + 1 + 1 + 1, i, none⟩) (by show w.heap.size ≤ w.heap.size + 1 + 1 + 1; omega) u, (far _ (by omega)).trans h.m, (far _ (by omega)).trans h.p, (far _ (by omega)).trans h.a, blk_put h.r i u rfl, (far _ (by omega)).trans h.o⟩
theorem WW.puto {w W : World} {m p a r o : Array Value} (h : WW w W m p a r o) (i : Nat) (u : Value) : WW w (W.setCell ⟨w.heap.size + 1 + 1 + 1 + 1, i, none⟩ u) m p a r (o.setIfInBounds i u) :=
 have far : ∀ k, k ≠ w.heap.size + 1 + 1 + 1 + 1 → (W.setCell ⟨w.heap.size + 1 + 1 + 1 + 1, i, none⟩ u).heap[k]? = W.heap[k]? := fun k hk => Below.heap_setCell W _ u k hk
 ⟨h.hb.setCell (p := ⟨w.heap.size + 1 + 1 + 1 + 1, i, none⟩) (by show w.heap.size ≤ w.heap.size + 1 + 1 + 1 + 1; omega) u, (far _ (by omega)).trans h.m, (far _ (by omega)).trans h.p, (far _ (by omega)).trans h.a, (far _ (by omega)).trans h.r, blk_put h.o i u rfl⟩
theorem WW.cast {w W : World} {m p a r r' o : Array Value} (h : WW w W m p a r o) (e : r = r') : WW w W m p a r' o := e ▸ h
theorem WW.putall {w W : World} {m p a o : Array Value} (h : WW w W m p a #[.int .i64 0, .int .i64 0, .int .i64 0, .int .i64 0, .int .i64 0, .int .i64 0, .int .i64 0, .int .i64 0, .int .i64 0, .int .i64 0, .slice none 0 0] o) (u0 u1 u2 u3 u4 u5 u6 u7 u8 u9 u10 : Value) : WW w (((((((((((W.setCell ⟨w.heap.size + 1 + 1 + 1, 0, none⟩ u0).setCell ⟨w.heap.size + 1 + 1 + 1, 1, none⟩ u1).setCell ⟨w.heap.size + 1 + 1 + 1, 2, none⟩ u2).setCell ⟨w.heap.size + 1 + 1 + 1, 3, none⟩ u3).setCell ⟨w.heap.size + 1 + 1 + 1, 4, none⟩ u4).setCell ⟨w.heap.size + 1 + 1 + 1, 5, none⟩ u5).setCell ⟨w.heap.size + 1 + 1 + 1, 6, none⟩ u6).setCell ⟨w.heap.size + 1 + 1 + 1, 7, none⟩ u7).setCell ⟨w.heap.size + 1 + 1 + 1, 8, none⟩ u8).setCell ⟨w.heap.size + 1 + 1 + 1, 9, none⟩ u9).setCell ⟨w.heap.size + 1 + 1 + 1, 10, none⟩ u10) m p a #[u0, u1, u2, u3, u4, u5, u6, u7, u8, u9, u10] o := by
 have h1 : WW w (W.setCell ⟨w.heap.size + 1 + 1 + 1, 0, none⟩ u0) m p a #[u0, .int .i64 0, .int .i64 0, .int .i64 0, .int .i64 0, .int .i64 0, .int .i64 0, .int .i64 0, .int .i64 0, .int .i64 0, .slice none 0 0] o := (h.putr 0 u0).cast rfl
 have h2 : WW w ((W.setCell ⟨w.heap.size + 1 + 1 + 1, 0, none⟩ u0).setCell ⟨w.heap.size + 1 + 1 + 1, 1, none⟩ u1) m p a #[u0, u1, .int .i64 0, .int .i64 0, .int .i64 0, .int .i64 0, .int .i64 0, .int .i64 0, .int .i64 0, .int .i64 0, .slice none 0 0] o := (h1.putr 1 u1).cast rfl
 have h3 : WW w (((W.setCell ⟨w.heap.size + 1 + 1 + 1, 0, none⟩ u0).setCell ⟨w.heap.size + 1 + 1 + 1, 1, none⟩ u1).setCell ⟨w.heap.size + 1 + 1 + 1, 2, none⟩ u2) m p a #[u0, u1, u2, .int .i64 0, .int .i64 0, .int .i64 0, .int .i64 0, .int .i64 0, .int .i64 0, .int .i64 0, .slice none 0 0] o := (h2.putr 2 u2).cast rfl
 have h4 : WW w ((((W.setCell ⟨w.heap.size + 1 + 1 + 1, 0, none⟩ u0).setCell ⟨w.heap.size + 1 + 1 + 1, 1, none⟩ u1).setCell ⟨w.heap.size + 1 + 1 + 1, 2, none⟩ u2).setCell ⟨w.heap.size + 1 + 1 + 1, 3, none⟩ u3) m p a #[u0, u1, u2, u3, .int .i64 0, .int .i64 0, .int .i64 0, .int .i64 0, .int .i64 0, .int .i64 0, .slice none 0 0] o := (h3.putr 3 u3).cast rfl
 have h5 : WW w (((((W.setCell ⟨w.heap.size + 1 + 1 + 1, 0, none⟩ u0).setCell ⟨w.heap.size + 1 + 1 + 1, 1, none⟩ u1).setCell ⟨w.heap.size + 1 + 1 + 1, 2, none⟩ u2).setCell ⟨w.heap.size + 1 + 1 + 1, 3, none⟩ u3).setCell ⟨w.heap.size + 1 + 1 + 1, 4, none⟩ u4) m p a #[u0, u1, u2, u3, u4, .int .i64 0, .int .i64 0, .int .i64 0, .int .i64 0, .int .i64 0, .slice none 0 0] o := (h4.putr 4 u4).cast rfl
 have h6 : WW w ((((((W.setCell ⟨w.heap.size + 1 + 1 + 1, 0, none⟩ u0).setCell ⟨w.heap.size + 1 + 1 + 1, 1, none⟩ u1).setCell ⟨w.heap.size + 1 + 1 + 1, 2, none⟩ u2).setCell ⟨w.heap.size + 1 + 1 + 1, 3, none⟩ u3).setCell ⟨w.heap.size + 1 + 1 + 1, 4, none⟩ u4).setCell ⟨w.heap.size + 1 + 1 + 1, 5, none⟩ u5) m p a #[u0, u1, u2, u3, u4, u5, .int .i64 0, .int .i64 0, .int .i64 0, .int .i64 0, .slice none 0 0] o := (h5.putr 5 u5).cast rfl
 have h7 : WW w (((((((W.setCell ⟨w.heap.size + 1 + 1 + 1, 0, none⟩ u0).setCell ⟨w.heap.size + 1 + 1 + 1, 1, none⟩ u1).setCell ⟨w.heap.size + 1 + 1 + 1, 2, none⟩ u2).setCell ⟨w.heap.size + 1 + 1 + 1, 3, none⟩ u3).setCell ⟨w.heap.size + 1 + 1 + 1, 4, none⟩ u4).setCell ⟨w.heap.size + 1 + 1 + 1, 5, none⟩ u5).setCell ⟨w.heap.size + 1 + 1 + 1, 6, none⟩ u6) m p a #[u0, u1, u2, u3, u4, u5, u6, .int .i64 0, .int .i64 0, .int .i64 0, .slice none 0 0] o := (h6.putr 6 u6).cast rfl
 have h8 : WW w ((((((((W.setCell ⟨w.heap.size + 1 + 1 + 1, 0, none⟩ u0).setCell ⟨w.heap.size + 1 + 1 + 1, 1, none⟩ u1).setCell ⟨w.heap.size + 1 + 1 + 1, 2, none⟩ u2).setCell ⟨w.heap.size + 1 + 1 + 1, 3, none⟩ u3).setCell ⟨w.heap.size + 1 + 1 + 1, 4, none⟩ u4).setCell ⟨w.heap.size + 1 + 1 + 1, 5, none⟩ u5).setCell ⟨w.heap.size + 1 + 1 + 1, 6, none⟩ u6).setCell ⟨w.heap.size + 1 + 1 + 1, 7, none⟩ u7) m p a #[u0, u1, u2, u3, u4, u5, u6, u7, .int .i64 0, .int .i64 0, .slice none 0 0] o := (h7.putr 7 u7).cast rfl
 have h9 : WW w (((((((((W.setCell ⟨w.heap.size + 1 + 1 + 1, 0, none⟩ u0).setCell ⟨w.heap.size + 1 + 1 + 1, 1, none⟩ u1).setCell ⟨w.heap.size + 1 + 1 + 1, 2, none⟩ u2).setCell ⟨w.heap.size + 1 + 1 + 1, 3, none⟩ u3).setCell ⟨w.heap.size + 1 + 1 + 1, 4, none⟩ u4).setCell ⟨w.heap.size + 1 + 1 + 1, 5, none⟩ u5).setCell ⟨w.heap.size + 1 + 1 + 1, 6, none⟩ u6).setCell ⟨w.heap.size + 1 + 1 + 1, 7, none⟩ u7).setCell ⟨w.heap.size + 1 + 1 + 1, 8, none⟩ u8) m p a #[u0, u1, u2, u3, u4, u5, u6, u7, u8, .int .i64 0, .slice none 0 0] o := (h8.putr 8 u8).cast rfl
 have h10 : WW w ((((((((((W.setCell ⟨w.heap.size + 1 + 1 + 1, 0, none⟩ u0).setCell ⟨w.heap.size + 1 + 1 + 1, 1, none⟩ u1).setCell ⟨w.heap.size + 1 + 1 + 1, 2, none⟩ u2).setCell ⟨w.heap.size + 1 + 1 + 1, 3, none⟩ u3).setCell ⟨w.heap.size + 1 + 1 + 1, 4, none⟩ u4).setCell ⟨w.heap.size + 1 + 1 + 1, 5, none⟩ u5).setCell ⟨w.heap.size + 1 + 1 + 1, 6, none⟩ u6).setCell ⟨w.heap.size + 1 + 1 + 1, 7, none⟩ u7).setCell ⟨w.heap.size + 1 + 1 + 1, 8, none⟩ u8).setCell ⟨w.heap.size + 1 + 1 + 1, 9, none⟩ u9) m p a #[u0, u1, u2, u3, u4, u5, u6, u7, u8, u9, .slice none 0 0] o := (h9.putr 9 u9).cast rfl
 have h11 : WW w (((((((((((W.setCell ⟨w.heap.size + 1 + 1 + 1, 0, none⟩ u0).setCell ⟨w.heap.size + 1 + 1 + 1, 1, none⟩ u1).setCell ⟨w.heap.size + 1 + 1 + 1, 2, none⟩ u2).setCell ⟨w.heap.size + 1 + 1 + 1, 3, none⟩ u3).setCell ⟨w.heap.size + 1 + 1 + 1, 4, none⟩ u4).setCell ⟨w.heap.size + 1 + 1 + 1, 5, none⟩ u5).setCell ⟨w.heap.size + 1 + 1 + 1, 6, none⟩ u6).setCell ⟨w.heap.size + 1 + 1 + 1, 7, none⟩ u7).setCell ⟨w.heap.size + 1 + 1 + 1, 8, none⟩ u8).setCell ⟨w.heap.size + 1 + 1 + 1, 9, none⟩ u9).setCell ⟨w.heap.size + 1 + 1 + 1, 10, none⟩ u10) m p a #[u0, u1, u2, u3, u4, u5, u6, u7, u8, u9, u10] o := (h10.putr 10 u10).cast rfl
 exact h11
theorem R_far11 {α : Type} {d : Kd α} {e : TypeId} {W : World} {base : Nat} {ok : Nat → Prop} {v : Value} {xs : List α} (h : Kd.R d e W base ok v xs) {g : Nat} (hok : ∀ k, ok k → k ≠ g) (u0 u1 u2 u3 u4 u5 u6 u7 u8 u9 u10 : Value) : Kd.R d e (((((((((((W.setCell ⟨g, 0, none⟩ u0).setCell ⟨g, 1, none⟩ u1).setCell ⟨g, 2, none⟩ u2).setCell ⟨g, 3, none⟩ u3).setCell ⟨g, 4, none⟩ u4).setCell ⟨g, 5, none⟩ u5).setCell ⟨g, 6, none⟩ u6).setCell ⟨g, 7, none⟩ u7).setCell ⟨g, 8, none⟩ u8).setCell ⟨g, 9, none⟩ u9).setCell ⟨g, 10, none⟩ u10) base ok v xs := (Kd.R_far (Kd.R_far (Kd.R_far (Kd.R_far (Kd.R_far (Kd.R_far (Kd.R_far (Kd.R_far (Kd.R_far (Kd.R_far (Kd.R_far h (p := ⟨g, 0, none⟩) hok u0) (p := ⟨g, 1, none⟩) hok u1) (p := ⟨g, 2, none⟩) hok u2) (p := ⟨g, 3, none⟩) hok u3) (p := ⟨g, 4, none⟩) hok u4) (p := ⟨g, 5, none⟩) hok u5) (p := ⟨g, 6, none⟩) hok u6) (p := ⟨g, 7, none⟩) hok u7) (p := ⟨g, 8, none⟩) hok u8) (p := ⟨g, 9, none⟩) hok u9) (p := ⟨g, 10, none⟩) hok u10)
set_option maxHeartbeats 8000000 in
set_option maxRecDepth 100000 in
theorem switchboardref18_Work.calls (n : Int) (A0 : Option Addr) (c0 : Nat) (ls : List S61) (e : Int) (A1 : Option Addr) (c1 : Nat) (hs : List (List Int)) (node : Int) (A3 : Option Addr) (c3 : Nat) (es : List S42) (a0 a1 a2 a3 a4 a5 a6 a7 a8 a9 : Int) (A2 : Option Addr) (c2 : Nat) (v : List Int) (hB : Bool) (at_ : Int) (k0 : Int) (rv : List Int) (r : Bool) (w : World) (hr0 : Kd.C k61 w A0 ls.length ls) (hc0 : ls.length ≤ c0) (hr1 : Kd.C (Kd.slice 3 (Kd.int .i64)) w A1 hs.length hs) (hc1 : hs.length ≤ c1) (hr3 : Kd.C k42 w A3 es.length es) (hc3 : es.length ≤ c3) (hr2 : Kd.C (Kd.int .i64) w A2 v.length v) (hc2 : v.length ≤ c2) (h : WorkH n ls e hs node es a0 a1 a2 a3 a4 a5 a6 a7 a8 a9 v hB at_ k0 rv r) :
 Calls Try.prog 13 #[.agg #[.int .i64 n, .slice A0 ls.length c0], .agg #[.int .i64 e, .slice A1 hs.length c1], .int .i64 node, .slice A3 es.length c3, .agg #[.int .i64 a0, .int .i64 a1, .int .i64 a2, .int .i64 a3, .int .i64 a4, .int .i64 a5, .int .i64 a6, .int .i64 a7, .int .i64 a8, .int .i64 a9, .slice A2 v.length c2]] w fun ev w' => ∃ (A : Option Addr) (c : Nat), ev = .returned (.tuple #[.agg #[.int .i64 k0, .int .i64 node, .int .i64 a1, .int .i64 a3, .int .i64 a4, .int .i64 a5, .int .i64 a6, .int .i64 a7, .int .i64 a8, .int .i64 e, .slice A rv.length c], .bool r]) ∧ rv.length ≤ c ∧ Kd.C (Kd.int .i64) w' A rv.length rv ∧ Below w.heap.size w w' := by
 have hu24 := Try.underlying24; have hu45 := Try.underlying45; have hu31 := Try.underlying31; have hu42 := Try.underlying42
 obtain ⟨kF, hkF⟩ := h.hFind.rounds
 have HH := Aside0.mk h; have HFE := Aside0.mk hkF; have HR0 := Aside0.mk hr0; have HC0 := Aside0.mk hc0; have HR1 := Aside0.mk hr1; have HC1 := Aside0.mk hc1; have HR2 := Aside0.mk hr2; have HC2 := Aside0.mk hc2; have HR3 := Aside0.mk hr3; have HC3 := Aside0.mk hc3; have p8 := h.p8; clear h hkF hr0 hc0 hr1 hc1 hr2 hc2 hr3 hc3
 go_enter Try.func13, Try.ntmps13
 go_upto_region 2 with (fail)
 have HL := Aside0.mk (WW.start w #[.int .i64 n, .slice A0 ls.length c0] #[.int .i64 e, .slice A1 hs.length c1] #[.int .i64 a0, .int .i64 a1, .int .i64 a2, .int .i64 a3, .int .i64 a4, .int .i64 a5, .int .i64 a6, .int .i64 a7, .int .i64 a8, .int .i64 a9, .slice A2 v.length c2] #[.int .i64 0, .int .i64 0, .int .i64 0, .int .i64 0, .int .i64 0, .int .i64 0, .int .i64 0, .int .i64 0, .int .i64 0, .int .i64 0, .slice none 0 0] #[.int .i64 3, .int .i64 node, .int .i64 a1, .int .i64 a3, .int .i64 a4, .int .i64 a5, .int .i64 a6, .int .i64 a7, .int .i64 a8, .int .i64 e, .slice none 0 0])
 generalize (((((w.alloc (.cells #[.int .i64 n, .slice A0 ls.length c0] 24)).alloc (.cells #[.int .i64 e, .slice A1 hs.length c1] 45)).alloc (.cells #[.int .i64 a0, .int .i64 a1, .int .i64 a2, .int .i64 a3, .int .i64 a4, .int .i64 a5, .int .i64 a6, .int .i64 a7, .int .i64 a8, .int .i64 a9, .slice A2 v.length c2] 31)).alloc (.cells #[.int .i64 0, .int .i64 0, .int .i64 0, .int .i64 0, .int .i64 0, .int .i64 0, .int .i64 0, .int .i64 0, .int .i64 0, .int .i64 0, .slice none 0 0] 31)).alloc (.cells #[.int .i64 3, .int .i64 node, .int .i64 a1, .int .i64 a3, .int .i64 a4, .int .i64 a5, .int .i64 a6, .int .i64 a7, .int .i64 a8, .int .i64 e, .slice none 0 0] 31)) = w5 at HL ⊢
 have ha9 : w5.cell? ⟨w.heap.size + 1 + 1, 9, none⟩ = some (.int .i64 a9) := (blk_cell HL.out.a 9).trans rfl
 have hp0 : w5.cell? ⟨w.heap.size + 1, 0, none⟩ = some (.int .i64 e) := (blk_cell HL.out.p 0).trans rfl
 have ha8 : w5.cell? ⟨w.heap.size + 1 + 1, 8, none⟩ = some (.int .i64 a8) := (blk_cell HL.out.a 8).trans rfl
 have hp1 : w5.cell? ⟨w.heap.size + 1, 1, none⟩ = some (.slice A1 hs.length c1) := (blk_cell HL.out.p 1).trans rfl
 by_cases h9 : a9 = e
 case neg =>
  have k9 : decide (¬ a9 = e) = true := decide_eq_true h9
  have k9' : decide (a9 = e) = false := decide_eq_false h9
  obtain ⟨rfl, rfl, rfl⟩ := HH.out.stale (by rintro ⟨h_, _⟩; exact h9 h_)
  go_upto_region 3 with (fail)
  clear ha9 hp0 ha8 hp1
  obtain ⟨ho0, ho1, ho2, ho3, ho4, ho5, ho6, ho7, ho8, ho9, ho10⟩ := cells11 HL.out.o
  obtain ⟨hr0, hr1, hr2, hr3, hr4, hr5, hr6, hr7, hr8, hr9, hr10⟩ := cells11 HL.out.r
  obtain ⟨hf0, hf1, hf2, hf3, hf4, hf5, hf6, hf7, hf8, hf9, hf10⟩ := froz11 HL.out.r
  go_wp2
  have HF := Aside0.mk (HL.out.putall (.int .i64 3) (.int .i64 node) (.int .i64 a1) (.int .i64 a3) (.int .i64 a4) (.int .i64 a5) (.int .i64 a6) (.int .i64 a7) (.int .i64 a8) (.int .i64 e) (.slice none 0 0))
  generalize (((((((((((w5.setCell ⟨w.heap.size + 1 + 1 + 1, 0, none⟩ (.int .i64 3)).setCell ⟨w.heap.size + 1 + 1 + 1, 1, none⟩ (.int .i64 node)).setCell ⟨w.heap.size + 1 + 1 + 1, 2, none⟩ (.int .i64 a1)).setCell ⟨w.heap.size + 1 + 1 + 1, 3, none⟩ (.int .i64 a3)).setCell ⟨w.heap.size + 1 + 1 + 1, 4, none⟩ (.int .i64 a4)).setCell ⟨w.heap.size + 1 + 1 + 1, 5, none⟩ (.int .i64 a5)).setCell ⟨w.heap.size + 1 + 1 + 1, 6, none⟩ (.int .i64 a6)).setCell ⟨w.heap.size + 1 + 1 + 1, 7, none⟩ (.int .i64 a7)).setCell ⟨w.heap.size + 1 + 1 + 1, 8, none⟩ (.int .i64 a8)).setCell ⟨w.heap.size + 1 + 1 + 1, 9, none⟩ (.int .i64 e)).setCell ⟨w.heap.size + 1 + 1 + 1, 10, none⟩ (.slice none 0 0)) = wf at HF ⊢
  refine bodyPost_ret (results_list (rs := [.cell 10 31, .tmp 11]) rfl (by simp) (.cell _ 31 #[.int .i64 3, .int .i64 node, .int .i64 a1, .int .i64 a3, .int .i64 a4, .int .i64 a5, .int .i64 a6, .int .i64 a7, .int .i64 a8, .int .i64 e, .slice none 0 0] (0, 0) _ rfl HF.out.r Try.underlying31 rfl (by kernel_rfl) (.tmp .nil))) rfl ?_
  first | exact ⟨none, 0, rfl, Nat.le_refl 0, Kd.C_nil _ _, HF.out.hb⟩ | exact ⟨none, ⟨0, rfl⟩, Kd.C_nil _ _, HF.out.hb⟩
 have k9 : decide (¬ a9 = e) = false := decide_eq_false (fun h_ => h_ h9)
 have k9' : decide (a9 = e) = true := decide_eq_true h9
 by_cases h8 : a8 < (hs.length : Int)
 rotate_left
 ·
  have k8 : decide (a8 ≥ (hs.length : Int)) = true := decide_eq_true (by omega)
  have k8' : decide ((hs.length : Int) ≤ a8) = true := decide_eq_true (by omega)
  obtain ⟨rfl, rfl, rfl⟩ := HH.out.stale (by rintro ⟨_, h_, _⟩; exact h8 h_)
  go_upto_region 3 with (fail)
  clear ha9 hp0 ha8 hp1
  obtain ⟨ho0, ho1, ho2, ho3, ho4, ho5, ho6, ho7, ho8, ho9, ho10⟩ := cells11 HL.out.o
  obtain ⟨hr0, hr1, hr2, hr3, hr4, hr5, hr6, hr7, hr8, hr9, hr10⟩ := cells11 HL.out.r
  obtain ⟨hf0, hf1, hf2, hf3, hf4, hf5, hf6, hf7, hf8, hf9, hf10⟩ := froz11 HL.out.r
  go_wp2
  have HF := Aside0.mk (HL.out.putall (.int .i64 3) (.int .i64 node) (.int .i64 a1) (.int .i64 a3) (.int .i64 a4) (.int .i64 a5) (.int .i64 a6) (.int .i64 a7) (.int .i64 a8) (.int .i64 e) (.slice none 0 0))
  generalize (((((((((((w5.setCell ⟨w.heap.size + 1 + 1 + 1, 0, none⟩ (.int .i64 3)).setCell ⟨w.heap.size + 1 + 1 + 1, 1, none⟩ (.int .i64 node)).setCell ⟨w.heap.size + 1 + 1 + 1, 2, none⟩ (.int .i64 a1)).setCell ⟨w.heap.size + 1 + 1 + 1, 3, none⟩ (.int .i64 a3)).setCell ⟨w.heap.size + 1 + 1 + 1, 4, none⟩ (.int .i64 a4)).setCell ⟨w.heap.size + 1 + 1 + 1, 5, none⟩ (.int .i64 a5)).setCell ⟨w.heap.size + 1 + 1 + 1, 6, none⟩ (.int .i64 a6)).setCell ⟨w.heap.size + 1 + 1 + 1, 7, none⟩ (.int .i64 a7)).setCell ⟨w.heap.size + 1 + 1 + 1, 8, none⟩ (.int .i64 a8)).setCell ⟨w.heap.size + 1 + 1 + 1, 9, none⟩ (.int .i64 e)).setCell ⟨w.heap.size + 1 + 1 + 1, 10, none⟩ (.slice none 0 0)) = wf at HF ⊢
  refine bodyPost_ret (results_list (rs := [.cell 10 31, .tmp 11]) rfl (by simp) (.cell _ 31 #[.int .i64 3, .int .i64 node, .int .i64 a1, .int .i64 a3, .int .i64 a4, .int .i64 a5, .int .i64 a6, .int .i64 a7, .int .i64 a8, .int .i64 e, .slice none 0 0] (0, 0) _ rfl HF.out.r Try.underlying31 rfl (by kernel_rfl) (.tmp .nil))) rfl ?_
  first | exact ⟨none, 0, rfl, Nat.le_refl 0, Kd.C_nil _ _, HF.out.hb⟩ | exact ⟨none, ⟨0, rfl⟩, Kd.C_nil _ _, HF.out.hb⟩
 obtain ⟨q, rfl⟩ : ∃ q : Nat, a8 = (q : Int) := ⟨a8.toNat, by omega⟩
 have k8 : decide ((q : Int) ≥ (hs.length : Int)) = false := decide_eq_false (by omega)
 have k8' : decide ((hs.length : Int) ≤ (q : Int)) = false := decide_eq_false (by omega)
 have k8n : decide (hs.length ≤ q) = false := decide_eq_false (by omega)
 have HHAS := HH.out.hHas h9 h8
 obtain ⟨ad, Bx, dx, hA, hxt, hlx, hCx⟩ := at_L1 (Kd.C_below HR1.out HL.out.hb) (q : Int) (by omega) h8
 subst hA
 rw [Int.toNat_natCast] at hxt
 obtain ⟨u, hu⟩ : ∃ u, u = rd_L1 hs (q : Int) := ⟨_, rfl⟩
 rw [← hu] at hxt hlx hCx HHAS
 obtain ⟨kH, hkH⟩ := HHAS.rounds
 have HHE := Aside0.mk hkH; have HCX := Aside0.mk hCx; have HLX := Aside0.mk hlx; clear HHAS hkH hCx hlx hu; cases hB
 case false =>
  obtain ⟨rfl, rfl, rfl⟩ := HH.out.stale (by rintro ⟨_, _, h_⟩; exact absurd h_ (by decide))
  go_upto_region 3 with ((go_at_call 26; refine (switchboardref17_Has.calls kH Bx dx u node false _ HCX.out HLX.out HHE.out).mono ?_; rintro e_ w6 ⟨rfl, hd⟩; have HL6 := Aside0.mk (HL.out.below hd.below); clear hd ha9 hp0 ha8 hp1 hxt))
  skip
  obtain ⟨ho0, ho1, ho2, ho3, ho4, ho5, ho6, ho7, ho8, ho9, ho10⟩ := cells11 HL6.out.o
  obtain ⟨hr0, hr1, hr2, hr3, hr4, hr5, hr6, hr7, hr8, hr9, hr10⟩ := cells11 HL6.out.r
  obtain ⟨hf0, hf1, hf2, hf3, hf4, hf5, hf6, hf7, hf8, hf9, hf10⟩ := froz11 HL6.out.r
  go_wp2
  have HF := Aside0.mk (HL6.out.putall (.int .i64 3) (.int .i64 node) (.int .i64 a1) (.int .i64 a3) (.int .i64 a4) (.int .i64 a5) (.int .i64 a6) (.int .i64 a7) (.int .i64 (q : Int)) (.int .i64 e) (.slice none 0 0))
  generalize (((((((((((w6.setCell ⟨w.heap.size + 1 + 1 + 1, 0, none⟩ (.int .i64 3)).setCell ⟨w.heap.size + 1 + 1 + 1, 1, none⟩ (.int .i64 node)).setCell ⟨w.heap.size + 1 + 1 + 1, 2, none⟩ (.int .i64 a1)).setCell ⟨w.heap.size + 1 + 1 + 1, 3, none⟩ (.int .i64 a3)).setCell ⟨w.heap.size + 1 + 1 + 1, 4, none⟩ (.int .i64 a4)).setCell ⟨w.heap.size + 1 + 1 + 1, 5, none⟩ (.int .i64 a5)).setCell ⟨w.heap.size + 1 + 1 + 1, 6, none⟩ (.int .i64 a6)).setCell ⟨w.heap.size + 1 + 1 + 1, 7, none⟩ (.int .i64 a7)).setCell ⟨w.heap.size + 1 + 1 + 1, 8, none⟩ (.int .i64 (q : Int))).setCell ⟨w.heap.size + 1 + 1 + 1, 9, none⟩ (.int .i64 e)).setCell ⟨w.heap.size + 1 + 1 + 1, 10, none⟩ (.slice none 0 0)) = wf at HF ⊢
  refine bodyPost_ret (results_list (rs := [.cell 10 31, .tmp 11]) rfl (by simp) (.cell _ 31 #[.int .i64 3, .int .i64 node, .int .i64 a1, .int .i64 a3, .int .i64 a4, .int .i64 a5, .int .i64 a6, .int .i64 a7, .int .i64 (q : Int), .int .i64 e, .slice none 0 0] (0, 0) _ rfl HF.out.r Try.underlying31 rfl (by kernel_rfl) (.tmp .nil))) rfl ?_
  first | exact ⟨none, 0, rfl, Nat.le_refl 0, Kd.C_nil _ _, HF.out.hb⟩ | exact ⟨none, ⟨0, rfl⟩, Kd.C_nil _ _, HF.out.hb⟩
 case true =>
  go_upto_region 4 with ((go_at_call 26; refine (switchboardref17_Has.calls kH Bx dx u node true _ HCX.out HLX.out HHE.out).mono ?_; rintro e_ w6 ⟨rfl, hd⟩; have HL6 := Aside0.mk (HL.out.below hd.below); clear hd ha9 hp0 ha8 hp1 hxt))
  have ho0 : w6.cell? ⟨w.heap.size + 1 + 1 + 1 + 1, 0, none⟩ = some (.int .i64 3) := (blk_cell HL6.out.o 0).trans rfl
  have hf := blk_frozen HL6.out.o 0
  go_upto_region 5 with (fail)
  clear ho0 hf
  have HL7 : Aside0 (WW w (w6.setCell ⟨w.heap.size + 1 + 1 + 1 + 1, 0, none⟩ (.int .i64 2)) #[.int .i64 n, .slice A0 ls.length c0] #[.int .i64 e, .slice (some ad) hs.length c1] #[.int .i64 a0, .int .i64 a1, .int .i64 a2, .int .i64 a3, .int .i64 a4, .int .i64 a5, .int .i64 a6, .int .i64 a7, .int .i64 (q : Int), .int .i64 a9, .slice A2 v.length c2] #[.int .i64 0, .int .i64 0, .int .i64 0, .int .i64 0, .int .i64 0, .int .i64 0, .int .i64 0, .int .i64 0, .int .i64 0, .int .i64 0, .slice none 0 0] #[.int .i64 2, .int .i64 node, .int .i64 a1, .int .i64 a3, .int .i64 a4, .int .i64 a5, .int .i64 a6, .int .i64 a7, .int .i64 (q : Int), .int .i64 e, .slice none 0 0]) := ⟨HL6.out.puto 0 _⟩
  generalize w6.setCell ⟨w.heap.size + 1 + 1 + 1 + 1, 0, none⟩ (.int .i64 2) = w7 at HL7 ⊢
  have ha4 : w7.cell? ⟨w.heap.size + 1 + 1, 4, none⟩ = some (.int .i64 a4) := (blk_cell HL7.out.a 4).trans rfl
  have ha5 : w7.cell? ⟨w.heap.size + 1 + 1, 5, none⟩ = some (.int .i64 a5) := (blk_cell HL7.out.a 5).trans rfl
  have ha6 : w7.cell? ⟨w.heap.size + 1 + 1, 6, none⟩ = some (.int .i64 a6) := (blk_cell HL7.out.a 6).trans rfl
  have ha7 : w7.cell? ⟨w.heap.size + 1 + 1, 7, none⟩ = some (.int .i64 a7) := (blk_cell HL7.out.a 7).trans rfl
  by_cases hat : 0 ≤ at_
  ·
   obtain ⟨hat2, rfl, hrv, rfl⟩ := HH.out.found h9 h8 rfl hat
   have k10 : decide (at_ ≥ 0) = true := decide_eq_true hat
   have k10' : decide (0 ≤ at_) = true := decide_eq_true hat
   obtain ⟨p, rfl⟩ : ∃ p : Nat, at_ = (p : Int) := ⟨at_.toNat, by omega⟩
   obtain ⟨ae, Be, de, hA, -, -, -, -, hy4, hle, hCe⟩ := at_T42 HR3.out (p : Int) (by omega) hat2
   subst hA
   rw [Int.toNat_natCast] at hy4
   obtain ⟨y, hy⟩ : ∃ y, y = rd_T42 es (p : Int) := ⟨_, rfl⟩
   rw [← hy] at hy4 hle hCe hrv
   subst hrv; have HY4 := Aside0.mk hy4; have HLE := Aside0.mk hle; have HCE := Aside0.mk hCe; clear hy hy4 hle hCe
   go_upto_region 7 with ((go_at_call 27; refine (switchboardref12_Find.calls kF (some ae) c3 es a4 a5 a6 a7 (p : Int) _ (Kd.C_below HR3.out HL7.out.hb) HC3.out HFE.out).mono ?_; rintro e_ w8 ⟨rfl, hb⟩; have HL8 := Aside0.mk (HL7.out.below hb); clear hb ha4 ha5 ha6 ha7))
   have hy4 := pw_cell_below HL8.out.hb HY4.out
   have ho10 : w8.cell? ⟨w.heap.size + 1 + 1 + 1 + 1, 10, none⟩ = some (.slice none 0 0) := (blk_cell HL8.out.o 10).trans rfl
   have hf := blk_frozen HL8.out.o 10
   go_upto_region 8 with (fail)
   clear ho10 hf hy4
   have HL9 : Aside0 (WW w (w8.setCell ⟨w.heap.size + 1 + 1 + 1 + 1, 10, none⟩ (.slice Be y.f1.length de)) #[.int .i64 n, .slice A0 ls.length c0] #[.int .i64 e, .slice (some ad) hs.length c1] #[.int .i64 a0, .int .i64 a1, .int .i64 a2, .int .i64 a3, .int .i64 a4, .int .i64 a5, .int .i64 a6, .int .i64 a7, .int .i64 (q : Int), .int .i64 a9, .slice A2 v.length c2] #[.int .i64 0, .int .i64 0, .int .i64 0, .int .i64 0, .int .i64 0, .int .i64 0, .int .i64 0, .int .i64 0, .int .i64 0, .int .i64 0, .slice none 0 0] #[.int .i64 2, .int .i64 node, .int .i64 a1, .int .i64 a3, .int .i64 a4, .int .i64 a5, .int .i64 a6, .int .i64 a7, .int .i64 (q : Int), .int .i64 e, .slice Be y.f1.length de]) := ⟨HL8.out.puto 10 _⟩
   generalize w8.setCell ⟨w.heap.size + 1 + 1 + 1 + 1, 10, none⟩ (.slice Be y.f1.length de) = w9 at HL9 ⊢
   obtain ⟨ho0, ho1, ho2, ho3, ho4, ho5, ho6, ho7, ho8, ho9, ho10⟩ := cells11 HL9.out.o
   obtain ⟨hr0, hr1, hr2, hr3, hr4, hr5, hr6, hr7, hr8, hr9, hr10⟩ := cells11 HL9.out.r
   obtain ⟨hf0, hf1, hf2, hf3, hf4, hf5, hf6, hf7, hf8, hf9, hf10⟩ := froz11 HL9.out.r
   go_wp2
   have HF := Aside0.mk (HL9.out.putall (.int .i64 2) (.int .i64 node) (.int .i64 a1) (.int .i64 a3) (.int .i64 a4) (.int .i64 a5) (.int .i64 a6) (.int .i64 a7) (.int .i64 (q : Int)) (.int .i64 e) (.slice Be y.f1.length de))
   generalize (((((((((((w9.setCell ⟨w.heap.size + 1 + 1 + 1, 0, none⟩ (.int .i64 2)).setCell ⟨w.heap.size + 1 + 1 + 1, 1, none⟩ (.int .i64 node)).setCell ⟨w.heap.size + 1 + 1 + 1, 2, none⟩ (.int .i64 a1)).setCell ⟨w.heap.size + 1 + 1 + 1, 3, none⟩ (.int .i64 a3)).setCell ⟨w.heap.size + 1 + 1 + 1, 4, none⟩ (.int .i64 a4)).setCell ⟨w.heap.size + 1 + 1 + 1, 5, none⟩ (.int .i64 a5)).setCell ⟨w.heap.size + 1 + 1 + 1, 6, none⟩ (.int .i64 a6)).setCell ⟨w.heap.size + 1 + 1 + 1, 7, none⟩ (.int .i64 a7)).setCell ⟨w.heap.size + 1 + 1 + 1, 8, none⟩ (.int .i64 (q : Int))).setCell ⟨w.heap.size + 1 + 1 + 1, 9, none⟩ (.int .i64 e)).setCell ⟨w.heap.size + 1 + 1 + 1, 10, none⟩ (.slice Be y.f1.length de)) = wf at HF ⊢
   refine bodyPost_ret (results_list (rs := [.cell 10 31, .tmp 11]) rfl (by simp) (.cell _ 31 #[.int .i64 2, .int .i64 node, .int .i64 a1, .int .i64 a3, .int .i64 a4, .int .i64 a5, .int .i64 a6, .int .i64 a7, .int .i64 (q : Int), .int .i64 e, .slice Be y.f1.length de] (0, 0) _ rfl HF.out.r Try.underlying31 rfl (by kernel_rfl) (.tmp .nil))) rfl ?_
   exact ⟨Be, de, rfl, HLE.out, Kd.C_below HCE.out HF.out.hb, HF.out.hb⟩
  ·
   obtain ⟨rfl, rfl, hrun⟩ := HH.out.anew h9 h8 rfl (by omega)
   have k10 : decide (at_ ≥ 0) = false := decide_eq_false (by omega)
   have k10' : decide (0 ≤ at_) = false := decide_eq_false (by omega)
   obtain ⟨h50, h51⟩ := HH.out.p5
   have h8x := HH.out.px
   obtain ⟨z, rfl⟩ : ∃ z : Nat, a5 = (z : Int) := ⟨a5.toNat, by omega⟩
   obtain ⟨am, B0_, d0_, B1_, d1_, hA, -, hz1, -, -, -, hlz, hCz⟩ := at_T61 HR0.out (z : Int) (by omega) h51
   subst hA
   rw [Int.toNat_natCast] at hz1
   obtain ⟨x, hx⟩ : ∃ x, x = rd_T61 ls (z : Int) := ⟨_, rfl⟩
   rw [← hx] at hz1 hlz hCz hrun h8x
   clear hx
   obtain ⟨ax, B0, d0, B1, d1, hA, hw0, hw1, hl0, hC0, hl1, hC1⟩ := at_T63 hCz (q : Int) (by omega) h8x
   subst hA
   rw [Int.toNat_natCast] at hw0 hw1
   obtain ⟨y, hy⟩ : ∃ y, y = rd_T63 x.f1 (q : Int) := ⟨_, rfl⟩
   rw [← hy] at hw0 hw1 hl0 hC0 hl1 hC1 hrun
   clear hy
   obtain ⟨kr, hkr⟩ := hrun.rounds
   have HKR := Aside0.mk hkr; have HZ1_ := Aside0.mk hz1; have HW0_ := Aside0.mk hw0; have HW1_ := Aside0.mk hw1; have HL0_ := Aside0.mk hl0; have HC0_ := Aside0.mk hC0; have HL1_ := Aside0.mk hl1; have HC1_ := Aside0.mk hC1
   have hzl : z < ls.length := by omega
   have hqx : q < x.f1.length := by omega
   clear hrun hkr hz1 hlz hCz hw0 hw1 hl0 hC0 hl1 hC1 h8x h50 h51
   go_upto_region 9 with ((go_at_call 27; refine (switchboardref12_Find.calls kF A3 c3 es a4 (z : Int) a6 a7 at_ _ (Kd.C_below HR3.out HL7.out.hb) HC3.out HFE.out).mono ?_; rintro e_ w8 ⟨rfl, hb⟩; have HL8 := Aside0.mk (HL7.out.below hb); clear hb ha4 ha5 ha6 ha7))
   have HL9 := Aside0.mk (HL8.out.below (below_drew (Below.refl w8.heap.size w8)))
   refine start_ (n := 16) (S := fun W => W.cell? (⟨w.heap.size, 1, none⟩) = some (.slice (some am) ls.length c0) ∧ W.cell? (⟨w.heap.size + 1 + 1, 5, none⟩) = some (.int .i64 (z : Int)) ∧ W.cell? (⟨w.heap.size + 1 + 1, 8, none⟩) = some (.int .i64 (q : Int)) ∧ W.cell? (⟨w.heap.size + 1 + 1, 10, none⟩) = some (.slice A2 v.length c2) ∧ W.cell? (⟨(am.add (z * 3)).block, (am.add (z * 3)).off + 1, none⟩) = some (.slice (some ax) x.f1.length d1_) ∧ W.cell? (ax.add (q * 2)) = some (.slice B0 y.f0.length d0) ∧ W.cell? (⟨(ax.add (q * 2)).block, (ax.add (q * 2)).off + 1, none⟩) = some (.slice B1 y.f1.length d1)) (ds := []) #[false, false, false, false, false, false, false, false, false, false, false, false, false, false, false, false] (by kernel_rfl) rfl rfl ⟨(blk_cell HL9.out.m 1).trans rfl, (blk_cell HL9.out.a 5).trans rfl, (blk_cell HL9.out.a 8).trans rfl, (blk_cell HL9.out.a 10).trans rfl, pw_cell_below HL9.out.hb HZ1_.out, pw_cell_below HL9.out.hb HW0_.out, pw_cell_below HL9.out.hb HW1_.out⟩ (fun hHeld => ?_)
   generalize w8.drew = w9 at HL9 hHeld ⊢
   refine pure_ (i := 0) (N := some 78) (v := ?_) (a' := ?_) #[true, false, false, false, false, false, false, false, false, false, false, false, false, false, false, false] rfl rfl (any_of rfl (by kernel_rfl)) (fun _ _ _ h => h) (Or.inl ⟨by rfl, ?_⟩) ?_ ?_
   rotate_left
   ·
    intro w'; go_simp; with_reducible rfl
   rotate_left
   ·
    simp only [Act.put, List.setIfInBounds_toArray, List.set_cons_zero, List.set_cons_succ, i64_w, i32_w]
    rfl
   refine take_ (i := 1) (N := some 79) (v := ?_) (a' := ?_) #[true, true, false, false, false, false, false, false, false, false, false, false, false, false, false, false] rfl rfl (take_of rfl (by kernel_rfl)) (fun _ _ _ h => h) (Or.inl ⟨by rfl, ?_⟩) hHeld ?_ ?_
   rotate_left
   ·
    rintro w' ⟨s0, s1, s2, s3, s4, s5, s6⟩; go_simp; with_reducible rfl
   rotate_left
   ·
    simp only [Act.put, List.setIfInBounds_toArray, List.set_cons_zero, List.set_cons_succ, i64_w, i32_w]
    rfl
   refine pure_ (i := 2) (N := some 80) (v := ?_) (a' := ?_) #[true, true, true, false, false, false, false, false, false, false, false, false, false, false, false, false] rfl rfl (any_of rfl (by kernel_rfl)) (fun _ _ _ h => h) (Or.inl ⟨by rfl, ?_⟩) ?_ ?_
   rotate_left
   ·
    intro w'; go_simp; with_reducible rfl
   rotate_left
   ·
    simp only [Act.put, List.setIfInBounds_toArray, List.set_cons_zero, List.set_cons_succ, i64_w, i32_w]
    rfl
   refine take_ (i := 3) (N := some 81) (v := ?_) (a' := ?_) #[true, true, true, true, false, false, false, false, false, false, false, false, false, false, false, false] rfl rfl (take_of rfl (by kernel_rfl)) (fun _ _ _ h => h) (Or.inl ⟨by rfl, ?_⟩) hHeld ?_ ?_
   rotate_left
   ·
    rintro w' ⟨s0, s1, s2, s3, s4, s5, s6⟩; go_simp; with_reducible rfl
   rotate_left
   ·
    simp only [Act.put, List.setIfInBounds_toArray, List.set_cons_zero, List.set_cons_succ, i64_w, i32_w]
    rfl
   refine pure_ (i := 4) (N := some 82) (v := ?_) (a' := ?_) #[true, true, true, true, true, false, false, false, false, false, false, false, false, false, false, false] rfl rfl (any_of rfl (by kernel_rfl)) (fun _ _ _ h => h) (Or.inl ⟨by rfl, ?_⟩) ?_ ?_
   rotate_left
   ·
    intro w'; go_simp; with_reducible rfl
   rotate_left
   ·
    simp only [Act.put, List.setIfInBounds_toArray, List.set_cons_zero, List.set_cons_succ, i64_w, i32_w]
    rfl
   refine pure_ (i := 5) (N := some 83) (v := ?_) (a' := ?_) #[true, true, true, true, true, true, false, false, false, false, false, false, false, false, false, false] rfl rfl (any_of rfl (by kernel_rfl)) (fun _ _ _ h => h) (Or.inl ⟨by rfl, ?_⟩) ?_ ?_
   rotate_left
   ·
    intro w'; go_simp; with_reducible rfl
   rotate_left
   ·
    simp only [Act.put, List.setIfInBounds_toArray, List.set_cons_zero, List.set_cons_succ, i64_w, i32_w]
    rfl
   refine take_ (i := 6) (N := some 84) (v := ?_) (a' := ?_) #[true, true, true, true, true, true, true, false, false, false, false, false, false, false, false, false] rfl rfl (take_of rfl (by kernel_rfl)) (fun _ _ _ h => h) (Or.inl ⟨by rfl, ?_⟩) hHeld ?_ ?_
   rotate_left
   ·
    rintro w' ⟨s0, s1, s2, s3, s4, s5, s6⟩; go_simp; with_reducible rfl
   rotate_left
   ·
    simp only [Act.put, List.setIfInBounds_toArray, List.set_cons_zero, List.set_cons_succ, i64_w, i32_w]
    rfl
   refine pure_ (i := 7) (N := some 85) (v := ?_) (a' := ?_) #[true, true, true, true, true, true, true, true, false, false, false, false, false, false, false, false] rfl rfl (any_of rfl (by kernel_rfl)) (fun _ _ _ h => h) (Or.inl ⟨by rfl, ?_⟩) ?_ ?_
   rotate_left
   ·
    intro w'; go_simp; with_reducible rfl
   rotate_left
   ·
    simp only [Act.put, List.setIfInBounds_toArray, List.set_cons_zero, List.set_cons_succ, i64_w, i32_w]
    rfl
   refine take_ (i := 8) (N := some 86) (v := ?_) (a' := ?_) #[true, true, true, true, true, true, true, true, true, false, false, false, false, false, false, false] rfl rfl (take_of rfl (by kernel_rfl)) (fun _ _ _ h => h) (Or.inl ⟨by rfl, ?_⟩) hHeld ?_ ?_
   rotate_left
   ·
    rintro w' ⟨s0, s1, s2, s3, s4, s5, s6⟩; go_simp; with_reducible rfl
   rotate_left
   ·
    simp only [Act.put, List.setIfInBounds_toArray, List.set_cons_zero, List.set_cons_succ, i64_w, i32_w]
    rfl
   refine pure_ (i := 9) (N := some 87) (v := ?_) (a' := ?_) #[true, true, true, true, true, true, true, true, true, true, false, false, false, false, false, false] rfl rfl (any_of rfl (by kernel_rfl)) (fun _ _ _ h => h) (Or.inl ⟨by rfl, ?_⟩) ?_ ?_
   rotate_left
   ·
    intro w'; go_simp; with_reducible rfl
   rotate_left
   ·
    simp only [Act.put, List.setIfInBounds_toArray, List.set_cons_zero, List.set_cons_succ, i64_w, i32_w]
    rfl
   refine take_ (i := 10) (N := some 88) (v := ?_) (a' := ?_) #[true, true, true, true, true, true, true, true, true, true, true, false, false, false, false, false] rfl rfl (take_of rfl (by kernel_rfl)) (fun _ _ _ h => h) (Or.inl ⟨by rfl, ?_⟩) hHeld ?_ ?_
   rotate_left
   ·
    rintro w' ⟨s0, s1, s2, s3, s4, s5, s6⟩; go_simp; with_reducible rfl
   rotate_left
   ·
    simp only [Act.put, List.setIfInBounds_toArray, List.set_cons_zero, List.set_cons_succ, i64_w, i32_w]
    rfl
   refine pure_ (i := 11) (N := some 89) (v := ?_) (a' := ?_) #[true, true, true, true, true, true, true, true, true, true, true, true, false, false, false, false] rfl rfl (any_of rfl (by kernel_rfl)) (fun _ _ _ h => h) (Or.inl ⟨by rfl, ?_⟩) ?_ ?_
   rotate_left
   ·
    intro w'; go_simp; with_reducible rfl
   rotate_left
   ·
    simp only [Act.put, List.setIfInBounds_toArray, List.set_cons_zero, List.set_cons_succ, i64_w, i32_w]
    rfl
   refine take_ (i := 12) (N := some 90) (v := ?_) (a' := ?_) #[true, true, true, true, true, true, true, true, true, true, true, true, true, false, false, false] rfl rfl (take_of rfl (by kernel_rfl)) (fun _ _ _ h => h) (Or.inl ⟨by rfl, ?_⟩) hHeld ?_ ?_
   rotate_left
   ·
    rintro w' ⟨s0, s1, s2, s3, s4, s5, s6⟩; go_simp; with_reducible rfl
   rotate_left
   ·
    simp only [Act.put, List.setIfInBounds_toArray, List.set_cons_zero, List.set_cons_succ, i64_w, i32_w]
    rfl
   refine one_ (i := 13) (N := some 91) #[true, true, true, true, true, true, true, true, true, true, true, true, true, true, false, false] rfl rfl (one_of rfl (by kernel_rfl)) (by decide) (fun K hK => ?_)
   have R_ := switchboardref11_Run.calls kr B0 d0 y.f0 B1 d1 y.f1 A2 c2 v rv w9 (Kd.C_below HC0_.out HL9.out.hb) HL0_.out (Kd.C_below HC1_.out HL9.out.hb) HL1_.out (Kd.C_below HR2.out HL9.out.hb) HC2.out HKR.out
   refine goes_ Try.func28 (by kernel_rfl) rfl #[.agg #[.slice B0 y.f0.length d0, .slice B1 y.f1.length d1], .slice A2 v.length c2] (by rfl) rfl rfl (by (try simp only [List.map_toArray, List.map_cons, List.map_nil]); first | done | rfl) ?_
   refine R_.mono ?_
   clear R_; rintro e_ wc ⟨v0, rfl, hrv, hb⟩
   obtain ⟨Av, cv, rfl⟩ := Kd.R_slice hrv
   have HLC := Aside0.mk (HL9.out.below hb)
   have HRV0 : Aside0 (Kd.R (Kd.int .i64) 3 wc w9.heap.size (fun k => w9.heap.size ≤ k) (.slice Av rv.length cv) rv) := ⟨Kd.R_mono (Kd.R_bound hrv) (fun k hk => hk.2.1)⟩
   have HZ : Aside0 (w.heap.size + 1 + 1 + 1 + 1 < w9.heap.size) := ⟨blk_lt HL9.out.o⟩
   clear hrv hb; refine ⟨_, rfl, ?_⟩
   refine hK.out _ _ ⟨(blk_cell HLC.out.m 1).trans rfl, (blk_cell HLC.out.a 5).trans rfl, (blk_cell HLC.out.a 8).trans rfl, (blk_cell HLC.out.a 10).trans rfl, pw_cell_below HLC.out.hb HZ1_.out, pw_cell_below HLC.out.hb HW0_.out, pw_cell_below HLC.out.hb HW1_.out⟩ (fun _ => ?_)
   clear hK K
   refine norm_ (a' := ?_) ?_ ?_
   rotate_left
   ·
    show Act.put _ (some 91) _ = _
    simp only [Act.put, List.setIfInBounds_toArray, List.set_cons_zero, List.set_cons_succ, i64_w, i32_w]
    rfl
   refine pure_ (i := 14) (N := some 92) (v := ?_) (a' := ?_) #[true, true, true, true, true, true, true, true, true, true, true, true, true, true, true, false] rfl rfl (any_of rfl (by kernel_rfl)) (fun _ _ _ h => h) (Or.inl ⟨by rfl, ?_⟩) ?_ ?_
   rotate_left
   ·
    intro w'; go_simp; with_reducible rfl
   rotate_left
   ·
    simp only [Act.put, List.setIfInBounds_toArray, List.set_cons_zero, List.set_cons_succ, i64_w, i32_w]
    rfl
   refine one_ (i := 15) (N := none) #[true, true, true, true, true, true, true, true, true, true, true, true, true, true, true, true] rfl rfl (one_of rfl (by kernel_rfl)) (by decide) (fun K hK => ?_)
   have ho10 : wc.cell? ⟨w.heap.size + 1 + 1 + 1 + 1, 10, none⟩ = some (.slice none 0 0) := (blk_cell HLC.out.o 10).trans rfl
   have hf := blk_frozen HLC.out.o 10
   refine skip_ (w1 := ?_) (by rfl) rfl ?_ ?_
   rotate_left
   ·
    go_simp; rfl
   clear ho10 hf
   have HLW : Aside0 (WW w (wc.setCell ⟨w.heap.size + 1 + 1 + 1 + 1, 10, none⟩ (.slice Av rv.length cv)) #[.int .i64 n, .slice (some am) ls.length c0] #[.int .i64 e, .slice (some ad) hs.length c1] #[.int .i64 a0, .int .i64 a1, .int .i64 a2, .int .i64 a3, .int .i64 a4, .int .i64 (z : Int), .int .i64 a6, .int .i64 a7, .int .i64 (q : Int), .int .i64 a9, .slice A2 v.length c2] #[.int .i64 0, .int .i64 0, .int .i64 0, .int .i64 0, .int .i64 0, .int .i64 0, .int .i64 0, .int .i64 0, .int .i64 0, .int .i64 0, .slice none 0 0] #[.int .i64 2, .int .i64 node, .int .i64 a1, .int .i64 a3, .int .i64 a4, .int .i64 (z : Int), .int .i64 a6, .int .i64 a7, .int .i64 (q : Int), .int .i64 e, .slice Av rv.length cv]) := ⟨HLC.out.puto 10 _⟩
   have HRV : Aside0 (Kd.R (Kd.int .i64) 3 (wc.setCell ⟨w.heap.size + 1 + 1 + 1 + 1, 10, none⟩ (.slice Av rv.length cv)) w9.heap.size (fun k => w9.heap.size ≤ k) (.slice Av rv.length cv) rv) := ⟨Kd.R_far HRV0.out (p := ⟨w.heap.size + 1 + 1 + 1 + 1, 10, none⟩) (fun k hk => by have h1 := HZ.out; show k ≠ w.heap.size + 1 + 1 + 1 + 1; omega) _⟩
   clear HRV0
   generalize (wc.setCell ⟨w.heap.size + 1 + 1 + 1 + 1, 10, none⟩ (.slice Av rv.length cv)) = wd at HLW HRV ⊢
   refine hK.out _ _ ⟨(blk_cell HLW.out.m 1).trans rfl, (blk_cell HLW.out.a 5).trans rfl, (blk_cell HLW.out.a 8).trans rfl, (blk_cell HLW.out.a 10).trans rfl, pw_cell_below HLW.out.hb HZ1_.out, pw_cell_below HLW.out.hb HW0_.out, pw_cell_below HLW.out.hb HW1_.out⟩ (fun _ => ?_)
   clear hK K
   refine done_ (done_of rfl (by kernel_rfl)) ?_
   obtain ⟨ho0, ho1, ho2, ho3, ho4, ho5, ho6, ho7, ho8, ho9, ho10⟩ := cells11 HLW.out.o
   obtain ⟨hr0, hr1, hr2, hr3, hr4, hr5, hr6, hr7, hr8, hr9, hr10⟩ := cells11 HLW.out.r
   obtain ⟨hf0, hf1, hf2, hf3, hf4, hf5, hf6, hf7, hf8, hf9, hf10⟩ := froz11 HLW.out.r
   go_wp2
   have HRF := Aside0.mk (R_far11 HRV.out (g := w.heap.size + 1 + 1 + 1) (fun k hk => by have h1 := HZ.out; show k ≠ w.heap.size + 1 + 1 + 1; omega) (.int .i64 2) (.int .i64 node) (.int .i64 a1) (.int .i64 a3) (.int .i64 a4) (.int .i64 (z : Int)) (.int .i64 a6) (.int .i64 a7) (.int .i64 (q : Int)) (.int .i64 e) (.slice Av rv.length cv))
   have HF := Aside0.mk (HLW.out.putall (.int .i64 2) (.int .i64 node) (.int .i64 a1) (.int .i64 a3) (.int .i64 a4) (.int .i64 (z : Int)) (.int .i64 a6) (.int .i64 a7) (.int .i64 (q : Int)) (.int .i64 e) (.slice Av rv.length cv))
   generalize (((((((((((wd.setCell ⟨w.heap.size + 1 + 1 + 1, 0, none⟩ (.int .i64 2)).setCell ⟨w.heap.size + 1 + 1 + 1, 1, none⟩ (.int .i64 node)).setCell ⟨w.heap.size + 1 + 1 + 1, 2, none⟩ (.int .i64 a1)).setCell ⟨w.heap.size + 1 + 1 + 1, 3, none⟩ (.int .i64 a3)).setCell ⟨w.heap.size + 1 + 1 + 1, 4, none⟩ (.int .i64 a4)).setCell ⟨w.heap.size + 1 + 1 + 1, 5, none⟩ (.int .i64 (z : Int))).setCell ⟨w.heap.size + 1 + 1 + 1, 6, none⟩ (.int .i64 a6)).setCell ⟨w.heap.size + 1 + 1 + 1, 7, none⟩ (.int .i64 a7)).setCell ⟨w.heap.size + 1 + 1 + 1, 8, none⟩ (.int .i64 (q : Int))).setCell ⟨w.heap.size + 1 + 1 + 1, 9, none⟩ (.int .i64 e)).setCell ⟨w.heap.size + 1 + 1 + 1, 10, none⟩ (.slice Av rv.length cv)) = wf at HF HRF ⊢
   refine bodyPost_ret (results_list (rs := [.cell 10 31, .tmp 11]) rfl (by simp) (.cell _ 31 #[.int .i64 2, .int .i64 node, .int .i64 a1, .int .i64 a3, .int .i64 a4, .int .i64 (z : Int), .int .i64 a6, .int .i64 a7, .int .i64 (q : Int), .int .i64 e, .slice Av rv.length cv] (0, 0) _ rfl HF.out.r Try.underlying31 rfl (by kernel_rfl) (.tmp .nil))) rfl ?_
   exact ⟨Av, cv, rfl, (Kd.R_reads' HRF.out).2.1, (Kd.R_reads' HRF.out).2.2, HF.out.hb⟩


end Go.Proofs.Ytabklpdjjoaocaa.Qy
