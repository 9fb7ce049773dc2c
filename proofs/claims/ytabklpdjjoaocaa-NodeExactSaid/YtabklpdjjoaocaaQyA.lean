/- Own text, by hand: the walk of the fixed answer. -/
import Derived.Test.YtabklpdjjoaocaaQy0
import Derived.Test.YtabklpdjjoaocaaQy7
import Derived.Test.YtabklpdjjoaocaaQy8
import Derived.Test.YtabklpdjjoaocaaQy9
namespace Go.Proofs.Ytabklpdjjoaocaa.Qy
open Go.RowKit Go.Proofs.YtabklpdjjoaocaaW.PrintWords Go.Proofs.YtabklpdjjoaocaaW.PrintLast Go.Proofs.YtabklpdjjoaocaaW.PrintMore
attribute [local go_sem] max2_int min2_int max_two min_two max_three min_three max_four min_four
set_option linter.unusedVariables false
set_option linter.unusedSimpArgs false

structure AW (w W : World) (gv : Nat) (x : Int) : Prop where
 hb : Below w.heap.size w W
 a : W.heap[w.heap.size + 1]? = some (.cells #[.int .i64 1, .int .i64 0, .int .i64 2, .int .i64 0, .int .i64 0, .int .i64 0, .int .i64 0, .int .i64 0, .int .i64 0, .int .i64 0, .slice (some ⟨gv, 0, none⟩) 1 1] 31 (0, 0))
 p : W.heap[w.heap.size + 1 + 1 + 1 + 1]? = some (.cells #[.int .i64 0, .slice (some ⟨w.heap.size + 1 + 1 + 1, 0, none⟩) 1 1] 27 (0, 0))
 r2 : W.heap[w.heap.size + 1 + 1]? = some (.cells #[.int .i64 2] 3 (0, 0))
 rr : W.heap[w.heap.size + 1 + 1 + 1]? = some (.cells #[.slice (some ⟨w.heap.size + 1 + 1, 0, none⟩) 1 1] 29 (0, 0))
 rv : W.heap[gv]? = some (.cells #[.int .i64 x] 3 (0, 0))
theorem AW.below {w W W' : World} {gv : Nat} {x : Int} (h : AW w W gv x) (hb : Below W.heap.size W W') : AW w W' gv x := ⟨below_step h.hb hb, blk_below h.a hb, blk_below h.p hb, blk_below h.r2 hb, blk_below h.rr hb, blk_below h.rv hb⟩
theorem AW.size {w W : World} {gv : Nat} {x : Int} (h : AW w W gv x) : w.heap.size + 5 ≤ W.heap.size := by
 have := blk_lt h.p
 omega
theorem AW.far {w W : World} {gv : Nat} {x : Int} (h : AW w W gv x) {g : Nat} (j : Nat) (u : Value) (hg : w.heap.size + 5 ≤ g) (hv : gv ≠ g) : AW w (W.setCell ⟨g, j, none⟩ u) gv x := ⟨below_set h.hb (by omega), (Below.heap_setCell W ⟨g, j, none⟩ u (w.heap.size + 1) (by show w.heap.size + 1 ≠ g; omega)).trans h.a, (Below.heap_setCell W ⟨g, j, none⟩ u (w.heap.size + 1 + 1 + 1 + 1) (by show w.heap.size + 1 + 1 + 1 + 1 ≠ g; omega)).trans h.p, (Below.heap_setCell W ⟨g, j, none⟩ u (w.heap.size + 1 + 1) (by show w.heap.size + 1 + 1 ≠ g; omega)).trans h.r2, (Below.heap_setCell W ⟨g, j, none⟩ u (w.heap.size + 1 + 1 + 1) (by show w.heap.size + 1 + 1 + 1 ≠ g; omega)).trans h.rr, (Below.heap_setCell W ⟨g, j, none⟩ u (gv) (by show gv ≠ g; omega)).trans h.rv⟩
def AS (w : World) (gv : Nat) (W : World) : Prop := W.cell? ⟨w.heap.size + 1 + 1 + 1 + 1, 0, none⟩ = some (.int .i64 0) ∧ W.cell? ⟨w.heap.size + 1 + 1 + 1 + 1, 1, none⟩ = some (.slice (some ⟨w.heap.size + 1 + 1 + 1, 0, none⟩) 1 1) ∧ W.cell? ⟨w.heap.size + 1, 0, none⟩ = some (.int .i64 1) ∧ W.cell? ⟨w.heap.size + 1, 1, none⟩ = some (.int .i64 0) ∧ W.cell? ⟨w.heap.size + 1, 2, none⟩ = some (.int .i64 2) ∧ W.cell? ⟨w.heap.size + 1, 3, none⟩ = some (.int .i64 0) ∧ W.cell? ⟨w.heap.size + 1, 4, none⟩ = some (.int .i64 0) ∧ W.cell? ⟨w.heap.size + 1, 5, none⟩ = some (.int .i64 0) ∧ W.cell? ⟨w.heap.size + 1, 6, none⟩ = some (.int .i64 0) ∧ W.cell? ⟨w.heap.size + 1, 7, none⟩ = some (.int .i64 0) ∧ W.cell? ⟨w.heap.size + 1, 8, none⟩ = some (.int .i64 0) ∧ W.cell? ⟨w.heap.size + 1, 9, none⟩ = some (.int .i64 0) ∧ W.cell? ⟨w.heap.size + 1, 10, none⟩ = some (.slice (some ⟨gv, 0, none⟩) 1 1)
theorem AW.S {w W : World} {gv : Nat} {x : Int} (h : AW w W gv x) : AS w gv W := ⟨(blk_cell h.p 0).trans rfl, (blk_cell h.p 1).trans rfl, (blk_cell h.a 0).trans rfl, (blk_cell h.a 1).trans rfl, (blk_cell h.a 2).trans rfl, (blk_cell h.a 3).trans rfl, (blk_cell h.a 4).trans rfl, (blk_cell h.a 5).trans rfl, (blk_cell h.a 6).trans rfl, (blk_cell h.a 7).trans rfl, (blk_cell h.a 8).trans rfl, (blk_cell h.a 9).trans rfl, (blk_cell h.a 10).trans rfl⟩
theorem AW.holders {w W : World} {gv : Nat} {x : Int} (h : AW w W gv x) : Kd.C (Kd.slice 3 (Kd.int .i64)) W (some ⟨w.heap.size + 1 + 1 + 1, 0, none⟩) 1 [[2]] := C_one (cs := [.slice (some ⟨w.heap.size + 1 + 1, 0, none⟩) 1 1]) h.rr ⟨_, _, rfl, Nat.le_refl _, C_one (cs := [.int .i64 2]) h.r2 rfl rfl⟩ rfl
theorem AW.vec {w W : World} {gv : Nat} {x : Int} (h : AW w W gv x) : Kd.C (Kd.int .i64) W (some ⟨gv, 0, none⟩) 1 [x] := C_one (cs := [.int .i64 x]) h.rv rfl rfl
def awE : S39 := ⟨⟨0, 0, 0, 0⟩, [7]⟩
structure AX (w W : World) (g b : Nat) (Al : Option Addr) (cl : Nat) (An : Option Addr) (cn : Nat) : Prop where
 m : W.heap[g]? = some (.cells #[.int .i64 2, .int .i64 2, .int .i64 0, .int .i64 0, .int .i64 0, .int .i64 0, .int .i64 0, .int .i64 0, .int .i64 0, .int .i64 0, .slice An 1 cn] 31 (0, 0))
 l : Kd.V k39 39 W 0 (fun k => (w.heap.size + 5 ≤ k ∧ k ≠ g) ∧ k < b) (.slice Al 1 cl) [awE]
 lo : w.heap.size + 5 ≤ g
 hi : b ≤ W.heap.size
theorem AX.below {w W W' : World} {g b : Nat} {Al : Option Addr} {cl : Nat} {An : Option Addr} {cn : Nat} (h : AX w W g b Al cl An cn) (hb : Below W.heap.size W W') : AX w W' g b Al cl An cn := ⟨blk_below h.m hb, Kd.V_below h.l hb, h.lo, Nat.le_trans h.hi hb.size⟩
theorem AX.far {w W : World} {g b : Nat} {Al : Option Addr} {cl : Nat} {An : Option Addr} {cn : Nat} (h : AX w W g b Al cl An cn) {g2 : Nat} (j : Nat) (u : Value) (hg : g ≠ g2) (hb : b ≤ g2) : AX w (W.setCell ⟨g2, j, none⟩ u) g b Al cl An cn := ⟨(Below.heap_setCell W ⟨g2, j, none⟩ u g hg).trans h.m, Kd.V_far (p := ⟨g2, j, none⟩) h.l (fun k hk => by show k ≠ g2; omega) u, h.lo, by have := h.hi; simpa [World.setCell] using this⟩
theorem AW.set9 {w W : World} {gv : Nat} {x : Int} (h : AW w W gv x) : AW w ((W.alloc (.cells #[.int .i64 9] 3)).setCell ⟨w.heap.size + 1, 10, none⟩ (.slice (some ⟨W.heap.size, 0, none⟩) 1 1)) W.heap.size 9 := ⟨below_set (below_alloc h.hb _) (by omega), blk_put (blk_alloc h.a _) 10 _ rfl, (Below.heap_setCell (W.alloc (.cells #[.int .i64 9] 3)) ⟨w.heap.size + 1, 10, none⟩ (.slice (some ⟨W.heap.size, 0, none⟩) 1 1) (w.heap.size + 1 + 1 + 1 + 1) (by show w.heap.size + 1 + 1 + 1 + 1 ≠ w.heap.size + 1; have := h.size; omega)).trans (blk_alloc h.p _), (Below.heap_setCell (W.alloc (.cells #[.int .i64 9] 3)) ⟨w.heap.size + 1, 10, none⟩ (.slice (some ⟨W.heap.size, 0, none⟩) 1 1) (w.heap.size + 1 + 1) (by show w.heap.size + 1 + 1 ≠ w.heap.size + 1; have := h.size; omega)).trans (blk_alloc h.r2 _), (Below.heap_setCell (W.alloc (.cells #[.int .i64 9] 3)) ⟨w.heap.size + 1, 10, none⟩ (.slice (some ⟨W.heap.size, 0, none⟩) 1 1) (w.heap.size + 1 + 1 + 1) (by show w.heap.size + 1 + 1 + 1 ≠ w.heap.size + 1; have := h.size; omega)).trans (blk_alloc h.rr _), (Below.heap_setCell (W.alloc (.cells #[.int .i64 9] 3)) ⟨w.heap.size + 1, 10, none⟩ (.slice (some ⟨W.heap.size, 0, none⟩) 1 1) (W.heap.size) (by show W.heap.size ≠ w.heap.size + 1; have := h.size; omega)).trans (alloc_at _ rfl)⟩
theorem AX.set9 {w W : World} {g b : Nat} {Al : Option Addr} {cl : Nat} {An : Option Addr} {cn : Nat} (h : AX w W g b Al cl An cn) : AX w ((W.alloc (.cells #[.int .i64 9] 3)).setCell ⟨w.heap.size + 1, 10, none⟩ (.slice (some ⟨W.heap.size, 0, none⟩) 1 1)) g b Al cl An cn := ⟨(Below.heap_setCell (W.alloc (.cells #[.int .i64 9] 3)) ⟨w.heap.size + 1, 10, none⟩ (.slice (some ⟨W.heap.size, 0, none⟩) 1 1) g (by show g ≠ w.heap.size + 1; have := h.lo; omega)).trans (blk_alloc h.m _), Kd.V_far (p := ⟨w.heap.size + 1, 10, none⟩) (Kd.V_alloc h.l _) (fun k hk => by show k ≠ w.heap.size + 1; omega) _, h.lo, by have := h.hi; simp [World.setCell]; omega⟩
theorem awWork1 : node_Work.f 60 1 [tinyY] 0 [[2]] 2 [] 1 0 2 0 0 0 0 0 0 0 [7] = some ([awE], 2, 2, 0, 0, 0, 0, 0, 0, 0, 0, [7], true) := by kernel_rfl
theorem awWork2 : node_Work.f 60 1 [tinyY] 0 [[2]] 2 [awE] 1 0 2 0 0 0 0 0 0 0 [9] = some ([awE], 2, 2, 0, 0, 0, 0, 0, 0, 0, 0, [7], true) := by kernel_rfl
def switchboardlaw18_awake.T3 : Bool × List (List Nat × List Nat) := (true, [([], []), ([], []), ([], []), ([0, 1, 2, 0], [0, 1, 2]), ([3], [3]), ([4], [4]), ([4], [4]), ([4], [4]), ([], []), ([5, 3, 0, 1, 2, 3, 4, 5, 8], [5]), ([8, 6, 9, 0, 1, 2, 3, 4, 5, 6, 8, 9], [6, 8]), ([7, 10, 0, 1, 2, 3, 4, 5, 6, 7, 8, 9, 10], [7])])
def switchboardlaw18_awake.B3 : List Nat := [0, 0, 0, 7, 15, 31, 31, 31, 0, 319, 895, 2047]
theorem switchboardlaw18_awake.tab3 : rtab .any (opsOf Try.f9 3) = switchboardlaw18_awake.T3 := by kernel_rfl
theorem switchboardlaw18_awake.bits3 : waitsOk switchboardlaw18_awake.T3.2 switchboardlaw18_awake.B3 = true := by kernel_rfl
def switchboardlaw18_awake.T5 : Bool × List (List Nat × List Nat) := (true, [([], []), ([], []), ([], []), ([], []), ([0, 1, 2, 3, 0], [0, 1, 2, 3]), ([4], [4]), ([5], [5]), ([5], [5]), ([5], [5]), ([], []), ([6, 4, 0, 1, 2, 3, 4, 5, 6, 9], [6]), ([9, 7, 10, 0, 1, 2, 3, 4, 5, 6, 7, 9, 10], [7, 9]), ([8, 11, 0, 1, 2, 3, 4, 5, 6, 7, 8, 9, 10, 11], [8])])
def switchboardlaw18_awake.B5 : List Nat := [0, 0, 0, 0, 15, 31, 63, 63, 63, 0, 639, 1791, 4095]
theorem switchboardlaw18_awake.tab5 : rtab .any (opsOf Try.f9 5) = switchboardlaw18_awake.T5 := by kernel_rfl
theorem switchboardlaw18_awake.bits5 : waitsOk switchboardlaw18_awake.T5.2 switchboardlaw18_awake.B5 = true := by kernel_rfl
def switchboardlaw18_awake.f : Option Bool := some true
set_option maxHeartbeats 16000000 in
set_option maxRecDepth 100000 in
theorem switchboardlaw18_awake.calls (r : Bool) (w : World) (h : switchboardlaw18_awake.f = some r) : Calls Try.prog 9 #[] w fun e w' => e = .returned (.bool r) ∧ Below w.heap.size w w' := by
 obtain rfl := Option.some.inj h
 clear h; have hu24 := Try.underlying24; have hu27 := Try.underlying27; have hu31 := Try.underlying31
 have HW0 : Aside0 (AW w (((((w.alloc (.cells #[.int .i64 7] 3)).alloc (.cells #[.int .i64 1, .int .i64 0, .int .i64 2, .int .i64 0, .int .i64 0, .int .i64 0, .int .i64 0, .int .i64 0, .int .i64 0, .int .i64 0, .slice (some ⟨w.heap.size, 0, none⟩) 1 1] 31)).alloc (.cells #[.int .i64 2] 3)).alloc (.cells #[.slice (some ⟨w.heap.size + 1 + 1, 0, none⟩) 1 1] 29)).alloc (.cells #[.int .i64 0, .slice (some ⟨w.heap.size + 1 + 1 + 1, 0, none⟩) 1 1] 27)) w.heap.size 7) := ⟨⟨below_alloc (below_alloc (below_alloc (below_alloc (below_alloc (Below.refl _ _) _) _) _) _) _, blk_alloc (blk_alloc (blk_alloc (alloc_at _ (by simp)) _) _) _, alloc_at _ (by simp), blk_alloc (blk_alloc (alloc_at _ (by simp)) _) _, blk_alloc (alloc_at _ (by simp)) _, blk_alloc (blk_alloc (blk_alloc (blk_alloc (alloc_at _ (by simp)) _) _) _) _⟩⟩
 go_enter Try.func9, Try.ntmps9
 go_wp2
 have HW1 := Aside0.mk (HW0.out.below (below_drew1 (Below.refl _ _)))
 clear HW0
 refine start_ (n := 12) (S := AS w w.heap.size) (ds := []) #[false, false, false, false, false, false, false, false, false, false, false, false] (by kernel_rfl) rfl rfl HW1.out.S (fun hHeld => ?_)
 refine with_tabW switchboardlaw18_awake.tab3 switchboardlaw18_awake.bits3 (fun HT_ HW_ => ?_)
 refine take_ (i := 1) (N := some 16) (v := ?_) (a' := ?_) #[false, true, false, false, false, false, false, false, false, false, false, false] rfl rfl (take_ofW HT_.out HW_.out (by kernel_rfl)) (fun _ _ _ h => h) (Or.inl ⟨by rfl, ?_⟩) hHeld ?_ ?_
 rotate_left
 ·
  rintro w' ⟨s0, s1, s2, s3, s4, s5, s6, s7, s8, s9, s10, s11, s12⟩; go_simp; with_reducible rfl
 rotate_left
 ·
  simp only [Act.put, List.setIfInBounds_toArray, List.set_cons_zero, List.set_cons_succ, i64_w, i32_w]
  rfl
 refine take_ (i := 2) (N := some 17) (v := ?_) (a' := ?_) #[false, true, true, false, false, false, false, false, false, false, false, false] rfl rfl (take_ofW HT_.out HW_.out (by kernel_rfl)) (fun _ _ _ h => h) (Or.inl ⟨by rfl, ?_⟩) hHeld ?_ ?_
 rotate_left
 ·
  rintro w' ⟨s0, s1, s2, s3, s4, s5, s6, s7, s8, s9, s10, s11, s12⟩; go_simp; with_reducible rfl
 rotate_left
 ·
  simp only [Act.put, List.setIfInBounds_toArray, List.set_cons_zero, List.set_cons_succ, i64_w, i32_w]
  rfl
 refine two_ (i := 0) (j := 8) (Ni := some 15) (Nj := some 4) #[true, true, true, false, false, false, false, false, false, false, false, false] #[false, true, true, false, false, false, false, false, true, false, false, false] rfl rfl rfl rfl (two_of HT_.out (by kernel_rfl)) (by decide) (by decide) (fun K hK => ?_) (fun K hK => ?_)
 refine goes_ Try.func15 (by kernel_rfl) rfl #[] (by rfl) rfl rfl (by (try simp only [List.map_toArray, List.map_cons, List.map_nil]); first | done | rfl) ?_
 refine (switchboardlaw18_tiny.calls 1 [tinyY] _ rfl).mono ?_
 rintro e wa ⟨vt, rfl, hvt, hb⟩
 obtain ⟨At, ct, rfl⟩ := Kd.V_slice hvt
 have HVT := Aside0.mk hvt; clear hvt hHeld
 have NHW1 := Aside0.mk (HW1.out.below hb)
 clear HW1; have HW1 := NHW1; clear NHW1 hb; refine ⟨_, rfl, ?_⟩
 refine hK.out _ _ HW1.out.S (fun hHeld => ?_)
 clear hK K
 refine norm_ (a' := ?_) ?_ ?_
 rotate_left
 ·
  show Act.put _ (some 15) _ = _
  simp only [Act.put, List.setIfInBounds_toArray, List.set_cons_zero, List.set_cons_succ, i64_w, i32_w]
  rfl
 refine two_ (i := 3) (j := 8) (Ni := some 18) (Nj := some 4) #[true, true, true, true, false, false, false, false, false, false, false, false] #[true, true, true, false, false, false, false, false, true, false, false, false] rfl rfl rfl rfl (two_of HT_.out (by kernel_rfl)) (by decide) (by decide) (fun K hK => ?_) (fun K hK => ?_)
 refine goes_ Try.func10 (by kernel_rfl) rfl #[.agg #[.int .i64 1, .slice At 1 ct], .agg #[.int .i64 0, .slice (some ⟨w.heap.size + 1 + 1 + 1, 0, none⟩) 1 1], .int .i64 2, .slice none 0 0, .agg #[.int .i64 1, .int .i64 0, .int .i64 2, .int .i64 0, .int .i64 0, .int .i64 0, .int .i64 0, .int .i64 0, .int .i64 0, .int .i64 0, .slice (some ⟨w.heap.size, 0, none⟩) 1 1]] (by rfl) rfl rfl (by (try simp only [List.map_toArray, List.map_cons, List.map_nil]); first | done | rfl) ?_
 refine (node_Work.calls 60 1 _ _ [tinyY] 0 _ _ [[2]] 2 (fun _ => False) _ _ [] 1 0 2 0 0 0 0 0 0 0 _ _ [7] [awE] 2 2 0 0 0 0 0 0 0 0 [7] true _ (Kd.V_reads' HVT.out).2.2 (Kd.V_reads' HVT.out).2.1 HW1.out.holders (Nat.le_refl _) (Kd.V_nil _ _ _ _ _) HW1.out.vec (Nat.le_refl _) awWork1).mono ?_
 rintro e wb ⟨vl, vn, rfl, hvl, hvn, hb⟩
 obtain ⟨Al, cl, rfl⟩ := Kd.V_slice hvl
 obtain ⟨An, cn, rfl⟩ := Kd.R_slice hvn
 have HV := Aside0.mk (Kd.V_mono (ok' := (fun k => w.heap.size + 5 ≤ k)) hvl (fun k hk => hk.1.elim (fun hf => hf.elim) (fun hz => (Nat.le_trans HW1.out.size hz))))
 clear hvl hvn hHeld HVT
 have NHW1 := Aside0.mk (HW1.out.below hb)
 clear HW1; have HW1 := NHW1; clear NHW1 hb; refine ⟨_, rfl, ?_⟩
 refine hK.out _ _ HW1.out.S (fun hHeld => ?_)
 clear hK K
 refine norm_ (a' := ?_) ?_ ?_
 rotate_left
 ·
  show Act.put _ (some 18) _ = _
  simp only [Act.put, List.setIfInBounds_toArray, List.set_cons_zero, List.set_cons_succ, i64_w, i32_w]
  rfl
 refine pure_ (i := 4) (N := some 14) (v := ?_) (a' := ?_) #[true, true, true, true, true, false, false, false, false, false, false, false] rfl rfl (any_of HT_.out (by kernel_rfl)) (fun _ _ _ h => h) (Or.inl ⟨by rfl, ?_⟩) ?_ ?_
 rotate_left
 ·
  intro w'; go_simp; with_reducible rfl
 rotate_left
 ·
  simp only [Act.put, List.setIfInBounds_toArray, List.set_cons_zero, List.set_cons_succ, i64_w, i32_w]
  rfl
 refine pure_ (i := 5) (N := some 19) (v := ?_) (a' := ?_) #[true, true, true, true, true, true, false, false, false, false, false, false] rfl rfl (any_of HT_.out (by kernel_rfl)) (fun _ _ _ h => h) (Or.inl ⟨by rfl, ?_⟩) ?_ ?_
 rotate_left
 ·
  intro w'; go_simp; with_reducible rfl
 rotate_left
 ·
  simp only [Act.put, List.setIfInBounds_toArray, List.set_cons_zero, List.set_cons_succ, i64_w, i32_w]
  rfl
 refine pure_ (i := 6) (N := some 20) (v := ?_) (a' := ?_) #[true, true, true, true, true, true, true, false, false, false, false, false] rfl rfl (any_of HT_.out (by kernel_rfl)) (fun _ _ _ h => h) (Or.inl ⟨by rfl, ?_⟩) ?_ ?_
 rotate_left
 ·
  intro w'; go_simp; with_reducible rfl
 rotate_left
 ·
  simp only [Act.put, List.setIfInBounds_toArray, List.set_cons_zero, List.set_cons_succ, i64_w, i32_w]
  rfl
 refine pure_ (i := 7) (N := some 21) (v := ?_) (a' := ?_) #[true, true, true, true, true, true, true, true, false, false, false, false] rfl rfl (any_of HT_.out (by kernel_rfl)) (fun _ _ _ h => h) (Or.inl ⟨by rfl, ?_⟩) ?_ ?_
 rotate_left
 ·
  intro w'; go_simp; with_reducible rfl
 rotate_left
 ·
  simp only [Act.put, List.setIfInBounds_toArray, List.set_cons_zero, List.set_cons_succ, i64_w, i32_w]
  rfl
 refine one_ (i := 8) (N := some 4) #[true, true, true, true, true, true, true, true, true, false, false, false] rfl rfl (one_of HT_.out (by kernel_rfl)) (by decide) (fun K hK => ?_)
 refine box_step ?hg (N := 4) ?hd (cs := #[.int .i64 0, .int .i64 0, .int .i64 0, .int .i64 0, .int .i64 0, .int .i64 0, .int .i64 0, .int .i64 0, .int .i64 0, .int .i64 0, .slice none 0 0]) (t := 31) ?hr ?_; (case hd => rfl); (case hg => rfl); (case hr => first | (go_simp; done) | (go_simp; rfl))
 intro g4 hg wt hbox hb; have HA4 := Aside0.mk hbox
 have HG4 : Aside0 (w.heap.size + 5 ≤ g4) := ⟨by rw [hg]; exact HW1.out.size⟩
 have HNE : Aside0 (w.heap.size ≠ g4) := ⟨by rw [hg]; exact Nat.ne_of_lt (blk_lt HW1.out.rv)⟩
 clear hHeld
 have NHW1 := Aside0.mk (HW1.out.below hb)
 have NHV := Aside0.mk (Kd.V_below (Kd.V_elderB HV.out g4 (Nat.le_of_eq hg.symm)) hb)
 clear HW1 HV; have HW1 := NHW1; have HV := NHV; clear NHW1 NHV hg hbox hb
 refine hK.out _ _ HW1.out.S (fun hHeld => ?_)
 clear hK K
 refine norm_ (a' := ?_) ?_ ?_
 rotate_left
 ·
  show Act.put _ (some 4) _ = _
  simp only [Act.put, List.setIfInBounds_toArray, List.set_cons_zero, List.set_cons_succ, i64_w, i32_w]
  rfl
 rotate_left
 refine box_step ?hg (N := 4) ?hd (cs := #[.int .i64 0, .int .i64 0, .int .i64 0, .int .i64 0, .int .i64 0, .int .i64 0, .int .i64 0, .int .i64 0, .int .i64 0, .int .i64 0, .slice none 0 0]) (t := 31) ?hr ?_; (case hd => rfl); (case hg => rfl); (case hr => first | (go_simp; done) | (go_simp; rfl))
 intro g4 hg wb hbox hb; have HA4 := Aside0.mk hbox
 have HG4 : Aside0 (w.heap.size + 5 ≤ g4) := ⟨by rw [hg]; exact HW1.out.size⟩
 have HNE : Aside0 (w.heap.size ≠ g4) := ⟨by rw [hg]; exact Nat.ne_of_lt (blk_lt HW1.out.rv)⟩
 clear hHeld
 have NHW1 := Aside0.mk (HW1.out.below hb)
 have NHVT := Aside0.mk (Kd.V_below HVT.out hb); clear HW1 HVT; have HW1 := NHW1; have HVT := NHVT; clear NHW1 NHVT hg hbox hb
 refine hK.out _ _ HW1.out.S (fun hHeld => ?_)
 clear hK K
 refine norm_ (a' := ?_) ?_ ?_
 rotate_left
 ·
  show Act.put _ (some 4) _ = _
  simp only [Act.put, List.setIfInBounds_toArray, List.set_cons_zero, List.set_cons_succ, i64_w, i32_w]
  rfl
 refine one_ (i := 3) (N := some 18) #[true, true, true, true, false, false, false, false, true, false, false, false] rfl rfl (one_of HT_.out (by kernel_rfl)) (by decide) (fun K hK => ?_)
 refine goes_ Try.func10 (by kernel_rfl) rfl #[.agg #[.int .i64 1, .slice At 1 ct], .agg #[.int .i64 0, .slice (some ⟨w.heap.size + 1 + 1 + 1, 0, none⟩) 1 1], .int .i64 2, .slice none 0 0, .agg #[.int .i64 1, .int .i64 0, .int .i64 2, .int .i64 0, .int .i64 0, .int .i64 0, .int .i64 0, .int .i64 0, .int .i64 0, .int .i64 0, .slice (some ⟨w.heap.size, 0, none⟩) 1 1]] (by rfl) rfl rfl (by (try simp only [List.map_toArray, List.map_cons, List.map_nil]); first | done | rfl) ?_
 refine (node_Work.calls 60 1 _ _ [tinyY] 0 _ _ [[2]] 2 (fun _ => False) _ _ [] 1 0 2 0 0 0 0 0 0 0 _ _ [7] [awE] 2 2 0 0 0 0 0 0 0 0 [7] true _ (Kd.V_reads' HVT.out).2.2 (Kd.V_reads' HVT.out).2.1 HW1.out.holders (Nat.le_refl _) (Kd.V_nil _ _ _ _ _) HW1.out.vec (Nat.le_refl _) awWork1).mono ?_
 rintro e wt ⟨vl, vn, rfl, hvl, hvn, hb⟩
 obtain ⟨Al, cl, rfl⟩ := Kd.V_slice hvl
 obtain ⟨An, cn, rfl⟩ := Kd.R_slice hvn
 have HV := Aside0.mk (Kd.V_mono (ok' := (fun k => w.heap.size + 5 ≤ k ∧ k ≠ g4)) hvl (fun k hk => hk.1.elim (fun hf => hf.elim) (fun hz => (by have h1 := HW1.out.size; exact ⟨Nat.le_trans h1 hz, fun hc => by have h2 := blk_lt HA4.out; omega⟩))))
 clear hvl hvn hHeld HVT
 have NHW1 := Aside0.mk (HW1.out.below hb)
 have NHA4 := Aside0.mk (blk_below HA4.out hb); clear HW1 HA4; have HW1 := NHW1; have HA4 := NHA4; clear NHW1 NHA4 hb; refine ⟨_, rfl, ?_⟩
 refine hK.out _ _ HW1.out.S (fun hHeld => ?_)
 clear hK K
 refine norm_ (a' := ?_) ?_ ?_
 rotate_left
 ·
  show Act.put _ (some 18) _ = _
  simp only [Act.put, List.setIfInBounds_toArray, List.set_cons_zero, List.set_cons_succ, i64_w, i32_w]
  rfl
 refine pure_ (i := 4) (N := some 14) (v := ?_) (a' := ?_) #[true, true, true, true, true, false, false, false, true, false, false, false] rfl rfl (any_of HT_.out (by kernel_rfl)) (fun _ _ _ h => h) (Or.inl ⟨by rfl, ?_⟩) ?_ ?_
 rotate_left
 ·
  intro w'; go_simp; with_reducible rfl
 rotate_left
 ·
  simp only [Act.put, List.setIfInBounds_toArray, List.set_cons_zero, List.set_cons_succ, i64_w, i32_w]
  rfl
 refine pure_ (i := 5) (N := some 19) (v := ?_) (a' := ?_) #[true, true, true, true, true, true, false, false, true, false, false, false] rfl rfl (any_of HT_.out (by kernel_rfl)) (fun _ _ _ h => h) (Or.inl ⟨by rfl, ?_⟩) ?_ ?_
 rotate_left
 ·
  intro w'; go_simp; with_reducible rfl
 rotate_left
 ·
  simp only [Act.put, List.setIfInBounds_toArray, List.set_cons_zero, List.set_cons_succ, i64_w, i32_w]
  rfl
 refine pure_ (i := 6) (N := some 20) (v := ?_) (a' := ?_) #[true, true, true, true, true, true, true, false, true, false, false, false] rfl rfl (any_of HT_.out (by kernel_rfl)) (fun _ _ _ h => h) (Or.inl ⟨by rfl, ?_⟩) ?_ ?_
 rotate_left
 ·
  intro w'; go_simp; with_reducible rfl
 rotate_left
 ·
  simp only [Act.put, List.setIfInBounds_toArray, List.set_cons_zero, List.set_cons_succ, i64_w, i32_w]
  rfl
 refine pure_ (i := 7) (N := some 21) (v := ?_) (a' := ?_) #[true, true, true, true, true, true, true, true, true, false, false, false] rfl rfl (any_of HT_.out (by kernel_rfl)) (fun _ _ _ h => h) (Or.inl ⟨by rfl, ?_⟩) ?_ ?_
 rotate_left
 ·
  intro w'; go_simp; with_reducible rfl
 rotate_left
 ·
  simp only [Act.put, List.setIfInBounds_toArray, List.set_cons_zero, List.set_cons_succ, i64_w, i32_w]
  rfl
 rotate_left
 refine box_step ?hg (N := 4) ?hd (cs := #[.int .i64 0, .int .i64 0, .int .i64 0, .int .i64 0, .int .i64 0, .int .i64 0, .int .i64 0, .int .i64 0, .int .i64 0, .int .i64 0, .slice none 0 0]) (t := 31) ?hr ?_; (case hd => rfl); (case hg => rfl); (case hr => first | (go_simp; done) | (go_simp; rfl))
 intro g4 hg wc hbox hb; have HA4 := Aside0.mk hbox
 have HG4 : Aside0 (w.heap.size + 5 ≤ g4) := ⟨by rw [hg]; exact HW1.out.size⟩
 have HNE : Aside0 (w.heap.size ≠ g4) := ⟨by rw [hg]; exact Nat.ne_of_lt (blk_lt HW1.out.rv)⟩
 clear hHeld
 have NHW1 := Aside0.mk (HW1.out.below hb)
 clear HW1; have HW1 := NHW1; clear NHW1 hg hbox hb
 refine hK.out _ _ HW1.out.S (fun hHeld => ?_)
 clear hK K
 refine norm_ (a' := ?_) ?_ ?_
 rotate_left
 ·
  show Act.put _ (some 4) _ = _
  simp only [Act.put, List.setIfInBounds_toArray, List.set_cons_zero, List.set_cons_succ, i64_w, i32_w]
  rfl
 refine one_ (i := 0) (N := some 15) #[true, true, true, false, false, false, false, false, true, false, false, false] rfl rfl (one_of HT_.out (by kernel_rfl)) (by decide) (fun K hK => ?_)
 refine goes_ Try.func15 (by kernel_rfl) rfl #[] (by rfl) rfl rfl (by (try simp only [List.map_toArray, List.map_cons, List.map_nil]); first | done | rfl) ?_
 refine (switchboardlaw18_tiny.calls 1 [tinyY] _ rfl).mono ?_
 rintro e wd ⟨vt, rfl, hvt, hb⟩
 obtain ⟨At, ct, rfl⟩ := Kd.V_slice hvt
 have HVT := Aside0.mk hvt; clear hvt hHeld
 have NHW1 := Aside0.mk (HW1.out.below hb)
 have NHA4 := Aside0.mk (blk_below HA4.out hb); clear HW1 HA4; have HW1 := NHW1; have HA4 := NHA4; clear NHW1 NHA4 hb; refine ⟨_, rfl, ?_⟩
 refine hK.out _ _ HW1.out.S (fun hHeld => ?_)
 clear hK K
 refine norm_ (a' := ?_) ?_ ?_
 rotate_left
 ·
  show Act.put _ (some 15) _ = _
  simp only [Act.put, List.setIfInBounds_toArray, List.set_cons_zero, List.set_cons_succ, i64_w, i32_w]
  rfl
 refine one_ (i := 3) (N := some 18) #[true, true, true, true, false, false, false, false, true, false, false, false] rfl rfl (one_of HT_.out (by kernel_rfl)) (by decide) (fun K hK => ?_)
 refine goes_ Try.func10 (by kernel_rfl) rfl #[.agg #[.int .i64 1, .slice At 1 ct], .agg #[.int .i64 0, .slice (some ⟨w.heap.size + 1 + 1 + 1, 0, none⟩) 1 1], .int .i64 2, .slice none 0 0, .agg #[.int .i64 1, .int .i64 0, .int .i64 2, .int .i64 0, .int .i64 0, .int .i64 0, .int .i64 0, .int .i64 0, .int .i64 0, .int .i64 0, .slice (some ⟨w.heap.size, 0, none⟩) 1 1]] (by rfl) rfl rfl (by (try simp only [List.map_toArray, List.map_cons, List.map_nil]); first | done | rfl) ?_
 refine (node_Work.calls 60 1 _ _ [tinyY] 0 _ _ [[2]] 2 (fun _ => False) _ _ [] 1 0 2 0 0 0 0 0 0 0 _ _ [7] [awE] 2 2 0 0 0 0 0 0 0 0 [7] true _ (Kd.V_reads' HVT.out).2.2 (Kd.V_reads' HVT.out).2.1 HW1.out.holders (Nat.le_refl _) (Kd.V_nil _ _ _ _ _) HW1.out.vec (Nat.le_refl _) awWork1).mono ?_
 rintro e wt ⟨vl, vn, rfl, hvl, hvn, hb⟩
 obtain ⟨Al, cl, rfl⟩ := Kd.V_slice hvl
 obtain ⟨An, cn, rfl⟩ := Kd.R_slice hvn
 have HV := Aside0.mk (Kd.V_mono (ok' := (fun k => w.heap.size + 5 ≤ k ∧ k ≠ g4)) hvl (fun k hk => hk.1.elim (fun hf => hf.elim) (fun hz => (by have h1 := HW1.out.size; exact ⟨Nat.le_trans h1 hz, fun hc => by have h2 := blk_lt HA4.out; omega⟩))))
 clear hvl hvn hHeld HVT
 have NHW1 := Aside0.mk (HW1.out.below hb)
 have NHA4 := Aside0.mk (blk_below HA4.out hb); clear HW1 HA4; have HW1 := NHW1; have HA4 := NHA4; clear NHW1 NHA4 hb; refine ⟨_, rfl, ?_⟩
 refine hK.out _ _ HW1.out.S (fun hHeld => ?_)
 clear hK K
 refine norm_ (a' := ?_) ?_ ?_
 rotate_left
 ·
  show Act.put _ (some 18) _ = _
  simp only [Act.put, List.setIfInBounds_toArray, List.set_cons_zero, List.set_cons_succ, i64_w, i32_w]
  rfl
 refine pure_ (i := 4) (N := some 14) (v := ?_) (a' := ?_) #[true, true, true, true, true, false, false, false, true, false, false, false] rfl rfl (any_of HT_.out (by kernel_rfl)) (fun _ _ _ h => h) (Or.inl ⟨by rfl, ?_⟩) ?_ ?_
 rotate_left
 ·
  intro w'; go_simp; with_reducible rfl
 rotate_left
 ·
  simp only [Act.put, List.setIfInBounds_toArray, List.set_cons_zero, List.set_cons_succ, i64_w, i32_w]
  rfl
 refine pure_ (i := 5) (N := some 19) (v := ?_) (a' := ?_) #[true, true, true, true, true, true, false, false, true, false, false, false] rfl rfl (any_of HT_.out (by kernel_rfl)) (fun _ _ _ h => h) (Or.inl ⟨by rfl, ?_⟩) ?_ ?_
 rotate_left
 ·
  intro w'; go_simp; with_reducible rfl
 rotate_left
 ·
  simp only [Act.put, List.setIfInBounds_toArray, List.set_cons_zero, List.set_cons_succ, i64_w, i32_w]
  rfl
 refine pure_ (i := 6) (N := some 20) (v := ?_) (a' := ?_) #[true, true, true, true, true, true, true, false, true, false, false, false] rfl rfl (any_of HT_.out (by kernel_rfl)) (fun _ _ _ h => h) (Or.inl ⟨by rfl, ?_⟩) ?_ ?_
 rotate_left
 ·
  intro w'; go_simp; with_reducible rfl
 rotate_left
 ·
  simp only [Act.put, List.setIfInBounds_toArray, List.set_cons_zero, List.set_cons_succ, i64_w, i32_w]
  rfl
 refine pure_ (i := 7) (N := some 21) (v := ?_) (a' := ?_) #[true, true, true, true, true, true, true, true, true, false, false, false] rfl rfl (any_of HT_.out (by kernel_rfl)) (fun _ _ _ h => h) (Or.inl ⟨by rfl, ?_⟩) ?_ ?_
 rotate_left
 ·
  intro w'; go_simp; with_reducible rfl
 rotate_left
 ·
  simp only [Act.put, List.setIfInBounds_toArray, List.set_cons_zero, List.set_cons_succ, i64_w, i32_w]
  rfl
 all_goals
  refine pure_ (i := 9) (N := some 3) (v := ?_) (a' := ?_) #[true, true, true, true, true, true, true, true, true, true, false, false] rfl rfl (any_of HT_.out (by kernel_rfl)) (fun _ _ _ h => h) (Or.inl ⟨by rfl, ?_⟩) ?_ ?_
  rotate_left
  ·
   intro w'; go_simp; with_reducible rfl
  rotate_left
  ·
   simp only [Act.put, List.setIfInBounds_toArray, List.set_cons_zero, List.set_cons_succ, i64_w, i32_w]
   rfl
  refine one_ (i := 10) (N := none) #[true, true, true, true, true, true, true, true, true, true, true, false] rfl rfl (one_of HT_.out (by kernel_rfl)) (by decide) (fun K hK => ?_)
  have hs0 : wt.cell? ⟨g4, 0, none⟩ = some (.int .i64 0) := (blk_cell HA4.out 0).trans rfl
  have hf0 := blk_frozen HA4.out 0
  have hs1 : wt.cell? ⟨g4, 1, none⟩ = some (.int .i64 0) := (blk_cell HA4.out 1).trans rfl
  have hf1 := blk_frozen HA4.out 1
  have hs2 : wt.cell? ⟨g4, 2, none⟩ = some (.int .i64 0) := (blk_cell HA4.out 2).trans rfl
  have hf2 := blk_frozen HA4.out 2
  have hs3 : wt.cell? ⟨g4, 3, none⟩ = some (.int .i64 0) := (blk_cell HA4.out 3).trans rfl
  have hf3 := blk_frozen HA4.out 3
  have hs4 : wt.cell? ⟨g4, 4, none⟩ = some (.int .i64 0) := (blk_cell HA4.out 4).trans rfl
  have hf4 := blk_frozen HA4.out 4
  have hs5 : wt.cell? ⟨g4, 5, none⟩ = some (.int .i64 0) := (blk_cell HA4.out 5).trans rfl
  have hf5 := blk_frozen HA4.out 5
  have hs6 : wt.cell? ⟨g4, 6, none⟩ = some (.int .i64 0) := (blk_cell HA4.out 6).trans rfl
  have hf6 := blk_frozen HA4.out 6
  have hs7 : wt.cell? ⟨g4, 7, none⟩ = some (.int .i64 0) := (blk_cell HA4.out 7).trans rfl
  have hf7 := blk_frozen HA4.out 7
  have hs8 : wt.cell? ⟨g4, 8, none⟩ = some (.int .i64 0) := (blk_cell HA4.out 8).trans rfl
  have hf8 := blk_frozen HA4.out 8
  have hs9 : wt.cell? ⟨g4, 9, none⟩ = some (.int .i64 0) := (blk_cell HA4.out 9).trans rfl
  have hf9 := blk_frozen HA4.out 9
  have hs10 : wt.cell? ⟨g4, 10, none⟩ = some (.slice none 0 0) := (blk_cell HA4.out 10).trans rfl
  have hf10 := blk_frozen HA4.out 10
  refine skip_ (w1 := ?_) (by rfl) rfl ?_ ?_
  rotate_left
  ·
   go_simp; rfl
  clear hs0 hf0 hs1 hf1 hs2 hf2 hs3 hf3 hs4 hf4 hs5 hf5 hs6 hf6 hs7 hf7 hs8 hf8 hs9 hf9 hs10 hf10
  have HW2 := Aside0.mk (AW.far (AW.far (AW.far (AW.far (AW.far (AW.far (AW.far (AW.far (AW.far (AW.far (AW.far (HW1.out) 0 (.int .i64 2) HG4.out HNE.out) 1 (.int .i64 2) HG4.out HNE.out) 2 (.int .i64 0) HG4.out HNE.out) 3 (.int .i64 0) HG4.out HNE.out) 4 (.int .i64 0) HG4.out HNE.out) 5 (.int .i64 0) HG4.out HNE.out) 6 (.int .i64 0) HG4.out HNE.out) 7 (.int .i64 0) HG4.out HNE.out) 8 (.int .i64 0) HG4.out HNE.out) 9 (.int .i64 0) HG4.out HNE.out) 10 (.slice An 1 cn) HG4.out HNE.out)
  have HM : Aside0 ((((((((((((wt.setCell ⟨g4, 0, none⟩ (.int .i64 2)).setCell ⟨g4, 1, none⟩ (.int .i64 2)).setCell ⟨g4, 2, none⟩ (.int .i64 0)).setCell ⟨g4, 3, none⟩ (.int .i64 0)).setCell ⟨g4, 4, none⟩ (.int .i64 0)).setCell ⟨g4, 5, none⟩ (.int .i64 0)).setCell ⟨g4, 6, none⟩ (.int .i64 0)).setCell ⟨g4, 7, none⟩ (.int .i64 0)).setCell ⟨g4, 8, none⟩ (.int .i64 0)).setCell ⟨g4, 9, none⟩ (.int .i64 0)).setCell ⟨g4, 10, none⟩ (.slice An 1 cn)).heap[g4]? = some (.cells #[.int .i64 2, .int .i64 2, .int .i64 0, .int .i64 0, .int .i64 0, .int .i64 0, .int .i64 0, .int .i64 0, .int .i64 0, .int .i64 0, .slice An 1 cn] 31 (0, 0))) := ⟨blk_put (blk_put (blk_put (blk_put (blk_put (blk_put (blk_put (blk_put (blk_put (blk_put (blk_put (HA4.out) 0 (.int .i64 2) rfl) 1 (.int .i64 2) rfl) 2 (.int .i64 0) rfl) 3 (.int .i64 0) rfl) 4 (.int .i64 0) rfl) 5 (.int .i64 0) rfl) 6 (.int .i64 0) rfl) 7 (.int .i64 0) rfl) 8 (.int .i64 0) rfl) 9 (.int .i64 0) rfl) 10 (.slice An 1 cn) rfl⟩
  have HV2 := Aside0.mk (Kd.V_far (p := ⟨g4, 10, none⟩) (Kd.V_far (p := ⟨g4, 9, none⟩) (Kd.V_far (p := ⟨g4, 8, none⟩) (Kd.V_far (p := ⟨g4, 7, none⟩) (Kd.V_far (p := ⟨g4, 6, none⟩) (Kd.V_far (p := ⟨g4, 5, none⟩) (Kd.V_far (p := ⟨g4, 4, none⟩) (Kd.V_far (p := ⟨g4, 3, none⟩) (Kd.V_far (p := ⟨g4, 2, none⟩) (Kd.V_far (p := ⟨g4, 1, none⟩) (Kd.V_far (p := ⟨g4, 0, none⟩) (HV.out) (fun k hk => hk.2) (.int .i64 2)) (fun k hk => hk.2) (.int .i64 2)) (fun k hk => hk.2) (.int .i64 0)) (fun k hk => hk.2) (.int .i64 0)) (fun k hk => hk.2) (.int .i64 0)) (fun k hk => hk.2) (.int .i64 0)) (fun k hk => hk.2) (.int .i64 0)) (fun k hk => hk.2) (.int .i64 0)) (fun k hk => hk.2) (.int .i64 0)) (fun k hk => hk.2) (.int .i64 0)) (fun k hk => hk.2) (.slice An 1 cn))
  generalize (((((((((((wt.setCell ⟨g4, 0, none⟩ (.int .i64 2)).setCell ⟨g4, 1, none⟩ (.int .i64 2)).setCell ⟨g4, 2, none⟩ (.int .i64 0)).setCell ⟨g4, 3, none⟩ (.int .i64 0)).setCell ⟨g4, 4, none⟩ (.int .i64 0)).setCell ⟨g4, 5, none⟩ (.int .i64 0)).setCell ⟨g4, 6, none⟩ (.int .i64 0)).setCell ⟨g4, 7, none⟩ (.int .i64 0)).setCell ⟨g4, 8, none⟩ (.int .i64 0)).setCell ⟨g4, 9, none⟩ (.int .i64 0)).setCell ⟨g4, 10, none⟩ (.slice An 1 cn)) = wf at HW2 HM HV2 ⊢
  clear hHeld HW1 HA4 HV
  refine hK.out _ _ HW2.out.S (fun hHeld => ?_)
  clear hK K
  refine pure_ (i := 11) (N := some 5) (v := ?_) (a' := ?_) #[true, true, true, true, true, true, true, true, true, true, true, true] rfl rfl (any_of HT_.out (by kernel_rfl)) (fun _ _ _ h => h) (Or.inl ⟨by rfl, ?_⟩) ?_ ?_
  rotate_left
  ·
   intro w'; go_simp; with_reducible rfl
  rotate_left
  ·
   simp only [Act.put, List.setIfInBounds_toArray, List.set_cons_zero, List.set_cons_succ, i64_w, i32_w]
   rfl
  refine done_ (done_of HT_.out (by kernel_rfl)) ?_
  clear hHeld HT_ HW_
  have HX0 : Aside0 (AX w wf g4 wf.heap.size Al cl An cn) := ⟨⟨HM.out, Kd.V_bound HV2.out, HG4.out, Nat.le_refl _⟩⟩
  clear HM HV2
  have hc10 : ∀ o, (wf.alloc o).cell? ⟨w.heap.size + 1, 10, none⟩ = some (.slice (some ⟨w.heap.size, 0, none⟩) 1 1) := fun o => (blk_cell (blk_alloc HW2.out.a o) 10).trans rfl
  have hf10 : ∀ o, (wf.alloc o).frozen? ⟨w.heap.size + 1, 10, none⟩ = false := fun o => blk_frozen (blk_alloc HW2.out.a o) 10
  go_wp2
  have HW1 := Aside0.mk (HW2.out.set9.below (below_drew1 (Below.refl _ _)))
  have HX := Aside0.mk (HX0.out.set9.below (below_drew1 (Below.refl _ _)))
  clear hc10 hf10 HW2 HX0 HNE
  refine start_ (n := 13) (S := AS w wf.heap.size) (ds := []) #[false, false, false, false, false, false, false, false, false, false, false, false, false] (by kernel_rfl) rfl rfl HW1.out.S (fun hHeld => ?_)
  refine with_tabW switchboardlaw18_awake.tab5 switchboardlaw18_awake.bits5 (fun HT_ HW_ => ?_)
  refine take_ (i := 1) (N := some 26) (v := ?_) (a' := ?_) #[false, true, false, false, false, false, false, false, false, false, false, false, false] rfl rfl (take_ofW HT_.out HW_.out (by kernel_rfl)) (fun _ _ _ h => h) (Or.inl ⟨by rfl, ?_⟩) hHeld ?_ ?_
  rotate_left
  ·
   rintro w' ⟨s0, s1, s2, s3, s4, s5, s6, s7, s8, s9, s10, s11, s12⟩; go_simp; with_reducible rfl
  rotate_left
  ·
   simp only [Act.put, List.setIfInBounds_toArray, List.set_cons_zero, List.set_cons_succ, i64_w, i32_w]
   rfl
  refine pure_ (i := 2) (N := some 27) (v := ?_) (a' := ?_) #[false, true, true, false, false, false, false, false, false, false, false, false, false] rfl rfl (any_of HT_.out (by kernel_rfl)) (fun _ _ _ h => h) (Or.inl ⟨by rfl, ?_⟩) ?_ ?_
  rotate_left
  ·
   intro w'; go_simp; with_reducible rfl
  rotate_left
  ·
   simp only [Act.put, List.setIfInBounds_toArray, List.set_cons_zero, List.set_cons_succ, i64_w, i32_w]
   rfl
  refine take_ (i := 3) (N := some 28) (v := ?_) (a' := ?_) #[false, true, true, true, false, false, false, false, false, false, false, false, false] rfl rfl (take_ofW HT_.out HW_.out (by kernel_rfl)) (fun _ _ _ h => h) (Or.inl ⟨by rfl, ?_⟩) hHeld ?_ ?_
  rotate_left
  ·
   rintro w' ⟨s0, s1, s2, s3, s4, s5, s6, s7, s8, s9, s10, s11, s12⟩; go_simp; with_reducible rfl
  rotate_left
  ·
   simp only [Act.put, List.setIfInBounds_toArray, List.set_cons_zero, List.set_cons_succ, i64_w, i32_w]
   rfl
  refine two_ (i := 0) (j := 9) (Ni := some 25) (Nj := some 7) #[true, true, true, true, false, false, false, false, false, false, false, false, false] #[false, true, true, true, false, false, false, false, false, true, false, false, false] rfl rfl rfl rfl (two_of HT_.out (by kernel_rfl)) (by decide) (by decide) (fun K hK => ?_) (fun K hK => ?_)
  refine goes_ Try.func15 (by kernel_rfl) rfl #[] (by rfl) rfl rfl (by (try simp only [List.map_toArray, List.map_cons, List.map_nil]); first | done | rfl) ?_
  refine (switchboardlaw18_tiny.calls 1 [tinyY] _ rfl).mono ?_
  rintro e wa ⟨vt, rfl, hvt, hb⟩
  obtain ⟨At, ct, rfl⟩ := Kd.V_slice hvt
  have HVT := Aside0.mk hvt; clear hvt hHeld
  have NHW1 := Aside0.mk (HW1.out.below hb)
  have NHX := Aside0.mk (HX.out.below hb)
  clear HW1 HX; have HW1 := NHW1; have HX := NHX; clear NHW1 NHX hb; refine ⟨_, rfl, ?_⟩
  refine hK.out _ _ HW1.out.S (fun hHeld => ?_)
  clear hK K
  refine norm_ (a' := ?_) ?_ ?_
  rotate_left
  ·
   show Act.put _ (some 25) _ = _
   simp only [Act.put, List.setIfInBounds_toArray, List.set_cons_zero, List.set_cons_succ, i64_w, i32_w]
   rfl
  refine two_ (i := 4) (j := 9) (Ni := some 29) (Nj := some 7) #[true, true, true, true, true, false, false, false, false, false, false, false, false] #[true, true, true, true, false, false, false, false, false, true, false, false, false] rfl rfl rfl rfl (two_of HT_.out (by kernel_rfl)) (by decide) (by decide) (fun K hK => ?_) (fun K hK => ?_)
  refine goes_ Try.func10 (by kernel_rfl) rfl #[.agg #[.int .i64 1, .slice At 1 ct], .agg #[.int .i64 0, .slice (some ⟨w.heap.size + 1 + 1 + 1, 0, none⟩) 1 1], .int .i64 2, .slice Al 1 cl, .agg #[.int .i64 1, .int .i64 0, .int .i64 2, .int .i64 0, .int .i64 0, .int .i64 0, .int .i64 0, .int .i64 0, .int .i64 0, .int .i64 0, .slice (some ⟨wf.heap.size, 0, none⟩) 1 1]] (by rfl) rfl rfl (by (try simp only [List.map_toArray, List.map_cons, List.map_nil]); first | done | rfl) ?_
  refine (node_Work.calls 60 1 _ _ [tinyY] 0 _ _ [[2]] 2 (fun k => (w.heap.size + 5 ≤ k ∧ k ≠ g4) ∧ k < wf.heap.size) _ _ [awE] 1 0 2 0 0 0 0 0 0 0 _ _ [9] [awE] 2 2 0 0 0 0 0 0 0 0 [7] true _ (Kd.V_reads' HVT.out).2.2 (Kd.V_reads' HVT.out).2.1 HW1.out.holders (Nat.le_refl _) HX.out.l HW1.out.vec (Nat.le_refl _) awWork2).mono ?_
  rintro e wb ⟨vl, vn, rfl, hvl, hvn, hb⟩
  obtain ⟨Ak, ck, rfl⟩ := Kd.V_slice hvl
  obtain ⟨Ao, co, rfl⟩ := Kd.R_slice hvn
  have HN := Aside0.mk (Kd.V_mono (ok' := (fun k => w.heap.size + 5 ≤ k)) (Kd.R_V (base' := 0) hvn) (fun k hz => (Nat.le_trans HW1.out.size hz)))
  clear hvl hvn hHeld HVT
  have NHW1 := Aside0.mk (HW1.out.below hb)
  have NHX := Aside0.mk (HX.out.below hb)
  clear HW1 HX; have HW1 := NHW1; have HX := NHX; clear NHW1 NHX hb; refine ⟨_, rfl, ?_⟩
  refine hK.out _ _ HW1.out.S (fun hHeld => ?_)
  clear hK K
  refine norm_ (a' := ?_) ?_ ?_
  rotate_left
  ·
   show Act.put _ (some 29) _ = _
   simp only [Act.put, List.setIfInBounds_toArray, List.set_cons_zero, List.set_cons_succ, i64_w, i32_w]
   rfl
  refine pure_ (i := 5) (N := some 24) (v := ?_) (a' := ?_) #[true, true, true, true, true, true, false, false, false, false, false, false, false] rfl rfl (any_of HT_.out (by kernel_rfl)) (fun _ _ _ h => h) (Or.inl ⟨by rfl, ?_⟩) ?_ ?_
  rotate_left
  ·
   intro w'; go_simp; with_reducible rfl
  rotate_left
  ·
   simp only [Act.put, List.setIfInBounds_toArray, List.set_cons_zero, List.set_cons_succ, i64_w, i32_w]
   rfl
  refine pure_ (i := 6) (N := some 30) (v := ?_) (a' := ?_) #[true, true, true, true, true, true, true, false, false, false, false, false, false] rfl rfl (any_of HT_.out (by kernel_rfl)) (fun _ _ _ h => h) (Or.inl ⟨by rfl, ?_⟩) ?_ ?_
  rotate_left
  ·
   intro w'; go_simp; with_reducible rfl
  rotate_left
  ·
   simp only [Act.put, List.setIfInBounds_toArray, List.set_cons_zero, List.set_cons_succ, i64_w, i32_w]
   rfl
  refine pure_ (i := 7) (N := some 31) (v := ?_) (a' := ?_) #[true, true, true, true, true, true, true, true, false, false, false, false, false] rfl rfl (any_of HT_.out (by kernel_rfl)) (fun _ _ _ h => h) (Or.inl ⟨by rfl, ?_⟩) ?_ ?_
  rotate_left
  ·
   intro w'; go_simp; with_reducible rfl
  rotate_left
  ·
   simp only [Act.put, List.setIfInBounds_toArray, List.set_cons_zero, List.set_cons_succ, i64_w, i32_w]
   rfl
  refine pure_ (i := 8) (N := some 32) (v := ?_) (a' := ?_) #[true, true, true, true, true, true, true, true, true, false, false, false, false] rfl rfl (any_of HT_.out (by kernel_rfl)) (fun _ _ _ h => h) (Or.inl ⟨by rfl, ?_⟩) ?_ ?_
  rotate_left
  ·
   intro w'; go_simp; with_reducible rfl
  rotate_left
  ·
   simp only [Act.put, List.setIfInBounds_toArray, List.set_cons_zero, List.set_cons_succ, i64_w, i32_w]
   rfl
  refine one_ (i := 9) (N := some 7) #[true, true, true, true, true, true, true, true, true, true, false, false, false] rfl rfl (one_of HT_.out (by kernel_rfl)) (by decide) (fun K hK => ?_)
  refine box_step ?hg (N := 7) ?hd (cs := #[.int .i64 0, .int .i64 0, .int .i64 0, .int .i64 0, .int .i64 0, .int .i64 0, .int .i64 0, .int .i64 0, .int .i64 0, .int .i64 0, .slice none 0 0]) (t := 31) ?hr ?_; (case hd => rfl); (case hg => rfl); (case hr => first | (go_simp; done) | (go_simp; rfl))
  intro g7 hg wt hbox hb; have HA4 := Aside0.mk hbox
  have HG7 : Aside0 (w.heap.size + 5 ≤ g7) := ⟨by rw [hg]; exact HW1.out.size⟩
  have HNE : Aside0 (wf.heap.size ≠ g7) := ⟨by rw [hg]; exact Nat.ne_of_lt (blk_lt HW1.out.rv)⟩
  have HNX : Aside0 (g4 ≠ g7) := ⟨by rw [hg]; exact Nat.ne_of_lt (blk_lt HX.out.m)⟩
  have HNB : Aside0 (wf.heap.size ≤ g7) := ⟨by rw [hg]; exact HX.out.hi⟩
  clear hHeld
  have NHW1 := Aside0.mk (HW1.out.below hb)
  have NHX := Aside0.mk (HX.out.below hb)
  have NHN := Aside0.mk (Kd.V_below (Kd.V_elderB HN.out g7 (Nat.le_of_eq hg.symm)) hb)
  clear HW1 HX HN; have HW1 := NHW1; have HX := NHX; have HN := NHN; clear NHW1 NHX NHN hg hbox hb
  refine hK.out _ _ HW1.out.S (fun hHeld => ?_)
  clear hK K
  refine norm_ (a' := ?_) ?_ ?_
  rotate_left
  ·
   show Act.put _ (some 7) _ = _
   simp only [Act.put, List.setIfInBounds_toArray, List.set_cons_zero, List.set_cons_succ, i64_w, i32_w]
   rfl
  rotate_left
  refine box_step ?hg (N := 7) ?hd (cs := #[.int .i64 0, .int .i64 0, .int .i64 0, .int .i64 0, .int .i64 0, .int .i64 0, .int .i64 0, .int .i64 0, .int .i64 0, .int .i64 0, .slice none 0 0]) (t := 31) ?hr ?_; (case hd => rfl); (case hg => rfl); (case hr => first | (go_simp; done) | (go_simp; rfl))
  intro g7 hg wb hbox hb; have HA4 := Aside0.mk hbox
  have HG7 : Aside0 (w.heap.size + 5 ≤ g7) := ⟨by rw [hg]; exact HW1.out.size⟩
  have HNE : Aside0 (wf.heap.size ≠ g7) := ⟨by rw [hg]; exact Nat.ne_of_lt (blk_lt HW1.out.rv)⟩
  have HNX : Aside0 (g4 ≠ g7) := ⟨by rw [hg]; exact Nat.ne_of_lt (blk_lt HX.out.m)⟩
  have HNB : Aside0 (wf.heap.size ≤ g7) := ⟨by rw [hg]; exact HX.out.hi⟩
  clear hHeld
  have NHW1 := Aside0.mk (HW1.out.below hb)
  have NHX := Aside0.mk (HX.out.below hb)
  have NHVT := Aside0.mk (Kd.V_below HVT.out hb); clear HW1 HX HVT; have HW1 := NHW1; have HX := NHX; have HVT := NHVT; clear NHW1 NHX NHVT hg hbox hb
  refine hK.out _ _ HW1.out.S (fun hHeld => ?_)
  clear hK K
  refine norm_ (a' := ?_) ?_ ?_
  rotate_left
  ·
   show Act.put _ (some 7) _ = _
   simp only [Act.put, List.setIfInBounds_toArray, List.set_cons_zero, List.set_cons_succ, i64_w, i32_w]
   rfl
  refine one_ (i := 4) (N := some 29) #[true, true, true, true, true, false, false, false, false, true, false, false, false] rfl rfl (one_of HT_.out (by kernel_rfl)) (by decide) (fun K hK => ?_)
  refine goes_ Try.func10 (by kernel_rfl) rfl #[.agg #[.int .i64 1, .slice At 1 ct], .agg #[.int .i64 0, .slice (some ⟨w.heap.size + 1 + 1 + 1, 0, none⟩) 1 1], .int .i64 2, .slice Al 1 cl, .agg #[.int .i64 1, .int .i64 0, .int .i64 2, .int .i64 0, .int .i64 0, .int .i64 0, .int .i64 0, .int .i64 0, .int .i64 0, .int .i64 0, .slice (some ⟨wf.heap.size, 0, none⟩) 1 1]] (by rfl) rfl rfl (by (try simp only [List.map_toArray, List.map_cons, List.map_nil]); first | done | rfl) ?_
  refine (node_Work.calls 60 1 _ _ [tinyY] 0 _ _ [[2]] 2 (fun k => (w.heap.size + 5 ≤ k ∧ k ≠ g4) ∧ k < wf.heap.size) _ _ [awE] 1 0 2 0 0 0 0 0 0 0 _ _ [9] [awE] 2 2 0 0 0 0 0 0 0 0 [7] true _ (Kd.V_reads' HVT.out).2.2 (Kd.V_reads' HVT.out).2.1 HW1.out.holders (Nat.le_refl _) HX.out.l HW1.out.vec (Nat.le_refl _) awWork2).mono ?_
  rintro e wt ⟨vl, vn, rfl, hvl, hvn, hb⟩
  obtain ⟨Ak, ck, rfl⟩ := Kd.V_slice hvl
  obtain ⟨Ao, co, rfl⟩ := Kd.R_slice hvn
  have HN := Aside0.mk (Kd.V_mono (ok' := (fun k => w.heap.size + 5 ≤ k ∧ k ≠ g7)) (Kd.R_V (base' := 0) hvn) (fun k hz => (by have h1 := HW1.out.size; exact ⟨Nat.le_trans h1 hz, fun hc => by have h2 := blk_lt HA4.out; omega⟩)))
  clear hvl hvn hHeld HVT
  have NHW1 := Aside0.mk (HW1.out.below hb)
  have NHX := Aside0.mk (HX.out.below hb)
  have NHA4 := Aside0.mk (blk_below HA4.out hb); clear HW1 HX HA4; have HW1 := NHW1; have HX := NHX; have HA4 := NHA4; clear NHW1 NHX NHA4 hb; refine ⟨_, rfl, ?_⟩
  refine hK.out _ _ HW1.out.S (fun hHeld => ?_)
  clear hK K
  refine norm_ (a' := ?_) ?_ ?_
  rotate_left
  ·
   show Act.put _ (some 29) _ = _
   simp only [Act.put, List.setIfInBounds_toArray, List.set_cons_zero, List.set_cons_succ, i64_w, i32_w]
   rfl
  refine pure_ (i := 5) (N := some 24) (v := ?_) (a' := ?_) #[true, true, true, true, true, true, false, false, false, true, false, false, false] rfl rfl (any_of HT_.out (by kernel_rfl)) (fun _ _ _ h => h) (Or.inl ⟨by rfl, ?_⟩) ?_ ?_
  rotate_left
  ·
   intro w'; go_simp; with_reducible rfl
  rotate_left
  ·
   simp only [Act.put, List.setIfInBounds_toArray, List.set_cons_zero, List.set_cons_succ, i64_w, i32_w]
   rfl
  refine pure_ (i := 6) (N := some 30) (v := ?_) (a' := ?_) #[true, true, true, true, true, true, true, false, false, true, false, false, false] rfl rfl (any_of HT_.out (by kernel_rfl)) (fun _ _ _ h => h) (Or.inl ⟨by rfl, ?_⟩) ?_ ?_
  rotate_left
  ·
   intro w'; go_simp; with_reducible rfl
  rotate_left
  ·
   simp only [Act.put, List.setIfInBounds_toArray, List.set_cons_zero, List.set_cons_succ, i64_w, i32_w]
   rfl
  refine pure_ (i := 7) (N := some 31) (v := ?_) (a' := ?_) #[true, true, true, true, true, true, true, true, false, true, false, false, false] rfl rfl (any_of HT_.out (by kernel_rfl)) (fun _ _ _ h => h) (Or.inl ⟨by rfl, ?_⟩) ?_ ?_
  rotate_left
  ·
   intro w'; go_simp; with_reducible rfl
  rotate_left
  ·
   simp only [Act.put, List.setIfInBounds_toArray, List.set_cons_zero, List.set_cons_succ, i64_w, i32_w]
   rfl
  refine pure_ (i := 8) (N := some 32) (v := ?_) (a' := ?_) #[true, true, true, true, true, true, true, true, true, true, false, false, false] rfl rfl (any_of HT_.out (by kernel_rfl)) (fun _ _ _ h => h) (Or.inl ⟨by rfl, ?_⟩) ?_ ?_
  rotate_left
  ·
   intro w'; go_simp; with_reducible rfl
  rotate_left
  ·
   simp only [Act.put, List.setIfInBounds_toArray, List.set_cons_zero, List.set_cons_succ, i64_w, i32_w]
   rfl
  rotate_left
  refine box_step ?hg (N := 7) ?hd (cs := #[.int .i64 0, .int .i64 0, .int .i64 0, .int .i64 0, .int .i64 0, .int .i64 0, .int .i64 0, .int .i64 0, .int .i64 0, .int .i64 0, .slice none 0 0]) (t := 31) ?hr ?_; (case hd => rfl); (case hg => rfl); (case hr => first | (go_simp; done) | (go_simp; rfl))
  intro g7 hg wc hbox hb; have HA4 := Aside0.mk hbox
  have HG7 : Aside0 (w.heap.size + 5 ≤ g7) := ⟨by rw [hg]; exact HW1.out.size⟩
  have HNE : Aside0 (wf.heap.size ≠ g7) := ⟨by rw [hg]; exact Nat.ne_of_lt (blk_lt HW1.out.rv)⟩
  have HNX : Aside0 (g4 ≠ g7) := ⟨by rw [hg]; exact Nat.ne_of_lt (blk_lt HX.out.m)⟩
  have HNB : Aside0 (wf.heap.size ≤ g7) := ⟨by rw [hg]; exact HX.out.hi⟩
  clear hHeld
  have NHW1 := Aside0.mk (HW1.out.below hb)
  have NHX := Aside0.mk (HX.out.below hb)
  clear HW1 HX; have HW1 := NHW1; have HX := NHX; clear NHW1 NHX hg hbox hb
  refine hK.out _ _ HW1.out.S (fun hHeld => ?_)
  clear hK K
  refine norm_ (a' := ?_) ?_ ?_
  rotate_left
  ·
   show Act.put _ (some 7) _ = _
   simp only [Act.put, List.setIfInBounds_toArray, List.set_cons_zero, List.set_cons_succ, i64_w, i32_w]
   rfl
  refine one_ (i := 0) (N := some 25) #[true, true, true, true, false, false, false, false, false, true, false, false, false] rfl rfl (one_of HT_.out (by kernel_rfl)) (by decide) (fun K hK => ?_)
  refine goes_ Try.func15 (by kernel_rfl) rfl #[] (by rfl) rfl rfl (by (try simp only [List.map_toArray, List.map_cons, List.map_nil]); first | done | rfl) ?_
  refine (switchboardlaw18_tiny.calls 1 [tinyY] _ rfl).mono ?_
  rintro e wd ⟨vt, rfl, hvt, hb⟩
  obtain ⟨At, ct, rfl⟩ := Kd.V_slice hvt
  have HVT := Aside0.mk hvt; clear hvt hHeld
  have NHW1 := Aside0.mk (HW1.out.below hb)
  have NHX := Aside0.mk (HX.out.below hb)
  have NHA4 := Aside0.mk (blk_below HA4.out hb); clear HW1 HX HA4; have HW1 := NHW1; have HX := NHX; have HA4 := NHA4; clear NHW1 NHX NHA4 hb; refine ⟨_, rfl, ?_⟩
  refine hK.out _ _ HW1.out.S (fun hHeld => ?_)
  clear hK K
  refine norm_ (a' := ?_) ?_ ?_
  rotate_left
  ·
   show Act.put _ (some 25) _ = _
   simp only [Act.put, List.setIfInBounds_toArray, List.set_cons_zero, List.set_cons_succ, i64_w, i32_w]
   rfl
  refine one_ (i := 4) (N := some 29) #[true, true, true, true, true, false, false, false, false, true, false, false, false] rfl rfl (one_of HT_.out (by kernel_rfl)) (by decide) (fun K hK => ?_)
  refine goes_ Try.func10 (by kernel_rfl) rfl #[.agg #[.int .i64 1, .slice At 1 ct], .agg #[.int .i64 0, .slice (some ⟨w.heap.size + 1 + 1 + 1, 0, none⟩) 1 1], .int .i64 2, .slice Al 1 cl, .agg #[.int .i64 1, .int .i64 0, .int .i64 2, .int .i64 0, .int .i64 0, .int .i64 0, .int .i64 0, .int .i64 0, .int .i64 0, .int .i64 0, .slice (some ⟨wf.heap.size, 0, none⟩) 1 1]] (by rfl) rfl rfl (by (try simp only [List.map_toArray, List.map_cons, List.map_nil]); first | done | rfl) ?_
  refine (node_Work.calls 60 1 _ _ [tinyY] 0 _ _ [[2]] 2 (fun k => (w.heap.size + 5 ≤ k ∧ k ≠ g4) ∧ k < wf.heap.size) _ _ [awE] 1 0 2 0 0 0 0 0 0 0 _ _ [9] [awE] 2 2 0 0 0 0 0 0 0 0 [7] true _ (Kd.V_reads' HVT.out).2.2 (Kd.V_reads' HVT.out).2.1 HW1.out.holders (Nat.le_refl _) HX.out.l HW1.out.vec (Nat.le_refl _) awWork2).mono ?_
  rintro e wt ⟨vl, vn, rfl, hvl, hvn, hb⟩
  obtain ⟨Ak, ck, rfl⟩ := Kd.V_slice hvl
  obtain ⟨Ao, co, rfl⟩ := Kd.R_slice hvn
  have HN := Aside0.mk (Kd.V_mono (ok' := (fun k => w.heap.size + 5 ≤ k ∧ k ≠ g7)) (Kd.R_V (base' := 0) hvn) (fun k hz => (by have h1 := HW1.out.size; exact ⟨Nat.le_trans h1 hz, fun hc => by have h2 := blk_lt HA4.out; omega⟩)))
  clear hvl hvn hHeld HVT
  have NHW1 := Aside0.mk (HW1.out.below hb)
  have NHX := Aside0.mk (HX.out.below hb)
  have NHA4 := Aside0.mk (blk_below HA4.out hb); clear HW1 HX HA4; have HW1 := NHW1; have HX := NHX; have HA4 := NHA4; clear NHW1 NHX NHA4 hb; refine ⟨_, rfl, ?_⟩
  refine hK.out _ _ HW1.out.S (fun hHeld => ?_)
  clear hK K
  refine norm_ (a' := ?_) ?_ ?_
  rotate_left
  ·
   show Act.put _ (some 29) _ = _
   simp only [Act.put, List.setIfInBounds_toArray, List.set_cons_zero, List.set_cons_succ, i64_w, i32_w]
   rfl
  refine pure_ (i := 5) (N := some 24) (v := ?_) (a' := ?_) #[true, true, true, true, true, true, false, false, false, true, false, false, false] rfl rfl (any_of HT_.out (by kernel_rfl)) (fun _ _ _ h => h) (Or.inl ⟨by rfl, ?_⟩) ?_ ?_
  rotate_left
  ·
   intro w'; go_simp; with_reducible rfl
  rotate_left
  ·
   simp only [Act.put, List.setIfInBounds_toArray, List.set_cons_zero, List.set_cons_succ, i64_w, i32_w]
   rfl
  refine pure_ (i := 6) (N := some 30) (v := ?_) (a' := ?_) #[true, true, true, true, true, true, true, false, false, true, false, false, false] rfl rfl (any_of HT_.out (by kernel_rfl)) (fun _ _ _ h => h) (Or.inl ⟨by rfl, ?_⟩) ?_ ?_
  rotate_left
  ·
   intro w'; go_simp; with_reducible rfl
  rotate_left
  ·
   simp only [Act.put, List.setIfInBounds_toArray, List.set_cons_zero, List.set_cons_succ, i64_w, i32_w]
   rfl
  refine pure_ (i := 7) (N := some 31) (v := ?_) (a' := ?_) #[true, true, true, true, true, true, true, true, false, true, false, false, false] rfl rfl (any_of HT_.out (by kernel_rfl)) (fun _ _ _ h => h) (Or.inl ⟨by rfl, ?_⟩) ?_ ?_
  rotate_left
  ·
   intro w'; go_simp; with_reducible rfl
  rotate_left
  ·
   simp only [Act.put, List.setIfInBounds_toArray, List.set_cons_zero, List.set_cons_succ, i64_w, i32_w]
   rfl
  refine pure_ (i := 8) (N := some 32) (v := ?_) (a' := ?_) #[true, true, true, true, true, true, true, true, true, true, false, false, false] rfl rfl (any_of HT_.out (by kernel_rfl)) (fun _ _ _ h => h) (Or.inl ⟨by rfl, ?_⟩) ?_ ?_
  rotate_left
  ·
   intro w'; go_simp; with_reducible rfl
  rotate_left
  ·
   simp only [Act.put, List.setIfInBounds_toArray, List.set_cons_zero, List.set_cons_succ, i64_w, i32_w]
   rfl
  all_goals
   refine pure_ (i := 10) (N := some 6) (v := ?_) (a' := ?_) #[true, true, true, true, true, true, true, true, true, true, true, false, false] rfl rfl (any_of HT_.out (by kernel_rfl)) (fun _ _ _ h => h) (Or.inl ⟨by rfl, ?_⟩) ?_ ?_
   rotate_left
   ·
    intro w'; go_simp; with_reducible rfl
   rotate_left
   ·
    simp only [Act.put, List.setIfInBounds_toArray, List.set_cons_zero, List.set_cons_succ, i64_w, i32_w]
    rfl
   refine one_ (i := 11) (N := none) #[true, true, true, true, true, true, true, true, true, true, true, true, false] rfl rfl (one_of HT_.out (by kernel_rfl)) (by decide) (fun K hK => ?_)
   have hs0 : wt.cell? ⟨g7, 0, none⟩ = some (.int .i64 0) := (blk_cell HA4.out 0).trans rfl
   have hf0 := blk_frozen HA4.out 0
   have hs1 : wt.cell? ⟨g7, 1, none⟩ = some (.int .i64 0) := (blk_cell HA4.out 1).trans rfl
   have hf1 := blk_frozen HA4.out 1
   have hs2 : wt.cell? ⟨g7, 2, none⟩ = some (.int .i64 0) := (blk_cell HA4.out 2).trans rfl
   have hf2 := blk_frozen HA4.out 2
   have hs3 : wt.cell? ⟨g7, 3, none⟩ = some (.int .i64 0) := (blk_cell HA4.out 3).trans rfl
   have hf3 := blk_frozen HA4.out 3
   have hs4 : wt.cell? ⟨g7, 4, none⟩ = some (.int .i64 0) := (blk_cell HA4.out 4).trans rfl
   have hf4 := blk_frozen HA4.out 4
   have hs5 : wt.cell? ⟨g7, 5, none⟩ = some (.int .i64 0) := (blk_cell HA4.out 5).trans rfl
   have hf5 := blk_frozen HA4.out 5
   have hs6 : wt.cell? ⟨g7, 6, none⟩ = some (.int .i64 0) := (blk_cell HA4.out 6).trans rfl
   have hf6 := blk_frozen HA4.out 6
   have hs7 : wt.cell? ⟨g7, 7, none⟩ = some (.int .i64 0) := (blk_cell HA4.out 7).trans rfl
   have hf7 := blk_frozen HA4.out 7
   have hs8 : wt.cell? ⟨g7, 8, none⟩ = some (.int .i64 0) := (blk_cell HA4.out 8).trans rfl
   have hf8 := blk_frozen HA4.out 8
   have hs9 : wt.cell? ⟨g7, 9, none⟩ = some (.int .i64 0) := (blk_cell HA4.out 9).trans rfl
   have hf9 := blk_frozen HA4.out 9
   have hs10 : wt.cell? ⟨g7, 10, none⟩ = some (.slice none 0 0) := (blk_cell HA4.out 10).trans rfl
   have hf10 := blk_frozen HA4.out 10
   refine skip_ (w1 := ?_) (by rfl) rfl ?_ ?_
   rotate_left
   ·
    go_simp; rfl
   clear hs0 hf0 hs1 hf1 hs2 hf2 hs3 hf3 hs4 hf4 hs5 hf5 hs6 hf6 hs7 hf7 hs8 hf8 hs9 hf9 hs10 hf10
   have HW2 := Aside0.mk (AW.far (AW.far (AW.far (AW.far (AW.far (AW.far (AW.far (AW.far (AW.far (AW.far (AW.far (HW1.out) 0 (.int .i64 2) HG7.out HNE.out) 1 (.int .i64 2) HG7.out HNE.out) 2 (.int .i64 0) HG7.out HNE.out) 3 (.int .i64 0) HG7.out HNE.out) 4 (.int .i64 0) HG7.out HNE.out) 5 (.int .i64 0) HG7.out HNE.out) 6 (.int .i64 0) HG7.out HNE.out) 7 (.int .i64 0) HG7.out HNE.out) 8 (.int .i64 0) HG7.out HNE.out) 9 (.int .i64 0) HG7.out HNE.out) 10 (.slice Ao 1 co) HG7.out HNE.out)
   have HM : Aside0 ((((((((((((wt.setCell ⟨g7, 0, none⟩ (.int .i64 2)).setCell ⟨g7, 1, none⟩ (.int .i64 2)).setCell ⟨g7, 2, none⟩ (.int .i64 0)).setCell ⟨g7, 3, none⟩ (.int .i64 0)).setCell ⟨g7, 4, none⟩ (.int .i64 0)).setCell ⟨g7, 5, none⟩ (.int .i64 0)).setCell ⟨g7, 6, none⟩ (.int .i64 0)).setCell ⟨g7, 7, none⟩ (.int .i64 0)).setCell ⟨g7, 8, none⟩ (.int .i64 0)).setCell ⟨g7, 9, none⟩ (.int .i64 0)).setCell ⟨g7, 10, none⟩ (.slice Ao 1 co)).heap[g7]? = some (.cells #[.int .i64 2, .int .i64 2, .int .i64 0, .int .i64 0, .int .i64 0, .int .i64 0, .int .i64 0, .int .i64 0, .int .i64 0, .int .i64 0, .slice Ao 1 co] 31 (0, 0))) := ⟨blk_put (blk_put (blk_put (blk_put (blk_put (blk_put (blk_put (blk_put (blk_put (blk_put (blk_put (HA4.out) 0 (.int .i64 2) rfl) 1 (.int .i64 2) rfl) 2 (.int .i64 0) rfl) 3 (.int .i64 0) rfl) 4 (.int .i64 0) rfl) 5 (.int .i64 0) rfl) 6 (.int .i64 0) rfl) 7 (.int .i64 0) rfl) 8 (.int .i64 0) rfl) 9 (.int .i64 0) rfl) 10 (.slice Ao 1 co) rfl⟩
   have HV2 := Aside0.mk (Kd.V_far (p := ⟨g7, 10, none⟩) (Kd.V_far (p := ⟨g7, 9, none⟩) (Kd.V_far (p := ⟨g7, 8, none⟩) (Kd.V_far (p := ⟨g7, 7, none⟩) (Kd.V_far (p := ⟨g7, 6, none⟩) (Kd.V_far (p := ⟨g7, 5, none⟩) (Kd.V_far (p := ⟨g7, 4, none⟩) (Kd.V_far (p := ⟨g7, 3, none⟩) (Kd.V_far (p := ⟨g7, 2, none⟩) (Kd.V_far (p := ⟨g7, 1, none⟩) (Kd.V_far (p := ⟨g7, 0, none⟩) (HN.out) (fun k hk => hk.2) (.int .i64 2)) (fun k hk => hk.2) (.int .i64 2)) (fun k hk => hk.2) (.int .i64 0)) (fun k hk => hk.2) (.int .i64 0)) (fun k hk => hk.2) (.int .i64 0)) (fun k hk => hk.2) (.int .i64 0)) (fun k hk => hk.2) (.int .i64 0)) (fun k hk => hk.2) (.int .i64 0)) (fun k hk => hk.2) (.int .i64 0)) (fun k hk => hk.2) (.int .i64 0)) (fun k hk => hk.2) (.slice Ao 1 co))
   have HX2 := Aside0.mk (AX.far (AX.far (AX.far (AX.far (AX.far (AX.far (AX.far (AX.far (AX.far (AX.far (AX.far (HX.out) 0 (.int .i64 2) HNX.out HNB.out) 1 (.int .i64 2) HNX.out HNB.out) 2 (.int .i64 0) HNX.out HNB.out) 3 (.int .i64 0) HNX.out HNB.out) 4 (.int .i64 0) HNX.out HNB.out) 5 (.int .i64 0) HNX.out HNB.out) 6 (.int .i64 0) HNX.out HNB.out) 7 (.int .i64 0) HNX.out HNB.out) 8 (.int .i64 0) HNX.out HNB.out) 9 (.int .i64 0) HNX.out HNB.out) 10 (.slice Ao 1 co) HNX.out HNB.out)
   generalize (((((((((((wt.setCell ⟨g7, 0, none⟩ (.int .i64 2)).setCell ⟨g7, 1, none⟩ (.int .i64 2)).setCell ⟨g7, 2, none⟩ (.int .i64 0)).setCell ⟨g7, 3, none⟩ (.int .i64 0)).setCell ⟨g7, 4, none⟩ (.int .i64 0)).setCell ⟨g7, 5, none⟩ (.int .i64 0)).setCell ⟨g7, 6, none⟩ (.int .i64 0)).setCell ⟨g7, 7, none⟩ (.int .i64 0)).setCell ⟨g7, 8, none⟩ (.int .i64 0)).setCell ⟨g7, 9, none⟩ (.int .i64 0)).setCell ⟨g7, 10, none⟩ (.slice Ao 1 co)) = wz at HW2 HM HV2 HX2 ⊢
   clear hHeld HW1 HA4 HN HX
   refine hK.out _ _ HW2.out.S (fun hHeld => ?_)
   clear hK K
   refine pure_ (i := 12) (N := some 8) (v := ?_) (a' := ?_) #[true, true, true, true, true, true, true, true, true, true, true, true, true] rfl rfl (any_of HT_.out (by kernel_rfl)) (fun _ _ _ h => h) (Or.inl ⟨by rfl, ?_⟩) ?_ ?_
   rotate_left
   ·
    intro w'; go_simp; with_reducible rfl
   rotate_left
   ·
    simp only [Act.put, List.setIfInBounds_toArray, List.set_cons_zero, List.set_cons_succ, i64_w, i32_w]
    rfl
   refine done_ (done_of HT_.out (by kernel_rfl)) ?_
   clear hHeld HT_ HW_
   have hm0 : wz.cell? ⟨g4, 0, none⟩ = some (.int .i64 2) := (blk_cell HX2.out.m 0).trans rfl
   have hm1 : wz.cell? ⟨g4, 1, none⟩ = some (.int .i64 2) := (blk_cell HX2.out.m 1).trans rfl
   have hn10 : wz.cell? ⟨g7, 10, none⟩ = some (.slice Ao 1 co) := (blk_cell HM.out 10).trans rfl
   obtain ⟨ad, hA, hx⟩ := Kd.at_int (Kd.V_reads' HV2.out).2.2 0 (by omega) (by simp)
   cases hA
   replace hx : wz.cell? ad = some (.int .i64 7) := hx
   go_wp2
   go_ret
   exact ⟨rfl, HW2.out.hb⟩


end Go.Proofs.Ytabklpdjjoaocaa.Qy
