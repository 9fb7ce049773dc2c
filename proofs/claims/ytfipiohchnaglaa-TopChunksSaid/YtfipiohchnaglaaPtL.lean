/- Own text, by hand: the fixed answer. -/
import Derived.Test.YtfipiohchnaglaaPt0
import Derived.Test.YtfipiohchnaglaaPt10
namespace Go.Proofs.Ytfipiohchnaglaa.Pt
open Go.RowKit Go.Proofs.YtfipiohchnaglaaW.PrintWords Go.Proofs.YtfipiohchnaglaaW.PrintLast Go.Proofs.YtfipiohchnaglaaW.PrintMore
attribute [local go_sem] max2_int min2_int max_two min_two max_three min_three max_four min_four
set_option linter.unusedVariables false
set_option linter.unusedSimpArgs false

def switchboardtop_lives.f : Option Bool := some true
theorem C_one {α : Type} {d : Kd α} {w : World} {g : Nat} {cs : List Value} {t : Nat} {x : α} (hb : w.heap[g]? = some (.cells cs.toArray t (0, 0))) (hk : d.K w x cs) (hl : cs.length = d.sz) : Kd.C d w (some ⟨g, 0, none⟩) 1 [x] := by
  refine ⟨rfl, by decide, fun _ => ⟨_, rfl, fun j p hj => ?_⟩⟩
  cases j with
  | zero =>
    obtain rfl : x = p := by simpa using hj
    refine ⟨cs, hl, hk, fun i u hu => ?_⟩
    rw [Nat.zero_mul, Nat.zero_add, add_plain, blk_cell hb i]
    simpa using hu
  | succ j => simp at hj
theorem alloc_at {W : World} {g : Nat} (o : Obj) (h : g = W.heap.size) : (W.alloc o).heap[g]? = some o := by rw [h]; exact heap_alloc_new W o
theorem awakeForward : model_Forward.f 40 1 [(⟨[[65536]], [(⟨[[65536]], [[65536]]⟩ : S33)], 1⟩ : S31)] [[7]] = some ([[14]], 0) := by decide +kernel
set_option maxHeartbeats 8000000 in
set_option maxRecDepth 100000 in
theorem switchboardtop_lives.calls (r : Bool) (w : World) (h : switchboardtop_lives.f = some r) : Calls Try.prog 8 #[] w fun e w' => e = .returned (.bool r) ∧ Below w.heap.size w w' := by
  obtain rfl := Option.some.inj h
  clear h
  have hu := Try.underlying24
  have hu2 := Try.underlying31
  have hu3 := Try.underlying33
  obtain ⟨W, hW⟩ : ∃ W : World, W = (((((((w.alloc (.cells #[.int .i64 65536] 3)).alloc (.cells #[.slice (some ⟨w.heap.size, 0, none⟩) 1 1] 54)).alloc (.cells #[.slice (some ⟨w.heap.size + 1, 0, none⟩) 1 1, .slice (some ⟨w.heap.size + 1, 0, none⟩) 1 1] 33)).alloc (.cells #[.slice (some ⟨w.heap.size + 1, 0, none⟩) 1 1, .slice (some ⟨w.heap.size + 1 + 1, 0, none⟩) 1 1, .int .i64 1] 31)).alloc (.cells #[.int .i64 1, .slice (some ⟨w.heap.size + 1 + 1 + 1, 0, none⟩) 1 1] 24)).alloc (.cells #[.int .i64 7] 3)).alloc (.cells #[.slice (some ⟨w.heap.size + 1 + 1 + 1 + 1 + 1, 0, none⟩) 1 1] 54)) := ⟨_, rfl⟩
  have hb0 : W.heap[w.heap.size]? = some (.cells [Value.int .i64 65536].toArray 3 (0, 0)) := by rw [hW]; exact blk_alloc (blk_alloc (blk_alloc (blk_alloc (blk_alloc (blk_alloc (alloc_at _ (by simp)) _) _) _) _) _) _
  have hb1 : W.heap[w.heap.size + 1]? = some (.cells [Value.slice (some ⟨w.heap.size, 0, none⟩) 1 1].toArray 54 (0, 0)) := by rw [hW]; exact blk_alloc (blk_alloc (blk_alloc (blk_alloc (blk_alloc (alloc_at _ (by simp)) _) _) _) _) _
  have hb2 : W.heap[w.heap.size + 1 + 1]? = some (.cells [Value.slice (some ⟨w.heap.size + 1, 0, none⟩) 1 1, .slice (some ⟨w.heap.size + 1, 0, none⟩) 1 1].toArray 33 (0, 0)) := by rw [hW]; exact blk_alloc (blk_alloc (blk_alloc (blk_alloc (alloc_at _ (by simp)) _) _) _) _
  have hb3 : W.heap[w.heap.size + 1 + 1 + 1]? = some (.cells [Value.slice (some ⟨w.heap.size + 1, 0, none⟩) 1 1, .slice (some ⟨w.heap.size + 1 + 1, 0, none⟩) 1 1, .int .i64 1].toArray 31 (0, 0)) := by rw [hW]; exact blk_alloc (blk_alloc (blk_alloc (alloc_at _ (by simp)) _) _) _
  have hb4 : W.heap[w.heap.size + 1 + 1 + 1 + 1]? = some (.cells [Value.int .i64 1, .slice (some ⟨w.heap.size + 1 + 1 + 1, 0, none⟩) 1 1].toArray 24 (0, 0)) := by rw [hW]; exact blk_alloc (blk_alloc (alloc_at _ (by simp)) _) _
  have hb5 : W.heap[w.heap.size + 1 + 1 + 1 + 1 + 1]? = some (.cells [Value.int .i64 7].toArray 3 (0, 0)) := by rw [hW]; exact blk_alloc (alloc_at _ (by simp)) _
  have hb6 : W.heap[w.heap.size + 1 + 1 + 1 + 1 + 1 + 1]? = some (.cells [Value.slice (some ⟨w.heap.size + 1 + 1 + 1 + 1 + 1, 0, none⟩) 1 1].toArray 54 (0, 0)) := by rw [hW]; exact alloc_at _ (by simp)
  have c0 : Kd.C (Kd.int .i64) W (some ⟨w.heap.size, 0, none⟩) 1 [65536] := C_one hb0 rfl rfl
  have c1 : Kd.C (Kd.slice 3 (Kd.int .i64)) W (some ⟨w.heap.size + 1, 0, none⟩) 1 [[65536]] := C_one hb1 ⟨_, _, rfl, Nat.le_refl _, c0⟩ rfl
  have c2 : Kd.C k33 W (some ⟨w.heap.size + 1 + 1, 0, none⟩) 1 [(⟨[[65536]], [[65536]]⟩ : S33)] := C_one hb2 (k33_mk W (⟨[[65536]], [[65536]]⟩ : S33) (Nat.le_refl _) c1 (Nat.le_refl _) c1) rfl
  have c3 : Kd.C k31 W (some ⟨w.heap.size + 1 + 1 + 1, 0, none⟩) 1 [(⟨[[65536]], [(⟨[[65536]], [[65536]]⟩ : S33)], 1⟩ : S31)] := C_one hb3 (k31_mk W (⟨[[65536]], [(⟨[[65536]], [[65536]]⟩ : S33)], 1⟩ : S31) (Nat.le_refl _) c1 (Nat.le_refl _) c2) rfl
  have c5 : Kd.C (Kd.int .i64) W (some ⟨w.heap.size + 1 + 1 + 1 + 1 + 1, 0, none⟩) 1 [7] := C_one hb5 rfl rfl
  have c6 : Kd.C (Kd.slice 3 (Kd.int .i64)) W (some ⟨w.heap.size + 1 + 1 + 1 + 1 + 1 + 1, 0, none⟩) 1 [[7]] := C_one hb6 ⟨_, _, rfl, Nat.le_refl _, c5⟩ rfl
  have v6 : Kd.V (Kd.slice 3 (Kd.int .i64)) 54 W W.heap.size (fun k_ => k_ < W.heap.size) (.slice (some ⟨w.heap.size + 1 + 1 + 1 + 1 + 1 + 1, 0, none⟩) 1 1) [[7]] := Kd.V_mk (xs := [[7]]) (Nat.le_refl _) (Kd.C_F (Kd.heap_slice 3 (Kd.heap_int .i64)) c6)
  have HWB : Aside0 (Below w.heap.size w W) := ⟨by rw [hW]; exact below_alloc (below_alloc (below_alloc (below_alloc (below_alloc (below_alloc (below_alloc (Below.refl _ _) _) _) _) _) _) _) _⟩
  have HWB2 := hW
  have K1 : Aside0 (Calls Try.prog 13 #[.agg #[.int .i64 1, .slice (some ⟨w.heap.size + 1 + 1 + 1, 0, none⟩) 1 1], .slice (some ⟨w.heap.size + 1 + 1 + 1 + 1 + 1 + 1, 0, none⟩) 1 1] W fun e w' => ∃ v0_ : Value, e = .returned (.tuple #[v0_, .int .i64 0]) ∧ Kd.V (Kd.slice 3 (Kd.int .i64)) 54 w' W.heap.size (fun k_ => (k_ < W.heap.size ∨ W.heap.size ≤ k_)) v0_ [[14]] ∧ Below W.heap.size W w') := ⟨model_Forward.calls 40 1 _ 1 [(⟨[[65536]], [(⟨[[65536]], [[65536]]⟩ : S33)], 1⟩ : S31)] _ _ 1 [[7]] [[14]] 0 W c3 (Nat.le_refl _) v6 awakeForward⟩
  have HW := Aside0.mk hW
  clear hb0 hb1 hb2 hb3 hb4 hb5 hb6 c0 c1 c2 c3 c5 c6 v6 HWB2 hW
  go_enter Try.func8, Try.ntmps8
  go_wp2_with (go_at_call 13; rw [← HW.out]; refine K1.out.mono ?_; rintro e w1 ⟨v1, rfl, hv, hb⟩; obtain ⟨A1, c1, rfl⟩ := Kd.V_slice hv; have HV := Aside0.mk hv; have HB1 := Aside0.mk hb; obtain ⟨ad1, A2, c2, rfl, hx1, hl2, hi2⟩ := at_L1 (Kd.V_reads' HV.out).2.2 0 (by omega) (by decide); obtain ⟨ad2, rfl, hx2⟩ := Kd.at_int hi2 0 (by omega) (by decide); replace hx1 : w1.cell? ad1 = some (.slice (some ad2) 1 c2) := hx1; replace hx2 : w1.cell? ad2 = some (.int .i64 14) := hx2; clear hv hb hl2 hi2)
  go_ret
  exact ⟨rfl, below_step HWB.out HB1.out⟩


end Go.Proofs.Ytfipiohchnaglaa.Pt
