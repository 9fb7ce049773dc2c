/- Own text, by hand: chunk.Import at what Export wrote. -/
import Derived.Test.YtfipiohchnaglaaPt0
import Derived.Test.YtfipiohchnaglaaPt1
import Derived.Test.YtfipiohchnaglaaPt2
import Derived.Test.YtfipiohchnaglaaPt3
import Derived.Test.YtfipiohchnaglaaPt4
import Derived.Test.YtfipiohchnaglaaPt5
import Derived.Test.YtfipiohchnaglaaPt6
import Derived.Test.YtfipiohchnaglaaPt7
import Derived.Test.YtfipiohchnaglaaPt8
import Derived.Test.YtfipiohchnaglaaPt9
import Derived.Test.YtfipiohchnaglaaPt10
import Derived.Test.YtfipiohchnaglaaPt11
import Derived.Test.YtfipiohchnaglaaPtC
import Derived.Test.YtfipiohchnaglaaPtX
namespace Go.Proofs.Ytfipiohchnaglaa.Pt
open Go.RowKit Go.Proofs.YtfipiohchnaglaaW.PrintWords Go.Proofs.YtfipiohchnaglaaW.PrintLast Go.Proofs.YtfipiohchnaglaaW.PrintMore
attribute [local go_sem] max2_int min2_int max_two min_two max_three min_three max_four min_four
set_option linter.unusedVariables false
set_option linter.unusedSimpArgs false

/-- What Import asks of a text that Export wrote. -/
structure ImpH (s : ByteArray) (f0 f1 : List (List Int)) (d : Int) (k : Nat) (e : Int) (S s5 : ByteArray) (cs : Int) : Prop where
  lo : 12 ≤ s.size
  hi : s.size ≤ 1000000
  four : (s.size : Int) % 4 = 0
  he : e = (s.size : Int) - 4
  tail : s.extract e.toNat s.size = s5
  front : s.extract 0 e.toNat = S
  hS : S.size ≤ 1000000
  sum : cs = crcF S
  sum4 : chunk_four.f cs = some s5
  n0 : chunk_number.f s 0 = some (f0.length : Int)
  n1 : chunk_number.f s 1 = some d
  h0 : 1 ≤ f0.length ∧ f0.length ≤ 8
  h1 : 1 ≤ d ∧ d ≤ 8
  sz : (s.size : Int) = 4 * (3 + 2 * (f0.length : Int) * d)
  rows0 : chunk_rows.f k s 2 (f0.length : Int) d = some f0
  rows1 : chunk_rows.f k s (2 + (f0.length : Int) * d) d (f0.length : Int) = some f1
  right : expert_Right.f f0 f1 d = some true
set_option maxHeartbeats 8000000 in
set_option maxRecDepth 100000 in
theorem chunk_Import.calls (s : ByteArray) (f0 f1 : List (List Int)) (d : Int) (k : Nat) (e : Int) (S s5 : ByteArray) (cs : Int) (w : World) (h : ImpH s f0 f1 d k e S s5 cs) :
    Calls Try.prog 11 #[.string s] w fun e_ w' => ∃ (A0 A1 : Option Addr) (c0 c1 : Nat), e_ = .returned (.tuple #[.agg #[.slice A0 f0.length c0, .slice A1 f1.length c1], .int .i64 d, .int .i64 0]) ∧ f0.length ≤ c0 ∧ f1.length ≤ c1 ∧ Kd.F (Kd.slice 3 (Kd.int .i64)) w' (fun k => w.heap.size ≤ k) A0 f0.length f0 ∧ Kd.F (Kd.slice 3 (Kd.int .i64)) w' (fun k => w.heap.size ≤ k) A1 f1.length f1 ∧ Below w.heap.size w w' := by
  have hu33 := Try.underlying33
  have HH := Aside0.mk h
  obtain ⟨z, hz⟩ : ∃ z : Nat, z = s.size := ⟨_, rfl⟩
  have HZ := Aside0.mk hz
  obtain ⟨n, hn⟩ : ∃ n : Nat, n = f0.length := ⟨_, rfl⟩
  have HN := Aside0.mk hn
  have q1 : decide ((z : Int) < 12) = false := decide_eq_false (by have := h.lo; omega)
  have q2 : decide (¬ ((z : Int) % 4 = 0)) = false := decide_eq_false (fun hq => hq (by rw [hz]; exact h.four))
  have q3 : (z : Int) % 4 = 0 := by rw [hz]; exact h.four
  clear h
  go_enter Try.func11, Try.ntmps11
  skip
  rw [hz] at q1 q2 q3
  go_upto_region 4 with (fail)
  have he : wrap64 ((s.size : Int) - 4) = e := by have h1 := HH.out.lo; have h2 := HH.out.hi; rw [HH.out.he]; exact wrap_ok (by omega) (by omega)
  rw [he]
  have he0 : 0 ≤ e := by have h1 := HH.out.lo; have h2 := HH.out.he; omega
  have he1 : e ≤ (s.size : Int) := by have h2 := HH.out.he; omega
  have HB1 := Aside0.mk (below_alloc (Below.refl w.heap.size w) (.cells #[.slice none 0 0, .slice none 0 0] 33))
  have HG1 : Aside0 ((w.alloc (.cells #[.slice none 0 0, .slice none 0 0] 33)).heap[w.heap.size]? = some (.cells #[.slice none 0 0, .slice none 0 0] 33 (0, 0))) := ⟨heap_alloc_new _ _⟩
  generalize w.alloc (.cells #[.slice none 0 0, .slice none 0 0] 33) = w1 at HB1 HG1 ⊢
  have ht := HH.out.tail
  have hf := HH.out.front
  have HD := Aside0.mk (below_drew (Below.refl w1.heap.size w1))
  have HG2 := Aside0.mk (blk_below HG1.out HD.out)
  have HB2 := Aside0.mk (below_step HB1.out HD.out)
  refine start_ (n := 9) (S := fun W => W.cell? ⟨w.heap.size, 0, none⟩ = some (.slice none 0 0)) (ds := []) #[false, false, false, false, false, false, false, false, false] (by kernel_rfl) rfl rfl ((blk_cell HG2.out 0).trans rfl) (fun hHeld => ?_)
  clear HD HB1 HG1
  generalize w1.drew = w2 at HG2 HB2 hHeld ⊢
  refine pure_ (i := 0) (N := some 22) (v := ?_) (a' := ?_) #[true, false, false, false, false, false, false, false, false] rfl rfl (any_of rfl (by kernel_rfl)) (fun _ _ _ h => h) (Or.inl ⟨by rfl, ?_⟩) ?_ ?_
  rotate_left
  · intro w'
    go_simp
    with_reducible rfl
  rotate_left
  · simp only [Act.put, List.setIfInBounds_toArray, List.set_cons_zero, List.set_cons_succ, i64_w, i32_w]
    rfl
  refine pure_ (i := 1) (N := some 23) (v := ?_) (a' := ?_) #[true, true, false, false, false, false, false, false, false] rfl rfl (any_of rfl (by kernel_rfl)) (fun _ _ _ h => h) (Or.inl ⟨by rfl, ?_⟩) ?_ ?_
  rotate_left
  · intro w'
    go_simp
    with_reducible rfl
  rotate_left
  · simp only [Act.put, List.setIfInBounds_toArray, List.set_cons_zero, List.set_cons_succ, i64_w, i32_w]
    rfl
  refine pure_ (i := 2) (N := some 24) (v := ?_) (a' := ?_) #[true, true, true, false, false, false, false, false, false] rfl rfl (any_of rfl (by kernel_rfl)) (fun _ _ _ h => h) (Or.inl ⟨by rfl, ?_⟩) ?_ ?_
  rotate_left
  · intro w'
    go_simp
    with_reducible rfl
  rotate_left
  · simp only [Act.put, List.setIfInBounds_toArray, List.set_cons_zero, List.set_cons_succ, i64_w, i32_w]
    rfl
  refine pure_ (i := 3) (N := some 25) (v := ?_) (a' := ?_) #[true, true, true, true, false, false, false, false, false] rfl rfl (any_of rfl (by kernel_rfl)) (fun _ _ _ h => h) (Or.inl ⟨by rfl, ?_⟩) ?_ ?_
  rotate_left
  · intro w'
    go_simp
    with_reducible rfl
  rotate_left
  · simp only [Act.put, List.setIfInBounds_toArray, List.set_cons_zero, List.set_cons_succ, i64_w, i32_w]
    rfl
  refine pure_ (i := 4) (N := some 26) (v := ?_) (a' := ?_) #[true, true, true, true, true, false, false, false, false] rfl rfl (any_of rfl (by kernel_rfl)) (fun _ _ _ h => h) (Or.inl ⟨by rfl, ?_⟩) ?_ ?_
  rotate_left
  · intro w'
    go_simp
    with_reducible rfl
  rotate_left
  · simp only [Act.put, List.setIfInBounds_toArray, List.set_cons_zero, List.set_cons_succ, i64_w, i32_w]
    rfl
  refine pure_ (i := 5) (N := some 27) (v := ?_) (a' := ?_) #[true, true, true, true, true, true, false, false, false] rfl rfl (any_of rfl (by kernel_rfl)) (fun _ _ _ h => h) (Or.inl ⟨by rfl, ?_⟩) ?_ ?_
  rotate_left
  · intro w'
    go_simp
    with_reducible rfl
  rotate_left
  · simp only [Act.put, List.setIfInBounds_toArray, List.set_cons_zero, List.set_cons_succ, i64_w, i32_w]
    rfl
  refine one_ (i := 6) (N := some 28) #[true, true, true, true, true, true, true, false, false] rfl rfl (one_of rfl (by kernel_rfl)) (by decide) (fun K hK => ?_)
  have R_ : Calls Try.prog 23 #[.string S] w2 (fun e_ w' => e_ = .returned (.int .i64 cs) ∧ Below w2.heap.size w2 w') := by rw [HH.out.sum]; exact crc_Sum.calls S w2 HH.out.hS
  refine goes_ Try.func23 (by kernel_rfl) rfl #[.string S] (by rfl) rfl rfl (by (try simp only [List.map_toArray, List.map_cons, List.map_nil]); first | done | rfl) ?_
  refine R_.mono ?_
  clear R_
  rintro e_ w3 ⟨rfl, hb⟩
  have HG3 := Aside0.mk (blk_below HG2.out hb)
  have HB3 := Aside0.mk (below_step HB2.out hb)
  clear hb
  refine ⟨_, rfl, ?_⟩
  refine hK.out _ _ ((blk_cell HG3.out 0).trans rfl) (fun hHeld => ?_)
  clear hK K
  refine norm_ (a' := ?_) ?_ ?_
  rotate_left
  · show Act.put _ (some 28) _ = _
    simp only [Act.put, List.setIfInBounds_toArray, List.set_cons_zero, List.set_cons_succ, i64_w, i32_w]
    rfl
  refine one_ (i := 7) (N := some 29) #[true, true, true, true, true, true, true, true, false] rfl rfl (one_of rfl (by kernel_rfl)) (by decide) (fun K hK => ?_)
  have R_ := chunk_four.calls cs s5 w3 HH.out.sum4
  refine goes_ Try.func21 (by kernel_rfl) rfl #[.int .i64 cs] (by rfl) rfl rfl (by (try simp only [List.map_toArray, List.map_cons, List.map_nil]); first | done | rfl) ?_
  refine R_.mono ?_
  clear R_
  rintro e_ w4 ⟨rfl, hb⟩
  have HG4 := Aside0.mk (blk_below HG3.out hb)
  have HB4 := Aside0.mk (below_step HB3.out hb)
  clear hb
  refine ⟨_, rfl, ?_⟩
  refine hK.out _ _ ((blk_cell HG4.out 0).trans rfl) (fun hHeld => ?_)
  clear hK K
  refine norm_ (a' := ?_) ?_ ?_
  rotate_left
  · show Act.put _ (some 29) _ = _
    simp only [Act.put, List.setIfInBounds_toArray, List.set_cons_zero, List.set_cons_succ, i64_w, i32_w]
    rfl
  refine pure_ (i := 8) (N := some 30) (v := ?_) (a' := ?_) #[true, true, true, true, true, true, true, true, true] rfl rfl (any_of rfl (by kernel_rfl)) (fun _ _ _ h => h) (Or.inl ⟨by rfl, ?_⟩) ?_ ?_
  rotate_left
  · intro w'
    go_simp
    with_reducible rfl
  rotate_left
  · simp only [Act.put, List.setIfInBounds_toArray, List.set_cons_zero, List.set_cons_succ, i64_w, i32_w]
    rfl
  refine done_ (done_of rfl (by kernel_rfl)) ?_
  clear hHeld HG2 HG3 HB2 HB3 ht hf he
  obtain ⟨dn, rfl⟩ : ∃ dn : Nat, d = (dn : Int) := ⟨d.toNat, by have := HH.out.h1; omega⟩
  obtain ⟨n, hn⟩ : ∃ n : Nat, n = f0.length := ⟨_, rfl⟩
  have HNE := Aside0.mk hn
  have hn8 : 1 ≤ n ∧ n ≤ 8 := by rw [hn]; exact HH.out.h0
  have hd8 : 1 ≤ dn ∧ dn ≤ 8 := by have := HH.out.h1; omega
  have hp0 : n * dn ≤ 8 * 8 := Nat.mul_le_mul hn8.2 hd8.2
  obtain ⟨p, hp⟩ : ∃ p : Nat, p = n * dn := ⟨_, rfl⟩
  rw [← hp] at hp0
  have hpz : (n : Int) * (dn : Int) = (p : Int) := by rw [hp]; exact (Int.natCast_mul _ _).symm
  have hsz : (s.size : Int) = 4 * (3 + 2 * (p : Int)) := by rw [HH.out.sz, ← hn, Int.mul_assoc 2 (n : Int) (dn : Int), hpz]
  have b1 : 0 ≤ 2 * (n : Int) ∧ 2 * (n : Int) < 1000000 := by omega
  have b2 : 0 ≤ 2 * (p : Int) ∧ 2 * (p : Int) < 1000000 := by omega
  have b3 : 0 ≤ 3 + 2 * (p : Int) ∧ 3 + 2 * (p : Int) < 1000000 := by omega
  have b4 : 0 ≤ 4 * (3 + 2 * (p : Int)) ∧ 4 * (3 + 2 * (p : Int)) < 1000000 := by omega
  have b5 : 0 ≤ (p : Int) ∧ (p : Int) < 1000000 := by omega
  have b6 : 0 ≤ 2 + (p : Int) ∧ 2 + (p : Int) < 1000000 := by omega
  have u1 : decide ((n : Int) < 1) = false := decide_eq_false (by omega)
  have u2 : decide ((n : Int) > 8) = false := decide_eq_false (by omega)
  have u2' : decide (8 < (n : Int)) = false := decide_eq_false (by omega)
  have u3 : decide ((dn : Int) < 1) = false := decide_eq_false (by omega)
  have u4 : decide ((dn : Int) > 8) = false := decide_eq_false (by omega)
  have u4' : decide (8 < (dn : Int)) = false := decide_eq_false (by omega)
  have m1 : wrap64 (2 * (n : Int)) = 2 * (n : Int) := wrap_ok b1.1 b1.2
  have m2' : 2 * (n : Int) * (dn : Int) = 2 * (p : Int) := by rw [Int.mul_assoc, hpz]
  have m2 : wrap64 (2 * (p : Int)) = 2 * (p : Int) := wrap_ok b2.1 b2.2
  have m3 : wrap64 (3 + 2 * (p : Int)) = 3 + 2 * (p : Int) := wrap_ok b3.1 b3.2
  have m4 : wrap64 (4 * (3 + 2 * (p : Int))) = (s.size : Int) := by rw [hsz]; exact wrap_ok b4.1 b4.2
  have m5 : wrap64 (p : Int) = (p : Int) := wrap_ok b5.1 b5.2
  have m6 : wrap64 (2 + (p : Int)) = 2 + (p : Int) := wrap_ok b6.1 b6.2
  clear b1 b2 b3 b4 b5 b6
  have R0 : Aside0 (chunk_rows.f k s 2 (n : Int) (dn : Int) = some f0) := ⟨by rw [hn]; exact HH.out.rows0⟩
  have R1 : Aside0 (chunk_rows.f k s (2 + (p : Int)) (dn : Int) (n : Int) = some f1) := ⟨by rw [← hpz, hn]; exact HH.out.rows1⟩
  have N0 : Aside0 (chunk_number.f s 0 = some (n : Int)) := ⟨by rw [hn]; exact HH.out.n0⟩
  clear hn hp hp0 hsz
  go_upto_region 10 with (first | (go_at_call 24; (with_reducible refine (chunk_number.calls s 0 (n : Int) _ N0.out).mono ?_); rintro e_ w5 ⟨rfl, hd⟩; have HG5 := Aside0.mk (blk_below HG4.out hd.below); have HB5 := Aside0.mk (below_step HB4.out hd.below); have HZ5 := Aside0.mk (below_size hd.below); clear hd) | (go_at_call 24; (with_reducible refine (chunk_number.calls s 1 (dn : Int) _ HH.out.n1).mono ?_); rintro e_ w6 ⟨rfl, hd⟩; have HG6 := Aside0.mk (blk_below HG5.out hd.below); have HB6 := Aside0.mk (below_step HB5.out hd.below); have HZ6 := Aside0.mk (below_size hd.below); clear hd) | (go_at_call 25; (with_reducible refine (chunk_rows.calls k s 2 (n : Int) (dn : Int) f0 _ R0.out).mono ?_); rintro e_ w7 ⟨v0, rfl, hv, hb⟩; obtain ⟨A0, c0, rfl⟩ := Kd.S_slice hv; have HC0 := Aside0.mk (Kd.S_reads' hv).2.1; have HF0 := Aside0.mk (Kd.F_mono (ok' := fun k => w4.heap.size ≤ k) (Kd.S_F (Kd.S_bound hv)) (fun k hk => Nat.le_trans (Nat.le_trans HZ5.out HZ6.out) hk.2.1)); have HG7 := Aside0.mk (blk_below HG6.out hb); have HB7 := Aside0.mk (below_step HB6.out hb); have HZ7 := Aside0.mk (Nat.le_trans (Nat.le_trans HZ5.out HZ6.out) (below_size hb)); clear hv hb) | (go_at_call 25; (with_reducible refine (chunk_rows.calls k s (2 + (p : Int)) (dn : Int) (n : Int) f1 _ R1.out).mono ?_); rintro e_ w8 ⟨v1, rfl, hv, hb⟩; obtain ⟨A1, c1, rfl⟩ := Kd.S_slice hv; have HC1 := Aside0.mk (Kd.S_reads' hv).2.1; have HF1 := Aside0.mk (Kd.F_mono (ok' := fun k => w4.heap.size ≤ k) (Kd.S_F (Kd.S_bound hv)) (fun k hk => Nat.le_trans HZ7.out hk.2.1)); have HF0b := Aside0.mk (Kd.F_below HF0.out hb); have HG8 := Aside0.mk (blk_below HG7.out hb); have HB8 := Aside0.mk (below_step HB7.out hb); clear hv hb))
  have hb := below_alloc (Below.refl w8.heap.size w8) (.cells #[.slice A0 f0.length c0, .slice A1 f1.length c1] 33)
  have HF0c := Aside0.mk (Kd.F_alloc HF0b.out (.cells #[.slice A0 f0.length c0, .slice A1 f1.length c1] 33))
  have HF1c := Aside0.mk (Kd.F_alloc HF1.out (.cells #[.slice A0 f0.length c0, .slice A1 f1.length c1] 33))
  have HG9 := Aside0.mk (blk_below HG8.out hb)
  have HB9 := Aside0.mk (below_step HB8.out hb)
  have HX9 : Aside0 ((w8.alloc (.cells #[.slice A0 f0.length c0, .slice A1 f1.length c1] 33)).heap[w8.heap.size]? = some (.cells #[.slice A0 f0.length c0, .slice A1 f1.length c1] 33 (0, 0))) := ⟨heap_alloc_new _ _⟩
  have HGL : Aside0 (w.heap.size < w4.heap.size) := ⟨blk_lt HG4.out⟩
  clear hb HF0 HF0b HF1 HG4 HG5 HG6 HG7 HG8
  generalize w8.alloc (.cells #[.slice A0 f0.length c0, .slice A1 f1.length c1] 33) = w9 at HF0c HF1c HG9 HB9 HX9 ⊢
  have hx0 : w9.cell? ⟨w8.heap.size, 0, none⟩ = some (.slice A0 f0.length c0) := (blk_cell HX9.out 0).trans rfl
  have hx1 : w9.cell? ⟨w8.heap.size, 1, none⟩ = some (.slice A1 f1.length c1) := (blk_cell HX9.out 1).trans rfl
  go_upto_region 12 with ((go_at_call 19; (with_reducible refine (expert_Right.calls A0 c0 f0 A1 c1 f1 (dn : Int) true _ (Kd.F_now HF0c.out) HC0.out (Kd.F_now HF1c.out) HC1.out HH.out.right).mono ?_); rintro e_ wa ⟨rfl, hb⟩; have HF0d := Aside0.mk (Kd.F_below HF0c.out hb); have HF1d := Aside0.mk (Kd.F_below HF1c.out hb); have HXA := Aside0.mk (blk_below HX9.out hb); have HG10 := Aside0.mk (blk_below HG9.out hb); have HB10 := Aside0.mk (below_step HB9.out hb); clear hb hx0 hx1))
  have hx0 : wa.cell? ⟨w8.heap.size, 0, none⟩ = some (.slice A0 f0.length c0) := (blk_cell HXA.out 0).trans rfl
  have hx1 : wa.cell? ⟨w8.heap.size, 1, none⟩ = some (.slice A1 f1.length c1) := (blk_cell HXA.out 1).trans rfl
  have hr0 : wa.cell? ⟨w.heap.size, 0, none⟩ = some (.slice none 0 0) := (blk_cell HG10.out 0).trans rfl
  have hr1 : wa.cell? ⟨w.heap.size, 1, none⟩ = some (.slice none 0 0) := (blk_cell HG10.out 1).trans rfl
  have hz0 := blk_frozen HG10.out 0
  have hz1 := blk_frozen HG10.out 1
  go_wp2
  have HFa := Aside0.mk (Kd.F_far (Kd.F_far HF0d.out (p := ⟨w.heap.size, 0, none⟩) (fun k hk => by have h1 := HGL.out; show k ≠ w.heap.size; omega) (.slice A0 f0.length c0)) (p := ⟨w.heap.size, 1, none⟩) (fun k hk => by have h1 := HGL.out; show k ≠ w.heap.size; omega) (.slice A1 f1.length c1))
  have HFb := Aside0.mk (Kd.F_far (Kd.F_far HF1d.out (p := ⟨w.heap.size, 0, none⟩) (fun k hk => by have h1 := HGL.out; show k ≠ w.heap.size; omega) (.slice A0 f0.length c0)) (p := ⟨w.heap.size, 1, none⟩) (fun k hk => by have h1 := HGL.out; show k ≠ w.heap.size; omega) (.slice A1 f1.length c1))
  have HGF : Aside0 (((wa.setCell ⟨w.heap.size, 0, none⟩ (.slice A0 f0.length c0)).setCell ⟨w.heap.size, 1, none⟩ (.slice A1 f1.length c1)).heap[w.heap.size]? = some (.cells #[.slice A0 f0.length c0, .slice A1 f1.length c1] 33 (0, 0))) := ⟨blk_put (blk_put (cs' := #[.slice A0 f0.length c0, .slice none 0 0]) HG10.out 0 _ rfl) 1 _ rfl⟩
  have HBF : Aside0 (Below w.heap.size w ((wa.setCell ⟨w.heap.size, 0, none⟩ (.slice A0 f0.length c0)).setCell ⟨w.heap.size, 1, none⟩ (.slice A1 f1.length c1))) := ⟨(HB10.out.setCell (p := ⟨w.heap.size, 0, none⟩) (Nat.le_refl _) _).setCell (p := ⟨w.heap.size, 1, none⟩) (Nat.le_refl _) _⟩
  generalize ((wa.setCell ⟨w.heap.size, 0, none⟩ (.slice A0 f0.length c0)).setCell ⟨w.heap.size, 1, none⟩ (.slice A1 f1.length c1)) = wf at HFa HFb HGF HBF ⊢
  refine bodyPost_ret (results_list (rs := [.cell 2 33, .tmp 3, .tmp 4]) rfl (by simp) (.cell _ 33 #[.slice A0 f0.length c0, .slice A1 f1.length c1] (0, 0) _ rfl HGF.out Try.underlying33 rfl (by kernel_rfl) (.tmp (.tmp .nil)))) rfl ?_
  exact ⟨A0, A1, c0, c1, rfl, HC0.out, HC1.out, Kd.F_mono HFa.out (fun k hk => by have h1 := HGL.out; omega), Kd.F_mono HFb.out (fun k hk => by have h1 := HGL.out; omega), HBF.out⟩


end Go.Proofs.Ytfipiohchnaglaa.Pt
