/- Own text, by hand: PuT, PuL, PuD -/
import Derived.Test.YtfipiohchnaglaaPu0
import Derived.Test.YtfipiohchnaglaaPu15
import Derived.Test.YtfipiohchnaglaaPuHa
import Derived.Test.YtfipiohchnaglaaPu2
import Derived.Test.YtfipiohchnaglaaPu6
import Derived.Test.YtfipiohchnaglaaPu16
import Derived.Test.YtfipiohchnaglaaPuHb
namespace Go.Proofs.Ytfipiohchnaglaa.Pu
open Go.RowKit Go.Proofs.YtfipiohchnaglaaW.PrintWords Go.Proofs.YtfipiohchnaglaaW.PrintLast Go.Proofs.YtfipiohchnaglaaW.PrintMore
attribute [local go_sem] max2_int min2_int max_two min_two max_three min_three max_four min_four
set_option linter.unusedVariables false
set_option linter.unusedSimpArgs false
/-- What Take asks of a text that Put wrote. -/
structure TakeH (k : Nat) (s : ByteArray) (a0 a1 a2 a3 a4 a5 a6 a7 a8 a9 : Int) (v u : List Int) (c : Int) : Prop where
  sz : s.size = 4 * (13 + v.length)
  m : v.length ≤ 64
  pos : 1 ≤ v.length
  ul : u.length = v.length
  num : ∀ i : Nat, i < 12 + v.length → wire_number.f k s (i : Int) = some (rd (((s.size : Int) - 4) :: a0 :: a1 :: a2 :: a3 :: a4 :: a5 :: a6 :: a7 :: a8 :: a9 :: (v.length : Int) :: u) (i : Int))
  crc1 : wire_number.f k s ((12 + v.length : Nat) : Int) = some c
  crc2 : crc_Sum.f (s.extract 4 (4 * (12 + v.length))) = some c
  sig : ∀ j : Nat, j < v.length → wire_signed.f (rd u (j : Int)) = some (rd v (j : Int))
  ok : wire_Right.f k a0 a1 a2 a3 a4 a5 a6 a7 a8 a9 v = some true
theorem fill_set (l : List Int) (M i : Nat) (hl : l.length = M) (hi : i < M) : (l.take i ++ List.replicate (M - i) 0).set i (rd l (i : Int)) = l.take (i + 1) ++ List.replicate (M - (i + 1)) 0 := by
  have h1 : (l.take i).length = i := by rw [List.length_take]; omega
  have h2 : M - i = (M - (i + 1)) + 1 := by omega
  have h3 : rd l (i : Int) = l[i] := by
    unfold rd
    rw [Int.toNat_natCast, List.getD_eq_getElem?_getD, List.getElem?_eq_getElem (by omega)]
    rfl
  rw [List.set_append_right _ _ (by omega), h1, Nat.sub_self, h2, List.replicate_succ, List.set_cons_zero, h3, List.take_add_one, List.getElem?_eq_getElem (by omega), Option.toList_some, List.append_assoc]
  rfl
def set11 (W : World) (g : Nat) (u0 u1 u2 u3 u4 u5 u6 u7 u8 u9 u10 : Value) : World := (((((((((((W.setCell ⟨g, 0, none⟩ u0).setCell ⟨g, 1, none⟩ u1).setCell ⟨g, 2, none⟩ u2).setCell ⟨g, 3, none⟩ u3).setCell ⟨g, 4, none⟩ u4).setCell ⟨g, 5, none⟩ u5).setCell ⟨g, 6, none⟩ u6).setCell ⟨g, 7, none⟩ u7).setCell ⟨g, 8, none⟩ u8).setCell ⟨g, 9, none⟩ u9).setCell ⟨g, 10, none⟩ u10)
theorem set11_blk {W : World} {g : Nat} {t : TypeId} {z0 z1 z2 z3 z4 z5 z6 z7 z8 z9 z10 : Value} (h : W.heap[g]? = some (.cells #[z0, z1, z2, z3, z4, z5, z6, z7, z8, z9, z10] t (0, 0))) (u0 u1 u2 u3 u4 u5 u6 u7 u8 u9 u10 : Value) : (set11 W g u0 u1 u2 u3 u4 u5 u6 u7 u8 u9 u10).heap[g]? = some (.cells #[u0, u1, u2, u3, u4, u5, u6, u7, u8, u9, u10] t (0, 0)) := by
  have h0 : (W.setCell ⟨g, 0, none⟩ u0).heap[g]? = some (.cells #[u0, z1, z2, z3, z4, z5, z6, z7, z8, z9, z10] t (0, 0)) := blk_put h 0 u0 rfl
  have h1 : ((W.setCell ⟨g, 0, none⟩ u0).setCell ⟨g, 1, none⟩ u1).heap[g]? = some (.cells #[u0, u1, z2, z3, z4, z5, z6, z7, z8, z9, z10] t (0, 0)) := blk_put h0 1 u1 rfl
  have h2 : (((W.setCell ⟨g, 0, none⟩ u0).setCell ⟨g, 1, none⟩ u1).setCell ⟨g, 2, none⟩ u2).heap[g]? = some (.cells #[u0, u1, u2, z3, z4, z5, z6, z7, z8, z9, z10] t (0, 0)) := blk_put h1 2 u2 rfl
  have h3 : ((((W.setCell ⟨g, 0, none⟩ u0).setCell ⟨g, 1, none⟩ u1).setCell ⟨g, 2, none⟩ u2).setCell ⟨g, 3, none⟩ u3).heap[g]? = some (.cells #[u0, u1, u2, u3, z4, z5, z6, z7, z8, z9, z10] t (0, 0)) := blk_put h2 3 u3 rfl
  have h4 : (((((W.setCell ⟨g, 0, none⟩ u0).setCell ⟨g, 1, none⟩ u1).setCell ⟨g, 2, none⟩ u2).setCell ⟨g, 3, none⟩ u3).setCell ⟨g, 4, none⟩ u4).heap[g]? = some (.cells #[u0, u1, u2, u3, u4, z5, z6, z7, z8, z9, z10] t (0, 0)) := blk_put h3 4 u4 rfl
  have h5 : ((((((W.setCell ⟨g, 0, none⟩ u0).setCell ⟨g, 1, none⟩ u1).setCell ⟨g, 2, none⟩ u2).setCell ⟨g, 3, none⟩ u3).setCell ⟨g, 4, none⟩ u4).setCell ⟨g, 5, none⟩ u5).heap[g]? = some (.cells #[u0, u1, u2, u3, u4, u5, z6, z7, z8, z9, z10] t (0, 0)) := blk_put h4 5 u5 rfl
  have h6 : (((((((W.setCell ⟨g, 0, none⟩ u0).setCell ⟨g, 1, none⟩ u1).setCell ⟨g, 2, none⟩ u2).setCell ⟨g, 3, none⟩ u3).setCell ⟨g, 4, none⟩ u4).setCell ⟨g, 5, none⟩ u5).setCell ⟨g, 6, none⟩ u6).heap[g]? = some (.cells #[u0, u1, u2, u3, u4, u5, u6, z7, z8, z9, z10] t (0, 0)) := blk_put h5 6 u6 rfl
  have h7 : ((((((((W.setCell ⟨g, 0, none⟩ u0).setCell ⟨g, 1, none⟩ u1).setCell ⟨g, 2, none⟩ u2).setCell ⟨g, 3, none⟩ u3).setCell ⟨g, 4, none⟩ u4).setCell ⟨g, 5, none⟩ u5).setCell ⟨g, 6, none⟩ u6).setCell ⟨g, 7, none⟩ u7).heap[g]? = some (.cells #[u0, u1, u2, u3, u4, u5, u6, u7, z8, z9, z10] t (0, 0)) := blk_put h6 7 u7 rfl
  have h8 : (((((((((W.setCell ⟨g, 0, none⟩ u0).setCell ⟨g, 1, none⟩ u1).setCell ⟨g, 2, none⟩ u2).setCell ⟨g, 3, none⟩ u3).setCell ⟨g, 4, none⟩ u4).setCell ⟨g, 5, none⟩ u5).setCell ⟨g, 6, none⟩ u6).setCell ⟨g, 7, none⟩ u7).setCell ⟨g, 8, none⟩ u8).heap[g]? = some (.cells #[u0, u1, u2, u3, u4, u5, u6, u7, u8, z9, z10] t (0, 0)) := blk_put h7 8 u8 rfl
  have h9 : ((((((((((W.setCell ⟨g, 0, none⟩ u0).setCell ⟨g, 1, none⟩ u1).setCell ⟨g, 2, none⟩ u2).setCell ⟨g, 3, none⟩ u3).setCell ⟨g, 4, none⟩ u4).setCell ⟨g, 5, none⟩ u5).setCell ⟨g, 6, none⟩ u6).setCell ⟨g, 7, none⟩ u7).setCell ⟨g, 8, none⟩ u8).setCell ⟨g, 9, none⟩ u9).heap[g]? = some (.cells #[u0, u1, u2, u3, u4, u5, u6, u7, u8, u9, z10] t (0, 0)) := blk_put h8 9 u9 rfl
  have h10 : (((((((((((W.setCell ⟨g, 0, none⟩ u0).setCell ⟨g, 1, none⟩ u1).setCell ⟨g, 2, none⟩ u2).setCell ⟨g, 3, none⟩ u3).setCell ⟨g, 4, none⟩ u4).setCell ⟨g, 5, none⟩ u5).setCell ⟨g, 6, none⟩ u6).setCell ⟨g, 7, none⟩ u7).setCell ⟨g, 8, none⟩ u8).setCell ⟨g, 9, none⟩ u9).setCell ⟨g, 10, none⟩ u10).heap[g]? = some (.cells #[u0, u1, u2, u3, u4, u5, u6, u7, u8, u9, u10] t (0, 0)) := blk_put h9 10 u10 rfl
  exact h10
theorem set11_far (W : World) (g : Nat) (u0 u1 u2 u3 u4 u5 u6 u7 u8 u9 u10 : Value) (k : Nat) (h : k ≠ g) : (set11 W g u0 u1 u2 u3 u4 u5 u6 u7 u8 u9 u10).heap[k]? = W.heap[k]? := by
  unfold set11
  repeat rw [Below.heap_setCell _ _ _ _ h]
theorem set11_below {B : Nat} {a W : World} {g : Nat} (h : Below B a W) (hg : B ≤ g) (u0 u1 u2 u3 u4 u5 u6 u7 u8 u9 u10 : Value) : Below B a (set11 W g u0 u1 u2 u3 u4 u5 u6 u7 u8 u9 u10) := by
  unfold set11
  repeat apply Below.setCell _ hg
  exact h
theorem Kd.R_tight_ {W : World} {b : Nat} {ok : Nat → Prop} {v : Value} {xs : List Int} (h : Kd.R (Kd.int .i64) 3 W b ok v xs) : Kd.R (Kd.int .i64) 3 W b (fun k => some k = v.ownBlock) v xs := by
  obtain ⟨A, c, rfl⟩ := Kd.R_slice h
  exact Kd.R_of_own (Kd.own_of_R h) (fun k hk => hk.symm)
theorem below_ungrown {a b : World} (h : a.grownBy b none) : Below a.heap.size a b := ⟨h.os, h.tape, h.output, h.size, fun k hk => h.block k hk (by simp)⟩
set_option maxHeartbeats 8000000 in
set_option maxRecDepth 100000 in
theorem wire_Take.calls (k : Nat) (s : ByteArray) (a0 a1 a2 a3 a4 a5 a6 a7 a8 a9 : Int) (v u : List Int) (c : Int) (w : World) (h : TakeH k s a0 a1 a2 a3 a4 a5 a6 a7 a8 a9 v u c) :
    Calls Try.prog 61 #[.string s] w fun e_ w' => ∃ v0_, e_ = .returned (.tuple #[.agg #[.int .i64 a0, .int .i64 a1, .int .i64 a2, .int .i64 a3, .int .i64 a4, .int .i64 a5, .int .i64 a6, .int .i64 a7, .int .i64 a8, .int .i64 a9, v0_], .int .i64 0]) ∧ Kd.R (Kd.int .i64) 3 w' w.heap.size (fun _ => True) v0_ v ∧ Below w.heap.size w w' := by
  have hu121 := Try.underlying121
  have HH := Aside0.mk h
  clear h
  obtain ⟨z, hz⟩ : ∃ z : Int, z = (s.size : Int) := ⟨_, rfl⟩
  have HZ := Aside0.mk hz
  clear hz
  have hz4 : z = 4 * (13 + (v.length : Int)) := by have := HH.out.sz; rw [HZ.out]; omega
  have hm := HH.out.m
  obtain ⟨M, hM⟩ : ∃ M : Nat, M = 12 + v.length := ⟨_, rfl⟩
  have q1 : decide (z < 52) = false := decide_eq_false (by omega)
  have q3e : z % 4 = 0 := by omega
  have q4e : z / 4 = (M : Int) + 1 := by omega
  have q3 : z.tmod 4 = 0 := by rw [Int.tmod_eq_emod_of_nonneg (by omega)]; exact q3e
  have q4 : z.tdiv 4 = (M : Int) + 1 := by rw [Int.tdiv_eq_ediv_of_nonneg (by omega)]; exact q4e
  have q2 : decide (¬ (z.tmod 4 = 0)) = false := decide_eq_false (fun hq => hq q3)
  have q2e : decide (¬ (z % 4 = 0)) = false := decide_eq_false (fun hq => hq q3e)
  have q5 : wrap64 (z - 4) = z - 4 := by unfold wrap64; omega
  have hsz : ((ByteArray.size s : Nat) : Int) = z := HZ.out.symm
  have HN0 : Aside0 (wire_number.f k s 0 = some (z - 4)) := ⟨by show wire_number.f k s ((0 : Nat) : Int) = _; rw [HH.out.num 0 (by omega), HZ.out]; rfl⟩
  have HZ4 := Aside0.mk hz4
  have HM := Aside0.mk hm
  have HMN := Aside0.mk hM
  have m1 : 12 ≤ M := by omega
  have m2 : M ≤ 76 := by omega
  clear hz4 hM hm
  go_enter Try.func61, Try.ntmps61
  go_upto_region 1 with (fail)
  have HB1 : Aside0 (Below w.heap.size w (w.alloc (.cells #[.int .i64 0, .int .i64 0, .int .i64 0, .int .i64 0, .int .i64 0, .int .i64 0, .int .i64 0, .int .i64 0, .int .i64 0, .int .i64 0, .slice none 0 0] 121))) := ⟨below_alloc (Below.refl _ _) _⟩
  have HR1 : Aside0 ((w.alloc (.cells #[.int .i64 0, .int .i64 0, .int .i64 0, .int .i64 0, .int .i64 0, .int .i64 0, .int .i64 0, .int .i64 0, .int .i64 0, .int .i64 0, .slice none 0 0] 121)).heap[w.heap.size]? = some (.cells #[.int .i64 0, .int .i64 0, .int .i64 0, .int .i64 0, .int .i64 0, .int .i64 0, .int .i64 0, .int .i64 0, .int .i64 0, .int .i64 0, .slice none 0 0] 121 (0, 0))) := ⟨heap_alloc_new _ _⟩
  generalize w.alloc (.cells #[.int .i64 0, .int .i64 0, .int .i64 0, .int .i64 0, .int .i64 0, .int .i64 0, .int .i64 0, .int .i64 0, .int .i64 0, .int .i64 0, .slice none 0 0] 121) = w1 at HB1 HR1 ⊢
  go_upto_region 4 with (go_at_call 87; (with_reducible refine (wire_number.calls k s 0 (z - 4) w1 HN0.out).mono ?_); rintro e_ w2 ⟨rfl, hd⟩; have HB2 := Aside0.mk (below_step HB1.out hd.below); have HR2 := Aside0.mk (blk_below HR1.out hd.below); clear hd)
  clear q1 q2 q2e q3 q3e q4 q4e q5
  have c1 : (4 : Int) ≤ 4 * (M : Int) := by omega
  have c2 : 4 * (M : Int) ≤ z := by have := HMN.out; have := HZ4.out; omega
  have c0 : (0 : Int) ≤ (M : Int) := Int.natCast_nonneg _
  have HC1 : Aside0 (wire_number.f k s (M : Int) = some c) := ⟨by rw [HMN.out]; exact HH.out.crc1⟩
  have HC2 : Aside0 (crc_Sum.f (s.extract 4 (4 * (M : Int)).toNat) = some c) := ⟨by rw [HMN.out, show (4 * ((12 + v.length : Nat) : Int)).toNat = 4 * (12 + v.length) from by omega]; exact HH.out.crc2⟩
  have hw4 : wrap64 (4 * (M : Int)) = 4 * (M : Int) := by unfold wrap64; omega
  have HD := Aside0.mk (below_drew (Below.refl w2.heap.size w2))
  have HB3 := Aside0.mk (below_step HB2.out HD.out)
  have HR3 := Aside0.mk (blk_below HR2.out HD.out)
  refine start_ (n := 9) (S := fun W => W = w2.drew) (ds := [2, 7]) #[false, false, false, false, false, false, false, false, false] (by kernel_rfl) rfl rfl rfl (fun hHeld => ?_)
  clear HD
  generalize w2.drew = w3 at HB3 HR3 hHeld ⊢
  refine pure_ (i := 0) (N := some 32) (v := ?_) (a' := ?_) #[true, false, false, false, false, false, false, false, false] rfl rfl (any_of rfl (by kernel_rfl)) (fun _ _ _ h => h) (Or.inl ⟨by rfl, ?_⟩) ?_ ?_
  rotate_left
  · intro w'
    go_simp
    with_reducible rfl
  rotate_left
  · simp only [Act.put, List.setIfInBounds_toArray, List.set_cons_zero, List.set_cons_succ, i64_w, i32_w]
    rfl
  refine pure_ (i := 1) (N := some 33) (v := ?_) (a' := ?_) #[true, true, false, false, false, false, false, false, false] rfl rfl (any_of rfl (by kernel_rfl)) (fun _ _ _ h => h) (Or.inl ⟨by rfl, ?_⟩) ?_ ?_
  rotate_left
  · intro w'
    go_simp
    with_reducible rfl
  rotate_left
  · simp only [Act.put, List.setIfInBounds_toArray, List.set_cons_zero, List.set_cons_succ, i64_w, i32_w]
    rfl
  refine pure_ (i := 3) (N := some 35) (v := ?_) (a' := ?_) #[true, true, false, true, false, false, false, false, false] rfl rfl (any_of rfl (by kernel_rfl)) (fun _ _ _ h => h) (Or.inl ⟨by rfl, ?_⟩) ?_ ?_
  rotate_left
  · intro w'
    go_simp
    with_reducible rfl
  rotate_left
  · simp only [Act.put, List.setIfInBounds_toArray, List.set_cons_zero, List.set_cons_succ, i64_w, i32_w]
    rfl
  refine pure_ (i := 4) (N := some 36) (v := ?_) (a' := ?_) #[true, true, false, true, true, false, false, false, false] rfl rfl (any_of rfl (by kernel_rfl)) (fun _ _ _ h => h) (Or.inl ⟨by rfl, ?_⟩) ?_ ?_
  rotate_left
  · intro w'
    go_simp
    with_reducible rfl
  rotate_left
  · simp only [Act.put, List.setIfInBounds_toArray, List.set_cons_zero, List.set_cons_succ, i64_w, i32_w]
    rfl
  refine pure_ (i := 5) (N := some 37) (v := .int .i64 (4 * (M : Int))) (a' := ?a_) #[true, true, false, true, true, true, false, false, false] rfl rfl (any_of rfl (by kernel_rfl)) (fun _ _ _ h => h) (Or.inl ⟨by rfl, ?hy_⟩) ?ha_ ?h_
  case hy_ =>
    intro w'
    go_simp
    rw [i64_w]
    exact hw4
  case ha_ =>
    simp only [Act.put, List.setIfInBounds_toArray, List.set_cons_zero, List.set_cons_succ, i64_w, i32_w]
    rfl
  refine pure_ (i := 6) (N := some 38) (v := ?_) (a' := ?_) #[true, true, false, true, true, true, true, false, false] rfl rfl (any_of rfl (by kernel_rfl)) (fun _ _ _ h => h) (Or.inl ⟨by rfl, ?_⟩) ?_ ?_
  rotate_left
  · intro w'
    go_simp
    with_reducible rfl
  rotate_left
  · simp only [Act.put, List.setIfInBounds_toArray, List.set_cons_zero, List.set_cons_succ, i64_w, i32_w]
    rfl
  refine last_ (i := 2) (N := some 34) #[true, true, true, true, true, true, true, false, false] rfl rfl (one_of rfl (by kernel_rfl)) (by decide) (fun K hK => ?_)
  refine goes_ Try.func87 (by kernel_rfl) rfl #[.string s, .int .i64 (M : Int)] (by rfl) rfl rfl (by (try simp only [List.map_toArray, List.map_cons, List.map_nil]); first | done | rfl) ?_
  refine (wire_number.calls k s (M : Int) c w3 HC1.out).mono ?_
  rintro e_ w4 ⟨rfl, hd⟩
  have HB4 := Aside0.mk (below_step HB3.out hd.below)
  have HR4 := Aside0.mk (blk_below HR3.out hd.below)
  clear hd
  refine ⟨_, rfl, ?_⟩
  refine hK.out _ _ ?_
  clear hK K
  refine norm_ (a' := ?_) ?_ ?_
  rotate_left
  · show Act.put _ (some 34) _ = _
    simp only [Act.put, List.setIfInBounds_toArray, List.set_cons_zero, List.set_cons_succ, i64_w, i32_w]
    rfl
  refine last_ (i := 7) (N := some 39) #[true, true, true, true, true, true, true, true, false] rfl rfl (one_of rfl (by kernel_rfl)) (by decide) (fun K hK => ?_)
  refine goes_ Try.func23 (by kernel_rfl) rfl #[.string (s.extract 4 (4 * (M : Int)).toNat)] (by rfl) rfl rfl (by (try simp only [List.map_toArray, List.map_cons, List.map_nil]); first | done | rfl) ?_
  refine (crc_Sum.calls (s.extract 4 (4 * (M : Int)).toNat) c w4 HC2.out).mono ?_
  rintro e_ w5 ⟨rfl, hb⟩
  have HB5 := Aside0.mk (below_step HB4.out hb)
  have HR5 := Aside0.mk (blk_below HR4.out hb)
  clear hb
  refine ⟨_, rfl, ?_⟩
  refine hK.out _ _ ?_
  clear hK K
  refine norm_ (a' := ?_) ?_ ?_
  rotate_left
  · show Act.put _ (some 39) _ = _
    simp only [Act.put, List.setIfInBounds_toArray, List.set_cons_zero, List.set_cons_succ, i64_w, i32_w]
    rfl
  refine pure_ (i := 8) (N := some 40) (v := ?_) (a' := ?_) #[true, true, true, true, true, true, true, true, true] rfl rfl (any_of rfl (by kernel_rfl)) (fun _ _ _ h => h) (Or.inl ⟨by rfl, ?_⟩) ?_ ?_
  rotate_left
  · intro w'
    go_simp
    with_reducible rfl
  rotate_left
  · simp only [Act.put, List.setIfInBounds_toArray, List.set_cons_zero, List.set_cons_succ, i64_w, i32_w]
    rfl
  refine done_ (done_of rfl (by kernel_rfl)) ?_
  clear hHeld HB1 HB2 HB3 HB4 HR1 HR2 HR3 HR4 c1 c2 hw4
  have HGR := Aside0.mk (fun k_ (hk_ : w5.heap.size ≤ k_) => (show k_ ≠ w.heap.size from fun e_ => by have := blk_lt HR5.out; omega))
  have hMn : (M : Int).toNat * 8 ≤ 281474976710656 := by omega
  go_upto_region 7 with ((with_reducible refine gate_dst (N := 43) rfl ?_); refine Kd.R_make (Kd.int .i64) (w0 := w) w.heap.size 3 rfl (N := 43) rfl 54 _ _ rfl (M : Int) rfl rfl Try.underlying54 (.int .i64 0) 8 (by kernel_rfl) rfl (by decide) (by omega) (0 : Int) (ok := fun k_ => k_ ≠ w.heap.size) (okp := fun _ => False) rfl (fun _ h => h.elim) (HGR.out _ (Nat.le_refl _)) c0 hMn HB5.out HB5.out.size ?_; intro vl w6 hr hb hgr hat_; rw [Int.toNat_natCast] at hr; obtain ⟨gl, cl, rfl, hgl, _, _⟩ := Kd.R_form hr (by rw [List.length_replicate]; omega); have HB6 := Aside0.mk hb; have HR6 := Aside0.mk (blk_below HR5.out (below_ungrown hgr)); rw [List.length_replicate] at hr ⊢; have HL6 := Aside0.mk hr; clear hr hgr hat_ hb)
  clear hMn
  obtain ⟨l, hl⟩ : ∃ l, l = ((z - 4) :: a0 :: a1 :: a2 :: a3 :: a4 :: a5 :: a6 :: a7 :: a8 :: a9 :: (v.length : Int) :: u) := ⟨_, rfl⟩
  have HLN : Aside0 (l.length = M) := ⟨by rw [hl, HMN.out]; have h_ := HH.out.ul; simp only [List.length_cons]; omega⟩
  have HNUM : Aside0 (∀ i : Nat, i < M → wire_number.f k s (i : Int) = some (rd l (i : Int))) := ⟨fun i hi => by rw [hl, HZ.out]; exact HH.out.num i (by rw [← HMN.out]; exact hi)⟩
  have HLE := Aside0.mk hl
  clear hl
  have hmax : (M : Int) ≤ 9223372036854775807 := by omega
  go_wp2
  go_loopw [46] (fun v46 w' => ∃ i : Nat, Aside0 (i ≤ M) ∧ v46 = .int .i64 (i : Int) ∧ Aside0 (Below w.heap.size w w') ∧ Aside0 (w'.heap[w.heap.size]? = some (.cells #[.int .i64 0, .int .i64 0, .int .i64 0, .int .i64 0, .int .i64 0, .int .i64 0, .int .i64 0, .int .i64 0, .int .i64 0, .int .i64 0, .slice none 0 0] 121 (0, 0))) ∧ Aside0 (Kd.R (Kd.int .i64) 3 w' w.heap.size (fun k_ => k_ ≠ w.heap.size) (.slice (some ⟨gl, 0, none⟩) M cl) (l.take i ++ List.replicate (M - i) 0))) (fun v46 _ => M - (intOf v46).toNat)
  case atStart => exact ⟨0, ⟨Nat.zero_le _⟩, rfl, HB6, HR6, HL6⟩
  case round =>
    clear HB5 HB6 HR5 HR6 HL6 HGR
    obtain ⟨i, HI, rfl, HB, HR, HL⟩ := hrel
    by_cases hlt : i < M
    · have hc : decide (i < M) = true := decide_eq_true hlt
      have hci : (i : Int) < (M : Int) := by omega
      have h0i : (0 : Int) ≤ (i : Int) := Int.natCast_nonneg i
      have HNI := Aside0.mk (HNUM.out i hlt)
      have HLT := Aside0.mk hlt
      go_wp2_with (go_at_call 87; (with_reducible refine (wire_number.calls k s (i : Int) (rd l (i : Int)) wr HNI.out).mono ?_); rintro e_ w7 ⟨rfl, hd⟩; have HB7 := Aside0.mk (below_step HB.out hd.below); have HR7 := Aside0.mk (blk_below HR.out hd.below); have HL7 := Aside0.mk (Kd.R_below HL.out hd.below); clear hd; obtain ⟨hx, hz⟩ := Kd.R_celln 0 HL7.out (i : Int) h0i hci; rw [Int.toNat_natCast] at hx hz)
      clear hx hz
      have hgo := HL7.out.1 gl (by simp [Value.ownBlock])
      have hgb := Kd.R_base HL7.out gl (by simp [Value.ownBlock])
      have HL8 := Aside0.mk (Kd.R_putn HL7.out (i : Int) (rd l (i : Int)))
      rw [Int.toNat_natCast, fill_set l M i HLN.out HLT.out] at HL8
      go_roundw
      case rel => exact ⟨i + 1, ⟨HLT.out⟩, by go_num, ⟨Below.setCell HB7.out hgb _⟩, ⟨(Below.heap_setCell _ _ _ _ (Ne.symm hgo)).trans HR7.out⟩, HL8⟩
      case measure => have := HLT.out; simp [intOf]; omega
    · have hc : decide (i < M) = false := decide_eq_false hlt
      have hi : i = M := by have := HI.out; omega
      subst hi
      have HLL : Aside0 (Kd.R (Kd.int .i64) 3 wr w.heap.size (fun k_ => k_ ≠ w.heap.size) (.slice (some ⟨gl, 0, none⟩) i cl) l) := ⟨by have h_ := HL.out; rwa [Nat.sub_self, List.replicate_zero, List.append_nil, List.take_of_length_le (by rw [HLN.out]; exact Nat.le_refl _)] at h_⟩
      clear HL
      go_upto_region 12 with (fail)
      have j1 : (1 : Int) < (i : Int) := by omega
      have j2 : (2 : Int) < (i : Int) := by omega
      have j3 : (3 : Int) < (i : Int) := by omega
      have j4 : (4 : Int) < (i : Int) := by omega
      have j5 : (5 : Int) < (i : Int) := by omega
      have j6 : (6 : Int) < (i : Int) := by omega
      have j7 : (7 : Int) < (i : Int) := by omega
      have j8 : (8 : Int) < (i : Int) := by omega
      have j9 : (9 : Int) < (i : Int) := by omega
      have j10 : (10 : Int) < (i : Int) := by omega
      have j11 : (11 : Int) < (i : Int) := by omega
      have HD := Aside0.mk (below_drew (Below.refl wr.heap.size wr))
      have HLD := Aside0.mk (Kd.R_below HLL.out HD.out)
      have HBD := Aside0.mk (below_step HB.out HD.out)
      have HRD := Aside0.mk (blk_below HR.out HD.out)
      have HCE : Aside0 (wr.drew.cell? ⟨gl, 1, none⟩ = some (.int .i64 a0) ∧ wr.drew.cell? ⟨gl, 2, none⟩ = some (.int .i64 a1) ∧ wr.drew.cell? ⟨gl, 3, none⟩ = some (.int .i64 a2) ∧ wr.drew.cell? ⟨gl, 4, none⟩ = some (.int .i64 a3) ∧ wr.drew.cell? ⟨gl, 5, none⟩ = some (.int .i64 a4) ∧ wr.drew.cell? ⟨gl, 6, none⟩ = some (.int .i64 a5) ∧ wr.drew.cell? ⟨gl, 7, none⟩ = some (.int .i64 a6) ∧ wr.drew.cell? ⟨gl, 8, none⟩ = some (.int .i64 a7) ∧ wr.drew.cell? ⟨gl, 9, none⟩ = some (.int .i64 a8) ∧ wr.drew.cell? ⟨gl, 10, none⟩ = some (.int .i64 a9)) := ⟨⟨((Kd.R_celln 0 HLD.out 1 (by decide) (by omega)).1.trans (congrArg (fun q_ => some (Value.int .i64 q_)) (by rw [HLE.out]; rfl))), ((Kd.R_celln 0 HLD.out 2 (by decide) (by omega)).1.trans (congrArg (fun q_ => some (Value.int .i64 q_)) (by rw [HLE.out]; rfl))), ((Kd.R_celln 0 HLD.out 3 (by decide) (by omega)).1.trans (congrArg (fun q_ => some (Value.int .i64 q_)) (by rw [HLE.out]; rfl))), ((Kd.R_celln 0 HLD.out 4 (by decide) (by omega)).1.trans (congrArg (fun q_ => some (Value.int .i64 q_)) (by rw [HLE.out]; rfl))), ((Kd.R_celln 0 HLD.out 5 (by decide) (by omega)).1.trans (congrArg (fun q_ => some (Value.int .i64 q_)) (by rw [HLE.out]; rfl))), ((Kd.R_celln 0 HLD.out 6 (by decide) (by omega)).1.trans (congrArg (fun q_ => some (Value.int .i64 q_)) (by rw [HLE.out]; rfl))), ((Kd.R_celln 0 HLD.out 7 (by decide) (by omega)).1.trans (congrArg (fun q_ => some (Value.int .i64 q_)) (by rw [HLE.out]; rfl))), ((Kd.R_celln 0 HLD.out 8 (by decide) (by omega)).1.trans (congrArg (fun q_ => some (Value.int .i64 q_)) (by rw [HLE.out]; rfl))), ((Kd.R_celln 0 HLD.out 9 (by decide) (by omega)).1.trans (congrArg (fun q_ => some (Value.int .i64 q_)) (by rw [HLE.out]; rfl))), ((Kd.R_celln 0 HLD.out 10 (by decide) (by omega)).1.trans (congrArg (fun q_ => some (Value.int .i64 q_)) (by rw [HLE.out]; rfl)))⟩⟩
      refine startM_ [32] (n := 33) (S := fun W => W.cell? ⟨gl, 1, none⟩ = some (.int .i64 a0) ∧ W.cell? ⟨gl, 2, none⟩ = some (.int .i64 a1) ∧ W.cell? ⟨gl, 3, none⟩ = some (.int .i64 a2) ∧ W.cell? ⟨gl, 4, none⟩ = some (.int .i64 a3) ∧ W.cell? ⟨gl, 5, none⟩ = some (.int .i64 a4) ∧ W.cell? ⟨gl, 6, none⟩ = some (.int .i64 a5) ∧ W.cell? ⟨gl, 7, none⟩ = some (.int .i64 a6) ∧ W.cell? ⟨gl, 8, none⟩ = some (.int .i64 a7) ∧ W.cell? ⟨gl, 9, none⟩ = some (.int .i64 a8) ∧ W.cell? ⟨gl, 10, none⟩ = some (.int .i64 a9)) (by kernel_rfl) rfl HCE.out (fun hHeld => ?_)
      clear HD HCE HLL HB HR
      generalize wr.drew = w8 at HLD HBD HRD hHeld ⊢
      iterate 31 (first | (refine pureM_ (v := ?_) (a' := ?_) rfl rfl (any_of rfl (by kernel_rfl)) (fun _ _ _ h => h) (Or.inl ⟨by rfl, ?_⟩) ?_ ?_; rotate_left; (intro w'; go_simp; with_reducible rfl); rotate_left; (simp only [Act.put, List.setIfInBounds_toArray, List.set_cons_zero, List.set_cons_succ, i64_w, i32_w]; rfl)) | (refine takeM_ (v := ?_) (a' := ?_) rfl rfl (take_of rfl (by kernel_rfl)) (fun _ _ _ h => h) (Or.inl ⟨by rfl, ?_⟩) hHeld ?_ ?_; rotate_left; (rintro w' ⟨s0_, s1_, s2_, s3_, s4_, s5_, s6_, s7_, s8_, s9_⟩; go_simp; with_reducible rfl); rotate_left; (simp only [Act.put, List.setIfInBounds_toArray, List.set_cons_zero, List.set_cons_succ, i64_w, i32_w]; rfl)) | (refine pureM_ (v := undef) (a' := ?_) rfl rfl (any_of rfl (by kernel_rfl)) (fun _ _ _ h => h) (Or.inr ⟨by rfl, rfl⟩) ?_ ?_; rotate_left; (simp only [Act.put, List.setIfInBounds_toArray, List.set_cons_zero, List.set_cons_succ, i64_w, i32_w]; rfl)))
      refine one_ (i := 31) (N := some 7) (mk_ 32 33) rfl rfl (one_of rfl (by kernel_rfl)) (by decide) (fun K hK => ?_)
      refine box_step ?hg (N := 7) ?hd (cs := #[.int .i64 0, .int .i64 0, .int .i64 0, .int .i64 0, .int .i64 0, .int .i64 0, .int .i64 0, .int .i64 0, .int .i64 0, .int .i64 0, .slice none 0 0]) (t := 121) ?hr ?_; (case hd => rfl); (case hg => rfl); (case hr => first | (go_simp; done) | (go_simp; rfl))
      intro gm hgm w9 hbox hb
      have HM9 := Aside0.mk hbox
      have HB9 := Aside0.mk (below_step HBD.out hb)
      have HR9 := Aside0.mk (blk_below HRD.out hb)
      have HL9 := Aside0.mk (Kd.R_below HLD.out hb)
      have HG1 : Aside0 (gm ≠ w.heap.size) := ⟨by rw [hgm]; exact fun e_ => by have := blk_lt HRD.out; omega⟩
      have HG2 : Aside0 (gm ≠ gl) := ⟨by rw [hgm]; exact fun e_ => by have := Kd.R_lt HLD.out gl (by simp [Value.ownBlock]); omega⟩
      have HG3 : Aside0 (w.heap.size ≤ gm) := ⟨by rw [hgm]; exact HBD.out.size⟩
      refine hK.out _ _ ⟨(hb.cell (World.block_lt_of_cell? w8 _ hHeld.1)).trans hHeld.1, (hb.cell (World.block_lt_of_cell? w8 _ hHeld.2.1)).trans hHeld.2.1, (hb.cell (World.block_lt_of_cell? w8 _ hHeld.2.2.1)).trans hHeld.2.2.1, (hb.cell (World.block_lt_of_cell? w8 _ hHeld.2.2.2.1)).trans hHeld.2.2.2.1, (hb.cell (World.block_lt_of_cell? w8 _ hHeld.2.2.2.2.1)).trans hHeld.2.2.2.2.1, (hb.cell (World.block_lt_of_cell? w8 _ hHeld.2.2.2.2.2.1)).trans hHeld.2.2.2.2.2.1, (hb.cell (World.block_lt_of_cell? w8 _ hHeld.2.2.2.2.2.2.1)).trans hHeld.2.2.2.2.2.2.1, (hb.cell (World.block_lt_of_cell? w8 _ hHeld.2.2.2.2.2.2.2.1)).trans hHeld.2.2.2.2.2.2.2.1, (hb.cell (World.block_lt_of_cell? w8 _ hHeld.2.2.2.2.2.2.2.2.1)).trans hHeld.2.2.2.2.2.2.2.2.1, (hb.cell (World.block_lt_of_cell? w8 _ hHeld.2.2.2.2.2.2.2.2.2)).trans hHeld.2.2.2.2.2.2.2.2.2⟩ (fun _ => ?_)
      clear hHeld hbox hb hgm HBD HRD HLD
      clear hK K
      refine norm_ (a' := ?_) ?_ ?_
      rotate_left
      · show Act.put _ (some 7) _ = _
        simp only [Act.put, List.setIfInBounds_toArray, List.set_cons_zero, List.set_cons_succ, i64_w, i32_w]
        rfl
      obtain ⟨hm0, hm1, hm2, hm3, hm4, hm5, hm6, hm7, hm8, hm9, hm10⟩ := cells11 HM9.out
      obtain ⟨hz0, hz1, hz2, hz3, hz4, hz5, hz6, hz7, hz8, hz9, hz10⟩ := froz11 HM9.out
      refine last_ (i := 32) (N := none) (mk_ 33 33) rfl rfl (one_of rfl (by kernel_rfl)) (by decide) (fun K hK => ?_)
      refine skip_ (w1 := set11 w9 gm (.int .i64 a0) (.int .i64 a1) (.int .i64 a2) (.int .i64 a3) (.int .i64 a4) (.int .i64 a5) (.int .i64 a6) (.int .i64 a7) (.int .i64 a8) (.int .i64 a9) (.slice none 0 0)) (by rfl) rfl ?_ ?_
      · go_simp
        rfl
      clear hm0 hz0 hm1 hz1 hm2 hz2 hm3 hz3 hm4 hz4 hm5 hz5 hm6 hz6 hm7 hz7 hm8 hz8 hm9 hz9 hm10 hz10
      have HM := Aside0.mk (set11_blk HM9.out (.int .i64 a0) (.int .i64 a1) (.int .i64 a2) (.int .i64 a3) (.int .i64 a4) (.int .i64 a5) (.int .i64 a6) (.int .i64 a7) (.int .i64 a8) (.int .i64 a9) (.slice none 0 0))
      have HB := Aside0.mk (set11_below HB9.out HG3.out (.int .i64 a0) (.int .i64 a1) (.int .i64 a2) (.int .i64 a3) (.int .i64 a4) (.int .i64 a5) (.int .i64 a6) (.int .i64 a7) (.int .i64 a8) (.int .i64 a9) (.slice none 0 0))
      have HR := Aside0.mk ((set11_far w9 gm (.int .i64 a0) (.int .i64 a1) (.int .i64 a2) (.int .i64 a3) (.int .i64 a4) (.int .i64 a5) (.int .i64 a6) (.int .i64 a7) (.int .i64 a8) (.int .i64 a9) (.slice none 0 0) _ (Ne.symm HG1.out)).trans HR9.out)
      have HL := Aside0.mk (Kd.R_step (Kd.R_tight_ HL9.out) (fun k_ hk _ => set11_far w9 gm (.int .i64 a0) (.int .i64 a1) (.int .i64 a2) (.int .i64 a3) (.int .i64 a4) (.int .i64 a5) (.int .i64 a6) (.int .i64 a7) (.int .i64 a8) (.int .i64 a9) (.slice none 0 0) k_ (fun e_ => HG2.out (by rw [← e_]; exact Option.some.inj (hk.trans (by simp [Value.ownBlock]))))))
      generalize set11 w9 gm (.int .i64 a0) (.int .i64 a1) (.int .i64 a2) (.int .i64 a3) (.int .i64 a4) (.int .i64 a5) (.int .i64 a6) (.int .i64 a7) (.int .i64 a8) (.int .i64 a9) (.slice none 0 0) = w10 at HM HB HR HL ⊢
      clear HM9 HB9 HR9 HL9 HI
      refine hK.out _ _ ?_
      clear hK K
      refine done_ (done_of rfl (by kernel_rfl)) ?_
      go_upto_region 13 with (fail)
      have hcl := (Kd.R_reads' HL.out).2.1
      have j12 : (12 : Int) ≤ (i : Int) := by omega
      have hcli : (i : Int) ≤ (cl : Int) := by omega
      have hne : ¬ cl = 12 := by have := HMN.out; have := HH.out.pos; omega
      have hnei : (12 : Int) < (cl : Int) := by omega
      go_wp2
      clear hne hnei hcli hcl
      have him : i - 12 = v.length := by rw [HMN.out]; omega
      rw [him]
      have HIM : Aside0 (i = 12 + v.length) := HMN
      clear him j1 j2 j3 j4 j5 j6 j7 j8 j9 j10 j11 j12 c0 hmax
      have HLU : Aside0 (∀ j : Nat, rd l (((12 + j : Nat)) : Int) = rd u (j : Int)) := ⟨fun j => by rw [HLE.out]; unfold rd; rw [Int.toNat_natCast, Int.toNat_natCast, show 12 + j = j + 12 from Nat.add_comm _ _]; rfl⟩
      have HOK : Aside0 (∀ k_, w10.heap.size ≤ k_ → k_ ≠ w.heap.size ∧ k_ ≠ gm ∧ k_ ≠ gl) := ⟨fun k_ hk => ⟨fun e_ => by have := blk_lt HR.out; omega, fun e_ => by have := blk_lt HM.out; omega, fun e_ => by have := Kd.R_lt HL.out gl (by simp [Value.ownBlock]); omega⟩⟩
      have HS10 : Aside0 (w10.heap.size ≤ w10.heap.size) := ⟨Nat.le_refl _⟩
      have HLB : Aside0 (w.heap.size ≤ gl) := ⟨Kd.R_base HL.out gl (by simp [Value.ownBlock])⟩
      go_loopw [90] (fun v90 w' => ∃ (j : Nat) (vv : Value), Aside0 (j ≤ v.length) ∧ v90 = .int .i64 (j : Int) ∧ Aside0 (Below w.heap.size w w') ∧ Aside0 (w'.heap[w.heap.size]? = some (.cells #[.int .i64 0, .int .i64 0, .int .i64 0, .int .i64 0, .int .i64 0, .int .i64 0, .int .i64 0, .int .i64 0, .int .i64 0, .int .i64 0, .slice none 0 0] 121 (0, 0))) ∧ Aside0 (w'.heap[gm]? = some (.cells #[.int .i64 a0, .int .i64 a1, .int .i64 a2, .int .i64 a3, .int .i64 a4, .int .i64 a5, .int .i64 a6, .int .i64 a7, .int .i64 a8, .int .i64 a9, vv] 121 (0, 0))) ∧ Aside0 (Kd.R (Kd.int .i64) 3 w' w.heap.size (fun k_ => some k_ = (Value.slice (some ⟨gl, 0, none⟩) i cl).ownBlock) (.slice (some ⟨gl, 0, none⟩) i cl) l) ∧ Aside0 (Kd.R (Kd.int .i64) 3 w' w.heap.size (fun k_ => k_ ≠ w.heap.size ∧ k_ ≠ gm ∧ k_ ≠ gl) vv (v.take j)) ∧ Aside0 (w10.heap.size ≤ w'.heap.size)) (fun v90 _ => v.length - (intOf v90).toNat)
      case atStart => exact ⟨0, _, ⟨Nat.zero_le _⟩, rfl, HB, HR, HM, HL, ⟨Kd.R_nil _ _ _ _ _⟩, HS10⟩
      case round =>
        clear HB HR HM HL HS10
        obtain ⟨j, vv, HJ, rfl, HB, HR, HM, HL, HV, HS⟩ := hrel
        by_cases hlt : j < v.length
        · have hc : decide (j < v.length) = true := decide_eq_true hlt
          have hji : (j : Int) < (v.length : Int) := by omega
          have h0j : (0 : Int) ≤ (j : Int) := Int.natCast_nonneg j
          have HLT := Aside0.mk hlt
          have hx : wr.cell? ⟨gl, 12 + j, none⟩ = some (.int .i64 (rd u (j : Int))) := by have h_ := (Kd.R_celln 0 HL.out ((12 + j : Nat) : Int) (Int.natCast_nonneg _) (by have := HIM.out; omega)).1; rw [Int.toNat_natCast] at h_; exact h_.trans (congrArg (fun q_ => some (Value.int .i64 q_)) (HLU.out j))
          go_upto_region 16 with (fail)
          clear hx hc hji
          have HSG : Aside0 (wire_signed.f (rd u (j : Int)) = some (rd v (j : Int))) := ⟨HH.out.sig j HLT.out⟩
          clear hlt
          have HD := Aside0.mk (below_drew (Below.refl wr.heap.size wr))
          have HB1 := Aside0.mk (below_step HB.out HD.out)
          have HR1 := Aside0.mk (blk_below HR.out HD.out)
          have HM1 := Aside0.mk (blk_below HM.out HD.out)
          have HL1 := Aside0.mk (Kd.R_below HL.out HD.out)
          have HV1 := Aside0.mk (Kd.R_below HV.out HD.out)
          have HS1 := Aside0.mk (Nat.le_trans HS.out HD.out.size)
          refine startM_ [7] (n := 8) (S := fun W => W.cell? ⟨gm, 10, none⟩ = some vv) (by kernel_rfl) rfl ((blk_cell HM1.out 10).trans rfl) (fun hHeld => ?_)
          clear HD
          generalize wr.drew = w11 at HB1 HR1 HM1 HL1 HV1 HS1 hHeld ⊢
          clear HB HR HM HL HV HS
          iterate 3 (first | (refine pureM_ (v := ?_) (a' := ?_) rfl rfl (any_of rfl (by kernel_rfl)) (fun _ _ _ h => h) (Or.inl ⟨by rfl, ?_⟩) ?_ ?_; rotate_left; (intro w'; go_simp; with_reducible rfl); rotate_left; (simp only [Act.put, List.setIfInBounds_toArray, List.set_cons_zero, List.set_cons_succ, i64_w, i32_w]; rfl)) | (refine takeM_ (v := ?_) (a' := ?_) rfl rfl (take_of rfl (by kernel_rfl)) (fun _ _ _ h => h) (Or.inl ⟨by rfl, ?_⟩) hHeld ?_ ?_; rotate_left; (rintro w' s0_; go_simp; with_reducible rfl); rotate_left; (simp only [Act.put, List.setIfInBounds_toArray, List.set_cons_zero, List.set_cons_succ, i64_w, i32_w]; rfl)) | (refine pureM_ (v := undef) (a' := ?_) rfl rfl (any_of rfl (by kernel_rfl)) (fun _ _ _ h => h) (Or.inr ⟨by rfl, rfl⟩) ?_ ?_; rotate_left; (simp only [Act.put, List.setIfInBounds_toArray, List.set_cons_zero, List.set_cons_succ, i64_w, i32_w]; rfl)))
          clear hHeld
          refine one_ (i := 3) (N := some 97) (mk_ 4 8) rfl rfl (one_of rfl (by kernel_rfl)) (by decide) (fun K hK => ?_)
          refine goes_ Try.func88 (by kernel_rfl) rfl #[.int .i64 (rd u (j : Int))] (by rfl) rfl rfl (by (try simp only [List.map_toArray, List.map_cons, List.map_nil]); first | done | rfl) ?_
          refine (wire_signed.calls (rd u (j : Int)) (rd v (j : Int)) w11 HSG.out).mono ?_
          rintro e_ w12 ⟨rfl, hd⟩
          have HB2 := Aside0.mk (below_step HB1.out hd.below)
          have HR2 := Aside0.mk (blk_below HR1.out hd.below)
          have HM2 := Aside0.mk (blk_below HM1.out hd.below)
          have HL2 := Aside0.mk (Kd.R_below HL1.out hd.below)
          have HV2 := Aside0.mk (Kd.R_below HV1.out hd.below)
          have HS2 := Aside0.mk (Nat.le_trans HS1.out hd.below.size)
          clear hd HB1 HR1 HM1 HL1 HV1 HS1
          refine ⟨_, rfl, ?_⟩
          refine hK.out _ _ ((blk_cell HM2.out 10).trans rfl) (fun _ => ?_)
          clear hK K
          refine norm_ (a' := ?_) ?_ ?_
          rotate_left
          · show Act.put _ (some 97) _ = _
            simp only [Act.put, List.setIfInBounds_toArray, List.set_cons_zero, List.set_cons_succ, i64_w, i32_w]
            rfl
          refine one_ (i := 4) (N := some 98) (mk_ 5 8) rfl rfl (one_of rfl (by kernel_rfl)) (by decide) (fun K hK => ?_)
          refine event_step (w1 := w12.alloc (.cells #[.int .i64 (rd v (j : Int))] 3)) (v := .slice (some ⟨w12.heap.size, 0, none⟩) 1 1) (by rfl) ?_ ?_
          · first | (go_simp; done) | (go_simp; rfl)
          refine hK.out _ _ (Lib.cell?_alloc_some _ ((blk_cell HM2.out 10).trans rfl)) (fun _ => ?_)
          clear hK K
          refine norm_ (a' := ?_) ?_ ?_
          rotate_left
          · show Act.put _ (some 98) _ = _
            simp only [Act.put, List.setIfInBounds_toArray, List.set_cons_zero, List.set_cons_succ, i64_w, i32_w]
            rfl
          refine one_ (i := 5) (N := some 99) (mk_ 6 8) rfl rfl (one_of rfl (by kernel_rfl)) (by decide) (fun K hK => ?_)
          refine Kd.R_append_step (Kd.int .i64) (w0 := w) w.heap.size (by rfl) (.tmp 95) (.tmp 98) 54 3 (.int .i64 0) 8 rfl Try.underlying54 (by kernel_rfl) rfl (by decide) (by decide) vv (v.take j) (rd v (j : Int)) [.int .i64 (rd v (j : Int))] (fun k_ => k_ ≠ w.heap.size ∧ k_ ≠ gm ∧ k_ ≠ gl) (fun _ => False) rfl rfl rfl (fun _ h => h.elim) (fun k_ hk => HOK.out k_ (Nat.le_trans HS2.out hk)) HV2.out HB2.out HB2.out.size (by have := HH.out.m; have := HLT.out; rw [List.length_take]; omega) ?_
          intro v1 w13 hr hb hgr hat_
          have hv1 : ∀ k_, k_ = w.heap.size ∨ k_ = gm ∨ k_ = gl → some k_ ≠ vv.ownBlock := fun k_ hk he => by have h_ := HV2.out.1 k_ he.symm; rcases hk with hk | hk | hk; exact h_.1 hk; exact h_.2.1 hk; exact h_.2.2 hk
          have HB3 := Aside0.mk hb
          have HR3 := Aside0.mk ((hgr.block _ (blk_lt HR2.out) (hv1 _ (.inl rfl))).trans HR2.out)
          have HM3 := Aside0.mk ((hgr.block _ (blk_lt HM2.out) (hv1 _ (.inr (.inl rfl)))).trans HM2.out)
          have HL3 := Aside0.mk (Kd.R_grown HL2.out hgr (fun k_ hk => hv1 k_ (.inr (.inr (Option.some.inj (hk.trans (by simp [Value.ownBlock])))))))
          obtain ⟨T1, hT1⟩ : ∃ T1, T1 = v.take (j + 1) := ⟨_, rfl⟩
          have HT1 := Aside0.mk hT1
          have HV3 : Aside0 (Kd.R (Kd.int .i64) 3 w13 w.heap.size (fun k_ => k_ ≠ w.heap.size ∧ k_ ≠ gm ∧ k_ ≠ gl) v1 T1) := ⟨by rw [hT1, List.take_add_one, List.getElem?_eq_getElem HLT.out, Option.toList_some]; have h_ : rd v (j : Int) = v[j]'HLT.out := (by unfold rd; rw [Int.toNat_natCast, List.getD_eq_getElem?_getD, List.getElem?_eq_getElem HLT.out]; rfl); rw [← h_]; exact hr⟩
          have HS3 := Aside0.mk (Nat.le_trans HS2.out hgr.size)
          obtain ⟨An, cn, rfl⟩ := Kd.R_slice HV3.out
          clear hT1 hr hb hgr hat_ hv1 HB2 HR2 HL2 HV2 HS2
          refine hK.out _ _ ((blk_cell HM3.out 10).trans rfl) (fun hHeld => ?_)
          clear hK K
          refine norm_ (a' := ?_) ?_ ?_
          rotate_left
          · show Act.put _ (some 99) _ = _
            simp only [Act.put, List.setIfInBounds_toArray, List.set_cons_zero, List.set_cons_succ, i64_w, i32_w]
            rfl
          iterate 1 (refine pureM_ (v := ?_) (a' := ?_) rfl rfl (any_of rfl (by kernel_rfl)) (fun _ _ _ h => h) (Or.inl ⟨by rfl, ?_⟩) ?_ ?_; rotate_left; (intro w'; go_simp; with_reducible rfl); rotate_left; (simp only [Act.put, List.setIfInBounds_toArray, List.set_cons_zero, List.set_cons_succ, i64_w, i32_w]; rfl))
          refine last_ (i := 7) (N := none) (mk_ 8 8) rfl rfl (one_of rfl (by kernel_rfl)) (by decide) (fun K hK => ?_)
          have hm := (blk_cell HM3.out 10).trans rfl
          have hz := blk_frozen HM3.out 10
          refine skip_ (w1 := ?_) (by rfl) rfl ?_ ?_
          rotate_left
          · go_simp
            rfl
          clear hm hz hHeld HM2
          have HM4 := Aside0.mk (blk_put HM3.out 10 (.slice An T1.length cn) rfl)
          have HB4 := Aside0.mk (Below.setCell (p := ⟨gm, 10, none⟩) HB3.out HG3.out (.slice An T1.length cn))
          have HR4 := Aside0.mk ((Below.heap_setCell w13 ⟨gm, 10, none⟩ (.slice An T1.length cn) _ (Ne.symm HG1.out)).trans HR3.out)
          have HL4 := Aside0.mk (Kd.R_far (p := ⟨gm, 10, none⟩) HL3.out (fun k_ hk he => HG2.out (he.symm.trans (Option.some.inj (hk.trans (by simp [Value.ownBlock]))))) (.slice An T1.length cn))
          have HV4 := Aside0.mk (Kd.R_far (p := ⟨gm, 10, none⟩) HV3.out (fun k_ hk => hk.2.1) (.slice An T1.length cn))
          have HS4 : Aside0 (w10.heap.size ≤ (w13.setCell ⟨gm, 10, none⟩ (.slice An T1.length cn)).heap.size) := ⟨by simpa [World.setCell] using HS3.out⟩
          generalize w13.setCell ⟨gm, 10, none⟩ _ = w14 at HM4 HB4 HR4 HL4 HV4 HS4 ⊢
          clear HM3 HB3 HR3 HL3 HV3 HS3
          refine hK.out _ _ ?_
          clear hK K
          refine done_ (done_of rfl (by kernel_rfl)) ?_
          have hlt := HLT.out
          have hmax : v.length ≤ 9223372036854775807 := by have := HH.out.m; omega
          go_wp2
          go_roundw
          case rel => exact ⟨j + 1, _, ⟨HLT.out⟩, by go_num, HB4, HR4, HM4, HL4, ⟨by rw [← HT1.out]; exact HV4.out⟩, HS4⟩
          case measure => simp [intOf]; omega
        · have hc : decide (j < v.length) = false := decide_eq_false hlt
          have hj : j = v.length := by have := HJ.out; omega
          have HVV : Aside0 (Kd.R (Kd.int .i64) 3 wr w.heap.size (fun k_ => k_ ≠ w.heap.size ∧ k_ ≠ gm ∧ k_ ≠ gl) vv v) := ⟨by have h_ := HV.out; rwa [hj, List.take_of_length_le (Nat.le_refl _)] at h_⟩
          clear HV hj HJ
          go_upto_region 18 with (fail)
          obtain ⟨Av, cv, rfl⟩ := Kd.R_slice HVV.out
          have j11 : (11 : Int) < (i : Int) := by omega
          have HD := Aside0.mk (below_drew (Below.refl wr.heap.size wr))
          have HL1 := Aside0.mk (Kd.R_below HL.out HD.out)
          have HB1 := Aside0.mk (below_step HB.out HD.out)
          have HR1 := Aside0.mk (blk_below HR.out HD.out)
          have HM1 := Aside0.mk (blk_below HM.out HD.out)
          have HV1 := Aside0.mk (Kd.R_below HVV.out HD.out)
          have HCE : Aside0 (wr.drew.cell? ⟨gl, 11, none⟩ = some (.int .i64 (v.length : Int))) := ⟨(Kd.R_celln 0 HL1.out 11 (by decide) j11).1.trans (congrArg (fun q_ => some (Value.int .i64 q_)) (by rw [HLE.out]; rfl))⟩
          refine startM_ [9] (n := 12) (S := fun W => W.cell? ⟨gl, 11, none⟩ = some (.int .i64 (v.length : Int)) ∧ W.cell? ⟨gm, 0, none⟩ = some (.int .i64 a0) ∧ W.cell? ⟨gm, 1, none⟩ = some (.int .i64 a1) ∧ W.cell? ⟨gm, 2, none⟩ = some (.int .i64 a2) ∧ W.cell? ⟨gm, 3, none⟩ = some (.int .i64 a3) ∧ W.cell? ⟨gm, 4, none⟩ = some (.int .i64 a4) ∧ W.cell? ⟨gm, 5, none⟩ = some (.int .i64 a5) ∧ W.cell? ⟨gm, 6, none⟩ = some (.int .i64 a6) ∧ W.cell? ⟨gm, 7, none⟩ = some (.int .i64 a7) ∧ W.cell? ⟨gm, 8, none⟩ = some (.int .i64 a8) ∧ W.cell? ⟨gm, 9, none⟩ = some (.int .i64 a9) ∧ W.cell? ⟨gm, 10, none⟩ = some (.slice Av v.length cv)) (by kernel_rfl) rfl ⟨HCE.out, cells11 HM1.out⟩ (fun hHeld => ?_)
          clear HD HL HB HR HM HVV HCE
          generalize wr.drew = w20 at HL1 HB1 HR1 HM1 HV1 hHeld ⊢
          iterate 9 (first | (refine pureM_ (v := ?_) (a' := ?_) rfl rfl (any_of rfl (by kernel_rfl)) (fun _ _ _ h => h) (Or.inl ⟨by rfl, ?_⟩) ?_ ?_; rotate_left; (intro w'; go_simp; with_reducible rfl); rotate_left; (simp only [Act.put, List.setIfInBounds_toArray, List.set_cons_zero, List.set_cons_succ, i64_w, i32_w]; rfl)) | (refine takeM_ (v := ?_) (a' := ?_) rfl rfl (take_of rfl (by kernel_rfl)) (fun _ _ _ h => h) (Or.inl ⟨by rfl, ?_⟩) hHeld ?_ ?_; rotate_left; (rintro w' ⟨s0_, s1_, s2_, s3_, s4_, s5_, s6_, s7_, s8_, s9_, s10_, s11_⟩; go_simp; with_reducible rfl); rotate_left; (simp only [Act.put, List.setIfInBounds_toArray, List.set_cons_zero, List.set_cons_succ, i64_w, i32_w]; rfl)) | (refine pureM_ (v := undef) (a' := ?_) rfl rfl (any_of rfl (by kernel_rfl)) (fun _ _ _ h => h) (Or.inr ⟨by rfl, rfl⟩) ?_ ?_; rotate_left; (simp only [Act.put, List.setIfInBounds_toArray, List.set_cons_zero, List.set_cons_succ, i64_w, i32_w]; rfl)))
          refine last_ (i := 9) (N := some 111) (mk_ 10 12) rfl rfl (one_of rfl (by kernel_rfl)) (by decide) (fun K hK => ?_)
          refine goes_ Try.func89 (by kernel_rfl) rfl #[.agg #[.int .i64 a0, .int .i64 a1, .int .i64 a2, .int .i64 a3, .int .i64 a4, .int .i64 a5, .int .i64 a6, .int .i64 a7, .int .i64 a8, .int .i64 a9, .slice Av v.length cv]] (by rfl) rfl rfl (by (try simp only [List.map_toArray, List.map_cons, List.map_nil]); first | done | rfl) ?_
          refine (wire_Right.calls k a0 a1 a2 a3 a4 a5 a6 a7 a8 a9 Av cv v true w20 (Kd.R_reads' HV1.out).2.2 (Kd.R_reads' HV1.out).2.1 HH.out.ok).mono ?_
          rintro e_ w21 ⟨rfl, hb⟩
          have HB2 := Aside0.mk (below_step HB1.out hb)
          have HR2 := Aside0.mk (blk_below HR1.out hb)
          have HM2 := Aside0.mk (blk_below HM1.out hb)
          have HV2 := Aside0.mk (Kd.R_below HV1.out hb)
          clear hb HB1 HR1 HM1 HV1 HL1 hHeld
          refine ⟨_, rfl, ?_⟩
          refine hK.out _ _ ?_
          clear hK K
          refine norm_ (a' := ?_) ?_ ?_
          rotate_left
          · show Act.put _ (some 111) _ = _
            simp only [Act.put, List.setIfInBounds_toArray, List.set_cons_zero, List.set_cons_succ, i64_w, i32_w]
            rfl
          iterate 2 (refine pureM_ (v := ?_) (a' := ?_) rfl rfl (any_of rfl (by kernel_rfl)) (fun _ _ _ h => h) (Or.inl ⟨by rfl, ?_⟩) ?_ ?_; rotate_left; (intro w'; go_simp; with_reducible rfl); rotate_left; (simp only [Act.put, List.setIfInBounds_toArray, List.set_cons_zero, List.set_cons_succ, i64_w, i32_w]; rfl))
          refine done_ (done_of rfl (by kernel_rfl)) ?_
          go_upto_region 20 with (fail)
          obtain ⟨hm0, hm1, hm2, hm3, hm4, hm5, hm6, hm7, hm8, hm9, hm10⟩ := cells11 HM2.out
          obtain ⟨hr0, hr1, hr2, hr3, hr4, hr5, hr6, hr7, hr8, hr9, hr10⟩ := cells11 HR2.out
          obtain ⟨hz0, hz1, hz2, hz3, hz4, hz5, hz6, hz7, hz8, hz9, hz10⟩ := froz11 HR2.out
          go_wp2
          clear hm0 hr0 hz0 hm1 hr1 hz1 hm2 hr2 hz2 hm3 hr3 hz3 hm4 hr4 hz4 hm5 hr5 hz5 hm6 hr6 hz6 hm7 hr7 hz7 hm8 hr8 hz8 hm9 hr9 hz9 hm10 hr10 hz10
          have HR3 := Aside0.mk (set11_blk HR2.out (.int .i64 a0) (.int .i64 a1) (.int .i64 a2) (.int .i64 a3) (.int .i64 a4) (.int .i64 a5) (.int .i64 a6) (.int .i64 a7) (.int .i64 a8) (.int .i64 a9) (.slice Av v.length cv))
          have HB3 := Aside0.mk (set11_below HB2.out (Nat.le_refl _) (.int .i64 a0) (.int .i64 a1) (.int .i64 a2) (.int .i64 a3) (.int .i64 a4) (.int .i64 a5) (.int .i64 a6) (.int .i64 a7) (.int .i64 a8) (.int .i64 a9) (.slice Av v.length cv))
          have HV3 := Aside0.mk (Kd.R_step HV2.out (fun k_ hk _ => set11_far w21 w.heap.size (.int .i64 a0) (.int .i64 a1) (.int .i64 a2) (.int .i64 a3) (.int .i64 a4) (.int .i64 a5) (.int .i64 a6) (.int .i64 a7) (.int .i64 a8) (.int .i64 a9) (.slice Av v.length cv) k_ hk.1))
          change bodyPost _ _ _ _ _ (set11 w21 w.heap.size (.int .i64 a0) (.int .i64 a1) (.int .i64 a2) (.int .i64 a3) (.int .i64 a4) (.int .i64 a5) (.int .i64 a6) (.int .i64 a7) (.int .i64 a8) (.int .i64 a9) (.slice Av v.length cv))
          refine bodyPost_ret (results_list (rs := [.cell 2 121, .tmp 3]) rfl (by simp) (.cell _ 121 #[.int .i64 a0, .int .i64 a1, .int .i64 a2, .int .i64 a3, .int .i64 a4, .int .i64 a5, .int .i64 a6, .int .i64 a7, .int .i64 a8, .int .i64 a9, .slice Av v.length cv] (0, 0) _ rfl HR3.out Try.underlying121 rfl (by kernel_rfl) (.tmp .nil))) rfl ?_
          exact ⟨_, rfl, Kd.R_mono HV3.out (fun _ _ => trivial), HB3.out⟩
/-- The blocks of the call: the three parameters, the result. -/
structure NB (w W : World) (M P A Z : Array Value) : Prop where
  hb : Below w.heap.size w W
  m : W.heap[w.heap.size]? = some (.cells M 24 (0, 0))
  p : W.heap[w.heap.size + 1]? = some (.cells P 48 (0, 0))
  a : W.heap[w.heap.size + 1 + 1]? = some (.cells A 121 (0, 0))
  z : W.heap[w.heap.size + 1 + 1 + 1]? = some (.cells Z 121 (0, 0))
theorem NB.below {w W W' : World} {m p a r : Array Value} (h : NB w W m p a r) (hb : Below W.heap.size W W') : NB w W' m p a r := ⟨below_step h.hb hb, blk_below h.m hb, blk_below h.p hb, blk_below h.a hb, blk_below h.z hb⟩
theorem heap_size_alloc9 (w : World) (o : Obj) : (w.alloc o).heap.size = w.heap.size + 1 := by
  show (w.heap.push o).size = _
  exact Array.size_push ..
theorem NB.start (w : World) (m p a r : Array Value) : NB w ((((w.alloc (.cells m 24)).alloc (.cells p 48)).alloc (.cells a 121)).alloc (.cells r 121)) m p a r := by
  refine ⟨below_alloc (below_alloc (below_alloc (below_alloc (Below.refl _ _) _) _) _) _, ?_, ?_, ?_, ?_⟩
  · exact blk_alloc (blk_alloc (blk_alloc (heap_alloc_new _ _) _) _) _
  · refine blk_alloc (blk_alloc ?_ _) _
    have h := heap_alloc_new (w.alloc (.cells m 24)) (.cells p 48)
    rw [heap_size_alloc9] at h
    exact h
  · refine blk_alloc ?_ _
    have h := heap_alloc_new ((w.alloc (.cells m 24)).alloc (.cells p 48)) (.cells a 121)
    rw [heap_size_alloc9, heap_size_alloc9] at h
    exact h
  · have h := heap_alloc_new (((w.alloc (.cells m 24)).alloc (.cells p 48)).alloc (.cells a 121)) (.cells r 121)
    rw [heap_size_alloc9, heap_size_alloc9, heap_size_alloc9] at h
    exact h
theorem NB.far {w W : World} {m p a r : Array Value} (h : NB w W m p a r) {q : Addr} (hq : w.heap.size + 1 + 1 + 1 < q.block) (u : Value) : NB w (W.setCell q u) m p a r :=
  have far : ∀ k, k ≤ w.heap.size + 1 + 1 + 1 → (W.setCell q u).heap[k]? = W.heap[k]? := fun k hk => Below.heap_setCell W _ u k (by omega)
  ⟨h.hb.setCell (p := q) (by omega) u, (far _ (by omega)).trans h.m, (far _ (by omega)).trans h.p, (far _ (by omega)).trans h.a, (far _ (by omega)).trans h.z⟩
/-- What Work asks of a message that fits, and was not worked on yet. -/
structure WorkH (k : Nat) (n : Int) (ls : List S31) (e : Int) (hs : List (List Int)) (a1 a2 a3 a4 a5 a6 a7 a8 : Int) (v : List Int) (L : List S167) (y : List Int) (L' : List S167) : Prop where
  fit : FitH k n ls e hs a1 a2 a3 a4 a5 a6 a7 a8 e v
  holds : place_Holds.f k e hs a8 a2 = some true
  find : ledger_Find.f L a4 a5 a6 a7 = some ([], false)
  run : expert_Run.f k (rd_T33 (rd_T31 ls a5).f1 a8).f0 (rd_T33 (rd_T31 ls a5).f1 a8).f1 v = some (y, true)
  enter : ledger_Enter.f L a4 a5 a6 a7 y = some (L', true)
set_option maxHeartbeats 8000000 in
set_option maxRecDepth 100000 in
theorem node_Work.calls (k : Nat) (w : World) (n : Int) (A0 : Option Addr) (c0 : Nat) (ls : List S31) (e : Int) (A1 : Option Addr) (c1 : Nat) (hs : List (List Int)) (a1 a2 a3 a4 a5 a6 a7 a8 : Int) (Av : Option Addr) (cv : Nat) (v : List Int) (Al : Option Addr) (cl : Nat) (L : List S167) (y : List Int) (L' : List S167) (P0 : Nat → Prop) (hm : Kd.C k31 w A0 ls.length ls) (hmc : ls.length ≤ c0) (hh : Kd.C (Kd.slice 3 (Kd.int .i64)) w A1 hs.length hs) (hhc : hs.length ≤ c1) (hv : Kd.C (Kd.int .i64) w Av v.length v) (hvc : v.length ≤ cv) (hl : Kd.V k167 167 w 0 P0 (.slice Al L.length cl) L) (h : WorkH k n ls e hs a1 a2 a3 a4 a5 a6 a7 a8 v L y L') :
    Calls Try.prog 63 #[.agg #[.int .i64 n, (.slice A0 ls.length c0)], .agg #[.int .i64 e, (.slice A1 hs.length c1)], .int .i64 a2, .slice Al L.length cl, .agg #[.int .i64 1, .int .i64 a1, .int .i64 a2, .int .i64 a3, .int .i64 a4, .int .i64 a5, .int .i64 a6, .int .i64 a7, .int .i64 a8, .int .i64 e, .slice Av v.length cv]] w fun e_ w' => ∃ vl vo, e_ = .returned (.tuple #[vl, .agg #[.int .i64 2, .int .i64 a2, .int .i64 a1, .int .i64 a3, .int .i64 a4, .int .i64 a5, .int .i64 a6, .int .i64 a7, .int .i64 a8, .int .i64 e, vo], .bool true]) ∧
      Kd.V k167 167 w' 0 (fun k_ => P0 k_ ∨ w.heap.size ≤ k_) vl L' ∧ Kd.R (Kd.int .i64) 3 w' w.heap.size (fun _ => True) vo y ∧ Below w.heap.size w w' := by
  have hu24 := Try.underlying24
  have hu31 := Try.underlying31
  have hu33 := Try.underlying33
  have hu48 := Try.underlying48
  have hu121 := Try.underlying121
  have hu151 := Try.underlying151
  have HM := Aside0.mk hm
  have HMC := Aside0.mk hmc
  have HH := Aside0.mk hh
  have HHC := Aside0.mk hhc
  have HV := Aside0.mk hv
  have HVC := Aside0.mk hvc
  have HW := Aside0.mk h
  have HL := Aside0.mk (Kd.V_bound hl)
  clear hm hmc hh hhc hv hvc h hl
  have HN1 := Aside0.mk (NB.start w #[.int .i64 n, (.slice A0 ls.length c0)] #[.int .i64 e, (.slice A1 hs.length c1)] #[.int .i64 1, .int .i64 a1, .int .i64 a2, .int .i64 a3, .int .i64 a4, .int .i64 a5, .int .i64 a6, .int .i64 a7, .int .i64 a8, .int .i64 e, .slice Av v.length cv] #[.int .i64 0, .int .i64 0, .int .i64 0, .int .i64 0, .int .i64 0, .int .i64 0, .int .i64 0, .int .i64 0, .int .i64 0, .int .i64 0, .slice none 0 0])
  go_enter Try.func63, Try.ntmps63
  go_upto_region 1 with (fail)
  generalize (((w.alloc (.cells #[.int .i64 n, (.slice A0 ls.length c0)] 24)).alloc (.cells #[.int .i64 e, (.slice A1 hs.length c1)] 48)).alloc (.cells #[.int .i64 1, .int .i64 a1, .int .i64 a2, .int .i64 a3, .int .i64 a4, .int .i64 a5, .int .i64 a6, .int .i64 a7, .int .i64 a8, .int .i64 e, .slice Av v.length cv] 121)).alloc (.cells #[.int .i64 0, .int .i64 0, .int .i64 0, .int .i64 0, .int .i64 0, .int .i64 0, .int .i64 0, .int .i64 0, .int .i64 0, .int .i64 0, .slice none 0 0] 121) = w1 at HN1 ⊢
  have m0 := (blk_cell HN1.out.m 0).trans rfl
  have m1 := (blk_cell HN1.out.m 1).trans rfl
  have p0 := (blk_cell HN1.out.p 0).trans rfl
  have p1 := (blk_cell HN1.out.p 1).trans rfl
  obtain ⟨ha0, ha1, ha2, ha3, ha4, ha5, ha6, ha7, ha8, ha9, ha10⟩ := cells11 HN1.out.a
  go_upto_region 3 with (go_at_call 92; (with_reducible refine (node_fits.calls k w1 n A0 c0 ls e A1 c1 hs a1 a2 a3 a4 a5 a6 a7 a8 e Av cv v (Kd.C_below HM.out HN1.out.hb) HMC.out (Kd.C_below HH.out HN1.out.hb) HHC.out (Kd.C_below HV.out HN1.out.hb) HVC.out HW.out.fit).mono ?_); rintro e_ w2 ⟨rfl, hb⟩; have HN2 := Aside0.mk (HN1.out.below hb); clear hb m0 m1 p0 p1 ha0 ha1 ha2 ha3 ha4 ha5 ha6 ha7 ha8 ha9 ha10; have m0 := (blk_cell HN2.out.m 0).trans rfl; have m1 := (blk_cell HN2.out.m 1).trans rfl; have p0 := (blk_cell HN2.out.p 0).trans rfl; have p1 := (blk_cell HN2.out.p 1).trans rfl; obtain ⟨ha0, ha1, ha2, ha3, ha4, ha5, ha6, ha7, ha8, ha9, ha10⟩ := cells11 HN2.out.a)
  go_upto_region 4 with (fail)
  have hb := below_alloc (Below.refl w2.heap.size w2) (.cells #[.int .i64 1, .int .i64 a1, .int .i64 a2, .int .i64 a3, .int .i64 a4, .int .i64 a5, .int .i64 a6, .int .i64 a7, .int .i64 a8, .int .i64 e, .slice Av v.length cv] 121)
  have HN3 := Aside0.mk (HN2.out.below hb)
  have HO3 : Aside0 ((w2.alloc (.cells #[.int .i64 1, .int .i64 a1, .int .i64 a2, .int .i64 a3, .int .i64 a4, .int .i64 a5, .int .i64 a6, .int .i64 a7, .int .i64 a8, .int .i64 e, .slice Av v.length cv] 121)).heap[w2.heap.size]? = some (.cells #[.int .i64 1, .int .i64 a1, .int .i64 a2, .int .i64 a3, .int .i64 a4, .int .i64 a5, .int .i64 a6, .int .i64 a7, .int .i64 a8, .int .i64 e, .slice Av v.length cv] 121 (0, 0))) := ⟨heap_alloc_new _ _⟩
  have HG : Aside0 (w.heap.size + 1 + 1 + 1 < w2.heap.size) := ⟨blk_lt HN2.out.z⟩
  clear hb HN2 HN1 m0 m1 p0 p1 ha0 ha1 ha2 ha3 ha4 ha5 ha6 ha7 ha8 ha9 ha10
  generalize w2.alloc (.cells #[.int .i64 1, .int .i64 a1, .int .i64 a2, .int .i64 a3, .int .i64 a4, .int .i64 a5, .int .i64 a6, .int .i64 a7, .int .i64 a8, .int .i64 e, .slice Av v.length cv] 121) = w3 at HN3 HO3 ⊢
  generalize w2.heap.size = gm at HO3 HG ⊢
  have HD := Aside0.mk (below_drew (Below.refl w3.heap.size w3))
  have HN4 := Aside0.mk (HN3.out.below HD.out)
  have HO4 := Aside0.mk (blk_below HO3.out HD.out)
  refine startM_ [] (n := 15) (S := fun W => CS [(⟨w.heap.size + 1 + 1, 1, none⟩, .int .i64 a1), (⟨w.heap.size + 1, 0, none⟩, .int .i64 e)] W) (by kernel_rfl) rfl ⟨(blk_cell (blk_below HN3.out.a HD.out) 1).trans rfl, (blk_cell (blk_below HN3.out.p HD.out) 0).trans rfl, trivial⟩ (fun hHeld => ?_)
  clear HD
  generalize w3.drew = w4 at HN4 HO4 hHeld ⊢
  clear HN3 HO3
  iterate 6 (first | (refine pureM_ (v := ?_) (a' := ?_) rfl rfl (any_of rfl (by kernel_rfl)) (fun _ _ _ h => h) (Or.inl ⟨by rfl, ?_⟩) ?_ ?_; rotate_left; (intro w'; go_simp; with_reducible rfl); rotate_left; (simp only [Act.put, List.setIfInBounds_toArray, List.set_cons_zero, List.set_cons_succ, i64_w, i32_w]; rfl)) | (refine takeM_ (v := ?_) (a' := ?_) rfl rfl (take_of rfl (by kernel_rfl)) (fun _ _ _ h => h) (Or.inl ⟨by rfl, ?_⟩) hHeld ?_ ?_; rotate_left; (rintro w' ⟨s0_, s1_, _⟩; go_simp; with_reducible rfl); rotate_left; (simp only [Act.put, List.setIfInBounds_toArray, List.set_cons_zero, List.set_cons_succ, i64_w, i32_w]; rfl)) | (refine pureM_ (v := undef) (a' := ?_) rfl rfl (any_of rfl (by kernel_rfl)) (fun _ _ _ h => h) (Or.inr ⟨by rfl, rfl⟩) ?_ ?_; rotate_left; (simp only [Act.put, List.setIfInBounds_toArray, List.set_cons_zero, List.set_cons_succ, i64_w, i32_w]; rfl)))
  refine one_ (i := 6) (N := none) (mk_ 7 15) rfl rfl (one_of rfl (by kernel_rfl)) (by decide) (fun K hK => ?_)
  have hs_ : w4.cell? ⟨gm, 0, none⟩ = some (.int .i64 1) := (blk_cell HO4.out 0).trans rfl
  have hz_ := blk_frozen HO4.out 0
  refine skip_ (w1 := ?_) (by rfl) rfl ?_ ?_
  rotate_left
  · go_simp
    rfl
  clear hs_ hz_ hHeld
  have HN5 := Aside0.mk (HN4.out.far (q := ⟨gm, 0, none⟩) HG.out (.int .i64 3))
  have HO5 := Aside0.mk (blk_put HO4.out 0 (.int .i64 3) rfl)
  generalize w4.setCell ⟨gm, 0, none⟩ _ = w5 at HN5 HO5 ⊢
  clear HN4 HO4
  refine hK.out _ _ ⟨(blk_cell HN5.out.a 1).trans rfl, (blk_cell HN5.out.p 0).trans rfl, trivial⟩ (fun hHeld => ?_)
  clear hK K
  iterate 1 (refine pureM_ (v := ?_) (a' := ?_) rfl rfl (any_of rfl (by kernel_rfl)) (fun _ _ _ h => h) (Or.inl ⟨by rfl, ?_⟩) ?_ ?_; rotate_left; (intro w'; go_simp; with_reducible rfl); rotate_left; (simp only [Act.put, List.setIfInBounds_toArray, List.set_cons_zero, List.set_cons_succ, i64_w, i32_w]; rfl))
  refine one_ (i := 8) (N := none) (mk_ 9 15) rfl rfl (one_of rfl (by kernel_rfl)) (by decide) (fun K hK => ?_)
  have hs_ : w5.cell? ⟨gm, 1, none⟩ = some (.int .i64 a1) := (blk_cell HO5.out 1).trans rfl
  have hz_ := blk_frozen HO5.out 1
  refine skip_ (w1 := ?_) (by rfl) rfl ?_ ?_
  rotate_left
  · go_simp
    rfl
  clear hs_ hz_ hHeld
  have HN6 := Aside0.mk (HN5.out.far (q := ⟨gm, 1, none⟩) HG.out (.int .i64 a2))
  have HO6 := Aside0.mk (blk_put HO5.out 1 (.int .i64 a2) rfl)
  generalize w5.setCell ⟨gm, 1, none⟩ _ = w6 at HN6 HO6 ⊢
  clear HN5 HO5
  refine hK.out _ _ ⟨(blk_cell HN6.out.a 1).trans rfl, (blk_cell HN6.out.p 0).trans rfl, trivial⟩ (fun hHeld => ?_)
  clear hK K
  iterate 1 (refine pureM_ (v := ?_) (a' := ?_) rfl rfl (any_of rfl (by kernel_rfl)) (fun _ _ _ h => h) (Or.inl ⟨by rfl, ?_⟩) ?_ ?_; rotate_left; (intro w'; go_simp; with_reducible rfl); rotate_left; (simp only [Act.put, List.setIfInBounds_toArray, List.set_cons_zero, List.set_cons_succ, i64_w, i32_w]; rfl))
  refine one_ (i := 10) (N := none) (mk_ 11 15) rfl rfl (one_of rfl (by kernel_rfl)) (by decide) (fun K hK => ?_)
  have hs_ : w6.cell? ⟨gm, 2, none⟩ = some (.int .i64 a2) := (blk_cell HO6.out 2).trans rfl
  have hz_ := blk_frozen HO6.out 2
  refine skip_ (w1 := ?_) (by rfl) rfl ?_ ?_
  rotate_left
  · go_simp
    rfl
  clear hs_ hz_ hHeld
  have HN7 := Aside0.mk (HN6.out.far (q := ⟨gm, 2, none⟩) HG.out (.int .i64 a1))
  have HO7 := Aside0.mk (blk_put HO6.out 2 (.int .i64 a1) rfl)
  generalize w6.setCell ⟨gm, 2, none⟩ _ = w7 at HN7 HO7 ⊢
  clear HN6 HO6
  refine hK.out _ _ ⟨(blk_cell HN7.out.a 1).trans rfl, (blk_cell HN7.out.p 0).trans rfl, trivial⟩ (fun hHeld => ?_)
  clear hK K
  iterate 1 (refine pureM_ (v := ?_) (a' := ?_) rfl rfl (any_of rfl (by kernel_rfl)) (fun _ _ _ h => h) (Or.inl ⟨by rfl, ?_⟩) ?_ ?_; rotate_left; (intro w'; go_simp; with_reducible rfl); rotate_left; (simp only [Act.put, List.setIfInBounds_toArray, List.set_cons_zero, List.set_cons_succ, i64_w, i32_w]; rfl))
  refine one_ (i := 12) (N := none) (mk_ 13 15) rfl rfl (one_of rfl (by kernel_rfl)) (by decide) (fun K hK => ?_)
  have hs_ : w7.cell? ⟨gm, 9, none⟩ = some (.int .i64 e) := (blk_cell HO7.out 9).trans rfl
  have hz_ := blk_frozen HO7.out 9
  refine skip_ (w1 := ?_) (by rfl) rfl ?_ ?_
  rotate_left
  · go_simp
    rfl
  clear hs_ hz_ hHeld
  have HN8 := Aside0.mk (HN7.out.far (q := ⟨gm, 9, none⟩) HG.out (.int .i64 e))
  have HO8 := Aside0.mk (blk_put HO7.out 9 (.int .i64 e) rfl)
  generalize w7.setCell ⟨gm, 9, none⟩ _ = w8 at HN8 HO8 ⊢
  clear HN7 HO7
  refine hK.out _ _ ⟨(blk_cell HN8.out.a 1).trans rfl, (blk_cell HN8.out.p 0).trans rfl, trivial⟩ (fun hHeld => ?_)
  clear hK K
  iterate 1 (refine pureM_ (v := ?_) (a' := ?_) rfl rfl (any_of rfl (by kernel_rfl)) (fun _ _ _ h => h) (Or.inl ⟨by rfl, ?_⟩) ?_ ?_; rotate_left; (intro w'; go_simp; with_reducible rfl); rotate_left; (simp only [Act.put, List.setIfInBounds_toArray, List.set_cons_zero, List.set_cons_succ, i64_w, i32_w]; rfl))
  refine one_ (i := 14) (N := none) (mk_ 15 15) rfl rfl (one_of rfl (by kernel_rfl)) (by decide) (fun K hK => ?_)
  have hs_ : w8.cell? ⟨gm, 10, none⟩ = some (.slice Av v.length cv) := (blk_cell HO8.out 10).trans rfl
  have hz_ := blk_frozen HO8.out 10
  refine skip_ (w1 := ?_) (by rfl) rfl ?_ ?_
  rotate_left
  · go_simp
    rfl
  clear hs_ hz_ hHeld
  have HN9 := Aside0.mk (HN8.out.far (q := ⟨gm, 10, none⟩) HG.out (.slice none 0 0))
  have HO9 := Aside0.mk (blk_put HO8.out 10 (.slice none 0 0) rfl)
  generalize w8.setCell ⟨gm, 10, none⟩ _ = w9 at HN9 HO9 ⊢
  clear HN8 HO8
  refine hK.out _ _ ⟨(blk_cell HN9.out.a 1).trans rfl, (blk_cell HN9.out.p 0).trans rfl, trivial⟩ (fun hHeld => ?_)
  clear hK K
  refine done_ (done_of rfl (by kernel_rfl)) ?_
  clear hHeld
  have m0 := (blk_cell HN9.out.m 0).trans rfl
  have m1 := (blk_cell HN9.out.m 1).trans rfl
  have p0 := (blk_cell HN9.out.p 0).trans rfl
  have p1 := (blk_cell HN9.out.p 1).trans rfl
  obtain ⟨ha0, ha1, ha2, ha3, ha4, ha5, ha6, ha7, ha8, ha9, ha10⟩ := cells11 HN9.out.a
  go_upto_region 7 with (go_at_call 93; (with_reducible refine (place_Holds.calls k e A1 c1 hs a8 a2 true w9 (Kd.C_below HH.out HN9.out.hb) HHC.out HW.out.holds).mono ?_); rintro e_ w10 ⟨rfl, hb⟩; have HN10 := Aside0.mk (HN9.out.below hb); have HO10 := Aside0.mk (blk_below HO9.out hb); clear hb; clear m0 m1 p0 p1 ha0 ha1 ha2 ha3 ha4 ha5 ha6 ha7 ha8 ha9 ha10; have m0 := (blk_cell HN10.out.m 0).trans rfl; have m1 := (blk_cell HN10.out.m 1).trans rfl; have p0 := (blk_cell HN10.out.p 0).trans rfl; have p1 := (blk_cell HN10.out.p 1).trans rfl; obtain ⟨ha0, ha1, ha2, ha3, ha4, ha5, ha6, ha7, ha8, ha9, ha10⟩ := cells11 HN10.out.a)
  clear HN9 HO9
  go_upto_region 8 with (fail)
  have hb := below_alloc (Below.refl w10.heap.size w10) (.cells #[.int .i64 a4, .int .i64 a5, .int .i64 a6, .int .i64 a7] 151)
  have HN11 := Aside0.mk (HN10.out.below hb)
  have HO11 := Aside0.mk (blk_below HO10.out hb)
  have HK11 : Aside0 ((w10.alloc (.cells #[.int .i64 a4, .int .i64 a5, .int .i64 a6, .int .i64 a7] 151)).heap[w10.heap.size]? = some (.cells #[.int .i64 a4, .int .i64 a5, .int .i64 a6, .int .i64 a7] 151 (0, 0))) := ⟨heap_alloc_new _ _⟩
  clear hb HN10 HO10 m0 m1 p0 p1 ha0 ha1 ha2 ha3 ha4 ha5 ha6 ha7 ha8 ha9 ha10
  generalize w10.alloc (.cells #[.int .i64 a4, .int .i64 a5, .int .i64 a6, .int .i64 a7] 151) = w11 at HN11 HO11 HK11 ⊢
  generalize w10.heap.size = gk at HK11 ⊢
  have m0 := (blk_cell HN11.out.m 0).trans rfl
  have m1 := (blk_cell HN11.out.m 1).trans rfl
  have p0 := (blk_cell HN11.out.p 0).trans rfl
  have p1 := (blk_cell HN11.out.p 1).trans rfl
  obtain ⟨ha0, ha1, ha2, ha3, ha4, ha5, ha6, ha7, ha8, ha9, ha10⟩ := cells11 HN11.out.a
  have k0 := (blk_cell HK11.out 0).trans rfl
  have k1 := (blk_cell HK11.out 1).trans rfl
  have k2 := (blk_cell HK11.out 2).trans rfl
  have k3 := (blk_cell HK11.out 3).trans rfl
  go_upto_region 10 with (go_at_call 94; (with_reducible refine (ledger_Find.calls Al cl L a4 a5 a6 a7 [] false w11 (Kd.V_reads' (Kd.V_below HL.out HN11.out.hb)).2.2 (Kd.V_reads' HL.out).2.1 HW.out.find).mono ?_); rintro e_ w12 ⟨v0_, rfl, _, hb⟩; have HN12 := Aside0.mk (HN11.out.below hb); have HO12 := Aside0.mk (blk_below HO11.out hb); have HK12 := Aside0.mk (blk_below HK11.out hb); clear hb HN11 HO11 HK11 k0 k1 k2 k3 m0 m1 p0 p1 ha0 ha1 ha2 ha3 ha4 ha5 ha6 ha7 ha8 ha9 ha10)
  have HD := Aside0.mk (below_drew (Below.refl w12.heap.size w12))
  have HN13 := Aside0.mk (HN12.out.below HD.out)
  have HO13 := Aside0.mk (blk_below HO12.out HD.out)
  have HK13 := Aside0.mk (blk_below HK12.out HD.out)
  refine startM_ [13] (n := 18) (S := fun W => W = w12.drew) (by kernel_rfl) rfl rfl (fun hHeld => ?_)
  clear HD
  generalize w12.drew = w13 at HN13 HO13 HK13 hHeld ⊢
  clear HN12 HO12 HK12
  have m0 := (blk_cell HN13.out.m 0).trans rfl
  have m1 := (blk_cell HN13.out.m 1).trans rfl
  have p0 := (blk_cell HN13.out.p 0).trans rfl
  have p1 := (blk_cell HN13.out.p 1).trans rfl
  obtain ⟨ha0, ha1, ha2, ha3, ha4, ha5, ha6, ha7, ha8, ha9, ha10⟩ := cells11 HN13.out.a
  obtain ⟨al, Ag, cg, Ax, cx, hA, hl0, hl1, hl2, _, _, hxc, hX⟩ := at_T31 (xs := ls) (n := ls.length) (Kd.C_below HM.out HN13.out.hb) a5 HW.out.fit.l0 HW.out.fit.l1
  cases hA
  obtain ⟨ax, Ai, ci, Ao, co, hA, he0, he1, hic, hI, hoc, hO⟩ := at_T33 (xs := (rd_T31 ls a5).f1) (n := (rd_T31 ls a5).f1.length) hX a8 HW.out.fit.x0 HW.out.fit.x1
  cases hA
  have hl0_ := HW.out.fit.l0
  have hl1_ := HW.out.fit.l1
  have hx0_ := HW.out.fit.x0
  have hx1_ := HW.out.fit.x1
  iterate 13 (first | (refine pureM_ (v := ?_) (a' := ?_) rfl rfl (any_of rfl (by kernel_rfl)) (fun _ _ _ h => h) (Or.inl ⟨by rfl, ?_⟩) ?_ ?_; rotate_left; (intro w'; go_simp; with_reducible rfl); rotate_left; (simp only [Act.put, List.setIfInBounds_toArray, List.set_cons_zero, List.set_cons_succ, i64_w, i32_w]; rfl)) | (refine takeM_ (v := ?_) (a' := ?_) rfl rfl (take_of rfl (by kernel_rfl)) (fun _ _ _ h => h) (Or.inl ⟨by rfl, ?_⟩) hHeld ?_ ?_; rotate_left; (intro w' e_; rw [show w' = w13 from e_]; go_simp; with_reducible rfl); rotate_left; (simp only [Act.put, List.setIfInBounds_toArray, List.set_cons_zero, List.set_cons_succ, i64_w, i32_w]; rfl)))
  refine last_ (i := 13) (N := some 82) (mk_ 14 18) rfl rfl (one_of rfl (by kernel_rfl)) (by decide) (fun K hK => ?_)
  refine goes_ Try.func30 (by kernel_rfl) rfl #[.agg #[.slice Ai (rd_T33 (rd_T31 ls a5).f1 a8).f0.length ci, .slice Ao (rd_T33 (rd_T31 ls a5).f1 a8).f1.length co], .slice Av v.length cv] (by rfl) rfl rfl (by (try simp only [List.map_toArray, List.map_cons, List.map_nil]); first | done | rfl) ?_
  refine (expert_Run.calls k Ai ci (rd_T33 (rd_T31 ls a5).f1 a8).f0 Ao co (rd_T33 (rd_T31 ls a5).f1 a8).f1 Av cv v y true w13 hI hic hO hoc (Kd.C_below HV.out HN13.out.hb) HVC.out HW.out.run).mono ?_
  rintro e_ w14 ⟨vy, rfl, ho, hb⟩
  have HN14 := Aside0.mk (HN13.out.below hb)
  have HO14 := Aside0.mk (blk_below HO13.out hb)
  have HK14 := Aside0.mk (blk_below HK13.out hb)
  have HSZ := Aside0.mk hb.size
  have HS14 : Aside0 (w.heap.size ≤ w13.heap.size ∧ gm < w13.heap.size) := ⟨⟨HN13.out.hb.size, blk_lt HO13.out⟩⟩
  have HY14 := Aside0.mk (Kd.R_mono (ok' := fun k_ => w13.heap.size ≤ k_) (Kd.R_bound ho) (fun k_ hk => hk.2.1))
  obtain ⟨Ay, cy, rfl⟩ := Kd.R_slice ho
  clear ho hb hl0 hl1 hl2 he0 he1 hl0_ hl1_ hx0_ hx1_ hxc hX hic hI hoc hO HN13 HO13 HK13 hHeld m0 m1 p0 p1 ha0 ha1 ha2 ha3 ha4 ha5 ha6 ha7 ha8 ha9 ha10
  refine ⟨_, rfl, ?_⟩
  refine hK.out _ _ ?_
  clear hK K
  refine norm_ (a' := ?_) ?_ ?_
  rotate_left
  · show Act.put _ (some 82) _ = _
    simp only [Act.put, List.setIfInBounds_toArray, List.set_cons_zero, List.set_cons_succ, i64_w, i32_w]
    rfl
  iterate 4 (refine pureM_ (v := ?_) (a' := ?_) rfl rfl (any_of rfl (by kernel_rfl)) (fun _ _ _ h => h) (Or.inl ⟨by rfl, ?_⟩) ?_ ?_; rotate_left; (intro w'; go_simp; with_reducible rfl); rotate_left; (simp only [Act.put, List.setIfInBounds_toArray, List.set_cons_zero, List.set_cons_succ, i64_w, i32_w]; rfl))
  refine done_ (done_of rfl (by kernel_rfl)) ?_
  have m0 := (blk_cell HN14.out.m 0).trans rfl
  have m1 := (blk_cell HN14.out.m 1).trans rfl
  have p0 := (blk_cell HN14.out.p 0).trans rfl
  have p1 := (blk_cell HN14.out.p 1).trans rfl
  obtain ⟨ha0, ha1, ha2, ha3, ha4, ha5, ha6, ha7, ha8, ha9, ha10⟩ := cells11 HN14.out.a
  have k0 := (blk_cell HK14.out 0).trans rfl
  have k1 := (blk_cell HK14.out 1).trans rfl
  have k2 := (blk_cell HK14.out 2).trans rfl
  have k3 := (blk_cell HK14.out 3).trans rfl
  have HS14b : Aside0 (w13.heap.size ≤ w14.heap.size) := ⟨(show w13.heap.size ≤ w14.heap.size from HSZ.out)⟩
  go_upto_region 13 with (go_at_call 95; (with_reducible refine (ledger_Enter.calls (fun k_ => P0 k_ ∧ k_ < w.heap.size) Al cl L a4 a5 a6 a7 Ay cy y L' true w14 (Kd.V_map (Kd.V_below HL.out HN14.out.hb) (fun _ hf => hf)) (Kd.R_reads' HY14.out).2.2 (Kd.R_reads' HY14.out).2.1 HW.out.enter).mono ?_); rintro e_ w15 ⟨vl, rfl, ho, hb⟩; have HN15 := Aside0.mk (HN14.out.below hb); have HO15 := Aside0.mk (blk_below HO14.out hb); have HY15 := Aside0.mk (Kd.R_below HY14.out hb); have HL15 : Aside0 (Kd.V k167 167 w15 0 (fun k_ => (P0 k_ ∧ k_ < w.heap.size) ∨ w13.heap.size ≤ k_) vl L') := ⟨Kd.V_mono (Kd.V_map ho (fun _ hf => hf)) (fun k_ hk => hk.elim .inl (fun h_ => .inr (Nat.le_trans HS14b.out h_)))⟩; clear ho hb HN14 HO14 HK14 HY14 k0 k1 k2 k3 m0 m1 p0 p1 ha0 ha1 ha2 ha3 ha4 ha5 ha6 ha7 ha8 ha9 ha10; have ho0 := (blk_cell HO15.out 0).trans rfl; have ho10 := (blk_cell HO15.out 10).trans rfl; have hz0 := blk_frozen HO15.out 0; have hz10 := blk_frozen HO15.out 10)
  clear ho0 ho10 hz0 hz10
  have HN16 := Aside0.mk ((HN15.out.far (q := ⟨gm, 0, none⟩) HG.out (.int .i64 2)).far (q := ⟨gm, 10, none⟩) HG.out (.slice Ay y.length cy))
  have HO16 := Aside0.mk (blk_put (blk_put HO15.out 0 (.int .i64 2) rfl) 10 (.slice Ay y.length cy) rfl)
  have hne : ∀ k_, ((P0 k_ ∧ k_ < w.heap.size) ∨ w13.heap.size ≤ k_) → k_ ≠ gm := fun k_ hk he => by have h1 := HS14.out; have h2 := HG.out; rcases hk with hk | hk; (have := hk.2; omega); omega
  have HL16 := Aside0.mk (Kd.V_far (p := ⟨gm, 10, none⟩) (Kd.V_far (p := ⟨gm, 0, none⟩) HL15.out hne (.int .i64 2)) hne (.slice Ay y.length cy))
  have HY16 := Aside0.mk (Kd.R_far (p := ⟨gm, 10, none⟩) (Kd.R_far (p := ⟨gm, 0, none⟩) HY15.out (fun k_ hk => hne k_ (.inr hk)) (.int .i64 2)) (fun k_ hk => hne k_ (.inr hk)) (.slice Ay y.length cy))
  clear hne HN15 HO15 HL15 HY15
  generalize (w15.setCell ⟨gm, 0, none⟩ _).setCell ⟨gm, 10, none⟩ _ = w16 at HN16 HO16 HL16 HY16 ⊢
  have HD := Aside0.mk (below_drew (Below.refl w16.heap.size w16))
  have HN17 := Aside0.mk (HN16.out.below HD.out)
  have HO17 := Aside0.mk (blk_below HO16.out HD.out)
  have HL17 := Aside0.mk (Kd.V_below HL16.out HD.out)
  have HY17 := Aside0.mk (Kd.R_below HY16.out HD.out)
  refine startM_ [3] (n := 5) (S := fun W => W = w16.drew) (by kernel_rfl) rfl rfl (fun hHeld => ?_)
  clear HD
  generalize w16.drew = w17 at HN17 HO17 HL17 HY17 hHeld ⊢
  clear HN16 HO16 HL16 HY16
  obtain ⟨hm0, hm1, hm2, hm3, hm4, hm5, hm6, hm7, hm8, hm9, hm10⟩ := cells11 HO17.out
  iterate 3 (first | (refine pureM_ (v := ?_) (a' := ?_) rfl rfl (any_of rfl (by kernel_rfl)) (fun _ _ _ h => h) (Or.inl ⟨by rfl, ?_⟩) ?_ ?_; rotate_left; (intro w'; go_simp; with_reducible rfl); rotate_left; (simp only [Act.put, List.setIfInBounds_toArray, List.set_cons_zero, List.set_cons_succ, i64_w, i32_w]; rfl)) | (refine takeM_ (v := ?_) (a' := ?_) rfl rfl (take_of rfl (by kernel_rfl)) (fun _ _ _ h => h) (Or.inl ⟨by rfl, ?_⟩) hHeld ?_ ?_; rotate_left; (intro w' e_; rw [show w' = w17 from e_]; go_simp; with_reducible rfl); rotate_left; (simp only [Act.put, List.setIfInBounds_toArray, List.set_cons_zero, List.set_cons_succ, i64_w, i32_w]; rfl)))
  obtain ⟨hr0, hr1, hr2, hr3, hr4, hr5, hr6, hr7, hr8, hr9, hr10⟩ := cells11 HN17.out.z
  obtain ⟨hz0, hz1, hz2, hz3, hz4, hz5, hz6, hz7, hz8, hz9, hz10⟩ := froz11 HN17.out.z
  refine last_ (i := 3) (N := none) (mk_ 4 5) rfl rfl (one_of rfl (by kernel_rfl)) (by decide) (fun K hK => ?_)
  refine skip_ (w1 := set11 w17 (w.heap.size + 1 + 1 + 1) (.int .i64 2) (.int .i64 a2) (.int .i64 a1) (.int .i64 a3) (.int .i64 a4) (.int .i64 a5) (.int .i64 a6) (.int .i64 a7) (.int .i64 a8) (.int .i64 e) (.slice Ay y.length cy)) (by rfl) rfl ?_ ?_
  · go_simp
    rfl
  clear hHeld hm0 hr0 hz0 hm1 hr1 hz1 hm2 hr2 hz2 hm3 hr3 hz3 hm4 hr4 hz4 hm5 hr5 hz5 hm6 hr6 hz6 hm7 hr7 hz7 hm8 hr8 hz8 hm9 hr9 hz9 hm10 hr10 hz10
  have HZ := Aside0.mk (set11_blk HN17.out.z (.int .i64 2) (.int .i64 a2) (.int .i64 a1) (.int .i64 a3) (.int .i64 a4) (.int .i64 a5) (.int .i64 a6) (.int .i64 a7) (.int .i64 a8) (.int .i64 e) (.slice Ay y.length cy))
  have HB18 := Aside0.mk (set11_below HN17.out.hb (show w.heap.size ≤ w.heap.size + 1 + 1 + 1 by omega) (.int .i64 2) (.int .i64 a2) (.int .i64 a1) (.int .i64 a3) (.int .i64 a4) (.int .i64 a5) (.int .i64 a6) (.int .i64 a7) (.int .i64 a8) (.int .i64 e) (.slice Ay y.length cy))
  have hne : ∀ k_, ((P0 k_ ∧ k_ < w.heap.size) ∨ w13.heap.size ≤ k_) → k_ ≠ w.heap.size + 1 + 1 + 1 := fun k_ hk he => by have h1 := HS14.out; have h2 := HG.out; rcases hk with hk | hk; (have := hk.2; omega); omega
  have HL18 := Aside0.mk (Kd.V_step HL17.out (fun k_ hk _ => set11_far w17 (w.heap.size + 1 + 1 + 1) (.int .i64 2) (.int .i64 a2) (.int .i64 a1) (.int .i64 a3) (.int .i64 a4) (.int .i64 a5) (.int .i64 a6) (.int .i64 a7) (.int .i64 a8) (.int .i64 e) (.slice Ay y.length cy) k_ (hne k_ hk)))
  have HY18 := Aside0.mk (Kd.R_step HY17.out (fun k_ hk _ => set11_far w17 (w.heap.size + 1 + 1 + 1) (.int .i64 2) (.int .i64 a2) (.int .i64 a1) (.int .i64 a3) (.int .i64 a4) (.int .i64 a5) (.int .i64 a6) (.int .i64 a7) (.int .i64 a8) (.int .i64 e) (.slice Ay y.length cy) k_ (hne k_ (.inr hk))))
  clear hne HN17 HO17 HL17 HY17
  generalize set11 w17 (w.heap.size + 1 + 1 + 1) (.int .i64 2) (.int .i64 a2) (.int .i64 a1) (.int .i64 a3) (.int .i64 a4) (.int .i64 a5) (.int .i64 a6) (.int .i64 a7) (.int .i64 a8) (.int .i64 e) (.slice Ay y.length cy) = w18 at HZ HB18 HL18 HY18 ⊢
  refine hK.out _ _ ?_
  clear hK K
  iterate 1 (refine pureM_ (v := ?_) (a' := ?_) rfl rfl (any_of rfl (by kernel_rfl)) (fun _ _ _ h => h) (Or.inl ⟨by rfl, ?_⟩) ?_ ?_; rotate_left; (intro w'; go_simp; with_reducible rfl); rotate_left; (simp only [Act.put, List.setIfInBounds_toArray, List.set_cons_zero, List.set_cons_succ, i64_w, i32_w]; rfl))
  refine done_ (done_of rfl (by kernel_rfl)) ?_
  go_wp2
  refine bodyPost_ret (results_list (rs := [.tmp 10, .cell 11 121, .tmp 12]) rfl (by simp) (.tmp (.cell _ 121 #[.int .i64 2, .int .i64 a2, .int .i64 a1, .int .i64 a3, .int .i64 a4, .int .i64 a5, .int .i64 a6, .int .i64 a7, .int .i64 a8, .int .i64 e, .slice Ay y.length cy] (0, 0) _ rfl HZ.out Try.underlying121 rfl (by kernel_rfl) (.tmp .nil)))) rfl ?_
  have hs1 := HS14.out.1
  exact ⟨_, _, rfl, Kd.V_mono HL18.out (fun k_ hk => hk.elim (fun h_ => .inl h_.1) (fun h_ => .inr (Nat.le_trans hs1 h_))), Kd.R_mono (Kd.R_lower HY18.out hs1) (fun _ _ => trivial), HB18.out⟩
theorem bag_none : bag_Take.f [] 0 = some (ByteArray.empty, [], false) := by decide +kernel
theorem bag_first (x : ByteArray) (r : List ByteArray) (h : r.length ≤ 300) : bag_Take.f (x :: r) 0 = some (x, r, true) := by
  unfold bag_Take.f
  rw [clone_strs (by rw [List.length_cons]; omega)]
  simp [rdOf]
set_option maxHeartbeats 8000000 in
set_option maxRecDepth 100000 in
theorem fleet_Deliver.empty (w0 w : World) (g : Nat) (n : Int) (A0 : Option Addr) (c0 : Nat) (ls : List S31) (e : Int) (A1 : Option Addr) (c1 : Nat) (hs : List (List Int)) (s : FS) (lv : Nat → Value) (vb vt vp va vd : Value) (hbag : s.bag = []) (hB : FB w0 w g n (.slice A0 ls.length c0) e (.slice A1 hs.length c1) (s) lv vb vt vp va vd) :
    Calls Try.prog 36 #[.pointer (some ⟨g, 0, none⟩), .int .i64 0] w fun e_ w' => e_ = .returned (.int .i64 4) ∧ Fl w0 w' g n (.slice A0 ls.length c0) e (.slice A1 hs.length c1) (s) := by
  have hu117 := Try.underlying117
  have hu121 := Try.underlying121
  obtain ⟨Ab, cb, hq⟩ := Kd.V_slice hB.bag
  subst hq
  have HB0 := Aside0.mk hB
  have HT : Aside0 (bag_Take.f s.bag 0 = some (ByteArray.empty, [], false)) := ⟨by rw [hbag]; exact bag_none⟩
  clear hB hbag
  obtain ⟨hf0, hf1, hf2, hf3, hf9, hf10, hf11, hf12, hf13, hf14⟩ := HB0.out.c
  go_enter Try.func36, Try.ntmps36
  go_wp2_with (go_at_call 60; (with_reducible refine (bag_Take.calls Ab cb s.bag 0 ByteArray.empty [] false w (Kd.V_reads' HB0.out.bag).2.2 (Kd.V_reads' HB0.out.bag).2.1 HT.out).mono ?_); rintro e_ w1 ⟨v0_, rfl, _, hb⟩; have HB1 := Aside0.mk (HB0.out.below hb); clear hb)
  go_ret
  exact ⟨rfl, _, _, _, _, _, _, HB1.out⟩
set_option maxHeartbeats 8000000 in
set_option maxRecDepth 100000 in
theorem fleet_Deliver.answers (w0 w : World) (g : Nat) (n : Int) (A0 : Option Addr) (c0 : Nat) (ls : List S31) (e : Int) (A1 : Option Addr) (c1 : Nat) (hs : List (List Int)) (s : FS) (lv : Nat → Value) (vb vt vp va vd : Value) (k : Nat) (x : ByteArray) (rest : List ByteArray) (a1 a3 a6 a7 a8 a9 : Int) (v u : List Int) (c : Int) (i : Nat) (hB : FB w0 w g n (.slice A0 ls.length c0) e (.slice A1 hs.length c1) (s) lv vb vt vp va vd) (hbag : s.bag = x :: rest) (hbl0 : rest.length ≤ 300) (hT : TakeH k x 2 a1 0 a3 1 (s.at_ : Int) a6 a7 a8 a9 v u c)
    (hat : s.at_ < ls.length) (hn : n = (v.length : Int)) (hi : idxFrom90 (fun x => partB x a6 a7 a8) s.PS 0 = (i : Int)) (hil : i < s.PS.length) (hal : s.ans.length = s.PS.length) (hbl : s.bs.length = s.PS.length) (hbi : rdOf false s.bs (i : Int) = false)
    (Post : World → Prop) (hcome : ∀ w1, Fl w0 w1 g n (.slice A0 ls.length c0) e (.slice A1 hs.length c1) ({ s with bag := rest, ans := s.ans.set i v, bs := s.bs.set i true }) → Calls Try.prog 59 #[.pointer (some ⟨g, 0, none⟩)] w1 fun e_ w' => e_ = .returned (.tuple #[]) ∧ Post w') :
    Calls Try.prog 36 #[.pointer (some ⟨g, 0, none⟩), .int .i64 0] w fun e_ w' => e_ = .returned (.int .i64 0) ∧ Post w' := by
  have hu117 := Try.underlying117
  have hu121 := Try.underlying121
  obtain ⟨Ab, cb, hq⟩ := Kd.V_slice hB.bag
  subst hq
  have HB0 := Aside0.mk hB
  have HTK : Aside0 (bag_Take.f s.bag 0 = some (x, rest, true)) := ⟨by rw [hbag]; exact bag_first x rest hbl0⟩
  have HT := Aside0.mk hT
  have HAT := Aside0.mk hat
  have HN := Aside0.mk hn
  have HI := Aside0.mk hi
  have HIL := Aside0.mk hil
  have HAL := Aside0.mk hal
  have HBL := Aside0.mk hbl
  have HBI := Aside0.mk hbi
  have HC := Aside0.mk hcome
  clear hB hbag hbl0 hT hat hn hi hil hal hbl hbi hcome
  obtain ⟨hf0, hf1, hf2, hf3, hf9, hf10, hf11, hf12, hf13, hf14⟩ := HB0.out.c
  go_enter Try.func36, Try.ntmps36
  go_upto_region 5 with (go_at_call 60; (with_reducible refine (bag_Take.calls Ab cb s.bag 0 x rest true w (Kd.V_reads' HB0.out.bag).2.2 (Kd.V_reads' HB0.out.bag).2.1 HTK.out).mono ?_); rintro e_ w1 ⟨v0_, rfl, ho, hb⟩; have HB1 := Aside0.mk (HB0.out.below hb); have HR1 := Aside0.mk (HB0.out.mine ho); obtain ⟨Ar, cr, rfl⟩ := Kd.R_slice ho; clear ho hb hf0 hf1 hf2 hf3 hf9 hf10 hf11 hf12 hf13 hf14; obtain ⟨hf0, hf1, hf2, hf3, hf9, hf10, hf11, hf12, hf13, hf14⟩ := HB1.out.c; have hz := HB1.out.fz 9)
  clear hz hf0 hf1 hf2 hf3 hf9 hf10 hf11 hf12 hf13 hf14
  have HB2 := Aside0.mk (HB1.out.putbag HR1.out)
  generalize w1.setCell ⟨g, 9, none⟩ _ = w2 at HB2 ⊢
  clear HB0 HB1 HR1
  go_upto_region 6 with (go_at_call 61; (with_reducible refine (wire_Take.calls k x 2 a1 0 a3 1 (s.at_ : Int) a6 a7 a8 a9 v u c w2 HT.out).mono ?_); rintro e_ w3 ⟨v0_, rfl, ho, hb⟩; have HB3 := Aside0.mk (HB2.out.below hb); have HV3 := Aside0.mk (HB2.out.mine ho); obtain ⟨Av, cv, rfl⟩ := Kd.R_slice ho; clear ho hb)
  have hb := below_alloc (Below.refl w3.heap.size w3) (.cells #[.int .i64 2, .int .i64 a1, .int .i64 0, .int .i64 a3, .int .i64 1, .int .i64 (s.at_ : Int), .int .i64 a6, .int .i64 a7, .int .i64 a8, .int .i64 a9, .slice Av v.length cv] 121)
  have HB4 := Aside0.mk (HB3.out.below hb)
  have HV4 := Aside0.mk (Kd.V_below HV3.out hb)
  have HX4 : Aside0 ((w3.alloc (.cells #[.int .i64 2, .int .i64 a1, .int .i64 0, .int .i64 a3, .int .i64 1, .int .i64 (s.at_ : Int), .int .i64 a6, .int .i64 a7, .int .i64 a8, .int .i64 a9, .slice Av v.length cv] 121)).heap[w3.heap.size]? = some (.cells #[.int .i64 2, .int .i64 a1, .int .i64 0, .int .i64 a3, .int .i64 1, .int .i64 (s.at_ : Int), .int .i64 a6, .int .i64 a7, .int .i64 a8, .int .i64 a9, .slice Av v.length cv] 121 (0, 0))) := ⟨heap_alloc_new _ _⟩
  clear hb HB2 HB3 HV3
  generalize w3.alloc (.cells #[.int .i64 2, .int .i64 a1, .int .i64 0, .int .i64 a3, .int .i64 1, .int .i64 (s.at_ : Int), .int .i64 a6, .int .i64 a7, .int .i64 a8, .int .i64 a9, .slice Av v.length cv] 121) = w4 at HB4 HV4 HX4 ⊢
  generalize w3.heap.size = gx at HX4 ⊢
  obtain ⟨hm0, hm1, hm2, hm3, hm4, hm5, hm6, hm7, hm8, hm9, hm10⟩ := cells11 HX4.out
  go_wp2_with (go_at_call 62; (with_reducible refine (fleet_answer.calls w0 w4 g n A0 c0 ls e A1 c1 hs { s with bag := rest } _ _ _ _ _ _ a1 0 a3 a6 a7 a8 a9 Av cv v i HB4.out HAT.out HN.out HI.out HIL.out HAL.out HBL.out HBI.out HV4.out Post HC.out).mono ?_); rintro e_ w5 ⟨rfl, hP⟩; have HP := Aside0.mk hP; clear hP)
  go_ret
  exact ⟨rfl, HP.out⟩
set_option maxHeartbeats 8000000 in
set_option maxRecDepth 100000 in
theorem fleet_Deliver.asks (w0 w : World) (g : Nat) (n : Int) (A0 : Option Addr) (c0 : Nat) (ls : List S31) (e : Int) (A1 : Option Addr) (c1 : Nat) (hs : List (List Int)) (s : FS) (lv : Nat → Value) (vb vt vp va vd : Value) (k : Nat) (hm : Kd.C k31 w0 A0 ls.length ls) (hmc : ls.length ≤ c0) (hh : Kd.C (Kd.slice 3 (Kd.int .i64)) w0 A1 hs.length hs) (hhc : hs.length ≤ c1) (x y : ByteArray) (rest : List ByteArray) (t : Nat) (a6 a7 a8 : Int) (v u : List Int) (c : Int) (z : List Int) (L' : List S167) (hB : FB w0 w g n (.slice A0 ls.length c0) e (.slice A1 hs.length c1) (s) lv vb vt vp va vd) (hbag : s.bag = x :: rest) (hbl0 : rest.length < 200) (ht : 1 ≤ t) (ht4 : t ≤ 4) (hT : TakeH k x 1 0 (t : Int) 0 1 (s.at_ : Int) a6 a7 a8 e v u c)
    (hw : WorkH k n ls e hs 0 (t : Int) 0 1 (s.at_ : Int) a6 a7 a8 v (s.L t) z L') (hp : wire_Put.f k 2 (t : Int) 0 0 1 (s.at_ : Int) a6 a7 a8 e z = some (y, 0)) :
    Calls Try.prog 36 #[.pointer (some ⟨g, 0, none⟩), .int .i64 0] w fun e_ w' => e_ = .returned (.int .i64 0) ∧ Fl w0 w' g n (.slice A0 ls.length c0) e (.slice A1 hs.length c1) ({ s with bag := rest ++ [y], L := fun j => if j = t then L' else s.L j }) := by
  have hu24 := Try.underlying24
  have hu48 := Try.underlying48
  have hu114 := Try.underlying114
  have hu117 := Try.underlying117
  have hu121 := Try.underlying121
  obtain ⟨Ab, cb, hq⟩ := Kd.V_slice hB.bag
  subst hq
  have HB0 := Aside0.mk hB
  have HTK : Aside0 (bag_Take.f s.bag 0 = some (x, rest, true)) := ⟨by rw [hbag]; exact bag_first x rest (by omega)⟩
  have HT := Aside0.mk hT
  have HW := Aside0.mk hw
  have HPU := Aside0.mk hp
  have HL0 := Aside0.mk hbl0
  have HT1 := Aside0.mk ht
  have HT4 := Aside0.mk ht4
  have HR0 := Aside0.mk hm
  have HMC := Aside0.mk hmc
  have HH := Aside0.mk hh
  have HHC := Aside0.mk hhc
  clear hB hbag hbl0 hT hw hp hm hmc hh hhc
  obtain ⟨hf0, hf1, hf2, hf3, hf9, hf10, hf11, hf12, hf13, hf14⟩ := HB0.out.c
  have q0 : decide ((t : Int) = 0) = false := decide_eq_false (by omega)
  have q0n : decide (t = 0) = false := decide_eq_false (by omega)
  have q0b : ((t : Int) == 0) = false := beq_eq_false_iff_ne.2 (by omega)
  have q4 : decide ((t : Int) ≤ 4) = true := decide_eq_true (by omega)
  have q4n : decide (t ≤ 4) = true := decide_eq_true ht4
  clear ht ht4
  go_enter Try.func36, Try.ntmps36
  go_upto_region 5 with (go_at_call 60; (with_reducible refine (bag_Take.calls Ab cb s.bag 0 x rest true w (Kd.V_reads' HB0.out.bag).2.2 (Kd.V_reads' HB0.out.bag).2.1 HTK.out).mono ?_); rintro e_ w1 ⟨v0_, rfl, ho, hb⟩; have HB1 := Aside0.mk (HB0.out.below hb); have HR1 := Aside0.mk (HB0.out.mine ho); obtain ⟨Ar, cr, rfl⟩ := Kd.R_slice ho; clear ho hb hf0 hf1 hf2 hf3 hf9 hf10 hf11 hf12 hf13 hf14; obtain ⟨hf0, hf1, hf2, hf3, hf9, hf10, hf11, hf12, hf13, hf14⟩ := HB1.out.c; have hz := HB1.out.fz 9)
  clear hz hf0 hf1 hf2 hf3 hf9 hf10 hf11 hf12 hf13 hf14
  have HB2 := Aside0.mk (HB1.out.putbag HR1.out)
  generalize w1.setCell ⟨g, 9, none⟩ _ = w2 at HB2 ⊢
  clear HB0 HB1 HR1
  go_upto_region 6 with (go_at_call 61; (with_reducible refine (wire_Take.calls k x 1 0 (t : Int) 0 1 (s.at_ : Int) a6 a7 a8 e v u c w2 HT.out).mono ?_); rintro e_ w3 ⟨v0_, rfl, ho, hb⟩; have HB3 := Aside0.mk (HB2.out.below hb); have HV3 := Aside0.mk (HB2.out.mine ho); obtain ⟨Av, cv, rfl⟩ := Kd.R_slice ho; clear ho hb)
  have hb := below_alloc (Below.refl w3.heap.size w3) (.cells #[.int .i64 1, .int .i64 0, .int .i64 (t : Int), .int .i64 0, .int .i64 1, .int .i64 (s.at_ : Int), .int .i64 a6, .int .i64 a7, .int .i64 a8, .int .i64 e, .slice Av v.length cv] 121)
  have HB4 := Aside0.mk (HB3.out.below hb)
  have HV4 := Aside0.mk (Kd.V_below HV3.out hb)
  have HX4 : Aside0 ((w3.alloc (.cells #[.int .i64 1, .int .i64 0, .int .i64 (t : Int), .int .i64 0, .int .i64 1, .int .i64 (s.at_ : Int), .int .i64 a6, .int .i64 a7, .int .i64 a8, .int .i64 e, .slice Av v.length cv] 121)).heap[w3.heap.size]? = some (.cells #[.int .i64 1, .int .i64 0, .int .i64 (t : Int), .int .i64 0, .int .i64 1, .int .i64 (s.at_ : Int), .int .i64 a6, .int .i64 a7, .int .i64 a8, .int .i64 e, .slice Av v.length cv] 121 (0, 0))) := ⟨heap_alloc_new _ _⟩
  clear hb HB2 HB3 HV3
  generalize w3.alloc (.cells #[.int .i64 1, .int .i64 0, .int .i64 (t : Int), .int .i64 0, .int .i64 1, .int .i64 (s.at_ : Int), .int .i64 a6, .int .i64 a7, .int .i64 a8, .int .i64 e, .slice Av v.length cv] 121) = w4 at HB4 HV4 HX4 ⊢
  generalize w3.heap.size = gx at HX4 ⊢
  obtain ⟨hm0, hm1, hm2, hm3, hm4, hm5, hm6, hm7, hm8, hm9, hm10⟩ := cells11 HX4.out
  go_upto_region 10 with (fail)
  clear hm0 hm1 hm2 hm3 hm4 hm5 hm6 hm7 hm8 hm9 hm10
  obtain ⟨Al, cl, hq⟩ := Kd.V_slice (HB4.out.L t (by have := HT4.out; omega))
  have HLS := Aside0.mk hq
  clear hq
  have t4 : (t : Int) < 5 := by have := HT4.out; omega
  have t0 : (0 : Int) ≤ (t : Int) := Int.natCast_nonneg t
  have t4n : t < 5 := by have := HT4.out; omega
  have HD := Aside0.mk (below_drew (Below.refl w4.heap.size w4))
  have HB5 := Aside0.mk (HB4.out.below HD.out)
  have HV5 := Aside0.mk (Kd.V_below HV4.out HD.out)
  have HX5 := Aside0.mk (blk_below HX4.out HD.out)
  refine startM_ [] (n := 27) (S := fun W => CS [(⟨g, 0, none⟩, .int .i64 n), (⟨g, 1, none⟩, (.slice A0 ls.length c0)), (⟨g, 2, none⟩, .int .i64 e), (⟨g, 3, none⟩, (.slice A1 hs.length c1)), (⟨g, 4 + t, none⟩, .slice Al (s.L t).length cl), (⟨gx, 0, none⟩, .int .i64 1), (⟨gx, 1, none⟩, .int .i64 0), (⟨gx, 2, none⟩, .int .i64 (t : Int)), (⟨gx, 3, none⟩, .int .i64 0), (⟨gx, 4, none⟩, .int .i64 1), (⟨gx, 5, none⟩, .int .i64 (s.at_ : Int)), (⟨gx, 6, none⟩, .int .i64 a6), (⟨gx, 7, none⟩, .int .i64 a7), (⟨gx, 8, none⟩, .int .i64 a8), (⟨gx, 9, none⟩, .int .i64 e), (⟨gx, 10, none⟩, .slice Av v.length cv)] W) (by kernel_rfl) rfl ⟨HB5.out.c.1, HB5.out.c.2.1, HB5.out.c.2.2.1, HB5.out.c.2.2.2.1, HB5.out.cL t (by have := HT4.out; omega) |>.trans (by rw [HLS.out]), (blk_cell HX5.out 0).trans rfl, (blk_cell HX5.out 1).trans rfl, (blk_cell HX5.out 2).trans rfl, (blk_cell HX5.out 3).trans rfl, (blk_cell HX5.out 4).trans rfl, (blk_cell HX5.out 5).trans rfl, (blk_cell HX5.out 6).trans rfl, (blk_cell HX5.out 7).trans rfl, (blk_cell HX5.out 8).trans rfl, (blk_cell HX5.out 9).trans rfl, (blk_cell HX5.out 10).trans rfl, trivial⟩ (fun hHeld => ?_)
  clear HD
  generalize w4.drew = w5 at HB5 HV5 HX5 hHeld ⊢
  clear HB4 HV4 HX4
  iterate 18 (first | (refine pureM_ (v := ?_) (a' := ?_) rfl rfl (any_of rfl (by kernel_rfl)) (fun _ _ _ h => h) (Or.inl ⟨by rfl, ?_⟩) ?_ ?_; rotate_left; (intro w'; go_simp; with_reducible rfl); rotate_left; (simp only [Act.put, List.setIfInBounds_toArray, List.set_cons_zero, List.set_cons_succ, i64_w, i32_w]; rfl)) | (refine takeM_ (v := ?_) (a' := ?_) rfl rfl (take_of rfl (by kernel_rfl)) (fun _ _ _ h => h) (Or.inl ⟨by rfl, ?_⟩) hHeld ?_ ?_; rotate_left; (rintro w' ⟨s0_, s1_, s2_, s3_, s4_, s5_, s6_, s7_, s8_, s9_, s10_, s11_, s12_, s13_, s14_, s15_, _⟩; go_simp; with_reducible rfl); rotate_left; (simp only [Act.put, List.setIfInBounds_toArray, List.set_cons_zero, List.set_cons_succ, i64_w, i32_w]; rfl)) | (refine pureM_ (v := undef) (a' := ?_) rfl rfl (any_of rfl (by kernel_rfl)) (fun _ _ _ h => h) (Or.inr ⟨by rfl, rfl⟩) ?_ ?_; rotate_left; (simp only [Act.put, List.setIfInBounds_toArray, List.set_cons_zero, List.set_cons_succ, i64_w, i32_w]; rfl)))
  have HCS := Aside0.mk hHeld
  clear hHeld
  refine join_ (σ := Value × Value × Nat) 3 #[true, true, true, true, true, true, true, true, true, true, true, true, true, true, true, true, true, true, true, true, true, true, true, true, false, false, false] (fun s_ => [(67, .tuple #[s_.1, .agg #[.int .i64 2, .int .i64 (t : Int), .int .i64 0, .int .i64 0, .int .i64 1, .int .i64 (s.at_ : Int), .int .i64 a6, .int .i64 a7, .int .i64 a8, .int .i64 e, s_.2.1], .bool true]), (48, .tuple #[s_.1, .agg #[.int .i64 2, .int .i64 (t : Int), .int .i64 0, .int .i64 0, .int .i64 1, .int .i64 (s.at_ : Int), .int .i64 a6, .int .i64 a7, .int .i64 a8, .int .i64 e, s_.2.1], .bool true]), (68, s_.1), (69, .agg #[.int .i64 2, .int .i64 (t : Int), .int .i64 0, .int .i64 0, .int .i64 1, .int .i64 (s.at_ : Int), .int .i64 a6, .int .i64 a7, .int .i64 a8, .int .i64 e, s_.2.1]), (70, .bool true), (11, .pointer (some ⟨s_.2.2, 0, none⟩))]) (fun s_ w' => Below w5.heap.size w5 w' ∧ w5.heap.size ≤ s_.2.2 ∧ Kd.V k167 167 w' 0 (fun k_ => okF g va vd k_ ∧ k_ ≠ s_.2.2) s_.1 L' ∧ Kd.V (Kd.int .i64) 3 w' 0 (fun k_ => okF g va vd k_ ∧ k_ ≠ s_.2.2) s_.2.1 z ∧ w'.heap[s_.2.2]? = some (.cells #[.int .i64 0, .int .i64 0, .int .i64 0, .int .i64 0, .int .i64 0, .int .i64 0, .int .i64 0, .int .i64 0, .int .i64 0, .int .i64 0, .slice none 0 0] 121 (0, 0))) ?_ ?_
  rotate_left
  · intro hJ
    have HLT : Aside0 (Kd.V k167 167 w5 0 (fun k_ => okF g va vd k_ ∧ k_ < w5.heap.size) (.slice Al (s.L t).length cl) (s.L t)) := ⟨by rw [← HLS.out]; exact Kd.V_bound (HB5.out.L t t4n)⟩
    refine two_ (i := 18) (j := 23) (Ni := some 67) (Nj := some 11) #[true, true, true, true, true, true, true, true, true, true, true, true, true, true, true, true, true, true, true, false, false, false, false, false, false, false, false] #[true, true, true, true, true, true, true, true, true, true, true, true, true, true, true, true, true, true, false, false, false, false, false, true, false, false, false] rfl rfl rfl rfl (two_of rfl (by kernel_rfl)) (by decide) (by decide) (fun K hK => ?_) (fun K hK => ?_)
    · refine goes_ Try.func63 (by kernel_rfl) rfl #[.agg #[.int .i64 n, (.slice A0 ls.length c0)], .agg #[.int .i64 e, (.slice A1 hs.length c1)], .int .i64 (t : Int), .slice Al (s.L t).length cl, .agg #[.int .i64 1, .int .i64 0, .int .i64 (t : Int), .int .i64 0, .int .i64 1, .int .i64 (s.at_ : Int), .int .i64 a6, .int .i64 a7, .int .i64 a8, .int .i64 e, .slice Av v.length cv]] (by rfl) rfl rfl (by (try simp only [List.map_toArray, List.map_cons, List.map_nil]); first | done | rfl) ?_
      refine (node_Work.calls k w5 n A0 c0 ls e A1 c1 hs 0 (t : Int) 0 1 (s.at_ : Int) a6 a7 a8 Av cv v Al cl (s.L t) z L' (fun k_ => okF g va vd k_ ∧ k_ < w5.heap.size) (Kd.C_below HR0.out (HB5.out.below (Below.refl w5.heap.size w5)).hb) HMC.out (Kd.C_below HH.out (HB5.out.below (Below.refl w5.heap.size w5)).hb) HHC.out (Kd.C_below (Kd.V_reads' HV5.out).2.2 (Below.refl w5.heap.size w5)) (Kd.V_reads' HV5.out).2.1 (Kd.V_below HLT.out (Below.refl w5.heap.size w5)) HW.out).mono ?_
      rintro e_ w6 ⟨vl, vo, rfl, hl_, ho_, hb⟩
      refine ⟨_, rfl, ?_⟩
      have hN6 := CS.below HCS.out hb
      refine hK.out _ _ hN6 (fun _ => ?_)
      clear hK K
      refine norm_ (a' := ?_) ?_ ?_
      rotate_left
      · show Act.put _ (some 67) _ = _
        simp only [Act.put, List.setIfInBounds_toArray, List.set_cons_zero, List.set_cons_succ, i64_w, i32_w]
        rfl
      refine pure_ (i := 19) (N := some 48) (v := ?_) (a' := ?_) #[true, true, true, true, true, true, true, true, true, true, true, true, true, true, true, true, true, true, true, true, false, false, false, false, false, false, false] rfl rfl (any_of rfl (by kernel_rfl)) (fun _ _ _ h => h) (Or.inl ⟨by rfl, ?_⟩) ?_ ?_
      rotate_left
      · intro w'
        go_simp
        with_reducible rfl
      rotate_left
      · simp only [Act.put, List.setIfInBounds_toArray, List.set_cons_zero, List.set_cons_succ, i64_w, i32_w]
        rfl
      refine pure_ (i := 20) (N := some 68) (v := ?_) (a' := ?_) #[true, true, true, true, true, true, true, true, true, true, true, true, true, true, true, true, true, true, true, true, true, false, false, false, false, false, false] rfl rfl (any_of rfl (by kernel_rfl)) (fun _ _ _ h => h) (Or.inl ⟨by rfl, ?_⟩) ?_ ?_
      rotate_left
      · intro w'
        go_simp
        with_reducible rfl
      rotate_left
      · simp only [Act.put, List.setIfInBounds_toArray, List.set_cons_zero, List.set_cons_succ, i64_w, i32_w]
        rfl
      refine pure_ (i := 21) (N := some 69) (v := ?_) (a' := ?_) #[true, true, true, true, true, true, true, true, true, true, true, true, true, true, true, true, true, true, true, true, true, true, false, false, false, false, false] rfl rfl (any_of rfl (by kernel_rfl)) (fun _ _ _ h => h) (Or.inl ⟨by rfl, ?_⟩) ?_ ?_
      rotate_left
      · intro w'
        go_simp
        with_reducible rfl
      rotate_left
      · simp only [Act.put, List.setIfInBounds_toArray, List.set_cons_zero, List.set_cons_succ, i64_w, i32_w]
        rfl
      refine pure_ (i := 22) (N := some 70) (v := ?_) (a' := ?_) #[true, true, true, true, true, true, true, true, true, true, true, true, true, true, true, true, true, true, true, true, true, true, true, false, false, false, false] rfl rfl (any_of rfl (by kernel_rfl)) (fun _ _ _ h => h) (Or.inl ⟨by rfl, ?_⟩) ?_ ?_
      rotate_left
      · intro w'
        go_simp
        with_reducible rfl
      rotate_left
      · simp only [Act.put, List.setIfInBounds_toArray, List.set_cons_zero, List.set_cons_succ, i64_w, i32_w]
        rfl
      refine one_ (i := 23) (N := some 11) #[true, true, true, true, true, true, true, true, true, true, true, true, true, true, true, true, true, true, true, true, true, true, true, true, false, false, false] rfl rfl (one_of rfl (by kernel_rfl)) (by decide) (fun K hK => ?_)
      refine box_step ?hg (N := 11) ?hd (cs := #[.int .i64 0, .int .i64 0, .int .i64 0, .int .i64 0, .int .i64 0, .int .i64 0, .int .i64 0, .int .i64 0, .int .i64 0, .int .i64 0, .slice none 0 0]) (t := 121) ?hr ?_; (case hd => rfl); (case hg => rfl); (case hr => first | (go_simp; done) | (go_simp; rfl))
      intro g2 hg2 w7 hbox hb2
      refine hK.out _ _ (CS.below hN6 hb2) (fun _ => ?_)
      refine norm_ ?_ (hJ (vl, vo, g2) _ ⟨below_step hb hb2, by rw [hg2]; exact hb.size, Kd.V_mono (Kd.V_below (Kd.V_bound hl_) hb2) (fun k_ hk => ⟨hk.1.elim (fun h_ => h_.1) (fun h_ => HB5.out.new h_), by rw [hg2]; exact Nat.ne_of_lt hk.2⟩), Kd.R_V (Kd.R_mono (Kd.R_below (Kd.R_bound ho_) hb2) (fun k_ hk => ⟨HB5.out.new hk.2.1, by rw [hg2]; exact Nat.ne_of_lt hk.2.2.1⟩)), hbox⟩)
      simp only [putAll, Act.put, List.setIfInBounds_toArray, List.set_cons_zero, List.set_cons_succ] <;> rfl
    · refine box_step ?hg (N := 11) ?hd (cs := #[.int .i64 0, .int .i64 0, .int .i64 0, .int .i64 0, .int .i64 0, .int .i64 0, .int .i64 0, .int .i64 0, .int .i64 0, .int .i64 0, .slice none 0 0]) (t := 121) ?hr ?_; (case hd => rfl); (case hg => rfl); (case hr => first | (go_simp; done) | (go_simp; rfl))
      intro g2 hg2 w6 hbox hb2
      have hN6 := CS.below HCS.out hb2
      refine hK.out _ _ hN6 (fun _ => ?_)
      clear hK K
      refine norm_ (a' := ?_) ?_ ?_
      rotate_left
      · show Act.put _ (some 11) _ = _
        simp only [Act.put, List.setIfInBounds_toArray, List.set_cons_zero, List.set_cons_succ, i64_w, i32_w]
        rfl
      refine one_ (i := 18) (N := some 67) #[true, true, true, true, true, true, true, true, true, true, true, true, true, true, true, true, true, true, true, false, false, false, false, true, false, false, false] rfl rfl (one_of rfl (by kernel_rfl)) (by decide) (fun K hK => ?_)
      refine goes_ Try.func63 (by kernel_rfl) rfl #[.agg #[.int .i64 n, (.slice A0 ls.length c0)], .agg #[.int .i64 e, (.slice A1 hs.length c1)], .int .i64 (t : Int), .slice Al (s.L t).length cl, .agg #[.int .i64 1, .int .i64 0, .int .i64 (t : Int), .int .i64 0, .int .i64 1, .int .i64 (s.at_ : Int), .int .i64 a6, .int .i64 a7, .int .i64 a8, .int .i64 e, .slice Av v.length cv]] (by rfl) rfl rfl (by (try simp only [List.map_toArray, List.map_cons, List.map_nil]); first | done | rfl) ?_
      refine (node_Work.calls k w6 n A0 c0 ls e A1 c1 hs 0 (t : Int) 0 1 (s.at_ : Int) a6 a7 a8 Av cv v Al cl (s.L t) z L' (fun k_ => okF g va vd k_ ∧ k_ < w5.heap.size) (Kd.C_below HR0.out (HB5.out.below hb2).hb) HMC.out (Kd.C_below HH.out (HB5.out.below hb2).hb) HHC.out (Kd.C_below (Kd.V_reads' HV5.out).2.2 hb2) (Kd.V_reads' HV5.out).2.1 (Kd.V_below HLT.out hb2) HW.out).mono ?_
      rintro e_ w7 ⟨vl, vo, rfl, hl_, ho_, hb⟩
      refine ⟨_, rfl, ?_⟩
      refine hK.out _ _ (CS.below hN6 hb) (fun _ => ?_)
      clear hK K
      refine norm_ (a' := ?_) ?_ ?_
      rotate_left
      · show Act.put _ (some 67) _ = _
        simp only [Act.put, List.setIfInBounds_toArray, List.set_cons_zero, List.set_cons_succ, i64_w, i32_w]
        rfl
      refine pure_ (i := 19) (N := some 48) (v := ?_) (a' := ?_) #[true, true, true, true, true, true, true, true, true, true, true, true, true, true, true, true, true, true, true, true, false, false, false, true, false, false, false] rfl rfl (any_of rfl (by kernel_rfl)) (fun _ _ _ h => h) (Or.inl ⟨by rfl, ?_⟩) ?_ ?_
      rotate_left
      · intro w'
        go_simp
        with_reducible rfl
      rotate_left
      · simp only [Act.put, List.setIfInBounds_toArray, List.set_cons_zero, List.set_cons_succ, i64_w, i32_w]
        rfl
      refine pure_ (i := 20) (N := some 68) (v := ?_) (a' := ?_) #[true, true, true, true, true, true, true, true, true, true, true, true, true, true, true, true, true, true, true, true, true, false, false, true, false, false, false] rfl rfl (any_of rfl (by kernel_rfl)) (fun _ _ _ h => h) (Or.inl ⟨by rfl, ?_⟩) ?_ ?_
      rotate_left
      · intro w'
        go_simp
        with_reducible rfl
      rotate_left
      · simp only [Act.put, List.setIfInBounds_toArray, List.set_cons_zero, List.set_cons_succ, i64_w, i32_w]
        rfl
      refine pure_ (i := 21) (N := some 69) (v := ?_) (a' := ?_) #[true, true, true, true, true, true, true, true, true, true, true, true, true, true, true, true, true, true, true, true, true, true, false, true, false, false, false] rfl rfl (any_of rfl (by kernel_rfl)) (fun _ _ _ h => h) (Or.inl ⟨by rfl, ?_⟩) ?_ ?_
      rotate_left
      · intro w'
        go_simp
        with_reducible rfl
      rotate_left
      · simp only [Act.put, List.setIfInBounds_toArray, List.set_cons_zero, List.set_cons_succ, i64_w, i32_w]
        rfl
      refine pure_ (i := 22) (N := some 70) (v := ?_) (a' := ?_) #[true, true, true, true, true, true, true, true, true, true, true, true, true, true, true, true, true, true, true, true, true, true, true, true, false, false, false] rfl rfl (any_of rfl (by kernel_rfl)) (fun _ _ _ h => h) (Or.inl ⟨by rfl, ?_⟩) ?_ ?_
      rotate_left
      · intro w'
        go_simp
        with_reducible rfl
      rotate_left
      · simp only [Act.put, List.setIfInBounds_toArray, List.set_cons_zero, List.set_cons_succ, i64_w, i32_w]
        rfl
      have hlt_ := blk_lt hbox
      refine norm_ ?_ (hJ (vl, vo, g2) _ ⟨below_step hb2 hb, by rw [hg2]; exact Nat.le_refl _, Kd.V_mono hl_ (fun k_ hk => ⟨hk.elim (fun h_ => h_.1) (fun h_ => HB5.out.new (Nat.le_trans hb2.size h_)), fun he => by have he_ : k_ = g2 := he; rcases hk with h_ | h_; (have := h_.2; omega); omega⟩), Kd.R_V (Kd.R_mono (Kd.R_bound ho_) (fun k_ hk => ⟨HB5.out.new (Nat.le_trans hb2.size hk.2.1), fun he => by have he_ : k_ = g2 := he; have := hk.2.1; omega⟩)), blk_below hbox hb⟩)
      simp only [putAll, Act.put, List.setIfInBounds_toArray, List.set_cons_zero, List.set_cons_succ] <;> rfl
  rintro ⟨vl, vo, g2⟩ w8 ⟨hBL, hG2, hVL, hVO, hZ2⟩
  dsimp only at hG2 hVL hVO hZ2
  have HBL := Aside0.mk hBL
  have HG2 := Aside0.mk hG2
  have HVL := Aside0.mk hVL
  have HVO := Aside0.mk hVO
  have HZ2 := Aside0.mk hZ2
  clear hBL hG2 hVL hVO hZ2
  obtain ⟨Av2, cv2, rfl⟩ := Kd.V_slice HVL.out
  obtain ⟨Ao, co, rfl⟩ := Kd.V_slice HVO.out
  refine norm_ (a' := ?_) ?_ ?_
  rotate_left
  · simp only [putAll, Act.put, List.setIfInBounds_toArray, List.set_cons_zero, List.set_cons_succ]
    rfl
  refine pure_ (i := 24) (N := some 10) (v := ?_) (a' := ?_) #[true, true, true, true, true, true, true, true, true, true, true, true, true, true, true, true, true, true, true, true, true, true, true, true, true, false, false] rfl rfl (any_of rfl (by kernel_rfl)) (fun _ _ _ h => h) (Or.inl ⟨by rfl, ?_⟩) ?_ ?_
  rotate_left
  · intro w'
    go_simp
    with_reducible rfl
  rotate_left
  · simp only [Act.put, List.setIfInBounds_toArray, List.set_cons_zero, List.set_cons_succ, i64_w, i32_w]
    rfl
  obtain ⟨hr0, hr1, hr2, hr3, hr4, hr5, hr6, hr7, hr8, hr9, hr10⟩ := cells11 HZ2.out
  obtain ⟨hz0, hz1, hz2, hz3, hz4, hz5, hz6, hz7, hz8, hz9, hz10⟩ := froz11 HZ2.out
  refine one_ (i := 25) (N := none) #[true, true, true, true, true, true, true, true, true, true, true, true, true, true, true, true, true, true, true, true, true, true, true, true, true, true, false] rfl rfl (one_of rfl (by kernel_rfl)) (by decide) (fun K hK => ?_)
  refine skip_ (w1 := set11 w8 g2 (.int .i64 2) (.int .i64 (t : Int)) (.int .i64 0) (.int .i64 0) (.int .i64 1) (.int .i64 (s.at_ : Int)) (.int .i64 a6) (.int .i64 a7) (.int .i64 a8) (.int .i64 e) (.slice Ao z.length co)) (by rfl) rfl ?_ ?_
  · go_simp
    rfl
  clear hr0 hz0 hr1 hz1 hr2 hz2 hr3 hz3 hr4 hz4 hr5 hz5 hr6 hz6 hr7 hz7 hr8 hz8 hr9 hz9 hr10 hz10
  have HBL9 := Aside0.mk (set11_below HBL.out HG2.out (.int .i64 2) (.int .i64 (t : Int)) (.int .i64 0) (.int .i64 0) (.int .i64 1) (.int .i64 (s.at_ : Int)) (.int .i64 a6) (.int .i64 a7) (.int .i64 a8) (.int .i64 e) (.slice Ao z.length co))
  have HO9 := Aside0.mk (set11_blk HZ2.out (.int .i64 2) (.int .i64 (t : Int)) (.int .i64 0) (.int .i64 0) (.int .i64 1) (.int .i64 (s.at_ : Int)) (.int .i64 a6) (.int .i64 a7) (.int .i64 a8) (.int .i64 e) (.slice Ao z.length co))
  have HVL9 := Aside0.mk (Kd.V_step HVL.out (fun k_ hk _ => set11_far w8 g2 (.int .i64 2) (.int .i64 (t : Int)) (.int .i64 0) (.int .i64 0) (.int .i64 1) (.int .i64 (s.at_ : Int)) (.int .i64 a6) (.int .i64 a7) (.int .i64 a8) (.int .i64 e) (.slice Ao z.length co) k_ hk.2))
  have HVO9 := Aside0.mk (Kd.V_step HVO.out (fun k_ hk _ => set11_far w8 g2 (.int .i64 2) (.int .i64 (t : Int)) (.int .i64 0) (.int .i64 0) (.int .i64 1) (.int .i64 (s.at_ : Int)) (.int .i64 a6) (.int .i64 a7) (.int .i64 a8) (.int .i64 e) (.slice Ao z.length co) k_ hk.2))
  clear HBL HZ2 HVL HVO
  generalize set11 w8 g2 (.int .i64 2) (.int .i64 (t : Int)) (.int .i64 0) (.int .i64 0) (.int .i64 1) (.int .i64 (s.at_ : Int)) (.int .i64 a6) (.int .i64 a7) (.int .i64 a8) (.int .i64 e) (.slice Ao z.length co) = w9 at HBL9 HO9 HVL9 HVO9 ⊢
  refine hK.out _ _ (CS.below HCS.out HBL9.out) (fun _ => ?_)
  clear hK K
  refine pure_ (i := 26) (N := some 12) (v := ?_) (a' := ?_) #[true, true, true, true, true, true, true, true, true, true, true, true, true, true, true, true, true, true, true, true, true, true, true, true, true, true, true] rfl rfl (any_of rfl (by kernel_rfl)) (fun _ _ _ h => h) (Or.inl ⟨by rfl, ?_⟩) ?_ ?_
  rotate_left
  · intro w'
    go_simp
    with_reducible rfl
  rotate_left
  · simp only [Act.put, List.setIfInBounds_toArray, List.set_cons_zero, List.set_cons_succ, i64_w, i32_w]
    rfl
  refine done_ (done_of rfl (by kernel_rfl)) ?_
  have HB9 := Aside0.mk (HB5.out.below HBL9.out)
  have HX9 := Aside0.mk (blk_below HX5.out HBL9.out)
  clear HCS HB5 HV5 HX5 HBL9 HG2
  go_upto_region 11 with (fail)
  have HD := Aside0.mk (below_drew (Below.refl w9.heap.size w9))
  have HB10 := Aside0.mk (HB9.out.below HD.out)
  have HX10 := Aside0.mk (blk_below HX9.out HD.out)
  have HO10 := Aside0.mk (blk_below HO9.out HD.out)
  have HL10 := Aside0.mk (Kd.V_below HVL9.out HD.out)
  have HV10 := Aside0.mk (Kd.V_below HVO9.out HD.out)
  refine startM_ [7] (n := 8) (S := fun W => W = w9.drew) (by kernel_rfl) rfl rfl (fun hHeld => ?_)
  clear HD
  generalize w9.drew = w10 at HB10 HX10 HO10 HL10 HV10 hHeld ⊢
  clear HB9 HX9 HO9 HVL9 HVO9
  have hm2 := (blk_cell HX10.out 2).trans rfl
  iterate 7 (first | (refine pureM_ (v := ?_) (a' := ?_) rfl rfl (any_of rfl (by kernel_rfl)) (fun _ _ _ h => h) (Or.inl ⟨by rfl, ?_⟩) ?_ ?_; rotate_left; (intro w'; go_simp; with_reducible rfl); rotate_left; (simp only [Act.put, List.setIfInBounds_toArray, List.set_cons_zero, List.set_cons_succ, i64_w, i32_w]; rfl)) | (refine takeM_ (v := ?_) (a' := ?_) rfl rfl (take_of rfl (by kernel_rfl)) (fun _ _ _ h => h) (Or.inl ⟨by rfl, ?_⟩) hHeld ?_ ?_; rotate_left; (intro w' e_; rw [show w' = w10 from e_]; go_simp; with_reducible rfl); rotate_left; (simp only [Act.put, List.setIfInBounds_toArray, List.set_cons_zero, List.set_cons_succ, i64_w, i32_w]; rfl)))
  have hL_ := HB10.out.cL t t4n
  have hz_ := HB10.out.fz (4 + t)
  refine last_ (i := 7) (N := none) (mk_ 8 8) rfl rfl (one_of rfl (by kernel_rfl)) (by decide) (fun K hK => ?_)
  refine skip_ (w1 := ?_) (by rfl) rfl ?_ ?_
  rotate_left
  · go_simp
    rfl
  clear hL_ hz_ hm2 hHeld
  have HB11 := Aside0.mk (HB10.out.putL t t4n (Kd.V_mono HL10.out (fun k_ hk => hk.1)))
  have HO11 : Aside0 ((w10.setCell ⟨g, 4 + t, none⟩ (.slice Av2 L'.length cv2)).heap[g2]? = some (.cells #[.int .i64 2, .int .i64 (t : Int), .int .i64 0, .int .i64 0, .int .i64 1, .int .i64 (s.at_ : Int), .int .i64 a6, .int .i64 a7, .int .i64 a8, .int .i64 e, .slice Ao z.length co] 121 (0, 0))) := ⟨(Below.heap_setCell w10 ⟨g, 4 + t, none⟩ _ g2 (fun he => by have h1 := HO10.out; rw [he, HB10.out.blk] at h1; injection h1 with h1; injection h1 with _ h3; exact absurd h3 (by decide))).trans HO10.out⟩
  have HV11 := Aside0.mk (Kd.V_far (p := ⟨g, 4 + t, none⟩) HV10.out (fun k_ hk => hk.1.1) (.slice Av2 L'.length cv2))
  generalize w10.setCell ⟨g, 4 + t, none⟩ _ = w11 at HB11 HO11 HV11 ⊢
  clear HB10 HX10 HO10 HL10 HV10
  refine hK.out _ _ ?_
  clear hK K
  refine done_ (done_of rfl (by kernel_rfl)) ?_
  obtain ⟨hm0, hm1, hm2, hm3, hm4, hm5, hm6, hm7, hm8, hm9, hm10⟩ := cells11 HO11.out
  go_wp2_with (go_at_call 64; (with_reducible refine (fleet_send.calls w0 w11 g n A0 c0 ls e A1 c1 hs _ _ _ _ _ _ _ k 2 (t : Int) 0 0 1 (s.at_ : Int) a6 a7 a8 e Ao co z y HB11.out HL0.out (Kd.V_reads' HV11.out).2.2 (Kd.V_reads' HV11.out).2.1 HPU.out).mono ?_); rintro e_ w12 ⟨vb', rfl, hB⟩; have HB12 := Aside0.mk hB; clear hB)
  go_ret
  exact ⟨rfl, _, _, _, _, _, _, HB12.out⟩
end Go.Proofs.Ytfipiohchnaglaa.Pu
