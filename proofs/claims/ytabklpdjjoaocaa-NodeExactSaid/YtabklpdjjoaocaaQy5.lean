-- Laid by wip/xprint.py, a program of this session that runs the kit's print with some contracts given by hand; not a text of print.sh. Lean checks it.
import Derived.Test.YtabklpdjjoaocaaQy0
import Derived.Test.YtabklpdjjoaocaaQy3
import Derived.Test.YtabklpdjjoaocaaQy4
namespace Go.Proofs.Ytabklpdjjoaocaa.Qy
open Go.RowKit Go.Proofs.YtabklpdjjoaocaaW.PrintWords Go.Proofs.YtabklpdjjoaocaaW.PrintLast Go.Proofs.YtabklpdjjoaocaaW.PrintMore
attribute [local go_sem] max2_int min2_int max_two min_two max_three min_three max_four min_four   -- for this text's walks alone
set_option linter.unusedVariables false
set_option linter.unusedSimpArgs false

/-! ### node_fits: function 16 (given by hand) -/
theorem C_one' {α : Type} {d : Kd α} {w : World} {g : Nat} {cs : List Value} {t : Nat} {x : α} (hb : w.heap[g]? = some (.cells cs.toArray t (0, 0))) (hk : d.K w x cs) (hl : cs.length = d.sz) : Kd.C d w (some ⟨g, 0, none⟩) 1 [x] := by
  refine ⟨rfl, by decide, fun _ => ⟨_, rfl, fun j p hj => ?_⟩⟩
  cases j with
  | zero =>
    obtain rfl : x = p := by simpa using hj
    refine ⟨cs, hl, hk, fun i u hu => ?_⟩
    rw [Nat.zero_mul, Nat.zero_add, add_plain, blk_cell hb i]
    simpa using hu
  | succ j => simp at hj
theorem alloc_atF {W : World} {g : Nat} (o : Obj) (h : g = W.heap.size) : (W.alloc o).heap[g]? = some o := by rw [h]; exact heap_alloc_new W o
theorem pureF_ {P : Program} {md : Region.Mode} {ops : Array Oper} {Q : Exit → Act → World → Prop} {S : World → Prop} {ds : List Nat} {m n : Nat} {oi : Oper} {v : Value} {fuel : Nat} {a : Act} {w : World} (hi : ops[m]? = some oi) (hN : oi.dst = some (m + 9)) (hc : anyB md ops (mk_ m n) (mk_ (m + 1) n) m = true) (hQ : ∀ c a w, Q (.panic c) (a.put oi.dst v) w → Q (.panic c) a w) (hy : Yields P ops oi v a) {a' : Act} (ha : a.put (some (m + 9)) v = a') (h : wpAnyLast P md ops Q S ds fuel (mk_ (m + 1) n) a' w) : wpAnyLast P md ops Q S ds (fuel + 1) (mk_ m n) a w := pure_ (mk_ (m + 1) n) hi hN hc hQ hy ha h
theorem takeF_ {P : Program} {md : Region.Mode} {ops : Array Oper} {Q : Exit → Act → World → Prop} {S : World → Prop} {ds : List Nat} {m n : Nat} {oi : Oper} {v : Value} {fuel : Nat} {a : Act} {w : World} (hi : ops[m]? = some oi) (hN : oi.dst = some (m + 9)) (hc : takeB md ops ds (mk_ m n) (mk_ (m + 1) n) m = true) (hQ : ∀ c a w, Q (.panic c) (a.put oi.dst v) w → Q (.panic c) a w) (hy : YieldsIf P ops S oi v a) (hS : S w) {a' : Act} (ha : a.put (some (m + 9)) v = a') (h : wpAnyLast P md ops Q S ds fuel (mk_ (m + 1) n) a' w) : wpAnyLast P md ops Q S ds (fuel + 1) (mk_ m n) a w := take_ (mk_ (m + 1) n) hi hN hc hQ hy hS ha h
theorem oneF_ {P : Program} {md : Region.Mode} {ops : Array Oper} {Q : Exit → Act → World → Prop} {S : World → Prop} {ds : List Nat} {m n : Nat} {oi : Oper} {fuel : Nat} {a : Act} {w : World} (hi : ops[m]? = some oi) (hN : oi.dst = some (m + 9)) (hc : readyB md ops (mk_ m n) (mk_ (m + 1) n) m = true) (hd : m ∉ ds) (h : ∀ K : Act → World → Prop, Shut (∀ a' w', S w' → (S w' → wpAnyLast P md ops Q S ds fuel (mk_ (m + 1) n) a' w') → K a' w') → if Region.wanted oi (yielded ops a.tmps) = true then Oper.wp P oi a w K Q else K (a.put (some (m + 9)) undef) w) : wpAnyLast P md ops Q S ds (fuel + 1) (mk_ m n) a w := one_ (mk_ (m + 1) n) hi hN hc hd h
def node_fits.T1 : Bool × List (List Nat × List Nat) := (true, [([], []), ([0], [0]), ([1, 1], [1]), ([2], [2]), ([3, 2, 2], [2, 3]), ([2, 4], [2, 4]), ([5, 4], [5]), ([6], [6]), ([7, 6, 6], [6, 7]), ([6, 8], [6, 8]), ([9, 8], [9]), ([10], [10]), ([11, 10], [10, 11]), ([12, 10], [10, 12]), ([10, 13], [10, 13]), ([14, 10], [14]), ([15], [15]), ([16, 15], [15, 16]), ([15], [15]), ([17, 18, 15], [15, 17, 18]), ([15, 19], [15, 19]), ([20, 15], [20]), ([21], [21]), ([22, 21], [21, 22]), ([21], [21]), ([24, 21], [21, 24]), ([25, 21], [21, 25]), ([23, 26, 21], [21, 23, 26]), ([21, 27], [21, 27]), ([28, 21], [28]), ([29], [29]), ([30, 29], [29, 30]), ([29], [29]), ([32, 29], [29, 32]), ([29], [29]), ([34, 29], [29, 34]), ([33, 35, 29], [29, 33, 35]), ([36, 29], [29, 36]), ([37, 29], [29, 37]), ([38, 29], [29, 38]), ([31, 39, 29], [29, 31, 39]), ([29, 40], [29, 40]), ([41, 29], [41]), ([42], [42]), ([42], [42]), ([44, 42], [42, 44]), ([45, 42], [42, 45]), ([43, 46, 42, 42], [42, 43, 46]), ([42, 47], [42, 47]), ([48, 47, 0, 1, 2, 3, 4, 5, 6, 7, 8, 9, 10, 11, 12, 13, 14, 15, 16, 17, 18, 19, 20, 21, 22, 23, 24, 25, 26, 27, 28, 29, 30, 31, 32, 33, 34, 35, 36, 37, 38, 39, 40, 41, 42, 43, 44, 45, 46, 47, 48], [48])])
def node_fits.B1 : List Nat := [0, 1, 3, 7, 15, 31, 63, 127, 255, 511, 1023, 2047, 4095, 8191, 16383, 32767, 65535, 131071, 65535, 524287, 1048575, 2097151, 4194303, 8388607, 4194303, 20971519, 54525951, 134217727, 268435455, 536870911, 1073741823, 2147483647, 1073741823, 5368709119, 1073741823, 18253611007, 65498251263, 134217727999, 271656681471, 546534588415, 1099511627775, 2199023255551, 4398046511103, 8796093022207, 8796093022207, 26388279066623, 61572651155455, 140737488355327, 281474976710655, 562949953421311]
theorem node_fits.tab1 : rtab .any (opsOf Try.f16 1) = node_fits.T1 := by kernel_rfl
theorem node_fits.bits1 : waitsOk node_fits.T1.2 node_fits.B1 = true := by kernel_rfl
def node_fits.f (k : Nat) (a0_0 : Int) (l0_1 : List S61) (a1_0 : Int) (l1_1 : List (List Int)) (a2 : Int) (a3_0 : Int) (a3_1 : Int) (a3_2 : Int) (a3_3 : Int) (a3_4 : Int) (a3_5 : Int) (a3_6 : Int) (a3_7 : Int) (a3_8 : Int) (a3_9 : Int) (l3_10 : List Int) : Option Bool := (model_Right.f a0_0 l0_1).bind fun t1 => if t1 = true then ((place_Right.f k a1_0 l1_1).bind fun t2 => if t2 = true then ((wire_Right.f k a3_0 a3_1 a3_2 a3_3 a3_4 a3_5 a3_6 a3_7 a3_8 a3_9 l3_10).bind fun t3 => if t3 = true then (if a3_0 = 1 then (if a3_2 = a2 then (if a3_5 < (l0_1.length : Int) then (if 0 ≤ a3_5 then (if a3_8 < ((rd_T61 l0_1 a3_5).f1.length : Int) then model_Tokens.f a0_0 l0_1 [l3_10] else some false) else none) else some false) else some false) else some false) else some false) else some false) else some false
theorem node_fits.mono : ∀ a0 a1 a2 a3 a4 a5 a6 a7 a8 a9 a10 a11 a12 a13 a14 a15 k, LeO (node_fits.f k a0 a1 a2 a3 a4 a5 a6 a7 a8 a9 a10 a11 a12 a13 a14 a15) (node_fits.f (k + 1) a0 a1 a2 a3 a4 a5 a6 a7 a8 a9 a10 a11 a12 a13 a14 a15) := by
  intro a0 a1 a2 a3 a4 a5 a6 a7 a8 a9 a10 a11 a12 a13 a14 a15 k
  unfold node_fits.f
  repeat' first
    | (with_reducible exact place_Right.mono _ _ _)
    | (with_reducible exact wire_Right.mono _ _ _ _ _ _ _ _ _ _ _ _)
    | (with_reducible exact LeO.refl _)
    | (with_reducible exact LeO.none _)
    | (with_reducible refine LeO.ite ?_ ?_)
    | (with_reducible refine LeO.bind ?_ (fun _ => ?_))
set_option maxHeartbeats 8000000 in
set_option maxRecDepth 100000 in
theorem node_fits.calls (k : Nat) (a0_0 : Int) (A0_1 : Option Addr) (c0_1 : Nat) (l0_1 : List S61) (a1_0 : Int) (A1_1 : Option Addr) (c1_1 : Nat) (l1_1 : List (List Int)) (a2 : Int) (a3_0 : Int) (a3_1 : Int) (a3_2 : Int) (a3_3 : Int) (a3_4 : Int) (a3_5 : Int) (a3_6 : Int) (a3_7 : Int) (a3_8 : Int) (a3_9 : Int) (A3_10 : Option Addr) (c3_10 : Nat) (l3_10 : List Int) (r : Bool) (w : World) (hr0_1 : Kd.C k61 w A0_1 l0_1.length l0_1) (hc0_1 : l0_1.length ≤ c0_1) (hr1_1 : Kd.C (Kd.slice 3 (Kd.int .i64)) w A1_1 l1_1.length l1_1) (hc1_1 : l1_1.length ≤ c1_1) (hr3_10 : Kd.C (Kd.int .i64) w A3_10 l3_10.length l3_10) (hc3_10 : l3_10.length ≤ c3_10) (h : node_fits.f k a0_0 l0_1 a1_0 l1_1 a2 a3_0 a3_1 a3_2 a3_3 a3_4 a3_5 a3_6 a3_7 a3_8 a3_9 l3_10 = some r) :
    Calls Try.prog 16 #[.agg #[.int .i64 a0_0, .slice A0_1 l0_1.length c0_1], .agg #[.int .i64 a1_0, .slice A1_1 l1_1.length c1_1], .int .i64 a2, .agg #[.int .i64 a3_0, .int .i64 a3_1, .int .i64 a3_2, .int .i64 a3_3, .int .i64 a3_4, .int .i64 a3_5, .int .i64 a3_6, .int .i64 a3_7, .int .i64 a3_8, .int .i64 a3_9, .slice A3_10 l3_10.length c3_10]] w fun e w' => e = .returned (.bool r) ∧ Below w.heap.size w w' := by
  have hu1 := Try.underlying24
  have hu2 := Try.underlying27
  have hu3 := Try.underlying31
  have hu4 := Try.underlying61
  unfold node_fits.f at h
  have HR0 := Aside0.mk hr0_1
  have HC0 := Aside0.mk hc0_1
  have HR1 := Aside0.mk hr1_1
  have HC1 := Aside0.mk hc1_1
  have HR3 := Aside0.mk hr3_10
  have HC3 := Aside0.mk hc3_10
  clear hr0_1 hc0_1 hr1_1 hc1_1 hr3_10 hc3_10
  obtain ⟨t1, a1_, h⟩ := Option.bind_eq_some_iff.mp h
  by_cases e1 : t1 = true
  case neg =>
    rw [if_neg e1] at h
    obtain rfl := Option.some.inj h
    rw [Bool.eq_false_iff.mpr e1] at a1_
    have A1 := Aside0.mk a1_
    clear a1_ h e1
    go_enter Try.func16, Try.ntmps16
    go_wp2_with (first
        | ((with_reducible refine gate_dst (N := 4) rfl ?_); (try (refine gate_guard (by rfl) ?_; dsimp only)); refine box_event ?hg (N := 4) ?hd (cs := #[.int .i64 a0_0, .slice A0_1 l0_1.length c0_1]) (t := 24) ?hr ?_; (case hd => rfl); (case hg => rfl); (case hr => first | (go_simp; done) | (go_simp; rfl)); intro gm hg w1 hbox hb; have BM1 := Aside0.mk hbox; have HB1 := Aside0.mk hb; clear hg hbox hb)
        | ((with_reducible refine gate_dst (N := 5) rfl ?_); (try (refine gate_guard (by rfl) ?_; dsimp only)); refine box_event ?hg (N := 5) ?hd (cs := #[.int .i64 a1_0, .slice A1_1 l1_1.length c1_1]) (t := 27) ?hr ?_; (case hd => rfl); (case hg => rfl); (case hr => first | (go_simp; done) | (go_simp; rfl)); intro gp hg w2 hbox hb; have BM2 := Aside0.mk (blk_below BM1.out hb); have BP2 := Aside0.mk hbox; have HB2 := Aside0.mk (below_step HB1.out hb); clear hg hbox hb)
        | ((with_reducible refine gate_dst (N := 7) rfl ?_); (try (refine gate_guard (by rfl) ?_; dsimp only)); refine box_event ?hg (N := 7) ?hd (cs := #[.int .i64 a3_0, .int .i64 a3_1, .int .i64 a3_2, .int .i64 a3_3, .int .i64 a3_4, .int .i64 a3_5, .int .i64 a3_6, .int .i64 a3_7, .int .i64 a3_8, .int .i64 a3_9, .slice A3_10 l3_10.length c3_10]) (t := 31) ?hr ?_; (case hd => rfl); (case hg => rfl); (case hr => first | (go_simp; done) | (go_simp; rfl)); intro ga hg w3 hbox hb; have BM3 := Aside0.mk (blk_below BM2.out hb); have BP3 := Aside0.mk (blk_below BP2.out hb); have BA3 := Aside0.mk hbox; have HB3 := Aside0.mk (below_step HB2.out hb); clear hg hbox hb))
    have BM4 := Aside0.mk (blk_drew BM3.out)
    have BP4 := Aside0.mk (blk_drew BP3.out)
    have BA4 := Aside0.mk (blk_drew BA3.out)
    have HB4 := Aside0.mk (below_drew1 HB3.out)
    refine start_ (n := 50) (S := fun w' => w'.cell? ⟨gm, 0, none⟩ = some (.int .i64 a0_0) ∧ w'.cell? ⟨gm, 1, none⟩ = some (.slice A0_1 l0_1.length c0_1) ∧ w'.cell? ⟨gp, 0, none⟩ = some (.int .i64 a1_0) ∧ w'.cell? ⟨gp, 1, none⟩ = some (.slice A1_1 l1_1.length c1_1) ∧ w'.cell? ⟨ga, 0, none⟩ = some (.int .i64 a3_0) ∧ w'.cell? ⟨ga, 1, none⟩ = some (.int .i64 a3_1) ∧ w'.cell? ⟨ga, 2, none⟩ = some (.int .i64 a3_2) ∧ w'.cell? ⟨ga, 3, none⟩ = some (.int .i64 a3_3) ∧ w'.cell? ⟨ga, 4, none⟩ = some (.int .i64 a3_4) ∧ w'.cell? ⟨ga, 5, none⟩ = some (.int .i64 a3_5) ∧ w'.cell? ⟨ga, 6, none⟩ = some (.int .i64 a3_6) ∧ w'.cell? ⟨ga, 7, none⟩ = some (.int .i64 a3_7) ∧ w'.cell? ⟨ga, 8, none⟩ = some (.int .i64 a3_8) ∧ w'.cell? ⟨ga, 9, none⟩ = some (.int .i64 a3_9) ∧ w'.cell? ⟨ga, 10, none⟩ = some (.slice A3_10 l3_10.length c3_10)) (ds := []) (mk_ 0 50) (by kernel_rfl) rfl (by kernel_rfl) ⟨(blk_cell BM4.out 0).trans rfl, (blk_cell BM4.out 1).trans rfl, (blk_cell BP4.out 0).trans rfl, (blk_cell BP4.out 1).trans rfl, (blk_cell BA4.out 0).trans rfl, (blk_cell BA4.out 1).trans rfl, (blk_cell BA4.out 2).trans rfl, (blk_cell BA4.out 3).trans rfl, (blk_cell BA4.out 4).trans rfl, (blk_cell BA4.out 5).trans rfl, (blk_cell BA4.out 6).trans rfl, (blk_cell BA4.out 7).trans rfl, (blk_cell BA4.out 8).trans rfl, (blk_cell BA4.out 9).trans rfl, (blk_cell BA4.out 10).trans rfl⟩ (fun hHeld => ?_)
    refine with_tabW node_fits.tab1 node_fits.bits1 (fun HT_ HW_ => ?_)
    generalize w3.drew = w4 at BM4 BP4 BA4 HB4 hHeld ⊢
    clear BM3 BP3 BA3 HB3 BM2 BP2 HB2 BM1 HB1
    iterate 1
      first
      | refine pureF_ (v := undef) (a' := ?_) rfl rfl (any_of HT_.out (by kernel_rfl)) (fun _ _ _ h => h) (Or.inr ⟨by rfl, rfl⟩) ?_ ?_
        rotate_left
        · simp only [Act.put, Nat.reduceAdd, List.setIfInBounds_toArray, List.set_cons_zero, List.set_cons_succ, i64_w, i32_w]
          rfl
      | refine pureF_ (v := ?_) (a' := ?_) rfl rfl (any_of HT_.out (by kernel_rfl)) (fun _ _ _ h => h) (Or.inl ⟨by rfl, ?_⟩) ?_ ?_
        rotate_left
        · intro w'
          go_simp
          with_reducible rfl
        rotate_left
        · simp only [Act.put, Nat.reduceAdd, List.setIfInBounds_toArray, List.set_cons_zero, List.set_cons_succ, i64_w, i32_w]
          rfl
      | refine takeF_ (v := ?_) (a' := ?_) rfl rfl (take_ofW HT_.out HW_.out (by kernel_rfl)) (fun _ _ _ h => h) (Or.inl ⟨by rfl, ?_⟩) hHeld ?_ ?_
        rotate_left
        · rintro w' ⟨s0, s1, s2, s3, s4, s5, s6, s7, s8, s9, s10, s11, s12, s13, s14⟩
          go_simp
          with_reducible rfl
        rotate_left
        · simp only [Act.put, Nat.reduceAdd, List.setIfInBounds_toArray, List.set_cons_zero, List.set_cons_succ, i64_w, i32_w]
          rfl
      simp only [Nat.reduceAdd]
    refine oneF_ rfl rfl (one_of HT_.out (by kernel_rfl)) (by simp) (fun K hK => ?_)
    refine goes_ Try.func29 (by kernel_rfl) rfl #[.agg #[.int .i64 a0_0, .slice A0_1 l0_1.length c0_1]] (by rfl) rfl rfl (by (try simp only [List.map_toArray, List.map_cons, List.map_nil]); first | done | rfl) ?_
    refine (model_Right.calls _ _ _ l0_1 false _ (Kd.C_below HR0.out HB4.out) HC0.out A1.out).mono ?_
    rintro e w5 ⟨rfl, hb⟩
    refine ⟨_, rfl, ?_⟩
    have BM5 := Aside0.mk (blk_below BM4.out hb)
    have BP5 := Aside0.mk (blk_below BP4.out hb)
    have BA5 := Aside0.mk (blk_below BA4.out hb)
    have HB5 := Aside0.mk (below_step HB4.out hb)
    clear hb hHeld
    refine hK.out _ _ ⟨(blk_cell BM5.out 0).trans rfl, (blk_cell BM5.out 1).trans rfl, (blk_cell BP5.out 0).trans rfl, (blk_cell BP5.out 1).trans rfl, (blk_cell BA5.out 0).trans rfl, (blk_cell BA5.out 1).trans rfl, (blk_cell BA5.out 2).trans rfl, (blk_cell BA5.out 3).trans rfl, (blk_cell BA5.out 4).trans rfl, (blk_cell BA5.out 5).trans rfl, (blk_cell BA5.out 6).trans rfl, (blk_cell BA5.out 7).trans rfl, (blk_cell BA5.out 8).trans rfl, (blk_cell BA5.out 9).trans rfl, (blk_cell BA5.out 10).trans rfl⟩ (fun hHeld => ?_)
    clear hK K
    refine norm_ (a' := ?_) ?_ ?_
    rotate_left
    · show Act.put _ (some 10) _ = _
      simp only [Act.put, Nat.reduceAdd, List.setIfInBounds_toArray, List.set_cons_zero, List.set_cons_succ, i64_w, i32_w]
      rfl
    simp only [Nat.reduceAdd]
    iterate 47
      first
      | refine pureF_ (v := undef) (a' := ?_) rfl rfl (any_of HT_.out (by kernel_rfl)) (fun _ _ _ h => h) (Or.inr ⟨by rfl, rfl⟩) ?_ ?_
        rotate_left
        · simp only [Act.put, Nat.reduceAdd, List.setIfInBounds_toArray, List.set_cons_zero, List.set_cons_succ, i64_w, i32_w]
          rfl
      | refine pureF_ (v := ?_) (a' := ?_) rfl rfl (any_of HT_.out (by kernel_rfl)) (fun _ _ _ h => h) (Or.inl ⟨by rfl, ?_⟩) ?_ ?_
        rotate_left
        · intro w'
          go_simp
          with_reducible rfl
        rotate_left
        · simp only [Act.put, Nat.reduceAdd, List.setIfInBounds_toArray, List.set_cons_zero, List.set_cons_succ, i64_w, i32_w]
          rfl
      | refine takeF_ (v := ?_) (a' := ?_) rfl rfl (take_ofW HT_.out HW_.out (by kernel_rfl)) (fun _ _ _ h => h) (Or.inl ⟨by rfl, ?_⟩) hHeld ?_ ?_
        rotate_left
        · rintro w' ⟨s0, s1, s2, s3, s4, s5, s6, s7, s8, s9, s10, s11, s12, s13, s14⟩
          go_simp
          with_reducible rfl
        rotate_left
        · simp only [Act.put, Nat.reduceAdd, List.setIfInBounds_toArray, List.set_cons_zero, List.set_cons_succ, i64_w, i32_w]
          rfl
      simp only [Nat.reduceAdd]
    refine pure_ (i := 49) (N := some 8) (v := ?_) (a' := ?_) (mk_ 50 50) rfl rfl (any_of HT_.out (by kernel_rfl)) (fun _ _ _ h => h) (Or.inl ⟨by rfl, ?_⟩) ?_ ?_
    rotate_left
    · intro w'
      go_simp
      with_reducible rfl
    rotate_left
    · simp only [Act.put, Nat.reduceAdd, List.setIfInBounds_toArray, List.set_cons_zero, List.set_cons_succ, i64_w, i32_w]
      rfl
    refine done_ (done_of HT_.out (by kernel_rfl)) ?_
    try go_wp2
    go_ret
    exact ⟨rfl, HB5.out⟩
  rw [if_pos e1] at h
  rw [e1] at a1_
  have A1 := Aside0.mk a1_
  clear a1_ e1
  obtain ⟨t2, a2_, h⟩ := Option.bind_eq_some_iff.mp h
  by_cases e2 : t2 = true
  case neg =>
    rw [if_neg e2] at h
    obtain rfl := Option.some.inj h
    rw [Bool.eq_false_iff.mpr e2] at a2_
    have A2 := Aside0.mk a2_
    clear a2_ h e2
    go_enter Try.func16, Try.ntmps16
    go_wp2_with (first
        | ((with_reducible refine gate_dst (N := 4) rfl ?_); (try (refine gate_guard (by rfl) ?_; dsimp only)); refine box_event ?hg (N := 4) ?hd (cs := #[.int .i64 a0_0, .slice A0_1 l0_1.length c0_1]) (t := 24) ?hr ?_; (case hd => rfl); (case hg => rfl); (case hr => first | (go_simp; done) | (go_simp; rfl)); intro gm hg w1 hbox hb; have BM1 := Aside0.mk hbox; have HB1 := Aside0.mk hb; clear hg hbox hb)
        | ((with_reducible refine gate_dst (N := 5) rfl ?_); (try (refine gate_guard (by rfl) ?_; dsimp only)); refine box_event ?hg (N := 5) ?hd (cs := #[.int .i64 a1_0, .slice A1_1 l1_1.length c1_1]) (t := 27) ?hr ?_; (case hd => rfl); (case hg => rfl); (case hr => first | (go_simp; done) | (go_simp; rfl)); intro gp hg w2 hbox hb; have BM2 := Aside0.mk (blk_below BM1.out hb); have BP2 := Aside0.mk hbox; have HB2 := Aside0.mk (below_step HB1.out hb); clear hg hbox hb)
        | ((with_reducible refine gate_dst (N := 7) rfl ?_); (try (refine gate_guard (by rfl) ?_; dsimp only)); refine box_event ?hg (N := 7) ?hd (cs := #[.int .i64 a3_0, .int .i64 a3_1, .int .i64 a3_2, .int .i64 a3_3, .int .i64 a3_4, .int .i64 a3_5, .int .i64 a3_6, .int .i64 a3_7, .int .i64 a3_8, .int .i64 a3_9, .slice A3_10 l3_10.length c3_10]) (t := 31) ?hr ?_; (case hd => rfl); (case hg => rfl); (case hr => first | (go_simp; done) | (go_simp; rfl)); intro ga hg w3 hbox hb; have BM3 := Aside0.mk (blk_below BM2.out hb); have BP3 := Aside0.mk (blk_below BP2.out hb); have BA3 := Aside0.mk hbox; have HB3 := Aside0.mk (below_step HB2.out hb); clear hg hbox hb))
    have BM4 := Aside0.mk (blk_drew BM3.out)
    have BP4 := Aside0.mk (blk_drew BP3.out)
    have BA4 := Aside0.mk (blk_drew BA3.out)
    have HB4 := Aside0.mk (below_drew1 HB3.out)
    refine start_ (n := 50) (S := fun w' => w'.cell? ⟨gm, 0, none⟩ = some (.int .i64 a0_0) ∧ w'.cell? ⟨gm, 1, none⟩ = some (.slice A0_1 l0_1.length c0_1) ∧ w'.cell? ⟨gp, 0, none⟩ = some (.int .i64 a1_0) ∧ w'.cell? ⟨gp, 1, none⟩ = some (.slice A1_1 l1_1.length c1_1) ∧ w'.cell? ⟨ga, 0, none⟩ = some (.int .i64 a3_0) ∧ w'.cell? ⟨ga, 1, none⟩ = some (.int .i64 a3_1) ∧ w'.cell? ⟨ga, 2, none⟩ = some (.int .i64 a3_2) ∧ w'.cell? ⟨ga, 3, none⟩ = some (.int .i64 a3_3) ∧ w'.cell? ⟨ga, 4, none⟩ = some (.int .i64 a3_4) ∧ w'.cell? ⟨ga, 5, none⟩ = some (.int .i64 a3_5) ∧ w'.cell? ⟨ga, 6, none⟩ = some (.int .i64 a3_6) ∧ w'.cell? ⟨ga, 7, none⟩ = some (.int .i64 a3_7) ∧ w'.cell? ⟨ga, 8, none⟩ = some (.int .i64 a3_8) ∧ w'.cell? ⟨ga, 9, none⟩ = some (.int .i64 a3_9) ∧ w'.cell? ⟨ga, 10, none⟩ = some (.slice A3_10 l3_10.length c3_10)) (ds := []) (mk_ 0 50) (by kernel_rfl) rfl (by kernel_rfl) ⟨(blk_cell BM4.out 0).trans rfl, (blk_cell BM4.out 1).trans rfl, (blk_cell BP4.out 0).trans rfl, (blk_cell BP4.out 1).trans rfl, (blk_cell BA4.out 0).trans rfl, (blk_cell BA4.out 1).trans rfl, (blk_cell BA4.out 2).trans rfl, (blk_cell BA4.out 3).trans rfl, (blk_cell BA4.out 4).trans rfl, (blk_cell BA4.out 5).trans rfl, (blk_cell BA4.out 6).trans rfl, (blk_cell BA4.out 7).trans rfl, (blk_cell BA4.out 8).trans rfl, (blk_cell BA4.out 9).trans rfl, (blk_cell BA4.out 10).trans rfl⟩ (fun hHeld => ?_)
    refine with_tabW node_fits.tab1 node_fits.bits1 (fun HT_ HW_ => ?_)
    generalize w3.drew = w4 at BM4 BP4 BA4 HB4 hHeld ⊢
    clear BM3 BP3 BA3 HB3 BM2 BP2 HB2 BM1 HB1
    iterate 1
      first
      | refine pureF_ (v := undef) (a' := ?_) rfl rfl (any_of HT_.out (by kernel_rfl)) (fun _ _ _ h => h) (Or.inr ⟨by rfl, rfl⟩) ?_ ?_
        rotate_left
        · simp only [Act.put, Nat.reduceAdd, List.setIfInBounds_toArray, List.set_cons_zero, List.set_cons_succ, i64_w, i32_w]
          rfl
      | refine pureF_ (v := ?_) (a' := ?_) rfl rfl (any_of HT_.out (by kernel_rfl)) (fun _ _ _ h => h) (Or.inl ⟨by rfl, ?_⟩) ?_ ?_
        rotate_left
        · intro w'
          go_simp
          with_reducible rfl
        rotate_left
        · simp only [Act.put, Nat.reduceAdd, List.setIfInBounds_toArray, List.set_cons_zero, List.set_cons_succ, i64_w, i32_w]
          rfl
      | refine takeF_ (v := ?_) (a' := ?_) rfl rfl (take_ofW HT_.out HW_.out (by kernel_rfl)) (fun _ _ _ h => h) (Or.inl ⟨by rfl, ?_⟩) hHeld ?_ ?_
        rotate_left
        · rintro w' ⟨s0, s1, s2, s3, s4, s5, s6, s7, s8, s9, s10, s11, s12, s13, s14⟩
          go_simp
          with_reducible rfl
        rotate_left
        · simp only [Act.put, Nat.reduceAdd, List.setIfInBounds_toArray, List.set_cons_zero, List.set_cons_succ, i64_w, i32_w]
          rfl
      simp only [Nat.reduceAdd]
    refine oneF_ rfl rfl (one_of HT_.out (by kernel_rfl)) (by simp) (fun K hK => ?_)
    refine goes_ Try.func29 (by kernel_rfl) rfl #[.agg #[.int .i64 a0_0, .slice A0_1 l0_1.length c0_1]] (by rfl) rfl rfl (by (try simp only [List.map_toArray, List.map_cons, List.map_nil]); first | done | rfl) ?_
    refine (model_Right.calls _ _ _ l0_1 true _ (Kd.C_below HR0.out HB4.out) HC0.out A1.out).mono ?_
    rintro e w5 ⟨rfl, hb⟩
    refine ⟨_, rfl, ?_⟩
    have BM5 := Aside0.mk (blk_below BM4.out hb)
    have BP5 := Aside0.mk (blk_below BP4.out hb)
    have BA5 := Aside0.mk (blk_below BA4.out hb)
    have HB5 := Aside0.mk (below_step HB4.out hb)
    clear hb hHeld
    refine hK.out _ _ ⟨(blk_cell BM5.out 0).trans rfl, (blk_cell BM5.out 1).trans rfl, (blk_cell BP5.out 0).trans rfl, (blk_cell BP5.out 1).trans rfl, (blk_cell BA5.out 0).trans rfl, (blk_cell BA5.out 1).trans rfl, (blk_cell BA5.out 2).trans rfl, (blk_cell BA5.out 3).trans rfl, (blk_cell BA5.out 4).trans rfl, (blk_cell BA5.out 5).trans rfl, (blk_cell BA5.out 6).trans rfl, (blk_cell BA5.out 7).trans rfl, (blk_cell BA5.out 8).trans rfl, (blk_cell BA5.out 9).trans rfl, (blk_cell BA5.out 10).trans rfl⟩ (fun hHeld => ?_)
    clear hK K
    refine norm_ (a' := ?_) ?_ ?_
    rotate_left
    · show Act.put _ (some 10) _ = _
      simp only [Act.put, Nat.reduceAdd, List.setIfInBounds_toArray, List.set_cons_zero, List.set_cons_succ, i64_w, i32_w]
      rfl
    simp only [Nat.reduceAdd]
    iterate 2
      first
      | refine pureF_ (v := undef) (a' := ?_) rfl rfl (any_of HT_.out (by kernel_rfl)) (fun _ _ _ h => h) (Or.inr ⟨by rfl, rfl⟩) ?_ ?_
        rotate_left
        · simp only [Act.put, Nat.reduceAdd, List.setIfInBounds_toArray, List.set_cons_zero, List.set_cons_succ, i64_w, i32_w]
          rfl
      | refine pureF_ (v := ?_) (a' := ?_) rfl rfl (any_of HT_.out (by kernel_rfl)) (fun _ _ _ h => h) (Or.inl ⟨by rfl, ?_⟩) ?_ ?_
        rotate_left
        · intro w'
          go_simp
          with_reducible rfl
        rotate_left
        · simp only [Act.put, Nat.reduceAdd, List.setIfInBounds_toArray, List.set_cons_zero, List.set_cons_succ, i64_w, i32_w]
          rfl
      | refine takeF_ (v := ?_) (a' := ?_) rfl rfl (take_ofW HT_.out HW_.out (by kernel_rfl)) (fun _ _ _ h => h) (Or.inl ⟨by rfl, ?_⟩) hHeld ?_ ?_
        rotate_left
        · rintro w' ⟨s0, s1, s2, s3, s4, s5, s6, s7, s8, s9, s10, s11, s12, s13, s14⟩
          go_simp
          with_reducible rfl
        rotate_left
        · simp only [Act.put, Nat.reduceAdd, List.setIfInBounds_toArray, List.set_cons_zero, List.set_cons_succ, i64_w, i32_w]
          rfl
      simp only [Nat.reduceAdd]
    refine oneF_ rfl rfl (one_of HT_.out (by kernel_rfl)) (by simp) (fun K hK => ?_)
    refine goes_ Try.func30 (by kernel_rfl) rfl #[.agg #[.int .i64 a1_0, .slice A1_1 l1_1.length c1_1]] (by rfl) rfl rfl (by (try simp only [List.map_toArray, List.map_cons, List.map_nil]); first | done | rfl) ?_
    refine (place_Right.calls k _ _ _ l1_1 false _ (Kd.C_below HR1.out HB5.out) HC1.out A2.out).mono ?_
    rintro e w6 ⟨rfl, hb⟩
    refine ⟨_, rfl, ?_⟩
    have BM6 := Aside0.mk (blk_below BM5.out hb)
    have BP6 := Aside0.mk (blk_below BP5.out hb)
    have BA6 := Aside0.mk (blk_below BA5.out hb)
    have HB6 := Aside0.mk (below_step HB5.out hb)
    clear hb hHeld
    refine hK.out _ _ ⟨(blk_cell BM6.out 0).trans rfl, (blk_cell BM6.out 1).trans rfl, (blk_cell BP6.out 0).trans rfl, (blk_cell BP6.out 1).trans rfl, (blk_cell BA6.out 0).trans rfl, (blk_cell BA6.out 1).trans rfl, (blk_cell BA6.out 2).trans rfl, (blk_cell BA6.out 3).trans rfl, (blk_cell BA6.out 4).trans rfl, (blk_cell BA6.out 5).trans rfl, (blk_cell BA6.out 6).trans rfl, (blk_cell BA6.out 7).trans rfl, (blk_cell BA6.out 8).trans rfl, (blk_cell BA6.out 9).trans rfl, (blk_cell BA6.out 10).trans rfl⟩ (fun hHeld => ?_)
    clear hK K
    refine norm_ (a' := ?_) ?_ ?_
    rotate_left
    · show Act.put _ (some 13) _ = _
      simp only [Act.put, Nat.reduceAdd, List.setIfInBounds_toArray, List.set_cons_zero, List.set_cons_succ, i64_w, i32_w]
      rfl
    simp only [Nat.reduceAdd]
    iterate 44
      first
      | refine pureF_ (v := undef) (a' := ?_) rfl rfl (any_of HT_.out (by kernel_rfl)) (fun _ _ _ h => h) (Or.inr ⟨by rfl, rfl⟩) ?_ ?_
        rotate_left
        · simp only [Act.put, Nat.reduceAdd, List.setIfInBounds_toArray, List.set_cons_zero, List.set_cons_succ, i64_w, i32_w]
          rfl
      | refine pureF_ (v := ?_) (a' := ?_) rfl rfl (any_of HT_.out (by kernel_rfl)) (fun _ _ _ h => h) (Or.inl ⟨by rfl, ?_⟩) ?_ ?_
        rotate_left
        · intro w'
          go_simp
          with_reducible rfl
        rotate_left
        · simp only [Act.put, Nat.reduceAdd, List.setIfInBounds_toArray, List.set_cons_zero, List.set_cons_succ, i64_w, i32_w]
          rfl
      | refine takeF_ (v := ?_) (a' := ?_) rfl rfl (take_ofW HT_.out HW_.out (by kernel_rfl)) (fun _ _ _ h => h) (Or.inl ⟨by rfl, ?_⟩) hHeld ?_ ?_
        rotate_left
        · rintro w' ⟨s0, s1, s2, s3, s4, s5, s6, s7, s8, s9, s10, s11, s12, s13, s14⟩
          go_simp
          with_reducible rfl
        rotate_left
        · simp only [Act.put, Nat.reduceAdd, List.setIfInBounds_toArray, List.set_cons_zero, List.set_cons_succ, i64_w, i32_w]
          rfl
      simp only [Nat.reduceAdd]
    refine pure_ (i := 49) (N := some 8) (v := ?_) (a' := ?_) (mk_ 50 50) rfl rfl (any_of HT_.out (by kernel_rfl)) (fun _ _ _ h => h) (Or.inl ⟨by rfl, ?_⟩) ?_ ?_
    rotate_left
    · intro w'
      go_simp
      with_reducible rfl
    rotate_left
    · simp only [Act.put, Nat.reduceAdd, List.setIfInBounds_toArray, List.set_cons_zero, List.set_cons_succ, i64_w, i32_w]
      rfl
    refine done_ (done_of HT_.out (by kernel_rfl)) ?_
    try go_wp2
    go_ret
    exact ⟨rfl, HB6.out⟩
  rw [if_pos e2] at h
  rw [e2] at a2_
  have A2 := Aside0.mk a2_
  clear a2_ e2
  obtain ⟨t3, a3_, h⟩ := Option.bind_eq_some_iff.mp h
  by_cases e3 : t3 = true
  case neg =>
    rw [if_neg e3] at h
    obtain rfl := Option.some.inj h
    rw [Bool.eq_false_iff.mpr e3] at a3_
    have A3 := Aside0.mk a3_
    clear a3_ h e3
    go_enter Try.func16, Try.ntmps16
    go_wp2_with (first
        | ((with_reducible refine gate_dst (N := 4) rfl ?_); (try (refine gate_guard (by rfl) ?_; dsimp only)); refine box_event ?hg (N := 4) ?hd (cs := #[.int .i64 a0_0, .slice A0_1 l0_1.length c0_1]) (t := 24) ?hr ?_; (case hd => rfl); (case hg => rfl); (case hr => first | (go_simp; done) | (go_simp; rfl)); intro gm hg w1 hbox hb; have BM1 := Aside0.mk hbox; have HB1 := Aside0.mk hb; clear hg hbox hb)
        | ((with_reducible refine gate_dst (N := 5) rfl ?_); (try (refine gate_guard (by rfl) ?_; dsimp only)); refine box_event ?hg (N := 5) ?hd (cs := #[.int .i64 a1_0, .slice A1_1 l1_1.length c1_1]) (t := 27) ?hr ?_; (case hd => rfl); (case hg => rfl); (case hr => first | (go_simp; done) | (go_simp; rfl)); intro gp hg w2 hbox hb; have BM2 := Aside0.mk (blk_below BM1.out hb); have BP2 := Aside0.mk hbox; have HB2 := Aside0.mk (below_step HB1.out hb); clear hg hbox hb)
        | ((with_reducible refine gate_dst (N := 7) rfl ?_); (try (refine gate_guard (by rfl) ?_; dsimp only)); refine box_event ?hg (N := 7) ?hd (cs := #[.int .i64 a3_0, .int .i64 a3_1, .int .i64 a3_2, .int .i64 a3_3, .int .i64 a3_4, .int .i64 a3_5, .int .i64 a3_6, .int .i64 a3_7, .int .i64 a3_8, .int .i64 a3_9, .slice A3_10 l3_10.length c3_10]) (t := 31) ?hr ?_; (case hd => rfl); (case hg => rfl); (case hr => first | (go_simp; done) | (go_simp; rfl)); intro ga hg w3 hbox hb; have BM3 := Aside0.mk (blk_below BM2.out hb); have BP3 := Aside0.mk (blk_below BP2.out hb); have BA3 := Aside0.mk hbox; have HB3 := Aside0.mk (below_step HB2.out hb); clear hg hbox hb))
    have BM4 := Aside0.mk (blk_drew BM3.out)
    have BP4 := Aside0.mk (blk_drew BP3.out)
    have BA4 := Aside0.mk (blk_drew BA3.out)
    have HB4 := Aside0.mk (below_drew1 HB3.out)
    refine start_ (n := 50) (S := fun w' => w'.cell? ⟨gm, 0, none⟩ = some (.int .i64 a0_0) ∧ w'.cell? ⟨gm, 1, none⟩ = some (.slice A0_1 l0_1.length c0_1) ∧ w'.cell? ⟨gp, 0, none⟩ = some (.int .i64 a1_0) ∧ w'.cell? ⟨gp, 1, none⟩ = some (.slice A1_1 l1_1.length c1_1) ∧ w'.cell? ⟨ga, 0, none⟩ = some (.int .i64 a3_0) ∧ w'.cell? ⟨ga, 1, none⟩ = some (.int .i64 a3_1) ∧ w'.cell? ⟨ga, 2, none⟩ = some (.int .i64 a3_2) ∧ w'.cell? ⟨ga, 3, none⟩ = some (.int .i64 a3_3) ∧ w'.cell? ⟨ga, 4, none⟩ = some (.int .i64 a3_4) ∧ w'.cell? ⟨ga, 5, none⟩ = some (.int .i64 a3_5) ∧ w'.cell? ⟨ga, 6, none⟩ = some (.int .i64 a3_6) ∧ w'.cell? ⟨ga, 7, none⟩ = some (.int .i64 a3_7) ∧ w'.cell? ⟨ga, 8, none⟩ = some (.int .i64 a3_8) ∧ w'.cell? ⟨ga, 9, none⟩ = some (.int .i64 a3_9) ∧ w'.cell? ⟨ga, 10, none⟩ = some (.slice A3_10 l3_10.length c3_10)) (ds := []) (mk_ 0 50) (by kernel_rfl) rfl (by kernel_rfl) ⟨(blk_cell BM4.out 0).trans rfl, (blk_cell BM4.out 1).trans rfl, (blk_cell BP4.out 0).trans rfl, (blk_cell BP4.out 1).trans rfl, (blk_cell BA4.out 0).trans rfl, (blk_cell BA4.out 1).trans rfl, (blk_cell BA4.out 2).trans rfl, (blk_cell BA4.out 3).trans rfl, (blk_cell BA4.out 4).trans rfl, (blk_cell BA4.out 5).trans rfl, (blk_cell BA4.out 6).trans rfl, (blk_cell BA4.out 7).trans rfl, (blk_cell BA4.out 8).trans rfl, (blk_cell BA4.out 9).trans rfl, (blk_cell BA4.out 10).trans rfl⟩ (fun hHeld => ?_)
    refine with_tabW node_fits.tab1 node_fits.bits1 (fun HT_ HW_ => ?_)
    generalize w3.drew = w4 at BM4 BP4 BA4 HB4 hHeld ⊢
    clear BM3 BP3 BA3 HB3 BM2 BP2 HB2 BM1 HB1
    iterate 1
      first
      | refine pureF_ (v := undef) (a' := ?_) rfl rfl (any_of HT_.out (by kernel_rfl)) (fun _ _ _ h => h) (Or.inr ⟨by rfl, rfl⟩) ?_ ?_
        rotate_left
        · simp only [Act.put, Nat.reduceAdd, List.setIfInBounds_toArray, List.set_cons_zero, List.set_cons_succ, i64_w, i32_w]
          rfl
      | refine pureF_ (v := ?_) (a' := ?_) rfl rfl (any_of HT_.out (by kernel_rfl)) (fun _ _ _ h => h) (Or.inl ⟨by rfl, ?_⟩) ?_ ?_
        rotate_left
        · intro w'
          go_simp
          with_reducible rfl
        rotate_left
        · simp only [Act.put, Nat.reduceAdd, List.setIfInBounds_toArray, List.set_cons_zero, List.set_cons_succ, i64_w, i32_w]
          rfl
      | refine takeF_ (v := ?_) (a' := ?_) rfl rfl (take_ofW HT_.out HW_.out (by kernel_rfl)) (fun _ _ _ h => h) (Or.inl ⟨by rfl, ?_⟩) hHeld ?_ ?_
        rotate_left
        · rintro w' ⟨s0, s1, s2, s3, s4, s5, s6, s7, s8, s9, s10, s11, s12, s13, s14⟩
          go_simp
          with_reducible rfl
        rotate_left
        · simp only [Act.put, Nat.reduceAdd, List.setIfInBounds_toArray, List.set_cons_zero, List.set_cons_succ, i64_w, i32_w]
          rfl
      simp only [Nat.reduceAdd]
    refine oneF_ rfl rfl (one_of HT_.out (by kernel_rfl)) (by simp) (fun K hK => ?_)
    refine goes_ Try.func29 (by kernel_rfl) rfl #[.agg #[.int .i64 a0_0, .slice A0_1 l0_1.length c0_1]] (by rfl) rfl rfl (by (try simp only [List.map_toArray, List.map_cons, List.map_nil]); first | done | rfl) ?_
    refine (model_Right.calls _ _ _ l0_1 true _ (Kd.C_below HR0.out HB4.out) HC0.out A1.out).mono ?_
    rintro e w5 ⟨rfl, hb⟩
    refine ⟨_, rfl, ?_⟩
    have BM5 := Aside0.mk (blk_below BM4.out hb)
    have BP5 := Aside0.mk (blk_below BP4.out hb)
    have BA5 := Aside0.mk (blk_below BA4.out hb)
    have HB5 := Aside0.mk (below_step HB4.out hb)
    clear hb hHeld
    refine hK.out _ _ ⟨(blk_cell BM5.out 0).trans rfl, (blk_cell BM5.out 1).trans rfl, (blk_cell BP5.out 0).trans rfl, (blk_cell BP5.out 1).trans rfl, (blk_cell BA5.out 0).trans rfl, (blk_cell BA5.out 1).trans rfl, (blk_cell BA5.out 2).trans rfl, (blk_cell BA5.out 3).trans rfl, (blk_cell BA5.out 4).trans rfl, (blk_cell BA5.out 5).trans rfl, (blk_cell BA5.out 6).trans rfl, (blk_cell BA5.out 7).trans rfl, (blk_cell BA5.out 8).trans rfl, (blk_cell BA5.out 9).trans rfl, (blk_cell BA5.out 10).trans rfl⟩ (fun hHeld => ?_)
    clear hK K
    refine norm_ (a' := ?_) ?_ ?_
    rotate_left
    · show Act.put _ (some 10) _ = _
      simp only [Act.put, Nat.reduceAdd, List.setIfInBounds_toArray, List.set_cons_zero, List.set_cons_succ, i64_w, i32_w]
      rfl
    simp only [Nat.reduceAdd]
    iterate 2
      first
      | refine pureF_ (v := undef) (a' := ?_) rfl rfl (any_of HT_.out (by kernel_rfl)) (fun _ _ _ h => h) (Or.inr ⟨by rfl, rfl⟩) ?_ ?_
        rotate_left
        · simp only [Act.put, Nat.reduceAdd, List.setIfInBounds_toArray, List.set_cons_zero, List.set_cons_succ, i64_w, i32_w]
          rfl
      | refine pureF_ (v := ?_) (a' := ?_) rfl rfl (any_of HT_.out (by kernel_rfl)) (fun _ _ _ h => h) (Or.inl ⟨by rfl, ?_⟩) ?_ ?_
        rotate_left
        · intro w'
          go_simp
          with_reducible rfl
        rotate_left
        · simp only [Act.put, Nat.reduceAdd, List.setIfInBounds_toArray, List.set_cons_zero, List.set_cons_succ, i64_w, i32_w]
          rfl
      | refine takeF_ (v := ?_) (a' := ?_) rfl rfl (take_ofW HT_.out HW_.out (by kernel_rfl)) (fun _ _ _ h => h) (Or.inl ⟨by rfl, ?_⟩) hHeld ?_ ?_
        rotate_left
        · rintro w' ⟨s0, s1, s2, s3, s4, s5, s6, s7, s8, s9, s10, s11, s12, s13, s14⟩
          go_simp
          with_reducible rfl
        rotate_left
        · simp only [Act.put, Nat.reduceAdd, List.setIfInBounds_toArray, List.set_cons_zero, List.set_cons_succ, i64_w, i32_w]
          rfl
      simp only [Nat.reduceAdd]
    refine oneF_ rfl rfl (one_of HT_.out (by kernel_rfl)) (by simp) (fun K hK => ?_)
    refine goes_ Try.func30 (by kernel_rfl) rfl #[.agg #[.int .i64 a1_0, .slice A1_1 l1_1.length c1_1]] (by rfl) rfl rfl (by (try simp only [List.map_toArray, List.map_cons, List.map_nil]); first | done | rfl) ?_
    refine (place_Right.calls k _ _ _ l1_1 true _ (Kd.C_below HR1.out HB5.out) HC1.out A2.out).mono ?_
    rintro e w6 ⟨rfl, hb⟩
    refine ⟨_, rfl, ?_⟩
    have BM6 := Aside0.mk (blk_below BM5.out hb)
    have BP6 := Aside0.mk (blk_below BP5.out hb)
    have BA6 := Aside0.mk (blk_below BA5.out hb)
    have HB6 := Aside0.mk (below_step HB5.out hb)
    clear hb hHeld
    refine hK.out _ _ ⟨(blk_cell BM6.out 0).trans rfl, (blk_cell BM6.out 1).trans rfl, (blk_cell BP6.out 0).trans rfl, (blk_cell BP6.out 1).trans rfl, (blk_cell BA6.out 0).trans rfl, (blk_cell BA6.out 1).trans rfl, (blk_cell BA6.out 2).trans rfl, (blk_cell BA6.out 3).trans rfl, (blk_cell BA6.out 4).trans rfl, (blk_cell BA6.out 5).trans rfl, (blk_cell BA6.out 6).trans rfl, (blk_cell BA6.out 7).trans rfl, (blk_cell BA6.out 8).trans rfl, (blk_cell BA6.out 9).trans rfl, (blk_cell BA6.out 10).trans rfl⟩ (fun hHeld => ?_)
    clear hK K
    refine norm_ (a' := ?_) ?_ ?_
    rotate_left
    · show Act.put _ (some 13) _ = _
      simp only [Act.put, Nat.reduceAdd, List.setIfInBounds_toArray, List.set_cons_zero, List.set_cons_succ, i64_w, i32_w]
      rfl
    simp only [Nat.reduceAdd]
    iterate 3
      first
      | refine pureF_ (v := undef) (a' := ?_) rfl rfl (any_of HT_.out (by kernel_rfl)) (fun _ _ _ h => h) (Or.inr ⟨by rfl, rfl⟩) ?_ ?_
        rotate_left
        · simp only [Act.put, Nat.reduceAdd, List.setIfInBounds_toArray, List.set_cons_zero, List.set_cons_succ, i64_w, i32_w]
          rfl
      | refine pureF_ (v := ?_) (a' := ?_) rfl rfl (any_of HT_.out (by kernel_rfl)) (fun _ _ _ h => h) (Or.inl ⟨by rfl, ?_⟩) ?_ ?_
        rotate_left
        · intro w'
          go_simp
          with_reducible rfl
        rotate_left
        · simp only [Act.put, Nat.reduceAdd, List.setIfInBounds_toArray, List.set_cons_zero, List.set_cons_succ, i64_w, i32_w]
          rfl
      | refine takeF_ (v := ?_) (a' := ?_) rfl rfl (take_ofW HT_.out HW_.out (by kernel_rfl)) (fun _ _ _ h => h) (Or.inl ⟨by rfl, ?_⟩) hHeld ?_ ?_
        rotate_left
        · rintro w' ⟨s0, s1, s2, s3, s4, s5, s6, s7, s8, s9, s10, s11, s12, s13, s14⟩
          go_simp
          with_reducible rfl
        rotate_left
        · simp only [Act.put, Nat.reduceAdd, List.setIfInBounds_toArray, List.set_cons_zero, List.set_cons_succ, i64_w, i32_w]
          rfl
      simp only [Nat.reduceAdd]
    refine oneF_ rfl rfl (one_of HT_.out (by kernel_rfl)) (by simp) (fun K hK => ?_)
    refine goes_ Try.func31 (by kernel_rfl) rfl #[.agg #[.int .i64 a3_0, .int .i64 a3_1, .int .i64 a3_2, .int .i64 a3_3, .int .i64 a3_4, .int .i64 a3_5, .int .i64 a3_6, .int .i64 a3_7, .int .i64 a3_8, .int .i64 a3_9, .slice A3_10 l3_10.length c3_10]] (by rfl) rfl rfl (by (try simp only [List.map_toArray, List.map_cons, List.map_nil]); first | done | rfl) ?_
    refine (wire_Right.calls k a3_0 a3_1 a3_2 a3_3 a3_4 a3_5 a3_6 a3_7 a3_8 a3_9 _ _ l3_10 false _ (Kd.C_below HR3.out HB6.out) HC3.out A3.out).mono ?_
    rintro e w7 ⟨rfl, hb⟩
    refine ⟨_, rfl, ?_⟩
    have BM7 := Aside0.mk (blk_below BM6.out hb)
    have BP7 := Aside0.mk (blk_below BP6.out hb)
    have BA7 := Aside0.mk (blk_below BA6.out hb)
    have HB7 := Aside0.mk (below_step HB6.out hb)
    clear hb hHeld
    refine hK.out _ _ ⟨(blk_cell BM7.out 0).trans rfl, (blk_cell BM7.out 1).trans rfl, (blk_cell BP7.out 0).trans rfl, (blk_cell BP7.out 1).trans rfl, (blk_cell BA7.out 0).trans rfl, (blk_cell BA7.out 1).trans rfl, (blk_cell BA7.out 2).trans rfl, (blk_cell BA7.out 3).trans rfl, (blk_cell BA7.out 4).trans rfl, (blk_cell BA7.out 5).trans rfl, (blk_cell BA7.out 6).trans rfl, (blk_cell BA7.out 7).trans rfl, (blk_cell BA7.out 8).trans rfl, (blk_cell BA7.out 9).trans rfl, (blk_cell BA7.out 10).trans rfl⟩ (fun hHeld => ?_)
    clear hK K
    refine norm_ (a' := ?_) ?_ ?_
    rotate_left
    · show Act.put _ (some 17) _ = _
      simp only [Act.put, Nat.reduceAdd, List.setIfInBounds_toArray, List.set_cons_zero, List.set_cons_succ, i64_w, i32_w]
      rfl
    simp only [Nat.reduceAdd]
    iterate 40
      first
      | refine pureF_ (v := undef) (a' := ?_) rfl rfl (any_of HT_.out (by kernel_rfl)) (fun _ _ _ h => h) (Or.inr ⟨by rfl, rfl⟩) ?_ ?_
        rotate_left
        · simp only [Act.put, Nat.reduceAdd, List.setIfInBounds_toArray, List.set_cons_zero, List.set_cons_succ, i64_w, i32_w]
          rfl
      | refine pureF_ (v := ?_) (a' := ?_) rfl rfl (any_of HT_.out (by kernel_rfl)) (fun _ _ _ h => h) (Or.inl ⟨by rfl, ?_⟩) ?_ ?_
        rotate_left
        · intro w'
          go_simp
          with_reducible rfl
        rotate_left
        · simp only [Act.put, Nat.reduceAdd, List.setIfInBounds_toArray, List.set_cons_zero, List.set_cons_succ, i64_w, i32_w]
          rfl
      | refine takeF_ (v := ?_) (a' := ?_) rfl rfl (take_ofW HT_.out HW_.out (by kernel_rfl)) (fun _ _ _ h => h) (Or.inl ⟨by rfl, ?_⟩) hHeld ?_ ?_
        rotate_left
        · rintro w' ⟨s0, s1, s2, s3, s4, s5, s6, s7, s8, s9, s10, s11, s12, s13, s14⟩
          go_simp
          with_reducible rfl
        rotate_left
        · simp only [Act.put, Nat.reduceAdd, List.setIfInBounds_toArray, List.set_cons_zero, List.set_cons_succ, i64_w, i32_w]
          rfl
      simp only [Nat.reduceAdd]
    refine pure_ (i := 49) (N := some 8) (v := ?_) (a' := ?_) (mk_ 50 50) rfl rfl (any_of HT_.out (by kernel_rfl)) (fun _ _ _ h => h) (Or.inl ⟨by rfl, ?_⟩) ?_ ?_
    rotate_left
    · intro w'
      go_simp
      with_reducible rfl
    rotate_left
    · simp only [Act.put, Nat.reduceAdd, List.setIfInBounds_toArray, List.set_cons_zero, List.set_cons_succ, i64_w, i32_w]
      rfl
    refine done_ (done_of HT_.out (by kernel_rfl)) ?_
    try go_wp2
    go_ret
    exact ⟨rfl, HB7.out⟩
  rw [if_pos e3] at h
  rw [e3] at a3_
  have A3 := Aside0.mk a3_
  clear a3_ e3
  by_cases q1 : a3_0 = 1
  case neg =>
    rw [if_neg q1] at h
    obtain rfl := Option.some.inj h
    have k1 : (a3_0 == 1) = false := beq_eq_false_iff_ne.mpr q1
    clear h q1
    go_enter Try.func16, Try.ntmps16
    go_wp2_with (first
        | ((with_reducible refine gate_dst (N := 4) rfl ?_); (try (refine gate_guard (by rfl) ?_; dsimp only)); refine box_event ?hg (N := 4) ?hd (cs := #[.int .i64 a0_0, .slice A0_1 l0_1.length c0_1]) (t := 24) ?hr ?_; (case hd => rfl); (case hg => rfl); (case hr => first | (go_simp; done) | (go_simp; rfl)); intro gm hg w1 hbox hb; have BM1 := Aside0.mk hbox; have HB1 := Aside0.mk hb; clear hg hbox hb)
        | ((with_reducible refine gate_dst (N := 5) rfl ?_); (try (refine gate_guard (by rfl) ?_; dsimp only)); refine box_event ?hg (N := 5) ?hd (cs := #[.int .i64 a1_0, .slice A1_1 l1_1.length c1_1]) (t := 27) ?hr ?_; (case hd => rfl); (case hg => rfl); (case hr => first | (go_simp; done) | (go_simp; rfl)); intro gp hg w2 hbox hb; have BM2 := Aside0.mk (blk_below BM1.out hb); have BP2 := Aside0.mk hbox; have HB2 := Aside0.mk (below_step HB1.out hb); clear hg hbox hb)
        | ((with_reducible refine gate_dst (N := 7) rfl ?_); (try (refine gate_guard (by rfl) ?_; dsimp only)); refine box_event ?hg (N := 7) ?hd (cs := #[.int .i64 a3_0, .int .i64 a3_1, .int .i64 a3_2, .int .i64 a3_3, .int .i64 a3_4, .int .i64 a3_5, .int .i64 a3_6, .int .i64 a3_7, .int .i64 a3_8, .int .i64 a3_9, .slice A3_10 l3_10.length c3_10]) (t := 31) ?hr ?_; (case hd => rfl); (case hg => rfl); (case hr => first | (go_simp; done) | (go_simp; rfl)); intro ga hg w3 hbox hb; have BM3 := Aside0.mk (blk_below BM2.out hb); have BP3 := Aside0.mk (blk_below BP2.out hb); have BA3 := Aside0.mk hbox; have HB3 := Aside0.mk (below_step HB2.out hb); clear hg hbox hb))
    have BM4 := Aside0.mk (blk_drew BM3.out)
    have BP4 := Aside0.mk (blk_drew BP3.out)
    have BA4 := Aside0.mk (blk_drew BA3.out)
    have HB4 := Aside0.mk (below_drew1 HB3.out)
    refine start_ (n := 50) (S := fun w' => w'.cell? ⟨gm, 0, none⟩ = some (.int .i64 a0_0) ∧ w'.cell? ⟨gm, 1, none⟩ = some (.slice A0_1 l0_1.length c0_1) ∧ w'.cell? ⟨gp, 0, none⟩ = some (.int .i64 a1_0) ∧ w'.cell? ⟨gp, 1, none⟩ = some (.slice A1_1 l1_1.length c1_1) ∧ w'.cell? ⟨ga, 0, none⟩ = some (.int .i64 a3_0) ∧ w'.cell? ⟨ga, 1, none⟩ = some (.int .i64 a3_1) ∧ w'.cell? ⟨ga, 2, none⟩ = some (.int .i64 a3_2) ∧ w'.cell? ⟨ga, 3, none⟩ = some (.int .i64 a3_3) ∧ w'.cell? ⟨ga, 4, none⟩ = some (.int .i64 a3_4) ∧ w'.cell? ⟨ga, 5, none⟩ = some (.int .i64 a3_5) ∧ w'.cell? ⟨ga, 6, none⟩ = some (.int .i64 a3_6) ∧ w'.cell? ⟨ga, 7, none⟩ = some (.int .i64 a3_7) ∧ w'.cell? ⟨ga, 8, none⟩ = some (.int .i64 a3_8) ∧ w'.cell? ⟨ga, 9, none⟩ = some (.int .i64 a3_9) ∧ w'.cell? ⟨ga, 10, none⟩ = some (.slice A3_10 l3_10.length c3_10)) (ds := []) (mk_ 0 50) (by kernel_rfl) rfl (by kernel_rfl) ⟨(blk_cell BM4.out 0).trans rfl, (blk_cell BM4.out 1).trans rfl, (blk_cell BP4.out 0).trans rfl, (blk_cell BP4.out 1).trans rfl, (blk_cell BA4.out 0).trans rfl, (blk_cell BA4.out 1).trans rfl, (blk_cell BA4.out 2).trans rfl, (blk_cell BA4.out 3).trans rfl, (blk_cell BA4.out 4).trans rfl, (blk_cell BA4.out 5).trans rfl, (blk_cell BA4.out 6).trans rfl, (blk_cell BA4.out 7).trans rfl, (blk_cell BA4.out 8).trans rfl, (blk_cell BA4.out 9).trans rfl, (blk_cell BA4.out 10).trans rfl⟩ (fun hHeld => ?_)
    refine with_tabW node_fits.tab1 node_fits.bits1 (fun HT_ HW_ => ?_)
    generalize w3.drew = w4 at BM4 BP4 BA4 HB4 hHeld ⊢
    clear BM3 BP3 BA3 HB3 BM2 BP2 HB2 BM1 HB1
    iterate 1
      first
      | refine pureF_ (v := undef) (a' := ?_) rfl rfl (any_of HT_.out (by kernel_rfl)) (fun _ _ _ h => h) (Or.inr ⟨by rfl, rfl⟩) ?_ ?_
        rotate_left
        · simp only [Act.put, Nat.reduceAdd, List.setIfInBounds_toArray, List.set_cons_zero, List.set_cons_succ, i64_w, i32_w]
          rfl
      | refine pureF_ (v := ?_) (a' := ?_) rfl rfl (any_of HT_.out (by kernel_rfl)) (fun _ _ _ h => h) (Or.inl ⟨by rfl, ?_⟩) ?_ ?_
        rotate_left
        · intro w'
          go_simp
          with_reducible rfl
        rotate_left
        · simp only [Act.put, Nat.reduceAdd, List.setIfInBounds_toArray, List.set_cons_zero, List.set_cons_succ, i64_w, i32_w]
          rfl
      | refine takeF_ (v := ?_) (a' := ?_) rfl rfl (take_ofW HT_.out HW_.out (by kernel_rfl)) (fun _ _ _ h => h) (Or.inl ⟨by rfl, ?_⟩) hHeld ?_ ?_
        rotate_left
        · rintro w' ⟨s0, s1, s2, s3, s4, s5, s6, s7, s8, s9, s10, s11, s12, s13, s14⟩
          go_simp
          with_reducible rfl
        rotate_left
        · simp only [Act.put, Nat.reduceAdd, List.setIfInBounds_toArray, List.set_cons_zero, List.set_cons_succ, i64_w, i32_w]
          rfl
      simp only [Nat.reduceAdd]
    refine oneF_ rfl rfl (one_of HT_.out (by kernel_rfl)) (by simp) (fun K hK => ?_)
    refine goes_ Try.func29 (by kernel_rfl) rfl #[.agg #[.int .i64 a0_0, .slice A0_1 l0_1.length c0_1]] (by rfl) rfl rfl (by (try simp only [List.map_toArray, List.map_cons, List.map_nil]); first | done | rfl) ?_
    refine (model_Right.calls _ _ _ l0_1 true _ (Kd.C_below HR0.out HB4.out) HC0.out A1.out).mono ?_
    rintro e w5 ⟨rfl, hb⟩
    refine ⟨_, rfl, ?_⟩
    have BM5 := Aside0.mk (blk_below BM4.out hb)
    have BP5 := Aside0.mk (blk_below BP4.out hb)
    have BA5 := Aside0.mk (blk_below BA4.out hb)
    have HB5 := Aside0.mk (below_step HB4.out hb)
    clear hb hHeld
    refine hK.out _ _ ⟨(blk_cell BM5.out 0).trans rfl, (blk_cell BM5.out 1).trans rfl, (blk_cell BP5.out 0).trans rfl, (blk_cell BP5.out 1).trans rfl, (blk_cell BA5.out 0).trans rfl, (blk_cell BA5.out 1).trans rfl, (blk_cell BA5.out 2).trans rfl, (blk_cell BA5.out 3).trans rfl, (blk_cell BA5.out 4).trans rfl, (blk_cell BA5.out 5).trans rfl, (blk_cell BA5.out 6).trans rfl, (blk_cell BA5.out 7).trans rfl, (blk_cell BA5.out 8).trans rfl, (blk_cell BA5.out 9).trans rfl, (blk_cell BA5.out 10).trans rfl⟩ (fun hHeld => ?_)
    clear hK K
    refine norm_ (a' := ?_) ?_ ?_
    rotate_left
    · show Act.put _ (some 10) _ = _
      simp only [Act.put, Nat.reduceAdd, List.setIfInBounds_toArray, List.set_cons_zero, List.set_cons_succ, i64_w, i32_w]
      rfl
    simp only [Nat.reduceAdd]
    iterate 2
      first
      | refine pureF_ (v := undef) (a' := ?_) rfl rfl (any_of HT_.out (by kernel_rfl)) (fun _ _ _ h => h) (Or.inr ⟨by rfl, rfl⟩) ?_ ?_
        rotate_left
        · simp only [Act.put, Nat.reduceAdd, List.setIfInBounds_toArray, List.set_cons_zero, List.set_cons_succ, i64_w, i32_w]
          rfl
      | refine pureF_ (v := ?_) (a' := ?_) rfl rfl (any_of HT_.out (by kernel_rfl)) (fun _ _ _ h => h) (Or.inl ⟨by rfl, ?_⟩) ?_ ?_
        rotate_left
        · intro w'
          go_simp
          with_reducible rfl
        rotate_left
        · simp only [Act.put, Nat.reduceAdd, List.setIfInBounds_toArray, List.set_cons_zero, List.set_cons_succ, i64_w, i32_w]
          rfl
      | refine takeF_ (v := ?_) (a' := ?_) rfl rfl (take_ofW HT_.out HW_.out (by kernel_rfl)) (fun _ _ _ h => h) (Or.inl ⟨by rfl, ?_⟩) hHeld ?_ ?_
        rotate_left
        · rintro w' ⟨s0, s1, s2, s3, s4, s5, s6, s7, s8, s9, s10, s11, s12, s13, s14⟩
          go_simp
          with_reducible rfl
        rotate_left
        · simp only [Act.put, Nat.reduceAdd, List.setIfInBounds_toArray, List.set_cons_zero, List.set_cons_succ, i64_w, i32_w]
          rfl
      simp only [Nat.reduceAdd]
    refine oneF_ rfl rfl (one_of HT_.out (by kernel_rfl)) (by simp) (fun K hK => ?_)
    refine goes_ Try.func30 (by kernel_rfl) rfl #[.agg #[.int .i64 a1_0, .slice A1_1 l1_1.length c1_1]] (by rfl) rfl rfl (by (try simp only [List.map_toArray, List.map_cons, List.map_nil]); first | done | rfl) ?_
    refine (place_Right.calls k _ _ _ l1_1 true _ (Kd.C_below HR1.out HB5.out) HC1.out A2.out).mono ?_
    rintro e w6 ⟨rfl, hb⟩
    refine ⟨_, rfl, ?_⟩
    have BM6 := Aside0.mk (blk_below BM5.out hb)
    have BP6 := Aside0.mk (blk_below BP5.out hb)
    have BA6 := Aside0.mk (blk_below BA5.out hb)
    have HB6 := Aside0.mk (below_step HB5.out hb)
    clear hb hHeld
    refine hK.out _ _ ⟨(blk_cell BM6.out 0).trans rfl, (blk_cell BM6.out 1).trans rfl, (blk_cell BP6.out 0).trans rfl, (blk_cell BP6.out 1).trans rfl, (blk_cell BA6.out 0).trans rfl, (blk_cell BA6.out 1).trans rfl, (blk_cell BA6.out 2).trans rfl, (blk_cell BA6.out 3).trans rfl, (blk_cell BA6.out 4).trans rfl, (blk_cell BA6.out 5).trans rfl, (blk_cell BA6.out 6).trans rfl, (blk_cell BA6.out 7).trans rfl, (blk_cell BA6.out 8).trans rfl, (blk_cell BA6.out 9).trans rfl, (blk_cell BA6.out 10).trans rfl⟩ (fun hHeld => ?_)
    clear hK K
    refine norm_ (a' := ?_) ?_ ?_
    rotate_left
    · show Act.put _ (some 13) _ = _
      simp only [Act.put, Nat.reduceAdd, List.setIfInBounds_toArray, List.set_cons_zero, List.set_cons_succ, i64_w, i32_w]
      rfl
    simp only [Nat.reduceAdd]
    iterate 3
      first
      | refine pureF_ (v := undef) (a' := ?_) rfl rfl (any_of HT_.out (by kernel_rfl)) (fun _ _ _ h => h) (Or.inr ⟨by rfl, rfl⟩) ?_ ?_
        rotate_left
        · simp only [Act.put, Nat.reduceAdd, List.setIfInBounds_toArray, List.set_cons_zero, List.set_cons_succ, i64_w, i32_w]
          rfl
      | refine pureF_ (v := ?_) (a' := ?_) rfl rfl (any_of HT_.out (by kernel_rfl)) (fun _ _ _ h => h) (Or.inl ⟨by rfl, ?_⟩) ?_ ?_
        rotate_left
        · intro w'
          go_simp
          with_reducible rfl
        rotate_left
        · simp only [Act.put, Nat.reduceAdd, List.setIfInBounds_toArray, List.set_cons_zero, List.set_cons_succ, i64_w, i32_w]
          rfl
      | refine takeF_ (v := ?_) (a' := ?_) rfl rfl (take_ofW HT_.out HW_.out (by kernel_rfl)) (fun _ _ _ h => h) (Or.inl ⟨by rfl, ?_⟩) hHeld ?_ ?_
        rotate_left
        · rintro w' ⟨s0, s1, s2, s3, s4, s5, s6, s7, s8, s9, s10, s11, s12, s13, s14⟩
          go_simp
          with_reducible rfl
        rotate_left
        · simp only [Act.put, Nat.reduceAdd, List.setIfInBounds_toArray, List.set_cons_zero, List.set_cons_succ, i64_w, i32_w]
          rfl
      simp only [Nat.reduceAdd]
    refine oneF_ rfl rfl (one_of HT_.out (by kernel_rfl)) (by simp) (fun K hK => ?_)
    refine goes_ Try.func31 (by kernel_rfl) rfl #[.agg #[.int .i64 a3_0, .int .i64 a3_1, .int .i64 a3_2, .int .i64 a3_3, .int .i64 a3_4, .int .i64 a3_5, .int .i64 a3_6, .int .i64 a3_7, .int .i64 a3_8, .int .i64 a3_9, .slice A3_10 l3_10.length c3_10]] (by rfl) rfl rfl (by (try simp only [List.map_toArray, List.map_cons, List.map_nil]); first | done | rfl) ?_
    refine (wire_Right.calls k a3_0 a3_1 a3_2 a3_3 a3_4 a3_5 a3_6 a3_7 a3_8 a3_9 _ _ l3_10 true _ (Kd.C_below HR3.out HB6.out) HC3.out A3.out).mono ?_
    rintro e w7 ⟨rfl, hb⟩
    refine ⟨_, rfl, ?_⟩
    have BM7 := Aside0.mk (blk_below BM6.out hb)
    have BP7 := Aside0.mk (blk_below BP6.out hb)
    have BA7 := Aside0.mk (blk_below BA6.out hb)
    have HB7 := Aside0.mk (below_step HB6.out hb)
    clear hb hHeld
    refine hK.out _ _ ⟨(blk_cell BM7.out 0).trans rfl, (blk_cell BM7.out 1).trans rfl, (blk_cell BP7.out 0).trans rfl, (blk_cell BP7.out 1).trans rfl, (blk_cell BA7.out 0).trans rfl, (blk_cell BA7.out 1).trans rfl, (blk_cell BA7.out 2).trans rfl, (blk_cell BA7.out 3).trans rfl, (blk_cell BA7.out 4).trans rfl, (blk_cell BA7.out 5).trans rfl, (blk_cell BA7.out 6).trans rfl, (blk_cell BA7.out 7).trans rfl, (blk_cell BA7.out 8).trans rfl, (blk_cell BA7.out 9).trans rfl, (blk_cell BA7.out 10).trans rfl⟩ (fun hHeld => ?_)
    clear hK K
    refine norm_ (a' := ?_) ?_ ?_
    rotate_left
    · show Act.put _ (some 17) _ = _
      simp only [Act.put, Nat.reduceAdd, List.setIfInBounds_toArray, List.set_cons_zero, List.set_cons_succ, i64_w, i32_w]
      rfl
    simp only [Nat.reduceAdd]
    iterate 40
      first
      | refine pureF_ (v := undef) (a' := ?_) rfl rfl (any_of HT_.out (by kernel_rfl)) (fun _ _ _ h => h) (Or.inr ⟨by rfl, rfl⟩) ?_ ?_
        rotate_left
        · simp only [Act.put, Nat.reduceAdd, List.setIfInBounds_toArray, List.set_cons_zero, List.set_cons_succ, i64_w, i32_w]
          rfl
      | refine pureF_ (v := ?_) (a' := ?_) rfl rfl (any_of HT_.out (by kernel_rfl)) (fun _ _ _ h => h) (Or.inl ⟨by rfl, ?_⟩) ?_ ?_
        rotate_left
        · intro w'
          go_simp
          with_reducible rfl
        rotate_left
        · simp only [Act.put, Nat.reduceAdd, List.setIfInBounds_toArray, List.set_cons_zero, List.set_cons_succ, i64_w, i32_w]
          rfl
      | refine takeF_ (v := ?_) (a' := ?_) rfl rfl (take_ofW HT_.out HW_.out (by kernel_rfl)) (fun _ _ _ h => h) (Or.inl ⟨by rfl, ?_⟩) hHeld ?_ ?_
        rotate_left
        · rintro w' ⟨s0, s1, s2, s3, s4, s5, s6, s7, s8, s9, s10, s11, s12, s13, s14⟩
          go_simp
          with_reducible rfl
        rotate_left
        · simp only [Act.put, Nat.reduceAdd, List.setIfInBounds_toArray, List.set_cons_zero, List.set_cons_succ, i64_w, i32_w]
          rfl
      simp only [Nat.reduceAdd]
    refine pure_ (i := 49) (N := some 8) (v := ?_) (a' := ?_) (mk_ 50 50) rfl rfl (any_of HT_.out (by kernel_rfl)) (fun _ _ _ h => h) (Or.inl ⟨by rfl, ?_⟩) ?_ ?_
    rotate_left
    · intro w'
      go_simp
      with_reducible rfl
    rotate_left
    · simp only [Act.put, Nat.reduceAdd, List.setIfInBounds_toArray, List.set_cons_zero, List.set_cons_succ, i64_w, i32_w]
      rfl
    refine done_ (done_of HT_.out (by kernel_rfl)) ?_
    try go_wp2
    go_ret
    exact ⟨rfl, HB7.out⟩
  rw [if_pos q1] at h
  have k1 : (a3_0 == 1) = true := beq_iff_eq.mpr q1
  clear q1
  by_cases q2 : a3_2 = a2
  case neg =>
    rw [if_neg q2] at h
    obtain rfl := Option.some.inj h
    have k2 : (a3_2 == a2) = false := beq_eq_false_iff_ne.mpr q2
    clear h q2
    go_enter Try.func16, Try.ntmps16
    go_wp2_with (first
        | ((with_reducible refine gate_dst (N := 4) rfl ?_); (try (refine gate_guard (by rfl) ?_; dsimp only)); refine box_event ?hg (N := 4) ?hd (cs := #[.int .i64 a0_0, .slice A0_1 l0_1.length c0_1]) (t := 24) ?hr ?_; (case hd => rfl); (case hg => rfl); (case hr => first | (go_simp; done) | (go_simp; rfl)); intro gm hg w1 hbox hb; have BM1 := Aside0.mk hbox; have HB1 := Aside0.mk hb; clear hg hbox hb)
        | ((with_reducible refine gate_dst (N := 5) rfl ?_); (try (refine gate_guard (by rfl) ?_; dsimp only)); refine box_event ?hg (N := 5) ?hd (cs := #[.int .i64 a1_0, .slice A1_1 l1_1.length c1_1]) (t := 27) ?hr ?_; (case hd => rfl); (case hg => rfl); (case hr => first | (go_simp; done) | (go_simp; rfl)); intro gp hg w2 hbox hb; have BM2 := Aside0.mk (blk_below BM1.out hb); have BP2 := Aside0.mk hbox; have HB2 := Aside0.mk (below_step HB1.out hb); clear hg hbox hb)
        | ((with_reducible refine gate_dst (N := 7) rfl ?_); (try (refine gate_guard (by rfl) ?_; dsimp only)); refine box_event ?hg (N := 7) ?hd (cs := #[.int .i64 a3_0, .int .i64 a3_1, .int .i64 a3_2, .int .i64 a3_3, .int .i64 a3_4, .int .i64 a3_5, .int .i64 a3_6, .int .i64 a3_7, .int .i64 a3_8, .int .i64 a3_9, .slice A3_10 l3_10.length c3_10]) (t := 31) ?hr ?_; (case hd => rfl); (case hg => rfl); (case hr => first | (go_simp; done) | (go_simp; rfl)); intro ga hg w3 hbox hb; have BM3 := Aside0.mk (blk_below BM2.out hb); have BP3 := Aside0.mk (blk_below BP2.out hb); have BA3 := Aside0.mk hbox; have HB3 := Aside0.mk (below_step HB2.out hb); clear hg hbox hb))
    have BM4 := Aside0.mk (blk_drew BM3.out)
    have BP4 := Aside0.mk (blk_drew BP3.out)
    have BA4 := Aside0.mk (blk_drew BA3.out)
    have HB4 := Aside0.mk (below_drew1 HB3.out)
    refine start_ (n := 50) (S := fun w' => w'.cell? ⟨gm, 0, none⟩ = some (.int .i64 a0_0) ∧ w'.cell? ⟨gm, 1, none⟩ = some (.slice A0_1 l0_1.length c0_1) ∧ w'.cell? ⟨gp, 0, none⟩ = some (.int .i64 a1_0) ∧ w'.cell? ⟨gp, 1, none⟩ = some (.slice A1_1 l1_1.length c1_1) ∧ w'.cell? ⟨ga, 0, none⟩ = some (.int .i64 a3_0) ∧ w'.cell? ⟨ga, 1, none⟩ = some (.int .i64 a3_1) ∧ w'.cell? ⟨ga, 2, none⟩ = some (.int .i64 a3_2) ∧ w'.cell? ⟨ga, 3, none⟩ = some (.int .i64 a3_3) ∧ w'.cell? ⟨ga, 4, none⟩ = some (.int .i64 a3_4) ∧ w'.cell? ⟨ga, 5, none⟩ = some (.int .i64 a3_5) ∧ w'.cell? ⟨ga, 6, none⟩ = some (.int .i64 a3_6) ∧ w'.cell? ⟨ga, 7, none⟩ = some (.int .i64 a3_7) ∧ w'.cell? ⟨ga, 8, none⟩ = some (.int .i64 a3_8) ∧ w'.cell? ⟨ga, 9, none⟩ = some (.int .i64 a3_9) ∧ w'.cell? ⟨ga, 10, none⟩ = some (.slice A3_10 l3_10.length c3_10)) (ds := []) (mk_ 0 50) (by kernel_rfl) rfl (by kernel_rfl) ⟨(blk_cell BM4.out 0).trans rfl, (blk_cell BM4.out 1).trans rfl, (blk_cell BP4.out 0).trans rfl, (blk_cell BP4.out 1).trans rfl, (blk_cell BA4.out 0).trans rfl, (blk_cell BA4.out 1).trans rfl, (blk_cell BA4.out 2).trans rfl, (blk_cell BA4.out 3).trans rfl, (blk_cell BA4.out 4).trans rfl, (blk_cell BA4.out 5).trans rfl, (blk_cell BA4.out 6).trans rfl, (blk_cell BA4.out 7).trans rfl, (blk_cell BA4.out 8).trans rfl, (blk_cell BA4.out 9).trans rfl, (blk_cell BA4.out 10).trans rfl⟩ (fun hHeld => ?_)
    refine with_tabW node_fits.tab1 node_fits.bits1 (fun HT_ HW_ => ?_)
    generalize w3.drew = w4 at BM4 BP4 BA4 HB4 hHeld ⊢
    clear BM3 BP3 BA3 HB3 BM2 BP2 HB2 BM1 HB1
    iterate 1
      first
      | refine pureF_ (v := undef) (a' := ?_) rfl rfl (any_of HT_.out (by kernel_rfl)) (fun _ _ _ h => h) (Or.inr ⟨by rfl, rfl⟩) ?_ ?_
        rotate_left
        · simp only [Act.put, Nat.reduceAdd, List.setIfInBounds_toArray, List.set_cons_zero, List.set_cons_succ, i64_w, i32_w]
          rfl
      | refine pureF_ (v := ?_) (a' := ?_) rfl rfl (any_of HT_.out (by kernel_rfl)) (fun _ _ _ h => h) (Or.inl ⟨by rfl, ?_⟩) ?_ ?_
        rotate_left
        · intro w'
          go_simp
          with_reducible rfl
        rotate_left
        · simp only [Act.put, Nat.reduceAdd, List.setIfInBounds_toArray, List.set_cons_zero, List.set_cons_succ, i64_w, i32_w]
          rfl
      | refine takeF_ (v := ?_) (a' := ?_) rfl rfl (take_ofW HT_.out HW_.out (by kernel_rfl)) (fun _ _ _ h => h) (Or.inl ⟨by rfl, ?_⟩) hHeld ?_ ?_
        rotate_left
        · rintro w' ⟨s0, s1, s2, s3, s4, s5, s6, s7, s8, s9, s10, s11, s12, s13, s14⟩
          go_simp
          with_reducible rfl
        rotate_left
        · simp only [Act.put, Nat.reduceAdd, List.setIfInBounds_toArray, List.set_cons_zero, List.set_cons_succ, i64_w, i32_w]
          rfl
      simp only [Nat.reduceAdd]
    refine oneF_ rfl rfl (one_of HT_.out (by kernel_rfl)) (by simp) (fun K hK => ?_)
    refine goes_ Try.func29 (by kernel_rfl) rfl #[.agg #[.int .i64 a0_0, .slice A0_1 l0_1.length c0_1]] (by rfl) rfl rfl (by (try simp only [List.map_toArray, List.map_cons, List.map_nil]); first | done | rfl) ?_
    refine (model_Right.calls _ _ _ l0_1 true _ (Kd.C_below HR0.out HB4.out) HC0.out A1.out).mono ?_
    rintro e w5 ⟨rfl, hb⟩
    refine ⟨_, rfl, ?_⟩
    have BM5 := Aside0.mk (blk_below BM4.out hb)
    have BP5 := Aside0.mk (blk_below BP4.out hb)
    have BA5 := Aside0.mk (blk_below BA4.out hb)
    have HB5 := Aside0.mk (below_step HB4.out hb)
    clear hb hHeld
    refine hK.out _ _ ⟨(blk_cell BM5.out 0).trans rfl, (blk_cell BM5.out 1).trans rfl, (blk_cell BP5.out 0).trans rfl, (blk_cell BP5.out 1).trans rfl, (blk_cell BA5.out 0).trans rfl, (blk_cell BA5.out 1).trans rfl, (blk_cell BA5.out 2).trans rfl, (blk_cell BA5.out 3).trans rfl, (blk_cell BA5.out 4).trans rfl, (blk_cell BA5.out 5).trans rfl, (blk_cell BA5.out 6).trans rfl, (blk_cell BA5.out 7).trans rfl, (blk_cell BA5.out 8).trans rfl, (blk_cell BA5.out 9).trans rfl, (blk_cell BA5.out 10).trans rfl⟩ (fun hHeld => ?_)
    clear hK K
    refine norm_ (a' := ?_) ?_ ?_
    rotate_left
    · show Act.put _ (some 10) _ = _
      simp only [Act.put, Nat.reduceAdd, List.setIfInBounds_toArray, List.set_cons_zero, List.set_cons_succ, i64_w, i32_w]
      rfl
    simp only [Nat.reduceAdd]
    iterate 2
      first
      | refine pureF_ (v := undef) (a' := ?_) rfl rfl (any_of HT_.out (by kernel_rfl)) (fun _ _ _ h => h) (Or.inr ⟨by rfl, rfl⟩) ?_ ?_
        rotate_left
        · simp only [Act.put, Nat.reduceAdd, List.setIfInBounds_toArray, List.set_cons_zero, List.set_cons_succ, i64_w, i32_w]
          rfl
      | refine pureF_ (v := ?_) (a' := ?_) rfl rfl (any_of HT_.out (by kernel_rfl)) (fun _ _ _ h => h) (Or.inl ⟨by rfl, ?_⟩) ?_ ?_
        rotate_left
        · intro w'
          go_simp
          with_reducible rfl
        rotate_left
        · simp only [Act.put, Nat.reduceAdd, List.setIfInBounds_toArray, List.set_cons_zero, List.set_cons_succ, i64_w, i32_w]
          rfl
      | refine takeF_ (v := ?_) (a' := ?_) rfl rfl (take_ofW HT_.out HW_.out (by kernel_rfl)) (fun _ _ _ h => h) (Or.inl ⟨by rfl, ?_⟩) hHeld ?_ ?_
        rotate_left
        · rintro w' ⟨s0, s1, s2, s3, s4, s5, s6, s7, s8, s9, s10, s11, s12, s13, s14⟩
          go_simp
          with_reducible rfl
        rotate_left
        · simp only [Act.put, Nat.reduceAdd, List.setIfInBounds_toArray, List.set_cons_zero, List.set_cons_succ, i64_w, i32_w]
          rfl
      simp only [Nat.reduceAdd]
    refine oneF_ rfl rfl (one_of HT_.out (by kernel_rfl)) (by simp) (fun K hK => ?_)
    refine goes_ Try.func30 (by kernel_rfl) rfl #[.agg #[.int .i64 a1_0, .slice A1_1 l1_1.length c1_1]] (by rfl) rfl rfl (by (try simp only [List.map_toArray, List.map_cons, List.map_nil]); first | done | rfl) ?_
    refine (place_Right.calls k _ _ _ l1_1 true _ (Kd.C_below HR1.out HB5.out) HC1.out A2.out).mono ?_
    rintro e w6 ⟨rfl, hb⟩
    refine ⟨_, rfl, ?_⟩
    have BM6 := Aside0.mk (blk_below BM5.out hb)
    have BP6 := Aside0.mk (blk_below BP5.out hb)
    have BA6 := Aside0.mk (blk_below BA5.out hb)
    have HB6 := Aside0.mk (below_step HB5.out hb)
    clear hb hHeld
    refine hK.out _ _ ⟨(blk_cell BM6.out 0).trans rfl, (blk_cell BM6.out 1).trans rfl, (blk_cell BP6.out 0).trans rfl, (blk_cell BP6.out 1).trans rfl, (blk_cell BA6.out 0).trans rfl, (blk_cell BA6.out 1).trans rfl, (blk_cell BA6.out 2).trans rfl, (blk_cell BA6.out 3).trans rfl, (blk_cell BA6.out 4).trans rfl, (blk_cell BA6.out 5).trans rfl, (blk_cell BA6.out 6).trans rfl, (blk_cell BA6.out 7).trans rfl, (blk_cell BA6.out 8).trans rfl, (blk_cell BA6.out 9).trans rfl, (blk_cell BA6.out 10).trans rfl⟩ (fun hHeld => ?_)
    clear hK K
    refine norm_ (a' := ?_) ?_ ?_
    rotate_left
    · show Act.put _ (some 13) _ = _
      simp only [Act.put, Nat.reduceAdd, List.setIfInBounds_toArray, List.set_cons_zero, List.set_cons_succ, i64_w, i32_w]
      rfl
    simp only [Nat.reduceAdd]
    iterate 3
      first
      | refine pureF_ (v := undef) (a' := ?_) rfl rfl (any_of HT_.out (by kernel_rfl)) (fun _ _ _ h => h) (Or.inr ⟨by rfl, rfl⟩) ?_ ?_
        rotate_left
        · simp only [Act.put, Nat.reduceAdd, List.setIfInBounds_toArray, List.set_cons_zero, List.set_cons_succ, i64_w, i32_w]
          rfl
      | refine pureF_ (v := ?_) (a' := ?_) rfl rfl (any_of HT_.out (by kernel_rfl)) (fun _ _ _ h => h) (Or.inl ⟨by rfl, ?_⟩) ?_ ?_
        rotate_left
        · intro w'
          go_simp
          with_reducible rfl
        rotate_left
        · simp only [Act.put, Nat.reduceAdd, List.setIfInBounds_toArray, List.set_cons_zero, List.set_cons_succ, i64_w, i32_w]
          rfl
      | refine takeF_ (v := ?_) (a' := ?_) rfl rfl (take_ofW HT_.out HW_.out (by kernel_rfl)) (fun _ _ _ h => h) (Or.inl ⟨by rfl, ?_⟩) hHeld ?_ ?_
        rotate_left
        · rintro w' ⟨s0, s1, s2, s3, s4, s5, s6, s7, s8, s9, s10, s11, s12, s13, s14⟩
          go_simp
          with_reducible rfl
        rotate_left
        · simp only [Act.put, Nat.reduceAdd, List.setIfInBounds_toArray, List.set_cons_zero, List.set_cons_succ, i64_w, i32_w]
          rfl
      simp only [Nat.reduceAdd]
    refine oneF_ rfl rfl (one_of HT_.out (by kernel_rfl)) (by simp) (fun K hK => ?_)
    refine goes_ Try.func31 (by kernel_rfl) rfl #[.agg #[.int .i64 a3_0, .int .i64 a3_1, .int .i64 a3_2, .int .i64 a3_3, .int .i64 a3_4, .int .i64 a3_5, .int .i64 a3_6, .int .i64 a3_7, .int .i64 a3_8, .int .i64 a3_9, .slice A3_10 l3_10.length c3_10]] (by rfl) rfl rfl (by (try simp only [List.map_toArray, List.map_cons, List.map_nil]); first | done | rfl) ?_
    refine (wire_Right.calls k a3_0 a3_1 a3_2 a3_3 a3_4 a3_5 a3_6 a3_7 a3_8 a3_9 _ _ l3_10 true _ (Kd.C_below HR3.out HB6.out) HC3.out A3.out).mono ?_
    rintro e w7 ⟨rfl, hb⟩
    refine ⟨_, rfl, ?_⟩
    have BM7 := Aside0.mk (blk_below BM6.out hb)
    have BP7 := Aside0.mk (blk_below BP6.out hb)
    have BA7 := Aside0.mk (blk_below BA6.out hb)
    have HB7 := Aside0.mk (below_step HB6.out hb)
    clear hb hHeld
    refine hK.out _ _ ⟨(blk_cell BM7.out 0).trans rfl, (blk_cell BM7.out 1).trans rfl, (blk_cell BP7.out 0).trans rfl, (blk_cell BP7.out 1).trans rfl, (blk_cell BA7.out 0).trans rfl, (blk_cell BA7.out 1).trans rfl, (blk_cell BA7.out 2).trans rfl, (blk_cell BA7.out 3).trans rfl, (blk_cell BA7.out 4).trans rfl, (blk_cell BA7.out 5).trans rfl, (blk_cell BA7.out 6).trans rfl, (blk_cell BA7.out 7).trans rfl, (blk_cell BA7.out 8).trans rfl, (blk_cell BA7.out 9).trans rfl, (blk_cell BA7.out 10).trans rfl⟩ (fun hHeld => ?_)
    clear hK K
    refine norm_ (a' := ?_) ?_ ?_
    rotate_left
    · show Act.put _ (some 17) _ = _
      simp only [Act.put, Nat.reduceAdd, List.setIfInBounds_toArray, List.set_cons_zero, List.set_cons_succ, i64_w, i32_w]
      rfl
    simp only [Nat.reduceAdd]
    iterate 40
      first
      | refine pureF_ (v := undef) (a' := ?_) rfl rfl (any_of HT_.out (by kernel_rfl)) (fun _ _ _ h => h) (Or.inr ⟨by rfl, rfl⟩) ?_ ?_
        rotate_left
        · simp only [Act.put, Nat.reduceAdd, List.setIfInBounds_toArray, List.set_cons_zero, List.set_cons_succ, i64_w, i32_w]
          rfl
      | refine pureF_ (v := ?_) (a' := ?_) rfl rfl (any_of HT_.out (by kernel_rfl)) (fun _ _ _ h => h) (Or.inl ⟨by rfl, ?_⟩) ?_ ?_
        rotate_left
        · intro w'
          go_simp
          with_reducible rfl
        rotate_left
        · simp only [Act.put, Nat.reduceAdd, List.setIfInBounds_toArray, List.set_cons_zero, List.set_cons_succ, i64_w, i32_w]
          rfl
      | refine takeF_ (v := ?_) (a' := ?_) rfl rfl (take_ofW HT_.out HW_.out (by kernel_rfl)) (fun _ _ _ h => h) (Or.inl ⟨by rfl, ?_⟩) hHeld ?_ ?_
        rotate_left
        · rintro w' ⟨s0, s1, s2, s3, s4, s5, s6, s7, s8, s9, s10, s11, s12, s13, s14⟩
          go_simp
          with_reducible rfl
        rotate_left
        · simp only [Act.put, Nat.reduceAdd, List.setIfInBounds_toArray, List.set_cons_zero, List.set_cons_succ, i64_w, i32_w]
          rfl
      simp only [Nat.reduceAdd]
    refine pure_ (i := 49) (N := some 8) (v := ?_) (a' := ?_) (mk_ 50 50) rfl rfl (any_of HT_.out (by kernel_rfl)) (fun _ _ _ h => h) (Or.inl ⟨by rfl, ?_⟩) ?_ ?_
    rotate_left
    · intro w'
      go_simp
      with_reducible rfl
    rotate_left
    · simp only [Act.put, Nat.reduceAdd, List.setIfInBounds_toArray, List.set_cons_zero, List.set_cons_succ, i64_w, i32_w]
      rfl
    refine done_ (done_of HT_.out (by kernel_rfl)) ?_
    try go_wp2
    go_ret
    exact ⟨rfl, HB7.out⟩
  rw [if_pos q2] at h
  have k2 : (a3_2 == a2) = true := beq_iff_eq.mpr q2
  clear q2
  by_cases q3 : a3_5 < (l0_1.length : Int)
  case neg =>
    rw [if_neg q3] at h
    obtain rfl := Option.some.inj h
    have k3 : decide (a3_5 < (l0_1.length : Int)) = false := decide_eq_false q3
    clear h q3
    go_enter Try.func16, Try.ntmps16
    go_wp2_with (first
        | ((with_reducible refine gate_dst (N := 4) rfl ?_); (try (refine gate_guard (by rfl) ?_; dsimp only)); refine box_event ?hg (N := 4) ?hd (cs := #[.int .i64 a0_0, .slice A0_1 l0_1.length c0_1]) (t := 24) ?hr ?_; (case hd => rfl); (case hg => rfl); (case hr => first | (go_simp; done) | (go_simp; rfl)); intro gm hg w1 hbox hb; have BM1 := Aside0.mk hbox; have HB1 := Aside0.mk hb; clear hg hbox hb)
        | ((with_reducible refine gate_dst (N := 5) rfl ?_); (try (refine gate_guard (by rfl) ?_; dsimp only)); refine box_event ?hg (N := 5) ?hd (cs := #[.int .i64 a1_0, .slice A1_1 l1_1.length c1_1]) (t := 27) ?hr ?_; (case hd => rfl); (case hg => rfl); (case hr => first | (go_simp; done) | (go_simp; rfl)); intro gp hg w2 hbox hb; have BM2 := Aside0.mk (blk_below BM1.out hb); have BP2 := Aside0.mk hbox; have HB2 := Aside0.mk (below_step HB1.out hb); clear hg hbox hb)
        | ((with_reducible refine gate_dst (N := 7) rfl ?_); (try (refine gate_guard (by rfl) ?_; dsimp only)); refine box_event ?hg (N := 7) ?hd (cs := #[.int .i64 a3_0, .int .i64 a3_1, .int .i64 a3_2, .int .i64 a3_3, .int .i64 a3_4, .int .i64 a3_5, .int .i64 a3_6, .int .i64 a3_7, .int .i64 a3_8, .int .i64 a3_9, .slice A3_10 l3_10.length c3_10]) (t := 31) ?hr ?_; (case hd => rfl); (case hg => rfl); (case hr => first | (go_simp; done) | (go_simp; rfl)); intro ga hg w3 hbox hb; have BM3 := Aside0.mk (blk_below BM2.out hb); have BP3 := Aside0.mk (blk_below BP2.out hb); have BA3 := Aside0.mk hbox; have HB3 := Aside0.mk (below_step HB2.out hb); clear hg hbox hb))
    have BM4 := Aside0.mk (blk_drew BM3.out)
    have BP4 := Aside0.mk (blk_drew BP3.out)
    have BA4 := Aside0.mk (blk_drew BA3.out)
    have HB4 := Aside0.mk (below_drew1 HB3.out)
    refine start_ (n := 50) (S := fun w' => w'.cell? ⟨gm, 0, none⟩ = some (.int .i64 a0_0) ∧ w'.cell? ⟨gm, 1, none⟩ = some (.slice A0_1 l0_1.length c0_1) ∧ w'.cell? ⟨gp, 0, none⟩ = some (.int .i64 a1_0) ∧ w'.cell? ⟨gp, 1, none⟩ = some (.slice A1_1 l1_1.length c1_1) ∧ w'.cell? ⟨ga, 0, none⟩ = some (.int .i64 a3_0) ∧ w'.cell? ⟨ga, 1, none⟩ = some (.int .i64 a3_1) ∧ w'.cell? ⟨ga, 2, none⟩ = some (.int .i64 a3_2) ∧ w'.cell? ⟨ga, 3, none⟩ = some (.int .i64 a3_3) ∧ w'.cell? ⟨ga, 4, none⟩ = some (.int .i64 a3_4) ∧ w'.cell? ⟨ga, 5, none⟩ = some (.int .i64 a3_5) ∧ w'.cell? ⟨ga, 6, none⟩ = some (.int .i64 a3_6) ∧ w'.cell? ⟨ga, 7, none⟩ = some (.int .i64 a3_7) ∧ w'.cell? ⟨ga, 8, none⟩ = some (.int .i64 a3_8) ∧ w'.cell? ⟨ga, 9, none⟩ = some (.int .i64 a3_9) ∧ w'.cell? ⟨ga, 10, none⟩ = some (.slice A3_10 l3_10.length c3_10)) (ds := []) (mk_ 0 50) (by kernel_rfl) rfl (by kernel_rfl) ⟨(blk_cell BM4.out 0).trans rfl, (blk_cell BM4.out 1).trans rfl, (blk_cell BP4.out 0).trans rfl, (blk_cell BP4.out 1).trans rfl, (blk_cell BA4.out 0).trans rfl, (blk_cell BA4.out 1).trans rfl, (blk_cell BA4.out 2).trans rfl, (blk_cell BA4.out 3).trans rfl, (blk_cell BA4.out 4).trans rfl, (blk_cell BA4.out 5).trans rfl, (blk_cell BA4.out 6).trans rfl, (blk_cell BA4.out 7).trans rfl, (blk_cell BA4.out 8).trans rfl, (blk_cell BA4.out 9).trans rfl, (blk_cell BA4.out 10).trans rfl⟩ (fun hHeld => ?_)
    refine with_tabW node_fits.tab1 node_fits.bits1 (fun HT_ HW_ => ?_)
    generalize w3.drew = w4 at BM4 BP4 BA4 HB4 hHeld ⊢
    clear BM3 BP3 BA3 HB3 BM2 BP2 HB2 BM1 HB1
    iterate 1
      first
      | refine pureF_ (v := undef) (a' := ?_) rfl rfl (any_of HT_.out (by kernel_rfl)) (fun _ _ _ h => h) (Or.inr ⟨by rfl, rfl⟩) ?_ ?_
        rotate_left
        · simp only [Act.put, Nat.reduceAdd, List.setIfInBounds_toArray, List.set_cons_zero, List.set_cons_succ, i64_w, i32_w]
          rfl
      | refine pureF_ (v := ?_) (a' := ?_) rfl rfl (any_of HT_.out (by kernel_rfl)) (fun _ _ _ h => h) (Or.inl ⟨by rfl, ?_⟩) ?_ ?_
        rotate_left
        · intro w'
          go_simp
          with_reducible rfl
        rotate_left
        · simp only [Act.put, Nat.reduceAdd, List.setIfInBounds_toArray, List.set_cons_zero, List.set_cons_succ, i64_w, i32_w]
          rfl
      | refine takeF_ (v := ?_) (a' := ?_) rfl rfl (take_ofW HT_.out HW_.out (by kernel_rfl)) (fun _ _ _ h => h) (Or.inl ⟨by rfl, ?_⟩) hHeld ?_ ?_
        rotate_left
        · rintro w' ⟨s0, s1, s2, s3, s4, s5, s6, s7, s8, s9, s10, s11, s12, s13, s14⟩
          go_simp
          with_reducible rfl
        rotate_left
        · simp only [Act.put, Nat.reduceAdd, List.setIfInBounds_toArray, List.set_cons_zero, List.set_cons_succ, i64_w, i32_w]
          rfl
      simp only [Nat.reduceAdd]
    refine oneF_ rfl rfl (one_of HT_.out (by kernel_rfl)) (by simp) (fun K hK => ?_)
    refine goes_ Try.func29 (by kernel_rfl) rfl #[.agg #[.int .i64 a0_0, .slice A0_1 l0_1.length c0_1]] (by rfl) rfl rfl (by (try simp only [List.map_toArray, List.map_cons, List.map_nil]); first | done | rfl) ?_
    refine (model_Right.calls _ _ _ l0_1 true _ (Kd.C_below HR0.out HB4.out) HC0.out A1.out).mono ?_
    rintro e w5 ⟨rfl, hb⟩
    refine ⟨_, rfl, ?_⟩
    have BM5 := Aside0.mk (blk_below BM4.out hb)
    have BP5 := Aside0.mk (blk_below BP4.out hb)
    have BA5 := Aside0.mk (blk_below BA4.out hb)
    have HB5 := Aside0.mk (below_step HB4.out hb)
    clear hb hHeld
    refine hK.out _ _ ⟨(blk_cell BM5.out 0).trans rfl, (blk_cell BM5.out 1).trans rfl, (blk_cell BP5.out 0).trans rfl, (blk_cell BP5.out 1).trans rfl, (blk_cell BA5.out 0).trans rfl, (blk_cell BA5.out 1).trans rfl, (blk_cell BA5.out 2).trans rfl, (blk_cell BA5.out 3).trans rfl, (blk_cell BA5.out 4).trans rfl, (blk_cell BA5.out 5).trans rfl, (blk_cell BA5.out 6).trans rfl, (blk_cell BA5.out 7).trans rfl, (blk_cell BA5.out 8).trans rfl, (blk_cell BA5.out 9).trans rfl, (blk_cell BA5.out 10).trans rfl⟩ (fun hHeld => ?_)
    clear hK K
    refine norm_ (a' := ?_) ?_ ?_
    rotate_left
    · show Act.put _ (some 10) _ = _
      simp only [Act.put, Nat.reduceAdd, List.setIfInBounds_toArray, List.set_cons_zero, List.set_cons_succ, i64_w, i32_w]
      rfl
    simp only [Nat.reduceAdd]
    iterate 2
      first
      | refine pureF_ (v := undef) (a' := ?_) rfl rfl (any_of HT_.out (by kernel_rfl)) (fun _ _ _ h => h) (Or.inr ⟨by rfl, rfl⟩) ?_ ?_
        rotate_left
        · simp only [Act.put, Nat.reduceAdd, List.setIfInBounds_toArray, List.set_cons_zero, List.set_cons_succ, i64_w, i32_w]
          rfl
      | refine pureF_ (v := ?_) (a' := ?_) rfl rfl (any_of HT_.out (by kernel_rfl)) (fun _ _ _ h => h) (Or.inl ⟨by rfl, ?_⟩) ?_ ?_
        rotate_left
        · intro w'
          go_simp
          with_reducible rfl
        rotate_left
        · simp only [Act.put, Nat.reduceAdd, List.setIfInBounds_toArray, List.set_cons_zero, List.set_cons_succ, i64_w, i32_w]
          rfl
      | refine takeF_ (v := ?_) (a' := ?_) rfl rfl (take_ofW HT_.out HW_.out (by kernel_rfl)) (fun _ _ _ h => h) (Or.inl ⟨by rfl, ?_⟩) hHeld ?_ ?_
        rotate_left
        · rintro w' ⟨s0, s1, s2, s3, s4, s5, s6, s7, s8, s9, s10, s11, s12, s13, s14⟩
          go_simp
          with_reducible rfl
        rotate_left
        · simp only [Act.put, Nat.reduceAdd, List.setIfInBounds_toArray, List.set_cons_zero, List.set_cons_succ, i64_w, i32_w]
          rfl
      simp only [Nat.reduceAdd]
    refine oneF_ rfl rfl (one_of HT_.out (by kernel_rfl)) (by simp) (fun K hK => ?_)
    refine goes_ Try.func30 (by kernel_rfl) rfl #[.agg #[.int .i64 a1_0, .slice A1_1 l1_1.length c1_1]] (by rfl) rfl rfl (by (try simp only [List.map_toArray, List.map_cons, List.map_nil]); first | done | rfl) ?_
    refine (place_Right.calls k _ _ _ l1_1 true _ (Kd.C_below HR1.out HB5.out) HC1.out A2.out).mono ?_
    rintro e w6 ⟨rfl, hb⟩
    refine ⟨_, rfl, ?_⟩
    have BM6 := Aside0.mk (blk_below BM5.out hb)
    have BP6 := Aside0.mk (blk_below BP5.out hb)
    have BA6 := Aside0.mk (blk_below BA5.out hb)
    have HB6 := Aside0.mk (below_step HB5.out hb)
    clear hb hHeld
    refine hK.out _ _ ⟨(blk_cell BM6.out 0).trans rfl, (blk_cell BM6.out 1).trans rfl, (blk_cell BP6.out 0).trans rfl, (blk_cell BP6.out 1).trans rfl, (blk_cell BA6.out 0).trans rfl, (blk_cell BA6.out 1).trans rfl, (blk_cell BA6.out 2).trans rfl, (blk_cell BA6.out 3).trans rfl, (blk_cell BA6.out 4).trans rfl, (blk_cell BA6.out 5).trans rfl, (blk_cell BA6.out 6).trans rfl, (blk_cell BA6.out 7).trans rfl, (blk_cell BA6.out 8).trans rfl, (blk_cell BA6.out 9).trans rfl, (blk_cell BA6.out 10).trans rfl⟩ (fun hHeld => ?_)
    clear hK K
    refine norm_ (a' := ?_) ?_ ?_
    rotate_left
    · show Act.put _ (some 13) _ = _
      simp only [Act.put, Nat.reduceAdd, List.setIfInBounds_toArray, List.set_cons_zero, List.set_cons_succ, i64_w, i32_w]
      rfl
    simp only [Nat.reduceAdd]
    iterate 3
      first
      | refine pureF_ (v := undef) (a' := ?_) rfl rfl (any_of HT_.out (by kernel_rfl)) (fun _ _ _ h => h) (Or.inr ⟨by rfl, rfl⟩) ?_ ?_
        rotate_left
        · simp only [Act.put, Nat.reduceAdd, List.setIfInBounds_toArray, List.set_cons_zero, List.set_cons_succ, i64_w, i32_w]
          rfl
      | refine pureF_ (v := ?_) (a' := ?_) rfl rfl (any_of HT_.out (by kernel_rfl)) (fun _ _ _ h => h) (Or.inl ⟨by rfl, ?_⟩) ?_ ?_
        rotate_left
        · intro w'
          go_simp
          with_reducible rfl
        rotate_left
        · simp only [Act.put, Nat.reduceAdd, List.setIfInBounds_toArray, List.set_cons_zero, List.set_cons_succ, i64_w, i32_w]
          rfl
      | refine takeF_ (v := ?_) (a' := ?_) rfl rfl (take_ofW HT_.out HW_.out (by kernel_rfl)) (fun _ _ _ h => h) (Or.inl ⟨by rfl, ?_⟩) hHeld ?_ ?_
        rotate_left
        · rintro w' ⟨s0, s1, s2, s3, s4, s5, s6, s7, s8, s9, s10, s11, s12, s13, s14⟩
          go_simp
          with_reducible rfl
        rotate_left
        · simp only [Act.put, Nat.reduceAdd, List.setIfInBounds_toArray, List.set_cons_zero, List.set_cons_succ, i64_w, i32_w]
          rfl
      simp only [Nat.reduceAdd]
    refine oneF_ rfl rfl (one_of HT_.out (by kernel_rfl)) (by simp) (fun K hK => ?_)
    refine goes_ Try.func31 (by kernel_rfl) rfl #[.agg #[.int .i64 a3_0, .int .i64 a3_1, .int .i64 a3_2, .int .i64 a3_3, .int .i64 a3_4, .int .i64 a3_5, .int .i64 a3_6, .int .i64 a3_7, .int .i64 a3_8, .int .i64 a3_9, .slice A3_10 l3_10.length c3_10]] (by rfl) rfl rfl (by (try simp only [List.map_toArray, List.map_cons, List.map_nil]); first | done | rfl) ?_
    refine (wire_Right.calls k a3_0 a3_1 a3_2 a3_3 a3_4 a3_5 a3_6 a3_7 a3_8 a3_9 _ _ l3_10 true _ (Kd.C_below HR3.out HB6.out) HC3.out A3.out).mono ?_
    rintro e w7 ⟨rfl, hb⟩
    refine ⟨_, rfl, ?_⟩
    have BM7 := Aside0.mk (blk_below BM6.out hb)
    have BP7 := Aside0.mk (blk_below BP6.out hb)
    have BA7 := Aside0.mk (blk_below BA6.out hb)
    have HB7 := Aside0.mk (below_step HB6.out hb)
    clear hb hHeld
    refine hK.out _ _ ⟨(blk_cell BM7.out 0).trans rfl, (blk_cell BM7.out 1).trans rfl, (blk_cell BP7.out 0).trans rfl, (blk_cell BP7.out 1).trans rfl, (blk_cell BA7.out 0).trans rfl, (blk_cell BA7.out 1).trans rfl, (blk_cell BA7.out 2).trans rfl, (blk_cell BA7.out 3).trans rfl, (blk_cell BA7.out 4).trans rfl, (blk_cell BA7.out 5).trans rfl, (blk_cell BA7.out 6).trans rfl, (blk_cell BA7.out 7).trans rfl, (blk_cell BA7.out 8).trans rfl, (blk_cell BA7.out 9).trans rfl, (blk_cell BA7.out 10).trans rfl⟩ (fun hHeld => ?_)
    clear hK K
    refine norm_ (a' := ?_) ?_ ?_
    rotate_left
    · show Act.put _ (some 17) _ = _
      simp only [Act.put, Nat.reduceAdd, List.setIfInBounds_toArray, List.set_cons_zero, List.set_cons_succ, i64_w, i32_w]
      rfl
    simp only [Nat.reduceAdd]
    iterate 40
      first
      | refine pureF_ (v := undef) (a' := ?_) rfl rfl (any_of HT_.out (by kernel_rfl)) (fun _ _ _ h => h) (Or.inr ⟨by rfl, rfl⟩) ?_ ?_
        rotate_left
        · simp only [Act.put, Nat.reduceAdd, List.setIfInBounds_toArray, List.set_cons_zero, List.set_cons_succ, i64_w, i32_w]
          rfl
      | refine pureF_ (v := ?_) (a' := ?_) rfl rfl (any_of HT_.out (by kernel_rfl)) (fun _ _ _ h => h) (Or.inl ⟨by rfl, ?_⟩) ?_ ?_
        rotate_left
        · intro w'
          go_simp
          with_reducible rfl
        rotate_left
        · simp only [Act.put, Nat.reduceAdd, List.setIfInBounds_toArray, List.set_cons_zero, List.set_cons_succ, i64_w, i32_w]
          rfl
      | refine takeF_ (v := ?_) (a' := ?_) rfl rfl (take_ofW HT_.out HW_.out (by kernel_rfl)) (fun _ _ _ h => h) (Or.inl ⟨by rfl, ?_⟩) hHeld ?_ ?_
        rotate_left
        · rintro w' ⟨s0, s1, s2, s3, s4, s5, s6, s7, s8, s9, s10, s11, s12, s13, s14⟩
          go_simp
          with_reducible rfl
        rotate_left
        · simp only [Act.put, Nat.reduceAdd, List.setIfInBounds_toArray, List.set_cons_zero, List.set_cons_succ, i64_w, i32_w]
          rfl
      simp only [Nat.reduceAdd]
    refine pure_ (i := 49) (N := some 8) (v := ?_) (a' := ?_) (mk_ 50 50) rfl rfl (any_of HT_.out (by kernel_rfl)) (fun _ _ _ h => h) (Or.inl ⟨by rfl, ?_⟩) ?_ ?_
    rotate_left
    · intro w'
      go_simp
      with_reducible rfl
    rotate_left
    · simp only [Act.put, Nat.reduceAdd, List.setIfInBounds_toArray, List.set_cons_zero, List.set_cons_succ, i64_w, i32_w]
      rfl
    refine done_ (done_of HT_.out (by kernel_rfl)) ?_
    try go_wp2
    go_ret
    exact ⟨rfl, HB7.out⟩
  rw [if_pos q3] at h
  have k3 : decide (a3_5 < (l0_1.length : Int)) = true := decide_eq_true q3
  have q3' := Aside0.mk q3
  clear q3
  by_cases q4 : 0 ≤ a3_5
  case neg =>
    rw [if_neg q4] at h
    cases h
  rw [if_pos q4] at h
  obtain ⟨i, rfl⟩ : ∃ i : Nat, a3_5 = (i : Int) := ⟨a3_5.toNat, by omega⟩
  have hi : i < l0_1.length := by have := q3'.out; omega
  clear q4
  obtain ⟨ad, B0, d0, B1, d1, hA, _, hx1, _, _, _, _, _⟩ := at_T61 HR0.out (i : Int) (by omega) (by omega)
  cases hA
  rw [Int.toNat_natCast] at hx1
  have HX1 := Aside0.mk hx1
  clear hx1
  by_cases q5 : a3_8 < ((rd_T61 l0_1 (i : Int)).f1.length : Int)
  case neg =>
    rw [if_neg q5] at h
    obtain rfl := Option.some.inj h
    have k5 : decide (a3_8 < ((rd_T61 l0_1 (i : Int)).f1.length : Int)) = false := decide_eq_false q5
    clear h q5
    go_enter Try.func16, Try.ntmps16
    go_wp2_with (first
        | ((with_reducible refine gate_dst (N := 4) rfl ?_); (try (refine gate_guard (by rfl) ?_; dsimp only)); refine box_event ?hg (N := 4) ?hd (cs := #[.int .i64 a0_0, .slice (some ad) l0_1.length c0_1]) (t := 24) ?hr ?_; (case hd => rfl); (case hg => rfl); (case hr => first | (go_simp; done) | (go_simp; rfl)); intro gm hg w1 hbox hb; have BM1 := Aside0.mk hbox; have HB1 := Aside0.mk hb; clear hg hbox hb)
        | ((with_reducible refine gate_dst (N := 5) rfl ?_); (try (refine gate_guard (by rfl) ?_; dsimp only)); refine box_event ?hg (N := 5) ?hd (cs := #[.int .i64 a1_0, .slice A1_1 l1_1.length c1_1]) (t := 27) ?hr ?_; (case hd => rfl); (case hg => rfl); (case hr => first | (go_simp; done) | (go_simp; rfl)); intro gp hg w2 hbox hb; have BM2 := Aside0.mk (blk_below BM1.out hb); have BP2 := Aside0.mk hbox; have HB2 := Aside0.mk (below_step HB1.out hb); clear hg hbox hb)
        | ((with_reducible refine gate_dst (N := 7) rfl ?_); (try (refine gate_guard (by rfl) ?_; dsimp only)); refine box_event ?hg (N := 7) ?hd (cs := #[.int .i64 a3_0, .int .i64 a3_1, .int .i64 a3_2, .int .i64 a3_3, .int .i64 a3_4, .int .i64 (i : Int), .int .i64 a3_6, .int .i64 a3_7, .int .i64 a3_8, .int .i64 a3_9, .slice A3_10 l3_10.length c3_10]) (t := 31) ?hr ?_; (case hd => rfl); (case hg => rfl); (case hr => first | (go_simp; done) | (go_simp; rfl)); intro ga hg w3 hbox hb; have BM3 := Aside0.mk (blk_below BM2.out hb); have BP3 := Aside0.mk (blk_below BP2.out hb); have BA3 := Aside0.mk hbox; have HB3 := Aside0.mk (below_step HB2.out hb); clear hg hbox hb))
    have BM4 := Aside0.mk (blk_drew BM3.out)
    have BP4 := Aside0.mk (blk_drew BP3.out)
    have BA4 := Aside0.mk (blk_drew BA3.out)
    have HB4 := Aside0.mk (below_drew1 HB3.out)
    refine start_ (n := 50) (S := fun w' => w'.cell? ⟨gm, 0, none⟩ = some (.int .i64 a0_0) ∧ w'.cell? ⟨gm, 1, none⟩ = some (.slice (some ad) l0_1.length c0_1) ∧ w'.cell? ⟨gp, 0, none⟩ = some (.int .i64 a1_0) ∧ w'.cell? ⟨gp, 1, none⟩ = some (.slice A1_1 l1_1.length c1_1) ∧ w'.cell? ⟨ga, 0, none⟩ = some (.int .i64 a3_0) ∧ w'.cell? ⟨ga, 1, none⟩ = some (.int .i64 a3_1) ∧ w'.cell? ⟨ga, 2, none⟩ = some (.int .i64 a3_2) ∧ w'.cell? ⟨ga, 3, none⟩ = some (.int .i64 a3_3) ∧ w'.cell? ⟨ga, 4, none⟩ = some (.int .i64 a3_4) ∧ w'.cell? ⟨ga, 5, none⟩ = some (.int .i64 (i:Int)) ∧ w'.cell? ⟨ga, 6, none⟩ = some (.int .i64 a3_6) ∧ w'.cell? ⟨ga, 7, none⟩ = some (.int .i64 a3_7) ∧ w'.cell? ⟨ga, 8, none⟩ = some (.int .i64 a3_8) ∧ w'.cell? ⟨ga, 9, none⟩ = some (.int .i64 a3_9) ∧ w'.cell? ⟨ga, 10, none⟩ = some (.slice A3_10 l3_10.length c3_10) ∧ w'.cell? ⟨(ad.add (i * 3)).block, (ad.add (i * 3)).off + 1, none⟩ = some (.slice B1 (rd_T61 l0_1 (i : Int)).f1.length d1)) (ds := []) (mk_ 0 50) (by kernel_rfl) rfl (by kernel_rfl) ⟨(blk_cell BM4.out 0).trans rfl, (blk_cell BM4.out 1).trans rfl, (blk_cell BP4.out 0).trans rfl, (blk_cell BP4.out 1).trans rfl, (blk_cell BA4.out 0).trans rfl, (blk_cell BA4.out 1).trans rfl, (blk_cell BA4.out 2).trans rfl, (blk_cell BA4.out 3).trans rfl, (blk_cell BA4.out 4).trans rfl, (blk_cell BA4.out 5).trans rfl, (blk_cell BA4.out 6).trans rfl, (blk_cell BA4.out 7).trans rfl, (blk_cell BA4.out 8).trans rfl, (blk_cell BA4.out 9).trans rfl, (blk_cell BA4.out 10).trans rfl, (HB4.out.cell (World.block_lt_of_cell? w _ HX1.out)).trans HX1.out⟩ (fun hHeld => ?_)
    refine with_tabW node_fits.tab1 node_fits.bits1 (fun HT_ HW_ => ?_)
    generalize w3.drew = w4 at BM4 BP4 BA4 HB4 hHeld ⊢
    clear BM3 BP3 BA3 HB3 BM2 BP2 HB2 BM1 HB1
    iterate 1
      first
      | refine pureF_ (v := undef) (a' := ?_) rfl rfl (any_of HT_.out (by kernel_rfl)) (fun _ _ _ h => h) (Or.inr ⟨by rfl, rfl⟩) ?_ ?_
        rotate_left
        · simp only [Act.put, Nat.reduceAdd, List.setIfInBounds_toArray, List.set_cons_zero, List.set_cons_succ, i64_w, i32_w]
          rfl
      | refine pureF_ (v := ?_) (a' := ?_) rfl rfl (any_of HT_.out (by kernel_rfl)) (fun _ _ _ h => h) (Or.inl ⟨by rfl, ?_⟩) ?_ ?_
        rotate_left
        · intro w'
          go_simp
          with_reducible rfl
        rotate_left
        · simp only [Act.put, Nat.reduceAdd, List.setIfInBounds_toArray, List.set_cons_zero, List.set_cons_succ, i64_w, i32_w]
          rfl
      | refine takeF_ (v := ?_) (a' := ?_) rfl rfl (take_ofW HT_.out HW_.out (by kernel_rfl)) (fun _ _ _ h => h) (Or.inl ⟨by rfl, ?_⟩) hHeld ?_ ?_
        rotate_left
        · rintro w' ⟨s0, s1, s2, s3, s4, s5, s6, s7, s8, s9, s10, s11, s12, s13, s14, s15⟩
          go_simp
          with_reducible rfl
        rotate_left
        · simp only [Act.put, Nat.reduceAdd, List.setIfInBounds_toArray, List.set_cons_zero, List.set_cons_succ, i64_w, i32_w]
          rfl
      simp only [Nat.reduceAdd]
    refine oneF_ rfl rfl (one_of HT_.out (by kernel_rfl)) (by simp) (fun K hK => ?_)
    refine goes_ Try.func29 (by kernel_rfl) rfl #[.agg #[.int .i64 a0_0, .slice (some ad) l0_1.length c0_1]] (by rfl) rfl rfl (by (try simp only [List.map_toArray, List.map_cons, List.map_nil]); first | done | rfl) ?_
    refine (model_Right.calls _ _ _ l0_1 true _ (Kd.C_below HR0.out HB4.out) HC0.out A1.out).mono ?_
    rintro e w5 ⟨rfl, hb⟩
    refine ⟨_, rfl, ?_⟩
    have BM5 := Aside0.mk (blk_below BM4.out hb)
    have BP5 := Aside0.mk (blk_below BP4.out hb)
    have BA5 := Aside0.mk (blk_below BA4.out hb)
    have HB5 := Aside0.mk (below_step HB4.out hb)
    clear hb hHeld
    refine hK.out _ _ ⟨(blk_cell BM5.out 0).trans rfl, (blk_cell BM5.out 1).trans rfl, (blk_cell BP5.out 0).trans rfl, (blk_cell BP5.out 1).trans rfl, (blk_cell BA5.out 0).trans rfl, (blk_cell BA5.out 1).trans rfl, (blk_cell BA5.out 2).trans rfl, (blk_cell BA5.out 3).trans rfl, (blk_cell BA5.out 4).trans rfl, (blk_cell BA5.out 5).trans rfl, (blk_cell BA5.out 6).trans rfl, (blk_cell BA5.out 7).trans rfl, (blk_cell BA5.out 8).trans rfl, (blk_cell BA5.out 9).trans rfl, (blk_cell BA5.out 10).trans rfl, (HB5.out.cell (World.block_lt_of_cell? w _ HX1.out)).trans HX1.out⟩ (fun hHeld => ?_)
    clear hK K
    refine norm_ (a' := ?_) ?_ ?_
    rotate_left
    · show Act.put _ (some 10) _ = _
      simp only [Act.put, Nat.reduceAdd, List.setIfInBounds_toArray, List.set_cons_zero, List.set_cons_succ, i64_w, i32_w]
      rfl
    simp only [Nat.reduceAdd]
    iterate 2
      first
      | refine pureF_ (v := undef) (a' := ?_) rfl rfl (any_of HT_.out (by kernel_rfl)) (fun _ _ _ h => h) (Or.inr ⟨by rfl, rfl⟩) ?_ ?_
        rotate_left
        · simp only [Act.put, Nat.reduceAdd, List.setIfInBounds_toArray, List.set_cons_zero, List.set_cons_succ, i64_w, i32_w]
          rfl
      | refine pureF_ (v := ?_) (a' := ?_) rfl rfl (any_of HT_.out (by kernel_rfl)) (fun _ _ _ h => h) (Or.inl ⟨by rfl, ?_⟩) ?_ ?_
        rotate_left
        · intro w'
          go_simp
          with_reducible rfl
        rotate_left
        · simp only [Act.put, Nat.reduceAdd, List.setIfInBounds_toArray, List.set_cons_zero, List.set_cons_succ, i64_w, i32_w]
          rfl
      | refine takeF_ (v := ?_) (a' := ?_) rfl rfl (take_ofW HT_.out HW_.out (by kernel_rfl)) (fun _ _ _ h => h) (Or.inl ⟨by rfl, ?_⟩) hHeld ?_ ?_
        rotate_left
        · rintro w' ⟨s0, s1, s2, s3, s4, s5, s6, s7, s8, s9, s10, s11, s12, s13, s14, s15⟩
          go_simp
          with_reducible rfl
        rotate_left
        · simp only [Act.put, Nat.reduceAdd, List.setIfInBounds_toArray, List.set_cons_zero, List.set_cons_succ, i64_w, i32_w]
          rfl
      simp only [Nat.reduceAdd]
    refine oneF_ rfl rfl (one_of HT_.out (by kernel_rfl)) (by simp) (fun K hK => ?_)
    refine goes_ Try.func30 (by kernel_rfl) rfl #[.agg #[.int .i64 a1_0, .slice A1_1 l1_1.length c1_1]] (by rfl) rfl rfl (by (try simp only [List.map_toArray, List.map_cons, List.map_nil]); first | done | rfl) ?_
    refine (place_Right.calls k _ _ _ l1_1 true _ (Kd.C_below HR1.out HB5.out) HC1.out A2.out).mono ?_
    rintro e w6 ⟨rfl, hb⟩
    refine ⟨_, rfl, ?_⟩
    have BM6 := Aside0.mk (blk_below BM5.out hb)
    have BP6 := Aside0.mk (blk_below BP5.out hb)
    have BA6 := Aside0.mk (blk_below BA5.out hb)
    have HB6 := Aside0.mk (below_step HB5.out hb)
    clear hb hHeld
    refine hK.out _ _ ⟨(blk_cell BM6.out 0).trans rfl, (blk_cell BM6.out 1).trans rfl, (blk_cell BP6.out 0).trans rfl, (blk_cell BP6.out 1).trans rfl, (blk_cell BA6.out 0).trans rfl, (blk_cell BA6.out 1).trans rfl, (blk_cell BA6.out 2).trans rfl, (blk_cell BA6.out 3).trans rfl, (blk_cell BA6.out 4).trans rfl, (blk_cell BA6.out 5).trans rfl, (blk_cell BA6.out 6).trans rfl, (blk_cell BA6.out 7).trans rfl, (blk_cell BA6.out 8).trans rfl, (blk_cell BA6.out 9).trans rfl, (blk_cell BA6.out 10).trans rfl, (HB6.out.cell (World.block_lt_of_cell? w _ HX1.out)).trans HX1.out⟩ (fun hHeld => ?_)
    clear hK K
    refine norm_ (a' := ?_) ?_ ?_
    rotate_left
    · show Act.put _ (some 13) _ = _
      simp only [Act.put, Nat.reduceAdd, List.setIfInBounds_toArray, List.set_cons_zero, List.set_cons_succ, i64_w, i32_w]
      rfl
    simp only [Nat.reduceAdd]
    iterate 3
      first
      | refine pureF_ (v := undef) (a' := ?_) rfl rfl (any_of HT_.out (by kernel_rfl)) (fun _ _ _ h => h) (Or.inr ⟨by rfl, rfl⟩) ?_ ?_
        rotate_left
        · simp only [Act.put, Nat.reduceAdd, List.setIfInBounds_toArray, List.set_cons_zero, List.set_cons_succ, i64_w, i32_w]
          rfl
      | refine pureF_ (v := ?_) (a' := ?_) rfl rfl (any_of HT_.out (by kernel_rfl)) (fun _ _ _ h => h) (Or.inl ⟨by rfl, ?_⟩) ?_ ?_
        rotate_left
        · intro w'
          go_simp
          with_reducible rfl
        rotate_left
        · simp only [Act.put, Nat.reduceAdd, List.setIfInBounds_toArray, List.set_cons_zero, List.set_cons_succ, i64_w, i32_w]
          rfl
      | refine takeF_ (v := ?_) (a' := ?_) rfl rfl (take_ofW HT_.out HW_.out (by kernel_rfl)) (fun _ _ _ h => h) (Or.inl ⟨by rfl, ?_⟩) hHeld ?_ ?_
        rotate_left
        · rintro w' ⟨s0, s1, s2, s3, s4, s5, s6, s7, s8, s9, s10, s11, s12, s13, s14, s15⟩
          go_simp
          with_reducible rfl
        rotate_left
        · simp only [Act.put, Nat.reduceAdd, List.setIfInBounds_toArray, List.set_cons_zero, List.set_cons_succ, i64_w, i32_w]
          rfl
      simp only [Nat.reduceAdd]
    refine oneF_ rfl rfl (one_of HT_.out (by kernel_rfl)) (by simp) (fun K hK => ?_)
    refine goes_ Try.func31 (by kernel_rfl) rfl #[.agg #[.int .i64 a3_0, .int .i64 a3_1, .int .i64 a3_2, .int .i64 a3_3, .int .i64 a3_4, .int .i64 (i : Int), .int .i64 a3_6, .int .i64 a3_7, .int .i64 a3_8, .int .i64 a3_9, .slice A3_10 l3_10.length c3_10]] (by rfl) rfl rfl (by (try simp only [List.map_toArray, List.map_cons, List.map_nil]); first | done | rfl) ?_
    refine (wire_Right.calls k a3_0 a3_1 a3_2 a3_3 a3_4 (i : Int) a3_6 a3_7 a3_8 a3_9 _ _ l3_10 true _ (Kd.C_below HR3.out HB6.out) HC3.out A3.out).mono ?_
    rintro e w7 ⟨rfl, hb⟩
    refine ⟨_, rfl, ?_⟩
    have BM7 := Aside0.mk (blk_below BM6.out hb)
    have BP7 := Aside0.mk (blk_below BP6.out hb)
    have BA7 := Aside0.mk (blk_below BA6.out hb)
    have HB7 := Aside0.mk (below_step HB6.out hb)
    clear hb hHeld
    refine hK.out _ _ ⟨(blk_cell BM7.out 0).trans rfl, (blk_cell BM7.out 1).trans rfl, (blk_cell BP7.out 0).trans rfl, (blk_cell BP7.out 1).trans rfl, (blk_cell BA7.out 0).trans rfl, (blk_cell BA7.out 1).trans rfl, (blk_cell BA7.out 2).trans rfl, (blk_cell BA7.out 3).trans rfl, (blk_cell BA7.out 4).trans rfl, (blk_cell BA7.out 5).trans rfl, (blk_cell BA7.out 6).trans rfl, (blk_cell BA7.out 7).trans rfl, (blk_cell BA7.out 8).trans rfl, (blk_cell BA7.out 9).trans rfl, (blk_cell BA7.out 10).trans rfl, (HB7.out.cell (World.block_lt_of_cell? w _ HX1.out)).trans HX1.out⟩ (fun hHeld => ?_)
    clear hK K
    refine norm_ (a' := ?_) ?_ ?_
    rotate_left
    · show Act.put _ (some 17) _ = _
      simp only [Act.put, Nat.reduceAdd, List.setIfInBounds_toArray, List.set_cons_zero, List.set_cons_succ, i64_w, i32_w]
      rfl
    simp only [Nat.reduceAdd]
    iterate 40
      first
      | refine pureF_ (v := undef) (a' := ?_) rfl rfl (any_of HT_.out (by kernel_rfl)) (fun _ _ _ h => h) (Or.inr ⟨by rfl, rfl⟩) ?_ ?_
        rotate_left
        · simp only [Act.put, Nat.reduceAdd, List.setIfInBounds_toArray, List.set_cons_zero, List.set_cons_succ, i64_w, i32_w]
          rfl
      | refine pureF_ (v := ?_) (a' := ?_) rfl rfl (any_of HT_.out (by kernel_rfl)) (fun _ _ _ h => h) (Or.inl ⟨by rfl, ?_⟩) ?_ ?_
        rotate_left
        · intro w'
          go_simp
          with_reducible rfl
        rotate_left
        · simp only [Act.put, Nat.reduceAdd, List.setIfInBounds_toArray, List.set_cons_zero, List.set_cons_succ, i64_w, i32_w]
          rfl
      | refine takeF_ (v := ?_) (a' := ?_) rfl rfl (take_ofW HT_.out HW_.out (by kernel_rfl)) (fun _ _ _ h => h) (Or.inl ⟨by rfl, ?_⟩) hHeld ?_ ?_
        rotate_left
        · rintro w' ⟨s0, s1, s2, s3, s4, s5, s6, s7, s8, s9, s10, s11, s12, s13, s14, s15⟩
          go_simp
          with_reducible rfl
        rotate_left
        · simp only [Act.put, Nat.reduceAdd, List.setIfInBounds_toArray, List.set_cons_zero, List.set_cons_succ, i64_w, i32_w]
          rfl
      simp only [Nat.reduceAdd]
    refine pure_ (i := 49) (N := some 8) (v := ?_) (a' := ?_) (mk_ 50 50) rfl rfl (any_of HT_.out (by kernel_rfl)) (fun _ _ _ h => h) (Or.inl ⟨by rfl, ?_⟩) ?_ ?_
    rotate_left
    · intro w'
      go_simp
      with_reducible rfl
    rotate_left
    · simp only [Act.put, Nat.reduceAdd, List.setIfInBounds_toArray, List.set_cons_zero, List.set_cons_succ, i64_w, i32_w]
      rfl
    refine done_ (done_of HT_.out (by kernel_rfl)) ?_
    try go_wp2
    go_ret
    exact ⟨rfl, HB7.out⟩
  rw [if_pos q5] at h
  have k5 : decide (a3_8 < ((rd_T61 l0_1 (i : Int)).f1.length : Int)) = true := decide_eq_true q5
  clear q5
  have A4 := Aside0.mk h
  clear h
  go_enter Try.func16, Try.ntmps16
  go_wp2_with (first
      | ((with_reducible refine gate_dst (N := 4) rfl ?_); (try (refine gate_guard (by rfl) ?_; dsimp only)); refine box_event ?hg (N := 4) ?hd (cs := #[.int .i64 a0_0, .slice (some ad) l0_1.length c0_1]) (t := 24) ?hr ?_; (case hd => rfl); (case hg => rfl); (case hr => first | (go_simp; done) | (go_simp; rfl)); intro gm hg w1 hbox hb; have BM1 := Aside0.mk hbox; have HB1 := Aside0.mk hb; clear hg hbox hb)
      | ((with_reducible refine gate_dst (N := 5) rfl ?_); (try (refine gate_guard (by rfl) ?_; dsimp only)); refine box_event ?hg (N := 5) ?hd (cs := #[.int .i64 a1_0, .slice A1_1 l1_1.length c1_1]) (t := 27) ?hr ?_; (case hd => rfl); (case hg => rfl); (case hr => first | (go_simp; done) | (go_simp; rfl)); intro gp hg w2 hbox hb; have BM2 := Aside0.mk (blk_below BM1.out hb); have BP2 := Aside0.mk hbox; have HB2 := Aside0.mk (below_step HB1.out hb); clear hg hbox hb)
      | ((with_reducible refine gate_dst (N := 7) rfl ?_); (try (refine gate_guard (by rfl) ?_; dsimp only)); refine box_event ?hg (N := 7) ?hd (cs := #[.int .i64 a3_0, .int .i64 a3_1, .int .i64 a3_2, .int .i64 a3_3, .int .i64 a3_4, .int .i64 (i : Int), .int .i64 a3_6, .int .i64 a3_7, .int .i64 a3_8, .int .i64 a3_9, .slice A3_10 l3_10.length c3_10]) (t := 31) ?hr ?_; (case hd => rfl); (case hg => rfl); (case hr => first | (go_simp; done) | (go_simp; rfl)); intro ga hg w3 hbox hb; have BM3 := Aside0.mk (blk_below BM2.out hb); have BP3 := Aside0.mk (blk_below BP2.out hb); have BA3 := Aside0.mk hbox; have HB3 := Aside0.mk (below_step HB2.out hb); clear hg hbox hb))
  have BM4 := Aside0.mk (blk_drew BM3.out)
  have BP4 := Aside0.mk (blk_drew BP3.out)
  have BA4 := Aside0.mk (blk_drew BA3.out)
  have HB4 := Aside0.mk (below_drew1 HB3.out)
  refine start_ (n := 50) (S := fun w' => w'.cell? ⟨gm, 0, none⟩ = some (.int .i64 a0_0) ∧ w'.cell? ⟨gm, 1, none⟩ = some (.slice (some ad) l0_1.length c0_1) ∧ w'.cell? ⟨gp, 0, none⟩ = some (.int .i64 a1_0) ∧ w'.cell? ⟨gp, 1, none⟩ = some (.slice A1_1 l1_1.length c1_1) ∧ w'.cell? ⟨ga, 0, none⟩ = some (.int .i64 a3_0) ∧ w'.cell? ⟨ga, 1, none⟩ = some (.int .i64 a3_1) ∧ w'.cell? ⟨ga, 2, none⟩ = some (.int .i64 a3_2) ∧ w'.cell? ⟨ga, 3, none⟩ = some (.int .i64 a3_3) ∧ w'.cell? ⟨ga, 4, none⟩ = some (.int .i64 a3_4) ∧ w'.cell? ⟨ga, 5, none⟩ = some (.int .i64 (i:Int)) ∧ w'.cell? ⟨ga, 6, none⟩ = some (.int .i64 a3_6) ∧ w'.cell? ⟨ga, 7, none⟩ = some (.int .i64 a3_7) ∧ w'.cell? ⟨ga, 8, none⟩ = some (.int .i64 a3_8) ∧ w'.cell? ⟨ga, 9, none⟩ = some (.int .i64 a3_9) ∧ w'.cell? ⟨ga, 10, none⟩ = some (.slice A3_10 l3_10.length c3_10) ∧ w'.cell? ⟨(ad.add (i * 3)).block, (ad.add (i * 3)).off + 1, none⟩ = some (.slice B1 (rd_T61 l0_1 (i : Int)).f1.length d1)) (ds := []) (mk_ 0 50) (by kernel_rfl) rfl (by kernel_rfl) ⟨(blk_cell BM4.out 0).trans rfl, (blk_cell BM4.out 1).trans rfl, (blk_cell BP4.out 0).trans rfl, (blk_cell BP4.out 1).trans rfl, (blk_cell BA4.out 0).trans rfl, (blk_cell BA4.out 1).trans rfl, (blk_cell BA4.out 2).trans rfl, (blk_cell BA4.out 3).trans rfl, (blk_cell BA4.out 4).trans rfl, (blk_cell BA4.out 5).trans rfl, (blk_cell BA4.out 6).trans rfl, (blk_cell BA4.out 7).trans rfl, (blk_cell BA4.out 8).trans rfl, (blk_cell BA4.out 9).trans rfl, (blk_cell BA4.out 10).trans rfl, (HB4.out.cell (World.block_lt_of_cell? w _ HX1.out)).trans HX1.out⟩ (fun hHeld => ?_)
  refine with_tabW node_fits.tab1 node_fits.bits1 (fun HT_ HW_ => ?_)
  generalize w3.drew = w4 at BM4 BP4 BA4 HB4 hHeld ⊢
  clear BM3 BP3 BA3 HB3 BM2 BP2 HB2 BM1 HB1
  iterate 1
    first
    | refine pureF_ (v := undef) (a' := ?_) rfl rfl (any_of HT_.out (by kernel_rfl)) (fun _ _ _ h => h) (Or.inr ⟨by rfl, rfl⟩) ?_ ?_
      rotate_left
      · simp only [Act.put, Nat.reduceAdd, List.setIfInBounds_toArray, List.set_cons_zero, List.set_cons_succ, i64_w, i32_w]
        rfl
    | refine pureF_ (v := ?_) (a' := ?_) rfl rfl (any_of HT_.out (by kernel_rfl)) (fun _ _ _ h => h) (Or.inl ⟨by rfl, ?_⟩) ?_ ?_
      rotate_left
      · intro w'
        go_simp
        with_reducible rfl
      rotate_left
      · simp only [Act.put, Nat.reduceAdd, List.setIfInBounds_toArray, List.set_cons_zero, List.set_cons_succ, i64_w, i32_w]
        rfl
    | refine takeF_ (v := ?_) (a' := ?_) rfl rfl (take_ofW HT_.out HW_.out (by kernel_rfl)) (fun _ _ _ h => h) (Or.inl ⟨by rfl, ?_⟩) hHeld ?_ ?_
      rotate_left
      · rintro w' ⟨s0, s1, s2, s3, s4, s5, s6, s7, s8, s9, s10, s11, s12, s13, s14, s15⟩
        go_simp
        with_reducible rfl
      rotate_left
      · simp only [Act.put, Nat.reduceAdd, List.setIfInBounds_toArray, List.set_cons_zero, List.set_cons_succ, i64_w, i32_w]
        rfl
    simp only [Nat.reduceAdd]
  refine oneF_ rfl rfl (one_of HT_.out (by kernel_rfl)) (by simp) (fun K hK => ?_)
  refine goes_ Try.func29 (by kernel_rfl) rfl #[.agg #[.int .i64 a0_0, .slice (some ad) l0_1.length c0_1]] (by rfl) rfl rfl (by (try simp only [List.map_toArray, List.map_cons, List.map_nil]); first | done | rfl) ?_
  refine (model_Right.calls _ _ _ l0_1 true _ (Kd.C_below HR0.out HB4.out) HC0.out A1.out).mono ?_
  rintro e w5 ⟨rfl, hb⟩
  refine ⟨_, rfl, ?_⟩
  have BM5 := Aside0.mk (blk_below BM4.out hb)
  have BP5 := Aside0.mk (blk_below BP4.out hb)
  have BA5 := Aside0.mk (blk_below BA4.out hb)
  have HB5 := Aside0.mk (below_step HB4.out hb)
  clear hb hHeld
  refine hK.out _ _ ⟨(blk_cell BM5.out 0).trans rfl, (blk_cell BM5.out 1).trans rfl, (blk_cell BP5.out 0).trans rfl, (blk_cell BP5.out 1).trans rfl, (blk_cell BA5.out 0).trans rfl, (blk_cell BA5.out 1).trans rfl, (blk_cell BA5.out 2).trans rfl, (blk_cell BA5.out 3).trans rfl, (blk_cell BA5.out 4).trans rfl, (blk_cell BA5.out 5).trans rfl, (blk_cell BA5.out 6).trans rfl, (blk_cell BA5.out 7).trans rfl, (blk_cell BA5.out 8).trans rfl, (blk_cell BA5.out 9).trans rfl, (blk_cell BA5.out 10).trans rfl, (HB5.out.cell (World.block_lt_of_cell? w _ HX1.out)).trans HX1.out⟩ (fun hHeld => ?_)
  clear hK K
  refine norm_ (a' := ?_) ?_ ?_
  rotate_left
  · show Act.put _ (some 10) _ = _
    simp only [Act.put, Nat.reduceAdd, List.setIfInBounds_toArray, List.set_cons_zero, List.set_cons_succ, i64_w, i32_w]
    rfl
  simp only [Nat.reduceAdd]
  iterate 2
    first
    | refine pureF_ (v := undef) (a' := ?_) rfl rfl (any_of HT_.out (by kernel_rfl)) (fun _ _ _ h => h) (Or.inr ⟨by rfl, rfl⟩) ?_ ?_
      rotate_left
      · simp only [Act.put, Nat.reduceAdd, List.setIfInBounds_toArray, List.set_cons_zero, List.set_cons_succ, i64_w, i32_w]
        rfl
    | refine pureF_ (v := ?_) (a' := ?_) rfl rfl (any_of HT_.out (by kernel_rfl)) (fun _ _ _ h => h) (Or.inl ⟨by rfl, ?_⟩) ?_ ?_
      rotate_left
      · intro w'
        go_simp
        with_reducible rfl
      rotate_left
      · simp only [Act.put, Nat.reduceAdd, List.setIfInBounds_toArray, List.set_cons_zero, List.set_cons_succ, i64_w, i32_w]
        rfl
    | refine takeF_ (v := ?_) (a' := ?_) rfl rfl (take_ofW HT_.out HW_.out (by kernel_rfl)) (fun _ _ _ h => h) (Or.inl ⟨by rfl, ?_⟩) hHeld ?_ ?_
      rotate_left
      · rintro w' ⟨s0, s1, s2, s3, s4, s5, s6, s7, s8, s9, s10, s11, s12, s13, s14, s15⟩
        go_simp
        with_reducible rfl
      rotate_left
      · simp only [Act.put, Nat.reduceAdd, List.setIfInBounds_toArray, List.set_cons_zero, List.set_cons_succ, i64_w, i32_w]
        rfl
    simp only [Nat.reduceAdd]
  refine oneF_ rfl rfl (one_of HT_.out (by kernel_rfl)) (by simp) (fun K hK => ?_)
  refine goes_ Try.func30 (by kernel_rfl) rfl #[.agg #[.int .i64 a1_0, .slice A1_1 l1_1.length c1_1]] (by rfl) rfl rfl (by (try simp only [List.map_toArray, List.map_cons, List.map_nil]); first | done | rfl) ?_
  refine (place_Right.calls k _ _ _ l1_1 true _ (Kd.C_below HR1.out HB5.out) HC1.out A2.out).mono ?_
  rintro e w6 ⟨rfl, hb⟩
  refine ⟨_, rfl, ?_⟩
  have BM6 := Aside0.mk (blk_below BM5.out hb)
  have BP6 := Aside0.mk (blk_below BP5.out hb)
  have BA6 := Aside0.mk (blk_below BA5.out hb)
  have HB6 := Aside0.mk (below_step HB5.out hb)
  clear hb hHeld
  refine hK.out _ _ ⟨(blk_cell BM6.out 0).trans rfl, (blk_cell BM6.out 1).trans rfl, (blk_cell BP6.out 0).trans rfl, (blk_cell BP6.out 1).trans rfl, (blk_cell BA6.out 0).trans rfl, (blk_cell BA6.out 1).trans rfl, (blk_cell BA6.out 2).trans rfl, (blk_cell BA6.out 3).trans rfl, (blk_cell BA6.out 4).trans rfl, (blk_cell BA6.out 5).trans rfl, (blk_cell BA6.out 6).trans rfl, (blk_cell BA6.out 7).trans rfl, (blk_cell BA6.out 8).trans rfl, (blk_cell BA6.out 9).trans rfl, (blk_cell BA6.out 10).trans rfl, (HB6.out.cell (World.block_lt_of_cell? w _ HX1.out)).trans HX1.out⟩ (fun hHeld => ?_)
  clear hK K
  refine norm_ (a' := ?_) ?_ ?_
  rotate_left
  · show Act.put _ (some 13) _ = _
    simp only [Act.put, Nat.reduceAdd, List.setIfInBounds_toArray, List.set_cons_zero, List.set_cons_succ, i64_w, i32_w]
    rfl
  simp only [Nat.reduceAdd]
  iterate 3
    first
    | refine pureF_ (v := undef) (a' := ?_) rfl rfl (any_of HT_.out (by kernel_rfl)) (fun _ _ _ h => h) (Or.inr ⟨by rfl, rfl⟩) ?_ ?_
      rotate_left
      · simp only [Act.put, Nat.reduceAdd, List.setIfInBounds_toArray, List.set_cons_zero, List.set_cons_succ, i64_w, i32_w]
        rfl
    | refine pureF_ (v := ?_) (a' := ?_) rfl rfl (any_of HT_.out (by kernel_rfl)) (fun _ _ _ h => h) (Or.inl ⟨by rfl, ?_⟩) ?_ ?_
      rotate_left
      · intro w'
        go_simp
        with_reducible rfl
      rotate_left
      · simp only [Act.put, Nat.reduceAdd, List.setIfInBounds_toArray, List.set_cons_zero, List.set_cons_succ, i64_w, i32_w]
        rfl
    | refine takeF_ (v := ?_) (a' := ?_) rfl rfl (take_ofW HT_.out HW_.out (by kernel_rfl)) (fun _ _ _ h => h) (Or.inl ⟨by rfl, ?_⟩) hHeld ?_ ?_
      rotate_left
      · rintro w' ⟨s0, s1, s2, s3, s4, s5, s6, s7, s8, s9, s10, s11, s12, s13, s14, s15⟩
        go_simp
        with_reducible rfl
      rotate_left
      · simp only [Act.put, Nat.reduceAdd, List.setIfInBounds_toArray, List.set_cons_zero, List.set_cons_succ, i64_w, i32_w]
        rfl
    simp only [Nat.reduceAdd]
  refine oneF_ rfl rfl (one_of HT_.out (by kernel_rfl)) (by simp) (fun K hK => ?_)
  refine goes_ Try.func31 (by kernel_rfl) rfl #[.agg #[.int .i64 a3_0, .int .i64 a3_1, .int .i64 a3_2, .int .i64 a3_3, .int .i64 a3_4, .int .i64 (i : Int), .int .i64 a3_6, .int .i64 a3_7, .int .i64 a3_8, .int .i64 a3_9, .slice A3_10 l3_10.length c3_10]] (by rfl) rfl rfl (by (try simp only [List.map_toArray, List.map_cons, List.map_nil]); first | done | rfl) ?_
  refine (wire_Right.calls k a3_0 a3_1 a3_2 a3_3 a3_4 (i : Int) a3_6 a3_7 a3_8 a3_9 _ _ l3_10 true _ (Kd.C_below HR3.out HB6.out) HC3.out A3.out).mono ?_
  rintro e w7 ⟨rfl, hb⟩
  refine ⟨_, rfl, ?_⟩
  have BM7 := Aside0.mk (blk_below BM6.out hb)
  have BP7 := Aside0.mk (blk_below BP6.out hb)
  have BA7 := Aside0.mk (blk_below BA6.out hb)
  have HB7 := Aside0.mk (below_step HB6.out hb)
  clear hb hHeld
  refine hK.out _ _ ⟨(blk_cell BM7.out 0).trans rfl, (blk_cell BM7.out 1).trans rfl, (blk_cell BP7.out 0).trans rfl, (blk_cell BP7.out 1).trans rfl, (blk_cell BA7.out 0).trans rfl, (blk_cell BA7.out 1).trans rfl, (blk_cell BA7.out 2).trans rfl, (blk_cell BA7.out 3).trans rfl, (blk_cell BA7.out 4).trans rfl, (blk_cell BA7.out 5).trans rfl, (blk_cell BA7.out 6).trans rfl, (blk_cell BA7.out 7).trans rfl, (blk_cell BA7.out 8).trans rfl, (blk_cell BA7.out 9).trans rfl, (blk_cell BA7.out 10).trans rfl, (HB7.out.cell (World.block_lt_of_cell? w _ HX1.out)).trans HX1.out⟩ (fun hHeld => ?_)
  clear hK K
  refine norm_ (a' := ?_) ?_ ?_
  rotate_left
  · show Act.put _ (some 17) _ = _
    simp only [Act.put, Nat.reduceAdd, List.setIfInBounds_toArray, List.set_cons_zero, List.set_cons_succ, i64_w, i32_w]
    rfl
  simp only [Nat.reduceAdd]
  iterate 37
    first
    | refine pureF_ (v := undef) (a' := ?_) rfl rfl (any_of HT_.out (by kernel_rfl)) (fun _ _ _ h => h) (Or.inr ⟨by rfl, rfl⟩) ?_ ?_
      rotate_left
      · simp only [Act.put, Nat.reduceAdd, List.setIfInBounds_toArray, List.set_cons_zero, List.set_cons_succ, i64_w, i32_w]
        rfl
    | refine pureF_ (v := ?_) (a' := ?_) rfl rfl (any_of HT_.out (by kernel_rfl)) (fun _ _ _ h => h) (Or.inl ⟨by rfl, ?_⟩) ?_ ?_
      rotate_left
      · intro w'
        go_simp
        with_reducible rfl
      rotate_left
      · simp only [Act.put, Nat.reduceAdd, List.setIfInBounds_toArray, List.set_cons_zero, List.set_cons_succ, i64_w, i32_w]
        rfl
    | refine takeF_ (v := ?_) (a' := ?_) rfl rfl (take_ofW HT_.out HW_.out (by kernel_rfl)) (fun _ _ _ h => h) (Or.inl ⟨by rfl, ?_⟩) hHeld ?_ ?_
      rotate_left
      · rintro w' ⟨s0, s1, s2, s3, s4, s5, s6, s7, s8, s9, s10, s11, s12, s13, s14, s15⟩
        go_simp
        with_reducible rfl
      rotate_left
      · simp only [Act.put, Nat.reduceAdd, List.setIfInBounds_toArray, List.set_cons_zero, List.set_cons_succ, i64_w, i32_w]
        rfl
    simp only [Nat.reduceAdd]
  refine oneF_ rfl rfl (one_of HT_.out (by kernel_rfl)) (by simp) (fun K hK => ?_)
  refine event_step (v := .slice (some ⟨w7.heap.size, 0, none⟩) 1 1) (w1 := w7.alloc (.cells #[.slice A3_10 l3_10.length c3_10] 29)) (by rfl) (by first | (go_simp; done) | (go_simp; rfl)) ?_
  have BN := Aside0.mk (alloc_atF (W := w7) (.cells #[.slice A3_10 l3_10.length c3_10] 29) rfl)
  have hb := below_alloc (Below.refl w7.heap.size w7) (.cells #[.slice A3_10 l3_10.length c3_10] 29)
  generalize w7.alloc (.cells #[.slice A3_10 l3_10.length c3_10] 29) = w8 at BN hb ⊢
  have BM8 := Aside0.mk (blk_below BM7.out hb)
  have BP8 := Aside0.mk (blk_below BP7.out hb)
  have BA8 := Aside0.mk (blk_below BA7.out hb)
  have HB8 := Aside0.mk (below_step HB7.out hb)
  clear hb hHeld
  refine hK.out _ _ ⟨(blk_cell BM8.out 0).trans rfl, (blk_cell BM8.out 1).trans rfl, (blk_cell BP8.out 0).trans rfl, (blk_cell BP8.out 1).trans rfl, (blk_cell BA8.out 0).trans rfl, (blk_cell BA8.out 1).trans rfl, (blk_cell BA8.out 2).trans rfl, (blk_cell BA8.out 3).trans rfl, (blk_cell BA8.out 4).trans rfl, (blk_cell BA8.out 5).trans rfl, (blk_cell BA8.out 6).trans rfl, (blk_cell BA8.out 7).trans rfl, (blk_cell BA8.out 8).trans rfl, (blk_cell BA8.out 9).trans rfl, (blk_cell BA8.out 10).trans rfl, (HB8.out.cell (World.block_lt_of_cell? w _ HX1.out)).trans HX1.out⟩ (fun hHeld => ?_)
  clear hK K
  refine norm_ (a' := ?_) ?_ ?_
  rotate_left
  · show Act.put _ (some 55) _ = _
    simp only [Act.put, Nat.reduceAdd, List.setIfInBounds_toArray, List.set_cons_zero, List.set_cons_succ, i64_w, i32_w]
    rfl
  simp only [Nat.reduceAdd]
  refine oneF_ rfl rfl (one_of HT_.out (by kernel_rfl)) (by simp) (fun K hK => ?_)
  refine goes_ Try.func32 (by kernel_rfl) rfl #[.agg #[.int .i64 a0_0, .slice (some ad) l0_1.length c0_1], .slice (some ⟨w7.heap.size, 0, none⟩) 1 1] (by rfl) rfl rfl (by (try simp only [List.map_toArray, List.map_cons, List.map_nil]); first | done | rfl) ?_
  refine (model_Tokens.calls _ _ _ l0_1 _ 1 [l3_10] r _ (Kd.C_below HR0.out HB8.out) HC0.out (C_one' BN.out ⟨_, _, rfl, HC3.out, Kd.C_below HR3.out HB8.out⟩ rfl) (Nat.le_refl _) A4.out).mono ?_
  rintro e w9 ⟨rfl, hb⟩
  refine ⟨_, rfl, ?_⟩
  have BM9 := Aside0.mk (blk_below BM8.out hb)
  have BP9 := Aside0.mk (blk_below BP8.out hb)
  have BA9 := Aside0.mk (blk_below BA8.out hb)
  have HB9 := Aside0.mk (below_step HB8.out hb)
  clear hb hHeld
  refine hK.out _ _ ⟨(blk_cell BM9.out 0).trans rfl, (blk_cell BM9.out 1).trans rfl, (blk_cell BP9.out 0).trans rfl, (blk_cell BP9.out 1).trans rfl, (blk_cell BA9.out 0).trans rfl, (blk_cell BA9.out 1).trans rfl, (blk_cell BA9.out 2).trans rfl, (blk_cell BA9.out 3).trans rfl, (blk_cell BA9.out 4).trans rfl, (blk_cell BA9.out 5).trans rfl, (blk_cell BA9.out 6).trans rfl, (blk_cell BA9.out 7).trans rfl, (blk_cell BA9.out 8).trans rfl, (blk_cell BA9.out 9).trans rfl, (blk_cell BA9.out 10).trans rfl, (HB9.out.cell (World.block_lt_of_cell? w _ HX1.out)).trans HX1.out⟩ (fun hHeld => ?_)
  clear hK K
  refine norm_ (a' := ?_) ?_ ?_
  rotate_left
  · show Act.put _ (some 56) _ = _
    simp only [Act.put, Nat.reduceAdd, List.setIfInBounds_toArray, List.set_cons_zero, List.set_cons_succ, i64_w, i32_w]
    rfl
  simp only [Nat.reduceAdd]
  iterate 1
    first
    | refine pureF_ (v := undef) (a' := ?_) rfl rfl (any_of HT_.out (by kernel_rfl)) (fun _ _ _ h => h) (Or.inr ⟨by rfl, rfl⟩) ?_ ?_
      rotate_left
      · simp only [Act.put, Nat.reduceAdd, List.setIfInBounds_toArray, List.set_cons_zero, List.set_cons_succ, i64_w, i32_w]
        rfl
    | refine pureF_ (v := ?_) (a' := ?_) rfl rfl (any_of HT_.out (by kernel_rfl)) (fun _ _ _ h => h) (Or.inl ⟨by rfl, ?_⟩) ?_ ?_
      rotate_left
      · intro w'
        go_simp
        with_reducible rfl
      rotate_left
      · simp only [Act.put, Nat.reduceAdd, List.setIfInBounds_toArray, List.set_cons_zero, List.set_cons_succ, i64_w, i32_w]
        rfl
    | refine takeF_ (v := ?_) (a' := ?_) rfl rfl (take_ofW HT_.out HW_.out (by kernel_rfl)) (fun _ _ _ h => h) (Or.inl ⟨by rfl, ?_⟩) hHeld ?_ ?_
      rotate_left
      · rintro w' ⟨s0, s1, s2, s3, s4, s5, s6, s7, s8, s9, s10, s11, s12, s13, s14, s15⟩
        go_simp
        with_reducible rfl
      rotate_left
      · simp only [Act.put, Nat.reduceAdd, List.setIfInBounds_toArray, List.set_cons_zero, List.set_cons_succ, i64_w, i32_w]
        rfl
    simp only [Nat.reduceAdd]
  refine pure_ (i := 49) (N := some 8) (v := ?_) (a' := ?_) (mk_ 50 50) rfl rfl (any_of HT_.out (by kernel_rfl)) (fun _ _ _ h => h) (Or.inl ⟨by rfl, ?_⟩) ?_ ?_
  rotate_left
  · intro w'
    go_simp
    with_reducible rfl
  rotate_left
  · simp only [Act.put, Nat.reduceAdd, List.setIfInBounds_toArray, List.set_cons_zero, List.set_cons_succ, i64_w, i32_w]
    rfl
  refine done_ (done_of HT_.out (by kernel_rfl)) ?_
  try go_wp2
  go_ret
  exact ⟨rfl, HB9.out⟩

end Go.Proofs.Ytabklpdjjoaocaa.Qy
