/- Own text, by hand: the walk of ref15.Parts. -/
import Derived.Test.YtlicglgogklnkaaPr0
import Derived.Test.YtlicglgogklnkaaPr13
namespace Go.Proofs.Ytlicglgogklnkaa.Pr
open Go.RowKit Go.Proofs.YtlicglgogklnkaaW.PrintWords Go.Proofs.YtlicglgogklnkaaW.PrintLast Go.Proofs.YtlicglgogklnkaaW.PrintMore
attribute [local go_sem] max2_int min2_int max_two min_two max_three min_three max_four min_four
set_option linter.unusedVariables false
set_option linter.unusedSimpArgs false

theorem info41 : (Try.prog.info? 41).map (fun i => (i.zero, i.size, i.bytes)) = some (some (.agg #[(.int .i64 0), (.int .i64 0), (.int .i64 0), (.int .i64 0)]), 4, 32) := by kernel_rfl
/-! #### struct type 41 -/
structure S41 where
  f0 : Int
  f1 : Int
  f2 : Int
  f3 : Int
def z41 : S41 := ⟨(0 : Int), (0 : Int), (0 : Int), (0 : Int)⟩
def k41 : Kd S41 := Kd.iso (Kd.pair (Kd.int .i64) (Kd.pair (Kd.int .i64) (Kd.pair (Kd.int .i64) (Kd.int .i64)))) (fun x : S41 => (x.f0, x.f1, x.f2, x.f3))
theorem k41_heap : Kd.Heap k41 := Kd.heap_iso _ (Kd.heap_pair (Kd.heap_int .i64) (Kd.heap_pair (Kd.heap_int .i64) (Kd.heap_pair (Kd.heap_int .i64) (Kd.heap_int .i64))))
theorem k41_open {w : World} {x : S41} {cs : List Value} (h : k41.K w x cs) : cs = [.int .i64 x.f0, .int .i64 x.f1, .int .i64 x.f2, .int .i64 x.f3] := by
  obtain ⟨_, _, rfl, rfl, ⟨_, _, rfl, rfl, ⟨_, _, rfl, rfl, rfl⟩⟩⟩ := h
  exact rfl
theorem k41_openM {w : World} {base : Nat} {ok : Nat → Prop} {x : S41} {cs : List Value} (h : k41.M w base ok x cs) : cs = [.int .i64 x.f0, .int .i64 x.f1, .int .i64 x.f2, .int .i64 x.f3] := by
  obtain ⟨_, _, rfl, rfl, ⟨_, _, rfl, rfl, ⟨_, _, rfl, rfl, rfl⟩⟩⟩ := h
  exact rfl
theorem k41_mk (w : World) (x : S41)  : k41.K w x [.int .i64 x.f0, .int .i64 x.f1, .int .i64 x.f2, .int .i64 x.f3] := ⟨[.int .i64 x.f0], [.int .i64 x.f1, .int .i64 x.f2, .int .i64 x.f3], rfl, rfl, ⟨[.int .i64 x.f1], [.int .i64 x.f2, .int .i64 x.f3], rfl, rfl, ⟨[.int .i64 x.f2], [.int .i64 x.f3], rfl, rfl, rfl⟩⟩⟩
theorem k41_mkM (w : World) (base : Nat) (ok : Nat → Prop) (x : S41)  : k41.M w base ok x [.int .i64 x.f0, .int .i64 x.f1, .int .i64 x.f2, .int .i64 x.f3] := ⟨[.int .i64 x.f0], [.int .i64 x.f1, .int .i64 x.f2, .int .i64 x.f3], rfl, rfl, ⟨[.int .i64 x.f1], [.int .i64 x.f2, .int .i64 x.f3], rfl, rfl, ⟨[.int .i64 x.f2], [.int .i64 x.f3], rfl, rfl, rfl⟩⟩⟩
theorem k41_mkF (W : World) (ok : Nat → Prop) (x : S41) : Kd.FK k41 W ok x [.int .i64 x.f0, .int .i64 x.f1, .int .i64 x.f2, .int .i64 x.f3] := fun W2 _ => k41_mk W2 x
def rd_T41 (xs : List S41) (i : Int) : S41 := xs.getD i.toNat z41
theorem at_T41 {w : World} {A : Option Addr} {n : Nat} {xs : List S41} (h : Kd.C k41 w A n xs) (i : Int) (h0 : 0 ≤ i) (h1 : i < n) : ∃ ad , A = some ad ∧ w.cell? (ad.add (i.toNat * 4)) = some (.int .i64 (rd_T41 xs i).f0) ∧ w.cell? ⟨(ad.add (i.toNat * 4)).block, (ad.add (i.toNat * 4)).off + 1, none⟩ = some (.int .i64 (rd_T41 xs i).f1) ∧ w.cell? ⟨(ad.add (i.toNat * 4)).block, (ad.add (i.toNat * 4)).off + 2, none⟩ = some (.int .i64 (rd_T41 xs i).f2) ∧ w.cell? ⟨(ad.add (i.toNat * 4)).block, (ad.add (i.toNat * 4)).off + 3, none⟩ = some (.int .i64 (rd_T41 xs i).f3) := by
  obtain ⟨ad, c, e, _, hK, hc0⟩ := Kd.C_get h z41 i h0 h1
  have hc : ∀ j u, c[j]? = some u → w.cell? (ad.add (i.toNat * 4 + j)) = some u := hc0
  obtain rfl := k41_open hK
  exact ⟨ad, e, hc 0 _ rfl, by rw [← add_field _ _ 1 (by omega)]; exact hc 1 _ rfl, by rw [← add_field _ _ 2 (by omega)]; exact hc 2 _ rfl, by rw [← add_field _ _ 3 (by omega)]; exact hc 3 _ rfl⟩
theorem wrap_ok {x : Int} (h0 : 0 ≤ x) (h1 : x < 1000000) : wrap64 x = x := by
  unfold wrap64
  omega
theorem alloc_atR {W : World} {g : Nat} (o : Obj) (h : g = W.heap.size) : (W.alloc o).heap[g]? = some o := by rw [h]; exact heap_alloc_new W o
/-- What the gate tells of each token, as the slots' words want it. -/
def ptWant (c : Nat → Int × Int × Int × Int × Bool) (n : Nat) : List S68 := (List.range n).map fun t => ⟨(c t).1, (c t).2.1⟩
/-- The parts of n tokens: of token t the first if s0 t, the second if s1 t is a slot. -/
def ptUp (c : Nat → Int × Int × Int × Int × Bool) (s0 s1 : Nat → Int) : Nat → List S41
  | 0 => []
  | t + 1 => (ptUp c s0 s1 t ++ (if s0 t ≥ 0 then [(⟨(t : Int), 0, (c t).1, (c t).2.2.1⟩ : S41)] else [])) ++ (if s1 t ≥ 0 then [(⟨(t : Int), 1, (c t).2.1, (c t).2.2.2.1⟩ : S41)] else [])
theorem ptUp_length (c : Nat → Int × Int × Int × Int × Bool) (s0 s1 : Nat → Int) : ∀ t, (ptUp c s0 s1 t).length ≤ 2 * t
  | 0 => Nat.le_refl _
  | t + 1 => by
    have := ptUp_length c s0 s1 t
    simp only [ptUp, List.length_append]
    split <;> split <;> simp <;> omega
theorem ptWant_length (c : Nat → Int × Int × Int × Int × Bool) (t : Nat) : (ptWant c t).length = t := by unfold ptWant; rw [List.length_map, List.length_range]
structure PartsH (x : S37) (T : List (List Int)) (c : Nat → Int × Int × Int × Int × Bool) (s0 s1 : Nat → Int) : Prop where
  len : T.length ≤ 60
  hc : ∀ t, t < T.length → Ev (fun k => switchboardref13_Choose.f k x.f0 (T.getD t [])) (c t)
  h0 : ∀ t : Nat, t < T.length → Ev (fun k => switchboardref14_Slot.f k (ptWant c T.length) (x.f1.length : Int) x.f2 (t : Int) 0) (s0 t)
  h1 : ∀ t : Nat, t < T.length → Ev (fun k => switchboardref14_Slot.f k (ptWant c T.length) (x.f1.length : Int) x.f2 (t : Int) 1) (s1 t)
set_option maxHeartbeats 8000000 in
set_option maxRecDepth 100000 in
theorem switchboardref15_Parts.calls (A0 : Option Addr) (c0 : Nat) (A1 : Option Addr) (c1 : Nat) (x : S37) (AT : Option Addr) (cT : Nat) (T : List (List Int)) (c : Nat → Int × Int × Int × Int × Bool) (s0 s1 : Nat → Int) (w : World) (hr0_0 : Kd.C (Kd.slice 3 (Kd.int .i64)) w A0 x.f0.length x.f0) (hc0_0 : x.f0.length ≤ c0) (hr0_1 : Kd.C k46 w A1 x.f1.length x.f1) (hc0_1 : x.f1.length ≤ c1) (hr1 : Kd.C (Kd.slice 3 (Kd.int .i64)) w AT T.length T) (hc1 : T.length ≤ cT) (h : PartsH x T c s0 s1) :
    Calls Try.prog 18 #[.agg #[.slice A0 x.f0.length c0, .slice A1 x.f1.length c1, .int .i64 x.f2], .slice AT T.length cT] w fun e w' => ∃ v0_ : Value, e = .returned v0_ ∧ Kd.R k41 41 w' w.heap.size (fun _ => True) v0_ (ptUp c s0 s1 T.length) ∧ Below w.heap.size w w' := by
  have hu37 := Try.underlying37
  have hu70 := Try.underlying70
  have hu68 := Try.underlying68
  have HR0 := Aside0.mk hr0_0
  have HC0 := Aside0.mk hc0_0
  have HRT := Aside0.mk hr1
  have HCT := Aside0.mk hc1
  have HH := Aside0.mk h
  have HT60 := Aside0.mk h.len
  clear h hr0_0 hc0_0 hr0_1 hc0_1 hr1 hc1
  have HX0 : Aside0 ((w.alloc (.cells #[.slice A0 x.f0.length c0, .slice A1 x.f1.length c1, .int .i64 x.f2] 37)).heap[w.heap.size]? = some (.cells #[.slice A0 x.f0.length c0, .slice A1 x.f1.length c1, .int .i64 x.f2] 37 (0, 0))) := ⟨alloc_atR _ rfl⟩
  have HB0 : Aside0 (Below w.heap.size w (w.alloc (.cells #[.slice A0 x.f0.length c0, .slice A1 x.f1.length c1, .int .i64 x.f2] 37))) := ⟨below_alloc (Below.refl _ _) _⟩
  go_enter Try.func18, Try.ntmps18
  go_wp2
  go_loopw [5, 16] (fun v5 v16 W => ∃ (t : Nat), v16 = .int .i64 (t : Int) ∧ Aside0 (t ≤ T.length) ∧ Aside0 (Below w.heap.size w W) ∧ Aside0 (W.heap[w.heap.size]? = some (.cells #[.slice A0 x.f0.length c0, .slice A1 x.f1.length c1, .int .i64 x.f2] 37 (0, 0))) ∧ Aside0 (Kd.R k68 68 W w.heap.size (fun _ => True) v5 (ptWant c t))) (fun _ v16 _ => T.length - (intOf v16).toNat)
  case atStart => exact ⟨0, rfl, ⟨by omega⟩, HB0, HX0, ⟨Kd.R_nil _ _ _ _ _⟩⟩
  case round =>
    obtain ⟨t, rfl, HI, HBW, HXW, HOW⟩ := hrel
    clear HB0 HX0
    by_cases hlt : t < T.length
    rotate_left
    · have k1 : decide ((t : Int) < (T.length : Int)) = false := decide_eq_false (by omega)
      have k1n : decide (t < T.length) = false := decide_eq_false hlt
      have ht : t = T.length := by have := HI.out; omega
      subst ht
      clear hlt HI
      obtain ⟨A5, c5, hv5⟩ := Kd.R_slice HOW.out
      subst hv5
      have HWL : Aside0 ((ptWant c T.length).length = T.length) := ⟨ptWant_length _ _⟩
      skip
      obtain ⟨wL, hwL⟩ : ∃ wL, wL = wr := ⟨_, rfl⟩
      rw [← hwL] at HBW HXW HOW ⊢
      clear hwL
      have HOWB := Aside0.mk (Kd.R_mono (ok' := fun k => k < wL.heap.size) (Kd.R_bound HOW.out) (fun k hk => hk.2.2.1))
      go_wp2
      go_loopw [10, 11] (fun v10 v11 W => ∃ (t : Nat), v11 = .int .i64 (t : Int) ∧ Aside0 (t ≤ T.length) ∧ Aside0 (Below wL.heap.size wL W) ∧ Aside0 (Kd.R k41 41 W wL.heap.size (fun _ => True) v10 (ptUp c s0 s1 t))) (fun _ v11 _ => T.length - (intOf v11).toNat)
      case atStart => exact ⟨0, rfl, ⟨by omega⟩, ⟨Below.refl _ _⟩, ⟨Kd.R_nil _ _ _ _ _⟩⟩
      case round =>
        obtain ⟨t, rfl, HI, HB, HO⟩ := hrel
        by_cases hlt : t < T.length
        case neg =>
          have k2 : decide ((t : Int) < (T.length : Int)) = false := decide_eq_false (by omega)
          have k2n : decide (t < T.length) = false := decide_eq_false hlt
          have ht : t = T.length := by have := HI.out; omega
          subst ht
          clear hlt HI
          obtain ⟨Ao, co, rfl⟩ := Kd.R_slice HO.out
          have HF := Aside0.mk (Kd.R_lower HO.out (below_size HBW.out))
          have HBF := Aside0.mk (below_step HBW.out HB.out)
          go_wp2
          go_ret
          exact ⟨_, rfl, HF.out, HBF.out⟩
        have k2 : decide ((t : Int) < (T.length : Int)) = true := decide_eq_true (by omega)
        have k2n : decide (t < T.length) = true := decide_eq_true hlt
        have HW1 : Aside0 (wrap64 ((t : Int) + 1) = (t : Int) + 1) := ⟨wrap_ok (by omega) (by have := HT60.out; omega)⟩
        have HIL := Aside0.mk hlt
        obtain ⟨w1, hw1⟩ : ∃ w1, w1 = wr := ⟨_, rfl⟩
        rw [← hw1] at HB HO ⊢
        clear hw1
        have HB1 := Aside0.mk (below_step HBW.out HB.out)
        obtain ⟨at_, Bu, du, hA, hxt, hlu, hCu⟩ := at_L1 (Kd.C_below HRT.out HB1.out) (t : Int) (by omega) (by omega)
        subst hA
        rw [Int.toNat_natCast] at hxt
        obtain ⟨u, hu⟩ : ∃ u, u = rd_L1 T (t : Int) := ⟨_, rfl⟩
        rw [← hu] at hxt hlu hCu
        have hev := HH.out.hc t hlt
        rw [show T.getD t [] = u by rw [hu]; unfold rd_L1; rw [Int.toNat_natCast]] at hev
        obtain ⟨kc, hkc⟩ := hev.rounds
        obtain ⟨k0, hk0⟩ := (HH.out.h0 t hlt).rounds
        obtain ⟨k1_, hk1⟩ := (HH.out.h1 t hlt).rounds
        obtain ⟨a1, a2, a3, a4, a5, hct⟩ : ∃ a1 a2 a3 a4 a5, c t = (a1, a2, a3, a4, a5) := ⟨_, _, _, _, _, rfl⟩
        rw [hct] at hkc
        have HKC := Aside0.mk hkc
        have HK0 := Aside0.mk hk0
        have HK1 := Aside0.mk hk1
        have HCU := Aside0.mk hCu
        have HLU := Aside0.mk hlu
        have HCTE := Aside0.mk hct
        clear hev hkc hk0 hk1 hCu hlu hu hct
        have HX1 := Aside0.mk (blk_below HXW.out HB.out)
        have HXT := Aside0.mk hxt
        clear hxt
        go_upto_region 12 with (fail)
        have HB5 := Aside0.mk (below_drew (Below.refl w1.heap.size w1))
        refine start_ (n := 13) (S := fun W => W.cell? ⟨w.heap.size, 0, none⟩ = some (.slice A0 x.f0.length c0) ∧ W.cell? (at_.add t) = some (.slice Bu u.length du)) (ds := []) #[false, false, false, false, false, false, false, false, false, false, false, false, false] (by kernel_rfl) rfl rfl ⟨(blk_cell (blk_below HX1.out HB5.out) 0).trans rfl, pw_cell_below HB5.out HXT.out⟩ (fun hHeld => ?_)
        generalize w1.drew = w5 at HB5 hHeld ⊢
        refine pure_ (i := 0) (N := some 43) (v := ?_) (a' := ?_) #[true, false, false, false, false, false, false, false, false, false, false, false, false] rfl rfl (any_of rfl (by kernel_rfl)) (fun _ _ _ h => h) (Or.inl ⟨by rfl, ?_⟩) ?_ ?_
        rotate_left
        · intro w'
          go_simp
          with_reducible rfl
        rotate_left
        · simp only [Act.put, List.setIfInBounds_toArray, List.set_cons_zero, List.set_cons_succ, i64_w, i32_w]
          rfl
        refine take_ (i := 1) (N := some 44) (v := ?_) (a' := ?_) #[true, true, false, false, false, false, false, false, false, false, false, false, false] rfl rfl (take_of rfl (by kernel_rfl)) (fun _ _ _ h => h) (Or.inl ⟨by rfl, ?_⟩) hHeld ?_ ?_
        rotate_left
        · rintro w' ⟨s0, s1⟩
          go_simp
          with_reducible rfl
        rotate_left
        · simp only [Act.put, List.setIfInBounds_toArray, List.set_cons_zero, List.set_cons_succ, i64_w, i32_w]
          rfl
        refine pure_ (i := 2) (N := some 45) (v := ?_) (a' := ?_) #[true, true, true, false, false, false, false, false, false, false, false, false, false] rfl rfl (any_of rfl (by kernel_rfl)) (fun _ _ _ h => h) (Or.inl ⟨by rfl, ?_⟩) ?_ ?_
        rotate_left
        · intro w'
          go_simp
          with_reducible rfl
        rotate_left
        · simp only [Act.put, List.setIfInBounds_toArray, List.set_cons_zero, List.set_cons_succ, i64_w, i32_w]
          rfl
        refine pure_ (i := 3) (N := some 46) (v := ?_) (a' := ?_) #[true, true, true, true, false, false, false, false, false, false, false, false, false] rfl rfl (any_of rfl (by kernel_rfl)) (fun _ _ _ h => h) (Or.inl ⟨by rfl, ?_⟩) ?_ ?_
        rotate_left
        · intro w'
          go_simp
          with_reducible rfl
        rotate_left
        · simp only [Act.put, List.setIfInBounds_toArray, List.set_cons_zero, List.set_cons_succ, i64_w, i32_w]
          rfl
        refine pure_ (i := 4) (N := some 47) (v := ?_) (a' := ?_) #[true, true, true, true, true, false, false, false, false, false, false, false, false] rfl rfl (any_of rfl (by kernel_rfl)) (fun _ _ _ h => h) (Or.inl ⟨by rfl, ?_⟩) ?_ ?_
        rotate_left
        · intro w'
          go_simp
          with_reducible rfl
        rotate_left
        · simp only [Act.put, List.setIfInBounds_toArray, List.set_cons_zero, List.set_cons_succ, i64_w, i32_w]
          rfl
        refine take_ (i := 5) (N := some 48) (v := ?_) (a' := ?_) #[true, true, true, true, true, true, false, false, false, false, false, false, false] rfl rfl (take_of rfl (by kernel_rfl)) (fun _ _ _ h => h) (Or.inl ⟨by rfl, ?_⟩) hHeld ?_ ?_
        rotate_left
        · rintro w' ⟨s0, s1⟩
          go_simp
          with_reducible rfl
        rotate_left
        · simp only [Act.put, List.setIfInBounds_toArray, List.set_cons_zero, List.set_cons_succ, i64_w, i32_w]
          rfl
        clear hHeld
        refine join_ (σ := Nat) 2 #[true, true, true, true, true, true, true, true, true, true, true, false, false] (fun g_ => [(49, .tuple #[.agg #[.int .i64 a1, .int .i64 a2, .int .i64 a3, .int .i64 a4], .bool a5]), (42, .tuple #[.agg #[.int .i64 a1, .int .i64 a2, .int .i64 a3, .int .i64 a4], .bool a5]), (50, .agg #[.int .i64 a1, .int .i64 a2, .int .i64 a3, .int .i64 a4]), (51, .bool a5), (12, .pointer (some ⟨g_, 0, none⟩))]) (fun g_ W_ => (W_.cell? ⟨w.heap.size, 0, none⟩ = some (.slice A0 x.f0.length c0)) ∧ (W_.cell? (at_.add t) = some (.slice Bu u.length du)) ∧ (Below w1.heap.size w1 W_) ∧ (W_.heap[g_]? = some (.cells #[.int .i64 0, .int .i64 0, .int .i64 0, .int .i64 0] 70 (0, 0))) ∧ (w1.heap.size ≤ g_)) ?_ ?_
        rotate_left
        · intro hJ
          have HBE := Aside0.mk HB5.out
          refine two_ (i := 6) (j := 10) (Ni := some 49) (Nj := some 12) #[true, true, true, true, true, true, true, false, false, false, false, false, false] #[true, true, true, true, true, true, false, false, false, false, true, false, false] rfl rfl rfl rfl (two_of rfl (by kernel_rfl)) (by decide) (by decide) (fun K hK => ?_) (fun K hK => ?_)
          · have R_ := switchboardref13_Choose.calls kc A0 c0 x.f0 Bu du u a1 a2 a3 a4 a5 w5 (Kd.C_below HR0.out (below_step HB1.out HBE.out)) HC0.out (Kd.C_below HCU.out HBE.out) HLU.out HKC.out
            refine goes_ Try.func35 (by kernel_rfl) rfl #[.slice A0 x.f0.length c0, .slice Bu u.length du] (by rfl) rfl rfl (by (try simp only [List.map_toArray, List.map_cons, List.map_nil]); first | done | rfl) ?_
            refine R_.mono ?_
            clear R_
            rintro e_ wc ⟨rfl, hb⟩
            have NB := Aside0.mk (below_step HBE.out hb)
            clear HBE hb
            have HBE := NB
            clear NB
            refine ⟨_, rfl, ?_⟩
            refine hK.out _ _ ⟨(blk_cell (blk_below HX1.out HBE.out) 0).trans rfl, pw_cell_below HBE.out HXT.out⟩ (fun _ => ?_)
            clear hK K
            refine norm_ (a' := ?_) ?_ ?_
            rotate_left
            · show Act.put _ (some 49) _ = _
              simp only [Act.put, List.setIfInBounds_toArray, List.set_cons_zero, List.set_cons_succ, i64_w, i32_w]
              rfl
            refine pure_ (i := 7) (N := some 42) (v := ?_) (a' := ?_) #[true, true, true, true, true, true, true, true, false, false, false, false, false] rfl rfl (any_of rfl (by kernel_rfl)) (fun _ _ _ h => h) (Or.inl ⟨by rfl, ?_⟩) ?_ ?_
            rotate_left
            · intro w'
              go_simp
              with_reducible rfl
            rotate_left
            · simp only [Act.put, List.setIfInBounds_toArray, List.set_cons_zero, List.set_cons_succ, i64_w, i32_w]
              rfl
            refine pure_ (i := 8) (N := some 50) (v := ?_) (a' := ?_) #[true, true, true, true, true, true, true, true, true, false, false, false, false] rfl rfl (any_of rfl (by kernel_rfl)) (fun _ _ _ h => h) (Or.inl ⟨by rfl, ?_⟩) ?_ ?_
            rotate_left
            · intro w'
              go_simp
              with_reducible rfl
            rotate_left
            · simp only [Act.put, List.setIfInBounds_toArray, List.set_cons_zero, List.set_cons_succ, i64_w, i32_w]
              rfl
            refine pure_ (i := 9) (N := some 51) (v := ?_) (a' := ?_) #[true, true, true, true, true, true, true, true, true, true, false, false, false] rfl rfl (any_of rfl (by kernel_rfl)) (fun _ _ _ h => h) (Or.inl ⟨by rfl, ?_⟩) ?_ ?_
            rotate_left
            · intro w'
              go_simp
              with_reducible rfl
            rotate_left
            · simp only [Act.put, List.setIfInBounds_toArray, List.set_cons_zero, List.set_cons_succ, i64_w, i32_w]
              rfl
            refine one_ (i := 10) (N := some 12) #[true, true, true, true, true, true, true, true, true, true, true, false, false] rfl rfl (one_of rfl (by kernel_rfl)) (by decide) (fun K hK => ?_)
            refine box_step ?hg (N := 12) ?hd (cs := #[.int .i64 0, .int .i64 0, .int .i64 0, .int .i64 0]) (t := 70) ?hr ?_; (case hd => rfl); (case hg => rfl); (case hr => first | (go_simp; done) | (go_simp; rfl))
            intro ga hg wa hbox hb
            have HA := Aside0.mk hbox
            have HG : Aside0 (w1.heap.size ≤ ga) := ⟨by rw [hg]; exact below_size HBE.out⟩
            have NB := Aside0.mk (below_step HBE.out hb)
            clear HBE hg hbox hb
            have HBE := NB
            clear NB
            refine hK.out _ _ ⟨(blk_cell (blk_below HX1.out HBE.out) 0).trans rfl, pw_cell_below HBE.out HXT.out⟩ (fun _ => ?_)
            clear hK K
            refine norm_ (a' := ?_) ?_ ?_
            rotate_left
            · show Act.put _ (some 12) _ = _
              simp only [Act.put, List.setIfInBounds_toArray, List.set_cons_zero, List.set_cons_succ, i64_w, i32_w]
              rfl
            refine norm_ ?_ (hJ ga _ ⟨(blk_cell (blk_below HX1.out HBE.out) 0).trans rfl, pw_cell_below HBE.out HXT.out, HBE.out, HA.out, HG.out⟩)
            simp only [putAll, Act.put, List.setIfInBounds_toArray, List.set_cons_zero, List.set_cons_succ]
          · refine box_step ?hg (N := 12) ?hd (cs := #[.int .i64 0, .int .i64 0, .int .i64 0, .int .i64 0]) (t := 70) ?hr ?_; (case hd => rfl); (case hg => rfl); (case hr => first | (go_simp; done) | (go_simp; rfl))
            intro ga hg wa hbox hb
            have HA := Aside0.mk hbox
            have HG : Aside0 (w1.heap.size ≤ ga) := ⟨by rw [hg]; exact below_size HBE.out⟩
            have NB := Aside0.mk (below_step HBE.out hb)
            clear HBE hg hbox hb
            have HBE := NB
            clear NB
            refine hK.out _ _ ⟨(blk_cell (blk_below HX1.out HBE.out) 0).trans rfl, pw_cell_below HBE.out HXT.out⟩ (fun _ => ?_)
            clear hK K
            refine norm_ (a' := ?_) ?_ ?_
            rotate_left
            · show Act.put _ (some 12) _ = _
              simp only [Act.put, List.setIfInBounds_toArray, List.set_cons_zero, List.set_cons_succ, i64_w, i32_w]
              rfl
            refine one_ (i := 6) (N := some 49) #[true, true, true, true, true, true, true, false, false, false, true, false, false] rfl rfl (one_of rfl (by kernel_rfl)) (by decide) (fun K hK => ?_)
            have R_ := switchboardref13_Choose.calls kc A0 c0 x.f0 Bu du u a1 a2 a3 a4 a5 wa (Kd.C_below HR0.out (below_step HB1.out HBE.out)) HC0.out (Kd.C_below HCU.out HBE.out) HLU.out HKC.out
            refine goes_ Try.func35 (by kernel_rfl) rfl #[.slice A0 x.f0.length c0, .slice Bu u.length du] (by rfl) rfl rfl (by (try simp only [List.map_toArray, List.map_cons, List.map_nil]); first | done | rfl) ?_
            refine R_.mono ?_
            clear R_
            rintro e_ wc ⟨rfl, hb⟩
            have NB := Aside0.mk (below_step HBE.out hb)
            have NA := Aside0.mk (blk_below HA.out hb)
            clear HBE hb HA
            have HBE := NB
            have HA := NA
            clear NB NA
            refine ⟨_, rfl, ?_⟩
            refine hK.out _ _ ⟨(blk_cell (blk_below HX1.out HBE.out) 0).trans rfl, pw_cell_below HBE.out HXT.out⟩ (fun _ => ?_)
            clear hK K
            refine norm_ (a' := ?_) ?_ ?_
            rotate_left
            · show Act.put _ (some 49) _ = _
              simp only [Act.put, List.setIfInBounds_toArray, List.set_cons_zero, List.set_cons_succ, i64_w, i32_w]
              rfl
            refine pure_ (i := 7) (N := some 42) (v := ?_) (a' := ?_) #[true, true, true, true, true, true, true, true, false, false, true, false, false] rfl rfl (any_of rfl (by kernel_rfl)) (fun _ _ _ h => h) (Or.inl ⟨by rfl, ?_⟩) ?_ ?_
            rotate_left
            · intro w'
              go_simp
              with_reducible rfl
            rotate_left
            · simp only [Act.put, List.setIfInBounds_toArray, List.set_cons_zero, List.set_cons_succ, i64_w, i32_w]
              rfl
            refine pure_ (i := 8) (N := some 50) (v := ?_) (a' := ?_) #[true, true, true, true, true, true, true, true, true, false, true, false, false] rfl rfl (any_of rfl (by kernel_rfl)) (fun _ _ _ h => h) (Or.inl ⟨by rfl, ?_⟩) ?_ ?_
            rotate_left
            · intro w'
              go_simp
              with_reducible rfl
            rotate_left
            · simp only [Act.put, List.setIfInBounds_toArray, List.set_cons_zero, List.set_cons_succ, i64_w, i32_w]
              rfl
            refine pure_ (i := 9) (N := some 51) (v := ?_) (a' := ?_) #[true, true, true, true, true, true, true, true, true, true, true, false, false] rfl rfl (any_of rfl (by kernel_rfl)) (fun _ _ _ h => h) (Or.inl ⟨by rfl, ?_⟩) ?_ ?_
            rotate_left
            · intro w'
              go_simp
              with_reducible rfl
            rotate_left
            · simp only [Act.put, List.setIfInBounds_toArray, List.set_cons_zero, List.set_cons_succ, i64_w, i32_w]
              rfl
            refine norm_ ?_ (hJ ga _ ⟨(blk_cell (blk_below HX1.out HBE.out) 0).trans rfl, pw_cell_below HBE.out HXT.out, HBE.out, HA.out, HG.out⟩)
            simp only [putAll, Act.put, List.setIfInBounds_toArray, List.set_cons_zero, List.set_cons_succ]
        rintro g_ wj ⟨hH1, hH2, h1, h2, h3⟩
        (try dsimp only at h1 h2 h3)
        have HBJ := Aside0.mk h1
        have HAJ := Aside0.mk h2
        have HGJ := Aside0.mk h3
        clear h1 h2 h3 HB5
        refine norm_ (a' := ?_) ?_ ?_
        rotate_left
        · simp only [putAll, Act.put, List.setIfInBounds_toArray, List.set_cons_zero, List.set_cons_succ]
          rfl
        refine one_ (i := 11) (N := none) #[true, true, true, true, true, true, true, true, true, true, true, true, false] rfl rfl (one_of rfl (by kernel_rfl)) (by decide) (fun K hK => ?_)
        have hs0 : wj.cell? ⟨g_, 0, none⟩ = some (.int .i64 0) := (blk_cell HAJ.out 0).trans rfl
        have hs1 : wj.cell? ⟨g_, 1, none⟩ = some (.int .i64 0) := (blk_cell HAJ.out 1).trans rfl
        have hs2 : wj.cell? ⟨g_, 2, none⟩ = some (.int .i64 0) := (blk_cell HAJ.out 2).trans rfl
        have hs3 : wj.cell? ⟨g_, 3, none⟩ = some (.int .i64 0) := (blk_cell HAJ.out 3).trans rfl
        have hf0 := blk_frozen HAJ.out 0
        have hf1 := blk_frozen HAJ.out 1
        have hf2 := blk_frozen HAJ.out 2
        have hf3 := blk_frozen HAJ.out 3
        refine skip_ (w1 := ?_) (by rfl) rfl ?_ ?_
        rotate_left
        · go_simp
          rfl
        clear hs0 hs1 hs2 hs3 hf0 hf1 hf2 hf3
        have HB6 : Aside0 (Below w1.heap.size w1 ((((wj.setCell ⟨g_, 0, none⟩ (.int .i64 a1)).setCell ⟨g_, 1, none⟩ (.int .i64 a2)).setCell ⟨g_, 2, none⟩ (.int .i64 a3)).setCell ⟨g_, 3, none⟩ (.int .i64 a4))) := ⟨(((HBJ.out.setCell (p := ⟨g_, 0, none⟩) HGJ.out _).setCell (p := ⟨g_, 1, none⟩) HGJ.out _).setCell (p := ⟨g_, 2, none⟩) HGJ.out _).setCell (p := ⟨g_, 3, none⟩) HGJ.out _⟩
        have HA6 : Aside0 (((((wj.setCell ⟨g_, 0, none⟩ (.int .i64 a1)).setCell ⟨g_, 1, none⟩ (.int .i64 a2)).setCell ⟨g_, 2, none⟩ (.int .i64 a3)).setCell ⟨g_, 3, none⟩ (.int .i64 a4)).heap[g_]? = some (.cells #[.int .i64 a1, .int .i64 a2, .int .i64 a3, .int .i64 a4] 70 (0, 0))) := ⟨blk_put (blk_put (blk_put (blk_put HAJ.out 0 _ rfl) 1 _ rfl) 2 _ rfl) 3 _ rfl⟩
        generalize ((((wj.setCell ⟨g_, 0, none⟩ (.int .i64 a1)).setCell ⟨g_, 1, none⟩ (.int .i64 a2)).setCell ⟨g_, 2, none⟩ (.int .i64 a3)).setCell ⟨g_, 3, none⟩ (.int .i64 a4)) = w6 at HB6 HA6 ⊢
        clear HBJ HAJ hH1 hH2
        refine hK.out _ _ ⟨(blk_cell (blk_below HX1.out HB6.out) 0).trans rfl, pw_cell_below HB6.out HXT.out⟩ (fun _ => ?_)
        clear hK K
        refine pure_ (i := 12) (N := some 13) (v := ?_) (a' := ?_) #[true, true, true, true, true, true, true, true, true, true, true, true, true] rfl rfl (any_of rfl (by kernel_rfl)) (fun _ _ _ h => h) (Or.inl ⟨by rfl, ?_⟩) ?_ ?_
        rotate_left
        · intro w'
          go_simp
          with_reducible rfl
        rotate_left
        · simp only [Act.put, List.setIfInBounds_toArray, List.set_cons_zero, List.set_cons_succ, i64_w, i32_w]
          rfl
        refine done_ (done_of rfl (by kernel_rfl)) ?_
        have HX6 := Aside0.mk (blk_below HX1.out HB6.out)
        have HOW6 := Aside0.mk (Kd.R_below (Kd.R_below HOWB.out HB.out) HB6.out)
        have HO6 := Aside0.mk (Kd.R_below HO.out HB6.out)
        have HBB := Aside0.mk (below_step HB.out HB6.out)
        clear HX1 HO HB HB1 HB6
        have hb1 : w6.cell? ⟨w.heap.size, 1, none⟩ = some (.slice A1 x.f1.length c1) := (blk_cell HX6.out 1).trans rfl
        have hb2 : w6.cell? ⟨w.heap.size, 2, none⟩ = some (.int .i64 x.f2) := (blk_cell HX6.out 2).trans rfl
        by_cases hs0 : s0 t ≥ 0
        · by_cases hs1 : s1 t ≥ 0
          · have k3 : decide (s0 t ≥ 0) = true := decide_eq_true hs0
            have k3' : decide (0 ≤ s0 t) = true := decide_eq_true hs0
            have k4 : decide (s1 t ≥ 0) = true := decide_eq_true hs1
            have k4' : decide (0 ≤ s1 t) = true := decide_eq_true hs1
            go_upto_region 14 with (first | (go_at_call 36; have R_ := switchboardref14_Slot.calls k0 A5 c5 (ptWant c T.length) (x.f1.length : Int) x.f2 (t : Int) 0 (s0 t) w6 (Kd.R_reads' HOW6.out).2.2 (Kd.R_reads' HOW6.out).2.1 HK0.out; refine R_.mono ?_; clear R_; rintro e w7 ⟨rfl, hd⟩; have HX7 := Aside0.mk (blk_below HX6.out hd.below); have HOW7 := Aside0.mk (Kd.R_below HOW6.out hd.below); have HA7 := Aside0.mk (blk_below HA6.out hd.below); have HBB7 := Aside0.mk (below_step HBB.out hd.below); have HO7 := Aside0.mk (Kd.R_below HO6.out hd.below); clear hd hb1 hb2))
            have he0 : w7.cell? ⟨g_, 0, none⟩ = some (.int .i64 a1) := (blk_cell HA7.out 0).trans rfl
            have he1 : w7.cell? ⟨g_, 1, none⟩ = some (.int .i64 a2) := (blk_cell HA7.out 1).trans rfl
            have he2 : w7.cell? ⟨g_, 2, none⟩ = some (.int .i64 a3) := (blk_cell HA7.out 2).trans rfl
            have he3 : w7.cell? ⟨g_, 3, none⟩ = some (.int .i64 a4) := (blk_cell HA7.out 3).trans rfl
            have hb1 : w7.cell? ⟨w.heap.size, 1, none⟩ = some (.slice A1 x.f1.length c1) := (blk_cell HX7.out 1).trans rfl
            have hb2 : w7.cell? ⟨w.heap.size, 2, none⟩ = some (.int .i64 x.f2) := (blk_cell HX7.out 2).trans rfl
            go_upto_region 15 with (first | (at_builtin; refine Kd.R_append k41 (w0 := wL) wL.heap.size rfl (.tmp 61) (.tmp 68) 38 41 (.agg #[(.int .i64 0), (.int .i64 0), (.int .i64 0), (.int .i64 0)]) 32 rfl Try.underlying38 info41 rfl (by decide) (by omega) _ (ptUp c s0 s1 t) (⟨(t : Int), 0, a1, a3⟩ : S41) [.int .i64 (t : Int), .int .i64 0, .int .i64 a1, .int .i64 a3] (fun _ => True) (fun _ => False) rfl rfl ?aP (fun _ hk => hk.elim) ?aF ?aO ?aB ?aS ?aL ?_; (case aP => exact k41_mkM _ _ _ (⟨(t : Int), 0, a1, a3⟩ : S41)); (case aF => exact (fun _ _ => trivial)); (case aO => exact HO7.out); (case aB => exact HBB7.out); (case aS => exact below_size HBB7.out); (case aL => have h1 := HT60.out; have h2 := HIL.out; have h3 := ptUp_length c s0 s1 t; simp; omega); intro va_8 w8 ho hb hg hat; have HO8 := Aside0.mk ho; have HBB8 := Aside0.mk hb; have HX8 := Aside0.mk (blk_grown HX7.out hg (Kd.R_ne HO7.out HX7.out (by decide))); have HA8 := Aside0.mk (blk_grown HA7.out hg (Kd.R_ne HO7.out HA7.out (by decide))); have HOW8 := Aside0.mk (Kd.R_step HOW7.out (fun k_ hk_ hlt => hg.block k_ hlt (fun e_ => by have h1 := Kd.R_base HO7.out k_ e_.symm; omega))); clear ho hb hg hat hb1 hb2 he0 he1 he2 he3))
            have hb1 : w8.cell? ⟨w.heap.size, 1, none⟩ = some (.slice A1 x.f1.length c1) := (blk_cell HX8.out 1).trans rfl
            have hb2 : w8.cell? ⟨w.heap.size, 2, none⟩ = some (.int .i64 x.f2) := (blk_cell HX8.out 2).trans rfl
            go_upto_region 16 with (first | (go_at_call 36; have R_ := switchboardref14_Slot.calls k1_ A5 c5 (ptWant c T.length) (x.f1.length : Int) x.f2 (t : Int) 1 (s1 t) w8 (Kd.R_reads' HOW8.out).2.2 (Kd.R_reads' HOW8.out).2.1 HK1.out; refine R_.mono ?_; clear R_; rintro e w9 ⟨rfl, hd⟩; have HX9 := Aside0.mk (blk_below HX8.out hd.below); have HOW9 := Aside0.mk (Kd.R_below HOW8.out hd.below); have HA9 := Aside0.mk (blk_below HA8.out hd.below); have HBB9 := Aside0.mk (below_step HBB8.out hd.below); have HO9 := Aside0.mk (Kd.R_below HO8.out hd.below); clear hd hb1 hb2))
            have he0 : w9.cell? ⟨g_, 0, none⟩ = some (.int .i64 a1) := (blk_cell HA9.out 0).trans rfl
            have he1 : w9.cell? ⟨g_, 1, none⟩ = some (.int .i64 a2) := (blk_cell HA9.out 1).trans rfl
            have he2 : w9.cell? ⟨g_, 2, none⟩ = some (.int .i64 a3) := (blk_cell HA9.out 2).trans rfl
            have he3 : w9.cell? ⟨g_, 3, none⟩ = some (.int .i64 a4) := (blk_cell HA9.out 3).trans rfl
            have hb1 : w9.cell? ⟨w.heap.size, 1, none⟩ = some (.slice A1 x.f1.length c1) := (blk_cell HX9.out 1).trans rfl
            have hb2 : w9.cell? ⟨w.heap.size, 2, none⟩ = some (.int .i64 x.f2) := (blk_cell HX9.out 2).trans rfl
            go_wp2_with (first | (at_builtin; refine Kd.R_append k41 (w0 := wL) wL.heap.size rfl (.tmp 79) (.tmp 86) 38 41 (.agg #[(.int .i64 0), (.int .i64 0), (.int .i64 0), (.int .i64 0)]) 32 rfl Try.underlying38 info41 rfl (by decide) (by omega) _ (ptUp c s0 s1 t ++ [(⟨(t : Int), 0, a1, a3⟩ : S41)]) (⟨(t : Int), 1, a2, a4⟩ : S41) [.int .i64 (t : Int), .int .i64 1, .int .i64 a2, .int .i64 a4] (fun _ => True) (fun _ => False) rfl rfl ?aP (fun _ hk => hk.elim) ?aF ?aO ?aB ?aS ?aL ?_; (case aP => exact k41_mkM _ _ _ (⟨(t : Int), 1, a2, a4⟩ : S41)); (case aF => exact (fun _ _ => trivial)); (case aO => exact HO9.out); (case aB => exact HBB9.out); (case aS => exact below_size HBB9.out); (case aL => have h1 := HT60.out; have h2 := HIL.out; have h3 := ptUp_length c s0 s1 t; simp; omega); intro va_10 w10 ho hb hg hat; have HO10 := Aside0.mk ho; have HBB10 := Aside0.mk hb; have HX10 := Aside0.mk (blk_grown HX9.out hg (Kd.R_ne HO9.out HX9.out (by decide))); have HA10 := Aside0.mk (blk_grown HA9.out hg (Kd.R_ne HO9.out HA9.out (by decide))); have HOW10 := Aside0.mk (Kd.R_step HOW9.out (fun k_ hk_ hlt => hg.block k_ hlt (fun e_ => by have h1 := Kd.R_base HO9.out k_ e_.symm; omega))); clear ho hb hg hat hb1 hb2 he0 he1 he2 he3))
            go_roundw
            case rel =>
              refine ⟨t + 1, by rw [HW1.out]; go_num, ⟨by have := HIL.out; omega⟩, HBB10, ⟨?_⟩⟩
              simp only [ptUp, if_pos (show  s0 t ≥ 0 by omega), if_pos (show  s1 t ≥ 0 by omega), HCTE.out, List.append_nil]
              exact HO10.out
            case measure => rw [HW1.out]; have := HIL.out; simp [intOf]; omega
          · have k3 : decide (s0 t ≥ 0) = true := decide_eq_true hs0
            have k3' : decide (0 ≤ s0 t) = true := decide_eq_true hs0
            have k4 : decide (s1 t ≥ 0) = false := decide_eq_false hs1
            have k4' : decide (0 ≤ s1 t) = false := decide_eq_false (fun h_ => hs1 h_)
            go_upto_region 14 with (first | (go_at_call 36; have R_ := switchboardref14_Slot.calls k0 A5 c5 (ptWant c T.length) (x.f1.length : Int) x.f2 (t : Int) 0 (s0 t) w6 (Kd.R_reads' HOW6.out).2.2 (Kd.R_reads' HOW6.out).2.1 HK0.out; refine R_.mono ?_; clear R_; rintro e w7 ⟨rfl, hd⟩; have HX7 := Aside0.mk (blk_below HX6.out hd.below); have HOW7 := Aside0.mk (Kd.R_below HOW6.out hd.below); have HA7 := Aside0.mk (blk_below HA6.out hd.below); have HBB7 := Aside0.mk (below_step HBB.out hd.below); have HO7 := Aside0.mk (Kd.R_below HO6.out hd.below); clear hd hb1 hb2))
            have he0 : w7.cell? ⟨g_, 0, none⟩ = some (.int .i64 a1) := (blk_cell HA7.out 0).trans rfl
            have he1 : w7.cell? ⟨g_, 1, none⟩ = some (.int .i64 a2) := (blk_cell HA7.out 1).trans rfl
            have he2 : w7.cell? ⟨g_, 2, none⟩ = some (.int .i64 a3) := (blk_cell HA7.out 2).trans rfl
            have he3 : w7.cell? ⟨g_, 3, none⟩ = some (.int .i64 a4) := (blk_cell HA7.out 3).trans rfl
            have hb1 : w7.cell? ⟨w.heap.size, 1, none⟩ = some (.slice A1 x.f1.length c1) := (blk_cell HX7.out 1).trans rfl
            have hb2 : w7.cell? ⟨w.heap.size, 2, none⟩ = some (.int .i64 x.f2) := (blk_cell HX7.out 2).trans rfl
            go_upto_region 15 with (first | (at_builtin; refine Kd.R_append k41 (w0 := wL) wL.heap.size rfl (.tmp 61) (.tmp 68) 38 41 (.agg #[(.int .i64 0), (.int .i64 0), (.int .i64 0), (.int .i64 0)]) 32 rfl Try.underlying38 info41 rfl (by decide) (by omega) _ (ptUp c s0 s1 t) (⟨(t : Int), 0, a1, a3⟩ : S41) [.int .i64 (t : Int), .int .i64 0, .int .i64 a1, .int .i64 a3] (fun _ => True) (fun _ => False) rfl rfl ?aP (fun _ hk => hk.elim) ?aF ?aO ?aB ?aS ?aL ?_; (case aP => exact k41_mkM _ _ _ (⟨(t : Int), 0, a1, a3⟩ : S41)); (case aF => exact (fun _ _ => trivial)); (case aO => exact HO7.out); (case aB => exact HBB7.out); (case aS => exact below_size HBB7.out); (case aL => have h1 := HT60.out; have h2 := HIL.out; have h3 := ptUp_length c s0 s1 t; simp; omega); intro va_8 w8 ho hb hg hat; have HO8 := Aside0.mk ho; have HBB8 := Aside0.mk hb; have HX8 := Aside0.mk (blk_grown HX7.out hg (Kd.R_ne HO7.out HX7.out (by decide))); have HA8 := Aside0.mk (blk_grown HA7.out hg (Kd.R_ne HO7.out HA7.out (by decide))); have HOW8 := Aside0.mk (Kd.R_step HOW7.out (fun k_ hk_ hlt => hg.block k_ hlt (fun e_ => by have h1 := Kd.R_base HO7.out k_ e_.symm; omega))); clear ho hb hg hat hb1 hb2 he0 he1 he2 he3))
            have hb1 : w8.cell? ⟨w.heap.size, 1, none⟩ = some (.slice A1 x.f1.length c1) := (blk_cell HX8.out 1).trans rfl
            have hb2 : w8.cell? ⟨w.heap.size, 2, none⟩ = some (.int .i64 x.f2) := (blk_cell HX8.out 2).trans rfl
            go_wp2_with (first | (go_at_call 36; have R_ := switchboardref14_Slot.calls k1_ A5 c5 (ptWant c T.length) (x.f1.length : Int) x.f2 (t : Int) 1 (s1 t) w8 (Kd.R_reads' HOW8.out).2.2 (Kd.R_reads' HOW8.out).2.1 HK1.out; refine R_.mono ?_; clear R_; rintro e w9 ⟨rfl, hd⟩; have HX9 := Aside0.mk (blk_below HX8.out hd.below); have HOW9 := Aside0.mk (Kd.R_below HOW8.out hd.below); have HA9 := Aside0.mk (blk_below HA8.out hd.below); have HBB9 := Aside0.mk (below_step HBB8.out hd.below); have HO9 := Aside0.mk (Kd.R_below HO8.out hd.below); clear hd hb1 hb2))
            go_roundw
            case rel =>
              refine ⟨t + 1, by rw [HW1.out]; go_num, ⟨by have := HIL.out; omega⟩, HBB9, ⟨?_⟩⟩
              simp only [ptUp, if_pos (show  s0 t ≥ 0 by omega), if_neg (show ¬ s1 t ≥ 0 by omega), HCTE.out, List.append_nil]
              exact HO9.out
            case measure => rw [HW1.out]; have := HIL.out; simp [intOf]; omega
        · by_cases hs1 : s1 t ≥ 0
          · have k3 : decide (s0 t ≥ 0) = false := decide_eq_false hs0
            have k3' : decide (0 ≤ s0 t) = false := decide_eq_false (fun h_ => hs0 h_)
            have k4 : decide (s1 t ≥ 0) = true := decide_eq_true hs1
            have k4' : decide (0 ≤ s1 t) = true := decide_eq_true hs1
            go_upto_region 15 with (first | (go_at_call 36; have R_ := switchboardref14_Slot.calls k0 A5 c5 (ptWant c T.length) (x.f1.length : Int) x.f2 (t : Int) 0 (s0 t) w6 (Kd.R_reads' HOW6.out).2.2 (Kd.R_reads' HOW6.out).2.1 HK0.out; refine R_.mono ?_; clear R_; rintro e w7 ⟨rfl, hd⟩; have HX7 := Aside0.mk (blk_below HX6.out hd.below); have HOW7 := Aside0.mk (Kd.R_below HOW6.out hd.below); have HA7 := Aside0.mk (blk_below HA6.out hd.below); have HBB7 := Aside0.mk (below_step HBB.out hd.below); have HO7 := Aside0.mk (Kd.R_below HO6.out hd.below); clear hd hb1 hb2))
            have hb1 : w7.cell? ⟨w.heap.size, 1, none⟩ = some (.slice A1 x.f1.length c1) := (blk_cell HX7.out 1).trans rfl
            have hb2 : w7.cell? ⟨w.heap.size, 2, none⟩ = some (.int .i64 x.f2) := (blk_cell HX7.out 2).trans rfl
            go_upto_region 16 with (first | (go_at_call 36; have R_ := switchboardref14_Slot.calls k1_ A5 c5 (ptWant c T.length) (x.f1.length : Int) x.f2 (t : Int) 1 (s1 t) w7 (Kd.R_reads' HOW7.out).2.2 (Kd.R_reads' HOW7.out).2.1 HK1.out; refine R_.mono ?_; clear R_; rintro e w9 ⟨rfl, hd⟩; have HX9 := Aside0.mk (blk_below HX7.out hd.below); have HOW9 := Aside0.mk (Kd.R_below HOW7.out hd.below); have HA9 := Aside0.mk (blk_below HA7.out hd.below); have HBB9 := Aside0.mk (below_step HBB7.out hd.below); have HO9 := Aside0.mk (Kd.R_below HO7.out hd.below); clear hd hb1 hb2))
            have he0 : w9.cell? ⟨g_, 0, none⟩ = some (.int .i64 a1) := (blk_cell HA9.out 0).trans rfl
            have he1 : w9.cell? ⟨g_, 1, none⟩ = some (.int .i64 a2) := (blk_cell HA9.out 1).trans rfl
            have he2 : w9.cell? ⟨g_, 2, none⟩ = some (.int .i64 a3) := (blk_cell HA9.out 2).trans rfl
            have he3 : w9.cell? ⟨g_, 3, none⟩ = some (.int .i64 a4) := (blk_cell HA9.out 3).trans rfl
            have hb1 : w9.cell? ⟨w.heap.size, 1, none⟩ = some (.slice A1 x.f1.length c1) := (blk_cell HX9.out 1).trans rfl
            have hb2 : w9.cell? ⟨w.heap.size, 2, none⟩ = some (.int .i64 x.f2) := (blk_cell HX9.out 2).trans rfl
            go_wp2_with (first | (at_builtin; refine Kd.R_append k41 (w0 := wL) wL.heap.size rfl (.tmp 79) (.tmp 86) 38 41 (.agg #[(.int .i64 0), (.int .i64 0), (.int .i64 0), (.int .i64 0)]) 32 rfl Try.underlying38 info41 rfl (by decide) (by omega) _ (ptUp c s0 s1 t) (⟨(t : Int), 1, a2, a4⟩ : S41) [.int .i64 (t : Int), .int .i64 1, .int .i64 a2, .int .i64 a4] (fun _ => True) (fun _ => False) rfl rfl ?aP (fun _ hk => hk.elim) ?aF ?aO ?aB ?aS ?aL ?_; (case aP => exact k41_mkM _ _ _ (⟨(t : Int), 1, a2, a4⟩ : S41)); (case aF => exact (fun _ _ => trivial)); (case aO => exact HO9.out); (case aB => exact HBB9.out); (case aS => exact below_size HBB9.out); (case aL => have h1 := HT60.out; have h2 := HIL.out; have h3 := ptUp_length c s0 s1 t; simp; omega); intro va_10 w10 ho hb hg hat; have HO10 := Aside0.mk ho; have HBB10 := Aside0.mk hb; have HX10 := Aside0.mk (blk_grown HX9.out hg (Kd.R_ne HO9.out HX9.out (by decide))); have HA10 := Aside0.mk (blk_grown HA9.out hg (Kd.R_ne HO9.out HA9.out (by decide))); have HOW10 := Aside0.mk (Kd.R_step HOW9.out (fun k_ hk_ hlt => hg.block k_ hlt (fun e_ => by have h1 := Kd.R_base HO9.out k_ e_.symm; omega))); clear ho hb hg hat hb1 hb2 he0 he1 he2 he3))
            go_roundw
            case rel =>
              refine ⟨t + 1, by rw [HW1.out]; go_num, ⟨by have := HIL.out; omega⟩, HBB10, ⟨?_⟩⟩
              simp only [ptUp, if_neg (show ¬ s0 t ≥ 0 by omega), if_pos (show  s1 t ≥ 0 by omega), HCTE.out, List.append_nil]
              exact HO10.out
            case measure => rw [HW1.out]; have := HIL.out; simp [intOf]; omega
          · have k3 : decide (s0 t ≥ 0) = false := decide_eq_false hs0
            have k3' : decide (0 ≤ s0 t) = false := decide_eq_false (fun h_ => hs0 h_)
            have k4 : decide (s1 t ≥ 0) = false := decide_eq_false hs1
            have k4' : decide (0 ≤ s1 t) = false := decide_eq_false (fun h_ => hs1 h_)
            go_upto_region 15 with (first | (go_at_call 36; have R_ := switchboardref14_Slot.calls k0 A5 c5 (ptWant c T.length) (x.f1.length : Int) x.f2 (t : Int) 0 (s0 t) w6 (Kd.R_reads' HOW6.out).2.2 (Kd.R_reads' HOW6.out).2.1 HK0.out; refine R_.mono ?_; clear R_; rintro e w7 ⟨rfl, hd⟩; have HX7 := Aside0.mk (blk_below HX6.out hd.below); have HOW7 := Aside0.mk (Kd.R_below HOW6.out hd.below); have HA7 := Aside0.mk (blk_below HA6.out hd.below); have HBB7 := Aside0.mk (below_step HBB.out hd.below); have HO7 := Aside0.mk (Kd.R_below HO6.out hd.below); clear hd hb1 hb2))
            have hb1 : w7.cell? ⟨w.heap.size, 1, none⟩ = some (.slice A1 x.f1.length c1) := (blk_cell HX7.out 1).trans rfl
            have hb2 : w7.cell? ⟨w.heap.size, 2, none⟩ = some (.int .i64 x.f2) := (blk_cell HX7.out 2).trans rfl
            go_wp2_with (first | (go_at_call 36; have R_ := switchboardref14_Slot.calls k1_ A5 c5 (ptWant c T.length) (x.f1.length : Int) x.f2 (t : Int) 1 (s1 t) w7 (Kd.R_reads' HOW7.out).2.2 (Kd.R_reads' HOW7.out).2.1 HK1.out; refine R_.mono ?_; clear R_; rintro e w9 ⟨rfl, hd⟩; have HX9 := Aside0.mk (blk_below HX7.out hd.below); have HOW9 := Aside0.mk (Kd.R_below HOW7.out hd.below); have HA9 := Aside0.mk (blk_below HA7.out hd.below); have HBB9 := Aside0.mk (below_step HBB7.out hd.below); have HO9 := Aside0.mk (Kd.R_below HO7.out hd.below); clear hd hb1 hb2))
            go_roundw
            case rel =>
              refine ⟨t + 1, by rw [HW1.out]; go_num, ⟨by have := HIL.out; omega⟩, HBB9, ⟨?_⟩⟩
              simp only [ptUp, if_neg (show ¬ s0 t ≥ 0 by omega), if_neg (show ¬ s1 t ≥ 0 by omega), HCTE.out, List.append_nil]
              exact HO9.out
            case measure => rw [HW1.out]; have := HIL.out; simp [intOf]; omega
    · have k1 : decide ((t : Int) < (T.length : Int)) = true := decide_eq_true (by omega)
      have k1n : decide (t < T.length) = true := decide_eq_true hlt
      have HW1 : Aside0 (wrap64 ((t : Int) + 1) = (t : Int) + 1) := ⟨wrap_ok (by omega) (by have := HT60.out; omega)⟩
      have HIL := Aside0.mk hlt
      obtain ⟨at_, Bu, du, hA, hxt, hlu, hCu⟩ := at_L1 (Kd.C_below HRT.out HBW.out) (t : Int) (by omega) (by omega)
      subst hA
      rw [Int.toNat_natCast] at hxt
      obtain ⟨u, hu⟩ : ∃ u, u = rd_L1 T (t : Int) := ⟨_, rfl⟩
      rw [← hu] at hxt hlu hCu
      have hev := HH.out.hc t hlt
      rw [show T.getD t [] = u by rw [hu]; unfold rd_L1; rw [Int.toNat_natCast]] at hev
      obtain ⟨kc, hkc⟩ := hev.rounds
      obtain ⟨a1, a2, a3, a4, a5, hct⟩ : ∃ a1 a2 a3 a4 a5, c t = (a1, a2, a3, a4, a5) := ⟨_, _, _, _, _, rfl⟩
      rw [hct] at hkc
      have HKC := Aside0.mk hkc
      have HCU := Aside0.mk hCu
      have HLU := Aside0.mk hlu
      have HCTE := Aside0.mk hct
      clear hev hkc hCu hlu hu hct
      have hb0 : wr.cell? ⟨w.heap.size, 0, none⟩ = some (.slice A0 x.f0.length c0) := (blk_cell HXW.out 0).trans rfl
      go_upto_region 6 with ((go_at_call 35; (with_reducible refine (switchboardref13_Choose.calls kc A0 c0 x.f0 Bu du u a1 a2 a3 a4 a5 _ (Kd.C_below HR0.out HBW.out) HC0.out HCU.out HLU.out HKC.out).mono ?_); rintro e w2 ⟨rfl, hb⟩; have HB2 := Aside0.mk (below_step HBW.out hb); have HX2 := Aside0.mk (blk_below HXW.out hb); have HO2 := Aside0.mk (Kd.R_below HOW.out hb); clear hb hb0 hxt))
      clear hlt
      have h8 : (w2.alloc (.cells #[.int .i64 a1, .int .i64 a2, .int .i64 a3, .int .i64 a4] 70)).heap[w2.heap.size]? = some (.cells #[.int .i64 a1, .int .i64 a2, .int .i64 a3, .int .i64 a4] 70) := alloc_atR _ rfl
      have HB3 := Aside0.mk (below_alloc HB2.out (.cells #[.int .i64 a1, .int .i64 a2, .int .i64 a3, .int .i64 a4] 70))
      have HX3 := Aside0.mk (blk_below HX2.out (below_alloc (Below.refl _ _) (.cells #[.int .i64 a1, .int .i64 a2, .int .i64 a3, .int .i64 a4] 70)))
      have HO3 := Aside0.mk (Kd.R_alloc HO2.out (.cells #[.int .i64 a1, .int .i64 a2, .int .i64 a3, .int .i64 a4] 70))
      generalize w2.alloc (.cells #[.int .i64 a1, .int .i64 a2, .int .i64 a3, .int .i64 a4] 70) = w3 at h8 HB3 HX3 HO3 ⊢
      generalize w2.heap.size = g8 at h8 ⊢
      clear HB2 HX2 HO2 HBW HXW HOW
      have hd0 : w3.cell? ⟨g8, 0, none⟩ = some (.int .i64 a1) := (blk_cell h8 0).trans rfl
      have hd1 : w3.cell? ⟨g8, 1, none⟩ = some (.int .i64 a2) := (blk_cell h8 1).trans rfl
      clear h8
      go_wp2_with ((at_builtin; refine Kd.R_append k68 (w0 := w) w.heap.size rfl (.tmp 27) (.tmp 33) 63 68 (.agg #[(.int .i64 0), (.int .i64 0)]) 16 rfl Try.underlying63 info68 rfl (by decide) (by omega) _ (ptWant c t) (⟨a1, a2⟩ : S68) [.int .i64 a1, .int .i64 a2] (fun _ => True) (fun _ => False) rfl rfl ?aP (fun _ hk => hk.elim) ?aF ?aO ?aB ?aS ?aL ?_; (case aP => exact k68_mkM _ _ _ (⟨a1, a2⟩ : S68)); (case aF => exact (fun _ _ => trivial)); (case aO => exact HO3.out); (case aB => exact HB3.out); (case aS => exact below_size HB3.out); (case aL => rw [ptWant_length]; have := HT60.out; have := HIL.out; omega); intro v4 w4 ho hb hg hat; have HO4 := Aside0.mk (show Kd.R k68 68 w4 w.heap.size (fun _ => True) v4 (ptWant c (t + 1)) by unfold ptWant; rw [List.range_succ, List.map_append, List.map_cons, List.map_nil, HCTE.out]; exact ho); have HB4 := Aside0.mk hb; have HX4 := Aside0.mk (blk_grown HX3.out hg (Kd.R_ne HO3.out HX3.out (by decide))); clear ho hb hg hat hd0 hd1))
      go_roundw
      case rel => exact ⟨t + 1, by rw [HW1.out]; go_num, ⟨by have := HIL.out; omega⟩, HB4, HX4, HO4⟩
      case measure => rw [HW1.out]; have := HIL.out; simp [intOf]; omega


end Go.Proofs.Ytlicglgogklnkaa.Pr
