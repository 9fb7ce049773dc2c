/- Own text, by hand: PuK, PuQ, PuO, PuJ -/
import Derived.Test.YtfipiohchnaglaaPu0
import Derived.Test.YtfipiohchnaglaaPu2
import Derived.Test.YtfipiohchnaglaaPu6
import Derived.Test.YtfipiohchnaglaaPu15
import Derived.Test.YtfipiohchnaglaaPu16
import Derived.Test.YtfipiohchnaglaaPuHa
import Derived.Test.YtfipiohchnaglaaPu5
namespace Go.Proofs.Ytfipiohchnaglaa.Pu
open Go.RowKit Go.Proofs.YtfipiohchnaglaaW.PrintWords Go.Proofs.YtfipiohchnaglaaW.PrintLast Go.Proofs.YtfipiohchnaglaaW.PrintMore
attribute [local go_sem] max2_int min2_int max_two min_two max_three min_three max_four min_four
set_option linter.unusedVariables false
set_option linter.unusedSimpArgs false
/-- Cells that are held. -/
def CS : List (Addr × Value) → World → Prop
  | [], _ => True
  | (a, v) :: r, W => W.cell? a = some v ∧ CS r W
theorem CS.below : ∀ {l : List (Addr × Value)} {W W1 : World}, CS l W → Below W.heap.size W W1 → CS l W1
  | [], _, _, _, _ => trivial
  | (a, _) :: _, W, _, h, hb => ⟨(hb.cell (World.block_lt_of_cell? W a h.1)).trans h.1, CS.below h.2 hb⟩
theorem C_one {α : Type} {d : Kd α} {w : World} {g : Nat} {cs : List Value} {t : Nat} {x : α} (hb : w.heap[g]? = some (.cells cs.toArray t (0, 0))) (hk : d.K w x cs) (hl : cs.length = d.sz) : Kd.C d w (some ⟨g, 0, none⟩) 1 [x] := by
  refine ⟨rfl, by decide, fun _ => ⟨_, rfl, fun j p hj => ?_⟩⟩
  cases j with
  | zero =>
    obtain rfl : x = p := by simpa using hj
    refine ⟨cs, hl, hk, fun i u hu => ?_⟩
    rw [Nat.zero_mul, Nat.zero_add, add_plain, blk_cell hb i]
    simpa using hu
  | succ j => simp at hj

/-- What makes a message fit. -/
structure FitH (k : Nat) (n : Int) (ls : List S31) (e : Int) (hs : List (List Int)) (a1 a2 a3 a4 a5 a6 a7 a8 a9 : Int) (v : List Int) : Prop where
  h27 : model_Right.f n ls = some true
  h56 : place_Right.f k e hs = some true
  h89 : wire_Right.f k 1 a1 a2 a3 a4 a5 a6 a7 a8 a9 v = some true
  l0 : 0 ≤ a5
  l1 : a5 < (ls.length : Int)
  x0 : 0 ≤ a8
  x1 : a8 < ((rd_T31 ls a5).f1.length : Int)
  h28 : model_Tokens.f n ls [v] = some true
set_option maxHeartbeats 8000000 in
set_option maxRecDepth 100000 in
theorem node_fits.calls (k : Nat) (w : World) (n : Int) (A0 : Option Addr) (c0 : Nat) (ls : List S31) (e : Int) (A1 : Option Addr) (c1 : Nat) (hs : List (List Int)) (a1 a2 a3 a4 a5 a6 a7 a8 a9 : Int) (Av : Option Addr) (cv : Nat) (v : List Int) (hm : Kd.C k31 w A0 ls.length ls) (hmc : ls.length ≤ c0) (hh : Kd.C (Kd.slice 3 (Kd.int .i64)) w A1 hs.length hs) (hhc : hs.length ≤ c1) (hv : Kd.C (Kd.int .i64) w Av v.length v) (hvc : v.length ≤ cv) (h : FitH k n ls e hs a1 a2 a3 a4 a5 a6 a7 a8 a9 v) :
    Calls Try.prog 92 #[.agg #[.int .i64 n, (.slice A0 ls.length c0)], .agg #[.int .i64 e, (.slice A1 hs.length c1)], .int .i64 a2, .agg #[.int .i64 1, .int .i64 a1, .int .i64 a2, .int .i64 a3, .int .i64 a4, .int .i64 a5, .int .i64 a6, .int .i64 a7, .int .i64 a8, .int .i64 a9, .slice Av v.length cv]] w fun e_ w' => e_ = .returned (.bool true) ∧ Below w.heap.size w w' := by
  have hu24 := Try.underlying24
  have hu31 := Try.underlying31
  have hu48 := Try.underlying48
  have hu121 := Try.underlying121
  have HM := Aside0.mk hm
  have HMC := Aside0.mk hmc
  have HH := Aside0.mk hh
  have HHC := Aside0.mk hhc
  have HV := Aside0.mk hv
  have HVC := Aside0.mk hvc
  have HF := Aside0.mk h
  clear hm hmc hh hhc hv hvc h
  obtain ⟨w1, hw1⟩ : ∃ w1, w1 = ((w.alloc (.cells #[.int .i64 n, (.slice A0 ls.length c0)] 24)).alloc (.cells #[.int .i64 e, (.slice A1 hs.length c1)] 48)).alloc (.cells #[.int .i64 1, .int .i64 a1, .int .i64 a2, .int .i64 a3, .int .i64 a4, .int .i64 a5, .int .i64 a6, .int .i64 a7, .int .i64 a8, .int .i64 a9, .slice Av v.length cv] 121) := ⟨_, rfl⟩
  have HB1 : Aside0 (Below w.heap.size w w1) := ⟨by rw [hw1]; exact below_alloc (below_alloc (below_alloc (Below.refl _ _) _) _) _⟩
  have HX1 : Aside0 (w1.heap[w.heap.size]? = some (.cells #[.int .i64 n, (.slice A0 ls.length c0)] 24 (0, 0))) := ⟨by rw [hw1]; exact blk_alloc (blk_alloc (heap_alloc_new _ _) _) _⟩
  have HX2 : Aside0 (w1.heap[w.heap.size + 1]? = some (.cells #[.int .i64 e, (.slice A1 hs.length c1)] 48 (0, 0))) := ⟨by rw [hw1]; have h_ := heap_alloc_new (w.alloc (.cells #[.int .i64 n, (.slice A0 ls.length c0)] 24)) (.cells #[.int .i64 e, (.slice A1 hs.length c1)] 48 (0, 0)); rw [show (w.alloc (.cells #[.int .i64 n, (.slice A0 ls.length c0)] 24)).heap.size = w.heap.size + 1 from by simp] at h_; exact blk_alloc h_ _⟩
  have HX3 : Aside0 (w1.heap[w.heap.size + 1 + 1]? = some (.cells #[.int .i64 1, .int .i64 a1, .int .i64 a2, .int .i64 a3, .int .i64 a4, .int .i64 a5, .int .i64 a6, .int .i64 a7, .int .i64 a8, .int .i64 a9, .slice Av v.length cv] 121 (0, 0))) := ⟨by rw [hw1]; have h_ := heap_alloc_new ((w.alloc (.cells #[.int .i64 n, (.slice A0 ls.length c0)] 24)).alloc (.cells #[.int .i64 e, (.slice A1 hs.length c1)] 48)) (.cells #[.int .i64 1, .int .i64 a1, .int .i64 a2, .int .i64 a3, .int .i64 a4, .int .i64 a5, .int .i64 a6, .int .i64 a7, .int .i64 a8, .int .i64 a9, .slice Av v.length cv] 121 (0, 0)); rwa [show ((w.alloc (.cells #[.int .i64 n, (.slice A0 ls.length c0)] 24)).alloc (.cells #[.int .i64 e, (.slice A1 hs.length c1)] 48)).heap.size = w.heap.size + 1 + 1 from by simp] at h_⟩
  go_enter Try.func92, Try.ntmps92
  go_upto_region 1 with (fail)
  rw [← hw1]
  clear hw1
  obtain ⟨al, Ag, cg, Ax, cx, hA, hl0, hl1, hl2, _, _, _, _⟩ := at_T31 (xs := ls) (n := ls.length) (Kd.C_below HM.out HB1.out) a5 HF.out.l0 HF.out.l1
  cases hA
  have HD := Aside0.mk (below_drew (Below.refl w1.heap.size w1))
  have HB2 := Aside0.mk (below_step HB1.out HD.out)
  refine startM_ [] (n := 50) (S := fun W => CS [(⟨w.heap.size, 0, none⟩, .int .i64 n), (⟨w.heap.size, 1, none⟩, .slice (some al) ls.length c0), (⟨w.heap.size + 1, 0, none⟩, .int .i64 e), (⟨w.heap.size + 1, 1, none⟩, (.slice A1 hs.length c1)), (⟨w.heap.size + 1 + 1, 0, none⟩, .int .i64 1), (⟨w.heap.size + 1 + 1, 1, none⟩, .int .i64 a1), (⟨w.heap.size + 1 + 1, 2, none⟩, .int .i64 a2), (⟨w.heap.size + 1 + 1, 3, none⟩, .int .i64 a3), (⟨w.heap.size + 1 + 1, 4, none⟩, .int .i64 a4), (⟨w.heap.size + 1 + 1, 5, none⟩, .int .i64 a5), (⟨w.heap.size + 1 + 1, 6, none⟩, .int .i64 a6), (⟨w.heap.size + 1 + 1, 7, none⟩, .int .i64 a7), (⟨w.heap.size + 1 + 1, 8, none⟩, .int .i64 a8), (⟨w.heap.size + 1 + 1, 9, none⟩, .int .i64 a9), (⟨w.heap.size + 1 + 1, 10, none⟩, .slice Av v.length cv), (⟨(al.add (a5.toNat * 3)).block, (al.add (a5.toNat * 3)).off + 1, none⟩, .slice Ax (rd_T31 ls a5).f1.length cx)] W) (by kernel_rfl) rfl ⟨(blk_cell (blk_below HX1.out HD.out) 0).trans rfl, (blk_cell (blk_below HX1.out HD.out) 1).trans rfl, (blk_cell (blk_below HX2.out HD.out) 0).trans rfl, (blk_cell (blk_below HX2.out HD.out) 1).trans rfl, (blk_cell (blk_below HX3.out HD.out) 0).trans rfl, (blk_cell (blk_below HX3.out HD.out) 1).trans rfl, (blk_cell (blk_below HX3.out HD.out) 2).trans rfl, (blk_cell (blk_below HX3.out HD.out) 3).trans rfl, (blk_cell (blk_below HX3.out HD.out) 4).trans rfl, (blk_cell (blk_below HX3.out HD.out) 5).trans rfl, (blk_cell (blk_below HX3.out HD.out) 6).trans rfl, (blk_cell (blk_below HX3.out HD.out) 7).trans rfl, (blk_cell (blk_below HX3.out HD.out) 8).trans rfl, (blk_cell (blk_below HX3.out HD.out) 9).trans rfl, (blk_cell (blk_below HX3.out HD.out) 10).trans rfl, (HD.out.cell (World.block_lt_of_cell? _ _ hl1)).trans hl1, trivial⟩ (fun hHeld => ?_)
  clear HD
  generalize w1.drew = w2 at HB2 hHeld ⊢
  clear hl0 hl1 hl2 HX1 HX2 HX3 HB1
  have hl0 := HF.out.l0
  have hl1 := HF.out.l1
  have hx0 := HF.out.x0
  have hx1 := HF.out.x1
  have q1 : decide (a5 < (ls.length : Int)) = true := decide_eq_true hl1
  have q2 : decide (a8 < ((rd_T31 ls a5).f1.length : Int)) = true := decide_eq_true hx1
  iterate 1 (first | (refine pureM_ (v := ?_) (a' := ?_) rfl rfl (any_of rfl (by kernel_rfl)) (fun _ _ _ h => h) (Or.inl ⟨by rfl, ?_⟩) ?_ ?_; rotate_left; (intro w'; go_simp; with_reducible rfl); rotate_left; (simp only [Act.put, List.setIfInBounds_toArray, List.set_cons_zero, List.set_cons_succ, i64_w, i32_w]; rfl)) | (refine takeM_ (v := ?_) (a' := ?_) rfl rfl (take_of rfl (by kernel_rfl)) (fun _ _ _ h => h) (Or.inl ⟨by rfl, ?_⟩) hHeld ?_ ?_; rotate_left; (rintro w' ⟨s0_, s1_, s2_, s3_, s4_, s5_, s6_, s7_, s8_, s9_, s10_, s11_, s12_, s13_, s14_, s15_, _⟩; go_simp; with_reducible rfl); rotate_left; (simp only [Act.put, List.setIfInBounds_toArray, List.set_cons_zero, List.set_cons_succ, i64_w, i32_w]; rfl)) | (refine pureM_ (v := undef) (a' := ?_) rfl rfl (any_of rfl (by kernel_rfl)) (fun _ _ _ h => h) (Or.inr ⟨by rfl, rfl⟩) ?_ ?_; rotate_left; (simp only [Act.put, List.setIfInBounds_toArray, List.set_cons_zero, List.set_cons_succ, i64_w, i32_w]; rfl)))
  refine one_ (i := 1) (N := some 10) (mk_ 2 50) rfl rfl (one_of rfl (by kernel_rfl)) (by decide) (fun K hK => ?_)
  refine goes_ Try.func27 (by kernel_rfl) rfl #[.agg #[.int .i64 n, .slice (some al) ls.length c0]] (by rfl) rfl rfl (by (try simp only [List.map_toArray, List.map_cons, List.map_nil]); first | done | rfl) ?_
  refine (model_Right.calls n (some al) c0 ls true w2 (Kd.C_below HM.out HB2.out) HMC.out HF.out.h27).mono ?_
  rintro e_ w3 ⟨rfl, hb⟩
  have hNew := CS.below hHeld hb
  have HB3 := Aside0.mk (below_step HB2.out hb)
  clear hb
  refine ⟨_, rfl, ?_⟩
  clear hHeld
  refine hK.out _ _ hNew (fun hHeld => ?_)
  clear hNew
  clear hK K
  refine norm_ (a' := ?_) ?_ ?_
  rotate_left
  · show Act.put _ (some 10) _ = _
    simp only [Act.put, List.setIfInBounds_toArray, List.set_cons_zero, List.set_cons_succ, i64_w, i32_w]
    rfl
  iterate 2 (first | (refine pureM_ (v := ?_) (a' := ?_) rfl rfl (any_of rfl (by kernel_rfl)) (fun _ _ _ h => h) (Or.inl ⟨by rfl, ?_⟩) ?_ ?_; rotate_left; (intro w'; go_simp; with_reducible rfl); rotate_left; (simp only [Act.put, List.setIfInBounds_toArray, List.set_cons_zero, List.set_cons_succ, i64_w, i32_w]; rfl)) | (refine takeM_ (v := ?_) (a' := ?_) rfl rfl (take_of rfl (by kernel_rfl)) (fun _ _ _ h => h) (Or.inl ⟨by rfl, ?_⟩) hHeld ?_ ?_; rotate_left; (rintro w' ⟨s0_, s1_, s2_, s3_, s4_, s5_, s6_, s7_, s8_, s9_, s10_, s11_, s12_, s13_, s14_, s15_, _⟩; go_simp; with_reducible rfl); rotate_left; (simp only [Act.put, List.setIfInBounds_toArray, List.set_cons_zero, List.set_cons_succ, i64_w, i32_w]; rfl)) | (refine pureM_ (v := undef) (a' := ?_) rfl rfl (any_of rfl (by kernel_rfl)) (fun _ _ _ h => h) (Or.inr ⟨by rfl, rfl⟩) ?_ ?_; rotate_left; (simp only [Act.put, List.setIfInBounds_toArray, List.set_cons_zero, List.set_cons_succ, i64_w, i32_w]; rfl)))
  refine one_ (i := 4) (N := some 13) (mk_ 5 50) rfl rfl (one_of rfl (by kernel_rfl)) (by decide) (fun K hK => ?_)
  refine goes_ Try.func56 (by kernel_rfl) rfl #[.agg #[.int .i64 e, (.slice A1 hs.length c1)]] (by rfl) rfl rfl (by (try simp only [List.map_toArray, List.map_cons, List.map_nil]); first | done | rfl) ?_
  refine (place_Right.calls k e A1 c1 hs true w3 (Kd.C_below HH.out HB3.out) HHC.out HF.out.h56).mono ?_
  rintro e_ w4 ⟨rfl, hb⟩
  have hNew := CS.below hHeld hb
  have HB4 := Aside0.mk (below_step HB3.out hb)
  clear hb
  refine ⟨_, rfl, ?_⟩
  clear hHeld
  refine hK.out _ _ hNew (fun hHeld => ?_)
  clear hNew
  clear hK K
  refine norm_ (a' := ?_) ?_ ?_
  rotate_left
  · show Act.put _ (some 13) _ = _
    simp only [Act.put, List.setIfInBounds_toArray, List.set_cons_zero, List.set_cons_succ, i64_w, i32_w]
    rfl
  iterate 3 (first | (refine pureM_ (v := ?_) (a' := ?_) rfl rfl (any_of rfl (by kernel_rfl)) (fun _ _ _ h => h) (Or.inl ⟨by rfl, ?_⟩) ?_ ?_; rotate_left; (intro w'; go_simp; with_reducible rfl); rotate_left; (simp only [Act.put, List.setIfInBounds_toArray, List.set_cons_zero, List.set_cons_succ, i64_w, i32_w]; rfl)) | (refine takeM_ (v := ?_) (a' := ?_) rfl rfl (take_of rfl (by kernel_rfl)) (fun _ _ _ h => h) (Or.inl ⟨by rfl, ?_⟩) hHeld ?_ ?_; rotate_left; (rintro w' ⟨s0_, s1_, s2_, s3_, s4_, s5_, s6_, s7_, s8_, s9_, s10_, s11_, s12_, s13_, s14_, s15_, _⟩; go_simp; with_reducible rfl); rotate_left; (simp only [Act.put, List.setIfInBounds_toArray, List.set_cons_zero, List.set_cons_succ, i64_w, i32_w]; rfl)) | (refine pureM_ (v := undef) (a' := ?_) rfl rfl (any_of rfl (by kernel_rfl)) (fun _ _ _ h => h) (Or.inr ⟨by rfl, rfl⟩) ?_ ?_; rotate_left; (simp only [Act.put, List.setIfInBounds_toArray, List.set_cons_zero, List.set_cons_succ, i64_w, i32_w]; rfl)))
  refine one_ (i := 8) (N := some 17) (mk_ 9 50) rfl rfl (one_of rfl (by kernel_rfl)) (by decide) (fun K hK => ?_)
  refine goes_ Try.func89 (by kernel_rfl) rfl #[.agg #[.int .i64 1, .int .i64 a1, .int .i64 a2, .int .i64 a3, .int .i64 a4, .int .i64 a5, .int .i64 a6, .int .i64 a7, .int .i64 a8, .int .i64 a9, .slice Av v.length cv]] (by rfl) rfl rfl (by (try simp only [List.map_toArray, List.map_cons, List.map_nil]); first | done | rfl) ?_
  refine (wire_Right.calls k 1 a1 a2 a3 a4 a5 a6 a7 a8 a9 Av cv v true w4 (Kd.C_below HV.out HB4.out) HVC.out HF.out.h89).mono ?_
  rintro e_ w5 ⟨rfl, hb⟩
  have hNew := CS.below hHeld hb
  have HB5 := Aside0.mk (below_step HB4.out hb)
  clear hb
  refine ⟨_, rfl, ?_⟩
  clear hHeld
  refine hK.out _ _ hNew (fun hHeld => ?_)
  clear hNew
  clear hK K
  refine norm_ (a' := ?_) ?_ ?_
  rotate_left
  · show Act.put _ (some 17) _ = _
    simp only [Act.put, List.setIfInBounds_toArray, List.set_cons_zero, List.set_cons_succ, i64_w, i32_w]
    rfl
  iterate 37 (first | (refine pureM_ (v := ?_) (a' := ?_) rfl rfl (any_of rfl (by kernel_rfl)) (fun _ _ _ h => h) (Or.inl ⟨by rfl, ?_⟩) ?_ ?_; rotate_left; (intro w'; go_simp; with_reducible rfl); rotate_left; (simp only [Act.put, List.setIfInBounds_toArray, List.set_cons_zero, List.set_cons_succ, i64_w, i32_w]; rfl)) | (refine takeM_ (v := ?_) (a' := ?_) rfl rfl (take_of rfl (by kernel_rfl)) (fun _ _ _ h => h) (Or.inl ⟨by rfl, ?_⟩) hHeld ?_ ?_; rotate_left; (rintro w' ⟨s0_, s1_, s2_, s3_, s4_, s5_, s6_, s7_, s8_, s9_, s10_, s11_, s12_, s13_, s14_, s15_, _⟩; go_simp; with_reducible rfl); rotate_left; (simp only [Act.put, List.setIfInBounds_toArray, List.set_cons_zero, List.set_cons_succ, i64_w, i32_w]; rfl)) | (refine pureM_ (v := undef) (a' := ?_) rfl rfl (any_of rfl (by kernel_rfl)) (fun _ _ _ h => h) (Or.inr ⟨by rfl, rfl⟩) ?_ ?_; rotate_left; (simp only [Act.put, List.setIfInBounds_toArray, List.set_cons_zero, List.set_cons_succ, i64_w, i32_w]; rfl)))
  refine one_ (i := 46) (N := some 55) (mk_ 47 50) rfl rfl (one_of rfl (by kernel_rfl)) (by decide) (fun K hK => ?_)
  refine event_step (w1 := w5.alloc (.cells #[.slice Av v.length cv] 54)) (v := .slice (some ⟨w5.heap.size, 0, none⟩) 1 1) (by rfl) ?_ ?_
  · first | (go_simp; done) | (go_simp; rfl)
  have hb := below_alloc (Below.refl w5.heap.size w5) (.cells #[.slice Av v.length cv] 54)
  have HB6 := Aside0.mk (below_step HB5.out hb)
  have HT6 : Aside0 ((w5.alloc (.cells #[.slice Av v.length cv] 54)).heap[w5.heap.size]? = some (.cells [Value.slice Av v.length cv].toArray 54 (0, 0))) := ⟨heap_alloc_new _ _⟩
  have hNew := CS.below hHeld hb
  clear hHeld hb
  generalize w5.alloc (.cells #[.slice Av v.length cv] 54) = w6 at HB6 HT6 hNew ⊢
  refine hK.out _ _ hNew (fun hHeld => ?_)
  clear hNew
  clear hK K
  refine norm_ (a' := ?_) ?_ ?_
  rotate_left
  · show Act.put _ (some 55) _ = _
    simp only [Act.put, List.setIfInBounds_toArray, List.set_cons_zero, List.set_cons_succ, i64_w, i32_w]
    rfl
  have HTC : Aside0 (Kd.C (Kd.slice 3 (Kd.int .i64)) w6 (some ⟨w5.heap.size, 0, none⟩) [v].length [v]) := ⟨C_one HT6.out ⟨Av, cv, rfl, HVC.out, Kd.C_below HV.out HB6.out⟩ rfl⟩
  refine one_ (i := 47) (N := some 56) (mk_ 48 50) rfl rfl (one_of rfl (by kernel_rfl)) (by decide) (fun K hK => ?_)
  refine goes_ Try.func28 (by kernel_rfl) rfl #[.agg #[.int .i64 n, .slice (some al) ls.length c0], .slice (some ⟨w5.heap.size, 0, none⟩) 1 1] (by rfl) rfl rfl (by (try simp only [List.map_toArray, List.map_cons, List.map_nil]); first | done | rfl) ?_
  refine (model_Tokens.calls n (some al) c0 ls (some ⟨w5.heap.size, 0, none⟩) 1 [v] true w6 (Kd.C_below HM.out HB6.out) HMC.out HTC.out (Nat.le_refl _) HF.out.h28).mono ?_
  rintro e_ w7 ⟨rfl, hb⟩
  have hNew := CS.below hHeld hb
  have HB7 := Aside0.mk (below_step HB6.out hb)
  clear hb
  refine ⟨_, rfl, ?_⟩
  clear hHeld
  refine hK.out _ _ hNew (fun hHeld => ?_)
  clear hNew
  clear hK K
  refine norm_ (a' := ?_) ?_ ?_
  rotate_left
  · show Act.put _ (some 56) _ = _
    simp only [Act.put, List.setIfInBounds_toArray, List.set_cons_zero, List.set_cons_succ, i64_w, i32_w]
    rfl
  iterate 2 (refine pureM_ (v := ?_) (a' := ?_) rfl rfl (any_of rfl (by kernel_rfl)) (fun _ _ _ h => h) (Or.inl ⟨by rfl, ?_⟩) ?_ ?_; rotate_left; (intro w'; go_simp; with_reducible rfl); rotate_left; (simp only [Act.put, List.setIfInBounds_toArray, List.set_cons_zero, List.set_cons_succ, i64_w, i32_w]; rfl))
  refine done_ (done_of rfl (by kernel_rfl)) ?_
  clear hHeld
  go_wp2
  go_ret
  exact ⟨rfl, HB7.out⟩
/-- What Combine makes, part by part. -/
structure CombS (T : List (List Int)) (P : List S76) (A : List (List Int)) (O : Nat → List (List Int)) : Prop where
  n : P.length ≤ 1000
  len : P.length ≤ A.length
  cl : slices_Clone_int_int_53.f T = some (O 0)
  ol : ∀ j : Nat, j ≤ P.length → (O j).length = T.length
  ok : ∀ j : Nat, j < P.length → 0 ≤ (rd_T76 P (j : Int)).f0 ∧ (rd_T76 P (j : Int)).f0 < (T.length : Int)
  step : ∀ j : Nat, j < P.length → ∃ sc y, vec_Scale.f (rd_L1 A (j : Int)) (rd_T76 P (j : Int)).f3 = some sc ∧ vec_Add.f (rd_L1 (O j) (rd_T76 P (j : Int)).f0) sc = some (y, true) ∧ O (j + 1) = (O j).set (rd_T76 P (j : Int)).f0.toNat y
/-- A row of rows, one of them another. -/
theorem N_rowset {W : World} {base n ca ga : Nat} {ok okv : Nat → Prop} {xs : List (List Int)} {Av : Option Addr} {cv : Nat} {v : List Int} (h : Kd.N (Kd.slice 3 (Kd.int .i64)) 54 W base ok (.slice (some ⟨ga, 0, none⟩) n ca) xs) (i : Nat) (hi : i < n) (hv : Kd.V (Kd.int .i64) 3 W 0 okv (.slice Av v.length cv) v) (ho : ∀ k, okv k → ok k ∧ k ≠ ga) :
    (∃ u, W.cell? ⟨ga, i, none⟩ = some u) ∧ W.frozen? ⟨ga, i, none⟩ = false ∧ Kd.N (Kd.slice 3 (Kd.int .i64)) 54 (W.setCell ⟨ga, i, none⟩ (.slice Av v.length cv)) base ok (.slice (some ⟨ga, 0, none⟩) n ca) (xs.set i v) := by
  obtain ⟨c, hcl, _, hcc, hfz⟩ := Kd.N_elem h [] (i : Int) (Int.natCast_nonneg i) (Int.ofNat_lt.2 hi)
  rw [Int.toNat_natCast] at hcc hfz
  have hsz : (Kd.slice 3 (Kd.int .i64)).sz = 1 := rfl
  rw [hsz, Nat.mul_one] at hcc hfz
  rw [hsz] at hcl
  obtain ⟨hN, _⟩ := Kd.N_seg h (i : Int) (Int.natCast_nonneg i) (Int.ofNat_lt.2 hi) (c := c) (seg := [.slice Av v.length cv]) (j := 0) (x' := v) (okp := okv) hcl
    (fun j u hu => by rw [Int.toNat_natCast, hsz, Nat.mul_one]; exact hcc j u hu) (by rw [hsz]; exact Nat.le_refl _)
    (by
      have h1 : c.take 0 ++ [Value.slice Av v.length cv] ++ c.drop (0 + [Value.slice Av v.length cv].length) = [Value.slice Av v.length cv] := by
        rw [List.take_zero, List.drop_of_length_le (by rw [hcl]; exact Nat.le_refl _)]
        rfl
      rw [h1]
      exact Kd.FK_slice_mk (Kd.V_at hv).2.1 (Kd.V_at hv).2.2) ho
  rw [Int.toNat_natCast, hsz, Nat.mul_one] at hN
  refine ⟨?_, by simpa using hfz 0, hN⟩
  match c, hcl with
  | [u], _ => exact ⟨u, by simpa using hcc 0 u rfl⟩
set_option maxHeartbeats 8000000 in
set_option maxRecDepth 100000 in
theorem model_Combine.told (P0_ : Nat → Prop) (A0 : Option Addr) (c0 : Nat) (T : List (List Int)) (A1 : Option Addr) (c1 : Nat) (P : List S76) (A2 : Option Addr) (c2 : Nat) (A : List (List Int)) (O : Nat → List (List Int)) (w : World) (hs0 : Kd.V (Kd.slice 3 (Kd.int .i64)) 54 w w.heap.size (fun k_ => P0_ k_) (.slice A0 T.length c0) T) (hr1 : Kd.C k76 w A1 P.length P) (hr2 : Kd.C (Kd.slice 3 (Kd.int .i64)) w A2 A.length A) (hc2 : A.length ≤ c2) (h : CombS T P A O) :
    Calls Try.prog 31 #[.slice A0 T.length c0, .slice A1 P.length c1, .slice A2 A.length c2] w fun e w' => ∃ v0_ : Value, e = .returned (v0_) ∧ Kd.N (Kd.slice 3 (Kd.int .i64)) 54 w' w.heap.size (fun k_ => (P0_ k_ ∨ w.heap.size ≤ k_)) v0_ (O P.length) ∧ Below w.heap.size w w' := by
  have hu76 := Try.underlying76
  have HS := Aside0.mk hs0
  have HP := Aside0.mk hr1
  have HA := Aside0.mk hr2
  have HAC := Aside0.mk hc2
  have HF := Aside0.mk h
  clear hs0 hr1 hr2 hc2 h
  go_enter Try.func31, Try.ntmps31
  go_upto_region 2 with (go_at_call 53; (with_reducible refine (slices_Clone_int_int_53.calls (fun k_ => P0_ k_ ∧ k_ < w.heap.size) A0 c0 T (O 0) w (Kd.V_bound HS.out) HF.out.cl).mono ?_); rintro e_ w1 ⟨vo, rfl, ho, hb⟩; have HB1 := Aside0.mk hb; have hol := HF.out.ol 0 (Nat.zero_le _); have HN1 := Aside0.mk ho; obtain ⟨Ao, co, rfl⟩ := Kd.N_slice ho; rw [hol] at HN1 ⊢; clear ho hb hol)
  go_wp2
  go_loopw [16] (fun v16 w' => ∃ j : Nat, Aside0 (j ≤ P.length) ∧ v16 = .int .i64 (j : Int) ∧ Aside0 (Below w.heap.size w w') ∧ Aside0 (Kd.N (Kd.slice 3 (Kd.int .i64)) 54 w' w.heap.size (fun k_ => (P0_ k_ ∧ k_ < w.heap.size) ∨ w.heap.size ≤ k_) (.slice Ao T.length co) (O j))) (fun v16 _ => P.length - (intOf v16).toNat)
  case atStart => exact ⟨0, ⟨Nat.zero_le _⟩, rfl, HB1, HN1⟩
  case round =>
    clear HB1 HN1
    obtain ⟨j, HJ, rfl, HB, HN⟩ := hrel
    by_cases hlt : j < P.length
    · have hc : decide (j < P.length) = true := decide_eq_true hlt
      have HLT := Aside0.mk hlt
      obtain ⟨ap, hA, hx0, hx1, hx2, hx3⟩ := at_T76 (xs := P) (n := P.length) (Kd.C_below HP.out HB.out) (j : Int) (Int.natCast_nonneg j) (Int.ofNat_lt.2 hlt)
      cases hA
      obtain ⟨t0, t1⟩ := HF.out.ok j hlt
      obtain ⟨sc, y, hsc, hy, hO⟩ := HF.out.step j hlt
      obtain ⟨PX, hPX⟩ : ∃ PX, PX = rd_T76 P (j : Int) := ⟨_, rfl⟩
      rw [← hPX] at hx0 hx1 hx2 hx3 t0 t1 hsc hy hO
      rw [Int.toNat_natCast] at hx0 hx1 hx2 hx3
      have HSC := Aside0.mk hsc
      have HY := Aside0.mk hy
      have HO := Aside0.mk hO
      have HT0 := Aside0.mk t0
      have HT1 := Aside0.mk t1
      clear hPX hsc hy hO t0 t1
      go_upto_region 5 with (fail)
      clear hx0 hx1 hx2 hx3 hc hlt
      have hb := below_alloc (Below.refl wr.heap.size wr) (.cells #[.int .i64 PX.f0, .int .i64 PX.f1, .int .i64 PX.f2, .int .i64 PX.f3] 76)
      have HB2 := Aside0.mk (below_step HB.out hb)
      have HQ2 : Aside0 ((wr.alloc (.cells #[.int .i64 PX.f0, .int .i64 PX.f1, .int .i64 PX.f2, .int .i64 PX.f3] 76)).heap[wr.heap.size]? = some (.cells #[.int .i64 PX.f0, .int .i64 PX.f1, .int .i64 PX.f2, .int .i64 PX.f3] 76 (0, 0))) := ⟨heap_alloc_new _ _⟩
      have HN2 := Aside0.mk (Kd.N_below HN.out hb)
      clear hb HB HN
      generalize wr.alloc (.cells #[.int .i64 PX.f0, .int .i64 PX.f1, .int .i64 PX.f2, .int .i64 PX.f3] 76) = w2 at HB2 HQ2 HN2 ⊢
      generalize wr.heap.size = gq at HQ2 ⊢
      have q0 := (blk_cell HQ2.out 0).trans rfl
      have a1 : decide ((A.length : Int) ≤ (j : Int)) = false := decide_eq_false (by have := HF.out.len; have := HLT.out; omega)
      have a1n : decide (A.length ≤ j) = false := decide_eq_false (by have := HF.out.len; have := HLT.out; omega)
      have a2 : decide (PX.f0 < 0) = false := decide_eq_false (by have := HT0.out; omega)
      have a3 : decide ((T.length : Int) ≤ PX.f0) = false := decide_eq_false (by have := HT1.out; omega)
      go_upto_region 6 with (fail)
      clear q0 a1 a1n a2 a3
      obtain ⟨go, cp, hq, hgb, hgl, _⟩ := Kd.N_form HN2.out (by have h1 := HF.out.ol j (by have := HLT.out; omega); have h2 := HT0.out; have h3 := HT1.out; omega)
      injection hq with h1 h2 h3
      subst h1
      subst h3
      have t0 := HT0.out
      have t1 : PX.f0 < (T.length : Int) := HT1.out
      have hjA : (j : Int) < (A.length : Int) := by have := HF.out.len; have := HLT.out; omega
      obtain ⟨ar, Ar, cr, hA, hr, hrc, hRC⟩ := at_L1 (xs := O j) (n := (O j).length) (Kd.N_reads' HN2.out).2.2 PX.f0 t0 (by rw [← h2]; exact t1)
      cases hA
      obtain ⟨aa, Aa, ca, hA, ha, hac, hAC⟩ := at_L1 (xs := A) (n := A.length) (Kd.C_below HA.out HB2.out) (j : Int) (Int.natCast_nonneg j) hjA
      cases hA
      rw [Int.toNat_natCast] at ha
      have hr' : w2.cell? ⟨go, PX.f0.toNat, none⟩ = some (.slice Ar (rd_L1 (O j) PX.f0).length cr) := by have h_ := hr; rw [add_at, Nat.zero_add] at h_; exact h_
      clear hr h2
      have HRC := Aside0.mk hRC
      have HAA := Aside0.mk hAC
      clear hRC hAC
      have HD := Aside0.mk (below_drew (Below.refl w2.heap.size w2))
      have HB3 := Aside0.mk (below_step HB2.out HD.out)
      have HQ3 := Aside0.mk (blk_below HQ2.out HD.out)
      have HN3 := Aside0.mk (Kd.N_below HN2.out HD.out)
      have HRC3 := Aside0.mk (Kd.C_below HRC.out HD.out)
      have HAA3 := Aside0.mk (Kd.C_below HAA.out HD.out)
      refine startM_ [12] (n := 18) (S := fun W => CS [(⟨gq, 0, none⟩, .int .i64 PX.f0), (⟨gq, 3, none⟩, .int .i64 PX.f3), (⟨go, PX.f0.toNat, none⟩, .slice Ar (rd_L1 (O j) PX.f0).length cr), ((aa.add j), .slice Aa (rd_L1 A (j : Int)).length ca)] W) (by kernel_rfl) rfl ⟨(blk_cell (blk_below HQ2.out HD.out) 0).trans rfl, (blk_cell (blk_below HQ2.out HD.out) 3).trans rfl, (HD.out.cell (World.block_lt_of_cell? _ _ hr')).trans hr', (HD.out.cell (World.block_lt_of_cell? _ _ ha)).trans ha, trivial⟩ (fun hHeld => ?_)
      clear HD
      generalize w2.drew = w3 at HB3 HQ3 HN3 HRC3 HAA3 hHeld ⊢
      clear HB2 HQ2 HN2 HRC HAA hr' ha
      iterate 11 (first | (refine pureM_ (v := ?_) (a' := ?_) rfl rfl (any_of rfl (by kernel_rfl)) (fun _ _ _ h => h) (Or.inl ⟨by rfl, ?_⟩) ?_ ?_; rotate_left; (intro w'; go_simp; with_reducible rfl); rotate_left; (simp only [Act.put, List.setIfInBounds_toArray, List.set_cons_zero, List.set_cons_succ, i64_w, i32_w]; rfl)) | (refine takeM_ (v := ?_) (a' := ?_) rfl rfl (take_of rfl (by kernel_rfl)) (fun _ _ _ h => h) (Or.inl ⟨by rfl, ?_⟩) hHeld ?_ ?_; rotate_left; (rintro w' ⟨s0_, s1_, s2_, s3_, _⟩; go_simp; with_reducible rfl); rotate_left; (simp only [Act.put, List.setIfInBounds_toArray, List.set_cons_zero, List.set_cons_succ, i64_w, i32_w]; rfl)) | (refine pureM_ (v := undef) (a' := ?_) rfl rfl (any_of rfl (by kernel_rfl)) (fun _ _ _ h => h) (Or.inr ⟨by rfl, rfl⟩) ?_ ?_; rotate_left; (simp only [Act.put, List.setIfInBounds_toArray, List.set_cons_zero, List.set_cons_succ, i64_w, i32_w]; rfl)))
      refine one_ (i := 11) (N := some 49) (mk_ 12 18) rfl rfl (one_of rfl (by kernel_rfl)) (by decide) (fun K hK => ?_)
      refine goes_ Try.func55 (by kernel_rfl) rfl #[.slice Aa (rd_L1 A (j : Int)).length ca, .int .i64 PX.f3] (by rfl) rfl rfl (by (try simp only [List.map_toArray, List.map_cons, List.map_nil]); first | done | rfl) ?_
      refine (vec_Scale.calls Aa ca (rd_L1 A (j : Int)) PX.f3 sc w3 HAA3.out hac HSC.out).mono ?_
      rintro e_ w4 ⟨vs, rfl, ho, hb⟩
      have hNew := CS.below hHeld hb
      have HB4 := Aside0.mk (below_step HB3.out hb)
      have HQ4 := Aside0.mk (blk_below HQ3.out hb)
      have HN4 := Aside0.mk (Kd.N_below HN3.out hb)
      have HRC4 := Aside0.mk (Kd.C_below HRC3.out hb)
      have HSV := Aside0.mk ho
      obtain ⟨As, cs, rfl⟩ := Kd.R_slice ho
      clear ho hb HB3 HQ3 HN3 HRC3 HAA3
      refine ⟨_, rfl, ?_⟩
      clear hHeld
      refine hK.out _ _ hNew (fun hHeld => ?_)
      clear hNew
      clear hK K
      refine norm_ (a' := ?_) ?_ ?_
      rotate_left
      · show Act.put _ (some 49) _ = _
        simp only [Act.put, List.setIfInBounds_toArray, List.set_cons_zero, List.set_cons_succ, i64_w, i32_w]
        rfl
      refine last_ (i := 12) (N := some 50) (mk_ 13 18) rfl rfl (one_of rfl (by kernel_rfl)) (by decide) (fun K hK => ?_)
      refine goes_ Try.func54 (by kernel_rfl) rfl #[.slice Ar (rd_L1 (O j) PX.f0).length cr, .slice As sc.length cs] (by rfl) rfl rfl (by (try simp only [List.map_toArray, List.map_cons, List.map_nil]); first | done | rfl) ?_
      refine (vec_Add.calls Ar cr (rd_L1 (O j) PX.f0) As cs sc y true w4 HRC4.out hrc (Kd.R_reads' HSV.out).2.2 (Kd.R_reads' HSV.out).2.1 HY.out).mono ?_
      rintro e_ w5 ⟨vy, rfl, ho, hb⟩
      have HB5 := Aside0.mk (below_step HB4.out hb)
      have HQ5 := Aside0.mk (blk_below HQ4.out hb)
      have HN5 := Aside0.mk (Kd.N_below HN4.out hb)
      have HG5 : Aside0 (go < w4.heap.size ∧ w.heap.size ≤ w4.heap.size) := ⟨Kd.N_lt HN4.out go (by simp [Value.ownBlock]), HB4.out.size⟩
      have HV5 := Aside0.mk (Kd.R_V (base' := 0) (Kd.R_mono (ok' := fun k_ => w4.heap.size ≤ k_) (Kd.R_bound ho) (fun k_ hk => hk.2.1)))
      obtain ⟨Ay, cy, rfl⟩ := Kd.R_slice ho
      clear ho hb HB4 HQ4 HN4 HRC4 HSV hHeld
      refine ⟨_, rfl, ?_⟩
      refine hK.out _ _ ?_
      clear hK K
      refine norm_ (a' := ?_) ?_ ?_
      rotate_left
      · show Act.put _ (some 50) _ = _
        simp only [Act.put, List.setIfInBounds_toArray, List.set_cons_zero, List.set_cons_succ, i64_w, i32_w]
        rfl
      iterate 5 (refine pureM_ (v := ?_) (a' := ?_) rfl rfl (any_of rfl (by kernel_rfl)) (fun _ _ _ h => h) (Or.inl ⟨by rfl, ?_⟩) ?_ ?_; rotate_left; (intro w'; go_simp; with_reducible rfl); rotate_left; (simp only [Act.put, List.setIfInBounds_toArray, List.set_cons_zero, List.set_cons_succ, i64_w, i32_w]; rfl))
      refine done_ (done_of rfl (by kernel_rfl)) ?_
      obtain ⟨⟨u_, hu_⟩, hz, hN6⟩ := N_rowset HN5.out PX.f0.toNat (by omega) HV5.out (fun k_ hk => ⟨.inr (Nat.le_trans HG5.out.2 hk), fun he => by have := HG5.out.1; omega⟩)
      have HN6 := Aside0.mk hN6
      have HB6 := Aside0.mk (Below.setCell (p := ⟨go, PX.f0.toNat, none⟩) HB5.out hgb (.slice Ay y.length cy))
      clear hN6
      rw [← HO.out] at HN6
      have q0 := (blk_cell HQ5.out 0).trans rfl
      have hlt := HLT.out
      have hmax : P.length ≤ 9223372036854775807 := by have := HF.out.n; omega
      go_wp2
      go_roundw
      case rel => exact ⟨j + 1, ⟨HLT.out⟩, by go_num, HB6, HN6⟩
      case measure => simp [intOf]; omega
    · have hc : decide (j < P.length) = false := decide_eq_false hlt
      have hj : j = P.length := by have := HJ.out; omega
      subst hj
      go_wp2
      go_ret
      exact ⟨_, rfl, Kd.N_mono HN.out (fun k_ hk => hk.imp (fun h_ => h_.1) (fun h_ => h_)), HB.out⟩
/-- What Forward makes, layer by layer. -/
structure FwdS (k : Nat) (n : Int) (ls : List S31) (T : Nat → List (List Int)) (P : Nat → List S76) (an : Nat → Nat → List Int) : Prop where
  h27 : model_Right.f n ls = some true
  h28 : model_Tokens.f n ls (T 0) = some true
  np : ∀ i : Nat, i < ls.length → (P i).length ≤ 100
  parts : ∀ i : Nat, i < ls.length → model_Parts.f k (rd_T31 ls (i : Int)).f0 (rd_T31 ls (i : Int)).f1 (rd_T31 ls (i : Int)).f2 (T i) = some (P i)
  ok : ∀ i : Nat, i < ls.length → ∀ j : Nat, j < (P i).length → 0 ≤ (rd_T76 (P i) (j : Int)).f0 ∧ (rd_T76 (P i) (j : Int)).f0 < ((T i).length : Int) ∧ 0 ≤ (rd_T76 (P i) (j : Int)).f2 ∧ (rd_T76 (P i) (j : Int)).f2 < ((rd_T31 ls (i : Int)).f1.length : Int)
  run : ∀ i : Nat, i < ls.length → ∀ j : Nat, j < (P i).length → expert_Run.f k (rd_T33 (rd_T31 ls (i : Int)).f1 (rd_T76 (P i) (j : Int)).f2).f0 (rd_T33 (rd_T31 ls (i : Int)).f1 (rd_T76 (P i) (j : Int)).f2).f1 (rd_L1 (T i) (rd_T76 (P i) (j : Int)).f0) = some (an i j, true)
  comb : ∀ i : Nat, i < ls.length → ∃ O, CombS (T i) (P i) ((List.range (P i).length).map (an i)) O ∧ O (P i).length = T (i + 1)
set_option maxHeartbeats 8000000 in
set_option maxRecDepth 100000 in
theorem model_Forward.told (k : Nat) (n : Int) (A0 : Option Addr) (c0 : Nat) (ls : List S31) (T : Nat → List (List Int)) (P : Nat → List S76) (an : Nat → Nat → List Int) (At : Option Addr) (ct : Nat) (w : World) (hm : Kd.C k31 w A0 ls.length ls) (hmc : ls.length ≤ c0) (ht : Kd.C (Kd.slice 3 (Kd.int .i64)) w At (T 0).length (T 0)) (htc : (T 0).length ≤ ct) (h : FwdS k n ls T P an) :
    Calls Try.prog 13 #[.agg #[.int .i64 n, (.slice A0 ls.length c0)], .slice At (T 0).length ct] w fun e_ w' => ∃ v, e_ = .returned (.tuple #[v, .int .i64 0]) ∧ Kd.V (Kd.slice 3 (Kd.int .i64)) 54 w' 0 (fun _ => True) v (T ls.length) ∧ Below w.heap.size w w' := by
  have hu24 := Try.underlying24
  have hu31 := Try.underlying31
  have hu33 := Try.underlying33
  have hu76 := Try.underlying76
  have HR := Aside0.mk hm
  have HC := Aside0.mk hmc
  have HF := Aside0.mk h
  have HT0 : Aside0 (Kd.V (Kd.slice 3 (Kd.int .i64)) 54 w 0 (fun k_ => k_ < w.heap.size) (.slice At (T 0).length ct) (T 0)) := ⟨Kd.V_mk htc (Kd.C_F (Kd.heap_slice 3 (Kd.heap_int .i64)) ht)⟩
  have HTC := Aside0.mk ht
  have HTL := Aside0.mk htc
  clear hm hmc h ht htc
  have HB0 : Aside0 (Below w.heap.size w (w.alloc (.cells #[.int .i64 n, (.slice A0 ls.length c0)] 24))) := ⟨below_alloc (Below.refl _ _) _⟩
  have HX0 : Aside0 ((w.alloc (.cells #[.int .i64 n, (.slice A0 ls.length c0)] 24)).heap[w.heap.size]? = some (.cells #[.int .i64 n, (.slice A0 ls.length c0)] 24 (0, 0))) := ⟨heap_alloc_new _ _⟩
  go_enter Try.func13, Try.ntmps13
  go_upto_region 1 with (fail)
  generalize w.alloc (.cells #[.int .i64 n, (.slice A0 ls.length c0)] 24) = w1 at HB0 HX0 ⊢
  have m0 := (blk_cell HX0.out 0).trans rfl
  have m1 := (blk_cell HX0.out 1).trans rfl
  go_upto_region 3 with (first | (go_at_call 27; (with_reducible refine (model_Right.calls n A0 c0 ls true w1 (Kd.C_below HR.out HB0.out) HC.out HF.out.h27).mono ?_); rintro e_ w2 ⟨rfl, hb⟩; have NB := Aside0.mk (below_step HB0.out hb); have NX := Aside0.mk (blk_below HX0.out hb); clear HB0 HX0 m0 m1 hb; have HB0 := NB; have HX0 := NX; clear NB NX; have m0 := (blk_cell HX0.out 0).trans rfl; have m1 := (blk_cell HX0.out 1).trans rfl) | (go_at_call 28; (with_reducible refine (model_Tokens.calls n A0 c0 ls At ct (T 0) true w2 (Kd.C_below HR.out HB0.out) HC.out (Kd.C_below HTC.out HB0.out) HTL.out HF.out.h28).mono ?_); rintro e_ w3 ⟨rfl, hb⟩; have NB := Aside0.mk (below_step HB0.out hb); have NX := Aside0.mk (blk_below HX0.out hb); clear HB0 HX0 m0 m1 hb; have HB0 := NB; have HX0 := NX; clear NB NX; have m0 := (blk_cell HX0.out 0).trans rfl; have m1 := (blk_cell HX0.out 1).trans rfl))
  go_wp2
  go_loopw [26, 1] (fun v26 v1 w' => ∃ i : Nat, Aside0 (i ≤ ls.length) ∧ v26 = .int .i64 (i : Int) ∧ Aside0 (Below w.heap.size w w') ∧ Aside0 (Kd.V (Kd.slice 3 (Kd.int .i64)) 54 w' 0 (fun k_ => k_ < w'.heap.size) v1 (T i))) (fun v26 v1 _ => ls.length - (intOf v26).toNat)
  case atStart => exact ⟨0, ⟨Nat.zero_le _⟩, rfl, HB0, ⟨Kd.V_mono (Kd.V_below HT0.out HB0.out) (fun k_ hk => Nat.lt_of_lt_of_le hk HB0.out.size)⟩⟩
  case round =>
    clear HB0 HX0 m0 m1
    obtain ⟨i, HI, rfl, HB, HT⟩ := hrel
    obtain ⟨Au, cu, rfl⟩ := Kd.V_slice HT.out
    by_cases hlt : i < ls.length
    · have hc : decide (i < ls.length) = true := decide_eq_true hlt
      have HLT := Aside0.mk hlt
      obtain ⟨al, Ag, cg, Ax, cx, hA, hl0, hl1, hl2, hgc, hG, hxc, hX⟩ := at_T31 (xs := ls) (n := ls.length) (Kd.C_below HR.out HB.out) (i : Int) (Int.natCast_nonneg _) (Int.ofNat_lt.2 hlt)
      cases hA
      rw [Int.toNat_natCast] at hl0 hl1 hl2
      have HGC := Aside0.mk hgc
      have HG := Aside0.mk hG
      have HXC := Aside0.mk hxc
      have HXX := Aside0.mk hX
      clear hgc hG hxc hX
      go_upto_region 6 with (fail)
      clear hl0 hl1 hl2 hlt hc
      have hb := below_alloc (Below.refl wr.heap.size wr) (.cells #[.slice Ag (rd_T31 ls (i : Int)).f0.length cg, .slice Ax (rd_T31 ls (i : Int)).f1.length cx, .int .i64 (rd_T31 ls (i : Int)).f2] 31)
      have HB1 := Aside0.mk (below_step HB.out hb)
      have HK1 : Aside0 ((wr.alloc (.cells #[.slice Ag (rd_T31 ls (i : Int)).f0.length cg, .slice Ax (rd_T31 ls (i : Int)).f1.length cx, .int .i64 (rd_T31 ls (i : Int)).f2] 31)).heap[wr.heap.size]? = some (.cells #[.slice Ag (rd_T31 ls (i : Int)).f0.length cg, .slice Ax (rd_T31 ls (i : Int)).f1.length cx, .int .i64 (rd_T31 ls (i : Int)).f2] 31 (0, 0))) := ⟨heap_alloc_new _ _⟩
      have HT1 := Aside0.mk (Kd.V_below HT.out hb)
      have HG1 := Aside0.mk (Kd.C_below HG.out hb)
      have HX1 := Aside0.mk (Kd.C_below HXX.out hb)
      clear hb HT HG HXX HB
      generalize wr.alloc (.cells #[.slice Ag (rd_T31 ls (i : Int)).f0.length cg, .slice Ax (rd_T31 ls (i : Int)).f1.length cx, .int .i64 (rd_T31 ls (i : Int)).f2] 31) = w4 at HB1 HK1 HT1 HG1 HX1 ⊢
      generalize wr.heap.size = gl at HK1 HT1 ⊢
      have k0 := (blk_cell HK1.out 0).trans rfl
      have k1 := (blk_cell HK1.out 1).trans rfl
      have k2 := (blk_cell HK1.out 2).trans rfl
      go_upto_region 7 with (go_at_call 29; (with_reducible refine (model_Parts.calls k Ag cg (rd_T31 ls (i : Int)).f0 Ax cx (rd_T31 ls (i : Int)).f1 (rd_T31 ls (i : Int)).f2 Au cu (T i) (P i) w4 HG1.out HGC.out HX1.out HXC.out (Kd.V_reads' HT1.out).2.2 (Kd.V_reads' HT1.out).2.1 (HF.out.parts i HLT.out)).mono ?_); rintro e_ w5 ⟨vp, rfl, ho, hb⟩; have HB2 := Aside0.mk (below_step HB1.out hb); have HK2 := Aside0.mk (blk_below HK1.out hb); have HT2 := Aside0.mk (Kd.V_below HT1.out hb); have HX2 := Aside0.mk (Kd.C_below HX1.out hb); have HP2 := Aside0.mk (Kd.R_V (base' := 0) (Kd.R_mono (Kd.R_bound ho) (fun k_ hk => hk.2.2.1))); obtain ⟨Ap, cp, rfl⟩ := Kd.R_slice ho; clear ho hb HB1 HK1 HT1 HG1 HX1 k0 k1 k2)
      have HTS : Aside0 (gl ≤ w5.heap.size) := ⟨Nat.le_of_lt (blk_lt HK2.out)⟩
      go_wp2
      go_loopw [35, 9] (fun v35 v9 w' => ∃ j : Nat, Aside0 (j ≤ (P i).length) ∧ v35 = .int .i64 (j : Int) ∧ Aside0 (Below w5.heap.size w5 w') ∧ Aside0 (Kd.N (Kd.slice 3 (Kd.int .i64)) 54 w' w5.heap.size (fun k_ => w5.heap.size ≤ k_) v9 ((List.range j).map (an i)))) (fun v35 v9 _ => (P i).length - (intOf v35).toNat)
      case atStart => exact ⟨0, ⟨Nat.zero_le _⟩, rfl, ⟨Below.refl _ _⟩, ⟨Kd.N_nil _ _ _ _ _⟩⟩
      case round =>
        obtain ⟨j, HJ, rfl, HB3, HN3⟩ := hrel
        by_cases hltj : j < (P i).length
        · have hcj : decide (j < (P i).length) = true := decide_eq_true hltj
          obtain ⟨ap, hA, hx0, hx1, hx2, hx3⟩ := at_T76 (xs := P i) (n := (P i).length) (Kd.V_reads' (Kd.V_below HP2.out HB3.out)).2.2 (j : Int) (Int.natCast_nonneg j) (Int.ofNat_lt.2 hltj)
          cases hA
          obtain ⟨t0, t1, x0, x1⟩ := HF.out.ok i HLT.out j hltj
          have hrun := HF.out.run i HLT.out j hltj
          obtain ⟨PX, hPX⟩ : ∃ PX, PX = rd_T76 (P i) (j : Int) := ⟨_, rfl⟩
          rw [← hPX] at hx0 hx1 hx2 hx3 t0 t1 x0 x1 hrun
          rw [Int.toNat_natCast] at hx0 hx1 hx2 hx3
          have HRN := Aside0.mk hrun
          have HLJ := Aside0.mk hltj
          clear hPX hrun
          go_upto_region 11 with (fail)
          clear hx0 hx1 hx2 hx3 hltj hcj
          have hb := below_alloc (Below.refl wr.heap.size wr) (.cells #[.int .i64 PX.f0, .int .i64 PX.f1, .int .i64 PX.f2, .int .i64 PX.f3] 76)
          have HB4 := Aside0.mk (below_step HB3.out hb)
          have HQ4 : Aside0 ((wr.alloc (.cells #[.int .i64 PX.f0, .int .i64 PX.f1, .int .i64 PX.f2, .int .i64 PX.f3] 76)).heap[wr.heap.size]? = some (.cells #[.int .i64 PX.f0, .int .i64 PX.f1, .int .i64 PX.f2, .int .i64 PX.f3] 76 (0, 0))) := ⟨heap_alloc_new _ _⟩
          have HN4 := Aside0.mk (Kd.N_below HN3.out hb)
          clear hb HB3 HN3
          generalize wr.alloc (.cells #[.int .i64 PX.f0, .int .i64 PX.f1, .int .i64 PX.f2, .int .i64 PX.f3] 76) = w6 at HB4 HQ4 HN4 ⊢
          have HD := Aside0.mk (below_drew (Below.refl w6.heap.size w6))
          have HB5 := Aside0.mk (below_step HB4.out HD.out)
          have HQ5 := Aside0.mk (blk_below HQ4.out HD.out)
          have HN5 := Aside0.mk (Kd.N_below HN4.out HD.out)
          refine startM_ [11] (n := 17) (S := fun W => W = w6.drew) (by kernel_rfl) rfl rfl (fun hHeld => ?_)
          clear HD
          generalize w6.drew = w7 at HB5 HQ5 HN5 hHeld ⊢
          clear HB4 HQ4 HN4
          have k1 := (blk_cell (blk_below HK2.out HB5.out) 1).trans rfl
          have q0 := (blk_cell HQ5.out 0).trans rfl
          have q2 := (blk_cell HQ5.out 2).trans rfl
          obtain ⟨ax, Ai, ci, Ao, co, hA, he0, he1, hic, hI, hoc, hO⟩ := at_T33 (xs := (rd_T31 ls (i : Int)).f1) (n := (rd_T31 ls (i : Int)).f1.length) (Kd.C_below HX2.out HB5.out) PX.f2 x0 x1
          cases hA
          obtain ⟨ar, Ar, cr, hA, hr, hrc, hRC⟩ := at_L1 (xs := T i) (n := (T i).length) (Kd.V_reads' (Kd.V_below HT2.out HB5.out)).2.2 PX.f0 t0 t1
          cases hA
          iterate 11 (first | (refine pureM_ (v := ?_) (a' := ?_) rfl rfl (any_of rfl (by kernel_rfl)) (fun _ _ _ h => h) (Or.inl ⟨by rfl, ?_⟩) ?_ ?_; rotate_left; (intro w'; go_simp; with_reducible rfl); rotate_left; (simp only [Act.put, List.setIfInBounds_toArray, List.set_cons_zero, List.set_cons_succ, i64_w, i32_w]; rfl)) | (refine takeM_ (v := ?_) (a' := ?_) rfl rfl (take_of rfl (by kernel_rfl)) (fun _ _ _ h => h) (Or.inl ⟨by rfl, ?_⟩) hHeld ?_ ?_; rotate_left; (intro w' e_; rw [show w' = w7 from e_]; go_simp; with_reducible rfl); rotate_left; (simp only [Act.put, List.setIfInBounds_toArray, List.set_cons_zero, List.set_cons_succ, i64_w, i32_w]; rfl)))
          refine last_ (i := 11) (N := some 51) (mk_ 12 17) rfl rfl (one_of rfl (by kernel_rfl)) (by decide) (fun K hK => ?_)
          refine goes_ Try.func30 (by kernel_rfl) rfl #[.agg #[.slice Ai (rd_T33 (rd_T31 ls (i : Int)).f1 PX.f2).f0.length ci, .slice Ao (rd_T33 (rd_T31 ls (i : Int)).f1 PX.f2).f1.length co], .slice Ar (rd_L1 (T i) PX.f0).length cr] (by rfl) rfl rfl (by (try simp only [List.map_toArray, List.map_cons, List.map_nil]); first | done | rfl) ?_
          refine (expert_Run.calls k Ai ci _ Ao co _ Ar cr (rd_L1 (T i) PX.f0) (an i j) true w7 hI hic hO hoc hRC hrc HRN.out).mono ?_
          rintro e_ w8 ⟨vv, rfl, ho, hb⟩
          have HB6 := Aside0.mk (below_step HB5.out hb)
          have HN6 := Aside0.mk (Kd.N_below HN5.out hb)
          have HY6 := Aside0.mk (Kd.R_mono (ok' := fun k_ => w7.heap.size ≤ k_) (Kd.R_bound ho) (fun k_ hk => hk.2.1))
          have HNL : Aside0 (∀ k_, Value.ownBlock u9 = some k_ → k_ < w7.heap.size) := ⟨Kd.N_lt HN5.out⟩
          have HS7 := Aside0.mk HB5.out.size
          obtain ⟨Av, cv, rfl⟩ := Kd.R_slice ho
          clear ho hb k1 q0 q2 he0 he1 hic hI hoc hO hr hrc hRC HB5 HQ5 HN5 hHeld t0 t1 x0 x1
          refine ⟨_, rfl, ?_⟩
          refine hK.out _ _ ?_
          clear hK K
          refine norm_ (a' := ?_) ?_ ?_
          rotate_left
          · show Act.put _ (some 51) _ = _
            simp only [Act.put, List.setIfInBounds_toArray, List.set_cons_zero, List.set_cons_succ, i64_w, i32_w]
            rfl
          iterate 5 (refine pureM_ (v := ?_) (a' := ?_) rfl rfl (any_of rfl (by kernel_rfl)) (fun _ _ _ h => h) (Or.inl ⟨by rfl, ?_⟩) ?_ ?_; rotate_left; (intro w'; go_simp; with_reducible rfl); rotate_left; (simp only [Act.put, List.setIfInBounds_toArray, List.set_cons_zero, List.set_cons_succ, i64_w, i32_w]; rfl))
          refine done_ (done_of rfl (by kernel_rfl)) ?_
          have hltj := HLJ.out
          have hmaxj : (P i).length ≤ 9223372036854775807 := by have := HF.out.np i HLT.out; omega
          go_wp2_with (at_builtin; refine Kd.N_append (Kd.slice 3 (Kd.int .i64)) (w0 := w5) w5.heap.size rfl (.tmp 54) (.tmp 56) 25 54 (.slice none 0 0) 24 rfl Try.underlying25 info54 rfl (by decide) (by omega) u9 ((List.range j).map (an i)) (an i j) [.slice Av (an i j).length cv] (fun k_ => w5.heap.size ≤ k_) (fun k_ => w7.heap.size ≤ k_) rfl rfl ?aP ?aK ?aF ?aO ?aB ?aS ?aL ?_; (case aP => exact Kd.FK_slice_mk (Kd.V_at (Kd.R_V (base' := 0) HY6.out)).2.1 (Kd.V_at (Kd.R_V (base' := 0) HY6.out)).2.2); (case aK => exact (fun k_ hk => ⟨Nat.le_trans HS7.out hk, fun he => by have := HNL.out k_ he.symm; omega⟩)); (case aF => exact (fun k_ hk => Nat.le_trans HB6.out.size hk)); (case aO => exact HN6.out); (case aB => exact HB6.out); (case aS => exact HB6.out.size); (case aL => (have := HF.out.np i HLT.out; have := HLJ.out; rw [List.length_map, List.length_range]; omega)); intro v1 w9 hr hb hg hat; have HB7 := Aside0.mk hb; have HN7 : Aside0 (Kd.N (Kd.slice 3 (Kd.int .i64)) 54 w9 w5.heap.size (fun k_ => w5.heap.size ≤ k_) v1 ((List.range (j + 1)).map (an i))) := ⟨by rw [List.range_succ, List.map_append]; exact hr⟩; clear hr hb hg hat)
          go_roundw
          case rel => exact ⟨j + 1, ⟨HLJ.out⟩, by go_num, HB7, HN7⟩
          case measure => simp [intOf]; omega
        · have hcj : decide (j < (P i).length) = false := decide_eq_false hltj
          have hj : j = (P i).length := by have := HJ.out; omega
          subst hj
          obtain ⟨O, hcb, hoe⟩ := HF.out.comb i HLT.out
          have HOE := Aside0.mk hoe
          clear hoe
          obtain ⟨ZA, hza⟩ : ∃ ZA, ZA = (List.range (P i).length).map (an i) := ⟨_, rfl⟩
          rw [← hza] at hcb HN3
          obtain ⟨Aa, ca, rfl⟩ := Kd.N_slice HN3.out
          have HCB := Aside0.mk hcb
          have hlt := HLT.out
          have hmax : ls.length ≤ 9223372036854775807 := HR.out.2.1
          clear hcb hza
          go_wp2_with (go_at_call 31; (with_reducible refine (model_Combine.told (fun k_ => k_ < w5.heap.size) Au cu (T i) Ap cp (P i) Aa ca ZA O wr (Kd.V_map (Kd.V_below HT2.out HB3.out) (fun _ hf => Kd.F_mono hf (fun k_ hk => Nat.lt_of_lt_of_le hk HTS.out))) (Kd.V_reads' (Kd.V_below HP2.out HB3.out)).2.2 (Kd.N_reads' HN3.out).2.2 (Kd.N_reads' HN3.out).2.1 HCB.out).mono ?_); rintro e_ w10 ⟨vc, rfl, ho, hb⟩; rw [HOE.out] at ho; have HB8 := Aside0.mk (below_step (below_step HB2.out HB3.out) hb); have HT8 := Aside0.mk (Kd.V_mono (ok' := fun k_ => k_ < w10.heap.size) (Kd.V_bound (Kd.N_V (base' := 0) ho)) (fun k_ hk => hk.2)); clear ho hb)
          go_roundw
          case rel => exact ⟨i + 1, ⟨HLT.out⟩, by go_num, HB8, HT8⟩
          case measure => simp [intOf]; omega
    · have hc : decide (i < ls.length) = false := decide_eq_false hlt
      have hi : i = ls.length := by have := HI.out; omega
      subst hi
      go_wp2
      go_ret2
      exact ⟨_, rfl, Kd.V_mono HT.out (fun _ _ => trivial), HB.out⟩
def switchboardtop_lives.f : Option Bool := some true
theorem alloc_at {W : World} {g : Nat} (o : Obj) (h : g = W.heap.size) : (W.alloc o).heap[g]? = some o := by rw [h]; exact heap_alloc_new W o
def liveT (i : Nat) : List (List Int) := if i = 0 then [[7]] else [[14]]
theorem awakeForward : FwdS 60 1 [(⟨[[65536]], [(⟨[[65536]], [[65536]]⟩ : S33)], 1⟩ : S31)] liveT (fun _ => [(⟨0, 0, 0, 65536⟩ : S76)]) (fun _ _ => [7]) := by
  have one : ∀ i : Nat, i < [(⟨[[65536]], [(⟨[[65536]], [[65536]]⟩ : S33)], 1⟩ : S31)].length → i = 0 := fun i hi => by simpa using hi
  have two : ∀ j : Nat, j < [(⟨0, 0, 0, 65536⟩ : S76)].length → j = 0 := fun j hj => by simpa using hj
  refine ⟨by decide +kernel, by decide +kernel, fun i _ => by decide, fun i hi => ?_, fun i hi j hj => ?_, fun i hi j hj => ?_, fun i hi => ?_⟩
  · rw [one i hi]; kernel_rfl
  · rw [one i hi, two j hj]; decide +kernel
  · rw [one i hi, two j hj]; decide +kernel
  · rw [one i hi]
    refine ⟨liveT, ⟨by decide, by decide, by decide +kernel, fun j hj => ?_, fun j hj => ?_, fun j hj => ?_⟩, rfl⟩
    · unfold liveT
      split <;> rfl
    · rw [two j hj]; decide
    · rw [two j hj]
      exact ⟨[7], [14], by decide +kernel, by decide +kernel, by decide +kernel⟩
set_option maxHeartbeats 8000000 in
set_option maxRecDepth 100000 in
theorem switchboardtop_lives.calls (r : Bool) (w : World) (h : switchboardtop_lives.f = some r) : Calls Try.prog 8 #[] w fun e w' => e = .returned (.bool r) ∧ Below w.heap.size w w' := by
  obtain rfl := Option.some.inj h
  clear h
  have hu := Try.underlying24
  have hu2 := Try.underlying31
  have hu3 := Try.underlying33
  obtain ⟨W, hW⟩ : ∃ W : World, W = (((((((w.alloc (.cells #[.int .i64 65536] 3)).alloc (.cells #[.slice (some ⟨w.heap.size, 0, none⟩) 1 1] 54)).alloc (.cells #[.slice (some ⟨w.heap.size + 1, 0, none⟩) 1 1, .slice (some ⟨w.heap.size + 1, 0, none⟩) 1 1] 33)).alloc (.cells #[.slice (some ⟨w.heap.size + 1, 0, none⟩) 1 1, .slice (some ⟨w.heap.size + 1 + 1, 0, none⟩) 1 1, .int .i64 1] 31)).alloc (.cells #[.int .i64 1, .slice (some ⟨w.heap.size + 1 + 1 + 1, 0, none⟩) 1 1] 24)).alloc (.cells #[.int .i64 7] 3)).alloc (.cells #[.slice (some ⟨w.heap.size + 1 + 1 + 1 + 1 + 1, 0, none⟩) 1 1] 54)) := ⟨_, rfl⟩
  have hb0 : W.heap[w.heap.size]? = some (.cells [Value.int .i64 65536].toArray 3 (0, 0)) := by rw [hW]; exact blk_alloc (blk_alloc (blk_alloc (blk_alloc (blk_alloc (blk_alloc (alloc_at _ (by simp)) _) _) _) _) _) _
  have hb1 : W.heap[w.heap.size + 1]? = some (.cells [Value.slice (some ⟨w.heap.size, 0, none⟩) 1 1].toArray 54 (0, 0)) := by rw [hW]; exact blk_alloc (blk_alloc (blk_alloc (blk_alloc (blk_alloc (alloc_at _ (by simp)) _) _) _) _) _
  have hb2 : W.heap[w.heap.size + 1 + 1]? = some (.cells [Value.slice (some ⟨w.heap.size + 1, 0, none⟩) 1 1, .slice (some ⟨w.heap.size + 1, 0, none⟩) 1 1].toArray 33 (0, 0)) := by rw [hW]; exact blk_alloc (blk_alloc (blk_alloc (blk_alloc (alloc_at _ (by simp)) _) _) _) _
  have hb3 : W.heap[w.heap.size + 1 + 1 + 1]? = some (.cells [Value.slice (some ⟨w.heap.size + 1, 0, none⟩) 1 1, .slice (some ⟨w.heap.size + 1 + 1, 0, none⟩) 1 1, .int .i64 1].toArray 31 (0, 0)) := by rw [hW]; exact blk_alloc (blk_alloc (blk_alloc (alloc_at _ (by simp)) _) _) _
  have hb4 : W.heap[w.heap.size + 1 + 1 + 1 + 1]? = some (.cells [Value.int .i64 1, .slice (some ⟨w.heap.size + 1 + 1 + 1, 0, none⟩) 1 1].toArray 24 (0, 0)) := by rw [hW]; exact blk_alloc (blk_alloc (alloc_at _ (by simp)) _) _
  have hb5 : W.heap[w.heap.size + 1 + 1 + 1 + 1 + 1]? = some (.cells [Value.int .i64 7].toArray 3 (0, 0)) := by rw [hW]; exact blk_alloc (alloc_at _ (by simp)) _
  have hb6 : W.heap[w.heap.size + 1 + 1 + 1 + 1 + 1 + 1]? = some (.cells [Value.slice (some ⟨w.heap.size + 1 + 1 + 1 + 1 + 1, 0, none⟩) 1 1].toArray 54 (0, 0)) := by rw [hW]; exact alloc_at _ (by simp)
  have c0 : Kd.C (Kd.int .i64) W (some ⟨w.heap.size, 0, none⟩) 1 [65536] := C_one hb0 rfl rfl
  have c1 : Kd.C (Kd.slice 3 (Kd.int .i64)) W (some ⟨w.heap.size + 1, 0, none⟩) 1 [[65536]] := C_one hb1 ⟨_, _, rfl, Nat.le_refl _, c0⟩ rfl
  have c2 : Kd.C k33 W (some ⟨w.heap.size + 1 + 1, 0, none⟩) 1 [(⟨[[65536]], [[65536]]⟩ : S33)] := C_one hb2 (k33_mk W (⟨[[65536]], [[65536]]⟩ : S33) (Nat.le_refl _) c1 (Nat.le_refl _) c1) rfl
  have c3 : Kd.C k31 W (some ⟨w.heap.size + 1 + 1 + 1, 0, none⟩) 1 [(⟨[[65536]], [(⟨[[65536]], [[65536]]⟩ : S33)], 1⟩ : S31)] := C_one hb3 (k31_mk W (⟨[[65536]], [(⟨[[65536]], [[65536]]⟩ : S33)], 1⟩ : S31) (Nat.le_refl _) c1 (Nat.le_refl _) c2) rfl
  have c5 : Kd.C (Kd.int .i64) W (some ⟨w.heap.size + 1 + 1 + 1 + 1 + 1, 0, none⟩) 1 [7] := C_one hb5 rfl rfl
  have c6 : Kd.C (Kd.slice 3 (Kd.int .i64)) W (some ⟨w.heap.size + 1 + 1 + 1 + 1 + 1 + 1, 0, none⟩) 1 [[7]] := C_one hb6 ⟨_, _, rfl, Nat.le_refl _, c5⟩ rfl
  have HWB : Aside0 (Below w.heap.size w W) := ⟨by rw [hW]; exact below_alloc (below_alloc (below_alloc (below_alloc (below_alloc (below_alloc (below_alloc (Below.refl _ _) _) _) _) _) _) _) _⟩
  have HWB2 := hW
  have K1 : Aside0 (Calls Try.prog 13 #[.agg #[.int .i64 1, .slice (some ⟨w.heap.size + 1 + 1 + 1, 0, none⟩) 1 1], .slice (some ⟨w.heap.size + 1 + 1 + 1 + 1 + 1 + 1, 0, none⟩) 1 1] W fun e w' => ∃ v0_ : Value, e = .returned (.tuple #[v0_, .int .i64 0]) ∧ Kd.V (Kd.slice 3 (Kd.int .i64)) 54 w' 0 (fun _ => True) v0_ [[14]] ∧ Below W.heap.size W w') := ⟨model_Forward.told 60 1 _ 1 [(⟨[[65536]], [(⟨[[65536]], [[65536]]⟩ : S33)], 1⟩ : S31)] liveT _ _ _ 1 W c3 (Nat.le_refl _) c6 (Nat.le_refl _) awakeForward⟩
  have HW := Aside0.mk hW
  clear hb0 hb1 hb2 hb3 hb4 hb5 hb6 c0 c1 c2 c3 c5 c6 HWB2 hW
  go_enter Try.func8, Try.ntmps8
  go_wp2_with (go_at_call 13; rw [← HW.out]; refine K1.out.mono ?_; rintro e w1 ⟨v1, rfl, hv, hb⟩; obtain ⟨A1, c1, rfl⟩ := Kd.V_slice hv; have HV := Aside0.mk hv; have HB1 := Aside0.mk hb; obtain ⟨ad1, A2, c2, rfl, hx1, hl2, hi2⟩ := at_L1 (Kd.V_reads' HV.out).2.2 0 (by omega) (by decide); obtain ⟨ad2, rfl, hx2⟩ := Kd.at_int hi2 0 (by omega) (by decide); replace hx1 : w1.cell? ad1 = some (.slice (some ad2) 1 c2) := hx1; replace hx2 : w1.cell? ad2 = some (.int .i64 14) := hx2; clear hv hb hl2 hi2)
  go_ret
  exact ⟨rfl, below_step HWB.out HB1.out⟩
end Go.Proofs.Ytfipiohchnaglaa.Pu
