/- A fleet makes the same tokens of a batch over any two right maps of who holds which expert (past 5 layers of 9 experts, 30 rows of 30 numbers, and where the batch may not go out over one of the maps, the fixed answer alone): the law returns true at every input. No condition. (The row over the contract, laid by wip/orow.py.) -/
import Derived.Test.YtfipiohchnaglaaRows
import Derived.Test.YtfipiohchnaglaaPuHf
import Derived.Test.YtfipiohchnaglaaPureTopMaps
import Derived.Test.YtfipiohchnaglaaOpen
import Derived.Test.YtfipiohchnaglaaWSized
import Derived.WalkKit
import Derived.ProofKit
import Derived.OpenShut
import Derived.ShutString
import Derived.ChangeOld
import Derived.Below
import Derived.SizedLaws
namespace Go.Proofs.Ytfipiohchnaglaa.topMaps
open Go.ChangeShapes Go.WideShapes Go.ChangeAt Go.RowKit
open Go.ChangeMaps (open_string shut_string)
open Go.Proofs.Ytfipiohchnaglaa.Pu Go.Proofs.YtfipiohchnaglaaW.PrintWords
set_option linter.unusedVariables false
set_option maxRecDepth 100000
theorem own : ownKnob Try.prog.godebug = none := by kernel_rfl
theorem laidOut : laidOutB Try.prog = true := by kernel_rfl
theorem opens_k33 : Open.Opens Try.prog 33 k33 (fun x => (x.f0.length ≤ maxLen ∧ ∀ y2 ∈ x.f0, y2.length ≤ maxLen ∧ ∀ y1 ∈ y2, (Lit.int .i64 y1).wf = true) ∧ (x.f1.length ≤ maxLen ∧ ∀ y2 ∈ x.f1, y2.length ≤ maxLen ∧ ∀ y1 ∈ y2, (Lit.int .i64 y1).wf = true)) := by
  intro H enc w base spare held fuel cs x h
  obtain ⟨xs, n, _, _, hl, hlen, hf⟩ := DataW.trod_struct Try.underlying33 h
  have hl' : cs.length = 2 := hl
  have e0 := hf 0 _ rfl
  rw [List.getElem?_eq_getElem (by rw [hlen]; exact (by decide : 0 < 2))] at e0
  obtain ⟨y0, h0, g0⟩ := (Open.opens_slice Try.underlying25 (by kernel_rfl) (Open.opens_slice Try.underlying54 (by kernel_rfl) (Open.opens_int Try.underlying3))) enc w base spare held n _ _ e0
  replace h0 : (Kd.slice 54 (Kd.slice 3 (Kd.int .i64))).K w y0 ((cs.drop 0).take 1) := h0
  have e1 := hf 1 _ rfl
  rw [List.getElem?_eq_getElem (by rw [hlen]; exact (by decide : 1 < 2))] at e1
  obtain ⟨y1, h1, g1⟩ := (Open.opens_slice Try.underlying25 (by kernel_rfl) (Open.opens_slice Try.underlying54 (by kernel_rfl) (Open.opens_int Try.underlying3))) enc w base spare held n _ _ e1
  replace h1 : (Kd.slice 54 (Kd.slice 3 (Kd.int .i64))).K w y1 ((cs.drop 1).take 1) := h1
  have hw : cs = (cs.drop 0).take 1 ++ ((cs.drop 1).take 1) := by
    match cs, hl' with
    | [c0, c1], _ => rfl
  refine ⟨⟨y0, y1⟩, ?_, g0, g1⟩
  show (k33).K w _ cs
  rw [hw]
  exact ⟨_, _, rfl, h0, h1⟩
theorem opens_k31 : Open.Opens Try.prog 31 k31 (fun x => (x.f0.length ≤ maxLen ∧ ∀ y2 ∈ x.f0, y2.length ≤ maxLen ∧ ∀ y1 ∈ y2, (Lit.int .i64 y1).wf = true) ∧ (x.f1.length ≤ maxLen ∧ ∀ y4 ∈ x.f1, (y4.f0.length ≤ maxLen ∧ ∀ y2 ∈ y4.f0, y2.length ≤ maxLen ∧ ∀ y1 ∈ y2, (Lit.int .i64 y1).wf = true) ∧ (y4.f1.length ≤ maxLen ∧ ∀ y2 ∈ y4.f1, y2.length ≤ maxLen ∧ ∀ y1 ∈ y2, (Lit.int .i64 y1).wf = true)) ∧ ((Lit.int .i64 x.f2).wf = true)) := by
  intro H enc w base spare held fuel cs x h
  obtain ⟨xs, n, _, _, hl, hlen, hf⟩ := DataW.trod_struct Try.underlying31 h
  have hl' : cs.length = 3 := hl
  have e0 := hf 0 _ rfl
  rw [List.getElem?_eq_getElem (by rw [hlen]; exact (by decide : 0 < 3))] at e0
  obtain ⟨y0, h0, g0⟩ := (Open.opens_slice Try.underlying25 (by kernel_rfl) (Open.opens_slice Try.underlying54 (by kernel_rfl) (Open.opens_int Try.underlying3))) enc w base spare held n _ _ e0
  replace h0 : (Kd.slice 54 (Kd.slice 3 (Kd.int .i64))).K w y0 ((cs.drop 0).take 1) := h0
  have e1 := hf 1 _ rfl
  rw [List.getElem?_eq_getElem (by rw [hlen]; exact (by decide : 1 < 3))] at e1
  obtain ⟨y1, h1, g1⟩ := (Open.opens_slice Try.underlying29 (by kernel_rfl) opens_k33) enc w base spare held n _ _ e1
  replace h1 : (Kd.slice 33 k33).K w y1 ((cs.drop 1).take 1) := h1
  have e2 := hf 2 _ rfl
  rw [List.getElem?_eq_getElem (by rw [hlen]; exact (by decide : 2 < 3))] at e2
  obtain ⟨y2, h2, g2⟩ := (Open.opens_int Try.underlying3) enc w base spare held n _ _ e2
  replace h2 : (Kd.int .i64).K w y2 ((cs.drop 2).take 1) := h2
  have hw : cs = (cs.drop 0).take 1 ++ ((cs.drop 1).take 1 ++ ((cs.drop 2).take 1)) := by
    match cs, hl' with
    | [c0, c1, c2], _ => rfl
  refine ⟨⟨y0, y1, y2⟩, ?_, g0, g1, g2⟩
  show (k31).K w _ cs
  rw [hw]
  exact ⟨_, _, rfl, h0, ⟨_, _, rfl, h1, h2⟩⟩
theorem opens_p24 : Open.Opens Try.prog 24 (Kd.pair (Kd.int .i64) (Kd.slice 31 k31)) (fun x => ((Lit.int .i64 x.1).wf = true) ∧ (x.2.length ≤ maxLen ∧ ∀ y6 ∈ x.2, (y6.f0.length ≤ maxLen ∧ ∀ y2 ∈ y6.f0, y2.length ≤ maxLen ∧ ∀ y1 ∈ y2, (Lit.int .i64 y1).wf = true) ∧ (y6.f1.length ≤ maxLen ∧ ∀ y4 ∈ y6.f1, (y4.f0.length ≤ maxLen ∧ ∀ y2 ∈ y4.f0, y2.length ≤ maxLen ∧ ∀ y1 ∈ y2, (Lit.int .i64 y1).wf = true) ∧ (y4.f1.length ≤ maxLen ∧ ∀ y2 ∈ y4.f1, y2.length ≤ maxLen ∧ ∀ y1 ∈ y2, (Lit.int .i64 y1).wf = true)) ∧ ((Lit.int .i64 y6.f2).wf = true))) := by
  intro H enc w base spare held fuel cs x h
  obtain ⟨xs, n, _, _, hl, hlen, hf⟩ := DataW.trod_struct Try.underlying24 h
  have hl' : cs.length = 2 := hl
  have e0 := hf 0 _ rfl
  rw [List.getElem?_eq_getElem (by rw [hlen]; exact (by decide : 0 < 2))] at e0
  obtain ⟨y0, h0, g0⟩ := (Open.opens_int Try.underlying3) enc w base spare held n _ _ e0
  replace h0 : (Kd.int .i64).K w y0 ((cs.drop 0).take 1) := h0
  have e1 := hf 1 _ rfl
  rw [List.getElem?_eq_getElem (by rw [hlen]; exact (by decide : 1 < 2))] at e1
  obtain ⟨y1, h1, g1⟩ := (Open.opens_slice Try.underlying22 (by kernel_rfl) opens_k31) enc w base spare held n _ _ e1
  replace h1 : (Kd.slice 31 k31).K w y1 ((cs.drop 1).take 1) := h1
  have hw : cs = (cs.drop 0).take 1 ++ ((cs.drop 1).take 1) := by
    match cs, hl' with
    | [c0, c1], _ => rfl
  refine ⟨⟨y0, y1⟩, ?_, g0, g1⟩
  show ((Kd.pair (Kd.int .i64) (Kd.slice 31 k31))).K w _ cs
  rw [hw]
  exact ⟨_, _, rfl, h0, h1⟩
theorem opens_p48 : Open.Opens Try.prog 48 (Kd.pair (Kd.int .i64) (Kd.slice 54 (Kd.slice 3 (Kd.int .i64)))) (fun x => ((Lit.int .i64 x.1).wf = true) ∧ (x.2.length ≤ maxLen ∧ ∀ y2 ∈ x.2, y2.length ≤ maxLen ∧ ∀ y1 ∈ y2, (Lit.int .i64 y1).wf = true)) := by
  intro H enc w base spare held fuel cs x h
  obtain ⟨xs, n, _, _, hl, hlen, hf⟩ := DataW.trod_struct Try.underlying48 h
  have hl' : cs.length = 2 := hl
  have e0 := hf 0 _ rfl
  rw [List.getElem?_eq_getElem (by rw [hlen]; exact (by decide : 0 < 2))] at e0
  obtain ⟨y0, h0, g0⟩ := (Open.opens_int Try.underlying3) enc w base spare held n _ _ e0
  replace h0 : (Kd.int .i64).K w y0 ((cs.drop 0).take 1) := h0
  have e1 := hf 1 _ rfl
  rw [List.getElem?_eq_getElem (by rw [hlen]; exact (by decide : 1 < 2))] at e1
  obtain ⟨y1, h1, g1⟩ := (Open.opens_slice Try.underlying25 (by kernel_rfl) (Open.opens_slice Try.underlying54 (by kernel_rfl) (Open.opens_int Try.underlying3))) enc w base spare held n _ _ e1
  replace h1 : (Kd.slice 54 (Kd.slice 3 (Kd.int .i64))).K w y1 ((cs.drop 1).take 1) := h1
  have hw : cs = (cs.drop 0).take 1 ++ ((cs.drop 1).take 1) := by
    match cs, hl' with
    | [c0, c1], _ => rfl
  refine ⟨⟨y0, y1⟩, ?_, g0, g1⟩
  show ((Kd.pair (Kd.int .i64) (Kd.slice 54 (Kd.slice 3 (Kd.int .i64))))).K w _ cs
  rw [hw]
  exact ⟨_, _, rfl, h0, h1⟩
set_option maxRecDepth 100000 in
theorem lifted (os : Os) (started : os.Started) (H : Type) (enc : TypeId × Value → H) :
    ReturnsInHanded {} Try.checked os 4 .any (Rows.topMapsSpec.pre6 enc Try.prog Try.f4 Rows.topMapsRow.domain false) (Rows.topMapsSpec.post enc Try.prog Try.f4 false true false false) := by
  refine returnsInHanded_of_change_sized (C := Try.checked) own started (by kernel_rfl) Try.func4
    (ChangeSpec.witness6 (enc := enc) (C := Try.checked) false ⟨#[], #[.agg #[.int .i64 0, .slice none 0 0], .agg #[.int .i64 0, .slice none 0 0], .agg #[.int .i64 0, .slice none 0 0], .slice none 0 0], []⟩ 8 (by kernel_rfl) (by kernel_rfl) (by kernel_rfl) (by kernel_rfl)) ?_
  intro W base args ds gs before hval0 hW hcnd hsz0 _
  have hsz : (DataW.weightsEach Try.prog (Try.f4.params.toList ++ Rows.topMapsSpec.plain.varTypes Try.prog) (ds ++ gs)).all (· ≤ reachBytes) = true := hsz0
  have hval : ∀ (j : Nat) t v, Try.f4.params[j]? = some t → args[j]? = some v → Value.okWide Try.prog W .any base t v := hval0
  have hW' := hW
  obtain ⟨p, q, hA0, hV, rfl, hfz, hnd⟩ := hW
  have hA : DataW.TrodAll enc Try.prog W 0 (fun _ => true) true Try.f4.params.toList args.toList ds p := hA0
  rw [Try.params4] at hA hval hsz
  obtain ⟨v0, vs0, d0, ds0, p0, q0, hargs, rfl, rfl, h0, r0⟩ := trodAll_cons hA
  obtain ⟨v1, vs1, d1, ds1, p1, q1, rfl, rfl, rfl, h1, r1⟩ := trodAll_cons r0
  obtain ⟨v2, vs2, d2, ds2, p2, q2, rfl, rfl, rfl, h2, r2⟩ := trodAll_cons r1
  obtain ⟨v3, vs3, d3, ds3, p3, q3, rfl, rfl, rfl, h3, r3⟩ := trodAll_cons r2
  obtain ⟨rfl, rfl, rfl⟩ := trodAll_nil r3
  obtain rfl : args = #[v0, v1, v2, v3] := by cases args; simp_all
  obtain ⟨rfl, rfl⟩ := trodVars_none hV
  obtain ⟨ag0, rfl, hs0⟩ := okWide_struct Try.underlying24 (hval 0 24 v0 rfl rfl)
  have k0 := h0
  have lt0 : ∀ x ∈ p0, x.block < W.heap.size := by obtain ⟨m, hm⟩ := k0; exact DataW.trod_lt m _ _ _ hm
  obtain ⟨x0, hk0, hg0⟩ : ∃ x, (Kd.pair (Kd.int .i64) (Kd.slice 31 k31)).K W x ag0.toList ∧ ((Lit.int .i64 x.1).wf = true) ∧ (x.2.length ≤ maxLen ∧ ∀ y6 ∈ x.2, (y6.f0.length ≤ maxLen ∧ ∀ y2 ∈ y6.f0, y2.length ≤ maxLen ∧ ∀ y1 ∈ y2, (Lit.int .i64 y1).wf = true) ∧ (y6.f1.length ≤ maxLen ∧ ∀ y4 ∈ y6.f1, (y4.f0.length ≤ maxLen ∧ ∀ y2 ∈ y4.f0, y2.length ≤ maxLen ∧ ∀ y1 ∈ y2, (Lit.int .i64 y1).wf = true) ∧ (y4.f1.length ≤ maxLen ∧ ∀ y2 ∈ y4.f1, y2.length ≤ maxLen ∧ ∀ y1 ∈ y2, (Lit.int .i64 y1).wf = true)) ∧ ((Lit.int .i64 y6.f2).wf = true)) := by
    obtain ⟨fuel, hf⟩ := h0
    exact opens_p24 enc W 0 (fun _ => true) true fuel _ _ hf
  obtain ⟨g0_0, g0_1⟩ := hg0
  obtain ⟨b0_0, t0_0, hag0, hb0_0, ht0_0⟩ := hk0
  obtain rfl := hb0_0
  obtain ⟨A0_1, c0_1, rfl, hc0_1, hr0_1⟩ := ht0_0
  obtain rfl : ag0 = #[.int .i64 x0.1, .slice A0_1 (x0.2).length c0_1] := Array.toList_inj.mp hag0
  obtain ⟨a0_0, l0_1⟩ := x0
  obtain ⟨ag1, rfl, hs1⟩ := okWide_struct Try.underlying48 (hval 1 48 v1 rfl rfl)
  have k1 := h1
  have lt1 : ∀ x ∈ p1, x.block < W.heap.size := by obtain ⟨m, hm⟩ := k1; exact DataW.trod_lt m _ _ _ hm
  obtain ⟨x1, hk1, hg1⟩ : ∃ x, (Kd.pair (Kd.int .i64) (Kd.slice 54 (Kd.slice 3 (Kd.int .i64)))).K W x ag1.toList ∧ ((Lit.int .i64 x.1).wf = true) ∧ (x.2.length ≤ maxLen ∧ ∀ y2 ∈ x.2, y2.length ≤ maxLen ∧ ∀ y1 ∈ y2, (Lit.int .i64 y1).wf = true) := by
    obtain ⟨fuel, hf⟩ := h1
    exact opens_p48 enc W 0 (fun _ => true) true fuel _ _ hf
  obtain ⟨g1_0, g1_1⟩ := hg1
  obtain ⟨b1_0, t1_0, hag1, hb1_0, ht1_0⟩ := hk1
  obtain rfl := hb1_0
  obtain ⟨A1_1, c1_1, rfl, hc1_1, hr1_1⟩ := ht1_0
  obtain rfl : ag1 = #[.int .i64 x1.1, .slice A1_1 (x1.2).length c1_1] := Array.toList_inj.mp hag1
  obtain ⟨a1_0, l1_1⟩ := x1
  obtain ⟨ag2, rfl, hs2⟩ := okWide_struct Try.underlying48 (hval 2 48 v2 rfl rfl)
  have k2 := h2
  have lt2 : ∀ x ∈ p2, x.block < W.heap.size := by obtain ⟨m, hm⟩ := k2; exact DataW.trod_lt m _ _ _ hm
  obtain ⟨x2, hk2, hg2⟩ : ∃ x, (Kd.pair (Kd.int .i64) (Kd.slice 54 (Kd.slice 3 (Kd.int .i64)))).K W x ag2.toList ∧ ((Lit.int .i64 x.1).wf = true) ∧ (x.2.length ≤ maxLen ∧ ∀ y2 ∈ x.2, y2.length ≤ maxLen ∧ ∀ y1 ∈ y2, (Lit.int .i64 y1).wf = true) := by
    obtain ⟨fuel, hf⟩ := h2
    exact opens_p48 enc W 0 (fun _ => true) true fuel _ _ hf
  obtain ⟨g2_0, g2_1⟩ := hg2
  obtain ⟨b2_0, t2_0, hag2, hb2_0, ht2_0⟩ := hk2
  obtain rfl := hb2_0
  obtain ⟨A2_1, c2_1, rfl, hc2_1, hr2_1⟩ := ht2_0
  obtain rfl : ag2 = #[.int .i64 x2.1, .slice A2_1 (x2.2).length c2_1] := Array.toList_inj.mp hag2
  obtain ⟨a2_0, l2_1⟩ := x2
  obtain ⟨a3, len3, cap3, rfl⟩ := okWide_slice Try.underlying25 (hval 3 25 v3 rfl rfl)
  have k3 := h3
  have lt3 : ∀ x ∈ p3, x.block < W.heap.size := by obtain ⟨m, hm⟩ := k3; exact DataW.trod_lt m _ _ _ hm
  obtain ⟨l3, rfl, hc3, hm3, hr3, hg3⟩ := Open.slice_came Try.underlying25 (by kernel_rfl) (Open.opens_slice Try.underlying54 (by kernel_rfl) (Open.opens_int Try.underlying3)) h3
  clear hA0 hval0 hsz0 hsz
  obtain ⟨k, hk⟩ := Pure.TopMaps a0_0 l0_1 a1_0 l1_1 a2_0 l2_1 l3 g0_0 g0_1 g1_0 g1_1 g2_0 g2_1 hm3 hg3
  refine (switchboardtop_TopMaps.calls k a0_0 _ _ l0_1 a1_0 _ _ l1_1 a2_0 _ _ l2_1 _ _ l3 W hr0_1 hc0_1 hr1_1 hc1_1 hr2_1 hc2_1 hr3 hc3 hk).mono ?_
  rintro e W' ⟨rfl, bel⟩
  exact ⟨_, rfl, _, _, _, [], _, [], hW', trodAll_mk1 (shut_bool Try.underlying4 _), (trodAll_cons_mk (Below.trod laidOut (by kernel_rfl) (of_decide_eq_true (by kernel_rfl)) k0 bel lt0) (trodAll_cons_mk (Below.trod laidOut (by kernel_rfl) (of_decide_eq_true (by kernel_rfl)) k1 bel lt1) (trodAll_cons_mk (Below.trod laidOut (by kernel_rfl) (of_decide_eq_true (by kernel_rfl)) k2 bel lt2) (trodAll_cons_mk (Below.trod laidOut (by kernel_rfl) (of_decide_eq_true (by kernel_rfl)) k3 bel lt3) trodAll_mk0)))), rfl, bel.frame _, fun h => by cases h⟩
theorem over : Rows.topMapsRow.holds Try.pinned (OpenSpec.ofChange Rows.topMapsSpec) :=
  OpenClaim.holds_of_wide 4 Try.f4 rfl rfl rfl rfl rfl rfl rfl ⟨rfl, rfl, rfl, rfl, rfl⟩ rfl rfl rfl rfl rfl (by kernel_rfl) Try.func4 (by kernel_rfl)
    (of_decide_eq_true (by kernel_rfl)) (by unfold Func.isWrapper; first | (rw [if_pos (by decide +kernel)]; kernel_rfl) | (rw [if_neg (by decide +kernel)]; exact ⟨rfl, rfl⟩))
    (fun os started H enc _ => lifted os started H enc)
theorem proved : Rows.TopMapsSaid := over
#print axioms proved
end Go.Proofs.Ytfipiohchnaglaa.topMaps
