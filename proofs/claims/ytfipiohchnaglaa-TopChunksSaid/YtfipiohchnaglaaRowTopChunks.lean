/- A model whose experts went out in pieces, and came together again, makes the same of tokens (past 5 layers of 9 experts, 30 rows of 30 numbers the fixed answer alone): the law returns true at every input. No condition. (The row over the contract, laid by wip/orow.py.) -/
import Derived.Test.YtfipiohchnaglaaRows
import Derived.Test.YtfipiohchnaglaaPtZ
import Derived.Test.YtfipiohchnaglaaPureTopChunks
import Derived.Test.YtfipiohchnaglaaOpen
import Derived.Test.YtfipiohchnaglaaWSized
import Derived.WalkKit
import Derived.ProofKit
import Derived.OpenShut
import Derived.ShutString
import Derived.ChangeOld
import Derived.Below
import Derived.SizedLaws
namespace Go.Proofs.Ytfipiohchnaglaa.topChunks
open Go.ChangeShapes Go.WideShapes Go.ChangeAt Go.RowKit
open Go.ChangeMaps (open_string shut_string)
open Go.Proofs.Ytfipiohchnaglaa.Pt Go.Proofs.YtfipiohchnaglaaW.PrintWords
set_option linter.unusedVariables false
set_option maxRecDepth 100000
theorem own : ownKnob Try.prog.godebug = none := by kernel_rfl
theorem laidOut : laidOutB Try.prog = true := by kernel_rfl
theorem opens_k33 : Open.Opens Try.prog 33 k33 (fun x => (x.f0.length ≤ maxLen ∧ ∀ y2 ∈ x.f0, y2.length ≤ maxLen ∧ ∀ y1 ∈ y2, (Lit.int .i64 y1).wf = true) ∧ (x.f1.length ≤ maxLen ∧ ∀ y2 ∈ x.f1, y2.length ≤ maxLen ∧ ∀ y1 ∈ y2, (Lit.int .i64 y1).wf = true)) := by
  intro H enc w base spare held fuel cs x h
  obtain ⟨xs, n, _, _, hl, hlen, hf⟩ := DataW.trod_struct Try.underlying33 h
  have hl' : cs.length = 2 := hl
  have e0 := hf 0 _ rfl
  rw [List.getElem?_eq_getElem (by rw [hlen]; exact (by decide : 0 < 2))] at e0
  obtain ⟨y0, h0, g0⟩ := (Open.opens_slice Try.underlying25 (by kernel_rfl) (Open.opens_slice Try.underlying54 (by kernel_rfl) (Open.opens_int Try.underlying3))) enc w base spare held n _ _ e0
  replace h0 : (Kd.slice 54 (Kd.slice 3 (Kd.int .i64))).K w y0 ((cs.drop 0).take 1) := h0
  have e1 := hf 1 _ rfl
  rw [List.getElem?_eq_getElem (by rw [hlen]; exact (by decide : 1 < 2))] at e1
  obtain ⟨y1, h1, g1⟩ := (Open.opens_slice Try.underlying25 (by kernel_rfl) (Open.opens_slice Try.underlying54 (by kernel_rfl) (Open.opens_int Try.underlying3))) enc w base spare held n _ _ e1
  replace h1 : (Kd.slice 54 (Kd.slice 3 (Kd.int .i64))).K w y1 ((cs.drop 1).take 1) := h1
  have hw : cs = (cs.drop 0).take 1 ++ ((cs.drop 1).take 1) := by
    match cs, hl' with
    | [c0, c1], _ => rfl
  refine ⟨⟨y0, y1⟩, ?_, g0, g1⟩
  show (k33).K w _ cs
  rw [hw]
  exact ⟨_, _, rfl, h0, h1⟩
theorem opens_k31 : Open.Opens Try.prog 31 k31 (fun x => (x.f0.length ≤ maxLen ∧ ∀ y2 ∈ x.f0, y2.length ≤ maxLen ∧ ∀ y1 ∈ y2, (Lit.int .i64 y1).wf = true) ∧ (x.f1.length ≤ maxLen ∧ ∀ y4 ∈ x.f1, (y4.f0.length ≤ maxLen ∧ ∀ y2 ∈ y4.f0, y2.length ≤ maxLen ∧ ∀ y1 ∈ y2, (Lit.int .i64 y1).wf = true) ∧ (y4.f1.length ≤ maxLen ∧ ∀ y2 ∈ y4.f1, y2.length ≤ maxLen ∧ ∀ y1 ∈ y2, (Lit.int .i64 y1).wf = true)) ∧ ((Lit.int .i64 x.f2).wf = true)) := by
  intro H enc w base spare held fuel cs x h
  obtain ⟨xs, n, _, _, hl, hlen, hf⟩ := DataW.trod_struct Try.underlying31 h
  have hl' : cs.length = 3 := hl
  have e0 := hf 0 _ rfl
  rw [List.getElem?_eq_getElem (by rw [hlen]; exact (by decide : 0 < 3))] at e0
  obtain ⟨y0, h0, g0⟩ := (Open.opens_slice Try.underlying25 (by kernel_rfl) (Open.opens_slice Try.underlying54 (by kernel_rfl) (Open.opens_int Try.underlying3))) enc w base spare held n _ _ e0
  replace h0 : (Kd.slice 54 (Kd.slice 3 (Kd.int .i64))).K w y0 ((cs.drop 0).take 1) := h0
  have e1 := hf 1 _ rfl
  rw [List.getElem?_eq_getElem (by rw [hlen]; exact (by decide : 1 < 3))] at e1
  obtain ⟨y1, h1, g1⟩ := (Open.opens_slice Try.underlying29 (by kernel_rfl) opens_k33) enc w base spare held n _ _ e1
  replace h1 : (Kd.slice 33 k33).K w y1 ((cs.drop 1).take 1) := h1
  have e2 := hf 2 _ rfl
  rw [List.getElem?_eq_getElem (by rw [hlen]; exact (by decide : 2 < 3))] at e2
  obtain ⟨y2, h2, g2⟩ := (Open.opens_int Try.underlying3) enc w base spare held n _ _ e2
  replace h2 : (Kd.int .i64).K w y2 ((cs.drop 2).take 1) := h2
  have hw : cs = (cs.drop 0).take 1 ++ ((cs.drop 1).take 1 ++ ((cs.drop 2).take 1)) := by
    match cs, hl' with
    | [c0, c1, c2], _ => rfl
  refine ⟨⟨y0, y1, y2⟩, ?_, g0, g1, g2⟩
  show (k31).K w _ cs
  rw [hw]
  exact ⟨_, _, rfl, h0, ⟨_, _, rfl, h1, h2⟩⟩
theorem opens_p24 : Open.Opens Try.prog 24 (Kd.pair (Kd.int .i64) (Kd.slice 31 k31)) (fun x => ((Lit.int .i64 x.1).wf = true) ∧ (x.2.length ≤ maxLen ∧ ∀ y6 ∈ x.2, (y6.f0.length ≤ maxLen ∧ ∀ y2 ∈ y6.f0, y2.length ≤ maxLen ∧ ∀ y1 ∈ y2, (Lit.int .i64 y1).wf = true) ∧ (y6.f1.length ≤ maxLen ∧ ∀ y4 ∈ y6.f1, (y4.f0.length ≤ maxLen ∧ ∀ y2 ∈ y4.f0, y2.length ≤ maxLen ∧ ∀ y1 ∈ y2, (Lit.int .i64 y1).wf = true) ∧ (y4.f1.length ≤ maxLen ∧ ∀ y2 ∈ y4.f1, y2.length ≤ maxLen ∧ ∀ y1 ∈ y2, (Lit.int .i64 y1).wf = true)) ∧ ((Lit.int .i64 y6.f2).wf = true))) := by
  intro H enc w base spare held fuel cs x h
  obtain ⟨xs, n, _, _, hl, hlen, hf⟩ := DataW.trod_struct Try.underlying24 h
  have hl' : cs.length = 2 := hl
  have e0 := hf 0 _ rfl
  rw [List.getElem?_eq_getElem (by rw [hlen]; exact (by decide : 0 < 2))] at e0
  obtain ⟨y0, h0, g0⟩ := (Open.opens_int Try.underlying3) enc w base spare held n _ _ e0
  replace h0 : (Kd.int .i64).K w y0 ((cs.drop 0).take 1) := h0
  have e1 := hf 1 _ rfl
  rw [List.getElem?_eq_getElem (by rw [hlen]; exact (by decide : 1 < 2))] at e1
  obtain ⟨y1, h1, g1⟩ := (Open.opens_slice Try.underlying22 (by kernel_rfl) opens_k31) enc w base spare held n _ _ e1
  replace h1 : (Kd.slice 31 k31).K w y1 ((cs.drop 1).take 1) := h1
  have hw : cs = (cs.drop 0).take 1 ++ ((cs.drop 1).take 1) := by
    match cs, hl' with
    | [c0, c1], _ => rfl
  refine ⟨⟨y0, y1⟩, ?_, g0, g1⟩
  show ((Kd.pair (Kd.int .i64) (Kd.slice 31 k31))).K w _ cs
  rw [hw]
  exact ⟨_, _, rfl, h0, h1⟩
set_option maxRecDepth 100000 in
theorem lifted (os : Os) (started : os.Started) (H : Type) (enc : TypeId × Value → H) :
    ReturnsInHanded {} Try.checked os 3 .any (Rows.topChunksSpec.pre6 enc Try.prog Try.f3 Rows.topChunksRow.domain false) (Rows.topChunksSpec.post enc Try.prog Try.f3 false true false false) := by
  refine returnsInHanded_of_change_sized (C := Try.checked) own started (by kernel_rfl) Try.func3
    (ChangeSpec.witness6 (enc := enc) (C := Try.checked) false ⟨#[], #[.agg #[.int .i64 0, .slice none 0 0], .slice none 0 0, .int .u8 0], []⟩ 8 (by kernel_rfl) (by kernel_rfl) (by kernel_rfl) (by kernel_rfl)) ?_
  intro W base args ds gs before hval0 hW hcnd hsz0 _
  have hsz : (DataW.weightsEach Try.prog (Try.f3.params.toList ++ Rows.topChunksSpec.plain.varTypes Try.prog) (ds ++ gs)).all (· ≤ reachBytes) = true := hsz0
  have hval : ∀ (j : Nat) t v, Try.f3.params[j]? = some t → args[j]? = some v → Value.okWide Try.prog W .any base t v := hval0
  have hW' := hW
  obtain ⟨p, q, hA0, hV, rfl, hfz, hnd⟩ := hW
  have hA : DataW.TrodAll enc Try.prog W 0 (fun _ => true) true Try.f3.params.toList args.toList ds p := hA0
  rw [Try.params3] at hA hval hsz
  obtain ⟨v0, vs0, d0, ds0, p0, q0, hargs, rfl, rfl, h0, r0⟩ := trodAll_cons hA
  obtain ⟨v1, vs1, d1, ds1, p1, q1, rfl, rfl, rfl, h1, r1⟩ := trodAll_cons r0
  obtain ⟨v2, vs2, d2, ds2, p2, q2, rfl, rfl, rfl, h2, r2⟩ := trodAll_cons r1
  obtain ⟨rfl, rfl, rfl⟩ := trodAll_nil r2
  obtain rfl : args = #[v0, v1, v2] := by cases args; simp_all
  obtain ⟨rfl, rfl⟩ := trodVars_none hV
  obtain ⟨ag0, rfl, hs0⟩ := okWide_struct Try.underlying24 (hval 0 24 v0 rfl rfl)
  have k0 := h0
  have lt0 : ∀ x ∈ p0, x.block < W.heap.size := by obtain ⟨m, hm⟩ := k0; exact DataW.trod_lt m _ _ _ hm
  obtain ⟨x0, hk0, hg0⟩ : ∃ x, (Kd.pair (Kd.int .i64) (Kd.slice 31 k31)).K W x ag0.toList ∧ ((Lit.int .i64 x.1).wf = true) ∧ (x.2.length ≤ maxLen ∧ ∀ y6 ∈ x.2, (y6.f0.length ≤ maxLen ∧ ∀ y2 ∈ y6.f0, y2.length ≤ maxLen ∧ ∀ y1 ∈ y2, (Lit.int .i64 y1).wf = true) ∧ (y6.f1.length ≤ maxLen ∧ ∀ y4 ∈ y6.f1, (y4.f0.length ≤ maxLen ∧ ∀ y2 ∈ y4.f0, y2.length ≤ maxLen ∧ ∀ y1 ∈ y2, (Lit.int .i64 y1).wf = true) ∧ (y4.f1.length ≤ maxLen ∧ ∀ y2 ∈ y4.f1, y2.length ≤ maxLen ∧ ∀ y1 ∈ y2, (Lit.int .i64 y1).wf = true)) ∧ ((Lit.int .i64 y6.f2).wf = true)) := by
    obtain ⟨fuel, hf⟩ := h0
    exact opens_p24 enc W 0 (fun _ => true) true fuel _ _ hf
  obtain ⟨g0_0, g0_1⟩ := hg0
  obtain ⟨b0_0, t0_0, hag0, hb0_0, ht0_0⟩ := hk0
  obtain rfl := hb0_0
  obtain ⟨A0_1, c0_1, rfl, hc0_1, hr0_1⟩ := ht0_0
  obtain rfl : ag0 = #[.int .i64 x0.1, .slice A0_1 (x0.2).length c0_1] := Array.toList_inj.mp hag0
  obtain ⟨a0_0, l0_1⟩ := x0
  obtain ⟨a1, len1, cap1, rfl⟩ := okWide_slice Try.underlying25 (hval 1 25 v1 rfl rfl)
  have k1 := h1
  have lt1 : ∀ x ∈ p1, x.block < W.heap.size := by obtain ⟨m, hm⟩ := k1; exact DataW.trod_lt m _ _ _ hm
  obtain ⟨l1, rfl, hc1, hm1, hr1, hg1⟩ := Open.slice_came Try.underlying25 (by kernel_rfl) (Open.opens_slice Try.underlying54 (by kernel_rfl) (Open.opens_int Try.underlying3)) h1
  obtain ⟨a2, rfl, rfl, rfl, w2⟩ := open_int Try.underlying5 (hval 2 5 v2 rfl rfl) h2
  clear hA0 hval0 hsz0 hsz
  obtain ⟨k, hk⟩ := Pure.TopChunks a0_0 l0_1 l1 a2 g0_0 g0_1 hm1 hg1 w2
  refine (switchboardtop_TopChunks.calls k a0_0 _ _ l0_1 (fun k_ => k_ < W.heap.size) _ _ l1 a2 W hr0_1 hc0_1 (Kd.V_mk hc1 (Kd.C_F (Kd.heap_slice 3 (Kd.heap_int .i64)) hr1)) hk).mono ?_
  rintro e W' ⟨rfl, bel⟩
  exact ⟨_, rfl, _, _, _, [], _, [], hW', trodAll_mk1 (shut_bool Try.underlying4 _), (trodAll_cons_mk (Below.trod laidOut (by kernel_rfl) (of_decide_eq_true (by kernel_rfl)) k0 bel lt0) (trodAll_cons_mk (Below.trod laidOut (by kernel_rfl) (of_decide_eq_true (by kernel_rfl)) k1 bel lt1) (trodAll_cons_mk (shut_int Try.underlying5 w2) trodAll_mk0))), rfl, bel.frame _, fun h => by cases h⟩
theorem over : Rows.topChunksRow.holds Try.pinned (OpenSpec.ofChange Rows.topChunksSpec) :=
  OpenClaim.holds_of_wide 3 Try.f3 rfl rfl rfl rfl rfl rfl rfl ⟨rfl, rfl, rfl, rfl, rfl⟩ rfl rfl rfl rfl rfl (by kernel_rfl) Try.func3 (by kernel_rfl)
    (of_decide_eq_true (by kernel_rfl)) (by unfold Func.isWrapper; first | (rw [if_pos (by decide +kernel)]; kernel_rfl) | (rw [if_neg (by decide +kernel)]; exact ⟨rfl, rfl⟩))
    (fun os started H enc _ => lifted os started H enc)
theorem proved : Rows.TopChunksSaid := over
#print axioms proved
end Go.Proofs.Ytfipiohchnaglaa.topChunks
