/- Proved here: what is found in any ledger, and entered, is what the document tells (all ledgers, keys and rows; past 60 entries of 30 numbers the fixed answer alone). No condition. (The row over the contract, laid by wip/orow.py.) -/
import Derived.Test.YtcbngoldidhfmaaRows
import Derived.Test.YtcbngoldidhfmaaPr5
import Derived.Test.YtcbngoldidhfmaaPureLedgerExact
import Derived.Test.YtcbngoldidhfmaaOpen
import Derived.Test.YtcbngoldidhfmaaWSized
import Derived.WalkKit
import Derived.ProofKit
import Derived.OpenShut
import Derived.ShutString
import Derived.ChangeOld
import Derived.Below
import Derived.SizedLaws
namespace Go.Proofs.Ytcbngoldidhfmaa.ledgerExact
open Go.ChangeShapes Go.WideShapes Go.ChangeAt Go.RowKit
open Go.ChangeMaps (open_string shut_string)
open Go.Proofs.Ytcbngoldidhfmaa.Pr Go.Proofs.YtcbngoldidhfmaaW.PrintWords
set_option linter.unusedVariables false
theorem own : ownKnob Try.prog.godebug = none := by kernel_rfl
theorem laidOut : laidOutB Try.prog = true := by kernel_rfl
theorem opens_k24 : Open.Opens Try.prog 24 k24 (fun x => ((Lit.int .i64 x.f0).wf = true) ∧ ((Lit.int .i64 x.f1).wf = true) ∧ ((Lit.int .i64 x.f2).wf = true) ∧ ((Lit.int .i64 x.f3).wf = true)) := by
  intro H enc w base spare held fuel cs x h
  obtain ⟨xs, n, _, _, hl, hlen, hf⟩ := DataW.trod_struct Try.underlying24 h
  have hl' : cs.length = 4 := hl
  have e0 := hf 0 _ rfl
  rw [List.getElem?_eq_getElem (by rw [hlen]; exact (by decide : 0 < 4))] at e0
  obtain ⟨y0, h0, g0⟩ := (Open.opens_int Try.underlying3) enc w base spare held n _ _ e0
  replace h0 : (Kd.int .i64).K w y0 ((cs.drop 0).take 1) := h0
  have e1 := hf 1 _ rfl
  rw [List.getElem?_eq_getElem (by rw [hlen]; exact (by decide : 1 < 4))] at e1
  obtain ⟨y1, h1, g1⟩ := (Open.opens_int Try.underlying3) enc w base spare held n _ _ e1
  replace h1 : (Kd.int .i64).K w y1 ((cs.drop 1).take 1) := h1
  have e2 := hf 2 _ rfl
  rw [List.getElem?_eq_getElem (by rw [hlen]; exact (by decide : 2 < 4))] at e2
  obtain ⟨y2, h2, g2⟩ := (Open.opens_int Try.underlying3) enc w base spare held n _ _ e2
  replace h2 : (Kd.int .i64).K w y2 ((cs.drop 2).take 1) := h2
  have e3 := hf 3 _ rfl
  rw [List.getElem?_eq_getElem (by rw [hlen]; exact (by decide : 3 < 4))] at e3
  obtain ⟨y3, h3, g3⟩ := (Open.opens_int Try.underlying3) enc w base spare held n _ _ e3
  replace h3 : (Kd.int .i64).K w y3 ((cs.drop 3).take 1) := h3
  have hw : cs = (cs.drop 0).take 1 ++ ((cs.drop 1).take 1 ++ ((cs.drop 2).take 1 ++ ((cs.drop 3).take 1))) := by
    match cs, hl' with
    | [c0, c1, c2, c3], _ => rfl
  refine ⟨⟨y0, y1, y2, y3⟩, ?_, g0, g1, g2, g3⟩
  show (k24).K w _ cs
  rw [hw]
  exact ⟨_, _, rfl, h0, ⟨_, _, rfl, h1, ⟨_, _, rfl, h2, h3⟩⟩⟩
theorem opens_k29 : Open.Opens Try.prog 29 k29 (fun x => (((Lit.int .i64 x.f0.f0).wf = true) ∧ ((Lit.int .i64 x.f0.f1).wf = true) ∧ ((Lit.int .i64 x.f0.f2).wf = true) ∧ ((Lit.int .i64 x.f0.f3).wf = true)) ∧ (x.f1.length ≤ maxLen ∧ ∀ y1 ∈ x.f1, (Lit.int .i64 y1).wf = true)) := by
  intro H enc w base spare held fuel cs x h
  obtain ⟨xs, n, _, _, hl, hlen, hf⟩ := DataW.trod_struct Try.underlying29 h
  have hl' : cs.length = 5 := hl
  have e0 := hf 0 _ rfl
  rw [List.getElem?_eq_getElem (by rw [hlen]; exact (by decide : 0 < 2))] at e0
  obtain ⟨y0, h0, g0⟩ := opens_k24 enc w base spare held n _ _ e0
  replace h0 : k24.K w y0 ((cs.drop 0).take 4) := h0
  have e1 := hf 1 _ rfl
  rw [List.getElem?_eq_getElem (by rw [hlen]; exact (by decide : 1 < 2))] at e1
  obtain ⟨y1, h1, g1⟩ := (Open.opens_slice Try.underlying25 (by kernel_rfl) (Open.opens_int Try.underlying3)) enc w base spare held n _ _ e1
  replace h1 : (Kd.slice 3 (Kd.int .i64)).K w y1 ((cs.drop 4).take 1) := h1
  have hw : cs = (cs.drop 0).take 4 ++ ((cs.drop 4).take 1) := by
    match cs, hl' with
    | [c0, c1, c2, c3, c4], _ => rfl
  refine ⟨⟨y0, y1⟩, ?_, g0, g1⟩
  show (k29).K w _ cs
  rw [hw]
  exact ⟨_, _, rfl, h0, h1⟩
theorem opens_p24 : Open.Opens Try.prog 24 (Kd.pair (Kd.int .i64) (Kd.pair (Kd.int .i64) (Kd.pair (Kd.int .i64) (Kd.int .i64)))) (fun x => ((Lit.int .i64 x.1).wf = true) ∧ ((Lit.int .i64 x.2.1).wf = true) ∧ ((Lit.int .i64 x.2.2.1).wf = true) ∧ ((Lit.int .i64 x.2.2.2).wf = true)) := by
  intro H enc w base spare held fuel cs x h
  obtain ⟨xs, n, _, _, hl, hlen, hf⟩ := DataW.trod_struct Try.underlying24 h
  have hl' : cs.length = 4 := hl
  have e0 := hf 0 _ rfl
  rw [List.getElem?_eq_getElem (by rw [hlen]; exact (by decide : 0 < 4))] at e0
  obtain ⟨y0, h0, g0⟩ := (Open.opens_int Try.underlying3) enc w base spare held n _ _ e0
  replace h0 : (Kd.int .i64).K w y0 ((cs.drop 0).take 1) := h0
  have e1 := hf 1 _ rfl
  rw [List.getElem?_eq_getElem (by rw [hlen]; exact (by decide : 1 < 4))] at e1
  obtain ⟨y1, h1, g1⟩ := (Open.opens_int Try.underlying3) enc w base spare held n _ _ e1
  replace h1 : (Kd.int .i64).K w y1 ((cs.drop 1).take 1) := h1
  have e2 := hf 2 _ rfl
  rw [List.getElem?_eq_getElem (by rw [hlen]; exact (by decide : 2 < 4))] at e2
  obtain ⟨y2, h2, g2⟩ := (Open.opens_int Try.underlying3) enc w base spare held n _ _ e2
  replace h2 : (Kd.int .i64).K w y2 ((cs.drop 2).take 1) := h2
  have e3 := hf 3 _ rfl
  rw [List.getElem?_eq_getElem (by rw [hlen]; exact (by decide : 3 < 4))] at e3
  obtain ⟨y3, h3, g3⟩ := (Open.opens_int Try.underlying3) enc w base spare held n _ _ e3
  replace h3 : (Kd.int .i64).K w y3 ((cs.drop 3).take 1) := h3
  have hw : cs = (cs.drop 0).take 1 ++ ((cs.drop 1).take 1 ++ ((cs.drop 2).take 1 ++ ((cs.drop 3).take 1))) := by
    match cs, hl' with
    | [c0, c1, c2, c3], _ => rfl
  refine ⟨⟨y0, y1, y2, y3⟩, ?_, g0, g1, g2, g3⟩
  show ((Kd.pair (Kd.int .i64) (Kd.pair (Kd.int .i64) (Kd.pair (Kd.int .i64) (Kd.int .i64))))).K w _ cs
  rw [hw]
  exact ⟨_, _, rfl, h0, ⟨_, _, rfl, h1, ⟨_, _, rfl, h2, h3⟩⟩⟩
set_option maxRecDepth 100000 in
theorem lifted (os : Os) (started : os.Started) (H : Type) (enc : TypeId × Value → H) :
    ReturnsInHanded {} Try.checked os 3 .any (Rows.ledgerExactSpec.pre6 enc Try.prog Try.f3 Rows.ledgerExactRow.domain false) (Rows.ledgerExactSpec.post enc Try.prog Try.f3 false true false false) := by
  refine returnsInHanded_of_change_sized (C := Try.checked) own started (by kernel_rfl) Try.func3
    (ChangeSpec.witness6 (enc := enc) (C := Try.checked) false ⟨#[], #[.slice none 0 0, .agg #[.int .i64 0, .int .i64 0, .int .i64 0, .int .i64 0], .slice none 0 0], []⟩ 8 (by kernel_rfl) (by kernel_rfl) (by kernel_rfl) (by kernel_rfl)) ?_
  intro W base args ds gs before hval0 hW hcnd hsz0 _
  have hsz : (DataW.weightsEach Try.prog (Try.f3.params.toList ++ Rows.ledgerExactSpec.plain.varTypes Try.prog) (ds ++ gs)).all (· ≤ reachBytes) = true := hsz0
  have hval : ∀ (j : Nat) t v, Try.f3.params[j]? = some t → args[j]? = some v → Value.okWide Try.prog W .any base t v := hval0
  have hW' := hW
  obtain ⟨p, q, hA0, hV, rfl, hfz, hnd⟩ := hW
  have hA : DataW.TrodAll enc Try.prog W 0 (fun _ => true) true Try.f3.params.toList args.toList ds p := hA0
  rw [Try.params3] at hA hval hsz
  obtain ⟨v0, vs0, d0, ds0, p0, q0, hargs, rfl, rfl, h0, r0⟩ := trodAll_cons hA
  obtain ⟨v1, vs1, d1, ds1, p1, q1, rfl, rfl, rfl, h1, r1⟩ := trodAll_cons r0
  obtain ⟨v2, vs2, d2, ds2, p2, q2, rfl, rfl, rfl, h2, r2⟩ := trodAll_cons r1
  obtain ⟨rfl, rfl, rfl⟩ := trodAll_nil r2
  obtain rfl : args = #[v0, v1, v2] := by cases args; simp_all
  obtain ⟨rfl, rfl⟩ := trodVars_none hV
  obtain ⟨a0, len0, cap0, rfl⟩ := okWide_slice Try.underlying22 (hval 0 22 v0 rfl rfl)
  have k0 := h0
  have lt0 : ∀ x ∈ p0, x.block < W.heap.size := by obtain ⟨m, hm⟩ := k0; exact DataW.trod_lt m _ _ _ hm
  obtain ⟨l0, rfl, hc0, hm0, hr0, hg0⟩ := Open.slice_came Try.underlying22 (by kernel_rfl) opens_k29 h0
  obtain ⟨ag1, rfl, hs1⟩ := okWide_struct Try.underlying24 (hval 1 24 v1 rfl rfl)
  have k1 := h1
  have lt1 : ∀ x ∈ p1, x.block < W.heap.size := by obtain ⟨m, hm⟩ := k1; exact DataW.trod_lt m _ _ _ hm
  obtain ⟨x1, hk1, hg1⟩ : ∃ x, (Kd.pair (Kd.int .i64) (Kd.pair (Kd.int .i64) (Kd.pair (Kd.int .i64) (Kd.int .i64)))).K W x ag1.toList ∧ ((Lit.int .i64 x.1).wf = true) ∧ ((Lit.int .i64 x.2.1).wf = true) ∧ ((Lit.int .i64 x.2.2.1).wf = true) ∧ ((Lit.int .i64 x.2.2.2).wf = true) := by
    obtain ⟨fuel, hf⟩ := h1
    exact opens_p24 enc W 0 (fun _ => true) true fuel _ _ hf
  obtain ⟨g1_0, g1_1, g1_2, g1_3⟩ := hg1
  obtain ⟨b1_0, t1_0, hag1, hb1_0, ht1_0⟩ := hk1
  obtain ⟨b1_1, t1_1, rfl, hb1_1, ht1_1⟩ := ht1_0
  obtain ⟨b1_2, t1_2, rfl, hb1_2, ht1_2⟩ := ht1_1
  obtain rfl := hb1_0
  obtain rfl := hb1_1
  obtain rfl := hb1_2
  obtain rfl := ht1_2
  obtain rfl : ag1 = #[.int .i64 x1.1, .int .i64 x1.2.1, .int .i64 x1.2.2.1, .int .i64 x1.2.2.2] := Array.toList_inj.mp hag1
  obtain ⟨a1_0, a1_1, a1_2, a1_3⟩ := x1
  obtain ⟨a2, len2, cap2, rfl⟩ := okWide_slice Try.underlying25 (hval 2 25 v2 rfl rfl)
  have k2 := h2
  have lt2 : ∀ x ∈ p2, x.block < W.heap.size := by obtain ⟨m, hm⟩ := k2; exact DataW.trod_lt m _ _ _ hm
  obtain ⟨l2, rfl, hc2, hm2, hr2, hg2⟩ := Open.slice_came Try.underlying25 (by kernel_rfl) (Open.opens_int Try.underlying3) h2
  clear hA0 hval0 hsz0 hsz
  obtain ⟨k, hk⟩ := Pure.LedgerExact l0 a1_0 a1_1 a1_2 a1_3 l2 hm0 hg0 g1_0 g1_1 g1_2 g1_3 hm2 hg2
  refine (switchboardlaw12_LedgerExact.calls k (fun k_ => k_ < W.heap.size) _ _ l0 a1_0 a1_1 a1_2 a1_3 _ _ l2 W (Kd.V_mk hc0 (Kd.C_F k29_heap hr0)) hr2 hc2 hk).mono ?_
  rintro e W' ⟨rfl, bel⟩
  exact ⟨_, rfl, _, _, _, [], _, [], hW', trodAll_mk1 (shut_bool Try.underlying4 _), (trodAll_cons_mk (Below.trod laidOut (by kernel_rfl) (of_decide_eq_true (by kernel_rfl)) k0 bel lt0) (trodAll_cons_mk (Below.trod laidOut (by kernel_rfl) (of_decide_eq_true (by kernel_rfl)) k1 bel lt1) (trodAll_cons_mk (Below.trod laidOut (by kernel_rfl) (of_decide_eq_true (by kernel_rfl)) k2 bel lt2) trodAll_mk0))), rfl, bel.frame _, fun h => by cases h⟩
theorem over : Rows.ledgerExactRow.holds Try.pinned (OpenSpec.ofChange Rows.ledgerExactSpec) :=
  OpenClaim.holds_of_wide 3 Try.f3 rfl rfl rfl rfl rfl rfl rfl ⟨rfl, rfl, rfl, rfl, rfl⟩ rfl rfl rfl rfl rfl (by kernel_rfl) Try.func3 (by kernel_rfl)
    (of_decide_eq_true (by kernel_rfl)) (by unfold Func.isWrapper; first | (rw [if_pos (by decide +kernel)]; kernel_rfl) | (rw [if_neg (by decide +kernel)]; exact ⟨rfl, rfl⟩))
    (fun os started H enc _ => lifted os started H enc)
theorem proved : Rows.LedgerExactSaid := over
#print axioms proved
end Go.Proofs.Ytcbngoldidhfmaa.ledgerExact
