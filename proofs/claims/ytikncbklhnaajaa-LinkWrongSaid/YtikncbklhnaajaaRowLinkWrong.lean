/- Proved here: on a wrong link, or a full one, nothing is pushed, and it is as it was; what nobody sent is not told of (all links and texts; past 100 frames of 100 bytes the fixed answer alone). No condition. (The row over the contract, laid by wip/orow.py.) -/
import Derived.Test.YtikncbklhnaajaaRows
import Derived.Test.YtikncbklhnaajaaPr7
import Derived.Test.YtikncbklhnaajaaPureLinkWrong
import Derived.Test.YtikncbklhnaajaaOpen
import Derived.Test.YtikncbklhnaajaaWSized
import Derived.WalkKit
import Derived.ProofKit
import Derived.OpenShut
import Derived.ShutString
import Derived.ChangeOld
import Derived.Below
import Derived.SizedLaws
namespace Go.Proofs.Ytikncbklhnaajaa.linkWrong
open Go.ChangeShapes Go.WideShapes Go.ChangeAt Go.RowKit
open Go.ChangeMaps (open_string shut_string)
open Go.Proofs.Ytikncbklhnaajaa.Pr Go.Proofs.YtikncbklhnaajaaW.PrintWords
set_option linter.unusedVariables false
theorem own : ownKnob Try.prog.godebug = none := by kernel_rfl
theorem laidOut : laidOutB Try.prog = true := by kernel_rfl
theorem opens_k45 : Open.Opens Try.prog 45 k45 (fun x => ((Lit.int .i64 x.f0).wf = true) ∧ (x.f1.size ≤ maxLen)) := by
  intro H enc w base spare held fuel cs x h
  obtain ⟨xs, n, _, _, hl, hlen, hf⟩ := DataW.trod_struct Try.underlying45 h
  have hl' : cs.length = 2 := hl
  have e0 := hf 0 _ rfl
  rw [List.getElem?_eq_getElem (by rw [hlen]; exact (by decide : 0 < 2))] at e0
  obtain ⟨y0, h0, g0⟩ := (Open.opens_int Try.underlying3) enc w base spare held n _ _ e0
  replace h0 : (Kd.int .i64).K w y0 ((cs.drop 0).take 1) := h0
  have e1 := hf 1 _ rfl
  rw [List.getElem?_eq_getElem (by rw [hlen]; exact (by decide : 1 < 2))] at e1
  obtain ⟨y1, h1, g1⟩ := (Open.opens_string Try.underlying9) enc w base spare held n _ _ e1
  replace h1 : Kd.string.K w y1 ((cs.drop 1).take 1) := h1
  have hw : cs = (cs.drop 0).take 1 ++ ((cs.drop 1).take 1) := by
    match cs, hl' with
    | [c0, c1], _ => rfl
  refine ⟨⟨y0, y1⟩, ?_, g0, g1⟩
  show (k45).K w _ cs
  rw [hw]
  exact ⟨_, _, rfl, h0, h1⟩
theorem opens_p24 : Open.Opens Try.prog 24 (Kd.pair (Kd.int .i64) (Kd.slice 45 k45)) (fun x => ((Lit.int .i64 x.1).wf = true) ∧ (x.2.length ≤ maxLen ∧ ∀ y2 ∈ x.2, ((Lit.int .i64 y2.f0).wf = true) ∧ (y2.f1.size ≤ maxLen))) := by
  intro H enc w base spare held fuel cs x h
  obtain ⟨xs, n, _, _, hl, hlen, hf⟩ := DataW.trod_struct Try.underlying24 h
  have hl' : cs.length = 2 := hl
  have e0 := hf 0 _ rfl
  rw [List.getElem?_eq_getElem (by rw [hlen]; exact (by decide : 0 < 2))] at e0
  obtain ⟨y0, h0, g0⟩ := (Open.opens_int Try.underlying3) enc w base spare held n _ _ e0
  replace h0 : (Kd.int .i64).K w y0 ((cs.drop 0).take 1) := h0
  have e1 := hf 1 _ rfl
  rw [List.getElem?_eq_getElem (by rw [hlen]; exact (by decide : 1 < 2))] at e1
  obtain ⟨y1, h1, g1⟩ := (Open.opens_slice Try.underlying22 (by kernel_rfl) opens_k45) enc w base spare held n _ _ e1
  replace h1 : (Kd.slice 45 k45).K w y1 ((cs.drop 1).take 1) := h1
  have hw : cs = (cs.drop 0).take 1 ++ ((cs.drop 1).take 1) := by
    match cs, hl' with
    | [c0, c1], _ => rfl
  refine ⟨⟨y0, y1⟩, ?_, g0, g1⟩
  show ((Kd.pair (Kd.int .i64) (Kd.slice 45 k45))).K w _ cs
  rw [hw]
  exact ⟨_, _, rfl, h0, h1⟩
set_option maxRecDepth 100000 in
theorem lifted (os : Os) (started : os.Started) (H : Type) (enc : TypeId × Value → H) :
    ReturnsInHanded {} Try.checked os 5 .any (Rows.linkWrongSpec.pre6 enc Try.prog Try.f5 Rows.linkWrongRow.domain false) (Rows.linkWrongSpec.post enc Try.prog Try.f5 false true false false) := by
  refine returnsInHanded_of_change_sized (C := Try.checked) own started (by kernel_rfl) Try.func5
    (ChangeSpec.witness6 (enc := enc) (C := Try.checked) false ⟨#[], #[.agg #[.int .i64 0, .slice none 0 0], .string ByteArray.empty], []⟩ 8 (by kernel_rfl) (by kernel_rfl) (by kernel_rfl) (by kernel_rfl)) ?_
  intro W base args ds gs before hval0 hW hcnd hsz0 _
  have hsz : (DataW.weightsEach Try.prog (Try.f5.params.toList ++ Rows.linkWrongSpec.plain.varTypes Try.prog) (ds ++ gs)).all (· ≤ reachBytes) = true := hsz0
  have hval : ∀ (j : Nat) t v, Try.f5.params[j]? = some t → args[j]? = some v → Value.okWide Try.prog W .any base t v := hval0
  have hW' := hW
  obtain ⟨p, q, hA0, hV, rfl, hfz, hnd⟩ := hW
  have hA : DataW.TrodAll enc Try.prog W 0 (fun _ => true) true Try.f5.params.toList args.toList ds p := hA0
  rw [Try.params5] at hA hval hsz
  obtain ⟨v0, vs0, d0, ds0, p0, q0, hargs, rfl, rfl, h0, r0⟩ := trodAll_cons hA
  obtain ⟨v1, vs1, d1, ds1, p1, q1, rfl, rfl, rfl, h1, r1⟩ := trodAll_cons r0
  obtain ⟨rfl, rfl, rfl⟩ := trodAll_nil r1
  obtain rfl : args = #[v0, v1] := by cases args; simp_all
  obtain ⟨rfl, rfl⟩ := trodVars_none hV
  obtain ⟨ag0, rfl, hs0⟩ := okWide_struct Try.underlying24 (hval 0 24 v0 rfl rfl)
  have k0 := h0
  have lt0 : ∀ x ∈ p0, x.block < W.heap.size := by obtain ⟨m, hm⟩ := k0; exact DataW.trod_lt m _ _ _ hm
  obtain ⟨x0, hk0, hg0⟩ : ∃ x, (Kd.pair (Kd.int .i64) (Kd.slice 45 k45)).K W x ag0.toList ∧ ((Lit.int .i64 x.1).wf = true) ∧ (x.2.length ≤ maxLen ∧ ∀ y2 ∈ x.2, ((Lit.int .i64 y2.f0).wf = true) ∧ (y2.f1.size ≤ maxLen)) := by
    obtain ⟨fuel, hf⟩ := h0
    exact opens_p24 enc W 0 (fun _ => true) true fuel _ _ hf
  obtain ⟨g0_0, g0_1⟩ := hg0
  obtain ⟨b0_0, t0_0, hag0, hb0_0, ht0_0⟩ := hk0
  obtain rfl := hb0_0
  obtain ⟨A0_1, c0_1, rfl, hc0_1, hr0_1⟩ := ht0_0
  obtain rfl : ag0 = #[.int .i64 x0.1, .slice A0_1 (x0.2).length c0_1] := Array.toList_inj.mp hag0
  obtain ⟨a0_0, l0_1⟩ := x0
  obtain ⟨a1, rfl, rfl, rfl, y1⟩ := open_string Try.underlying9 (hval 1 9 v1 rfl rfl) h1
  have w1 : a1.size ≤ 140737488351232 := by
    have z := sized_string hsz (j := 1) (t := 9) rfl rfl
    rw [Array.length_toList] at z
    exact z
  clear hA0 hval0 hsz0 hsz
  obtain ⟨k, hk⟩ := Pure.LinkWrong a0_0 l0_1 a1 g0_0 g0_1 w1
  refine (switchboardlaw10_LinkWrong.calls k a0_0 _ _ l0_1 a1 W hr0_1 hc0_1 hk).mono ?_
  rintro e W' ⟨rfl, bel⟩
  exact ⟨_, rfl, _, _, _, [], _, [], hW', trodAll_mk1 (shut_bool Try.underlying4 _), (trodAll_cons_mk (Below.trod laidOut (by kernel_rfl) (of_decide_eq_true (by kernel_rfl)) k0 bel lt0) (trodAll_cons_mk (shut_string Try.underlying9 y1) trodAll_mk0)), rfl, bel.frame _, fun h => by cases h⟩
theorem over : Rows.linkWrongRow.holds Try.pinned (OpenSpec.ofChange Rows.linkWrongSpec) :=
  OpenClaim.holds_of_wide 5 Try.f5 rfl rfl rfl rfl rfl rfl rfl ⟨rfl, rfl, rfl, rfl, rfl⟩ rfl rfl rfl rfl rfl (by kernel_rfl) Try.func5 (by kernel_rfl)
    (of_decide_eq_true (by kernel_rfl)) (by unfold Func.isWrapper; first | (rw [if_pos (by decide +kernel)]; kernel_rfl) | (rw [if_neg (by decide +kernel)]; exact ⟨rfl, rfl⟩))
    (fun os started H enc _ => lifted os started H enc)
theorem proved : Rows.LinkWrongSaid := over
#print axioms proved
end Go.Proofs.Ytikncbklhnaajaa.linkWrong
