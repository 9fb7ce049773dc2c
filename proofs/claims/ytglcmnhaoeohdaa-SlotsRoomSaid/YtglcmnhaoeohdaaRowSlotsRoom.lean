/- Proved here: no expert has more parts than its capacity, no two of one slot, and of a beginning of the choices the slots are a beginning (all choices; past 60 tokens the fixed answer alone). No condition. (The row over the contract, laid by wip/orow.py.) -/
import Derived.Test.YtglcmnhaoeohdaaRows
import Derived.Test.YtglcmnhaoeohdaaPr4
import Derived.Test.YtglcmnhaoeohdaaPureSlotsRoom
import Derived.Test.YtglcmnhaoeohdaaOpen
import Derived.Test.YtglcmnhaoeohdaaWSized
import Derived.WalkKit
import Derived.ProofKit
import Derived.OpenShut
import Derived.ShutString
import Derived.ChangeOld
import Derived.Below
import Derived.SizedLaws
namespace Go.Proofs.Ytglcmnhaoeohdaa.slotsRoom
open Go.ChangeShapes Go.WideShapes Go.ChangeAt Go.RowKit
open Go.ChangeMaps (open_string shut_string)
open Go.Proofs.Ytglcmnhaoeohdaa.Pr Go.Proofs.YtglcmnhaoeohdaaW.PrintWords
set_option linter.unusedVariables false
theorem own : ownKnob Try.prog.godebug = none := by kernel_rfl
theorem laidOut : laidOutB Try.prog = true := by kernel_rfl
theorem opens_k25 : Open.Opens Try.prog 25 k25 (fun x => ((Lit.int .i64 x.f0).wf = true) ∧ ((Lit.int .i64 x.f1).wf = true)) := by
  intro H enc w base spare held fuel cs x h
  obtain ⟨xs, n, _, _, hl, hlen, hf⟩ := DataW.trod_array Try.underlying25 h
  have hl' : cs.length = 2 := hl
  have e0 := hf 0 (by decide)
  rw [List.getElem?_eq_getElem (by rw [hlen]; exact (by decide : 0 < 2))] at e0
  obtain ⟨y0, h0, g0⟩ := (Open.opens_int Try.underlying3) enc w base spare held n _ _ e0
  replace h0 : (Kd.int .i64).K w y0 ((cs.drop 0).take 1) := h0
  have e1 := hf 1 (by decide)
  rw [List.getElem?_eq_getElem (by rw [hlen]; exact (by decide : 1 < 2))] at e1
  obtain ⟨y1, h1, g1⟩ := (Open.opens_int Try.underlying3) enc w base spare held n _ _ e1
  replace h1 : (Kd.int .i64).K w y1 ((cs.drop 1).take 1) := h1
  have hw : cs = (cs.drop 0).take 1 ++ ((cs.drop 1).take 1) := by
    match cs, hl' with
    | [c0, c1], _ => rfl
  refine ⟨⟨y0, y1⟩, ?_, g0, g1⟩
  show (k25).K w _ cs
  rw [hw]
  exact ⟨_, _, rfl, h0, h1⟩
set_option maxRecDepth 100000 in
theorem lifted (os : Os) (started : os.Started) (H : Type) (enc : TypeId × Value → H) :
    ReturnsInHanded {} Try.checked os 4 .any (Rows.slotsRoomSpec.pre6 enc Try.prog Try.f4 Rows.slotsRoomRow.domain false) (Rows.slotsRoomSpec.post enc Try.prog Try.f4 false true false false) := by
  refine returnsInHanded_of_change_sized (C := Try.checked) own started (by kernel_rfl) Try.func4
    (ChangeSpec.witness6 (enc := enc) (C := Try.checked) false ⟨#[], #[.slice none 0 0, .int .i64 0, .int .i64 0, .int .u8 0], []⟩ 8 (by kernel_rfl) (by kernel_rfl) (by kernel_rfl) (by kernel_rfl)) ?_
  intro W base args ds gs before hval0 hW hcnd hsz0 _
  have hsz : (DataW.weightsEach Try.prog (Try.f4.params.toList ++ Rows.slotsRoomSpec.plain.varTypes Try.prog) (ds ++ gs)).all (· ≤ reachBytes) = true := hsz0
  have hval : ∀ (j : Nat) t v, Try.f4.params[j]? = some t → args[j]? = some v → Value.okWide Try.prog W .any base t v := hval0
  have hW' := hW
  obtain ⟨p, q, hA0, hV, rfl, hfz, hnd⟩ := hW
  have hA : DataW.TrodAll enc Try.prog W 0 (fun _ => true) true Try.f4.params.toList args.toList ds p := hA0
  rw [Try.params4] at hA hval hsz
  obtain ⟨v0, vs0, d0, ds0, p0, q0, hargs, rfl, rfl, h0, r0⟩ := trodAll_cons hA
  obtain ⟨v1, vs1, d1, ds1, p1, q1, rfl, rfl, rfl, h1, r1⟩ := trodAll_cons r0
  obtain ⟨v2, vs2, d2, ds2, p2, q2, rfl, rfl, rfl, h2, r2⟩ := trodAll_cons r1
  obtain ⟨v3, vs3, d3, ds3, p3, q3, rfl, rfl, rfl, h3, r3⟩ := trodAll_cons r2
  obtain ⟨rfl, rfl, rfl⟩ := trodAll_nil r3
  obtain rfl : args = #[v0, v1, v2, v3] := by cases args; simp_all
  obtain ⟨rfl, rfl⟩ := trodVars_none hV
  obtain ⟨a0, len0, cap0, rfl⟩ := okWide_slice Try.underlying22 (hval 0 22 v0 rfl rfl)
  have k0 := h0
  have lt0 : ∀ x ∈ p0, x.block < W.heap.size := by obtain ⟨m, hm⟩ := k0; exact DataW.trod_lt m _ _ _ hm
  obtain ⟨l0, rfl, hc0, hm0, hr0, hg0⟩ := Open.slice_came Try.underlying22 (by kernel_rfl) opens_k25 h0
  obtain ⟨a1, rfl, rfl, rfl, w1⟩ := open_int Try.underlying3 (hval 1 3 v1 rfl rfl) h1
  obtain ⟨a2, rfl, rfl, rfl, w2⟩ := open_int Try.underlying3 (hval 2 3 v2 rfl rfl) h2
  obtain ⟨a3, rfl, rfl, rfl, w3⟩ := open_int Try.underlying5 (hval 3 5 v3 rfl rfl) h3
  clear hA0 hval0 hsz0 hsz
  obtain ⟨k, hk⟩ := Pure.SlotsRoom l0 a1 a2 a3 hm0 hg0 w1 w2 w3
  refine (switchboardlaw14_SlotsRoom.calls k _ _ l0 a1 a2 a3 W hr0 hc0 hk).mono ?_
  rintro e W' ⟨rfl, bel⟩
  exact ⟨_, rfl, _, _, _, [], _, [], hW', trodAll_mk1 (shut_bool Try.underlying4 _), (trodAll_cons_mk (Below.trod laidOut (by kernel_rfl) (of_decide_eq_true (by kernel_rfl)) k0 bel lt0) (trodAll_cons_mk (shut_int Try.underlying3 w1) (trodAll_cons_mk (shut_int Try.underlying3 w2) (trodAll_cons_mk (shut_int Try.underlying5 w3) trodAll_mk0)))), rfl, bel.frame _, fun h => by cases h⟩
theorem over : Rows.slotsRoomRow.holds Try.pinned (OpenSpec.ofChange Rows.slotsRoomSpec) :=
  OpenClaim.holds_of_wide 4 Try.f4 rfl rfl rfl rfl rfl rfl rfl ⟨rfl, rfl, rfl, rfl, rfl⟩ rfl rfl rfl rfl rfl (by kernel_rfl) Try.func4 (by kernel_rfl)
    (of_decide_eq_true (by kernel_rfl)) (by unfold Func.isWrapper; first | (rw [if_pos (by decide +kernel)]; kernel_rfl) | (rw [if_neg (by decide +kernel)]; exact ⟨rfl, rfl⟩))
    (fun os started H enc _ => lifted os started H enc)
theorem proved : Rows.SlotsRoomSaid := over
#print axioms proved
end Go.Proofs.Ytglcmnhaoeohdaa.slotsRoom
