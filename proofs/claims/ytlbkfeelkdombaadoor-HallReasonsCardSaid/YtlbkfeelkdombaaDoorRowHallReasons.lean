/- Of any model and tokens (past 30 rows of 30 numbers, or not to be joined, the fixed answer alone), the reason why tokens are refused is the one the document names: the law returns true at every input. (The row over the contract, laid by wip/orow.py.) -/
import Derived.Test.YtlbkfeelkdombaaDoorRows
import Derived.Test.YtlbkfeelkdombaaDoorCards
import Derived.Test.YtlbkfeelkdombaaDoorTie
import Derived.Deep.DeepWitnessRowRef
import Derived.LaidLaws
import Derived.Test.YtlbkfeelkdombaaDoorPqJ
import Derived.LaidHandle
import Derived.Lib.LaidIn
import Derived.SevenTiedAt
import Derived.Test.YtlbkfeelkdombaaDoorPqI
import Derived.Test.YtlbkfeelkdombaaDoorPureHallReasons
import Derived.Test.YtlbkfeelkdombaaDoorOpen
import Derived.Test.YtlbkfeelkdombaaDoorWSized
import Derived.WalkKit
import Derived.ProofKit
import Derived.OpenShut
import Derived.ShutString
import Derived.ChangeOld
import Derived.Below
import Derived.SizedLaws
namespace Go.Proofs.YtlbkfeelkdombaaDoor.hallReasons
open Go.ChangeShapes Go.WideShapes Go.ChangeAt Go.RowKit
open Go.ChangeMaps (open_string shut_string)
open Go.Proofs.YtlbkfeelkdombaaDoor.Pq Go.Proofs.YtlbkfeelkdombaaDoorW.PrintWords
set_option linter.unusedVariables false
set_option maxRecDepth 100000
theorem own : ownKnob Tryd.prog.godebug = none := by kernel_rfl
theorem laidOut : laidOutB Tryd.prog = true := by kernel_rfl
theorem opens_k70 : Open.Opens Tryd.prog 70 k70 (fun x => (x.f0.length ≤ maxLen ∧ ∀ y2 ∈ x.f0, y2.length ≤ maxLen ∧ ∀ y1 ∈ y2, (Lit.int .i64 y1).wf = true) ∧ (x.f1.length ≤ maxLen ∧ ∀ y2 ∈ x.f1, y2.length ≤ maxLen ∧ ∀ y1 ∈ y2, (Lit.int .i64 y1).wf = true)) := by
  intro H enc w base spare held fuel cs x h
  obtain ⟨xs, n, _, _, hl, hlen, hf⟩ := DataW.trod_struct Tryd.underlying70 h
  have hl' : cs.length = 2 := hl
  have e0 := hf 0 _ rfl
  rw [List.getElem?_eq_getElem (by rw [hlen]; exact (by decide : 0 < 2))] at e0
  obtain ⟨y0, h0, g0⟩ := (Open.opens_slice Tryd.underlying25 (by kernel_rfl) (Open.opens_slice Tryd.underlying42 (by kernel_rfl) (Open.opens_int Tryd.underlying3))) enc w base spare held n _ _ e0
  replace h0 : (Kd.slice 42 (Kd.slice 3 (Kd.int .i64))).K w y0 ((cs.drop 0).take 1) := h0
  have e1 := hf 1 _ rfl
  rw [List.getElem?_eq_getElem (by rw [hlen]; exact (by decide : 1 < 2))] at e1
  obtain ⟨y1, h1, g1⟩ := (Open.opens_slice Tryd.underlying25 (by kernel_rfl) (Open.opens_slice Tryd.underlying42 (by kernel_rfl) (Open.opens_int Tryd.underlying3))) enc w base spare held n _ _ e1
  replace h1 : (Kd.slice 42 (Kd.slice 3 (Kd.int .i64))).K w y1 ((cs.drop 1).take 1) := h1
  have hw : cs = (cs.drop 0).take 1 ++ ((cs.drop 1).take 1) := by
    match cs, hl' with
    | [c0, c1], _ => rfl
  refine ⟨⟨y0, y1⟩, ?_, g0, g1⟩
  show (k70).K w _ cs
  rw [hw]
  exact ⟨_, _, rfl, h0, h1⟩
theorem opens_k73 : Open.Opens Tryd.prog 73 k73 (fun x => (x.f0.length ≤ maxLen ∧ ∀ y2 ∈ x.f0, y2.length ≤ maxLen ∧ ∀ y1 ∈ y2, (Lit.int .i64 y1).wf = true) ∧ (x.f1.length ≤ maxLen ∧ ∀ y4 ∈ x.f1, (y4.f0.length ≤ maxLen ∧ ∀ y2 ∈ y4.f0, y2.length ≤ maxLen ∧ ∀ y1 ∈ y2, (Lit.int .i64 y1).wf = true) ∧ (y4.f1.length ≤ maxLen ∧ ∀ y2 ∈ y4.f1, y2.length ≤ maxLen ∧ ∀ y1 ∈ y2, (Lit.int .i64 y1).wf = true)) ∧ ((Lit.int .i64 x.f2).wf = true)) := by
  intro H enc w base spare held fuel cs x h
  obtain ⟨xs, n, _, _, hl, hlen, hf⟩ := DataW.trod_struct Tryd.underlying73 h
  have hl' : cs.length = 3 := hl
  have e0 := hf 0 _ rfl
  rw [List.getElem?_eq_getElem (by rw [hlen]; exact (by decide : 0 < 3))] at e0
  obtain ⟨y0, h0, g0⟩ := (Open.opens_slice Tryd.underlying25 (by kernel_rfl) (Open.opens_slice Tryd.underlying42 (by kernel_rfl) (Open.opens_int Tryd.underlying3))) enc w base spare held n _ _ e0
  replace h0 : (Kd.slice 42 (Kd.slice 3 (Kd.int .i64))).K w y0 ((cs.drop 0).take 1) := h0
  have e1 := hf 1 _ rfl
  rw [List.getElem?_eq_getElem (by rw [hlen]; exact (by decide : 1 < 3))] at e1
  obtain ⟨y1, h1, g1⟩ := (Open.opens_slice Tryd.underlying71 (by kernel_rfl) opens_k70) enc w base spare held n _ _ e1
  replace h1 : (Kd.slice 70 k70).K w y1 ((cs.drop 1).take 1) := h1
  have e2 := hf 2 _ rfl
  rw [List.getElem?_eq_getElem (by rw [hlen]; exact (by decide : 2 < 3))] at e2
  obtain ⟨y2, h2, g2⟩ := (Open.opens_int Tryd.underlying3) enc w base spare held n _ _ e2
  replace h2 : (Kd.int .i64).K w y2 ((cs.drop 2).take 1) := h2
  have hw : cs = (cs.drop 0).take 1 ++ ((cs.drop 1).take 1 ++ ((cs.drop 2).take 1)) := by
    match cs, hl' with
    | [c0, c1, c2], _ => rfl
  refine ⟨⟨y0, y1, y2⟩, ?_, g0, g1, g2⟩
  show (k73).K w _ cs
  rw [hw]
  exact ⟨_, _, rfl, h0, ⟨_, _, rfl, h1, h2⟩⟩
theorem opens_p55 : Open.Opens Tryd.prog 55 (Kd.pair (Kd.int .i64) (Kd.slice 73 k73)) (fun x => ((Lit.int .i64 x.1).wf = true) ∧ (x.2.length ≤ maxLen ∧ ∀ y6 ∈ x.2, (y6.f0.length ≤ maxLen ∧ ∀ y2 ∈ y6.f0, y2.length ≤ maxLen ∧ ∀ y1 ∈ y2, (Lit.int .i64 y1).wf = true) ∧ (y6.f1.length ≤ maxLen ∧ ∀ y4 ∈ y6.f1, (y4.f0.length ≤ maxLen ∧ ∀ y2 ∈ y4.f0, y2.length ≤ maxLen ∧ ∀ y1 ∈ y2, (Lit.int .i64 y1).wf = true) ∧ (y4.f1.length ≤ maxLen ∧ ∀ y2 ∈ y4.f1, y2.length ≤ maxLen ∧ ∀ y1 ∈ y2, (Lit.int .i64 y1).wf = true)) ∧ ((Lit.int .i64 y6.f2).wf = true))) := by
  intro H enc w base spare held fuel cs x h
  obtain ⟨xs, n, _, _, hl, hlen, hf⟩ := DataW.trod_struct Tryd.underlying55 h
  have hl' : cs.length = 2 := hl
  have e0 := hf 0 _ rfl
  rw [List.getElem?_eq_getElem (by rw [hlen]; exact (by decide : 0 < 2))] at e0
  obtain ⟨y0, h0, g0⟩ := (Open.opens_int Tryd.underlying3) enc w base spare held n _ _ e0
  replace h0 : (Kd.int .i64).K w y0 ((cs.drop 0).take 1) := h0
  have e1 := hf 1 _ rfl
  rw [List.getElem?_eq_getElem (by rw [hlen]; exact (by decide : 1 < 2))] at e1
  obtain ⟨y1, h1, g1⟩ := (Open.opens_slice Tryd.underlying53 (by kernel_rfl) opens_k73) enc w base spare held n _ _ e1
  replace h1 : (Kd.slice 73 k73).K w y1 ((cs.drop 1).take 1) := h1
  have hw : cs = (cs.drop 0).take 1 ++ ((cs.drop 1).take 1) := by
    match cs, hl' with
    | [c0, c1], _ => rfl
  refine ⟨⟨y0, y1⟩, ?_, g0, g1⟩
  show ((Kd.pair (Kd.int .i64) (Kd.slice 73 k73))).K w _ cs
  rw [hw]
  exact ⟨_, _, rfl, h0, h1⟩
/-- A world for the witness: the settled one with two blocks more (the two errors' texts), the three variables holding what their initialisers lay. -/
noncomputable def laidWorld (os : Os) : World :=
  let N := (World.settled Tryd.prog os).heap.size
  let w0 := World.holding Tryd.prog os ⟨#[.cells #[.string ⟨#[110, 111, 116, 32, 115, 117, 99, 104, 32, 116, 111, 107, 101, 110, 115]⟩] 154, .cells #[.string ⟨#[116, 111, 111, 32, 109, 97, 110, 121]⟩] 154], #[], []⟩
  let put (h : Array Obj) (g : Nat) (cs : Array Value) : Array Obj := h.modify g fun
    | .cells _ t frozen => .cells cs t frozen
    | o => o
  let h0 := put w0.heap 1 #[.iface 132 (.pointer (some ⟨N, 0, none⟩))]
  let h1 := put h0 0 #[.iface 132 (.pointer (some ⟨N + 1, 0, none⟩))]
  let h2 := put h1 2 #[.iface 111 (.agg #[typeHandle Tryd.prog 78])]
  { w0 with heap := h2 }
noncomputable abbrev N0 : Nat := (World.settled Tryd.prog default).heap.size
theorem laid_in (os : Os) (args : Array Value) : LaidIn Tryd.prog ((laidWorld os).forCall (fun _ _ => 0) ⟨#[], args, []⟩).memory [("switchboard/hall.errShape", Rows.laid_switchboard_hall_errShape), ("switchboard/hall.errMany", Rows.laid_switchboard_hall_errMany)] [1, N0, 0, N0 + 1] :=
  LaidIn.of_run [1, N0, 0, N0 + 1] 8 (by kernel_rfl) (by kernel_rfl) (by kernel_rfl) (by kernel_rfl)
theorem laid_met (os : Os) (args : Array Value) : laidMetH Tryd.prog Rows.hallReasonsRow.laid ((laidWorld os).forCall (fun _ _ => 0) ⟨#[], args, []⟩).memory :=
  laidMetH_of_parts (laid_in os args).met (by kernel_rfl)
theorem witness_row (os : Os) {H : Type} (enc : TypeId × Value → H) :
    (OpenSpec.ofChange Rows.hallReasonsSpec).preRow enc Tryd.prog Tryd.f5 Rows.hallReasonsRow.domain false Rows.hallReasonsRow.laid ((laidWorld os).forCall (fun _ _ => 0) ⟨#[], #[.agg #[.int .i64 0, .slice none 0 0], .slice none 0 0, .int .u8 0], []⟩).memory #[.agg #[.int .i64 0, .slice none 0 0], .slice none 0 0, .int .u8 0] := by
  have hw : ((DataW.whole enc Tryd.prog ((laidWorld os).forCall (fun _ _ => 0) ⟨#[], #[.agg #[.int .i64 0, .slice none 0 0], .slice none 0 0, .int .u8 0], []⟩).memory Tryd.f5.params.toList (Rows.hallReasonsSpec).vars false (#[.agg #[.int .i64 0, .slice none 0 0], .slice none 0 0, .int .u8 0] : Array Value).toList 8).map (fun x => (x.1, x.2.1))) = some ([.agg [.lit (.int .i64 0), DataW.nil], DataW.nil, .lit (.int .u8 0)], []) := by kernel_rfl
  obtain ⟨⟨x1, x2, x3⟩, hx, hx1⟩ := Option.map_eq_some_iff.1 hw
  simp only [Prod.mk.injEq] at hx1
  obtain ⟨rfl, rfl⟩ := hx1
  exact OpenSpec.preRow_of_cond 8 hx (by kernel_rfl) (fun k hk => by cases hk) (by kernel_rfl) (laid_met os _)
set_option maxRecDepth 100000 in
theorem lifted (os : Os) (started : os.Started) (H : Type) (enc : TypeId × Value → H) (F : Stop.Interp) :
    ReturnsInHanded {} Tryd.checked os 5 .any ((OpenSpec.ofChange Rows.hallReasonsSpec).preRow enc Tryd.prog Tryd.f5 Rows.hallReasonsRow.domain false Rows.hallReasonsRow.laid) (((OpenSpec.ofChange Rows.hallReasonsSpec).at F).post enc Tryd.prog Tryd.f5 false true false false) := by
  refine returnsInHanded_of_row (C := Tryd.checked) (s := OpenSpec.ofChange Rows.hallReasonsSpec) own started (by kernel_rfl) Tryd.func5 (witness_row_atRef (enc := enc) (C := Tryd.checked) false (laidWorld os) #[.agg #[.int .i64 0, .slice none 0 0], .slice none 0 0, .int .u8 0] rfl (by kernel_rfl) (by kernel_rfl) (by kernel_rfl) (witness_row os enc)) ?_
  intro W base args ds gs before hval0 hW hcnd _ hsz0 hL _ _
  have hsz : (DataW.weightsEach Tryd.prog (Tryd.f5.params.toList ++ Rows.hallReasonsSpec.plain.varTypes Tryd.prog) (ds ++ gs)).all (· ≤ reachBytes) = true := hsz0
  have hval : ∀ (j : Nat) t v, Tryd.f5.params[j]? = some t → args[j]? = some v → Value.okWide Tryd.prog W .any base t v := hval0
  have hW' := hW
  obtain ⟨p, q, hA0, hV, rfl, hfz, hnd⟩ := hW
  have hA : DataW.TrodAll enc Tryd.prog W 0 (fun _ => true) true Tryd.f5.params.toList args.toList ds p := hA0
  rw [Tryd.params5] at hA hval hsz
  obtain ⟨v0, vs0, d0, ds0, p0, q0, hargs, rfl, rfl, h0, r0⟩ := trodAll_cons hA
  obtain ⟨v1, vs1, d1, ds1, p1, q1, rfl, rfl, rfl, h1, r1⟩ := trodAll_cons r0
  obtain ⟨v2, vs2, d2, ds2, p2, q2, rfl, rfl, rfl, h2, r2⟩ := trodAll_cons r1
  obtain ⟨rfl, rfl, rfl⟩ := trodAll_nil r2
  obtain rfl : args = #[v0, v1, v2] := by cases args; simp_all
  obtain ⟨rfl, rfl⟩ := trodVars_none hV
  obtain ⟨ag0, rfl, hs0⟩ := okWide_struct Tryd.underlying55 (hval 0 55 v0 rfl rfl)
  have k0 := h0
  have lt0 : ∀ x ∈ p0, x.block < W.heap.size := by obtain ⟨m, hm⟩ := k0; exact DataW.trod_lt m _ _ _ hm
  obtain ⟨x0, hk0, hg0⟩ : ∃ x, (Kd.pair (Kd.int .i64) (Kd.slice 73 k73)).K W x ag0.toList ∧ ((Lit.int .i64 x.1).wf = true) ∧ (x.2.length ≤ maxLen ∧ ∀ y6 ∈ x.2, (y6.f0.length ≤ maxLen ∧ ∀ y2 ∈ y6.f0, y2.length ≤ maxLen ∧ ∀ y1 ∈ y2, (Lit.int .i64 y1).wf = true) ∧ (y6.f1.length ≤ maxLen ∧ ∀ y4 ∈ y6.f1, (y4.f0.length ≤ maxLen ∧ ∀ y2 ∈ y4.f0, y2.length ≤ maxLen ∧ ∀ y1 ∈ y2, (Lit.int .i64 y1).wf = true) ∧ (y4.f1.length ≤ maxLen ∧ ∀ y2 ∈ y4.f1, y2.length ≤ maxLen ∧ ∀ y1 ∈ y2, (Lit.int .i64 y1).wf = true)) ∧ ((Lit.int .i64 y6.f2).wf = true)) := by
    obtain ⟨fuel, hf⟩ := h0
    exact opens_p55 enc W 0 (fun _ => true) true fuel _ _ hf
  obtain ⟨g0_0, g0_1⟩ := hg0
  obtain ⟨b0_0, t0_0, hag0, hb0_0, ht0_0⟩ := hk0
  obtain rfl := hb0_0
  obtain ⟨A0_1, c0_1, rfl, hc0_1, hr0_1⟩ := ht0_0
  obtain rfl : ag0 = #[.int .i64 x0.1, .slice A0_1 (x0.2).length c0_1] := Array.toList_inj.mp hag0
  obtain ⟨a0_0, l0_1⟩ := x0
  obtain ⟨a1, len1, cap1, rfl⟩ := okWide_slice Tryd.underlying25 (hval 1 25 v1 rfl rfl)
  have k1 := h1
  have lt1 : ∀ x ∈ p1, x.block < W.heap.size := by obtain ⟨m, hm⟩ := k1; exact DataW.trod_lt m _ _ _ hm
  obtain ⟨l1, rfl, hc1, hm1, hr1, hg1⟩ := Open.slice_came Tryd.underlying25 (by kernel_rfl) (Open.opens_slice Tryd.underlying42 (by kernel_rfl) (Open.opens_int Tryd.underlying3)) h1
  obtain ⟨a2, rfl, rfl, rfl, w2⟩ := open_int Tryd.underlying5 (hval 2 5 v2 rfl rfl) h2
  clear hA0 hval0 hsz0 hsz
  obtain ⟨k, hk⟩ := Pure.HallReasons a0_0 l0_1 l1 a2 g0_0 g0_1 hm1 hg1 w2
  refine (switchboardlaw24_HallReasons.calls k a0_0 _ _ l0_1 (fun k_ => k_ < W.heap.size) _ _ l1 a2 W hr0_1 hc0_1 (Kd.V_mk hc1 (Kd.C_F (Kd.heap_slice 3 (Kd.heap_int .i64)) hr1)) (Pq.laidW_of hL) hk).mono ?_
  rintro e W' ⟨rfl, bel⟩
  exact ⟨_, rfl, _, _, _, [], _, [], hW', trodAll_mk1 (shut_bool Tryd.underlying4 _), (trodAll_cons_mk (Below.trod laidOut (by kernel_rfl) (of_decide_eq_true (by kernel_rfl)) k0 bel lt0) (trodAll_cons_mk (Below.trod laidOut (by kernel_rfl) (of_decide_eq_true (by kernel_rfl)) k1 bel lt1) (trodAll_cons_mk (shut_int Tryd.underlying5 w2) trodAll_mk0))), rfl, bel.frame _, fun h => by cases h⟩
theorem over : Rows.HallReasonsSaid :=
  OpenClaim.holds_of_cond 5 Tryd.f5 rfl rfl rfl rfl rfl rfl rfl ⟨rfl, rfl, rfl, rfl, rfl⟩ rfl rfl rfl rfl rfl (by kernel_rfl) Tryd.func5 (by kernel_rfl)
    (of_decide_eq_true (by kernel_rfl)) (by unfold Func.isWrapper; first | (rw [if_pos (by decide +kernel)]; kernel_rfl) | (rw [if_neg (by decide +kernel)]; exact ⟨rfl, rfl⟩))
    (fun os started H enc _ F => by rw [OpenClaim.pre_eq_preRow]; exact lifted os started H enc F)
/-- No parameter wants a stand-in; the program's own looks are off. -/
theorem plain (f : FuncId) (fn : Func) (hf : Tryd.pinned.checked.prog.funcNamed "switchboard/switchboardlaw24.HallReasons" = some f) (hfn : Tryd.pinned.checked.prog.funcs[f]? = some fn) :
    true = Tryd.pinned.checked.prog.looks [] ∧ ∀ (j : Nat) t, fn.params[j]? = some t → Tryd.pinned.checked.prog.wantsStandIn t = false := by
  obtain rfl : f = 5 := Option.some.inj ((show Tryd.prog.funcNamed "switchboard/switchboardlaw24.HallReasons" = some 5 by kernel_rfl).symm.trans hf) |>.symm
  obtain rfl : fn = Tryd.f5 := (Option.some.inj (Tryd.func5.symm.trans hfn)).symm
  refine ⟨by kernel_rfl, fun j t ht => ?_⟩
  rw [Tryd.params5] at ht
  have hm := Array.mem_of_getElem? ht
  simp only [List.mem_toArray, List.mem_cons, List.not_mem_nil, or_false] at hm
  rcases hm with rfl | rfl | rfl
  · exact (show Tryd.prog.wantsStandIn 55 = false by kernel_rfl)
  · exact (show Tryd.prog.wantsStandIn 25 = false by kernel_rfl)
  · exact (show Tryd.prog.wantsStandIn 5 = false by kernel_rfl)
theorem proved : Rows.HallReasonsCardSaid :=
  Claim7.holds_tied_plain_at .later [] _ _ _ _ over (fun _ h => by cases h) (by kernel_rfl) (fun _ h => by cases h) hallReasons_row_tie rfl ⟨rfl, rfl⟩ (by kernel_rfl) rfl plain (by kernel_rfl)
#print axioms proved
end Go.Proofs.YtlbkfeelkdombaaDoor.hallReasons
