/- Whatever is finished, replied, and told to wait, of any hall (past 30 entries of 30 rows of 30 numbers the fixed answer alone), is what the document says: the law returns true at every input. (The row over the contract, laid by wip/orow.py.) -/
import Derived.Test.YtlbkfeelkdombaaDoorRows
import Derived.Test.YtlbkfeelkdombaaDoorCards
import Derived.Test.YtlbkfeelkdombaaDoorTie
import Derived.Deep.DeepWitnessRowRef
import Derived.LaidLaws
import Derived.LaidHandle
import Derived.Lib.LaidIn
import Derived.SevenTiedAt
import Derived.Test.YtlbkfeelkdombaaDoorPp8
import Derived.Test.YtlbkfeelkdombaaDoorPureHallReplies
import Derived.Test.YtlbkfeelkdombaaDoorOpen
import Derived.Test.YtlbkfeelkdombaaDoorWSized
import Derived.WalkKit
import Derived.ProofKit
import Derived.OpenShut
import Derived.ShutString
import Derived.ChangeOld
import Derived.Below
import Derived.SizedLaws
namespace Go.Proofs.YtlbkfeelkdombaaDoor.hallReplies
open Go.ChangeShapes Go.WideShapes Go.ChangeAt Go.RowKit
open Go.ChangeMaps (open_string shut_string)
open Go.Proofs.YtlbkfeelkdombaaDoor.Pp Go.Proofs.YtlbkfeelkdombaaDoorW.PrintWords
set_option linter.unusedVariables false
set_option maxRecDepth 100000
theorem own : ownKnob Tryd.prog.godebug = none := by kernel_rfl
theorem laidOut : laidOutB Tryd.prog = true := by kernel_rfl
theorem opens_k44 : Open.Opens Tryd.prog 44 k44 (fun x => ((Lit.int .i64 x.f0).wf = true) ∧ (x.f1.length ≤ maxLen ∧ ∀ y2 ∈ x.f1, y2.length ≤ maxLen ∧ ∀ y1 ∈ y2, (Lit.int .i64 y1).wf = true) ∧ (True) ∧ (x.f3.length ≤ maxLen ∧ ∀ y2 ∈ x.f3, y2.length ≤ maxLen ∧ ∀ y1 ∈ y2, (Lit.int .i64 y1).wf = true)) := by
  intro H enc w base spare held fuel cs x h
  obtain ⟨xs, n, _, _, hl, hlen, hf⟩ := DataW.trod_struct Tryd.underlying44 h
  have hl' : cs.length = 4 := hl
  have e0 := hf 0 _ rfl
  rw [List.getElem?_eq_getElem (by rw [hlen]; exact (by decide : 0 < 4))] at e0
  obtain ⟨y0, h0, g0⟩ := (Open.opens_int Tryd.underlying3) enc w base spare held n _ _ e0
  replace h0 : (Kd.int .i64).K w y0 ((cs.drop 0).take 1) := h0
  have e1 := hf 1 _ rfl
  rw [List.getElem?_eq_getElem (by rw [hlen]; exact (by decide : 1 < 4))] at e1
  obtain ⟨y1, h1, g1⟩ := (Open.opens_slice Tryd.underlying25 (by kernel_rfl) (Open.opens_slice Tryd.underlying42 (by kernel_rfl) (Open.opens_int Tryd.underlying3))) enc w base spare held n _ _ e1
  replace h1 : (Kd.slice 42 (Kd.slice 3 (Kd.int .i64))).K w y1 ((cs.drop 1).take 1) := h1
  have e2 := hf 2 _ rfl
  rw [List.getElem?_eq_getElem (by rw [hlen]; exact (by decide : 2 < 4))] at e2
  obtain ⟨y2, h2, g2⟩ := (Open.opens_bool Tryd.underlying4) enc w base spare held n _ _ e2
  replace h2 : Kd.bool.K w y2 ((cs.drop 2).take 1) := h2
  have e3 := hf 3 _ rfl
  rw [List.getElem?_eq_getElem (by rw [hlen]; exact (by decide : 3 < 4))] at e3
  obtain ⟨y3, h3, g3⟩ := (Open.opens_slice Tryd.underlying25 (by kernel_rfl) (Open.opens_slice Tryd.underlying42 (by kernel_rfl) (Open.opens_int Tryd.underlying3))) enc w base spare held n _ _ e3
  replace h3 : (Kd.slice 42 (Kd.slice 3 (Kd.int .i64))).K w y3 ((cs.drop 3).take 1) := h3
  have hw : cs = (cs.drop 0).take 1 ++ ((cs.drop 1).take 1 ++ ((cs.drop 2).take 1 ++ ((cs.drop 3).take 1))) := by
    match cs, hl' with
    | [c0, c1, c2, c3], _ => rfl
  refine ⟨⟨y0, y1, y2, y3⟩, ?_, g0, g1, g2, g3⟩
  show (k44).K w _ cs
  rw [hw]
  exact ⟨_, _, rfl, h0, ⟨_, _, rfl, h1, ⟨_, _, rfl, h2, h3⟩⟩⟩
theorem opens_p24 : Open.Opens Tryd.prog 24 (Kd.slice 44 k44) (fun x => (x.length ≤ maxLen ∧ ∀ y4 ∈ x, ((Lit.int .i64 y4.f0).wf = true) ∧ (y4.f1.length ≤ maxLen ∧ ∀ y2 ∈ y4.f1, y2.length ≤ maxLen ∧ ∀ y1 ∈ y2, (Lit.int .i64 y1).wf = true) ∧ (True) ∧ (y4.f3.length ≤ maxLen ∧ ∀ y2 ∈ y4.f3, y2.length ≤ maxLen ∧ ∀ y1 ∈ y2, (Lit.int .i64 y1).wf = true))) := by
  intro H enc w base spare held fuel cs x h
  obtain ⟨xs, n, _, _, hl, hlen, hf⟩ := DataW.trod_struct Tryd.underlying24 h
  have hl' : cs.length = 1 := hl
  have e0 := hf 0 _ rfl
  rw [List.getElem?_eq_getElem (by rw [hlen]; exact (by decide : 0 < 1))] at e0
  obtain ⟨y0, h0, g0⟩ := (Open.opens_slice Tryd.underlying22 (by kernel_rfl) opens_k44) enc w base spare held n _ _ e0
  replace h0 : (Kd.slice 44 k44).K w y0 ((cs.drop 0).take 1) := h0
  have hw : cs = (cs.drop 0).take 1 := by
    match cs, hl' with
    | [c0], _ => rfl
  refine ⟨y0, ?_, g0⟩
  show ((Kd.slice 44 k44)).K w _ cs
  rw [hw]
  exact h0
/-- A world for the witness: the settled one with two blocks more (the two errors' texts), the three variables holding what their initialisers lay. -/
noncomputable def laidWorld (os : Os) : World :=
  let N := (World.settled Tryd.prog os).heap.size
  let w0 := World.holding Tryd.prog os ⟨#[.cells #[.string ⟨#[110, 111, 116, 32, 115, 117, 99, 104, 32, 116, 111, 107, 101, 110, 115]⟩] 154, .cells #[.string ⟨#[116, 111, 111, 32, 109, 97, 110, 121]⟩] 154], #[], []⟩
  let put (h : Array Obj) (g : Nat) (cs : Array Value) : Array Obj := h.modify g fun
    | .cells _ t frozen => .cells cs t frozen
    | o => o
  let h0 := put w0.heap 1 #[.iface 132 (.pointer (some ⟨N, 0, none⟩))]
  let h1 := put h0 0 #[.iface 132 (.pointer (some ⟨N + 1, 0, none⟩))]
  let h2 := put h1 2 #[.iface 111 (.agg #[typeHandle Tryd.prog 78])]
  { w0 with heap := h2 }
noncomputable abbrev N0 : Nat := (World.settled Tryd.prog default).heap.size
theorem laid_in (os : Os) (args : Array Value) : LaidIn Tryd.prog ((laidWorld os).forCall (fun _ _ => 0) ⟨#[], args, []⟩).memory [("switchboard/hall.errShape", Rows.laid_switchboard_hall_errShape), ("switchboard/hall.errMany", Rows.laid_switchboard_hall_errMany)] [1, N0, 0, N0 + 1] :=
  LaidIn.of_run [1, N0, 0, N0 + 1] 8 (by kernel_rfl) (by kernel_rfl) (by kernel_rfl) (by kernel_rfl)
theorem laid_met (os : Os) (args : Array Value) : laidMetH Tryd.prog Rows.hallRepliesRow.laid ((laidWorld os).forCall (fun _ _ => 0) ⟨#[], args, []⟩).memory :=
  laidMetH_of_parts (laid_in os args).met (by kernel_rfl)
theorem witness_row (os : Os) {H : Type} (enc : TypeId × Value → H) :
    (OpenSpec.ofChange Rows.hallRepliesSpec).preRow enc Tryd.prog Tryd.f3 Rows.hallRepliesRow.domain false Rows.hallRepliesRow.laid ((laidWorld os).forCall (fun _ _ => 0) ⟨#[], #[.agg #[.slice none 0 0], .int .i64 0, .slice none 0 0], []⟩).memory #[.agg #[.slice none 0 0], .int .i64 0, .slice none 0 0] := by
  have hw : ((DataW.whole enc Tryd.prog ((laidWorld os).forCall (fun _ _ => 0) ⟨#[], #[.agg #[.slice none 0 0], .int .i64 0, .slice none 0 0], []⟩).memory Tryd.f3.params.toList (Rows.hallRepliesSpec).vars false (#[.agg #[.slice none 0 0], .int .i64 0, .slice none 0 0] : Array Value).toList 8).map (fun x => (x.1, x.2.1))) = some ([.agg [DataW.nil], .lit (.int .i64 0), DataW.nil], []) := by kernel_rfl
  obtain ⟨⟨x1, x2, x3⟩, hx, hx1⟩ := Option.map_eq_some_iff.1 hw
  simp only [Prod.mk.injEq] at hx1
  obtain ⟨rfl, rfl⟩ := hx1
  exact OpenSpec.preRow_of_cond 8 hx (by kernel_rfl) (fun k hk => by cases hk) (by kernel_rfl) (laid_met os _)
set_option maxRecDepth 100000 in
theorem lifted (os : Os) (started : os.Started) (H : Type) (enc : TypeId × Value → H) (F : Stop.Interp) :
    ReturnsInHanded {} Tryd.checked os 3 .any ((OpenSpec.ofChange Rows.hallRepliesSpec).preRow enc Tryd.prog Tryd.f3 Rows.hallRepliesRow.domain false Rows.hallRepliesRow.laid) (((OpenSpec.ofChange Rows.hallRepliesSpec).at F).post enc Tryd.prog Tryd.f3 false true false false) := by
  refine returnsInHanded_of_row (C := Tryd.checked) (s := OpenSpec.ofChange Rows.hallRepliesSpec) own started (by kernel_rfl) Tryd.func3 (witness_row_atRef (enc := enc) (C := Tryd.checked) false (laidWorld os) #[.agg #[.slice none 0 0], .int .i64 0, .slice none 0 0] rfl (by kernel_rfl) (by kernel_rfl) (by kernel_rfl) (witness_row os enc)) ?_
  intro W base args ds gs before hval0 hW hcnd _ hsz0 hL _ _
  have hsz : (DataW.weightsEach Tryd.prog (Tryd.f3.params.toList ++ Rows.hallRepliesSpec.plain.varTypes Tryd.prog) (ds ++ gs)).all (· ≤ reachBytes) = true := hsz0
  have hval : ∀ (j : Nat) t v, Tryd.f3.params[j]? = some t → args[j]? = some v → Value.okWide Tryd.prog W .any base t v := hval0
  have hW' := hW
  obtain ⟨p, q, hA0, hV, rfl, hfz, hnd⟩ := hW
  have hA : DataW.TrodAll enc Tryd.prog W 0 (fun _ => true) true Tryd.f3.params.toList args.toList ds p := hA0
  rw [Tryd.params3] at hA hval hsz
  obtain ⟨v0, vs0, d0, ds0, p0, q0, hargs, rfl, rfl, h0, r0⟩ := trodAll_cons hA
  obtain ⟨v1, vs1, d1, ds1, p1, q1, rfl, rfl, rfl, h1, r1⟩ := trodAll_cons r0
  obtain ⟨v2, vs2, d2, ds2, p2, q2, rfl, rfl, rfl, h2, r2⟩ := trodAll_cons r1
  obtain ⟨rfl, rfl, rfl⟩ := trodAll_nil r2
  obtain rfl : args = #[v0, v1, v2] := by cases args; simp_all
  obtain ⟨rfl, rfl⟩ := trodVars_none hV
  obtain ⟨ag0, rfl, hs0⟩ := okWide_struct Tryd.underlying24 (hval 0 24 v0 rfl rfl)
  have k0 := h0
  have lt0 : ∀ x ∈ p0, x.block < W.heap.size := by obtain ⟨m, hm⟩ := k0; exact DataW.trod_lt m _ _ _ hm
  obtain ⟨x0, hk0, hg0⟩ : ∃ x, (Kd.slice 44 k44).K W x ag0.toList ∧ (x.length ≤ maxLen ∧ ∀ y4 ∈ x, ((Lit.int .i64 y4.f0).wf = true) ∧ (y4.f1.length ≤ maxLen ∧ ∀ y2 ∈ y4.f1, y2.length ≤ maxLen ∧ ∀ y1 ∈ y2, (Lit.int .i64 y1).wf = true) ∧ (True) ∧ (y4.f3.length ≤ maxLen ∧ ∀ y2 ∈ y4.f3, y2.length ≤ maxLen ∧ ∀ y1 ∈ y2, (Lit.int .i64 y1).wf = true)) := by
    obtain ⟨fuel, hf⟩ := h0
    exact opens_p24 enc W 0 (fun _ => true) true fuel _ _ hf
  have g0_0 := hg0
  obtain ⟨A0_0, c0_0, hag0, hc0_0, hr0_0⟩ := hk0
  obtain rfl : ag0 = #[.slice A0_0 (x0).length c0_0] := Array.toList_inj.mp hag0
  obtain ⟨l0_0, rfl⟩ : ∃ y_, y_ = x0 := ⟨_, rfl⟩
  obtain ⟨a1, rfl, rfl, rfl, w1⟩ := open_int Tryd.underlying3 (hval 1 3 v1 rfl rfl) h1
  obtain ⟨a2, len2, cap2, rfl⟩ := okWide_slice Tryd.underlying25 (hval 2 25 v2 rfl rfl)
  have k2 := h2
  have lt2 : ∀ x ∈ p2, x.block < W.heap.size := by obtain ⟨m, hm⟩ := k2; exact DataW.trod_lt m _ _ _ hm
  obtain ⟨l2, rfl, hc2, hm2, hr2, hg2⟩ := Open.slice_came Tryd.underlying25 (by kernel_rfl) (Open.opens_slice Tryd.underlying42 (by kernel_rfl) (Open.opens_int Tryd.underlying3)) h2
  clear hA0 hval0 hsz0 hsz
  obtain ⟨k, hk⟩ := Pure.HallReplies l0_0 a1 l2 g0_0 w1 hm2 hg2
  refine (switchboardlaw24_HallReplies.calls k (fun k_ => k_ < W.heap.size) _ _ l0_0 a1 (fun k_ => k_ < W.heap.size) _ _ l2 W (Kd.V_mk hc0_0 (Kd.C_F k44_heap hr0_0)) (Kd.V_mk hc2 (Kd.C_F (Kd.heap_slice 3 (Kd.heap_int .i64)) hr2)) hk).mono ?_
  rintro e W' ⟨rfl, bel⟩
  exact ⟨_, rfl, _, _, _, [], _, [], hW', trodAll_mk1 (shut_bool Tryd.underlying4 _), (trodAll_cons_mk (Below.trod laidOut (by kernel_rfl) (of_decide_eq_true (by kernel_rfl)) k0 bel lt0) (trodAll_cons_mk (shut_int Tryd.underlying3 w1) (trodAll_cons_mk (Below.trod laidOut (by kernel_rfl) (of_decide_eq_true (by kernel_rfl)) k2 bel lt2) trodAll_mk0))), rfl, bel.frame _, fun h => by cases h⟩
theorem over : Rows.HallRepliesSaid :=
  OpenClaim.holds_of_cond 3 Tryd.f3 rfl rfl rfl rfl rfl rfl rfl ⟨rfl, rfl, rfl, rfl, rfl⟩ rfl rfl rfl rfl rfl (by kernel_rfl) Tryd.func3 (by kernel_rfl)
    (of_decide_eq_true (by kernel_rfl)) (by unfold Func.isWrapper; first | (rw [if_pos (by decide +kernel)]; kernel_rfl) | (rw [if_neg (by decide +kernel)]; exact ⟨rfl, rfl⟩))
    (fun os started H enc _ F => by rw [OpenClaim.pre_eq_preRow]; exact lifted os started H enc F)
/-- No parameter wants a stand-in; the program's own looks are off. -/
theorem plain (f : FuncId) (fn : Func) (hf : Tryd.pinned.checked.prog.funcNamed "switchboard/switchboardlaw24.HallReplies" = some f) (hfn : Tryd.pinned.checked.prog.funcs[f]? = some fn) :
    true = Tryd.pinned.checked.prog.looks [] ∧ ∀ (j : Nat) t, fn.params[j]? = some t → Tryd.pinned.checked.prog.wantsStandIn t = false := by
  obtain rfl : f = 3 := Option.some.inj ((show Tryd.prog.funcNamed "switchboard/switchboardlaw24.HallReplies" = some 3 by kernel_rfl).symm.trans hf) |>.symm
  obtain rfl : fn = Tryd.f3 := (Option.some.inj (Tryd.func3.symm.trans hfn)).symm
  refine ⟨by kernel_rfl, fun j t ht => ?_⟩
  rw [Tryd.params3] at ht
  have hm := Array.mem_of_getElem? ht
  simp only [List.mem_toArray, List.mem_cons, List.not_mem_nil, or_false] at hm
  rcases hm with rfl | rfl | rfl
  · exact (show Tryd.prog.wantsStandIn 24 = false by kernel_rfl)
  · exact (show Tryd.prog.wantsStandIn 3 = false by kernel_rfl)
  · exact (show Tryd.prog.wantsStandIn 25 = false by kernel_rfl)
theorem proved : Rows.HallRepliesCardSaid :=
  Claim7.holds_tied_plain_at .later [] _ _ _ _ over (fun _ h => by cases h) (by kernel_rfl) (fun _ h => by cases h) hallReplies_row_tie rfl ⟨rfl, rfl⟩ (by kernel_rfl) rfl plain (by kernel_rfl)
#print axioms proved
end Go.Proofs.YtlbkfeelkdombaaDoor.hallReplies
