/- What any node does with any message is what the document says (past 5 layers of 9 experts, 30 rows of 30 numbers, 60 entries of 30 numbers the fixed answer alone): the law returns true at every input. No condition. (The row over the contract, laid by wip/orow.py.) -/
import Derived.Test.YtabklpdjjoaocaaRows
import Derived.Test.YtabklpdjjoaocaaQyL
import Derived.Test.YtabklpdjjoaocaaPureNodeExact
import Derived.Test.YtabklpdjjoaocaaOpen
import Derived.Test.YtabklpdjjoaocaaWSized
import Derived.WalkKit
import Derived.ProofKit
import Derived.OpenShut
import Derived.ShutString
import Derived.ChangeOld
import Derived.Below
import Derived.SizedLaws
namespace Go.Proofs.Ytabklpdjjoaocaa.nodeExact
open Go.ChangeShapes Go.WideShapes Go.ChangeAt Go.RowKit
open Go.ChangeMaps (open_string shut_string)
open Go.Proofs.Ytabklpdjjoaocaa.Qy Go.Proofs.YtabklpdjjoaocaaW.PrintWords
set_option linter.unusedVariables false
set_option maxRecDepth 100000
theorem own : ownKnob Try.prog.godebug = none := by kernel_rfl
theorem laidOut : laidOutB Try.prog = true := by kernel_rfl
theorem opens_k63 : Open.Opens Try.prog 63 k63 (fun x => (x.f0.length ≤ maxLen ∧ ∀ y2 ∈ x.f0, y2.length ≤ maxLen ∧ ∀ y1 ∈ y2, (Lit.int .i64 y1).wf = true) ∧ (x.f1.length ≤ maxLen ∧ ∀ y2 ∈ x.f1, y2.length ≤ maxLen ∧ ∀ y1 ∈ y2, (Lit.int .i64 y1).wf = true)) := by
  intro H enc w base spare held fuel cs x h
  obtain ⟨xs, n, _, _, hl, hlen, hf⟩ := DataW.trod_struct Try.underlying63 h
  have hl' : cs.length = 2 := hl
  have e0 := hf 0 _ rfl
  rw [List.getElem?_eq_getElem (by rw [hlen]; exact (by decide : 0 < 2))] at e0
  obtain ⟨y0, h0, g0⟩ := (Open.opens_slice Try.underlying25 (by kernel_rfl) (Open.opens_slice Try.underlying29 (by kernel_rfl) (Open.opens_int Try.underlying3))) enc w base spare held n _ _ e0
  replace h0 : (Kd.slice 29 (Kd.slice 3 (Kd.int .i64))).K w y0 ((cs.drop 0).take 1) := h0
  have e1 := hf 1 _ rfl
  rw [List.getElem?_eq_getElem (by rw [hlen]; exact (by decide : 1 < 2))] at e1
  obtain ⟨y1, h1, g1⟩ := (Open.opens_slice Try.underlying25 (by kernel_rfl) (Open.opens_slice Try.underlying29 (by kernel_rfl) (Open.opens_int Try.underlying3))) enc w base spare held n _ _ e1
  replace h1 : (Kd.slice 29 (Kd.slice 3 (Kd.int .i64))).K w y1 ((cs.drop 1).take 1) := h1
  have hw : cs = (cs.drop 0).take 1 ++ ((cs.drop 1).take 1) := by
    match cs, hl' with
    | [c0, c1], _ => rfl
  refine ⟨⟨y0, y1⟩, ?_, g0, g1⟩
  show (k63).K w _ cs
  rw [hw]
  exact ⟨_, _, rfl, h0, h1⟩
theorem opens_k61 : Open.Opens Try.prog 61 k61 (fun x => (x.f0.length ≤ maxLen ∧ ∀ y2 ∈ x.f0, y2.length ≤ maxLen ∧ ∀ y1 ∈ y2, (Lit.int .i64 y1).wf = true) ∧ (x.f1.length ≤ maxLen ∧ ∀ y4 ∈ x.f1, (y4.f0.length ≤ maxLen ∧ ∀ y2 ∈ y4.f0, y2.length ≤ maxLen ∧ ∀ y1 ∈ y2, (Lit.int .i64 y1).wf = true) ∧ (y4.f1.length ≤ maxLen ∧ ∀ y2 ∈ y4.f1, y2.length ≤ maxLen ∧ ∀ y1 ∈ y2, (Lit.int .i64 y1).wf = true)) ∧ ((Lit.int .i64 x.f2).wf = true)) := by
  intro H enc w base spare held fuel cs x h
  obtain ⟨xs, n, _, _, hl, hlen, hf⟩ := DataW.trod_struct Try.underlying61 h
  have hl' : cs.length = 3 := hl
  have e0 := hf 0 _ rfl
  rw [List.getElem?_eq_getElem (by rw [hlen]; exact (by decide : 0 < 3))] at e0
  obtain ⟨y0, h0, g0⟩ := (Open.opens_slice Try.underlying25 (by kernel_rfl) (Open.opens_slice Try.underlying29 (by kernel_rfl) (Open.opens_int Try.underlying3))) enc w base spare held n _ _ e0
  replace h0 : (Kd.slice 29 (Kd.slice 3 (Kd.int .i64))).K w y0 ((cs.drop 0).take 1) := h0
  have e1 := hf 1 _ rfl
  rw [List.getElem?_eq_getElem (by rw [hlen]; exact (by decide : 1 < 3))] at e1
  obtain ⟨y1, h1, g1⟩ := (Open.opens_slice Try.underlying59 (by kernel_rfl) opens_k63) enc w base spare held n _ _ e1
  replace h1 : (Kd.slice 63 k63).K w y1 ((cs.drop 1).take 1) := h1
  have e2 := hf 2 _ rfl
  rw [List.getElem?_eq_getElem (by rw [hlen]; exact (by decide : 2 < 3))] at e2
  obtain ⟨y2, h2, g2⟩ := (Open.opens_int Try.underlying3) enc w base spare held n _ _ e2
  replace h2 : (Kd.int .i64).K w y2 ((cs.drop 2).take 1) := h2
  have hw : cs = (cs.drop 0).take 1 ++ ((cs.drop 1).take 1 ++ ((cs.drop 2).take 1)) := by
    match cs, hl' with
    | [c0, c1, c2], _ => rfl
  refine ⟨⟨y0, y1, y2⟩, ?_, g0, g1, g2⟩
  show (k61).K w _ cs
  rw [hw]
  exact ⟨_, _, rfl, h0, ⟨_, _, rfl, h1, h2⟩⟩
theorem opens_p24 : Open.Opens Try.prog 24 (Kd.pair (Kd.int .i64) (Kd.slice 61 k61)) (fun x => ((Lit.int .i64 x.1).wf = true) ∧ (x.2.length ≤ maxLen ∧ ∀ y6 ∈ x.2, (y6.f0.length ≤ maxLen ∧ ∀ y2 ∈ y6.f0, y2.length ≤ maxLen ∧ ∀ y1 ∈ y2, (Lit.int .i64 y1).wf = true) ∧ (y6.f1.length ≤ maxLen ∧ ∀ y4 ∈ y6.f1, (y4.f0.length ≤ maxLen ∧ ∀ y2 ∈ y4.f0, y2.length ≤ maxLen ∧ ∀ y1 ∈ y2, (Lit.int .i64 y1).wf = true) ∧ (y4.f1.length ≤ maxLen ∧ ∀ y2 ∈ y4.f1, y2.length ≤ maxLen ∧ ∀ y1 ∈ y2, (Lit.int .i64 y1).wf = true)) ∧ ((Lit.int .i64 y6.f2).wf = true))) := by
  intro H enc w base spare held fuel cs x h
  obtain ⟨xs, n, _, _, hl, hlen, hf⟩ := DataW.trod_struct Try.underlying24 h
  have hl' : cs.length = 2 := hl
  have e0 := hf 0 _ rfl
  rw [List.getElem?_eq_getElem (by rw [hlen]; exact (by decide : 0 < 2))] at e0
  obtain ⟨y0, h0, g0⟩ := (Open.opens_int Try.underlying3) enc w base spare held n _ _ e0
  replace h0 : (Kd.int .i64).K w y0 ((cs.drop 0).take 1) := h0
  have e1 := hf 1 _ rfl
  rw [List.getElem?_eq_getElem (by rw [hlen]; exact (by decide : 1 < 2))] at e1
  obtain ⟨y1, h1, g1⟩ := (Open.opens_slice Try.underlying22 (by kernel_rfl) opens_k61) enc w base spare held n _ _ e1
  replace h1 : (Kd.slice 61 k61).K w y1 ((cs.drop 1).take 1) := h1
  have hw : cs = (cs.drop 0).take 1 ++ ((cs.drop 1).take 1) := by
    match cs, hl' with
    | [c0, c1], _ => rfl
  refine ⟨⟨y0, y1⟩, ?_, g0, g1⟩
  show ((Kd.pair (Kd.int .i64) (Kd.slice 61 k61))).K w _ cs
  rw [hw]
  exact ⟨_, _, rfl, h0, h1⟩
theorem opens_p27 : Open.Opens Try.prog 27 (Kd.pair (Kd.int .i64) (Kd.slice 29 (Kd.slice 3 (Kd.int .i64)))) (fun x => ((Lit.int .i64 x.1).wf = true) ∧ (x.2.length ≤ maxLen ∧ ∀ y2 ∈ x.2, y2.length ≤ maxLen ∧ ∀ y1 ∈ y2, (Lit.int .i64 y1).wf = true)) := by
  intro H enc w base spare held fuel cs x h
  obtain ⟨xs, n, _, _, hl, hlen, hf⟩ := DataW.trod_struct Try.underlying27 h
  have hl' : cs.length = 2 := hl
  have e0 := hf 0 _ rfl
  rw [List.getElem?_eq_getElem (by rw [hlen]; exact (by decide : 0 < 2))] at e0
  obtain ⟨y0, h0, g0⟩ := (Open.opens_int Try.underlying3) enc w base spare held n _ _ e0
  replace h0 : (Kd.int .i64).K w y0 ((cs.drop 0).take 1) := h0
  have e1 := hf 1 _ rfl
  rw [List.getElem?_eq_getElem (by rw [hlen]; exact (by decide : 1 < 2))] at e1
  obtain ⟨y1, h1, g1⟩ := (Open.opens_slice Try.underlying25 (by kernel_rfl) (Open.opens_slice Try.underlying29 (by kernel_rfl) (Open.opens_int Try.underlying3))) enc w base spare held n _ _ e1
  replace h1 : (Kd.slice 29 (Kd.slice 3 (Kd.int .i64))).K w y1 ((cs.drop 1).take 1) := h1
  have hw : cs = (cs.drop 0).take 1 ++ ((cs.drop 1).take 1) := by
    match cs, hl' with
    | [c0, c1], _ => rfl
  refine ⟨⟨y0, y1⟩, ?_, g0, g1⟩
  show ((Kd.pair (Kd.int .i64) (Kd.slice 29 (Kd.slice 3 (Kd.int .i64))))).K w _ cs
  rw [hw]
  exact ⟨_, _, rfl, h0, h1⟩
theorem opens_k37 : Open.Opens Try.prog 37 k37 (fun x => ((Lit.int .i64 x.f0).wf = true) ∧ ((Lit.int .i64 x.f1).wf = true) ∧ ((Lit.int .i64 x.f2).wf = true) ∧ ((Lit.int .i64 x.f3).wf = true)) := by
  intro H enc w base spare held fuel cs x h
  obtain ⟨xs, n, _, _, hl, hlen, hf⟩ := DataW.trod_struct Try.underlying37 h
  have hl' : cs.length = 4 := hl
  have e0 := hf 0 _ rfl
  rw [List.getElem?_eq_getElem (by rw [hlen]; exact (by decide : 0 < 4))] at e0
  obtain ⟨y0, h0, g0⟩ := (Open.opens_int Try.underlying3) enc w base spare held n _ _ e0
  replace h0 : (Kd.int .i64).K w y0 ((cs.drop 0).take 1) := h0
  have e1 := hf 1 _ rfl
  rw [List.getElem?_eq_getElem (by rw [hlen]; exact (by decide : 1 < 4))] at e1
  obtain ⟨y1, h1, g1⟩ := (Open.opens_int Try.underlying3) enc w base spare held n _ _ e1
  replace h1 : (Kd.int .i64).K w y1 ((cs.drop 1).take 1) := h1
  have e2 := hf 2 _ rfl
  rw [List.getElem?_eq_getElem (by rw [hlen]; exact (by decide : 2 < 4))] at e2
  obtain ⟨y2, h2, g2⟩ := (Open.opens_int Try.underlying3) enc w base spare held n _ _ e2
  replace h2 : (Kd.int .i64).K w y2 ((cs.drop 2).take 1) := h2
  have e3 := hf 3 _ rfl
  rw [List.getElem?_eq_getElem (by rw [hlen]; exact (by decide : 3 < 4))] at e3
  obtain ⟨y3, h3, g3⟩ := (Open.opens_int Try.underlying3) enc w base spare held n _ _ e3
  replace h3 : (Kd.int .i64).K w y3 ((cs.drop 3).take 1) := h3
  have hw : cs = (cs.drop 0).take 1 ++ ((cs.drop 1).take 1 ++ ((cs.drop 2).take 1 ++ ((cs.drop 3).take 1))) := by
    match cs, hl' with
    | [c0, c1, c2, c3], _ => rfl
  refine ⟨⟨y0, y1, y2, y3⟩, ?_, g0, g1, g2, g3⟩
  show (k37).K w _ cs
  rw [hw]
  exact ⟨_, _, rfl, h0, ⟨_, _, rfl, h1, ⟨_, _, rfl, h2, h3⟩⟩⟩
theorem opens_k39 : Open.Opens Try.prog 39 k39 (fun x => (((Lit.int .i64 x.f0.f0).wf = true) ∧ ((Lit.int .i64 x.f0.f1).wf = true) ∧ ((Lit.int .i64 x.f0.f2).wf = true) ∧ ((Lit.int .i64 x.f0.f3).wf = true)) ∧ (x.f1.length ≤ maxLen ∧ ∀ y1 ∈ x.f1, (Lit.int .i64 y1).wf = true)) := by
  intro H enc w base spare held fuel cs x h
  obtain ⟨xs, n, _, _, hl, hlen, hf⟩ := DataW.trod_struct Try.underlying39 h
  have hl' : cs.length = 5 := hl
  have e0 := hf 0 _ rfl
  rw [List.getElem?_eq_getElem (by rw [hlen]; exact (by decide : 0 < 2))] at e0
  obtain ⟨y0, h0, g0⟩ := opens_k37 enc w base spare held n _ _ e0
  replace h0 : k37.K w y0 ((cs.drop 0).take 4) := h0
  have e1 := hf 1 _ rfl
  rw [List.getElem?_eq_getElem (by rw [hlen]; exact (by decide : 1 < 2))] at e1
  obtain ⟨y1, h1, g1⟩ := (Open.opens_slice Try.underlying29 (by kernel_rfl) (Open.opens_int Try.underlying3)) enc w base spare held n _ _ e1
  replace h1 : (Kd.slice 3 (Kd.int .i64)).K w y1 ((cs.drop 4).take 1) := h1
  have hw : cs = (cs.drop 0).take 4 ++ ((cs.drop 4).take 1) := by
    match cs, hl' with
    | [c0, c1, c2, c3, c4], _ => rfl
  refine ⟨⟨y0, y1⟩, ?_, g0, g1⟩
  show (k39).K w _ cs
  rw [hw]
  exact ⟨_, _, rfl, h0, h1⟩
theorem opens_p31 : Open.Opens Try.prog 31 (Kd.pair (Kd.int .i64) (Kd.pair (Kd.int .i64) (Kd.pair (Kd.int .i64) (Kd.pair (Kd.int .i64) (Kd.pair (Kd.int .i64) (Kd.pair (Kd.int .i64) (Kd.pair (Kd.int .i64) (Kd.pair (Kd.int .i64) (Kd.pair (Kd.int .i64) (Kd.pair (Kd.int .i64) (Kd.slice 3 (Kd.int .i64)))))))))))) (fun x => ((Lit.int .i64 x.1).wf = true) ∧ ((Lit.int .i64 x.2.1).wf = true) ∧ ((Lit.int .i64 x.2.2.1).wf = true) ∧ ((Lit.int .i64 x.2.2.2.1).wf = true) ∧ ((Lit.int .i64 x.2.2.2.2.1).wf = true) ∧ ((Lit.int .i64 x.2.2.2.2.2.1).wf = true) ∧ ((Lit.int .i64 x.2.2.2.2.2.2.1).wf = true) ∧ ((Lit.int .i64 x.2.2.2.2.2.2.2.1).wf = true) ∧ ((Lit.int .i64 x.2.2.2.2.2.2.2.2.1).wf = true) ∧ ((Lit.int .i64 x.2.2.2.2.2.2.2.2.2.1).wf = true) ∧ (x.2.2.2.2.2.2.2.2.2.2.length ≤ maxLen ∧ ∀ y1 ∈ x.2.2.2.2.2.2.2.2.2.2, (Lit.int .i64 y1).wf = true)) := by
  intro H enc w base spare held fuel cs x h
  obtain ⟨xs, n, _, _, hl, hlen, hf⟩ := DataW.trod_struct Try.underlying31 h
  have hl' : cs.length = 11 := hl
  have e0 := hf 0 _ rfl
  rw [List.getElem?_eq_getElem (by rw [hlen]; exact (by decide : 0 < 11))] at e0
  obtain ⟨y0, h0, g0⟩ := (Open.opens_int Try.underlying3) enc w base spare held n _ _ e0
  replace h0 : (Kd.int .i64).K w y0 ((cs.drop 0).take 1) := h0
  have e1 := hf 1 _ rfl
  rw [List.getElem?_eq_getElem (by rw [hlen]; exact (by decide : 1 < 11))] at e1
  obtain ⟨y1, h1, g1⟩ := (Open.opens_int Try.underlying3) enc w base spare held n _ _ e1
  replace h1 : (Kd.int .i64).K w y1 ((cs.drop 1).take 1) := h1
  have e2 := hf 2 _ rfl
  rw [List.getElem?_eq_getElem (by rw [hlen]; exact (by decide : 2 < 11))] at e2
  obtain ⟨y2, h2, g2⟩ := (Open.opens_int Try.underlying3) enc w base spare held n _ _ e2
  replace h2 : (Kd.int .i64).K w y2 ((cs.drop 2).take 1) := h2
  have e3 := hf 3 _ rfl
  rw [List.getElem?_eq_getElem (by rw [hlen]; exact (by decide : 3 < 11))] at e3
  obtain ⟨y3, h3, g3⟩ := (Open.opens_int Try.underlying3) enc w base spare held n _ _ e3
  replace h3 : (Kd.int .i64).K w y3 ((cs.drop 3).take 1) := h3
  have e4 := hf 4 _ rfl
  rw [List.getElem?_eq_getElem (by rw [hlen]; exact (by decide : 4 < 11))] at e4
  obtain ⟨y4, h4, g4⟩ := (Open.opens_int Try.underlying3) enc w base spare held n _ _ e4
  replace h4 : (Kd.int .i64).K w y4 ((cs.drop 4).take 1) := h4
  have e5 := hf 5 _ rfl
  rw [List.getElem?_eq_getElem (by rw [hlen]; exact (by decide : 5 < 11))] at e5
  obtain ⟨y5, h5, g5⟩ := (Open.opens_int Try.underlying3) enc w base spare held n _ _ e5
  replace h5 : (Kd.int .i64).K w y5 ((cs.drop 5).take 1) := h5
  have e6 := hf 6 _ rfl
  rw [List.getElem?_eq_getElem (by rw [hlen]; exact (by decide : 6 < 11))] at e6
  obtain ⟨y6, h6, g6⟩ := (Open.opens_int Try.underlying3) enc w base spare held n _ _ e6
  replace h6 : (Kd.int .i64).K w y6 ((cs.drop 6).take 1) := h6
  have e7 := hf 7 _ rfl
  rw [List.getElem?_eq_getElem (by rw [hlen]; exact (by decide : 7 < 11))] at e7
  obtain ⟨y7, h7, g7⟩ := (Open.opens_int Try.underlying3) enc w base spare held n _ _ e7
  replace h7 : (Kd.int .i64).K w y7 ((cs.drop 7).take 1) := h7
  have e8 := hf 8 _ rfl
  rw [List.getElem?_eq_getElem (by rw [hlen]; exact (by decide : 8 < 11))] at e8
  obtain ⟨y8, h8, g8⟩ := (Open.opens_int Try.underlying3) enc w base spare held n _ _ e8
  replace h8 : (Kd.int .i64).K w y8 ((cs.drop 8).take 1) := h8
  have e9 := hf 9 _ rfl
  rw [List.getElem?_eq_getElem (by rw [hlen]; exact (by decide : 9 < 11))] at e9
  obtain ⟨y9, h9, g9⟩ := (Open.opens_int Try.underlying3) enc w base spare held n _ _ e9
  replace h9 : (Kd.int .i64).K w y9 ((cs.drop 9).take 1) := h9
  have e10 := hf 10 _ rfl
  rw [List.getElem?_eq_getElem (by rw [hlen]; exact (by decide : 10 < 11))] at e10
  obtain ⟨y10, h10, g10⟩ := (Open.opens_slice Try.underlying29 (by kernel_rfl) (Open.opens_int Try.underlying3)) enc w base spare held n _ _ e10
  replace h10 : (Kd.slice 3 (Kd.int .i64)).K w y10 ((cs.drop 10).take 1) := h10
  have hw : cs = (cs.drop 0).take 1 ++ ((cs.drop 1).take 1 ++ ((cs.drop 2).take 1 ++ ((cs.drop 3).take 1 ++ ((cs.drop 4).take 1 ++ ((cs.drop 5).take 1 ++ ((cs.drop 6).take 1 ++ ((cs.drop 7).take 1 ++ ((cs.drop 8).take 1 ++ ((cs.drop 9).take 1 ++ ((cs.drop 10).take 1)))))))))) := by
    match cs, hl' with
    | [c0, c1, c2, c3, c4, c5, c6, c7, c8, c9, c10], _ => rfl
  refine ⟨⟨y0, y1, y2, y3, y4, y5, y6, y7, y8, y9, y10⟩, ?_, g0, g1, g2, g3, g4, g5, g6, g7, g8, g9, g10⟩
  show ((Kd.pair (Kd.int .i64) (Kd.pair (Kd.int .i64) (Kd.pair (Kd.int .i64) (Kd.pair (Kd.int .i64) (Kd.pair (Kd.int .i64) (Kd.pair (Kd.int .i64) (Kd.pair (Kd.int .i64) (Kd.pair (Kd.int .i64) (Kd.pair (Kd.int .i64) (Kd.pair (Kd.int .i64) (Kd.slice 3 (Kd.int .i64))))))))))))).K w _ cs
  rw [hw]
  exact ⟨_, _, rfl, h0, ⟨_, _, rfl, h1, ⟨_, _, rfl, h2, ⟨_, _, rfl, h3, ⟨_, _, rfl, h4, ⟨_, _, rfl, h5, ⟨_, _, rfl, h6, ⟨_, _, rfl, h7, ⟨_, _, rfl, h8, ⟨_, _, rfl, h9, h10⟩⟩⟩⟩⟩⟩⟩⟩⟩⟩
set_option maxRecDepth 100000 in
theorem lifted (os : Os) (started : os.Started) (H : Type) (enc : TypeId × Value → H) :
    ReturnsInHanded {} Try.checked os 3 .any (Rows.nodeExactSpec.pre6 enc Try.prog Try.f3 Rows.nodeExactRow.domain false) (Rows.nodeExactSpec.post enc Try.prog Try.f3 false true false false) := by
  refine returnsInHanded_of_change_sized (C := Try.checked) own started (by kernel_rfl) Try.func3
    (ChangeSpec.witness6 (enc := enc) (C := Try.checked) false ⟨#[], #[.agg #[.int .i64 0, .slice none 0 0], .agg #[.int .i64 0, .slice none 0 0], .int .i64 0, .slice none 0 0, .agg #[.int .i64 0, .int .i64 0, .int .i64 0, .int .i64 0, .int .i64 0, .int .i64 0, .int .i64 0, .int .i64 0, .int .i64 0, .int .i64 0, .slice none 0 0]], []⟩ 8 (by kernel_rfl) (by kernel_rfl) (by kernel_rfl) (by kernel_rfl)) ?_
  intro W base args ds gs before hval0 hW hcnd hsz0 _
  have hsz : (DataW.weightsEach Try.prog (Try.f3.params.toList ++ Rows.nodeExactSpec.plain.varTypes Try.prog) (ds ++ gs)).all (· ≤ reachBytes) = true := hsz0
  have hval : ∀ (j : Nat) t v, Try.f3.params[j]? = some t → args[j]? = some v → Value.okWide Try.prog W .any base t v := hval0
  have hW' := hW
  obtain ⟨p, q, hA0, hV, rfl, hfz, hnd⟩ := hW
  have hA : DataW.TrodAll enc Try.prog W 0 (fun _ => true) true Try.f3.params.toList args.toList ds p := hA0
  rw [Try.params3] at hA hval hsz
  obtain ⟨v0, vs0, d0, ds0, p0, q0, hargs, rfl, rfl, h0, r0⟩ := trodAll_cons hA
  obtain ⟨v1, vs1, d1, ds1, p1, q1, rfl, rfl, rfl, h1, r1⟩ := trodAll_cons r0
  obtain ⟨v2, vs2, d2, ds2, p2, q2, rfl, rfl, rfl, h2, r2⟩ := trodAll_cons r1
  obtain ⟨v3, vs3, d3, ds3, p3, q3, rfl, rfl, rfl, h3, r3⟩ := trodAll_cons r2
  obtain ⟨v4, vs4, d4, ds4, p4, q4, rfl, rfl, rfl, h4, r4⟩ := trodAll_cons r3
  obtain ⟨rfl, rfl, rfl⟩ := trodAll_nil r4
  obtain rfl : args = #[v0, v1, v2, v3, v4] := by cases args; simp_all
  obtain ⟨rfl, rfl⟩ := trodVars_none hV
  obtain ⟨ag0, rfl, hs0⟩ := okWide_struct Try.underlying24 (hval 0 24 v0 rfl rfl)
  have k0 := h0
  have lt0 : ∀ x ∈ p0, x.block < W.heap.size := by obtain ⟨m, hm⟩ := k0; exact DataW.trod_lt m _ _ _ hm
  obtain ⟨x0, hk0, hg0⟩ : ∃ x, (Kd.pair (Kd.int .i64) (Kd.slice 61 k61)).K W x ag0.toList ∧ ((Lit.int .i64 x.1).wf = true) ∧ (x.2.length ≤ maxLen ∧ ∀ y6 ∈ x.2, (y6.f0.length ≤ maxLen ∧ ∀ y2 ∈ y6.f0, y2.length ≤ maxLen ∧ ∀ y1 ∈ y2, (Lit.int .i64 y1).wf = true) ∧ (y6.f1.length ≤ maxLen ∧ ∀ y4 ∈ y6.f1, (y4.f0.length ≤ maxLen ∧ ∀ y2 ∈ y4.f0, y2.length ≤ maxLen ∧ ∀ y1 ∈ y2, (Lit.int .i64 y1).wf = true) ∧ (y4.f1.length ≤ maxLen ∧ ∀ y2 ∈ y4.f1, y2.length ≤ maxLen ∧ ∀ y1 ∈ y2, (Lit.int .i64 y1).wf = true)) ∧ ((Lit.int .i64 y6.f2).wf = true)) := by
    obtain ⟨fuel, hf⟩ := h0
    exact opens_p24 enc W 0 (fun _ => true) true fuel _ _ hf
  obtain ⟨g0_0, g0_1⟩ := hg0
  obtain ⟨b0_0, t0_0, hag0, hb0_0, ht0_0⟩ := hk0
  obtain rfl := hb0_0
  obtain ⟨A0_1, c0_1, rfl, hc0_1, hr0_1⟩ := ht0_0
  obtain rfl : ag0 = #[.int .i64 x0.1, .slice A0_1 (x0.2).length c0_1] := Array.toList_inj.mp hag0
  obtain ⟨a0_0, l0_1⟩ := x0
  obtain ⟨ag1, rfl, hs1⟩ := okWide_struct Try.underlying27 (hval 1 27 v1 rfl rfl)
  have k1 := h1
  have lt1 : ∀ x ∈ p1, x.block < W.heap.size := by obtain ⟨m, hm⟩ := k1; exact DataW.trod_lt m _ _ _ hm
  obtain ⟨x1, hk1, hg1⟩ : ∃ x, (Kd.pair (Kd.int .i64) (Kd.slice 29 (Kd.slice 3 (Kd.int .i64)))).K W x ag1.toList ∧ ((Lit.int .i64 x.1).wf = true) ∧ (x.2.length ≤ maxLen ∧ ∀ y2 ∈ x.2, y2.length ≤ maxLen ∧ ∀ y1 ∈ y2, (Lit.int .i64 y1).wf = true) := by
    obtain ⟨fuel, hf⟩ := h1
    exact opens_p27 enc W 0 (fun _ => true) true fuel _ _ hf
  obtain ⟨g1_0, g1_1⟩ := hg1
  obtain ⟨b1_0, t1_0, hag1, hb1_0, ht1_0⟩ := hk1
  obtain rfl := hb1_0
  obtain ⟨A1_1, c1_1, rfl, hc1_1, hr1_1⟩ := ht1_0
  obtain rfl : ag1 = #[.int .i64 x1.1, .slice A1_1 (x1.2).length c1_1] := Array.toList_inj.mp hag1
  obtain ⟨a1_0, l1_1⟩ := x1
  obtain ⟨a2, rfl, rfl, rfl, w2⟩ := open_int Try.underlying3 (hval 2 3 v2 rfl rfl) h2
  obtain ⟨a3, len3, cap3, rfl⟩ := okWide_slice Try.underlying28 (hval 3 28 v3 rfl rfl)
  have k3 := h3
  have lt3 : ∀ x ∈ p3, x.block < W.heap.size := by obtain ⟨m, hm⟩ := k3; exact DataW.trod_lt m _ _ _ hm
  obtain ⟨l3, rfl, hc3, hm3, hr3, hg3⟩ := Open.slice_came Try.underlying28 (by kernel_rfl) opens_k39 h3
  obtain ⟨ag4, rfl, hs4⟩ := okWide_struct Try.underlying31 (hval 4 31 v4 rfl rfl)
  have k4 := h4
  have lt4 : ∀ x ∈ p4, x.block < W.heap.size := by obtain ⟨m, hm⟩ := k4; exact DataW.trod_lt m _ _ _ hm
  obtain ⟨x4, hk4, hg4⟩ : ∃ x, (Kd.pair (Kd.int .i64) (Kd.pair (Kd.int .i64) (Kd.pair (Kd.int .i64) (Kd.pair (Kd.int .i64) (Kd.pair (Kd.int .i64) (Kd.pair (Kd.int .i64) (Kd.pair (Kd.int .i64) (Kd.pair (Kd.int .i64) (Kd.pair (Kd.int .i64) (Kd.pair (Kd.int .i64) (Kd.slice 3 (Kd.int .i64)))))))))))).K W x ag4.toList ∧ ((Lit.int .i64 x.1).wf = true) ∧ ((Lit.int .i64 x.2.1).wf = true) ∧ ((Lit.int .i64 x.2.2.1).wf = true) ∧ ((Lit.int .i64 x.2.2.2.1).wf = true) ∧ ((Lit.int .i64 x.2.2.2.2.1).wf = true) ∧ ((Lit.int .i64 x.2.2.2.2.2.1).wf = true) ∧ ((Lit.int .i64 x.2.2.2.2.2.2.1).wf = true) ∧ ((Lit.int .i64 x.2.2.2.2.2.2.2.1).wf = true) ∧ ((Lit.int .i64 x.2.2.2.2.2.2.2.2.1).wf = true) ∧ ((Lit.int .i64 x.2.2.2.2.2.2.2.2.2.1).wf = true) ∧ (x.2.2.2.2.2.2.2.2.2.2.length ≤ maxLen ∧ ∀ y1 ∈ x.2.2.2.2.2.2.2.2.2.2, (Lit.int .i64 y1).wf = true) := by
    obtain ⟨fuel, hf⟩ := h4
    exact opens_p31 enc W 0 (fun _ => true) true fuel _ _ hf
  obtain ⟨g4_0, g4_1, g4_2, g4_3, g4_4, g4_5, g4_6, g4_7, g4_8, g4_9, g4_10⟩ := hg4
  obtain ⟨b4_0, t4_0, hag4, hb4_0, ht4_0⟩ := hk4
  obtain ⟨b4_1, t4_1, rfl, hb4_1, ht4_1⟩ := ht4_0
  obtain ⟨b4_2, t4_2, rfl, hb4_2, ht4_2⟩ := ht4_1
  obtain ⟨b4_3, t4_3, rfl, hb4_3, ht4_3⟩ := ht4_2
  obtain ⟨b4_4, t4_4, rfl, hb4_4, ht4_4⟩ := ht4_3
  obtain ⟨b4_5, t4_5, rfl, hb4_5, ht4_5⟩ := ht4_4
  obtain ⟨b4_6, t4_6, rfl, hb4_6, ht4_6⟩ := ht4_5
  obtain ⟨b4_7, t4_7, rfl, hb4_7, ht4_7⟩ := ht4_6
  obtain ⟨b4_8, t4_8, rfl, hb4_8, ht4_8⟩ := ht4_7
  obtain ⟨b4_9, t4_9, rfl, hb4_9, ht4_9⟩ := ht4_8
  obtain rfl := hb4_0
  obtain rfl := hb4_1
  obtain rfl := hb4_2
  obtain rfl := hb4_3
  obtain rfl := hb4_4
  obtain rfl := hb4_5
  obtain rfl := hb4_6
  obtain rfl := hb4_7
  obtain rfl := hb4_8
  obtain rfl := hb4_9
  obtain ⟨A4_10, c4_10, rfl, hc4_10, hr4_10⟩ := ht4_9
  obtain rfl : ag4 = #[.int .i64 x4.1, .int .i64 x4.2.1, .int .i64 x4.2.2.1, .int .i64 x4.2.2.2.1, .int .i64 x4.2.2.2.2.1, .int .i64 x4.2.2.2.2.2.1, .int .i64 x4.2.2.2.2.2.2.1, .int .i64 x4.2.2.2.2.2.2.2.1, .int .i64 x4.2.2.2.2.2.2.2.2.1, .int .i64 x4.2.2.2.2.2.2.2.2.2.1, .slice A4_10 (x4.2.2.2.2.2.2.2.2.2.2).length c4_10] := Array.toList_inj.mp hag4
  obtain ⟨a4_0, a4_1, a4_2, a4_3, a4_4, a4_5, a4_6, a4_7, a4_8, a4_9, l4_10⟩ := x4
  clear hA0 hval0 hsz0 hsz
  obtain ⟨k, hk⟩ := Pure.NodeExact a0_0 l0_1 a1_0 l1_1 a2 l3 a4_0 a4_1 a4_2 a4_3 a4_4 a4_5 a4_6 a4_7 a4_8 a4_9 l4_10 g0_0 g0_1 g1_0 g1_1 w2 hm3 hg3 g4_0 g4_1 g4_2 g4_3 g4_4 g4_5 g4_6 g4_7 g4_8 g4_9 g4_10
  refine (switchboardlaw18_NodeExact.calls k a0_0 _ _ l0_1 a1_0 _ _ l1_1 a2 (fun k_ => k_ < W.heap.size) _ _ l3 a4_0 a4_1 a4_2 a4_3 a4_4 a4_5 a4_6 a4_7 a4_8 a4_9 _ _ l4_10 W hr0_1 hc0_1 hr1_1 hc1_1 (Kd.V_mk hc3 (Kd.C_F k39_heap hr3)) hr4_10 hc4_10 hk).mono ?_
  rintro e W' ⟨rfl, bel⟩
  exact ⟨_, rfl, _, _, _, [], _, [], hW', trodAll_mk1 (shut_bool Try.underlying4 _), (trodAll_cons_mk (Below.trod laidOut (by kernel_rfl) (of_decide_eq_true (by kernel_rfl)) k0 bel lt0) (trodAll_cons_mk (Below.trod laidOut (by kernel_rfl) (of_decide_eq_true (by kernel_rfl)) k1 bel lt1) (trodAll_cons_mk (shut_int Try.underlying3 w2) (trodAll_cons_mk (Below.trod laidOut (by kernel_rfl) (of_decide_eq_true (by kernel_rfl)) k3 bel lt3) (trodAll_cons_mk (Below.trod laidOut (by kernel_rfl) (of_decide_eq_true (by kernel_rfl)) k4 bel lt4) trodAll_mk0))))), rfl, bel.frame _, fun h => by cases h⟩
theorem over : Rows.nodeExactRow.holds Try.pinned (OpenSpec.ofChange Rows.nodeExactSpec) :=
  OpenClaim.holds_of_wide 3 Try.f3 rfl rfl rfl rfl rfl rfl rfl ⟨rfl, rfl, rfl, rfl, rfl⟩ rfl rfl rfl rfl rfl (by kernel_rfl) Try.func3 (by kernel_rfl)
    (of_decide_eq_true (by kernel_rfl)) (by unfold Func.isWrapper; first | (rw [if_pos (by decide +kernel)]; kernel_rfl) | (rw [if_neg (by decide +kernel)]; exact ⟨rfl, rfl⟩))
    (fun os started H enc _ => lifted os started H enc)
theorem proved : Rows.NodeExactSaid := over
#print axioms proved
end Go.Proofs.Ytabklpdjjoaocaa.nodeExact
