/- Proved here: asked for unlike keys a node enters each and tells each its own answer (all models, maps, nodes, messages and keys; past the small ones the fixed answer alone). No condition. -/
import Derived.Test.YtabklpdjjoaocaaQz13
namespace Go.Proofs.Ytabklpdjjoaocaa.Pure
open Go.RowKit Go.Proofs.Ytabklpdjjoaocaa.Qz Go.Proofs.YtabklpdjjoaocaaW.PrintWords Go.Proofs.YtabklpdjjoaocaaW.PrintLast Go.Proofs.YtabklpdjjoaocaaW.PrintMore
set_option linter.unusedVariables false
set_option linter.unusedSimpArgs false

def NodeKeysPure : Prop := ∀ (a0_0 : Int) (l0_1 : List S61) (a1_0 : Int) (l1_1 : List (List Int)) (a2 : Int) (a3_0 : Int) (a3_1 : Int) (a3_2 : Int) (a3_3 : Int) (a3_4 : Int) (a3_5 : Int) (a3_6 : Int) (a3_7 : Int) (a3_8 : Int) (a3_9 : Int) (l3_10 : List Int) (l4 : List S57), ((Lit.int .i64 a0_0).wf = true) → (l0_1.length ≤ maxLen ∧ ∀ y6 ∈ l0_1, (y6.f0.length ≤ maxLen ∧ ∀ y2 ∈ y6.f0, y2.length ≤ maxLen ∧ ∀ y1 ∈ y2, (Lit.int .i64 y1).wf = true) ∧ (y6.f1.length ≤ maxLen ∧ ∀ y4 ∈ y6.f1, (y4.f0.length ≤ maxLen ∧ ∀ y2 ∈ y4.f0, y2.length ≤ maxLen ∧ ∀ y1 ∈ y2, (Lit.int .i64 y1).wf = true) ∧ (y4.f1.length ≤ maxLen ∧ ∀ y2 ∈ y4.f1, y2.length ≤ maxLen ∧ ∀ y1 ∈ y2, (Lit.int .i64 y1).wf = true)) ∧ ((Lit.int .i64 y6.f2).wf = true)) → ((Lit.int .i64 a1_0).wf = true) → (l1_1.length ≤ maxLen ∧ ∀ y2 ∈ l1_1, y2.length ≤ maxLen ∧ ∀ y1 ∈ y2, (Lit.int .i64 y1).wf = true) → (Lit.int .i64 a2).wf = true → ((Lit.int .i64 a3_0).wf = true) → ((Lit.int .i64 a3_1).wf = true) → ((Lit.int .i64 a3_2).wf = true) → ((Lit.int .i64 a3_3).wf = true) → ((Lit.int .i64 a3_4).wf = true) → ((Lit.int .i64 a3_5).wf = true) → ((Lit.int .i64 a3_6).wf = true) → ((Lit.int .i64 a3_7).wf = true) → ((Lit.int .i64 a3_8).wf = true) → ((Lit.int .i64 a3_9).wf = true) → (l3_10.length ≤ maxLen ∧ ∀ y1 ∈ l3_10, (Lit.int .i64 y1).wf = true) → l4.length ≤ maxLen → (∀ y ∈ l4, ((Lit.int .u8 y.f0).wf = true) ∧ ((Lit.int .u8 y.f1).wf = true)) → ∃ k, switchboardlaw18_NodeKeys.f k a0_0 l0_1 a1_0 l1_1 a2 a3_0 a3_1 a3_2 a3_3 a3_4 a3_5 a3_6 a3_7 a3_8 a3_9 l3_10 l4 = some true

theorem wf8 {x : Int} (h : (Lit.int .u8 x).wf = true) : 0 ≤ x ∧ x ≤ 255 := by
  simp [Lit.wf, IntKind.min, IntKind.max, IntKind.signed, IntKind.bits] at h
  omega
theorem wf64 {x : Int} (h : (Lit.int .i64 x).wf = true) : -9223372036854775808 ≤ x ∧ x ≤ 9223372036854775807 := by
  simp [Lit.wf, IntKind.min, IntKind.max, IntKind.signed, IntKind.bits] at h
  omega

theorem NodeKeys : NodeKeysPure := by
  intro a0_0 l0_1 a1_0 l1_1 a2 a3_0 a3_1 a3_2 a3_3 a3_4 a3_5 a3_6 a3_7 a3_8 a3_9 l3_10 l4
  intros
  rename_i hk
  refine ⟨0, ?_⟩
  unfold switchboardlaw18_NodeKeys.f
  rw [if_pos]
  rw [List.all_eq_true]
  intro x hx
  have h0 := wf8 (hk x hx).1
  have h1 := wf8 (hk x hx).2
  simp only [Bool.and_eq_true, decide_eq_true_eq]
  omega

end Go.Proofs.Ytabklpdjjoaocaa.Pure
