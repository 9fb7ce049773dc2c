/- What any node does with any message is what the document says (past 5 layers of 9 experts, 30 rows of 30 numbers, 60 entries of 30 numbers the fixed answer alone): the law returns true at every input. No condition. -/
import Derived.Test.YtabklpdjjoaocaaQyL
namespace Go.Proofs.Ytabklpdjjoaocaa.Pure
open Go.RowKit Go.Proofs.Ytabklpdjjoaocaa.Qy Go.Proofs.YtabklpdjjoaocaaW.PrintWords Go.Proofs.YtabklpdjjoaocaaW.PrintLast Go.Proofs.YtabklpdjjoaocaaW.PrintMore
set_option linter.unusedVariables false
set_option linter.unusedSimpArgs false

def NodeExactPure : Prop := ∀ (a0_0 : Int) (l0_1 : List S61) (a1_0 : Int) (l1_1 : List (List Int)) (a2 : Int) (l3 : List S39) (a4_0 : Int) (a4_1 : Int) (a4_2 : Int) (a4_3 : Int) (a4_4 : Int) (a4_5 : Int) (a4_6 : Int) (a4_7 : Int) (a4_8 : Int) (a4_9 : Int) (l4_10 : List Int), ((Lit.int .i64 a0_0).wf = true) → (l0_1.length ≤ maxLen ∧ ∀ y6 ∈ l0_1, (y6.f0.length ≤ maxLen ∧ ∀ y2 ∈ y6.f0, y2.length ≤ maxLen ∧ ∀ y1 ∈ y2, (Lit.int .i64 y1).wf = true) ∧ (y6.f1.length ≤ maxLen ∧ ∀ y4 ∈ y6.f1, (y4.f0.length ≤ maxLen ∧ ∀ y2 ∈ y4.f0, y2.length ≤ maxLen ∧ ∀ y1 ∈ y2, (Lit.int .i64 y1).wf = true) ∧ (y4.f1.length ≤ maxLen ∧ ∀ y2 ∈ y4.f1, y2.length ≤ maxLen ∧ ∀ y1 ∈ y2, (Lit.int .i64 y1).wf = true)) ∧ ((Lit.int .i64 y6.f2).wf = true)) → ((Lit.int .i64 a1_0).wf = true) → (l1_1.length ≤ maxLen ∧ ∀ y2 ∈ l1_1, y2.length ≤ maxLen ∧ ∀ y1 ∈ y2, (Lit.int .i64 y1).wf = true) → (Lit.int .i64 a2).wf = true → l3.length ≤ maxLen → (∀ y ∈ l3, (((Lit.int .i64 y.f0.f0).wf = true) ∧ ((Lit.int .i64 y.f0.f1).wf = true) ∧ ((Lit.int .i64 y.f0.f2).wf = true) ∧ ((Lit.int .i64 y.f0.f3).wf = true)) ∧ (y.f1.length ≤ maxLen ∧ ∀ y1 ∈ y.f1, (Lit.int .i64 y1).wf = true)) → ((Lit.int .i64 a4_0).wf = true) → ((Lit.int .i64 a4_1).wf = true) → ((Lit.int .i64 a4_2).wf = true) → ((Lit.int .i64 a4_3).wf = true) → ((Lit.int .i64 a4_4).wf = true) → ((Lit.int .i64 a4_5).wf = true) → ((Lit.int .i64 a4_6).wf = true) → ((Lit.int .i64 a4_7).wf = true) → ((Lit.int .i64 a4_8).wf = true) → ((Lit.int .i64 a4_9).wf = true) → (l4_10.length ≤ maxLen ∧ ∀ y1 ∈ l4_10, (Lit.int .i64 y1).wf = true) → ∃ k, switchboardlaw18_NodeExact.f k a0_0 l0_1 a1_0 l1_1 a2 l3 a4_0 a4_1 a4_2 a4_3 a4_4 a4_5 a4_6 a4_7 a4_8 a4_9 l4_10 = some true

theorem NodeExact : NodeExactPure := by
  unfold NodeExactPure
  intros
  exact ⟨0, rfl⟩

end Go.Proofs.Ytabklpdjjoaocaa.Pure
