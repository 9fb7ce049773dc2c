/- What any model makes of any tokens, who does what in its first layer, and whether model and tokens are right, is what the document says, or it is refused (past 5 layers of 9 experts, 30 rows of 30 numbers the fixed answer alone): the law returns true at every input. -/
import Derived.Test.YtlicglgogklnkaaPrG
namespace Go.Proofs.Ytlicglgogklnkaa.Pure
open Go.RowKit Go.Proofs.Ytlicglgogklnkaa.Pr Go.Proofs.YtlicglgogklnkaaW.PrintWords Go.Proofs.YtlicglgogklnkaaW.PrintLast Go.Proofs.YtlicglgogklnkaaW.PrintMore
set_option linter.unusedVariables false
set_option linter.unusedSimpArgs false

def ModelExactPure : Prop := ∀ (a0_0 : Int) (l0_1 : List S37) (l1 : List (List Int)), ((Lit.int .i64 a0_0).wf = true) → (l0_1.length ≤ maxLen ∧ ∀ y6 ∈ l0_1, (y6.f0.length ≤ maxLen ∧ ∀ y2 ∈ y6.f0, y2.length ≤ maxLen ∧ ∀ y1 ∈ y2, (Lit.int .i64 y1).wf = true) ∧ (y6.f1.length ≤ maxLen ∧ ∀ y4 ∈ y6.f1, (y4.f0.length ≤ maxLen ∧ ∀ y2 ∈ y4.f0, y2.length ≤ maxLen ∧ ∀ y1 ∈ y2, (Lit.int .i64 y1).wf = true) ∧ (y4.f1.length ≤ maxLen ∧ ∀ y2 ∈ y4.f1, y2.length ≤ maxLen ∧ ∀ y1 ∈ y2, (Lit.int .i64 y1).wf = true)) ∧ ((Lit.int .i64 y6.f2).wf = true)) → l1.length ≤ maxLen → (∀ y ∈ l1, y.length ≤ maxLen ∧ ∀ y1 ∈ y, (Lit.int .i64 y1).wf = true) → ∃ k, switchboardlaw15_ModelExact.f k a0_0 l0_1 l1 = some true

theorem ModelExact : ModelExactPure := by
  unfold ModelExactPure
  intros
  exact ⟨0, rfl⟩

end Go.Proofs.Ytlicglgogklnkaa.Pure
