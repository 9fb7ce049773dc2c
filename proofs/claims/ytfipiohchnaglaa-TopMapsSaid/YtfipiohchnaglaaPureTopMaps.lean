/- A fleet makes the same tokens of a batch over any two right maps of who holds which expert (past 5 layers of 9 experts, 30 rows of 30 numbers, and where the batch may not go out over one of the maps, the fixed answer alone): the law returns true at every input. No condition. -/
import Derived.Test.YtfipiohchnaglaaPuHf
namespace Go.Proofs.Ytfipiohchnaglaa.Pure
open Go.RowKit Go.Proofs.Ytfipiohchnaglaa.Pu Go.Proofs.YtfipiohchnaglaaW.PrintWords Go.Proofs.YtfipiohchnaglaaW.PrintLast Go.Proofs.YtfipiohchnaglaaW.PrintMore
set_option linter.unusedVariables false
set_option linter.unusedSimpArgs false

def TopMapsPure : Prop := ∀ (a0_0 : Int) (l0_1 : List S31) (a1_0 : Int) (l1_1 : List (List Int)) (a2_0 : Int) (l2_1 : List (List Int)) (l3 : List (List Int)), ((Lit.int .i64 a0_0).wf = true) → (l0_1.length ≤ maxLen ∧ ∀ y6 ∈ l0_1, (y6.f0.length ≤ maxLen ∧ ∀ y2 ∈ y6.f0, y2.length ≤ maxLen ∧ ∀ y1 ∈ y2, (Lit.int .i64 y1).wf = true) ∧ (y6.f1.length ≤ maxLen ∧ ∀ y4 ∈ y6.f1, (y4.f0.length ≤ maxLen ∧ ∀ y2 ∈ y4.f0, y2.length ≤ maxLen ∧ ∀ y1 ∈ y2, (Lit.int .i64 y1).wf = true) ∧ (y4.f1.length ≤ maxLen ∧ ∀ y2 ∈ y4.f1, y2.length ≤ maxLen ∧ ∀ y1 ∈ y2, (Lit.int .i64 y1).wf = true)) ∧ ((Lit.int .i64 y6.f2).wf = true)) → ((Lit.int .i64 a1_0).wf = true) → (l1_1.length ≤ maxLen ∧ ∀ y2 ∈ l1_1, y2.length ≤ maxLen ∧ ∀ y1 ∈ y2, (Lit.int .i64 y1).wf = true) → ((Lit.int .i64 a2_0).wf = true) → (l2_1.length ≤ maxLen ∧ ∀ y2 ∈ l2_1, y2.length ≤ maxLen ∧ ∀ y1 ∈ y2, (Lit.int .i64 y1).wf = true) → l3.length ≤ maxLen → (∀ y ∈ l3, y.length ≤ maxLen ∧ ∀ y1 ∈ y, (Lit.int .i64 y1).wf = true) → ∃ k, switchboardtop_TopMaps.f k a0_0 l0_1 a1_0 l1_1 a2_0 l2_1 l3 = some true

theorem TopMaps : TopMapsPure := by
  unfold TopMapsPure
  intros
  exact ⟨0, rfl⟩

end Go.Proofs.Ytfipiohchnaglaa.Pure
