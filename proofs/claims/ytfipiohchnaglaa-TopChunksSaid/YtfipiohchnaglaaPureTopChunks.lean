/- A model whose experts went out in pieces, and came together again, makes the same of tokens (past 5 layers of 9 experts, 30 rows of 30 numbers the fixed answer alone): the law returns true at every input. No condition. -/
import Derived.Test.YtfipiohchnaglaaPtZ
namespace Go.Proofs.Ytfipiohchnaglaa.Pure
open Go.RowKit Go.Proofs.Ytfipiohchnaglaa.Pt Go.Proofs.YtfipiohchnaglaaW.PrintWords Go.Proofs.YtfipiohchnaglaaW.PrintLast Go.Proofs.YtfipiohchnaglaaW.PrintMore
set_option linter.unusedVariables false
set_option linter.unusedSimpArgs false

def TopChunksPure : Prop := ∀ (a0_0 : Int) (l0_1 : List S31) (l1 : List (List Int)) (a2 : Int), ((Lit.int .i64 a0_0).wf = true) → (l0_1.length ≤ maxLen ∧ ∀ y6 ∈ l0_1, (y6.f0.length ≤ maxLen ∧ ∀ y2 ∈ y6.f0, y2.length ≤ maxLen ∧ ∀ y1 ∈ y2, (Lit.int .i64 y1).wf = true) ∧ (y6.f1.length ≤ maxLen ∧ ∀ y4 ∈ y6.f1, (y4.f0.length ≤ maxLen ∧ ∀ y2 ∈ y4.f0, y2.length ≤ maxLen ∧ ∀ y1 ∈ y2, (Lit.int .i64 y1).wf = true) ∧ (y4.f1.length ≤ maxLen ∧ ∀ y2 ∈ y4.f1, y2.length ≤ maxLen ∧ ∀ y1 ∈ y2, (Lit.int .i64 y1).wf = true)) ∧ ((Lit.int .i64 y6.f2).wf = true)) → l1.length ≤ maxLen → (∀ y ∈ l1, y.length ≤ maxLen ∧ ∀ y1 ∈ y, (Lit.int .i64 y1).wf = true) → (Lit.int .u8 a2).wf = true → ∃ k, switchboardtop_TopChunks.f k a0_0 l0_1 l1 a2 = some true

theorem TopChunks : TopChunksPure := by
  unfold TopChunksPure
  intros
  rename_i hz
  refine ⟨0, if_pos ?_⟩
  simp [Lit.wf, IntKind.min, IntKind.max, IntKind.signed, IntKind.bits] at hz
  omega

end Go.Proofs.Ytfipiohchnaglaa.Pure
