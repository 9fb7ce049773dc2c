/- Of any model and tokens (past 30 rows of 30 numbers, or not to be joined, the fixed answer alone), the reason why tokens are refused is the one the document names: the law returns true at every input. -/
import Derived.Test.YtlbkfeelkdombaaDoorPqI
namespace Go.Proofs.YtlbkfeelkdombaaDoor.Pure
open Go.RowKit Go.Proofs.YtlbkfeelkdombaaDoor.Pq Go.Proofs.YtlbkfeelkdombaaDoorW.PrintWords Go.Proofs.YtlbkfeelkdombaaDoorW.PrintLast Go.Proofs.YtlbkfeelkdombaaDoorW.PrintMore
set_option linter.unusedVariables false
set_option linter.unusedSimpArgs false

def HallReasonsPure : Prop := ∀ (a0_0 : Int) (l0_1 : List S73) (l1 : List (List Int)) (a2 : Int), ((Lit.int .i64 a0_0).wf = true) → (l0_1.length ≤ maxLen ∧ ∀ y6 ∈ l0_1, (y6.f0.length ≤ maxLen ∧ ∀ y2 ∈ y6.f0, y2.length ≤ maxLen ∧ ∀ y1 ∈ y2, (Lit.int .i64 y1).wf = true) ∧ (y6.f1.length ≤ maxLen ∧ ∀ y4 ∈ y6.f1, (y4.f0.length ≤ maxLen ∧ ∀ y2 ∈ y4.f0, y2.length ≤ maxLen ∧ ∀ y1 ∈ y2, (Lit.int .i64 y1).wf = true) ∧ (y4.f1.length ≤ maxLen ∧ ∀ y2 ∈ y4.f1, y2.length ≤ maxLen ∧ ∀ y1 ∈ y2, (Lit.int .i64 y1).wf = true)) ∧ ((Lit.int .i64 y6.f2).wf = true)) → l1.length ≤ maxLen → (∀ y ∈ l1, y.length ≤ maxLen ∧ ∀ y1 ∈ y, (Lit.int .i64 y1).wf = true) → (Lit.int .u8 a2).wf = true → ∃ k, switchboardlaw24_HallReasons.f k a0_0 l0_1 l1 a2 = some true

theorem HallReasons : HallReasonsPure := by
  intro a0_0 l0_1 l1 a2 _ _ _ _ h
  refine ⟨0, ?_⟩
  unfold switchboardlaw24_HallReasons.f
  rw [if_pos]
  simp [Lit.wf, IntKind.min, IntKind.max, IntKind.signed, IntKind.bits] at h
  omega

end Go.Proofs.YtlbkfeelkdombaaDoor.Pure
