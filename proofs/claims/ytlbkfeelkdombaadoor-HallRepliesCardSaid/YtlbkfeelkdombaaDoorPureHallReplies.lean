/- Whatever is finished, replied, and told to wait, of any hall (past 30 entries of 30 rows of 30 numbers the fixed answer alone), is what the document says: the law returns true at every input. -/
import Derived.Test.YtlbkfeelkdombaaDoorPp8
namespace Go.Proofs.YtlbkfeelkdombaaDoor.Pure
open Go.RowKit Go.Proofs.YtlbkfeelkdombaaDoor.Pp Go.Proofs.YtlbkfeelkdombaaDoorW.PrintWords Go.Proofs.YtlbkfeelkdombaaDoorW.PrintLast Go.Proofs.YtlbkfeelkdombaaDoorW.PrintMore
set_option linter.unusedVariables false
set_option linter.unusedSimpArgs false

def HallRepliesPure : Prop := ∀ (l0_0 : List S44) (a1 : Int) (l2 : List (List Int)), (l0_0.length ≤ maxLen ∧ ∀ y4 ∈ l0_0, ((Lit.int .i64 y4.f0).wf = true) ∧ (y4.f1.length ≤ maxLen ∧ ∀ y2 ∈ y4.f1, y2.length ≤ maxLen ∧ ∀ y1 ∈ y2, (Lit.int .i64 y1).wf = true) ∧ (True) ∧ (y4.f3.length ≤ maxLen ∧ ∀ y2 ∈ y4.f3, y2.length ≤ maxLen ∧ ∀ y1 ∈ y2, (Lit.int .i64 y1).wf = true)) → (Lit.int .i64 a1).wf = true → l2.length ≤ maxLen → (∀ y ∈ l2, y.length ≤ maxLen ∧ ∀ y1 ∈ y, (Lit.int .i64 y1).wf = true) → ∃ k, switchboardlaw24_HallReplies.f k l0_0 a1 l2 = some true

theorem HallReplies : HallRepliesPure := by
  unfold HallRepliesPure
  intros
  exact ⟨0, rfl⟩

end Go.Proofs.YtlbkfeelkdombaaDoor.Pure
