/- Whatever is admitted to a hall and finished in it, in any order, what is finished is replied, what waits is told to wait, what else is there does not turn, and no more than four wait: the law returns true at every input. -/
import Derived.Test.YtlbkfeelkdombaaDoorPh8
namespace Go.Proofs.YtlbkfeelkdombaaDoor.Pure
open Go.RowKit Go.Proofs.YtlbkfeelkdombaaDoor.Ph Go.Proofs.YtlbkfeelkdombaaDoorW.PrintWords Go.Proofs.YtlbkfeelkdombaaDoorW.PrintLast Go.Proofs.YtlbkfeelkdombaaDoorW.PrintMore
set_option linter.unusedVariables false
set_option linter.unusedSimpArgs false

def HallKeepsPure : Prop := ∀ (l0 : List Int), l0.length ≤ maxLen → (∀ y ∈ l0, (Lit.int .u8 y).wf = true) → ∃ k, switchboardlaw24_HallKeeps.f k l0 = some true

theorem HallKeeps : HallKeepsPure := by
  intro l0 _ hg
  refine ⟨0, ?_⟩
  unfold switchboardlaw24_HallKeeps.f
  rw [if_pos]
  rw [List.all_eq_true]
  intro x hx
  have h := hg x hx
  rw [Bool.and_eq_true, decide_eq_true_eq, decide_eq_true_eq]
  simp [Lit.wf, IntKind.min, IntKind.max, IntKind.signed, IntKind.bits] at h
  omega

end Go.Proofs.YtlbkfeelkdombaaDoor.Pure
