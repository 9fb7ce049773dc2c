/- Of any numbers, taken as ids of batches that are admitted to a hall one by one, those that wait are told in the order in which they came, and what is finished is told no more: the law returns true at every input. -/
import Derived.Test.YtlbkfeelkdombaaDoorPh6
namespace Go.Proofs.YtlbkfeelkdombaaDoor.Pure
open Go.RowKit Go.Proofs.YtlbkfeelkdombaaDoor.Ph Go.Proofs.YtlbkfeelkdombaaDoorW.PrintWords Go.Proofs.YtlbkfeelkdombaaDoorW.PrintLast Go.Proofs.YtlbkfeelkdombaaDoorW.PrintMore
set_option linter.unusedVariables false
set_option linter.unusedSimpArgs false

def HallOrderPure : Prop := ∀ (l0 : List Int), l0.length ≤ maxLen → (∀ y ∈ l0, (Lit.int .u16 y).wf = true) → ∃ k, switchboardlaw24_HallOrder.f k l0 = some true

theorem HallOrder : HallOrderPure := by
  intro l0 _ hg
  refine ⟨0, ?_⟩
  unfold switchboardlaw24_HallOrder.f
  rw [if_pos]
  rw [List.all_eq_true]
  intro x hx
  have h := hg x hx
  rw [Bool.and_eq_true, decide_eq_true_eq, decide_eq_true_eq]
  simp [Lit.wf, IntKind.min, IntKind.max, IntKind.signed, IntKind.bits] at h
  omega

end Go.Proofs.YtlbkfeelkdombaaDoor.Pure
