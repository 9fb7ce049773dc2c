/- Proved here: of any tokens, entered one by one, the first entry of each stays and is found (all rows of tokens; the first hundred are entered). No condition. -/
import Derived.Test.YtcbngoldidhfmaaPf3
namespace Go.Proofs.Ytcbngoldidhfmaa.Pure
open Go.RowKit Go.Proofs.Ytcbngoldidhfmaa.Pf Go.Proofs.YtcbngoldidhfmaaW.PrintWords Go.Proofs.YtcbngoldidhfmaaW.PrintLast Go.Proofs.YtcbngoldidhfmaaW.PrintMore
set_option linter.unusedVariables false
set_option linter.unusedSimpArgs false

def LedgerFirstPure : Prop := ∀ (l0 : List Int), l0.length ≤ maxLen → (∀ y ∈ l0, (Lit.int .u8 y).wf = true) → ∃ k, switchboardlaw12_LedgerFirst.f k l0 = some true

theorem wf8 {x : Int} (h : (Lit.int .u8 x).wf = true) : 0 ≤ x ∧ x ≤ 255 := by
  simp [Lit.wf, IntKind.min, IntKind.max, IntKind.signed, IntKind.bits] at h
  omega
theorem wf64 {x : Int} (h : (Lit.int .i64 x).wf = true) : -9223372036854775808 ≤ x ∧ x ≤ 9223372036854775807 := by
  simp [Lit.wf, IntKind.min, IntKind.max, IntKind.signed, IntKind.bits] at h
  omega

theorem LedgerFirst : LedgerFirstPure := by
  intro l0 _ hk
  refine ⟨0, ?_⟩
  unfold switchboardlaw12_LedgerFirst.f
  rw [if_pos]
  rw [List.all_eq_true]
  intro x hx
  have := wf8 (hk x hx)
  rw [Bool.and_eq_true, decide_eq_true_eq, decide_eq_true_eq]
  omega

end Go.Proofs.Ytcbngoldidhfmaa.Pure
