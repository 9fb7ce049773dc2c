/-
  No cell of these rows narrows 'for every input' (looked for: loops, veiled, ifaces, maps, wideKeys, modest, calm, conditions, laid).
  DERIVED. THE GIVEN ROWS OF THIS SEAT. 5 by the template 'for every input the law returns true; each argument reads behind the call as it read before'; 0 by the template 'total and deterministic' (their statements: YtjhekeddpjhimaaTotals.lean).
  GIVEN WITH THE SEED: the statements are not yours to turn. If you find one false, say at which input.
  Laid BY PROGRAM, IN A SANDBOX (cutbox-rows.mjs): the forced cells as the released guide's own fill.sh prints them over the translation 46b7241427948a2a… (all of the seat's roots in one cut). By AI agents, Wed Nov 11 2026. No macro, syntax, notation, axiom, sorry.
-/
import Derived.Test.YtjhekeddpjhimaaChecked
import GoSem.Claim
import GoSem.ClaimJoined
import GoSem.ClaimMapViews
import Derived.JoinedTies
import Derived.KernelRfl
namespace Go.Proofs.Ytjhekeddpjhimaa
/- THE CELL 'sum', in the pinned program and in every row, IS THE sha256 OF THE DUMP (.gsa) THAT YtjhekeddpjhimaaProg.lean LOADS. Nothing in Lean hashes anything: it is a label: what it is worth is what the hold of that sum in a sandbox is worth. -/
noncomputable def Try.pinned : Pinned := { name := "ytjhekeddpjhimaa", sum := "46b7241427948a2a0e3e186d75b5c29c5cc3cd701a4e3e49af96c19b582dc8d5", checked := Try.checked }
namespace Rows
def none {H : Type} : Left H := { results := [], args := [] }

/-- 'switchboardlaw04.TopExact': WHATEVER THE INPUT: true; the input reads as it did. -/
def topExactSpec : ChangeSpec := { name := "topExact", fn := fun _ => fun
  | [d] => { results := [.lit (.bool true)], args := [d] }
  | _ => none }
def topExactRow : OpenClaim := { program := "ytjhekeddpjhimaa", sum := "46b7241427948a2a0e3e186d75b5c29c5cc3cd701a4e3e49af96c19b582dc8d5", func := "switchboard/switchboardlaw04.TopExact", spec := "topExact", apart := false }
def TopExactSaid : Prop := topExactRow.holds Try.pinned (OpenSpec.ofChange topExactSpec)

/-- ITS FALSE NEIGHBOUR: 'it returns false'. Refute it at one input. -/
def topExactWrong : ChangeSpec := { name := "topExact", fn := fun _ => fun
  | [d] => { results := [.lit (.bool false)], args := [d] }
  | _ => none }
def TopExactWrongFalsely : Prop := topExactRow.holds Try.pinned (OpenSpec.ofChange topExactWrong)

/-- 'switchboardlaw04.TopAbove': WHATEVER THE INPUT: true; the input reads as it did. -/
def topAboveSpec : ChangeSpec := { name := "topAbove", fn := fun _ => fun
  | [d] => { results := [.lit (.bool true)], args := [d] }
  | _ => none }
def topAboveRow : OpenClaim := { program := "ytjhekeddpjhimaa", sum := "46b7241427948a2a0e3e186d75b5c29c5cc3cd701a4e3e49af96c19b582dc8d5", func := "switchboard/switchboardlaw04.TopAbove", spec := "topAbove", apart := false }
def TopAboveSaid : Prop := topAboveRow.holds Try.pinned (OpenSpec.ofChange topAboveSpec)

/-- ITS FALSE NEIGHBOUR: 'it returns false'. Refute it at one input. -/
def topAboveWrong : ChangeSpec := { name := "topAbove", fn := fun _ => fun
  | [d] => { results := [.lit (.bool false)], args := [d] }
  | _ => none }
def TopAboveWrongFalsely : Prop := topAboveRow.holds Try.pinned (OpenSpec.ofChange topAboveWrong)

/-- 'switchboardlaw04.TopMore': WHATEVER THE INPUT: true; the input reads as it did. -/
def topMoreSpec : ChangeSpec := { name := "topMore", fn := fun _ => fun
  | [d] => { results := [.lit (.bool true)], args := [d] }
  | _ => none }
def topMoreRow : OpenClaim := { program := "ytjhekeddpjhimaa", sum := "46b7241427948a2a0e3e186d75b5c29c5cc3cd701a4e3e49af96c19b582dc8d5", func := "switchboard/switchboardlaw04.TopMore", spec := "topMore", apart := false }
def TopMoreSaid : Prop := topMoreRow.holds Try.pinned (OpenSpec.ofChange topMoreSpec)

/-- ITS FALSE NEIGHBOUR: 'it returns false'. Refute it at one input. -/
def topMoreWrong : ChangeSpec := { name := "topMore", fn := fun _ => fun
  | [d] => { results := [.lit (.bool false)], args := [d] }
  | _ => none }
def TopMoreWrongFalsely : Prop := topMoreRow.holds Try.pinned (OpenSpec.ofChange topMoreWrong)

/-- 'switchboardlaw04.TopShift': WHATEVER THE INPUT: true; the input reads as it did. -/
def topShiftSpec : ChangeSpec := { name := "topShift", fn := fun _ => fun
  | [d1, d2] => { results := [.lit (.bool true)], args := [d1, d2] }
  | _ => none }
def topShiftRow : OpenClaim := { program := "ytjhekeddpjhimaa", sum := "46b7241427948a2a0e3e186d75b5c29c5cc3cd701a4e3e49af96c19b582dc8d5", func := "switchboard/switchboardlaw04.TopShift", spec := "topShift", apart := false }
def TopShiftSaid : Prop := topShiftRow.holds Try.pinned (OpenSpec.ofChange topShiftSpec)

/-- ITS FALSE NEIGHBOUR: 'it returns false'. Refute it at one input. -/
def topShiftWrong : ChangeSpec := { name := "topShift", fn := fun _ => fun
  | [d1, d2] => { results := [.lit (.bool false)], args := [d1, d2] }
  | _ => none }
def TopShiftWrongFalsely : Prop := topShiftRow.holds Try.pinned (OpenSpec.ofChange topShiftWrong)

/-- 'switchboardlaw04.TopJoin': WHATEVER THE INPUT: true; the input reads as it did. -/
def topJoinSpec : ChangeSpec := { name := "topJoin", fn := fun _ => fun
  | [d1, d2] => { results := [.lit (.bool true)], args := [d1, d2] }
  | _ => none }
def topJoinRow : OpenClaim := { program := "ytjhekeddpjhimaa", sum := "46b7241427948a2a0e3e186d75b5c29c5cc3cd701a4e3e49af96c19b582dc8d5", func := "switchboard/switchboardlaw04.TopJoin", spec := "topJoin", apart := false }
def TopJoinSaid : Prop := topJoinRow.holds Try.pinned (OpenSpec.ofChange topJoinSpec)

/-- ITS FALSE NEIGHBOUR: 'it returns false'. Refute it at one input. -/
def topJoinWrong : ChangeSpec := { name := "topJoin", fn := fun _ => fun
  | [d1, d2] => { results := [.lit (.bool false)], args := [d1, d2] }
  | _ => none }
def TopJoinWrongFalsely : Prop := topJoinRow.holds Try.pinned (OpenSpec.ofChange topJoinWrong)

/- THE SECOND FORM. 'bulk': how many values and letters a reading holds, each counted each time it is reached (what is shared counts as often as it is met; a slice's spare places count too). A statement '..UptoSaid' is the law's where the arguments, and the package variables that the reading takes, are together of bulk at most 1048576: NARROWER than '..Said'. Prove '..Said' where nothing that the law and all that it calls make is longer than what came in: it says more and counts as full. Else prove '..UptoSaid'. A law counts once. -/
mutual
def uptoBulk {H : Type} : DataW H → Nat
  | .lit (.string bytes) => bytes.length + 1
  | .lit _ => 1
  | .nil => 1
  | .ptr d => uptoBulk d + 1
  | .slice elems spare => uptoBulkAll elems + uptoBulkAll spare + 1
  | .agg parts => uptoBulkAll parts + 1
  | .iface _ d => uptoBulk d + 1
  | .map entries => uptoBulkEntries entries + 1
  | .held _ => 1
def uptoBulkAll {H : Type} : List (DataW H) → Nat
  | [] => 0
  | d :: r => uptoBulk d + uptoBulkAll r
def uptoBulkEntries {H : Type} : List (Lit × DataW H) → Nat
  | [] => 0
  | x :: r => uptoBulkEntry x + uptoBulkEntries r
def uptoBulkEntry {H : Type} : Lit × DataW H → Nat
  | (.string bytes, d) => bytes.length + uptoBulk d + 1
  | (_, d) => uptoBulk d + 1
 end
def uptoSmall : (H : Type) → List (DataW H) → Bool := fun _ ds => decide (uptoBulkAll ds ≤ 1048576)
def OpenSpec.upto (s : _root_.Go.ChangeSpec) : _root_.Go.OpenSpec := { _root_.Go.OpenSpec.ofChange s with cond := some uptoSmall }

/-- 'switchboardlaw04.TopExact', WHERE WHAT IT READS IS OF BULK AT MOST 1048576: true; the input reads as it did. -/
def topExactUptoRow : OpenClaim := { program := "ytjhekeddpjhimaa", sum := "46b7241427948a2a0e3e186d75b5c29c5cc3cd701a4e3e49af96c19b582dc8d5", func := "switchboard/switchboardlaw04.TopExact", spec := "topExact", apart := false, narrowed := true }
def TopExactUptoSaid : Prop := topExactUptoRow.holds Try.pinned (OpenSpec.upto topExactSpec)

/-- 'switchboardlaw04.TopAbove', WHERE WHAT IT READS IS OF BULK AT MOST 1048576: true; the input reads as it did. -/
def topAboveUptoRow : OpenClaim := { program := "ytjhekeddpjhimaa", sum := "46b7241427948a2a0e3e186d75b5c29c5cc3cd701a4e3e49af96c19b582dc8d5", func := "switchboard/switchboardlaw04.TopAbove", spec := "topAbove", apart := false, narrowed := true }
def TopAboveUptoSaid : Prop := topAboveUptoRow.holds Try.pinned (OpenSpec.upto topAboveSpec)

/-- 'switchboardlaw04.TopMore', WHERE WHAT IT READS IS OF BULK AT MOST 1048576: true; the input reads as it did. -/
def topMoreUptoRow : OpenClaim := { program := "ytjhekeddpjhimaa", sum := "46b7241427948a2a0e3e186d75b5c29c5cc3cd701a4e3e49af96c19b582dc8d5", func := "switchboard/switchboardlaw04.TopMore", spec := "topMore", apart := false, narrowed := true }
def TopMoreUptoSaid : Prop := topMoreUptoRow.holds Try.pinned (OpenSpec.upto topMoreSpec)

/-- 'switchboardlaw04.TopShift', WHERE WHAT IT READS IS OF BULK AT MOST 1048576: true; the input reads as it did. -/
def topShiftUptoRow : OpenClaim := { program := "ytjhekeddpjhimaa", sum := "46b7241427948a2a0e3e186d75b5c29c5cc3cd701a4e3e49af96c19b582dc8d5", func := "switchboard/switchboardlaw04.TopShift", spec := "topShift", apart := false, narrowed := true }
def TopShiftUptoSaid : Prop := topShiftUptoRow.holds Try.pinned (OpenSpec.upto topShiftSpec)

/-- 'switchboardlaw04.TopJoin', WHERE WHAT IT READS IS OF BULK AT MOST 1048576: true; the input reads as it did. -/
def topJoinUptoRow : OpenClaim := { program := "ytjhekeddpjhimaa", sum := "46b7241427948a2a0e3e186d75b5c29c5cc3cd701a4e3e49af96c19b582dc8d5", func := "switchboard/switchboardlaw04.TopJoin", spec := "topJoin", apart := false, narrowed := true }
def TopJoinUptoSaid : Prop := topJoinUptoRow.holds Try.pinned (OpenSpec.upto topJoinSpec)

end Rows
end Go.Proofs.Ytjhekeddpjhimaa
