/-
  No cell of these rows narrows 'for every input' (looked for: loops, veiled, ifaces, maps, wideKeys, modest, calm, conditions, laid).
  DERIVED. THE GIVEN ROWS OF THIS SEAT. 4 by the template 'for every input the law returns true; each argument reads behind the call as it read before'; 0 by the template 'total and deterministic' (their statements: YtffgndmmlhkkmaaTotals.lean).
  GIVEN WITH THE SEED: the statements are not yours to turn. If you find one false, say at which input.
  Laid BY PROGRAM, IN A SANDBOX (cutbox-rows.mjs): the forced cells as the released guide's own fill.sh prints them over the translation 5e5ed9946ab53e61… (all of the seat's roots in one cut). By AI agents, Wed Nov 11 2026. No macro, syntax, notation, axiom, sorry.
-/
import Derived.Test.YtffgndmmlhkkmaaChecked
import GoSem.Claim
import GoSem.ClaimJoined
import GoSem.ClaimMapViews
import Derived.JoinedTies
import Derived.KernelRfl
namespace Go.Proofs.Ytffgndmmlhkkmaa
/- THE CELL 'sum', in the pinned program and in every row, IS THE sha256 OF THE DUMP (.gsa) THAT YtffgndmmlhkkmaaProg.lean LOADS. Nothing in Lean hashes anything: it is a label: what it is worth is what the hold of that sum in a sandbox is worth. -/
noncomputable def Try.pinned : Pinned := { name := "ytffgndmmlhkkmaa", sum := "5e5ed9946ab53e612eb236a43ffe8c72059c78c01abfde4a6ea0a464fab7d5e7", checked := Try.checked }
namespace Rows
def none {H : Type} : Left H := { results := [], args := [] }

/-- 'switchboardlaw13.GateExact': WHATEVER THE INPUT: true; the input reads as it did. -/
def gateExactSpec : ChangeSpec := { name := "gateExact", fn := fun _ => fun
  | [d1, d2] => { results := [.lit (.bool true)], args := [d1, d2] }
  | _ => none }
def gateExactRow : OpenClaim := { program := "ytffgndmmlhkkmaa", sum := "5e5ed9946ab53e612eb236a43ffe8c72059c78c01abfde4a6ea0a464fab7d5e7", func := "switchboard/switchboardlaw13.GateExact", spec := "gateExact", apart := false }
def GateExactSaid : Prop := gateExactRow.holds Try.pinned (OpenSpec.ofChange gateExactSpec)

/-- ITS FALSE NEIGHBOUR: 'it returns false'. Refute it at one input. -/
def gateExactWrong : ChangeSpec := { name := "gateExact", fn := fun _ => fun
  | [d1, d2] => { results := [.lit (.bool false)], args := [d1, d2] }
  | _ => none }
def GateExactWrongFalsely : Prop := gateExactRow.holds Try.pinned (OpenSpec.ofChange gateExactWrong)

/-- 'switchboardlaw13.GateFair': WHATEVER THE INPUT: true; the input reads as it did. -/
def gateFairSpec : ChangeSpec := { name := "gateFair", fn := fun _ => fun
  | [d1, d2] => { results := [.lit (.bool true)], args := [d1, d2] }
  | _ => none }
def gateFairRow : OpenClaim := { program := "ytffgndmmlhkkmaa", sum := "5e5ed9946ab53e612eb236a43ffe8c72059c78c01abfde4a6ea0a464fab7d5e7", func := "switchboard/switchboardlaw13.GateFair", spec := "gateFair", apart := false }
def GateFairSaid : Prop := gateFairRow.holds Try.pinned (OpenSpec.ofChange gateFairSpec)

/-- ITS FALSE NEIGHBOUR: 'it returns false'. Refute it at one input. -/
def gateFairWrong : ChangeSpec := { name := "gateFair", fn := fun _ => fun
  | [d1, d2] => { results := [.lit (.bool false)], args := [d1, d2] }
  | _ => none }
def GateFairWrongFalsely : Prop := gateFairRow.holds Try.pinned (OpenSpec.ofChange gateFairWrong)

/-- 'switchboardlaw13.GateTurn': WHATEVER THE INPUT: true; the input reads as it did. -/
def gateTurnSpec : ChangeSpec := { name := "gateTurn", fn := fun _ => fun
  | [d1, d2] => { results := [.lit (.bool true)], args := [d1, d2] }
  | _ => none }
def gateTurnRow : OpenClaim := { program := "ytffgndmmlhkkmaa", sum := "5e5ed9946ab53e612eb236a43ffe8c72059c78c01abfde4a6ea0a464fab7d5e7", func := "switchboard/switchboardlaw13.GateTurn", spec := "gateTurn", apart := false }
def GateTurnSaid : Prop := gateTurnRow.holds Try.pinned (OpenSpec.ofChange gateTurnSpec)

/-- ITS FALSE NEIGHBOUR: 'it returns false'. Refute it at one input. -/
def gateTurnWrong : ChangeSpec := { name := "gateTurn", fn := fun _ => fun
  | [d1, d2] => { results := [.lit (.bool false)], args := [d1, d2] }
  | _ => none }
def GateTurnWrongFalsely : Prop := gateTurnRow.holds Try.pinned (OpenSpec.ofChange gateTurnWrong)

/-- 'switchboardlaw13.GateOnes': WHATEVER THE INPUT: true; the input reads as it did. -/
def gateOnesSpec : ChangeSpec := { name := "gateOnes", fn := fun _ => fun
  | [d1, d2] => { results := [.lit (.bool true)], args := [d1, d2] }
  | _ => none }
def gateOnesRow : OpenClaim := { program := "ytffgndmmlhkkmaa", sum := "5e5ed9946ab53e612eb236a43ffe8c72059c78c01abfde4a6ea0a464fab7d5e7", func := "switchboard/switchboardlaw13.GateOnes", spec := "gateOnes", apart := false }
def GateOnesSaid : Prop := gateOnesRow.holds Try.pinned (OpenSpec.ofChange gateOnesSpec)

/-- ITS FALSE NEIGHBOUR: 'it returns false'. Refute it at one input. -/
def gateOnesWrong : ChangeSpec := { name := "gateOnes", fn := fun _ => fun
  | [d1, d2] => { results := [.lit (.bool false)], args := [d1, d2] }
  | _ => none }
def GateOnesWrongFalsely : Prop := gateOnesRow.holds Try.pinned (OpenSpec.ofChange gateOnesWrong)

/- THE SECOND FORM. 'bulk': how many values and letters a reading holds, each counted each time it is reached (what is shared counts as often as it is met; a slice's spare places count too). A statement '..UptoSaid' is the law's where the arguments, and the package variables that the reading takes, are together of bulk at most 1048576: NARROWER than '..Said'. Prove '..Said' where nothing that the law and all that it calls make is longer than what came in: it says more and counts as full. Else prove '..UptoSaid'. A law counts once. -/
mutual
def uptoBulk {H : Type} : DataW H → Nat
  | .lit (.string bytes) => bytes.length + 1
  | .lit _ => 1
  | .nil => 1
  | .ptr d => uptoBulk d + 1
  | .slice elems spare => uptoBulkAll elems + uptoBulkAll spare + 1
  | .agg parts => uptoBulkAll parts + 1
  | .iface _ d => uptoBulk d + 1
  | .map entries => uptoBulkEntries entries + 1
  | .held _ => 1
def uptoBulkAll {H : Type} : List (DataW H) → Nat
  | [] => 0
  | d :: r => uptoBulk d + uptoBulkAll r
def uptoBulkEntries {H : Type} : List (Lit × DataW H) → Nat
  | [] => 0
  | x :: r => uptoBulkEntry x + uptoBulkEntries r
def uptoBulkEntry {H : Type} : Lit × DataW H → Nat
  | (.string bytes, d) => bytes.length + uptoBulk d + 1
  | (_, d) => uptoBulk d + 1
 end
def uptoSmall : (H : Type) → List (DataW H) → Bool := fun _ ds => decide (uptoBulkAll ds ≤ 1048576)
def OpenSpec.upto (s : _root_.Go.ChangeSpec) : _root_.Go.OpenSpec := { _root_.Go.OpenSpec.ofChange s with cond := some uptoSmall }

/-- 'switchboardlaw13.GateExact', WHERE WHAT IT READS IS OF BULK AT MOST 1048576: true; the input reads as it did. -/
def gateExactUptoRow : OpenClaim := { program := "ytffgndmmlhkkmaa", sum := "5e5ed9946ab53e612eb236a43ffe8c72059c78c01abfde4a6ea0a464fab7d5e7", func := "switchboard/switchboardlaw13.GateExact", spec := "gateExact", apart := false, narrowed := true }
def GateExactUptoSaid : Prop := gateExactUptoRow.holds Try.pinned (OpenSpec.upto gateExactSpec)

/-- 'switchboardlaw13.GateFair', WHERE WHAT IT READS IS OF BULK AT MOST 1048576: true; the input reads as it did. -/
def gateFairUptoRow : OpenClaim := { program := "ytffgndmmlhkkmaa", sum := "5e5ed9946ab53e612eb236a43ffe8c72059c78c01abfde4a6ea0a464fab7d5e7", func := "switchboard/switchboardlaw13.GateFair", spec := "gateFair", apart := false, narrowed := true }
def GateFairUptoSaid : Prop := gateFairUptoRow.holds Try.pinned (OpenSpec.upto gateFairSpec)

/-- 'switchboardlaw13.GateTurn', WHERE WHAT IT READS IS OF BULK AT MOST 1048576: true; the input reads as it did. -/
def gateTurnUptoRow : OpenClaim := { program := "ytffgndmmlhkkmaa", sum := "5e5ed9946ab53e612eb236a43ffe8c72059c78c01abfde4a6ea0a464fab7d5e7", func := "switchboard/switchboardlaw13.GateTurn", spec := "gateTurn", apart := false, narrowed := true }
def GateTurnUptoSaid : Prop := gateTurnUptoRow.holds Try.pinned (OpenSpec.upto gateTurnSpec)

/-- 'switchboardlaw13.GateOnes', WHERE WHAT IT READS IS OF BULK AT MOST 1048576: true; the input reads as it did. -/
def gateOnesUptoRow : OpenClaim := { program := "ytffgndmmlhkkmaa", sum := "5e5ed9946ab53e612eb236a43ffe8c72059c78c01abfde4a6ea0a464fab7d5e7", func := "switchboard/switchboardlaw13.GateOnes", spec := "gateOnes", apart := false, narrowed := true }
def GateOnesUptoSaid : Prop := gateOnesUptoRow.holds Try.pinned (OpenSpec.upto gateOnesSpec)

end Rows
end Go.Proofs.Ytffgndmmlhkkmaa
