/-
  No cell of these rows narrows 'for every input' (looked for: loops, veiled, ifaces, maps, wideKeys, modest, calm, conditions, laid).
  DERIVED. THE GIVEN ROWS OF THIS SEAT. 4 by the template 'for every input the law returns true; each argument reads behind the call as it read before'; 0 by the template 'total and deterministic' (their statements: YtabklpdjjoaocaaTotals.lean).
  GIVEN WITH THE SEED: the statements are not yours to turn. If you find one false, say at which input.
  Laid BY PROGRAM, IN A SANDBOX (cutbox-rows.mjs): the forced cells as the released guide's own fill.sh prints them over the translation e8afe36bff56be8b… (all of the seat's roots in one cut). By AI agents, Wed Nov 11 2026. No macro, syntax, notation, axiom, sorry.
-/
import Derived.Test.YtabklpdjjoaocaaChecked
import GoSem.Claim
import GoSem.ClaimJoined
import GoSem.ClaimMapViews
import Derived.JoinedTies
import Derived.KernelRfl
namespace Go.Proofs.Ytabklpdjjoaocaa
/- THE CELL 'sum', in the pinned program and in every row, IS THE sha256 OF THE DUMP (.gsa) THAT YtabklpdjjoaocaaProg.lean LOADS. Nothing in Lean hashes anything: it is a label: what it is worth is what the hold of that sum in a sandbox is worth. -/
noncomputable def Try.pinned : Pinned := { name := "ytabklpdjjoaocaa", sum := "e8afe36bff56be8b71f070dab9a3006d232813e7ae4cff3b00105fff349db938", checked := Try.checked }
namespace Rows
def none {H : Type} : Left H := { results := [], args := [] }

/-- 'switchboardlaw18.NodeExact': WHATEVER THE INPUT: true; the input reads as it did. -/
def nodeExactSpec : ChangeSpec := { name := "nodeExact", fn := fun _ => fun
  | [d1, d2, d3, d4, d5] => { results := [.lit (.bool true)], args := [d1, d2, d3, d4, d5] }
  | _ => none }
def nodeExactRow : OpenClaim := { program := "ytabklpdjjoaocaa", sum := "e8afe36bff56be8b71f070dab9a3006d232813e7ae4cff3b00105fff349db938", func := "switchboard/switchboardlaw18.NodeExact", spec := "nodeExact", unfollowed := true, recurses := true, apart := false }
def NodeExactSaid : Prop := nodeExactRow.holds Try.pinned (OpenSpec.ofChange nodeExactSpec)

/-- ITS FALSE NEIGHBOUR: 'it returns false'. Refute it at one input. -/
def nodeExactWrong : ChangeSpec := { name := "nodeExact", fn := fun _ => fun
  | [d1, d2, d3, d4, d5] => { results := [.lit (.bool false)], args := [d1, d2, d3, d4, d5] }
  | _ => none }
def NodeExactWrongFalsely : Prop := nodeExactRow.holds Try.pinned (OpenSpec.ofChange nodeExactWrong)

/-- 'switchboardlaw18.NodeOnce': WHATEVER THE INPUT: true; the input reads as it did. -/
def nodeOnceSpec : ChangeSpec := { name := "nodeOnce", fn := fun _ => fun
  | [d1, d2, d3, d4, d5] => { results := [.lit (.bool true)], args := [d1, d2, d3, d4, d5] }
  | _ => none }
def nodeOnceRow : OpenClaim := { program := "ytabklpdjjoaocaa", sum := "e8afe36bff56be8b71f070dab9a3006d232813e7ae4cff3b00105fff349db938", func := "switchboard/switchboardlaw18.NodeOnce", spec := "nodeOnce", unfollowed := true, recurses := true, apart := false }
def NodeOnceSaid : Prop := nodeOnceRow.holds Try.pinned (OpenSpec.ofChange nodeOnceSpec)

/-- ITS FALSE NEIGHBOUR: 'it returns false'. Refute it at one input. -/
def nodeOnceWrong : ChangeSpec := { name := "nodeOnce", fn := fun _ => fun
  | [d1, d2, d3, d4, d5] => { results := [.lit (.bool false)], args := [d1, d2, d3, d4, d5] }
  | _ => none }
def NodeOnceWrongFalsely : Prop := nodeOnceRow.holds Try.pinned (OpenSpec.ofChange nodeOnceWrong)

/-- 'switchboardlaw18.NodeStale': WHATEVER THE INPUT: true; the input reads as it did. -/
def nodeStaleSpec : ChangeSpec := { name := "nodeStale", fn := fun _ => fun
  | [d1, d2, d3, d4] => { results := [.lit (.bool true)], args := [d1, d2, d3, d4] }
  | _ => none }
def nodeStaleRow : OpenClaim := { program := "ytabklpdjjoaocaa", sum := "e8afe36bff56be8b71f070dab9a3006d232813e7ae4cff3b00105fff349db938", func := "switchboard/switchboardlaw18.NodeStale", spec := "nodeStale", unfollowed := true, recurses := true, apart := false }
def NodeStaleSaid : Prop := nodeStaleRow.holds Try.pinned (OpenSpec.ofChange nodeStaleSpec)

/-- ITS FALSE NEIGHBOUR: 'it returns false'. Refute it at one input. -/
def nodeStaleWrong : ChangeSpec := { name := "nodeStale", fn := fun _ => fun
  | [d1, d2, d3, d4] => { results := [.lit (.bool false)], args := [d1, d2, d3, d4] }
  | _ => none }
def NodeStaleWrongFalsely : Prop := nodeStaleRow.holds Try.pinned (OpenSpec.ofChange nodeStaleWrong)

/-- 'switchboardlaw18.NodeKeys': WHATEVER THE INPUT: true; the input reads as it did. -/
def nodeKeysSpec : ChangeSpec := { name := "nodeKeys", fn := fun _ => fun
  | [d1, d2, d3, d4, d5] => { results := [.lit (.bool true)], args := [d1, d2, d3, d4, d5] }
  | _ => none }
def nodeKeysRow : OpenClaim := { program := "ytabklpdjjoaocaa", sum := "e8afe36bff56be8b71f070dab9a3006d232813e7ae4cff3b00105fff349db938", func := "switchboard/switchboardlaw18.NodeKeys", spec := "nodeKeys", unfollowed := true, recurses := true, apart := false }
def NodeKeysSaid : Prop := nodeKeysRow.holds Try.pinned (OpenSpec.ofChange nodeKeysSpec)

/-- ITS FALSE NEIGHBOUR: 'it returns false'. Refute it at one input. -/
def nodeKeysWrong : ChangeSpec := { name := "nodeKeys", fn := fun _ => fun
  | [d1, d2, d3, d4, d5] => { results := [.lit (.bool false)], args := [d1, d2, d3, d4, d5] }
  | _ => none }
def NodeKeysWrongFalsely : Prop := nodeKeysRow.holds Try.pinned (OpenSpec.ofChange nodeKeysWrong)

/- THE SECOND FORM. 'bulk': how many values and letters a reading holds, each counted each time it is reached (what is shared counts as often as it is met; a slice's spare places count too). A statement '..UptoSaid' is the law's where the arguments, and the package variables that the reading takes, are together of bulk at most 1048576: NARROWER than '..Said'. Prove '..Said' where nothing that the law and all that it calls make is longer than what came in: it says more and counts as full. Else prove '..UptoSaid'. A law counts once. -/
mutual
def uptoBulk {H : Type} : DataW H → Nat
  | .lit (.string bytes) => bytes.length + 1
  | .lit _ => 1
  | .nil => 1
  | .ptr d => uptoBulk d + 1
  | .slice elems spare => uptoBulkAll elems + uptoBulkAll spare + 1
  | .agg parts => uptoBulkAll parts + 1
  | .iface _ d => uptoBulk d + 1
  | .map entries => uptoBulkEntries entries + 1
  | .held _ => 1
def uptoBulkAll {H : Type} : List (DataW H) → Nat
  | [] => 0
  | d :: r => uptoBulk d + uptoBulkAll r
def uptoBulkEntries {H : Type} : List (Lit × DataW H) → Nat
  | [] => 0
  | x :: r => uptoBulkEntry x + uptoBulkEntries r
def uptoBulkEntry {H : Type} : Lit × DataW H → Nat
  | (.string bytes, d) => bytes.length + uptoBulk d + 1
  | (_, d) => uptoBulk d + 1
 end
def uptoSmall : (H : Type) → List (DataW H) → Bool := fun _ ds => decide (uptoBulkAll ds ≤ 1048576)
def OpenSpec.upto (s : _root_.Go.ChangeSpec) : _root_.Go.OpenSpec := { _root_.Go.OpenSpec.ofChange s with cond := some uptoSmall }

/-- 'switchboardlaw18.NodeExact', WHERE WHAT IT READS IS OF BULK AT MOST 1048576: true; the input reads as it did. -/
def nodeExactUptoRow : OpenClaim := { program := "ytabklpdjjoaocaa", sum := "e8afe36bff56be8b71f070dab9a3006d232813e7ae4cff3b00105fff349db938", func := "switchboard/switchboardlaw18.NodeExact", spec := "nodeExact", unfollowed := true, recurses := true, apart := false, narrowed := true }
def NodeExactUptoSaid : Prop := nodeExactUptoRow.holds Try.pinned (OpenSpec.upto nodeExactSpec)

/-- 'switchboardlaw18.NodeOnce', WHERE WHAT IT READS IS OF BULK AT MOST 1048576: true; the input reads as it did. -/
def nodeOnceUptoRow : OpenClaim := { program := "ytabklpdjjoaocaa", sum := "e8afe36bff56be8b71f070dab9a3006d232813e7ae4cff3b00105fff349db938", func := "switchboard/switchboardlaw18.NodeOnce", spec := "nodeOnce", unfollowed := true, recurses := true, apart := false, narrowed := true }
def NodeOnceUptoSaid : Prop := nodeOnceUptoRow.holds Try.pinned (OpenSpec.upto nodeOnceSpec)

/-- 'switchboardlaw18.NodeStale', WHERE WHAT IT READS IS OF BULK AT MOST 1048576: true; the input reads as it did. -/
def nodeStaleUptoRow : OpenClaim := { program := "ytabklpdjjoaocaa", sum := "e8afe36bff56be8b71f070dab9a3006d232813e7ae4cff3b00105fff349db938", func := "switchboard/switchboardlaw18.NodeStale", spec := "nodeStale", unfollowed := true, recurses := true, apart := false, narrowed := true }
def NodeStaleUptoSaid : Prop := nodeStaleUptoRow.holds Try.pinned (OpenSpec.upto nodeStaleSpec)

/-- 'switchboardlaw18.NodeKeys', WHERE WHAT IT READS IS OF BULK AT MOST 1048576: true; the input reads as it did. -/
def nodeKeysUptoRow : OpenClaim := { program := "ytabklpdjjoaocaa", sum := "e8afe36bff56be8b71f070dab9a3006d232813e7ae4cff3b00105fff349db938", func := "switchboard/switchboardlaw18.NodeKeys", spec := "nodeKeys", unfollowed := true, recurses := true, apart := false, narrowed := true }
def NodeKeysUptoSaid : Prop := nodeKeysUptoRow.holds Try.pinned (OpenSpec.upto nodeKeysSpec)

end Rows
end Go.Proofs.Ytabklpdjjoaocaa
