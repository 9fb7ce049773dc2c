/-
  No cell of these rows narrows 'for every input' (looked for: loops, veiled, ifaces, maps, wideKeys, modest, calm, conditions, laid).
  DERIVED. THE GIVEN ROWS OF THIS SEAT. 5 by the template 'for every input the law returns true; each argument reads behind the call as it read before'; 0 by the template 'total and deterministic' (their statements: YtjleanpblijoaaaTotals.lean).
  GIVEN WITH THE SEED: the statements are not yours to turn. If you find one false, say at which input.
  Laid BY PROGRAM, IN A SANDBOX (cutbox-rows.mjs): the forced cells as the released guide's own fill.sh prints them over the translation 20a6bd937f3a78b1… (all of the seat's roots in one cut). By AI agents, Wed Nov 11 2026. No macro, syntax, notation, axiom, sorry.
-/
import Derived.Test.YtjleanpblijoaaaChecked
import GoSem.Claim
import GoSem.ClaimJoined
import GoSem.ClaimMapViews
import Derived.JoinedTies
import Derived.KernelRfl
namespace Go.Proofs.Ytjleanpblijoaaa
/- THE CELL 'sum', in the pinned program and in every row, IS THE sha256 OF THE DUMP (.gsa) THAT YtjleanpblijoaaaProg.lean LOADS. Nothing in Lean hashes anything: it is a label: what it is worth is what the hold of that sum in a sandbox is worth. -/
noncomputable def Try.pinned : Pinned := { name := "ytjleanpblijoaaa", sum := "20a6bd937f3a78b1e58c6ec55e55a8263c843f9dbb6304b74b15880b34f7f44c", checked := Try.checked }
namespace Rows
def none {H : Type} : Left H := { results := [], args := [] }

/-- 'switchboardlaw08.BagExact': WHATEVER THE INPUT: true; the input reads as it did. -/
def bagExactSpec : ChangeSpec := { name := "bagExact", fn := fun _ => fun
  | [d1, d2, d3] => { results := [.lit (.bool true)], args := [d1, d2, d3] }
  | _ => none }
def bagExactRow : OpenClaim := { program := "ytjleanpblijoaaa", sum := "20a6bd937f3a78b1e58c6ec55e55a8263c843f9dbb6304b74b15880b34f7f44c", func := "switchboard/switchboardlaw08.BagExact", spec := "bagExact", apart := false }
def BagExactSaid : Prop := bagExactRow.holds Try.pinned (OpenSpec.ofChange bagExactSpec)

/-- ITS FALSE NEIGHBOUR: 'it returns false'. Refute it at one input. -/
def bagExactWrong : ChangeSpec := { name := "bagExact", fn := fun _ => fun
  | [d1, d2, d3] => { results := [.lit (.bool false)], args := [d1, d2, d3] }
  | _ => none }
def BagExactWrongFalsely : Prop := bagExactRow.holds Try.pinned (OpenSpec.ofChange bagExactWrong)

/-- 'switchboardlaw08.BagBack': WHATEVER THE INPUT: true; the input reads as it did. -/
def bagBackSpec : ChangeSpec := { name := "bagBack", fn := fun _ => fun
  | [d1, d2] => { results := [.lit (.bool true)], args := [d1, d2] }
  | _ => none }
def bagBackRow : OpenClaim := { program := "ytjleanpblijoaaa", sum := "20a6bd937f3a78b1e58c6ec55e55a8263c843f9dbb6304b74b15880b34f7f44c", func := "switchboard/switchboardlaw08.BagBack", spec := "bagBack", apart := false }
def BagBackSaid : Prop := bagBackRow.holds Try.pinned (OpenSpec.ofChange bagBackSpec)

/-- ITS FALSE NEIGHBOUR: 'it returns false'. Refute it at one input. -/
def bagBackWrong : ChangeSpec := { name := "bagBack", fn := fun _ => fun
  | [d1, d2] => { results := [.lit (.bool false)], args := [d1, d2] }
  | _ => none }
def BagBackWrongFalsely : Prop := bagBackRow.holds Try.pinned (OpenSpec.ofChange bagBackWrong)

/-- 'switchboardlaw08.BagDrains': WHATEVER THE INPUT: true; the input reads as it did. -/
def bagDrainsSpec : ChangeSpec := { name := "bagDrains", fn := fun _ => fun
  | [d] => { results := [.lit (.bool true)], args := [d] }
  | _ => none }
def bagDrainsRow : OpenClaim := { program := "ytjleanpblijoaaa", sum := "20a6bd937f3a78b1e58c6ec55e55a8263c843f9dbb6304b74b15880b34f7f44c", func := "switchboard/switchboardlaw08.BagDrains", spec := "bagDrains", apart := false }
def BagDrainsSaid : Prop := bagDrainsRow.holds Try.pinned (OpenSpec.ofChange bagDrainsSpec)

/-- ITS FALSE NEIGHBOUR: 'it returns false'. Refute it at one input. -/
def bagDrainsWrong : ChangeSpec := { name := "bagDrains", fn := fun _ => fun
  | [d] => { results := [.lit (.bool false)], args := [d] }
  | _ => none }
def BagDrainsWrongFalsely : Prop := bagDrainsRow.holds Try.pinned (OpenSpec.ofChange bagDrainsWrong)

/-- 'switchboardlaw08.BagSame': WHATEVER THE INPUT: true; the input reads as it did. -/
def bagSameSpec : ChangeSpec := { name := "bagSame", fn := fun _ => fun
  | [d1, d2] => { results := [.lit (.bool true)], args := [d1, d2] }
  | _ => none }
def bagSameRow : OpenClaim := { program := "ytjleanpblijoaaa", sum := "20a6bd937f3a78b1e58c6ec55e55a8263c843f9dbb6304b74b15880b34f7f44c", func := "switchboard/switchboardlaw08.BagSame", spec := "bagSame", apart := false }
def BagSameSaid : Prop := bagSameRow.holds Try.pinned (OpenSpec.ofChange bagSameSpec)

/-- ITS FALSE NEIGHBOUR: 'it returns false'. Refute it at one input. -/
def bagSameWrong : ChangeSpec := { name := "bagSame", fn := fun _ => fun
  | [d1, d2] => { results := [.lit (.bool false)], args := [d1, d2] }
  | _ => none }
def BagSameWrongFalsely : Prop := bagSameRow.holds Try.pinned (OpenSpec.ofChange bagSameWrong)

/-- 'switchboardlaw08.BagFull': WHATEVER THE INPUT: true; the input reads as it did. -/
def bagFullSpec : ChangeSpec := { name := "bagFull", fn := fun _ => fun
  | [d1, d2] => { results := [.lit (.bool true)], args := [d1, d2] }
  | _ => none }
def bagFullRow : OpenClaim := { program := "ytjleanpblijoaaa", sum := "20a6bd937f3a78b1e58c6ec55e55a8263c843f9dbb6304b74b15880b34f7f44c", func := "switchboard/switchboardlaw08.BagFull", spec := "bagFull", apart := false }
def BagFullSaid : Prop := bagFullRow.holds Try.pinned (OpenSpec.ofChange bagFullSpec)

/-- ITS FALSE NEIGHBOUR: 'it returns false'. Refute it at one input. -/
def bagFullWrong : ChangeSpec := { name := "bagFull", fn := fun _ => fun
  | [d1, d2] => { results := [.lit (.bool false)], args := [d1, d2] }
  | _ => none }
def BagFullWrongFalsely : Prop := bagFullRow.holds Try.pinned (OpenSpec.ofChange bagFullWrong)

/- THE SECOND FORM. 'bulk': how many values and letters a reading holds, each counted each time it is reached (what is shared counts as often as it is met; a slice's spare places count too). A statement '..UptoSaid' is the law's where the arguments, and the package variables that the reading takes, are together of bulk at most 1048576: NARROWER than '..Said'. Prove '..Said' where nothing that the law and all that it calls make is longer than what came in: it says more and counts as full. Else prove '..UptoSaid'. A law counts once. -/
mutual
def uptoBulk {H : Type} : DataW H → Nat
  | .lit (.string bytes) => bytes.length + 1
  | .lit _ => 1
  | .nil => 1
  | .ptr d => uptoBulk d + 1
  | .slice elems spare => uptoBulkAll elems + uptoBulkAll spare + 1
  | .agg parts => uptoBulkAll parts + 1
  | .iface _ d => uptoBulk d + 1
  | .map entries => uptoBulkEntries entries + 1
  | .held _ => 1
def uptoBulkAll {H : Type} : List (DataW H) → Nat
  | [] => 0
  | d :: r => uptoBulk d + uptoBulkAll r
def uptoBulkEntries {H : Type} : List (Lit × DataW H) → Nat
  | [] => 0
  | x :: r => uptoBulkEntry x + uptoBulkEntries r
def uptoBulkEntry {H : Type} : Lit × DataW H → Nat
  | (.string bytes, d) => bytes.length + uptoBulk d + 1
  | (_, d) => uptoBulk d + 1
 end
def uptoSmall : (H : Type) → List (DataW H) → Bool := fun _ ds => decide (uptoBulkAll ds ≤ 1048576)
def OpenSpec.upto (s : _root_.Go.ChangeSpec) : _root_.Go.OpenSpec := { _root_.Go.OpenSpec.ofChange s with cond := some uptoSmall }

/-- 'switchboardlaw08.BagExact', WHERE WHAT IT READS IS OF BULK AT MOST 1048576: true; the input reads as it did. -/
def bagExactUptoRow : OpenClaim := { program := "ytjleanpblijoaaa", sum := "20a6bd937f3a78b1e58c6ec55e55a8263c843f9dbb6304b74b15880b34f7f44c", func := "switchboard/switchboardlaw08.BagExact", spec := "bagExact", apart := false, narrowed := true }
def BagExactUptoSaid : Prop := bagExactUptoRow.holds Try.pinned (OpenSpec.upto bagExactSpec)

/-- 'switchboardlaw08.BagBack', WHERE WHAT IT READS IS OF BULK AT MOST 1048576: true; the input reads as it did. -/
def bagBackUptoRow : OpenClaim := { program := "ytjleanpblijoaaa", sum := "20a6bd937f3a78b1e58c6ec55e55a8263c843f9dbb6304b74b15880b34f7f44c", func := "switchboard/switchboardlaw08.BagBack", spec := "bagBack", apart := false, narrowed := true }
def BagBackUptoSaid : Prop := bagBackUptoRow.holds Try.pinned (OpenSpec.upto bagBackSpec)

/-- 'switchboardlaw08.BagDrains', WHERE WHAT IT READS IS OF BULK AT MOST 1048576: true; the input reads as it did. -/
def bagDrainsUptoRow : OpenClaim := { program := "ytjleanpblijoaaa", sum := "20a6bd937f3a78b1e58c6ec55e55a8263c843f9dbb6304b74b15880b34f7f44c", func := "switchboard/switchboardlaw08.BagDrains", spec := "bagDrains", apart := false, narrowed := true }
def BagDrainsUptoSaid : Prop := bagDrainsUptoRow.holds Try.pinned (OpenSpec.upto bagDrainsSpec)

/-- 'switchboardlaw08.BagSame', WHERE WHAT IT READS IS OF BULK AT MOST 1048576: true; the input reads as it did. -/
def bagSameUptoRow : OpenClaim := { program := "ytjleanpblijoaaa", sum := "20a6bd937f3a78b1e58c6ec55e55a8263c843f9dbb6304b74b15880b34f7f44c", func := "switchboard/switchboardlaw08.BagSame", spec := "bagSame", apart := false, narrowed := true }
def BagSameUptoSaid : Prop := bagSameUptoRow.holds Try.pinned (OpenSpec.upto bagSameSpec)

/-- 'switchboardlaw08.BagFull', WHERE WHAT IT READS IS OF BULK AT MOST 1048576: true; the input reads as it did. -/
def bagFullUptoRow : OpenClaim := { program := "ytjleanpblijoaaa", sum := "20a6bd937f3a78b1e58c6ec55e55a8263c843f9dbb6304b74b15880b34f7f44c", func := "switchboard/switchboardlaw08.BagFull", spec := "bagFull", apart := false, narrowed := true }
def BagFullUptoSaid : Prop := bagFullUptoRow.holds Try.pinned (OpenSpec.upto bagFullSpec)

end Rows
end Go.Proofs.Ytjleanpblijoaaa
