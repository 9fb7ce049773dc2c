/-
  No cell of these rows narrows 'for every input' (looked for: loops, veiled, ifaces, maps, wideKeys, modest, calm, conditions, laid).
  DERIVED. THE GIVEN ROWS OF THIS SEAT. 4 by the template 'for every input the law returns true; each argument reads behind the call as it read before'; 0 by the template 'total and deterministic' (their statements: YtglcmnhaoeohdaaTotals.lean).
  GIVEN WITH THE SEED: the statements are not yours to turn. If you find one false, say at which input.
  Laid BY PROGRAM, IN A SANDBOX (cutbox-rows.mjs): the forced cells as the released guide's own fill.sh prints them over the translation 7cec348ac522c416… (all of the seat's roots in one cut). By AI agents, Wed Nov 11 2026. No macro, syntax, notation, axiom, sorry.
-/
import Derived.Test.YtglcmnhaoeohdaaChecked
import GoSem.Claim
import GoSem.ClaimJoined
import GoSem.ClaimMapViews
import Derived.JoinedTies
import Derived.KernelRfl
namespace Go.Proofs.Ytglcmnhaoeohdaa
/- THE CELL 'sum', in the pinned program and in every row, IS THE sha256 OF THE DUMP (.gsa) THAT YtglcmnhaoeohdaaProg.lean LOADS. Nothing in Lean hashes anything: it is a label: what it is worth is what the hold of that sum in a sandbox is worth. -/
noncomputable def Try.pinned : Pinned := { name := "ytglcmnhaoeohdaa", sum := "7cec348ac522c416f0ad9abb192aa34b5c36d6b9715aaf7303cf51153a5934af", checked := Try.checked }
namespace Rows
def none {H : Type} : Left H := { results := [], args := [] }

/-- 'switchboardlaw14.SlotsExact': WHATEVER THE INPUT: true; the input reads as it did. -/
def slotsExactSpec : ChangeSpec := { name := "slotsExact", fn := fun _ => fun
  | [d1, d2, d3] => { results := [.lit (.bool true)], args := [d1, d2, d3] }
  | _ => none }
def slotsExactRow : OpenClaim := { program := "ytglcmnhaoeohdaa", sum := "7cec348ac522c416f0ad9abb192aa34b5c36d6b9715aaf7303cf51153a5934af", func := "switchboard/switchboardlaw14.SlotsExact", spec := "slotsExact", apart := false }
def SlotsExactSaid : Prop := slotsExactRow.holds Try.pinned (OpenSpec.ofChange slotsExactSpec)

/-- ITS FALSE NEIGHBOUR: 'it returns false'. Refute it at one input. -/
def slotsExactWrong : ChangeSpec := { name := "slotsExact", fn := fun _ => fun
  | [d1, d2, d3] => { results := [.lit (.bool false)], args := [d1, d2, d3] }
  | _ => none }
def SlotsExactWrongFalsely : Prop := slotsExactRow.holds Try.pinned (OpenSpec.ofChange slotsExactWrong)

/-- 'switchboardlaw14.SlotsRoom': WHATEVER THE INPUT: true; the input reads as it did. -/
def slotsRoomSpec : ChangeSpec := { name := "slotsRoom", fn := fun _ => fun
  | [d1, d2, d3, d4] => { results := [.lit (.bool true)], args := [d1, d2, d3, d4] }
  | _ => none }
def slotsRoomRow : OpenClaim := { program := "ytglcmnhaoeohdaa", sum := "7cec348ac522c416f0ad9abb192aa34b5c36d6b9715aaf7303cf51153a5934af", func := "switchboard/switchboardlaw14.SlotsRoom", spec := "slotsRoom", apart := false }
def SlotsRoomSaid : Prop := slotsRoomRow.holds Try.pinned (OpenSpec.ofChange slotsRoomSpec)

/-- ITS FALSE NEIGHBOUR: 'it returns false'. Refute it at one input. -/
def slotsRoomWrong : ChangeSpec := { name := "slotsRoom", fn := fun _ => fun
  | [d1, d2, d3, d4] => { results := [.lit (.bool false)], args := [d1, d2, d3, d4] }
  | _ => none }
def SlotsRoomWrongFalsely : Prop := slotsRoomRow.holds Try.pinned (OpenSpec.ofChange slotsRoomWrong)

/-- 'switchboardlaw14.SlotsMore': WHATEVER THE INPUT: true; the input reads as it did. -/
def slotsMoreSpec : ChangeSpec := { name := "slotsMore", fn := fun _ => fun
  | [d1, d2, d3, d4] => { results := [.lit (.bool true)], args := [d1, d2, d3, d4] }
  | _ => none }
def slotsMoreRow : OpenClaim := { program := "ytglcmnhaoeohdaa", sum := "7cec348ac522c416f0ad9abb192aa34b5c36d6b9715aaf7303cf51153a5934af", func := "switchboard/switchboardlaw14.SlotsMore", spec := "slotsMore", apart := false }
def SlotsMoreSaid : Prop := slotsMoreRow.holds Try.pinned (OpenSpec.ofChange slotsMoreSpec)

/-- ITS FALSE NEIGHBOUR: 'it returns false'. Refute it at one input. -/
def slotsMoreWrong : ChangeSpec := { name := "slotsMore", fn := fun _ => fun
  | [d1, d2, d3, d4] => { results := [.lit (.bool false)], args := [d1, d2, d3, d4] }
  | _ => none }
def SlotsMoreWrongFalsely : Prop := slotsMoreRow.holds Try.pinned (OpenSpec.ofChange slotsMoreWrong)

/-- 'switchboardlaw14.SlotsNone': WHATEVER THE INPUT: true; the input reads as it did. -/
def slotsNoneSpec : ChangeSpec := { name := "slotsNone", fn := fun _ => fun
  | [d1, d2] => { results := [.lit (.bool true)], args := [d1, d2] }
  | _ => none }
def slotsNoneRow : OpenClaim := { program := "ytglcmnhaoeohdaa", sum := "7cec348ac522c416f0ad9abb192aa34b5c36d6b9715aaf7303cf51153a5934af", func := "switchboard/switchboardlaw14.SlotsNone", spec := "slotsNone", apart := false }
def SlotsNoneSaid : Prop := slotsNoneRow.holds Try.pinned (OpenSpec.ofChange slotsNoneSpec)

/-- ITS FALSE NEIGHBOUR: 'it returns false'. Refute it at one input. -/
def slotsNoneWrong : ChangeSpec := { name := "slotsNone", fn := fun _ => fun
  | [d1, d2] => { results := [.lit (.bool false)], args := [d1, d2] }
  | _ => none }
def SlotsNoneWrongFalsely : Prop := slotsNoneRow.holds Try.pinned (OpenSpec.ofChange slotsNoneWrong)

/- THE SECOND FORM. 'bulk': how many values and letters a reading holds, each counted each time it is reached (what is shared counts as often as it is met; a slice's spare places count too). A statement '..UptoSaid' is the law's where the arguments, and the package variables that the reading takes, are together of bulk at most 1048576: NARROWER than '..Said'. Prove '..Said' where nothing that the law and all that it calls make is longer than what came in: it says more and counts as full. Else prove '..UptoSaid'. A law counts once. -/
mutual
def uptoBulk {H : Type} : DataW H → Nat
  | .lit (.string bytes) => bytes.length + 1
  | .lit _ => 1
  | .nil => 1
  | .ptr d => uptoBulk d + 1
  | .slice elems spare => uptoBulkAll elems + uptoBulkAll spare + 1
  | .agg parts => uptoBulkAll parts + 1
  | .iface _ d => uptoBulk d + 1
  | .map entries => uptoBulkEntries entries + 1
  | .held _ => 1
def uptoBulkAll {H : Type} : List (DataW H) → Nat
  | [] => 0
  | d :: r => uptoBulk d + uptoBulkAll r
def uptoBulkEntries {H : Type} : List (Lit × DataW H) → Nat
  | [] => 0
  | x :: r => uptoBulkEntry x + uptoBulkEntries r
def uptoBulkEntry {H : Type} : Lit × DataW H → Nat
  | (.string bytes, d) => bytes.length + uptoBulk d + 1
  | (_, d) => uptoBulk d + 1
 end
def uptoSmall : (H : Type) → List (DataW H) → Bool := fun _ ds => decide (uptoBulkAll ds ≤ 1048576)
def OpenSpec.upto (s : _root_.Go.ChangeSpec) : _root_.Go.OpenSpec := { _root_.Go.OpenSpec.ofChange s with cond := some uptoSmall }

/-- 'switchboardlaw14.SlotsExact', WHERE WHAT IT READS IS OF BULK AT MOST 1048576: true; the input reads as it did. -/
def slotsExactUptoRow : OpenClaim := { program := "ytglcmnhaoeohdaa", sum := "7cec348ac522c416f0ad9abb192aa34b5c36d6b9715aaf7303cf51153a5934af", func := "switchboard/switchboardlaw14.SlotsExact", spec := "slotsExact", apart := false, narrowed := true }
def SlotsExactUptoSaid : Prop := slotsExactUptoRow.holds Try.pinned (OpenSpec.upto slotsExactSpec)

/-- 'switchboardlaw14.SlotsRoom', WHERE WHAT IT READS IS OF BULK AT MOST 1048576: true; the input reads as it did. -/
def slotsRoomUptoRow : OpenClaim := { program := "ytglcmnhaoeohdaa", sum := "7cec348ac522c416f0ad9abb192aa34b5c36d6b9715aaf7303cf51153a5934af", func := "switchboard/switchboardlaw14.SlotsRoom", spec := "slotsRoom", apart := false, narrowed := true }
def SlotsRoomUptoSaid : Prop := slotsRoomUptoRow.holds Try.pinned (OpenSpec.upto slotsRoomSpec)

/-- 'switchboardlaw14.SlotsMore', WHERE WHAT IT READS IS OF BULK AT MOST 1048576: true; the input reads as it did. -/
def slotsMoreUptoRow : OpenClaim := { program := "ytglcmnhaoeohdaa", sum := "7cec348ac522c416f0ad9abb192aa34b5c36d6b9715aaf7303cf51153a5934af", func := "switchboard/switchboardlaw14.SlotsMore", spec := "slotsMore", apart := false, narrowed := true }
def SlotsMoreUptoSaid : Prop := slotsMoreUptoRow.holds Try.pinned (OpenSpec.upto slotsMoreSpec)

/-- 'switchboardlaw14.SlotsNone', WHERE WHAT IT READS IS OF BULK AT MOST 1048576: true; the input reads as it did. -/
def slotsNoneUptoRow : OpenClaim := { program := "ytglcmnhaoeohdaa", sum := "7cec348ac522c416f0ad9abb192aa34b5c36d6b9715aaf7303cf51153a5934af", func := "switchboard/switchboardlaw14.SlotsNone", spec := "slotsNone", apart := false, narrowed := true }
def SlotsNoneUptoSaid : Prop := slotsNoneUptoRow.holds Try.pinned (OpenSpec.upto slotsNoneSpec)

end Rows
end Go.Proofs.Ytglcmnhaoeohdaa
