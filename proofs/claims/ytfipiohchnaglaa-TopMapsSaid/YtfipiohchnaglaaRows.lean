/-
  No cell of these rows narrows 'for every input' (looked for: loops, veiled, ifaces, maps, wideKeys, modest, calm, conditions, laid).
  DERIVED. THE GIVEN ROWS OF THIS SEAT. 2 by the template 'for every input the law returns true; each argument reads behind the call as it read before'; 0 by the template 'total and deterministic' (their statements: YtfipiohchnaglaaTotals.lean).
  GIVEN WITH THE SEED: the statements are not yours to turn. If you find one false, say at which input.
  Laid BY PROGRAM, IN A SANDBOX (cutbox-rows.mjs): the forced cells as the released guide's own fill.sh prints them over the translation 4308f0f04d8e11f0… (all of the seat's roots in one cut). By AI agents, Wed Nov 11 2026. No macro, syntax, notation, axiom, sorry.
-/
import Derived.Test.YtfipiohchnaglaaChecked
import GoSem.Claim
import GoSem.ClaimJoined
import GoSem.ClaimMapViews
import Derived.JoinedTies
import Derived.KernelRfl
namespace Go.Proofs.Ytfipiohchnaglaa
/- THE CELL 'sum', in the pinned program and in every row, IS THE sha256 OF THE DUMP (.gsa) THAT YtfipiohchnaglaaProg.lean LOADS. Nothing in Lean hashes anything: it is a label: what it is worth is what the hold of that sum in a sandbox is worth. -/
noncomputable def Try.pinned : Pinned := { name := "ytfipiohchnaglaa", sum := "4308f0f04d8e11f07ffa49584a7ccb57ea8b39a4a59ec6fc803a3fe679e4e5bd", checked := Try.checked }
namespace Rows
def none {H : Type} : Left H := { results := [], args := [] }

/-- 'switchboardtop.TopChunks': WHATEVER THE INPUT: true; the input reads as it did. -/
def topChunksSpec : ChangeSpec := { name := "topChunks", fn := fun _ => fun
  | [d1, d2, d3] => { results := [.lit (.bool true)], args := [d1, d2, d3] }
  | _ => none }
def topChunksRow : OpenClaim := { program := "ytfipiohchnaglaa", sum := "4308f0f04d8e11f07ffa49584a7ccb57ea8b39a4a59ec6fc803a3fe679e4e5bd", func := "switchboard/switchboardtop.TopChunks", spec := "topChunks", inPlace := ["internal/abi.NoEscape", "internal/bytealg.MakeNoZero"], unfollowed := true, recurses := true, apart := false }
def TopChunksSaid : Prop := topChunksRow.holds Try.pinned (OpenSpec.ofChange topChunksSpec)

/-- ITS FALSE NEIGHBOUR: 'it returns false'. Refute it at one input. -/
def topChunksWrong : ChangeSpec := { name := "topChunks", fn := fun _ => fun
  | [d1, d2, d3] => { results := [.lit (.bool false)], args := [d1, d2, d3] }
  | _ => none }
def TopChunksWrongFalsely : Prop := topChunksRow.holds Try.pinned (OpenSpec.ofChange topChunksWrong)

/-- 'switchboardtop.TopMaps': WHATEVER THE INPUT: true; the input reads as it did. -/
def topMapsSpec : ChangeSpec := { name := "topMaps", fn := fun _ => fun
  | [d1, d2, d3, d4] => { results := [.lit (.bool true)], args := [d1, d2, d3, d4] }
  | _ => none }
def topMapsRow : OpenClaim := { program := "ytfipiohchnaglaa", sum := "4308f0f04d8e11f07ffa49584a7ccb57ea8b39a4a59ec6fc803a3fe679e4e5bd", func := "switchboard/switchboardtop.TopMaps", spec := "topMaps", unfollowed := true, recurses := true, apart := false }
def TopMapsSaid : Prop := topMapsRow.holds Try.pinned (OpenSpec.ofChange topMapsSpec)

/-- ITS FALSE NEIGHBOUR: 'it returns false'. Refute it at one input. -/
def topMapsWrong : ChangeSpec := { name := "topMaps", fn := fun _ => fun
  | [d1, d2, d3, d4] => { results := [.lit (.bool false)], args := [d1, d2, d3, d4] }
  | _ => none }
def TopMapsWrongFalsely : Prop := topMapsRow.holds Try.pinned (OpenSpec.ofChange topMapsWrong)

/- THE SECOND FORM. 'bulk': how many values and letters a reading holds, each counted each time it is reached (what is shared counts as often as it is met; a slice's spare places count too). A statement '..UptoSaid' is the law's where the arguments, and the package variables that the reading takes, are together of bulk at most 1048576: NARROWER than '..Said'. Prove '..Said' where nothing that the law and all that it calls make is longer than what came in: it says more and counts as full. Else prove '..UptoSaid'. A law counts once. -/
mutual
def uptoBulk {H : Type} : DataW H → Nat
  | .lit (.string bytes) => bytes.length + 1
  | .lit _ => 1
  | .nil => 1
  | .ptr d => uptoBulk d + 1
  | .slice elems spare => uptoBulkAll elems + uptoBulkAll spare + 1
  | .agg parts => uptoBulkAll parts + 1
  | .iface _ d => uptoBulk d + 1
  | .map entries => uptoBulkEntries entries + 1
  | .held _ => 1
def uptoBulkAll {H : Type} : List (DataW H) → Nat
  | [] => 0
  | d :: r => uptoBulk d + uptoBulkAll r
def uptoBulkEntries {H : Type} : List (Lit × DataW H) → Nat
  | [] => 0
  | x :: r => uptoBulkEntry x + uptoBulkEntries r
def uptoBulkEntry {H : Type} : Lit × DataW H → Nat
  | (.string bytes, d) => bytes.length + uptoBulk d + 1
  | (_, d) => uptoBulk d + 1
 end
def uptoSmall : (H : Type) → List (DataW H) → Bool := fun _ ds => decide (uptoBulkAll ds ≤ 1048576)
def OpenSpec.upto (s : _root_.Go.ChangeSpec) : _root_.Go.OpenSpec := { _root_.Go.OpenSpec.ofChange s with cond := some uptoSmall }

/-- 'switchboardtop.TopChunks', WHERE WHAT IT READS IS OF BULK AT MOST 1048576: true; the input reads as it did. -/
def topChunksUptoRow : OpenClaim := { program := "ytfipiohchnaglaa", sum := "4308f0f04d8e11f07ffa49584a7ccb57ea8b39a4a59ec6fc803a3fe679e4e5bd", func := "switchboard/switchboardtop.TopChunks", spec := "topChunks", inPlace := ["internal/abi.NoEscape", "internal/bytealg.MakeNoZero"], unfollowed := true, recurses := true, apart := false, narrowed := true }
def TopChunksUptoSaid : Prop := topChunksUptoRow.holds Try.pinned (OpenSpec.upto topChunksSpec)

/-- 'switchboardtop.TopMaps', WHERE WHAT IT READS IS OF BULK AT MOST 1048576: true; the input reads as it did. -/
def topMapsUptoRow : OpenClaim := { program := "ytfipiohchnaglaa", sum := "4308f0f04d8e11f07ffa49584a7ccb57ea8b39a4a59ec6fc803a3fe679e4e5bd", func := "switchboard/switchboardtop.TopMaps", spec := "topMaps", unfollowed := true, recurses := true, apart := false, narrowed := true }
def TopMapsUptoSaid : Prop := topMapsUptoRow.holds Try.pinned (OpenSpec.upto topMapsSpec)

end Rows
end Go.Proofs.Ytfipiohchnaglaa
