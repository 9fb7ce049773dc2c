/-
  No cell of these rows narrows 'for every input' (looked for: loops, veiled, ifaces, maps, wideKeys, modest, calm, conditions, laid).
  DERIVED. THE GIVEN ROWS OF THIS SEAT. 5 by the template 'for every input the law returns true; each argument reads behind the call as it read before'; 0 by the template 'total and deterministic' (their statements: YtfdhfmnjihnonaaTotals.lean).
  GIVEN WITH THE SEED: the statements are not yours to turn. If you find one false, say at which input.
  Laid BY PROGRAM, IN A SANDBOX (cutbox-rows.mjs): the forced cells as the released guide's own fill.sh prints them over the translation fa5a1dd600a7d814… (all of the seat's roots in one cut). By AI agents, Wed Nov 11 2026. No macro, syntax, notation, axiom, sorry.
-/
import Derived.Test.YtfdhfmnjihnonaaChecked
import GoSem.Claim
import GoSem.ClaimJoined
import GoSem.ClaimMapViews
import Derived.JoinedTies
import Derived.KernelRfl
namespace Go.Proofs.Ytfdhfmnjihnonaa
/- THE CELL 'sum', in the pinned program and in every row, IS THE sha256 OF THE DUMP (.gsa) THAT YtfdhfmnjihnonaaProg.lean LOADS. Nothing in Lean hashes anything: it is a label: what it is worth is what the hold of that sum in a sandbox is worth. -/
noncomputable def Try.pinned : Pinned := { name := "ytfdhfmnjihnonaa", sum := "fa5a1dd600a7d814df60e2e78a3e40b2483a4b6c02d3fa4f384c26d06dc81627", checked := Try.checked }
namespace Rows
def none {H : Type} : Left H := { results := [], args := [] }

/-- 'switchboardlaw02.VecParts': WHATEVER THE INPUT: true; the input reads as it did. -/
def vecPartsSpec : ChangeSpec := { name := "vecParts", fn := fun _ => fun
  | [d1, d2, d3, d4] => { results := [.lit (.bool true)], args := [d1, d2, d3, d4] }
  | _ => none }
def vecPartsRow : OpenClaim := { program := "ytfdhfmnjihnonaa", sum := "fa5a1dd600a7d814df60e2e78a3e40b2483a4b6c02d3fa4f384c26d06dc81627", func := "switchboard/switchboardlaw02.VecParts", spec := "vecParts", unfollowed := true, recurses := true, apart := false }
def VecPartsSaid : Prop := vecPartsRow.holds Try.pinned (OpenSpec.ofChange vecPartsSpec)

/-- ITS FALSE NEIGHBOUR: 'it returns false'. Refute it at one input. -/
def vecPartsWrong : ChangeSpec := { name := "vecParts", fn := fun _ => fun
  | [d1, d2, d3, d4] => { results := [.lit (.bool false)], args := [d1, d2, d3, d4] }
  | _ => none }
def VecPartsWrongFalsely : Prop := vecPartsRow.holds Try.pinned (OpenSpec.ofChange vecPartsWrong)

/-- 'switchboardlaw02.VecTurns': WHATEVER THE INPUT: true; the input reads as it did. -/
def vecTurnsSpec : ChangeSpec := { name := "vecTurns", fn := fun _ => fun
  | [d1, d2] => { results := [.lit (.bool true)], args := [d1, d2] }
  | _ => none }
def vecTurnsRow : OpenClaim := { program := "ytfdhfmnjihnonaa", sum := "fa5a1dd600a7d814df60e2e78a3e40b2483a4b6c02d3fa4f384c26d06dc81627", func := "switchboard/switchboardlaw02.VecTurns", spec := "vecTurns", unfollowed := true, recurses := true, apart := false }
def VecTurnsSaid : Prop := vecTurnsRow.holds Try.pinned (OpenSpec.ofChange vecTurnsSpec)

/-- ITS FALSE NEIGHBOUR: 'it returns false'. Refute it at one input. -/
def vecTurnsWrong : ChangeSpec := { name := "vecTurns", fn := fun _ => fun
  | [d1, d2] => { results := [.lit (.bool false)], args := [d1, d2] }
  | _ => none }
def VecTurnsWrongFalsely : Prop := vecTurnsRow.holds Try.pinned (OpenSpec.ofChange vecTurnsWrong)

/-- 'switchboardlaw02.VecUnits': WHATEVER THE INPUT: true; the input reads as it did. -/
def vecUnitsSpec : ChangeSpec := { name := "vecUnits", fn := fun _ => fun
  | [d1, d2] => { results := [.lit (.bool true)], args := [d1, d2] }
  | _ => none }
def vecUnitsRow : OpenClaim := { program := "ytfdhfmnjihnonaa", sum := "fa5a1dd600a7d814df60e2e78a3e40b2483a4b6c02d3fa4f384c26d06dc81627", func := "switchboard/switchboardlaw02.VecUnits", spec := "vecUnits", unfollowed := true, recurses := true, apart := false }
def VecUnitsSaid : Prop := vecUnitsRow.holds Try.pinned (OpenSpec.ofChange vecUnitsSpec)

/-- ITS FALSE NEIGHBOUR: 'it returns false'. Refute it at one input. -/
def vecUnitsWrong : ChangeSpec := { name := "vecUnits", fn := fun _ => fun
  | [d1, d2] => { results := [.lit (.bool false)], args := [d1, d2] }
  | _ => none }
def VecUnitsWrongFalsely : Prop := vecUnitsRow.holds Try.pinned (OpenSpec.ofChange vecUnitsWrong)

/-- 'switchboardlaw02.VecExact': WHATEVER THE INPUT: true; the input reads as it did. -/
def vecExactSpec : ChangeSpec := { name := "vecExact", fn := fun _ => fun
  | [d1, d2, d3] => { results := [.lit (.bool true)], args := [d1, d2, d3] }
  | _ => none }
def vecExactRow : OpenClaim := { program := "ytfdhfmnjihnonaa", sum := "fa5a1dd600a7d814df60e2e78a3e40b2483a4b6c02d3fa4f384c26d06dc81627", func := "switchboard/switchboardlaw02.VecExact", spec := "vecExact", unfollowed := true, recurses := true, apart := false }
def VecExactSaid : Prop := vecExactRow.holds Try.pinned (OpenSpec.ofChange vecExactSpec)

/-- ITS FALSE NEIGHBOUR: 'it returns false'. Refute it at one input. -/
def vecExactWrong : ChangeSpec := { name := "vecExact", fn := fun _ => fun
  | [d1, d2, d3] => { results := [.lit (.bool false)], args := [d1, d2, d3] }
  | _ => none }
def VecExactWrongFalsely : Prop := vecExactRow.holds Try.pinned (OpenSpec.ofChange vecExactWrong)

/-- 'switchboardlaw02.VecLong': WHATEVER THE INPUT: true; the input reads as it did. -/
def vecLongSpec : ChangeSpec := { name := "vecLong", fn := fun _ => fun
  | [d1, d2] => { results := [.lit (.bool true)], args := [d1, d2] }
  | _ => none }
def vecLongRow : OpenClaim := { program := "ytfdhfmnjihnonaa", sum := "fa5a1dd600a7d814df60e2e78a3e40b2483a4b6c02d3fa4f384c26d06dc81627", func := "switchboard/switchboardlaw02.VecLong", spec := "vecLong", unfollowed := true, recurses := true, apart := false }
def VecLongSaid : Prop := vecLongRow.holds Try.pinned (OpenSpec.ofChange vecLongSpec)

/-- ITS FALSE NEIGHBOUR: 'it returns false'. Refute it at one input. -/
def vecLongWrong : ChangeSpec := { name := "vecLong", fn := fun _ => fun
  | [d1, d2] => { results := [.lit (.bool false)], args := [d1, d2] }
  | _ => none }
def VecLongWrongFalsely : Prop := vecLongRow.holds Try.pinned (OpenSpec.ofChange vecLongWrong)

/- THE SECOND FORM. 'bulk': how many values and letters a reading holds, each counted each time it is reached (what is shared counts as often as it is met; a slice's spare places count too). A statement '..UptoSaid' is the law's where the arguments, and the package variables that the reading takes, are together of bulk at most 1048576: NARROWER than '..Said'. Prove '..Said' where nothing that the law and all that it calls make is longer than what came in: it says more and counts as full. Else prove '..UptoSaid'. A law counts once. -/
mutual
def uptoBulk {H : Type} : DataW H → Nat
  | .lit (.string bytes) => bytes.length + 1
  | .lit _ => 1
  | .nil => 1
  | .ptr d => uptoBulk d + 1
  | .slice elems spare => uptoBulkAll elems + uptoBulkAll spare + 1
  | .agg parts => uptoBulkAll parts + 1
  | .iface _ d => uptoBulk d + 1
  | .map entries => uptoBulkEntries entries + 1
  | .held _ => 1
def uptoBulkAll {H : Type} : List (DataW H) → Nat
  | [] => 0
  | d :: r => uptoBulk d + uptoBulkAll r
def uptoBulkEntries {H : Type} : List (Lit × DataW H) → Nat
  | [] => 0
  | x :: r => uptoBulkEntry x + uptoBulkEntries r
def uptoBulkEntry {H : Type} : Lit × DataW H → Nat
  | (.string bytes, d) => bytes.length + uptoBulk d + 1
  | (_, d) => uptoBulk d + 1
 end
def uptoSmall : (H : Type) → List (DataW H) → Bool := fun _ ds => decide (uptoBulkAll ds ≤ 1048576)
def OpenSpec.upto (s : _root_.Go.ChangeSpec) : _root_.Go.OpenSpec := { _root_.Go.OpenSpec.ofChange s with cond := some uptoSmall }

/-- 'switchboardlaw02.VecParts', WHERE WHAT IT READS IS OF BULK AT MOST 1048576: true; the input reads as it did. -/
def vecPartsUptoRow : OpenClaim := { program := "ytfdhfmnjihnonaa", sum := "fa5a1dd600a7d814df60e2e78a3e40b2483a4b6c02d3fa4f384c26d06dc81627", func := "switchboard/switchboardlaw02.VecParts", spec := "vecParts", unfollowed := true, recurses := true, apart := false, narrowed := true }
def VecPartsUptoSaid : Prop := vecPartsUptoRow.holds Try.pinned (OpenSpec.upto vecPartsSpec)

/-- 'switchboardlaw02.VecTurns', WHERE WHAT IT READS IS OF BULK AT MOST 1048576: true; the input reads as it did. -/
def vecTurnsUptoRow : OpenClaim := { program := "ytfdhfmnjihnonaa", sum := "fa5a1dd600a7d814df60e2e78a3e40b2483a4b6c02d3fa4f384c26d06dc81627", func := "switchboard/switchboardlaw02.VecTurns", spec := "vecTurns", unfollowed := true, recurses := true, apart := false, narrowed := true }
def VecTurnsUptoSaid : Prop := vecTurnsUptoRow.holds Try.pinned (OpenSpec.upto vecTurnsSpec)

/-- 'switchboardlaw02.VecUnits', WHERE WHAT IT READS IS OF BULK AT MOST 1048576: true; the input reads as it did. -/
def vecUnitsUptoRow : OpenClaim := { program := "ytfdhfmnjihnonaa", sum := "fa5a1dd600a7d814df60e2e78a3e40b2483a4b6c02d3fa4f384c26d06dc81627", func := "switchboard/switchboardlaw02.VecUnits", spec := "vecUnits", unfollowed := true, recurses := true, apart := false, narrowed := true }
def VecUnitsUptoSaid : Prop := vecUnitsUptoRow.holds Try.pinned (OpenSpec.upto vecUnitsSpec)

/-- 'switchboardlaw02.VecExact', WHERE WHAT IT READS IS OF BULK AT MOST 1048576: true; the input reads as it did. -/
def vecExactUptoRow : OpenClaim := { program := "ytfdhfmnjihnonaa", sum := "fa5a1dd600a7d814df60e2e78a3e40b2483a4b6c02d3fa4f384c26d06dc81627", func := "switchboard/switchboardlaw02.VecExact", spec := "vecExact", unfollowed := true, recurses := true, apart := false, narrowed := true }
def VecExactUptoSaid : Prop := vecExactUptoRow.holds Try.pinned (OpenSpec.upto vecExactSpec)

/-- 'switchboardlaw02.VecLong', WHERE WHAT IT READS IS OF BULK AT MOST 1048576: true; the input reads as it did. -/
def vecLongUptoRow : OpenClaim := { program := "ytfdhfmnjihnonaa", sum := "fa5a1dd600a7d814df60e2e78a3e40b2483a4b6c02d3fa4f384c26d06dc81627", func := "switchboard/switchboardlaw02.VecLong", spec := "vecLong", unfollowed := true, recurses := true, apart := false, narrowed := true }
def VecLongUptoSaid : Prop := vecLongUptoRow.holds Try.pinned (OpenSpec.upto vecLongSpec)

end Rows
end Go.Proofs.Ytfdhfmnjihnonaa
