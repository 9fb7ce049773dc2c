/-
  No cell of these rows narrows 'for every input' (looked for: loops, veiled, ifaces, maps, wideKeys, modest, calm, conditions, laid).
  DERIVED. THE GIVEN ROWS OF THIS SEAT. 5 by the template 'for every input the law returns true; each argument reads behind the call as it read before'; 0 by the template 'total and deterministic' (their statements: YtogjmiihofddbaaTotals.lean).
  GIVEN WITH THE SEED: the statements are not yours to turn. If you find one false, say at which input.
  Laid BY PROGRAM, IN A SANDBOX (cutbox-rows.mjs): the forced cells as the released guide's own fill.sh prints them over the translation 33828e0154eb24a2… (all of the seat's roots in one cut). By AI agents, Wed Nov 11 2026. No macro, syntax, notation, axiom, sorry.
-/
import Derived.Test.YtogjmiihofddbaaChecked
import GoSem.Claim
import GoSem.ClaimJoined
import GoSem.ClaimMapViews
import Derived.JoinedTies
import Derived.KernelRfl
namespace Go.Proofs.Ytogjmiihofddbaa
/- THE CELL 'sum', in the pinned program and in every row, IS THE sha256 OF THE DUMP (.gsa) THAT YtogjmiihofddbaaProg.lean LOADS. Nothing in Lean hashes anything: it is a label: what it is worth is what the hold of that sum in a sandbox is worth. -/
noncomputable def Try.pinned : Pinned := { name := "ytogjmiihofddbaa", sum := "33828e0154eb24a2043cea3f2f8ede8911ce3365cb2e5359cff6f92184ff7a99", checked := Try.checked }
namespace Rows
def none {H : Type} : Left H := { results := [], args := [] }

/-- 'switchboardlaw03.MatExact': WHATEVER THE INPUT: true; the input reads as it did. -/
def matExactSpec : ChangeSpec := { name := "matExact", fn := fun _ => fun
  | [d1, d2, d3, d4] => { results := [.lit (.bool true)], args := [d1, d2, d3, d4] }
  | _ => none }
def matExactRow : OpenClaim := { program := "ytogjmiihofddbaa", sum := "33828e0154eb24a2043cea3f2f8ede8911ce3365cb2e5359cff6f92184ff7a99", func := "switchboard/switchboardlaw03.MatExact", spec := "matExact", unfollowed := true, recurses := true, apart := false }
def MatExactSaid : Prop := matExactRow.holds Try.pinned (OpenSpec.ofChange matExactSpec)

/-- ITS FALSE NEIGHBOUR: 'it returns false'. Refute it at one input. -/
def matExactWrong : ChangeSpec := { name := "matExact", fn := fun _ => fun
  | [d1, d2, d3, d4] => { results := [.lit (.bool false)], args := [d1, d2, d3, d4] }
  | _ => none }
def MatExactWrongFalsely : Prop := matExactRow.holds Try.pinned (OpenSpec.ofChange matExactWrong)

/-- 'switchboardlaw03.MatJoins': WHATEVER THE INPUT: true; the input reads as it did. -/
def matJoinsSpec : ChangeSpec := { name := "matJoins", fn := fun _ => fun
  | [d1, d2, d3] => { results := [.lit (.bool true)], args := [d1, d2, d3] }
  | _ => none }
def matJoinsRow : OpenClaim := { program := "ytogjmiihofddbaa", sum := "33828e0154eb24a2043cea3f2f8ede8911ce3365cb2e5359cff6f92184ff7a99", func := "switchboard/switchboardlaw03.MatJoins", spec := "matJoins", unfollowed := true, recurses := true, apart := false }
def MatJoinsSaid : Prop := matJoinsRow.holds Try.pinned (OpenSpec.ofChange matJoinsSpec)

/-- ITS FALSE NEIGHBOUR: 'it returns false'. Refute it at one input. -/
def matJoinsWrong : ChangeSpec := { name := "matJoins", fn := fun _ => fun
  | [d1, d2, d3] => { results := [.lit (.bool false)], args := [d1, d2, d3] }
  | _ => none }
def MatJoinsWrongFalsely : Prop := matJoinsRow.holds Try.pinned (OpenSpec.ofChange matJoinsWrong)

/-- 'switchboardlaw03.MatUnits': WHATEVER THE INPUT: true; the input reads as it did. -/
def matUnitsSpec : ChangeSpec := { name := "matUnits", fn := fun _ => fun
  | [d] => { results := [.lit (.bool true)], args := [d] }
  | _ => none }
def matUnitsRow : OpenClaim := { program := "ytogjmiihofddbaa", sum := "33828e0154eb24a2043cea3f2f8ede8911ce3365cb2e5359cff6f92184ff7a99", func := "switchboard/switchboardlaw03.MatUnits", spec := "matUnits", unfollowed := true, recurses := true, apart := false }
def MatUnitsSaid : Prop := matUnitsRow.holds Try.pinned (OpenSpec.ofChange matUnitsSpec)

/-- ITS FALSE NEIGHBOUR: 'it returns false'. Refute it at one input. -/
def matUnitsWrong : ChangeSpec := { name := "matUnits", fn := fun _ => fun
  | [d] => { results := [.lit (.bool false)], args := [d] }
  | _ => none }
def MatUnitsWrongFalsely : Prop := matUnitsRow.holds Try.pinned (OpenSpec.ofChange matUnitsWrong)

/-- 'switchboardlaw03.MatScale': WHATEVER THE INPUT: true; the input reads as it did. -/
def matScaleSpec : ChangeSpec := { name := "matScale", fn := fun _ => fun
  | [d1, d2, d3] => { results := [.lit (.bool true)], args := [d1, d2, d3] }
  | _ => none }
def matScaleRow : OpenClaim := { program := "ytogjmiihofddbaa", sum := "33828e0154eb24a2043cea3f2f8ede8911ce3365cb2e5359cff6f92184ff7a99", func := "switchboard/switchboardlaw03.MatScale", spec := "matScale", unfollowed := true, recurses := true, apart := false }
def MatScaleSaid : Prop := matScaleRow.holds Try.pinned (OpenSpec.ofChange matScaleSpec)

/-- ITS FALSE NEIGHBOUR: 'it returns false'. Refute it at one input. -/
def matScaleWrong : ChangeSpec := { name := "matScale", fn := fun _ => fun
  | [d1, d2, d3] => { results := [.lit (.bool false)], args := [d1, d2, d3] }
  | _ => none }
def MatScaleWrongFalsely : Prop := matScaleRow.holds Try.pinned (OpenSpec.ofChange matScaleWrong)

/-- 'switchboardlaw03.MatWrong': WHATEVER THE INPUT: true; the input reads as it did. -/
def matWrongSpec : ChangeSpec := { name := "matWrong", fn := fun _ => fun
  | [d1, d2, d3] => { results := [.lit (.bool true)], args := [d1, d2, d3] }
  | _ => none }
def matWrongRow : OpenClaim := { program := "ytogjmiihofddbaa", sum := "33828e0154eb24a2043cea3f2f8ede8911ce3365cb2e5359cff6f92184ff7a99", func := "switchboard/switchboardlaw03.MatWrong", spec := "matWrong", unfollowed := true, recurses := true, apart := false }
def MatWrongSaid : Prop := matWrongRow.holds Try.pinned (OpenSpec.ofChange matWrongSpec)

/-- ITS FALSE NEIGHBOUR: 'it returns false'. Refute it at one input. -/
def matWrongWrong : ChangeSpec := { name := "matWrong", fn := fun _ => fun
  | [d1, d2, d3] => { results := [.lit (.bool false)], args := [d1, d2, d3] }
  | _ => none }
def MatWrongWrongFalsely : Prop := matWrongRow.holds Try.pinned (OpenSpec.ofChange matWrongWrong)

/- THE SECOND FORM. 'bulk': how many values and letters a reading holds, each counted each time it is reached (what is shared counts as often as it is met; a slice's spare places count too). A statement '..UptoSaid' is the law's where the arguments, and the package variables that the reading takes, are together of bulk at most 1048576: NARROWER than '..Said'. Prove '..Said' where nothing that the law and all that it calls make is longer than what came in: it says more and counts as full. Else prove '..UptoSaid'. A law counts once. -/
mutual
def uptoBulk {H : Type} : DataW H → Nat
  | .lit (.string bytes) => bytes.length + 1
  | .lit _ => 1
  | .nil => 1
  | .ptr d => uptoBulk d + 1
  | .slice elems spare => uptoBulkAll elems + uptoBulkAll spare + 1
  | .agg parts => uptoBulkAll parts + 1
  | .iface _ d => uptoBulk d + 1
  | .map entries => uptoBulkEntries entries + 1
  | .held _ => 1
def uptoBulkAll {H : Type} : List (DataW H) → Nat
  | [] => 0
  | d :: r => uptoBulk d + uptoBulkAll r
def uptoBulkEntries {H : Type} : List (Lit × DataW H) → Nat
  | [] => 0
  | x :: r => uptoBulkEntry x + uptoBulkEntries r
def uptoBulkEntry {H : Type} : Lit × DataW H → Nat
  | (.string bytes, d) => bytes.length + uptoBulk d + 1
  | (_, d) => uptoBulk d + 1
 end
def uptoSmall : (H : Type) → List (DataW H) → Bool := fun _ ds => decide (uptoBulkAll ds ≤ 1048576)
def OpenSpec.upto (s : _root_.Go.ChangeSpec) : _root_.Go.OpenSpec := { _root_.Go.OpenSpec.ofChange s with cond := some uptoSmall }

/-- 'switchboardlaw03.MatExact', WHERE WHAT IT READS IS OF BULK AT MOST 1048576: true; the input reads as it did. -/
def matExactUptoRow : OpenClaim := { program := "ytogjmiihofddbaa", sum := "33828e0154eb24a2043cea3f2f8ede8911ce3365cb2e5359cff6f92184ff7a99", func := "switchboard/switchboardlaw03.MatExact", spec := "matExact", unfollowed := true, recurses := true, apart := false, narrowed := true }
def MatExactUptoSaid : Prop := matExactUptoRow.holds Try.pinned (OpenSpec.upto matExactSpec)

/-- 'switchboardlaw03.MatJoins', WHERE WHAT IT READS IS OF BULK AT MOST 1048576: true; the input reads as it did. -/
def matJoinsUptoRow : OpenClaim := { program := "ytogjmiihofddbaa", sum := "33828e0154eb24a2043cea3f2f8ede8911ce3365cb2e5359cff6f92184ff7a99", func := "switchboard/switchboardlaw03.MatJoins", spec := "matJoins", unfollowed := true, recurses := true, apart := false, narrowed := true }
def MatJoinsUptoSaid : Prop := matJoinsUptoRow.holds Try.pinned (OpenSpec.upto matJoinsSpec)

/-- 'switchboardlaw03.MatUnits', WHERE WHAT IT READS IS OF BULK AT MOST 1048576: true; the input reads as it did. -/
def matUnitsUptoRow : OpenClaim := { program := "ytogjmiihofddbaa", sum := "33828e0154eb24a2043cea3f2f8ede8911ce3365cb2e5359cff6f92184ff7a99", func := "switchboard/switchboardlaw03.MatUnits", spec := "matUnits", unfollowed := true, recurses := true, apart := false, narrowed := true }
def MatUnitsUptoSaid : Prop := matUnitsUptoRow.holds Try.pinned (OpenSpec.upto matUnitsSpec)

/-- 'switchboardlaw03.MatScale', WHERE WHAT IT READS IS OF BULK AT MOST 1048576: true; the input reads as it did. -/
def matScaleUptoRow : OpenClaim := { program := "ytogjmiihofddbaa", sum := "33828e0154eb24a2043cea3f2f8ede8911ce3365cb2e5359cff6f92184ff7a99", func := "switchboard/switchboardlaw03.MatScale", spec := "matScale", unfollowed := true, recurses := true, apart := false, narrowed := true }
def MatScaleUptoSaid : Prop := matScaleUptoRow.holds Try.pinned (OpenSpec.upto matScaleSpec)

/-- 'switchboardlaw03.MatWrong', WHERE WHAT IT READS IS OF BULK AT MOST 1048576: true; the input reads as it did. -/
def matWrongUptoRow : OpenClaim := { program := "ytogjmiihofddbaa", sum := "33828e0154eb24a2043cea3f2f8ede8911ce3365cb2e5359cff6f92184ff7a99", func := "switchboard/switchboardlaw03.MatWrong", spec := "matWrong", unfollowed := true, recurses := true, apart := false, narrowed := true }
def MatWrongUptoSaid : Prop := matWrongUptoRow.holds Try.pinned (OpenSpec.upto matWrongSpec)

end Rows
end Go.Proofs.Ytogjmiihofddbaa
