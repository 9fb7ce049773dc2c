/-
  No cell of these rows narrows 'for every input' (looked for: loops, veiled, ifaces, maps, wideKeys, modest, calm, conditions, laid).
  DERIVED. THE GIVEN ROWS OF THIS SEAT. 4 by the template 'for every input the law returns true; each argument reads behind the call as it read before'; 0 by the template 'total and deterministic' (their statements: YtegjdddpojgplaaTotals.lean).
  GIVEN WITH THE SEED: the statements are not yours to turn. If you find one false, say at which input.
  Laid BY PROGRAM, IN A SANDBOX (cutbox-rows.mjs): the forced cells as the released guide's own fill.sh prints them over the translation cba8a702e0e82240… (all of the seat's roots in one cut). By AI agents, Wed Nov 11 2026. No macro, syntax, notation, axiom, sorry.
-/
import Derived.Test.YtegjdddpojgplaaChecked
import GoSem.Claim
import GoSem.ClaimJoined
import GoSem.ClaimMapViews
import Derived.JoinedTies
import Derived.KernelRfl
namespace Go.Proofs.Ytegjdddpojgplaa
/- THE CELL 'sum', in the pinned program and in every row, IS THE sha256 OF THE DUMP (.gsa) THAT YtegjdddpojgplaaProg.lean LOADS. Nothing in Lean hashes anything: it is a label: what it is worth is what the hold of that sum in a sandbox is worth. -/
noncomputable def Try.pinned : Pinned := { name := "ytegjdddpojgplaa", sum := "cba8a702e0e82240c0080e2258add5f44adfa38840315284b540136fc8931981", checked := Try.checked }
namespace Rows
def none {H : Type} : Left H := { results := [], args := [] }

/-- 'switchboardlaw11.ExpertExact': WHATEVER THE INPUT: true; the input reads as it did. -/
def expertExactSpec : ChangeSpec := { name := "expertExact", fn := fun _ => fun
  | [d1, d2, d3] => { results := [.lit (.bool true)], args := [d1, d2, d3] }
  | _ => none }
def expertExactRow : OpenClaim := { program := "ytegjdddpojgplaa", sum := "cba8a702e0e82240c0080e2258add5f44adfa38840315284b540136fc8931981", func := "switchboard/switchboardlaw11.ExpertExact", spec := "expertExact", unfollowed := true, recurses := true, apart := false }
def ExpertExactSaid : Prop := expertExactRow.holds Try.pinned (OpenSpec.ofChange expertExactSpec)

/-- ITS FALSE NEIGHBOUR: 'it returns false'. Refute it at one input. -/
def expertExactWrong : ChangeSpec := { name := "expertExact", fn := fun _ => fun
  | [d1, d2, d3] => { results := [.lit (.bool false)], args := [d1, d2, d3] }
  | _ => none }
def ExpertExactWrongFalsely : Prop := expertExactRow.holds Try.pinned (OpenSpec.ofChange expertExactWrong)

/-- 'switchboardlaw11.ExpertNone': WHATEVER THE INPUT: true; the input reads as it did. -/
def expertNoneSpec : ChangeSpec := { name := "expertNone", fn := fun _ => fun
  | [d1, d2] => { results := [.lit (.bool true)], args := [d1, d2] }
  | _ => none }
def expertNoneRow : OpenClaim := { program := "ytegjdddpojgplaa", sum := "cba8a702e0e82240c0080e2258add5f44adfa38840315284b540136fc8931981", func := "switchboard/switchboardlaw11.ExpertNone", spec := "expertNone", unfollowed := true, recurses := true, apart := false }
def ExpertNoneSaid : Prop := expertNoneRow.holds Try.pinned (OpenSpec.ofChange expertNoneSpec)

/-- ITS FALSE NEIGHBOUR: 'it returns false'. Refute it at one input. -/
def expertNoneWrong : ChangeSpec := { name := "expertNone", fn := fun _ => fun
  | [d1, d2] => { results := [.lit (.bool false)], args := [d1, d2] }
  | _ => none }
def ExpertNoneWrongFalsely : Prop := expertNoneRow.holds Try.pinned (OpenSpec.ofChange expertNoneWrong)

/-- 'switchboardlaw11.ExpertShape': WHATEVER THE INPUT: true; the input reads as it did. -/
def expertShapeSpec : ChangeSpec := { name := "expertShape", fn := fun _ => fun
  | [d1, d2] => { results := [.lit (.bool true)], args := [d1, d2] }
  | _ => none }
def expertShapeRow : OpenClaim := { program := "ytegjdddpojgplaa", sum := "cba8a702e0e82240c0080e2258add5f44adfa38840315284b540136fc8931981", func := "switchboard/switchboardlaw11.ExpertShape", spec := "expertShape", unfollowed := true, recurses := true, apart := false }
def ExpertShapeSaid : Prop := expertShapeRow.holds Try.pinned (OpenSpec.ofChange expertShapeSpec)

/-- ITS FALSE NEIGHBOUR: 'it returns false'. Refute it at one input. -/
def expertShapeWrong : ChangeSpec := { name := "expertShape", fn := fun _ => fun
  | [d1, d2] => { results := [.lit (.bool false)], args := [d1, d2] }
  | _ => none }
def ExpertShapeWrongFalsely : Prop := expertShapeRow.holds Try.pinned (OpenSpec.ofChange expertShapeWrong)

/-- 'switchboardlaw11.ExpertJoins': WHATEVER THE INPUT: true; the input reads as it did. -/
def expertJoinsSpec : ChangeSpec := { name := "expertJoins", fn := fun _ => fun
  | [d1, d2, d3, d4, d5] => { results := [.lit (.bool true)], args := [d1, d2, d3, d4, d5] }
  | _ => none }
def expertJoinsRow : OpenClaim := { program := "ytegjdddpojgplaa", sum := "cba8a702e0e82240c0080e2258add5f44adfa38840315284b540136fc8931981", func := "switchboard/switchboardlaw11.ExpertJoins", spec := "expertJoins", unfollowed := true, recurses := true, apart := false }
def ExpertJoinsSaid : Prop := expertJoinsRow.holds Try.pinned (OpenSpec.ofChange expertJoinsSpec)

/-- ITS FALSE NEIGHBOUR: 'it returns false'. Refute it at one input. -/
def expertJoinsWrong : ChangeSpec := { name := "expertJoins", fn := fun _ => fun
  | [d1, d2, d3, d4, d5] => { results := [.lit (.bool false)], args := [d1, d2, d3, d4, d5] }
  | _ => none }
def ExpertJoinsWrongFalsely : Prop := expertJoinsRow.holds Try.pinned (OpenSpec.ofChange expertJoinsWrong)

/- THE SECOND FORM. 'bulk': how many values and letters a reading holds, each counted each time it is reached (what is shared counts as often as it is met; a slice's spare places count too). A statement '..UptoSaid' is the law's where the arguments, and the package variables that the reading takes, are together of bulk at most 1048576: NARROWER than '..Said'. Prove '..Said' where nothing that the law and all that it calls make is longer than what came in: it says more and counts as full. Else prove '..UptoSaid'. A law counts once. -/
mutual
def uptoBulk {H : Type} : DataW H → Nat
  | .lit (.string bytes) => bytes.length + 1
  | .lit _ => 1
  | .nil => 1
  | .ptr d => uptoBulk d + 1
  | .slice elems spare => uptoBulkAll elems + uptoBulkAll spare + 1
  | .agg parts => uptoBulkAll parts + 1
  | .iface _ d => uptoBulk d + 1
  | .map entries => uptoBulkEntries entries + 1
  | .held _ => 1
def uptoBulkAll {H : Type} : List (DataW H) → Nat
  | [] => 0
  | d :: r => uptoBulk d + uptoBulkAll r
def uptoBulkEntries {H : Type} : List (Lit × DataW H) → Nat
  | [] => 0
  | x :: r => uptoBulkEntry x + uptoBulkEntries r
def uptoBulkEntry {H : Type} : Lit × DataW H → Nat
  | (.string bytes, d) => bytes.length + uptoBulk d + 1
  | (_, d) => uptoBulk d + 1
 end
def uptoSmall : (H : Type) → List (DataW H) → Bool := fun _ ds => decide (uptoBulkAll ds ≤ 1048576)
def OpenSpec.upto (s : _root_.Go.ChangeSpec) : _root_.Go.OpenSpec := { _root_.Go.OpenSpec.ofChange s with cond := some uptoSmall }

/-- 'switchboardlaw11.ExpertExact', WHERE WHAT IT READS IS OF BULK AT MOST 1048576: true; the input reads as it did. -/
def expertExactUptoRow : OpenClaim := { program := "ytegjdddpojgplaa", sum := "cba8a702e0e82240c0080e2258add5f44adfa38840315284b540136fc8931981", func := "switchboard/switchboardlaw11.ExpertExact", spec := "expertExact", unfollowed := true, recurses := true, apart := false, narrowed := true }
def ExpertExactUptoSaid : Prop := expertExactUptoRow.holds Try.pinned (OpenSpec.upto expertExactSpec)

/-- 'switchboardlaw11.ExpertNone', WHERE WHAT IT READS IS OF BULK AT MOST 1048576: true; the input reads as it did. -/
def expertNoneUptoRow : OpenClaim := { program := "ytegjdddpojgplaa", sum := "cba8a702e0e82240c0080e2258add5f44adfa38840315284b540136fc8931981", func := "switchboard/switchboardlaw11.ExpertNone", spec := "expertNone", unfollowed := true, recurses := true, apart := false, narrowed := true }
def ExpertNoneUptoSaid : Prop := expertNoneUptoRow.holds Try.pinned (OpenSpec.upto expertNoneSpec)

/-- 'switchboardlaw11.ExpertShape', WHERE WHAT IT READS IS OF BULK AT MOST 1048576: true; the input reads as it did. -/
def expertShapeUptoRow : OpenClaim := { program := "ytegjdddpojgplaa", sum := "cba8a702e0e82240c0080e2258add5f44adfa38840315284b540136fc8931981", func := "switchboard/switchboardlaw11.ExpertShape", spec := "expertShape", unfollowed := true, recurses := true, apart := false, narrowed := true }
def ExpertShapeUptoSaid : Prop := expertShapeUptoRow.holds Try.pinned (OpenSpec.upto expertShapeSpec)

/-- 'switchboardlaw11.ExpertJoins', WHERE WHAT IT READS IS OF BULK AT MOST 1048576: true; the input reads as it did. -/
def expertJoinsUptoRow : OpenClaim := { program := "ytegjdddpojgplaa", sum := "cba8a702e0e82240c0080e2258add5f44adfa38840315284b540136fc8931981", func := "switchboard/switchboardlaw11.ExpertJoins", spec := "expertJoins", unfollowed := true, recurses := true, apart := false, narrowed := true }
def ExpertJoinsUptoSaid : Prop := expertJoinsUptoRow.holds Try.pinned (OpenSpec.upto expertJoinsSpec)

end Rows
end Go.Proofs.Ytegjdddpojgplaa
