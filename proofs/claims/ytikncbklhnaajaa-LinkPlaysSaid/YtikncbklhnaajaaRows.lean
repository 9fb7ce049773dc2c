/-
  No cell of these rows narrows 'for every input' (looked for: loops, veiled, ifaces, maps, wideKeys, modest, calm, conditions, laid).
  DERIVED. THE GIVEN ROWS OF THIS SEAT. 5 by the template 'for every input the law returns true; each argument reads behind the call as it read before'; 0 by the template 'total and deterministic' (their statements: YtikncbklhnaajaaTotals.lean).
  GIVEN WITH THE SEED: the statements are not yours to turn. If you find one false, say at which input.
  Laid BY PROGRAM, IN A SANDBOX (cutbox-rows.mjs): the forced cells as the released guide's own fill.sh prints them over the translation d7f25c280a8fa4a9… (all of the seat's roots in one cut). By AI agents, Wed Nov 11 2026. No macro, syntax, notation, axiom, sorry.
-/
import Derived.Test.YtikncbklhnaajaaChecked
import GoSem.Claim
import GoSem.ClaimJoined
import GoSem.ClaimMapViews
import Derived.JoinedTies
import Derived.KernelRfl
namespace Go.Proofs.Ytikncbklhnaajaa
/- THE CELL 'sum', in the pinned program and in every row, IS THE sha256 OF THE DUMP (.gsa) THAT YtikncbklhnaajaaProg.lean LOADS. Nothing in Lean hashes anything: it is a label: what it is worth is what the hold of that sum in a sandbox is worth. -/
noncomputable def Try.pinned : Pinned := { name := "ytikncbklhnaajaa", sum := "d7f25c280a8fa4a9f651228249cc4c1d1c80f66c19de1029cfc58651e2430a61", checked := Try.checked }
namespace Rows
def none {H : Type} : Left H := { results := [], args := [] }

/-- 'switchboardlaw10.LinkExact': WHATEVER THE INPUT: true; the input reads as it did. -/
def linkExactSpec : ChangeSpec := { name := "linkExact", fn := fun _ => fun
  | [d1, d2, d3] => { results := [.lit (.bool true)], args := [d1, d2, d3] }
  | _ => none }
def linkExactRow : OpenClaim := { program := "ytikncbklhnaajaa", sum := "d7f25c280a8fa4a9f651228249cc4c1d1c80f66c19de1029cfc58651e2430a61", func := "switchboard/switchboardlaw10.LinkExact", spec := "linkExact", unfollowed := true, recurses := true, apart := false }
def LinkExactSaid : Prop := linkExactRow.holds Try.pinned (OpenSpec.ofChange linkExactSpec)

/-- ITS FALSE NEIGHBOUR: 'it returns false'. Refute it at one input. -/
def linkExactWrong : ChangeSpec := { name := "linkExact", fn := fun _ => fun
  | [d1, d2, d3] => { results := [.lit (.bool false)], args := [d1, d2, d3] }
  | _ => none }
def LinkExactWrongFalsely : Prop := linkExactRow.holds Try.pinned (OpenSpec.ofChange linkExactWrong)

/-- 'switchboardlaw10.LinkPlays': WHATEVER THE INPUT: true; the input reads as it did. -/
def linkPlaysSpec : ChangeSpec := { name := "linkPlays", fn := fun _ => fun
  | [d] => { results := [.lit (.bool true)], args := [d] }
  | _ => none }
def linkPlaysRow : OpenClaim := { program := "ytikncbklhnaajaa", sum := "d7f25c280a8fa4a9f651228249cc4c1d1c80f66c19de1029cfc58651e2430a61", func := "switchboard/switchboardlaw10.LinkPlays", spec := "linkPlays", unfollowed := true, recurses := true, apart := false }
def LinkPlaysSaid : Prop := linkPlaysRow.holds Try.pinned (OpenSpec.ofChange linkPlaysSpec)

/-- ITS FALSE NEIGHBOUR: 'it returns false'. Refute it at one input. -/
def linkPlaysWrong : ChangeSpec := { name := "linkPlays", fn := fun _ => fun
  | [d] => { results := [.lit (.bool false)], args := [d] }
  | _ => none }
def LinkPlaysWrongFalsely : Prop := linkPlaysRow.holds Try.pinned (OpenSpec.ofChange linkPlaysWrong)

/-- 'switchboardlaw10.LinkWrong': WHATEVER THE INPUT: true; the input reads as it did. -/
def linkWrongSpec : ChangeSpec := { name := "linkWrong", fn := fun _ => fun
  | [d1, d2] => { results := [.lit (.bool true)], args := [d1, d2] }
  | _ => none }
def linkWrongRow : OpenClaim := { program := "ytikncbklhnaajaa", sum := "d7f25c280a8fa4a9f651228249cc4c1d1c80f66c19de1029cfc58651e2430a61", func := "switchboard/switchboardlaw10.LinkWrong", spec := "linkWrong", unfollowed := true, recurses := true, apart := false }
def LinkWrongSaid : Prop := linkWrongRow.holds Try.pinned (OpenSpec.ofChange linkWrongSpec)

/-- ITS FALSE NEIGHBOUR: 'it returns false'. Refute it at one input. -/
def linkWrongWrong : ChangeSpec := { name := "linkWrong", fn := fun _ => fun
  | [d1, d2] => { results := [.lit (.bool false)], args := [d1, d2] }
  | _ => none }
def LinkWrongWrongFalsely : Prop := linkWrongRow.holds Try.pinned (OpenSpec.ofChange linkWrongWrong)

/-- 'switchboardlaw10.LinkNumbers': WHATEVER THE INPUT: true; the input reads as it did. -/
def linkNumbersSpec : ChangeSpec := { name := "linkNumbers", fn := fun _ => fun
  | [d] => { results := [.lit (.bool true)], args := [d] }
  | _ => none }
def linkNumbersRow : OpenClaim := { program := "ytikncbklhnaajaa", sum := "d7f25c280a8fa4a9f651228249cc4c1d1c80f66c19de1029cfc58651e2430a61", func := "switchboard/switchboardlaw10.LinkNumbers", spec := "linkNumbers", unfollowed := true, recurses := true, apart := false }
def LinkNumbersSaid : Prop := linkNumbersRow.holds Try.pinned (OpenSpec.ofChange linkNumbersSpec)

/-- ITS FALSE NEIGHBOUR: 'it returns false'. Refute it at one input. -/
def linkNumbersWrong : ChangeSpec := { name := "linkNumbers", fn := fun _ => fun
  | [d] => { results := [.lit (.bool false)], args := [d] }
  | _ => none }
def LinkNumbersWrongFalsely : Prop := linkNumbersRow.holds Try.pinned (OpenSpec.ofChange linkNumbersWrong)

/-- 'switchboardlaw10.LinkTexts': WHATEVER THE INPUT: true; the input reads as it did. -/
def linkTextsSpec : ChangeSpec := { name := "linkTexts", fn := fun _ => fun
  | [d1, d2] => { results := [.lit (.bool true)], args := [d1, d2] }
  | _ => none }
def linkTextsRow : OpenClaim := { program := "ytikncbklhnaajaa", sum := "d7f25c280a8fa4a9f651228249cc4c1d1c80f66c19de1029cfc58651e2430a61", func := "switchboard/switchboardlaw10.LinkTexts", spec := "linkTexts", unfollowed := true, recurses := true, apart := false }
def LinkTextsSaid : Prop := linkTextsRow.holds Try.pinned (OpenSpec.ofChange linkTextsSpec)

/-- ITS FALSE NEIGHBOUR: 'it returns false'. Refute it at one input. -/
def linkTextsWrong : ChangeSpec := { name := "linkTexts", fn := fun _ => fun
  | [d1, d2] => { results := [.lit (.bool false)], args := [d1, d2] }
  | _ => none }
def LinkTextsWrongFalsely : Prop := linkTextsRow.holds Try.pinned (OpenSpec.ofChange linkTextsWrong)

/- THE SECOND FORM. 'bulk': how many values and letters a reading holds, each counted each time it is reached (what is shared counts as often as it is met; a slice's spare places count too). A statement '..UptoSaid' is the law's where the arguments, and the package variables that the reading takes, are together of bulk at most 1048576: NARROWER than '..Said'. Prove '..Said' where nothing that the law and all that it calls make is longer than what came in: it says more and counts as full. Else prove '..UptoSaid'. A law counts once. -/
mutual
def uptoBulk {H : Type} : DataW H → Nat
  | .lit (.string bytes) => bytes.length + 1
  | .lit _ => 1
  | .nil => 1
  | .ptr d => uptoBulk d + 1
  | .slice elems spare => uptoBulkAll elems + uptoBulkAll spare + 1
  | .agg parts => uptoBulkAll parts + 1
  | .iface _ d => uptoBulk d + 1
  | .map entries => uptoBulkEntries entries + 1
  | .held _ => 1
def uptoBulkAll {H : Type} : List (DataW H) → Nat
  | [] => 0
  | d :: r => uptoBulk d + uptoBulkAll r
def uptoBulkEntries {H : Type} : List (Lit × DataW H) → Nat
  | [] => 0
  | x :: r => uptoBulkEntry x + uptoBulkEntries r
def uptoBulkEntry {H : Type} : Lit × DataW H → Nat
  | (.string bytes, d) => bytes.length + uptoBulk d + 1
  | (_, d) => uptoBulk d + 1
 end
def uptoSmall : (H : Type) → List (DataW H) → Bool := fun _ ds => decide (uptoBulkAll ds ≤ 1048576)
def OpenSpec.upto (s : _root_.Go.ChangeSpec) : _root_.Go.OpenSpec := { _root_.Go.OpenSpec.ofChange s with cond := some uptoSmall }

/-- 'switchboardlaw10.LinkExact', WHERE WHAT IT READS IS OF BULK AT MOST 1048576: true; the input reads as it did. -/
def linkExactUptoRow : OpenClaim := { program := "ytikncbklhnaajaa", sum := "d7f25c280a8fa4a9f651228249cc4c1d1c80f66c19de1029cfc58651e2430a61", func := "switchboard/switchboardlaw10.LinkExact", spec := "linkExact", unfollowed := true, recurses := true, apart := false, narrowed := true }
def LinkExactUptoSaid : Prop := linkExactUptoRow.holds Try.pinned (OpenSpec.upto linkExactSpec)

/-- 'switchboardlaw10.LinkPlays', WHERE WHAT IT READS IS OF BULK AT MOST 1048576: true; the input reads as it did. -/
def linkPlaysUptoRow : OpenClaim := { program := "ytikncbklhnaajaa", sum := "d7f25c280a8fa4a9f651228249cc4c1d1c80f66c19de1029cfc58651e2430a61", func := "switchboard/switchboardlaw10.LinkPlays", spec := "linkPlays", unfollowed := true, recurses := true, apart := false, narrowed := true }
def LinkPlaysUptoSaid : Prop := linkPlaysUptoRow.holds Try.pinned (OpenSpec.upto linkPlaysSpec)

/-- 'switchboardlaw10.LinkWrong', WHERE WHAT IT READS IS OF BULK AT MOST 1048576: true; the input reads as it did. -/
def linkWrongUptoRow : OpenClaim := { program := "ytikncbklhnaajaa", sum := "d7f25c280a8fa4a9f651228249cc4c1d1c80f66c19de1029cfc58651e2430a61", func := "switchboard/switchboardlaw10.LinkWrong", spec := "linkWrong", unfollowed := true, recurses := true, apart := false, narrowed := true }
def LinkWrongUptoSaid : Prop := linkWrongUptoRow.holds Try.pinned (OpenSpec.upto linkWrongSpec)

/-- 'switchboardlaw10.LinkNumbers', WHERE WHAT IT READS IS OF BULK AT MOST 1048576: true; the input reads as it did. -/
def linkNumbersUptoRow : OpenClaim := { program := "ytikncbklhnaajaa", sum := "d7f25c280a8fa4a9f651228249cc4c1d1c80f66c19de1029cfc58651e2430a61", func := "switchboard/switchboardlaw10.LinkNumbers", spec := "linkNumbers", unfollowed := true, recurses := true, apart := false, narrowed := true }
def LinkNumbersUptoSaid : Prop := linkNumbersUptoRow.holds Try.pinned (OpenSpec.upto linkNumbersSpec)

/-- 'switchboardlaw10.LinkTexts', WHERE WHAT IT READS IS OF BULK AT MOST 1048576: true; the input reads as it did. -/
def linkTextsUptoRow : OpenClaim := { program := "ytikncbklhnaajaa", sum := "d7f25c280a8fa4a9f651228249cc4c1d1c80f66c19de1029cfc58651e2430a61", func := "switchboard/switchboardlaw10.LinkTexts", spec := "linkTexts", unfollowed := true, recurses := true, apart := false, narrowed := true }
def LinkTextsUptoSaid : Prop := linkTextsUptoRow.holds Try.pinned (OpenSpec.upto linkTextsSpec)

end Rows
end Go.Proofs.Ytikncbklhnaajaa
