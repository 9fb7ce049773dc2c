/-
  No cell of these rows narrows 'for every input' (looked for: loops, veiled, ifaces, maps, wideKeys, modest, calm, conditions, laid).
  DERIVED. THE GIVEN ROWS OF THIS SEAT. 4 by the template 'for every input the law returns true; each argument reads behind the call as it read before'; 0 by the template 'total and deterministic' (their statements: YtcbngoldidhfmaaTotals.lean).
  GIVEN WITH THE SEED: the statements are not yours to turn. If you find one false, say at which input.
  Laid BY PROGRAM, IN A SANDBOX (cutbox-rows.mjs): the forced cells as the released guide's own fill.sh prints them over the translation 1e6916913fe8fcde… (all of the seat's roots in one cut). By AI agents, Wed Nov 11 2026. No macro, syntax, notation, axiom, sorry.
-/
import Derived.Test.YtcbngoldidhfmaaChecked
import GoSem.Claim
import GoSem.ClaimJoined
import GoSem.ClaimMapViews
import Derived.JoinedTies
import Derived.KernelRfl
namespace Go.Proofs.Ytcbngoldidhfmaa
/- THE CELL 'sum', in the pinned program and in every row, IS THE sha256 OF THE DUMP (.gsa) THAT YtcbngoldidhfmaaProg.lean LOADS. Nothing in Lean hashes anything: it is a label: what it is worth is what the hold of that sum in a sandbox is worth. -/
noncomputable def Try.pinned : Pinned := { name := "ytcbngoldidhfmaa", sum := "1e6916913fe8fcdee1b668ee4e83530c00487e69cca8a7830086333a3db76a9b", checked := Try.checked }
namespace Rows
def none {H : Type} : Left H := { results := [], args := [] }

/-- 'switchboardlaw12.LedgerExact': WHATEVER THE INPUT: true; the input reads as it did. -/
def ledgerExactSpec : ChangeSpec := { name := "ledgerExact", fn := fun _ => fun
  | [d1, d2, d3] => { results := [.lit (.bool true)], args := [d1, d2, d3] }
  | _ => none }
def ledgerExactRow : OpenClaim := { program := "ytcbngoldidhfmaa", sum := "1e6916913fe8fcdee1b668ee4e83530c00487e69cca8a7830086333a3db76a9b", func := "switchboard/switchboardlaw12.LedgerExact", spec := "ledgerExact", unfollowed := true, recurses := true, apart := false }
def LedgerExactSaid : Prop := ledgerExactRow.holds Try.pinned (OpenSpec.ofChange ledgerExactSpec)

/-- ITS FALSE NEIGHBOUR: 'it returns false'. Refute it at one input. -/
def ledgerExactWrong : ChangeSpec := { name := "ledgerExact", fn := fun _ => fun
  | [d1, d2, d3] => { results := [.lit (.bool false)], args := [d1, d2, d3] }
  | _ => none }
def LedgerExactWrongFalsely : Prop := ledgerExactRow.holds Try.pinned (OpenSpec.ofChange ledgerExactWrong)

/-- 'switchboardlaw12.LedgerFirst': WHATEVER THE INPUT: true; the input reads as it did. -/
def ledgerFirstSpec : ChangeSpec := { name := "ledgerFirst", fn := fun _ => fun
  | [d] => { results := [.lit (.bool true)], args := [d] }
  | _ => none }
def ledgerFirstRow : OpenClaim := { program := "ytcbngoldidhfmaa", sum := "1e6916913fe8fcdee1b668ee4e83530c00487e69cca8a7830086333a3db76a9b", func := "switchboard/switchboardlaw12.LedgerFirst", spec := "ledgerFirst", unfollowed := true, recurses := true, apart := false }
def LedgerFirstSaid : Prop := ledgerFirstRow.holds Try.pinned (OpenSpec.ofChange ledgerFirstSpec)

/-- ITS FALSE NEIGHBOUR: 'it returns false'. Refute it at one input. -/
def ledgerFirstWrong : ChangeSpec := { name := "ledgerFirst", fn := fun _ => fun
  | [d] => { results := [.lit (.bool false)], args := [d] }
  | _ => none }
def LedgerFirstWrongFalsely : Prop := ledgerFirstRow.holds Try.pinned (OpenSpec.ofChange ledgerFirstWrong)

/-- 'switchboardlaw12.LedgerGrows': WHATEVER THE INPUT: true; the input reads as it did. -/
def ledgerGrowsSpec : ChangeSpec := { name := "ledgerGrows", fn := fun _ => fun
  | [d] => { results := [.lit (.bool true)], args := [d] }
  | _ => none }
def ledgerGrowsRow : OpenClaim := { program := "ytcbngoldidhfmaa", sum := "1e6916913fe8fcdee1b668ee4e83530c00487e69cca8a7830086333a3db76a9b", func := "switchboard/switchboardlaw12.LedgerGrows", spec := "ledgerGrows", unfollowed := true, recurses := true, apart := false }
def LedgerGrowsSaid : Prop := ledgerGrowsRow.holds Try.pinned (OpenSpec.ofChange ledgerGrowsSpec)

/-- ITS FALSE NEIGHBOUR: 'it returns false'. Refute it at one input. -/
def ledgerGrowsWrong : ChangeSpec := { name := "ledgerGrows", fn := fun _ => fun
  | [d] => { results := [.lit (.bool false)], args := [d] }
  | _ => none }
def LedgerGrowsWrongFalsely : Prop := ledgerGrowsRow.holds Try.pinned (OpenSpec.ofChange ledgerGrowsWrong)

/-- 'switchboardlaw12.LedgerStill': WHATEVER THE INPUT: true; the input reads as it did. -/
def ledgerStillSpec : ChangeSpec := { name := "ledgerStill", fn := fun _ => fun
  | [d1, d2, d3] => { results := [.lit (.bool true)], args := [d1, d2, d3] }
  | _ => none }
def ledgerStillRow : OpenClaim := { program := "ytcbngoldidhfmaa", sum := "1e6916913fe8fcdee1b668ee4e83530c00487e69cca8a7830086333a3db76a9b", func := "switchboard/switchboardlaw12.LedgerStill", spec := "ledgerStill", unfollowed := true, recurses := true, apart := false }
def LedgerStillSaid : Prop := ledgerStillRow.holds Try.pinned (OpenSpec.ofChange ledgerStillSpec)

/-- ITS FALSE NEIGHBOUR: 'it returns false'. Refute it at one input. -/
def ledgerStillWrong : ChangeSpec := { name := "ledgerStill", fn := fun _ => fun
  | [d1, d2, d3] => { results := [.lit (.bool false)], args := [d1, d2, d3] }
  | _ => none }
def LedgerStillWrongFalsely : Prop := ledgerStillRow.holds Try.pinned (OpenSpec.ofChange ledgerStillWrong)

/- THE SECOND FORM. 'bulk': how many values and letters a reading holds, each counted each time it is reached (what is shared counts as often as it is met; a slice's spare places count too). A statement '..UptoSaid' is the law's where the arguments, and the package variables that the reading takes, are together of bulk at most 1048576: NARROWER than '..Said'. Prove '..Said' where nothing that the law and all that it calls make is longer than what came in: it says more and counts as full. Else prove '..UptoSaid'. A law counts once. -/
mutual
def uptoBulk {H : Type} : DataW H → Nat
  | .lit (.string bytes) => bytes.length + 1
  | .lit _ => 1
  | .nil => 1
  | .ptr d => uptoBulk d + 1
  | .slice elems spare => uptoBulkAll elems + uptoBulkAll spare + 1
  | .agg parts => uptoBulkAll parts + 1
  | .iface _ d => uptoBulk d + 1
  | .map entries => uptoBulkEntries entries + 1
  | .held _ => 1
def uptoBulkAll {H : Type} : List (DataW H) → Nat
  | [] => 0
  | d :: r => uptoBulk d + uptoBulkAll r
def uptoBulkEntries {H : Type} : List (Lit × DataW H) → Nat
  | [] => 0
  | x :: r => uptoBulkEntry x + uptoBulkEntries r
def uptoBulkEntry {H : Type} : Lit × DataW H → Nat
  | (.string bytes, d) => bytes.length + uptoBulk d + 1
  | (_, d) => uptoBulk d + 1
 end
def uptoSmall : (H : Type) → List (DataW H) → Bool := fun _ ds => decide (uptoBulkAll ds ≤ 1048576)
def OpenSpec.upto (s : _root_.Go.ChangeSpec) : _root_.Go.OpenSpec := { _root_.Go.OpenSpec.ofChange s with cond := some uptoSmall }

/-- 'switchboardlaw12.LedgerExact', WHERE WHAT IT READS IS OF BULK AT MOST 1048576: true; the input reads as it did. -/
def ledgerExactUptoRow : OpenClaim := { program := "ytcbngoldidhfmaa", sum := "1e6916913fe8fcdee1b668ee4e83530c00487e69cca8a7830086333a3db76a9b", func := "switchboard/switchboardlaw12.LedgerExact", spec := "ledgerExact", unfollowed := true, recurses := true, apart := false, narrowed := true }
def LedgerExactUptoSaid : Prop := ledgerExactUptoRow.holds Try.pinned (OpenSpec.upto ledgerExactSpec)

/-- 'switchboardlaw12.LedgerFirst', WHERE WHAT IT READS IS OF BULK AT MOST 1048576: true; the input reads as it did. -/
def ledgerFirstUptoRow : OpenClaim := { program := "ytcbngoldidhfmaa", sum := "1e6916913fe8fcdee1b668ee4e83530c00487e69cca8a7830086333a3db76a9b", func := "switchboard/switchboardlaw12.LedgerFirst", spec := "ledgerFirst", unfollowed := true, recurses := true, apart := false, narrowed := true }
def LedgerFirstUptoSaid : Prop := ledgerFirstUptoRow.holds Try.pinned (OpenSpec.upto ledgerFirstSpec)

/-- 'switchboardlaw12.LedgerGrows', WHERE WHAT IT READS IS OF BULK AT MOST 1048576: true; the input reads as it did. -/
def ledgerGrowsUptoRow : OpenClaim := { program := "ytcbngoldidhfmaa", sum := "1e6916913fe8fcdee1b668ee4e83530c00487e69cca8a7830086333a3db76a9b", func := "switchboard/switchboardlaw12.LedgerGrows", spec := "ledgerGrows", unfollowed := true, recurses := true, apart := false, narrowed := true }
def LedgerGrowsUptoSaid : Prop := ledgerGrowsUptoRow.holds Try.pinned (OpenSpec.upto ledgerGrowsSpec)

/-- 'switchboardlaw12.LedgerStill', WHERE WHAT IT READS IS OF BULK AT MOST 1048576: true; the input reads as it did. -/
def ledgerStillUptoRow : OpenClaim := { program := "ytcbngoldidhfmaa", sum := "1e6916913fe8fcdee1b668ee4e83530c00487e69cca8a7830086333a3db76a9b", func := "switchboard/switchboardlaw12.LedgerStill", spec := "ledgerStill", unfollowed := true, recurses := true, apart := false, narrowed := true }
def LedgerStillUptoSaid : Prop := ledgerStillUptoRow.holds Try.pinned (OpenSpec.upto ledgerStillSpec)

end Rows
end Go.Proofs.Ytcbngoldidhfmaa
