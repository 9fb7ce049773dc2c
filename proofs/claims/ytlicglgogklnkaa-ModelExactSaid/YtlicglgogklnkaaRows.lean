/-
  No cell of these rows narrows 'for every input' (looked for: loops, veiled, ifaces, maps, wideKeys, modest, calm, conditions, laid).
  DERIVED. THE GIVEN ROWS OF THIS SEAT. 6 by the template 'for every input the law returns true; each argument reads behind the call as it read before'; 0 by the template 'total and deterministic' (their statements: YtlicglgogklnkaaTotals.lean).
  GIVEN WITH THE SEED: the statements are not yours to turn. If you find one false, say at which input.
  Laid BY PROGRAM, IN A SANDBOX (cutbox-rows.mjs): the forced cells as the released guide's own fill.sh prints them over the translation 52e36fc42ed0c9b4… (all of the seat's roots in one cut). By AI agents, Wed Nov 11 2026. No macro, syntax, notation, axiom, sorry.
-/
import Derived.Test.YtlicglgogklnkaaChecked
import GoSem.Claim
import GoSem.ClaimJoined
import GoSem.ClaimMapViews
import Derived.JoinedTies
import Derived.KernelRfl
namespace Go.Proofs.Ytlicglgogklnkaa
/- THE CELL 'sum', in the pinned program and in every row, IS THE sha256 OF THE DUMP (.gsa) THAT YtlicglgogklnkaaProg.lean LOADS. Nothing in Lean hashes anything: it is a label: what it is worth is what the hold of that sum in a sandbox is worth. -/
noncomputable def Try.pinned : Pinned := { name := "ytlicglgogklnkaa", sum := "52e36fc42ed0c9b47ca16df5bbf3a83928e838678f42c0f6cfe2190a8d6218c3", checked := Try.checked }
namespace Rows
def none {H : Type} : Left H := { results := [], args := [] }

/-- 'switchboardlaw15.ModelExact': WHATEVER THE INPUT: true; the input reads as it did. -/
def modelExactSpec : ChangeSpec := { name := "modelExact", fn := fun _ => fun
  | [d1, d2] => { results := [.lit (.bool true)], args := [d1, d2] }
  | _ => none }
def modelExactRow : OpenClaim := { program := "ytlicglgogklnkaa", sum := "52e36fc42ed0c9b47ca16df5bbf3a83928e838678f42c0f6cfe2190a8d6218c3", func := "switchboard/switchboardlaw15.ModelExact", spec := "modelExact", unfollowed := true, recurses := true, apart := false }
def ModelExactSaid : Prop := modelExactRow.holds Try.pinned (OpenSpec.ofChange modelExactSpec)

/-- ITS FALSE NEIGHBOUR: 'it returns false'. Refute it at one input. -/
def modelExactWrong : ChangeSpec := { name := "modelExact", fn := fun _ => fun
  | [d1, d2] => { results := [.lit (.bool false)], args := [d1, d2] }
  | _ => none }
def ModelExactWrongFalsely : Prop := modelExactRow.holds Try.pinned (OpenSpec.ofChange modelExactWrong)

/-- 'switchboardlaw15.ModelStill': WHATEVER THE INPUT: true; the input reads as it did. -/
def modelStillSpec : ChangeSpec := { name := "modelStill", fn := fun _ => fun
  | [d1, d2] => { results := [.lit (.bool true)], args := [d1, d2] }
  | _ => none }
def modelStillRow : OpenClaim := { program := "ytlicglgogklnkaa", sum := "52e36fc42ed0c9b47ca16df5bbf3a83928e838678f42c0f6cfe2190a8d6218c3", func := "switchboard/switchboardlaw15.ModelStill", spec := "modelStill", unfollowed := true, recurses := true, apart := false }
def ModelStillSaid : Prop := modelStillRow.holds Try.pinned (OpenSpec.ofChange modelStillSpec)

/-- ITS FALSE NEIGHBOUR: 'it returns false'. Refute it at one input. -/
def modelStillWrong : ChangeSpec := { name := "modelStill", fn := fun _ => fun
  | [d1, d2] => { results := [.lit (.bool false)], args := [d1, d2] }
  | _ => none }
def ModelStillWrongFalsely : Prop := modelStillRow.holds Try.pinned (OpenSpec.ofChange modelStillWrong)

/-- 'switchboardlaw15.ModelLayers': WHATEVER THE INPUT: true; the input reads as it did. -/
def modelLayersSpec : ChangeSpec := { name := "modelLayers", fn := fun _ => fun
  | [d1, d2] => { results := [.lit (.bool true)], args := [d1, d2] }
  | _ => none }
def modelLayersRow : OpenClaim := { program := "ytlicglgogklnkaa", sum := "52e36fc42ed0c9b47ca16df5bbf3a83928e838678f42c0f6cfe2190a8d6218c3", func := "switchboard/switchboardlaw15.ModelLayers", spec := "modelLayers", unfollowed := true, recurses := true, apart := false }
def ModelLayersSaid : Prop := modelLayersRow.holds Try.pinned (OpenSpec.ofChange modelLayersSpec)

/-- ITS FALSE NEIGHBOUR: 'it returns false'. Refute it at one input. -/
def modelLayersWrong : ChangeSpec := { name := "modelLayers", fn := fun _ => fun
  | [d1, d2] => { results := [.lit (.bool false)], args := [d1, d2] }
  | _ => none }
def ModelLayersWrongFalsely : Prop := modelLayersRow.holds Try.pinned (OpenSpec.ofChange modelLayersWrong)

/-- 'switchboardlaw15.ModelParts': WHATEVER THE INPUT: true; the input reads as it did. -/
def modelPartsSpec : ChangeSpec := { name := "modelParts", fn := fun _ => fun
  | [d1, d2] => { results := [.lit (.bool true)], args := [d1, d2] }
  | _ => none }
def modelPartsRow : OpenClaim := { program := "ytlicglgogklnkaa", sum := "52e36fc42ed0c9b47ca16df5bbf3a83928e838678f42c0f6cfe2190a8d6218c3", func := "switchboard/switchboardlaw15.ModelParts", spec := "modelParts", unfollowed := true, recurses := true, apart := false }
def ModelPartsSaid : Prop := modelPartsRow.holds Try.pinned (OpenSpec.ofChange modelPartsSpec)

/-- ITS FALSE NEIGHBOUR: 'it returns false'. Refute it at one input. -/
def modelPartsWrong : ChangeSpec := { name := "modelParts", fn := fun _ => fun
  | [d1, d2] => { results := [.lit (.bool false)], args := [d1, d2] }
  | _ => none }
def ModelPartsWrongFalsely : Prop := modelPartsRow.holds Try.pinned (OpenSpec.ofChange modelPartsWrong)

/-- 'switchboardlaw15.ModelFirst': WHATEVER THE INPUT: true; the input reads as it did. -/
def modelFirstSpec : ChangeSpec := { name := "modelFirst", fn := fun _ => fun
  | [d1, d2, d3] => { results := [.lit (.bool true)], args := [d1, d2, d3] }
  | _ => none }
def modelFirstRow : OpenClaim := { program := "ytlicglgogklnkaa", sum := "52e36fc42ed0c9b47ca16df5bbf3a83928e838678f42c0f6cfe2190a8d6218c3", func := "switchboard/switchboardlaw15.ModelFirst", spec := "modelFirst", unfollowed := true, recurses := true, apart := false }
def ModelFirstSaid : Prop := modelFirstRow.holds Try.pinned (OpenSpec.ofChange modelFirstSpec)

/-- ITS FALSE NEIGHBOUR: 'it returns false'. Refute it at one input. -/
def modelFirstWrong : ChangeSpec := { name := "modelFirst", fn := fun _ => fun
  | [d1, d2, d3] => { results := [.lit (.bool false)], args := [d1, d2, d3] }
  | _ => none }
def ModelFirstWrongFalsely : Prop := modelFirstRow.holds Try.pinned (OpenSpec.ofChange modelFirstWrong)

/-- 'switchboardlaw15.ModelRoom': WHATEVER THE INPUT: true; the input reads as it did. -/
def modelRoomSpec : ChangeSpec := { name := "modelRoom", fn := fun _ => fun
  | [d1, d2] => { results := [.lit (.bool true)], args := [d1, d2] }
  | _ => none }
def modelRoomRow : OpenClaim := { program := "ytlicglgogklnkaa", sum := "52e36fc42ed0c9b47ca16df5bbf3a83928e838678f42c0f6cfe2190a8d6218c3", func := "switchboard/switchboardlaw15.ModelRoom", spec := "modelRoom", unfollowed := true, recurses := true, apart := false }
def ModelRoomSaid : Prop := modelRoomRow.holds Try.pinned (OpenSpec.ofChange modelRoomSpec)

/-- ITS FALSE NEIGHBOUR: 'it returns false'. Refute it at one input. -/
def modelRoomWrong : ChangeSpec := { name := "modelRoom", fn := fun _ => fun
  | [d1, d2] => { results := [.lit (.bool false)], args := [d1, d2] }
  | _ => none }
def ModelRoomWrongFalsely : Prop := modelRoomRow.holds Try.pinned (OpenSpec.ofChange modelRoomWrong)

/- THE SECOND FORM. 'bulk': how many values and letters a reading holds, each counted each time it is reached (what is shared counts as often as it is met; a slice's spare places count too). A statement '..UptoSaid' is the law's where the arguments, and the package variables that the reading takes, are together of bulk at most 1048576: NARROWER than '..Said'. Prove '..Said' where nothing that the law and all that it calls make is longer than what came in: it says more and counts as full. Else prove '..UptoSaid'. A law counts once. -/
mutual
def uptoBulk {H : Type} : DataW H → Nat
  | .lit (.string bytes) => bytes.length + 1
  | .lit _ => 1
  | .nil => 1
  | .ptr d => uptoBulk d + 1
  | .slice elems spare => uptoBulkAll elems + uptoBulkAll spare + 1
  | .agg parts => uptoBulkAll parts + 1
  | .iface _ d => uptoBulk d + 1
  | .map entries => uptoBulkEntries entries + 1
  | .held _ => 1
def uptoBulkAll {H : Type} : List (DataW H) → Nat
  | [] => 0
  | d :: r => uptoBulk d + uptoBulkAll r
def uptoBulkEntries {H : Type} : List (Lit × DataW H) → Nat
  | [] => 0
  | x :: r => uptoBulkEntry x + uptoBulkEntries r
def uptoBulkEntry {H : Type} : Lit × DataW H → Nat
  | (.string bytes, d) => bytes.length + uptoBulk d + 1
  | (_, d) => uptoBulk d + 1
 end
def uptoSmall : (H : Type) → List (DataW H) → Bool := fun _ ds => decide (uptoBulkAll ds ≤ 1048576)
def OpenSpec.upto (s : _root_.Go.ChangeSpec) : _root_.Go.OpenSpec := { _root_.Go.OpenSpec.ofChange s with cond := some uptoSmall }

/-- 'switchboardlaw15.ModelExact', WHERE WHAT IT READS IS OF BULK AT MOST 1048576: true; the input reads as it did. -/
def modelExactUptoRow : OpenClaim := { program := "ytlicglgogklnkaa", sum := "52e36fc42ed0c9b47ca16df5bbf3a83928e838678f42c0f6cfe2190a8d6218c3", func := "switchboard/switchboardlaw15.ModelExact", spec := "modelExact", unfollowed := true, recurses := true, apart := false, narrowed := true }
def ModelExactUptoSaid : Prop := modelExactUptoRow.holds Try.pinned (OpenSpec.upto modelExactSpec)

/-- 'switchboardlaw15.ModelStill', WHERE WHAT IT READS IS OF BULK AT MOST 1048576: true; the input reads as it did. -/
def modelStillUptoRow : OpenClaim := { program := "ytlicglgogklnkaa", sum := "52e36fc42ed0c9b47ca16df5bbf3a83928e838678f42c0f6cfe2190a8d6218c3", func := "switchboard/switchboardlaw15.ModelStill", spec := "modelStill", unfollowed := true, recurses := true, apart := false, narrowed := true }
def ModelStillUptoSaid : Prop := modelStillUptoRow.holds Try.pinned (OpenSpec.upto modelStillSpec)

/-- 'switchboardlaw15.ModelLayers', WHERE WHAT IT READS IS OF BULK AT MOST 1048576: true; the input reads as it did. -/
def modelLayersUptoRow : OpenClaim := { program := "ytlicglgogklnkaa", sum := "52e36fc42ed0c9b47ca16df5bbf3a83928e838678f42c0f6cfe2190a8d6218c3", func := "switchboard/switchboardlaw15.ModelLayers", spec := "modelLayers", unfollowed := true, recurses := true, apart := false, narrowed := true }
def ModelLayersUptoSaid : Prop := modelLayersUptoRow.holds Try.pinned (OpenSpec.upto modelLayersSpec)

/-- 'switchboardlaw15.ModelParts', WHERE WHAT IT READS IS OF BULK AT MOST 1048576: true; the input reads as it did. -/
def modelPartsUptoRow : OpenClaim := { program := "ytlicglgogklnkaa", sum := "52e36fc42ed0c9b47ca16df5bbf3a83928e838678f42c0f6cfe2190a8d6218c3", func := "switchboard/switchboardlaw15.ModelParts", spec := "modelParts", unfollowed := true, recurses := true, apart := false, narrowed := true }
def ModelPartsUptoSaid : Prop := modelPartsUptoRow.holds Try.pinned (OpenSpec.upto modelPartsSpec)

/-- 'switchboardlaw15.ModelFirst', WHERE WHAT IT READS IS OF BULK AT MOST 1048576: true; the input reads as it did. -/
def modelFirstUptoRow : OpenClaim := { program := "ytlicglgogklnkaa", sum := "52e36fc42ed0c9b47ca16df5bbf3a83928e838678f42c0f6cfe2190a8d6218c3", func := "switchboard/switchboardlaw15.ModelFirst", spec := "modelFirst", unfollowed := true, recurses := true, apart := false, narrowed := true }
def ModelFirstUptoSaid : Prop := modelFirstUptoRow.holds Try.pinned (OpenSpec.upto modelFirstSpec)

/-- 'switchboardlaw15.ModelRoom', WHERE WHAT IT READS IS OF BULK AT MOST 1048576: true; the input reads as it did. -/
def modelRoomUptoRow : OpenClaim := { program := "ytlicglgogklnkaa", sum := "52e36fc42ed0c9b47ca16df5bbf3a83928e838678f42c0f6cfe2190a8d6218c3", func := "switchboard/switchboardlaw15.ModelRoom", spec := "modelRoom", unfollowed := true, recurses := true, apart := false, narrowed := true }
def ModelRoomUptoSaid : Prop := modelRoomUptoRow.holds Try.pinned (OpenSpec.upto modelRoomSpec)

end Rows
end Go.Proofs.Ytlicglgogklnkaa
