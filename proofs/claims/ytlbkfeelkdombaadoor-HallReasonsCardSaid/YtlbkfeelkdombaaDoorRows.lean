/-
  NARROWER THAN 'FOR EVERY INPUT', by the rows' own cells (each row's printed sentence says how): HallReplies: laid · HallKeeps: laid · HallReasons: laid · HallOrder: laid.
  DERIVED. THE GIVEN ROWS OF THIS SEAT. 4 by the template 'for every input the law returns true; each argument reads behind the call as it read before'; 0 by the template 'total and deterministic' (their statements: YtlbkfeelkdombaaDoorTotals.lean).
  GIVEN WITH THE SEED: the statements are not yours to turn. If you find one false, say at which input.
  Laid BY PROGRAM, IN A SANDBOX (cutbox-rows.mjs): the forced cells as the released guide's own fill.sh prints them over the translation 567590e5f3835bce… (all of the seat's roots in one cut). By AI agents, Wed Nov 11 2026. No macro, syntax, notation, axiom, sorry.
-/
import Derived.Test.YtlbkfeelkdombaaDoorChecked
import GoSem.Claim
import GoSem.ClaimJoined
import GoSem.ClaimMapViews
import Derived.JoinedTies
import Derived.KernelRfl
namespace Go.Proofs.YtlbkfeelkdombaaDoor
/- THE CELL 'sum', in the pinned program and in every row, IS THE sha256 OF THE DUMP (.gsa) THAT YtlbkfeelkdombaaDoorProg.lean LOADS. Nothing in Lean hashes anything: it is a label: what it is worth is what the hold of that sum in a sandbox is worth. -/
noncomputable def Tryd.pinned : Pinned := { name := "ytlbkfeelkdombaadoor", sum := "567590e5f3835bce6d27f2b89fbdac20a384e478e86db41f31f581c6cacc991e", checked := Tryd.checked }
namespace Rows
def none {H : Type} : Left H := { results := [], args := [] }

/- WHAT THE LISTED PACKAGE-LEVEL VARIABLES READ AS WHEN THE CALL BEGINS. Each datum BY PROGRAM (the guide's laid-datum.mjs) off the statement by which the dump's own 'gosem.cut.vars' lays the variable. In a bare row this is a premise. The card (YtlbkfeelkdombaaDoorCards.lean) ties it to the program's text. -/
def laid_errors_errorType {H : Type} : DataW H := .iface "internal/reflectlite.rtype" (.agg [.ptr (.lit (.string [101, 114, 114, 111, 114]))])
def laid_switchboard_hall_errShape {H : Type} : DataW H := .iface "*errors.errorString" (.ptr (.agg [.lit (.string [110, 111, 116, 32, 115, 117, 99, 104, 32, 116, 111, 107, 101, 110, 115])]))
def laid_switchboard_hall_errMany {H : Type} : DataW H := .iface "*errors.errorString" (.ptr (.agg [.lit (.string [116, 111, 111, 32, 109, 97, 110, 121])]))

/-- 'switchboardlaw24.HallReplies': WHATEVER THE INPUT: true; the input reads as it did. -/
def hallRepliesSpec : ChangeSpec := { name := "hallReplies", fn := fun _ => fun
  | [d1, d2, d3] => { results := [.lit (.bool true)], args := [d1, d2, d3] }
  | _ => none }
def hallRepliesRow : OpenClaim := { program := "ytlbkfeelkdombaadoor", sum := "567590e5f3835bce6d27f2b89fbdac20a384e478e86db41f31f581c6cacc991e", func := "switchboard/switchboardlaw24.HallReplies", spec := "hallReplies", inPlace := ["internal/reflectlite.TypeOf", "internal/reflectlite.ValueOf", "(internal/reflectlite.Value).Type", "(internal/reflectlite.Value).IsNil", "(internal/reflectlite.Value).Elem", "(internal/reflectlite.Value).Set"], unfollowed := true, recurses := true, named := ["switchboard/hall.errShape", "switchboard/hall.errMany", "errors.errorType"], apart := false, laid := [("errors.errorType", laid_errors_errorType), ("switchboard/hall.errShape", laid_switchboard_hall_errShape), ("switchboard/hall.errMany", laid_switchboard_hall_errMany)] }
def HallRepliesSaid : Prop := hallRepliesRow.holds Tryd.pinned (OpenSpec.ofChange hallRepliesSpec)

/-- ITS FALSE NEIGHBOUR: 'it returns false'. Refute it at one input. -/
def hallRepliesWrong : ChangeSpec := { name := "hallReplies", fn := fun _ => fun
  | [d1, d2, d3] => { results := [.lit (.bool false)], args := [d1, d2, d3] }
  | _ => none }
def HallRepliesWrongFalsely : Prop := hallRepliesRow.holds Tryd.pinned (OpenSpec.ofChange hallRepliesWrong)

/-- 'switchboardlaw24.HallKeeps': WHATEVER THE INPUT: true; the input reads as it did. -/
def hallKeepsSpec : ChangeSpec := { name := "hallKeeps", fn := fun _ => fun
  | [d] => { results := [.lit (.bool true)], args := [d] }
  | _ => none }
def hallKeepsRow : OpenClaim := { program := "ytlbkfeelkdombaadoor", sum := "567590e5f3835bce6d27f2b89fbdac20a384e478e86db41f31f581c6cacc991e", func := "switchboard/switchboardlaw24.HallKeeps", spec := "hallKeeps", inPlace := ["internal/reflectlite.TypeOf", "internal/reflectlite.ValueOf", "(internal/reflectlite.Value).Type", "(internal/reflectlite.Value).IsNil", "(internal/reflectlite.Value).Elem", "(internal/reflectlite.Value).Set"], unfollowed := true, recurses := true, named := ["switchboard/hall.errShape", "switchboard/hall.errMany", "errors.errorType"], apart := false, laid := [("errors.errorType", laid_errors_errorType), ("switchboard/hall.errShape", laid_switchboard_hall_errShape), ("switchboard/hall.errMany", laid_switchboard_hall_errMany)] }
def HallKeepsSaid : Prop := hallKeepsRow.holds Tryd.pinned (OpenSpec.ofChange hallKeepsSpec)

/-- ITS FALSE NEIGHBOUR: 'it returns false'. Refute it at one input. -/
def hallKeepsWrong : ChangeSpec := { name := "hallKeeps", fn := fun _ => fun
  | [d] => { results := [.lit (.bool false)], args := [d] }
  | _ => none }
def HallKeepsWrongFalsely : Prop := hallKeepsRow.holds Tryd.pinned (OpenSpec.ofChange hallKeepsWrong)

/-- 'switchboardlaw24.HallReasons': WHATEVER THE INPUT: true; the input reads as it did. -/
def hallReasonsSpec : ChangeSpec := { name := "hallReasons", fn := fun _ => fun
  | [d1, d2, d3] => { results := [.lit (.bool true)], args := [d1, d2, d3] }
  | _ => none }
def hallReasonsRow : OpenClaim := { program := "ytlbkfeelkdombaadoor", sum := "567590e5f3835bce6d27f2b89fbdac20a384e478e86db41f31f581c6cacc991e", func := "switchboard/switchboardlaw24.HallReasons", spec := "hallReasons", inPlace := ["internal/reflectlite.TypeOf", "internal/reflectlite.ValueOf", "(internal/reflectlite.Value).Type", "(internal/reflectlite.Value).IsNil", "(internal/reflectlite.Value).Elem", "(internal/reflectlite.Value).Set"], unfollowed := true, recurses := true, named := ["switchboard/hall.errShape", "switchboard/hall.errMany", "errors.errorType"], apart := false, laid := [("errors.errorType", laid_errors_errorType), ("switchboard/hall.errShape", laid_switchboard_hall_errShape), ("switchboard/hall.errMany", laid_switchboard_hall_errMany)] }
def HallReasonsSaid : Prop := hallReasonsRow.holds Tryd.pinned (OpenSpec.ofChange hallReasonsSpec)

/-- ITS FALSE NEIGHBOUR: 'it returns false'. Refute it at one input. -/
def hallReasonsWrong : ChangeSpec := { name := "hallReasons", fn := fun _ => fun
  | [d1, d2, d3] => { results := [.lit (.bool false)], args := [d1, d2, d3] }
  | _ => none }
def HallReasonsWrongFalsely : Prop := hallReasonsRow.holds Tryd.pinned (OpenSpec.ofChange hallReasonsWrong)

/-- 'switchboardlaw24.HallOrder': WHATEVER THE INPUT: true; the input reads as it did. -/
def hallOrderSpec : ChangeSpec := { name := "hallOrder", fn := fun _ => fun
  | [d] => { results := [.lit (.bool true)], args := [d] }
  | _ => none }
def hallOrderRow : OpenClaim := { program := "ytlbkfeelkdombaadoor", sum := "567590e5f3835bce6d27f2b89fbdac20a384e478e86db41f31f581c6cacc991e", func := "switchboard/switchboardlaw24.HallOrder", spec := "hallOrder", inPlace := ["internal/reflectlite.TypeOf", "internal/reflectlite.ValueOf", "(internal/reflectlite.Value).Type", "(internal/reflectlite.Value).IsNil", "(internal/reflectlite.Value).Elem", "(internal/reflectlite.Value).Set"], unfollowed := true, recurses := true, named := ["switchboard/hall.errShape", "switchboard/hall.errMany", "errors.errorType"], apart := false, laid := [("errors.errorType", laid_errors_errorType), ("switchboard/hall.errShape", laid_switchboard_hall_errShape), ("switchboard/hall.errMany", laid_switchboard_hall_errMany)] }
def HallOrderSaid : Prop := hallOrderRow.holds Tryd.pinned (OpenSpec.ofChange hallOrderSpec)

/-- ITS FALSE NEIGHBOUR: 'it returns false'. Refute it at one input. -/
def hallOrderWrong : ChangeSpec := { name := "hallOrder", fn := fun _ => fun
  | [d] => { results := [.lit (.bool false)], args := [d] }
  | _ => none }
def HallOrderWrongFalsely : Prop := hallOrderRow.holds Tryd.pinned (OpenSpec.ofChange hallOrderWrong)

/- THE SECOND FORM. 'bulk': how many values and letters a reading holds, each counted each time it is reached (what is shared counts as often as it is met; a slice's spare places count too). A statement '..UptoSaid' is the law's where the arguments, and the package variables that the reading takes, are together of bulk at most 1048576: NARROWER than '..Said'. Prove '..Said' where nothing that the law and all that it calls make is longer than what came in: it says more and counts as full. Else prove '..UptoSaid'. A law counts once. -/
mutual
def uptoBulk {H : Type} : DataW H → Nat
  | .lit (.string bytes) => bytes.length + 1
  | .lit _ => 1
  | .nil => 1
  | .ptr d => uptoBulk d + 1
  | .slice elems spare => uptoBulkAll elems + uptoBulkAll spare + 1
  | .agg parts => uptoBulkAll parts + 1
  | .iface _ d => uptoBulk d + 1
  | .map entries => uptoBulkEntries entries + 1
  | .held _ => 1
def uptoBulkAll {H : Type} : List (DataW H) → Nat
  | [] => 0
  | d :: r => uptoBulk d + uptoBulkAll r
def uptoBulkEntries {H : Type} : List (Lit × DataW H) → Nat
  | [] => 0
  | x :: r => uptoBulkEntry x + uptoBulkEntries r
def uptoBulkEntry {H : Type} : Lit × DataW H → Nat
  | (.string bytes, d) => bytes.length + uptoBulk d + 1
  | (_, d) => uptoBulk d + 1
 end
def uptoSmall : (H : Type) → List (DataW H) → Bool := fun _ ds => decide (uptoBulkAll ds ≤ 1048576)
def OpenSpec.upto (s : _root_.Go.ChangeSpec) : _root_.Go.OpenSpec := { _root_.Go.OpenSpec.ofChange s with cond := some uptoSmall }

/-- 'switchboardlaw24.HallReplies', WHERE WHAT IT READS IS OF BULK AT MOST 1048576: true; the input reads as it did. -/
def hallRepliesUptoRow : OpenClaim := { program := "ytlbkfeelkdombaadoor", sum := "567590e5f3835bce6d27f2b89fbdac20a384e478e86db41f31f581c6cacc991e", func := "switchboard/switchboardlaw24.HallReplies", spec := "hallReplies", inPlace := ["internal/reflectlite.TypeOf", "internal/reflectlite.ValueOf", "(internal/reflectlite.Value).Type", "(internal/reflectlite.Value).IsNil", "(internal/reflectlite.Value).Elem", "(internal/reflectlite.Value).Set"], unfollowed := true, recurses := true, named := ["switchboard/hall.errShape", "switchboard/hall.errMany", "errors.errorType"], apart := false, laid := [("errors.errorType", laid_errors_errorType), ("switchboard/hall.errShape", laid_switchboard_hall_errShape), ("switchboard/hall.errMany", laid_switchboard_hall_errMany)], narrowed := true }
def HallRepliesUptoSaid : Prop := hallRepliesUptoRow.holds Tryd.pinned (OpenSpec.upto hallRepliesSpec)

/-- 'switchboardlaw24.HallKeeps', WHERE WHAT IT READS IS OF BULK AT MOST 1048576: true; the input reads as it did. -/
def hallKeepsUptoRow : OpenClaim := { program := "ytlbkfeelkdombaadoor", sum := "567590e5f3835bce6d27f2b89fbdac20a384e478e86db41f31f581c6cacc991e", func := "switchboard/switchboardlaw24.HallKeeps", spec := "hallKeeps", inPlace := ["internal/reflectlite.TypeOf", "internal/reflectlite.ValueOf", "(internal/reflectlite.Value).Type", "(internal/reflectlite.Value).IsNil", "(internal/reflectlite.Value).Elem", "(internal/reflectlite.Value).Set"], unfollowed := true, recurses := true, named := ["switchboard/hall.errShape", "switchboard/hall.errMany", "errors.errorType"], apart := false, laid := [("errors.errorType", laid_errors_errorType), ("switchboard/hall.errShape", laid_switchboard_hall_errShape), ("switchboard/hall.errMany", laid_switchboard_hall_errMany)], narrowed := true }
def HallKeepsUptoSaid : Prop := hallKeepsUptoRow.holds Tryd.pinned (OpenSpec.upto hallKeepsSpec)

/-- 'switchboardlaw24.HallReasons', WHERE WHAT IT READS IS OF BULK AT MOST 1048576: true; the input reads as it did. -/
def hallReasonsUptoRow : OpenClaim := { program := "ytlbkfeelkdombaadoor", sum := "567590e5f3835bce6d27f2b89fbdac20a384e478e86db41f31f581c6cacc991e", func := "switchboard/switchboardlaw24.HallReasons", spec := "hallReasons", inPlace := ["internal/reflectlite.TypeOf", "internal/reflectlite.ValueOf", "(internal/reflectlite.Value).Type", "(internal/reflectlite.Value).IsNil", "(internal/reflectlite.Value).Elem", "(internal/reflectlite.Value).Set"], unfollowed := true, recurses := true, named := ["switchboard/hall.errShape", "switchboard/hall.errMany", "errors.errorType"], apart := false, laid := [("errors.errorType", laid_errors_errorType), ("switchboard/hall.errShape", laid_switchboard_hall_errShape), ("switchboard/hall.errMany", laid_switchboard_hall_errMany)], narrowed := true }
def HallReasonsUptoSaid : Prop := hallReasonsUptoRow.holds Tryd.pinned (OpenSpec.upto hallReasonsSpec)

/-- 'switchboardlaw24.HallOrder', WHERE WHAT IT READS IS OF BULK AT MOST 1048576: true; the input reads as it did. -/
def hallOrderUptoRow : OpenClaim := { program := "ytlbkfeelkdombaadoor", sum := "567590e5f3835bce6d27f2b89fbdac20a384e478e86db41f31f581c6cacc991e", func := "switchboard/switchboardlaw24.HallOrder", spec := "hallOrder", inPlace := ["internal/reflectlite.TypeOf", "internal/reflectlite.ValueOf", "(internal/reflectlite.Value).Type", "(internal/reflectlite.Value).IsNil", "(internal/reflectlite.Value).Elem", "(internal/reflectlite.Value).Set"], unfollowed := true, recurses := true, named := ["switchboard/hall.errShape", "switchboard/hall.errMany", "errors.errorType"], apart := false, laid := [("errors.errorType", laid_errors_errorType), ("switchboard/hall.errShape", laid_switchboard_hall_errShape), ("switchboard/hall.errMany", laid_switchboard_hall_errMany)], narrowed := true }
def HallOrderUptoSaid : Prop := hallOrderUptoRow.holds Tryd.pinned (OpenSpec.upto hallOrderSpec)

end Rows
end Go.Proofs.YtlbkfeelkdombaaDoor
