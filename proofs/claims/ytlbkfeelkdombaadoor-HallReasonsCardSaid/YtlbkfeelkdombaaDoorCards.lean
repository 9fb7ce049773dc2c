/-
  DERIVED. GIVEN WITH THE SEED: THE CARDS: each row of YtlbkfeelkdombaaDoorRows.lean that lists a variable, with what it lists TIED to the program's text (the seventh form; the later family's looks); each row that meets fmt, with fmt's text TOLD by the authors' own Lean function (tested against real Go, not proved from fmt's source: count such statements apart). THE CARD IS WHAT COUNTS. Prove the row's statement (the work); the ties are given (YtlbkfeelkdombaaDoorTie.lean); close each card by the builder's one call (the guide's Derived/Test/ToyasCard.lean, 'card_holds'). Laid BY PROGRAM, IN A SANDBOX (cutbox-door.mjs). By AI agents, Wed Nov 11 2026. No macro, syntax, notation, axiom, sorry.
-/
import Derived.Test.YtlbkfeelkdombaaDoorRows
import GoSem.ClaimSeven
namespace Go.Proofs.YtlbkfeelkdombaaDoor
namespace Rows

/-- THE TIED CARD OF 'switchboardlaw24.HallReplies'. -/
def hallRepliesCard : Claim7 := { stood := { row := hallRepliesRow, standIns := [], harness := (true, "a9afcb65eced6cba37948fdc6f05eced7aa6131a17282169a5fd17090cdc08af"), looks := true }, kinds := [], alts := [], laidByText := true, laidKinds := [.handle, .sentinel, .sentinel], laidTests := true, laidLooks := .later }
def HallRepliesCardSaid : Prop := Claim7.holds Tryd.pinned (.plain (OpenSpec.ofChange hallRepliesSpec)) hallRepliesCard

/-- THE TIED CARD OF 'switchboardlaw24.HallKeeps'. -/
def hallKeepsCard : Claim7 := { stood := { row := hallKeepsRow, standIns := [], harness := (true, "a9afcb65eced6cba37948fdc6f05eced7aa6131a17282169a5fd17090cdc08af"), looks := true }, kinds := [], alts := [], laidByText := true, laidKinds := [.handle, .sentinel, .sentinel], laidTests := true, laidLooks := .later }
def HallKeepsCardSaid : Prop := Claim7.holds Tryd.pinned (.plain (OpenSpec.ofChange hallKeepsSpec)) hallKeepsCard

/-- THE TIED CARD OF 'switchboardlaw24.HallReasons'. -/
def hallReasonsCard : Claim7 := { stood := { row := hallReasonsRow, standIns := [], harness := (true, "a9afcb65eced6cba37948fdc6f05eced7aa6131a17282169a5fd17090cdc08af"), looks := true }, kinds := [], alts := [], laidByText := true, laidKinds := [.handle, .sentinel, .sentinel], laidTests := true, laidLooks := .later }
def HallReasonsCardSaid : Prop := Claim7.holds Tryd.pinned (.plain (OpenSpec.ofChange hallReasonsSpec)) hallReasonsCard

/-- THE TIED CARD OF 'switchboardlaw24.HallOrder'. -/
def hallOrderCard : Claim7 := { stood := { row := hallOrderRow, standIns := [], harness := (true, "a9afcb65eced6cba37948fdc6f05eced7aa6131a17282169a5fd17090cdc08af"), looks := true }, kinds := [], alts := [], laidByText := true, laidKinds := [.handle, .sentinel, .sentinel], laidTests := true, laidLooks := .later }
def HallOrderCardSaid : Prop := Claim7.holds Tryd.pinned (.plain (OpenSpec.ofChange hallOrderSpec)) hallOrderCard

/-- THE SECOND FORM's CARD OF 'switchboardlaw24.HallReplies'. -/
def hallRepliesUptoCard : Claim7 := { stood := { row := hallRepliesUptoRow, standIns := [], harness := (true, "a9afcb65eced6cba37948fdc6f05eced7aa6131a17282169a5fd17090cdc08af"), looks := true }, kinds := [], alts := [], laidByText := true, laidKinds := [.handle, .sentinel, .sentinel], laidTests := true, laidLooks := .later }
def HallRepliesUptoCardSaid : Prop := Claim7.holds Tryd.pinned (.plain (OpenSpec.upto hallRepliesSpec)) hallRepliesUptoCard

/-- THE SECOND FORM's CARD OF 'switchboardlaw24.HallKeeps'. -/
def hallKeepsUptoCard : Claim7 := { stood := { row := hallKeepsUptoRow, standIns := [], harness := (true, "a9afcb65eced6cba37948fdc6f05eced7aa6131a17282169a5fd17090cdc08af"), looks := true }, kinds := [], alts := [], laidByText := true, laidKinds := [.handle, .sentinel, .sentinel], laidTests := true, laidLooks := .later }
def HallKeepsUptoCardSaid : Prop := Claim7.holds Tryd.pinned (.plain (OpenSpec.upto hallKeepsSpec)) hallKeepsUptoCard

/-- THE SECOND FORM's CARD OF 'switchboardlaw24.HallReasons'. -/
def hallReasonsUptoCard : Claim7 := { stood := { row := hallReasonsUptoRow, standIns := [], harness := (true, "a9afcb65eced6cba37948fdc6f05eced7aa6131a17282169a5fd17090cdc08af"), looks := true }, kinds := [], alts := [], laidByText := true, laidKinds := [.handle, .sentinel, .sentinel], laidTests := true, laidLooks := .later }
def HallReasonsUptoCardSaid : Prop := Claim7.holds Tryd.pinned (.plain (OpenSpec.upto hallReasonsSpec)) hallReasonsUptoCard

/-- THE SECOND FORM's CARD OF 'switchboardlaw24.HallOrder'. -/
def hallOrderUptoCard : Claim7 := { stood := { row := hallOrderUptoRow, standIns := [], harness := (true, "a9afcb65eced6cba37948fdc6f05eced7aa6131a17282169a5fd17090cdc08af"), looks := true }, kinds := [], alts := [], laidByText := true, laidKinds := [.handle, .sentinel, .sentinel], laidTests := true, laidLooks := .later }
def HallOrderUptoCardSaid : Prop := Claim7.holds Tryd.pinned (.plain (OpenSpec.upto hallOrderSpec)) hallOrderUptoCard
end Rows
end Go.Proofs.YtlbkfeelkdombaaDoor
