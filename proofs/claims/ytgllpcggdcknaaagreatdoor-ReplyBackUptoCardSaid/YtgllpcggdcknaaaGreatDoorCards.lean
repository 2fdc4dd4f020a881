/-
  DERIVED. GIVEN WITH THE SEED: THE CARDS: each row of YtgllpcggdcknaaaGreatDoorRows.lean that lists a variable, with what it lists TIED to the program's text (the seventh form; the later family's looks); each row that meets fmt, with fmt's text TOLD by the authors' own Lean function (tested against real Go, not proved from fmt's source: count such statements apart). THE CARD IS WHAT COUNTS. Prove the row's statement (the work); the ties are given (YtgllpcggdcknaaaGreatDoorTie.lean); close each card by the builder's one call (the guide's Derived/Test/ToyasCard.lean, 'card_holds'). Laid BY PROGRAM, IN A SANDBOX (cutbox-door.mjs). By AI agents, Wed Nov 11 2026. No macro, syntax, notation, axiom, sorry.
-/
import Derived.Test.YtgllpcggdcknaaaGreatDoorRows
import GoSem.ClaimSeven
namespace Go.Proofs.YtgllpcggdcknaaaGreatDoor
namespace Rows

/-- THE TIED CARD OF 'posthornlaw09.ReplyWrites'. -/
def replyWritesCard : Claim7 := { stood := { row := replyWritesRow, standIns := [], harness := (true, "7c8df67e59ecb687424b68a84648b45db156f31cb52b56b49bdd4491e302e18e"), looks := true }, kinds := [], alts := [], laidByText := true, laidKinds := [.data, .data, .data, .data, .sentinel, .sentinel, .pinned], laidTests := true, laidLooks := .later }
def ReplyWritesCardSaid : Prop := Claim7.holds Tryz.pinned (.plain (OpenSpec.ofChange replyWritesSpec)) replyWritesCard

/-- THE TIED CARD OF 'posthornlaw09.ReplyReads'. -/
def replyReadsCard : Claim7 := { stood := { row := replyReadsRow, standIns := [], harness := (true, "7c8df67e59ecb687424b68a84648b45db156f31cb52b56b49bdd4491e302e18e"), looks := true }, kinds := [], alts := [], laidByText := true, laidKinds := [.data, .data, .data, .data, .sentinel, .sentinel, .pinned], laidTests := true, laidLooks := .later }
def ReplyReadsCardSaid : Prop := Claim7.holds Tryz.pinned (.plain (OpenSpec.ofChange replyReadsSpec)) replyReadsCard

/-- THE TIED CARD OF 'posthornlaw09.ReplyBack'. -/
def replyBackCard : Claim7 := { stood := { row := replyBackRow, standIns := [], harness := (true, "7c8df67e59ecb687424b68a84648b45db156f31cb52b56b49bdd4491e302e18e"), looks := true }, kinds := [], alts := [], laidByText := true, laidKinds := [.data, .data, .data, .data, .sentinel, .sentinel, .pinned], laidTests := true, laidLooks := .later }
def ReplyBackCardSaid : Prop := Claim7.holds Tryz.pinned (.plain (OpenSpec.ofChange replyBackSpec)) replyBackCard

/-- THE TIED CARD OF 'posthornlaw09.ReplyOne'. -/
def replyOneCard : Claim7 := { stood := { row := replyOneRow, standIns := [], harness := (true, "7c8df67e59ecb687424b68a84648b45db156f31cb52b56b49bdd4491e302e18e"), looks := true }, kinds := [], alts := [], laidByText := true, laidKinds := [.data, .data, .data, .data, .sentinel, .sentinel, .pinned], laidTests := true, laidLooks := .later }
def ReplyOneCardSaid : Prop := Claim7.holds Tryz.pinned (.plain (OpenSpec.ofChange replyOneSpec)) replyOneCard

/-- THE TIED CARD OF 'posthornlaw09.ReplyRows'. -/
def replyRowsCard : Claim7 := { stood := { row := replyRowsRow, standIns := [], harness := (true, "7c8df67e59ecb687424b68a84648b45db156f31cb52b56b49bdd4491e302e18e"), looks := true }, kinds := [], alts := [], laidByText := true, laidKinds := [.data, .data, .data, .data, .sentinel, .sentinel, .pinned], laidTests := true, laidLooks := .later }
def ReplyRowsCardSaid : Prop := Claim7.holds Tryz.pinned (.plain (OpenSpec.ofChange replyRowsSpec)) replyRowsCard

/-- THE SECOND FORM's CARD OF 'posthornlaw09.ReplyWrites'. -/
def replyWritesUptoCard : Claim7 := { stood := { row := replyWritesUptoRow, standIns := [], harness := (true, "7c8df67e59ecb687424b68a84648b45db156f31cb52b56b49bdd4491e302e18e"), looks := true }, kinds := [], alts := [], laidByText := true, laidKinds := [.data, .data, .data, .data, .sentinel, .sentinel, .pinned], laidTests := true, laidLooks := .later }
def ReplyWritesUptoCardSaid : Prop := Claim7.holds Tryz.pinned (.plain (OpenSpec.upto replyWritesSpec)) replyWritesUptoCard

/-- THE SECOND FORM's CARD OF 'posthornlaw09.ReplyReads'. -/
def replyReadsUptoCard : Claim7 := { stood := { row := replyReadsUptoRow, standIns := [], harness := (true, "7c8df67e59ecb687424b68a84648b45db156f31cb52b56b49bdd4491e302e18e"), looks := true }, kinds := [], alts := [], laidByText := true, laidKinds := [.data, .data, .data, .data, .sentinel, .sentinel, .pinned], laidTests := true, laidLooks := .later }
def ReplyReadsUptoCardSaid : Prop := Claim7.holds Tryz.pinned (.plain (OpenSpec.upto replyReadsSpec)) replyReadsUptoCard

/-- THE SECOND FORM's CARD OF 'posthornlaw09.ReplyBack'. -/
def replyBackUptoCard : Claim7 := { stood := { row := replyBackUptoRow, standIns := [], harness := (true, "7c8df67e59ecb687424b68a84648b45db156f31cb52b56b49bdd4491e302e18e"), looks := true }, kinds := [], alts := [], laidByText := true, laidKinds := [.data, .data, .data, .data, .sentinel, .sentinel, .pinned], laidTests := true, laidLooks := .later }
def ReplyBackUptoCardSaid : Prop := Claim7.holds Tryz.pinned (.plain (OpenSpec.upto replyBackSpec)) replyBackUptoCard

/-- THE SECOND FORM's CARD OF 'posthornlaw09.ReplyOne'. -/
def replyOneUptoCard : Claim7 := { stood := { row := replyOneUptoRow, standIns := [], harness := (true, "7c8df67e59ecb687424b68a84648b45db156f31cb52b56b49bdd4491e302e18e"), looks := true }, kinds := [], alts := [], laidByText := true, laidKinds := [.data, .data, .data, .data, .sentinel, .sentinel, .pinned], laidTests := true, laidLooks := .later }
def ReplyOneUptoCardSaid : Prop := Claim7.holds Tryz.pinned (.plain (OpenSpec.upto replyOneSpec)) replyOneUptoCard

/-- THE SECOND FORM's CARD OF 'posthornlaw09.ReplyRows'. -/
def replyRowsUptoCard : Claim7 := { stood := { row := replyRowsUptoRow, standIns := [], harness := (true, "7c8df67e59ecb687424b68a84648b45db156f31cb52b56b49bdd4491e302e18e"), looks := true }, kinds := [], alts := [], laidByText := true, laidKinds := [.data, .data, .data, .data, .sentinel, .sentinel, .pinned], laidTests := true, laidLooks := .later }
def ReplyRowsUptoCardSaid : Prop := Claim7.holds Tryz.pinned (.plain (OpenSpec.upto replyRowsSpec)) replyRowsUptoCard
end Rows
end Go.Proofs.YtgllpcggdcknaaaGreatDoor
