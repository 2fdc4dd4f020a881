/-
  DERIVED. GIVEN WITH THE SEED: THE CARDS: each row of YtmcepdopookilaaGreatDoorRows.lean that lists a variable, with what it lists TIED to the program's text (the seventh form; the later family's looks); each row that meets fmt, with fmt's text TOLD by the authors' own Lean function (tested against real Go, not proved from fmt's source: count such statements apart). THE CARD IS WHAT COUNTS. Prove the row's statement (the work); the ties are given (YtmcepdopookilaaGreatDoorTie.lean); close each card by the builder's one call (the guide's Derived/Test/ToyasCard.lean, 'card_holds'). Laid BY PROGRAM, IN A SANDBOX (cutbox-door.mjs). By AI agents, Wed Nov 11 2026. No macro, syntax, notation, axiom, sorry.
-/
import Derived.Test.YtmcepdopookilaaGreatDoorRows
import GoSem.ClaimSeven
namespace Go.Proofs.YtmcepdopookilaaGreatDoor
namespace Rows

/-- THE TIED CARD OF 'posthornlaw23.SessionTags'. -/
def sessionTagsCard : Claim7 := { stood := { row := sessionTagsRow, standIns := [], harness := (true, "a0c8174240189ddc124c22158eab5320cb2718cbb93ea51f8f1b70e046319ab6"), looks := true }, kinds := [], alts := [], laidByText := true, laidKinds := [.data, .data, .data, .data, .sentinel, .sentinel, .pinned, .pinned], laidTests := true, laidLooks := .later }
def SessionTagsCardSaid : Prop := Claim7.holds Tryz.pinned (.plain (OpenSpec.ofChange sessionTagsSpec)) sessionTagsCard

/-- THE TIED CARD OF 'posthornlaw23.SessionPrints'. -/
def sessionPrintsCard : Claim7 := { stood := { row := sessionPrintsRow, standIns := [], harness := (true, "a0c8174240189ddc124c22158eab5320cb2718cbb93ea51f8f1b70e046319ab6"), looks := true }, kinds := [], alts := [], laidByText := true, laidKinds := [.data, .data, .data, .data, .sentinel, .sentinel, .pinned, .pinned], laidTests := true, laidLooks := .later }
def SessionPrintsCardSaid : Prop := Claim7.holds Tryz.pinned (.plain (OpenSpec.ofChange sessionPrintsSpec)) sessionPrintsCard

/-- THE TIED CARD OF 'posthornlaw23.SessionCounts'. -/
def sessionCountsCard : Claim7 := { stood := { row := sessionCountsRow, standIns := [], harness := (true, "a0c8174240189ddc124c22158eab5320cb2718cbb93ea51f8f1b70e046319ab6"), looks := true }, kinds := [], alts := [], laidByText := true, laidKinds := [.data, .data, .data, .data, .sentinel, .sentinel, .pinned, .pinned], laidTests := true, laidLooks := .later }
def SessionCountsCardSaid : Prop := Claim7.holds Tryz.pinned (.plain (OpenSpec.ofChange sessionCountsSpec)) sessionCountsCard

/-- THE TIED CARD OF 'posthornlaw23.SessionBad'. -/
def sessionBadCard : Claim7 := { stood := { row := sessionBadRow, standIns := [], harness := (true, "a0c8174240189ddc124c22158eab5320cb2718cbb93ea51f8f1b70e046319ab6"), looks := true }, kinds := [], alts := [], laidByText := true, laidKinds := [.data, .data, .data, .data, .sentinel, .sentinel, .pinned, .pinned], laidTests := true, laidLooks := .later }
def SessionBadCardSaid : Prop := Claim7.holds Tryz.pinned (.plain (OpenSpec.ofChange sessionBadSpec)) sessionBadCard

/-- THE TIED CARD OF 'posthornlaw23.SessionNumbers'. -/
def sessionNumbersCard : Claim7 := { stood := { row := sessionNumbersRow, standIns := [], harness := (true, "a0c8174240189ddc124c22158eab5320cb2718cbb93ea51f8f1b70e046319ab6"), looks := true }, kinds := [], alts := [], laidByText := true, laidKinds := [.data, .data, .data, .data, .sentinel, .sentinel, .pinned, .pinned], laidTests := true, laidLooks := .later }
def SessionNumbersCardSaid : Prop := Claim7.holds Tryz.pinned (.plain (OpenSpec.ofChange sessionNumbersSpec)) sessionNumbersCard

/-- THE TIED CARD OF 'posthornlaw23.SessionKeeps'. -/
def sessionKeepsCard : Claim7 := { stood := { row := sessionKeepsRow, standIns := [], harness := (true, "a0c8174240189ddc124c22158eab5320cb2718cbb93ea51f8f1b70e046319ab6"), looks := true }, kinds := [], alts := [], laidByText := true, laidKinds := [.data, .data, .data, .data, .sentinel, .sentinel, .pinned, .pinned], laidTests := true, laidLooks := .later }
def SessionKeepsCardSaid : Prop := Claim7.holds Tryz.pinned (.plain (OpenSpec.ofChange sessionKeepsSpec)) sessionKeepsCard

/-- THE SECOND FORM's CARD OF 'posthornlaw23.SessionTags'. -/
def sessionTagsUptoCard : Claim7 := { stood := { row := sessionTagsUptoRow, standIns := [], harness := (true, "a0c8174240189ddc124c22158eab5320cb2718cbb93ea51f8f1b70e046319ab6"), looks := true }, kinds := [], alts := [], laidByText := true, laidKinds := [.data, .data, .data, .data, .sentinel, .sentinel, .pinned, .pinned], laidTests := true, laidLooks := .later }
def SessionTagsUptoCardSaid : Prop := Claim7.holds Tryz.pinned (.plain (OpenSpec.upto sessionTagsSpec)) sessionTagsUptoCard

/-- THE SECOND FORM's CARD OF 'posthornlaw23.SessionPrints'. -/
def sessionPrintsUptoCard : Claim7 := { stood := { row := sessionPrintsUptoRow, standIns := [], harness := (true, "a0c8174240189ddc124c22158eab5320cb2718cbb93ea51f8f1b70e046319ab6"), looks := true }, kinds := [], alts := [], laidByText := true, laidKinds := [.data, .data, .data, .data, .sentinel, .sentinel, .pinned, .pinned], laidTests := true, laidLooks := .later }
def SessionPrintsUptoCardSaid : Prop := Claim7.holds Tryz.pinned (.plain (OpenSpec.upto sessionPrintsSpec)) sessionPrintsUptoCard

/-- THE SECOND FORM's CARD OF 'posthornlaw23.SessionCounts'. -/
def sessionCountsUptoCard : Claim7 := { stood := { row := sessionCountsUptoRow, standIns := [], harness := (true, "a0c8174240189ddc124c22158eab5320cb2718cbb93ea51f8f1b70e046319ab6"), looks := true }, kinds := [], alts := [], laidByText := true, laidKinds := [.data, .data, .data, .data, .sentinel, .sentinel, .pinned, .pinned], laidTests := true, laidLooks := .later }
def SessionCountsUptoCardSaid : Prop := Claim7.holds Tryz.pinned (.plain (OpenSpec.upto sessionCountsSpec)) sessionCountsUptoCard

/-- THE SECOND FORM's CARD OF 'posthornlaw23.SessionBad'. -/
def sessionBadUptoCard : Claim7 := { stood := { row := sessionBadUptoRow, standIns := [], harness := (true, "a0c8174240189ddc124c22158eab5320cb2718cbb93ea51f8f1b70e046319ab6"), looks := true }, kinds := [], alts := [], laidByText := true, laidKinds := [.data, .data, .data, .data, .sentinel, .sentinel, .pinned, .pinned], laidTests := true, laidLooks := .later }
def SessionBadUptoCardSaid : Prop := Claim7.holds Tryz.pinned (.plain (OpenSpec.upto sessionBadSpec)) sessionBadUptoCard

/-- THE SECOND FORM's CARD OF 'posthornlaw23.SessionNumbers'. -/
def sessionNumbersUptoCard : Claim7 := { stood := { row := sessionNumbersUptoRow, standIns := [], harness := (true, "a0c8174240189ddc124c22158eab5320cb2718cbb93ea51f8f1b70e046319ab6"), looks := true }, kinds := [], alts := [], laidByText := true, laidKinds := [.data, .data, .data, .data, .sentinel, .sentinel, .pinned, .pinned], laidTests := true, laidLooks := .later }
def SessionNumbersUptoCardSaid : Prop := Claim7.holds Tryz.pinned (.plain (OpenSpec.upto sessionNumbersSpec)) sessionNumbersUptoCard

/-- THE SECOND FORM's CARD OF 'posthornlaw23.SessionKeeps'. -/
def sessionKeepsUptoCard : Claim7 := { stood := { row := sessionKeepsUptoRow, standIns := [], harness := (true, "a0c8174240189ddc124c22158eab5320cb2718cbb93ea51f8f1b70e046319ab6"), looks := true }, kinds := [], alts := [], laidByText := true, laidKinds := [.data, .data, .data, .data, .sentinel, .sentinel, .pinned, .pinned], laidTests := true, laidLooks := .later }
def SessionKeepsUptoCardSaid : Prop := Claim7.holds Tryz.pinned (.plain (OpenSpec.upto sessionKeepsSpec)) sessionKeepsUptoCard
end Rows
end Go.Proofs.YtmcepdopookilaaGreatDoor
