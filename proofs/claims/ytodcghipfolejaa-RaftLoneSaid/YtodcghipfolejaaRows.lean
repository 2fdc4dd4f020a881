/-
  No cell of these rows narrows 'for every input' (looked for: loops, veiled, ifaces, maps, wideKeys, modest, calm, conditions, laid).
  DERIVED. THE GIVEN ROWS OF THIS SEAT. 15 by the template 'for every input the law returns true; each argument reads behind the call as it read before'; 0 by the template 'total and deterministic' (their statements: YtodcghipfolejaaTotals.lean).
  GIVEN WITH THE SEED: the statements are not yours to turn. If you find one false, say at which input.
  Laid BY PROGRAM, IN A SANDBOX (cutbox-rows.mjs): the forced cells as the released guide's own fill.sh prints them over the translation f84ff4a3f696c2ed… (all of the seat's roots in one cut). By AI agents, Wed Nov 11 2026. No macro, syntax, notation, axiom, sorry.
-/
import Derived.Test.YtodcghipfolejaaChecked
import GoSem.Claim
import GoSem.ClaimJoined
import GoSem.ClaimMapViews
import Derived.JoinedTies
import Derived.KernelRfl
namespace Go.Proofs.Ytodcghipfolejaa
/- THE CELL 'sum', in the pinned program and in every row, IS THE sha256 OF THE DUMP (.gsa) THAT YtodcghipfolejaaProg.lean LOADS. Nothing in Lean hashes anything: it is a label: what it is worth is what the hold of that sum in a sandbox is worth. -/
noncomputable def Try.pinned : Pinned := { name := "ytodcghipfolejaa", sum := "f84ff4a3f696c2ed164e6fb3856e04120f0cc7dd8e078f0de669fcd063a45608", checked := Try.checked }
namespace Rows
def none {H : Type} : Left H := { results := [], args := [] }

/-- 'posthornlaw15.QuorumMost': WHATEVER THE INPUT: true; the input reads as it did. -/
def quorumMostSpec : ChangeSpec := { name := "quorumMost", fn := fun _ => fun
  | [d1, d2] => { results := [.lit (.bool true)], args := [d1, d2] }
  | _ => none }
def quorumMostRow : OpenClaim := { program := "ytodcghipfolejaa", sum := "f84ff4a3f696c2ed164e6fb3856e04120f0cc7dd8e078f0de669fcd063a45608", func := "posthorn/posthornlaw15.QuorumMost", spec := "quorumMost", unfollowed := true, recurses := true, apart := false }
def QuorumMostSaid : Prop := quorumMostRow.holds Try.pinned (OpenSpec.ofChange quorumMostSpec)

/-- ITS FALSE NEIGHBOUR: 'it returns false'. Refute it at one input. -/
def quorumMostWrong : ChangeSpec := { name := "quorumMost", fn := fun _ => fun
  | [d1, d2] => { results := [.lit (.bool false)], args := [d1, d2] }
  | _ => none }
def QuorumMostWrongFalsely : Prop := quorumMostRow.holds Try.pinned (OpenSpec.ofChange quorumMostWrong)

/-- 'posthornlaw15.QuorumCommits': WHATEVER THE INPUT: true; the input reads as it did. -/
def quorumCommitsSpec : ChangeSpec := { name := "quorumCommits", fn := fun _ => fun
  | [d1, d2] => { results := [.lit (.bool true)], args := [d1, d2] }
  | _ => none }
def quorumCommitsRow : OpenClaim := { program := "ytodcghipfolejaa", sum := "f84ff4a3f696c2ed164e6fb3856e04120f0cc7dd8e078f0de669fcd063a45608", func := "posthorn/posthornlaw15.QuorumCommits", spec := "quorumCommits", unfollowed := true, recurses := true, apart := false }
def QuorumCommitsSaid : Prop := quorumCommitsRow.holds Try.pinned (OpenSpec.ofChange quorumCommitsSpec)

/-- ITS FALSE NEIGHBOUR: 'it returns false'. Refute it at one input. -/
def quorumCommitsWrong : ChangeSpec := { name := "quorumCommits", fn := fun _ => fun
  | [d1, d2] => { results := [.lit (.bool false)], args := [d1, d2] }
  | _ => none }
def QuorumCommitsWrongFalsely : Prop := quorumCommitsRow.holds Try.pinned (OpenSpec.ofChange quorumCommitsWrong)

/-- 'posthornlaw15.QuorumHas': WHATEVER THE INPUT: true; the input reads as it did. -/
def quorumHasSpec : ChangeSpec := { name := "quorumHas", fn := fun _ => fun
  | [d1, d2, d3] => { results := [.lit (.bool true)], args := [d1, d2, d3] }
  | _ => none }
def quorumHasRow : OpenClaim := { program := "ytodcghipfolejaa", sum := "f84ff4a3f696c2ed164e6fb3856e04120f0cc7dd8e078f0de669fcd063a45608", func := "posthorn/posthornlaw15.QuorumHas", spec := "quorumHas", unfollowed := true, recurses := true, apart := false }
def QuorumHasSaid : Prop := quorumHasRow.holds Try.pinned (OpenSpec.ofChange quorumHasSpec)

/-- ITS FALSE NEIGHBOUR: 'it returns false'. Refute it at one input. -/
def quorumHasWrong : ChangeSpec := { name := "quorumHas", fn := fun _ => fun
  | [d1, d2, d3] => { results := [.lit (.bool false)], args := [d1, d2, d3] }
  | _ => none }
def QuorumHasWrongFalsely : Prop := quorumHasRow.holds Try.pinned (OpenSpec.ofChange quorumHasWrong)

/-- 'posthornlaw15.QuorumSteps': WHATEVER THE INPUT: true; the input reads as it did. -/
def quorumStepsSpec : ChangeSpec := { name := "quorumSteps", fn := fun _ => fun
  | [d1, d2, d3, d4] => { results := [.lit (.bool true)], args := [d1, d2, d3, d4] }
  | _ => none }
def quorumStepsRow : OpenClaim := { program := "ytodcghipfolejaa", sum := "f84ff4a3f696c2ed164e6fb3856e04120f0cc7dd8e078f0de669fcd063a45608", func := "posthorn/posthornlaw15.QuorumSteps", spec := "quorumSteps", unfollowed := true, recurses := true, apart := false }
def QuorumStepsSaid : Prop := quorumStepsRow.holds Try.pinned (OpenSpec.ofChange quorumStepsSpec)

/-- ITS FALSE NEIGHBOUR: 'it returns false'. Refute it at one input. -/
def quorumStepsWrong : ChangeSpec := { name := "quorumSteps", fn := fun _ => fun
  | [d1, d2, d3, d4] => { results := [.lit (.bool false)], args := [d1, d2, d3, d4] }
  | _ => none }
def QuorumStepsWrongFalsely : Prop := quorumStepsRow.holds Try.pinned (OpenSpec.ofChange quorumStepsWrong)

/-- 'posthornlaw15.QuorumMeets': WHATEVER THE INPUT: true; the input reads as it did. -/
def quorumMeetsSpec : ChangeSpec := { name := "quorumMeets", fn := fun _ => fun
  | [d1, d2, d3, d4] => { results := [.lit (.bool true)], args := [d1, d2, d3, d4] }
  | _ => none }
def quorumMeetsRow : OpenClaim := { program := "ytodcghipfolejaa", sum := "f84ff4a3f696c2ed164e6fb3856e04120f0cc7dd8e078f0de669fcd063a45608", func := "posthorn/posthornlaw15.QuorumMeets", spec := "quorumMeets", unfollowed := true, recurses := true, apart := false }
def QuorumMeetsSaid : Prop := quorumMeetsRow.holds Try.pinned (OpenSpec.ofChange quorumMeetsSpec)

/-- ITS FALSE NEIGHBOUR: 'it returns false'. Refute it at one input. -/
def quorumMeetsWrong : ChangeSpec := { name := "quorumMeets", fn := fun _ => fun
  | [d1, d2, d3, d4] => { results := [.lit (.bool false)], args := [d1, d2, d3, d4] }
  | _ => none }
def QuorumMeetsWrongFalsely : Prop := quorumMeetsRow.holds Try.pinned (OpenSpec.ofChange quorumMeetsWrong)

/-- 'posthornlaw15.QuorumBack': WHATEVER THE INPUT: true; the input reads as it did. -/
def quorumBackSpec : ChangeSpec := { name := "quorumBack", fn := fun _ => fun
  | [d1, d2, d3] => { results := [.lit (.bool true)], args := [d1, d2, d3] }
  | _ => none }
def quorumBackRow : OpenClaim := { program := "ytodcghipfolejaa", sum := "f84ff4a3f696c2ed164e6fb3856e04120f0cc7dd8e078f0de669fcd063a45608", func := "posthorn/posthornlaw15.QuorumBack", spec := "quorumBack", unfollowed := true, recurses := true, apart := false }
def QuorumBackSaid : Prop := quorumBackRow.holds Try.pinned (OpenSpec.ofChange quorumBackSpec)

/-- ITS FALSE NEIGHBOUR: 'it returns false'. Refute it at one input. -/
def quorumBackWrong : ChangeSpec := { name := "quorumBack", fn := fun _ => fun
  | [d1, d2, d3] => { results := [.lit (.bool false)], args := [d1, d2, d3] }
  | _ => none }
def QuorumBackWrongFalsely : Prop := quorumBackRow.holds Try.pinned (OpenSpec.ofChange quorumBackWrong)

/-- 'posthornlaw16.TailMerges': WHATEVER THE INPUT: true; the input reads as it did. -/
def tailMergesSpec : ChangeSpec := { name := "tailMerges", fn := fun _ => fun
  | [d1, d2, d3, d4] => { results := [.lit (.bool true)], args := [d1, d2, d3, d4] }
  | _ => none }
def tailMergesRow : OpenClaim := { program := "ytodcghipfolejaa", sum := "f84ff4a3f696c2ed164e6fb3856e04120f0cc7dd8e078f0de669fcd063a45608", func := "posthorn/posthornlaw16.TailMerges", spec := "tailMerges", unfollowed := true, recurses := true, apart := false }
def TailMergesSaid : Prop := tailMergesRow.holds Try.pinned (OpenSpec.ofChange tailMergesSpec)

/-- ITS FALSE NEIGHBOUR: 'it returns false'. Refute it at one input. -/
def tailMergesWrong : ChangeSpec := { name := "tailMerges", fn := fun _ => fun
  | [d1, d2, d3, d4] => { results := [.lit (.bool false)], args := [d1, d2, d3, d4] }
  | _ => none }
def TailMergesWrongFalsely : Prop := tailMergesRow.holds Try.pinned (OpenSpec.ofChange tailMergesWrong)

/-- 'posthornlaw16.TailBases': WHATEVER THE INPUT: true; the input reads as it did. -/
def tailBasesSpec : ChangeSpec := { name := "tailBases", fn := fun _ => fun
  | [d1, d2, d3, d4] => { results := [.lit (.bool true)], args := [d1, d2, d3, d4] }
  | _ => none }
def tailBasesRow : OpenClaim := { program := "ytodcghipfolejaa", sum := "f84ff4a3f696c2ed164e6fb3856e04120f0cc7dd8e078f0de669fcd063a45608", func := "posthorn/posthornlaw16.TailBases", spec := "tailBases", unfollowed := true, recurses := true, apart := false }
def TailBasesSaid : Prop := tailBasesRow.holds Try.pinned (OpenSpec.ofChange tailBasesSpec)

/-- ITS FALSE NEIGHBOUR: 'it returns false'. Refute it at one input. -/
def tailBasesWrong : ChangeSpec := { name := "tailBases", fn := fun _ => fun
  | [d1, d2, d3, d4] => { results := [.lit (.bool false)], args := [d1, d2, d3, d4] }
  | _ => none }
def TailBasesWrongFalsely : Prop := tailBasesRow.holds Try.pinned (OpenSpec.ofChange tailBasesWrong)

/-- 'posthornlaw16.TailStays': WHATEVER THE INPUT: true; the input reads as it did. -/
def tailStaysSpec : ChangeSpec := { name := "tailStays", fn := fun _ => fun
  | [d1, d2, d3] => { results := [.lit (.bool true)], args := [d1, d2, d3] }
  | _ => none }
def tailStaysRow : OpenClaim := { program := "ytodcghipfolejaa", sum := "f84ff4a3f696c2ed164e6fb3856e04120f0cc7dd8e078f0de669fcd063a45608", func := "posthorn/posthornlaw16.TailStays", spec := "tailStays", unfollowed := true, recurses := true, apart := false }
def TailStaysSaid : Prop := tailStaysRow.holds Try.pinned (OpenSpec.ofChange tailStaysSpec)

/-- ITS FALSE NEIGHBOUR: 'it returns false'. Refute it at one input. -/
def tailStaysWrong : ChangeSpec := { name := "tailStays", fn := fun _ => fun
  | [d1, d2, d3] => { results := [.lit (.bool false)], args := [d1, d2, d3] }
  | _ => none }
def TailStaysWrongFalsely : Prop := tailStaysRow.holds Try.pinned (OpenSpec.ofChange tailStaysWrong)

/-- 'posthornlaw16.TailSame': WHATEVER THE INPUT: true; the input reads as it did. -/
def tailSameSpec : ChangeSpec := { name := "tailSame", fn := fun _ => fun
  | [d1, d2, d3, d4] => { results := [.lit (.bool true)], args := [d1, d2, d3, d4] }
  | _ => none }
def tailSameRow : OpenClaim := { program := "ytodcghipfolejaa", sum := "f84ff4a3f696c2ed164e6fb3856e04120f0cc7dd8e078f0de669fcd063a45608", func := "posthorn/posthornlaw16.TailSame", spec := "tailSame", unfollowed := true, recurses := true, apart := false }
def TailSameSaid : Prop := tailSameRow.holds Try.pinned (OpenSpec.ofChange tailSameSpec)

/-- ITS FALSE NEIGHBOUR: 'it returns false'. Refute it at one input. -/
def tailSameWrong : ChangeSpec := { name := "tailSame", fn := fun _ => fun
  | [d1, d2, d3, d4] => { results := [.lit (.bool false)], args := [d1, d2, d3, d4] }
  | _ => none }
def TailSameWrongFalsely : Prop := tailSameRow.holds Try.pinned (OpenSpec.ofChange tailSameWrong)

/-- 'posthornlaw16.TailAbove': WHATEVER THE INPUT: true; the input reads as it did. -/
def tailAboveSpec : ChangeSpec := { name := "tailAbove", fn := fun _ => fun
  | [d1, d2, d3] => { results := [.lit (.bool true)], args := [d1, d2, d3] }
  | _ => none }
def tailAboveRow : OpenClaim := { program := "ytodcghipfolejaa", sum := "f84ff4a3f696c2ed164e6fb3856e04120f0cc7dd8e078f0de669fcd063a45608", func := "posthorn/posthornlaw16.TailAbove", spec := "tailAbove", unfollowed := true, recurses := true, apart := false }
def TailAboveSaid : Prop := tailAboveRow.holds Try.pinned (OpenSpec.ofChange tailAboveSpec)

/-- ITS FALSE NEIGHBOUR: 'it returns false'. Refute it at one input. -/
def tailAboveWrong : ChangeSpec := { name := "tailAbove", fn := fun _ => fun
  | [d1, d2, d3] => { results := [.lit (.bool false)], args := [d1, d2, d3] }
  | _ => none }
def TailAboveWrongFalsely : Prop := tailAboveRow.holds Try.pinned (OpenSpec.ofChange tailAboveWrong)

/-- 'posthornlaw16.TailLooks': WHATEVER THE INPUT: true; the input reads as it did. -/
def tailLooksSpec : ChangeSpec := { name := "tailLooks", fn := fun _ => fun
  | [d1, d2, d3, d4] => { results := [.lit (.bool true)], args := [d1, d2, d3, d4] }
  | _ => none }
def tailLooksRow : OpenClaim := { program := "ytodcghipfolejaa", sum := "f84ff4a3f696c2ed164e6fb3856e04120f0cc7dd8e078f0de669fcd063a45608", func := "posthorn/posthornlaw16.TailLooks", spec := "tailLooks", unfollowed := true, recurses := true, apart := false }
def TailLooksSaid : Prop := tailLooksRow.holds Try.pinned (OpenSpec.ofChange tailLooksSpec)

/-- ITS FALSE NEIGHBOUR: 'it returns false'. Refute it at one input. -/
def tailLooksWrong : ChangeSpec := { name := "tailLooks", fn := fun _ => fun
  | [d1, d2, d3, d4] => { results := [.lit (.bool false)], args := [d1, d2, d3, d4] }
  | _ => none }
def TailLooksWrongFalsely : Prop := tailLooksRow.holds Try.pinned (OpenSpec.ofChange tailLooksWrong)

/-- 'posthornlaw15.QuorumTexts': WHATEVER THE INPUT: true; the input reads as it did. -/
def quorumTextsSpec : ChangeSpec := { name := "quorumTexts", fn := fun _ => fun
  | [d1, d2] => { results := [.lit (.bool true)], args := [d1, d2] }
  | _ => none }
def quorumTextsRow : OpenClaim := { program := "ytodcghipfolejaa", sum := "f84ff4a3f696c2ed164e6fb3856e04120f0cc7dd8e078f0de669fcd063a45608", func := "posthorn/posthornlaw15.QuorumTexts", spec := "quorumTexts", unfollowed := true, recurses := true, apart := false }
def QuorumTextsSaid : Prop := quorumTextsRow.holds Try.pinned (OpenSpec.ofChange quorumTextsSpec)

/-- ITS FALSE NEIGHBOUR: 'it returns false'. Refute it at one input. -/
def quorumTextsWrong : ChangeSpec := { name := "quorumTexts", fn := fun _ => fun
  | [d1, d2] => { results := [.lit (.bool false)], args := [d1, d2] }
  | _ => none }
def QuorumTextsWrongFalsely : Prop := quorumTextsRow.holds Try.pinned (OpenSpec.ofChange quorumTextsWrong)

/-- 'posthornlaw17.RaftBegins': WHATEVER THE INPUT: true; the input reads as it did. -/
def raftBeginsSpec : ChangeSpec := { name := "raftBegins", fn := fun _ => fun
  | [d1, d2, d3, d4, d5] => { results := [.lit (.bool true)], args := [d1, d2, d3, d4, d5] }
  | _ => none }
def raftBeginsRow : OpenClaim := { program := "ytodcghipfolejaa", sum := "f84ff4a3f696c2ed164e6fb3856e04120f0cc7dd8e078f0de669fcd063a45608", func := "posthorn/posthornlaw17.RaftBegins", spec := "raftBegins", unfollowed := true, recurses := true, apart := false }
def RaftBeginsSaid : Prop := raftBeginsRow.holds Try.pinned (OpenSpec.ofChange raftBeginsSpec)

/-- ITS FALSE NEIGHBOUR: 'it returns false'. Refute it at one input. -/
def raftBeginsWrong : ChangeSpec := { name := "raftBegins", fn := fun _ => fun
  | [d1, d2, d3, d4, d5] => { results := [.lit (.bool false)], args := [d1, d2, d3, d4, d5] }
  | _ => none }
def RaftBeginsWrongFalsely : Prop := raftBeginsRow.holds Try.pinned (OpenSpec.ofChange raftBeginsWrong)

/-- 'posthornlaw17.RaftLone': WHATEVER THE INPUT: true; the input reads as it did. -/
def raftLoneSpec : ChangeSpec := { name := "raftLone", fn := fun _ => fun
  | [d1, d2] => { results := [.lit (.bool true)], args := [d1, d2] }
  | _ => none }
def raftLoneRow : OpenClaim := { program := "ytodcghipfolejaa", sum := "f84ff4a3f696c2ed164e6fb3856e04120f0cc7dd8e078f0de669fcd063a45608", func := "posthorn/posthornlaw17.RaftLone", spec := "raftLone", unfollowed := true, recurses := true, apart := false }
def RaftLoneSaid : Prop := raftLoneRow.holds Try.pinned (OpenSpec.ofChange raftLoneSpec)

/-- ITS FALSE NEIGHBOUR: 'it returns false'. Refute it at one input. -/
def raftLoneWrong : ChangeSpec := { name := "raftLone", fn := fun _ => fun
  | [d1, d2] => { results := [.lit (.bool false)], args := [d1, d2] }
  | _ => none }
def RaftLoneWrongFalsely : Prop := raftLoneRow.holds Try.pinned (OpenSpec.ofChange raftLoneWrong)

/- THE SECOND FORM. 'bulk': how many values and letters a reading holds, each counted each time it is reached (what is shared counts as often as it is met; a slice's spare places count too). A statement '..UptoSaid' is the law's where the arguments, and the package variables that the reading takes, are together of bulk at most 1048576: NARROWER than '..Said'. Prove '..Said' where nothing that the law and all that it calls make is longer than what came in: it says more and counts as full. Else prove '..UptoSaid'. A law counts once. -/
mutual
def uptoBulk {H : Type} : DataW H → Nat
  | .lit (.string bytes) => bytes.length + 1
  | .lit _ => 1
  | .nil => 1
  | .ptr d => uptoBulk d + 1
  | .slice elems spare => uptoBulkAll elems + uptoBulkAll spare + 1
  | .agg parts => uptoBulkAll parts + 1
  | .iface _ d => uptoBulk d + 1
  | .map entries => uptoBulkEntries entries + 1
  | .held _ => 1
def uptoBulkAll {H : Type} : List (DataW H) → Nat
  | [] => 0
  | d :: r => uptoBulk d + uptoBulkAll r
def uptoBulkEntries {H : Type} : List (Lit × DataW H) → Nat
  | [] => 0
  | x :: r => uptoBulkEntry x + uptoBulkEntries r
def uptoBulkEntry {H : Type} : Lit × DataW H → Nat
  | (.string bytes, d) => bytes.length + uptoBulk d + 1
  | (_, d) => uptoBulk d + 1
 end
def uptoSmall : (H : Type) → List (DataW H) → Bool := fun _ ds => decide (uptoBulkAll ds ≤ 1048576)
def OpenSpec.upto (s : _root_.Go.ChangeSpec) : _root_.Go.OpenSpec := { _root_.Go.OpenSpec.ofChange s with cond := some uptoSmall }

/-- 'posthornlaw15.QuorumMost', WHERE WHAT IT READS IS OF BULK AT MOST 1048576: true; the input reads as it did. -/
def quorumMostUptoRow : OpenClaim := { program := "ytodcghipfolejaa", sum := "f84ff4a3f696c2ed164e6fb3856e04120f0cc7dd8e078f0de669fcd063a45608", func := "posthorn/posthornlaw15.QuorumMost", spec := "quorumMost", unfollowed := true, recurses := true, apart := false, narrowed := true }
def QuorumMostUptoSaid : Prop := quorumMostUptoRow.holds Try.pinned (OpenSpec.upto quorumMostSpec)

/-- 'posthornlaw15.QuorumCommits', WHERE WHAT IT READS IS OF BULK AT MOST 1048576: true; the input reads as it did. -/
def quorumCommitsUptoRow : OpenClaim := { program := "ytodcghipfolejaa", sum := "f84ff4a3f696c2ed164e6fb3856e04120f0cc7dd8e078f0de669fcd063a45608", func := "posthorn/posthornlaw15.QuorumCommits", spec := "quorumCommits", unfollowed := true, recurses := true, apart := false, narrowed := true }
def QuorumCommitsUptoSaid : Prop := quorumCommitsUptoRow.holds Try.pinned (OpenSpec.upto quorumCommitsSpec)

/-- 'posthornlaw15.QuorumHas', WHERE WHAT IT READS IS OF BULK AT MOST 1048576: true; the input reads as it did. -/
def quorumHasUptoRow : OpenClaim := { program := "ytodcghipfolejaa", sum := "f84ff4a3f696c2ed164e6fb3856e04120f0cc7dd8e078f0de669fcd063a45608", func := "posthorn/posthornlaw15.QuorumHas", spec := "quorumHas", unfollowed := true, recurses := true, apart := false, narrowed := true }
def QuorumHasUptoSaid : Prop := quorumHasUptoRow.holds Try.pinned (OpenSpec.upto quorumHasSpec)

/-- 'posthornlaw15.QuorumSteps', WHERE WHAT IT READS IS OF BULK AT MOST 1048576: true; the input reads as it did. -/
def quorumStepsUptoRow : OpenClaim := { program := "ytodcghipfolejaa", sum := "f84ff4a3f696c2ed164e6fb3856e04120f0cc7dd8e078f0de669fcd063a45608", func := "posthorn/posthornlaw15.QuorumSteps", spec := "quorumSteps", unfollowed := true, recurses := true, apart := false, narrowed := true }
def QuorumStepsUptoSaid : Prop := quorumStepsUptoRow.holds Try.pinned (OpenSpec.upto quorumStepsSpec)

/-- 'posthornlaw15.QuorumMeets', WHERE WHAT IT READS IS OF BULK AT MOST 1048576: true; the input reads as it did. -/
def quorumMeetsUptoRow : OpenClaim := { program := "ytodcghipfolejaa", sum := "f84ff4a3f696c2ed164e6fb3856e04120f0cc7dd8e078f0de669fcd063a45608", func := "posthorn/posthornlaw15.QuorumMeets", spec := "quorumMeets", unfollowed := true, recurses := true, apart := false, narrowed := true }
def QuorumMeetsUptoSaid : Prop := quorumMeetsUptoRow.holds Try.pinned (OpenSpec.upto quorumMeetsSpec)

/-- 'posthornlaw15.QuorumBack', WHERE WHAT IT READS IS OF BULK AT MOST 1048576: true; the input reads as it did. -/
def quorumBackUptoRow : OpenClaim := { program := "ytodcghipfolejaa", sum := "f84ff4a3f696c2ed164e6fb3856e04120f0cc7dd8e078f0de669fcd063a45608", func := "posthorn/posthornlaw15.QuorumBack", spec := "quorumBack", unfollowed := true, recurses := true, apart := false, narrowed := true }
def QuorumBackUptoSaid : Prop := quorumBackUptoRow.holds Try.pinned (OpenSpec.upto quorumBackSpec)

/-- 'posthornlaw16.TailMerges', WHERE WHAT IT READS IS OF BULK AT MOST 1048576: true; the input reads as it did. -/
def tailMergesUptoRow : OpenClaim := { program := "ytodcghipfolejaa", sum := "f84ff4a3f696c2ed164e6fb3856e04120f0cc7dd8e078f0de669fcd063a45608", func := "posthorn/posthornlaw16.TailMerges", spec := "tailMerges", unfollowed := true, recurses := true, apart := false, narrowed := true }
def TailMergesUptoSaid : Prop := tailMergesUptoRow.holds Try.pinned (OpenSpec.upto tailMergesSpec)

/-- 'posthornlaw16.TailBases', WHERE WHAT IT READS IS OF BULK AT MOST 1048576: true; the input reads as it did. -/
def tailBasesUptoRow : OpenClaim := { program := "ytodcghipfolejaa", sum := "f84ff4a3f696c2ed164e6fb3856e04120f0cc7dd8e078f0de669fcd063a45608", func := "posthorn/posthornlaw16.TailBases", spec := "tailBases", unfollowed := true, recurses := true, apart := false, narrowed := true }
def TailBasesUptoSaid : Prop := tailBasesUptoRow.holds Try.pinned (OpenSpec.upto tailBasesSpec)

/-- 'posthornlaw16.TailStays', WHERE WHAT IT READS IS OF BULK AT MOST 1048576: true; the input reads as it did. -/
def tailStaysUptoRow : OpenClaim := { program := "ytodcghipfolejaa", sum := "f84ff4a3f696c2ed164e6fb3856e04120f0cc7dd8e078f0de669fcd063a45608", func := "posthorn/posthornlaw16.TailStays", spec := "tailStays", unfollowed := true, recurses := true, apart := false, narrowed := true }
def TailStaysUptoSaid : Prop := tailStaysUptoRow.holds Try.pinned (OpenSpec.upto tailStaysSpec)

/-- 'posthornlaw16.TailSame', WHERE WHAT IT READS IS OF BULK AT MOST 1048576: true; the input reads as it did. -/
def tailSameUptoRow : OpenClaim := { program := "ytodcghipfolejaa", sum := "f84ff4a3f696c2ed164e6fb3856e04120f0cc7dd8e078f0de669fcd063a45608", func := "posthorn/posthornlaw16.TailSame", spec := "tailSame", unfollowed := true, recurses := true, apart := false, narrowed := true }
def TailSameUptoSaid : Prop := tailSameUptoRow.holds Try.pinned (OpenSpec.upto tailSameSpec)

/-- 'posthornlaw16.TailAbove', WHERE WHAT IT READS IS OF BULK AT MOST 1048576: true; the input reads as it did. -/
def tailAboveUptoRow : OpenClaim := { program := "ytodcghipfolejaa", sum := "f84ff4a3f696c2ed164e6fb3856e04120f0cc7dd8e078f0de669fcd063a45608", func := "posthorn/posthornlaw16.TailAbove", spec := "tailAbove", unfollowed := true, recurses := true, apart := false, narrowed := true }
def TailAboveUptoSaid : Prop := tailAboveUptoRow.holds Try.pinned (OpenSpec.upto tailAboveSpec)

/-- 'posthornlaw16.TailLooks', WHERE WHAT IT READS IS OF BULK AT MOST 1048576: true; the input reads as it did. -/
def tailLooksUptoRow : OpenClaim := { program := "ytodcghipfolejaa", sum := "f84ff4a3f696c2ed164e6fb3856e04120f0cc7dd8e078f0de669fcd063a45608", func := "posthorn/posthornlaw16.TailLooks", spec := "tailLooks", unfollowed := true, recurses := true, apart := false, narrowed := true }
def TailLooksUptoSaid : Prop := tailLooksUptoRow.holds Try.pinned (OpenSpec.upto tailLooksSpec)

/-- 'posthornlaw15.QuorumTexts', WHERE WHAT IT READS IS OF BULK AT MOST 1048576: true; the input reads as it did. -/
def quorumTextsUptoRow : OpenClaim := { program := "ytodcghipfolejaa", sum := "f84ff4a3f696c2ed164e6fb3856e04120f0cc7dd8e078f0de669fcd063a45608", func := "posthorn/posthornlaw15.QuorumTexts", spec := "quorumTexts", unfollowed := true, recurses := true, apart := false, narrowed := true }
def QuorumTextsUptoSaid : Prop := quorumTextsUptoRow.holds Try.pinned (OpenSpec.upto quorumTextsSpec)

/-- 'posthornlaw17.RaftBegins', WHERE WHAT IT READS IS OF BULK AT MOST 1048576: true; the input reads as it did. -/
def raftBeginsUptoRow : OpenClaim := { program := "ytodcghipfolejaa", sum := "f84ff4a3f696c2ed164e6fb3856e04120f0cc7dd8e078f0de669fcd063a45608", func := "posthorn/posthornlaw17.RaftBegins", spec := "raftBegins", unfollowed := true, recurses := true, apart := false, narrowed := true }
def RaftBeginsUptoSaid : Prop := raftBeginsUptoRow.holds Try.pinned (OpenSpec.upto raftBeginsSpec)

/-- 'posthornlaw17.RaftLone', WHERE WHAT IT READS IS OF BULK AT MOST 1048576: true; the input reads as it did. -/
def raftLoneUptoRow : OpenClaim := { program := "ytodcghipfolejaa", sum := "f84ff4a3f696c2ed164e6fb3856e04120f0cc7dd8e078f0de669fcd063a45608", func := "posthorn/posthornlaw17.RaftLone", spec := "raftLone", unfollowed := true, recurses := true, apart := false, narrowed := true }
def RaftLoneUptoSaid : Prop := raftLoneUptoRow.holds Try.pinned (OpenSpec.upto raftLoneSpec)

end Rows
end Go.Proofs.Ytodcghipfolejaa
