/-
  No cell of these rows narrows 'for every input' (looked for: loops, veiled, ifaces, maps, wideKeys, modest, calm, conditions, laid).
  DERIVED. THE GIVEN ROWS OF THIS SEAT. 6 by the template 'for every input the law returns true; each argument reads behind the call as it read before'; 0 by the template 'total and deterministic' (their statements: YtnopiidgklilnaaTotals.lean).
  GIVEN WITH THE SEED: the statements are not yours to turn. If you find one false, say at which input.
  Laid BY PROGRAM, IN A SANDBOX (cutbox-rows.mjs): the forced cells as the released guide's own fill.sh prints them over the translation 85ac9656eac8f58c… (all of the seat's roots in one cut). By AI agents, Wed Nov 11 2026. No macro, syntax, notation, axiom, sorry.
-/
import Derived.Test.YtnopiidgklilnaaChecked
import GoSem.Claim
import GoSem.ClaimJoined
import GoSem.ClaimMapViews
import Derived.JoinedTies
import Derived.KernelRfl
namespace Go.Proofs.Ytnopiidgklilnaa
/- THE CELL 'sum', in the pinned program and in every row, IS THE sha256 OF THE DUMP (.gsa) THAT YtnopiidgklilnaaProg.lean LOADS. Nothing in Lean hashes anything: it is a label: what it is worth is what the hold of that sum in a sandbox is worth. -/
noncomputable def Try.pinned : Pinned := { name := "ytnopiidgklilnaa", sum := "85ac9656eac8f58c725ed6f817f964184d208d91cdbed39af9d98cf0395316f0", checked := Try.checked }
namespace Rows
def none {H : Type} : Left H := { results := [], args := [] }

/-- 'posthornlaw03.DigestSums': WHATEVER THE INPUT: true; the input reads as it did. -/
def digestSumsSpec : ChangeSpec := { name := "digestSums", fn := fun _ => fun
  | [d] => { results := [.lit (.bool true)], args := [d] }
  | _ => none }
def digestSumsRow : OpenClaim := { program := "ytnopiidgklilnaa", sum := "85ac9656eac8f58c725ed6f817f964184d208d91cdbed39af9d98cf0395316f0", func := "posthorn/posthornlaw03.DigestSums", spec := "digestSums", apart := false }
def DigestSumsSaid : Prop := digestSumsRow.holds Try.pinned (OpenSpec.ofChange digestSumsSpec)

/-- ITS FALSE NEIGHBOUR: 'it returns false'. Refute it at one input. -/
def digestSumsWrong : ChangeSpec := { name := "digestSums", fn := fun _ => fun
  | [d] => { results := [.lit (.bool false)], args := [d] }
  | _ => none }
def DigestSumsWrongFalsely : Prop := digestSumsRow.holds Try.pinned (OpenSpec.ofChange digestSumsWrong)

/-- 'posthornlaw03.DigestPieces': WHATEVER THE INPUT: true; the input reads as it did. -/
def digestPiecesSpec : ChangeSpec := { name := "digestPieces", fn := fun _ => fun
  | [d] => { results := [.lit (.bool true)], args := [d] }
  | _ => none }
def digestPiecesRow : OpenClaim := { program := "ytnopiidgklilnaa", sum := "85ac9656eac8f58c725ed6f817f964184d208d91cdbed39af9d98cf0395316f0", func := "posthorn/posthornlaw03.DigestPieces", spec := "digestPieces", apart := false }
def DigestPiecesSaid : Prop := digestPiecesRow.holds Try.pinned (OpenSpec.ofChange digestPiecesSpec)

/-- ITS FALSE NEIGHBOUR: 'it returns false'. Refute it at one input. -/
def digestPiecesWrong : ChangeSpec := { name := "digestPieces", fn := fun _ => fun
  | [d] => { results := [.lit (.bool false)], args := [d] }
  | _ => none }
def DigestPiecesWrongFalsely : Prop := digestPiecesRow.holds Try.pinned (OpenSpec.ofChange digestPiecesWrong)

/-- 'posthornlaw03.DigestTwins': WHATEVER THE INPUT: true; the input reads as it did. -/
def digestTwinsSpec : ChangeSpec := { name := "digestTwins", fn := fun _ => fun
  | [d1, d2, d3] => { results := [.lit (.bool true)], args := [d1, d2, d3] }
  | _ => none }
def digestTwinsRow : OpenClaim := { program := "ytnopiidgklilnaa", sum := "85ac9656eac8f58c725ed6f817f964184d208d91cdbed39af9d98cf0395316f0", func := "posthorn/posthornlaw03.DigestTwins", spec := "digestTwins", apart := false }
def DigestTwinsSaid : Prop := digestTwinsRow.holds Try.pinned (OpenSpec.ofChange digestTwinsSpec)

/-- ITS FALSE NEIGHBOUR: 'it returns false'. Refute it at one input. -/
def digestTwinsWrong : ChangeSpec := { name := "digestTwins", fn := fun _ => fun
  | [d1, d2, d3] => { results := [.lit (.bool false)], args := [d1, d2, d3] }
  | _ => none }
def DigestTwinsWrongFalsely : Prop := digestTwinsRow.holds Try.pinned (OpenSpec.ofChange digestTwinsWrong)

/-- 'posthornlaw03.DigestNil': WHATEVER THE INPUT: true; the input reads as it did. -/
def digestNilSpec : ChangeSpec := { name := "digestNil", fn := fun _ => fun
  | [d] => { results := [.lit (.bool true)], args := [d] }
  | _ => none }
def digestNilRow : OpenClaim := { program := "ytnopiidgklilnaa", sum := "85ac9656eac8f58c725ed6f817f964184d208d91cdbed39af9d98cf0395316f0", func := "posthorn/posthornlaw03.DigestNil", spec := "digestNil", apart := false }
def DigestNilSaid : Prop := digestNilRow.holds Try.pinned (OpenSpec.ofChange digestNilSpec)

/-- ITS FALSE NEIGHBOUR: 'it returns false'. Refute it at one input. -/
def digestNilWrong : ChangeSpec := { name := "digestNil", fn := fun _ => fun
  | [d] => { results := [.lit (.bool false)], args := [d] }
  | _ => none }
def DigestNilWrongFalsely : Prop := digestNilRow.holds Try.pinned (OpenSpec.ofChange digestNilWrong)

/-- 'posthornlaw03.DigestDigits': WHATEVER THE INPUT: true; the input reads as it did. -/
def digestDigitsSpec : ChangeSpec := { name := "digestDigits", fn := fun _ => fun
  | [d] => { results := [.lit (.bool true)], args := [d] }
  | _ => none }
def digestDigitsRow : OpenClaim := { program := "ytnopiidgklilnaa", sum := "85ac9656eac8f58c725ed6f817f964184d208d91cdbed39af9d98cf0395316f0", func := "posthorn/posthornlaw03.DigestDigits", spec := "digestDigits", apart := false }
def DigestDigitsSaid : Prop := digestDigitsRow.holds Try.pinned (OpenSpec.ofChange digestDigitsSpec)

/-- ITS FALSE NEIGHBOUR: 'it returns false'. Refute it at one input. -/
def digestDigitsWrong : ChangeSpec := { name := "digestDigits", fn := fun _ => fun
  | [d] => { results := [.lit (.bool false)], args := [d] }
  | _ => none }
def DigestDigitsWrongFalsely : Prop := digestDigitsRow.holds Try.pinned (OpenSpec.ofChange digestDigitsWrong)

/-- 'posthornlaw03.DigestBack': WHATEVER THE INPUT: true; the input reads as it did. -/
def digestBackSpec : ChangeSpec := { name := "digestBack", fn := fun _ => fun
  | [d] => { results := [.lit (.bool true)], args := [d] }
  | _ => none }
def digestBackRow : OpenClaim := { program := "ytnopiidgklilnaa", sum := "85ac9656eac8f58c725ed6f817f964184d208d91cdbed39af9d98cf0395316f0", func := "posthorn/posthornlaw03.DigestBack", spec := "digestBack", apart := false }
def DigestBackSaid : Prop := digestBackRow.holds Try.pinned (OpenSpec.ofChange digestBackSpec)

/-- ITS FALSE NEIGHBOUR: 'it returns false'. Refute it at one input. -/
def digestBackWrong : ChangeSpec := { name := "digestBack", fn := fun _ => fun
  | [d] => { results := [.lit (.bool false)], args := [d] }
  | _ => none }
def DigestBackWrongFalsely : Prop := digestBackRow.holds Try.pinned (OpenSpec.ofChange digestBackWrong)

/- THE SECOND FORM. 'bulk': how many values and letters a reading holds, each counted each time it is reached (what is shared counts as often as it is met; a slice's spare places count too). A statement '..UptoSaid' is the law's where the arguments, and the package variables that the reading takes, are together of bulk at most 1048576: NARROWER than '..Said'. Prove '..Said' where nothing that the law and all that it calls make is longer than what came in: it says more and counts as full. Else prove '..UptoSaid'. A law counts once. -/
mutual
def uptoBulk {H : Type} : DataW H → Nat
  | .lit (.string bytes) => bytes.length + 1
  | .lit _ => 1
  | .nil => 1
  | .ptr d => uptoBulk d + 1
  | .slice elems spare => uptoBulkAll elems + uptoBulkAll spare + 1
  | .agg parts => uptoBulkAll parts + 1
  | .iface _ d => uptoBulk d + 1
  | .map entries => uptoBulkEntries entries + 1
  | .held _ => 1
def uptoBulkAll {H : Type} : List (DataW H) → Nat
  | [] => 0
  | d :: r => uptoBulk d + uptoBulkAll r
def uptoBulkEntries {H : Type} : List (Lit × DataW H) → Nat
  | [] => 0
  | x :: r => uptoBulkEntry x + uptoBulkEntries r
def uptoBulkEntry {H : Type} : Lit × DataW H → Nat
  | (.string bytes, d) => bytes.length + uptoBulk d + 1
  | (_, d) => uptoBulk d + 1
 end
def uptoSmall : (H : Type) → List (DataW H) → Bool := fun _ ds => decide (uptoBulkAll ds ≤ 1048576)
def OpenSpec.upto (s : _root_.Go.ChangeSpec) : _root_.Go.OpenSpec := { _root_.Go.OpenSpec.ofChange s with cond := some uptoSmall }

/-- 'posthornlaw03.DigestSums', WHERE WHAT IT READS IS OF BULK AT MOST 1048576: true; the input reads as it did. -/
def digestSumsUptoRow : OpenClaim := { program := "ytnopiidgklilnaa", sum := "85ac9656eac8f58c725ed6f817f964184d208d91cdbed39af9d98cf0395316f0", func := "posthorn/posthornlaw03.DigestSums", spec := "digestSums", apart := false, narrowed := true }
def DigestSumsUptoSaid : Prop := digestSumsUptoRow.holds Try.pinned (OpenSpec.upto digestSumsSpec)

/-- 'posthornlaw03.DigestPieces', WHERE WHAT IT READS IS OF BULK AT MOST 1048576: true; the input reads as it did. -/
def digestPiecesUptoRow : OpenClaim := { program := "ytnopiidgklilnaa", sum := "85ac9656eac8f58c725ed6f817f964184d208d91cdbed39af9d98cf0395316f0", func := "posthorn/posthornlaw03.DigestPieces", spec := "digestPieces", apart := false, narrowed := true }
def DigestPiecesUptoSaid : Prop := digestPiecesUptoRow.holds Try.pinned (OpenSpec.upto digestPiecesSpec)

/-- 'posthornlaw03.DigestTwins', WHERE WHAT IT READS IS OF BULK AT MOST 1048576: true; the input reads as it did. -/
def digestTwinsUptoRow : OpenClaim := { program := "ytnopiidgklilnaa", sum := "85ac9656eac8f58c725ed6f817f964184d208d91cdbed39af9d98cf0395316f0", func := "posthorn/posthornlaw03.DigestTwins", spec := "digestTwins", apart := false, narrowed := true }
def DigestTwinsUptoSaid : Prop := digestTwinsUptoRow.holds Try.pinned (OpenSpec.upto digestTwinsSpec)

/-- 'posthornlaw03.DigestNil', WHERE WHAT IT READS IS OF BULK AT MOST 1048576: true; the input reads as it did. -/
def digestNilUptoRow : OpenClaim := { program := "ytnopiidgklilnaa", sum := "85ac9656eac8f58c725ed6f817f964184d208d91cdbed39af9d98cf0395316f0", func := "posthorn/posthornlaw03.DigestNil", spec := "digestNil", apart := false, narrowed := true }
def DigestNilUptoSaid : Prop := digestNilUptoRow.holds Try.pinned (OpenSpec.upto digestNilSpec)

/-- 'posthornlaw03.DigestDigits', WHERE WHAT IT READS IS OF BULK AT MOST 1048576: true; the input reads as it did. -/
def digestDigitsUptoRow : OpenClaim := { program := "ytnopiidgklilnaa", sum := "85ac9656eac8f58c725ed6f817f964184d208d91cdbed39af9d98cf0395316f0", func := "posthorn/posthornlaw03.DigestDigits", spec := "digestDigits", apart := false, narrowed := true }
def DigestDigitsUptoSaid : Prop := digestDigitsUptoRow.holds Try.pinned (OpenSpec.upto digestDigitsSpec)

/-- 'posthornlaw03.DigestBack', WHERE WHAT IT READS IS OF BULK AT MOST 1048576: true; the input reads as it did. -/
def digestBackUptoRow : OpenClaim := { program := "ytnopiidgklilnaa", sum := "85ac9656eac8f58c725ed6f817f964184d208d91cdbed39af9d98cf0395316f0", func := "posthorn/posthornlaw03.DigestBack", spec := "digestBack", apart := false, narrowed := true }
def DigestBackUptoSaid : Prop := digestBackUptoRow.holds Try.pinned (OpenSpec.upto digestBackSpec)

end Rows
end Go.Proofs.Ytnopiidgklilnaa
