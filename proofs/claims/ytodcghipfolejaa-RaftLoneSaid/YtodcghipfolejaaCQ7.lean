/- The walks of Text: the program's and the reference's; numbers of one byte. -/
import Derived.Test.YtodcghipfolejaaCQ6
namespace Go.Proofs.Ytodcghipfolejaa
open Go Go.Sl
set_option linter.unusedVariables false
set_option linter.unusedSimpArgs false

def byte (n : Int) : UInt8 := UInt8.ofNat n.toNat
theorem byte_int {n : Int} (h0 : 0 ≤ n) (h1 : n ≤ 255) : ((byte n).toNat : Int) = n := by
  simp only [byte, UInt8.toNat_ofNat']
  omega
def textL (l : List Int) : List UInt8 := if rightB l = true then byte l.length :: l.map byte else []
theorem right_small {l : List Int} (h : rightB l = true) : ∀ n ∈ l, 1 ≤ n ∧ n ≤ 5 := by
  have h2 : ∀ l ∈ allF 5, ∀ n ∈ l, 1 ≤ n ∧ n ≤ 5 := by decide +kernel
  exact h2 l (right_mem h)
end Go.Proofs.Ytodcghipfolejaa
