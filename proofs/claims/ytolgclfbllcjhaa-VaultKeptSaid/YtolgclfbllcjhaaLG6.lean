/- The walk of the reference's Sum. -/
import Derived.Test.YtolgclfbllcjhaaLG5
namespace Go.Proofs.Ytolgclfbllcjhaa.Dg
open Go Go.Sl
set_option linter.unusedVariables false
set_option linter.unusedSimpArgs false

theorem bytesV_append (a b : List UInt8) : bytesV (a ++ b) = bytesV a ++ bytesV b := by simp [bytesV]
theorem bytesV_one (l : List UInt8) : ∀ q ∈ bytesV l, q.oneCell' = true := fun q hq => by
  simp only [bytesV, List.mem_map] at hq; obtain ⟨p, _, rfl⟩ := hq; rfl
end Go.Proofs.Ytolgclfbllcjhaa.Dg
