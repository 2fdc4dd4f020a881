/- The walks over logs: the reference's Conf and Compact; sorted. -/
import Derived.Test.YtodcghipfolejaaCU6
namespace Go.Proofs.Ytodcghipfolejaa
open Go Go.Sl
set_option linter.unusedVariables false
set_option linter.unusedSimpArgs false

theorem readE_ok (s : List UInt8) : decide (readE s = 0) = okR s := by
  unfold readE; cases okR s <;> rfl
end Go.Proofs.Ytodcghipfolejaa
