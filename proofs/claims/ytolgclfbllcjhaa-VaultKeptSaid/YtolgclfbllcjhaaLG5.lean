/- The walk of the reference's block. -/
import Derived.Test.YtolgclfbllcjhaaLG4
namespace Go.Proofs.Ytolgclfbllcjhaa.Dg
open Go Go.Sl
set_option linter.unusedVariables false
set_option linter.unusedSimpArgs false

end Go.Proofs.Ytolgclfbllcjhaa.Dg
