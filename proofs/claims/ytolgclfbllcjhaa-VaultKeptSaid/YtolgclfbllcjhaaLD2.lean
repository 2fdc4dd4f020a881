/- The reference's disk: calls. -/
import Derived.Test.YtolgclfbllcjhaaLD1
namespace Go.Proofs.Ytolgclfbllcjhaa
open Go Go.Sl
set_option linter.unusedVariables false
set_option linter.unusedSimpArgs false

end Go.Proofs.Ytolgclfbllcjhaa
