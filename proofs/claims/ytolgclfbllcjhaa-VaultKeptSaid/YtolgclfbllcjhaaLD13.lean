/- The law DiskPlays. -/
import Derived.Test.YtolgclfbllcjhaaLD12
namespace Go.Proofs.Ytolgclfbllcjhaa
open Go Go.Sl
set_option linter.unusedVariables false
set_option linter.unusedSimpArgs false

end Go.Proofs.Ytolgclfbllcjhaa
