/- The law VaultKeeps. -/
import Derived.Test.YtolgclfbllcjhaaMV10
namespace Go.Proofs.Ytolgclfbllcjhaa.Vt
open Go Go.Sl
set_option linter.unusedVariables false
set_option linter.unusedSimpArgs false

end Go.Proofs.Ytolgclfbllcjhaa.Vt
