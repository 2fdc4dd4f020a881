/- RaftBegins. -/
import Derived.Test.YtodcghipfolejaaCL2
namespace Go.Proofs.Ytodcghipfolejaa.Rf
open Go Go.Sl
set_option linter.unusedVariables false
set_option linter.unusedSimpArgs false
-- ARR

end Go.Proofs.Ytodcghipfolejaa.Rf
