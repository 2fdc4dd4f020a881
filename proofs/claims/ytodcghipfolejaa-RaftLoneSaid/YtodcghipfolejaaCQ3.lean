/- The walks of Apply and Step. -/
import Derived.Test.YtodcghipfolejaaCQ2
import Derived.Test.YtodcghipfolejaaCQMathB
namespace Go.Proofs.Ytodcghipfolejaa
open Go Go.Sl
set_option linter.unusedVariables false
set_option linter.unusedSimpArgs false

end Go.Proofs.Ytodcghipfolejaa
