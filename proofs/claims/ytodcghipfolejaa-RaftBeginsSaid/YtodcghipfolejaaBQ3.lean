/- The walks of Apply and Step. -/
import Derived.Test.YtodcghipfolejaaBQ2
import Derived.Test.YtodcghipfolejaaBQMathB
namespace Go.Proofs.Ytodcghipfolejaa
open Go Go.Sl
set_option linter.unusedVariables false
set_option linter.unusedSimpArgs false

end Go.Proofs.Ytodcghipfolejaa
