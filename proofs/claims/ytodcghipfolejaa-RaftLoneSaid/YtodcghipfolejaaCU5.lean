/- The walk of the reference's merging. -/
import Derived.Test.YtodcghipfolejaaCU4
namespace Go.Proofs.Ytodcghipfolejaa
open Go Go.Sl
set_option linter.unusedVariables false
set_option linter.unusedSimpArgs false

end Go.Proofs.Ytodcghipfolejaa
