/- The walks over logs: Install, the reference's Install, behind and Merge. -/
import Derived.Test.YtodcghipfolejaaCU3
namespace Go.Proofs.Ytodcghipfolejaa
open Go Go.Sl
set_option linter.unusedVariables false
set_option linter.unusedSimpArgs false

end Go.Proofs.Ytodcghipfolejaa
