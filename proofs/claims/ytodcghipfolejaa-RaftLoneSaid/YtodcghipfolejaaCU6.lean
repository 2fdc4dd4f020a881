/- The walks of Merge: the reference's and the program's. -/
import Derived.Test.YtodcghipfolejaaCU5
namespace Go.Proofs.Ytodcghipfolejaa
open Go Go.Sl
set_option linter.unusedVariables false
set_option linter.unusedSimpArgs false

end Go.Proofs.Ytodcghipfolejaa
