/- RaftBegins: its arguments read. -/
import Derived.Test.YtodcghipfolejaaCL3
import Derived.Test.YtodcghipfolejaaCU13
namespace Go.Proofs.Ytodcghipfolejaa.Rf
open Go Go.Sl Go.RowKit Go.WideShapes
set_option linter.unusedVariables false
set_option linter.unusedSimpArgs false

end Go.Proofs.Ytodcghipfolejaa.Rf
