/- What a log is, as an argument. -/
import Derived.Test.YtodcghipfolejaaCU10
import Derived.Test.YtodcghipfolejaaCSlRow
namespace Go.Proofs.Ytodcghipfolejaa
open Go Go.Sl Go.RowKit Go.WideShapes Go.ChangeShapes
set_option linter.unusedVariables false
set_option linter.unusedSimpArgs false

end Go.Proofs.Ytodcghipfolejaa
