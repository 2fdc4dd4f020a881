/- The walks of QuorumMost, QuorumCommits, QuorumSteps, QuorumBack. -/
import Derived.Test.YtodcghipfolejaaCQ8
namespace Go.Proofs.Ytodcghipfolejaa
open Go Go.Sl
set_option linter.unusedVariables false
set_option linter.unusedSimpArgs false

end Go.Proofs.Ytodcghipfolejaa
