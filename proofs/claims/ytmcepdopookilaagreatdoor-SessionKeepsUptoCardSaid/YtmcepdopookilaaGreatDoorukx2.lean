import Derived.Test.YtmcepdopookilaaGreatDoorukx0
import Derived.Test.YtmcepdopookilaaGreatDoorCards
import Derived.Test.YtmcepdopookilaaGreatDoorTie
import Derived.JoinedCond
set_option linter.unusedVariables false
set_option linter.unusedSimpArgs false
set_option linter.defProp false
namespace Go.Proofs.YtmcepdopookilaaGreatDoor.sessionKeeps
open Go
theorem inPlace:Tryz.pinned.checked.prog.inPlace 8=Rows.sessionKeepsUptoRow.inPlace:=by kernel_rfl
