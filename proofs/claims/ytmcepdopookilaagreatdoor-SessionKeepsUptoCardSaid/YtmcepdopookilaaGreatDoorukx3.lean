import Derived.Test.YtmcepdopookilaaGreatDoorukx0
import Derived.Test.YtmcepdopookilaaGreatDoorCards
import Derived.Test.YtmcepdopookilaaGreatDoorTie
import Derived.JoinedCond
set_option linter.unusedVariables false
set_option linter.unusedSimpArgs false
set_option linter.defProp false
namespace Go.Proofs.YtmcepdopookilaaGreatDoor.sessionKeeps
open Go
theorem named:Tryz.pinned.checked.prog.varsNamed 8=Rows.sessionKeepsUptoRow.named:=by kernel_rfl
