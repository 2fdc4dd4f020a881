import Derived.Test.YtmcepdopookilaaGreatDoorukx0
import Derived.Test.YtmcepdopookilaaGreatDoorCards
import Derived.Test.YtmcepdopookilaaGreatDoorTie
import Derived.JoinedCond
set_option linter.unusedVariables false
set_option linter.unusedSimpArgs false
set_option linter.defProp false
namespace Go.Proofs.YtmcepdopookilaaGreatDoor.sessionKeeps
open Go
theorem unf:Tryz.pinned.checked.prog.unfollowed 8=true:=by kernel_rfl
