import Derived.Test.YtmcepdopookilaaGreatDoorucx0
import Derived.Test.YtmcepdopookilaaGreatDoorCards
import Derived.Test.YtmcepdopookilaaGreatDoorTie
import Derived.SevenTiedAt
import Derived.JoinedCond
import Derived.KernelRfl
set_option linter.unusedVariables false
set_option linter.unusedSimpArgs false
set_option linter.defProp false
namespace Go.Proofs.YtmcepdopookilaaGreatDoor.sessionCounts
open Go
theorem inPlace:Tryz.pinned.checked.prog.inPlace 5=Rows.sessionCountsUptoRow.inPlace:=by kernel_rfl
