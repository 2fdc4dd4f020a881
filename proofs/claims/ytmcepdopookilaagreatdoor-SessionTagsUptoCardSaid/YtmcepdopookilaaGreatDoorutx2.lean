import Derived.Test.YtmcepdopookilaaGreatDoorutx0
import Derived.Test.YtmcepdopookilaaGreatDoorCards
import Derived.Test.YtmcepdopookilaaGreatDoorTie
import Derived.SevenTiedAt
import Derived.JoinedCond
import Derived.KernelRfl
set_option linter.unusedVariables false
set_option linter.unusedSimpArgs false
set_option linter.defProp false
namespace Go.Proofs.YtmcepdopookilaaGreatDoor.sessionTags
open Go
theorem inPlace:Tryz.pinned.checked.prog.inPlace 3=Rows.sessionTagsUptoRow.inPlace:=by kernel_rfl
