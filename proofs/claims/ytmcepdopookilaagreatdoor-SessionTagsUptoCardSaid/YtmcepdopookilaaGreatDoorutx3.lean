import Derived.Test.YtmcepdopookilaaGreatDoorutx0
import Derived.Test.YtmcepdopookilaaGreatDoorCards
import Derived.Test.YtmcepdopookilaaGreatDoorTie
import Derived.SevenTiedAt
import Derived.JoinedCond
import Derived.KernelRfl
set_option linter.unusedVariables false
set_option linter.unusedSimpArgs false
set_option linter.defProp false
namespace Go.Proofs.YtmcepdopookilaaGreatDoor.sessionTags
open Go
theorem named:Tryz.pinned.checked.prog.varsNamed 3=Rows.sessionTagsUptoRow.named:=by kernel_rfl
