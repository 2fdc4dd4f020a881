import Derived.Test.YtmcepdopookilaaGreatDoorFx0
import Derived.Test.YtmcepdopookilaaGreatDoorCards
import Derived.Test.YtmcepdopookilaaGreatDoorTie
import Derived.SevenTiedAt
import Derived.JoinedCond
import Derived.KernelRfl
set_option linter.unusedVariables false
set_option linter.unusedSimpArgs false
set_option linter.defProp false
namespace Go.Proofs.YtmcepdopookilaaGreatDoor.sessionNumbers
open Go
theorem named:Tryz.pinned.checked.prog.varsNamed 7=Rows.sessionNumbersUptoRow.named:=by kernel_rfl
