import Derived.Test.YtmcepdopookilaaGreatDoorutx0
import Derived.Test.YtmcepdopookilaaGreatDoorCards
import Derived.Test.YtmcepdopookilaaGreatDoorTie
import Derived.SevenTiedAt
import Derived.JoinedCond
import Derived.KernelRfl
set_option linter.unusedVariables false
set_option linter.unusedSimpArgs false
set_option linter.defProp false
namespace Go.Proofs.YtmcepdopookilaaGreatDoor.clo
open Go
theorem k1:laidOutB Tryz.pinned.checked.prog=true:=by kernel_rfl
theorem k2:mapsRowed Tryz.pinned.checked.prog=true:=by kernel_rfl
theorem k3:Tryz.pinned.checked.prog.plainKeys=Rows.sessionNumbersUptoRow.plainKeys:=by kernel_rfl
theorem k4:Tryz.pinned.checked.prog.stopsHeard=true:=by kernel_rfl
theorem k5:Tryz.pinned.checked.prog.mayEnter=true:=by kernel_rfl
theorem k6:Tryz.pinned.checked.prog.liftsFinal=Rows.sessionNumbersUptoRow.lifted:=by kernel_rfl
theorem k7:Tryz.pinned.checked.prog.make=some Rows.sessionNumbersUptoRow.make:=by kernel_rfl
