import Derived.Test.YtmcepdopookilaaGreatDoorukx0
import Derived.Test.YtmcepdopookilaaGreatDoorCards
import Derived.Test.YtmcepdopookilaaGreatDoorTie
import Derived.JoinedCond
set_option linter.unusedVariables false
set_option linter.unusedSimpArgs false
set_option linter.defProp false
namespace Go.Proofs.YtmcepdopookilaaGreatDoor.clo
open Go
def k1:laidOutB Tryz.pinned.checked.prog=true:=by kernel_rfl
def k2:mapsRowed Tryz.pinned.checked.prog=true:=by kernel_rfl
def k3:Tryz.pinned.checked.prog.plainKeys=Rows.sessionNumbersUptoRow.plainKeys:=by kernel_rfl
def k4:Tryz.pinned.checked.prog.stopsHeard=true:=by kernel_rfl
def k5:Tryz.pinned.checked.prog.mayEnter=true:=by kernel_rfl
def k6:Tryz.pinned.checked.prog.liftsFinal=Rows.sessionNumbersUptoRow.lifted:=by kernel_rfl
def k7:Tryz.pinned.checked.prog.make=some Rows.sessionNumbersUptoRow.make:=by kernel_rfl
