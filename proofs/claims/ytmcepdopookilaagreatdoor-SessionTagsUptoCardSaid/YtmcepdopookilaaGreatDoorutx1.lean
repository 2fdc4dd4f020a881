import Derived.Test.YtmcepdopookilaaGreatDoorutx0
import Derived.Test.YtmcepdopookilaaGreatDoorCards
import Derived.Test.YtmcepdopookilaaGreatDoorTie
import Derived.SevenTiedAt
import Derived.JoinedCond
import Derived.KernelRfl
set_option linter.unusedVariables false
set_option linter.unusedSimpArgs false
set_option linter.defProp false
namespace Go.Proofs.YtmcepdopookilaaGreatDoor.sessionTags
open Go Go.Proofs.Tryz
theorem Rk(P:Program)(f:FuncId)(h:(P.funcs.any Func.goes)=false):P.goes f=false:=by
 unfold Program.goes;have b:((P.closure f).any fun g=>(P.funcs[g]?).any Func.goes)=false:=by
  rw[Wr];intro g _
  cases hg:P.funcs[g]? with
  |none=>simp
  |some fn=>
   simp only[Option.any_some];have:=Array.any_eq_false.1 h;obtain⟨a,c⟩:=kp.1 hg;have:=this g a;rw[c] at this;exact this
 rw[b,h];simp
theorem Uh:(prog.funcs.any Func.goes)=false:=by kernel_rfl
theorem JZ(c:OpenClaim)(P:Program)(hs:c.start=.entering)(h:(P.funcs.any Func.goes)=false):false=c.goesBy P:=by
 unfold OpenClaim.goesBy Program.goesAt Program.goesFrom;rw[hs]
 cases P.funcNamed c.func with
 |none=>rfl
 |some f=>simp[Rk P f h]
theorem hg:false=Rows.sessionTagsUptoRow.goesBy Tryz.pinned.checked.prog:=JZ _ _ rfl Uh
