import Derived.Test.YtmcepdopookilaaGreatDoorubx0
import Derived.Test.YtmcepdopookilaaGreatDoorCards
import Derived.Test.YtmcepdopookilaaGreatDoorTie
import Derived.SevenTiedAt
import Derived.JoinedCond
import Derived.KernelRfl
set_option linter.unusedVariables false
set_option linter.unusedSimpArgs false
set_option linter.defProp false
namespace Go.Proofs.YtmcepdopookilaaGreatDoor.sessionBad
open Go Go.Proofs.Tryz
theorem Ru(P:Program)(f:FuncId)(h:(P.funcs.any Func.goes)=false):P.goes f=false:=by
 unfold Program.goes;have b:((P.closure f).any fun g=>(P.funcs[g]?).any Func.goes)=false:=by
  rw[Jh];intro g _
  cases hg:P.funcs[g]? with
  |none=>simp
  |some fn=>
   simp only[Option.any_some];have:=Array.any_eq_false.1 h;obtain⟨a,c⟩:=kr.1 hg;have:=this g a;rw[c] at this;exact this
 rw[b,h];simp
theorem Uk:(prog.funcs.any Func.goes)=false:=by kernel_rfl
theorem Ki(c:OpenClaim)(P:Program)(hs:c.start=.entering)(h:(P.funcs.any Func.goes)=false):false=c.goesBy P:=by
 unfold OpenClaim.goesBy Program.goesAt Program.goesFrom;rw[hs]
 cases P.funcNamed c.func with
 |none=>rfl
 |some f=>simp[Ru P f h]
theorem hg:false=Rows.sessionBadUptoRow.goesBy Tryz.pinned.checked.prog:=Ki _ _ rfl Uk
