import Derived.Test.YtmcepdopookilaaGreatDoorukx0
import Derived.Test.YtmcepdopookilaaGreatDoorCards
import Derived.Test.YtmcepdopookilaaGreatDoorTie
import Derived.JoinedCond
set_option linter.unusedVariables false
set_option linter.unusedSimpArgs false
set_option linter.defProp false
namespace Go.Proofs.YtmcepdopookilaaGreatDoor.sessionKeeps
open Go Go.Proofs.Tryz
theorem Sc(P:zj)(f:FuncId)(h:(P.funcs.any Func.goes)=false):P.goes f=false:=by
 unfold Program.goes;have b:((P.closure f).any fun g=>(P.funcs[g]?).any Func.goes)=false:=by
  rw[W6];intro g _
  cases hg:P.funcs[g]? with
  |none=>simp
  |some fn=>
   simp only[Option.any_some];have:=Array.any_eq_false.1 h;obtain⟨a,c⟩:=jp.1 hg;have:=this g a;rw[c] at this;exact this
 rw[b,h];simp
theorem UQ:(prog.funcs.any Func.goes)=false:=by kernel_rfl
theorem KW(c:OpenClaim)(P:zj)(hs:c.start=.entering)(h:(P.funcs.any Func.goes)=false):false=c.goesBy P:=by
 unfold OpenClaim.goesBy Program.goesAt Program.goesFrom;rw[hs]
 cases P.funcNamed c.func with
 |none=>rfl
 |some f=>simp[Sc P f h]
theorem hg:false=Rows.sessionKeepsUptoRow.goesBy Tryz.pinned.checked.prog:=KW _ _ rfl UQ
