import Derived.Test.YtmcepdopookilaaGreatDoorFx1
import Derived.Test.YtmcepdopookilaaGreatDoorFx2
import Derived.Test.YtmcepdopookilaaGreatDoorFx3
import Derived.Test.YtmcepdopookilaaGreatDoorFx4
import Derived.Test.YtmcepdopookilaaGreatDoorFx23
import Derived.Test.YtmcepdopookilaaGreatDoorFx24
/- SessionNumbers, of bulk at most 1048576: the law answers true for all arguments, and they read as they did; the variables that it lists are tied to the text of the program. -/
set_option linter.unusedVariables false
set_option linter.unusedSimpArgs false
set_option linter.defProp false
namespace Go.Proofs.YtmcepdopookilaaGreatDoor.sessionNumbers
open Go
theorem rec:Tryz.pinned.checked.prog.recurses 7=true:=by
  unfold Program.recurses;rw[unf];rfl
theorem closed:joinedFacts Tryz.pinned.checked.prog 7 Tryz.f7 (Rows.OpenSpec.upto Rows.sessionNumbersSpec).bare Rows.sessionNumbersUptoRow=true:=by
  unfold joinedFacts;rw[inPlace,named,unf,rec,clo.k1,clo.k2,clo.k3,clo.k4,clo.k5,clo.k6,clo.k7]
  kernel_rfl
theorem wf:Rows.sessionNumbersUptoRow.wfByText (Rows.OpenSpec.upto Rows.sessionNumbersSpec)=true:=by kernel_rfl
theorem over:Rows.sessionNumbersUptoRow.holds Tryz.pinned (Rows.OpenSpec.upto Rows.sessionNumbersSpec):=
 OpenClaim.holds_of_cond 7 Tryz.f7 rfl rfl rfl rfl rfl rfl rfl ⟨rfl,rfl,rfl,rfl,rfl⟩ rfl rfl rfl rfl rfl (by kernel_rfl) Tryz.func7 closed
  (of_decide_eq_true (by kernel_rfl)) (by unfold Func.isWrapper;first|(rw[if_pos (by decide+kernel)];kernel_rfl)|(rw[if_neg (by decide+kernel)];exact⟨rfl,rfl⟩))
  (fun os started H enc _ F=>by rw[OpenClaim.pre_eq_preRow];exact lifted os started H enc F)
theorem card:Rows.SessionNumbersUptoCardSaid:=
 Claim7.holds_tied_plain_at .later [] _ _ _ _ over (fun _ h=>by cases h) wf (fun _ h=>by cases h) sessionNumbersUpto_row_tie rfl ⟨rfl,rfl⟩ (by kernel_rfl) rfl
  (fun f fn hf hfn=>by
   obtain rfl:f=7:=Option.some.inj ((show Tryz.prog.funcNamed Rows.sessionNumbersUptoRow.func=some 7 by kernel_rfl).symm.trans hf)|>.symm;obtain rfl:fn=Tryz.f7:=(Option.some.inj (Tryz.func7.symm.trans hfn)).symm;refine⟨by kernel_rfl,fun j t ht=>?_⟩;rw[Tryz.params7] at ht;have hm:=Array.mem_of_getElem? ht;simp only[List.mem_toArray,List.mem_cons,List.not_mem_nil,or_false] at hm;subst hm;exact(show Tryz.prog.wantsStandIn 22=false by kernel_rfl))
  hg
end Go.Proofs.YtmcepdopookilaaGreatDoor.sessionNumbers
namespace Go.Proofs.YtmcepdopookilaaGreatDoor
theorem sessionNumbers_proved:Rows.SessionNumbersUptoCardSaid:=sessionNumbers.card
end Go.Proofs.YtmcepdopookilaaGreatDoor
#print axioms Go.Proofs.YtmcepdopookilaaGreatDoor.sessionNumbers_proved
