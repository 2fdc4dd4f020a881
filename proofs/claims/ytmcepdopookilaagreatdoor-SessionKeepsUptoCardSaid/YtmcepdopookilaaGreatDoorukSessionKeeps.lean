import Derived.Test.YtmcepdopookilaaGreatDoorukx1
import Derived.Test.YtmcepdopookilaaGreatDoorukx2
import Derived.Test.YtmcepdopookilaaGreatDoorukx3
import Derived.Test.YtmcepdopookilaaGreatDoorukx4
import Derived.Test.YtmcepdopookilaaGreatDoorukx24
import Derived.Test.YtmcepdopookilaaGreatDoorukx25
/- SessionKeeps, of bulk at most 1048576: the law answers true for all arguments, and they read as they did; the variables that it lists are tied to the text of the program. -/
set_option linter.unusedVariables false
set_option linter.unusedSimpArgs false
set_option linter.defProp false
namespace Go.Proofs.YtmcepdopookilaaGreatDoor.sessionKeeps
open Go
theorem rec:Tryz.pinned.checked.prog.recurses 8=true:=by
  unfold Program.recurses;rw[unf];rfl
theorem closed:joinedFacts Tryz.pinned.checked.prog 8 Tryz.f8 (Rows.OpenSpec.upto Rows.sessionKeepsSpec).bare Rows.sessionKeepsUptoRow=true:=by
  unfold joinedFacts;rw[inPlace,named,unf,rec,clo.k1,clo.k2,clo.k3,clo.k4,clo.k5,clo.k6,clo.k7]
  kernel_rfl
theorem wf:Rows.sessionKeepsUptoRow.wfByText (Rows.OpenSpec.upto Rows.sessionKeepsSpec)=true:=by kernel_rfl
theorem over:Rows.sessionKeepsUptoRow.holds Tryz.pinned (Rows.OpenSpec.upto Rows.sessionKeepsSpec):=
 OpenClaim.holds_of_cond 8 Tryz.f8 rfl rfl rfl rfl rfl rfl rfl ⟨rfl,rfl,rfl,rfl,rfl⟩ rfl rfl rfl rfl rfl (by kernel_rfl) Tryz.func8 closed
  (of_decide_eq_true (by kernel_rfl)) (by unfold Func.isWrapper;first|(rw[if_pos (by decide+kernel)];kernel_rfl)|(rw[if_neg (by decide+kernel)];exact⟨rfl,rfl⟩))
  (fun os started H enc _ F=>by rw[OpenClaim.pre_eq_preRow];exact lifted os started H enc F)
theorem card:Rows.SessionKeepsUptoCardSaid:=
 Claim7.holds_tied_plain_at .later [] _ _ _ _ over (fun _ h=>by cases h) wf (fun _ h=>by cases h) sessionKeepsUpto_row_tie rfl ⟨rfl,rfl⟩ (by kernel_rfl) rfl
  (fun f fn hf hfn=>by
   obtain rfl:f=8:=Option.some.inj ((show Tryz.prog.funcNamed Rows.sessionKeepsUptoRow.func=some 8 by kernel_rfl).symm.trans hf)|>.symm;obtain rfl:fn=Tryz.f8:=(Option.some.inj (Tryz.func8.symm.trans hfn)).symm;refine⟨by kernel_rfl,fun j t ht=>?_⟩;rw[Tryz.params8] at ht;have hm:=Array.mem_of_getElem? ht;simp only[List.mem_toArray,List.mem_cons,List.not_mem_nil,or_false] at hm;subst hm;exact(show Tryz.prog.wantsStandIn 22=false by kernel_rfl))
  hg
end Go.Proofs.YtmcepdopookilaaGreatDoor.sessionKeeps
namespace Go.Proofs.YtmcepdopookilaaGreatDoor
theorem sessionKeeps_proved:Rows.SessionKeepsUptoCardSaid:=sessionKeeps.card
end Go.Proofs.YtmcepdopookilaaGreatDoor
#print axioms Go.Proofs.YtmcepdopookilaaGreatDoor.sessionKeeps_proved
