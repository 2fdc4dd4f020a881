import Derived.Test.YtmcepdopookilaaGreatDoorutx1
import Derived.Test.YtmcepdopookilaaGreatDoorutx2
import Derived.Test.YtmcepdopookilaaGreatDoorutx3
import Derived.Test.YtmcepdopookilaaGreatDoorutx4
import Derived.Test.YtmcepdopookilaaGreatDoorutx23
import Derived.Test.YtmcepdopookilaaGreatDoorutx24
/- SessionTags, of bulk at most 1048576: the law answers true for all arguments, and they read as they did; the variables that it lists are tied to the text of the program. -/
set_option linter.unusedVariables false
set_option linter.unusedSimpArgs false
set_option linter.defProp false
namespace Go.Proofs.YtmcepdopookilaaGreatDoor.sessionTags
open Go
theorem rec:Tryz.pinned.checked.prog.recurses 3=true:=by
  unfold Program.recurses;rw[unf];rfl
theorem closed:joinedFacts Tryz.pinned.checked.prog 3 Tryz.f3 (Rows.OpenSpec.upto Rows.sessionTagsSpec).bare Rows.sessionTagsUptoRow=true:=by
  unfold joinedFacts;rw[inPlace,named,unf,rec,clo.k1,clo.k2,clo.k3,clo.k4,clo.k5,clo.k6,clo.k7]
  kernel_rfl
theorem wf:Rows.sessionTagsUptoRow.wfByText (Rows.OpenSpec.upto Rows.sessionTagsSpec)=true:=by kernel_rfl
theorem over:Rows.sessionTagsUptoRow.holds Tryz.pinned (Rows.OpenSpec.upto Rows.sessionTagsSpec):=
 OpenClaim.holds_of_cond 3 Tryz.f3 rfl rfl rfl rfl rfl rfl rfl ⟨rfl,rfl,rfl,rfl,rfl⟩ rfl rfl rfl rfl rfl (by kernel_rfl) Tryz.func3 closed
  (of_decide_eq_true (by kernel_rfl)) (by unfold Func.isWrapper;first|(rw[if_pos (by decide+kernel)];kernel_rfl)|(rw[if_neg (by decide+kernel)];exact⟨rfl,rfl⟩))
  (fun os started H enc _ F=>by rw[OpenClaim.pre_eq_preRow];exact lifted os started H enc F)
theorem card:Rows.SessionTagsUptoCardSaid:=
 Claim7.holds_tied_plain_at .later [] _ _ _ _ over (fun _ h=>by cases h) wf (fun _ h=>by cases h) sessionTagsUpto_row_tie rfl ⟨rfl,rfl⟩ (by kernel_rfl) rfl
  (fun f fn hf hfn=>by
   obtain rfl:f=3:=Option.some.inj ((show Tryz.prog.funcNamed Rows.sessionTagsUptoRow.func=some 3 by kernel_rfl).symm.trans hf)|>.symm;obtain rfl:fn=Tryz.f3:=(Option.some.inj (Tryz.func3.symm.trans hfn)).symm;refine⟨by kernel_rfl,fun j t ht=>?_⟩;rw[Tryz.params3] at ht;have hm:=Array.mem_of_getElem? ht;simp only[List.mem_toArray,List.mem_cons,List.not_mem_nil,or_false] at hm;subst hm;exact(show Tryz.prog.wantsStandIn 22=false by kernel_rfl))
  hg
end Go.Proofs.YtmcepdopookilaaGreatDoor.sessionTags
namespace Go.Proofs.YtmcepdopookilaaGreatDoor
theorem sessionTags_proved:Rows.SessionTagsUptoCardSaid:=sessionTags.card
end Go.Proofs.YtmcepdopookilaaGreatDoor
#print axioms Go.Proofs.YtmcepdopookilaaGreatDoor.sessionTags_proved
