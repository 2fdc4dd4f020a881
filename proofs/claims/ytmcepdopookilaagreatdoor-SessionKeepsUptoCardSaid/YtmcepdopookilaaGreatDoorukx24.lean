import Derived.Test.YtmcepdopookilaaGreatDoorukx23
set_option linter.unusedVariables false
set_option linter.unusedSimpArgs false
set_option linter.defProp false
namespace Go.Proofs.YtmcepdopookilaaGreatDoor.sessionKeeps
open Go Go.Sl Go.RowKit Go.WideShapes Go.ChangeShapes Go.ChangeMaps Go.Proofs.Tryz
theorem own:ownKnob prog.godebug=none:=by kernel_rfl
theorem UE(b:Os){H:Type}(enc:zk×Value->H):∃a,DataW.whole enc prog ((Rp.laidWorld b).forCall (fun _ _=>0) ⟨#[],#[.slice none 0 0],[]⟩).memory Tryz.f8.params.toList Rows.sessionKeepsSpec.vars false #[.slice none 0 0].toList 8=some ([.nil],[],a):=
 ⟨[],by kernel_rfl⟩
set_option maxRecDepth 100000 in
theorem lifted(c:Os)(a:c.Started)(H:Type)(enc:zk×Value->H)(F:Stop.Interp):
  ReturnsInHanded {} Tryz.checked c 8 .any ((Rows.OpenSpec.upto Rows.sessionKeepsSpec).preRow enc prog Tryz.f8 Rows.sessionKeepsUptoRow.domain false Rows.sessionKeepsUptoRow.laid) (((Rows.OpenSpec.upto Rows.sessionKeepsSpec).at F).post enc prog Tryz.f8 false true false false):=by
 obtain⟨g,v⟩:=UE c enc;refine returnsInHanded_of_row (C:=Tryz.checked) (s:=Rows.OpenSpec.upto Rows.sessionKeepsSpec) own a i6 func8
  (Rp.witness_gen (enc:=enc) (C:=Tryz.checked) false (Rp.laidWorld c) #[.slice none 0 0] (Rp.laid_os c) (Rp.laid_shaped c _) i6
   (OpenSpec.preRow_of_cond 8 v i6 (fun k o=>by cases o;kernel_rfl) i6 (Rp.laid_met c _))) ?_
 intro W r b w S h f i _ d _ x y _;have o:=d _ rfl;have z:Rp.Gl (hp W):=Rp.gl_of_laid x y;have j:=i;obtain⟨p,q,A,D,_,_,_⟩:=j;obtain⟨rfl,rfl⟩:=trodVars_none D;have l:DataW.TrodAll enc prog W 0 (fun _=>true) true [22] b.toList w p:=A;obtain⟨u,J,T,M,U,V,O,rfl,_,Q,m⟩:=trodAll_cons l;obtain⟨rfl,rfl,_⟩:=trodAll_nil m;obtain rfl:b=[u].toArray:=by apply Zv.1;rw[O]
 obtain⟨X,Y,Z,rfl,s0,z0,b0⟩:=Fk (t:=22) (e:=70) i6 Rp.shpAct (n:=21) i6 (fun _=>rfl) qp (f 0 22 u rfl rfl) Q;simp only[jk] at i;exact JT (Rp.pu_of_cm (Rp.keeps_cm _ _ _ (Rp.acts_ty s0))) (Rp.acts_rd z s0) rfl i rfl (t:=4) i6 i6 i6 rfl
