import Derived.Test.YtmcepdopookilaaGreatDoorFx21
import Derived.Laws.Tables
set_option maxHeartbeats 16000000
set_option maxRecDepth 8000
set_option linter.unusedVariables false
set_option linter.unusedSimpArgs false
set_option linter.defProp false
namespace Go.Proofs.YtmcepdopookilaaGreatDoor.Rp
open Go Go.Sl Go.RowKit Go.WideShapes Go.ChangeShapes Go.Proofs.Tryz
theorem aO{P:Program}{t:TypeId}(e:P.underlying t=some (.int .u64)):xd P t (fun n:Nat=>[.int .u64 (n:Nat)]) (fun _ n=>n<=18446744073709551615) (fun _=>1):=⟨fun d w a f b c g x h=>by
 obtain⟨n,i,j,k⟩:=(gL e).h d w a f b c g x h;have l:=PO j;refine⟨n.toNat,?_,by omega,k⟩;rw[i,Int.toNat_of_nonneg l.1]⟩
theorem PP(l:List Bs):(l.flatMap fun f=>[B f])=fV l:=by
 induction l with
 |nil=>rfl
 |cons x r ih=>rw[Q1,ih];rfl
theorem SZ:xd prog 178 (fun m:Nat×Nat=>iv m) (fun _ _=>True) (fun _=>0):=
 (eT underlying178 i6
  (C3 (k:=1) (off':=1) (aO i6) rfl i6 rfl
  (C3 (k:=1) (off':=2) (aO i6) rfl i6 rfl kJ))).map
  (fun y=>((y.1,y.2.1):Nat×Nat)) (fun y=>rfl) (fun h y o=>trivial) (fun y=>zw _)
structure RqT(h:l9)(p:RQ×QL):Prop where
 rd:dv p.1 p.2 h
 num:p.1.num<18446744073709551616
 life:p.1.life<18446744073709551616
 tr:p.1.tr<18446744073709551616
theorem PQ:xd prog 44 (fun p:RQ×QL=>cQ p.1 p.2) (fun h p=>RqT h p) (fun _=>0):=
 (eT underlying44 i6
  (C3 (k:=1) (off':=1) (gL (k:=.i64) i6) rfl i6 rfl
  (C3 (k:=1) (off':=2) (aO i6) rfl i6 rfl
  (C3 (k:=1) (off':=3) (aO i6) rfl i6 rfl
  (C3 (k:=1) (off':=4) (gL (k:=.i64) i6) rfl i6 rfl
  (C3 (k:=1) (off':=5) (aO i6) rfl i6 rfl
  (C3 (k:=1) (off':=6) (aO i6) rfl i6 rfl
  (C3 (k:=1) (off':=7) (cv i6) rfl i6 rfl
  (C3 (k:=1) (off':=8) (cv i6) rfl i6 rfl
  (C3 (k:=1) (off':=9) (aO i6) rfl i6 rfl
  (C3 (k:=1) (off':=10) (sH (e:=178) i6 SZ (n:=2) i6 (fun _=>rfl) qp) rfl i6 rfl
  (C3 (k:=1) (off':=11) (sH (e:=9) i6 (cv i6) (n:=1) i6 (fun _=>rfl) qp) rfl i6 rfl
  (C3 (k:=1) (off':=12) (gL (k:=.i64) i6) rfl i6 rfl
  (C3 (k:=1) (off':=13) (xe i6) rfl i6 rfl
  (C3 (k:=1) (off':=14) (aO i6) rfl i6 rfl
  (C3 (k:=1) (off':=15) (cv i6) rfl i6 rfl
  (C3 (k:=1) (off':=16) (aO i6) rfl i6 rfl
  (C3 (k:=1) (off':=17) (aO i6) rfl i6 rfl kJ)))))))))))))))))).map
  (fun y=>(⟨⟨y.1,y.2.1,y.2.2.1,y.2.2.2.1,y.2.2.2.2.1,y.2.2.2.2.2.1,y.2.2.2.2.2.2.1,y.2.2.2.2.2.2.2.1,y.2.2.2.2.2.2.2.2.1,y.2.2.2.2.2.2.2.2.2.1.2.1,y.2.2.2.2.2.2.2.2.2.2.1.2.1,y.2.2.2.2.2.2.2.2.2.2.2.1,y.2.2.2.2.2.2.2.2.2.2.2.2.1,y.2.2.2.2.2.2.2.2.2.2.2.2.2.1,y.2.2.2.2.2.2.2.2.2.2.2.2.2.2.1,y.2.2.2.2.2.2.2.2.2.2.2.2.2.2.2.1,y.2.2.2.2.2.2.2.2.2.2.2.2.2.2.2.2.1⟩,
   ⟨y.2.2.2.2.2.2.2.2.2.1.1,y.2.2.2.2.2.2.2.2.2.1.2.2,y.2.2.2.2.2.2.2.2.2.2.1.1,y.2.2.2.2.2.2.2.2.2.2.1.2.2⟩⟩:RQ×QL)) (fun y=>rfl)
  (fun h y o=>by
   obtain⟨_,_,d,_,f,g,_,_,_,a,b,_⟩:=o;have i:=a.rd;have c:=b.rd;rw[PP] at c;exact⟨⟨i,c⟩,Wr d,Wr f,Wr g⟩)
  (fun y=>zw _)
theorem IV:xd prog 41 (fun p:Int×Bs=>[.int .i64 p.1,B p.2]) (fun _ _=>True) (fun _=>0):=
 (eT underlying41 i6
  (C3 (k:=1) (off':=1) (gL (k:=.i64) i6) rfl i6 rfl
  (C3 (k:=1) (off':=2) (cv i6) rfl i6 rfl kJ))).map
  (fun y=>((y.1,y.2.1):Int×Bs)) (fun y=>rfl) (fun h y o=>trivial) (fun y=>zw _)
structure AcT(h:l9)(p:lE):Prop where
 rd:dv p.1.other p.2 h
 num:p.1.other.num<18446744073709551616
 life:p.1.other.life<18446744073709551616
 tr:p.1.other.tr<18446744073709551616
theorem shpAct:xd prog 70 (fun p:lE=>JG p) (fun h p=>AcT h p) (fun _=>0):=
 (eT underlying70 i6
  (C3 (k:=1) (off':=1) (gL (k:=.i64) i6) rfl i6 rfl
  (C3 (k:=2) (off':=3) IV rfl i6 rfl
  (C3 (k:=1) (off':=4) (xe i6) rfl i6 rfl
  (C3 (k:=17) (off':=21) PQ rfl i6 rfl kJ))))).map
  (fun y=>(⟨⟨y.1,y.2.1.1,y.2.1.2,y.2.2.1,y.2.2.2.1.1⟩,y.2.2.2.1.2⟩:lE)) (fun y=>rfl)
  (fun h y o=>by
   obtain⟨_,_,_,a,_⟩:=o;exact⟨a.rd,a.num,a.life,a.tr⟩)
  (fun y=>zw _)
theorem pu_of_cm{P:Program}{f:FuncId}{args:List Value}{a:l9->Prop}{u:Value}(h:Cm P f args a [] (fun h v A=>v=u/\A=[])):Pu P f args a u:=by
 intro w m hs n hp;have p:=h (p_ w m) [] w (by simpa using Hp.start hs n) hp;refine p.mono ?_;rintro e q ⟨v,A,r,rfl,c,⟨rfl,rfl⟩,d⟩;refine⟨_,[],rfl,qh,d.os.trans c.os,d.tape.trans c.tape,d.output.trans c.output,(fun b o g=>d.keep b o (c.heap b o g)),?_⟩;obtain⟨i,j,k,l⟩:=d.own;refine⟨i,j,k,fun b g=>?_⟩;have:=l b g
 cases he:(p_ w m).heap b with
 |none=>rfl
 |some o=>rw[c.heap _ _ he] at this;cases this
theorem acts_rd{h:l9}{a:Option Addr}{l:List lE}{c:Nat}(hg:Gl h)(s:IU JG AcT h a l c):IP l a h:=⟨hg,s.rd,fun p hp=>(s.each p hp).rd⟩
theorem acts_ty{h:l9}{a:Option Addr}{l:List lE}{c:Nat}(s:IU JG AcT h a l c):zJ l:=fun p hp=>⟨(s.each p hp).num,(s.each p hp).life,(s.each p hp).tr⟩
open Go Go.Sl Go.RowKit Go.Proofs.Tryz
abbrev mN:Bs:=[97,32,76,79,71,73,78,32,120,32,104,111,114,110]
abbrev lG:Bs:=[98,32,83,69,76,69,67,84,32,73,78,66,79,88]
abbrev EB:Bs:=[99,32,76,79,71,79,85,84]
abbrev aL(s:Bs):AX:=⟨0,1,s,false,cL⟩
abbrev aC:AX:=⟨1,0,[],false,cL⟩
def fW(s:Bs):CM:=((T6 (cq s) s (behind s)).map Prod.fst).getD ip
def sI(s:Bs):Bool:=eW s&&!decide (H5 (R8 (P9 s))=0\/qQ s=true/\H5 (R8 (P9 s))<15)&&decide ((cq s).kind≠15)&&decide ((T6 (cq s) s (behind s)).map Prod.snd=some s.length)
theorem IW{s:Bs}{c:CM}{e:Int}(hl:sI s=true)(h:bq s c e):c=fW s/\e=0:=by
 unfold sI at hl;simp only[kw,Kv,Zd,jx] at hl;obtain⟨⟨⟨j,k⟩,l⟩,m⟩:=hl;obtain⟨⟨C,n⟩,g,b⟩:=ky.1 m;have b:n=s.length:=b;subst b;have d:fW s=C:=by unfold fW;rw[g];rfl
 unfold bq at h;rw[zk (by rw[j];simp),zk k] at h;rw[d];have a:∀r,bv s (cq s) (behind s) r->r=some (C,s.length):=fun r f=>by
  unfold bv at f;rw[zk l,g] at f;exact f
 rcases h with⟨h,o⟩|⟨h|⟨q,h,i⟩,_⟩
 ·have:=a _ h;injection this with this;injection this with this;exact⟨this,o⟩
 ·cases a _ h
 ·have:=a _ h;injection this with this;rw[this] at i;exact absurd rfl i
theorem Ta:sI mN=true:=by kernel_rfl
theorem Tb:sI lG=true:=by kernel_rfl
theorem Tc:sI EB=true:=by kernel_rfl
theorem lH{w w':WM}{s:Bs}{t:TN}(h:mq w (aL s) w' t)(hl:sI s=true)(i:w.s.a4X=false)(j:w.s.a4S≠3)(hf:(N8 (fW s).kind).1<=w.s.a4S/\w.s.a4S<=(N8 (fW s).kind).2)(m:(fW s).kind<14):
  (t.b,t.d)=OA (fun _=>[]) (w.s,G0) (fW s)/\∃a:WM,a.m.s=w.m.s/\a.bl=w.bl/\a.q=w.q/\a.tr=w.tr/\qa a t w':=by
 rcases h with⟨h,_⟩|⟨a,c,d,_,g,f⟩
 ·cases h
 ·unfold di at d;rw[zu rfl] at d;obtain⟨b,k,l,_⟩:=d;refine⟨?_,a,k,l,g.1,g.2,f⟩;unfold dZ at b;rw[zk (by show¬(1:Int)=2;decide),zk (by rw[i];simp[j]),zk (by show¬(1:Int)=4;decide),zk (by show¬(1:Int)=3;decide),zu rfl] at b;obtain⟨c,e,hp,b⟩:=b;obtain⟨rfl,rfl⟩:=IW hl hp;rcases b with⟨h,_⟩|⟨h,_⟩|⟨h,_⟩|⟨_,⟨h,_⟩|⟨_,_,h⟩⟩
  ·cases h
  ·cases h
  ·cases h
  ·omega
  ·unfold QB at h;rw[zk qb,zk qb] at h;exact h
theorem lI{w w':WM}{t:TN}(h:mq w aC w' t)(m:w.s.a4X=true)(n:w.s.cmd.kind≠16/\w.s.cmd.kind≠15):
  (∃x:AN,x.c=w.s.cmd/\x.m.s=(C9 w.m.s w.q).1/\x.o=(C9 w.m.s w.q).2/\iK x (O3 w.s) t.b t.d)/\∃a:WM,a.m.s=(C9 w.m.s w.q).1/\a.bl=w.bl/\a.q=w.q/\a.tr=w.tr/\qa a t w':=by
 rcases h with⟨_,h,_⟩|⟨a,c,j,_,o,k⟩
 ·rw[m] at h;cases h
 ·unfold di at j;rw[zk qp,zu rfl] at j;obtain⟨_,⟨s1,u,q,l⟩,r,s,_⟩:=j;refine⟨?_,a,r,s,o.1,o.2,k⟩;have g:∀{p:SE} {d':DD} {bl:BL},fg w.s (C9 w.m.s w.q).1 (C9 w.m.s w.q).2 bl p d'->d'.want=[]/\∃x:AN,x.c=w.s.cmd/\x.m.s=(C9 w.m.s w.q).1/\x.o=(C9 w.m.s w.q).2/\iK x (O3 w.s) p d':=fun h=>by
   unfold fg at h;rw[zk (by rw[m];simp)] at h;rcases h with⟨_,_,⟨_,h|h⟩,_⟩|⟨x,b,d,f,_,_,_,i⟩
   ·exact absurd h n.1
   ·exact absurd h n.2
   ·exact⟨(ej i).2.1,x,b,d,f,i⟩
  obtain⟨e,x,b,d,f,i⟩:=g q;rw[zu e] at l;exact⟨x,b,d,f,by rw[l.1,l.2];exact i⟩
theorem eo{w0 w':WM}{L:List AX}{d:List TN}(h:bB w0 L d w'):∀l a,L=l++[a]->∃b w t,d=b++[t]/\bB w0 l b w/\mq w a w' t:=by
 cases h with
 |nil=>intro l a e;exact absurd e.symm x8
 |snoc hp hs=>
  intro l a e;obtain⟨f,c⟩:=List.append_inj' e rfl;injection c with c;subst f c;exact⟨_,_,_,rfl,hp,hs⟩
abbrev JH:List AX:=[aL mN,aC,aL lG,aC,aL EB,aC]
def Td:SE:={ov with a4X:=true,cmd:=fW mN,a4T:=[]}
def Tu:RQ:={cL with op:=1,node:=1,life:=1,tr:=1}
def Te:ML:=(C9 wZ Tu).1
def S2a:SE:={O3 Td with a4S:=1,ses:=(C9 wZ Tu).2.ses,num:=0}
def EC:SD:=OA (fun _=>[]) (S2a,G0) (fW lG)
def M4a:ML:=(C9 Te EC.2.req).1
theorem k1a:(fW mN).kind=7:=by kernel_rfl
theorem k2a:(fW lG).kind=8:=by kernel_rfl
theorem QE:(fW EB).kind=3:=by kernel_rfl
theorem d1a:OA (fun _=>[]) (ov,G0) (fW mN)=(Td,{G0 with ask:=true,req:={cL with op:=1}}):=by kernel_rfl
theorem c2a:(C9 wZ Tu).2.code=0:=by kernel_rfl
theorem b3a:EC.1.a4X=true:=by kernel_rfl
theorem e3a:EC.1.cmd=fW lG:=by kernel_rfl
theorem a3a:EC.2.ask=true:=by kernel_rfl
theorem o3a:¬EC.2.req.op=1:=by
 have:EC.2.req.op=3:=by kernel_rfl
 rw[this];decide
theorem c4a:(C9 Te EC.2.req).2.code=0:=by kernel_rfl
theorem f4a:(ae M4a (fW lG).box).isSome=true:=by kernel_rfl
theorem zL{m:MM}(hm:m.s=wZ){ts:List TN}{w:WM}(h:bB (wY m) JH ts w):
  ∃t1 t2 t3 t4 t5 s,ts=[t1,t2,t3,t4,t5,s]/\t2.d.a5b.length=1/\t4.d.a5b.length=6/\t4.d.a5b.getD 5 R0={fb (fW lG).tag with code:=aD 8}/\w.s.a4S=3/\s.d.close=true:=by
 obtain⟨_,w5,s,rfl,h,s6⟩:=eo h [aL mN,aC,aL lG,aC,aL EB] aC rfl;obtain⟨_,V,t5,rfl,h,s5⟩:=eo h [aL mN,aC,aL lG,aC] (aL EB) rfl;obtain⟨_,u,t4,rfl,h,s4⟩:=eo h [aL mN,aC,aL lG] aC rfl;obtain⟨_,w2,t3,rfl,h,s3⟩:=eo h [aL mN,aC] (aL lG) rfl;obtain⟨_,t,t2,rfl,h,s2⟩:=eo h [aL mN] aC rfl;obtain⟨X,w0,t1,rfl,h,s1⟩:=eo h [] (aL mN) rfl;have h0:w0=wY m/\X=[]:=by
  generalize hL:([]:List AX)=L at h
  cases h with
  |nil=>exact qh
  |snoc _ _=>exact absurd hL x8
 obtain⟨rfl,rfl⟩:=h0
 -- the first line
 obtain⟨Y,v1,Z,_,q9,v,j⟩:=lH s1 Ta rfl (by show(0:Nat)≠3;decide) (by rw[k1a];exact⟨by show(N8 7).1<=0;decide,by show 0<=(N8 7).2;decide⟩) (by rw[k1a];decide);have Y:(t1.b,t1.d)=(Td,{G0 with ask:=true,req:={cL with op:=1}}):=Y.trans d1a;injection Y with e1b e1d;have k:t.s=Td:=by rw[j.s,e1b]
 have h1:t.m.s=wZ:=by rw[j.m,Z];exact hm
 have h2:t.q=Tu:=by
  rw[j.q];unfold fT;rw[e1d,zu rfl,zu rfl,v];rfl
 -- what comes
 have A:t.s.cmd.kind=7:=by rw[k];exact k1a
 obtain⟨⟨x,h3,h4,c,hx⟩,v2,C,_,_,_,D⟩:=lI s2 (by rw[k];rfl) (by rw[A];decide);rw[h1,h2] at h4 c C;have l:x.c.kind=7:=by rw[h3];exact A
 have h5:sE x (O3 t.s)=O3 t.s:=by unfold sE ux;rw[l];rfl
 unfold iK at hx;rw[zk (by rw[c,c2a];decide),zk (by rw[l];decide)] at hx;obtain⟨r,x0,l1,x1,l2,d,J,g3⟩:=hx;rw[zu (by rw[c];exact c2a)] at d;unfold O0 at d;rw[zu (show(xB x).c.kind=7 from l)] at d;obtain⟨rfl,rfl,rfl⟩:=d;rw[zk (fun h=>absurd h.1 (by show¬(1:Nat)=2;decide))] at J;obtain⟨rfl,rfl⟩:=J;rw[zk (fun h=>absurd h.1 (by show¬(1:Nat)=2;decide))] at g3;obtain⟨h6,h7⟩:=g3;have e:w2.s=S2a:=by
  rw[D.s,h6,h5,k];show({O3 Td with a4S:=1,ses:=x.o.ses,num:=0}:SE)=_;rw[c];rfl
 have h8:w2.m.s=Te:=by rw[D.m,C];rfl
 -- the second line
 obtain⟨M,v3,h9,_,x2,q7,n⟩:=lH s3 Tb (by rw[e];rfl) (by rw[e];show(1:Nat)≠3;decide) (by rw[k2a,e];exact⟨by decide,by decide⟩) (by rw[k2a];decide);rw[e] at M;have M:(t3.b,t3.d)=EC:=M;have k0:t3.b=EC.1:=by rw[<-M]
 have k8:t3.d=EC.2:=by rw[<-M]
 have f:u.s=EC.1:=by rw[n.s,k0]
 have k9:u.m.s=Te:=by rw[n.m,h9,h8]
 have q0:u.q=EC.2.req:=by
  rw[n.q];unfold fT;rw[k8,zu a3a,zk o3a]
 -- what comes
 have O:u.s.cmd.kind=8:=by rw[f,e3a];exact k2a
 obtain⟨⟨y,o,Q,p,hy⟩,v4,x3,_,_,_,q1⟩:=lI s4 (by rw[f];exact b3a) (by rw[O];decide);rw[k9,q0] at Q p;have a:y.c.kind=8:=by rw[o];exact O
 have q2:ux y=true:=by unfold ux;rw[a];rfl
 unfold iK at hy;rw[zk (by rw[p,c4a];decide),zk (by rw[a];decide)] at hy;obtain⟨r,x9,l3,y0,l4,d,J,g4⟩:=hy;rw[zu (by rw[p];exact c4a)] at d;unfold O0 at d;rw[zk (show¬(xB y).c.kind=7 from by show¬y.c.kind=7;rw[a];decide),zk (show¬(xB y).c.kind=14 from by show¬y.c.kind=14;rw[a];decide),zu (show(xB y).c.kind=8\/(xB y).c.kind=9 from .inl a)] at d;rw[zk (fun h=>by rw[q2] at h;cases h.2.1)] at J g4;obtain⟨rfl,rfl⟩:=J;obtain⟨q3,S⟩:=g4;rcases d with⟨T,_⟩|⟨b,hb,rfl,rfl,rfl⟩
 ·exfalso;have hf:=f4a;have T:ae y.m.s y.c.box=none:=T;rw[Q,o,f,e3a] at T;rw[show(C9 Te EC.2.req).1=M4a from rfl] at T;rw[T] at hf
  cases hf
 have g:V.s.a4X=false/\V.s.a4S=2:=by
  rw[q1.s,q3];refine⟨?_,rfl⟩;show(sE y (O3 u.s)).a4X=false;unfold sE;split<;>rfl
 -- the third line
 obtain⟨U,v5,y1,_,y2,q8,q4⟩:=lH s5 Tc g.1 (by rw[g.2];decide) (by rw[QE,g.2];exact⟨by decide,by decide⟩) (by rw[QE];decide);unfold OA at U;rw[zk (by rw[QE];decide),zk (by rw[QE];decide),zu QE,zk (show¬V.s.a4S=0 from by rw[g.2];decide)] at U;unfold G_ at U;rw[zk qp] at U;injection U with e5b e5d;have q:w5.s.a4X=true/\w5.s.cmd.kind=3:=by
  rw[q4.s,e5b];exact⟨rfl,QE⟩
 obtain⟨⟨z,q5,_,_,hz⟩,v6,_,_,_,_,q6⟩:=lI s6 q.1 (by rw[q.2];decide);have i:s.b.a4S=3/\s.d.close=true:=by
  unfold iK at hz;split at hz
  ·rw[hz.1,hz.2];exact qh
  ·rw[zu (by rw[q5];exact q.2)] at hz;rw[hz.1,hz.2];exact qh
 refine⟨t1,t2,t3,t4,t5,s,rfl,?_,?_,?_,by rw[q6.s];exact i.1,i.2⟩
 ·rw[h7];rfl
 ·rw[S];rfl
 ·rw[S];show({(xB y).r with code:=aD (xB y).c.kind}:RR)=_;show({fb y.c.tag with code:=aD y.c.kind}:RR)=_;rw[a,o,f,e3a]
def fX(last:Nat)(t:TN):Option Nat:=
 let l:=if t.comes=true/\t.c.kind=7/\t.b.a4S=1 then 0 else last
 if t.d.ask=false then some l
 else if t.a.a4X=true\/t.b.a4X=false then none
 else if t.d.req.op=1 then some l
 else if t.d.req.num≠l+1\/t.d.req.ses≠t.a.ses\/t.d.req.ses=0 then none
 else some t.d.req.num
def an:Nat->List TN->Option Nat
 |last,[]=>some last
 |last,t::ts=>(fX last t).bind fun l=>an l ts
theorem sJ(a:List TN)(t:TN):∀last,an last (a++[t])=(an last a).bind fun l=>fX l t:=by
 induction a with
 |nil=>intro last;simp[an]
 |cons x xs ih=>
  intro last;simp only[Qh,an]
  cases fX last x with
  |none=>rfl
  |some l=>simp only[zr];exact ih l
structure uA(w:WM)(last:Nat):Prop where
 last:last=w.s.num
 ses:w.s.a4S=1\/w.s.a4S=2->w.s.ses≠0
 a4S:w.s.a4S<=3
 a4X:w.s.a4X=true->(w.s.cmd.kind=7/\w.s.a4S=0/\w.q.op=1)\/(w.s.cmd.kind≠7/\(w.s.a4S=1\/w.s.a4S=2))
theorem IX{s:ML}(h:qD s)(r:RQ)(e:(dO s r).2.2=0):(dO s r).2.1.ses≠0:=by
 unfold dO at e⊢;split
 ·rename_i hc;rw[zu hc] at e;cases e
 ·rename_i hc;rw[zk hc] at e;simp only at e⊢;split
  ·rename_i a;rw[zu a] at e;cases e
  ·rename_i a;rw[zk a] at e;split
   ·rename_i b;rw[zu b] at e
    cases ho:eH s r.node r.tr with
    |none=>rw[ho] at e;cases e
    |some i=>
     have c:i<s.a4P.length:=(kg.1 ho).1;show(s.a4P.getD i ⟨0,0,0,0,0⟩).ses≠0;rw[zb,zj c];have:=(h.ok.seat _ (zy c)).1;show s.a4P[i].ses≠0;omega
   ·rename_i b;rw[zk b] at e;generalize hst:(if((Option.map (fun i=>s.a4O.getD i Jt) (fF s r.node)).getD Jt).life<r.life then s.a4P.filter fun x=>!decide (x.node=r.node) else s.a4P)=a4P at e⊢;split
    ·rename_i d;rw[zu d] at e;cases e
    ·have:=h.n1;show s.nses≠0;omega
theorem ED{s:ML}(h:qD s)(r:RQ)(a:r.op=1)(e:(C9 s r).2.code=0):(C9 s r).2.ses≠0:=by
 unfold C9 at e⊢;split
 ·rename_i hc;rw[zu hc] at e;cases e
 ·rename_i hc;rw[zk hc] at e;rw[zu (.inl a)] at e⊢;unfold sZ at e⊢;have b:EI s r=dO s r:=by unfold EI;rw[zu a]
  rw[b] at e⊢;by_cases h0:(dO s r).2.2=0
  ·simp only[zu h0];exact IX h r h0
  ·simp only[zk h0] at e;exact absurd e h0
theorem xg{x:AN}{s a:SE}{r:RR}{l:List RR}(h:O0 x s r a l):a.a4X=s.a4X/\a.cmd=s.cmd/\(if x.c.kind=7 then a.a4S=1/\a.ses=x.o.ses/\a.num=0 else a.ses=s.ses/\a.num=s.num/\(a.a4S=s.a4S\/a.a4S=2/\(x.c.kind=8\/x.c.kind=9))):=by
 have g:∀c,pW x s c r a l->a.a4X=s.a4X/\a.cmd=s.cmd/\a.ses=s.ses/\a.num=s.num/\a.a4S=s.a4S:=fun c h=>by
  obtain⟨_,⟨o,rfl,_⟩,_⟩:=h;exact⟨rfl,rfl,rfl,rfl,rfl⟩
 unfold O0 at h;by_cases h7:x.c.kind=7
 ·rw[zu h7] at h⊢;rw[h.1];exact⟨rfl,rfl,rfl,rfl,rfl⟩
 rw[zk h7] at h⊢;have hs:a=s->a.a4X=s.a4X/\a.cmd=s.cmd/\a.ses=s.ses/\a.num=s.num/\(a.a4S=s.a4S\/a.a4S=2/\(x.c.kind=8\/x.c.kind=9)):=fun e=>by rw[e];exact⟨rfl,rfl,rfl,rfl,.inl rfl⟩
 have f:∀c,pW x s c r a l->a.a4X=s.a4X/\a.cmd=s.cmd/\a.ses=s.ses/\a.num=s.num/\(a.a4S=s.a4S\/a.a4S=2/\(x.c.kind=8\/x.c.kind=9)):=fun c h=>by
  obtain⟨i,j,k,m,n⟩:=g c h;exact⟨i,j,k,m,.inl n⟩
 split at h
 ·exact hs h.1
 split at h
 ·rename_i d;rcases h with⟨_,e,_⟩|⟨b,_,e,_⟩
  ·exact hs e
  ·rw[e];exact⟨rfl,rfl,rfl,rfl,.inr ⟨rfl,d⟩⟩
 split at h
 ·exact hs h.1
 split at h
 ·exact hs h.1
 split at h
 ·exact hs h.1
 split at h
 ·exact f _ h
 split at h
 ·exact f _ h
 ·exact hs h.1
theorem ao{last:Nat}{t:TN}(ha:t.d.ask=false)(hc:¬(t.comes=true/\t.c.kind=7/\t.b.a4S=1)):fX last t=some last:=by
 unfold fX;simp only[zk hc,zu ha]
theorem ep{w:WM}{last:Nat}(c:uA w last){a:SE}(f:a.num=w.s.num)(hs:a.ses=w.s.ses)(b:a.a4S=w.s.a4S\/a.a4S=3\/(w.s.a4S=1\/w.s.a4S=2)/\a.a4S<=3)(g:a.a4X=false)(q:RQ)(w':WM)(d:w'.s=a):uA w' last:=by
 refine⟨by rw[d,f];exact c.last,fun h=>?_,?_,fun h=>by rw[d,g] at h;cases h⟩
 ·rw[d] at h⊢;rw[hs];rcases b with e|e|⟨e,_⟩
  ·rw[e] at h;exact c.ses h
  ·rw[e] at h;rcases h with h|h<;>cases h
  ·exact c.ses e
 ·rw[d];have:=c.a4S;rcases b with e|e|⟨_,e⟩<;>omega
theorem BT{w w':WM}{last:Nat}{t:TN}{bl:BL}(X:qD w.m.s)(g:uA w last)(U:w.s.a4X=true)(hc:t.comes=true)(m:t.c=w.s.cmd)(h:fg w.s (C9 w.m.s w.q).1 (C9 w.m.s w.q).2 bl t.b t.d)(d:w'.s=t.b)(hq:w'.q=w.q):∃l,fX last t=some l/\uA w' l:=by
 have b:=(qt h).1;have D:=g.a4X U;unfold fg at h;rw[zk (by rw[U];simp)] at h;rcases h with⟨_,_,⟨_,Y⟩,hs,_⟩|⟨x,n,Z,z,_,_,_,h⟩
 ·have k:w.s.cmd.kind≠7:=by rcases Y with e|e<;>rw[e]<;>decide
  refine⟨last,ao b (fun e=>k (by rw[<-m];exact e.2.1)),⟨by rw[d,hs];exact g.last,by rw[d,hs];exact g.ses,by rw[d,hs];exact g.a4S,by rw[d,hs,hq];exact g.a4X⟩⟩
 unfold iK at h;split at h
 ·refine⟨last,ao b (fun e=>by rw[h.1] at e;exact absurd e.2.2 (by show¬(3:Nat)=1;decide)),ep g (by rw[h.1];rfl) (by rw[h.1];rfl) (.inr (.inl (by rw[h.1]))) (by rw[h.1];rfl) w'.q w' d⟩
 split at h
 ·refine⟨last,ao b (fun e=>by rw[h.1] at e;exact absurd e.2.2 (by show¬(3:Nat)=1;decide)),ep g (by rw[h.1];rfl) (by rw[h.1];rfl) (.inr (.inl (by rw[h.1]))) (by rw[h.1];rfl) w'.q w' d⟩
 obtain⟨r,s1,l1,C,l2,y,J,M⟩:=h;have o:C.a4S=s1.a4S/\C.ses=s1.ses/\C.num=s1.num/\C.a4X=s1.a4X:=by
  split at J
  ·rw[J.1];exact⟨rfl,rfl,rfl,rfl⟩
  ·rw[J.1];exact⟨rfl,rfl,rfl,rfl⟩
 have a:(sE x (O3 w.s)).ses=w.s.ses/\(sE x (O3 w.s)).num=w.s.num/\(sE x (O3 w.s)).a4X=false/\((sE x (O3 w.s)).a4S=w.s.a4S\/w.s.cmd.kind≠7/\(sE x (O3 w.s)).a4S=1):=by
  unfold sE;split
  ·rename_i p;refine⟨rfl,rfl,rfl,.inr ⟨fun e=>?_,rfl⟩⟩;unfold ux at p;rw[n,e] at p;exact absurd p qp
  ·exact⟨rfl,rfl,rfl,.inl rfl⟩
 have c:(t.b.a4S=s1.a4S\/s1.a4S=2/\t.b.a4S=3)/\t.b.ses=s1.ses/\t.b.num=s1.num/\t.b.a4X=s1.a4X:=by
  split at M
  ·rename_i O;rw[M.1];exact⟨.inr ⟨O.1,rfl⟩,o.2.1,o.2.2.1,o.2.2.2⟩
  ·rw[M.1];exact⟨.inl o.1,o.2.1,o.2.2.1,o.2.2.2⟩
 rcases D with⟨k,V,Q⟩|⟨k,S⟩
 ·-- a login
  have i:(sE x (O3 w.s)).a4S=0:=by
   rcases a.2.2.2 with e|⟨e,_⟩
   ·rw[e];exact V
   ·exact absurd k e
  split at y
  ·rename_i q;have A:=xg y;rw[zu (show(xB x).c.kind=7 by show x.c.kind=7;rw[n];exact k)] at A;obtain⟨s,_,j,u,v⟩:=A;have f:t.b.a4S=1:=by
    rcases c.1 with e|⟨e,_⟩
    ·rw[e];exact j
    ·rw[j] at e;cases e
   refine⟨0,?_,⟨by rw[d,c.2.2.1,v],fun _=>?_,by rw[d,f];decide,fun h=>?_⟩⟩
   ·unfold fX;simp only[zu (show t.comes=true/\t.c.kind=7/\t.b.a4S=1 from⟨hc,by rw[m];exact k,f⟩),zu b]
   ·rw[d,c.2.1,u];show x.o.ses≠0;rw[z];exact ED X w.q Q (by rw[<-z];exact q)
   ·rw[d,c.2.2.2,s,a.2.2.1] at h;cases h
  ·rw[y.1] at c;have f:t.b.a4S=0:=by
    rcases c.1 with e|⟨e,_⟩
    ·rw[e];exact i
    ·rw[i] at e;cases e
   refine⟨last,ao b (fun e=>by rw[f] at e;cases e.2.2),ep g (by rw[c.2.2.1];exact a.2.1) (by rw[c.2.1];exact a.1) (.inl (by rw[f,V])) (by rw[c.2.2.2];exact a.2.2.1) w'.q w' d⟩
 ·have i:(sE x (O3 w.s)).a4S<=2:=by
   rcases a.2.2.2 with e|⟨_,e⟩<;>omega
  have T:s1.ses=w.s.ses/\s1.num=w.s.num/\s1.a4X=false/\s1.a4S<=2:=by
   split at y
   ·have A:=xg y;rw[zk (show¬(xB x).c.kind=7 by show¬x.c.kind=7;rw[n];exact k)] at A;obtain⟨s,_,j,u,v⟩:=A;refine⟨j.trans a.1,u.trans a.2.1,s.trans a.2.2.1,?_⟩;rcases v with e|⟨e,_⟩<;>omega
   ·rw[y.1];exact⟨a.1,a.2.1,a.2.2.1,i⟩
  refine⟨last,ao b (fun e=>k (by rw[<-m];exact e.2.1)),ep g (by rw[c.2.2.1];exact T.2.1) (by rw[c.2.1];exact T.1) (.inr (.inr ⟨S,?_⟩)) (by rw[c.2.2.2];exact T.2.2.1) w'.q w' d⟩;rcases c.1 with e|⟨_,e⟩<;>omega
theorem uB{w w':WM}{t:TN}{b:WM}(a:qa b t w')(ha:t.d.ask=false)(hq:b.q=w.q):w'.q=w.q:=by
 rw[a.q];unfold fT;rw[zk (by rw[ha];simp),hq]
theorem IY{n:Nat}{w w':WM}{a:AX}{t:TN}{last:Nat}(S:Nd n w)(ha:mM a)(i:uA w last)(hs:mq w a w' t):∃l,fX last t=some l/\uA w' l:=by
 rcases hs with⟨_,_,rfl,rfl⟩|⟨w1,c,y,V,Q,f⟩
 ·exact⟨last,ao rfl (fun e=>by cases e.1),i⟩
 obtain⟨C,_,_,u⟩:=V;unfold di at y;split at y
 ·obtain⟨q,_,_,_,m,_,_⟩:=y;have X:=zH ha.text S.se.box q;rcases X with⟨g,_,_,_,_,hs⟩|⟨c,l,r,b,j⟩
  ·have v:=uB (w:=w) f g Q.1;refine⟨last,ao g (fun e=>by rw[m] at e;cases e.1),?_⟩;rcases hs with e|⟨e,p⟩|e
   ·exact⟨by rw[f.s,e];exact i.last,by rw[f.s,e];exact i.ses,by rw[f.s,e];exact i.a4S,by rw[f.s,e,v];exact i.a4X⟩
   ·refine⟨by rw[f.s,e];exact i.last,fun h=>?_,by rw[f.s,e];exact z1 3,fun h=>?_⟩
    ·rw[f.s,e] at h;rcases h with h|h<;>cases h
    ·rw[f.s,e] at h;have h:w.s.a4X=true:=h;rw[p] at h;cases h
   ·exact⟨by rw[f.s,e];exact i.last,by rw[f.s,e];exact i.ses,by rw[f.s,e];exact i.a4S,by rw[f.s,e,v];exact i.a4X⟩
  ·have D:t.b.a4X=true:=(by rw[j.s']);have J:t.a.a4X=false:=(by rw[C];exact j.a4X);by_cases hop:r.op=1
   ·have o:t.d.req=r:=(by rw[j.req,zu hop]);have x:=j.op.1 hop;have M:w.s.a4S=0:=by
     have:=j.from_;rw[x] at this;have z:(N8 7).2=0:=rfl;omega
    refine⟨last,?_,?_⟩
    ·unfold fX;rw[m];simp only[j.ask,J,D,o,hop];simp
    ·refine⟨by rw[f.s,j.s'];show last=(if r.op=1 then w.s.num else w.s.num+1);rw[zu hop];exact i.last,by rw[f.s,j.s'];exact i.ses,by rw[f.s,j.s'];exact i.a4S,fun _=>.inl ⟨by rw[f.s,j.s'];exact x,by rw[f.s,j.s'];exact M,?_⟩⟩;rw[f.q];unfold fT;rw[zu j.ask,o,zu hop];exact hop
   ·have o:t.d.req={r with ses:=w.s.ses,num:=w.s.num+1}:=(by rw[j.req,zk hop]);have x:c.kind≠7:=fun e=>hop (j.op.2 e);have s:w.s.a4S=1\/w.s.a4S=2:=by
     have q:=j.st hop;have z:=j.over;have h3:=i.a4S;omega
    have O:=i.ses s;refine⟨w.s.num+1,?_,?_⟩
    ·have T:¬(t.comes=true/\t.c.kind=7/\t.b.a4S=1):=fun e=>(by rw[m] at e;cases e.1);unfold fX;simp only[zk T];rw[zk (by rw[j.ask];simp),zk (by rw[J,D];simp),zk (by rw[o];exact hop),zk (by
      rw[o,C];intro e;rcases e with e|e|e
      ·exact e (by show w.s.num+1=last+1;rw[i.last])
      ·exact e rfl
      ·exact O e),o]
    ·refine⟨by rw[f.s,j.s'];show w.s.num+1=(if r.op=1 then w.s.num else w.s.num+1);rw[zk hop],by rw[f.s,j.s'];exact i.ses,by rw[f.s,j.s'];exact i.a4S,fun _=>.inr ⟨by rw[f.s,j.s'];exact x,by rw[f.s,j.s'];exact s⟩⟩
 split at y
 ·obtain⟨p,⟨s1,d1,q,z⟩,_,_,_,m,_,_⟩:=y;have v:∀{d:DD},t.d=d->d.ask=false->w'.q=w.q:=fun e h=>uB (w:=w) f (by rw[e];exact h) Q.1;split at z
  ·obtain⟨k,A⟩:=z;rw[<-k,<-A] at q;exact BT S.ml i p m u q f.s (v rfl (qt q).1)
  ·exact BT S.ml i p m u z f.s (v rfl (qt z).1)
 split at y
 ·obtain⟨q,_,_,_,m,_,_⟩:=y;have g:t.d.ask=false:=by
   have:=(BQ w.s).1;rw[<-q] at this;exact this
  have v:=uB (w:=w) f g Q.1;unfold bY at q;by_cases p:w.s.a4X=false
  ·rw[zu p] at q;injection q with k A;exact⟨last,ao g (fun e=>by rw[m,p] at e;cases e.1),⟨by rw[f.s,k];exact i.last,by rw[f.s,k];exact i.ses,by rw[f.s,k];exact i.a4S,by rw[f.s,k,v];exact i.a4X⟩⟩
  ·rw[zk p] at q;have U:=i.a4X (by simpa using p);by_cases hk:w.s.cmd.kind=3
   ·rw[zu hk] at q;injection q with k A;exact⟨last,ao g (fun e=>by rw[u,hk] at e;cases e.2.1),ep i (by rw[k];rfl) (by rw[k];rfl) (.inr (.inl (by rw[k];rfl))) (by rw[k];rfl) w'.q w' f.s⟩
   ·rw[zk hk] at q;injection q with k A;refine⟨last,ao g (fun e=>?_),ep i (by rw[k];rfl) (by rw[k];rfl) (.inl (by rw[k];rfl)) (by rw[k];rfl) w'.q w' f.s⟩;rcases U with⟨_,Y,_⟩|⟨Z,_⟩
    ·have:t.b.a4S=w.s.a4S:=(by rw[k];rfl);rw[this,Y] at e
     cases e.2.2
    ·exact Z (by rw[<-u];exact e.2.1)
 ·obtain⟨k,A,_,_,_,m,_,_⟩:=y;have g:t.d.ask=false:=by rw[A]
  have v:=uB (w:=w) f g Q.1;exact⟨last,ao g (fun e=>by rw[m] at e;cases e.1),⟨by rw[f.s,k];exact i.last,by rw[f.s,k];exact i.ses,by rw[f.s,k];exact i.a4S,by rw[f.s,k,v];exact i.a4X⟩⟩
theorem IZ{w0 w:WM}{l:List AX}{b:List TN}(h:bB w0 l b w)(d:Nd 0 w0)(e:uA w0 0)(ha:∀a∈l,mM a)(hl:l.length<=800):∃last,an 0 b=some last/\uA w last:=by
 induction h with
 |nil=>exact⟨0,rfl,e⟩
 |snoc hp hs ih=>
  rename_i l b w n a t;have f:l.length+1<=800:=by simpa using hl
  obtain⟨last,g,i⟩:=ih (fun a h=>ha a (J7 _ h)) qb;have c:=(uz hp d (fun a h=>ha a (J7 _ h)) qb).1;obtain⟨j,k,m⟩:=IY c (ha _ (J0 _ (zg.2 rfl))) i hs;exact⟨j,by rw[sJ,g];exact k,m⟩
theorem Ni{m:MM}:uA (wY m) 0:=⟨rfl,fun h=>(by rcases h with h|h<;>cases h),zw _,fun h=>by cases h⟩
def Tf(w:WM)(a:AX)(ts:List TN)(h:l9)(v:Value)(A:List As):Prop:=∃w' t o,v=.tuple #[EP w',.slice (Prod.fst o) (ts++[t]).length (Prod.snd o)]/\A=[]/\n9 h (Prod.fst o) ((ts++[t]).flatMap fh)/\mq w a w' t/\lD w' h/\rgzq t h
theorem BU(w:WM)(a:AX)(z:QL)(b:List TN)(U:Option Addr)(V:Nat)(X:BJ w a)(Y:b.length<=1000):
  Cm prog 19 [EP w,.slice U b.length V,acA a z] (fun h=>lD w h/\dv a.other z h/\n9 h U (b.flatMap fh)) [] (Tf w a b):=by
 refine x7 22 func19 rfl rfl rfl ?_;rintro F R ⟨n,y,C⟩;refine C6 ?_;refine m9 rfl rfl ?_;intro x;refine m9 rfl rfl ?_;intro g5;refine i7 rfl ?_;intro D;refine p9 ?_;refine D6 (H':=gZ x w::.blk g5 (.cells (ER a z).toArray 70)::.blk D (.cells JF.toArray 65)::R) (fun v d=>C1 (A:=[_,_,_]) (J:=[]) tk d) ?_;refine z_ ?_;refine A8 (IA w a z X) ⟨n,y⟩ ?_;rintro v A F1 M ⟨o,t,c,rfl,rfl,hf⟩;refine I6 (H':=_::_::_::(fj c t++R)) (fun v d=>d.perm (Qb (fj c t) [_,_,_] R)) ?_;refine E6 ?_;refine i7 rfl ?_;intro O;refine z_ ?_;refine D6 (H':=(pZ O t::gZ x o::.blk D (.cells JF.toArray 65)::R)++fj c t) (fun v d=>?_) (bS fun F2 p j=>?_)
 ·have h9:Hp F1 v (pZ O t::gZ x o::.blk D (.cells JF.toArray 65)::(fj c t++R)):=C1 (A:=[_,_,_]) (J:=[_]) tk d;exact h9.perm (((kz.cons _).cons _).cons _)
 obtain⟨bs,j⟩:=j;have f:=M.trans p;obtain⟨Q,S⟩:=IL (Mn.le f.heap n) hf p.heap j;clear j;have g:=C.le f.heap;refine u7 ?_;refine D7 [0,4] [1,3,5,6,7] [gZ x o,pZ O t] 9 ?_;refine wd [0,2,4] ?_;refine bg 1 5 rfl rfl i6 ?_ ?_;refine M4 rfl ?_;intro T;refine Y5 ?_;refine bg 3 5 rfl rfl i6 ?_ ?_;refine r8 fh (l:=[]) (m:=b) S7 eS (by show(0+b.length)*1216<=_;omega) ?_ (hsrc:=fun v d=>g.le d.keep) (h63:=by simp only[z6];omega);intro q r _;refine Y5 ?_;refine h_ 5 rfl i6 ?_;refine C4 fh t rfl ?_;intro s _;refine Y5 ?_;refine h_ 6 rfl i6 ?_;refine r8 fh (l:=b) (m:=[t]) S7 eS (by show(b.length+1)*1216<=_;omega) ?_;intro e i _;refine gk [7,8] ?_
 rotate_left 1
 refine C4 fh t rfl ?_;intro s _;refine Y5 ?_;refine h_ 3 rfl i6 ?_;refine r8 fh (l:=[]) (m:=b) S7 eS (by show(0+b.length)*1216<=_;omega) ?_ (hsrc:=fun v d=>g.le d.keep) (h63:=by simp only[z6];omega);intro q r _;refine Y5 ?_;refine h_ 6 rfl i6 ?_;refine r8 fh (l:=b) (m:=[t]) S7 eS (by show(b.length+1)*1216<=_;omega) ?_;intro e i _;refine gk [7,8] ?_
 rotate_left 1
 refine C4 fh t rfl ?_;intro s _;refine Y5 ?_;refine h_ 1 rfl i6 ?_;refine M4 rfl ?_;intro T;refine Y5 ?_;refine h_ 3 rfl i6 ?_;refine r8 fh (l:=[]) (m:=b) S7 eS (by show(0+b.length)*1216<=_;omega) ?_ (hsrc:=fun v d=>g.le d.keep) (h63:=by simp only[z6];omega);intro q r _;refine Y5 ?_;refine h_ 6 rfl i6 ?_;refine r8 fh (l:=b) (m:=[t]) S7 eS (by show(b.length+1)*1216<=_;omega) ?_;intro e i _;refine gk [7,8] ?_
 rotate_left 1
 all_goals (refine u7 ?_);all_goals
  refine B8 (Z:=[.own (.slice e (b++[t]).length i) 48 99 ((b++[t]).flatMap fh)]) tk fun F3 k ⟨bs,j⟩=>?_;have u:n9 F3.heap e ((b++[t]).flatMap fh):=A1.rd j ud;clear j;refine A3 ?_;refine G9 (A:=[]) (v:=.tuple #[EP o,.slice e (b++[t]).length i]) (f.trans k) ⟨o,t,(e,i),rfl,rfl,u,hf.step,Mn.le k.heap Q,Mn.le k.heap S⟩ ?_;exact D3 rfl rfl rfl ud rfl _ qh (fun v d=>C1 (A:=[]) (J:=[_,_,_,_]) tk d)
abbrev qE(b:Nat)(s:Bs)(p:Nat)(ok:Bool):As:=.blk b (.cells #[B s,.int .i64 (p:Nat),.bool ok] 116)
abbrev Tv(b:Nat)(s:Bs)(st:RS):As:=qE b s st.p st.ok
theorem Nj{s w:Bs}{p:Nat}{ok:Bool}(h:p<=s.length):(mv s w ⟨p,ok⟩).2.p<=s.length/\p<=(mv s w ⟨p,ok⟩).2.p:=by
 unfold mv;split
 ·next a=>
  have:=a.2;rw[Gc,z8] at this;simp only[kw,jx] at this;simp only;omega
 ·simp only;omega
theorem Ja(b:Nat)(s w:Bs)(p:Nat)(ok:Bool)(hs:s.length<=1000000000000)(hp:p<=s.length)(i:w.length<=1000000000000):Ct prog 42 [m6 b,B w] (fun _=>True) [qE b s p ok] (fun v A=>v=.bool (mv s w ⟨p,ok⟩).1/\A=[Tv b s (mv s w ⟨p,ok⟩).2]):=by
 obtain⟨q,c⟩:=o7 (w.isPrefixOf (s.drop p));refine b_ 33 func42 rfl rfl rfl ?_;intro F _;refine p9 ?_;refine y6 [(0,m6 b),(1,B w),(23,.bool (!ok||!q))] [qE b s p ok] ?_ ?_
 ·cases ok
  all_goals (
   refine u7 ?_;refine zY [3,9,13] [] 19 ?_;refine wd [0,1,2,3,4,5,6,7,8,9,10,11,12,13] ?_;(first|refine s_ 14 ?_|refine t_ 14 ?_|refine E0 14 rfl ((H4 rfl rfl rfl qb).eq (v':=B (s.drop p)) (by rw[kr (by rw[z8];omega),jc])) rfl rfl rfl rfl rfl rfl i6 ?_);refine wd [15] ?_;refine h_ 16 rfl i6 ?_;(first|refine u_ ?_|(refine v_ ?_;refine e_ rfl (Z_ (s.drop p) w) qw rfl ?_;rw[<-c]));refine xn ?_;refine wd [17,18] ?_)
  all_goals exact u6 sub i_
 refine O1 ?_ ?_<;>intro h
 ·have e:mv s w ⟨p,ok⟩=(false,⟨p,ok⟩):=by
   unfold mv;refine zk fun d=>?_;simp only at d;rw[d.1,c,d.2] at h
   cases h
  rw[e];refine C8 ?_;exact d_ rfl rfl [qE b s p ok] qh i_
 ·rw[Q0] at h;have f:ok=true:=by simpa using h.1
  have g:q=true:=by simpa using h.2
  have e:mv s w ⟨p,ok⟩=(true,⟨p+w.length,ok⟩):=by
   unfold mv;exact zu ⟨f,c.symm.trans g⟩
  have a:=Nj (s:=s) (w:=w) (p:=p) (ok:=ok) hp;rw[e] at a⊢;simp only at a;refine cH ?_;refine f_ ((p8 rfl rfl qb).eq (v':=.int .i64 ((p+w.length:Nat):Int)) (by congr 1)) ?_;refine Jl ?_;exact d_ rfl rfl [qE b s (p+w.length) ok] qh i_
theorem EE(b:Nat)(s w:Bs)(p:Nat)(ok:Bool)(hs:s.length<=1000000000000)(hp:p<=s.length)(a:w.length<=1000000000000):Ct prog 46 [m6 b,B w] (fun _=>True) [qE b s p ok] (fun v A=>v=.tuple #[]/\A=[Tv b s (FA s w ⟨p,ok⟩)]):=by
 refine b_ 10 func46 rfl rfl rfl ?_;intro F _;refine E6 ?_;refine x4 _ rfl (Ja b s w p ok hs hp a) i_ qw rfl ?_;rintro v A ⟨rfl,rfl⟩;refine E6 ?_;exact l_ rfl [Tv b s (FA s w ⟨p,ok⟩)] qh i_
theorem Je(b:Nat)(s w:Bs)(p:Nat)(ok:Bool)(hs:s.length<=1000000000000)(hp:p<=s.length)(n:w.length<=1000000000000):Ct prog 43 [m6 b,B w] (fun _=>True) [qE b s p ok] (fun v A=>v=B (od s w ⟨p,ok⟩).1/\A=[Tv b s (od s w ⟨p,ok⟩).2]):=by
 refine b_ 56 func43 rfl rfl rfl ?_;intro F _
 cases ok with
 |false=>
  refine Ke ?_;exact d_ rfl rfl [qE b s p false] qh i_
 |true=>
  refine wk 11 ?_;refine o9 (ι:=Nat) (fun j=>p<=j/\j<=s.length/\∀i,p<=i->i<j->(!w.contains (s.getD i 0))=true) (fun j=>[(0,m6 b),(1,B w),(5,.int .i64 (p:Nat))]) (fun j=>[qE b s j true]) (fun j=>s.length-j) p ⟨z1 _,hp,fun i h t=>by omega⟩ ?_ ?_ ?_
  ·exact sub
  ·intro w n;exact n
  rintro j ⟨g,o,k⟩;obtain⟨q,a⟩:=o7 (decide ((j:Int)<(s.length:Nat)));obtain⟨u,d⟩:=o7 (!w.contains (s.getD j 0));refine u7 ?_;refine y6 [(0,m6 b),(1,B w),(5,.int .i64 (p:Nat)),(38,.bool (q&&u))] [qE b s j true] ?_ ?_
  ·cases q
   all_goals (
    refine u7 ?_;refine zY [3,7,15,19] [] 24 ?_;refine wd [0,1,2,3,4,5,6,7,8] ?_;refine w_ 9 rfl ((F5 rfl rfl).eb a) ?_;refine wd [10,11,12,13,14,15,16,17,18,19] ?_;(first|refine s_ 20 ?_|refine t_ 20 ?_|refine E0 20 rfl ((A6 rfl rfl (by have:=qr a.symm;omega)).eq (v':=U8 (s.getD j 0)) (by simp only[jc])) rfl rfl rfl rfl rfl rfl i6 ?_);refine h_ 21 rfl i6 ?_;(first|refine u_ ?_|(refine v_ ?_;refine e_ rfl (aa w (s.getD j 0)) qw rfl ?_));refine xn ?_;(first|refine s_ 22 ?_|refine t_ 22 ?_|refine E0 22 rfl ((F5 rfl rfl).eq (qn ((yb _ _).trans d.symm))) rfl rfl rfl rfl rfl rfl i6 ?_);refine wd [23] ?_)
   all_goals exact u6 sub i_
  refine O1 ?_ ?_<;>intro l
  ·simp only[kw] at l;have x:j<s.length:=(by have:=qr (a.symm.trans l.1);omega);refine O2 ?_;refine f_ ((p8 rfl rfl qb).eq (v':=.int .i64 ((j+1:Nat):Int)) (by congr 1)) ?_;refine E6 ?_;refine l8 (j+1) ⟨by omega,by omega,fun i h t=>?_⟩ qb ?_ ?_
   ·rcases kd.1 t with y|rfl
    ·exact k i h y
    ·rw[<-d];exact l.2
   ·exact sub
   ·intro w n;exact n
  ·have m:j<s.length->(!w.contains (s.getD j 0))=false:=fun C=>by
    have:q=true:=a.trans qk;rw[this,Kd] at l;rw[<-d];exact l
   obtain⟨r,z⟩:=Az (f:=fun c=>!w.contains c) g (.inl o) k m;have e:od s w ⟨p,true⟩=((s.drop p).take (j-p),⟨j,true⟩):=by
    unfold od FB;rw[zu rfl];simp only;rw[<-z,r]
   rw[e];refine u7 ?_;refine zY [3,8] [] 11 ?_;refine wd [0,1,2,3,4,5,6,7,8] ?_;refine w_ 9 rfl ((H4 rfl rfl rfl qb).eq (v':=B ((s.drop p).take (j-p))) (jk B (jJ g))) ?_;refine wd [10] ?_;refine A3 ?_;exact d_ rfl rfl [qE b s j true] qh i_
theorem EF(s:Bs)(hs:s.length<=1000000000000):Pu prog 44 [B s] (fun _=>True) (.bool (kQ s)):=by
 refine b_ 27 func44 rfl rfl rfl ?_;intro F _;refine O2 ?_;refine o9 (ι:=Nat) (fun k=>k<=s.length/\∀j,j<k->gh (s.getD j 0)=true) (fun k=>[(0,B s),(5,.int .i64 (s.length:Nat)),(6,.int .i64 (k:Nat))]) (fun _=>[]) (fun k=>s.length-k) 0 ⟨by omega,fun j h=>by omega⟩ ?_ ?_ ?_
 ·exact sub
 ·intro w i;exact i
 rintro k ⟨z,a⟩;refine R6 ?_ ?_<;>intro h
 ·have l:k<s.length:=by simp at h;omega
  obtain⟨m,b⟩:=o7 (decide (((s.getD k 0).toNat:Int)<32));obtain⟨q,c⟩:=o7 (decide ((126:Int)<((s.getD k 0).toNat:Nat)));have r:gh (s.getD k 0)=!(m||q):=by
   rw[b,c,Z5];simp only[gh,kw,Kv,Q0,jx,Zd];omega
  refine z_ ?_;refine y6 [(0,B s),(5,.int .i64 (s.length:Nat)),(6,.int .i64 (k:Nat)),(18,.bool (m||q))] [] ?_ ?_
  ·cases m
   all_goals (
    refine z_ ?_;refine f_ ((A6 rfl rfl qb).eq (v':=U8 (s.getD k 0)) (by simp only[jc])) ?_;refine f_ ((F5 rfl rfl).eb b) ?_;refine E6 ?_;(first|refine u_ ?_|(refine v_ ?_;refine f_ ((A6 rfl rfl qb).eq (v':=U8 (s.getD k 0)) (by simp only[jc])) ?_));(first|refine u_ ?_|(refine v_ ?_;refine f_ ((E1 rfl rfl).eb c) ?_));refine p9 ?_)
   all_goals exact u6 sub i_
  refine O1 ?_ ?_<;>intro g
  ·have e:kQ s=false:=by
    unfold kQ;rw[xW (p:=gh) l (by rw[r,g];rfl)];rfl
   rw[e];refine C8 ?_;exact d_ rfl rfl [] qh (fun _ h=>h)
  ·refine z_ ?_;refine l8 (k+1) ⟨by omega,fun j u=>?_⟩ qb ?_ ?_
   ·rcases kd.1 u with v|rfl
    ·exact a j v
    ·rw[r,g];rfl
   ·exact sub
   ·intro w i;exact i
 have n:k=s.length:=by simp at h;omega
 subst n;obtain⟨o,d⟩:=o7 (!decide (s=[]));obtain⟨t,f⟩:=o7 (decide (((s.length:Nat):Int)<=512));have e:kQ s=(o&&t):=by
  unfold kQ;have x:s.all gh=true:=Av a;have g:(!s.isEmpty)=o:=by rw[d];cases s<;>simp
  have y:decide (s.length<=512)=t:=by rw[f];exact zc.mpr qb
  rw[x,g,y,Kd]
 rw[e];clear e;refine u7 ?_
 cases o
 all_goals (
  refine p9 ?_;refine f_ ((E7 rfl rfl).eb d) ?_;refine E6 ?_;(first|refine u_ ?_|(refine v_ ?_;refine f_ ((G1 rfl rfl).eb f) ?_));refine z_ ?_)
 all_goals (refine A3 ?_;exact d_ rfl rfl [] qh (fun _ h=>h))
theorem sK(k:Nat)(a:k<4):Pu prog 35 [.int .i64 ((k:Int)+1)] (fun _=>True) (B (Fx.getD k [])):=by
 refine b_ 7 func35 rfl rfl rfl ?_;intro F _;refine xp ?_;refine f_ (cB (v:=.agg #[B [79,75],B [78,79],B [66,65,68],B [66,89,69]]) rfl (fun w=>run_build w _ _ _ i6)) ?_;refine p9 ?_;refine f_ ((D_ rfl rfl qb).eq (v':=.int .i64 (k:Nat)) (by congr 1;omega)) ?_;refine f_ ((ez k rfl rfl rfl qb (v:=B (Fx.getD k [])) (by have c:k=0\/k=1\/k=2\/k=3:=qb;rcases c with rfl|rfl|rfl|rfl<;>rfl))) ?_;refine C8 ?_;exact d_ rfl rfl [] qh (fun _ h=>h)
abbrev qF:Bs:=[98,32,79,75,32,91,82,69,65,68,45,87,82,73,84,69,93,32,100,111,110,101,13,10]
abbrev r5:RR:=⟨1,[98],[82,69,65,68,45,87,82,73,84,69],[100,111,110,101],0,[],0,[],[],[]⟩
abbrev Tg(x:RL)(h:l9):Prop:=Gl h/\fB r5 x h
theorem xh(b p:Nat)(w:Bs){q:Bool}{p':Nat}(hp:Nat.ble p 24=true)(a:Nat.ble w.length 100=true)(e:mv qF w ⟨p,true⟩=(q,⟨p',true⟩)):Ct prog 42 [m6 b,B w] (fun _=>True) [qE b qF p true] (fun v A=>v=.bool q/\A=[qE b qF p' true]):=by
 have h:=Ja b qF w p true qp (Zu hp) (jg (Zu a) qp);rw[e] at h;exact h
theorem uC(b p:Nat)(w:Bs){p':Nat}(hp:Nat.ble p 24=true)(a:Nat.ble w.length 100=true)(e:FA qF w ⟨p,true⟩=⟨p',true⟩):Ct prog 46 [m6 b,B w] (fun _=>True) [qE b qF p true] (fun v A=>v=.tuple #[]/\A=[qE b qF p' true]):=by
 have h:=EE b qF w p true qp (Zu hp) (jg (Zu a) qp);rw[e] at h;exact h
theorem nE(b p:Nat)(w:Bs){t:Bs}{p':Nat}(hp:Nat.ble p 24=true)(a:Nat.ble w.length 100=true)(e:od qF w ⟨p,true⟩=(t,⟨p',true⟩)):Ct prog 43 [m6 b,B w] (fun _=>True) [qE b qF p true] (fun v A=>v=B t/\A=[qE b qF p' true]):=by
 have h:=Je b qF w p true qp (Zu hp) (jg (Zu a) qp);rw[e] at h;exact h
theorem BV{s:Bs}(h:kQ s=true)(hs:Nat.ble s.length 100=true):Pu prog 44 [B s] (fun _=>True) (.bool true):=by
 have k:=EF s (jg (Zu hs) qp);rw[h] at k;exact k
theorem PR(b:Nat):Ct prog 49 [m6 b,B [98]] (fun _=>True) [qE b qF 2 true] (fun v A=>v=Ki r5 L0/\A=[qE b qF 22 true]):=by
 refine b_ 79 func49 rfl rfl rfl ?_;intro F _;refine p9 ?_;intro a;refine u7 ?_;refine E6 ?_;intro c;refine z_ ?_;refine x4 [pg c ⟨0,[98],[],[],0,[],0,[],[],[]⟩ L0,pg a R0 L0] rfl (nE b 2 [32,13] (t:=[79,75]) (p':=4) rfl rfl i6) (fun w d=>d.perm (kz (l₁:=[_,_]) (l₂:=[_]))) qw rfl ?_;rintro v A ⟨rfl,rfl⟩;refine z_ ?_;refine o9 (ι:=Nat) (fun k=>k<=4) (fun k=>[(0,m6 b),(1,B [98]),(4,m6 a),(5,m6 c),(6,B [79,75]),(7,.int .i64 ((k:Int)+1))]) (fun k=>[qE b qF 4 true,pg c ⟨((min k 1:Nat):Int),[98],[],[],0,[],0,[],[],[]⟩ L0,pg a R0 L0]) (fun k=>4-k) 0 (zw _) sub i_ ?_;intro k l;refine bt ?_ ?_<;>intro h
 ·have e:k<4:=by have:=qr h;omega
  have j:decide (Fx.getD k []=[79,75])=decide (k=0):=by
   have:k=0\/k=1\/k=2\/k=3:=(by omega);rcases this with rfl|rfl|rfl|rfl<;>rfl
  refine J_ 0 ?_;refine y6 [(0,m6 b),(1,B [98]),(4,m6 a),(5,m6 c),(6,B [79,75]),(7,.int .i64 ((k:Int)+1))] [qE b qF 4 true,pg c ⟨1,[98],[],[],0,[],0,[],[],[]⟩ L0,pg a R0 L0] ?_ ?_
  ·refine o0 ?_;refine p9 ?_;refine e_ rfl (sK k e) qw rfl ?_;refine p9 ?_;refine f_ ((C5 rfl rfl).eq (qn j)) ?_;refine O1 ?_ ?_<;>intro i
   ·have f:k=0:=qr i;subst f;refine E6 ?_;exact u6 sub i_
   ·have f:min k 1=1:=(by have:=zq i;omega);rw[f];refine u7 ?_;exact u6 sub i_
  refine p9 ?_;refine f_ ((p8 rfl rfl qb).eq (v':=.int .i64 ((((k+1:Nat):Int))+1)) (by congr 1)) ?_;refine p9 ?_;exact l8 (k+1) qb qb sub (fun w d=>by rw[show min (k+1) 1=1 by omega];exact d)
 have g:k=4:=by have:=zq h;omega
 subst g;refine p9 ?_;refine x4 _ rfl (uC b 4 [32] (p':=5) rfl rfl i6) i_ qw rfl ?_;rintro v A ⟨rfl,rfl⟩;refine p9 ?_;refine x4 _ rfl (xh b 5 [91] (q:=true) (p':=6) rfl rfl i6) i_ qw rfl ?_;rintro v A ⟨rfl,rfl⟩;refine p9 ?_;refine x4 _ rfl (nE b 6 [93,13] (t:=[82,69,65,68,45,87,82,73,84,69]) (p':=16) rfl rfl i6) i_ qw rfl ?_;rintro v A ⟨rfl,rfl⟩;refine E6 ?_;refine x4 _ rfl (uC b 16 [93,32] (p':=18) rfl rfl i6) i_ qw rfl ?_;rintro v A ⟨rfl,rfl⟩;refine wk 8 ?_;(first|refine u_ ?_|(refine v_ ?_;refine e_ rfl (BV (s:=[82,69,65,68,45,87,82,73,84,69]) i6 rfl) qw rfl ?_));refine aF ?_;refine x4 _ rfl (nE b 18 [13] (t:=[100,111,110,101]) (p':=22) rfl rfl i6) i_ qw rfl ?_;rintro v A ⟨rfl,rfl⟩;refine wk 10 ?_;(first|refine u_ ?_|(refine v_ ?_;refine f_ ((E1 rfl rfl).eq (v':=.bool true) rfl) ?_));refine O2 ?_;(first|refine u_ ?_|(refine v_ ?_;refine e_ rfl (BV (s:=[100,111,110,101]) i6 rfl) qw rfl ?_));refine O2 ?_;(first|refine u_ ?_|(refine v_ ?_;refine f_ ((A6 rfl rfl qp).eq (v':=U8 100) rfl) ?_));(first|refine u_ ?_|(refine v_ ?_;refine f_ ((M2 rfl rfl).eq (v':=.bool true) rfl) ?_));refine O2 ?_;(first|refine u_ ?_|(refine v_ ?_;refine f_ ((M2 rfl rfl).eq (v':=.bool true) rfl) ?_));refine wk 10 ?_;refine A3 ?_;exact G4 rfl rfl ud rfl _ qh (fun w d=>d.left (A:=[_]))
theorem PS:Ct prog 23 [B qF] Gl [] (fun v A=>v=.tuple #[Ki r5 L0,.int .i64 24,.int .i64 0]/\A=[]):=by
 refine b_ 85 func23 rfl rfl rfl ?_;intro F hg;refine p9 ?_;intro e;refine E6 ?_;refine f_ ((cB (v:=.agg #[B qF,.int .i64 0,.bool true]) rfl (fun w=>run_build w _ _ _ i6))) ?_;refine p9 ?_;intro a;refine p9 ?_;refine p9 ?_;intro d;refine p9 ?_;refine x4 [pg d R0 L0,pg e R0 L0] rfl (xh a 0 (Fy++Og) (q:=false) (p':=0) rfl rfl i6) (fun w c=>c.perm (.swap _ _ _)) qw rfl ?_;rintro v A ⟨rfl,rfl⟩;refine z_ ?_;refine x4 _ rfl (xh a 0 (a0q++Og) (q:=false) (p':=0) rfl rfl i6) i_ qw rfl ?_;rintro v A ⟨rfl,rfl⟩;refine z_ ?_;refine x4 _ rfl (xh a 0 [43,32] (q:=false) (p':=0) rfl rfl i6) i_ qw rfl ?_;rintro v A ⟨rfl,rfl⟩;refine z_ ?_;refine x4 _ rfl (xh a 0 [42,32] (q:=false) (p':=0) rfl rfl i6) i_ qw rfl ?_;rintro v A ⟨rfl,rfl⟩;refine z_ ?_;refine x4 _ rfl (nE a 0 [32,13] (t:=[98]) (p':=1) rfl rfl i6) i_ qw rfl ?_;rintro v A ⟨rfl,rfl⟩;refine z_ ?_;refine x4 _ rfl (uC a 1 [32] (p':=2) rfl rfl i6) i_ qw rfl ?_;rintro v A ⟨rfl,rfl⟩;refine u7 ?_;have b:=oM [98] qp;rw[show iU [98]=true from by kernel_rfl] at b;refine wk 7 ?_;(first|refine u_ ?_|(refine v_ ?_;refine e_ rfl b (fun h f g=>trivial) rfl ?_));refine O2 ?_;(first|refine u_ ?_|(refine v_ ?_;refine f_ ((G1 rfl rfl).eq (v':=.bool true) rfl) ?_));refine E6 ?_;(first|refine u_ ?_|(refine v_ ?_;refine e_ rfl (aa [98] 43) qw rfl ?_));(first|refine u_ ?_|(refine v_ ?_;refine f_ ((F5 rfl rfl).eq (v':=.bool true) i6) ?_));refine cH ?_;refine x4 _ rfl (PR a) i_ qw rfl ?_;rintro v A ⟨rfl,rfl⟩;refine z_ ?_;refine x4 _ rfl (uC a 22 Og (p':=24) rfl rfl i6) i_ qw rfl ?_;rintro v A ⟨rfl,rfl⟩;refine aF ?_;refine D7 [0,4] [5] [qE a qF 24 true,pg d r5 L0] 8 ?_;refine wd [0,1,2,3,4,5,6,7] ?_;refine A3 ?_;exact Fa rfl rfl rfl rfl ud rfl _ qh (fun w c=>c.dropAll)
theorem PT(x:RL):Pu prog 22 [Ki r5 x] (Tg x) (B [98,32,79,75,32,91,82,69,65,68,45,87,82,73,84,69,93,32,100,111,110,101]):=by
 refine b_ 159 func22 rfl rfl rfl ?_;intro F c;refine p9 ?_;intro a;refine E6 ?_;refine T1 ?_;refine f_ ((p7 rfl rfl).eq (v':=.bool true) rfl) ?_;refine p9 ?_;refine D7 [1,4] [5] [pg a r5 x] 9 ?_;refine wd [0,1] ?_;refine w_ 2 rfl ((G7 rfl rfl qp).eq (v':=B [98,32]) rfl) ?_;refine wd [3,4] ?_;refine h_ 5 rfl i6 ?_;refine e_ (v:=B [79,75]) rfl (sK 0 qp) qw rfl ?_;refine Y5 ?_;refine w_ 6 rfl ((G7 rfl rfl qp).eq (v':=B [98,32,79,75]) rfl) ?_;refine w_ 7 rfl ((G7 rfl rfl qp).eq (v':=B [98,32,79,75,32]) rfl) ?_;refine wd [8] ?_;refine z_ ?_;refine f_ ((E7 rfl rfl).eq (v':=.bool true) rfl) ?_;refine E6 ?_;refine f_ ((G7 rfl rfl qp).eq (v':=B [91,82,69,65,68,45,87,82,73,84,69]) rfl) ?_;refine f_ ((G7 rfl rfl qp).eq (v':=B [91,82,69,65,68,45,87,82,73,84,69,93,32]) rfl) ?_;refine f_ ((G7 rfl rfl qp).eq (v':=B [98,32,79,75,32,91,82,69,65,68,45,87,82,73,84,69,93,32]) rfl) ?_;refine O2 ?_;refine f_ ((G7 rfl rfl qp).eq (v':=B [98,32,79,75,32,91,82,69,65,68,45,87,82,73,84,69,93,32,100,111,110,101]) rfl) ?_;refine C8 ?_;exact d_ rfl rfl [] qh (fun w b=>b.dropAll)
theorem Th(a b:Option Addr)(c d:Nat):Pu prog 51 [.slice a 0 c,.slice b 0 d] (fun _=>True) (.bool true):=by
 refine b_ 26 func51 rfl rfl rfl ?_;intro F _;refine wk 9 ?_;refine o9 (ι:=Unit) (fun _=>True) (fun _=>[(12,.int .i64 0),(13,.int .i64 0)]) (fun _=>[]) (fun _=>0) () trivial sub i_ ?_;intro _ _;refine L6 ?_;exact d_ rfl rfl [] qh (fun _ h=>h)
theorem Ti(a b:Option Addr)(c d:Nat):Pu prog 52 [.slice a 0 c,.slice b 0 d] (fun _=>True) (.bool true):=by
 refine b_ 26 func52 rfl rfl rfl ?_;intro F _;refine wk 9 ?_;refine o9 (ι:=Unit) (fun _=>True) (fun _=>[(12,.int .i64 0),(13,.int .i64 0)]) (fun _=>[]) (fun _=>0) () trivial sub i_ ?_;intro _ _;refine L6 ?_;exact d_ rfl rfl [] qh (fun _ h=>h)
theorem Tj(a b:Option Addr)(c d:Nat)(f:Value):Pu prog 53 [.slice a 0 c,.slice b 0 d,f] (fun _=>True) (.bool true):=by
 refine b_ 32 func53 rfl rfl rfl ?_;intro F _;refine wk 9 ?_;refine o9 (ι:=Unit) (fun _=>True) (fun _=>[(16,.int .i64 0),(17,.int .i64 0)]) (fun _=>[]) (fun _=>0) () trivial sub i_ ?_;intro _ _;refine L6 ?_;exact d_ rfl rfl [] qh (fun _ h=>h)
theorem PU(x:RL)(hx:x.vs=[]):Pu prog 24 [Ki r5 x,Ki r5 L0] (fun _=>True) (.bool true):=by
 obtain⟨b,c,d,e,f,g,h⟩:=x;simp only at hx;subst hx;refine b_ 75 func24 rfl rfl rfl ?_;intro F _;refine p9 ?_;intro i;refine p9 ?_;intro j;refine cH ?_;refine f_ ((p7 rfl rfl).eq (v':=.bool true) rfl) ?_;refine aF ?_;(first|refine u_ ?_|(refine v_ ?_;refine f_ ((C5 rfl rfl).eq (v':=.bool true) rfl) ?_));refine cH ?_;(first|refine u_ ?_|(refine v_ ?_;refine f_ ((C5 rfl rfl).eq (v':=.bool true) rfl) ?_));refine cH ?_;(first|refine u_ ?_|(refine v_ ?_;refine f_ ((C5 rfl rfl).eq (v':=.bool true) rfl) ?_));refine cH ?_;(first|refine u_ ?_|(refine v_ ?_;refine f_ ((p7 rfl rfl).eq (v':=.bool true) rfl) ?_));refine cH ?_;(first|refine u_ ?_|(refine v_ ?_;refine e_ rfl (Ti _ _ _ _) qw rfl ?_));refine cH ?_;(first|refine u_ ?_|(refine v_ ?_;refine e_ rfl (Th _ _ _ _) qw rfl ?_));refine cH ?_;(first|refine u_ ?_|(refine v_ ?_;refine f_ ((C5 rfl rfl).eq (v':=.bool true) rfl) ?_));refine wk 7 ?_;(first|refine u_ ?_|(refine v_ ?_;refine e_ rfl (Tj _ _ _ _ _) qw rfl ?_));refine cH ?_;(first|refine u_ ?_|(refine v_ ?_;refine f_ ((p7 rfl rfl).eq (v':=.bool true) rfl) ?_));refine L6 ?_;exact d_ rfl rfl [] qh (fun w a=>a.dropAll)
theorem Nk(x:RL)(hx:x.vs=[]):Pu prog 14 [Ki r5 x] (Tg x) (.tuple #[B qF,.int .i64 0]):=by
 refine b_ 40 func14 rfl rfl rfl ?_;intro F b;refine p9 ?_;intro c;refine O2 ?_;refine f_ ((F5 rfl rfl).eq (v':=.bool false) rfl) ?_;refine E6 ?_;(first|refine u_ ?_|(refine v_ ?_;refine f_ ((E1 rfl rfl).eq (v':=.bool false) rfl) ?_));refine z_ ?_;refine e_ rfl (PT x) (fun h a d=>⟨b.1.le a,b.2.le a⟩) rfl ?_;refine f_ ((G7 rfl rfl qp).eq (v':=B qF) rfl) ?_;refine z_ ?_;refine x4 [pg c r5 x] rfl PS i_ (fun h a d=>b.1.le a) rfl ?_;rintro v A ⟨rfl,rfl⟩;refine O2 ?_;refine i7 rfl ?_;intro f;refine O2 ?_;refine f_ ((M2 rfl rfl).eq (v':=.bool false) rfl) ?_;refine O2 ?_;(first|refine u_ ?_|(refine v_ ?_;refine f_ ((M2 rfl rfl).eq (v':=.bool false) rfl) ?_));refine O2 ?_;(first|refine u_ ?_|(refine v_ ?_;refine e_ rfl (PU x hx) qw rfl ?_));refine Jo ?_;exact q_ rfl rfl rfl [] qh (fun w e=>e.dropAll)
abbrev xi:List Bs:=[mN,lG,EB]
def r5a:RR:={fb (fW lG).tag with code:=aD 8}
theorem PV:r5a=r5:=by kernel_rfl
theorem BW{i:Nat}(a:i<xi.length):JH.take (2*(i+1))=JH.take (2*i)++[aL xi[i]]++[aC]:=by
 have:i=0\/i=1\/i=2:=by have:xi.length=3:=rfl;omega
 rcases this with rfl|rfl|rfl<;>rfl
theorem Jf:∀a∈JH,mM a:=fun a ha=>by
 have b:RqI cL:=⟨⟨by decide,by decide,by decide,by decide,qy⟩,fun e=>by cases e⟩;simp only[JH,kx,List.not_mem_nil,or_false] at ha;rcases ha with rfl|rfl|rfl|rfl|rfl|rfl<;>exact⟨by decide,b⟩
theorem xj:Cm prog 9 [] Gl [] (fun h v A=>v=.bool true/\A=[]):=by
 refine x7 89 func9 rfl rfl rfl ?_;rintro F R hg;refine xp ?_;refine A8 xa trivial ?_;rintro v A F0 h6 ⟨m,rfl,rfl,hm,q9⟩;refine i7 rfl ?_;intro g1;refine xp ?_;refine M4 rfl ?_;intro a8;refine xp ?_;refine x5 rfl rfl rfl rfl rfl rfl (xs:=xi.flatMap xu) rfl rfl ?_;intro a9 x0;refine J_ 2 ?_;have h7:∃ad,a9=some ad:=x0;refine B8 (Z:=[.own (.slice a9 3 3) 9 1 (xi.flatMap xu)]) tk fun F1 X ⟨bs,hb⟩=>?_;have x1:n9 F1.heap a9 (xi.flatMap xu):=A1.rd hb ud;clear hb;refine S6 (fun(e:List TN) (o:AC) (w:WM) (k:l6)=>F.le k/\bB (wY m) JH e w/\n9 k.heap o.1 (e.flatMap fh)/\∀t∈e,rgzq t k.heap) (fun e o _ _=>[(1,m6 g1),(2,.slice o.1 e.length o.2)]) (fun _ _ _ k=>k) (fun e o w _=>gZ g1 w::R) ?_ ?_
 ·refine o0 ?_;refine bD (ι:=Nat×List TN×AC×WM×l6) (fun i=>i.1<=3/\F1.le i.2.2.2.2/\bB (wY m) (JH.take (2*i.1)) i.2.1 i.2.2.2.1/\lD i.2.2.2.1 i.2.2.2.2.heap/\n9 i.2.2.2.2.heap i.2.2.1.1 (i.2.1.flatMap fh)/\∀t∈i.2.1,rgzq t i.2.2.2.2.heap) (fun i=>[(1,m6 g1),(2,.slice i.2.2.1.1 i.2.1.length i.2.2.1.2),(9,.slice a9 3 3),(10,.int .i64 3),(11,.int .i64 (i.1:Nat))]) (fun i=>i.2.2.2.2)
   (fun i=>match i with|(_,e,o,w,_)=>gZ g1 w::R) (fun i=>3-i.1) (0,[],(a8,0),wY m,F1) ⟨zw _,l6.le_refl _,.nil,⟨hg.le (h6.trans X).heap,n9.nil _ _,⟨n9.nil _ _,fd.zero _⟩,Mn.le X.heap q9,⟨n9.nil _ _,n9.nil _ _⟩,n9.nil _ _⟩,n9.nil _ _,qy⟩ sub rfl (fun v c=>C1 (A:=[_]) (J:=[_]) tk c) ?_
  rintro⟨j,e,o,w,k⟩ ⟨hj,u,n,h8,d,p⟩;simp only at hj u n h8 d p;have h9:(JH.take (2*j)).length=2*j:=by rw[zn];show min (2*j) 6=_;omega
  have x:=uz n (BR hm) (fun a h=>Jf a (K7 h)) (by rw[h9];omega);rw[h9] at x;have v1:e.length=2*j:=x.2;refine R6 ?_ ?_<;>intro h
  ·have y:j<xi.length:=(by have:=qr h;show j<3;omega);have v2:j<3:=y;obtain⟨s,hs⟩:=o7 (xi[j]);have k0:mM (aL s):=Jf _ (K7 (i:=2*(j+1)) (by rw[BW y,<-hs];simp));have x2:mM aC:=Jf _ (by simp[JH]);have x3:=BU w (aL s) cP e o.1 o.2 (zI x.1 k0 qb) qb;refine J_ 0 ?_;refine S6 (fun(f:List TN) (S:AC) (T:WM) (z:l6)=>F1.le z/\bB (wY m) (JH.take (2*(j+1))) f T/\lD T z.heap/\n9 z.heap S.1 (f.flatMap fh)/\∀t∈f,rgzq t z.heap) (fun f S _ _=>[(1,m6 g1),(2,.slice S.1 f.length S.2),(9,.slice a9 3 3),(10,.int .i64 3),(11,.int .i64 (j:Nat))]) (fun _ _ _ z=>z) (fun _ _ T _=>gZ g1 T::R) ?_ ?_
   ·refine o0 ?_;refine C6 ?_;refine f_ (m8 rfl h7 rfl qb) ?_;refine r_ ((i8 rfl (fun v c=>dH (C:=xu) ((x1.le u.heap).le c.keep) cV y (j:=0) rfl x8)).eq (v':=B s) (by rw[hs])) ?_;refine O2 ?_;refine f_ (y7 (ps:=[(0,.const (.int .i64 1)),(1,.tmp 18)]) (vs:=[(0,.int .i64 1),(1,B s)]) (cells:=#[.int .i64 1,B s]) rfl i6) ?_;refine f_ (y7 (ps:=[(1,.tmp 19)]) (vs:=[(1,.agg #[.int .i64 1,B s])]) (cells:=(ER (aL s) cP).toArray) rfl i6) ?_;refine A8 x3 ⟨h8,⟨n9.nil _ _,n9.nil _ _⟩,d⟩ ?_;rintro v A z D ⟨w1,t1,o1,rfl,rfl,Y,U,k8,k9⟩;refine aF ?_;have q0:=II x.1 k0 qb U;have x9:=BU w1 aC cP (e++[t1]) o1.1 o1.2 (zI q0 x2 qb) (by rw[zz];simp only[zx,z6];omega);refine z_ ?_;refine f_ (y7 (ps:=[(0,.const (.int .i64 1))]) (vs:=[(0,.int .i64 1)]) (cells:=(ER aC cP).toArray) rfl i6) ?_;refine A8 x9 ⟨k8,⟨n9.nil _ _,n9.nil _ _⟩,Y⟩ ?_;rintro v A F4 h0 ⟨T,t2,S,rfl,rfl,h1,q1,q3,q5⟩;refine aF ?_;exact y4 (e++[t1]++[t2],S,T,F4) ⟨(u.trans D).trans h0,by rw[BW y,<-hs];exact .snoc (.snoc n U) q1,q3,h1,fun q M=>by
     rcases zp.1 M with M|M
     ·rcases zp.1 M with M|M
      ·exact Mn.le (D.trans h0).heap (p q M)
      ·rw[zg.1 M];exact Mn.le h0.heap k9
     ·rw[zg.1 M];exact q5⟩ rfl (fun v c=>C1 (A:=[_]) (J:=[]) tk c)
   rintro f S T z ⟨D,y0,y1,y2,y3⟩;refine z_ ?_;exact O_ (i:=(j,e,o,w,k)) (j+1,f,S,T,z) ⟨by simp only;omega,D,y0,y1,y2,y3⟩ qg sub rfl (fun v c=>c)
  ·refine u7 ?_;have z0:j=3:=(by have:=zq h;omega);subst z0;exact y4 (e,o,w,k) ⟨(h6.trans X).trans u,n,d,p⟩ rfl (fun v c=>c)
 rintro e o w k ⟨q6,n,d,p⟩;obtain⟨t1,t2,t3,r,t5,t6,O,p1,p2,p3,p4,p5⟩:=zL hm n;have v0:e.length=6:=by rw[O];rfl
 have Q:∃ad,o.1=some ad:=A2 (i:=0) d S7 qp qb;have q2:=p t2 (by rw[O];simp);have q4:=p r (by rw[O];simp);have n2:t2.y.rl.length=1:=by rw[<-p1,q2.a5b,zm]
 have n4:r.y.rl.length=6:=by rw[<-p2,q4.a5b,zm]
 have q7:=A2 (i:=5) q4.row cR qp qb;have h5:5<r.y.rl.length:=by omega
 have h2:(r.y.rl[5]).1=r5a:=by
  have:=p3;rw[q4.a5b,zb,Zx,zj h5] at this;exact this
 obtain⟨V,h3⟩:=o7 (r.y.rl[5]);rw[<-h3] at h2;have g:n9 k.heap o.1 ([t1,t2,t3,r,t5,t6].flatMap fh):=by rw[<-O];exact d
 have z2:∀{v:World} {H:List As},Hp k v H->L4 (hp v) (M8 o.1 158) [.slice t2.y.da t2.y.rl.length t2.y.dc]:=fun c=>dH (C:=fh) (l:=[t1,t2,t3,r,t5,t6]) (i:=1) (j:=59) (g.le c.keep) S7 (by show 1<6;decide) rfl rfl;have q8:∀{v:World} {H:List As},Hp k v H->L4 (hp v) (M8 o.1 356) [.slice r.y.da r.y.rl.length r.y.dc]:=fun c=>dH (C:=fh) (l:=[t1,t2,t3,r,t5,t6]) (i:=3) (j:=59) (g.le c.keep) S7 (by show 3<6;decide) rfl rfl;have u0:∀{v:World} {H:List As},Hp k v H->L4 (hp v) (M8 o.1 576) [.bool true]:=fun c=>by
  have:=dH (C:=fh) (l:=[t1,t2,t3,r,t5,t6]) (i:=5) (j:=81) (v:=.bool t6.d.close) (q:=576) (g.le c.keep) S7 (by show 5<6;decide) rfl rfl
  rwa [p5] at this
 have h4:=q4.rep _ (zy h5);rw[<-h3] at h4;have u1:V.2.vs=[]:=by
  have:=h4.vals;rw[h2] at this;exact List.map_eq_nil_iff.1 this.symm
 have u2:Pu prog 14 [Ki V.1 V.2] (fun h=>Gl h/\fB V.1 V.2 h) (.tuple #[B qF,.int .i64 0]):=by rw[h2,PV];exact Nk V.2 u1
 have u8:=hg.le q6.heap;refine z_ ?_;refine f_ ((M2 rfl rfl).eq (v':=.bool false) (jk (fun b=>Value.bool (!b)) (jq (show((e.length:Nat):Int)=6 by omega)))) ?_;refine z_ ?_;(first|refine u_ ?_|(refine v_ ?_;refine f_ (m8 rfl Q rfl qb) ?_));refine z_ ?_;(first|refine u_ ?_|(refine v_ ?_;refine r_ (i8 rfl (fun v c=>z2 c)) ?_));refine p9 ?_;(first|refine u_ ?_|(refine v_ ?_;refine f_ ((M2 rfl rfl).eq (v':=.bool false) (jk (fun b=>Value.bool (!b)) (jq (show((t2.y.rl.length:Nat):Int)=1 by omega)))) ?_));refine E6 ?_;(first|refine u_ ?_|(refine v_ ?_;refine f_ (m8 rfl Q rfl qb) ?_));refine z_ ?_;(first|refine u_ ?_|(refine v_ ?_;refine r_ (i8 rfl (fun v c=>q8 c)) ?_));refine p9 ?_;(first|refine u_ ?_|(refine v_ ?_;refine f_ ((M2 rfl rfl).eq (v':=.bool false) (jk (fun b=>Value.bool (!b)) (jq (show((r.y.rl.length:Nat):Int)=6 by omega)))) ?_));refine aF ?_;(first|refine u_ ?_|(refine v_ ?_;refine f_ ((M2 rfl rfl).eq (v':=.bool false) (jk (fun b=>Value.bool (!b)) (jq (show((w.s.a4S:Nat):Int)=3 by omega)))) ?_));refine E6 ?_;(first|refine u_ ?_|(refine v_ ?_;refine f_ (m8 rfl Q rfl qb) ?_));refine z_ ?_;(first|refine u_ ?_|(refine v_ ?_;refine r_ (i8 rfl (fun v c=>u0 c)) ?_));refine E6 ?_;refine f_ (m8 rfl Q rfl qb) ?_;refine z_ ?_;refine r_ (i8 rfl (fun v c=>q8 c)) ?_;refine f_ (m8 rfl q7 rfl qb) ?_;refine r_ ((w8 rfl (fun v c=>fm (C:=Ah) (i:=5) (q4.row.le c.keep) cR qp h5 x8) (cR _)).eq (v':=Ki V.1 V.2) (by rw[h3])) ?_;refine e_ rfl u2 (fun h hh _=>⟨u8.le hh,h4.le hh⟩) rfl ?_;refine cH ?_;refine f_ ((p7 rfl rfl).eq (v':=.bool true) rfl) ?_;refine z_ ?_;(first|refine u_ ?_|(refine v_ ?_;refine f_ ((C5 rfl rfl).eq (v':=.bool true) (qn (jq rfl))) ?_));refine z_ ?_;(first|refine u_ ?_|(refine v_ ?_;refine c_ Ii qw ?_;rintro v A ⟨ag,rfl,rfl⟩));refine p9 ?_;(first|refine u_ ?_|(refine v_ ?_;refine f_ ((p7 rfl rfl).eq (v':=.bool true) rfl) ?_));refine L6 ?_;refine G9 (A:=[]) (v:=.bool true) q6 qh ?_;exact d_ rfl rfl _ qh (fun v c=>C1 (A:=[]) (J:=[_,_]) tk c)
theorem BY:∀(b:List TN) (last l:Nat),an last b=some l->l<=last+b.length
 |[],last,l,h=>by simp only[an,Qg] at h;simp;omega
 |t::b,last,l,h=>by
  simp only[an] at h;obtain⟨k,a,c⟩:=zd.1 h;have f:=BY b k l c;have g:k<=last+1:=by
   unfold fX at a;simp only at a;have d:(if t.comes=true/\t.c.kind=7/\t.b.a4S=1 then 0 else last)<=last:=(by split<;>omega);generalize (if t.comes=true/\t.c.kind=7/\t.b.a4S=1 then 0 else last)=lx at a d;split at a
   ·injection a with a;omega
   split at a
   ·cases a
   split at a
   ·injection a with a;omega
   split at a
   ·cases a
   ·rename_i hc;injection a with a;have:t.d.req.num=lx+1:=Kx fun e=>hc (.inl e);omega
  simp only[zx];omega
theorem PW(t:TN):∀k u,(cQ t.d.req t.y.ql)[k]? =some u->(fh t)[61+k]? =some u:=fun k u hu=>by
 rw[<-Zz];show(cQ t.d.req t.y.ql++([.bool t.d.store,B t.d.body,.slice t.y.wa t.d.want.length t.y.wc,.bool t.d.close]++kK t.c t.k))[k]? =_;rw[jv (Qz.1 hu).1];exact hu
theorem EG{d:List TN}{c last:Nat}:∀{i:Nat} (g:i<d.length),an c (d.take i)=some last->(∃e,an c d=some e)->∃l,fX last d[i]=some l/\an c (d.take (i+1))=some l:=fun{i} g j ⟨e,m⟩=>by
 have h:an c (d.take (i+1))=(fX last d[i]):=by
  rw[kj g,sJ,j];rfl
 have n:∀(b a:List TN) (l:Nat),an l (a++b)=(an l a).bind fun l=>an l b:=fun b a=>by
  induction a with
  |nil=>intro l;simp[an]
  |cons x xs ih=>
   intro l;simp only[Qh,an]
   cases fX l x with
   |none=>rfl
   |some k=>simp only[zr];exact ih k
 have f:=n (d.drop (i+1)) (d.take (i+1)) c;rw[js,m,h] at f
 cases hn:fX last d[i] with
 |none=>rw[hn] at f;cases f
 |some l=>exact⟨l,rfl,by rw[h,hn]⟩
theorem numbers_cm(l:List lE)(la:Option Addr)(lc:Nat)(h6:zJ l):
  Cm prog 7 [.slice la l.length lc] (IP l la) [] (fun h v A=>v=.bool true/\A=[]):=by
 refine x7 99 func7 rfl rfl rfl ?_;rintro F R ⟨hg,V,X⟩;refine xp ?_;refine A8 xj hg ?_;rintro v A F0 d ⟨rfl,rfl⟩;refine E6 ?_;(first|refine u_ ?_|(refine v_ ?_;refine c_ (C:=[]) (IN l la lc) (fun h hh _=>⟨(V.le d.heap).le hh,fun p hp=>Mn.le hh (Mn.le d.heap (X p hp))⟩) ?_;rintro v A ⟨rfl,b,rfl,h7⟩));refine R6 ?_ ?_<;>intro h
 ·refine C6 ?_;refine A8 xj (hg.le d.heap) ?_;rintro v A F1 J ⟨rfl,rfl⟩;refine C8 ?_;refine G9 (A:=[]) (v:=.bool true) (d.trans J) qh ?_;exact d_ rfl rfl _ qh (fun v c=>c)
 obtain⟨Y,hB⟩:=h7 h;have M:=Ng h6 hB;refine p9 ?_;refine A8 (IM l la lc Y M) ⟨hg.le d.heap,V.le d.heap,fun p hp=>Mn.le d.heap (X p hp)⟩ ?_;rintro v A F1 J ⟨m,y,w,U,tc,rfl,rfl,r,q1,hm,Z⟩;refine p9 ?_;obtain⟨k9,h0,_⟩:=IZ Z (BR hm) Ni (fun a h=>by obtain⟨p,hp,rfl⟩:=jw.1 h;exact M p hp) (by rw[zm];omega);have q2:y.length<=120:=by
  have:=(uz Z (BR hm) (fun a h=>by obtain⟨p,hp,rfl⟩:=jw.1 h;exact M p hp) (by rw[zm];omega)).2;rw[zm] at this;omega
 refine p9 ?_;refine J_ 1 ?_;refine n7 (ι:=Unit) (fun _=>True) (fun _=>[]) (fun _=>R) ?_ ?_
 ·refine o0 ?_;refine o9 (ι:=Nat×Nat) (fun i=>i.1<=y.length/\an 0 (y.take i.1)=some i.2) (fun i=>[(3,.slice U y.length tc),(4,.int .u64 (i.2:Nat)),(5,.int .i64 (i.1:Nat))]) (fun _=>R) (fun i=>y.length-i.1) (0,0) ⟨zw _,rfl⟩ sub (fun v c=>c) ?_;rintro⟨j,f⟩ ⟨hj,hn⟩;simp only at hj hn;refine EH ?_ ?_<;>intro h
  ·have s:j<y.length:=(by have:=qr h;omega);have g:=A2 r S7 qp s;obtain⟨O,n,h8⟩:=EG s hn ⟨_,h0⟩;obtain⟨t,Q⟩:=o7 (y[j]);rw[<-Q] at n;have C1:∀{v:World} {H:List As} (k:Nat) (x:Value),(fh t)[k]? =some x->Hp F1 v H->L4 (hp v) (M8 U (j*99+k)) [x]:=fun k x hx c=>dH (C:=fh) (r.le c.keep) S7 s (by rw[<-Q];exact hx) rfl;have h9:∀{v:World} {H:List As},Hp F1 v H->L4 (hp v) (M8 U (j*99)) (fh t):=fun c=>by
    have:=fm (C:=fh) (r.le c.keep) S7 qp s (q:=j*99) rfl
    rwa [<-Q] at this
   obtain⟨c1,h1⟩:=o7 (t.comes);obtain⟨c2,h2⟩:=o7 (decide (t.c.kind=7));obtain⟨c3,h3⟩:=o7 (decide (t.b.a4S=1));obtain⟨a0,S⟩:=o7 (t.d.ask);obtain⟨a1,q3⟩:=o7 (t.a.a4X);obtain⟨a2,q4⟩:=o7 (t.b.a4X);obtain⟨q8,h4⟩:=o7 ((c1&&c2&&c3));obtain⟨o,T⟩:∃q:Nat,q=if t.comes=true/\t.c.kind=7/\t.b.a4S=1 then 0 else f:=⟨_,rfl⟩;have u:o=if q8=true then 0 else f:=by
    rw[T,h4,h1,h2,h3];simp only[kw,jx,and_assoc]
   have k0:fX f t=(if t.d.ask=false then some o else if t.a.a4X=true\/t.b.a4X=false then none else if t.d.req.op=1 then some o else if t.d.req.num≠o+1\/t.d.req.ses≠t.a.ses\/t.d.req.ses=0 then none else some t.d.req.num):=by
    unfold fX;rw[<-T]
   rw[k0] at n;refine J_ 0 ?_;refine n7 (ι:=Unit) (fun _=>True) (fun _=>[(3,.slice U y.length tc),(4,.int .u64 (O:Nat)),(5,.int .i64 (j:Nat))]) (fun _=>R) ?_ ?_
   ·refine o0 ?_;refine J_ 0 ?_;refine y6 [(3,.slice U y.length tc),(4,.int .u64 (f:Nat)),(5,.int .i64 (j:Nat)),(44,.bool q8)] R ?_ ?_
    ·clear u
     cases c1<;>cases c2
     all_goals (
      refine z_ ?_;refine f_ (m8 rfl g rfl qb) ?_;refine p9 ?_;refine r_ ((i8 rfl (fun v c=>C1 57 _ rfl c)).eb h1) ?_;refine E6 ?_;(first|refine u_ ?_|(refine v_ ?_;refine f_ (m8 rfl g rfl qb) ?_));refine z_ ?_;(first|refine u_ ?_|(refine v_ ?_;refine r_ (i8 rfl (fun v c=>C1 83 _ rfl c)) ?_));(first|refine u_ ?_|(refine v_ ?_;refine f_ ((p7 rfl rfl).eq (qn ((qz).trans h2.symm))) ?_));refine O2 ?_;(first|refine u_ ?_|(refine v_ ?_;refine f_ (m8 rfl g rfl qb) ?_));refine z_ ?_;(first|refine u_ ?_|(refine v_ ?_;refine r_ (i8 rfl (fun v c=>C1 27 _ rfl c)) ?_));(first|refine u_ ?_|(refine v_ ?_;refine f_ ((p7 rfl rfl).eq (v':=.bool c3) (qn ((qz).trans h3.symm))) ?_));refine p9 ?_)
     all_goals (subst h4;exact u6 sub (fun v c=>c))
    refine u7 ?_;refine n7 (ι:=Unit) (fun _=>True) (fun _=>[(3,.slice U y.length tc),(4,.int .u64 (o:Nat)),(5,.int .i64 (j:Nat))]) (fun _=>R) ?_ ?_
    ·refine o8 rfl ?_ ?_<;>intro h
     ·refine p9 ?_;have z:o=0:=(by rw[u,zu h]);subst z;exact g_ () trivial (fun v c=>c)
     ·refine u7 ?_;have z:o=f:=(by rw[u,zk (by rw[h];simp)]);rw[z];exact g_ () trivial (fun v c=>c)
    intro _ _;refine z_ ?_;refine f_ (m8 rfl g rfl qb) ?_;refine z_ ?_;refine r_ (w8 (cs:=cQ t.d.req t.y.ql) rfl (fun v c=>lF (j:=61) (h9 c) (PW t)) rfl) ?_;refine i7 rfl ?_;intro g6;refine E6 ?_;refine f_ (m8 rfl g rfl qb) ?_;refine z_ ?_;refine r_ ((i8 rfl (fun v c=>C1 60 _ rfl c)).eb S) ?_;refine p9 ?_;have q0:f<=j:=by
     have:=BY _ _ _ hn;rw[zn] at this;omega
    have k8:o<=f:=by rw[T];split<;>omega
    cases a0
    ·rw[zu S.symm] at n;injection n with z;refine u7 ?_;rw[z];exact g_ () trivial (fun v c=>c.drop)
    rw[zk (by rw[<-S];simp)] at n;have D:t.a.a4X=false/\t.b.a4X=true:=by
     by_cases hc:t.a.a4X=true\/t.b.a4X=false
     ·rw[zu hc] at n;cases n
     ·exact⟨by simpa using fun e=>hc (.inl e),by simpa using fun e=>hc (.inr e)⟩
    rw[zk (by rw[D.1,D.2];simp)] at n;refine z_ ?_;refine f_ (m8 rfl g rfl qb) ?_;refine z_ ?_;refine r_ ((i8 rfl (fun v c=>C1 8 _ rfl c)).eq (v':=.bool false) (by rw[D.1])) ?_;refine E6 ?_;(first|refine u_ ?_|(refine v_ ?_;refine f_ (m8 rfl g rfl qb) ?_));refine z_ ?_;(first|refine u_ ?_|(refine v_ ?_;refine r_ ((i8 rfl (fun v c=>C1 35 _ rfl c)).eq (v':=.bool true) (by rw[D.2])) ?_));refine O2 ?_;refine f_ ((p7 rfl rfl).eq (v':=.bool (decide (t.d.req.op=1))) (qn qz)) ?_;refine O1 ?_ ?_<;>intro h
    ·rw[zu (qr h)] at n;injection n with z;refine u7 ?_;rw[z];exact g_ () trivial (fun v c=>c.drop)
    rw[zk (zq h)] at n;have h5:t.d.req.num=o+1/\t.d.req.ses=t.a.ses/\t.d.req.ses≠0/\t.d.req.num=O:=by
     by_cases hc:t.d.req.num≠o+1\/t.d.req.ses≠t.a.ses\/t.d.req.ses=0
     ·rw[zu hc] at n;cases n
     ·rw[zk hc] at n;injection n with z;exact⟨Kx fun e=>hc (.inl e),Kx fun e=>hc (.inr (.inl e)),fun e=>hc (.inr (.inr e)),z⟩
    obtain⟨f1,f2,f3,f4⟩:=h5;refine u7 ?_;refine D7 [1,7,18] [] [.blk g6 (.cells (cQ t.d.req t.y.ql).toArray 44)] 21 ?_;refine wd [0,1,2] ?_;refine w_ 3 rfl ((H_ rfl rfl qb).eq (v':=.int .u64 ((o+1:Nat):Int)) (by congr 1)) ?_;refine w_ 4 rfl ((M2 rfl rfl).eq (v':=.bool false) (jk (fun b=>Value.bool (!b)) (jq (show((t.d.req.num:Nat):Int)=((o+1:Nat):Int) by omega)))) ?_;refine wd [5,6,7,8,9] ?_;(first|refine s_ 10 ?_|refine t_ 10 ?_|refine E0 10 rfl (m8 rfl g rfl qb) rfl rfl rfl rfl rfl rfl i6 ?_);refine wd [11,12] ?_;refine h_ 13 rfl i6 ?_;(first|refine u_ ?_|(refine v_ ?_;refine r_ (i8 rfl (fun v c=>C1 1 _ rfl c)) ?_));refine Y5 ?_;(first|refine s_ 14 ?_|refine t_ 14 ?_|refine E0 14 rfl ((M2 rfl rfl).eq (v':=.bool false) (jk (fun b=>Value.bool (!b)) (jq (show((t.d.req.ses:Nat):Int)=((t.a.ses:Nat):Int) by omega)))) rfl rfl rfl rfl rfl rfl i6 ?_);refine wd [15,16,17,18] ?_;(first|refine s_ 19 ?_|refine t_ 19 ?_|refine E0 19 rfl ((p7 rfl rfl).eq (v':=.bool false) (qn (Qq (show¬((t.d.req.ses:Nat):Int)=0 by omega)))) rfl rfl rfl rfl rfl rfl i6 ?_);refine wd [20] ?_;refine E6 ?_;rw[f4];exact g_ () trivial (fun v c=>c.drop)
   intro _ _;refine E6 ?_;exact l8 (i:=(j,f)) (j+1,O) ⟨s,h8⟩ qg sub (fun v c=>c)
  ·refine u7 ?_;exact g_ () trivial (fun v c=>c)
 intro _ _;refine C8 ?_;refine G9 (A:=[]) (v:=.bool true) (d.trans J) qh ?_;exact d_ rfl rfl _ qh (fun v c=>c)
