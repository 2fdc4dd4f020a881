import Derived.Test.YtmcepdopookilaaGreatDoorukx18
set_option maxHeartbeats 16000000
set_option maxRecDepth 8000
set_option linter.unusedVariables false
set_option linter.unusedSimpArgs false
set_option linter.defProp false
namespace Go.Proofs.YtmcepdopookilaaGreatDoor.Rp
open Go Go.Sl Go.RowKit Go.Proofs.Tryz
def a2w(h:l_)(v:Value)(A:List As):Prop:=∃m:MM,v=rW m/\m.s=Gx/\A=[]/\ew m h
abbrev IY(a:qr):MM:=⟨[eH di 1],2,[],[],1,0,a,1,none,0,none,0⟩
def QV:Cm prog 29 [] (fun _=>True) [] a2w:=by
 refine A0 4 func29 rfl rfl rfl ?_;intro F R _;refine D1 ?_;refine i7 rfl ?_;intro f;refine u6 ?_;refine D2 bR (eH di 1) rfl ?_;intro a _;refine f_ (A2 (ps:=[(0,.tmp 2),(1,.const (.int .u64 2)),(4,.const (.int .u64 1))]) (vs:=[(0,.slice a 1 1),(1,.int .u64 2),(4,.int .u64 1)]) (cells:=(iQ (IY a)).toArray) rfl i6) ?_;refine u6 ?_;refine C6 (Z:=[U0 a [eH di 1] 1]) tk fun g c ⟨i,d⟩=>?_;refine B4 ?_;refine I4 (A:=[]) (v:=rW (IY a)) c ⟨IY a,rfl,rfl,rfl,A_.rd d ud,n9.nil _ _,n9.nil _ _,fun b d=>?_⟩ ?_
 ·obtain rfl:=z7.1 d;exact⟨n9.nil _ _,fun _ h=>by cases h⟩
 ·exact H7 rfl rfl ud rfl _ qh (fun w e=>e.drop)
def Ue(e:Option BX)(h:l_)(v:Value)(A:List As):Prop:=∃b:BM,v=.tuple #[KL b,.bool e.isSome]/\b.x=e.getD PI/\A=[]/\eZ b h
def uX(m:MM)(a:Bs)(l:V5 m.s):Cm prog 75 [rW m,B a] (ew m) [] (Ue (ay m.s a)):=by
 refine A0 19 func75 rfl rfl rfl ?_;intro F R d;refine D1 ?_;refine m8 rfl rfl ?_;intro C;refine i7 rfl ?_;intro D;refine E8 ?_;refine c_ rfl (oY m a (by have:=Aa l;omega)) (fun h s _=>d.a6u.le s) rfl ?_;refine eV ?_ ?_<;>intro h
 ·have o:¬D9 (fun b:BM=>decide (b.name=a)) m.a6u<0:=by have:=zy h;omega
  obtain⟨i,t,c,ha⟩:=gT o;rw[t];have e:ay m.s a=some m.a6u[i].x:=by unfold ay;rw[ha];show some (aw m.s i)=_;rw[fj c]
  rw[e];obtain⟨u,f⟩:=p8 d.a6u o_ qp c;refine E8 ?_;refine f_ (n5 (n:=(i:Nat)) rfl ⟨u,f⟩ rfl qb) ?_;refine r_ (p9 rfl (fun w g=>bK (d.a6u.le g.keep) o_ qp c x7) (o_ _)) ?_;refine B_ (mr m.a6u[i] (by have:=sX l (zm c);omega) (fun x y=>by have:=((dS l (zm c)).a6J _ (Q5 y)).1;omega)) (d.box _ (zm c)) ?_;rintro v A J p ⟨j,rfl,q,rfl,r⟩;refine A5 ?_;refine C6 (Z:=[O7 j.a j.ls j.c]) tk fun M k ⟨O,z⟩=>?_;refine B4 ?_;refine I4 (A:=[]) (v:=.tuple #[KL j,.bool true]) (p.trans k) ⟨j,rfl,q,rfl,A_.rd z ud,Mn.le k.heap r⟩ ?_;exact D_ rfl rfl rfl ud rfl _ qh (fun w g=>g.drop.drop)
 ·have o:D9 (fun b:BM=>decide (b.name=a)) m.a6u<0:=by have:=zu h;omega
  have e:ay m.s a=none:=by unfold ay;rw[gS o];rfl
  rw[e];refine cn ?_;refine I4 (A:=[]) (v:=.tuple #[KL Gz,.bool false]) (l9.le_refl _) ⟨Gz,rfl,rfl,rfl,eZ.zero _⟩ ?_;exact D_ rfl rfl rfl ud rfl _ qh (fun w g=>g.drop.drop)
end Go.Proofs.YtmcepdopookilaaGreatDoor.Rp
namespace Go.Sl
open Go Go.RowKit Go.Proofs.Tryz
section
variable{P:zj}{N:Nat}{K R:A1}{E:List (Nat×A1)}{L:G9}{F:l9}{H:List As}{ops:Array Oper}{rest:List Oper}{ty:zk}{pos:String}{af:Array Edge}{x y z:zw}{t kt et:zk}{td:TypeDesc}{es:Array MapEntry}{clock b:Nat}{ms:List KV}{key val:Value}
def eJ[hu:HU P t (.map kt et)][hk:HU P kt td](hx:ev L x=some (.map (some b)))(j:ev L y=some key)(hz:ev L z=some val)(k:O5 td es clock ms)(e:MapKept.IsKey td key){H':Array MapEntry->Nat->List As}(u:∀d c,N1 H (.blk b (.map es clock)) [.blk b (.map d c)] (H' d c))(h:∀d c,(∀ms',FN ms key val ms'->O5 td d c ms')->GL P N ops rest K E R L F (H' d c)):GL P N ops (⟨none,.insert t x y z,ty,pos,af,none⟩::rest) K E R L F H:=
 tE rfl rfl fun a w hf i=>by
  obtain⟨d,c,f,g⟩:=k.put (P:=P) (w:=w) (val:=val) hu.h hk.h (i.blk (u es clock)) e;refine⟨_,_,?_,i.setB (u d c),h d c g⟩;simp only[execOp,hf.eval hx,hf.eval j,hf.eval hz,Sem.run_bind,f];rfl
end
end Go.Sl
namespace Go.Proofs.YtmcepdopookilaaGreatDoor.Rp
open Go Go.Sl Go.RowKit Go.Proofs.Tryz
def cO{N:Nat}{K:A1}{L:G9}{F:l9}{H Rr Z:List As}(b:l_)(hz:∀h bs,l_.le F.heap h->A_ h Z bs->l_.le b h)(hH:∀w,Hp F w H->Hp F w (Rr++Z))(k:∀a,F.le a->l_.le b a.heap->At N K L a Rr):At N K L F H:=
 At.weaken (H':=Rr++Z) (dW fun a c ⟨bs,d⟩=>k a c (hz _ bs c.heap d)) (fE.refl _) hH
abbrev xK(g:Nat)(b:BM):As:=.blk g (.cells (bR b).toArray 100)
def cp{s:ML}{a:Bs}{b:BX}(h:ay s a=some b):b∈s.a6u:=by
 unfold ay at h;obtain⟨i,d,rfl⟩:=jx.1 h;have c:i<s.a6u.length:=(jg.1 d).1;unfold aw;rw[z8,zd c];exact zm c
abbrev C7(y:DL)(l:List RM)(a:qr)(c:Nat):DL:={y with da:=a,dc:=c,rl:=y.rl++l}
def xL(g:Nat)(x:AN)(d:DD)(y:DL)(Q:RR->SE->List RR->Prop)(h:l_)(v:Value)(A:List As):Prop:=v=.tuple #[]/\∃r s sl l a c,Q r s (l.map Prod.fst)/\(∀m∈l,fQ m.1 m.2 h/\zD m.2)/\P4 s sl h/\A=C8 g {x with r:=r,z:=L0}::l6 sl.ra s.a6y.a6x sl.rc::P3 x.b s sl d (C7 y l a c)
abbrev qK(tag:Bs):RR:=nB tag [78,79,78,69,88,73,83,84,69,78,84] [116,104,101,114,101,32,105,115,32,110,111,110,101]
def IZ(ms:List KV):Prop:=∀kv∈ms,∃n:Nat,kv.2=.int .u64 (n:Nat)
def IZ.nil:IZ []:=fun _ h=>by cases h
def kS{b:List KV}(key:Value)(n:Nat)(h:IZ b):∃ms',FN b key (.int .u64 (n:Nat)) ms'/\IZ ms':=by
 obtain⟨o,hg⟩:=pU b key
 cases o with
 |none=>
  refine⟨_,.inl ⟨hg,.refl _⟩,fun c a=>?_⟩;rcases jv.1 a with rfl|a
  ·exact⟨n,rfl⟩
  ·exact h c a
 |some v=>
  obtain⟨d,f,e⟩:=W0 hg;have hp:b.Perm ((key,v)::(d++f)):=by rw[e];exact Qm
  refine⟨_,.inr ⟨v,d++f,hp,.refl _⟩,fun c a=>?_⟩;rcases jv.1 a with rfl|a
  ·exact⟨n,rfl⟩
  ·exact h c (hp.mem_iff.2 (jn _ a))
abbrev bT(a:qr)(l:List VM)(c:Nat):As:=.own (.slice a l.length c) 110 6 (Pz l)
abbrev QW(box:Bs)(l:List VM):RR:={R0 with kind:=12,box:=box,values:=l.map VM.v}
def OV(x:AN)(s:SE)(r:RR)(s':SE)(l:List RR):Prop:=s'=s/\(r=qK x.c.tag/\l=[]\/r=x.r/\∃vs box,l=[{R0 with kind:=12,box:=box,values:=vs}]/\vs.length=x.c.a6B.length)
def EV(g:Nat)(x:AN)(s:SE)(sl:SL)(d:DD)(y:DL)(hx:rE x)(hz:x.z=L0)(hm:V5 x.m.s)(hl:y.rl.length<=100000):
  Cm prog 234 [i8 g] (fun h=>cZ x h/\P4 s sl h) (C8 g x::l6 sl.ra s.a6y.a6x sl.rc::P3 x.b s sl d y) (xL g x d y (OV x s)):=by
 have q1:=hx.c;have v2:=q1.a6B;refine A0 87 func234 rfl rfl rfl ?_;rintro F R ⟨h2,h9⟩;obtain⟨e,he⟩:=o9 (ay x.m.s x.c.box);have u:=uX x.m x.c.box hm;rw[<-he] at u;refine I6 0 ?_;refine V7 (fun(f:BM) (t:Nat) (_:Unit) (U:l9)=>F.le U/\f.x=e.getD PI/\eZ f U.heap) (fun f t _ _=>[(0,i8 g),(2,i8 t),(3,.bool e.isSome)]) (fun _ _ _ U=>U) (fun f t _ _=>xK t f::C8 g x::l6 sl.ra s.a6y.a6x sl.rc::F9 x.b s sl d y::x4 y.da y.rl y.dc::R) ?_ ?_
 ·refine x6 ?_;refine D8 [3,8] [9,13,14] [C8 g x] 16 ?_;refine wd [0,1,2,3,4,5,6,7,8] ?_;refine S4 9 13 rfl rfl i6 ?_ ?_;refine G6 u h2.m ?_;rintro v A Z Fz hz ⟨f,rfl,D,rfl,O⟩;refine D7 [10,11,12] ?_;refine h_ 13 rfl i6 ?_;refine i7 rfl ?_;intro t;refine D7 [14,15] ?_
  rotate_left 1
  refine i7 rfl ?_;intro t;refine V2 ?_;refine h_ 9 rfl i6 ?_;refine G6 u h2.m ?_;rintro v A Z Fz hz ⟨f,rfl,D,rfl,O⟩;refine D7 [10,11,12,14,15] ?_
  rotate_left 1
  all_goals (refine x6 ?_)
  all_goals exact cO (Rr:=xK t f::C8 g x::l6 sl.ra s.a6y.a6x sl.rc::F9 x.b s sl d y::x4 y.da y.rl y.dc::R) Fz hz i_ fun U M q2=>y7 (f,t,(),U) ⟨M,D,Mn.le q2 O⟩ rfl i_
 rintro f t _ U ⟨M,D,O⟩;have V:cZ x U.heap:=Mn.le M.heap h2
 cases e with
 |none=>
  refine E8 ?_;refine e_ (eI g x [78,79,78,69,88,73,83,84,69,78,84] [116,104,101,114,101,32,105,115,32,110,111,110,101]) qw ?_;rintro v A ⟨rfl,rfl⟩;refine oK ?_;refine I4 (A:=C8 g {x with r:=qK x.c.tag,z:=L0}::l6 sl.ra s.a6y.a6x sl.rc::P3 x.b s sl d (C7 y [] y.da y.dc)) (v:=.tuple #[]) M ⟨rfl,qK x.c.tag,s,sl,[],y.da,y.dc,⟨rfl,.inl qh⟩,qy,Mn.le M.heap h9,rfl⟩ ?_;exact m6 rfl _ qh (fun w k=>by simp only[C7,jk];exact D3 (A:=[_,_,_,_]) (J:=[_]) tk k)
 |some bx0=>
  have D:f.x=bx0:=D;have k0:bx0∈x.m.s.a6u:=cp he.symm;have k8:=hm.box _ k0;have v3:f.ls.length<=32:=by
   have h1:=k8.lts;rw[<-D] at h1;simpa using h1
  have q3:∀lm∈f.ls,lm.t.a6J.length<=16:=fun lm q4=>(k8.a6J lm.t (by rw[<-D];exact Q5 q4)).1;refine E8 ?_;refine I6 4 ?_;refine n8 (ι:=Nat) (fun n=>n<=1000) (fun n=>[(0,i8 g),(2,i8 t),(4,.int .u64 (n:Nat))]) (fun _=>xK t f::C8 g x::l6 sl.ra s.a6y.a6x sl.rc::F9 x.b s sl d y::x4 y.da y.rl y.dc::R) ?_ ?_
  ·refine o0 ?_;refine o8 (ι:=Nat×Nat) (fun i=>i.1<=f.ls.length/\i.2<=i.1) (fun i=>[(0,i8 g),(2,i8 t),(4,.int .u64 (i.2:Nat)),(29,.slice f.a f.ls.length f.c),(30,r7 f.ls.length),(31,r7 i.1)]) (fun i=>xK t f::C8 g x::l6 sl.ra s.a6y.a6x sl.rc::F9 x.b s sl d y::x4 y.da y.rl y.dc::R) (fun i=>f.ls.length-i.1) (0,0) ⟨zp _,kp _⟩ sub i_ ?_;rintro⟨j,n⟩ ⟨hj,hn⟩;simp only at hj hn;refine T2 ?_ ?_<;>intro h
   ·have p:j<f.ls.length:=(by have:=zy h;omega);have h3:=p8 O.ls A8 qp p;have Q:=q3 _ (zm p);refine I6 0 ?_;refine n8 (ι:=Nat) (fun n=>n<=j+1) (fun n=>[(0,i8 g),(2,i8 t),(4,.int .u64 (n:Nat)),(29,.slice f.a f.ls.length f.c),(30,r7 f.ls.length),(31,r7 j)]) (fun _=>xK t f::C8 g x::l6 sl.ra s.a6y.a6x sl.rc::F9 x.b s sl d y::x4 y.da y.rl y.dc::R) ?_ ?_
    ·refine o0 ?_;refine D1 ?_;refine f_ (n5 rfl h3 rfl qb) ?_;refine r_ (p9 rfl (fun w k=>bK (C:=R7) (O.ls.le k.keep) A8 qp p x7) (A8 _)) ?_;refine i7 rfl ?_;intro g6;refine E8 ?_;refine c_ rfl (uL f.ls[j].t.a6J f.ls[j].a f.ls[j].c [92,83,101,101,110] qb) (fun h hh _=>(O.fl _ (zm p)).le hh) rfl ?_;refine T2 ?_ ?_<;>intro h
     ·refine u6 ?_;refine f_ ((L9 rfl rfl qb).eq (v':=.int .u64 ((n+1:Nat):Int)) (by congr 1)) ?_;refine u6 ?_;exact g_ (n+1) qb (fun w k=>k.drop)
     ·refine x6 ?_;exact g_ n qb (fun w k=>k.drop)
    intro n2 q5;refine A5 ?_;exact l8 (i:=(j,n)) (j+1,n2) ⟨p,q5⟩ qg sub i_
   ·refine x6 ?_;exact g_ n qb i_
  intro n hn;refine D1 ?_;refine oD rfl ?_;intro X;refine E8 ?_;refine f_ ((A3 rfl qb).eq (v':=.int .u64 (f.ls.length:Nat)) rfl) ?_;refine eJ (b:=X) (key:=.int .i64 1) (val:=.int .u64 (f.ls.length:Nat)) (td:=.int .i64) rfl rfl rfl (O5.empty (.int .i64) 0) rfl (fun S T=>.here) ?_;intro v4 v5 h4;obtain⟨v6,q6,q7⟩:=kS (.int .i64 1) (f.ls.length) IZ.nil;have q8:=h4 _ q6;refine A5 ?_;refine eJ (b:=X) (key:=.int .i64 2) (val:=.int .u64 (f.next:Nat)) (td:=.int .i64) rfl rfl rfl q8 rfl (fun S T=>.here) ?_;intro v7 v8 h5;obtain⟨v9,q9,x0⟩:=kS (.int .i64 2) (f.next) q7;have x1:=h5 _ q9;refine A5 ?_;refine eJ (b:=X) (key:=.int .i64 3) (val:=.int .u64 (f.val:Nat)) (td:=.int .i64) rfl rfl rfl x1 rfl (fun S T=>.here) ?_;intro w0 w1 h6;obtain⟨w2,x2,x3⟩:=kS (.int .i64 3) (f.val) x0;have x5:=h6 _ x2;refine u6 ?_;refine eJ (b:=X) (key:=.int .i64 4) (val:=.int .u64 (n:Nat)) (td:=.int .i64) rfl rfl rfl x5 rfl (fun S T=>.here) ?_;intro w3 w4 h7;obtain⟨w5,x9,y0⟩:=kS (.int .i64 4) (n) x3;have y1:=h7 _ x9;refine A5 ?_;refine eJ (b:=X) (key:=.int .i64 5) (val:=.int .u64 (f.high:Nat)) (td:=.int .i64) rfl rfl rfl y1 rfl (fun S T=>.here) ?_;intro y2 y3 h8;obtain⟨z0,z2,u0⟩:=kS (.int .i64 5) (f.high) y0;have u1:=h8 _ z2;refine P1 ?_;refine f_ (A2 (ps:=[(0,.const (.int .i64 12)),(8,.tmp 56)]) (vs:=[(0,.int .i64 12),(8,B f.name)]) (cells:=(tM (QW f.name []) L0).toArray) rfl i6) ?_;refine i7 rfl ?_;intro g8;refine u6 ?_;refine I6 7 ?_;refine n8 (ι:=AC×List VM) (fun q=>q.2.length=x.c.a6B.length/\∀w∈q.2,w.v.a6J=[]) (fun q=>[(0,i8 g),(8,i8 g8)]) (fun q=>match q with|(o,l)=>yf g8 (QW f.name l) ⟨none,0,none,0,o.1,o.2,l⟩::bT o.1 l o.2::C8 g x::l6 sl.ra s.a6y.a6x sl.rc::F9 x.b s sl d y::x4 y.da y.rl y.dc::R) ?_ ?_
  ·refine o0 ?_;refine P7 (fun(j:Nat) (o:AC) (l:List VM)=>j<=x.c.a6B.length/\l.length=j/\∀w∈l,w.v.a6J=[]) (fun j o l=>[(0,i8 g),(7,.map (some X)),(8,i8 g8),(62,.slice x.k.ia x.c.a6B.length x.k.ic),(63,r7 x.c.a6B.length),(64,r7 j)]) (fun j o l=>yf g8 (QW f.name l) ⟨none,0,none,0,o.1,o.2,l⟩::bT o.1 l o.2::.blk X (.map y2 y3)::C8 g x::l6 sl.ra s.a6y.a6x sl.rc::F9 x.b s sl d y::x4 y.da y.rl y.dc::R) (fun j o l=>x.c.a6B.length-j) 0 (none,0) [] ⟨zp _,rfl,qy⟩ sub (fun w k=>D3 (A:=[_,.own (.slice none 0 0) 110 6 [],.blk X _,C8 g x,l6 sl.ra s.a6y.a6x sl.rc,F9 x.b s sl d y,x4 y.da y.rl y.dc]) (J:=[xK t f]) tk (k.addNil 110 6)) ?_;rintro j o l ⟨hj,w7,Q⟩;refine T2 ?_ ?_<;>intro h
   ·have p:j<x.c.a6B.length:=(by have:=zy h;omega);have h3:=p8 V.c.a6B S6 qp p;obtain⟨o5,k9⟩:=pU z0 (.int .i64 ((x.c.a6B[j].kind:Nat):Int));obtain⟨Y,u2⟩:∃Y:Nat,o5.getD (.int .u64 0)=.int .u64 (Y:Nat):=by
     cases o5 with
     |none=>exact⟨0,rfl⟩
     |some v=>exact u0 _ k9
    refine D1 ?_;refine f_ (n5 rfl h3 rfl qb) ?_;refine r_ (p9 rfl (fun w k=>bK (C:=co) (V.c.a6B.le k.keep) S6 qp p x7) (S6 _)) ?_;refine i7 rfl ?_;intro w9;refine wk 8 ?_;refine r_ ((FP (key:=.int .i64 ((x.c.a6B[j].kind:Nat):Int)) (o:=o5) (zv:=.int .u64 0) (c:=false) rfl rfl ud u1 rfl k9).eq (v':=.int .u64 (Y:Nat)) u2) ?_;refine f_ (A2 (ps:=[(0,.tmp 71),(1,.tmp 75)]) (vs:=[(0,r7 (x.c.a6B[j].kind)),(1,.int .u64 (Y:Nat))]) (cells:=(vV ⟨{V0 with kind:=x.c.a6B[j].kind,n:=Y},none,0⟩).toArray) rfl i6) ?_;refine D2 vV ⟨{V0 with kind:=x.c.a6B[j].kind,n:=Y},none,0⟩ rfl ?_;intro a0 _;refine u7 vV (l:=l) (m:=[⟨{V0 with kind:=x.c.a6B[j].kind,n:=Y},none,0⟩]) ny nz (by show(l.length+1)*72<=_;omega) ?_;intro u8 v0 _;refine P1 ?_;exact l8 (i:=(j,o,l)) (j+1,(u8,v0),l++[⟨{V0 with kind:=x.c.a6B[j].kind,n:=Y},none,0⟩]) ⟨p,by rw[zg];simp only[z1,kx];omega,fun w k=>by rcases kw.1 k with k|k;exact Q w k;(rw[z7.1 k])⟩ qg sub (fun w k=>D3 (A:=[_,_,_,C8 g x,l6 sl.ra s.a6y.a6x sl.rc,F9 x.b s sl d y,x4 y.da y.rl y.dc]) (J:=[_,_]) tk k)
   ·refine x6 ?_;exact g_ (o,l) ⟨by have:=zu h;simp only;omega,Q⟩ (fun w k=>D3 (A:=[_,_,C8 g x,l6 sl.ra s.a6y.a6x sl.rc,F9 x.b s sl d y,x4 y.da y.rl y.dc]) (J:=[_]) tk k)
  rintro⟨o,l⟩ ⟨h0,Q⟩;simp only at h0 Q;refine x6 ?_;refine C6 (Z:=[bT o.1 l o.2]) tk fun F2 q0 ⟨bs,hb⟩=>?_;have v1:n9 F2.heap o.1 (Pz l):=A_.rd hb ud;clear hb;refine x6 ?_;refine D8 [3,4] [5] [C8 g x,yf g8 (QW f.name l) ⟨none,0,none,0,o.1,o.2,l⟩] 6 ?_;refine wd [0,1,2,3,4] ?_;refine h_ 5 rfl i6 ?_;refine e_ (X2 x.b s sl d y (QW f.name l) ⟨none,0,none,0,o.1,o.2,l⟩ qb) qw ?_;rintro v A ⟨rfl,a,c,rfl⟩;refine D7 [] ?_;refine I4 (A:=C8 g x::l6 sl.ra s.a6y.a6x sl.rc::P3 x.b s sl d (G1 y (QW f.name l,⟨none,0,none,0,o.1,o.2,l⟩) a c)) (v:=.tuple #[]) (M.trans q0) ⟨rfl,x.r,s,sl,[(QW f.name l,⟨none,0,none,0,o.1,o.2,l⟩)],a,c,⟨rfl,.inr ⟨rfl,_,_,rfl,by rw[kg];exact h0⟩⟩,fun m hm=>?_,Mn.le (M.trans q0).heap h9,?_⟩ ?_
  ·rw[z7.1 hm];exact⟨⟨rfl,n9.nil _ _,n9.nil _ _,v1,fun w k=>by rw[Q w k];exact n9.nil _ _⟩,rfl,rfl⟩
  ·rw[<-hz]
  ·exact m6 rfl _ qh (fun w k=>D3 (A:=[_,_,_,_]) (J:=[_]) tk k)
end Go.Proofs.YtmcepdopookilaaGreatDoor.Rp
namespace Go.Sl
open Go Go.RowKit Go.Proofs.Tryz
section
variable{P:zj}{N:Nat}{K R:A1}{E:List (Nat×A1)}{L:G9}{F:l9}{H:List As}
def bi{c:Code}{α β γ δ ε ζ:Type}(b:α->β->γ->δ->ε->ζ->Prop)(L':α->β->γ->δ->ε->ζ->G9)(d:α->β->γ->δ->ε->ζ->l9)(H':α->β->γ->δ->ε->ζ->List As)(e:G P N c (fun a w=>∃i:α×β×γ×δ×ε×ζ,b i.1 i.2.1 i.2.2.1 i.2.2.2.1 i.2.2.2.2.1 i.2.2.2.2.2/\H5 N (L' i.1 i.2.1 i.2.2.1 i.2.2.2.1 i.2.2.2.2.1 i.2.2.2.2.2) a/\Hp (d i.1 i.2.1 i.2.2.1 i.2.2.2.1 i.2.2.2.2.1 i.2.2.2.2.2) w (H' i.1 i.2.1 i.2.2.1 i.2.2.2.1 i.2.2.2.2.1 i.2.2.2.2.2)) E R L F H)(f:∀x y z u v q,b x y z u v q->At N K (L' x y z u v q) (d x y z u v q) (H' x y z u v q)):G P N c K E R L F H:=
 HX (ι:=α×β×γ×δ×ε×ζ) (fun i=>b i.1 i.2.1 i.2.2.1 i.2.2.2.1 i.2.2.2.2.1 i.2.2.2.2.2) (fun i=>L' i.1 i.2.1 i.2.2.1 i.2.2.2.1 i.2.2.2.2.1 i.2.2.2.2.2) (fun i=>d i.1 i.2.1 i.2.2.1 i.2.2.2.1 i.2.2.2.2.1 i.2.2.2.2.2) (fun i=>H' i.1 i.2.1 i.2.2.1 i.2.2.2.1 i.2.2.2.2.1 i.2.2.2.2.2) e fun i h=>f i.1 i.2.1 i.2.2.1 i.2.2.2.1 i.2.2.2.2.1 i.2.2.2.2.2 h
end
end Go.Sl
namespace Go.Proofs.YtmcepdopookilaaGreatDoor.Rp
open Go Go.Sl Go.RowKit Go.Proofs.Tryz
abbrev sY(k:Nat):IT:=⟨k,false,false,0,0⟩
def Ai(x:AN)(v:RV):Prop:=∃(i:IT) (lm:LM),(i∈x.c.a6B\/i=sY 6\/i=sY 7\/i=sY 9)/\lm∈x.bx.ls/\uW i lm v
abbrev yg(n:Nat)(vs:List RV):RR:={R0 with kind:=14,n:=n,values:=vs}
abbrev Ja:Bs:=[69,88,80,85,78,71,69,73,83,83,85,69,68]
abbrev Je(tag:Bs):RR:=nB tag Ja [115,111,109,101,32,97,114,101,32,103,111,110,101]
def Aj(v v':VW):Prop:=v'.box=v.box/\v'.val=v.val/\v'.a6x.map Prod.fst=v.a6x.map Prod.fst
def Aj.rfl'(v:VW):Aj v v:=qm
def Aj.len{v v':VW}(h:Aj v v'):v'.a6x.length=v.a6x.length:=by
 have:=jh List.length h.2.2;simpa using this
def Aj.seq{v v':VW}(h:Aj v v')(u:Nat):cW v' u=cW v u:=by
 have e:∀l:List (Nat×Nat),l.findIdx? (fun r=>decide (r.1=u))=(l.map Prod.fst).findIdx? (fun q=>decide (q=u)):=fun l=>by
  rw[List.findIdx?_map];rfl
 unfold cW tQ;rw[e,e,h.2.2]
def Aj.told{v v':VW}(h:Aj v v')(u m:Nat):Aj v (cD v' u m):=by
 by_cases h1:lH v'.a6x u<0
 ·rw[sv h1];exact h
 ·obtain⟨i,a,_,e⟩:=sx (m:=m) h1;rw[e];refine⟨h.1,h.2.1,?_⟩;rw[<-h.2.2];simp only[K0];rw[show v'.a6x[i].1=(v'.a6x.map Prod.fst)[i]'(by simpa using a) from by simp];exact Kj _
def Cn(v:VW)(u:Nat):cW v u<=v.a6x.length:=by
 unfold cW tQ
 cases e:v.a6x.findIdx? fun r=>decide (r.1=u) with
 |none=>exact zp _
 |some i=>exact(jg.1 e).1
def Co(a v:As)(L Z R:List As):(a::v::(L++(Z++R))).Perm ((a::(L++R))++(v::Z)):=by
 refine List.Perm.cons _ ?_;refine List.Perm.trans (List.Perm.cons _ ?_) Qm.symm;rw[ky];exact Kw L jj
structure nj(x:AN)(s:SE)(us:zz)(r:RR)(v':VW)(l:List RM)(h:l_):Prop where
 vw:Aj s.a6y v'
 rep:(∃c,r={x.r with code:=c})\/r=Je x.c.tag
 tol:∀m∈l,∃u,(u∈us\/0<cW s.a6y u)/\∃vs,m.1=yg (cW s.a6y u) vs/\(0<vs.length\/x.c.a6B=[])/\vs.length<=100/\∀v∈vs,Ai x v
 rd:∀m∈l,fQ m.1 m.2 h/\zD m.2
def uY(x:AN)(s:SE)(us:zz)(r:RR)(s':SE)(l:List RR):Prop:=l.length<=100000/\(∃v',s'={s with a6y:=v'}/\Aj s.a6y v')/\((∃c,r={x.r with code:=c})\/r=Je x.c.tag)/\∀q∈l,∃u,(u∈us\/0<cW s.a6y u)/\∃vs,q=yg (cW s.a6y u) vs/\(0<vs.length\/x.c.a6B=[])/\vs.length<=100/\∀v∈vs,Ai x v
def nj.le{x:AN}{s:SE}{a:zz}{r:RR}{v':VW}{l:List RM}{h b:l_}(k:nj x s a r v' l h)(hl:l_.le h b):nj x s a r v' l b:=⟨k.vw,k.rep,k.tol,fun m c=>⟨Mn.le hl (k.rd m c).1,(k.rd m c).2⟩⟩
def Ak(g:Nat)(x:AN)(s:SE)(sl:SL)(d:DD)(y:DL)(hx:rE x)(hz:x.z=L0)(w3:s.a6y.a6x.length<=100000)(w4:x.us.length<=100000)(w5:x.c.a6B.length<=90)(hl:y.rl.length<=100000):
  Cm prog 236 [i8 g] (fun h=>cZ x h/\P4 s sl h) (C8 g x::l6 sl.ra s.a6y.a6x sl.rc::P3 x.b s sl d y) (xL g x d y (uY x s x.us)):=by
 refine A0 132 func236 rfl rfl rfl ?_;rintro F R ⟨u2,q7⟩;have q8:∀p∈x.bl,p.2.length<=1000000000:=fun p hp=>by have:=hx.body p hp;omega
 refine I6 6 ?_;refine bi (fun(r:RR) (b:VW) (p:AC) (l:List RM) (o:AC) (V:l9)=>F.le V/\nj x s x.us r b l V.heap/\l.length<=100000) (fun _ _ _ _ _ _=>[(0,i8 g)]) (fun _ _ _ _ _ V=>V) (fun r b p l o _=>C8 g {x with r:=r,z:=L0}::l6 p.1 b.a6x p.2::F9 x.b {s with a6y:=b} {sl with ra:=p.1,rc:=p.2} d (C7 y l o.1 o.2)::x4 o.1 (y.rl++l) o.2::R) ?_ ?_
 ·refine o0 ?_;refine bV (ι:=Nat×RR×VW×AC×List RM×AC×l9) (fun i=>i.1<=x.us.length/\F.le i.2.2.2.2.2.2/\nj x s x.us i.2.1 i.2.2.1 i.2.2.2.2.1 i.2.2.2.2.2.2.heap/\i.2.2.2.2.1.length<=i.1) (fun i=>[(0,i8 g),(13,.slice x.ua x.us.length x.uc),(14,r7 x.us.length),(15,r7 i.1)]) (fun i=>i.2.2.2.2.2.2)
   (fun i=>match i with|(j,r,b,p,l,o,V)=>C8 g {x with r:=r,z:=L0}::l6 p.1 b.a6x p.2::F9 x.b {s with a6y:=b} {sl with ra:=p.1,rc:=p.2} d (C7 y l o.1 o.2)::x4 o.1 (y.rl++l) o.2::R) (fun i=>x.us.length-i.1) (0,x.r,s.a6y,(sl.ra,sl.rc),[],(y.da,y.dc),F) ⟨zp _,l9.le_refl _,⟨Aj.rfl' _,.inl ⟨x.r.code,rfl⟩,qy,qy⟩,kp _⟩ sub rfl (fun w f=>?_) ?_
  ·obtain⟨xb,xc,xk,xm,xo,xy,w7,w9,a0,a1,a2,a8,b0,xr,xz⟩:=x;obtain rfl:xz=L0:=hz;show Hp F w (_::_::F9 xb s sl d (C7 y [] y.da y.dc)::x4 y.da (y.rl++[]) y.dc::R);simp only[C7,jk];exact D3 (A:=[_,_,_,_]) (J:=[]) tk f
  rintro⟨j,r,b,p,l,o,V⟩ ⟨hj,S,Q,u8⟩;simp only at hj S Q u8;obtain⟨x1,b3⟩:∃x1:AN,x1={x with r:=r,z:=L0}:=⟨_,rfl⟩;obtain⟨s1,b4⟩:∃s1:SE,s1={s with a6y:=b}:=⟨_,rfl⟩;obtain⟨b5,w1⟩:∃q:SL,q={sl with ra:=p.1,rc:=p.2}:=⟨_,rfl⟩;have M:cZ x V.heap:=Mn.le S.heap u2;refine T2 ?_ ?_<;>intro h
  ·have h6:j<x.us.length:=(by have:=zy h;omega);have v0:=ae M.us h6;refine I6 0 ?_;refine bi (fun(r:RR) (b:VW) (p:AC) (l:List RM) (o:AC) (F2:l9)=>F.le F2/\nj x s x.us r b l F2.heap/\l.length<=j+1) (fun _ _ _ _ _ _=>[(0,i8 g),(13,.slice x.ua x.us.length x.uc),(14,r7 x.us.length),(15,r7 j)]) (fun _ _ _ _ _ V=>V) (fun r b p l o _=>C8 g {x with r:=r,z:=L0}::l6 p.1 b.a6x p.2::F9 x.b {s with a6y:=b} {sl with ra:=p.1,rc:=p.2} d (C7 y l o.1 o.2)::x4 o.1 (y.rl++l) o.2::R) ?_ ?_
   ·refine o0 ?_;refine D1 ?_;refine f_ (n5 rfl v0 rfl qb) ?_;refine r_ (l5 rfl (fun w f=>uD f M.us (i:=j) x7 h6)) ?_;refine u6 ?_;have q9:x.bx.ls.length<=1000000:=(by have:=hx.ls;omega);refine A5 ?_;refine e_ (fo g {x with r:=r,z:=L0} (x.us.getD j 0) q9) (fun h Y _=>M.bx.ls.le Y) ?_;rintro v A ⟨T,ok,rfl,q0,rfl⟩;refine E8 ?_;refine i7 rfl ?_;intro X;refine A5 ?_;have v1:ok=true->n9 V.heap T.a (fV T.t.a6J)/\T.t.a6J.length<=1000:=fun e=>⟨M.bx.fl _ (q0.1 e).1,hx.fl _ (q0.1 e).1⟩
    cases ok
    ·refine E8 ?_;refine e_ (eI g {x with r:=r,z:=L0} Ja [115,111,109,101,32,97,114,101,32,103,111,110,101]) qw ?_;rintro v A ⟨rfl,rfl⟩;refine x6 ?_;exact y7 (Je x.c.tag,b,p,l,o,V) ⟨S,{Q with rep:=.inr rfl},by simp only;omega⟩ rfl (fun w f=>D3 (A:=[_,_,_,_]) (J:=[_]) tk f)
    obtain⟨q1,b6⟩:=q0.1 rfl;obtain⟨v3,w2⟩:=v1 rfl;refine A5 ?_;obtain⟨tb,v4⟩:∃q,q=IV {x with r:=r,z:=L0} T:=⟨_,rfl⟩;have x0:=xI g {x with r:=r,z:=L0} T;rw[<-v4] at x0;refine A5 ?_;refine e_ x0 qw ?_;rintro v A ⟨rfl,rfl⟩;refine u6 ?_
    cases tb
    ·refine x6 ?_;exact y7 (r,b,p,l,o,V) ⟨S,Q,by simp only;omega⟩ rfl (fun w f=>D3 (A:=[_,_,_,_]) (J:=[_]) tk f)
    refine x6 ?_;obtain⟨cu,x2⟩:=o9 (x.c.uid);obtain⟨cs,x3⟩:=o9 (x.c.a6C);refine al ?_;refine e_ (jV (oW x.c.a6B) x.k.ia x.c.a6B.length x.k.ic (tU _) (nC _) qb) (fun h Y _=>M.c.a6B.le Y) ?_;rintro v A ⟨a6,c6,rfl,rfl⟩;refine u6 ?_;refine I6 0 ?_;refine n8 (ι:=Bool) (fun _=>True) (fun q=>[(0,i8 g),(3,.int .u64 (x.us.getD j 0:Nat)),(4,i8 X),(6,.slice a6 x.c.a6B.length c6),(13,.slice x.ua x.us.length x.uc),(14,r7 x.us.length),(15,r7 j),(51,.bool q)]) (fun _=>ce a6 x.c.a6B c6::.blk X (.cells (R7 T).toArray 156)::C8 g {x with r:=r,z:=L0}::l6 p.1 b.a6x p.2::F9 x.b {s with a6y:=b} {sl with ra:=p.1,rc:=p.2} d (C7 y l o.1 o.2)::x4 o.1 (y.rl++l) o.2::R) ?_ ?_
    ·cases cu
     ·refine al ?_;refine f_ ((aN rfl).eq (v':=.bool false) (qn x2.symm)) ?_;refine P1 ?_;(first|refine u_ ?_|(refine v_ ?_;fail));refine A5 ?_;exact g_ _ trivial (fun w f=>D3 (A:=[_,_,_,_,_,_]) (J:=[]) tk f)
     ·refine al ?_;refine f_ ((aN rfl).eq (v':=.bool true) (qn x2.symm)) ?_;refine P1 ?_;(first|refine u_ ?_|(refine v_ ?_;refine c_ rfl (uV x.c x.k 7 qb) (fun h Y _=>M.c.a6B.le Y) rfl ?_));refine A5 ?_;exact g_ _ trivial (fun w f=>D3 (A:=[_,_,_,_,_,_]) (J:=[]) tk f)
    intro b7 _;refine x6 ?_;refine n8 (ι:=List IT×AC) (fun q=>(x.c.a6B.length<=q.1.length/\q.1.length<=x.c.a6B.length+1)/\∀i∈q.1,i∈x.c.a6B\/i=sY 6\/i=sY 7\/i=sY 9) (fun q=>[(0,i8 g),(3,.int .u64 (x.us.getD j 0:Nat)),(4,i8 X),(6,.slice q.2.1 q.1.length q.2.2),(13,.slice x.ua x.us.length x.uc),(14,r7 x.us.length),(15,r7 j)]) (fun q=>ce q.2.1 q.1 q.2.2::.blk X (.cells (R7 T).toArray 156)::C8 g {x with r:=r,z:=L0}::l6 p.1 b.a6x p.2::F9 x.b {s with a6y:=b} {sl with ra:=p.1,rc:=p.2} d (C7 y l o.1 o.2)::x4 o.1 (y.rl++l) o.2::R) ?_ ?_
    ·refine p7 rfl ?_ ?_<;>intro h
     ·have k8:=fun q2=>yE x.c.a6B a6 c6 (sY 7) q2 qb;obtain⟨x5,U⟩:=o9 (sY 7::x.c.a6B);rw[<-U] at k8;refine u6 ?_;refine f_ (A2 (ps:=[(0,.const (.int .i64 7))]) (vs:=[(0,.int .i64 7)]) (cells:=(co (sY 7)).toArray) rfl i6) ?_;refine GF co (sY 7) rfl ?_;intro q2;refine e_ (k8 q2) qw ?_;rintro v A ⟨a7,c7,rfl,rfl⟩;refine u6 ?_;exact g_ (x5,a7,c7) ⟨⟨by simp only[U,z1];omega,by simp only[U,z1];omega⟩,fun i Q=>by rw[U] at Q;rcases jv.1 Q with rfl|Q;exact .inr (.inr (.inl rfl));exact .inl Q⟩ (fun w f=>D3 (A:=[_,_,_,_,_,_]) (J:=[]) tk f)
     ·refine x6 ?_;exact g_ (x.c.a6B,a6,c6) ⟨⟨kp _,Nat.le_succ _⟩,fun i Q=>.inl Q⟩ (fun w f=>D3 (A:=[_,_,_,_,_,_]) (J:=[]) tk f)
    rintro⟨u,o6⟩ ⟨h7,h0⟩;simp only at h7 h0;refine I6 0 ?_;refine n8 (ι:=Bool) (fun _=>True) (fun q=>[(0,i8 g),(3,.int .u64 (x.us.getD j 0:Nat)),(4,i8 X),(6,.slice o6.1 u.length o6.2),(13,.slice x.ua x.us.length x.uc),(14,r7 x.us.length),(15,r7 j),(68,.bool q)]) (fun _=>ce o6.1 u o6.2::.blk X (.cells (R7 T).toArray 156)::C8 g {x with r:=r,z:=L0}::l6 p.1 b.a6x p.2::F9 x.b {s with a6y:=b} {sl with ra:=p.1,rc:=p.2} d (C7 y l o.1 o.2)::x4 o.1 (y.rl++l) o.2::R) ?_ ?_
    ·cases cs
     ·refine al ?_;refine f_ ((aN rfl).eq (v':=.bool false) (qn x3.symm)) ?_;refine P1 ?_;(first|refine u_ ?_|(refine v_ ?_;fail));refine A5 ?_;exact g_ _ trivial (fun w f=>D3 (A:=[_,_,_,_,_,_]) (J:=[]) tk f)
     ·refine al ?_;refine f_ ((aN rfl).eq (v':=.bool true) (qn x3.symm)) ?_;refine P1 ?_;(first|refine u_ ?_|(refine v_ ?_;refine c_ rfl (uV x.c x.k 9 qb) (fun h Y _=>M.c.a6B.le Y) rfl ?_));refine A5 ?_;exact g_ _ trivial (fun w f=>D3 (A:=[_,_,_,_,_,_]) (J:=[]) tk f)
    intro b8 _;refine x6 ?_;refine n8 (ι:=List IT×AC) (fun q=>(x.c.a6B.length<=q.1.length/\q.1.length<=x.c.a6B.length+2)/\∀i∈q.1,i∈x.c.a6B\/i=sY 6\/i=sY 7\/i=sY 9) (fun q=>[(0,i8 g),(3,.int .u64 (x.us.getD j 0:Nat)),(4,i8 X),(6,.slice q.2.1 q.1.length q.2.2),(13,.slice x.ua x.us.length x.uc),(14,r7 x.us.length),(15,r7 j)]) (fun q=>ce q.2.1 q.1 q.2.2::.blk X (.cells (R7 T).toArray 156)::C8 g {x with r:=r,z:=L0}::l6 p.1 b.a6x p.2::F9 x.b {s with a6y:=b} {sl with ra:=p.1,rc:=p.2} d (C7 y l o.1 o.2)::x4 o.1 (y.rl++l) o.2::R) ?_ ?_
    ·refine p7 rfl ?_ ?_<;>intro h
     ·refine u6 ?_;refine f_ (A2 (ps:=[(0,.const (.int .i64 9))]) (vs:=[(0,.int .i64 9)]) (cells:=(co (sY 9)).toArray) rfl i6) ?_;refine D2 co (sY 9) rfl ?_;intro b9 _;refine u7 co (l:=u) (m:=[sY 9]) S6 gJ (by show(u.length+1)*32<=_;omega) ?_;intro a72 v5 _;refine u6 ?_;exact g_ (u++[sY 9],a72,v5) ⟨⟨by simp only[zg,z1,kx];omega,by simp only[zg,z1,kx];omega⟩,fun i Q=>by rcases kw.1 Q with Q|Q;exact h0 i Q;exact .inr (.inr (.inr (z7.1 Q)))⟩ (fun w f=>D3 (A:=[_,_,_,_,_,_]) (J:=[_]) tk f)
     ·refine x6 ?_;exact g_ (u,o6) ⟨⟨h7.1,by show u.length<=_;omega⟩,h0⟩ (fun w f=>D3 (A:=[_,_,_,_,_,_]) (J:=[]) tk f)
    clear h0 h7;rintro⟨u,o6⟩ ⟨h7,h0⟩;simp only at h7 h0;have v6:cW b (x.us.getD j 0)<1000000:=W5 (Cn b _) (by have:=Q.vw.len;omega);obtain⟨sq,k9⟩:=o9 (cW b (x.us.getD j 0));have h8:=Hl b p.1 p.2 (x.us.getD j 0) (by have:=Q.vw.len;omega);rw[<-k9] at h8 v6;refine wk 9 ?_;refine c_ rfl h8 (fun h Y ⟨bs,hb⟩=>A_.rd hb ud) rfl ?_;refine f_ ((A3 rfl qb).eq (v':=.int .u64 (sq:Nat)) rfl) ?_;refine f_ (A2 (ps:=[(0,.const (.int .i64 14)),(4,.tmp 83)]) (vs:=[(0,.int .i64 14),(4,.int .u64 (sq:Nat))]) (cells:=(tM (yg sq []) L0).toArray) rfl i6) ?_;refine i7 rfl ?_;intro g7;refine u6 ?_;refine I6 3 ?_;refine n8 (ι:=AC×List VM×List As) (fun q=>q.2.1.length=u.length/\(∀w∈q.2.1,Ai x w.v)/\∀h bs,A_ h q.2.2 bs->∀w∈q.2.1,n9 h w.a (fV w.v.a6J)) (fun q=>[(0,i8 g),(3,.int .u64 (x.us.getD j 0:Nat)),(4,i8 X),(7,i8 g7),(13,.slice x.ua x.us.length x.uc),(14,r7 x.us.length),(15,r7 j)]) (fun q=>match q with|(O,D,Z)=>yf g7 (yg sq (D.map VM.v)) ⟨none,0,none,0,O.1,O.2,D⟩::bT O.1 D O.2::.blk X (.cells (R7 T).toArray 156)::C8 g {x with r:=r,z:=L0}::l6 p.1 b.a6x p.2::F9 x.b {s with a6y:=b} {sl with ra:=p.1,rc:=p.2} d (C7 y l o.1 o.2)::x4 o.1 (y.rl++l) o.2::(Z++R)) ?_ ?_
    ·refine o0 ?_;refine B7 (a:=o6.1) (n:=u.length) (c:=o6.2) (sz:=5) (xs:=oW u) ud fun _ _ x9=>?_;refine o8 (ι:=Nat×AC×List VM×List As) (fun q=>q.1<=u.length/\q.2.2.1.length=q.1/\(∀w∈q.2.2.1,Ai x w.v)/\∀h bs,A_ h q.2.2.2 bs->∀w∈q.2.2.1,n9 h w.a (fV w.v.a6J)) (fun q=>[(0,i8 g),(3,.int .u64 (x.us.getD j 0:Nat)),(4,i8 X),(7,i8 g7),(13,.slice x.ua x.us.length x.uc),(14,r7 x.us.length),(15,r7 j),(85,.slice o6.1 u.length o6.2),(86,r7 u.length),(87,r7 q.1)]) (fun q=>match q with|(_,O,D,Z)=>yf g7 (yg sq (D.map VM.v)) ⟨none,0,none,0,O.1,O.2,D⟩::bT O.1 D O.2::ce o6.1 u o6.2::.blk X (.cells (R7 T).toArray 156)::C8 g {x with r:=r,z:=L0}::l6 p.1 b.a6x p.2::F9 x.b {s with a6y:=b} {sl with ra:=p.1,rc:=p.2} d (C7 y l o.1 o.2)::x4 o.1 (y.rl++l) o.2::(Z++R)) (fun q=>u.length-q.1) (0,(none,0),[],[]) ⟨zp _,rfl,qy,(fun _ _ _ _ h=>by cases h)⟩ sub (fun w f=>?_) ?_
     ·exact D3 (A:=[_,bT none [] 0,_,_,_,_,_,_]) (J:=[]) tk (f.addNil 110 6)
     rintro⟨k,O,D,Z⟩ ⟨hk,q3,h4,h5⟩;simp only at hk q3 h4 h5;refine T2 ?_ ?_<;>intro h
     ·have q4:k<u.length:=(by have:=zy h;omega);have q5:=x9 qb;refine D1 ?_;refine f_ (n5 rfl q5 rfl qb) ?_;refine r_ (p9 rfl (fun w f=>bK (C:=co) (f.ownN (a:=o6.1) (t:=129) ud).2.2.1 S6 qp q4 x7) (S6 _)) ?_;refine i7 rfl ?_;intro g9;refine u6 ?_;refine D8 [1,3,4] [5,6,7,9] [yf g7 (yg sq (D.map VM.v)) ⟨none,0,none,0,O.1,O.2,D⟩,.blk g9 (.cells (co u[k]).toArray 129),.blk X (.cells (R7 T).toArray 156)] 10 ?_;refine wd [0,1,2,3,4] ?_;refine h_ 5 rfl i6 ?_;refine e_ (xJ g {x with r:=r,z:=L0} u[k] T qb (by have:=hx.bl;show x.bl.length<=_;omega) q8) (fun h Y _=>⟨M.g.le Y,v3.le Y,M.bl.le Y⟩) ?_;rintro v A ⟨vm,Z2,rfl,v7,rfl,v8⟩;refine z_ (H':=_::_::_::_::_::_::_::_::_::(Z2++(Z++R))) (fun w f=>f.perm ((z6 Z2 [_,_,_,_,_,_,_,_] (Z++R)).cons _)) ?_;refine V2 ?_;refine h_ 6 rfl i6 ?_;refine D2 vV vm rfl ?_;intro c0 _;refine V2 ?_;refine h_ 7 rfl i6 ?_;refine u7 vV (l:=D) (m:=[vm]) ny nz (by show(D.length+1)*72<=_;omega) ?_;intro Sj q6 _;refine D7 [8,9] ?_;refine A5 ?_;refine l8 (i:=(k,O,D,Z)) (k+1,(Sj,q6),D++[vm],Z2++Z) ⟨q4,by rw[zg];simp only[z1,kx];omega,fun w f=>by rcases kw.1 f with f|f;exact h4 w f;exact⟨u[k],T,h0 _ (zm q4),q1,by rw[z7.1 f];exact v7⟩,fun h bs hs w f=>?hzz⟩ qg sub (fun w f=>?hpp)
      case hzz=>
       obtain⟨b1,b2,rfl,h1,h2⟩:=A_.split hs;rcases kw.1 f with f|f
       ·exact h5 _ _ h2 w f
       ·rw[z7.1 f];exact v8 _ _ h1
      case hpp=>
       show Hp V w (yf g7 (yg sq ((D++[vm]).map VM.v)) ⟨none,0,none,0,Sj,q6,D++[vm]⟩::bT Sj (D++[vm]) q6::ce o6.1 u o6.2::.blk X (.cells (R7 T).toArray 156)::C8 g {x with r:=r,z:=L0}::l6 p.1 b.a6x p.2::F9 x.b {s with a6y:=b} {sl with ra:=p.1,rc:=p.2} d (C7 y l o.1 o.2)::x4 o.1 (y.rl++l) o.2::((Z2++Z)++R));rw[ky];exact D3 (A:=[_,_,_,_,_,_,_,_]) (J:=[_,_]) tk f
     ·refine x6 ?_;exact g_ (O,D,Z) ⟨by have:=zu h;simp only;omega,h4,h5⟩ (fun w f=>D3 (A:=[_,_,_,_,_,_,_]) (J:=[_]) tk f)
    rintro⟨O,D,Z⟩ ⟨q3,h4,h5⟩;simp only at q3 h4 h5;refine x6 ?_;have v9:x.us.getD j 0∈x.us:=(by rw[z8,zd h6];exact zm h6);refine C5 (H':=(yf g7 (yg sq (D.map VM.v)) ⟨none,0,none,0,O.1,O.2,D⟩::.blk X (.cells (R7 T).toArray 156)::C8 g {x with r:=r,z:=L0}::l6 p.1 b.a6x p.2::F9 x.b {s with a6y:=b} {sl with ra:=p.1,rc:=p.2} d (C7 y l o.1 o.2)::x4 o.1 (y.rl++l) o.2::R)++(bT O.1 D O.2::Z)) (fun w f=>f.perm (Co _ _ [_,_,_,_,_] Z R)) (cy fun F2 k0 hb=>?_);obtain⟨bs,hb⟩:=hb;obtain⟨b1,b2,rfl,y0,y1⟩:=hb;have y2:n9 F2.heap O.1 (Pz D):=A_.rd (H:=[bT O.1 D O.2]) ⟨b1,[],(jk _).symm,y0,rfl⟩ ud;have y3:=h5 _ _ y1;clear y0 y1;have z0:cZ x F2.heap:=Mn.le k0.heap M;obtain⟨m,hm⟩:=o9 (α:=RM) ((yg sq (D.map VM.v),⟨none,0,none,0,O.1,O.2,D⟩));have z2:∀a c,G1 (C7 y l o.1 o.2) (yg sq (D.map VM.v),⟨none,0,none,0,O.1,O.2,D⟩) a c=C7 y (l++[m]) a c:=fun a c=>(by simp[G1,C7,hm]);have h9:nj x s x.us r b (l++[m]) F2.heap:=by
     have h3:=Q.le k0.heap;refine⟨h3.vw,h3.rep,fun q hq=>?_,fun q hq=>?_⟩
     ·rcases kw.1 hq with hq|hq
      ·exact h3.tol q hq
      ·rw[z7.1 hq,hm];refine⟨x.us.getD j 0,.inl v9,D.map VM.v,by rw[k9,Q.vw.seq],by rw[kg];rcases Zq x.c.a6B.length with e|e;exact .inr (js e);exact .inl qb,by rw[kg];omega,fun v hv=>?_⟩;obtain⟨w,f,rfl⟩:=jr.1 hv;exact h4 w f
     ·rcases kw.1 hq with hq|hq
      ·exact h3.rd q hq
      ·rw[z7.1 hq,hm];exact⟨⟨rfl,n9.nil _ _,n9.nil _ _,y2,y3⟩,rfl,rfl⟩
    refine x6 ?_;refine D8 [3,4] [5] [C8 g {x with r:=r,z:=L0},yf g7 (yg sq (D.map VM.v)) ⟨none,0,none,0,O.1,O.2,D⟩] 6 ?_;refine wd [0,1,2,3,4] ?_;refine h_ 5 rfl i6 ?_;refine e_ (X2 x.b {s with a6y:=b} {sl with ra:=p.1,rc:=p.2} d (C7 y l o.1 o.2) (yg sq (D.map VM.v)) ⟨none,0,none,0,O.1,O.2,D⟩ (by simp only[zg];omega)) qw ?_;rintro v A ⟨rfl,a9,c9,rfl⟩;refine D7 [] ?_;rw[z2];refine P1 ?_;refine c_ rfl (uV x.c x.k 6 qb) (fun h Y _=>z0.c.a6B.le Y) rfl ?_;refine O_ ?_ ?_<;>intro h
    ·refine x6 ?_;refine D8 [3,7,11,14] [15,19] [C8 g {x with r:=r,z:=L0},F9 x.b {s with a6y:=b} {sl with ra:=p.1,rc:=p.2} d (C7 y (l++[m]) a9 c9),.blk X (.cells (R7 T).toArray 156)] 20 ?_;refine wd [0,1,2,3,4,5,6,7,8,9,10,11,12,13,14] ?_;refine h_ 15 rfl i6 ?_;refine e_ (C:=[]) (By b p.1 p.2 (x.us.getD j 0) T.t.mod (by have:=Q.vw.len;omega)) ?pre ?_;(case pre=>exact fun h Y ⟨bs,hb⟩=>A_.rd hb ud);rintro v A ⟨a5,c5,rfl,rfl⟩;refine fy [16,17,18,19] ?_;exact y7 (r,cD b (x.us.getD j 0) T.t.mod,(a5,c5),l++[m],(a9,c9),F2) ⟨S.trans k0,{h9 with vw:=h9.vw.told _ _},by simp only[zg,z1,kx];omega⟩ rfl (fun w f=>D3 (A:=[_,_,_,_]) (J:=[_,_,_]) tk f)
    ·refine x6 ?_;exact y7 (r,b,p,l++[m],(a9,c9),F2) ⟨S.trans k0,h9,by simp only[zg,z1,kx];omega⟩ rfl (fun w f=>D3 (A:=[_,_,_,_]) (J:=[_,_]) tk f)
   rintro r' v2 p2 l2 O F2 ⟨u0,h9,u1⟩;refine A5 ?_;exact Q_ (i:=(j,r,b,p,l,o,V)) (j+1,r',v2,p2,l2,O,F2) ⟨h6,u0,h9,u1⟩ qg sub rfl i_
  ·refine x6 ?_;exact y7 (r,b,p,l,o,V) ⟨S,Q,by simp only;omega⟩ rfl i_
 rintro r b p l o V ⟨S,Q,w0⟩;refine I4 (A:=C8 g {x with r:=r,z:=L0}::l6 p.1 b.a6x p.2::P3 x.b {s with a6y:=b} {sl with ra:=p.1,rc:=p.2} d (C7 y l o.1 o.2)) (v:=.tuple #[]) S ⟨rfl,r,{s with a6y:=b},{sl with ra:=p.1,rc:=p.2},l,o.1,o.2,⟨by rw[kg];exact w0,⟨b,rfl,Q.vw⟩,Q.rep,fun q hq=>?_⟩,Q.rd,⟨(Mn.le S.heap q7).a6A,(Mn.le S.heap q7).cmd⟩,rfl⟩ ?_
 ·obtain⟨m,hm,rfl⟩:=jr.1 hq;exact Q.tol m hm
 ·exact m6 rfl _ qh i_
def xM(n:Nat)(h:n<18446744073709551616):Pu prog 366 [.int .u64 (n:Nat)] Gl (B (fU n)):=by
 obtain⟨q,a⟩:=o9 (decide (n=0));refine b_ 7 func366 rfl rfl rfl ?_;intro F hg;refine A5 ?_;refine f_ ((q_ rfl rfl).eq (v':=.bool q) (qn ((qz).trans a.symm))) ?_;refine x6 ?_
 cases q
 ·have b:n≠0:=zu a.symm;refine u6 ?_;refine c_ rfl (aT n h) (fun h c _=>hg.le c) rfl ?_;refine D0 ?_;exact d_ rfl rfl [] ⟨by unfold fU;rw[zb b],rfl⟩ i_
 ·have b:n=0:=zy a.symm;refine D0 ?_;exact d_ rfl rfl [] ⟨by unfold fU;rw[zr b],rfl⟩ i_
def NK(n:Nat)(h:n<18446744073709551616):(T1 n).length<=20:=by
 have a:∀(k n:Nat),n<10^(k+1)->(T1 n).length<=k+1:=fun k=>by
  induction k with
  |zero=>intro n h;rw[bW (by simpa using h)];simp
  |succ k ih=>
   intro n h;by_cases h1:n<10
   ·rw[bW h1];simp
   ·have:=ih (n/10) (Nat.div_lt_of_lt_mul (by rw[Yj] at h;omega));rw[gD qb,zg];simp only[z1,kx];omega
 exact a 19 n qb
def kT(n:Nat)(h:n<18446744073709551616):(fU n).length<=20:=by
 unfold fU;split
 ·simp
 ·exact NK n h
def Cp(r:Nat×Nat)(a:r.1<18446744073709551616)(b:r.2<18446744073709551616):(aR r).length<=41:=by
 have:=kT r.1 a;have:=kT r.2 b;unfold aR;split
 ·omega
 ·simp only[zg,z1];omega
def qL(k:Nat):∀l:List Bs,(∀x∈l,x.length<=k)->(fu [44] l).length<=l.length*(k+1)
 |[],_=>by simp[fu]
 |[x],h=>by have:=h x x7;simp[fu];omega
 |x::y::t,h=>by
  have b:=h x x7;have a:=qL k (y::t) fun z hz=>h z (jn _ hz);rw[fu,zg,zg];simp only[z1,kx] at a⊢;rw[Zj];omega;all_goals simp
def xN(l:List (Nat×Nat))(a:qr)(c:Nat)(hl:l.length<=1000000)(t:∀r∈l,r.1<18446744073709551616/\r.2<18446744073709551616):
  Ct prog 311 [.slice a l.length c] (fun h=>Gl h/\n9 h a (S_ l)) [] (fun v A=>(∃(w:Bs) (ok:Bool),v=.tuple #[B w,.bool ok]/\(ok=true->l≠[]/\l.length<=64/\w=fu [44] (l.map aR)))/\A=[]):=by
 obtain⟨S,T⟩:=o9 (decide (l.length<1));obtain⟨Z,U⟩:=o9 (decide (64<l.length));refine b_ 49 func311 rfl rfl rfl ?_;rintro F ⟨hg,g⟩;refine A5 ?_;refine x8 [(0,.slice a l.length c),(15,.bool (S||Z))] [] ?_ ?_
 ·cases S
  all_goals (
   refine A5 ?_;refine f_ ((F8 rfl rfl).eq (qn ((qz).trans T.symm))) ?_;refine E8 ?_;(first|refine u_ ?_|(refine v_ ?_;refine f_ ((E9 rfl rfl).eq (qn ((qz).trans U.symm))) ?_));refine u6 ?_)
  all_goals exact p_ sub i_
 refine O_ ?_ ?_<;>intro h
 ·refine M4 ?_;exact w8 rfl rfl rfl [] ⟨⟨_,_,rfl,fun e=>by cases e⟩,rfl⟩ i_
 have k:¬l.length<1/\¬64<l.length:=by rw[T,U] at h;simpa using h
 refine u6 ?_;refine I6 3 ?_;refine n8 (ι:=AC) (fun _=>True) (fun o=>[(4,.slice o.1 (l.map aR).length o.2)]) (fun o=>[B0 o.1 (l.map aR) o.2]) ?_ ?_
 ·refine o0 ?_;refine o8 (ι:=Nat×AC) (fun i=>i.1<=l.length) (fun i=>[(0,.slice a l.length c),(16,.slice a l.length c),(17,r7 l.length),(18,r7 i.1),(4,.slice i.2.1 ((l.take i.1).map aR).length i.2.2)]) (fun i=>[B0 i.2.1 ((l.take i.1).map aR) i.2.2]) (fun i=>l.length-i.1) (0,none,0) (zp _) sub (fun w d=>d.addNil _ _) ?_;rintro⟨j,o⟩ hj;simp only at hj;refine T2 ?_ ?_<;>intro h
  ·have b:j<l.length:=(by have:=zy h;omega);have u:=p8 g B6 qp b;have f:=t _ (zm b);have h0:=kT l[j].1 f.1;have h5:=kT l[j].2 f.2;refine I6 0 ?_;refine o0 ?_;refine D1 ?_;refine f_ (n5 rfl u rfl qb) ?_;refine r_ (p9 rfl (fun w d=>bK (C:=dL) (g.le d.keep) B6 qp b x7) (B6 _)) ?_;refine i7 rfl ?_;intro g6;refine al ?_;refine f_ (ol rfl rfl) ?_;refine T2 ?_ ?_<;>intro h
   ·refine M4 ?_;exact w8 rfl rfl rfl [] ⟨⟨_,_,rfl,fun e=>by cases e⟩,rfl⟩ (fun w d=>d.dropAll)
   refine A5 ?_;refine c_ rfl (xM l[j].1 f.1) (fun h s _=>hg.le s) rfl ?_;refine u6 ?_;obtain⟨V,y⟩:=o9 (decide (l[j].2=l[j].1));refine P1 ?_;refine f_ ((M2 rfl rfl).eq (v':=.bool (!V)) (jh (fun x=>Value.bool (!x)) ((qz).trans y.symm))) ?_;refine x6 ?_;refine x8 [(0,.slice a l.length c),(16,.slice a l.length c),(17,r7 l.length),(18,r7 j),(4,.slice o.1 ((l.take j).map aR).length o.2),(7,B (aR l[j]))] [B0 o.1 ((l.take j).map aR) o.2] ?_ ?_
   ·cases V
    ·have z:¬l[j].2=l[j].1:=zu y.symm;have D:aR l[j]=fU l[j].1++58::fU l[j].2:=(by unfold aR;rw[zb z]);rw[D];refine E8 ?_;refine c_ rfl (xM l[j].2 f.2) (fun h s _=>hg.le s) rfl ?_;refine E8 ?_;exact p_ sub (fun w d=>d.drop)
    ·have z:l[j].2=l[j].1:=zy y.symm;have D:aR l[j]=fU l[j].1:=(by unfold aR;rw[zr z]);rw[D];refine x6 ?_;exact p_ sub (fun w d=>d.drop)
   refine A5 ?_;refine uH (n:=aR l[j]) ?_;intro a44;refine uI (l:=(l.take j).map aR) (m:=[aR l[j]]) (by rw[kg,kr];show(min j l.length+1)*16<=_;omega) ?_ (hl:=by rw[kg,kr];show min j l.length+1<=_;omega);intro M O _;refine E8 ?_;have X:(l.take (j+1)).map aR=(l.take j).map aR++[aR l[j]]:=(by rw[jy b,Qx];rfl);refine l8 (i:=(j,o)) (j+1,M,O) b qg (by rw[X];exact sub) (fun w d=>by rw[X];exact D3 (A:=[_]) (J:=[_]) tk d)
  ·have b:j=l.length:=(by have:=zu h;omega);refine x6 ?_;exact g_ o trivial (fun w d=>by rw[b,Qn] at d;exact d) (hs:=by rw[b,Qn];exact sub)
 rintro o-;refine x6 ?_;refine B7 (a:=o.1) (n:=(l.map aR).length) (c:=o.2) (sz:=1) (xs:=fV (l.map aR)) (te:=9) ud fun _ p _=>?_;have Q:(l.map aR).length<=64:=by rw[kg];omega
 have h6:=qL 41 (l.map aR) fun x hx=>by
  obtain⟨r,q,rfl⟩:=jr.1 hx;exact Cp r (t r q).1 (t r q).2
 have Y:(l.map aR).length*42<=64*42:=Qr _ Q;refine u6 ?_;refine c_ rfl (LX (l.map aR) o.1 o.2 [44] p qb qb) (fun h s ⟨bs,hb⟩=>A_.rd hb ud) rfl ?_;refine M4 ?_;exact w8 rfl rfl rfl [] ⟨⟨_,_,rfl,fun _=>⟨fun e=>k.1 (by rw[e];decide),by omega,rfl⟩⟩,rfl⟩ (fun w d=>d.dropAll)
def NL(l:zz)(a:qr)(c:Nat)(f:Nat)(hl:l.length<=1000000000000):Pu prog 365 [.slice a l.length c,.int .u64 (f:Nat)] (fun h=>n9 h a (nV l)) (.int .i64 (D9 (fun x=>decide (x=f)) l)):=by
 refine b_ 19 func365 rfl rfl rfl ?_;intro F e;refine P1 ?_;refine o8 (ι:=Nat) (fun j=>j<=l.length/\∀i (g:i<l.length),i<j->decide (l[i]=f)=false) (fun j=>[(0,.slice a l.length c),(1,.int .u64 (f:Nat)),(7,r7 l.length),(8,r7 j)]) (fun _=>[]) (fun j=>l.length-j) 0 ⟨zp _,fun i _ h=>by omega⟩ sub i_ ?_;rintro j ⟨q,d⟩;refine T2 ?_ ?_<;>intro h
 ·have b:j<l.length:=by have:=zy h;omega
  have k:=ae e b;have m:l.getD j 0=l[j]:=by simp[List.getD,b]
  refine Y1 ?_;refine r_ (l5 rfl (fun w o=>uD o e (i:=j) x7 b)) ?_;refine f_ ((q_ rfl rfl).eq (v':=.bool (decide (l[j]=f))) (qn (kz.2 (by rw[m];omega)))) ?_;refine O_ ?_ ?_<;>intro n
  ·refine M4 ?_;exact d_ rfl rfl [] ⟨by rw[O3 b n d],rfl⟩ i_
  ·refine A5 ?_;refine l8 (j+1) ⟨b,fun i g h=>?_⟩ qb sub i_;rcases jd.1 h with p|rfl
   ·exact d i g p
   ·exact n
 ·have b:j=l.length:=by have:=zu h;omega
  refine D0 ?_;exact d_ rfl rfl [] ⟨by rw[O2 fun i g=>d i g qb],rfl⟩ i_
def Jf(l:zz)(f:Nat):l.any (fun x=>decide (x=f))=decide (f∈l):=by
 rw[Z5,Jd,K9];constructor
 ·rintro⟨x,a,h⟩;exact zy h▸a
 ·exact fun h=>⟨f,h,ju rfl⟩
def Cq(l:zz)(a:qr)(c:Nat)(f:Nat)(hl:l.length<=1000000000000):Pu prog 310 [.slice a l.length c,.int .u64 (f:Nat)] (fun h=>n9 h a (nV l)) (.bool (decide (f∈l))):=by
 refine b_ 9 func310 rfl rfl rfl ?_;intro F b;refine E8 ?_;refine c_ rfl (NL l a c f hl) (fun h d _=>b.le d) rfl ?_;refine f_ ((K_ rfl rfl).eq (qn ((fW (fun x=>decide (x=f)) l).trans (Jf l f)))) ?_;refine D0 ?_;exact d_ rfl rfl [] qh i_
abbrev KQ(p:Bool×Nat):zq:=[.bool p.1,.int .i64 (p.2:Nat)]
def Cr:∀x,(KQ x).length=2:=fun _=>rfl
abbrev Uf:Bs:=[77,79,68,73,70,73,69,68,32]
def EW(g:Nat)(x:AN)(s:SE)(sl:SL)(d:DD)(y:DL)(hx:rE x)(hz:x.z=L0)(a0:s.a6y.a6x.length<=100000)(a1:x.us.length<=100000)(a2:x.o.a6A.length<=100000)(u1:x.o.mods.length<=100000/\gg x.o.mods)(hl:y.rl.length<=100000):
  Cm prog 237 [i8 g] (fun h=>cZ x h/\P4 s sl h) (C8 g x::l6 sl.ra s.a6y.a6x sl.rc::P3 x.b s sl d y) (xL g x d y (uY x s [])):=by
 refine A0 178 func237 rfl rfl rfl ?_;rintro F R ⟨q2,q4⟩;have q5:∀p∈x.bl,p.2.length<=1000000000:=fun p hp=>by have:=hx.body p hp;omega
 have q6:x.bx.ls.length<=1000000:=by have:=hx.ls;omega
 refine I6 7 ?_;refine bi (fun(_:Unit) (b:VW) (p:AC) (l:List RM) (o:AC) (S:l9)=>F.le S/\nj x s [] x.r b l S.heap/\l.length<=100000) (fun _ _ _ _ _ _=>[(0,i8 g)]) (fun _ _ _ _ _ S=>S) (fun _ b p l o _=>C8 g x::l6 p.1 b.a6x p.2::F9 x.b {s with a6y:=b} {sl with ra:=p.1,rc:=p.2} d (C7 y l o.1 o.2)::x4 o.1 (y.rl++l) o.2::R) ?_ ?_
 ·refine o0 ?_;refine bV (ι:=Nat×VW×AC×List RM×AC×l9) (fun i=>i.1<=x.o.a6A.length/\F.le i.2.2.2.2.2/\nj x s [] x.r i.2.1 i.2.2.2.1 i.2.2.2.2.2.heap/\i.2.2.2.1.length<=i.1) (fun i=>[(0,i8 g),(18,.slice x.y.ua x.o.a6A.length x.y.uc),(19,r7 x.o.a6A.length),(20,r7 i.1)]) (fun i=>i.2.2.2.2.2)
   (fun i=>match i with|(j,b,p,l,o,S)=>C8 g x::l6 p.1 b.a6x p.2::F9 x.b {s with a6y:=b} {sl with ra:=p.1,rc:=p.2} d (C7 y l o.1 o.2)::x4 o.1 (y.rl++l) o.2::R) (fun i=>x.o.a6A.length-i.1) (0,s.a6y,(sl.ra,sl.rc),[],(y.da,y.dc),F) ⟨zp _,l9.le_refl _,⟨Aj.rfl' _,.inl ⟨x.r.code,rfl⟩,qy,qy⟩,kp _⟩ sub rfl (fun w n=>?_) ?_
  ·show Hp F w (_::_::F9 x.b s sl d (C7 y [] y.da y.dc)::x4 y.da (y.rl++[]) y.dc::R);simp only[C7,jk];exact D3 (A:=[_,_,_,_]) (J:=[]) tk n
  rintro⟨j,b,p,l,o,S⟩ ⟨hj,M,T,u2⟩;simp only at hj M T u2;have f:cZ x S.heap:=Mn.le M.heap q2;refine T2 ?_ ?_<;>intro h
  ·have U:j<x.o.a6A.length:=(by have:=zy h;omega);have k8:=ae f.o.a6A U;refine I6 0 ?_;refine bi (fun(_:Unit) (b:VW) (p:AC) (l:List RM) (o:AC) (F2:l9)=>F.le F2/\nj x s [] x.r b l F2.heap/\l.length<=j+1) (fun _ _ _ _ _ _=>[(0,i8 g),(18,.slice x.y.ua x.o.a6A.length x.y.uc),(19,r7 x.o.a6A.length),(20,r7 j)]) (fun _ _ _ _ _ S=>S) (fun _ b p l o _=>C8 g x::l6 p.1 b.a6x p.2::F9 x.b {s with a6y:=b} {sl with ra:=p.1,rc:=p.2} d (C7 y l o.1 o.2)::x4 o.1 (y.rl++l) o.2::R) ?_ ?_
   ·refine o0 ?_;refine D1 ?_;refine f_ (n5 rfl k8 rfl qb) ?_;refine r_ (l5 rfl (fun w n=>uD n f.o.a6A (i:=j) x7 U)) ?_;refine E8 ?_;refine e_ (fo g x (x.o.a6A.getD j 0) q6) (fun h Q _=>f.bx.ls.le Q) ?_;rintro v A ⟨lm,ok,rfl,u8,rfl⟩;refine E8 ?_;refine i7 rfl ?_;intro g4;refine A5 ?_
    cases ok
    ·refine A5 ?_;exact y7 ((),b,p,l,o,S) ⟨M,T,by simp only;omega⟩ rfl (fun w n=>D3 (A:=[_,_,_,_]) (J:=[_]) tk n)
    obtain⟨V,a6⟩:=u8.1 rfl;have v0:=f.bx.fl _ V;have w3:=hx.fl _ V;refine E8 ?_;obtain⟨L3,k9⟩:∃L3:List (Bool×Nat),L3=[(x.c.uid,7),(!x.c.a6H,6),(s.cond,9)]:=⟨_,rfl⟩;have v1:∀q∈L3,q.2=6\/q.2=7\/q.2=9:=fun q O=>by
     rw[k9] at O;simp at O;rcases O with rfl|rfl|rfl<;>simp
    have w4:L3.length=3:=(by rw[k9];rfl);refine x6 ?_;refine vM [4,10,16,20] [22] 25 ?_;refine wd [0,1,2,3,4,5,6,7,8,9,10,11,12,13,14,15,16,17,18,19,20,21,24] ?_;refine h_ 22 rfl i6 ?_;refine y6 (ps:=[(0,.tmp 37),(1,.tmp 44),(2,.tmp 53)]) (vs:=[(0,.agg (KQ (x.c.uid,7)).toArray),(1,.agg (KQ (!x.c.a6H,6)).toArray),(2,.agg (KQ (s.cond,9)).toArray)]) (xs:=[(x.c.uid,7),(!x.c.a6H,6),(s.cond,9)].flatMap KQ) rfl rfl rfl rfl rfl rfl rfl rfl ?_;intro Ld q7;rw[<-k9];refine D7 [23,7] ?_;have q8:∃ad,Ld=some ad:=q7;refine n8 (ι:=AC×List VM×List As) (fun q=>q.2.1.length<=3/\(∀w∈q.2.1,Ai x w.v)/\∀h bs,A_ h q.2.2 bs->∀w∈q.2.1,n9 h w.a (fV w.v.a6J)) (fun q=>[(0,i8 g),(3,.int .u64 (x.o.a6A.getD j 0:Nat)),(4,i8 g4),(6,.slice q.1.1 q.2.1.length q.1.2),(18,.slice x.y.ua x.o.a6A.length x.y.uc),(19,r7 x.o.a6A.length),(20,r7 j)]) (fun q=>match q with|(D,u,Z)=>.blk g4 (.cells (R7 lm).toArray 156)::bT D.1 u D.2::C8 g x::l6 p.1 b.a6x p.2::F9 x.b {s with a6y:=b} {sl with ra:=p.1,rc:=p.2} d (C7 y l o.1 o.2)::x4 o.1 (y.rl++l) o.2::(Z++R)) ?_ ?_
    ·refine o0 ?_;refine o8 (ι:=Nat×AC×List VM×List As) (fun q=>q.1<=3/\q.2.2.1.length<=q.1/\(∀w∈q.2.2.1,Ai x w.v)/\∀h bs,A_ h q.2.2.2 bs->∀w∈q.2.2.1,n9 h w.a (fV w.v.a6J)) (fun q=>[(0,i8 g),(3,.int .u64 (x.o.a6A.getD j 0:Nat)),(4,i8 g4),(6,.slice q.2.1.1 q.2.2.1.length q.2.1.2),(18,.slice x.y.ua x.o.a6A.length x.y.uc),(19,r7 x.o.a6A.length),(20,r7 j),(54,.slice Ld 3 3),(55,.int .i64 3),(56,r7 q.1)]) (fun q=>match q with|(_,D,u,Z)=>.own (.slice Ld 3 3) 340 2 (L3.flatMap KQ)::.blk g4 (.cells (R7 lm).toArray 156)::bT D.1 u D.2::C8 g x::l6 p.1 b.a6x p.2::F9 x.b {s with a6y:=b} {sl with ra:=p.1,rc:=p.2} d (C7 y l o.1 o.2)::x4 o.1 (y.rl++l) o.2::(Z++R)) (fun q=>3-q.1) (0,(none,0),[],[]) ⟨zp _,zp _,qy,(fun _ _ _ _ h=>by cases h)⟩ sub (fun w n=>?_) ?_
     ·exact D3 (A:=[.own (.slice Ld 3 3) 340 2 (L3.flatMap KQ),_,bT none [] 0,_,_,_,_]) (J:=[]) tk (n.addNil 110 6)
     rintro⟨k,D,u,Z⟩ ⟨hk,q0,X,Y⟩;simp only at hk q0 X Y;refine T2 ?_ ?_<;>intro h
     ·have q9:k<L3.length:=(by have:=zy h;omega);have v3:=v1 _ (zm q9);refine I6 0 ?_;refine n8 (ι:=AC×List VM×List As) (fun q=>q.2.1.length<=k+1/\(∀w∈q.2.1,Ai x w.v)/\∀h bs,A_ h q.2.2 bs->∀w∈q.2.1,n9 h w.a (fV w.v.a6J)) (fun q=>[(0,i8 g),(3,.int .u64 (x.o.a6A.getD j 0:Nat)),(4,i8 g4),(6,.slice q.1.1 q.2.1.length q.1.2),(18,.slice x.y.ua x.o.a6A.length x.y.uc),(19,r7 x.o.a6A.length),(20,r7 j),(54,.slice Ld 3 3),(55,.int .i64 3),(56,r7 k)]) (fun q=>match q with|(D,u,Z)=>.own (.slice Ld 3 3) 340 2 (L3.flatMap KQ)::.blk g4 (.cells (R7 lm).toArray 156)::bT D.1 u D.2::C8 g x::l6 p.1 b.a6x p.2::F9 x.b {s with a6y:=b} {sl with ra:=p.1,rc:=p.2} d (C7 y l o.1 o.2)::x4 o.1 (y.rl++l) o.2::(Z++R)) ?_ ?_
      ·refine o0 ?_;refine D1 ?_;refine f_ (n5 rfl q8 rfl qb) ?_;refine r_ (p9 rfl (fun w n=>bK (C:=KQ) (n.ownN (t:=340) ud).2.2.1 Cr qp q9 x7) (Cr _)) ?_;refine i7 rfl ?_;intro g8;refine eV ?_ ?_<;>intro h
       ·refine P1 ?_;refine f_ (A2 (ps:=[(0,.tmp 65)]) (vs:=[(0,r7 (L3[k].2))]) (cells:=(co (sY L3[k].2)).toArray) rfl i6) ?_;refine u6 ?_;refine e_ (xJ g x (sY L3[k].2) lm qb (by have:=hx.bl;omega) q5) (fun h Q _=>⟨f.g.le Q,v0.le Q,f.bl.le Q⟩) ?_;rintro v A ⟨vm,Z2,rfl,v4,rfl,v5⟩;refine z_ (H':=_::_::_::_::_::_::_::_::(Z2++(Z++R))) (fun w n=>n.perm ((z6 Z2 [_,_,_,_,_,_,_] (Z++R)).cons _)) ?_;refine D2 vV vm rfl ?_;intro a8 _;refine u7 vV (l:=u) (m:=[vm]) ny nz (by show(u.length+1)*72<=_;omega) ?_;intro a70 x0 _;refine u6 ?_;refine g_ ((a70,x0),u++[vm],Z2++Z) ⟨by rw[zg];simp only[z1,kx];omega,fun w n=>by rcases kw.1 n with n|n;exact X w n;exact⟨sY L3[k].2,lm,.inr (by rcases v3 with e|e|e<;>rw[e]<;>simp),V,by rw[z7.1 n];exact v4⟩,fun h bs hs w n=>?hzz⟩ (fun w n=>?hpp)
        case hzz=>
         obtain⟨b1,b2,rfl,h1,h2⟩:=A_.split hs;rcases kw.1 n with n|n
         ·exact Y _ _ h2 w n
         ·rw[z7.1 n];exact v5 _ _ h1
        case hpp=>
         show Hp S w (.own (.slice Ld 3 3) 340 2 (L3.flatMap KQ)::.blk g4 (.cells (R7 lm).toArray 156)::bT a70 (u++[vm]) x0::C8 g x::l6 p.1 b.a6x p.2::F9 x.b {s with a6y:=b} {sl with ra:=p.1,rc:=p.2} d (C7 y l o.1 o.2)::x4 o.1 (y.rl++l) o.2::((Z2++Z)++R));rw[ky];exact D3 (A:=[_,_,_,_,_,_,_]) (J:=[_,_]) tk n
       ·refine x6 ?_;exact g_ (D,u,Z) ⟨by simp only;omega,X,Y⟩ (fun w n=>D3 (A:=[_,_,_,_,_,_,_]) (J:=[_]) tk n)
      rintro⟨o3,v6,Z3⟩ ⟨x1,x2,x3⟩;simp only at x1 x2 x3;refine A5 ?_;exact l8 (i:=(k,D,u,Z)) (k+1,o3,v6,Z3) ⟨by simp only;omega,x1,x2,x3⟩ qg sub i_
     ·refine x6 ?_;exact g_ (D,u,Z) ⟨by simp only;omega,X,Y⟩ (fun w n=>D3 (A:=[_,_,_,_,_,_]) (J:=[_]) tk n)
    rintro⟨D,u,Z⟩ ⟨q0,X,Y⟩;simp only at q0 X Y;refine x6 ?_;have v7:cW b (x.o.a6A.getD j 0)<1000000:=W5 (Cn b _) (by have:=T.vw.len;omega);obtain⟨sq,h5⟩:=o9 (cW b (x.o.a6A.getD j 0));have h6:=Hl b p.1 p.2 (x.o.a6A.getD j 0) (by have:=T.vw.len;omega);rw[<-h5] at h6 v7;refine C5 (H':=(.blk g4 (.cells (R7 lm).toArray 156)::C8 g x::l6 p.1 b.a6x p.2::F9 x.b {s with a6y:=b} {sl with ra:=p.1,rc:=p.2} d (C7 y l o.1 o.2)::x4 o.1 (y.rl++l) o.2::R)++(bT D.1 u D.2::Z)) (fun w n=>n.perm (Co _ _ [_,_,_,_] Z R)) (cy fun F2 h8 hb=>?_);obtain⟨bs,hb⟩:=hb;obtain⟨b1,b2,rfl,x5,x9⟩:=hb;have y0:n9 F2.heap D.1 (Pz u):=A_.rd (H:=[bT D.1 u D.2]) ⟨b1,[],(jk _).symm,x5,rfl⟩ ud;have y1:=Y _ _ x9;clear x5 x9;have w5:cZ x F2.heap:=Mn.le h8.heap f;refine wk 9 ?_;refine c_ rfl h6 (fun h Q ⟨bs,hb⟩=>A_.rd hb ud) rfl ?_;refine u6 ?_;refine I6 0 ?_;refine n8 (ι:=Bool) (fun q=>q=true->0<u.length/\0<sq) (fun q=>[(0,i8 g),(3,.int .u64 (x.o.a6A.getD j 0:Nat)),(4,i8 g4),(6,.slice D.1 u.length D.2),(9,r7 sq),(18,.slice x.y.ua x.o.a6A.length x.y.uc),(19,r7 x.o.a6A.length),(20,r7 j),(88,.bool q)]) (fun _=>.blk g4 (.cells (R7 lm).toArray 156)::C8 g x::l6 p.1 b.a6x p.2::F9 x.b {s with a6y:=b} {sl with ra:=p.1,rc:=p.2} d (C7 y l o.1 o.2)::x4 o.1 (y.rl++l) o.2::R) ?_ ?_
    ·by_cases y2:0<u.length
     ·refine A5 ?_;refine f_ ((E9 rfl rfl).eq (v':=.bool true) (qn (ju (show(0:Int)<((u.length:Nat):Int) by omega)))) ?_;refine A5 ?_;(first|refine u_ ?_|(refine v_ ?_;refine f_ ((E9 rfl rfl).eq (v':=.bool (decide (0<sq))) (qn qz)) ?_));refine u6 ?_;exact g_ (decide (0<sq)) (fun e=>⟨y2,zy e⟩) i_
     ·refine A5 ?_;refine f_ ((E9 rfl rfl).eq (v':=.bool false) (qn (Qk (show¬(0:Int)<((u.length:Nat):Int) by omega)))) ?_;refine A5 ?_;(first|refine u_ ?_|(refine v_ ?_;fail));refine u6 ?_;exact g_ false (fun e=>by cases e) i_
    intro b0 y3;refine x6 ?_;refine n8 (ι:=List RM×AC) (fun q=>nj x s [] x.r b q.1 F2.heap/\q.1.length<=j+1) (fun q=>[(0,i8 g),(3,.int .u64 (x.o.a6A.getD j 0:Nat)),(4,i8 g4),(18,.slice x.y.ua x.o.a6A.length x.y.uc),(19,r7 x.o.a6A.length),(20,r7 j)]) (fun q=>.blk g4 (.cells (R7 lm).toArray 156)::C8 g x::l6 p.1 b.a6x p.2::F9 x.b {s with a6y:=b} {sl with ra:=p.1,rc:=p.2} d (C7 y q.1 q.2.1 q.2.2)::x4 q.2.1 (y.rl++q.1) q.2.2::R) ?_ ?_
    ·refine p7 rfl ?_ ?_<;>intro h
     ·obtain⟨y2,v8⟩:=y3 h;obtain⟨m,hm⟩:=o9 (α:=RM) ((yg sq (u.map VM.v),⟨none,0,none,0,D.1,D.2,u⟩));have z0:∀a c,G1 (C7 y l o.1 o.2) (yg sq (u.map VM.v),⟨none,0,none,0,D.1,D.2,u⟩) a c=C7 y (l++[m]) a c:=fun a c=>(by simp[G1,C7,hm]);have h0:nj x s [] x.r b (l++[m]) F2.heap:=by
       have h3:=T.le h8.heap;refine⟨h3.vw,h3.rep,fun q O=>?_,fun q O=>?_⟩
       ·rcases kw.1 O with O|O
        ·exact h3.tol q O
        ·rw[z7.1 O,hm];refine⟨x.o.a6A.getD j 0,.inr (by rw[<-T.vw.seq,<-h5];exact v8),u.map VM.v,by rw[h5,T.vw.seq],.inl (by rw[kg];omega),by rw[kg];omega,fun v hv=>?_⟩;obtain⟨w,n,rfl⟩:=jr.1 hv;exact X w n
       ·rcases kw.1 O with O|O
        ·exact h3.rd q O
        ·rw[z7.1 O,hm];exact⟨⟨rfl,n9.nil _ _,n9.nil _ _,y0,y1⟩,rfl,rfl⟩
      refine al ?_;refine f_ ((A3 rfl qb).eq (v':=.int .u64 (sq:Nat)) rfl) ?_;refine u6 ?_;refine f_ (A2 (ps:=[(0,.const (.int .i64 14)),(4,.tmp 94),(9,.tmp 95)]) (vs:=[(0,.int .i64 14),(4,.int .u64 (sq:Nat)),(9,.slice D.1 u.length D.2)]) (cells:=(tM (yg sq (u.map VM.v)) ⟨none,0,none,0,D.1,D.2,u⟩).toArray) rfl i6) ?_;refine e_ (X2 x.b {s with a6y:=b} {sl with ra:=p.1,rc:=p.2} d (C7 y l o.1 o.2) (yg sq (u.map VM.v)) ⟨none,0,none,0,D.1,D.2,u⟩ (by simp only[zg];omega)) qw ?_;rintro v A ⟨rfl,a9,c9,rfl⟩;refine x6 ?_;rw[z0];exact g_ (l++[m],a9,c9) ⟨h0,by simp only[zg,z1,kx];omega⟩ (fun w n=>D3 (A:=[_,_,_,_,_]) (J:=[]) tk n)
     ·refine x6 ?_;exact g_ (l,o) ⟨T.le h8.heap,by simp only;omega⟩ i_
    rintro⟨l2,oo⟩ ⟨h0,h4⟩;simp only at h0 h4;refine x6 ?_;refine D8 [3,7,11,14] [15,19] [C8 g x,F9 x.b {s with a6y:=b} {sl with ra:=p.1,rc:=p.2} d (C7 y l2 oo.1 oo.2),.blk g4 (.cells (R7 lm).toArray 156)] 20 ?_;refine wd [0,1,2,3,4,5,6,7,8,9,10,11,12,13,14] ?_;refine h_ 15 rfl i6 ?_;refine e_ (C:=[]) (By b p.1 p.2 (x.o.a6A.getD j 0) lm.t.mod (by have:=T.vw.len;omega)) ?pre ?_;(case pre=>exact fun h Q ⟨bs,hb⟩=>A_.rd hb ud);rintro v A ⟨a5,c5,rfl,rfl⟩;refine fy [16,17,18,19] ?_;exact y7 ((),cD b (x.o.a6A.getD j 0) lm.t.mod,(a5,c5),l2,oo,F2) ⟨M.trans h8,{h0 with vw:=h0.vw.told _ _},h4⟩ rfl (fun w n=>D3 (A:=[_,_,_,_]) (J:=[_,_]) tk n)
   rintro _ v2 p2 l2 D F2 ⟨z2,h0,h4⟩;refine A5 ?_;exact Q_ (i:=(j,b,p,l,o,S)) (j+1,v2,p2,l2,D,F2) ⟨U,z2,h0,h4⟩ qg sub rfl i_
  ·refine x6 ?_;exact y7 ((),b,p,l,o,S) ⟨M,T,by simp only;omega⟩ rfl i_
 rintro _ b p l o S ⟨M,T,v9⟩;have f:cZ x S.heap:=Mn.le M.heap q2;have h7:∀(r:RR),((∃c,r={x.r with code:=c})\/r=Je x.c.tag)->xL g x d y (uY x s []) S.heap (.tuple #[]) (C8 g {x with r:=r,z:=L0}::l6 p.1 b.a6x p.2::P3 x.b {s with a6y:=b} {sl with ra:=p.1,rc:=p.2} d (C7 y l o.1 o.2)):=fun r hr=>
  ⟨rfl,r,{s with a6y:=b},{sl with ra:=p.1,rc:=p.2},l,o.1,o.2,⟨by rw[kg];exact v9,⟨b,rfl,T.vw⟩,hr,fun q O=>by obtain⟨m,hm,rfl⟩:=jr.1 O;exact T.tol m hm⟩,T.rd,⟨(Mn.le M.heap q4).a6A,(Mn.le M.heap q4).cmd⟩,rfl⟩
 refine x6 ?_;refine I6 6 ?_;refine n8 (ι:=Unit) (fun _=>True) (fun _=>[(0,i8 g)]) (fun _=>C8 g x::l6 p.1 b.a6x p.2::F9 x.b {s with a6y:=b} {sl with ra:=p.1,rc:=p.2} d (C7 y l o.1 o.2)::x4 o.1 (y.rl++l) o.2::R) ?_ ?_
 ·refine o0 ?_;refine o8 (ι:=Nat) (fun i=>i<=x.us.length) (fun i=>[(0,i8 g),(121,.slice x.ua x.us.length x.uc),(122,r7 x.us.length),(123,r7 i)]) (fun _=>C8 g x::l6 p.1 b.a6x p.2::F9 x.b {s with a6y:=b} {sl with ra:=p.1,rc:=p.2} d (C7 y l o.1 o.2)::x4 o.1 (y.rl++l) o.2::R) (fun i=>x.us.length-i) 0 (zp _) sub i_ ?_;intro j hj;refine T2 ?_ ?_<;>intro h
  ·have U:j<x.us.length:=(by have:=zy h;omega);have k8:=ae f.us U;refine I6 0 ?_;refine n8 (ι:=Unit) (fun _=>True) (fun _=>[(0,i8 g),(121,.slice x.ua x.us.length x.uc),(122,r7 x.us.length),(123,r7 j)]) (fun _=>C8 g x::l6 p.1 b.a6x p.2::F9 x.b {s with a6y:=b} {sl with ra:=p.1,rc:=p.2} d (C7 y l o.1 o.2)::x4 o.1 (y.rl++l) o.2::R) ?_ ?_
   ·refine o0 ?_;refine D1 ?_;refine f_ (n5 rfl k8 rfl qb) ?_;refine r_ (l5 rfl (fun w n=>uD n f.us (i:=j) x7 U)) ?_;refine u6 ?_;refine I6 0 ?_;refine n8 (ι:=Bool) (fun _=>True) (fun q=>[(0,i8 g),(121,.slice x.ua x.us.length x.uc),(122,r7 x.us.length),(123,r7 j),(144,.bool q)]) (fun _=>C8 g x::l6 p.1 b.a6x p.2::F9 x.b {s with a6y:=b} {sl with ra:=p.1,rc:=p.2} d (C7 y l o.1 o.2)::x4 o.1 (y.rl++l) o.2::R) ?_ ?_
    ·obtain⟨q3,w0⟩:=o9 (decide (x.us.getD j 0∈x.o.a6A));have q1:=Cq x.o.a6A x.y.ua x.y.uc (x.us.getD j 0) qb;rw[<-w0] at q1
     cases q3
     ·refine Y1 ?_;refine c_ rfl q1 (fun h Q _=>f.o.a6A.le Q) rfl ?_;refine wk 8 ?_;(first|refine u_ ?_|(refine v_ ?_;refine c_ rfl (Cq x.o.mods x.y.ma x.y.mc (x.us.getD j 0) qb) (fun h Q _=>f.o.mods.le Q) rfl ?_));refine A5 ?_;exact g_ _ trivial i_
     ·refine Y1 ?_;refine c_ rfl q1 (fun h Q _=>f.o.a6A.le Q) rfl ?_;refine wk 8 ?_;(first|refine u_ ?_|(refine v_ ?_;fail));refine A5 ?_;exact g_ _ trivial i_
    intro w9 _;refine O_ ?_ ?_<;>intro h
    ·refine u6 ?_;refine e_ (eI g x Ja [115,111,109,101,32,97,114,101,32,103,111,110,101]) qw ?_;rintro v A ⟨rfl,rfl⟩;refine oK ?_;refine I4 (v:=.tuple #[]) M (h7 (Je x.c.tag) (.inr rfl)) ?_;exact m6 rfl _ qh i_
    ·refine x6 ?_;exact g_ () trivial i_
   intro _ _;refine A5 ?_;exact l8 (j+1) U qb sub i_
  ·refine x6 ?_;exact g_ () trivial i_
 intro _ _;have u0:x={x with r:={x.r with code:=x.r.code},z:=L0}:=by
  obtain⟨xb,xc,xk,xm,xo,xy,b3,b4,b5,b6,b7,b8,b9,xr,xz⟩:=x;obtain rfl:xz=L0:=hz;rfl
 refine x6 ?_;refine D8 [3,7,12,17] [18,19] [C8 g x,F9 x.b {s with a6y:=b} {sl with ra:=p.1,rc:=p.2} d (C7 y l o.1 o.2)] 25 ?_;refine wd [0,1,2,3,4,5,6,7,8,9,10,11,12,13,14,15,16,17] ?_;refine h_ 18 rfl i6 ?_;refine e_ (C:=[]) (BO b p.1 p.2 x.o.mods x.y.ma x.y.mc x.c.uid (by have:=T.vw.len;omega) qb u1.2) ?pre ?_;(case pre=>exact fun h Q ⟨bs,hb⟩=>⟨A_.rd hb ud,f.o.mods.le Q⟩);rintro v A ⟨a7,l7,c7,rfl,rfl,c0,k0⟩;refine rR ?_;refine h_ 19 rfl i6 ?_;refine e_ (C:=[]) (xN l7 a7 c7 qb (fun r hr=>⟨(k0 r hr).1.2,(k0 r hr).2.2⟩)) ?pre2 ?_;(case pre2=>exact fun h Q ⟨bs,hb⟩=>⟨f.g.le Q,A_.rd hb ud⟩);rintro v A ⟨⟨w7,c1,rfl,w1⟩,rfl⟩;refine D7 [20,21,22,23,24] ?_;refine T2 ?_ ?_<;>intro h
 ·have c2:w7.length<=10000:=by
   obtain⟨_,c3,w2⟩:=w1 h;rw[w2];have h9:=qL 41 (l7.map aR) (fun q O=>by obtain⟨r,hr,rfl⟩:=jr.1 O;exact Cp r (k0 r hr).1.2 (k0 r hr).2.2);rw[kg] at h9;omega
  refine A5 ?_;refine f_ (H_ (l:=Uf) (l':=w7) rfl rfl (by show 9+w7.length<=_;omega)) ?_;refine P1 ?_;refine I4 (v:=.tuple #[]) M (h7 {x.r with code:=Uf++w7} (.inl ⟨_,rfl⟩)) ?_;exact m6 rfl _ qh (fun w n=>by
   have h9:=D3 (A:=[.blk g _,l6 p.1 b.a6x p.2,F9 x.b {s with a6y:=b} {sl with ra:=p.1,rc:=p.2} d (C7 y l o.1 o.2),x4 o.1 (y.rl++l) o.2]) (J:=[_]) tk n;rw[u0] at h9;exact h9)
 ·refine x6 ?_;refine I4 (v:=.tuple #[]) M (h7 {x.r with code:=x.r.code} (.inl ⟨_,rfl⟩)) ?_;rw[<-u0];exact m6 rfl _ qh (fun w n=>D3 (A:=[_,_,_,_]) (J:=[_]) tk n)
abbrev uZ:RR:={R0 with kind:=10,a6J:=S5}
abbrev Al(fa:qr)(fc:Nat):RM:=(uZ,⟨none,0,fa,fc,none,0,[]⟩)
abbrev kU(n:Nat):RR:={R0 with kind:=8,n:=n}
abbrev Ji(w:Bs)(n:Nat):RR:={R0 with kind:=1,tag:=[42],code:=w++T1 n,text:=[100,111,110,101]}
abbrev aU(k:Nat):Bs:=if k=9 then[82,69,65,68,45,79,78,76,89] else[82,69,65,68,45,87,82,73,84,69]
abbrev xO:Bs:=[85,73,68,86,65,76,73,68,73,84,89,32]
abbrev mJ:Bs:=[85,73,68,78,69,88,84,32]
abbrev mK:Bs:=[72,73,71,72,69,83,84,77,79,68,83,69,81,32]
abbrev mL(b:BX)(fa:qr)(fc:Nat):List RM:=[Al fa fc,(kU b.lts.length,L0),(Ji xO b.val,L0),(Ji mJ b.next,L0),(Ji mK b.high,L0)]
abbrev Ug(p:Bs×Nat):zq:=[B p.1,.int .u64 (p.2:Nat)]
def Cs:∀x,(Ug x).length=2:=fun _=>rfl
def kV:∀(k n:Nat),n<10^(k+1)->(T1 n).length<=k+1
 |0,n,h=>by rw[bW (by simpa using h)];simp
 |k+1,n,h=>by
  by_cases h1:n<10
  ·rw[bW h1];simp
  ·have:=kV k (n/10) (Nat.div_lt_of_lt_mul (by rw[Yj] at h;omega));rw[gD qb,zg];simp only[z1,kx];omega
def OW(g:Nat)(x:AN)(s:SE)(sl:SL)(d:DD)(y:DL)(h:l_)(v:Value)(A:List As):Prop:=v=.tuple #[]/\
 (ay x.m.s x.c.box=none/\(∃a c,A=C8 g {x with r:=qK x.c.tag,z:=L0}::l6 sl.ra s.a6y.a6x sl.rc::P3 x.b s sl d (C7 y [] a c))
 \/∃b ra rc fa fc a c,ay x.m.s x.c.box=some b/\A=C8 g {x with r:={x.r with code:=aU x.c.kind}}::l6 ra (R4 b).a6x rc::(P3 x.b {s with a6y:=R4 b,a6z:=2,ro:=decide (x.c.kind=9)} {sl with ra:=ra,rc:=rc} d (C7 y (mL b fa fc) a c)++[B0 fa S5 fc]))
def sZ(g:Nat)(x:AN)(s:SE)(sl:SL)(d:DD)(y:DL)(hx:rE x)(hz:x.z=L0)(hm:V5 x.m.s)(hl:y.rl.length<=100000):
  Cm prog 232 [i8 g] (fun h=>cZ x h) (C8 g x::l6 sl.ra s.a6y.a6x sl.rc::P3 x.b s sl d y) (OW g x s sl d y):=by
 refine A0 120 func232 rfl rfl rfl ?_;rintro F R h6;obtain⟨e,he⟩:=o9 (ay x.m.s x.c.box);have D:=uX x.m x.c.box hm;rw[<-he] at D;refine I6 0 ?_;refine V7 (fun(b:BM) (Q:Nat) (_:Unit) (V:l9)=>F.le V/\b.x=e.getD PI/\eZ b V.heap) (fun b Q _ _=>[(0,i8 g),(2,i8 Q),(3,.bool e.isSome)]) (fun _ _ _ V=>V) (fun b Q _ _=>xK Q b::C8 g x::l6 sl.ra s.a6y.a6x sl.rc::F9 x.b s sl d y::x4 y.da y.rl y.dc::R) ?_ ?_
 ·refine x6 ?_;refine D8 [3,8] [9,13,14] [C8 g x] 16 ?_;refine wd [0,1,2,3,4,5,6,7,8] ?_;refine S4 9 13 rfl rfl i6 ?_ ?_;refine G6 D h6.m ?_;rintro v A Z Fz hz ⟨b,rfl,f,rfl,X⟩;refine D7 [10,11,12] ?_;refine h_ 13 rfl i6 ?_;refine i7 rfl ?_;intro Q;refine D7 [14,15] ?_
  rotate_left 1
  refine i7 rfl ?_;intro Q;refine V2 ?_;refine h_ 9 rfl i6 ?_;refine G6 D h6.m ?_;rintro v A Z Fz hz ⟨b,rfl,f,rfl,X⟩;refine D7 [10,11,12,14,15] ?_
  rotate_left 1
  all_goals (refine x6 ?_)
  all_goals exact cO (Rr:=xK Q b::C8 g x::l6 sl.ra s.a6y.a6x sl.rc::F9 x.b s sl d y::x4 y.da y.rl y.dc::R) Fz hz i_ fun V S q5=>y7 (b,Q,(),V) ⟨S,f,Mn.le q5 X⟩ rfl i_
 rintro b Q _ V ⟨S,f,X⟩;have q1:cZ x V.heap:=Mn.le S.heap h6
 cases e with
 |none=>
  refine E8 ?_;refine e_ (eI g x [78,79,78,69,88,73,83,84,69,78,84] [116,104,101,114,101,32,105,115,32,110,111,110,101]) qw ?_;rintro v A ⟨rfl,rfl⟩;refine oK ?_;refine I4 (A:=C8 g {x with r:=qK x.c.tag,z:=L0}::l6 sl.ra s.a6y.a6x sl.rc::P3 x.b s sl d (C7 y [] y.da y.dc)) (v:=.tuple #[]) S ⟨rfl,.inl ⟨he.symm,_,_,rfl⟩⟩ ?_;exact m6 rfl _ qh (fun w M=>by simp only[C7,jk];exact D3 (A:=[_,_,_,_]) (J:=[_]) tk M)
 |some bx0=>
  have f:b.x=bx0:=f;have Y:=hm.box _ (cp he.symm);have y0:b.ls.length<=32:=by
   have h1:=Y.lts;rw[<-f] at h1;simpa using h1
  refine A5 ?_;obtain⟨q9,h9⟩:=o9 (decide (x.c.kind=9));refine x6 ?_;refine D8 [3,7,11,12,18] [13,23,27,31] [C8 g x,xK Q b] 32 ?_;refine wd [0,1,2,3,4,5,6,7,8,9,10,11,12,14,15,16,17,18] ?_;refine w_ 19 rfl ((q_ rfl rfl).eq (v':=.bool q9) (qn ((qz).trans h9.symm))) ?_;refine h_ 13 rfl i6 ?_;refine e_ (C:=[]) (Mh b qb) (fun h hh _=>X.ls.le hh) ?_;rintro v A ⟨l,m,rfl,rfl⟩;refine fy [20,21,22,23,24,25,26,27,28,29,30,31] ?_;obtain⟨s1,h7⟩:∃s1:SE,s1={s with a6y:=R4 b.x,a6z:=2,ro:=q9}:=⟨_,rfl⟩;obtain⟨O,h4⟩:∃x:SL,x={sl with ra:=l,rc:=m}:=⟨_,rfl⟩;refine C5 (H':=F9 x.b s1 O d y::x4 y.da y.rl y.dc::xK Q b::C8 g x::l6 l (R4 b.x).a6x m::R) (fun w M=>by rw[h7,h4];exact D3 (A:=[_,_,_,_,l6 l (R4 b.x).a6x m]) (J:=[l6 sl.ra s.a6y.a6x sl.rc]) tk M) ?_;have U:=pq S5;rw[show X5 S5=(S5,0) from by decide] at U;refine D1 ?_;refine y6 rfl rfl rfl rfl rfl rfl (xs:=fV S5) rfl rfl ?_;intro q6 _;refine e_ (U q6 5 qp qp) ?pre ?_;(case pre=>exact fun h hh ⟨bs,hb⟩=>A_.rd hb ud);rintro v A ⟨n,o,rfl,rfl⟩;refine wk 10 ?_;refine f_ (A2 (ps:=[(0,.const (.int .i64 10)),(7,.tmp 63)]) (vs:=[(0,.int .i64 10),(7,.slice n S5.length o)]) (cells:=(tM uZ ⟨none,0,n,o,none,0,[]⟩).toArray) rfl i6) ?_;refine e_ (X2 x.b s1 O d y uZ ⟨none,0,n,o,none,0,[]⟩ qb) qw ?_;rintro v A ⟨rfl,a1,c1,rfl⟩;refine x6 ?_;obtain⟨y1,h8⟩:=o9 (G1 y (Al n o) a1 c1);rw[<-h8];have x2:y1.rl.length<=100001:=by rw[h8];simp only[zg,z1,kx];omega
  refine x6 ?_;refine D8 [3,5] [9] [C8 g x,xK Q b] 10 ?_;refine wd [0,1,2,3,4,5,6] ?_;refine w_ 7 rfl ((A3 rfl qb).eq (v':=.int .u64 (b.ls.length:Nat)) rfl) ?_;refine w_ 8 rfl (A2 (ps:=[(0,.const (.int .i64 8)),(4,.tmp 73)]) (vs:=[(0,.int .i64 8),(4,.int .u64 (b.ls.length:Nat))]) (cells:=(tM (kU b.ls.length) L0).toArray) rfl i6) ?_;refine h_ 9 rfl i6 ?_;refine e_ (X2 x.b s1 O d y1 (kU b.ls.length) L0 qb) qw ?_;rintro v A ⟨rfl,a2,c2,rfl⟩;refine D7 [] ?_;obtain⟨y2,k0⟩:=o9 (G1 y1 (kU b.ls.length,L0) a2 c2);rw[<-k0];have x3:y2.rl.length<=100002:=by rw[k0];simp only[zg,z1,kx];omega
  obtain⟨q,h0⟩:∃q:List (Bs×Nat),q=[(xO,b.val),(mJ,b.next),(mK,b.high)]:=⟨_,rfl⟩;have x5:q.length=3:=by rw[h0];rfl
  have q7:∀p∈q,p.2<18446744073709551616/\p.1.length<=20:=fun p hp=>by
   have h1:b.val<=4294967296:=(by have:=Y.val;rwa [<-f] at this);have h2:b.next<=4294967296:=(by have:=Y.next;rwa [<-f] at this);have h3:b.high<=E6:=(by have:=Y.high;rwa [<-f] at this);rw[h0] at hp;simp at hp;rcases hp with rfl|rfl|rfl
   ·exact⟨by simp only;omega,by show xO.length<=20;decide⟩
   ·exact⟨by simp only;omega,by show mJ.length<=20;decide⟩
   ·exact⟨W5 h3 qp,by show mK.length<=20;decide⟩
  refine A5 ?_;refine f_ (A2 (ps:=[(0,.const (B xO)),(1,.tmp 77)]) (vs:=[(0,B xO),(1,.int .u64 (b.val:Nat))]) (cells:=#[B xO,.int .u64 (b.val:Nat)]) rfl i6) ?_;refine A5 ?_;refine f_ (A2 (ps:=[(0,.const (B mJ)),(1,.tmp 80)]) (vs:=[(0,B mJ),(1,.int .u64 (b.next:Nat))]) (cells:=#[B mJ,.int .u64 (b.next:Nat)]) rfl i6) ?_;refine A5 ?_;refine f_ (A2 (ps:=[(0,.const (B mK)),(1,.tmp 83)]) (vs:=[(0,B mK),(1,.int .u64 (b.high:Nat))]) (cells:=#[B mK,.int .u64 (b.high:Nat)]) rfl i6) ?_;refine y6 rfl rfl rfl rfl rfl rfl (xs:=[(xO,b.val),(mJ,b.next),(mK,b.high)].flatMap Ug) rfl rfl ?_;intro k8 q2;rw[<-h0];refine I6 2 ?_;have q8:∃ad,k8=some ad:=q2;refine n8 (ι:=DL) (fun u=>∃a c,u=C7 y2 (q.map fun p=>(Ji p.1 p.2,L0)) a c) (fun _=>[(0,i8 g),(2,i8 Q)]) (fun u=>F9 x.b s1 O d u::x4 u.da u.rl u.dc::C8 g x::B0 n S5 o::l6 l (R4 b.x).a6x m::R) ?_ ?_
  ·refine o0 ?_;refine o8 (ι:=Nat×DL) (fun i=>i.1<=3/\∃a c,i.2=C7 y2 ((q.take i.1).map fun p=>(Ji p.1 p.2,L0)) a c) (fun i=>[(0,i8 g),(2,i8 Q),(85,.slice k8 3 3),(86,.int .i64 3),(87,r7 i.1)]) (fun i=>F9 x.b s1 O d i.2::x4 i.2.da i.2.rl i.2.dc::.own (.slice k8 3 3) 327 2 (q.flatMap Ug)::C8 g x::B0 n S5 o::l6 l (R4 b.x).a6x m::R) (fun i=>3-i.1) (0,y2) ⟨zp _,y2.da,y2.dc,by simp[C7]⟩ sub (fun w M=>D3 (A:=[_,_,_,C8 g x,B0 n S5 o,l6 l (R4 b.x).a6x m]) (J:=[_,_]) tk M) ?_;rintro⟨j,u⟩ ⟨hj,a3,c3,T⟩;simp only at hj T;refine T2 ?_ ?_<;>intro h
   ·have k9:j<q.length:=(by have:=zy h;omega);have q3:=q7 _ (zm k9);have z0:=kV 19 q[j].2 (by have:=q3.1;omega);have x9:u.rl.length<=100010:=(by rw[T];simp only[zg,kg,kr];omega);refine D1 ?_;refine f_ (n5 rfl q8 rfl qb) ?_;refine r_ (p9 rfl (fun w M=>bK (C:=Ug) (M.ownN (t:=327) ud).2.2.1 Cs qp k9 x7) (Cs _)) ?_;refine i7 rfl ?_;intro g7;refine u6 ?_;refine D8 [3,5,7] [8,11] [C8 g x,.blk g7 (.cells (Ug q[j]).toArray 327)] 12 ?_;refine wd [0,1,2,3,4,5,6,7] ?_;refine h_ 8 rfl i6 ?_;refine c_ rfl (aT q[j].2 q3.1) (fun h hh _=>q1.g.le hh) rfl ?_;refine fy [9] ?_;refine w_ 10 rfl (A2 (ps:=[(0,.const (.int .i64 1)),(1,.const (B [42])),(2,.tmp 100),(3,.const (B [100,111,110,101]))]) (vs:=[(0,.int .i64 1),(1,B [42]),(2,B (q[j].1++T1 q[j].2)),(3,B [100,111,110,101])]) (cells:=(tM (Ji q[j].1 q[j].2) L0).toArray) rfl i6) ?_;refine h_ 11 rfl i6 ?_;refine e_ (X2 x.b s1 O d u (Ji q[j].1 q[j].2) L0 qb) qw ?_;rintro v A ⟨rfl,a4,c4,rfl⟩;refine D7 [] ?_;refine A5 ?_;exact l8 (i:=(j,u)) (j+1,G1 u (Ji q[j].1 q[j].2,L0) a4 c4) ⟨by simp only;omega,a4,c4,by rw[T,jy k9,Qx];simp only[G1,C7,ky];rfl⟩ qg sub (fun w M=>D3 (A:=[_,_,_,C8 g x,B0 n S5 o,l6 l (R4 b.x).a6x m]) (J:=[_]) tk M)
   ·have x0:j=3:=(by have:=zu h;omega);refine x6 ?_;exact g_ u ⟨a3,c3,by rw[T,x0,jm qb]⟩ (fun w M=>D3 (A:=[_,_,C8 g x,B0 n S5 o,l6 l (R4 b.x).a6x m]) (J:=[_]) tk M)
  rintro u ⟨a3,c3,T⟩;have x1:u=C7 y (mL bx0 n o) a3 c3:=by
   rw[T,k0,h8,h0,<-f];simp[C7,G1,mL]
  have q4:s1.ro=decide (x.c.kind=9):=by rw[h7];exact h9
  have h5:∀(k:Bs),k=aU x.c.kind->∀w,Hp V w (F9 x.b s1 O d u::x4 u.da u.rl u.dc::C8 g {x with r:={x.r with code:=k}}::B0 n S5 o::l6 l (R4 b.x).a6x m::R)->Hp V w ((C8 g {x with r:={x.r with code:=aU x.c.kind}}::l6 l (R4 bx0).a6x m::(P3 x.b {s with a6y:=R4 bx0,a6z:=2,ro:=decide (x.c.kind=9)} {sl with ra:=l,rc:=m} d (C7 y (mL bx0 n o) a3 c3)++[B0 n S5 o]))++R):=fun k hc w M=>by
   rw[hc,h7,h4,x1,f] at M;rw[h9] at M;exact D3 (A:=[_,_,_,_,B0 n S5 o]) (J:=[]) tk M
  refine wk 13 ?_;refine p7 rfl ?_ ?_<;>intro h
  ·have q0:x.c.kind=9:=(by rw[q4] at h;exact zy h);refine al ?_;refine I4 (A:=C8 g {x with r:={x.r with code:=aU x.c.kind}}::l6 l (R4 bx0).a6x m::(P3 x.b {s with a6y:=R4 bx0,a6z:=2,ro:=decide (x.c.kind=9)} {sl with ra:=l,rc:=m} d (C7 y (mL bx0 n o) a3 c3)++[B0 n S5 o])) (v:=.tuple #[]) S ⟨rfl,.inr ⟨bx0,l,m,n,o,a3,c3,he.symm,rfl⟩⟩ ?_;exact m6 rfl _ qh (h5 _ (by unfold aU;rw[zr q0]))
  ·have q0:¬x.c.kind=9:=(by rw[q4] at h;exact zu h);refine x6 ?_;refine I4 (A:=C8 g {x with r:={x.r with code:=aU x.c.kind}}::l6 l (R4 bx0).a6x m::(P3 x.b {s with a6y:=R4 bx0,a6z:=2,ro:=decide (x.c.kind=9)} {sl with ra:=l,rc:=m} d (C7 y (mL bx0 n o) a3 c3)++[B0 n S5 o])) (v:=.tuple #[]) S ⟨rfl,.inr ⟨bx0,l,m,n,o,a3,c3,he.symm,rfl⟩⟩ ?_;exact m6 rfl _ qh (h5 _ (by unfold aU;rw[zb q0]))
