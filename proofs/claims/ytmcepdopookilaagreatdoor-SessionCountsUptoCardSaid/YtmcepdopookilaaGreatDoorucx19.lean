import Derived.Test.YtmcepdopookilaaGreatDoorucx18
set_option maxHeartbeats 16000000
set_option maxRecDepth 8000
set_option linter.unusedVariables false
set_option linter.unusedSimpArgs false
set_option linter.defProp false
namespace Go.Proofs.YtmcepdopookilaaGreatDoor.Rp
open Go Go.Sl Go.RowKit Go.Proofs.Tryz
def a1K(h:l9)(v:Value)(A:List As):Prop:=∃m:MM,v=uR m/\m.s=Gf/\A=[]/\iE m h
abbrev IF(a:Option Addr):MM:=⟨[ej cP 1],2,[],[],1,0,a,1,none,0,none,0⟩
theorem Ql:Cm prog 29 [] (fun _=>True) [] a1K:=by
 refine x8 4 func29 rfl rfl rfl ?_;intro F R _;refine C6 ?_;refine i7 rfl ?_;intro f;refine p_ ?_;refine C4 cZ (ej cP 1) rfl ?_;intro a _;refine f_ (y7 (ps:=[(0,.tmp 2),(1,.const (.int .u64 2)),(4,.const (.int .u64 1))]) (vs:=[(0,.slice a 1 1),(1,.int .u64 2),(4,.int .u64 1)]) (cells:=(iD (IF a)).toArray) rfl i6) ?_;refine p_ ?_;refine B8 (Z:=[S_ a [ej cP 1] 1]) tk fun g c ⟨i,d⟩=>?_;refine A3 ?_;refine G_ (A:=[]) (v:=uR (IF a)) c ⟨IF a,rfl,rfl,rfl,A2.rd d ud,o0.nil _ _,o0.nil _ _,fun b d=>?_⟩ ?_
 ·obtain rfl:=zg.1 d;exact⟨o0.nil _ _,fun _ h=>by cases h⟩
 ·exact G5 rfl rfl ud rfl _ qh (fun w e=>e.drop)
def Ty(e:Option BX)(h:l9)(v:Value)(A:List As):Prop:=∃b:BM,v=.tuple #[JY b,.bool e.isSome]/\b.x=e.getD Ph/\A=[]/\fJ b h
theorem uK(m:MM)(a:Bs)(l:U4 m.s):Cm prog 75 [uR m,B a] (iE m) [] (Ty (ak m.s a)):=by
 refine x8 19 func75 rfl rfl rfl ?_;intro F R d;refine C6 ?_;refine m9 rfl rfl ?_;intro C;refine i7 rfl ?_;intro D;refine E4 ?_;refine e_ rfl (oM m a (by have:=zJ l;omega)) (fun h s _=>d.a5C.le s) rfl ?_;refine eJ ?_ ?_<;>intro h
 ·have o:¬D1 (fun b:BM=>decide (b.name=a)) m.a5C<0:=by have:=qr h;omega
  obtain⟨i,t,c,ha⟩:=gH o;rw[t];have e:ak m.s a=some m.a5C[i].x:=by unfold ak;rw[ha];show some (aj m.s i)=_;rw[eS c]
  rw[e];obtain⟨u,f⟩:=A0 d.a5C p7 qp c;refine E4 ?_;refine f_ (m8 (n:=(i:Nat)) rfl ⟨u,f⟩ rfl qb) ?_;refine r_ (w8 rfl (fun w g=>fq (d.a5C.le g.keep) p7 qp c y4) (p7 _)) ?_;refine A8 (lY m.a5C[i] (by have:=sP l (zx c);omega) (fun x y=>by have:=((dF l (zx c)).a5R _ (Zk y)).1;omega)) (d.box _ (zx c)) ?_;rintro v A J p ⟨j,rfl,q,rfl,r⟩;refine y8 ?_;refine B8 (Z:=[N_ j.a j.ls j.c]) tk fun M k ⟨O,z⟩=>?_;refine A3 ?_;refine G_ (A:=[]) (v:=.tuple #[JY j,.bool true]) (p.trans k) ⟨j,rfl,q,rfl,A2.rd z ud,Mn.le k.heap r⟩ ?_;exact D2 rfl rfl rfl ud rfl _ qh (fun w g=>g.drop.drop)
 ·have o:D1 (fun b:BM=>decide (b.name=a)) m.a5C<0:=by have:=zq h;omega
  have e:ak m.s a=none:=by unfold ak;rw[gG o];rfl
  rw[e];refine bT ?_;refine G_ (A:=[]) (v:=.tuple #[JY Gi,.bool false]) (l6.le_refl _) ⟨Gi,rfl,rfl,rfl,fJ.zero _⟩ ?_;exact D2 rfl rfl rfl ud rfl _ qh (fun w g=>g.drop.drop)
end Go.Proofs.YtmcepdopookilaaGreatDoor.Rp
namespace Go.Sl
open Go Go.RowKit Go.Proofs.Tryz
section
variable{P:Program}{N:Nat}{K R:y6}{E:List (Nat×y6)}{L:F_}{F:l6}{H:List As}{ops:Array Oper}{rest:List Oper}{ty:TypeId}{pos:String}{af:Array Edge}{x y z:Operand}{t kt et:TypeId}{td:TypeDesc}{es:Array MapEntry}{clock b:Nat}{ms:List KV}{key val:Value}
theorem ep[hu:HU P t (.map kt et)][hk:HU P kt td](hx:ev L x=some (.map (some b)))(j:ev L y=some key)(hz:ev L z=some val)(k:N8 td es clock ms)(e:MapKept.IsKey td key){H':Array MapEntry->Nat->List As}(u:∀d c,M2 H (.blk b (.map es clock)) [.blk b (.map d c)] (H' d c))(h:∀d c,(∀ms',Fv ms key val ms'->N8 td d c ms')->GL P N ops rest K E R L F (H' d c)):GL P N ops (⟨none,.insert t x y z,ty,pos,af,none⟩::rest) K E R L F H:=
 tp rfl rfl fun a w hf i=>by
  obtain⟨d,c,f,g⟩:=k.put (P:=P) (w:=w) (val:=val) hu.h hk.h (i.blk (u es clock)) e;refine⟨_,_,?_,i.setB (u d c),h d c g⟩;simp only[execOp,hf.eval hx,hf.eval j,hf.eval hz,Sem.run_bind,f];rfl
end
end Go.Sl
namespace Go.Proofs.YtmcepdopookilaaGreatDoor.Rp
open Go Go.Sl Go.RowKit Go.Proofs.Tryz
theorem eu{N:Nat}{K:y6}{L:F_}{F:l6}{H Rr Z:List As}(b:l9)(hz:∀h bs,l9.le F.heap h->A2 h Z bs->l9.le b h)(hH:∀w,Hp F w H->Hp F w (Rr++Z))(k:∀a,F.le a->l9.le b a.heap->At N K L a Rr):At N K L F H:=
 At.weaken (H':=Rr++Z) (dJ fun a c ⟨bs,d⟩=>k a c (hz _ bs c.heap d)) (fp.refl _) hH
abbrev xg(g:Nat)(b:BM):As:=.blk g (.cells (cZ b).toArray 100)
theorem aE{s:ML}{a:Bs}{b:BX}(h:ak s a=some b):b∈s.a5C:=by
 unfold ak at h;obtain⟨i,d,rfl⟩:=kg.1 h;have c:i<s.a5C.length:=(kd.1 d).1;unfold aj;rw[zd,zj c];exact zx c
abbrev C0(y:DL)(l:List RM)(a:Option Addr)(c:Nat):DL:={y with da:=a,dc:=c,rl:=y.rl++l}
def xh(g:Nat)(x:AN)(d:DD)(y:DL)(Q:RR->SE->List RR->Prop)(h:l9)(v:Value)(A:List As):Prop:=v=.tuple #[]/\∃r s sl l a c,Q r s (l.map Prod.fst)/\(∀m∈l,fE m.1 m.2 h/\yT m.2)/\U3 s sl h/\A=C2 g {x with r:=r,z:=L0}::l5 sl.ra s.a5G.a5F sl.rc::O3 x.b s sl d (C0 y l a c)
abbrev qo(tag:Bs):RR:=lW tag [78,79,78,69,88,73,83,84,69,78,84] [116,104,101,114,101,32,105,115,32,110,111,110,101]
def IG(ms:List KV):Prop:=∀kv∈ms,∃n:Nat,kv.2=.int .u64 (n:Nat)
theorem IG.nil:IG []:=fun _ h=>by cases h
theorem kF{b:List KV}(key:Value)(n:Nat)(h:IG b):∃ms',Fv b key (.int .u64 (n:Nat)) ms'/\IG ms':=by
 obtain⟨o,hg⟩:=pJ b key
 cases o with
 |none=>
  refine⟨_,.inl ⟨hg,.refl _⟩,fun c a=>?_⟩;rcases ky.1 a with rfl|a
  ·exact⟨n,rfl⟩
  ·exact h c a
 |some v=>
  obtain⟨d,f,e⟩:=Wp hg;have hp:b.Perm ((key,v)::(d++f)):=by rw[e];exact Qp
  refine⟨_,.inr ⟨v,d++f,hp,.refl _⟩,fun c a=>?_⟩;rcases ky.1 a with rfl|a
  ·exact⟨n,rfl⟩
  ·exact h c (hp.mem_iff.2 (jj _ a))
abbrev bG(a:Option Addr)(l:List VM)(c:Nat):As:=.own (.slice a l.length c) 110 6 (OZ l)
abbrev Qo(box:Bs)(l:List VM):RR:={R0 with kind:=12,box:=box,values:=l.map VM.v}
def Oy(x:AN)(s:SE)(r:RR)(s':SE)(l:List RR):Prop:=s'=s/\(r=qo x.c.tag/\l=[]\/r=x.r/\∃vs box,l=[{R0 with kind:=12,box:=box,values:=vs}]/\vs.length=x.c.a5J.length)
theorem EC(g:Nat)(x:AN)(s:SE)(sl:SL)(d:DD)(y:DL)(hx:rx x)(hz:x.z=L0)(hm:U4 x.m.s)(hl:y.rl.length<=100000):
  Cm prog 234 [m6 g] (fun h=>cI x h/\U3 s sl h) (C2 g x::l5 sl.ra s.a5G.a5F sl.rc::O3 x.b s sl d y) (xh g x d y (Oy x s)):=by
 have q1:=hx.c;have v2:=q1.a5J;refine x8 87 func234 rfl rfl rfl ?_;rintro F R ⟨h2,h9⟩;obtain⟨e,he⟩:=o7 (ak x.m.s x.c.box);have u:=uK x.m x.c.box hm;rw[<-he] at u;refine I8 0 ?_;refine S7 (fun(f:BM) (t:Nat) (_:Unit) (U:l6)=>F.le U/\f.x=e.getD Ph/\fJ f U.heap) (fun f t _ _=>[(0,m6 g),(2,m6 t),(3,.bool e.isSome)]) (fun _ _ _ U=>U) (fun f t _ _=>xg t f::C2 g x::l5 sl.ra s.a5G.a5F sl.rc::E8 x.b s sl d y::r8 y.da y.rl y.dc::R) ?_ ?_
 ·refine u7 ?_;refine D9 [3,8] [9,13,14] [C2 g x] 16 ?_;refine wd [0,1,2,3,4,5,6,7,8] ?_;refine bv 9 13 rfl rfl i6 ?_ ?_;refine R7 u h2.m ?_;rintro v A Z Fz hz ⟨f,rfl,D,rfl,O⟩;refine E5 [10,11,12] ?_;refine h_ 13 rfl i6 ?_;refine i7 rfl ?_;intro t;refine E5 [14,15] ?_
  rotate_left 1
  refine i7 rfl ?_;intro t;refine ae ?_;refine h_ 9 rfl i6 ?_;refine R7 u h2.m ?_;rintro v A Z Fz hz ⟨f,rfl,D,rfl,O⟩;refine E5 [10,11,12,14,15] ?_
  rotate_left 1
  all_goals (refine u7 ?_)
  all_goals exact eu (Rr:=xg t f::C2 g x::l5 sl.ra s.a5G.a5F sl.rc::E8 x.b s sl d y::r8 y.da y.rl y.dc::R) Fz hz i_ fun U M q2=>y5 (f,t,(),U) ⟨M,D,Mn.le q2 O⟩ rfl i_
 rintro f t _ U ⟨M,D,O⟩;have V:cI x U.heap:=Mn.le M.heap h2
 cases e with
 |none=>
  refine E4 ?_;refine c_ (eo g x [78,79,78,69,88,73,83,84,69,78,84] [116,104,101,114,101,32,105,115,32,110,111,110,101]) qw ?_;rintro v A ⟨rfl,rfl⟩;refine oz ?_;refine G_ (A:=C2 g {x with r:=qo x.c.tag,z:=L0}::l5 sl.ra s.a5G.a5F sl.rc::O3 x.b s sl d (C0 y [] y.da y.dc)) (v:=.tuple #[]) M ⟨rfl,qo x.c.tag,s,sl,[],y.da,y.dc,⟨rfl,.inl qh⟩,qy,Mn.le M.heap h9,rfl⟩ ?_;exact l_ rfl _ qh (fun w k=>by simp only[C0,z8];exact C1 (A:=[_,_,_,_]) (J:=[_]) tk k)
 |some bx0=>
  have D:f.x=bx0:=D;have k0:bx0∈x.m.s.a5C:=aE he.symm;have k8:=hm.box _ k0;have v3:f.ls.length<=32:=by
   have h1:=k8.lts;rw[<-D] at h1;simpa using h1
  have q3:∀lm∈f.ls,lm.t.a5R.length<=16:=fun lm q4=>(k8.a5R lm.t (by rw[<-D];exact Zk q4)).1;refine E4 ?_;refine I8 4 ?_;refine n7 (ι:=Nat) (fun n=>n<=1000) (fun n=>[(0,m6 g),(2,m6 t),(4,.int .u64 (n:Nat))]) (fun _=>xg t f::C2 g x::l5 sl.ra s.a5G.a5F sl.rc::E8 x.b s sl d y::r8 y.da y.rl y.dc::R) ?_ ?_
  ·refine n9 ?_;refine o9 (ι:=Nat×Nat) (fun i=>i.1<=f.ls.length/\i.2<=i.1) (fun i=>[(0,m6 g),(2,m6 t),(4,.int .u64 (i.2:Nat)),(29,.slice f.a f.ls.length f.c),(30,.int .i64 (f.ls.length:Nat)),(31,.int .i64 (i.1:Nat))]) (fun i=>xg t f::C2 g x::l5 sl.ra s.a5G.a5F sl.rc::E8 x.b s sl d y::r8 y.da y.rl y.dc::R) (fun i=>f.ls.length-i.1) (0,0) ⟨zw _,zr _⟩ sub i_ ?_;rintro⟨j,n⟩ ⟨hj,hn⟩;simp only at hj hn;refine R6 ?_ ?_<;>intro h
   ·have p:j<f.ls.length:=(by have:=qr h;omega);have h3:=A0 O.ls A_ qp p;have Q:=q3 _ (zx p);refine I8 0 ?_;refine n7 (ι:=Nat) (fun n=>n<=j+1) (fun n=>[(0,m6 g),(2,m6 t),(4,.int .u64 (n:Nat)),(29,.slice f.a f.ls.length f.c),(30,.int .i64 (f.ls.length:Nat)),(31,.int .i64 (j:Nat))]) (fun _=>xg t f::C2 g x::l5 sl.ra s.a5G.a5F sl.rc::E8 x.b s sl d y::r8 y.da y.rl y.dc::R) ?_ ?_
    ·refine n9 ?_;refine C6 ?_;refine f_ (m8 rfl h3 rfl qb) ?_;refine r_ (w8 rfl (fun w k=>fq (C:=S9) (O.ls.le k.keep) A_ qp p y4) (A_ _)) ?_;refine i7 rfl ?_;intro g6;refine E4 ?_;refine e_ rfl (uy f.ls[j].t.a5R f.ls[j].a f.ls[j].c [92,83,101,101,110] qb) (fun h hh _=>(O.fl _ (zx p)).le hh) rfl ?_;refine R6 ?_ ?_<;>intro h
     ·refine p_ ?_;refine f_ ((K_ rfl rfl qb).eq (v':=.int .u64 ((n+1:Nat):Int)) (by congr 1)) ?_;refine p_ ?_;exact g_ (n+1) qb (fun w k=>k.drop)
     ·refine u7 ?_;exact g_ n qb (fun w k=>k.drop)
    intro n2 q5;refine y8 ?_;exact l8 (i:=(j,n)) (j+1,n2) ⟨p,q5⟩ qg sub i_
   ·refine u7 ?_;exact g_ n qb i_
  intro n hn;refine C6 ?_;refine om rfl ?_;intro X;refine E4 ?_;refine f_ ((y9 rfl qb).eq (v':=.int .u64 (f.ls.length:Nat)) rfl) ?_;refine ep (b:=X) (key:=.int .i64 1) (val:=.int .u64 (f.ls.length:Nat)) (td:=.int .i64) rfl rfl rfl (N8.empty (.int .i64) 0) rfl (fun S T=>.here) ?_;intro v4 v5 h4;obtain⟨v6,q6,q7⟩:=kF (.int .i64 1) (f.ls.length) IG.nil;have q8:=h4 _ q6;refine y8 ?_;refine ep (b:=X) (key:=.int .i64 2) (val:=.int .u64 (f.next:Nat)) (td:=.int .i64) rfl rfl rfl q8 rfl (fun S T=>.here) ?_;intro v7 v8 h5;obtain⟨v9,q9,x0⟩:=kF (.int .i64 2) (f.next) q7;have x1:=h5 _ q9;refine y8 ?_;refine ep (b:=X) (key:=.int .i64 3) (val:=.int .u64 (f.val:Nat)) (td:=.int .i64) rfl rfl rfl x1 rfl (fun S T=>.here) ?_;intro w0 w1 h6;obtain⟨w2,x2,x3⟩:=kF (.int .i64 3) (f.val) x0;have x9:=h6 _ x2;refine p_ ?_;refine ep (b:=X) (key:=.int .i64 4) (val:=.int .u64 (n:Nat)) (td:=.int .i64) rfl rfl rfl x9 rfl (fun S T=>.here) ?_;intro w3 w4 h7;obtain⟨w5,y0,y1⟩:=kF (.int .i64 4) (n) x3;have y2:=h7 _ y0;refine y8 ?_;refine ep (b:=X) (key:=.int .i64 5) (val:=.int .u64 (f.high:Nat)) (td:=.int .i64) rfl rfl rfl y2 rfl (fun S T=>.here) ?_;intro y3 z0 h8;obtain⟨z1,z2,u0⟩:=kF (.int .i64 5) (f.high) y1;have u1:=h8 _ z2;refine O2 ?_;refine f_ (y7 (ps:=[(0,.const (.int .i64 12)),(8,.tmp 56)]) (vs:=[(0,.int .i64 12),(8,B f.name)]) (cells:=(tD (Qo f.name []) L0).toArray) rfl i6) ?_;refine i7 rfl ?_;intro g8;refine p_ ?_;refine I8 7 ?_;refine n7 (ι:=AC×List VM) (fun q=>q.2.length=x.c.a5J.length/\∀w∈q.2,w.v.a5R=[]) (fun q=>[(0,m6 g),(8,m6 g8)]) (fun q=>match q with|(o,l)=>xQ g8 (Qo f.name l) ⟨none,0,none,0,o.1,o.2,l⟩::bG o.1 l o.2::C2 g x::l5 sl.ra s.a5G.a5F sl.rc::E8 x.b s sl d y::r8 y.da y.rl y.dc::R) ?_ ?_
  ·refine n9 ?_;refine O5 (fun(j:Nat) (o:AC) (l:List VM)=>j<=x.c.a5J.length/\l.length=j/\∀w∈l,w.v.a5R=[]) (fun j o l=>[(0,m6 g),(7,.map (some X)),(8,m6 g8),(62,.slice x.k.ia x.c.a5J.length x.k.ic),(63,.int .i64 (x.c.a5J.length:Nat)),(64,.int .i64 (j:Nat))]) (fun j o l=>xQ g8 (Qo f.name l) ⟨none,0,none,0,o.1,o.2,l⟩::bG o.1 l o.2::.blk X (.map y3 z0)::C2 g x::l5 sl.ra s.a5G.a5F sl.rc::E8 x.b s sl d y::r8 y.da y.rl y.dc::R) (fun j o l=>x.c.a5J.length-j) 0 (none,0) [] ⟨zw _,rfl,qy⟩ sub (fun w k=>C1 (A:=[_,.own (.slice none 0 0) 110 6 [],.blk X _,C2 g x,l5 sl.ra s.a5G.a5F sl.rc,E8 x.b s sl d y,r8 y.da y.rl y.dc]) (J:=[xg t f]) tk (k.addNil 110 6)) ?_;rintro j o l ⟨hj,w7,Q⟩;refine R6 ?_ ?_<;>intro h
   ·have p:j<x.c.a5J.length:=(by have:=qr h;omega);have h3:=A0 V.c.a5J am qp p;obtain⟨o5,k9⟩:=pJ z1 (.int .i64 ((x.c.a5J[j].kind:Nat):Int));obtain⟨Y,u2⟩:∃Y:Nat,o5.getD (.int .u64 0)=.int .u64 (Y:Nat):=by
     cases o5 with
     |none=>exact⟨0,rfl⟩
     |some v=>exact u0 _ k9
    refine C6 ?_;refine f_ (m8 rfl h3 rfl qb) ?_;refine r_ (w8 rfl (fun w k=>fq (C:=cX) (V.c.a5J.le k.keep) am qp p y4) (am _)) ?_;refine i7 rfl ?_;intro w9;refine wk 8 ?_;refine r_ ((Fx (key:=.int .i64 ((x.c.a5J[j].kind:Nat):Int)) (o:=o5) (zv:=.int .u64 0) (c:=false) rfl rfl ud u1 rfl k9).eq (v':=.int .u64 (Y:Nat)) u2) ?_;refine f_ (y7 (ps:=[(0,.tmp 71),(1,.tmp 75)]) (vs:=[(0,.int .i64 (x.c.a5J[j].kind:Nat)),(1,.int .u64 (Y:Nat))]) (cells:=(vz ⟨{V0 with kind:=x.c.a5J[j].kind,n:=Y},none,0⟩).toArray) rfl i6) ?_;refine C4 vz ⟨{V0 with kind:=x.c.a5J[j].kind,n:=Y},none,0⟩ rfl ?_;intro a0 _;refine u6 vz (l:=l) (m:=[⟨{V0 with kind:=x.c.a5J[j].kind,n:=Y},none,0⟩]) nf ng (by show(l.length+1)*72<=_;omega) ?_;intro u8 v0 _;refine O2 ?_;exact l8 (i:=(j,o,l)) (j+1,(u8,v0),l++[⟨{V0 with kind:=x.c.a5J[j].kind,n:=Y},none,0⟩]) ⟨p,by rw[zz];simp only[zy,z6];omega,fun w k=>by rcases zc.1 k with k|k;exact Q w k;(rw[zg.1 k])⟩ qg sub (fun w k=>C1 (A:=[_,_,_,C2 g x,l5 sl.ra s.a5G.a5F sl.rc,E8 x.b s sl d y,r8 y.da y.rl y.dc]) (J:=[_,_]) tk k)
   ·refine u7 ?_;exact g_ (o,l) ⟨by have:=zq h;simp only;omega,Q⟩ (fun w k=>C1 (A:=[_,_,C2 g x,l5 sl.ra s.a5G.a5F sl.rc,E8 x.b s sl d y,r8 y.da y.rl y.dc]) (J:=[_]) tk k)
  rintro⟨o,l⟩ ⟨h0,Q⟩;simp only at h0 Q;refine u7 ?_;refine B8 (Z:=[bG o.1 l o.2]) tk fun F2 q0 ⟨bs,hb⟩=>?_;have v1:o0 F2.heap o.1 (OZ l):=A2.rd hb ud;clear hb;refine u7 ?_;refine D9 [3,4] [5] [C2 g x,xQ g8 (Qo f.name l) ⟨none,0,none,0,o.1,o.2,l⟩] 6 ?_;refine wd [0,1,2,3,4] ?_;refine h_ 5 rfl i6 ?_;refine c_ (V4 x.b s sl d y (Qo f.name l) ⟨none,0,none,0,o.1,o.2,l⟩ qb) qw ?_;rintro v A ⟨rfl,a,c,rfl⟩;refine E5 [] ?_;refine G_ (A:=C2 g x::l5 sl.ra s.a5G.a5F sl.rc::O3 x.b s sl d (E_ y (Qo f.name l,⟨none,0,none,0,o.1,o.2,l⟩) a c)) (v:=.tuple #[]) (M.trans q0) ⟨rfl,x.r,s,sl,[(Qo f.name l,⟨none,0,none,0,o.1,o.2,l⟩)],a,c,⟨rfl,.inr ⟨rfl,_,_,rfl,by rw[zm];exact h0⟩⟩,fun m hm=>?_,Mn.le (M.trans q0).heap h9,?_⟩ ?_
  ·rw[zg.1 hm];exact⟨⟨rfl,o0.nil _ _,o0.nil _ _,v1,fun w k=>by rw[Q w k];exact o0.nil _ _⟩,rfl,rfl⟩
  ·rw[<-hz]
  ·exact l_ rfl _ qh (fun w k=>C1 (A:=[_,_,_,_]) (J:=[_]) tk k)
end Go.Proofs.YtmcepdopookilaaGreatDoor.Rp
namespace Go.Sl
open Go Go.RowKit Go.Proofs.Tryz
section
variable{P:Program}{N:Nat}{K R:y6}{E:List (Nat×y6)}{L:F_}{F:l6}{H:List As}
theorem dp{c:Code}{α β γ δ ε ζ:Type}(b:α->β->γ->δ->ε->ζ->Prop)(L':α->β->γ->δ->ε->ζ->F_)(d:α->β->γ->δ->ε->ζ->l6)(H':α->β->γ->δ->ε->ζ->List As)(e:G P N c (fun a w=>∃i:α×β×γ×δ×ε×ζ,b i.1 i.2.1 i.2.2.1 i.2.2.2.1 i.2.2.2.2.1 i.2.2.2.2.2/\G3 N (L' i.1 i.2.1 i.2.2.1 i.2.2.2.1 i.2.2.2.2.1 i.2.2.2.2.2) a/\Hp (d i.1 i.2.1 i.2.2.1 i.2.2.2.1 i.2.2.2.2.1 i.2.2.2.2.2) w (H' i.1 i.2.1 i.2.2.1 i.2.2.2.1 i.2.2.2.2.1 i.2.2.2.2.2)) E R L F H)(f:∀x y z u v q,b x y z u v q->At N K (L' x y z u v q) (d x y z u v q) (H' x y z u v q)):G P N c K E R L F H:=
 HB (ι:=α×β×γ×δ×ε×ζ) (fun i=>b i.1 i.2.1 i.2.2.1 i.2.2.2.1 i.2.2.2.2.1 i.2.2.2.2.2) (fun i=>L' i.1 i.2.1 i.2.2.1 i.2.2.2.1 i.2.2.2.2.1 i.2.2.2.2.2) (fun i=>d i.1 i.2.1 i.2.2.1 i.2.2.2.1 i.2.2.2.2.1 i.2.2.2.2.2) (fun i=>H' i.1 i.2.1 i.2.2.1 i.2.2.2.1 i.2.2.2.2.1 i.2.2.2.2.2) e fun i h=>f i.1 i.2.1 i.2.2.1 i.2.2.2.1 i.2.2.2.2.1 i.2.2.2.2.2 h
end
end Go.Sl
namespace Go.Proofs.YtmcepdopookilaaGreatDoor.Rp
open Go Go.Sl Go.RowKit Go.Proofs.Tryz
abbrev sQ(k:Nat):IT:=⟨k,false,false,0,0⟩
def zR(x:AN)(v:RV):Prop:=∃(i:IT) (lm:LM),(i∈x.c.a5J\/i=sQ 6\/i=sQ 7\/i=sQ 9)/\lm∈x.bx.ls/\uJ i lm v
abbrev xR(n:Nat)(vs:List RV):RR:={R0 with kind:=14,n:=n,values:=vs}
abbrev IH:Bs:=[69,88,80,85,78,71,69,73,83,83,85,69,68]
abbrev II(tag:Bs):RR:=lW tag IH [115,111,109,101,32,97,114,101,32,103,111,110,101]
def zS(v v':VW):Prop:=v'.box=v.box/\v'.val=v.val/\v'.a5F.map Prod.fst=v.a5F.map Prod.fst
theorem zS.rfl'(v:VW):zS v v:=qm
theorem zS.len{v v':VW}(h:zS v v'):v'.a5F.length=v.a5F.length:=by
 have:=jw List.length h.2.2;simpa using this
theorem zS.seq{v v':VW}(h:zS v v')(u:Nat):X6 v' u=X6 v u:=by
 have e:∀l:List (Nat×Nat),l.findIdx? (fun r=>decide (r.1=u))=(l.map Prod.fst).findIdx? (fun q=>decide (q=u)):=fun l=>by
  rw[List.findIdx?_map];rfl
 unfold X6 re;rw[e,e,h.2.2]
theorem zS.told{v v':VW}(h:zS v v')(u m:Nat):zS v (ci v' u m):=by
 by_cases h1:lu v'.a5F u<0
 ·rw[sh h1];exact h
 ·obtain⟨i,a,_,e⟩:=si (m:=m) h1;rw[e];refine⟨h.1,h.2.1,?_⟩;rw[<-h.2.2];simp only[Ku];rw[show v'.a5F[i].1=(v'.a5F.map Prod.fst)[i]'(by simpa using a) from by simp];exact Zs _
theorem BV(v:VW)(u:Nat):X6 v u<=v.a5F.length:=by
 unfold X6 re
 cases e:v.a5F.findIdx? fun r=>decide (r.1=u) with
 |none=>exact zw _
 |some i=>exact(kd.1 e).1
theorem BW(a v:As)(L Z R:List As):(a::v::(L++(Z++R))).Perm ((a::(L++R))++(v::Z)):=by
 refine List.Perm.cons _ ?_;refine List.Perm.trans (List.Perm.cons _ ?_) Qp.symm;rw[zn];exact Zr L kj
structure mS(x:AN)(s:SE)(us:List Nat)(r:RR)(v':VW)(l:List RM)(h:l9):Prop where
 vw:zS s.a5G v'
 rep:(∃c,r={x.r with code:=c})\/r=II x.c.tag
 tol:∀m∈l,∃u,(u∈us\/0<X6 s.a5G u)/\∃vs,m.1=xR (X6 s.a5G u) vs/\(0<vs.length\/x.c.a5J=[])/\vs.length<=100/\∀v∈vs,zR x v
 rd:∀m∈l,fE m.1 m.2 h/\yT m.2
def qt(x:AN)(s:SE)(us:List Nat)(r:RR)(s':SE)(l:List RR):Prop:=l.length<=100000/\(∃v',s'={s with a5G:=v'}/\zS s.a5G v')/\((∃c,r={x.r with code:=c})\/r=II x.c.tag)/\∀q∈l,∃u,(u∈us\/0<X6 s.a5G u)/\∃vs,q=xR (X6 s.a5G u) vs/\(0<vs.length\/x.c.a5J=[])/\vs.length<=100/\∀v∈vs,zR x v
theorem mS.le{x:AN}{s:SE}{a:List Nat}{r:RR}{v':VW}{l:List RM}{h b:l9}(k:mS x s a r v' l h)(hl:l9.le h b):mS x s a r v' l b:=⟨k.vw,k.rep,k.tol,fun m c=>⟨Mn.le hl (k.rd m c).1,(k.rd m c).2⟩⟩
theorem zT(g:Nat)(x:AN)(s:SE)(sl:SL)(d:DD)(y:DL)(hx:rx x)(hz:x.z=L0)(w3:s.a5G.a5F.length<=100000)(w4:x.us.length<=100000)(w5:x.c.a5J.length<=90)(hl:y.rl.length<=100000):
  Cm prog 236 [m6 g] (fun h=>cI x h/\U3 s sl h) (C2 g x::l5 sl.ra s.a5G.a5F sl.rc::O3 x.b s sl d y) (xh g x d y (qt x s x.us)):=by
 refine x8 132 func236 rfl rfl rfl ?_;rintro F R ⟨u2,q7⟩;have q8:∀p∈x.bl,p.2.length<=1000000000:=fun p hp=>by have:=hx.body p hp;omega
 refine I8 6 ?_;refine dp (fun(r:RR) (b:VW) (p:AC) (l:List RM) (o:AC) (V:l6)=>F.le V/\mS x s x.us r b l V.heap/\l.length<=100000) (fun _ _ _ _ _ _=>[(0,m6 g)]) (fun _ _ _ _ _ V=>V) (fun r b p l o _=>C2 g {x with r:=r,z:=L0}::l5 p.1 b.a5F p.2::E8 x.b {s with a5G:=b} {sl with ra:=p.1,rc:=p.2} d (C0 y l o.1 o.2)::r8 o.1 (y.rl++l) o.2::R) ?_ ?_
 ·refine n9 ?_;refine bJ (ι:=Nat×RR×VW×AC×List RM×AC×l6) (fun i=>i.1<=x.us.length/\F.le i.2.2.2.2.2.2/\mS x s x.us i.2.1 i.2.2.1 i.2.2.2.2.1 i.2.2.2.2.2.2.heap/\i.2.2.2.2.1.length<=i.1) (fun i=>[(0,m6 g),(13,.slice x.ua x.us.length x.uc),(14,.int .i64 (x.us.length:Nat)),(15,.int .i64 (i.1:Nat))]) (fun i=>i.2.2.2.2.2.2)
   (fun i=>match i with|(j,r,b,p,l,o,V)=>C2 g {x with r:=r,z:=L0}::l5 p.1 b.a5F p.2::E8 x.b {s with a5G:=b} {sl with ra:=p.1,rc:=p.2} d (C0 y l o.1 o.2)::r8 o.1 (y.rl++l) o.2::R) (fun i=>x.us.length-i.1) (0,x.r,s.a5G,(sl.ra,sl.rc),[],(y.da,y.dc),F) ⟨zw _,l6.le_refl _,⟨zS.rfl' _,.inl ⟨x.r.code,rfl⟩,qy,qy⟩,zr _⟩ sub rfl (fun w f=>?_) ?_
  ·obtain⟨xb,xc,xk,xm,xo,xy,w7,w9,a0,a1,a2,a8,b0,xr,xz⟩:=x;obtain rfl:xz=L0:=hz;show Hp F w (_::_::E8 xb s sl d (C0 y [] y.da y.dc)::r8 y.da (y.rl++[]) y.dc::R);simp only[C0,z8];exact C1 (A:=[_,_,_,_]) (J:=[]) tk f
  rintro⟨j,r,b,p,l,o,V⟩ ⟨hj,S,Q,u8⟩;simp only at hj S Q u8;obtain⟨x1,b3⟩:∃x1:AN,x1={x with r:=r,z:=L0}:=⟨_,rfl⟩;obtain⟨s1,b4⟩:∃s1:SE,s1={s with a5G:=b}:=⟨_,rfl⟩;obtain⟨b5,w1⟩:∃q:SL,q={sl with ra:=p.1,rc:=p.2}:=⟨_,rfl⟩;have M:cI x V.heap:=Mn.le S.heap u2;refine R6 ?_ ?_<;>intro h
  ·have h6:j<x.us.length:=(by have:=qr h;omega);have v0:=Y5 M.us h6;refine I8 0 ?_;refine dp (fun(r:RR) (b:VW) (p:AC) (l:List RM) (o:AC) (F2:l6)=>F.le F2/\mS x s x.us r b l F2.heap/\l.length<=j+1) (fun _ _ _ _ _ _=>[(0,m6 g),(13,.slice x.ua x.us.length x.uc),(14,.int .i64 (x.us.length:Nat)),(15,.int .i64 (j:Nat))]) (fun _ _ _ _ _ V=>V) (fun r b p l o _=>C2 g {x with r:=r,z:=L0}::l5 p.1 b.a5F p.2::E8 x.b {s with a5G:=b} {sl with ra:=p.1,rc:=p.2} d (C0 y l o.1 o.2)::r8 o.1 (y.rl++l) o.2::R) ?_ ?_
   ·refine n9 ?_;refine C6 ?_;refine f_ (m8 rfl v0 rfl qb) ?_;refine r_ (i8 rfl (fun w f=>un f M.us (i:=j) y4 h6)) ?_;refine p_ ?_;have q9:x.bx.ls.length<=1000000:=(by have:=hx.ls;omega);refine y8 ?_;refine c_ (eV g {x with r:=r,z:=L0} (x.us.getD j 0) q9) (fun h Y _=>M.bx.ls.le Y) ?_;rintro v A ⟨T,ok,rfl,q0,rfl⟩;refine E4 ?_;refine i7 rfl ?_;intro X;refine y8 ?_;have v1:ok=true->o0 V.heap T.a (fV T.t.a5R)/\T.t.a5R.length<=1000:=fun e=>⟨M.bx.fl _ (q0.1 e).1,hx.fl _ (q0.1 e).1⟩
    cases ok
    ·refine E4 ?_;refine c_ (eo g {x with r:=r,z:=L0} IH [115,111,109,101,32,97,114,101,32,103,111,110,101]) qw ?_;rintro v A ⟨rfl,rfl⟩;refine u7 ?_;exact y5 (II x.c.tag,b,p,l,o,V) ⟨S,{Q with rep:=.inr rfl},by simp only;omega⟩ rfl (fun w f=>C1 (A:=[_,_,_,_]) (J:=[_]) tk f)
    obtain⟨q1,b6⟩:=q0.1 rfl;obtain⟨v3,w2⟩:=v1 rfl;refine y8 ?_;obtain⟨tb,v4⟩:∃q,q=IC {x with r:=r,z:=L0} T:=⟨_,rfl⟩;have x0:=xe g {x with r:=r,z:=L0} T;rw[<-v4] at x0;refine y8 ?_;refine c_ x0 qw ?_;rintro v A ⟨rfl,rfl⟩;refine p_ ?_
    cases tb
    ·refine u7 ?_;exact y5 (r,b,p,l,o,V) ⟨S,Q,by simp only;omega⟩ rfl (fun w f=>C1 (A:=[_,_,_,_]) (J:=[_]) tk f)
    refine u7 ?_;obtain⟨cu,x2⟩:=o7 (x.c.uid);obtain⟨cs,x3⟩:=o7 (x.c.a5K);refine aH ?_;refine c_ (jJ (oK x.c.a5J) x.k.ia x.c.a5J.length x.k.ic (tK _) (nj _) qb) (fun h Y _=>M.c.a5J.le Y) ?_;rintro v A ⟨a6,c6,rfl,rfl⟩;refine p_ ?_;refine I8 0 ?_;refine n7 (ι:=Bool) (fun _=>True) (fun q=>[(0,m6 g),(3,.int .u64 (x.us.getD j 0:Nat)),(4,m6 X),(6,.slice a6 x.c.a5J.length c6),(13,.slice x.ua x.us.length x.uc),(14,.int .i64 (x.us.length:Nat)),(15,.int .i64 (j:Nat)),(51,.bool q)]) (fun _=>bP a6 x.c.a5J c6::.blk X (.cells (S9 T).toArray 156)::C2 g {x with r:=r,z:=L0}::l5 p.1 b.a5F p.2::E8 x.b {s with a5G:=b} {sl with ra:=p.1,rc:=p.2} d (C0 y l o.1 o.2)::r8 o.1 (y.rl++l) o.2::R) ?_ ?_
    ·cases cu
     ·refine aH ?_;refine f_ ((aw rfl).eq (v':=.bool false) (qn x2.symm)) ?_;refine O2 ?_;(first|refine u_ ?_|(refine v_ ?_;fail));refine y8 ?_;exact g_ _ trivial (fun w f=>C1 (A:=[_,_,_,_,_,_]) (J:=[]) tk f)
     ·refine aH ?_;refine f_ ((aw rfl).eq (v':=.bool true) (qn x2.symm)) ?_;refine O2 ?_;(first|refine u_ ?_|(refine v_ ?_;refine e_ rfl (uI x.c x.k 7 qb) (fun h Y _=>M.c.a5J.le Y) rfl ?_));refine y8 ?_;exact g_ _ trivial (fun w f=>C1 (A:=[_,_,_,_,_,_]) (J:=[]) tk f)
    intro b7 _;refine u7 ?_;refine n7 (ι:=List IT×AC) (fun q=>(x.c.a5J.length<=q.1.length/\q.1.length<=x.c.a5J.length+1)/\∀i∈q.1,i∈x.c.a5J\/i=sQ 6\/i=sQ 7\/i=sQ 9) (fun q=>[(0,m6 g),(3,.int .u64 (x.us.getD j 0:Nat)),(4,m6 X),(6,.slice q.2.1 q.1.length q.2.2),(13,.slice x.ua x.us.length x.uc),(14,.int .i64 (x.us.length:Nat)),(15,.int .i64 (j:Nat))]) (fun q=>bP q.2.1 q.1 q.2.2::.blk X (.cells (S9 T).toArray 156)::C2 g {x with r:=r,z:=L0}::l5 p.1 b.a5F p.2::E8 x.b {s with a5G:=b} {sl with ra:=p.1,rc:=p.2} d (C0 y l o.1 o.2)::r8 o.1 (y.rl++l) o.2::R) ?_ ?_
    ·refine o8 rfl ?_ ?_<;>intro h
     ·have k8:=fun q2=>yn x.c.a5J a6 c6 (sQ 7) q2 qb;obtain⟨x9,U⟩:=o7 (sQ 7::x.c.a5J);rw[<-U] at k8;refine p_ ?_;refine f_ (y7 (ps:=[(0,.const (.int .i64 7))]) (vs:=[(0,.int .i64 7)]) (cells:=(cX (sQ 7)).toArray) rfl i6) ?_;refine Gp cX (sQ 7) rfl ?_;intro q2;refine c_ (k8 q2) qw ?_;rintro v A ⟨a7,c7,rfl,rfl⟩;refine p_ ?_;exact g_ (x9,a7,c7) ⟨⟨by simp only[U,zy];omega,by simp only[U,zy];omega⟩,fun i Q=>by rw[U] at Q;rcases ky.1 Q with rfl|Q;exact .inr (.inr (.inl rfl));exact .inl Q⟩ (fun w f=>C1 (A:=[_,_,_,_,_,_]) (J:=[]) tk f)
     ·refine u7 ?_;exact g_ (x.c.a5J,a6,c6) ⟨⟨zr _,Nat.le_succ _⟩,fun i Q=>.inl Q⟩ (fun w f=>C1 (A:=[_,_,_,_,_,_]) (J:=[]) tk f)
    rintro⟨u,o6⟩ ⟨h7,h0⟩;simp only at h7 h0;refine I8 0 ?_;refine n7 (ι:=Bool) (fun _=>True) (fun q=>[(0,m6 g),(3,.int .u64 (x.us.getD j 0:Nat)),(4,m6 X),(6,.slice o6.1 u.length o6.2),(13,.slice x.ua x.us.length x.uc),(14,.int .i64 (x.us.length:Nat)),(15,.int .i64 (j:Nat)),(68,.bool q)]) (fun _=>bP o6.1 u o6.2::.blk X (.cells (S9 T).toArray 156)::C2 g {x with r:=r,z:=L0}::l5 p.1 b.a5F p.2::E8 x.b {s with a5G:=b} {sl with ra:=p.1,rc:=p.2} d (C0 y l o.1 o.2)::r8 o.1 (y.rl++l) o.2::R) ?_ ?_
    ·cases cs
     ·refine aH ?_;refine f_ ((aw rfl).eq (v':=.bool false) (qn x3.symm)) ?_;refine O2 ?_;(first|refine u_ ?_|(refine v_ ?_;fail));refine y8 ?_;exact g_ _ trivial (fun w f=>C1 (A:=[_,_,_,_,_,_]) (J:=[]) tk f)
     ·refine aH ?_;refine f_ ((aw rfl).eq (v':=.bool true) (qn x3.symm)) ?_;refine O2 ?_;(first|refine u_ ?_|(refine v_ ?_;refine e_ rfl (uI x.c x.k 9 qb) (fun h Y _=>M.c.a5J.le Y) rfl ?_));refine y8 ?_;exact g_ _ trivial (fun w f=>C1 (A:=[_,_,_,_,_,_]) (J:=[]) tk f)
    intro b8 _;refine u7 ?_;refine n7 (ι:=List IT×AC) (fun q=>(x.c.a5J.length<=q.1.length/\q.1.length<=x.c.a5J.length+2)/\∀i∈q.1,i∈x.c.a5J\/i=sQ 6\/i=sQ 7\/i=sQ 9) (fun q=>[(0,m6 g),(3,.int .u64 (x.us.getD j 0:Nat)),(4,m6 X),(6,.slice q.2.1 q.1.length q.2.2),(13,.slice x.ua x.us.length x.uc),(14,.int .i64 (x.us.length:Nat)),(15,.int .i64 (j:Nat))]) (fun q=>bP q.2.1 q.1 q.2.2::.blk X (.cells (S9 T).toArray 156)::C2 g {x with r:=r,z:=L0}::l5 p.1 b.a5F p.2::E8 x.b {s with a5G:=b} {sl with ra:=p.1,rc:=p.2} d (C0 y l o.1 o.2)::r8 o.1 (y.rl++l) o.2::R) ?_ ?_
    ·refine o8 rfl ?_ ?_<;>intro h
     ·refine p_ ?_;refine f_ (y7 (ps:=[(0,.const (.int .i64 9))]) (vs:=[(0,.int .i64 9)]) (cells:=(cX (sQ 9)).toArray) rfl i6) ?_;refine C4 cX (sQ 9) rfl ?_;intro b9 _;refine u6 cX (l:=u) (m:=[sQ 9]) am gu (by show(u.length+1)*32<=_;omega) ?_;intro a72 v5 _;refine p_ ?_;exact g_ (u++[sQ 9],a72,v5) ⟨⟨by simp only[zz,zy,z6];omega,by simp only[zz,zy,z6];omega⟩,fun i Q=>by rcases zc.1 Q with Q|Q;exact h0 i Q;exact .inr (.inr (.inr (zg.1 Q)))⟩ (fun w f=>C1 (A:=[_,_,_,_,_,_]) (J:=[_]) tk f)
     ·refine u7 ?_;exact g_ (u,o6) ⟨⟨h7.1,by show u.length<=_;omega⟩,h0⟩ (fun w f=>C1 (A:=[_,_,_,_,_,_]) (J:=[]) tk f)
    clear h0 h7;rintro⟨u,o6⟩ ⟨h7,h0⟩;simp only at h7 h0;have v6:X6 b (x.us.getD j 0)<1000000:=Ws (BV b _) (by have:=Q.vw.len;omega);obtain⟨sq,k9⟩:=o7 (X6 b (x.us.getD j 0));have h8:=GV b p.1 p.2 (x.us.getD j 0) (by have:=Q.vw.len;omega);rw[<-k9] at h8 v6;refine wk 9 ?_;refine e_ rfl h8 (fun h Y ⟨bs,hb⟩=>A2.rd hb ud) rfl ?_;refine f_ ((y9 rfl qb).eq (v':=.int .u64 (sq:Nat)) rfl) ?_;refine f_ (y7 (ps:=[(0,.const (.int .i64 14)),(4,.tmp 83)]) (vs:=[(0,.int .i64 14),(4,.int .u64 (sq:Nat))]) (cells:=(tD (xR sq []) L0).toArray) rfl i6) ?_;refine i7 rfl ?_;intro g7;refine p_ ?_;refine I8 3 ?_;refine n7 (ι:=AC×List VM×List As) (fun q=>q.2.1.length=u.length/\(∀w∈q.2.1,zR x w.v)/\∀h bs,A2 h q.2.2 bs->∀w∈q.2.1,o0 h w.a (fV w.v.a5R)) (fun q=>[(0,m6 g),(3,.int .u64 (x.us.getD j 0:Nat)),(4,m6 X),(7,m6 g7),(13,.slice x.ua x.us.length x.uc),(14,.int .i64 (x.us.length:Nat)),(15,.int .i64 (j:Nat))]) (fun q=>match q with|(O,D,Z)=>xQ g7 (xR sq (D.map VM.v)) ⟨none,0,none,0,O.1,O.2,D⟩::bG O.1 D O.2::.blk X (.cells (S9 T).toArray 156)::C2 g {x with r:=r,z:=L0}::l5 p.1 b.a5F p.2::E8 x.b {s with a5G:=b} {sl with ra:=p.1,rc:=p.2} d (C0 y l o.1 o.2)::r8 o.1 (y.rl++l) o.2::(Z++R)) ?_ ?_
    ·refine n9 ?_;refine B4 (a:=o6.1) (n:=u.length) (c:=o6.2) (sz:=5) (xs:=oK u) ud fun _ _ y0=>?_;refine o9 (ι:=Nat×AC×List VM×List As) (fun q=>q.1<=u.length/\q.2.2.1.length=q.1/\(∀w∈q.2.2.1,zR x w.v)/\∀h bs,A2 h q.2.2.2 bs->∀w∈q.2.2.1,o0 h w.a (fV w.v.a5R)) (fun q=>[(0,m6 g),(3,.int .u64 (x.us.getD j 0:Nat)),(4,m6 X),(7,m6 g7),(13,.slice x.ua x.us.length x.uc),(14,.int .i64 (x.us.length:Nat)),(15,.int .i64 (j:Nat)),(85,.slice o6.1 u.length o6.2),(86,.int .i64 (u.length:Nat)),(87,.int .i64 (q.1:Nat))]) (fun q=>match q with|(_,O,D,Z)=>xQ g7 (xR sq (D.map VM.v)) ⟨none,0,none,0,O.1,O.2,D⟩::bG O.1 D O.2::bP o6.1 u o6.2::.blk X (.cells (S9 T).toArray 156)::C2 g {x with r:=r,z:=L0}::l5 p.1 b.a5F p.2::E8 x.b {s with a5G:=b} {sl with ra:=p.1,rc:=p.2} d (C0 y l o.1 o.2)::r8 o.1 (y.rl++l) o.2::(Z++R)) (fun q=>u.length-q.1) (0,(none,0),[],[]) ⟨zw _,rfl,qy,(fun _ _ _ _ h=>by cases h)⟩ sub (fun w f=>?_) ?_
     ·exact C1 (A:=[_,bG none [] 0,_,_,_,_,_,_]) (J:=[]) tk (f.addNil 110 6)
     rintro⟨k,O,D,Z⟩ ⟨hk,q3,h4,h5⟩;simp only at hk q3 h4 h5;refine R6 ?_ ?_<;>intro h
     ·have q4:k<u.length:=(by have:=qr h;omega);have q5:=y0 qb;refine C6 ?_;refine f_ (m8 rfl q5 rfl qb) ?_;refine r_ (w8 rfl (fun w f=>fq (C:=cX) (f.ownN (a:=o6.1) (t:=129) ud).2.2.1 am qp q4 y4) (am _)) ?_;refine i7 rfl ?_;intro g9;refine p_ ?_;refine D9 [1,3,4] [5,6,7,9] [xQ g7 (xR sq (D.map VM.v)) ⟨none,0,none,0,O.1,O.2,D⟩,.blk g9 (.cells (cX u[k]).toArray 129),.blk X (.cells (S9 T).toArray 156)] 10 ?_;refine wd [0,1,2,3,4] ?_;refine h_ 5 rfl i6 ?_;refine c_ (xf g {x with r:=r,z:=L0} u[k] T qb (by have:=hx.bl;show x.bl.length<=_;omega) q8) (fun h Y _=>⟨M.g.le Y,v3.le Y,M.bl.le Y⟩) ?_;rintro v A ⟨vm,Z2,rfl,v7,rfl,v8⟩;refine I6 (H':=_::_::_::_::_::_::_::_::_::(Z2++(Z++R))) (fun w f=>f.perm ((Qd Z2 [_,_,_,_,_,_,_,_] (Z++R)).cons _)) ?_;refine ae ?_;refine h_ 6 rfl i6 ?_;refine C4 vz vm rfl ?_;intro c0 _;refine ae ?_;refine h_ 7 rfl i6 ?_;refine u6 vz (l:=D) (m:=[vm]) nf ng (by show(D.length+1)*72<=_;omega) ?_;intro Rx q6 _;refine E5 [8,9] ?_;refine y8 ?_;refine l8 (i:=(k,O,D,Z)) (k+1,(Rx,q6),D++[vm],Z2++Z) ⟨q4,by rw[zz];simp only[zy,z6];omega,fun w f=>by rcases zc.1 f with f|f;exact h4 w f;exact⟨u[k],T,h0 _ (zx q4),q1,by rw[zg.1 f];exact v7⟩,fun h bs hs w f=>?hzz⟩ qg sub (fun w f=>?hpp)
      case hzz=>
       obtain⟨b1,b2,rfl,h1,h2⟩:=A2.split hs;rcases zc.1 f with f|f
       ·exact h5 _ _ h2 w f
       ·rw[zg.1 f];exact v8 _ _ h1
      case hpp=>
       show Hp V w (xQ g7 (xR sq ((D++[vm]).map VM.v)) ⟨none,0,none,0,Rx,q6,D++[vm]⟩::bG Rx (D++[vm]) q6::bP o6.1 u o6.2::.blk X (.cells (S9 T).toArray 156)::C2 g {x with r:=r,z:=L0}::l5 p.1 b.a5F p.2::E8 x.b {s with a5G:=b} {sl with ra:=p.1,rc:=p.2} d (C0 y l o.1 o.2)::r8 o.1 (y.rl++l) o.2::((Z2++Z)++R));rw[zn];exact C1 (A:=[_,_,_,_,_,_,_,_]) (J:=[_,_]) tk f
     ·refine u7 ?_;exact g_ (O,D,Z) ⟨by have:=zq h;simp only;omega,h4,h5⟩ (fun w f=>C1 (A:=[_,_,_,_,_,_,_]) (J:=[_]) tk f)
    rintro⟨O,D,Z⟩ ⟨q3,h4,h5⟩;simp only at q3 h4 h5;refine u7 ?_;have v9:x.us.getD j 0∈x.us:=(by rw[zd,zj h6];exact zx h6);refine D5 (H':=(xQ g7 (xR sq (D.map VM.v)) ⟨none,0,none,0,O.1,O.2,D⟩::.blk X (.cells (S9 T).toArray 156)::C2 g {x with r:=r,z:=L0}::l5 p.1 b.a5F p.2::E8 x.b {s with a5G:=b} {sl with ra:=p.1,rc:=p.2} d (C0 y l o.1 o.2)::r8 o.1 (y.rl++l) o.2::R)++(bG O.1 D O.2::Z)) (fun w f=>f.perm (BW _ _ [_,_,_,_,_] Z R)) (bY fun F2 k0 hb=>?_);obtain⟨bs,hb⟩:=hb;obtain⟨b1,b2,rfl,y1,y2⟩:=hb;have y3:o0 F2.heap O.1 (OZ D):=A2.rd (H:=[bG O.1 D O.2]) ⟨b1,[],(z8 _).symm,y1,rfl⟩ ud;have z0:=h5 _ _ y2;clear y1 y2;have z1:cI x F2.heap:=Mn.le k0.heap M;obtain⟨m,hm⟩:=o7 (α:=RM) ((xR sq (D.map VM.v),⟨none,0,none,0,O.1,O.2,D⟩));have z2:∀a c,E_ (C0 y l o.1 o.2) (xR sq (D.map VM.v),⟨none,0,none,0,O.1,O.2,D⟩) a c=C0 y (l++[m]) a c:=fun a c=>(by simp[E_,C0,hm]);have h9:mS x s x.us r b (l++[m]) F2.heap:=by
     have h3:=Q.le k0.heap;refine⟨h3.vw,h3.rep,fun q hq=>?_,fun q hq=>?_⟩
     ·rcases zc.1 hq with hq|hq
      ·exact h3.tol q hq
      ·rw[zg.1 hq,hm];refine⟨x.us.getD j 0,.inl v9,D.map VM.v,by rw[k9,Q.vw.seq],by rw[zm];rcases Qs x.c.a5J.length with e|e;exact .inr (jx e);exact .inl qb,by rw[zm];omega,fun v hv=>?_⟩;obtain⟨w,f,rfl⟩:=jv.1 hv;exact h4 w f
     ·rcases zc.1 hq with hq|hq
      ·exact h3.rd q hq
      ·rw[zg.1 hq,hm];exact⟨⟨rfl,o0.nil _ _,o0.nil _ _,y3,z0⟩,rfl,rfl⟩
    refine u7 ?_;refine D9 [3,4] [5] [C2 g {x with r:=r,z:=L0},xQ g7 (xR sq (D.map VM.v)) ⟨none,0,none,0,O.1,O.2,D⟩] 6 ?_;refine wd [0,1,2,3,4] ?_;refine h_ 5 rfl i6 ?_;refine c_ (V4 x.b {s with a5G:=b} {sl with ra:=p.1,rc:=p.2} d (C0 y l o.1 o.2) (xR sq (D.map VM.v)) ⟨none,0,none,0,O.1,O.2,D⟩ (by simp only[zz];omega)) qw ?_;rintro v A ⟨rfl,a9,c9,rfl⟩;refine E5 [] ?_;rw[z2];refine O2 ?_;refine e_ rfl (uI x.c x.k 6 qb) (fun h Y _=>z1.c.a5J.le Y) rfl ?_;refine O1 ?_ ?_<;>intro h
    ·refine u7 ?_;refine D9 [3,7,11,14] [15,19] [C2 g {x with r:=r,z:=L0},E8 x.b {s with a5G:=b} {sl with ra:=p.1,rc:=p.2} d (C0 y (l++[m]) a9 c9),.blk X (.cells (S9 T).toArray 156)] 20 ?_;refine wd [0,1,2,3,4,5,6,7,8,9,10,11,12,13,14] ?_;refine h_ 15 rfl i6 ?_;refine c_ (C:=[]) (Bh b p.1 p.2 (x.us.getD j 0) T.t.mod (by have:=Q.vw.len;omega)) ?pre ?_;(case pre=>exact fun h Y ⟨bs,hb⟩=>A2.rd hb ud);rintro v A ⟨a5,c5,rfl,rfl⟩;refine gn [16,17,18,19] ?_;exact y5 (r,ci b (x.us.getD j 0) T.t.mod,(a5,c5),l++[m],(a9,c9),F2) ⟨S.trans k0,{h9 with vw:=h9.vw.told _ _},by simp only[zz,zy,z6];omega⟩ rfl (fun w f=>C1 (A:=[_,_,_,_]) (J:=[_,_,_]) tk f)
    ·refine u7 ?_;exact y5 (r,b,p,l++[m],(a9,c9),F2) ⟨S.trans k0,h9,by simp only[zz,zy,z6];omega⟩ rfl (fun w f=>C1 (A:=[_,_,_,_]) (J:=[_,_]) tk f)
   rintro r' v2 p2 l2 O F2 ⟨u0,h9,u1⟩;refine y8 ?_;exact O9 (i:=(j,r,b,p,l,o,V)) (j+1,r',v2,p2,l2,O,F2) ⟨h6,u0,h9,u1⟩ qg sub rfl i_
  ·refine u7 ?_;exact y5 (r,b,p,l,o,V) ⟨S,Q,by simp only;omega⟩ rfl i_
 rintro r b p l o V ⟨S,Q,w0⟩;refine G_ (A:=C2 g {x with r:=r,z:=L0}::l5 p.1 b.a5F p.2::O3 x.b {s with a5G:=b} {sl with ra:=p.1,rc:=p.2} d (C0 y l o.1 o.2)) (v:=.tuple #[]) S ⟨rfl,r,{s with a5G:=b},{sl with ra:=p.1,rc:=p.2},l,o.1,o.2,⟨by rw[zm];exact w0,⟨b,rfl,Q.vw⟩,Q.rep,fun q hq=>?_⟩,Q.rd,⟨(Mn.le S.heap q7).a5I,(Mn.le S.heap q7).cmd⟩,rfl⟩ ?_
 ·obtain⟨m,hm,rfl⟩:=jv.1 hq;exact Q.tol m hm
 ·exact l_ rfl _ qh i_
theorem xi(n:Nat)(h:n<18446744073709551616):Pu prog 366 [.int .u64 (n:Nat)] Gl (B (fI n)):=by
 obtain⟨q,a⟩:=o7 (decide (n=0));refine b_ 7 func366 rfl rfl rfl ?_;intro F hg;refine y8 ?_;refine f_ ((o_ rfl rfl).eq (v':=.bool q) (qn ((qz).trans a.symm))) ?_;refine u7 ?_
 cases q
 ·have b:n≠0:=zq a.symm;refine p_ ?_;refine e_ rfl (aD n h) (fun h c _=>hg.le c) rfl ?_;refine C8 ?_;exact d_ rfl rfl [] ⟨by unfold fI;rw[zk b],rfl⟩ i_
 ·have b:n=0:=qr a.symm;refine C8 ?_;exact d_ rfl rfl [] ⟨by unfold fI;rw[zu b],rfl⟩ i_
theorem Nr(n:Nat)(h:n<18446744073709551616):(R4 n).length<=20:=by
 have a:∀(k n:Nat),n<10^(k+1)->(R4 n).length<=k+1:=fun k=>by
  induction k with
  |zero=>intro n h;rw[bK (by simpa using h)];simp
  |succ k ih=>
   intro n h;by_cases h1:n<10
   ·rw[bK h1];simp
   ·have:=ih (n/10) (Nat.div_lt_of_lt_mul (by rw[W8] at h;omega));rw[gh qb,zz];simp only[zy,z6];omega
 exact a 19 n qb
theorem kG(n:Nat)(h:n<18446744073709551616):(fI n).length<=20:=by
 unfold fI;split
 ·simp
 ·exact Nr n h
theorem BY(r:Nat×Nat)(a:r.1<18446744073709551616)(b:r.2<18446744073709551616):(aA r).length<=41:=by
 have:=kG r.1 a;have:=kG r.2 b;unfold aA;split
 ·omega
 ·simp only[zz,zy];omega
theorem qv(k:Nat):∀l:List Bs,(∀x∈l,x.length<=k)->(eZ [44] l).length<=l.length*(k+1)
 |[],_=>by simp[eZ]
 |[x],h=>by have:=h x y4;simp[eZ];omega
 |x::y::t,h=>by
  have b:=h x y4;have a:=qv k (y::t) fun z hz=>h z (jj _ hz);rw[eZ,zz,zz];simp only[zy,z6] at a⊢;rw[Q0];omega;all_goals simp
theorem xj(l:List (Nat×Nat))(a:Option Addr)(c:Nat)(hl:l.length<=1000000)(t:∀r∈l,r.1<18446744073709551616/\r.2<18446744073709551616):
  Ct prog 311 [.slice a l.length c] (fun h=>Gl h/\o0 h a (V7 l)) [] (fun v A=>(∃(w:Bs) (ok:Bool),v=.tuple #[B w,.bool ok]/\(ok=true->l≠[]/\l.length<=64/\w=eZ [44] (l.map aA)))/\A=[]):=by
 obtain⟨S,T⟩:=o7 (decide (l.length<1));obtain⟨Z,U⟩:=o7 (decide (64<l.length));refine b_ 49 func311 rfl rfl rfl ?_;rintro F ⟨hg,g⟩;refine y8 ?_;refine x6 [(0,.slice a l.length c),(15,.bool (S||Z))] [] ?_ ?_
 ·cases S
  all_goals (
   refine y8 ?_;refine f_ ((E6 rfl rfl).eq (qn ((qz).trans T.symm))) ?_;refine E4 ?_;(first|refine u_ ?_|(refine v_ ?_;refine f_ ((D8 rfl rfl).eq (qn ((qz).trans U.symm))) ?_));refine p_ ?_)
  all_goals exact p8 sub i_
 refine O1 ?_ ?_<;>intro h
 ·refine L7 ?_;exact r7 rfl rfl rfl [] ⟨⟨_,_,rfl,fun e=>by cases e⟩,rfl⟩ i_
 have k:¬l.length<1/\¬64<l.length:=by rw[T,U] at h;simpa using h
 refine p_ ?_;refine I8 3 ?_;refine n7 (ι:=AC) (fun _=>True) (fun o=>[(4,.slice o.1 (l.map aA).length o.2)]) (fun o=>[A4 o.1 (l.map aA) o.2]) ?_ ?_
 ·refine n9 ?_;refine o9 (ι:=Nat×AC) (fun i=>i.1<=l.length) (fun i=>[(0,.slice a l.length c),(16,.slice a l.length c),(17,.int .i64 (l.length:Nat)),(18,.int .i64 (i.1:Nat)),(4,.slice i.2.1 ((l.take i.1).map aA).length i.2.2)]) (fun i=>[A4 i.2.1 ((l.take i.1).map aA) i.2.2]) (fun i=>l.length-i.1) (0,none,0) (zw _) sub (fun w d=>d.addNil _ _) ?_;rintro⟨j,o⟩ hj;simp only at hj;refine R6 ?_ ?_<;>intro h
  ·have b:j<l.length:=(by have:=qr h;omega);have u:=A0 g D0 qp b;have f:=t _ (zx b);have h0:=kG l[j].1 f.1;have h5:=kG l[j].2 f.2;refine I8 0 ?_;refine n9 ?_;refine C6 ?_;refine f_ (m8 rfl u rfl qb) ?_;refine r_ (w8 rfl (fun w d=>fq (C:=iA) (g.le d.keep) D0 qp b y4) (D0 _)) ?_;refine i7 rfl ?_;intro g6;refine aH ?_;refine f_ (nS rfl rfl) ?_;refine R6 ?_ ?_<;>intro h
   ·refine L7 ?_;exact r7 rfl rfl rfl [] ⟨⟨_,_,rfl,fun e=>by cases e⟩,rfl⟩ (fun w d=>d.dropAll)
   refine y8 ?_;refine e_ rfl (xi l[j].1 f.1) (fun h s _=>hg.le s) rfl ?_;refine p_ ?_;obtain⟨V,y⟩:=o7 (decide (l[j].2=l[j].1));refine O2 ?_;refine f_ ((M9 rfl rfl).eq (v':=.bool (!V)) (jw (fun x=>Value.bool (!x)) ((qz).trans y.symm))) ?_;refine u7 ?_;refine x6 [(0,.slice a l.length c),(16,.slice a l.length c),(17,.int .i64 (l.length:Nat)),(18,.int .i64 (j:Nat)),(4,.slice o.1 ((l.take j).map aA).length o.2),(7,B (aA l[j]))] [A4 o.1 ((l.take j).map aA) o.2] ?_ ?_
   ·cases V
    ·have z:¬l[j].2=l[j].1:=zq y.symm;have D:aA l[j]=fI l[j].1++58::fI l[j].2:=(by unfold aA;rw[zk z]);rw[D];refine E4 ?_;refine e_ rfl (xi l[j].2 f.2) (fun h s _=>hg.le s) rfl ?_;refine E4 ?_;exact p8 sub (fun w d=>d.drop)
    ·have z:l[j].2=l[j].1:=qr y.symm;have D:aA l[j]=fI l[j].1:=(by unfold aA;rw[zu z]);rw[D];refine u7 ?_;exact p8 sub (fun w d=>d.drop)
   refine y8 ?_;refine uu (n:=aA l[j]) ?_;intro a44;refine uv (l:=(l.take j).map aA) (m:=[aA l[j]]) (by rw[zm,z7];show(min j l.length+1)*16<=_;omega) ?_ (hl:=by rw[zm,z7];show min j l.length+1<=_;omega);intro M O _;refine E4 ?_;have X:(l.take (j+1)).map aA=(l.take j).map aA++[aA l[j]]:=(by rw[kw b,jm];rfl);refine l8 (i:=(j,o)) (j+1,M,O) b qg (by rw[X];exact sub) (fun w d=>by rw[X];exact C1 (A:=[_]) (J:=[_]) tk d)
  ·have b:j=l.length:=(by have:=zq h;omega);refine u7 ?_;exact g_ o trivial (fun w d=>by rw[b,Qj] at d;exact d) (hs:=by rw[b,Qj];exact sub)
 rintro o-;refine u7 ?_;refine B4 (a:=o.1) (n:=(l.map aA).length) (c:=o.2) (sz:=1) (xs:=fV (l.map aA)) (te:=9) ud fun _ p _=>?_;have Q:(l.map aA).length<=64:=by rw[zm];omega
 have h6:=qv 41 (l.map aA) fun x hx=>by
  obtain⟨r,q,rfl⟩:=jv.1 hx;exact BY r (t r q).1 (t r q).2
 have Y:(l.map aA).length*42<=64*42:=Qy _ Q;refine p_ ?_;refine e_ rfl (Lz (l.map aA) o.1 o.2 [44] p qb qb) (fun h s ⟨bs,hb⟩=>A2.rd hb ud) rfl ?_;refine L7 ?_;exact r7 rfl rfl rfl [] ⟨⟨_,_,rfl,fun _=>⟨fun e=>k.1 (by rw[e];decide),by omega,rfl⟩⟩,rfl⟩ (fun w d=>d.dropAll)
theorem Ns(l:List Nat)(a:Option Addr)(c:Nat)(f:Nat)(hl:l.length<=1000000000000):Pu prog 365 [.slice a l.length c,.int .u64 (f:Nat)] (fun h=>o0 h a (nV l)) (.int .i64 (D1 (fun x=>decide (x=f)) l)):=by
 refine b_ 19 func365 rfl rfl rfl ?_;intro F e;refine O2 ?_;refine o9 (ι:=Nat) (fun j=>j<=l.length/\∀i (g:i<l.length),i<j->decide (l[i]=f)=false) (fun j=>[(0,.slice a l.length c),(1,.int .u64 (f:Nat)),(7,.int .i64 (l.length:Nat)),(8,.int .i64 (j:Nat))]) (fun _=>[]) (fun j=>l.length-j) 0 ⟨zw _,fun i _ h=>by omega⟩ sub i_ ?_;rintro j ⟨q,d⟩;refine R6 ?_ ?_<;>intro h
 ·have b:j<l.length:=by have:=qr h;omega
  have k:=Y5 e b;have m:l.getD j 0=l[j]:=by simp[List.getD,b]
  refine cQ ?_;refine r_ (i8 rfl (fun w o=>un o e (i:=j) y4 b)) ?_;refine f_ ((o_ rfl rfl).eq (v':=.bool (decide (l[j]=f))) (qn (zh.2 (by rw[m];omega)))) ?_;refine O1 ?_ ?_<;>intro n
  ·refine L7 ?_;exact d_ rfl rfl [] ⟨by rw[N6 b n d],rfl⟩ i_
  ·refine y8 ?_;refine l8 (j+1) ⟨b,fun i g h=>?_⟩ qb sub i_;rcases kr.1 h with p|rfl
   ·exact d i g p
   ·exact n
 ·have b:j=l.length:=by have:=zq h;omega
  refine C8 ?_;exact d_ rfl rfl [] ⟨by rw[N5 fun i g=>d i g qb],rfl⟩ i_
theorem IJ(l:List Nat)(f:Nat):l.any (fun x=>decide (x=f))=decide (f∈l):=by
 rw[Z7,Jz,Jc];constructor
 ·rintro⟨x,a,h⟩;exact qr h▸a
 ·exact fun h=>⟨f,h,jk rfl⟩
theorem BZ(l:List Nat)(a:Option Addr)(c:Nat)(f:Nat)(hl:l.length<=1000000000000):Pu prog 310 [.slice a l.length c,.int .u64 (f:Nat)] (fun h=>o0 h a (nV l)) (.bool (decide (f∈l))):=by
 refine b_ 9 func310 rfl rfl rfl ?_;intro F b;refine E4 ?_;refine e_ rfl (Ns l a c f hl) (fun h d _=>b.le d) rfl ?_;refine f_ ((I3 rfl rfl).eq (qn ((fK (fun x=>decide (x=f)) l).trans (IJ l f)))) ?_;refine C8 ?_;exact d_ rfl rfl [] qh i_
abbrev Kf(p:Bool×Nat):List Value:=[.bool p.1,.int .i64 (p.2:Nat)]
theorem Ca:∀x,(Kf x).length=2:=fun _=>rfl
abbrev Tz:Bs:=[77,79,68,73,70,73,69,68,32]
theorem ED(g:Nat)(x:AN)(s:SE)(sl:SL)(d:DD)(y:DL)(hx:rx x)(hz:x.z=L0)(a0:s.a5G.a5F.length<=100000)(a1:x.us.length<=100000)(a2:x.o.a5I.length<=100000)(u1:x.o.mods.length<=100000/\fR x.o.mods)(hl:y.rl.length<=100000):
  Cm prog 237 [m6 g] (fun h=>cI x h/\U3 s sl h) (C2 g x::l5 sl.ra s.a5G.a5F sl.rc::O3 x.b s sl d y) (xh g x d y (qt x s [])):=by
 refine x8 178 func237 rfl rfl rfl ?_;rintro F R ⟨q2,q4⟩;have q5:∀p∈x.bl,p.2.length<=1000000000:=fun p hp=>by have:=hx.body p hp;omega
 have q6:x.bx.ls.length<=1000000:=by have:=hx.ls;omega
 refine I8 7 ?_;refine dp (fun(_:Unit) (b:VW) (p:AC) (l:List RM) (o:AC) (S:l6)=>F.le S/\mS x s [] x.r b l S.heap/\l.length<=100000) (fun _ _ _ _ _ _=>[(0,m6 g)]) (fun _ _ _ _ _ S=>S) (fun _ b p l o _=>C2 g x::l5 p.1 b.a5F p.2::E8 x.b {s with a5G:=b} {sl with ra:=p.1,rc:=p.2} d (C0 y l o.1 o.2)::r8 o.1 (y.rl++l) o.2::R) ?_ ?_
 ·refine n9 ?_;refine bJ (ι:=Nat×VW×AC×List RM×AC×l6) (fun i=>i.1<=x.o.a5I.length/\F.le i.2.2.2.2.2/\mS x s [] x.r i.2.1 i.2.2.2.1 i.2.2.2.2.2.heap/\i.2.2.2.1.length<=i.1) (fun i=>[(0,m6 g),(18,.slice x.y.ua x.o.a5I.length x.y.uc),(19,.int .i64 (x.o.a5I.length:Nat)),(20,.int .i64 (i.1:Nat))]) (fun i=>i.2.2.2.2.2)
   (fun i=>match i with|(j,b,p,l,o,S)=>C2 g x::l5 p.1 b.a5F p.2::E8 x.b {s with a5G:=b} {sl with ra:=p.1,rc:=p.2} d (C0 y l o.1 o.2)::r8 o.1 (y.rl++l) o.2::R) (fun i=>x.o.a5I.length-i.1) (0,s.a5G,(sl.ra,sl.rc),[],(y.da,y.dc),F) ⟨zw _,l6.le_refl _,⟨zS.rfl' _,.inl ⟨x.r.code,rfl⟩,qy,qy⟩,zr _⟩ sub rfl (fun w n=>?_) ?_
  ·show Hp F w (_::_::E8 x.b s sl d (C0 y [] y.da y.dc)::r8 y.da (y.rl++[]) y.dc::R);simp only[C0,z8];exact C1 (A:=[_,_,_,_]) (J:=[]) tk n
  rintro⟨j,b,p,l,o,S⟩ ⟨hj,M,T,u2⟩;simp only at hj M T u2;have f:cI x S.heap:=Mn.le M.heap q2;refine R6 ?_ ?_<;>intro h
  ·have U:j<x.o.a5I.length:=(by have:=qr h;omega);have k8:=Y5 f.o.a5I U;refine I8 0 ?_;refine dp (fun(_:Unit) (b:VW) (p:AC) (l:List RM) (o:AC) (F2:l6)=>F.le F2/\mS x s [] x.r b l F2.heap/\l.length<=j+1) (fun _ _ _ _ _ _=>[(0,m6 g),(18,.slice x.y.ua x.o.a5I.length x.y.uc),(19,.int .i64 (x.o.a5I.length:Nat)),(20,.int .i64 (j:Nat))]) (fun _ _ _ _ _ S=>S) (fun _ b p l o _=>C2 g x::l5 p.1 b.a5F p.2::E8 x.b {s with a5G:=b} {sl with ra:=p.1,rc:=p.2} d (C0 y l o.1 o.2)::r8 o.1 (y.rl++l) o.2::R) ?_ ?_
   ·refine n9 ?_;refine C6 ?_;refine f_ (m8 rfl k8 rfl qb) ?_;refine r_ (i8 rfl (fun w n=>un n f.o.a5I (i:=j) y4 U)) ?_;refine E4 ?_;refine c_ (eV g x (x.o.a5I.getD j 0) q6) (fun h Q _=>f.bx.ls.le Q) ?_;rintro v A ⟨lm,ok,rfl,u8,rfl⟩;refine E4 ?_;refine i7 rfl ?_;intro g4;refine y8 ?_
    cases ok
    ·refine y8 ?_;exact y5 ((),b,p,l,o,S) ⟨M,T,by simp only;omega⟩ rfl (fun w n=>C1 (A:=[_,_,_,_]) (J:=[_]) tk n)
    obtain⟨V,a6⟩:=u8.1 rfl;have v0:=f.bx.fl _ V;have w3:=hx.fl _ V;refine E4 ?_;obtain⟨L3,k9⟩:∃L3:List (Bool×Nat),L3=[(x.c.uid,7),(!x.c.a5P,6),(s.cond,9)]:=⟨_,rfl⟩;have v1:∀q∈L3,q.2=6\/q.2=7\/q.2=9:=fun q O=>by
     rw[k9] at O;simp at O;rcases O with rfl|rfl|rfl<;>simp
    have w4:L3.length=3:=(by rw[k9];rfl);refine u7 ?_;refine Ar [4,10,16,20] [22] 25 ?_;refine wd [0,1,2,3,4,5,6,7,8,9,10,11,12,13,14,15,16,17,18,19,20,21,24] ?_;refine h_ 22 rfl i6 ?_;refine x5 (ps:=[(0,.tmp 37),(1,.tmp 44),(2,.tmp 53)]) (vs:=[(0,.agg (Kf (x.c.uid,7)).toArray),(1,.agg (Kf (!x.c.a5P,6)).toArray),(2,.agg (Kf (s.cond,9)).toArray)]) (xs:=[(x.c.uid,7),(!x.c.a5P,6),(s.cond,9)].flatMap Kf) rfl rfl rfl rfl rfl rfl rfl rfl ?_;intro KG q7;rw[<-k9];refine E5 [23,7] ?_;have q8:∃ad,KG=some ad:=q7;refine n7 (ι:=AC×List VM×List As) (fun q=>q.2.1.length<=3/\(∀w∈q.2.1,zR x w.v)/\∀h bs,A2 h q.2.2 bs->∀w∈q.2.1,o0 h w.a (fV w.v.a5R)) (fun q=>[(0,m6 g),(3,.int .u64 (x.o.a5I.getD j 0:Nat)),(4,m6 g4),(6,.slice q.1.1 q.2.1.length q.1.2),(18,.slice x.y.ua x.o.a5I.length x.y.uc),(19,.int .i64 (x.o.a5I.length:Nat)),(20,.int .i64 (j:Nat))]) (fun q=>match q with|(D,u,Z)=>.blk g4 (.cells (S9 lm).toArray 156)::bG D.1 u D.2::C2 g x::l5 p.1 b.a5F p.2::E8 x.b {s with a5G:=b} {sl with ra:=p.1,rc:=p.2} d (C0 y l o.1 o.2)::r8 o.1 (y.rl++l) o.2::(Z++R)) ?_ ?_
    ·refine n9 ?_;refine o9 (ι:=Nat×AC×List VM×List As) (fun q=>q.1<=3/\q.2.2.1.length<=q.1/\(∀w∈q.2.2.1,zR x w.v)/\∀h bs,A2 h q.2.2.2 bs->∀w∈q.2.2.1,o0 h w.a (fV w.v.a5R)) (fun q=>[(0,m6 g),(3,.int .u64 (x.o.a5I.getD j 0:Nat)),(4,m6 g4),(6,.slice q.2.1.1 q.2.2.1.length q.2.1.2),(18,.slice x.y.ua x.o.a5I.length x.y.uc),(19,.int .i64 (x.o.a5I.length:Nat)),(20,.int .i64 (j:Nat)),(54,.slice KG 3 3),(55,.int .i64 3),(56,.int .i64 (q.1:Nat))]) (fun q=>match q with|(_,D,u,Z)=>.own (.slice KG 3 3) 340 2 (L3.flatMap Kf)::.blk g4 (.cells (S9 lm).toArray 156)::bG D.1 u D.2::C2 g x::l5 p.1 b.a5F p.2::E8 x.b {s with a5G:=b} {sl with ra:=p.1,rc:=p.2} d (C0 y l o.1 o.2)::r8 o.1 (y.rl++l) o.2::(Z++R)) (fun q=>3-q.1) (0,(none,0),[],[]) ⟨zw _,zw _,qy,(fun _ _ _ _ h=>by cases h)⟩ sub (fun w n=>?_) ?_
     ·exact C1 (A:=[.own (.slice KG 3 3) 340 2 (L3.flatMap Kf),_,bG none [] 0,_,_,_,_]) (J:=[]) tk (n.addNil 110 6)
     rintro⟨k,D,u,Z⟩ ⟨hk,q0,X,Y⟩;simp only at hk q0 X Y;refine R6 ?_ ?_<;>intro h
     ·have q9:k<L3.length:=(by have:=qr h;omega);have v3:=v1 _ (zx q9);refine I8 0 ?_;refine n7 (ι:=AC×List VM×List As) (fun q=>q.2.1.length<=k+1/\(∀w∈q.2.1,zR x w.v)/\∀h bs,A2 h q.2.2 bs->∀w∈q.2.1,o0 h w.a (fV w.v.a5R)) (fun q=>[(0,m6 g),(3,.int .u64 (x.o.a5I.getD j 0:Nat)),(4,m6 g4),(6,.slice q.1.1 q.2.1.length q.1.2),(18,.slice x.y.ua x.o.a5I.length x.y.uc),(19,.int .i64 (x.o.a5I.length:Nat)),(20,.int .i64 (j:Nat)),(54,.slice KG 3 3),(55,.int .i64 3),(56,.int .i64 (k:Nat))]) (fun q=>match q with|(D,u,Z)=>.own (.slice KG 3 3) 340 2 (L3.flatMap Kf)::.blk g4 (.cells (S9 lm).toArray 156)::bG D.1 u D.2::C2 g x::l5 p.1 b.a5F p.2::E8 x.b {s with a5G:=b} {sl with ra:=p.1,rc:=p.2} d (C0 y l o.1 o.2)::r8 o.1 (y.rl++l) o.2::(Z++R)) ?_ ?_
      ·refine n9 ?_;refine C6 ?_;refine f_ (m8 rfl q8 rfl qb) ?_;refine r_ (w8 rfl (fun w n=>fq (C:=Kf) (n.ownN (t:=340) ud).2.2.1 Ca qp q9 y4) (Ca _)) ?_;refine i7 rfl ?_;intro g8;refine eJ ?_ ?_<;>intro h
       ·refine O2 ?_;refine f_ (y7 (ps:=[(0,.tmp 65)]) (vs:=[(0,.int .i64 (L3[k].2:Nat))]) (cells:=(cX (sQ L3[k].2)).toArray) rfl i6) ?_;refine p_ ?_;refine c_ (xf g x (sQ L3[k].2) lm qb (by have:=hx.bl;omega) q5) (fun h Q _=>⟨f.g.le Q,v0.le Q,f.bl.le Q⟩) ?_;rintro v A ⟨vm,Z2,rfl,v4,rfl,v5⟩;refine I6 (H':=_::_::_::_::_::_::_::_::(Z2++(Z++R))) (fun w n=>n.perm ((Qd Z2 [_,_,_,_,_,_,_] (Z++R)).cons _)) ?_;refine C4 vz vm rfl ?_;intro a8 _;refine u6 vz (l:=u) (m:=[vm]) nf ng (by show(u.length+1)*72<=_;omega) ?_;intro a70 x0 _;refine p_ ?_;refine g_ ((a70,x0),u++[vm],Z2++Z) ⟨by rw[zz];simp only[zy,z6];omega,fun w n=>by rcases zc.1 n with n|n;exact X w n;exact⟨sQ L3[k].2,lm,.inr (by rcases v3 with e|e|e<;>rw[e]<;>simp),V,by rw[zg.1 n];exact v4⟩,fun h bs hs w n=>?hzz⟩ (fun w n=>?hpp)
        case hzz=>
         obtain⟨b1,b2,rfl,h1,h2⟩:=A2.split hs;rcases zc.1 n with n|n
         ·exact Y _ _ h2 w n
         ·rw[zg.1 n];exact v5 _ _ h1
        case hpp=>
         show Hp S w (.own (.slice KG 3 3) 340 2 (L3.flatMap Kf)::.blk g4 (.cells (S9 lm).toArray 156)::bG a70 (u++[vm]) x0::C2 g x::l5 p.1 b.a5F p.2::E8 x.b {s with a5G:=b} {sl with ra:=p.1,rc:=p.2} d (C0 y l o.1 o.2)::r8 o.1 (y.rl++l) o.2::((Z2++Z)++R));rw[zn];exact C1 (A:=[_,_,_,_,_,_,_]) (J:=[_,_]) tk n
       ·refine u7 ?_;exact g_ (D,u,Z) ⟨by simp only;omega,X,Y⟩ (fun w n=>C1 (A:=[_,_,_,_,_,_,_]) (J:=[_]) tk n)
      rintro⟨o3,v6,Z3⟩ ⟨x1,x2,x3⟩;simp only at x1 x2 x3;refine y8 ?_;exact l8 (i:=(k,D,u,Z)) (k+1,o3,v6,Z3) ⟨by simp only;omega,x1,x2,x3⟩ qg sub i_
     ·refine u7 ?_;exact g_ (D,u,Z) ⟨by simp only;omega,X,Y⟩ (fun w n=>C1 (A:=[_,_,_,_,_,_]) (J:=[_]) tk n)
    rintro⟨D,u,Z⟩ ⟨q0,X,Y⟩;simp only at q0 X Y;refine u7 ?_;have v7:X6 b (x.o.a5I.getD j 0)<1000000:=Ws (BV b _) (by have:=T.vw.len;omega);obtain⟨sq,h5⟩:=o7 (X6 b (x.o.a5I.getD j 0));have h6:=GV b p.1 p.2 (x.o.a5I.getD j 0) (by have:=T.vw.len;omega);rw[<-h5] at h6 v7;refine D5 (H':=(.blk g4 (.cells (S9 lm).toArray 156)::C2 g x::l5 p.1 b.a5F p.2::E8 x.b {s with a5G:=b} {sl with ra:=p.1,rc:=p.2} d (C0 y l o.1 o.2)::r8 o.1 (y.rl++l) o.2::R)++(bG D.1 u D.2::Z)) (fun w n=>n.perm (BW _ _ [_,_,_,_] Z R)) (bY fun F2 h8 hb=>?_);obtain⟨bs,hb⟩:=hb;obtain⟨b1,b2,rfl,x9,y0⟩:=hb;have y1:o0 F2.heap D.1 (OZ u):=A2.rd (H:=[bG D.1 u D.2]) ⟨b1,[],(z8 _).symm,x9,rfl⟩ ud;have y2:=Y _ _ y0;clear x9 y0;have w5:cI x F2.heap:=Mn.le h8.heap f;refine wk 9 ?_;refine e_ rfl h6 (fun h Q ⟨bs,hb⟩=>A2.rd hb ud) rfl ?_;refine p_ ?_;refine I8 0 ?_;refine n7 (ι:=Bool) (fun q=>q=true->0<u.length/\0<sq) (fun q=>[(0,m6 g),(3,.int .u64 (x.o.a5I.getD j 0:Nat)),(4,m6 g4),(6,.slice D.1 u.length D.2),(9,.int .i64 (sq:Nat)),(18,.slice x.y.ua x.o.a5I.length x.y.uc),(19,.int .i64 (x.o.a5I.length:Nat)),(20,.int .i64 (j:Nat)),(88,.bool q)]) (fun _=>.blk g4 (.cells (S9 lm).toArray 156)::C2 g x::l5 p.1 b.a5F p.2::E8 x.b {s with a5G:=b} {sl with ra:=p.1,rc:=p.2} d (C0 y l o.1 o.2)::r8 o.1 (y.rl++l) o.2::R) ?_ ?_
    ·by_cases y3:0<u.length
     ·refine y8 ?_;refine f_ ((D8 rfl rfl).eq (v':=.bool true) (qn (jk (show(0:Int)<((u.length:Nat):Int) by omega)))) ?_;refine y8 ?_;(first|refine u_ ?_|(refine v_ ?_;refine f_ ((D8 rfl rfl).eq (v':=.bool (decide (0<sq))) (qn qz)) ?_));refine p_ ?_;exact g_ (decide (0<sq)) (fun e=>⟨y3,qr e⟩) i_
     ·refine y8 ?_;refine f_ ((D8 rfl rfl).eq (v':=.bool false) (qn (Qk (show¬(0:Int)<((u.length:Nat):Int) by omega)))) ?_;refine y8 ?_;(first|refine u_ ?_|(refine v_ ?_;fail));refine p_ ?_;exact g_ false (fun e=>by cases e) i_
    intro b0 z0;refine u7 ?_;refine n7 (ι:=List RM×AC) (fun q=>mS x s [] x.r b q.1 F2.heap/\q.1.length<=j+1) (fun q=>[(0,m6 g),(3,.int .u64 (x.o.a5I.getD j 0:Nat)),(4,m6 g4),(18,.slice x.y.ua x.o.a5I.length x.y.uc),(19,.int .i64 (x.o.a5I.length:Nat)),(20,.int .i64 (j:Nat))]) (fun q=>.blk g4 (.cells (S9 lm).toArray 156)::C2 g x::l5 p.1 b.a5F p.2::E8 x.b {s with a5G:=b} {sl with ra:=p.1,rc:=p.2} d (C0 y q.1 q.2.1 q.2.2)::r8 q.2.1 (y.rl++q.1) q.2.2::R) ?_ ?_
    ·refine o8 rfl ?_ ?_<;>intro h
     ·obtain⟨y3,v8⟩:=z0 h;obtain⟨m,hm⟩:=o7 (α:=RM) ((xR sq (u.map VM.v),⟨none,0,none,0,D.1,D.2,u⟩));have z1:∀a c,E_ (C0 y l o.1 o.2) (xR sq (u.map VM.v),⟨none,0,none,0,D.1,D.2,u⟩) a c=C0 y (l++[m]) a c:=fun a c=>(by simp[E_,C0,hm]);have h0:mS x s [] x.r b (l++[m]) F2.heap:=by
       have h3:=T.le h8.heap;refine⟨h3.vw,h3.rep,fun q O=>?_,fun q O=>?_⟩
       ·rcases zc.1 O with O|O
        ·exact h3.tol q O
        ·rw[zg.1 O,hm];refine⟨x.o.a5I.getD j 0,.inr (by rw[<-T.vw.seq,<-h5];exact v8),u.map VM.v,by rw[h5,T.vw.seq],.inl (by rw[zm];omega),by rw[zm];omega,fun v hv=>?_⟩;obtain⟨w,n,rfl⟩:=jv.1 hv;exact X w n
       ·rcases zc.1 O with O|O
        ·exact h3.rd q O
        ·rw[zg.1 O,hm];exact⟨⟨rfl,o0.nil _ _,o0.nil _ _,y1,y2⟩,rfl,rfl⟩
      refine aH ?_;refine f_ ((y9 rfl qb).eq (v':=.int .u64 (sq:Nat)) rfl) ?_;refine p_ ?_;refine f_ (y7 (ps:=[(0,.const (.int .i64 14)),(4,.tmp 94),(9,.tmp 95)]) (vs:=[(0,.int .i64 14),(4,.int .u64 (sq:Nat)),(9,.slice D.1 u.length D.2)]) (cells:=(tD (xR sq (u.map VM.v)) ⟨none,0,none,0,D.1,D.2,u⟩).toArray) rfl i6) ?_;refine c_ (V4 x.b {s with a5G:=b} {sl with ra:=p.1,rc:=p.2} d (C0 y l o.1 o.2) (xR sq (u.map VM.v)) ⟨none,0,none,0,D.1,D.2,u⟩ (by simp only[zz];omega)) qw ?_;rintro v A ⟨rfl,a9,c9,rfl⟩;refine u7 ?_;rw[z1];exact g_ (l++[m],a9,c9) ⟨h0,by simp only[zz,zy,z6];omega⟩ (fun w n=>C1 (A:=[_,_,_,_,_]) (J:=[]) tk n)
     ·refine u7 ?_;exact g_ (l,o) ⟨T.le h8.heap,by simp only;omega⟩ i_
    rintro⟨l2,oo⟩ ⟨h0,h4⟩;simp only at h0 h4;refine u7 ?_;refine D9 [3,7,11,14] [15,19] [C2 g x,E8 x.b {s with a5G:=b} {sl with ra:=p.1,rc:=p.2} d (C0 y l2 oo.1 oo.2),.blk g4 (.cells (S9 lm).toArray 156)] 20 ?_;refine wd [0,1,2,3,4,5,6,7,8,9,10,11,12,13,14] ?_;refine h_ 15 rfl i6 ?_;refine c_ (C:=[]) (Bh b p.1 p.2 (x.o.a5I.getD j 0) lm.t.mod (by have:=T.vw.len;omega)) ?pre ?_;(case pre=>exact fun h Q ⟨bs,hb⟩=>A2.rd hb ud);rintro v A ⟨a5,c5,rfl,rfl⟩;refine gn [16,17,18,19] ?_;exact y5 ((),ci b (x.o.a5I.getD j 0) lm.t.mod,(a5,c5),l2,oo,F2) ⟨M.trans h8,{h0 with vw:=h0.vw.told _ _},h4⟩ rfl (fun w n=>C1 (A:=[_,_,_,_]) (J:=[_,_]) tk n)
   rintro _ v2 p2 l2 D F2 ⟨z2,h0,h4⟩;refine y8 ?_;exact O9 (i:=(j,b,p,l,o,S)) (j+1,v2,p2,l2,D,F2) ⟨U,z2,h0,h4⟩ qg sub rfl i_
  ·refine u7 ?_;exact y5 ((),b,p,l,o,S) ⟨M,T,by simp only;omega⟩ rfl i_
 rintro _ b p l o S ⟨M,T,v9⟩;have f:cI x S.heap:=Mn.le M.heap q2;have h7:∀(r:RR),((∃c,r={x.r with code:=c})\/r=II x.c.tag)->xh g x d y (qt x s []) S.heap (.tuple #[]) (C2 g {x with r:=r,z:=L0}::l5 p.1 b.a5F p.2::O3 x.b {s with a5G:=b} {sl with ra:=p.1,rc:=p.2} d (C0 y l o.1 o.2)):=fun r hr=>
  ⟨rfl,r,{s with a5G:=b},{sl with ra:=p.1,rc:=p.2},l,o.1,o.2,⟨by rw[zm];exact v9,⟨b,rfl,T.vw⟩,hr,fun q O=>by obtain⟨m,hm,rfl⟩:=jv.1 O;exact T.tol m hm⟩,T.rd,⟨(Mn.le M.heap q4).a5I,(Mn.le M.heap q4).cmd⟩,rfl⟩
 refine u7 ?_;refine I8 6 ?_;refine n7 (ι:=Unit) (fun _=>True) (fun _=>[(0,m6 g)]) (fun _=>C2 g x::l5 p.1 b.a5F p.2::E8 x.b {s with a5G:=b} {sl with ra:=p.1,rc:=p.2} d (C0 y l o.1 o.2)::r8 o.1 (y.rl++l) o.2::R) ?_ ?_
 ·refine n9 ?_;refine o9 (ι:=Nat) (fun i=>i<=x.us.length) (fun i=>[(0,m6 g),(121,.slice x.ua x.us.length x.uc),(122,.int .i64 (x.us.length:Nat)),(123,.int .i64 (i:Nat))]) (fun _=>C2 g x::l5 p.1 b.a5F p.2::E8 x.b {s with a5G:=b} {sl with ra:=p.1,rc:=p.2} d (C0 y l o.1 o.2)::r8 o.1 (y.rl++l) o.2::R) (fun i=>x.us.length-i) 0 (zw _) sub i_ ?_;intro j hj;refine R6 ?_ ?_<;>intro h
  ·have U:j<x.us.length:=(by have:=qr h;omega);have k8:=Y5 f.us U;refine I8 0 ?_;refine n7 (ι:=Unit) (fun _=>True) (fun _=>[(0,m6 g),(121,.slice x.ua x.us.length x.uc),(122,.int .i64 (x.us.length:Nat)),(123,.int .i64 (j:Nat))]) (fun _=>C2 g x::l5 p.1 b.a5F p.2::E8 x.b {s with a5G:=b} {sl with ra:=p.1,rc:=p.2} d (C0 y l o.1 o.2)::r8 o.1 (y.rl++l) o.2::R) ?_ ?_
   ·refine n9 ?_;refine C6 ?_;refine f_ (m8 rfl k8 rfl qb) ?_;refine r_ (i8 rfl (fun w n=>un n f.us (i:=j) y4 U)) ?_;refine p_ ?_;refine I8 0 ?_;refine n7 (ι:=Bool) (fun _=>True) (fun q=>[(0,m6 g),(121,.slice x.ua x.us.length x.uc),(122,.int .i64 (x.us.length:Nat)),(123,.int .i64 (j:Nat)),(144,.bool q)]) (fun _=>C2 g x::l5 p.1 b.a5F p.2::E8 x.b {s with a5G:=b} {sl with ra:=p.1,rc:=p.2} d (C0 y l o.1 o.2)::r8 o.1 (y.rl++l) o.2::R) ?_ ?_
    ·obtain⟨q3,w0⟩:=o7 (decide (x.us.getD j 0∈x.o.a5I));have q1:=BZ x.o.a5I x.y.ua x.y.uc (x.us.getD j 0) qb;rw[<-w0] at q1
     cases q3
     ·refine cQ ?_;refine e_ rfl q1 (fun h Q _=>f.o.a5I.le Q) rfl ?_;refine wk 8 ?_;(first|refine u_ ?_|(refine v_ ?_;refine e_ rfl (BZ x.o.mods x.y.ma x.y.mc (x.us.getD j 0) qb) (fun h Q _=>f.o.mods.le Q) rfl ?_));refine y8 ?_;exact g_ _ trivial i_
     ·refine cQ ?_;refine e_ rfl q1 (fun h Q _=>f.o.a5I.le Q) rfl ?_;refine wk 8 ?_;(first|refine u_ ?_|(refine v_ ?_;fail));refine y8 ?_;exact g_ _ trivial i_
    intro w9 _;refine O1 ?_ ?_<;>intro h
    ·refine p_ ?_;refine c_ (eo g x IH [115,111,109,101,32,97,114,101,32,103,111,110,101]) qw ?_;rintro v A ⟨rfl,rfl⟩;refine oz ?_;refine G_ (v:=.tuple #[]) M (h7 (II x.c.tag) (.inr rfl)) ?_;exact l_ rfl _ qh i_
    ·refine u7 ?_;exact g_ () trivial i_
   intro _ _;refine y8 ?_;exact l8 (j+1) U qb sub i_
  ·refine u7 ?_;exact g_ () trivial i_
 intro _ _;have u0:x={x with r:={x.r with code:=x.r.code},z:=L0}:=by
  obtain⟨xb,xc,xk,xm,xo,xy,b3,b4,b5,b6,b7,b8,b9,xr,xz⟩:=x;obtain rfl:xz=L0:=hz;rfl
 refine u7 ?_;refine D9 [3,7,12,17] [18,19] [C2 g x,E8 x.b {s with a5G:=b} {sl with ra:=p.1,rc:=p.2} d (C0 y l o.1 o.2)] 25 ?_;refine wd [0,1,2,3,4,5,6,7,8,9,10,11,12,13,14,15,16,17] ?_;refine h_ 18 rfl i6 ?_;refine c_ (C:=[]) (Bx b p.1 p.2 x.o.mods x.y.ma x.y.mc x.c.uid (by have:=T.vw.len;omega) qb u1.2) ?pre ?_;(case pre=>exact fun h Q ⟨bs,hb⟩=>⟨A2.rd hb ud,f.o.mods.le Q⟩);rintro v A ⟨a7,l7,c7,rfl,rfl,c0,k0⟩;refine xI ?_;refine h_ 19 rfl i6 ?_;refine c_ (C:=[]) (xj l7 a7 c7 qb (fun r hr=>⟨(k0 r hr).1.2,(k0 r hr).2.2⟩)) ?pre2 ?_;(case pre2=>exact fun h Q ⟨bs,hb⟩=>⟨f.g.le Q,A2.rd hb ud⟩);rintro v A ⟨⟨w7,c1,rfl,w1⟩,rfl⟩;refine E5 [20,21,22,23,24] ?_;refine R6 ?_ ?_<;>intro h
 ·have c2:w7.length<=10000:=by
   obtain⟨_,c3,w2⟩:=w1 h;rw[w2];have h9:=qv 41 (l7.map aA) (fun q O=>by obtain⟨r,hr,rfl⟩:=jv.1 O;exact BY r (k0 r hr).1.2 (k0 r hr).2.2);rw[zm] at h9;omega
  refine y8 ?_;refine f_ (G8 (l:=Tz) (l':=w7) rfl rfl (by show 9+w7.length<=_;omega)) ?_;refine O2 ?_;refine G_ (v:=.tuple #[]) M (h7 {x.r with code:=Tz++w7} (.inl ⟨_,rfl⟩)) ?_;exact l_ rfl _ qh (fun w n=>by
   have h9:=C1 (A:=[.blk g _,l5 p.1 b.a5F p.2,E8 x.b {s with a5G:=b} {sl with ra:=p.1,rc:=p.2} d (C0 y l o.1 o.2),r8 o.1 (y.rl++l) o.2]) (J:=[_]) tk n;rw[u0] at h9;exact h9)
 ·refine u7 ?_;refine G_ (v:=.tuple #[]) M (h7 {x.r with code:=x.r.code} (.inl ⟨_,rfl⟩)) ?_;rw[<-u0];exact l_ rfl _ qh (fun w n=>C1 (A:=[_,_,_,_]) (J:=[_]) tk n)
abbrev qA:RR:={R0 with kind:=10,a5R:=R5}
abbrev zU(fa:Option Addr)(fc:Nat):RM:=(qA,⟨none,0,fa,fc,none,0,[]⟩)
abbrev gK(n:Nat):RR:={R0 with kind:=8,n:=n}
abbrev Fe(w:Bs)(n:Nat):RR:={R0 with kind:=1,tag:=[42],code:=w++R4 n,text:=[100,111,110,101]}
abbrev aF(k:Nat):Bs:=if k=9 then[82,69,65,68,45,79,78,76,89] else[82,69,65,68,45,87,82,73,84,69]
abbrev xl:Bs:=[85,73,68,86,65,76,73,68,73,84,89,32]
abbrev my:Bs:=[85,73,68,78,69,88,84,32]
abbrev mz:Bs:=[72,73,71,72,69,83,84,77,79,68,83,69,81,32]
abbrev mA(b:BX)(fa:Option Addr)(fc:Nat):List RM:=[zU fa fc,(gK b.lts.length,L0),(Fe xl b.val,L0),(Fe my b.next,L0),(Fe mz b.high,L0)]
abbrev TA(p:Bs×Nat):List Value:=[B p.1,.int .u64 (p.2:Nat)]
theorem Cb:∀x,(TA x).length=2:=fun _=>rfl
theorem kH:∀(k n:Nat),n<10^(k+1)->(R4 n).length<=k+1
 |0,n,h=>by rw[bK (by simpa using h)];simp
 |k+1,n,h=>by
  by_cases h1:n<10
  ·rw[bK h1];simp
  ·have:=kH k (n/10) (Nat.div_lt_of_lt_mul (by rw[W8] at h;omega));rw[gh qb,zz];simp only[zy,z6];omega
def Oz(g:Nat)(x:AN)(s:SE)(sl:SL)(d:DD)(y:DL)(h:l9)(v:Value)(A:List As):Prop:=v=.tuple #[]/\
 (ak x.m.s x.c.box=none/\(∃a c,A=C2 g {x with r:=qo x.c.tag,z:=L0}::l5 sl.ra s.a5G.a5F sl.rc::O3 x.b s sl d (C0 y [] a c))
 \/∃b ra rc fa fc a c,ak x.m.s x.c.box=some b/\A=C2 g {x with r:={x.r with code:=aF x.c.kind}}::l5 ra (P3 b).a5F rc::(O3 x.b {s with a5G:=P3 b,a5H:=2,ro:=decide (x.c.kind=9)} {sl with ra:=ra,rc:=rc} d (C0 y (mA b fa fc) a c)++[A4 fa R5 fc]))
theorem sR(g:Nat)(x:AN)(s:SE)(sl:SL)(d:DD)(y:DL)(hx:rx x)(hz:x.z=L0)(hm:U4 x.m.s)(hl:y.rl.length<=100000):
  Cm prog 232 [m6 g] (fun h=>cI x h) (C2 g x::l5 sl.ra s.a5G.a5F sl.rc::O3 x.b s sl d y) (Oz g x s sl d y):=by
 refine x8 120 func232 rfl rfl rfl ?_;rintro F R h6;obtain⟨e,he⟩:=o7 (ak x.m.s x.c.box);have D:=uK x.m x.c.box hm;rw[<-he] at D;refine I8 0 ?_;refine S7 (fun(b:BM) (Q:Nat) (_:Unit) (V:l6)=>F.le V/\b.x=e.getD Ph/\fJ b V.heap) (fun b Q _ _=>[(0,m6 g),(2,m6 Q),(3,.bool e.isSome)]) (fun _ _ _ V=>V) (fun b Q _ _=>xg Q b::C2 g x::l5 sl.ra s.a5G.a5F sl.rc::E8 x.b s sl d y::r8 y.da y.rl y.dc::R) ?_ ?_
 ·refine u7 ?_;refine D9 [3,8] [9,13,14] [C2 g x] 16 ?_;refine wd [0,1,2,3,4,5,6,7,8] ?_;refine bv 9 13 rfl rfl i6 ?_ ?_;refine R7 D h6.m ?_;rintro v A Z Fz hz ⟨b,rfl,f,rfl,X⟩;refine E5 [10,11,12] ?_;refine h_ 13 rfl i6 ?_;refine i7 rfl ?_;intro Q;refine E5 [14,15] ?_
  rotate_left 1
  refine i7 rfl ?_;intro Q;refine ae ?_;refine h_ 9 rfl i6 ?_;refine R7 D h6.m ?_;rintro v A Z Fz hz ⟨b,rfl,f,rfl,X⟩;refine E5 [10,11,12,14,15] ?_
  rotate_left 1
  all_goals (refine u7 ?_)
  all_goals exact eu (Rr:=xg Q b::C2 g x::l5 sl.ra s.a5G.a5F sl.rc::E8 x.b s sl d y::r8 y.da y.rl y.dc::R) Fz hz i_ fun V S q5=>y5 (b,Q,(),V) ⟨S,f,Mn.le q5 X⟩ rfl i_
 rintro b Q _ V ⟨S,f,X⟩;have q1:cI x V.heap:=Mn.le S.heap h6
 cases e with
 |none=>
  refine E4 ?_;refine c_ (eo g x [78,79,78,69,88,73,83,84,69,78,84] [116,104,101,114,101,32,105,115,32,110,111,110,101]) qw ?_;rintro v A ⟨rfl,rfl⟩;refine oz ?_;refine G_ (A:=C2 g {x with r:=qo x.c.tag,z:=L0}::l5 sl.ra s.a5G.a5F sl.rc::O3 x.b s sl d (C0 y [] y.da y.dc)) (v:=.tuple #[]) S ⟨rfl,.inl ⟨he.symm,_,_,rfl⟩⟩ ?_;exact l_ rfl _ qh (fun w M=>by simp only[C0,z8];exact C1 (A:=[_,_,_,_]) (J:=[_]) tk M)
 |some bx0=>
  have f:b.x=bx0:=f;have Y:=hm.box _ (aE he.symm);have z0:b.ls.length<=32:=by
   have h1:=Y.lts;rw[<-f] at h1;simpa using h1
  refine y8 ?_;obtain⟨q9,h9⟩:=o7 (decide (x.c.kind=9));refine u7 ?_;refine D9 [3,7,11,12,18] [13,23,27,31] [C2 g x,xg Q b] 32 ?_;refine wd [0,1,2,3,4,5,6,7,8,9,10,11,12,14,15,16,17,18] ?_;refine w_ 19 rfl ((o_ rfl rfl).eq (v':=.bool q9) (qn ((qz).trans h9.symm))) ?_;refine h_ 13 rfl i6 ?_;refine c_ (C:=[]) (LL b qb) (fun h hh _=>X.ls.le hh) ?_;rintro v A ⟨l,m,rfl,rfl⟩;refine gn [20,21,22,23,24,25,26,27,28,29,30,31] ?_;obtain⟨s1,h7⟩:∃s1:SE,s1={s with a5G:=P3 b.x,a5H:=2,ro:=q9}:=⟨_,rfl⟩;obtain⟨O,h4⟩:∃x:SL,x={sl with ra:=l,rc:=m}:=⟨_,rfl⟩;refine D5 (H':=E8 x.b s1 O d y::r8 y.da y.rl y.dc::xg Q b::C2 g x::l5 l (P3 b.x).a5F m::R) (fun w M=>by rw[h7,h4];exact C1 (A:=[_,_,_,_,l5 l (P3 b.x).a5F m]) (J:=[l5 sl.ra s.a5G.a5F sl.rc]) tk M) ?_;have U:=pc R5;rw[show V8 R5=(R5,0) from by decide] at U;refine C6 ?_;refine x5 rfl rfl rfl rfl rfl rfl (xs:=fV R5) rfl rfl ?_;intro q6 _;refine c_ (U q6 5 qp qp) ?pre ?_;(case pre=>exact fun h hh ⟨bs,hb⟩=>A2.rd hb ud);rintro v A ⟨n,o,rfl,rfl⟩;refine wk 10 ?_;refine f_ (y7 (ps:=[(0,.const (.int .i64 10)),(7,.tmp 63)]) (vs:=[(0,.int .i64 10),(7,.slice n R5.length o)]) (cells:=(tD qA ⟨none,0,n,o,none,0,[]⟩).toArray) rfl i6) ?_;refine c_ (V4 x.b s1 O d y qA ⟨none,0,n,o,none,0,[]⟩ qb) qw ?_;rintro v A ⟨rfl,a1,c1,rfl⟩;refine u7 ?_;obtain⟨y1,h8⟩:=o7 (E_ y (zU n o) a1 c1);rw[<-h8];have x2:y1.rl.length<=100001:=by rw[h8];simp only[zz,zy,z6];omega
  refine u7 ?_;refine D9 [3,5] [9] [C2 g x,xg Q b] 10 ?_;refine wd [0,1,2,3,4,5,6] ?_;refine w_ 7 rfl ((y9 rfl qb).eq (v':=.int .u64 (b.ls.length:Nat)) rfl) ?_;refine w_ 8 rfl (y7 (ps:=[(0,.const (.int .i64 8)),(4,.tmp 73)]) (vs:=[(0,.int .i64 8),(4,.int .u64 (b.ls.length:Nat))]) (cells:=(tD (gK b.ls.length) L0).toArray) rfl i6) ?_;refine h_ 9 rfl i6 ?_;refine c_ (V4 x.b s1 O d y1 (gK b.ls.length) L0 qb) qw ?_;rintro v A ⟨rfl,a2,c2,rfl⟩;refine E5 [] ?_;obtain⟨y2,k0⟩:=o7 (E_ y1 (gK b.ls.length,L0) a2 c2);rw[<-k0];have x3:y2.rl.length<=100002:=by rw[k0];simp only[zz,zy,z6];omega
  obtain⟨q,h0⟩:∃q:List (Bs×Nat),q=[(xl,b.val),(my,b.next),(mz,b.high)]:=⟨_,rfl⟩;have x9:q.length=3:=by rw[h0];rfl
  have q7:∀p∈q,p.2<18446744073709551616/\p.1.length<=20:=fun p hp=>by
   have h1:b.val<=4294967296:=(by have:=Y.val;rwa [<-f] at this);have h2:b.next<=4294967296:=(by have:=Y.next;rwa [<-f] at this);have h3:b.high<=D_:=(by have:=Y.high;rwa [<-f] at this);rw[h0] at hp;simp at hp;rcases hp with rfl|rfl|rfl
   ·exact⟨by simp only;omega,by show xl.length<=20;decide⟩
   ·exact⟨by simp only;omega,by show my.length<=20;decide⟩
   ·exact⟨Ws h3 qp,by show mz.length<=20;decide⟩
  refine y8 ?_;refine f_ (y7 (ps:=[(0,.const (B xl)),(1,.tmp 77)]) (vs:=[(0,B xl),(1,.int .u64 (b.val:Nat))]) (cells:=#[B xl,.int .u64 (b.val:Nat)]) rfl i6) ?_;refine y8 ?_;refine f_ (y7 (ps:=[(0,.const (B my)),(1,.tmp 80)]) (vs:=[(0,B my),(1,.int .u64 (b.next:Nat))]) (cells:=#[B my,.int .u64 (b.next:Nat)]) rfl i6) ?_;refine y8 ?_;refine f_ (y7 (ps:=[(0,.const (B mz)),(1,.tmp 83)]) (vs:=[(0,B mz),(1,.int .u64 (b.high:Nat))]) (cells:=#[B mz,.int .u64 (b.high:Nat)]) rfl i6) ?_;refine x5 rfl rfl rfl rfl rfl rfl (xs:=[(xl,b.val),(my,b.next),(mz,b.high)].flatMap TA) rfl rfl ?_;intro k8 q2;rw[<-h0];refine I8 2 ?_;have q8:∃ad,k8=some ad:=q2;refine n7 (ι:=DL) (fun u=>∃a c,u=C0 y2 (q.map fun p=>(Fe p.1 p.2,L0)) a c) (fun _=>[(0,m6 g),(2,m6 Q)]) (fun u=>E8 x.b s1 O d u::r8 u.da u.rl u.dc::C2 g x::A4 n R5 o::l5 l (P3 b.x).a5F m::R) ?_ ?_
  ·refine n9 ?_;refine o9 (ι:=Nat×DL) (fun i=>i.1<=3/\∃a c,i.2=C0 y2 ((q.take i.1).map fun p=>(Fe p.1 p.2,L0)) a c) (fun i=>[(0,m6 g),(2,m6 Q),(85,.slice k8 3 3),(86,.int .i64 3),(87,.int .i64 (i.1:Nat))]) (fun i=>E8 x.b s1 O d i.2::r8 i.2.da i.2.rl i.2.dc::.own (.slice k8 3 3) 327 2 (q.flatMap TA)::C2 g x::A4 n R5 o::l5 l (P3 b.x).a5F m::R) (fun i=>3-i.1) (0,y2) ⟨zw _,y2.da,y2.dc,by simp[C0]⟩ sub (fun w M=>C1 (A:=[_,_,_,C2 g x,A4 n R5 o,l5 l (P3 b.x).a5F m]) (J:=[_,_]) tk M) ?_;rintro⟨j,u⟩ ⟨hj,a3,c3,T⟩;simp only at hj T;refine R6 ?_ ?_<;>intro h
   ·have k9:j<q.length:=(by have:=qr h;omega);have q3:=q7 _ (zx k9);have z1:=kH 19 q[j].2 (by have:=q3.1;omega);have y0:u.rl.length<=100010:=(by rw[T];simp only[zz,zm,z7];omega);refine C6 ?_;refine f_ (m8 rfl q8 rfl qb) ?_;refine r_ (w8 rfl (fun w M=>fq (C:=TA) (M.ownN (t:=327) ud).2.2.1 Cb qp k9 y4) (Cb _)) ?_;refine i7 rfl ?_;intro g7;refine p_ ?_;refine D9 [3,5,7] [8,11] [C2 g x,.blk g7 (.cells (TA q[j]).toArray 327)] 12 ?_;refine wd [0,1,2,3,4,5,6,7] ?_;refine h_ 8 rfl i6 ?_;refine e_ rfl (aD q[j].2 q3.1) (fun h hh _=>q1.g.le hh) rfl ?_;refine gn [9] ?_;refine w_ 10 rfl (y7 (ps:=[(0,.const (.int .i64 1)),(1,.const (B [42])),(2,.tmp 100),(3,.const (B [100,111,110,101]))]) (vs:=[(0,.int .i64 1),(1,B [42]),(2,B (q[j].1++R4 q[j].2)),(3,B [100,111,110,101])]) (cells:=(tD (Fe q[j].1 q[j].2) L0).toArray) rfl i6) ?_;refine h_ 11 rfl i6 ?_;refine c_ (V4 x.b s1 O d u (Fe q[j].1 q[j].2) L0 qb) qw ?_;rintro v A ⟨rfl,a4,c4,rfl⟩;refine E5 [] ?_;refine y8 ?_;exact l8 (i:=(j,u)) (j+1,E_ u (Fe q[j].1 q[j].2,L0) a4 c4) ⟨by simp only;omega,a4,c4,by rw[T,kw k9,jm];simp only[E_,C0,zn];rfl⟩ qg sub (fun w M=>C1 (A:=[_,_,_,C2 g x,A4 n R5 o,l5 l (P3 b.x).a5F m]) (J:=[_]) tk M)
   ·have x0:j=3:=(by have:=zq h;omega);refine u7 ?_;exact g_ u ⟨a3,c3,by rw[T,x0,kp qb]⟩ (fun w M=>C1 (A:=[_,_,C2 g x,A4 n R5 o,l5 l (P3 b.x).a5F m]) (J:=[_]) tk M)
  rintro u ⟨a3,c3,T⟩;have x1:u=C0 y (mA bx0 n o) a3 c3:=by
   rw[T,k0,h8,h0,<-f];simp[C0,E_,mA]
  have q4:s1.ro=decide (x.c.kind=9):=by rw[h7];exact h9
  have h5:∀(k:Bs),k=aF x.c.kind->∀w,Hp V w (E8 x.b s1 O d u::r8 u.da u.rl u.dc::C2 g {x with r:={x.r with code:=k}}::A4 n R5 o::l5 l (P3 b.x).a5F m::R)->Hp V w ((C2 g {x with r:={x.r with code:=aF x.c.kind}}::l5 l (P3 bx0).a5F m::(O3 x.b {s with a5G:=P3 bx0,a5H:=2,ro:=decide (x.c.kind=9)} {sl with ra:=l,rc:=m} d (C0 y (mA bx0 n o) a3 c3)++[A4 n R5 o]))++R):=fun k hc w M=>by
   rw[hc,h7,h4,x1,f] at M;rw[h9] at M;exact C1 (A:=[_,_,_,_,A4 n R5 o]) (J:=[]) tk M
  refine wk 13 ?_;refine o8 rfl ?_ ?_<;>intro h
  ·have q0:x.c.kind=9:=(by rw[q4] at h;exact qr h);refine aH ?_;refine G_ (A:=C2 g {x with r:={x.r with code:=aF x.c.kind}}::l5 l (P3 bx0).a5F m::(O3 x.b {s with a5G:=P3 bx0,a5H:=2,ro:=decide (x.c.kind=9)} {sl with ra:=l,rc:=m} d (C0 y (mA bx0 n o) a3 c3)++[A4 n R5 o])) (v:=.tuple #[]) S ⟨rfl,.inr ⟨bx0,l,m,n,o,a3,c3,he.symm,rfl⟩⟩ ?_;exact l_ rfl _ qh (h5 _ (by unfold aF;rw[zu q0]))
  ·have q0:¬x.c.kind=9:=(by rw[q4] at h;exact zq h);refine u7 ?_;refine G_ (A:=C2 g {x with r:={x.r with code:=aF x.c.kind}}::l5 l (P3 bx0).a5F m::(O3 x.b {s with a5G:=P3 bx0,a5H:=2,ro:=decide (x.c.kind=9)} {sl with ra:=l,rc:=m} d (C0 y (mA bx0 n o) a3 c3)++[A4 n R5 o])) (v:=.tuple #[]) S ⟨rfl,.inr ⟨bx0,l,m,n,o,a3,c3,he.symm,rfl⟩⟩ ?_;exact l_ rfl _ qh (h5 _ (by unfold aF;rw[zk q0]))
