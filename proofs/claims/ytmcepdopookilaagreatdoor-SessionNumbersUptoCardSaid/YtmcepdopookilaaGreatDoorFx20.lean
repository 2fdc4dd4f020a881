import Derived.Test.YtmcepdopookilaaGreatDoorFx19
set_option maxHeartbeats 16000000
set_option maxRecDepth 8000
set_option linter.unusedVariables false
set_option linter.unusedSimpArgs false
set_option linter.defProp false
namespace Go.Proofs.YtmcepdopookilaaGreatDoor.Rp
open Go Go.Sl Go.RowKit Go.Proofs.Tryz
theorem MT(s:Bs):(R8 s).length=s.length:=by simp[R8]
def Y6(l:List RM):List As:=l.flatMap fun m=>if m.1.a5c=[] then[] else[A4 m.2.fa m.1.a5c m.2.fc]
def kC(m:RM)(h:l9):Prop:=(fB m.1 m.2 h/\m.2.fa=none)\/∃fa fc,m=zD fa fc
theorem kC.le{m:RM}{h b:l9}(k:kC m h)(hl:l9.le h b):kC m b:=by
 rcases k with⟨a,c⟩|a
 ·exact .inl ⟨a.le hl,c⟩
 ·exact .inr a
theorem MU{m:RM}{h:l9}(k:fB m.1 m.2 h)(e:m.2.fa=none):m.1.a5c=[]:=by
 have b:=k.a5c;rw[e] at b
 cases hq:m.1.a5c with
 |nil=>rfl
 |cons a t=>
  obtain⟨d,c,_⟩:=b (by rw[hq];simp[fV])
  cases c
theorem nB{l:List RM}{h:l9}(k:∀m∈l,fB m.1 m.2 h/\m.2.fa=none):Y6 l=[]:=by
 unfold Y6;rw[List.flatMap_eq_nil_iff];intro m a;rw[zu (MU (k m a).1 (k m a).2)]
theorem nC(a b:List RM):Y6 (a++b)=Y6 a++Y6 b:=Z6
theorem Iu(b:BX)(fa:Option Addr)(fc:Nat):Y6 (mj b fa fc)=[A4 fa R5 fc]:=rfl
structure MV(x:AN)(s:SE):Prop where
 ok:rf x
 ml:Y4 x.m.s
 a4Q:s.a4R.a4Q.length<=50000
 us:x.us.length<=100000
 uo:x.o.a4T.length<=100000/\fP x.o.a4T
 mo:x.o.mods.length<=100000/\fP x.o.mods
 val:x.o.val<18446744073709551616
abbrev Px:Bs:=[65,80,80,69,78,68,85,73,68,32]
abbrev uw(x:AN):Bs:=if x.o.a4T=[] then x.r.code else Px++R4 x.o.val++[32]++R4 (x.o.a4T.getD 0 0)
abbrev MW(w:Bs):RR:={R0 with kind:=11,box:=w}
def SS(b:BX):List RR:=[uv,kA b.lts.length,It wU b.val,It mh b.next,It mi b.high]
def O0(x:AN)(s:SE)(r:RR)(s':SE)(l:List RR):Prop:=
 if x.c.kind=7 then s'={s with a4S:=1,ses:=x.o.ses,num:=0}/\r=x.r/\l=[]
 else if x.c.kind=14 then s'=s/\r={x.r with code:=uw x}/\l=[]
 else if x.c.kind=8\/x.c.kind=9 then(ae x.m.s x.c.box=none/\s'=s/\r=pV x.c.tag/\l=[])\/∃b,ae x.m.s x.c.box=some b/\s'={s with a4R:=P4 b,a4S:=2,ro:=decide (x.c.kind=9)}/\r={x.r with code:=aD x.c.kind}/\l=SS b
 else if x.c.kind=12 then s'=s/\r=x.r/\l.length<=8/\∀q∈l,∃b∈x.m.s.a4N,q=MW b.name
 else if x.c.kind=13 then NP x s r s' l
 else if x.c.kind=15 then s'=s/\r=x.r/\∃nums m,l=[BA nums m]
 else if x.c.kind=16 then pW x s x.us r s' l
 else if x.c.kind=17 then pW x s [] r s' l
 else s'=s/\r=x.r/\l=[]
def STzq(g:Nat)(x:AN)(d:DD)(y:DL)(Q:RR->SE->List RR->Prop)(h:l9)(v:Value)(A:List As):Prop:=v=.tuple #[]/\∃r s sl l a c,Q r s (l.map Prod.fst)/\(∀m∈l,kC m h)/\U2 s sl h/\l.length<=200000/\A=C2 g {x with r:=r,z:=L0}::l5 sl.ra s.a4R.a4Q sl.rc::(O4 x.b s sl d (C0 y l a c)++Y6 l)
theorem MX(g:Nat)(x:AN)(s:SE)(sl:SL)(d:DD)(y:DL)(hx:MV x s)(hz:x.z=L0)(hl:y.rl.length<=100):
  Cm prog 163 [m6 g] (fun h=>cA x h/\U2 s sl h) (C2 g x::l5 sl.ra s.a4R.a4Q sl.rc::O4 x.b s sl d y) (STzq g x d y (O0 x s)):=by
 have a7:=hx.a4Q;have y2:=hx.us;have q0:({x with r:=x.r,z:=L0}:AN)=x:=by
  obtain⟨xb,xc,xk,xm,xo,xy,y3,z0,z2,u0,u1,u2,u8,xr,xz⟩:=x;obtain rfl:xz=L0:=hz;rfl
 obtain⟨b7,h7⟩:=o7 (decide (x.c.kind=7));obtain⟨v0,q8⟩:=o7 (decide (x.c.kind=14));obtain⟨b8,h8⟩:=o7 (decide (x.c.kind=8));obtain⟨b9,h9⟩:=o7 (decide (x.c.kind=9));obtain⟨v1,q9⟩:=o7 (decide (x.c.kind=12));obtain⟨v2,x0⟩:=o7 (decide (x.c.kind=13));obtain⟨v3,x1⟩:=o7 (decide (x.c.kind=15));obtain⟨v4,x2⟩:=o7 (decide (x.c.kind=16));obtain⟨v5,x3⟩:=o7 (decide (x.c.kind=17));refine x7 133 func163 rfl rfl rfl ?_;rintro F R ⟨u,D⟩;refine J_ 5 ?_;refine df (fun(r:RR) (k:SE) (f:SL) (l:List RM) (o:AC) (t:l6)=>F.le t/\O0 x s r k (l.map Prod.fst)/\(∀m∈l,kC m t.heap)/\U2 k f t.heap/\l.length<=200000) (fun _ _ _ _ _ _=>[(0,m6 g)]) (fun _ _ _ _ _ t=>t) (fun r k f l o _=>C2 g {x with r:=r,z:=L0}::l5 f.ra k.a4R.a4Q f.rc::E8 x.b k f d (C0 y l o.1 o.2)::r7 o.1 (y.rl++l) o.2::(Y6 l++R)) ?_ ?_
 ·refine o0 ?_;have h0:∀w,Hp F w (C2 g x::l5 sl.ra s.a4R.a4Q sl.rc::E8 x.b s sl d y::r7 y.da y.rl y.dc::R)->Hp F w (C2 g {x with r:=x.r,z:=L0}::l5 sl.ra s.a4R.a4Q sl.rc::E8 x.b s sl d (C0 y [] y.da y.dc)::r7 y.da (y.rl++[]) y.dc::(Y6 []++R)):=fun w n=>by
   rw[q0];simp only[C0,z7];exact n
  have x9:∀(Q:RR->SE->List RR->Prop) (t:l6) (v:Value) (A:List As),(∀r k l,Q r k l->O0 x s r k l/\l.length<=200000)->wR g x d y Q t.heap v A->F.le t->∃(r:RR) (k:SE) (f:SL) (l:List RM) (o:AC),v=.tuple #[]/\(O0 x s r k (l.map Prod.fst)/\(∀m∈l,kC m t.heap)/\U2 k f t.heap/\l.length<=200000)/\A++R=C2 g {x with r:=r,z:=L0}::l5 f.ra k.a4R.a4Q f.rc::E8 x.b k f d (C0 y l o.1 o.2)::r7 o.1 (y.rl++l) o.2::(Y6 l++R):=fun Q t v A hQ ⟨hv,r,k,f,l,a,c,U,S,hs,V⟩ v6=>by
   refine⟨r,k,f,l,(a,c),hv,⟨(hQ _ _ _ U).1,fun m w4=>.inl (S m w4),hs,by have:=(hQ _ _ _ U).2;rwa [zm] at this⟩,?_⟩;rw[nB S,V];rfl
  refine C6 ?_;refine f_ ((p7 rfl rfl).eq (v':=.bool b7) (qn ((qz).trans h7.symm))) ?_;refine p9 ?_
  cases b7
  case true=>
   have e7:x.c.kind=7:=qr h7.symm;refine u7 ?_;refine D7 [3,7,11,16] [20,24,28] [C2 g x] 29 ?_;refine wd [0,1,2,3,4,5,6,7,8,9,10,11,12,13,14,15,16,17,18,19,20,21,22,23,24,25,26,27,28] ?_;exact y4 (x.r,{s with a4S:=1,ses:=x.o.ses,num:=0},sl,[],(y.da,y.dc),F) ⟨l6.le_refl _,by unfold O0;rw[zu e7];exact qm,qy,⟨D.a4T,D.cmd⟩,zw _⟩ rfl (fun w n=>by
    rw[q0];simp only[C0,z7];exact C1 (A:=[_,_,_,_]) (J:=[]) tk n)
  have e7:¬x.c.kind=7:=zq h7.symm;refine C6 ?_;refine f_ ((p7 rfl rfl).eq (v':=.bool v0) (qn ((qz).trans q8.symm))) ?_;refine p9 ?_
  cases v0
  case true=>
   have M:x.c.kind=14:=qr q8.symm;refine wk 7 ?_;refine o8 rfl ?_ ?_<;>intro h
   ·have O:0<x.o.a4T.length:=(by have:=qr h;omega);have y0:=Y0 u.o.a4T O;have w5:x.o.a4T≠[]:=fun e=>(by rw[e] at O;simp at O);have v7:x.o.a4T.getD 0 0<18446744073709551616:=hx.uo.2 _ (by rw[zb,zj O];exact zy O);have a0:=kB 19 x.o.val (by have:=hx.val;omega);have a1:=kB 19 (x.o.a4T.getD 0 0) qb;refine u7 ?_;refine D7 [5,13] [6,15,16,21] [C2 g x] 22 ?_;refine wd [0,1,2,3,4,5,9,10,11,12,13] ?_;refine w_ 14 rfl (m8 rfl y0 rfl qb) ?_;refine bg 6 15 rfl rfl i6 ?_ ?_;refine e_ rfl (aB x.o.val hx.val) (fun h hh _=>u.g.le hh) rfl ?_;refine gk [7,8] ?_;refine h_ 15 rfl i6 ?_;refine r_ (i8 rfl (fun w n=>tT n u.o.a4T (i:=0) x8 O)) ?_;refine xn ?_;refine h_ 16 rfl i6 ?_;refine e_ rfl (aB (x.o.a4T.getD 0 0) v7) (fun h hh _=>u.g.le hh) rfl ?_;refine E5 [17,18,19,20,21] ?_
    rotate_left 1
    refine r_ (i8 rfl (fun w n=>tT n u.o.a4T (i:=0) x8 O)) ?_;refine Y5 ?_;refine h_ 6 rfl i6 ?_;refine e_ rfl (aB x.o.val hx.val) (fun h hh _=>u.g.le hh) rfl ?_;refine E5 [7,8] ?_;refine h_ 16 rfl i6 ?_;refine e_ rfl (aB (x.o.a4T.getD 0 0) v7) (fun h hh _=>u.g.le hh) rfl ?_;refine E5 [17,18,19,20,21] ?_
    rotate_left 1
    all_goals (refine u7 ?_);all_goals exact y4 ({x.r with code:=Px++R4 x.o.val++[32]++R4 (x.o.a4T.getD 0 0)},s,sl,[],(y.da,y.dc),F) ⟨l6.le_refl _,by unfold O0;rw[zk e7,zu M];exact⟨rfl,by rw[show uw x=Px++R4 x.o.val++[32]++R4 (x.o.a4T.getD 0 0) from zk w5],rfl⟩,qy,D,zw _⟩ rfl (fun w n=>by
     obtain⟨xb,xc,xk,xm,xo,xy,y3,z0,z2,u0,u1,u2,u8,xr,xz⟩:=x;obtain rfl:xz=L0:=hz;simp only[C0,z7];exact C1 (A:=[_,_,_,_]) (J:=[]) tk n)
   ·have v8:x.o.a4T=[]:=jy (qu h);refine u7 ?_;exact y4 (x.r,s,sl,[],(y.da,y.dc),F) ⟨l6.le_refl _,by unfold O0;rw[zk e7,zu M];exact⟨rfl,by rw[show uw x=x.r.code from zu v8],rfl⟩,qy,D,zw _⟩ rfl h0
  have M:¬x.c.kind=14:=zq q8.symm;refine u7 ?_;have h6:∀(t:l6) (v:Value) (A:List As),x.c.kind=8\/x.c.kind=9->NQ g x s sl d y t.heap v A->F.le t->∃(r:RR) (k:SE) (f:SL) (l:List RM) (o:AC),v=.tuple #[]/\(O0 x s r k (l.map Prod.fst)/\(∀m∈l,kC m t.heap)/\U2 k f t.heap/\l.length<=200000)/\A++R=C2 g {x with r:=r,z:=L0}::l5 f.ra k.a4R.a4Q f.rc::E8 x.b k f d (C0 y l o.1 o.2)::r7 o.1 (y.rl++l) o.2::(Y6 l++R):=fun t v A hk ⟨hv,ho⟩ v6=>by
   have k0:U2 s sl t.heap:=Mn.le v6.heap D;rcases ho with⟨hn,a,c,V⟩|⟨b,ra,rc,fa,fc,a,c,hb,V⟩
   ·refine⟨pV x.c.tag,s,sl,[],(a,c),hv,⟨?_,qy,k0,zw _⟩,by rw[V];rfl⟩;unfold O0;rw[zk e7,zk M,zu hk];exact .inl ⟨hn,rfl,rfl,rfl⟩
   ·refine⟨{x.r with code:=aD x.c.kind},{s with a4R:=P4 b,a4S:=2,ro:=decide (x.c.kind=9)},{sl with ra:=ra,rc:=rc},mj b fa fc,(a,c),hv,⟨?_,fun m S=>?_,⟨k0.a4T,k0.cmd⟩,by simp⟩,?_⟩
    ·unfold O0;rw[zk e7,zk M,zu hk];exact .inr ⟨b,hb,rfl,rfl,rfl⟩
    ·rcases kx.1 S with rfl|S
     ·exact .inr ⟨fa,fc,rfl⟩
     ·simp at S;rcases S with rfl|rfl|rfl|rfl<;>exact .inl ⟨⟨rfl,n9.nil _ _,n9.nil _ _,n9.nil _ _,qy⟩,rfl⟩
    ·rw[V,Iu];obtain⟨xb,xc,xk,xm,xo,xy,y3,z0,z2,u0,u1,u2,u8,xr,xz⟩:=x;obtain rfl:xz=L0:=hz;rfl
  refine C6 ?_;refine f_ ((p7 rfl rfl).eq (v':=.bool b8) (qn ((qz).trans h8.symm))) ?_;refine p9 ?_
  cases b8
  case true=>
   have e8:x.c.kind=8:=qr h8.symm;refine p9 ?_;refine A8 (sD g x s sl d y hx.ok hz hx.ml qb) u ?_;intro v A t p U;obtain⟨r,k,f,l,o,rfl,⟨h1,h2,h3,h4⟩,V⟩:=h6 t v A (.inl e8) U p;refine I6 (H':=C2 g {x with r:=r,z:=L0}::l5 f.ra k.a4R.a4Q f.rc::E8 x.b k f d (C0 y l o.1 o.2)::r7 o.1 (y.rl++l) o.2::(Y6 l++R)) (fun w n=>by rw[<-V];exact n) ?_;refine u7 ?_;exact y4 (r,k,f,l,o,t) ⟨p,h1,h2,h3,h4⟩ rfl i_
  have e8:¬x.c.kind=8:=zq h8.symm;refine C6 ?_;refine f_ ((p7 rfl rfl).eq (v':=.bool b9) (qn ((qz).trans h9.symm))) ?_;refine p9 ?_
  cases b9
  case true=>
   have e9:x.c.kind=9:=qr h9.symm;refine p9 ?_;refine A8 (sD g x s sl d y hx.ok hz hx.ml qb) u ?_;intro v A t p U;obtain⟨r,k,f,l,o,rfl,⟨h1,h2,h3,h4⟩,V⟩:=h6 t v A (.inr e9) U p;refine I6 (H':=C2 g {x with r:=r,z:=L0}::l5 f.ra k.a4R.a4Q f.rc::E8 x.b k f d (C0 y l o.1 o.2)::r7 o.1 (y.rl++l) o.2::(Y6 l++R)) (fun w n=>by rw[<-V];exact n) ?_;refine u7 ?_;exact y4 (r,k,f,l,o,t) ⟨p,h1,h2,h3,h4⟩ rfl i_
  have e9:¬x.c.kind=9:=zq h9.symm;have Y:¬(x.c.kind=8\/x.c.kind=9):=fun h=>h.elim e8 e9;refine C6 ?_;refine f_ ((p7 rfl rfl).eq (v':=.bool v1) (qn ((qz).trans q9.symm))) ?_;refine p9 ?_
  cases v1
  case true=>
   have X:x.c.kind=12:=qr q9.symm;have k8:x.c.a4Y.length<=2000000000:=hx.ok.c.pat;have v9:(R8 x.c.a4Y).length<=2000000000:=(by rw[MT];exact k8);have a2:x.m.a4N.length<=8:=(by have:=hx.ml.a4N;simpa using this);refine J_ 7 ?_;refine n7 (ι:=List RM×AC) (fun q=>q.1.length<=8/\∀m∈q.1,∃b∈x.m.s.a4N,m=(MW b.name,L0)) (fun _=>[(0,m6 g)]) (fun q=>C2 g x::l5 sl.ra s.a4R.a4Q sl.rc::E8 x.b s sl d (C0 y q.1 q.2.1 q.2.2)::r7 q.2.1 (y.rl++q.1) q.2.2::R) ?_ ?_
   ·refine o0 ?_;refine o9 (ι:=Nat×List RM×AC) (fun i=>i.1<=x.m.a4N.length/\i.2.1.length<=i.1/\∀m∈i.2.1,∃b∈x.m.s.a4N,m=(MW b.name,L0)) (fun i=>[(0,m6 g),(78,.slice x.m.ba x.m.a4N.length x.m.bc),(79,.int .i64 (x.m.a4N.length:Nat)),(80,.int .i64 (i.1:Nat))]) (fun i=>C2 g x::l5 sl.ra s.a4R.a4Q sl.rc::E8 x.b s sl d (C0 y i.2.1 i.2.2.1 i.2.2.2)::r7 i.2.2.1 (y.rl++i.2.1) i.2.2.2::R) (fun i=>x.m.a4N.length-i.1) (0,[],(y.da,y.dc)) ⟨zw _,z1 _,qy⟩ sub (fun w n=>by simp only[C0,z7];exact n) ?_;rintro⟨j,l,o⟩ ⟨hj,w7,T⟩;simp only at hj w7 T;refine R6 ?_ ?_<;>intro h
    ·have q1:j<x.m.a4N.length:=(by have:=qr h;omega);have y0:=A2 u.m.a4N o_ qp q1;have w0:x.m.a4N[j].x∈x.m.s.a4N:=Zq (zy q1);have q3:x.m.a4N[j].name.length<=1000000:=(by have:=(hx.ml.box _ w0).name;show(x.m.a4N[j].x).name.length<=_;omega);refine J_ 0 ?_;refine n7 (ι:=List RM×AC) (fun q=>q.1.length<=j+1/\∀m∈q.1,∃b∈x.m.s.a4N,m=(MW b.name,L0)) (fun _=>[(0,m6 g),(78,.slice x.m.ba x.m.a4N.length x.m.bc),(79,.int .i64 (x.m.a4N.length:Nat)),(80,.int .i64 (j:Nat))]) (fun q=>C2 g x::l5 sl.ra s.a4R.a4Q sl.rc::E8 x.b s sl d (C0 y q.1 q.2.1 q.2.2)::r7 q.2.1 (y.rl++q.1) q.2.2::R) ?_ ?_
     ·refine o0 ?_;refine C6 ?_;refine f_ (m8 rfl y0 rfl qb) ?_;refine r_ (w8 rfl (fun w n=>fm (C:=cS) (u.m.a4N.le n.keep) o_ qp q1 x8) (o_ _)) ?_;refine i7 rfl ?_;intro g3;refine p9 ?_;refine J_ 0 ?_;refine n7 (ι:=Bool) (fun _=>True) (fun q=>[(3,m6 g3),(107,.bool q),(0,m6 g),(78,.slice x.m.ba x.m.a4N.length x.m.bc),(79,.int .i64 (x.m.a4N.length:Nat)),(80,.int .i64 (j:Nat))]) (fun _=>Bd g3 x.m.a4N[j]::C2 g x::l5 sl.ra s.a4R.a4Q sl.rc::E8 x.b s sl d (C0 y l o.1 o.2)::r7 o.1 (y.rl++l) o.2::R) ?_ ?_
      ·obtain⟨q5,h5⟩:=o7 (decide (x.m.a4N[j].name=[73,78,66,79,88]))
       cases q5
       ·refine u7 ?_;refine D7 [4,6,10,17,20] [7] [C2 g x,Bd g3 x.m.a4N[j]] 24 ?_;refine wd [0,1,2,3,4,5,6] ?_;refine h_ 7 rfl i6 ?_;refine c_ (C:=[]) (nA x.c.a4Y x.m.a4N[j].name k8 q3) qw ?_;rintro v A ⟨⟨q,rfl⟩,rfl⟩;cases q;rotate_left 1;(refine F7 ?_;refine dB (.inr (aS I4)) ?_;refine wd [8,9,10] ?_;(first|refine s_ 11 ?_|refine t_ 11 ?_);refine wd [12,13,14,15,16,17,19,20] ?_;refine h_ 18 rfl i6 ?_;(first|refine T3 rfl rfl rfl rfl rfl rfl rfl ?_|refine X7 rfl rfl rfl rfl rfl rfl ?_);refine F7 ?_;refine dB (.inr (aS I4)) ?_;refine h_ 21 rfl i6 ?_;(first|refine T3 rfl rfl rfl rfl rfl rfl rfl ?_|refine X7 rfl rfl rfl rfl rfl rfl ?_);refine F7 ?_;refine dB (.inl i6) ?_;refine wd [22,23] ?_;exact g_ true trivial (fun w n=>C1 (A:=[_,_,_,_,_]) (J:=[]) tk n));refine gk [8,9,10] ?_;(first|refine s_ 11 ?_|refine t_ 11 ?_|refine E0 11 rfl ((C5 rfl rfl).eq (v':=.bool false) (qn h5.symm)) rfl rfl rfl rfl rfl rfl i6 ?_);refine wd [12,13,14,15,16,17,19,20] ?_;refine h_ 18 rfl i6 ?_;(first|refine u_ ?_|(refine v_ ?_;refine e_ rfl (I2 x.c.a4Y qb) qw rfl ?_));refine Y5 ?_;refine h_ 21 rfl i6 ?_;(first|refine u_ ?_|(refine v_ ?_;refine c_ (C:=[]) (nA (R8 x.c.a4Y) x.m.a4N[j].name v9 q3) qw ?_;rintro v A ⟨⟨q2,rfl⟩,rfl⟩));refine E5 [22,23] ?_;exact g_ _ trivial (fun w n=>C1 (A:=[_,_,_,_,_]) (J:=[]) tk n)
       ·refine u7 ?_;refine D7 [4,6,10,17,20] [7] [C2 g x,Bd g3 x.m.a4N[j]] 24 ?_;refine wd [0,1,2,3,4,5,6] ?_;refine h_ 7 rfl i6 ?_;refine c_ (C:=[]) (nA x.c.a4Y x.m.a4N[j].name k8 q3) qw ?_;rintro v A ⟨⟨q,rfl⟩,rfl⟩;cases q;rotate_left 1;(refine F7 ?_;refine dB (.inr (aS I4)) ?_;refine wd [8,9,10] ?_;(first|refine s_ 11 ?_|refine t_ 11 ?_);refine wd [12,13,14,15,16,17,19,20] ?_;refine h_ 18 rfl i6 ?_;(first|refine T3 rfl rfl rfl rfl rfl rfl rfl ?_|refine X7 rfl rfl rfl rfl rfl rfl ?_);refine F7 ?_;refine dB (.inr (aS I4)) ?_;refine h_ 21 rfl i6 ?_;(first|refine T3 rfl rfl rfl rfl rfl rfl rfl ?_|refine X7 rfl rfl rfl rfl rfl rfl ?_);refine F7 ?_;refine dB (.inl i6) ?_;refine wd [22,23] ?_;exact g_ true trivial (fun w n=>C1 (A:=[_,_,_,_,_]) (J:=[]) tk n));refine gk [8,9,10] ?_;(first|refine s_ 11 ?_|refine t_ 11 ?_|refine E0 11 rfl ((C5 rfl rfl).eq (v':=.bool true) (qn h5.symm)) rfl rfl rfl rfl rfl rfl i6 ?_);refine wd [12,13,14,15,16,17,19,20] ?_;refine h_ 18 rfl i6 ?_;(first|refine u_ ?_|(refine v_ ?_;refine e_ rfl (I2 x.c.a4Y qb) qw rfl ?_));refine Y5 ?_;refine h_ 21 rfl i6 ?_;(first|refine u_ ?_|(refine v_ ?_;refine c_ (C:=[]) (nA (R8 x.c.a4Y) x.m.a4N[j].name v9 q3) qw ?_;rintro v A ⟨⟨q2,rfl⟩,rfl⟩));refine E5 [22,23] ?_;exact g_ _ trivial (fun w n=>C1 (A:=[_,_,_,_,_]) (J:=[]) tk n)
      intro a6 _;refine O1 ?_ ?_<;>intro h
      ·refine u7 ?_;refine D7 [3,5] [7] [C2 g x,Bd g3 x.m.a4N[j]] 8 ?_;refine wd [0,1,2,3,4,5] ?_;refine w_ 6 rfl (y7 (ps:=[(0,.const (.int .i64 11)),(8,.tmp 113)]) (vs:=[(0,.int .i64 11),(8,B x.m.a4N[j].name)]) (cells:=(sV (MW x.m.a4N[j].name) L0).toArray) rfl i6) ?_;refine h_ 7 rfl i6 ?_;refine c_ (U9 x.b s sl d (C0 y l o.1 o.2) (MW x.m.a4N[j].name) L0 (by simp only[zz];omega)) qw ?_;rintro v A ⟨rfl,a9,c9,rfl⟩;refine E5 [] ?_;rw[show E_ (C0 y l o.1 o.2) (MW x.m.a4N[j].name,L0) a9 c9=C0 y (l++[(MW x.m.a4N[j].name,L0)]) a9 c9 from by simp[E_,C0]];exact g_ (l++[(MW x.m.a4N[j].name,L0)],a9,c9) ⟨by rw[zz];simp only[zx,z6];omega,fun m S=>by rcases zp.1 S with S|S;exact T m S;exact⟨_,w0,zg.1 S⟩⟩ (fun w n=>C1 (A:=[_,_,_,_]) (J:=[_]) tk n)
      ·refine u7 ?_;exact g_ (l,o) ⟨by simp only;omega,T⟩ (fun w n=>C1 (A:=[_,_,_,_]) (J:=[_]) tk n)
     rintro⟨l2,o2⟩ ⟨w1,w2⟩;simp only at w1 w2;refine z_ ?_;exact l8 (i:=(j,l,o)) (j+1,l2,o2) ⟨q1,w1,w2⟩ qg sub i_
    ·refine u7 ?_;exact g_ (l,o) ⟨by simp only;omega,T⟩ i_
   rintro⟨l,o⟩ ⟨w3,T⟩;simp only at w3 T;have q4:∀h:l9,∀m∈l,fB m.1 m.2 h/\m.2.fa=none:=fun h m S=>by
    obtain⟨b,hb,rfl⟩:=T m S;exact⟨⟨rfl,n9.nil _ _,n9.nil _ _,n9.nil _ _,qy⟩,rfl⟩
   refine u7 ?_;exact y4 (x.r,s,sl,l,o,F) ⟨l6.le_refl _,by
    unfold O0;rw[zk e7,zk M,zk Y,zu X];exact⟨rfl,rfl,by rw[zm];exact w3,fun q U=>by obtain⟨m,S,rfl⟩:=jw.1 U;obtain⟨b,hb,rfl⟩:=T m S;exact⟨b,hb,rfl⟩⟩,fun m S=>.inl (q4 _ m S),D,by simp only;omega⟩ rfl (fun w n=>by rw[q0,nB (q4 F.heap)];exact n)
  have X:¬x.c.kind=12:=zq q9.symm;refine C6 ?_;refine f_ ((p7 rfl rfl).eq (v':=.bool v2) (qn ((qz).trans x0.symm))) ?_;refine p9 ?_
  cases v2
  case true=>
   have Z:x.c.kind=13:=qr x0.symm;refine p9 ?_;refine A8 (Em g x s sl d y hx.ok hz hx.ml qb) ⟨u,D⟩ ?_;intro v A t p U;obtain⟨r,k,f,l,o,rfl,⟨h1,h2,h3,h4⟩,V⟩:=x9 _ t v A (fun r k l h=>by unfold O0;rw[zk e7,zk M,zk Y,zk X,zu Z];exact⟨h,by rcases h.2 with⟨_,h⟩|⟨_,_,_,h,_⟩<;>rw[h]<;>simp⟩) U p;refine I6 (H':=C2 g {x with r:=r,z:=L0}::l5 f.ra k.a4R.a4Q f.rc::E8 x.b k f d (C0 y l o.1 o.2)::r7 o.1 (y.rl++l) o.2::(Y6 l++R)) (fun w n=>by rw[<-V];exact n) ?_;refine u7 ?_;exact y4 (r,k,f,l,o,t) ⟨p,h1,h2,h3,h4⟩ rfl i_
  have Z:¬x.c.kind=13:=zq x0.symm;refine C6 ?_;refine f_ ((p7 rfl rfl).eq (v':=.bool v3) (qn ((qz).trans x1.symm))) ?_;refine p9 ?_
  cases v3
  case true=>
   have k9:x.c.kind=15:=qr x1.symm;refine p9 ?_;refine A8 (El g x s sl d y hx.ok qb qb) u ?_;rintro v A t p ⟨rfl,q7,m,z,a,c,hn,q4,w9,rfl⟩;refine u7 ?_;exact y4 (x.r,s,sl,[(BA q7 m,z)],(a,c),t) ⟨p,by unfold O0;rw[zk e7,zk M,zk Y,zk X,zk Z,zu k9];exact⟨rfl,rfl,q7,m,rfl⟩,(fun q U=>by rw[zg.1 U];exact .inl ⟨q4,w9⟩),Mn.le p.heap D,by simp⟩ rfl (fun w n=>by rw[q0];exact n)
  have k9:¬x.c.kind=15:=zq x1.symm;refine C6 ?_;refine f_ ((p7 rfl rfl).eq (v':=.bool v4) (qn ((qz).trans x2.symm))) ?_;refine p9 ?_
  cases v4
  case true=>
   have q6:x.c.kind=16:=qr x2.symm;refine p9 ?_;refine A8 (zC g x s sl d y hx.ok hz qb y2 (by have:=hx.ok.c.a4U;omega) qb) ⟨u,D⟩ ?_;intro v A t p U;obtain⟨r,k,f,l,o,rfl,⟨h1,h2,h3,h4⟩,V⟩:=x9 _ t v A (fun r k l h=>by unfold O0;rw[zk e7,zk M,zk Y,zk X,zk Z,zk k9,zu q6];exact⟨h,by have:=h.1;omega⟩) U p;refine I6 (H':=C2 g {x with r:=r,z:=L0}::l5 f.ra k.a4R.a4Q f.rc::E8 x.b k f d (C0 y l o.1 o.2)::r7 o.1 (y.rl++l) o.2::(Y6 l++R)) (fun w n=>by rw[<-V];exact n) ?_;refine u7 ?_;exact y4 (r,k,f,l,o,t) ⟨p,h1,h2,h3,h4⟩ rfl i_
  have q6:¬x.c.kind=16:=zq x2.symm;refine C6 ?_;refine f_ ((p7 rfl rfl).eq (v':=.bool v5) (qn ((qz).trans x3.symm))) ?_;refine p9 ?_
  cases v5
  case true=>
   have y1:x.c.kind=17:=qr x3.symm;refine p9 ?_;refine A8 (En g x s sl d y hx.ok hz qb y2 hx.uo.1 hx.mo qb) ⟨u,D⟩ ?_;intro v A t p U;obtain⟨r,k,f,l,o,rfl,⟨h1,h2,h3,h4⟩,V⟩:=x9 _ t v A (fun r k l h=>by unfold O0;rw[zk e7,zk M,zk Y,zk X,zk Z,zk k9,zk q6,zu y1];exact⟨h,by have:=h.1;omega⟩) U p;refine I6 (H':=C2 g {x with r:=r,z:=L0}::l5 f.ra k.a4R.a4Q f.rc::E8 x.b k f d (C0 y l o.1 o.2)::r7 o.1 (y.rl++l) o.2::(Y6 l++R)) (fun w n=>by rw[<-V];exact n) ?_;refine u7 ?_;exact y4 (r,k,f,l,o,t) ⟨p,h1,h2,h3,h4⟩ rfl i_
  have y1:¬x.c.kind=17:=zq x3.symm;refine u7 ?_;exact y4 (x.r,s,sl,[],(y.da,y.dc),F) ⟨l6.le_refl _,by unfold O0;rw[zk e7,zk M,zk Y,zk X,zk Z,zk k9,zk q6,zk y1];exact qm,qy,D,zw _⟩ rfl h0
 rintro r k f l o t ⟨p,h1,h2,h3,h4⟩;refine G9 (A:=C2 g {x with r:=r,z:=L0}::l5 f.ra k.a4R.a4Q f.rc::(O4 x.b k f d (C0 y l o.1 o.2)++Y6 l)) (v:=.tuple #[]) p ⟨rfl,r,k,f,l,o.1,o.2,h1,h2,h3,h4,rfl⟩ ?_;exact l_ rfl _ qh i_
abbrev gY:Bs:=[116,104,101,32,115,101,115,115,105,111,110,32,105,115,32,103,111,110,101]
abbrev dg:Bs:=[116,104,101,32,109,97,105,108,98,111,120,32,105,115,32,103,111,110,101]
abbrev ux(x:AN):Bool:=decide (x.c.kind=8)||decide (x.c.kind=9)
abbrev kD(x:AN):Bool:=decide (x.c.kind=16)||decide (x.c.kind=17)||decide (x.c.kind=15)
abbrev sE(x:AN)(s:SE):SE:=if(ux x||decide (x.c.kind=4))=true then{s with a4S:=1,a4R:=Af,ro:=false} else s
abbrev xB(x:AN):AN:={x with r:=fb x.c.tag,z:=L0}
def iK(x:AN)(s s':SE)(d':DD):Prop:=
 if x.o.code=16 then s'={s with a4S:=3}/\d'={G0 with a5b:=[L2 gY],close:=true}
 else if x.c.kind=3 then s'={s with a4S:=3}/\d'={G0 with a5b:=[L2 dS,fb x.c.tag],close:=true}
 else∃r s1 l1 s2 l2,(if x.o.code=0 then O0 (xB x) (sE x s) r s1 l1 else s1=sE x s/\l1=[]/\r=ow x.c.tag (mz x.c.kind x.o.code).1 (mz x.c.kind x.o.code).2)
  /\(if s1.a4S=2/\ux x=false/\x.bx.val≠0 then s2={s1 with a4R:=(X9 s1.a4R x.bx.x (!kD x) s1.cond).1}/\l2=(X9 s1.a4R x.bx.x (!kD x) s1.cond).2 else s2=s1/\l2=[])
  /\(if s1.a4S=2/\ux x=false/\x.bx.val=0 then s'={s2 with a4S:=3}/\d'={G0 with a5b:=l1++l2++[r,L2 dg],close:=true} else s'=s2/\d'={G0 with a5b:=l1++l2++[r]})
def a09(g:Nat)(x:AN)(s:SE)(h:l9)(v:Value)(A:List As):Prop:=v=.tuple #[]/\∃x' s' d' sl' y',x'.b=x.b/\iK x s s' d'/\d'.a5b=y'.rl.map Prod.fst/\(∀m∈y'.rl,kC m h)/\U2 s' sl' h/\y'.ql=cP/\y'.wa=none/\y'.wc=0/\A=C2 g x'::l5 sl'.ra s'.a4R.a4Q sl'.rc::(O4 x'.b s' sl' d' y'++Y6 y'.rl)
theorem Eo{x:AN}{s c:SE}{r:RR}{l:List RR}(h:O0 x s r c l)(f:Y4 x.m.s)(a:s.a4R.a4Q.length<=50000):c.a4R.a4Q.length<=50000:=by
 have d:∀e,pW x s e r c l->c.a4R.a4Q.length<=50000:=fun e h=>by
  obtain⟨_,⟨g,rfl,i⟩,_⟩:=h;have:=i.len;show g.a4Q.length<=_;omega
 unfold O0 at h;split at h
 ·rw[h.1];exact a
 split at h
 ·rw[h.1];exact a
 split at h
 ·rcases h with⟨_,rfl,_⟩|⟨b,j,rfl,_⟩
  ·exact a
  ·have:=(f.box b (bN j)).lts;show(P4 b).a4Q.length<=_;simp only[P4,zm];omega
 split at h
 ·rw[h.1];exact a
 split at h
 ·rw[h.1];exact a
 split at h
 ·rw[h.1];exact a
 split at h
 ·exact d _ h
 split at h
 ·exact d _ h
 ·rw[h.1];exact a
theorem Py{x:AN}{s a:SE}{r:RR}{l:List RR}(h:O0 x s r a l)(hp:x.r.values=[]/\x.r.nums=[]/\x.r.a5c=[]):r.values=[]/\r.nums=[]/\r.a5c=[]:=by
 have d:∀e,pW x s e r a l->r.values=[]/\r.nums=[]/\r.a5c=[]:=fun e h=>by
  obtain⟨_,_,h,_⟩:=h;rcases h with⟨c,rfl⟩|rfl
  ·exact hp
  ·exact qm
 unfold O0 at h;split at h
 ·rw[h.2.1];exact hp
 split at h
 ·rw[h.2.1];exact hp
 split at h
 ·rcases h with⟨_,_,rfl,_⟩|⟨b,f,_,rfl,_⟩
  ·exact qm
  ·exact hp
 split at h
 ·rw[h.2.1];exact hp
 split at h
 ·rcases h.2 with⟨rfl,_⟩|⟨rfl,_⟩
  ·exact qm
  ·exact hp
 split at h
 ·rw[h.2.1];exact hp
 split at h
 ·exact d _ h
 split at h
 ·exact d _ h
 ·rw[h.2.1];exact hp
theorem kE(b:BX):∀(k:Nat) (a:List (Nat×Nat)),(ah b k a).1.length<=a.length/\(ah b k a).2.length<=k
 |0,a=>⟨z1 _,z1 _⟩
 |k+1,a=>by
  unfold ah;split
  ·have:=kE b k a;exact⟨this.1,by omega⟩
  ·have:=kE b k (a.eraseIdx k);have c:(a.eraseIdx k).length<=a.length:=List.length_eraseIdx_le ..;exact⟨by simp only;omega,by simp only[zx];omega⟩
theorem Ep(v:VW)(b:BX)(e c:Bool):(X9 v b e c).2.length<=2*v.a4Q.length+1:=by
 unfold X9;split
 ·exact zw _
 ·have h:=kE b v.a4Q.length v.a4Q;simp only;generalize hq:(if e=true then ah b v.a4Q.length v.a4Q else(v.a4Q,[]))=q;have a:q.1.length<=v.a4Q.length/\q.2.length<=v.a4Q.length:=by
   rw[<-hq];split
   ·exact h
   ·exact⟨z1 _,zw _⟩
  have d:∀(f:((Nat×Nat)×Option LT)×Nat->Option RR),((q.1.map (X2 b)).zipIdx.filterMap f).length<=v.a4Q.length:=fun f=>by
   refine jg (List.length_filterMap_le _ _) ?_;simp;exact a.1
  rw[zz,zz];have g:=d (fun h=>h.1.2.map fun x=>ti x (h.2+1) c);split<;>simp only[z6,zx]<;>omega
theorem Pz(g:Nat)(x:AN)(s:SE)(sl:SL)(hx:MV x s)(hf:∀lm∈x.bx.ls,lm.t.a5c.length<=16):
  Cm prog 78 [m6 g] (fun h=>cA x h/\U2 s sl h) (C2 g x::l5 sl.ra s.a4R.a4Q sl.rc::O4 x.b s sl G0 M_) (a09 g x s):=by
 obtain⟨v4,q3⟩:=o7 (decide (x.o.code=16));obtain⟨c0,u2⟩:=o7 (decide (x.o.code=0));obtain⟨b3,h3⟩:=o7 (decide (x.c.kind=3));obtain⟨b8,h8⟩:=o7 (decide (x.c.kind=8));obtain⟨b9,h9⟩:=o7 (decide (x.c.kind=9));obtain⟨b4,h4⟩:=o7 (decide (x.c.kind=4));obtain⟨v5,v6⟩:=o7 (decide (x.c.kind=15));obtain⟨v7,v8⟩:=o7 (decide (x.c.kind=16));obtain⟨v9,w0⟩:=o7 (decide (x.c.kind=17));obtain⟨th,q4⟩:=o7 (decide (x.bx.val=0));refine x7 213 func78 rfl rfl rfl ?_;rintro F R ⟨S,h0⟩;refine J_ 6 ?_;refine n7 (ι:=Unit) (fun _=>x.o.code≠16/\x.c.kind≠3) (fun _=>[(0,m6 g),(2,.int .i64 (x.c.kind:Nat))]) (fun _=>C2 g x::l5 sl.ra s.a4R.a4Q sl.rc::E8 x.b s sl G0 M_::r7 none [] 0::R) ?_ ?_
 ·refine o0 ?_;refine aF ?_;refine f_ ((p7 rfl rfl).eq (v':=.bool v4) (qn q3.symm)) ?_;refine p9 ?_
  cases v4
  case true=>
   have k8:x.o.code=16:=qr q3.symm;refine O2 ?_;refine c_ (tx x.b s sl G0 M_ gY qp) qw ?_;rintro v A ⟨rfl,a,c,rfl⟩;refine oe ?_;refine G9 (A:=C2 g x::l5 sl.ra s.a4R.a4Q sl.rc::(O4 x.b {s with a4S:=3} sl {G0 with a5b:=[L2 gY],close:=true} (E_ M_ (L2 gY,L0) a c)++Y6 [(L2 gY,L0)])) (v:=.tuple #[]) (l6.le_refl _) ⟨rfl,x,{s with a4S:=3},{G0 with a5b:=[L2 gY],close:=true},sl,E_ M_ (L2 gY,L0) a c,rfl,by unfold iK;rw[zu k8];exact qh,rfl,(fun m j=>by rw[zg.1 (show m∈[(L2 gY,L0)] from j)];exact .inl ⟨⟨rfl,n9.nil _ _,n9.nil _ _,n9.nil _ _,qy⟩,rfl⟩),⟨h0.a4T,h0.cmd⟩,rfl,rfl,rfl,rfl⟩ ?_;exact l_ rfl _ qh (fun w C=>C1 (A:=[_,_,E8 x.b {s with a4S:=3} sl {G0 with close:=true} (E_ M_ (L2 gY,L0) a c),r7 a [(L2 gY,L0)] c]) (J:=[]) tk C)
  have k8:¬x.o.code=16:=zq q3.symm;refine p9 ?_;refine f_ ((p7 rfl rfl).eq (v':=.bool b3) (qn ((qz).trans h3.symm))) ?_;refine p9 ?_
  cases b3
  case true=>
   have e3:x.c.kind=3:=qr h3.symm;refine u7 ?_;refine D7 [3,8] [9] [C2 g x] 10 ?_;refine wd [0,1,2,3,4,5,6,7,8] ?_;refine h_ 9 rfl i6 ?_;refine c_ (oB x.b s sl G0 M_ x.c.tag qp) qw ?_;rintro v A ⟨rfl,a,c,rfl⟩;refine E5 [] ?_;refine A3 ?_;refine G9 (A:=C2 g x::l5 sl.ra s.a4R.a4Q sl.rc::(O4 x.b {s with a4S:=3} sl {G0 with a5b:=[L2 dS,fb x.c.tag],close:=true} {M_ with da:=a,dc:=c,rl:=[(L2 dS,L0),(fb x.c.tag,L0)]}++Y6 [(L2 dS,L0),(fb x.c.tag,L0)])) (v:=.tuple #[]) (l6.le_refl _) ⟨rfl,x,{s with a4S:=3},{G0 with a5b:=[L2 dS,fb x.c.tag],close:=true},sl,{M_ with da:=a,dc:=c,rl:=[(L2 dS,L0),(fb x.c.tag,L0)]},rfl,by unfold iK;rw[zk k8,zu e3];exact qh,rfl,(fun m j=>by simp at j;rcases j with rfl|rfl<;>exact .inl ⟨⟨rfl,n9.nil _ _,n9.nil _ _,n9.nil _ _,qy⟩,rfl⟩),⟨h0.a4T,h0.cmd⟩,rfl,rfl,rfl,rfl⟩ ?_;exact l_ rfl _ qh (fun w C=>C1 (A:=[_,_,E8 x.b {s with a4S:=3} sl {G0 with close:=true} {M_ with da:=a,dc:=c,rl:=[(L2 dS,L0),(fb x.c.tag,L0)]},r7 a [(L2 dS,L0),(fb x.c.tag,L0)] c]) (J:=[]) tk C)
  have e3:¬x.c.kind=3:=zq h3.symm;refine u7 ?_;exact g_ () ⟨k8,e3⟩ i_
 rintro _ ⟨k8,e3⟩;obtain⟨q,hq⟩:=o7 ((b8||b9));have D:ux x=q:=by rw[hq,h8,h9]
 refine u7 ?_;refine J_ 0 ?_;refine y6 [(0,m6 g),(2,.int .i64 (x.c.kind:Nat)),(3,.bool q)] (C2 g x::l5 sl.ra s.a4R.a4Q sl.rc::E8 x.b s sl G0 M_::r7 none [] 0::R) ?_ ?_
 ·cases b8
  all_goals (
   refine p9 ?_;refine f_ ((p7 rfl rfl).eq (qn ((qz).trans h8.symm))) ?_;refine z_ ?_;(first|refine u_ ?_|(refine v_ ?_;refine f_ ((p7 rfl rfl).eq (v':=.bool b9) (qn ((qz).trans h9.symm))) ?_));refine z_ ?_)
  all_goals (subst hq;exact u6 sub i_)
 obtain⟨q2,k9⟩:=o7 ((q||b4));have T:sE x s=if q2=true then{s with a4S:=1,a4R:=Af,ro:=false} else s:=by unfold sE;rw[D,k9,h4]
 refine u7 ?_;refine J_ 0 ?_;refine y6 [(0,m6 g),(2,.int .i64 (x.c.kind:Nat)),(3,.bool q),(48,.bool q2)] (C2 g x::l5 sl.ra s.a4R.a4Q sl.rc::E8 x.b s sl G0 M_::r7 none [] 0::R) ?_ ?_
 ·clear D T hq
  cases q
  all_goals (
   refine E6 ?_;(first|refine u_ ?_|(refine v_ ?_;refine f_ ((p7 rfl rfl).eq (v':=.bool b4) (qn ((qz).trans h4.symm))) ?_));refine p9 ?_)
  all_goals (subst k9;exact u6 sub i_)
 refine u7 ?_;refine n7 (ι:=SE×SL) (fun p=>p.1=sE x s/\U2 p.1 p.2 F.heap) (fun _=>[(0,m6 g),(2,.int .i64 (x.c.kind:Nat)),(3,.bool q)]) (fun p=>C2 g x::l5 p.2.ra p.1.a4R.a4Q p.2.rc::E8 x.b p.1 p.2 G0 M_::r7 none [] 0::R) ?_ ?_
 ·refine o8 rfl ?_ ?_<;>intro h
  ·refine u7 ?_;refine D7 [3,7,11] [16,20,24] [C2 g x] 25 ?_;refine wd [0,1,2,3,4,5,6,7,8,9,10,11,12,13,14,15,16,17,18,19,20,21,22,23,24] ?_;exact g_ ({s with a4S:=1,a4R:=Af,ro:=false},{sl with ra:=none,rc:=0}) ⟨by rw[T,zu h],⟨h0.a4T,h0.cmd⟩⟩ (fun w C=>C1 (A:=[_,l5 none [] 0,E8 x.b {s with a4S:=1,a4R:=Af,ro:=false} {sl with ra:=none,rc:=0} G0 M_,_]) (J:=[l5 sl.ra s.a4R.a4Q sl.rc]) tk (C.addNil 72 2))
  ·refine u7 ?_;exact g_ (s,sl) ⟨by rw[T,h];rfl,h0⟩ i_
 rintro⟨s0,q5⟩ ⟨u8,q6⟩;simp only at u8 q6;have v0:s0.a4R.a4Q.length<=50000:=by rw[u8,T];split;exact zw _;exact hx.a4Q
 obtain⟨O,n⟩:=o7 (xB x);have y2:MV O s0:=by rw[n];exact⟨⟨hx.ok.ls,hx.ok.fl,hx.ok.bl,hx.ok.body,hx.ok.c⟩,hx.ml,v0,hx.us,hx.uo,hx.mo,hx.val⟩
 have w1:cA O F.heap:=by rw[n];exact⟨S.g,S.c,S.m,S.o,S.bx,S.us,S.bl⟩
 have a1:O.z=L0:=by rw[n]
 have a2:O.b=x.b:=by rw[n]
 have a6:O.c=x.c:=by rw[n]
 have z0:O.o=x.o:=by rw[n]
 refine wk 10 ?_;refine D6 (H':=C2 g O::l5 q5.ra s0.a4R.a4Q q5.rc::E8 O.b s0 q5 G0 M_::r7 none [] 0::R) (fun w C=>by rw[n];exact C1 (A:=[_,_,_,_]) (J:=[]) tk C) ?_;refine aF ?_;refine f_ ((p7 rfl rfl).eq (v':=.bool c0) (qn (by rw[z0];exact u2.symm))) ?_;refine u7 ?_;refine df (fun(r:RR) (s1:SE) (d:SL) (l:List RM) (o:AC) (F1:l6)=>F.le F1/\(if x.o.code=0 then O0 O s0 r s1 (l.map Prod.fst) else s1=s0/\l.map Prod.fst=[]/\r=ow x.c.tag (mz x.c.kind x.o.code).1 (mz x.c.kind x.o.code).2)/\(∀m∈l,kC m F1.heap)/\U2 s1 d F1.heap/\l.length<=200000) (fun _ _ _ _ _ _=>[(0,m6 g),(2,.int .i64 (x.c.kind:Nat)),(3,.bool q)]) (fun _ _ _ _ _ F1=>F1) (fun r s1 d l o _=>C2 g {O with r:=r,z:=L0}::l5 d.ra s1.a4R.a4Q d.rc::E8 O.b s1 d G0 (C0 M_ l o.1 o.2)::r7 o.1 l o.2::(Y6 l++R)) ?_ ?_
 ·refine o8 rfl ?_ ?_<;>intro h
  ·have e0:x.o.code=0:=qr (u2.symm.trans h);refine p9 ?_;refine A8 (MX g O s0 q5 G0 M_ y2 a1 qp) ⟨w1,q6⟩ ?_;rintro v A F1 q7 ⟨rfl,r,s1,d,l,a,c,h1,h2,h3,h4,rfl⟩;refine u7 ?_;exact y4 (r,s1,d,l,(a,c),F1) ⟨q7,by rw[zu e0];exact h1,h2,h3,h4⟩ rfl i_
  ·have e0:¬x.o.code=0:=zq (u2.symm.trans h);refine wk 7 ?_;refine e_ rfl (zl x.c.kind O.o.code) qw rfl ?_;refine z_ ?_;refine c_ (ed g O (mz x.c.kind O.o.code).1 (mz x.c.kind O.o.code).2) qw ?_;rintro v A ⟨rfl,rfl⟩;refine u7 ?_;exact y4 (ow O.c.tag (mz x.c.kind O.o.code).1 (mz x.c.kind O.o.code).2,s0,q5,[],(none,0),F) ⟨l6.le_refl _,by rw[zk e0,a6,z0];exact qm,qy,q6,zw _⟩ rfl (fun w C=>C1 (A:=[_,_,_,_]) (J:=[]) tk C)
 rintro r s1 d l o F1 ⟨q7,M,a7,q8,b7⟩;have b2:s1.a4R.a4Q.length<=50000:=by
  by_cases e0:x.o.code=0
  ·rw[zu e0] at M;exact Eo M y2.ml v0
  ·rw[zk e0] at M;rw[M.1];exact v0
 have w2:cA x F1.heap:=Mn.le q7.heap S;obtain⟨i,q9⟩:∃i:AN,i={O with r:=r,z:=L0}:=⟨_,rfl⟩;have U:i.bx=x.bx:=by rw[q9,n]
 have a8:i.r=r:=by rw[q9]
 have b0:i.z=L0:=by rw[q9]
 have v1:i.b=x.b:=by rw[q9,n]
 obtain⟨st,q0⟩:=o7 (decide (s1.a4S=2));rw[<-q9];refine u7 ?_;refine D6 (H':=C2 g i::l5 d.ra s1.a4R.a4Q d.rc::E8 i.b s1 d G0 (C0 M_ l o.1 o.2)::r7 o.1 l o.2::(Y6 l++R)) (fun w C=>by rw[v1,<-a2];exact C) ?_;refine aF ?_;refine f_ ((M2 rfl rfl).eq (v':=.bool (!th)) (jk (fun b=>Value.bool (!b)) ((zc.2 (by rw[U];omega)).trans q4.symm))) ?_;refine p9 ?_;refine J_ 0 ?_;refine y6 [(0,m6 g),(2,.int .i64 (x.c.kind:Nat)),(3,.bool q),(4,.bool (!th)),(120,.bool (st&&!q&&!th))] (C2 g i::l5 d.ra s1.a4R.a4Q d.rc::E8 i.b s1 d G0 (C0 M_ l o.1 o.2)::r7 o.1 l o.2::(Y6 l++R)) ?_ ?_
 ·clear D T hq k9
  cases st<;>cases q
  all_goals (
   refine wk 8 ?_;refine f_ ((p7 rfl rfl).eq (qn ((qz).trans q0.symm))) ?_;refine wk 7 ?_)
  all_goals exact u6 sub i_
 refine u7 ?_;refine df (fun(k:SE) (f:SL) (y:List RM) (t:AC) (_:Unit) (F2:l6)=>F1.le F2/\(if s1.a4S=2/\ux x=false/\x.bx.val≠0 then k={s1 with a4R:=(X9 s1.a4R x.bx.x (!kD x) s1.cond).1}/\y.map Prod.fst=(X9 s1.a4R x.bx.x (!kD x) s1.cond).2 else k=s1/\y.map Prod.fst=[])/\(∀m∈y,fB m.1 m.2 F2.heap/\m.2.fa=none)/\U2 k f F2.heap/\y.length<=200000) (fun _ _ _ _ _ _=>[(0,m6 g),(2,.int .i64 (x.c.kind:Nat)),(3,.bool q),(4,.bool (!th))]) (fun _ _ _ _ _ F2=>F2) (fun k f y t _ _=>C2 g i::l5 f.ra k.a4R.a4Q f.rc::E8 i.b k f G0 (C0 M_ (l++y) t.1 t.2)::r7 t.1 (l++y) t.2::(Y6 l++R)) ?_ ?_
 ·refine o8 rfl ?_ ?_<;>intro h
  ·have h':st=true/\q=false/\th=false:=by
    clear D T hq k9
    cases st<;>cases q<;>cases th<;>simp_all
   have x0:s1.a4S=2/\ux x=false/\x.bx.val≠0:=⟨qr (q0.symm.trans h'.1),D.trans h'.2.1,zq (q4.symm.trans h'.2.2)⟩;obtain⟨rd,z2⟩:=o7 ((v7||v9||v5));have x3:kD x=rd:=(by rw[z2,v8,w0,v6]);refine J_ 0 ?_;refine y6 [(0,m6 g),(2,.int .i64 (x.c.kind:Nat)),(3,.bool q),(4,.bool (!th)),(5,.bool rd)] (C2 g i::l5 d.ra s1.a4R.a4Q d.rc::E8 i.b s1 d G0 (C0 M_ l o.1 o.2)::r7 o.1 l o.2::(Y6 l++R)) ?_ ?_
   ·clear x3
    cases v7<;>cases v9
    all_goals (
     refine p9 ?_;refine f_ ((p7 rfl rfl).eq (qn ((qz).trans v8.symm))) ?_;refine z_ ?_;(first|refine u_ ?_|(refine v_ ?_;refine f_ ((p7 rfl rfl).eq (qn ((qz).trans w0.symm))) ?_));refine E6 ?_;(first|refine u_ ?_|(refine v_ ?_;refine f_ ((p7 rfl rfl).eq (v':=.bool v5) (qn ((qz).trans v6.symm))) ?_));refine z_ ?_)
    all_goals (subst z2;exact u6 sub i_)
   refine u7 ?_;refine B8 (Z:=[l5 d.ra s1.a4R.a4Q d.rc]) tk fun F2 V ⟨bs,hb⟩=>?_;have u0:n9 F2.heap d.ra (V2 s1.a4R.a4Q):=A1.rd hb ud;clear hb;have w3:fH i.bx F2.heap:=(by rw[U];exact Mn.le V.heap w2.bx);have X:=LW s1.a4R d.ra d.rc i.bx (!rd) s1.cond qb (by rw[U];have:=hx.ok.ls;omega) (by rw[U];exact hf);obtain⟨e,he⟩:=o7 (X9 s1.a4R i.bx.x (!rd) s1.cond);have v2:=Ep s1.a4R i.bx.x (!rd) s1.cond;rw[<-he] at X v2;refine J_ 0 ?_;refine df (fun(p:AC) (Q:List RM) (t:AC) (g6:Nat) (_:Unit) (F3:l6)=>F2.le F3/\Q.map Prod.fst=e.2/\∀m∈Q,fB m.1 m.2 F3.heap/\m.2.fa=none) (fun _ Q t g6 _ _=>[(0,m6 g),(2,.int .i64 (x.c.kind:Nat)),(3,.bool q),(4,.bool (!th)),(6,m6 g6),(7,.slice t.1 Q.length t.2)]) (fun _ _ _ _ _ F3=>F3) (fun p Q t g6 _ _=>wg g6 e.1 p::l5 p.1 e.1.a4Q p.2::r7 t.1 Q t.2::C2 g i::E8 i.b s1 d G0 (C0 M_ l o.1 o.2)::r7 o.1 l o.2::(Y6 l++R)) ?_ ?_
   ·refine u7 ?_;refine D7 [3,7,11,17,21] [22,26,27] [C2 g i,E8 i.b s1 d G0 (C0 M_ l o.1 o.2)] 29 ?_;refine wd [0,1,2,3,4,5,6,7,8,9,10,11,12,13,14,15,16,17,18,19,20,21] ?_;refine bg 22 26 rfl rfl i6 ?_ ?_;refine R7 X ⟨u0,w3⟩ ?_;rintro v A Z Fz hz ⟨p,Q,t,rfl,rfl,x9,Y⟩;refine E5 [23,24,25] ?_;refine h_ 26 rfl i6 ?_;refine i7 rfl ?_;intro g6;refine E5 [27,28] ?_
    rotate_left 1
    refine i7 rfl ?_;intro g6;refine Y5 ?_;refine h_ 22 rfl i6 ?_;refine R7 X ⟨u0,w3⟩ ?_;rintro v A Z Fz hz ⟨p,Q,t,rfl,rfl,x9,Y⟩;refine E5 [23,24,25,27,28] ?_
    rotate_left 1
    all_goals (refine u7 ?_);all_goals exact ei (Rr:=wg g6 e.1 p::l5 p.1 e.1.a4Q p.2::r7 t.1 Q t.2::C2 g i::E8 i.b s1 d G0 (C0 M_ l o.1 o.2)::r7 o.1 l o.2::(Y6 l++R)) Fz hz (fun w C=>C1 (A:=[_,_,_,_,_,_]) (J:=[]) tk C) fun F3 y0 b1=>y4 (p,Q,t,g6,(),F3) ⟨y0,x9,fun m j=>⟨(Y m j).1.le b1,(Y m j).2⟩⟩ rfl i_
   rintro p Q t g6 _ F3 ⟨y0,x9,Y⟩;have b5:Q.length<=2*s1.a4R.a4Q.length+1:=(by rw[<-x9,zm] at v2;exact v2);refine u7 ?_;refine D7 [3,4] [8] [C2 g i,wg g6 e.1 p] 9 ?_;refine wd [0,1,2,3,4,5,6,7,8] ?_;refine u7 ?_;refine D7 [3,7,11] [13,17] [C2 g i,E8 i.b {s1 with a4R:=e.1} {d with ra:=p.1,rc:=p.2} G0 (C0 M_ l o.1 o.2)] 18 ?_;refine wd [0,1,2,3,4,5,6,7,8,9,10,11,12] ?_;refine h_ 13 rfl i6 ?_;refine r8 Ah (l:=l) (m:=Q) cR jB (by show(l.length+Q.length)*160<=_;omega) ?_;intro a c _;refine gk [14,15,16,17] ?_;exact y4 ({s1 with a4R:=e.1},{d with ra:=p.1,rc:=p.2},Q,(a,c),(),F3) ⟨V.trans y0,by rw[zu x0,x3,<-U,<-he];exact⟨rfl,x9⟩,Y,⟨(Mn.le (V.trans y0).heap q8).a4T,(Mn.le (V.trans y0).heap q8).cmd⟩,by simp only;omega⟩ rfl (fun w C=>C1 (A:=[_,_,_,_]) (J:=[_,_]) tk C)
  ·refine u7 ?_;have h5:¬(s1.a4S=2/\ux x=false/\x.bx.val≠0):=fun⟨e1,e2,e3⟩=>by
    rw[show st=true from q0.trans (jq e1),show q=false from D.symm.trans e2,show th=false from q4.trans (Qq e3)] at h
    cases h
   exact y4 (s1,d,[],o,(),F1) ⟨l6.le_refl _,by rw[zk h5];exact qh,qy,q8,zw _⟩ rfl (fun w C=>by
    rw[z7];exact C)
 rintro k f y t _ F2 ⟨V,X,Y,y1,b6⟩;have w4:k.a4S=s1.a4S:=by
  split at X
  ·rw[X.1]
  ·rw[X.1]
 have h7:r.values=[]/\r.nums=[]/\r.a5c=[]:=by
  by_cases e0:x.o.code=0
  ·rw[zu e0] at M;exact Py M (by rw[n];exact qm)
  ·rw[zk e0] at M;rw[M.2.2];exact qm
 have w5:∀h,fB r L0 h:=fun h=>⟨h7.1,by rw[h7.2.1];exact n9.nil _ _,by rw[h7.2.2];exact n9.nil _ _,n9.nil _ _,qy⟩;have w7:Y6 (l++y)=Y6 l:=by rw[nC,nB Y,z7]
 have u1:Y6 (l++y++[(r,L0)])=Y6 l:=by rw[nC,w7];unfold Y6;simp[h7.2.2]
 have w9:Y6 (l++y++[(r,L0)]++[(L2 dg,L0)])=Y6 l:=by rw[nC,u1];unfold Y6;simp
 have a0:∀m∈l++y++[(r,L0)],kC m F2.heap:=fun m j=>by
  rcases zp.1 j with j|j
  ·rcases zp.1 j with j|j
   ·exact(a7 m j).le V.heap
   ·exact .inl (Y m j)
  ·rw[zg.1 j];exact .inl ⟨w5 _,rfl⟩
 have k0:∀(s':SE) (d':DD),(if s1.a4S=2/\ux x=false/\x.bx.val=0 then s'={k with a4S:=3}/\d'={G0 with a5b:=l.map Prod.fst++y.map Prod.fst++[r,L2 dg],close:=true} else s'=k/\d'={G0 with a5b:=l.map Prod.fst++y.map Prod.fst++[r]})->iK x s s' d':=fun s' d' h=>by
  unfold iK;rw[zk k8,zk e3];refine⟨r,s1,l.map Prod.fst,k,y.map Prod.fst,?_,X,h⟩;rw[n,u8] at M;exact M
 refine u7 ?_;refine D7 [3,7] [8] [C2 g i] 9 ?_;refine wd [0,1,2,3,4,5,6,7] ?_;refine h_ 8 rfl i6 ?_;refine c_ (U9 i.b k f G0 (C0 M_ (l++y) t.1 t.2) i.r i.z (by simp only[zz,z6];omega)) qw ?_;rintro v A ⟨rfl,a3,c3,rfl⟩;refine E5 [] ?_;rw[a8,b0];obtain⟨u,v3⟩:=o7 (E_ (C0 M_ (l++y) t.1 t.2) (r,L0) a3 c3);rw[<-v3];have h6:u.rl=l++y++[(r,L0)]:=by rw[v3];rfl
 have q1:u.ql=cP/\u.wa=none/\u.wc=0:=by rw[v3];exact qm
 refine J_ 0 ?_;refine y6 [(0,m6 g),(207,.bool (st&&!q&&th))] (C2 g i::l5 f.ra k.a4R.a4Q f.rc::E8 i.b k f G0 u::r7 u.da u.rl u.dc::(Y6 l++R)) ?_ ?_
 ·clear D T hq k9 k0;refine D6 (H':=C2 g i::l5 f.ra k.a4R.a4Q f.rc::E8 i.b k f G0 u::r7 u.da u.rl u.dc::(Y6 l++R)) (fun w C=>C1 (A:=[_,_,_,_]) (J:=[]) tk C) ?_
  cases st<;>cases q<;>cases th
  all_goals (
   refine wk 8 ?_;refine f_ ((p7 rfl rfl).eq (qn ((zc.2 (by rw[w4];omega)).trans q0.symm))) ?_;refine wk 8 ?_)
  all_goals exact u6 sub i_
 refine O1 ?_ ?_<;>intro h
 ·have x0:s1.a4S=2/\ux x=false/\x.bx.val=0:=by
   have h':st=true/\q=false/\th=true:=by
    clear D T hq k9 k0
    cases st<;>cases q<;>cases th<;>simp_all
   exact⟨qr (q0.symm.trans h'.1),D.trans h'.2.1,qr (q4.symm.trans h'.2.2)⟩
  refine O2 ?_;refine c_ (tx i.b k f G0 u dg (by rw[h6];simp only[zz,zx,z6];omega)) qw ?_;rintro v A ⟨rfl,a4,c4,rfl⟩;refine u7 ?_;refine G9 (A:=C2 g i::l5 f.ra k.a4R.a4Q f.rc::(O4 i.b {k with a4S:=3} f {G0 with a5b:=l.map Prod.fst++y.map Prod.fst++[r,L2 dg],close:=true} (E_ u (L2 dg,L0) a4 c4)++Y6 l)) (v:=.tuple #[]) (q7.trans V) ⟨rfl,i,{k with a4S:=3},{G0 with a5b:=l.map Prod.fst++y.map Prod.fst++[r,L2 dg],close:=true},f,E_ u (L2 dg,L0) a4 c4,v1,k0 _ _ (by rw[zu x0];exact qh),by simp[h6],fun m j=>?_,⟨y1.a4T,y1.cmd⟩,q1.1,q1.2.1,q1.2.2,?_⟩ ?_
  ·rw[show(E_ u (L2 dg,L0) a4 c4).rl=u.rl++[(L2 dg,L0)] from rfl,h6] at j;rcases zp.1 j with j|j
   ·exact a0 m j
   ·rw[zg.1 j];exact .inl ⟨⟨rfl,n9.nil _ _,n9.nil _ _,n9.nil _ _,qy⟩,rfl⟩
  ·rw[show(E_ u (L2 dg,L0) a4 c4).rl=u.rl++[(L2 dg,L0)] from rfl,h6,w9]
  ·exact l_ rfl _ qh (fun w C=>C1 (A:=[_,_,E8 i.b {k with a4S:=3} f {G0 with close:=true} (E_ u (L2 dg,L0) a4 c4),r7 a4 (u.rl++[(L2 dg,L0)]) c4]) (J:=[]) tk C)
 ·refine u7 ?_;have h5:¬(s1.a4S=2/\ux x=false/\x.bx.val=0):=fun⟨e1,e2,e3⟩=>by
   rw[show st=true from q0.trans (jq e1),show q=false from D.symm.trans e2,show th=true from q4.trans (jq e3)] at h
   cases h
  refine G9 (A:=C2 g i::l5 f.ra k.a4R.a4Q f.rc::(O4 i.b k f {G0 with a5b:=l.map Prod.fst++y.map Prod.fst++[r]} u++Y6 l)) (v:=.tuple #[]) (q7.trans V) ⟨rfl,i,k,{G0 with a5b:=l.map Prod.fst++y.map Prod.fst++[r]},f,u,v1,k0 _ _ (by rw[zk h5];exact qh),by simp[h6],fun m j=>a0 m (by rw[<-h6];exact j),y1,q1.1,q1.2.1,q1.2.2,by rw[h6,u1]⟩ ?_;exact l_ rfl _ qh i_
theorem Iv(i:IT):Pu prog 157 [.agg (cO i).toArray] (fun _=>True) (.bool (decide (10<=i.kind))):=by
 refine b_ 6 func157 rfl rfl rfl ?_;intro F _;refine C6 ?_;refine m9 rfl rfl ?_;intro b;refine E6 ?_;refine f_ ((I3 rfl rfl).eq (v':=.bool (decide (10<=i.kind))) (qn qz)) ?_;refine C8 ?_;exact d_ rfl rfl [] qh (fun w a=>a.dropAll)
abbrev Iw(gO:Nat)(out:List Bs)(o:AC):As:=.blk gO (.cells #[.slice o.1 out.length o.2] 34)
theorem BH(g z e u:Nat)(x:AN)(f:FuncId)[HF prog f](ps:List Value)(hx:rf x)(k:∀d:LM,Ct prog f (ps++[NE d]) (fun _=>True) [C2 g x] (fun v A=>(∃q:Bool,v=.bool q)/\A=[C2 g x]))(a:List Bs)(o:AC)(S:a.length<=200000):
  Ct prog 153 [.int .u64 (u:Nat),.func (.func f) ps.toArray #[],m6 z,m6 e] (fun h=>cA x h/\h z=some (.cells #[m6 g] 147 (0,0))) [C2 g x,Iw e a o,A4 o.1 a o.2] (fun v A=>v=.tuple #[]/\∃(b:List Bs) (o':AC),b.length<=a.length+1/\A=[C2 g x,Iw e b o',A4 o'.1 b o'.2]):=by
 have C:=hx.ls;have D:=hx.bl;refine b_ 38 func153 rfl rfl rfl ?_;rintro F ⟨i,j⟩;refine C6 ?_;refine r_ (i8 rfl (fun w c=>H9 c j rfl)) ?_;refine p9 ?_;refine c_ (eR g x u qb) (fun h p _=>i.bx.ls.le p) ?_;rintro v A ⟨d,M,rfl,O,rfl⟩;refine E6 ?_;refine i7 rfl ?_;intro r;refine PY ?_;refine r_ (i8 rfl (fun w c=>H9 c j rfl)) ?_;refine z_ ?_;refine c_ (pU g x d.t.hash qb) (fun h p _=>i.bl.le p) ?_;rintro v A ⟨t,s,rfl,Q,rfl⟩;refine aF ?_;refine n7 (ι:=Bool) (fun _=>True) (fun q=>[(3,m6 e),(6,m6 r),(32,.bool q)]) (fun _=>[.blk r (.cells (S9 d).toArray 156),C2 g x,Iw e a o,A4 o.1 a o.2]) ?_ ?_
 ·cases M<;>cases s
  all_goals (
   refine wk 8 ?_;(first|refine u_ ?_|(refine v_ ?_;refine y9 (ps:=ps) _ rfl rfl x8 (k d) i_ qw rfl ?_;rintro v A ⟨⟨q,rfl⟩,rfl⟩));refine p9 ?_)
  all_goals exact g_ _ trivial (fun w c=>C1 (A:=[.blk r _,C2 g x,Iw e a o,A4 o.1 a o.2]) (J:=[]) tk c)
 intro q _;refine O1 ?_ ?_<;>intro h
 ·refine E6 ?_;refine tX (n:=d.t.hash) ?_;intro a36;refine tY (l:=a) (m:=[d.t.hash]) (by show(a.length+1)*16<=_;omega) ?_;intro a37 y _;refine p9 ?_;exact l_ rfl _ ⟨rfl,a++[d.t.hash],(a37,y),by simp,rfl⟩ (fun w c=>C1 (A:=[_,_,_]) (J:=[_,_]) tk c)
 ·refine u7 ?_;exact l_ rfl _ ⟨rfl,a,o,by omega,rfl⟩ (fun w c=>C1 (A:=[_,_,_]) (J:=[_]) tk c)
theorem Ix(l:List Bs)(a:Option Addr)(c:Nat)(hl:l.length<4611686018427387904):Ct prog 161 [.slice a l.length c] (fun _=>True) [A4 a l c] (fun v A=>v=.tuple #[]/\∃m:List Bs,m.Perm l/\A=[A4 a m c]):=by
 intro w bs t h6 h5;obtain⟨b1,b2,rfl,u,rfl⟩:=t;rcases u with⟨X,hx,rfl⟩|⟨g,rfl,⟨o,n,h7,pre,b,p,X,hg,Y,h8,z,h9,q⟩⟩
 ·injection X with f e2 e3;subst f e3;have Z:l=[]:=jy e2;subst Z;refine(Tryz.slices_Sort_string_none none 0 w).mono ?_;rintro e w' ⟨rfl,rfl⟩;refine⟨_,[A4 none [] 0],rfl,⟨rfl,[],.nil,rfl⟩,?_⟩;exact(Hp.start (C:=[]) (bs:=[]) rfl Zj).addNil _ _
 ·injection X with f e2 e3;subst f e2 e3;have i:w.heap[g]? =some (.cells (pre++fV l++b).toArray 9 p):=hg;have D:g<w.heap.size:=(kp.1 i).1;have k0:=L7 l;have hH:Sort.Holds (fun(x:Bs)=>B x) w g o l.toArray:=fun j hj=>by
   have h0:j<l.length:=(by simpa using hj);constructor
   ·simp only[World.cell?,i];simp only[Wc,Z9,if_false,Kw];rw[zh,jz qb,jv qb];simp[fV,<-Y,h0]
   ·simp only[World.frozen?,i];simp only[zz] at q;rw[Jr];rcases q with h|h
    ·by_cases hh:p.1<=o+j
     ·exact .inr (by simp;omega)
     ·exact .inl (by simpa using hh)
    ·exact .inl (by simp;omega)
  have hc:=Tryz.slices_Sort_string g o c l w hH D hl;refine hc.mono ?_;rintro e w' ⟨rfl,n,J,rfl⟩;obtain⟨d,M⟩:∃d:Array Bs,d=(l.mergeSort fun x y=>decide (x<=y)).toArray:=⟨_,rfl⟩;have O:List.Perm d.toList l:=by rw[M];exact List.mergeSort_perm _ _
  have h1:d.toList.length=l.length:=O.length_eq;rw[<-M];show∃v A,_/\_/\Hp _ (sortWorld (fun(x:Bs)=>B x) w g o n d J) _;have hh:(sortWorld (fun(x:Bs)=>B x) w g o n d J).heap[g]? =some (.cells (pre++fV d.toList++b).toArray 9 p):=by
   show((Sort.mapBlock _ g _).heap++J)[g]? =_;unfold Sort.mapBlock;have f:(Sort.ahead w n).heap=w.heap:=rfl;rw[Zw (by rw[Jh,f];exact D),Q6,zu rfl,f,i];simp only[Qk,Sort.onCells];have:=tH (pre:=pre) (post:=b) h1;rw[Y] at this;rw[<-this]
  have k8:=L7 d.toList;have Q:(fV d.toList).length=(fV l).length:=by omega
  have r:c*1<=(fV d.toList++b).length:=by
   rw[zz,Q,<-zz];exact z
  have S:p.2<=p.1\/(pre++fV d.toList++b).length<=p.1:=by
   rw[zz,zz,Q,<-zz,<-zz];exact q
  have s:l9.le (p_ w [g]).heap (hp (sortWorld (fun(x:Bs)=>B x) w g o n d J)):=fun k o' T=>by
   have h4:k≠g:=by
    rintro rfl;simp[p_,E4] at T
   have h2:w.heap[k]? =some o':=bO w _ k o' T;have h3:k<w.heap.size:=(kp.1 h2).1;show((Sort.mapBlock _ g _).heap++J)[k]? =_;unfold Sort.mapBlock;have f:(Sort.ahead w n).heap=w.heap:=rfl;rw[Zw (by rw[Jh,f];exact h3),Q6,zk (fun h=>h4 h.symm),f];exact h2
  have U:∀k∈[g],(p_ w [g]).heap k=none:=fun k V=>by
   simp at V;subst V;simp[p_,E4]
  refine⟨.tuple #[],[A4 (some ⟨g,o,none⟩) d.toList c],rfl,⟨rfl,d.toList,O,rfl⟩,?_⟩;exact⟨rfl,rfl,rfl,s,[g],⟨[g],[],rfl,.inr ⟨g,rfl,⟨o,d.toList.length,c,pre,b,p,rfl,hh,Y,by omega,r,by omega,S⟩⟩,rfl⟩,by simp,U⟩
theorem Er(g:Nat)(x:AN)(a:LM):Ct prog 160 ([]++[NE a]) (fun _=>True) [C2 g x] (fun v A=>(∃q:Bool,v=.bool q)/\A=[C2 g x]):=by
 show Ct prog 160 [NE a] _ _ _;refine b_ 3 func160 rfl rfl rfl ?_;intro F _;refine C6 ?_;refine m9 rfl rfl ?_;intro c;refine L6 ?_;exact d_ rfl rfl _ ⟨⟨true,rfl⟩,rfl⟩ (fun w b=>b.drop)
abbrev BI(gA gO:Nat):Value:=.func (.func 153) #[] #[m6 gA,m6 gO]
def SU(x:AN):Prop:=x.o.code=0/\(x.c.kind=16\/x.c.kind=15)
theorem Iy(g:Nat)(x:AN)(s:SE)(sl:SL)(d:DD)(y:DL)(hx:rf x)(hv:s.a4R.a4Q.length<=100000)(hu:x.us.length<=100000):
  Cm prog 76 [m6 g] (cA x) (C2 g x::l5 sl.ra s.a4R.a4Q sl.rc::O4 x.b s sl d y) (fun h v A=>∃(l:List Bs) (a:Option Addr) (c:Nat),v=.slice a l.length c/\n9 h a (fV l)/\(l≠[]->SU x)/\A=C2 g x::l5 sl.ra s.a4R.a4Q sl.rc::O4 x.b s sl d y):=by
 have V:=hx.c;refine x7 85 func76 rfl rfl rfl ?_;rintro F R h7;refine C6 ?_;refine L1 rfl rfl rfl ?_;intro D;refine p9 ?_;refine p9 ?_;intro r;refine u7 ?_;refine J_ 2 ?_;refine B8 (Z:=[.blk D (.cells #[m6 g] 147)]) tk fun F1 X hb=>?_;have O:F1.heap D=some (.cells #[m6 g] 147 (0,0)):=I9 hb;clear hb;have k:cA x F1.heap:=Mn.le X.heap h7;refine n7 (ι:=List Bs×AC) (fun q=>q.1.length<=200000/\(q.1≠[]->SU x)) (fun q=>[(3,m6 r)]) (fun q=>C2 g x::Iw r q.1 q.2::A4 q.2.1 q.1 q.2.2::l5 sl.ra s.a4R.a4Q sl.rc::E8 x.b s sl d y::r7 y.da y.rl y.dc::R) ?_ ?_
 ·refine o0 ?_;obtain⟨q1,Y⟩:=o7 (decide (x.o.code=0));refine C6 ?_;refine r_ (i8 rfl (fun w f=>H9 f O rfl)) ?_;refine O2 ?_;refine f_ ((M2 rfl rfl).eq (v':=.bool (!q1)) (jk (fun x=>Value.bool (!x)) Y.symm)) ?_;refine p9 ?_
  cases q1
  ·refine o8 rfl (fun h=>?_) qx;refine u7 ?_;exact g_ ([],none,0) ⟨by simp,fun e=>absurd rfl e⟩ (fun w f=>C1 (A:=[C2 g x,_,.own (.slice none 0 0) 9 1 [],l5 sl.ra s.a4R.a4Q sl.rc,E8 x.b s sl d y,r7 y.da y.rl y.dc]) (J:=[]) tk (f.addNil 9 1))
  refine o8 rfl qx (fun h=>?_);refine J_ 0 ?_;refine D6 (H':=C2 g x::Iw r [] (none,0)::A4 none [] 0::l5 sl.ra s.a4R.a4Q sl.rc::E8 x.b s sl d y::r7 y.da y.rl y.dc::R) (fun w f=>C1 (A:=[C2 g x,_,.own (.slice none 0 0) 9 1 [],l5 sl.ra s.a4R.a4Q sl.rc,E8 x.b s sl d y,r7 y.da y.rl y.dc]) (J:=[]) tk (f.addNil 9 1)) ?_;refine n7 (ι:=Bool) (fun q=>q=true->x.c.kind=16) (fun q=>[(1,m6 D),(3,m6 r),(4,BI D r),(17,.bool q)]) (fun q=>C2 g x::Iw r [] (none,0)::A4 none [] 0::l5 sl.ra s.a4R.a4Q sl.rc::E8 x.b s sl d y::r7 y.da y.rl y.dc::R) ?_ ?_
  ·obtain⟨q2,S⟩:=o7 (decide (x.c.kind=16));have q6:=V.a4U
   cases q2
   all_goals (
    refine C6 ?_;refine r_ (i8 rfl (fun w f=>H9 f O rfl)) ?_;refine O2 ?_;refine f_ ((p7 rfl rfl).eq (qn ((qz).trans S.symm))) ?_;refine p9 ?_;(first|refine u_ ?_|(refine v_ ?_;refine r_ (i8 rfl (fun w f=>H9 f O rfl)) ?_));refine O2 ?_;(first|refine u_ ?_|(refine v_ ?_;refine e_ rfl (U_ cO aj x.c.a4U x.k.ia x.k.ic 157 [] (fun _=>True) (fun i=>decide (10<=i.kind)) (fun i _=>Iv i) qb) (fun h Q _=>⟨k.c.a4U.le Q,trivial⟩) rfl ?_));refine z_ ?_)
   ·exact g_ false (fun e=>by cases e) i_
   ·exact g_ _ (fun _=>qr S.symm) i_
  intro q h0;refine u7 ?_;refine o8 rfl (fun T=>?_) (fun h=>?_)
  ·refine C6 ?_;refine r_ (i8 rfl (fun w f=>H9 f O rfl)) ?_;refine J_ 5 ?_;refine o0 ?_;refine o9 (ι:=Nat×List Bs×AC) (fun i=>i.1<=x.us.length/\i.2.1.length<=i.1) (fun i=>[(1,m6 D),(3,m6 r),(4,BI D r),(35,.slice x.ua x.us.length x.uc),(36,.int .i64 (x.us.length:Nat)),(37,.int .i64 (i.1:Nat))]) (fun i=>C2 g x::Iw r i.2.1 i.2.2::A4 i.2.2.1 i.2.1 i.2.2.2::l5 sl.ra s.a4R.a4Q sl.rc::E8 x.b s sl d y::r7 y.da y.rl y.dc::R) (fun i=>x.us.length-i.1) (0,[],none,0) ⟨zw _,z1 _⟩ sub i_ ?_;rintro⟨j,p,o⟩ ⟨hj,ho⟩;simp only at hj ho;refine R6 ?_ ?_<;>intro h
   ·have z:j<x.us.length:=(by have:=qr h;omega);have u:=Y0 k.us z;refine C6 ?_;refine f_ (m8 rfl u rfl qb) ?_;refine r_ (i8 rfl (fun w f=>tT f k.us (i:=j) x8 z)) ?_;refine E6 ?_;refine r_ (i8 rfl (fun w f=>H9 f O rfl)) ?_;refine p9 ?_;refine y9 (ps:=[]) _ rfl rfl rfl (BH g D r (x.us.getD j 0) x 158 [m6 g] hx (fun lm w bs Y S h3=>(wO g x lm w bs Y S h3).mono fun e w' ⟨v,A,a,⟨b,c⟩,d⟩=>⟨v,A,a,⟨⟨_,b⟩,c⟩,d⟩) p o qb) i_ (fun h Q _=>⟨Mn.le Q k,Q _ _ O⟩) rfl ?_;rintro v A ⟨rfl,M,o',h8,rfl⟩;refine z_ ?_;exact l8 (i:=(j,p,o)) (j+1,M,o') ⟨z,by simp only;omega⟩ qg sub i_
   ·refine u7 ?_;exact g_ (p,o) ⟨by simp only;omega,fun _=>⟨qr Y.symm,.inl (h0 T)⟩⟩ i_
  ·obtain⟨kl,h9,k0,q7⟩:=k.c.keys;have k8:=cU h9;have q5:=V.keys;have h4:=DI x.k.ka x.k.kc kl qb;rw[k8] at h4;refine J_ 0 ?_;refine n7 (ι:=Bool) (fun q=>q=true->x.c.kind=15) (fun q=>[(1,m6 D),(3,m6 r),(4,BI D r),(47,.bool q)]) (fun q=>C2 g x::Iw r [] (none,0)::A4 none [] 0::l5 sl.ra s.a4R.a4Q sl.rc::E8 x.b s sl d y::r7 y.da y.rl y.dc::R) ?_ ?_
   ·obtain⟨q2,S⟩:=o7 (decide (x.c.kind=15))
    cases q2
    all_goals (
     refine C6 ?_;refine r_ (i8 rfl (fun w f=>H9 f O rfl)) ?_;refine O2 ?_;refine f_ ((p7 rfl rfl).eq (qn ((qz).trans S.symm))) ?_;refine p9 ?_;(first|refine u_ ?_|(refine v_ ?_;refine r_ (i8 rfl (fun w f=>H9 f O rfl)) ?_));refine O2 ?_;(first|refine u_ ?_|(refine v_ ?_;refine e_ rfl h4 (fun h Q _=>k0.le Q) rfl ?_));refine z_ ?_)
    ·exact g_ false (fun e=>by cases e) i_
    ·exact g_ _ (fun _=>qr S.symm) i_
   intro q h5;refine u7 ?_;refine o8 rfl (fun T=>?_) (fun h=>?_)
   ·refine C6 ?_;refine r_ (i8 rfl (fun w f=>H9 f O rfl)) ?_;refine J_ 10 ?_;refine B4 (a:=sl.ra) (n:=s.a4R.a4Q.length) (c:=sl.rc) (sz:=2) (xs:=V2 s.a4R.a4Q) (te:=72) ud fun _ _ u=>?_;refine o0 ?_;refine o9 (ι:=Nat×List Bs×AC) (fun i=>i.1<=s.a4R.a4Q.length/\i.2.1.length<=i.1) (fun i=>[(1,m6 D),(3,m6 r),(4,BI D r),(70,.slice sl.ra s.a4R.a4Q.length sl.rc),(71,.int .i64 (s.a4R.a4Q.length:Nat)),(72,.int .i64 (i.1:Nat))]) (fun i=>C2 g x::Iw r i.2.1 i.2.2::A4 i.2.2.1 i.2.1 i.2.2.2::l5 sl.ra s.a4R.a4Q sl.rc::E8 x.b s sl d y::r7 y.da y.rl y.dc::R) (fun i=>s.a4R.a4Q.length-i.1) (0,[],none,0) ⟨zw _,z1 _⟩ sub i_ ?_;rintro⟨j,p,o⟩ ⟨hj,ho⟩;simp only at hj ho;refine R6 ?_ ?_<;>intro h
    ·have z:j<s.a4R.a4Q.length:=(by have:=qr h;omega);have k9:=u qb;refine C6 ?_;refine f_ (m8 rfl k9 rfl qb) ?_;refine r_ (w8 rfl (fun w f=>fm (C:=iv) (f.ownN (t:=72) ud).2.2.1 D1 qp z x8) (D1 _)) ?_;refine i7 rfl ?_;intro g8;refine O2 ?_;refine y9 (ps:=[]) _ rfl rfl rfl (BH g D r s.a4R.a4Q[j].1 x 160 [] hx (fun lm=>Er g x lm) p o qb) (fun w f=>C1 (A:=[C2 g x,Iw r p o,A4 o.1 p o.2]) (J:=[_]) tk f) (fun h Q _=>⟨Mn.le Q k,Q _ _ O⟩) rfl ?_;rintro v A ⟨rfl,M,o',h8,rfl⟩;refine z_ ?_;exact l8 (i:=(j,p,o)) (j+1,M,o') ⟨z,by simp only;omega⟩ qg sub i_
    ·refine u7 ?_;exact g_ (p,o) ⟨by simp only;omega,fun _=>⟨qr Y.symm,.inr (h5 T)⟩⟩ i_
   ·refine u7 ?_;exact g_ ([],none,0) ⟨by simp,fun e=>absurd rfl e⟩ i_
 rintro⟨l,o⟩ ⟨hl,h6⟩;simp only at hl h6;refine p9 ?_;refine c_ (Ix l o.1 o.2 qb) qw ?_;rintro v A ⟨rfl,m,U,rfl⟩;refine u7 ?_;have q0:=U.length_eq;refine p9 ?_;refine x4 (vs:=[.slice o.1 m.length o.2]) _ (by rw[q0];rfl) (oP m o.1 o.2 qb) i_ qw rfl ?_;rintro v A ⟨rfl,rfl⟩;refine C8 ?_;refine jV (Z:=[A4 o.1 (Lib.compact m) o.2]) tk fun F2 q3 ⟨bs,hb⟩=>?_;have q4:n9 F2.heap o.1 (fV (Lib.compact m)):=A1.rd hb ud;refine G9 (A:=C2 g x::l5 sl.ra s.a4R.a4Q sl.rc::O4 x.b s sl d y) (v:=.slice o.1 (Lib.compact m).length o.2) (X.trans q3) ⟨_,_,_,rfl,q4,fun e=>h6 fun e2=>e (by rw[e2] at U;rw[List.Perm.eq_nil U];rfl),rfl⟩ ?_;exact d_ rfl rfl _ qh (fun w f=>C1 (A:=[_,_,_,_]) (J:=[_]) tk f)
structure NR(s:SE)(st:ML)(o:OC)(bl:BL):Prop where
 se:zf s
 a4Q:s.a4R.a4Q.length<=50000
 us:s.a4T.length<=100000
 ml:Y4 st
 uo:o.a4T.length<=100000/\fP o.a4T
 mo:o.mods.length<=100000/\fP o.mods
 val:o.val<18446744073709551616
 bll:bl.length<=1000
 body:∀p∈bl,p.2.length<=1000000
def fg(s:SE)(st:ML)(o:OC)(bl:BL)(s':SE)(d':DD):Prop:=
 if s.a4X=false then s'=s/\d'=G0
 else(∃w:List Bs,w≠[]/\(o.code=0/\(s.cmd.kind=16\/s.cmd.kind=15))/\s'=s/\d'={G0 with want:=w})\/∃x:AN,x.c=s.cmd/\x.m.s=st/\x.o=o/\x.us=s.a4T/\x.bl=bl/\x.bx.x=mA s st/\iK x (O3 s) s' d'
def SV(Q:SE->DD->Prop)(h:l9)(v:Value)(A:List As):Prop:=∃s' d' x' y',Q s' d'/\v=.tuple #[rB s' x',KE d' y']/\A=l5 x'.ra s'.a4R.a4Q x'.rc::r7 y'.da y'.rl y'.dc::Y6 y'.rl/\d'.a5b=y'.rl.map Prod.fst/\(∀m∈y'.rl,kC m h)/\U2 s' x' h/\dv d'.req y'.ql h/\n9 h y'.wa (fV d'.want)
theorem Ej.res{Q:SE->DD->Prop}{h:l9}{v:Value}{A:List As}(k:Ej Q h v A):SV Q h v A:=by
 obtain⟨e,f,g,d,i,rfl,rfl,j,a⟩:=k;have b:∀m∈d.rl,fB m.1 m.2 h/\m.2.fa=none:=fun m c=>⟨a.dd.rep m c,by
  rcases j.2 m c with h|h
  ·cases h
  ·rw[h]⟩
 exact⟨e,f,g,d,i,rfl,by rw[nB b],a.dd.a5b,fun m c=>.inl (b m c),a.se,a.dd.req,a.dd.want⟩
theorem ej{x:AN}{s b:SE}{a:DD}(h:iK x s b a):a.req=G0.req/\a.want=[]/\a.ask=false/\a.store=false/\a.body=[]:=by
 unfold iK at h;split at h
 ·rw[h.2];exact⟨rfl,rfl,rfl,rfl,rfl⟩
 split at h
 ·rw[h.2];exact⟨rfl,rfl,rfl,rfl,rfl⟩
 obtain⟨r,s1,c,d,e,_,_,h⟩:=h;split at h
 ·rw[h.2];exact⟨rfl,rfl,rfl,rfl,rfl⟩
 ·rw[h.2];exact⟨rfl,rfl,rfl,rfl,rfl⟩
theorem sF(s:SE)(x:SL)(m:MM)(o:OC)(oy:OL)(bl:BL)(ba:Option Addr)(bc:Nat)(r:NR s m.s o bl):
  Cm prog 31 [rB s x,uD m,To o oy,.slice ba bl.length bc] (fun h=>Gl h/\n9 h x.ra (V2 s.a4R.a4Q)/\U2 s x h/\iz m h/\L9 o oy h/\n9 h ba (uq bl)) [] (SV (fg s m.s o bl)):=by
 have hs:=r.se;refine x7 103 func31 rfl rfl rfl ?_;rintro F R ⟨hg,hr,q2,hm,ho,hb⟩;refine C6 ?_;refine m9 rfl rfl ?_;intro g4;refine m9 rfl rfl ?_;intro g5;refine m9 rfl rfl ?_;intro g6;refine i7 rfl ?_;intro u;refine i7 rfl ?_;intro y;refine p9 ?_;refine A8 (lv s x hs.le) ⟨hr,q2⟩ ?_;rintro v A F1 O ⟨a,rfl,rfl,Y⟩;refine f_ (y7 (ps:=[(0,.tmp 16)]) (vs:=[(0,rB s a)]) (cells:=(mB s a++tu G0 M_).toArray) rfl i6) ?_;refine m9 rfl rfl ?_;intro c;refine p9 ?_;refine D6 (H':=E8 c s a G0 M_::r7 none [] 0::l5 a.ra s.a4R.a4Q a.rc::.blk y (.cells (tu G0 M_).toArray 46)::.blk u (.cells (mB ov qR).toArray 39)::.blk g6 (.cells (tv o oy).toArray 86)::.blk g5 (.cells (iy m).toArray 62)::.blk g4 (.cells (mB s x).toArray 39)::R) (fun w g=>C1 (A:=[E8 c s a G0 M_,r7 none [] 0,_,_,_,_,_,_]) (J:=[]) tk (g.addNil 51 10)) ?_;refine eE ?_ ?_<;>intro h
 ·have Q:s.a4X=false:=by simpa using h
  refine u7 ?_;refine D7 [3,7] [8,9] [E8 c s a G0 M_] 10 ?_;refine wd [0,1,2,3,4,5,6,7,8,9] ?_;refine A3 ?_;refine G9 (A:=[l5 a.ra s.a4R.a4Q a.rc,r7 none [] 0]) (v:=.tuple #[rB s a,KE G0 M_]) O ⟨s,G0,a,M_,by unfold fg;rw[zu Q];exact qh,rfl,rfl,rfl,qy,Y,⟨n9.nil _ _,n9.nil _ _⟩,n9.nil _ _⟩ ?_;refine V9 rfl rfl rfl ud rfl ud rfl _ qh (fun w g=>C1 (A:=[_,_]) (J:=[_,_,_,_,_,_]) tk g)
 have Q:¬s.a4X=false:=by simpa using h
 obtain⟨x0,h4⟩:=o7 (α:=AN) (⟨c,s.cmd,a.cl,m,o,oy,FQ,s.a4T,a.ua,a.uc,bl,ba,bc,R0,L0⟩);refine u7 ?_;refine D7 [5,6,7,12] [15] [E8 c s a G0 M_,.blk g5 (.cells (iy m).toArray 62),.blk g6 (.cells (tv o oy).toArray 86)] 17 ?_;refine wd [0,1,2,3,4,5,6,7,8,9,10,11,12,13] ?_;refine w_ 14 rfl (y7 (ps:=[(0,.tmp 30),(1,.tmp 35),(2,.tmp 36),(3,.tmp 37),(5,.tmp 42),(6,.tmp 43)]) (vs:=[(0,m6 c),(1,xt s.cmd a.cl),(2,uD m),(3,To o oy),(5,.slice a.ua s.a4T.length a.uc),(6,.slice ba bl.length bc)]) (cells:=(anC ⟨c,s.cmd,a.cl,m,o,oy,FQ,s.a4T,a.ua,a.uc,bl,ba,bc,R0,L0⟩).toArray) rfl i6) ?_;refine h_ 15 rfl i6 ?_;refine m9 rfl rfl ?_;intro d;refine E5 [16] ?_;refine D6 (H':=C2 d x0::E8 c s a G0 M_::r7 none [] 0::l5 a.ra s.a4R.a4Q a.rc::.blk y (.cells (tu G0 M_).toArray 46)::.blk u (.cells (mB ov qR).toArray 39)::.blk g5 (.cells (iy m).toArray 62)::R) (fun w g=>by rw[h4];exact C1 (A:=[_,_,_,_,_,_,_]) (J:=[_,_]) tk g) ?_;obtain⟨e,he⟩:=o7 (ae m.s s.a4R.box);have k:=uu m s.a4R.box r.ml;rw[<-he] at k;refine J_ 0 ?_;refine S6 (fun(i:BM) (p:Nat) (_:Unit) (M:l6)=>F1.le M/\i.x=e.getD Oy/\fH i M.heap) (fun i p _ _=>[(8,m6 u),(9,m6 y),(10,m6 c),(11,m6 d),(12,m6 p),(13,.bool e.isSome)]) (fun _ _ _ M=>M) (fun i p _ _=>wQ p i::C2 d x0::E8 c s a G0 M_::r7 none [] 0::l5 a.ra s.a4R.a4Q a.rc::.blk y (.cells (tu G0 M_).toArray 46)::.blk u (.cells (mB ov qR).toArray 39)::R) ?_ ?_
 ·refine u7 ?_;refine D7 [0,6] [7,11,12] [.blk g5 (.cells (iy m).toArray 62),E8 c s a G0 M_] 14 ?_;refine wd [0,1,2,3,4,5,6] ?_;refine bg 7 11 rfl rfl i6 ?_ ?_;refine R7 k (Mn.le O.heap hm) ?_;rintro v A Z Fz hz ⟨i,rfl,l,rfl,S⟩;refine E5 [8,9,10] ?_;refine h_ 11 rfl i6 ?_;refine i7 rfl ?_;intro p;refine E5 [12,13] ?_
  rotate_left 1
  refine i7 rfl ?_;intro p;refine Y5 ?_;refine h_ 7 rfl i6 ?_;refine R7 k (Mn.le O.heap hm) ?_;rintro v A Z Fz hz ⟨i,rfl,l,rfl,S⟩;refine E5 [8,9,10,12,13] ?_
  rotate_left 1
  all_goals (refine u7 ?_);all_goals exact ei (Rr:=wQ p i::C2 d x0::E8 c s a G0 M_::r7 none [] 0::l5 a.ra s.a4R.a4Q a.rc::.blk y (.cells (tu G0 M_).toArray 46)::.blk u (.cells (mB ov qR).toArray 39)::R) Fz hz (fun w g=>C1 (A:=[_,_,_,_,_,_,_]) (J:=[_]) tk g) fun M T q3=>y4 (i,p,(),M) ⟨T,l,Mn.le q3 S⟩ rfl i_
 rintro i p _ M ⟨T,l,S⟩;refine J_ 0 ?_;refine n7 (ι:=Bool) (fun q=>(if q then i.x else Oy)=mA s m.s) (fun q=>[(8,m6 u),(9,m6 y),(10,m6 c),(11,m6 d),(12,m6 p),(68,.bool q)]) (fun _=>wQ p i::C2 d x0::E8 c s a G0 M_::r7 none [] 0::l5 a.ra s.a4R.a4Q a.rc::.blk y (.cells (tu G0 M_).toArray 46)::.blk u (.cells (mB ov qR).toArray 39)::R) ?_ ?_
 ·cases e with
  |none=>
   refine u7 ?_;refine D7 [3,9] [] [wQ p i,E8 c s a G0 M_] 12 ?_;refine wd [0,1,2,3,4,5,6,7,8,9,10,11] ?_;exact g_ false (by unfold mA;rw[<-he];rfl) (fun w g=>C1 (A:=[_,_,_,_,_,_,_]) (J:=[]) tk g)
  |some b0=>
   have l:i.x=b0:=l;have q4:i.val=b0.val:=(by rw[<-l]);refine u7 ?_;refine D7 [3,9] [] [wQ p i,E8 c s a G0 M_] 12 ?_;refine wd [0,1,2,3,4,5,6,7,8,9] ?_;(first|refine s_ 10 ?_|refine t_ 10 ?_|refine E0 10 rfl ((p7 rfl rfl).eq (v':=.bool (decide (i.val=s.a4R.val))) (qn qz)) rfl rfl rfl rfl rfl rfl i6 ?_);refine wd [11] ?_;refine g_ (decide (i.val=s.a4R.val)) ?_ (fun w g=>C1 (A:=[_,_,_,_,_,_,_]) (J:=[]) tk g);unfold mA;rw[<-he,l,q4];by_cases h9:b0.val=s.a4R.val
   ·simp[h9]
   ·simp[h9]
 intro y1 h0;refine u7 ?_;refine n7 (ι:=BM) (fun b=>b.x=mA s m.s/\fH b M.heap) (fun _=>[(8,m6 u),(9,m6 y),(10,m6 c),(11,m6 d)]) (fun b=>C2 d {x0 with bx:=b}::E8 c s a G0 M_::r7 none [] 0::l5 a.ra s.a4R.a4Q a.rc::.blk y (.cells (tu G0 M_).toArray 46)::.blk u (.cells (mB ov qR).toArray 39)::R) ?_ ?_
 ·refine o8 rfl ?_ ?_<;>intro h
  ·refine aF ?_;exact g_ i ⟨by rw[<-h0,h];rfl,S⟩ (fun w g=>C1 (A:=[C2 d {x0 with bx:=i},_,_,_,_,_]) (J:=[_]) tk g)
  ·refine u7 ?_;exact g_ FQ ⟨by rw[<-h0,h];rfl,fH.zero _⟩ (fun w g=>by
    have h9:=C1 (A:=[C2 d x0,E8 c s a G0 M_,r7 none [] 0,l5 a.ra s.a4R.a4Q a.rc,.blk y _,.blk u _]) (J:=[wQ p i]) tk g;rw[h4] at h9⊢;exact h9)
 rintro b ⟨h2,h7⟩;obtain⟨n,f⟩:∃n:AN,n={x0 with bx:=b}:=⟨_,rfl⟩;rw[<-f];rw[h4] at f;have k0:b.ls.length<=32/\∀lm∈b.ls,lm.t.a5c.length<=16:=by
  have h1:(mA s m.s).lts.length<=32/\∀t∈(mA s m.s).lts,t.a5c.length<=16:=by
   unfold mA
   cases e9:ae m.s s.a4R.box with
   |none=>exact⟨zw _,qy⟩
   |some b0=>
    have k8:=r.ml.box b0 (bN e9);by_cases h9:b0.val=s.a4R.val
    ·simp only[zr,zu h9,Zb];exact⟨k8.lts,fun t ht=>(k8.a5c t ht).1⟩
    ·simp only[zr,zk h9,Option.getD_none];exact⟨zw _,qy⟩
  rw[<-h2] at h1;exact⟨by simpa using h1.1,fun lm h5=>h1.2 lm.t (Zq h5)⟩
 have k9:rf n:=by rw[f];exact⟨by show b.ls.length<=_;omega,fun lm h5=>by have:=k0.2 lm h5;omega,r.bll,r.body,hs.cmd⟩
 have q5:MV n (O3 s):=by
  refine⟨k9,?_,r.a4Q,?_,?_,?_,?_⟩<;>rw[f]
  ·exact r.ml
  ·exact r.us
  ·exact r.uo
  ·exact r.mo
  ·exact r.val
 have j:=O.trans T;have z:U2 s a M.heap:=Mn.le T.heap Y;have h3:cA n M.heap:=by rw[f];exact⟨hg.le j.heap,z.cmd,Mn.le j.heap hm,Mn.le j.heap ho,h7,z.a4T,hb.le j.heap⟩
 have U:n.b=c:=by rw[f]
 have q6:n.us.length<=100000:=by rw[f];exact r.us
 refine u7 ?_;refine D6 (H':=C2 d n::E8 n.b s a G0 M_::r7 none [] 0::l5 a.ra s.a4R.a4Q a.rc::.blk y (.cells (tu G0 M_).toArray 46)::.blk u (.cells (mB ov qR).toArray 39)::R) (fun w g=>by rw[U];exact g) ?_;refine p9 ?_;refine A8 (Iy d n s a G0 M_ k9 (by have:=r.a4Q;omega) q6) h3 ?_;rintro v A F3 V ⟨w,wa,wc,rfl,q7,q8,rfl⟩;refine p9 ?_;refine D6 (H':=C2 d n::E8 c s a G0 M_::r7 none [] 0::l5 a.ra s.a4R.a4Q a.rc::.blk y (.cells (tu G0 M_).toArray 46)::.blk u (.cells (mB ov qR).toArray 39)::R) (fun w g=>by rw[<-U];exact C1 (A:=[_,_,_,_,_,_]) (J:=[]) tk g) ?_;refine eE ?_ ?_<;>intro h
 ·have q0:w≠[]:=fun e1=>by rw[e1] at h;exact absurd h qp
  refine cH ?_;refine D7 [3,7] [8,9] [E8 c s a {G0 with want:=w} {M_ with wa:=wa,wc:=wc}] 10 ?_;refine wd [0,1,2,3,4,5,6,7,8,9] ?_;refine A3 ?_;refine G9 (A:=[l5 a.ra s.a4R.a4Q a.rc,r7 none [] 0]) (v:=.tuple #[rB s a,KE {G0 with want:=w} {M_ with wa:=wa,wc:=wc}]) (j.trans V) ⟨s,{G0 with want:=w},a,{M_ with wa:=wa,wc:=wc},by unfold fg;rw[zk Q];exact .inl ⟨w,q0,by have h8:=q8 q0;rw[f] at h8;exact h8,rfl,rfl⟩,rfl,rfl,rfl,qy,Mn.le V.heap z,⟨n9.nil _ _,n9.nil _ _⟩,q7⟩ ?_;refine V9 rfl rfl rfl ud rfl ud rfl _ qh (fun w g=>C1 (A:=[_,_]) (J:=[_,_,_,_]) tk g)
 ·refine p9 ?_;refine c_ (Bn c s a G0 M_) qw ?_;rintro v A ⟨rfl,rfl⟩;refine u7 ?_;refine D6 (H':=C2 d n::E8 n.b (O3 s) {a with cl:=G8,ua:=none,uc:=0} G0 M_::r7 none [] 0::l5 a.ra (O3 s).a4R.a4Q a.rc::.blk y (.cells (tu G0 M_).toArray 46)::.blk u (.cells (mB ov qR).toArray 39)::R) (fun w g=>by rw[U];exact C1 (A:=[_,_,_,_,_,_]) (J:=[]) tk g) ?_;refine p9 ?_;refine A8 (Pz d n (O3 s) {a with cl:=G8,ua:=none,uc:=0} q5 (by rw[f];exact k0.2)) ⟨Mn.le V.heap h3,⟨n9.nil _ _,fd.zero _⟩⟩ ?_;rintro v A F4 q9 ⟨rfl,x',s',d',C,X,x3,D,h6,x9,q1,y0,y2,y3,rfl⟩;rw[x3,U];refine I6 (H':=_::_::_::_::_::_::(Y6 X.rl++R)) (fun w g=>g.perm (((((Qb (Y6 X.rl) [_,_] R).cons _).cons _).cons _).cons _)) ?_;refine u7 ?_;refine D7 [3,7] [8,9] [E8 c s' C d' X] 10 ?_;refine wd [0,1,2,3,4,5,6,7,8,9] ?_;refine A3 ?_;refine G9 (A:=l5 C.ra s'.a4R.a4Q C.rc::r7 X.da X.rl X.dc::Y6 X.rl) (v:=.tuple #[rB s' C,KE d' X]) ((j.trans V).trans q9) ⟨s',d',C,X,?_,rfl,rfl,h6,x9,q1,?_,?_⟩ ?_
  ·unfold fg;rw[zk Q];exact .inr ⟨n,by rw[f],by rw[f],by rw[f],by rw[f],by rw[f],by rw[f];exact h2,D⟩
  ·rw[(ej D).1,y0];exact⟨n9.nil _ _,n9.nil _ _⟩
  ·rw[(ej D).2.1];exact n9.nil _ _
  ·refine V9 rfl rfl rfl ud rfl ud rfl _ qh (fun w g=>C1 (A:=[_,_]) (J:=[_,_,_,_]) tk g)
theorem pY(n:Nat):Pu prog 21 [.int .i64 (n:Nat)] (fun _=>True) (.int .i64 ((min n 1048576:Nat):Int)):=by
 refine b_ 5 func21 rfl rfl rfl ?_;intro F _;refine z_ ?_;refine f_ ((EX rfl rfl).eq (v':=.int .i64 ((min n 1048576:Nat):Int)) (by congr 1;omega)) ?_;refine C8 ?_;exact d_ rfl rfl [] qh i_
theorem dh:∀x,∀q∈un x,q.oneCell'=true:=fun x q a=>by simp at a;rcases a with rfl|rfl<;>rfl
structure WM where
 s:SE
 x:SL
 m:MM
 q:RQ
 ql:QL
 tr:Nat
 bl:BL
 ba:Option Addr
 bc:Nat
abbrev NS(w:WM):List Value:=mB w.s w.x++iy w.m++cQ w.q w.ql++[.int .u64 (w.tr:Nat),.slice w.ba w.bl.length w.bc]
abbrev EP(w:WM):Value:=.agg (NS w).toArray
abbrev gZ(g:Nat)(w:WM):As:=.blk g (.cells (NS w).toArray 65)
structure TN where
 a:SE
 ax:SL
 b:SE
 bx:SL
 hk:Int
 ht:Bs
 hears:Bool
 comes:Bool
 fails:Bool
 d:DD
 y:DL
 c:CM
 k:CL
abbrev fh(t:TN):List Value:=mB t.a t.ax++mB t.b t.bx++[.int .i64 t.hk,B t.ht,.bool t.hears,.bool t.comes,.bool t.fails]++tu t.d t.y++kK t.c t.k
abbrev Tt(t:TN):Value:=.agg (fh t).toArray
abbrev pZ(g:Nat)(t:TN):As:=.blk g (.cells (fh t).toArray 48)
def fT(w:WM)(t:TN):RQ:=if t.d.ask=true then(if t.d.req.op=1 then{t.d.req with node:=1,life:=1,tr:=w.tr+1} else t.d.req) else w.q
def EQ(w:WM)(t:TN):Nat:=if t.d.ask=true then(if t.d.req.op=1 then w.tr+1 else w.tr) else w.tr
def QC(w:WM)(t:TN):BL:=if t.d.store=true then w.bl++[(Dg.sha t.d.body,t.d.body)] else w.bl
structure qa(w:WM)(t:TN)(w':WM):Prop where
 s:w'.s=t.b
 x:w'.x=t.bx
 m:w'.m=w.m
 q:w'.q=fT w t
 ql:w'.ql=if t.d.ask=true then t.y.ql else w.ql
 tr:w'.tr=EQ w t
 bl:w'.bl=QC w t
theorem MY(w:WM)(t:TN)(ht:w.tr<=1000)(hb:w.bl.length<=1000)(hd:t.d.body.length<=1000000):
  Cm prog 33 [EP w,Tt t] (fun h=>n9 h w.ba (uq w.bl)) [] (fun h v A=>∃w',v=EP w'/\A=[]/\qa w t w'/\n9 h w'.ba (uq w'.bl)):=by
 refine x7 50 func33 rfl rfl rfl ?_;rintro F R z;refine C6 ?_;refine m9 rfl rfl ?_;intro k;refine m9 rfl rfl ?_;intro u;refine i7 rfl ?_;intro y;refine O2 ?_;obtain⟨f,d⟩:∃f:WM,f={w with s:=t.b,x:=t.bx}:=⟨_,rfl⟩;refine D6 (H':=gZ k f::pZ u t::.blk y (.cells (NS ⟨ov,qR,Ic,cL,cP,0,[],none,0⟩).toArray 65)::R) (fun w b=>by rw[d];exact C1 (A:=[_,_,_]) (J:=[]) tk b) ?_;refine E6 ?_;refine n7 (ι:=WM) (fun q=>q={f with q:=fT w t,ql:=if t.d.ask=true then t.y.ql else w.ql,tr:=EQ w t}) (fun _=>[(2,m6 k),(3,m6 u),(4,m6 y)]) (fun q=>gZ k q::pZ u t::.blk y (.cells (NS ⟨ov,qR,Ic,cL,cP,0,[],none,0⟩).toArray 65)::R) ?_ ?_
 ·refine o8 rfl ?_ ?_<;>intro h
  ·refine aF ?_;obtain⟨g,i⟩:∃g:WM,g={f with q:=t.d.req,ql:=t.y.ql}:=⟨_,rfl⟩;have C:g.tr=w.tr:=(by rw[i,d]);have D:g.q=t.d.req:=(by rw[i]);refine D6 (H':=gZ k g::pZ u t::.blk y (.cells (NS ⟨ov,qR,Ic,cL,cP,0,[],none,0⟩).toArray 65)::R) (fun w b=>by rw[i];exact C1 (A:=[_,_,_]) (J:=[]) tk b) ?_;refine E6 ?_;refine f_ ((p7 rfl rfl).eq (v':=.bool (decide (t.d.req.op=1))) (qn (zc.2 (by rw[D])))) ?_;refine O1 ?_ ?_<;>intro h2
   ·have M:t.d.req.op=1:=qr h2;refine z_ ?_;refine f_ ((H_ rfl rfl qb).eq (v':=.int .u64 ((g.tr+1:Nat):Int)) (by congr 1)) ?_;refine wk 13 ?_;exact g_ {f with q:=fT w t,ql:=if t.d.ask=true then t.y.ql else w.ql,tr:=EQ w t} rfl (fun v b=>by
     have O:({f with q:=fT w t,ql:=if t.d.ask=true then t.y.ql else w.ql,tr:=EQ w t}:WM)={g with q:={g.q with node:=1,life:=1,tr:=g.tr+1},tr:=g.tr+1}:=by
      rw[C,D,i];unfold fT EQ;rw[zu h,zu M,zu h,zu h,zu M]
     rw[O];exact C1 (A:=[_,_,_]) (J:=[]) tk b)
   ·refine u7 ?_;have M:¬t.d.req.op=1:=zq h2;exact g_ {f with q:=fT w t,ql:=if t.d.ask=true then t.y.ql else w.ql,tr:=EQ w t} rfl (fun v b=>by
     have O:({f with q:=fT w t,ql:=if t.d.ask=true then t.y.ql else w.ql,tr:=EQ w t}:WM)=g:=by
      rw[i,d];unfold fT EQ;rw[zu h,zk M,zu h,zu h,zk M]
     rw[O];exact b)
  ·refine u7 ?_;have Q:¬t.d.ask=true:=fun e=>(by rw[e] at h;cases h);exact g_ {f with q:=fT w t,ql:=if t.d.ask=true then t.y.ql else w.ql,tr:=EQ w t} rfl (fun v b=>by
    have O:({f with q:=fT w t,ql:=if t.d.ask=true then t.y.ql else w.ql,tr:=EQ w t}:WM)=f:=by
     rw[d];unfold fT EQ;rw[zk Q,zk Q,zk Q]
    rw[O];exact b)
 rintro c S;have a:c.ba=w.ba/\c.bl=w.bl/\c.bc=w.bc:=by rw[S,d];exact qm
 refine E6 ?_;refine S6 (fun(j:BL) (o:AC) (_:Unit) (n:l6)=>F.le n/\j=QC w t/\n9 n.heap o.1 (uq j)) (fun _ _ _ _=>[(2,m6 k),(4,m6 y)]) (fun _ _ _ n=>n) (fun j o _ _=>gZ k {c with bl:=j,ba:=o.1,bc:=o.2}::.blk y (.cells (NS ⟨ov,qR,Ic,cL,cP,0,[],none,0⟩).toArray 65)::R) ?_ ?_
 ·refine o8 rfl ?_ ?_<;>intro h
  ·refine u7 ?_;refine D7 [2,6,10] [0,3,7,12,13,15] [gZ k c,pZ u t] 16 ?_;refine wd [1,2,4,5,6,8,9,10] ?_;refine h_ 0 rfl i6 ?_;refine M4 rfl ?_;intro Oc;refine Y5 ?_;refine h_ 3 rfl i6 ?_;refine r8 un (l:=[]) (m:=c.bl) am dh (by show(0+c.bl.length)*32<=_;rw[a.2.1];omega) ?_ (hsrc:=fun v b=>by rw[a.1,a.2.1];exact z.le b.keep) (h63:=by rw[a.2.1];simp only[z6];omega);intro a37 h1 _;refine Y5 ?_;refine h_ 7 rfl i6 ?_;refine e_ rfl (Dg.Sum_ct t.d.body qb) qw rfl ?_;refine gk [11] ?_;refine h_ 12 rfl i6 ?_;refine C4 un (Dg.sha t.d.body,t.d.body) rfl ?_;intro a46 _;refine xn ?_;refine h_ 13 rfl i6 ?_;refine r8 un (l:=c.bl) (m:=[(Dg.sha t.d.body,t.d.body)]) am dh (by show(c.bl.length+1)*32<=_;rw[a.2.1];omega) ?_ (h63:=by rw[a.2.1];simp only[zx,z6];omega);intro T U _;refine E5 [14,15] ?_;refine jV (Z:=[.own (.slice T (c.bl++[(Dg.sha t.d.body,t.d.body)]).length U) 95 2 (uq (c.bl++[(Dg.sha t.d.body,t.d.body)]))]) tk fun n p ⟨bs,X⟩=>?_;exact y4 (c.bl++[(Dg.sha t.d.body,t.d.body)],(T,U),(),n) ⟨p,by unfold QC;rw[zu h,a.2.1],A1.rd X ud⟩ rfl (fun v b=>C1 (A:=[_,_]) (J:=[pZ u t,_]) tk b)
  ·refine u7 ?_;have Q:¬t.d.store=true:=fun e=>(by rw[e] at h;cases h);exact y4 (c.bl,(c.ba,c.bc),(),F) ⟨l6.le_refl _,by unfold QC;rw[zk Q,a.2.1],by rw[a.1,a.2.1];exact z⟩ rfl (fun v b=>C1 (A:=[_,_]) (J:=[_]) tk b)
 rintro j o _ n ⟨p,Y,h0⟩;obtain⟨V,r⟩:∃V:WM,V={c with bl:=j,ba:=o.1,bc:=o.2}:=⟨_,rfl⟩;rw[<-r];refine L6 ?_;refine G9 (A:=[]) (v:=EP V) p ⟨V,rfl,rfl,?_,by rw[r];exact h0⟩ ?_
 ·rw[r,S,d];exact⟨rfl,rfl,rfl,rfl,rfl,rfl,Y⟩
 ·exact G4 rfl rfl ud rfl _ qh (fun v b=>C1 (A:=[]) (J:=[_,_]) tk b)
