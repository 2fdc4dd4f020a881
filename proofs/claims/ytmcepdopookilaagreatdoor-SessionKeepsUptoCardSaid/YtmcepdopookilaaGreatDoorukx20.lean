import Derived.Test.YtmcepdopookilaaGreatDoorukx19
set_option maxHeartbeats 16000000
set_option maxRecDepth 8000
set_option linter.unusedVariables false
set_option linter.unusedSimpArgs false
set_option linter.defProp false
namespace Go.Proofs.YtmcepdopookilaaGreatDoor.Rp
open Go Go.Sl Go.RowKit Go.Proofs.Tryz
def NM(s:Bs):(R3 s).length=s.length:=by simp[R3]
def T6(l:List RM):List As:=l.flatMap fun m=>if m.1.a6J=[] then[] else[B0 m.2.fa m.1.a6J m.2.fc]
def gn(m:RM)(h:l_):Prop:=(fQ m.1 m.2 h/\zD m.2)\/∃fa fc,m=Al fa fc
def gn.le{m:RM}{h b:l_}(k:gn m h)(hl:l_.le h b):gn m b:=by
 rcases k with⟨a,c⟩|a
 ·exact .inl ⟨a.le hl,c⟩
 ·exact .inr a
def vb{m:RM}{h:l_}(k:fQ m.1 m.2 h)(e:zD m.2):m.1.a6J=[]:=by
 have b:=k.a6J;rw[e.1] at b
 cases hq:m.1.a6J with
 |nil=>rfl
 |cons a t=>
  obtain⟨d,c,_⟩:=b (by rw[hq];simp[fV])
  cases c
def nX{l:List RM}{h:l_}(k:∀m∈l,fQ m.1 m.2 h/\zD m.2):T6 l=[]:=by
 unfold T6;rw[List.flatMap_eq_nil_iff];intro m a;rw[zr (vb (k m a).1 (k m a).2)]
def kW(a b:List RM):T6 (a++b)=T6 a++T6 b:=Kg
def Jl(b:BX)(fa:qr)(fc:Nat):T6 (mL b fa fc)=[B0 fa S5 fc]:=rfl
structure NN(x:AN)(s:SE):Prop where
 ok:rE x
 ml:V5 x.m.s
 a6x:s.a6y.a6x.length<=50000
 us:x.us.length<=100000
 uo:x.o.a6A.length<=100000/\gg x.o.a6A
 mo:x.o.mods.length<=100000/\gg x.o.mods
 val:x.o.val<18446744073709551616
abbrev QX:Bs:=[65,80,80,69,78,68,85,73,68,32]
abbrev vd(x:AN):Bs:=if x.o.a6A=[] then x.r.code else QX++T1 x.o.val++[32]++T1 (x.o.a6A.getD 0 0)
abbrev NO(w:Bs):RR:={R0 with kind:=11,box:=w}
def Uh(b:BX):List RR:=[uZ,kU b.lts.length,Ji xO b.val,Ji mJ b.next,Ji mK b.high]
def O9(x:AN)(s:SE)(r:RR)(s':SE)(l:List RR):Prop:=
 if x.c.kind=7 then s'={s with a6z:=1,ses:=x.o.ses,num:=0}/\r=x.r/\l=[]
 else if x.c.kind=14 then s'=s/\r={x.r with code:=vd x}/\l=[]
 else if x.c.kind=8\/x.c.kind=9 then(ay x.m.s x.c.box=none/\s'=s/\r=qK x.c.tag/\l=[])\/∃b,ay x.m.s x.c.box=some b/\s'={s with a6y:=R4 b,a6z:=2,ro:=decide (x.c.kind=9)}/\r={x.r with code:=aU x.c.kind}/\l=Uh b
 else if x.c.kind=12 then s'=s/\r=x.r/\l.length<=8/\∀q∈l,∃b∈x.m.s.a6u,q=NO b.name
 else if x.c.kind=13 then OV x s r s' l
 else if x.c.kind=15 then s'=s/\r=x.r/\∃nums m,l=[Cl nums m]
 else if x.c.kind=16 then uY x s x.us r s' l
 else if x.c.kind=17 then uY x s [] r s' l
 else s'=s/\r=x.r/\l=[]
def Ui(g:Nat)(x:AN)(d:DD)(y:DL)(Q:RR->SE->List RR->Prop)(h:l_)(v:Value)(A:List As):Prop:=v=.tuple #[]/\∃r s sl l a c,Q r s (l.map Prod.fst)/\(∀m∈l,gn m h)/\P4 s sl h/\l.length<=200000/\A=C8 g {x with r:=r,z:=L0}::l6 sl.ra s.a6y.a6x sl.rc::(P3 x.b s sl d (C7 y l a c)++T6 l)
def NP(g:Nat)(x:AN)(s:SE)(sl:SL)(d:DD)(y:DL)(hx:NN x s)(hz:x.z=L0)(hl:y.rl.length<=100):
  Cm prog 163 [i8 g] (fun h=>cZ x h/\P4 s sl h) (C8 g x::l6 sl.ra s.a6y.a6x sl.rc::P3 x.b s sl d y) (Ui g x d y (O9 x s)):=by
 have a6:=hx.a6x;have y1:=hx.us;have q0:({x with r:=x.r,z:=L0}:AN)=x:=by
  obtain⟨xb,xc,xk,xm,xo,xy,y2,y3,z0,z2,u0,u1,u2,xr,xz⟩:=x;obtain rfl:xz=L0:=hz;rfl
 obtain⟨b7,h7⟩:=o9 (decide (x.c.kind=7));obtain⟨u8,q8⟩:=o9 (decide (x.c.kind=14));obtain⟨b8,h8⟩:=o9 (decide (x.c.kind=8));obtain⟨b9,h9⟩:=o9 (decide (x.c.kind=9));obtain⟨v0,q9⟩:=o9 (decide (x.c.kind=12));obtain⟨v1,x0⟩:=o9 (decide (x.c.kind=13));obtain⟨v2,x1⟩:=o9 (decide (x.c.kind=15));obtain⟨v3,x2⟩:=o9 (decide (x.c.kind=16));obtain⟨v4,x3⟩:=o9 (decide (x.c.kind=17));refine A0 133 func163 rfl rfl rfl ?_;rintro F R ⟨u,D⟩;refine I6 5 ?_;refine bi (fun(r:RR) (k:SE) (f:SL) (l:List RM) (o:AC) (t:l9)=>F.le t/\O9 x s r k (l.map Prod.fst)/\(∀m∈l,gn m t.heap)/\P4 k f t.heap/\l.length<=200000) (fun _ _ _ _ _ _=>[(0,i8 g)]) (fun _ _ _ _ _ t=>t) (fun r k f l o _=>C8 g {x with r:=r,z:=L0}::l6 f.ra k.a6y.a6x f.rc::F9 x.b k f d (C7 y l o.1 o.2)::x4 o.1 (y.rl++l) o.2::(T6 l++R)) ?_ ?_
 ·refine o0 ?_;have h0:∀w,Hp F w (C8 g x::l6 sl.ra s.a6y.a6x sl.rc::F9 x.b s sl d y::x4 y.da y.rl y.dc::R)->Hp F w (C8 g {x with r:=x.r,z:=L0}::l6 sl.ra s.a6y.a6x sl.rc::F9 x.b s sl d (C7 y [] y.da y.dc)::x4 y.da (y.rl++[]) y.dc::(T6 []++R)):=fun w n=>by
   rw[q0];simp only[C7,jk];exact n
  have x5:∀(Q:RR->SE->List RR->Prop) (t:l9) (v:Value) (A:List As),(∀r k l,Q r k l->O9 x s r k l/\l.length<=200000)->xL g x d y Q t.heap v A->F.le t->∃(r:RR) (k:SE) (f:SL) (l:List RM) (o:AC),v=.tuple #[]/\(O9 x s r k (l.map Prod.fst)/\(∀m∈l,gn m t.heap)/\P4 k f t.heap/\l.length<=200000)/\A++R=C8 g {x with r:=r,z:=L0}::l6 f.ra k.a6y.a6x f.rc::F9 x.b k f d (C7 y l o.1 o.2)::x4 o.1 (y.rl++l) o.2::(T6 l++R):=fun Q t v A hQ ⟨hv,r,k,f,l,a,c,U,S,hs,V⟩ v5=>by
   refine⟨r,k,f,l,(a,c),hv,⟨(hQ _ _ _ U).1,fun m w3=>.inl (S m w3),hs,by have:=(hQ _ _ _ U).2;rwa [kg] at this⟩,?_⟩;rw[nX S,V];rfl
  refine D1 ?_;refine f_ ((q_ rfl rfl).eq (v':=.bool b7) (qn ((qz).trans h7.symm))) ?_;refine u6 ?_
  cases b7
  case true=>
   have e7:x.c.kind=7:=zy h7.symm;refine x6 ?_;refine D8 [3,7,11,16] [20,24,28] [C8 g x] 29 ?_;refine wd [0,1,2,3,4,5,6,7,8,9,10,11,12,13,14,15,16,17,18,19,20,21,22,23,24,25,26,27,28] ?_;exact y7 (x.r,{s with a6z:=1,ses:=x.o.ses,num:=0},sl,[],(y.da,y.dc),F) ⟨l9.le_refl _,by unfold O9;rw[zr e7];exact qm,qy,⟨D.a6A,D.cmd⟩,zp _⟩ rfl (fun w n=>by
    rw[q0];simp only[C7,jk];exact D3 (A:=[_,_,_,_]) (J:=[]) tk n)
  have e7:¬x.c.kind=7:=zu h7.symm;refine D1 ?_;refine f_ ((q_ rfl rfl).eq (v':=.bool u8) (qn ((qz).trans q8.symm))) ?_;refine u6 ?_
  cases u8
  case true=>
   have M:x.c.kind=14:=zy q8.symm;refine wk 7 ?_;refine p7 rfl ?_ ?_<;>intro h
   ·have O:0<x.o.a6A.length:=(by have:=zy h;omega);have x9:=ae u.o.a6A O;have w4:x.o.a6A≠[]:=fun e=>(by rw[e] at O;simp at O);have v6:x.o.a6A.getD 0 0<18446744073709551616:=hx.uo.2 _ (by rw[z8,zd O];exact zm O);have w9:=kV 19 x.o.val (by have:=hx.val;omega);have a0:=kV 19 (x.o.a6A.getD 0 0) qb;refine x6 ?_;refine D8 [5,13] [6,15,16,21] [C8 g x] 22 ?_;refine wd [0,1,2,3,4,5,9,10,11,12,13] ?_;refine w_ 14 rfl (n5 rfl x9 rfl qb) ?_;refine S4 6 15 rfl rfl i6 ?_ ?_;refine c_ rfl (aT x.o.val hx.val) (fun h hh _=>u.g.le hh) rfl ?_;refine fy [7,8] ?_;refine h_ 15 rfl i6 ?_;refine r_ (l5 rfl (fun w n=>uD n u.o.a6A (i:=0) x7 O)) ?_;refine rR ?_;refine h_ 16 rfl i6 ?_;refine c_ rfl (aT (x.o.a6A.getD 0 0) v6) (fun h hh _=>u.g.le hh) rfl ?_;refine D7 [17,18,19,20,21] ?_
    rotate_left 1
    refine r_ (l5 rfl (fun w n=>uD n u.o.a6A (i:=0) x7 O)) ?_;refine V2 ?_;refine h_ 6 rfl i6 ?_;refine c_ rfl (aT x.o.val hx.val) (fun h hh _=>u.g.le hh) rfl ?_;refine D7 [7,8] ?_;refine h_ 16 rfl i6 ?_;refine c_ rfl (aT (x.o.a6A.getD 0 0) v6) (fun h hh _=>u.g.le hh) rfl ?_;refine D7 [17,18,19,20,21] ?_
    rotate_left 1
    all_goals (refine x6 ?_)
    all_goals exact y7 ({x.r with code:=QX++T1 x.o.val++[32]++T1 (x.o.a6A.getD 0 0)},s,sl,[],(y.da,y.dc),F) ⟨l9.le_refl _,by unfold O9;rw[zb e7,zr M];exact⟨rfl,by rw[show vd x=QX++T1 x.o.val++[32]++T1 (x.o.a6A.getD 0 0) from zb w4],rfl⟩,qy,D,zp _⟩ rfl (fun w n=>by
     obtain⟨xb,xc,xk,xm,xo,xy,y2,y3,z0,z2,u0,u1,u2,xr,xz⟩:=x;obtain rfl:xz=L0:=hz;simp only[C7,jk];exact D3 (A:=[_,_,_,_]) (J:=[]) tk n)
   ·have v7:x.o.a6A=[]:=js (qu h);refine x6 ?_;exact y7 (x.r,s,sl,[],(y.da,y.dc),F) ⟨l9.le_refl _,by unfold O9;rw[zb e7,zr M];exact⟨rfl,by rw[show vd x=x.r.code from zr v7],rfl⟩,qy,D,zp _⟩ rfl h0
  have M:¬x.c.kind=14:=zu q8.symm;refine x6 ?_;have h6:∀(t:l9) (v:Value) (A:List As),x.c.kind=8\/x.c.kind=9->OW g x s sl d y t.heap v A->F.le t->∃(r:RR) (k:SE) (f:SL) (l:List RM) (o:AC),v=.tuple #[]/\(O9 x s r k (l.map Prod.fst)/\(∀m∈l,gn m t.heap)/\P4 k f t.heap/\l.length<=200000)/\A++R=C8 g {x with r:=r,z:=L0}::l6 f.ra k.a6y.a6x f.rc::F9 x.b k f d (C7 y l o.1 o.2)::x4 o.1 (y.rl++l) o.2::(T6 l++R):=fun t v A hk ⟨hv,ho⟩ v5=>by
   have k0:P4 s sl t.heap:=Mn.le v5.heap D;rcases ho with⟨hn,a,c,V⟩|⟨b,ra,rc,fa,fc,a,c,hb,V⟩
   ·refine⟨qK x.c.tag,s,sl,[],(a,c),hv,⟨?_,qy,k0,zp _⟩,by rw[V];rfl⟩;unfold O9;rw[zb e7,zb M,zr hk];exact .inl ⟨hn,rfl,rfl,rfl⟩
   ·refine⟨{x.r with code:=aU x.c.kind},{s with a6y:=R4 b,a6z:=2,ro:=decide (x.c.kind=9)},{sl with ra:=ra,rc:=rc},mL b fa fc,(a,c),hv,⟨?_,fun m S=>?_,⟨k0.a6A,k0.cmd⟩,by simp⟩,?_⟩
    ·unfold O9;rw[zb e7,zb M,zr hk];exact .inr ⟨b,hb,rfl,rfl,rfl⟩
    ·rcases jv.1 S with rfl|S
     ·exact .inr ⟨fa,fc,rfl⟩
     ·simp at S;rcases S with rfl|rfl|rfl|rfl<;>exact .inl ⟨⟨rfl,n9.nil _ _,n9.nil _ _,n9.nil _ _,qy⟩,rfl,rfl⟩
    ·rw[V,Jl];obtain⟨xb,xc,xk,xm,xo,xy,y2,y3,z0,z2,u0,u1,u2,xr,xz⟩:=x;obtain rfl:xz=L0:=hz;rfl
  refine D1 ?_;refine f_ ((q_ rfl rfl).eq (v':=.bool b8) (qn ((qz).trans h8.symm))) ?_;refine u6 ?_
  cases b8
  case true=>
   have e8:x.c.kind=8:=zy h8.symm;refine u6 ?_;refine B_ (sZ g x s sl d y hx.ok hz hx.ml qb) u ?_;intro v A t p U;obtain⟨r,k,f,l,o,rfl,⟨h1,h2,h3,h4⟩,V⟩:=h6 t v A (.inl e8) U p;refine z_ (H':=C8 g {x with r:=r,z:=L0}::l6 f.ra k.a6y.a6x f.rc::F9 x.b k f d (C7 y l o.1 o.2)::x4 o.1 (y.rl++l) o.2::(T6 l++R)) (fun w n=>by rw[<-V];exact n) ?_;refine x6 ?_;exact y7 (r,k,f,l,o,t) ⟨p,h1,h2,h3,h4⟩ rfl i_
  have e8:¬x.c.kind=8:=zu h8.symm;refine D1 ?_;refine f_ ((q_ rfl rfl).eq (v':=.bool b9) (qn ((qz).trans h9.symm))) ?_;refine u6 ?_
  cases b9
  case true=>
   have e9:x.c.kind=9:=zy h9.symm;refine u6 ?_;refine B_ (sZ g x s sl d y hx.ok hz hx.ml qb) u ?_;intro v A t p U;obtain⟨r,k,f,l,o,rfl,⟨h1,h2,h3,h4⟩,V⟩:=h6 t v A (.inr e9) U p;refine z_ (H':=C8 g {x with r:=r,z:=L0}::l6 f.ra k.a6y.a6x f.rc::F9 x.b k f d (C7 y l o.1 o.2)::x4 o.1 (y.rl++l) o.2::(T6 l++R)) (fun w n=>by rw[<-V];exact n) ?_;refine x6 ?_;exact y7 (r,k,f,l,o,t) ⟨p,h1,h2,h3,h4⟩ rfl i_
  have e9:¬x.c.kind=9:=zu h9.symm;have Y:¬(x.c.kind=8\/x.c.kind=9):=fun h=>h.elim e8 e9;refine D1 ?_;refine f_ ((q_ rfl rfl).eq (v':=.bool v0) (qn ((qz).trans q9.symm))) ?_;refine u6 ?_
  cases v0
  case true=>
   have X:x.c.kind=12:=zy q9.symm;have k8:x.c.a6F.length<=2000000000:=hx.ok.c.pat;have v8:(R3 x.c.a6F).length<=2000000000:=(by rw[NM];exact k8);have a1:x.m.a6u.length<=8:=(by have:=hx.ml.a6u;simpa using this);refine I6 7 ?_;refine n8 (ι:=List RM×AC) (fun q=>q.1.length<=8/\∀m∈q.1,∃b∈x.m.s.a6u,m=(NO b.name,L0)) (fun _=>[(0,i8 g)]) (fun q=>C8 g x::l6 sl.ra s.a6y.a6x sl.rc::F9 x.b s sl d (C7 y q.1 q.2.1 q.2.2)::x4 q.2.1 (y.rl++q.1) q.2.2::R) ?_ ?_
   ·refine o0 ?_;refine o8 (ι:=Nat×List RM×AC) (fun i=>i.1<=x.m.a6u.length/\i.2.1.length<=i.1/\∀m∈i.2.1,∃b∈x.m.s.a6u,m=(NO b.name,L0)) (fun i=>[(0,i8 g),(78,.slice x.m.ba x.m.a6u.length x.m.bc),(79,r7 x.m.a6u.length),(80,r7 i.1)]) (fun i=>C8 g x::l6 sl.ra s.a6y.a6x sl.rc::F9 x.b s sl d (C7 y i.2.1 i.2.2.1 i.2.2.2)::x4 i.2.2.1 (y.rl++i.2.1) i.2.2.2::R) (fun i=>x.m.a6u.length-i.1) (0,[],(y.da,y.dc)) ⟨zp _,kp _,qy⟩ sub (fun w n=>by simp only[C7,jk];exact n) ?_;rintro⟨j,l,o⟩ ⟨hj,w5,T⟩;simp only at hj w5 T;refine T2 ?_ ?_<;>intro h
    ·have q1:j<x.m.a6u.length:=(by have:=zy h;omega);have x9:=p8 u.m.a6u o_ qp q1;have v9:x.m.a6u[j].x∈x.m.s.a6u:=Q5 (zm q1);have q3:x.m.a6u[j].name.length<=1000000:=(by have:=(hx.ml.box _ v9).name;show(x.m.a6u[j].x).name.length<=_;omega);refine I6 0 ?_;refine n8 (ι:=List RM×AC) (fun q=>q.1.length<=j+1/\∀m∈q.1,∃b∈x.m.s.a6u,m=(NO b.name,L0)) (fun _=>[(0,i8 g),(78,.slice x.m.ba x.m.a6u.length x.m.bc),(79,r7 x.m.a6u.length),(80,r7 j)]) (fun q=>C8 g x::l6 sl.ra s.a6y.a6x sl.rc::F9 x.b s sl d (C7 y q.1 q.2.1 q.2.2)::x4 q.2.1 (y.rl++q.1) q.2.2::R) ?_ ?_
     ·refine o0 ?_;refine D1 ?_;refine f_ (n5 rfl x9 rfl qb) ?_;refine r_ (p9 rfl (fun w n=>bK (C:=bR) (u.m.a6u.le n.keep) o_ qp q1 x7) (o_ _)) ?_;refine i7 rfl ?_;intro g3;refine u6 ?_;refine I6 0 ?_;refine n8 (ι:=Bool) (fun _=>True) (fun q=>[(3,i8 g3),(107,.bool q),(0,i8 g),(78,.slice x.m.ba x.m.a6u.length x.m.bc),(79,r7 x.m.a6u.length),(80,r7 j)]) (fun _=>BP g3 x.m.a6u[j]::C8 g x::l6 sl.ra s.a6y.a6x sl.rc::F9 x.b s sl d (C7 y l o.1 o.2)::x4 o.1 (y.rl++l) o.2::R) ?_ ?_
      ·obtain⟨q5,h5⟩:=o9 (decide (x.m.a6u[j].name=[73,78,66,79,88]))
       cases q5
       ·refine x6 ?_;refine D8 [4,6,10,17,20] [7] [C8 g x,BP g3 x.m.a6u[j]] 24 ?_;refine wd [0,1,2,3,4,5,6] ?_;refine h_ 7 rfl i6 ?_;refine e_ (C:=[]) (nW x.c.a6F x.m.a6u[j].name k8 q3) qw ?_;rintro v A ⟨⟨q,rfl⟩,rfl⟩;cases q;rotate_left 1;(refine G5 ?_;refine dU (.inr (bw G3)) ?_;refine wd [8,9,10] ?_;(first|refine s_ 11 ?_|refine t_ 11 ?_);refine wd [12,13,14,15,16,17,19,20] ?_;refine h_ 18 rfl i6 ?_;(first|refine U4 rfl rfl rfl rfl rfl rfl rfl ?_|refine Y_ rfl rfl rfl rfl rfl rfl ?_);refine G5 ?_;refine dU (.inr (bw G3)) ?_;refine h_ 21 rfl i6 ?_;(first|refine U4 rfl rfl rfl rfl rfl rfl rfl ?_|refine Y_ rfl rfl rfl rfl rfl rfl ?_);refine G5 ?_;refine dU (.inl i6) ?_;refine wd [22,23] ?_;exact g_ true trivial (fun w n=>D3 (A:=[_,_,_,_,_]) (J:=[]) tk n));refine fy [8,9,10] ?_;(first|refine s_ 11 ?_|refine t_ 11 ?_|refine G4 11 rfl ((C9 rfl rfl).eq (v':=.bool false) (qn h5.symm)) rfl rfl rfl rfl rfl rfl i6 ?_);refine wd [12,13,14,15,16,17,19,20] ?_;refine h_ 18 rfl i6 ?_;(first|refine u_ ?_|(refine v_ ?_;refine c_ rfl (J_ x.c.a6F qb) qw rfl ?_));refine V2 ?_;refine h_ 21 rfl i6 ?_;(first|refine u_ ?_|(refine v_ ?_;refine e_ (C:=[]) (nW (R3 x.c.a6F) x.m.a6u[j].name v8 q3) qw ?_;rintro v A ⟨⟨q2,rfl⟩,rfl⟩));refine D7 [22,23] ?_;exact g_ _ trivial (fun w n=>D3 (A:=[_,_,_,_,_]) (J:=[]) tk n)
       ·refine x6 ?_;refine D8 [4,6,10,17,20] [7] [C8 g x,BP g3 x.m.a6u[j]] 24 ?_;refine wd [0,1,2,3,4,5,6] ?_;refine h_ 7 rfl i6 ?_;refine e_ (C:=[]) (nW x.c.a6F x.m.a6u[j].name k8 q3) qw ?_;rintro v A ⟨⟨q,rfl⟩,rfl⟩;cases q;rotate_left 1;(refine G5 ?_;refine dU (.inr (bw G3)) ?_;refine wd [8,9,10] ?_;(first|refine s_ 11 ?_|refine t_ 11 ?_);refine wd [12,13,14,15,16,17,19,20] ?_;refine h_ 18 rfl i6 ?_;(first|refine U4 rfl rfl rfl rfl rfl rfl rfl ?_|refine Y_ rfl rfl rfl rfl rfl rfl ?_);refine G5 ?_;refine dU (.inr (bw G3)) ?_;refine h_ 21 rfl i6 ?_;(first|refine U4 rfl rfl rfl rfl rfl rfl rfl ?_|refine Y_ rfl rfl rfl rfl rfl rfl ?_);refine G5 ?_;refine dU (.inl i6) ?_;refine wd [22,23] ?_;exact g_ true trivial (fun w n=>D3 (A:=[_,_,_,_,_]) (J:=[]) tk n));refine fy [8,9,10] ?_;(first|refine s_ 11 ?_|refine t_ 11 ?_|refine G4 11 rfl ((C9 rfl rfl).eq (v':=.bool true) (qn h5.symm)) rfl rfl rfl rfl rfl rfl i6 ?_);refine wd [12,13,14,15,16,17,19,20] ?_;refine h_ 18 rfl i6 ?_;(first|refine u_ ?_|(refine v_ ?_;refine c_ rfl (J_ x.c.a6F qb) qw rfl ?_));refine V2 ?_;refine h_ 21 rfl i6 ?_;(first|refine u_ ?_|(refine v_ ?_;refine e_ (C:=[]) (nW (R3 x.c.a6F) x.m.a6u[j].name v8 q3) qw ?_;rintro v A ⟨⟨q2,rfl⟩,rfl⟩));refine D7 [22,23] ?_;exact g_ _ trivial (fun w n=>D3 (A:=[_,_,_,_,_]) (J:=[]) tk n)
      intro a2 _;refine O_ ?_ ?_<;>intro h
      ·refine x6 ?_;refine D8 [3,5] [7] [C8 g x,BP g3 x.m.a6u[j]] 8 ?_;refine wd [0,1,2,3,4,5] ?_;refine w_ 6 rfl (A2 (ps:=[(0,.const (.int .i64 11)),(8,.tmp 113)]) (vs:=[(0,.int .i64 11),(8,B x.m.a6u[j].name)]) (cells:=(tM (NO x.m.a6u[j].name) L0).toArray) rfl i6) ?_;refine h_ 7 rfl i6 ?_;refine e_ (X2 x.b s sl d (C7 y l o.1 o.2) (NO x.m.a6u[j].name) L0 (by simp only[zg];omega)) qw ?_;rintro v A ⟨rfl,a9,c9,rfl⟩;refine D7 [] ?_;rw[show G1 (C7 y l o.1 o.2) (NO x.m.a6u[j].name,L0) a9 c9=C7 y (l++[(NO x.m.a6u[j].name,L0)]) a9 c9 from by simp[G1,C7]];exact g_ (l++[(NO x.m.a6u[j].name,L0)],a9,c9) ⟨by rw[zg];simp only[z1,kx];omega,fun m S=>by rcases kw.1 S with S|S;exact T m S;exact⟨_,v9,z7.1 S⟩⟩ (fun w n=>D3 (A:=[_,_,_,_]) (J:=[_]) tk n)
      ·refine x6 ?_;exact g_ (l,o) ⟨by simp only;omega,T⟩ (fun w n=>D3 (A:=[_,_,_,_]) (J:=[_]) tk n)
     rintro⟨l2,o2⟩ ⟨w0,w1⟩;simp only at w0 w1;refine A5 ?_;exact l8 (i:=(j,l,o)) (j+1,l2,o2) ⟨q1,w0,w1⟩ qg sub i_
    ·refine x6 ?_;exact g_ (l,o) ⟨by simp only;omega,T⟩ i_
   rintro⟨l,o⟩ ⟨w2,T⟩;simp only at w2 T;have q4:∀h:l_,∀m∈l,fQ m.1 m.2 h/\zD m.2:=fun h m S=>by
    obtain⟨b,hb,rfl⟩:=T m S;exact⟨⟨rfl,n9.nil _ _,n9.nil _ _,n9.nil _ _,qy⟩,rfl,rfl⟩
   refine x6 ?_;exact y7 (x.r,s,sl,l,o,F) ⟨l9.le_refl _,by
    unfold O9;rw[zb e7,zb M,zb Y,zr X];exact⟨rfl,rfl,by rw[kg];exact w2,fun q U=>by obtain⟨m,S,rfl⟩:=jr.1 U;obtain⟨b,hb,rfl⟩:=T m S;exact⟨b,hb,rfl⟩⟩,fun m S=>.inl (q4 _ m S),D,by simp only;omega⟩ rfl (fun w n=>by rw[q0,nX (q4 F.heap)];exact n)
  have X:¬x.c.kind=12:=zu q9.symm;refine D1 ?_;refine f_ ((q_ rfl rfl).eq (v':=.bool v1) (qn ((qz).trans x0.symm))) ?_;refine u6 ?_
  cases v1
  case true=>
   have Z:x.c.kind=13:=zy x0.symm;refine u6 ?_;refine B_ (EV g x s sl d y hx.ok hz hx.ml qb) ⟨u,D⟩ ?_;intro v A t p U;obtain⟨r,k,f,l,o,rfl,⟨h1,h2,h3,h4⟩,V⟩:=x5 _ t v A (fun r k l h=>by unfold O9;rw[zb e7,zb M,zb Y,zb X,zr Z];exact⟨h,by rcases h.2 with⟨_,h⟩|⟨_,_,_,h,_⟩<;>rw[h]<;>simp⟩) U p;refine z_ (H':=C8 g {x with r:=r,z:=L0}::l6 f.ra k.a6y.a6x f.rc::F9 x.b k f d (C7 y l o.1 o.2)::x4 o.1 (y.rl++l) o.2::(T6 l++R)) (fun w n=>by rw[<-V];exact n) ?_;refine x6 ?_;exact y7 (r,k,f,l,o,t) ⟨p,h1,h2,h3,h4⟩ rfl i_
  have Z:¬x.c.kind=13:=zu x0.symm;refine D1 ?_;refine f_ ((q_ rfl rfl).eq (v':=.bool v2) (qn ((qz).trans x1.symm))) ?_;refine u6 ?_
  cases v2
  case true=>
   have k9:x.c.kind=15:=zy x1.symm;refine u6 ?_;refine B_ (EU g x s sl d y hx.ok qb qb) u ?_;rintro v A t p ⟨rfl,q7,m,z,a,c,hn,q4,w7,rfl⟩;refine x6 ?_;exact y7 (x.r,s,sl,[(Cl q7 m,z)],(a,c),t) ⟨p,by unfold O9;rw[zb e7,zb M,zb Y,zb X,zb Z,zr k9];exact⟨rfl,rfl,q7,m,rfl⟩,(fun q U=>by rw[z7.1 U];exact .inl ⟨q4,w7⟩),Mn.le p.heap D,by simp⟩ rfl (fun w n=>by rw[q0];exact n)
  have k9:¬x.c.kind=15:=zu x1.symm;refine D1 ?_;refine f_ ((q_ rfl rfl).eq (v':=.bool v3) (qn ((qz).trans x2.symm))) ?_;refine u6 ?_
  cases v3
  case true=>
   have q6:x.c.kind=16:=zy x2.symm;refine u6 ?_;refine B_ (Ak g x s sl d y hx.ok hz qb y1 (by have:=hx.ok.c.a6B;omega) qb) ⟨u,D⟩ ?_;intro v A t p U;obtain⟨r,k,f,l,o,rfl,⟨h1,h2,h3,h4⟩,V⟩:=x5 _ t v A (fun r k l h=>by unfold O9;rw[zb e7,zb M,zb Y,zb X,zb Z,zb k9,zr q6];exact⟨h,by have:=h.1;omega⟩) U p;refine z_ (H':=C8 g {x with r:=r,z:=L0}::l6 f.ra k.a6y.a6x f.rc::F9 x.b k f d (C7 y l o.1 o.2)::x4 o.1 (y.rl++l) o.2::(T6 l++R)) (fun w n=>by rw[<-V];exact n) ?_;refine x6 ?_;exact y7 (r,k,f,l,o,t) ⟨p,h1,h2,h3,h4⟩ rfl i_
  have q6:¬x.c.kind=16:=zu x2.symm;refine D1 ?_;refine f_ ((q_ rfl rfl).eq (v':=.bool v4) (qn ((qz).trans x3.symm))) ?_;refine u6 ?_
  cases v4
  case true=>
   have y0:x.c.kind=17:=zy x3.symm;refine u6 ?_;refine B_ (EW g x s sl d y hx.ok hz qb y1 hx.uo.1 hx.mo qb) ⟨u,D⟩ ?_;intro v A t p U;obtain⟨r,k,f,l,o,rfl,⟨h1,h2,h3,h4⟩,V⟩:=x5 _ t v A (fun r k l h=>by unfold O9;rw[zb e7,zb M,zb Y,zb X,zb Z,zb k9,zb q6,zr y0];exact⟨h,by have:=h.1;omega⟩) U p;refine z_ (H':=C8 g {x with r:=r,z:=L0}::l6 f.ra k.a6y.a6x f.rc::F9 x.b k f d (C7 y l o.1 o.2)::x4 o.1 (y.rl++l) o.2::(T6 l++R)) (fun w n=>by rw[<-V];exact n) ?_;refine x6 ?_;exact y7 (r,k,f,l,o,t) ⟨p,h1,h2,h3,h4⟩ rfl i_
  have y0:¬x.c.kind=17:=zu x3.symm;refine x6 ?_;exact y7 (x.r,s,sl,[],(y.da,y.dc),F) ⟨l9.le_refl _,by unfold O9;rw[zb e7,zb M,zb Y,zb X,zb Z,zb k9,zb q6,zb y0];exact qm,qy,D,zp _⟩ rfl h0
 rintro r k f l o t ⟨p,h1,h2,h3,h4⟩;refine I4 (A:=C8 g {x with r:=r,z:=L0}::l6 f.ra k.a6y.a6x f.rc::(P3 x.b k f d (C7 y l o.1 o.2)++T6 l)) (v:=.tuple #[]) p ⟨rfl,r,k,f,l,o.1,o.2,h1,h2,h3,h4,rfl⟩ ?_;exact m6 rfl _ qh i_
abbrev iz:Bs:=[116,104,101,32,115,101,115,115,105,111,110,32,105,115,32,103,111,110,101]
abbrev cP:Bs:=[116,104,101,32,109,97,105,108,98,111,120,32,105,115,32,103,111,110,101]
abbrev vq(x:AN):Bool:=decide (x.c.kind=8)||decide (x.c.kind=9)
abbrev iA(x:AN):Bool:=decide (x.c.kind=16)||decide (x.c.kind=17)||decide (x.c.kind=15)
abbrev Cu(x:AN)(s:SE):SE:=if(vq x||decide (x.c.kind=4))=true then{s with a6z:=1,a6y:=AT,ro:=false} else s
abbrev Cv(x:AN):AN:={x with r:=ep x.c.tag,z:=L0}
def ik(x:AN)(s s':SE)(d':DD):Prop:=
 if x.o.code=16 then s'={s with a6z:=3}/\d'={G7 with a6I:=[L2 iz],close:=true}
 else if x.c.kind=3 then s'={s with a6z:=3}/\d'={G7 with a6I:=[L2 dQ,ep x.c.tag],close:=true}
 else∃r s1 l1 s2 l2,(if x.o.code=0 then O9 (Cv x) (Cu x s) r s1 l1 else s1=Cu x s/\l1=[]/\r=nB x.c.tag (mT x.c.kind x.o.code).1 (mT x.c.kind x.o.code).2)
  /\(if s1.a6z=2/\vq x=false/\x.bx.val≠0 then s2={s1 with a6y:=(aa s1.a6y x.bx.x (!iA x) s1.cond).1}/\l2=(aa s1.a6y x.bx.x (!iA x) s1.cond).2 else s2=s1/\l2=[])
  /\(if s1.a6z=2/\vq x=false/\x.bx.val=0 then s'={s2 with a6z:=3}/\d'={G7 with a6I:=l1++l2++[r,L2 cP],close:=true} else s'=s2/\d'={G7 with a6I:=l1++l2++[r]})
def a2x(g:Nat)(x:AN)(s:SE)(h:l_)(v:Value)(A:List As):Prop:=v=.tuple #[]/\∃x' s' d' sl' y',x'.b=x.b/\ik x s s' d'/\d'.a6I=y'.rl.map Prod.fst/\(∀m∈y'.rl,gn m h)/\P4 s' sl' h/\y'.ql=du/\y'.wa=none/\y'.wc=0/\A=C8 g x'::l6 sl'.ra s'.a6y.a6x sl'.rc::(P3 x'.b s' sl' d' y'++T6 y'.rl)
def tf{x:AN}{s c:SE}{r:RR}{l:List RR}(h:O9 x s r c l)(f:V5 x.m.s)(a:s.a6y.a6x.length<=50000):c.a6y.a6x.length<=50000:=by
 have d:∀e,uY x s e r c l->c.a6y.a6x.length<=50000:=fun e h=>by
  obtain⟨_,⟨g,rfl,i⟩,_⟩:=h;have:=i.len;show g.a6x.length<=_;omega
 unfold O9 at h;split at h
 ·rw[h.1];exact a
 split at h
 ·rw[h.1];exact a
 split at h
 ·rcases h with⟨_,rfl,_⟩|⟨b,j,rfl,_⟩
  ·exact a
  ·have:=(f.box b (cp j)).lts;show(R4 b).a6x.length<=_;simp only[R4,kg];omega
 split at h
 ·rw[h.1];exact a
 split at h
 ·rw[h.1];exact a
 split at h
 ·rw[h.1];exact a
 split at h
 ·exact d _ h
 split at h
 ·exact d _ h
 ·rw[h.1];exact a
def QY{x:AN}{s a:SE}{r:RR}{l:List RR}(h:O9 x s r a l)(hp:x.r.values=[]/\x.r.nums=[]/\x.r.a6J=[]):r.values=[]/\r.nums=[]/\r.a6J=[]:=by
 have d:∀e,uY x s e r a l->r.values=[]/\r.nums=[]/\r.a6J=[]:=fun e h=>by
  obtain⟨_,_,h,_⟩:=h;rcases h with⟨c,rfl⟩|rfl
  ·exact hp
  ·exact qm
 unfold O9 at h;split at h
 ·rw[h.2.1];exact hp
 split at h
 ·rw[h.2.1];exact hp
 split at h
 ·rcases h with⟨_,_,rfl,_⟩|⟨b,f,_,rfl,_⟩
  ·exact qm
  ·exact hp
 split at h
 ·rw[h.2.1];exact hp
 split at h
 ·rcases h.2 with⟨rfl,_⟩|⟨rfl,_⟩
  ·exact qm
  ·exact hp
 split at h
 ·rw[h.2.1];exact hp
 split at h
 ·exact d _ h
 split at h
 ·exact d _ h
 ·rw[h.2.1];exact hp
def kX(b:BX):∀(k:Nat) (a:List (Nat×Nat)),(az b k a).1.length<=a.length/\(az b k a).2.length<=k
 |0,a=>⟨kp _,kp _⟩
 |k+1,a=>by
  unfold az;split
  ·have:=kX b k a;exact⟨this.1,by omega⟩
  ·have:=kX b k (a.eraseIdx k);have c:(a.eraseIdx k).length<=a.length:=List.length_eraseIdx_le ..;exact⟨by simp only;omega,by simp only[z1];omega⟩
def ti(v:VW)(b:BX)(e c:Bool):(aa v b e c).2.length<=2*v.a6x.length+1:=by
 unfold aa;split
 ·exact zp _
 ·have h:=kX b v.a6x.length v.a6x;simp only;generalize hq:(if e=true then az b v.a6x.length v.a6x else(v.a6x,[]))=q;have a:q.1.length<=v.a6x.length/\q.2.length<=v.a6x.length:=by
   rw[<-hq];split
   ·exact h
   ·exact⟨kp _,zp _⟩
  have d:∀(f:((Nat×Nat)×Option LT)×Nat->Option RR),((q.1.map (Y5 b)).zipIdx.filterMap f).length<=v.a6x.length:=fun f=>by
   refine j9 (List.length_filterMap_le _ _) ?_;simp;exact a.1
  rw[zg,zg];have g:=d (fun h=>h.1.2.map fun x=>tR x (h.2+1) c);split<;>simp only[kx,z1]<;>omega
def QZ(g:Nat)(x:AN)(s:SE)(sl:SL)(hx:NN x s)(hf:∀lm∈x.bx.ls,lm.t.a6J.length<=16):
  Cm prog 78 [i8 g] (fun h=>cZ x h/\P4 s sl h) (C8 g x::l6 sl.ra s.a6y.a6x sl.rc::P3 x.b s sl G7 N9) (a2x g x s):=by
 obtain⟨v3,q3⟩:=o9 (decide (x.o.code=16));obtain⟨c0,u1⟩:=o9 (decide (x.o.code=0));obtain⟨b3,h3⟩:=o9 (decide (x.c.kind=3));obtain⟨b8,h8⟩:=o9 (decide (x.c.kind=8));obtain⟨b9,h9⟩:=o9 (decide (x.c.kind=9));obtain⟨b4,h4⟩:=o9 (decide (x.c.kind=4));obtain⟨v4,v5⟩:=o9 (decide (x.c.kind=15));obtain⟨v6,v7⟩:=o9 (decide (x.c.kind=16));obtain⟨v8,v9⟩:=o9 (decide (x.c.kind=17));obtain⟨th,q4⟩:=o9 (decide (x.bx.val=0));refine A0 213 func78 rfl rfl rfl ?_;rintro F R ⟨S,h0⟩;refine I6 6 ?_;refine n8 (ι:=Unit) (fun _=>x.o.code≠16/\x.c.kind≠3) (fun _=>[(0,i8 g),(2,r7 x.c.kind)]) (fun _=>C8 g x::l6 sl.ra s.a6y.a6x sl.rc::F9 x.b s sl G7 N9::x4 none [] 0::R) ?_ ?_
 ·refine o0 ?_;refine al ?_;refine f_ ((q_ rfl rfl).eq (v':=.bool v3) (qn q3.symm)) ?_;refine u6 ?_
  cases v3
  case true=>
   have k8:x.o.code=16:=zy q3.symm;refine P1 ?_;refine e_ (tY x.b s sl G7 N9 iz qp) qw ?_;rintro v A ⟨rfl,a,c,rfl⟩;refine oK ?_;refine I4 (A:=C8 g x::l6 sl.ra s.a6y.a6x sl.rc::(P3 x.b {s with a6z:=3} sl {G7 with a6I:=[L2 iz],close:=true} (G1 N9 (L2 iz,L0) a c)++T6 [(L2 iz,L0)])) (v:=.tuple #[]) (l9.le_refl _) ⟨rfl,x,{s with a6z:=3},{G7 with a6I:=[L2 iz],close:=true},sl,G1 N9 (L2 iz,L0) a c,rfl,by unfold ik;rw[zr k8];exact qh,rfl,(fun m j=>by rw[z7.1 (show m∈[(L2 iz,L0)] from j)];exact .inl ⟨⟨rfl,n9.nil _ _,n9.nil _ _,n9.nil _ _,qy⟩,rfl,rfl⟩),⟨h0.a6A,h0.cmd⟩,rfl,rfl,rfl,rfl⟩ ?_;exact m6 rfl _ qh (fun w C=>D3 (A:=[_,_,F9 x.b {s with a6z:=3} sl {G7 with close:=true} (G1 N9 (L2 iz,L0) a c),x4 a [(L2 iz,L0)] c]) (J:=[]) tk C)
  have k8:¬x.o.code=16:=zu q3.symm;refine u6 ?_;refine f_ ((q_ rfl rfl).eq (v':=.bool b3) (qn ((qz).trans h3.symm))) ?_;refine u6 ?_
  cases b3
  case true=>
   have e3:x.c.kind=3:=zy h3.symm;refine x6 ?_;refine D8 [3,8] [9] [C8 g x] 10 ?_;refine wd [0,1,2,3,4,5,6,7,8] ?_;refine h_ 9 rfl i6 ?_;refine e_ (oX x.b s sl G7 N9 x.c.tag qp) qw ?_;rintro v A ⟨rfl,a,c,rfl⟩;refine D7 [] ?_;refine B4 ?_;refine I4 (A:=C8 g x::l6 sl.ra s.a6y.a6x sl.rc::(P3 x.b {s with a6z:=3} sl {G7 with a6I:=[L2 dQ,ep x.c.tag],close:=true} {N9 with da:=a,dc:=c,rl:=[(L2 dQ,L0),(ep x.c.tag,L0)]}++T6 [(L2 dQ,L0),(ep x.c.tag,L0)])) (v:=.tuple #[]) (l9.le_refl _) ⟨rfl,x,{s with a6z:=3},{G7 with a6I:=[L2 dQ,ep x.c.tag],close:=true},sl,{N9 with da:=a,dc:=c,rl:=[(L2 dQ,L0),(ep x.c.tag,L0)]},rfl,by unfold ik;rw[zb k8,zr e3];exact qh,rfl,(fun m j=>by simp at j;rcases j with rfl|rfl<;>exact .inl ⟨⟨rfl,n9.nil _ _,n9.nil _ _,n9.nil _ _,qy⟩,rfl,rfl⟩),⟨h0.a6A,h0.cmd⟩,rfl,rfl,rfl,rfl⟩ ?_;exact m6 rfl _ qh (fun w C=>D3 (A:=[_,_,F9 x.b {s with a6z:=3} sl {G7 with close:=true} {N9 with da:=a,dc:=c,rl:=[(L2 dQ,L0),(ep x.c.tag,L0)]},x4 a [(L2 dQ,L0),(ep x.c.tag,L0)] c]) (J:=[]) tk C)
  have e3:¬x.c.kind=3:=zu h3.symm;refine x6 ?_;exact g_ () ⟨k8,e3⟩ i_
 rintro _ ⟨k8,e3⟩;obtain⟨q,hq⟩:=o9 ((b8||b9));have D:vq x=q:=by rw[hq,h8,h9]
 refine x6 ?_;refine I6 0 ?_;refine x8 [(0,i8 g),(2,r7 x.c.kind),(3,.bool q)] (C8 g x::l6 sl.ra s.a6y.a6x sl.rc::F9 x.b s sl G7 N9::x4 none [] 0::R) ?_ ?_
 ·cases b8
  all_goals (
   refine u6 ?_;refine f_ ((q_ rfl rfl).eq (qn ((qz).trans h8.symm))) ?_;refine A5 ?_;(first|refine u_ ?_|(refine v_ ?_;refine f_ ((q_ rfl rfl).eq (v':=.bool b9) (qn ((qz).trans h9.symm))) ?_));refine A5 ?_)
  all_goals (subst hq;exact p_ sub i_)
 obtain⟨q2,k9⟩:=o9 ((q||b4));have T:Cu x s=if q2=true then{s with a6z:=1,a6y:=AT,ro:=false} else s:=by unfold Cu;rw[D,k9,h4]
 refine x6 ?_;refine I6 0 ?_;refine x8 [(0,i8 g),(2,r7 x.c.kind),(3,.bool q),(48,.bool q2)] (C8 g x::l6 sl.ra s.a6y.a6x sl.rc::F9 x.b s sl G7 N9::x4 none [] 0::R) ?_ ?_
 ·clear D T hq
  cases q
  all_goals (
   refine E8 ?_;(first|refine u_ ?_|(refine v_ ?_;refine f_ ((q_ rfl rfl).eq (v':=.bool b4) (qn ((qz).trans h4.symm))) ?_));refine u6 ?_)
  all_goals (subst k9;exact p_ sub i_)
 refine x6 ?_;refine n8 (ι:=SE×SL) (fun p=>p.1=Cu x s/\P4 p.1 p.2 F.heap) (fun _=>[(0,i8 g),(2,r7 x.c.kind),(3,.bool q)]) (fun p=>C8 g x::l6 p.2.ra p.1.a6y.a6x p.2.rc::F9 x.b p.1 p.2 G7 N9::x4 none [] 0::R) ?_ ?_
 ·refine p7 rfl ?_ ?_<;>intro h
  ·refine x6 ?_;refine D8 [3,7,11] [16,20,24] [C8 g x] 25 ?_;refine wd [0,1,2,3,4,5,6,7,8,9,10,11,12,13,14,15,16,17,18,19,20,21,22,23,24] ?_;exact g_ ({s with a6z:=1,a6y:=AT,ro:=false},{sl with ra:=none,rc:=0}) ⟨by rw[T,zr h],⟨h0.a6A,h0.cmd⟩⟩ (fun w C=>D3 (A:=[_,l6 none [] 0,F9 x.b {s with a6z:=1,a6y:=AT,ro:=false} {sl with ra:=none,rc:=0} G7 N9,_]) (J:=[l6 sl.ra s.a6y.a6x sl.rc]) tk (C.addNil 72 2))
  ·refine x6 ?_;exact g_ (s,sl) ⟨by rw[T,h];rfl,h0⟩ i_
 rintro⟨s0,q5⟩ ⟨u2,q6⟩;simp only at u2 q6;have u8:s0.a6y.a6x.length<=50000:=by rw[u2,T];split;exact zp _;exact hx.a6x
 obtain⟨O,n⟩:=o9 (Cv x);have y1:NN O s0:=by rw[n];exact⟨⟨hx.ok.ls,hx.ok.fl,hx.ok.bl,hx.ok.body,hx.ok.c⟩,hx.ml,u8,hx.us,hx.uo,hx.mo,hx.val⟩
 have w0:cZ O F.heap:=by rw[n];exact⟨S.g,S.c,S.m,S.o,S.bx,S.us,S.bl⟩
 have a0:O.z=L0:=by rw[n]
 have a1:O.b=x.b:=by rw[n]
 have a2:O.c=x.c:=by rw[n]
 have y2:O.o=x.o:=by rw[n]
 refine wk 10 ?_;refine C5 (H':=C8 g O::l6 q5.ra s0.a6y.a6x q5.rc::F9 O.b s0 q5 G7 N9::x4 none [] 0::R) (fun w C=>by rw[n];exact D3 (A:=[_,_,_,_]) (J:=[]) tk C) ?_;refine al ?_;refine f_ ((q_ rfl rfl).eq (v':=.bool c0) (qn (by rw[y2];exact u1.symm))) ?_;refine x6 ?_;refine bi (fun(r:RR) (s1:SE) (d:SL) (l:List RM) (o:AC) (F1:l9)=>F.le F1/\(if x.o.code=0 then O9 O s0 r s1 (l.map Prod.fst) else s1=s0/\l.map Prod.fst=[]/\r=nB x.c.tag (mT x.c.kind x.o.code).1 (mT x.c.kind x.o.code).2)/\(∀m∈l,gn m F1.heap)/\P4 s1 d F1.heap/\l.length<=200000) (fun _ _ _ _ _ _=>[(0,i8 g),(2,r7 x.c.kind),(3,.bool q)]) (fun _ _ _ _ _ F1=>F1) (fun r s1 d l o _=>C8 g {O with r:=r,z:=L0}::l6 d.ra s1.a6y.a6x d.rc::F9 O.b s1 d G7 (C7 N9 l o.1 o.2)::x4 o.1 l o.2::(T6 l++R)) ?_ ?_
 ·refine p7 rfl ?_ ?_<;>intro h
  ·have e0:x.o.code=0:=zy (u1.symm.trans h);refine u6 ?_;refine B_ (NP g O s0 q5 G7 N9 y1 a0 qp) ⟨w0,q6⟩ ?_;rintro v A F1 q7 ⟨rfl,r,s1,d,l,a,c,h1,h2,h3,h4,rfl⟩;refine x6 ?_;exact y7 (r,s1,d,l,(a,c),F1) ⟨q7,by rw[zr e0];exact h1,h2,h3,h4⟩ rfl i_
  ·have e0:¬x.o.code=0:=zu (u1.symm.trans h);refine wk 7 ?_;refine c_ rfl (Af x.c.kind O.o.code) qw rfl ?_;refine A5 ?_;refine e_ (eI g O (mT x.c.kind O.o.code).1 (mT x.c.kind O.o.code).2) qw ?_;rintro v A ⟨rfl,rfl⟩;refine x6 ?_;exact y7 (nB O.c.tag (mT x.c.kind O.o.code).1 (mT x.c.kind O.o.code).2,s0,q5,[],(none,0),F) ⟨l9.le_refl _,by rw[zb e0,a2,y2];exact qm,qy,q6,zp _⟩ rfl (fun w C=>D3 (A:=[_,_,_,_]) (J:=[]) tk C)
 rintro r s1 d l o F1 ⟨q7,M,a6,q8,b6⟩;have b1:s1.a6y.a6x.length<=50000:=by
  by_cases e0:x.o.code=0
  ·rw[zr e0] at M;exact tf M y1.ml u8
  ·rw[zb e0] at M;rw[M.1];exact u8
 have w1:cZ x F1.heap:=Mn.le q7.heap S;obtain⟨i,q9⟩:∃i:AN,i={O with r:=r,z:=L0}:=⟨_,rfl⟩;have U:i.bx=x.bx:=by rw[q9,n]
 have a7:i.r=r:=by rw[q9]
 have a8:i.z=L0:=by rw[q9]
 have v0:i.b=x.b:=by rw[q9,n]
 obtain⟨st,q0⟩:=o9 (decide (s1.a6z=2));rw[<-q9];refine x6 ?_;refine C5 (H':=C8 g i::l6 d.ra s1.a6y.a6x d.rc::F9 i.b s1 d G7 (C7 N9 l o.1 o.2)::x4 o.1 l o.2::(T6 l++R)) (fun w C=>by rw[v0,<-a1];exact C) ?_;refine al ?_;refine f_ ((M2 rfl rfl).eq (v':=.bool (!th)) (jh (fun b=>Value.bool (!b)) ((kz.2 (by rw[U];omega)).trans q4.symm))) ?_;refine u6 ?_;refine I6 0 ?_;refine x8 [(0,i8 g),(2,r7 x.c.kind),(3,.bool q),(4,.bool (!th)),(120,.bool (st&&!q&&!th))] (C8 g i::l6 d.ra s1.a6y.a6x d.rc::F9 i.b s1 d G7 (C7 N9 l o.1 o.2)::x4 o.1 l o.2::(T6 l++R)) ?_ ?_
 ·clear D T hq k9
  cases st<;>cases q
  all_goals (
   refine wk 8 ?_;refine f_ ((q_ rfl rfl).eq (qn ((qz).trans q0.symm))) ?_;refine wk 7 ?_)
  all_goals exact p_ sub i_
 refine x6 ?_;refine bi (fun(k:SE) (f:SL) (y:List RM) (t:AC) (_:Unit) (F2:l9)=>F1.le F2/\(if s1.a6z=2/\vq x=false/\x.bx.val≠0 then k={s1 with a6y:=(aa s1.a6y x.bx.x (!iA x) s1.cond).1}/\y.map Prod.fst=(aa s1.a6y x.bx.x (!iA x) s1.cond).2 else k=s1/\y.map Prod.fst=[])/\(∀m∈y,fQ m.1 m.2 F2.heap/\zD m.2)/\P4 k f F2.heap/\y.length<=200000) (fun _ _ _ _ _ _=>[(0,i8 g),(2,r7 x.c.kind),(3,.bool q),(4,.bool (!th))]) (fun _ _ _ _ _ F2=>F2) (fun k f y t _ _=>C8 g i::l6 f.ra k.a6y.a6x f.rc::F9 i.b k f G7 (C7 N9 (l++y) t.1 t.2)::x4 t.1 (l++y) t.2::(T6 l++R)) ?_ ?_
 ·refine p7 rfl ?_ ?_<;>intro h
  ·have h':st=true/\q=false/\th=false:=by
    clear D T hq k9
    cases st<;>cases q<;>cases th<;>simp_all
   have x0:s1.a6z=2/\vq x=false/\x.bx.val≠0:=⟨zy (q0.symm.trans h'.1),D.trans h'.2.1,zu (q4.symm.trans h'.2.2)⟩;obtain⟨rd,z0⟩:=o9 ((v6||v8||v4));have x3:iA x=rd:=(by rw[z0,v7,v9,v5]);refine I6 0 ?_;refine x8 [(0,i8 g),(2,r7 x.c.kind),(3,.bool q),(4,.bool (!th)),(5,.bool rd)] (C8 g i::l6 d.ra s1.a6y.a6x d.rc::F9 i.b s1 d G7 (C7 N9 l o.1 o.2)::x4 o.1 l o.2::(T6 l++R)) ?_ ?_
   ·clear x3
    cases v6<;>cases v8
    all_goals (
     refine u6 ?_;refine f_ ((q_ rfl rfl).eq (qn ((qz).trans v7.symm))) ?_;refine A5 ?_;(first|refine u_ ?_|(refine v_ ?_;refine f_ ((q_ rfl rfl).eq (qn ((qz).trans v9.symm))) ?_));refine E8 ?_;(first|refine u_ ?_|(refine v_ ?_;refine f_ ((q_ rfl rfl).eq (v':=.bool v4) (qn ((qz).trans v5.symm))) ?_));refine A5 ?_)
    all_goals (subst z0;exact p_ sub i_)
   refine x6 ?_;refine C6 (Z:=[l6 d.ra s1.a6y.a6x d.rc]) tk fun F2 V ⟨bs,hb⟩=>?_;have z2:n9 F2.heap d.ra (S_ s1.a6y.a6x):=A_.rd hb ud;clear hb;have w2:eZ i.bx F2.heap:=(by rw[U];exact Mn.le V.heap w1.bx);have X:=MR s1.a6y d.ra d.rc i.bx (!rd) s1.cond qb (by rw[U];have:=hx.ok.ls;omega) (by rw[U];exact hf);obtain⟨e,he⟩:=o9 (aa s1.a6y i.bx.x (!rd) s1.cond);have v1:=ti s1.a6y i.bx.x (!rd) s1.cond;rw[<-he] at X v1;refine I6 0 ?_;refine bi (fun(p:AC) (Q:List RM) (t:AC) (g6:Nat) (_:Unit) (F3:l9)=>F2.le F3/\Q.map Prod.fst=e.2/\∀m∈Q,fQ m.1 m.2 F3.heap/\zD m.2) (fun _ Q t g6 _ _=>[(0,i8 g),(2,r7 x.c.kind),(3,.bool q),(4,.bool (!th)),(6,i8 g6),(7,.slice t.1 Q.length t.2)]) (fun _ _ _ _ _ F3=>F3) (fun p Q t g6 _ _=>wX g6 e.1 p::l6 p.1 e.1.a6x p.2::x4 t.1 Q t.2::C8 g i::F9 i.b s1 d G7 (C7 N9 l o.1 o.2)::x4 o.1 l o.2::(T6 l++R)) ?_ ?_
   ·refine x6 ?_;refine D8 [3,7,11,17,21] [22,26,27] [C8 g i,F9 i.b s1 d G7 (C7 N9 l o.1 o.2)] 29 ?_;refine wd [0,1,2,3,4,5,6,7,8,9,10,11,12,13,14,15,16,17,18,19,20,21] ?_;refine S4 22 26 rfl rfl i6 ?_ ?_;refine G6 X ⟨z2,w2⟩ ?_;rintro v A Z Fz hz ⟨p,Q,t,rfl,rfl,x5,Y⟩;refine D7 [23,24,25] ?_;refine h_ 26 rfl i6 ?_;refine i7 rfl ?_;intro g6;refine D7 [27,28] ?_
    rotate_left 1
    refine i7 rfl ?_;intro g6;refine V2 ?_;refine h_ 22 rfl i6 ?_;refine G6 X ⟨z2,w2⟩ ?_;rintro v A Z Fz hz ⟨p,Q,t,rfl,rfl,x5,Y⟩;refine D7 [23,24,25,27,28] ?_
    rotate_left 1
    all_goals (refine x6 ?_)
    all_goals exact cO (Rr:=wX g6 e.1 p::l6 p.1 e.1.a6x p.2::x4 t.1 Q t.2::C8 g i::F9 i.b s1 d G7 (C7 N9 l o.1 o.2)::x4 o.1 l o.2::(T6 l++R)) Fz hz (fun w C=>D3 (A:=[_,_,_,_,_,_]) (J:=[]) tk C) fun F3 x9 b0=>y7 (p,Q,t,g6,(),F3) ⟨x9,x5,fun m j=>⟨(Y m j).1.le b0,(Y m j).2⟩⟩ rfl i_
   rintro p Q t g6 _ F3 ⟨x9,x5,Y⟩;have b2:Q.length<=2*s1.a6y.a6x.length+1:=(by rw[<-x5,kg] at v1;exact v1);refine x6 ?_;refine D8 [3,4] [8] [C8 g i,wX g6 e.1 p] 9 ?_;refine wd [0,1,2,3,4,5,6,7,8] ?_;refine x6 ?_;refine D8 [3,7,11] [13,17] [C8 g i,F9 i.b {s1 with a6y:=e.1} {d with ra:=p.1,rc:=p.2} G7 (C7 N9 l o.1 o.2)] 18 ?_;refine wd [0,1,2,3,4,5,6,7,8,9,10,11,12] ?_;refine h_ 13 rfl i6 ?_;refine u7 wm (l:=l) (m:=Q) aB jT (by show(l.length+Q.length)*160<=_;omega) ?_;intro a c _;refine fy [14,15,16,17] ?_;exact y7 ({s1 with a6y:=e.1},{d with ra:=p.1,rc:=p.2},Q,(a,c),(),F3) ⟨V.trans x9,by rw[zr x0,x3,<-U,<-he];exact⟨rfl,x5⟩,Y,⟨(Mn.le (V.trans x9).heap q8).a6A,(Mn.le (V.trans x9).heap q8).cmd⟩,by simp only;omega⟩ rfl (fun w C=>D3 (A:=[_,_,_,_]) (J:=[_,_]) tk C)
  ·refine x6 ?_;have h5:¬(s1.a6z=2/\vq x=false/\x.bx.val≠0):=fun⟨e1,e2,e3⟩=>by
    rw[show st=true from q0.trans (ju e1),show q=false from D.symm.trans e2,show th=false from q4.trans (Qk e3)] at h
    cases h
   exact y7 (s1,d,[],o,(),F1) ⟨l9.le_refl _,by rw[zb h5];exact qh,qy,q8,zp _⟩ rfl (fun w C=>by
    rw[jk];exact C)
 rintro k f y t _ F2 ⟨V,X,Y,y0,b5⟩;have w3:k.a6z=s1.a6z:=by
  split at X
  ·rw[X.1]
  ·rw[X.1]
 have h7:r.values=[]/\r.nums=[]/\r.a6J=[]:=by
  by_cases e0:x.o.code=0
  ·rw[zr e0] at M;exact QY M (by rw[n];exact qm)
  ·rw[zb e0] at M;rw[M.2.2];exact qm
 have w4:∀h,fQ r L0 h:=fun h=>⟨h7.1,by rw[h7.2.1];exact n9.nil _ _,by rw[h7.2.2];exact n9.nil _ _,n9.nil _ _,qy⟩;have w5:T6 (l++y)=T6 l:=by rw[kW,nX Y,jk]
 have u0:T6 (l++y++[(r,L0)])=T6 l:=by rw[kW,w5];unfold T6;simp[h7.2.2]
 have w7:T6 (l++y++[(r,L0)]++[(L2 cP,L0)])=T6 l:=by rw[kW,u0];unfold T6;simp
 have w9:∀m∈l++y++[(r,L0)],gn m F2.heap:=fun m j=>by
  rcases kw.1 j with j|j
  ·rcases kw.1 j with j|j
   ·exact(a6 m j).le V.heap
   ·exact .inl (Y m j)
  ·rw[z7.1 j];exact .inl ⟨w4 _,rfl,rfl⟩
 have k0:∀(s':SE) (d':DD),(if s1.a6z=2/\vq x=false/\x.bx.val=0 then s'={k with a6z:=3}/\d'={G7 with a6I:=l.map Prod.fst++y.map Prod.fst++[r,L2 cP],close:=true} else s'=k/\d'={G7 with a6I:=l.map Prod.fst++y.map Prod.fst++[r]})->ik x s s' d':=fun s' d' h=>by
  unfold ik;rw[zb k8,zb e3];refine⟨r,s1,l.map Prod.fst,k,y.map Prod.fst,?_,X,h⟩;rw[n,u2] at M;exact M
 refine x6 ?_;refine D8 [3,7] [8] [C8 g i] 9 ?_;refine wd [0,1,2,3,4,5,6,7] ?_;refine h_ 8 rfl i6 ?_;refine e_ (X2 i.b k f G7 (C7 N9 (l++y) t.1 t.2) i.r i.z (by simp only[zg,kx];omega)) qw ?_;rintro v A ⟨rfl,a3,c3,rfl⟩;refine D7 [] ?_;rw[a7,a8];obtain⟨u,v2⟩:=o9 (G1 (C7 N9 (l++y) t.1 t.2) (r,L0) a3 c3);rw[<-v2];have h6:u.rl=l++y++[(r,L0)]:=by rw[v2];rfl
 have q1:u.ql=du/\u.wa=none/\u.wc=0:=by rw[v2];exact qm
 refine I6 0 ?_;refine x8 [(0,i8 g),(207,.bool (st&&!q&&th))] (C8 g i::l6 f.ra k.a6y.a6x f.rc::F9 i.b k f G7 u::x4 u.da u.rl u.dc::(T6 l++R)) ?_ ?_
 ·clear D T hq k9 k0;refine C5 (H':=C8 g i::l6 f.ra k.a6y.a6x f.rc::F9 i.b k f G7 u::x4 u.da u.rl u.dc::(T6 l++R)) (fun w C=>D3 (A:=[_,_,_,_]) (J:=[]) tk C) ?_
  cases st<;>cases q<;>cases th
  all_goals (
   refine wk 8 ?_;refine f_ ((q_ rfl rfl).eq (qn ((kz.2 (by rw[w3];omega)).trans q0.symm))) ?_;refine wk 8 ?_)
  all_goals exact p_ sub i_
 refine O_ ?_ ?_<;>intro h
 ·have x0:s1.a6z=2/\vq x=false/\x.bx.val=0:=by
   have h':st=true/\q=false/\th=true:=by
    clear D T hq k9 k0
    cases st<;>cases q<;>cases th<;>simp_all
   exact⟨zy (q0.symm.trans h'.1),D.trans h'.2.1,zy (q4.symm.trans h'.2.2)⟩
  refine P1 ?_;refine e_ (tY i.b k f G7 u cP (by rw[h6];simp only[zg,z1,kx];omega)) qw ?_;rintro v A ⟨rfl,a4,c4,rfl⟩;refine x6 ?_;refine I4 (A:=C8 g i::l6 f.ra k.a6y.a6x f.rc::(P3 i.b {k with a6z:=3} f {G7 with a6I:=l.map Prod.fst++y.map Prod.fst++[r,L2 cP],close:=true} (G1 u (L2 cP,L0) a4 c4)++T6 l)) (v:=.tuple #[]) (q7.trans V) ⟨rfl,i,{k with a6z:=3},{G7 with a6I:=l.map Prod.fst++y.map Prod.fst++[r,L2 cP],close:=true},f,G1 u (L2 cP,L0) a4 c4,v0,k0 _ _ (by rw[zr x0];exact qh),by simp[h6],fun m j=>?_,⟨y0.a6A,y0.cmd⟩,q1.1,q1.2.1,q1.2.2,?_⟩ ?_
  ·rw[show(G1 u (L2 cP,L0) a4 c4).rl=u.rl++[(L2 cP,L0)] from rfl,h6] at j;rcases kw.1 j with j|j
   ·exact w9 m j
   ·rw[z7.1 j];exact .inl ⟨⟨rfl,n9.nil _ _,n9.nil _ _,n9.nil _ _,qy⟩,rfl,rfl⟩
  ·rw[show(G1 u (L2 cP,L0) a4 c4).rl=u.rl++[(L2 cP,L0)] from rfl,h6,w7]
  ·exact m6 rfl _ qh (fun w C=>D3 (A:=[_,_,F9 i.b {k with a6z:=3} f {G7 with close:=true} (G1 u (L2 cP,L0) a4 c4),x4 a4 (u.rl++[(L2 cP,L0)]) c4]) (J:=[]) tk C)
 ·refine x6 ?_;have h5:¬(s1.a6z=2/\vq x=false/\x.bx.val=0):=fun⟨e1,e2,e3⟩=>by
   rw[show st=true from q0.trans (ju e1),show q=false from D.symm.trans e2,show th=true from q4.trans (ju e3)] at h
   cases h
  refine I4 (A:=C8 g i::l6 f.ra k.a6y.a6x f.rc::(P3 i.b k f {G7 with a6I:=l.map Prod.fst++y.map Prod.fst++[r]} u++T6 l)) (v:=.tuple #[]) (q7.trans V) ⟨rfl,i,k,{G7 with a6I:=l.map Prod.fst++y.map Prod.fst++[r]},f,u,v0,k0 _ _ (by rw[zb h5];exact qh),by simp[h6],fun m j=>w9 m (by rw[<-h6];exact j),y0,q1.1,q1.2.1,q1.2.2,by rw[h6,u0]⟩ ?_;exact m6 rfl _ qh i_
def Jo(i:IT):Pu prog 157 [.agg (co i).toArray] (fun _=>True) (.bool (decide (10<=i.kind))):=by
 refine b_ 6 func157 rfl rfl rfl ?_;intro F _;refine D1 ?_;refine m8 rfl rfl ?_;intro b;refine E8 ?_;refine f_ ((K_ rfl rfl).eq (v':=.bool (decide (10<=i.kind))) (qn qz)) ?_;refine D0 ?_;exact d_ rfl rfl [] qh (fun w a=>a.dropAll)
abbrev Jt(gO:Nat)(out:List Bs)(o:AC):As:=.blk gO (.cells #[.slice o.1 out.length o.2] 34)
def Cw(g z e u:Nat)(x:AN)(f:FuncId)[HF prog f](ps:zq)(hx:rE x)(k:∀d:LM,Ct prog f (ps++[OJ d]) (fun _=>True) [C8 g x] (fun v A=>(∃q:Bool,v=.bool q)/\A=[C8 g x]))(a:List Bs)(o:AC)(S:a.length<=200000):
  Ct prog 153 [.int .u64 (u:Nat),.func (.func f) ps.toArray #[],i8 z,i8 e] (fun h=>cZ x h/\h z=some (.cells #[i8 g] 147 (0,0))) [C8 g x,Jt e a o,B0 o.1 a o.2] (fun v A=>v=.tuple #[]/\∃(b:List Bs) (o':AC),b.length<=a.length+1/\A=[C8 g x,Jt e b o',B0 o'.1 b o'.2]):=by
 have C:=hx.ls;have D:=hx.bl;refine b_ 38 func153 rfl rfl rfl ?_;rintro F ⟨i,j⟩;refine D1 ?_;refine r_ (l5 rfl (fun w c=>I8 c j rfl)) ?_;refine u6 ?_;refine e_ (fo g x u qb) (fun h p _=>i.bx.ls.le p) ?_;rintro v A ⟨d,M,rfl,O,rfl⟩;refine E8 ?_;refine i7 rfl ?_;intro r;refine RG ?_;refine r_ (l5 rfl (fun w c=>I8 c j rfl)) ?_;refine A5 ?_;refine e_ (qJ g x d.t.hash qb) (fun h p _=>i.bl.le p) ?_;rintro v A ⟨t,s,rfl,Q,rfl⟩;refine al ?_;refine n8 (ι:=Bool) (fun _=>True) (fun q=>[(3,i8 e),(6,i8 r),(32,.bool q)]) (fun _=>[.blk r (.cells (R7 d).toArray 156),C8 g x,Jt e a o,B0 o.1 a o.2]) ?_ ?_
 ·cases M<;>cases s
  all_goals (
   refine wk 8 ?_;(first|refine u_ ?_|(refine v_ ?_;refine A4 (ps:=ps) _ rfl rfl x7 (k d) i_ qw rfl ?_;rintro v A ⟨⟨q,rfl⟩,rfl⟩));refine u6 ?_)
  all_goals exact g_ _ trivial (fun w c=>D3 (A:=[.blk r _,C8 g x,Jt e a o,B0 o.1 a o.2]) (J:=[]) tk c)
 intro q _;refine O_ ?_ ?_<;>intro h
 ·refine E8 ?_;refine uH (n:=d.t.hash) ?_;intro a36;refine uI (l:=a) (m:=[d.t.hash]) (by show(a.length+1)*16<=_;omega) ?_;intro a37 y _;refine u6 ?_;exact m6 rfl _ ⟨rfl,a++[d.t.hash],(a37,y),by simp,rfl⟩ (fun w c=>D3 (A:=[_,_,_]) (J:=[_,_]) tk c)
 ·refine x6 ?_;exact m6 rfl _ ⟨rfl,a,o,by omega,rfl⟩ (fun w c=>D3 (A:=[_,_,_]) (J:=[_]) tk c)
def JA(l:List Bs)(a:qr)(c:Nat)(hl:l.length<4611686018427387904):Ct prog 161 [.slice a l.length c] (fun _=>True) [B0 a l c] (fun v A=>v=.tuple #[]/\∃m:List Bs,m.Perm l/\A=[B0 a m c]):=by
 intro w bs t h6 h5;obtain⟨b1,b2,rfl,u,rfl⟩:=t;rcases u with⟨X,hx,rfl⟩|⟨g,rfl,⟨o,n,h7,pre,b,p,X,hg,Y,h8,z,h9,q⟩⟩
 ·injection X with f e2 e3;subst f e3;have Z:l=[]:=js e2;subst Z;refine(Tryz.slices_Sort_string_none none 0 w).mono ?_;rintro e w' ⟨rfl,rfl⟩;refine⟨_,[B0 none [] 0],rfl,⟨rfl,[],.nil,rfl⟩,?_⟩;exact(Hp.start (C:=[]) (bs:=[]) rfl Zn).addNil _ _
 ·injection X with f e2 e3;subst f e2 e3;have i:w.heap[g]? =some (.cells (pre++fV l++b).toArray 9 p):=hg;have D:g<w.heap.size:=(jp.1 i).1;have k0:=M6 l;have hH:Sort.Holds (fun(x:Bs)=>B x) w g o l.toArray:=fun j hj=>by
   have h0:j<l.length:=(by simpa using hj);constructor
   ·simp only[World.cell?,i];simp only[W3,Kc,if_false,Kn];rw[ky,jc qb,j8 qb];simp[fV,<-Y,h0]
   ·simp only[World.frozen?,i];simp only[zg] at q;rw[Wq];rcases q with h|h
    ·by_cases hh:p.1<=o+j
     ·exact .inr (by simp;omega)
     ·exact .inl (by simpa using hh)
    ·exact .inl (by simp;omega)
  have hc:=Tryz.slices_Sort_string g o c l w hH D hl;refine hc.mono ?_;rintro e w' ⟨rfl,n,J,rfl⟩;obtain⟨d,M⟩:∃d:Array Bs,d=(l.mergeSort fun x y=>decide (x<=y)).toArray:=⟨_,rfl⟩;have O:List.Perm d.toList l:=by rw[M];exact List.mergeSort_perm _ _
  have h1:d.toList.length=l.length:=O.length_eq;rw[<-M];show∃v A,_/\_/\Hp _ (sortWorld (fun(x:Bs)=>B x) w g o n d J) _;have hh:(sortWorld (fun(x:Bs)=>B x) w g o n d J).heap[g]? =some (.cells (pre++fV d.toList++b).toArray 9 p):=by
   show((Sort.mapBlock _ g _).heap++J)[g]? =_;unfold Sort.mapBlock;have f:(Sort.ahead w n).heap=w.heap:=rfl;rw[Zs (by rw[J6,f];exact D),Zg,zr rfl,f,i];simp only[Qh,Sort.onCells];have:=uk (pre:=pre) (post:=b) h1;rw[Y] at this;rw[<-this]
  have k8:=M6 d.toList;have Q:(fV d.toList).length=(fV l).length:=by omega
  have r:c*1<=(fV d.toList++b).length:=by
   rw[zg,Q,<-zg];exact z
  have S:p.2<=p.1\/(pre++fV d.toList++b).length<=p.1:=by
   rw[zg,zg,Q,<-zg,<-zg];exact q
  have s:l_.le (w6 w [g]).heap (hp (sortWorld (fun(x:Bs)=>B x) w g o n d J)):=fun k o' T=>by
   have h4:k≠g:=by
    rintro rfl;simp[w6,F6] at T
   have h2:w.heap[k]? =some o':=cq w _ k o' T;have h3:k<w.heap.size:=(jp.1 h2).1;show((Sort.mapBlock _ g _).heap++J)[k]? =_;unfold Sort.mapBlock;have f:(Sort.ahead w n).heap=w.heap:=rfl;rw[Zs (by rw[J6,f];exact h3),Zg,zb (fun h=>h4 h.symm),f];exact h2
  have U:∀k∈[g],(w6 w [g]).heap k=none:=fun k V=>by
   simp at V;subst V;simp[w6,F6]
  refine⟨.tuple #[],[B0 (some ⟨g,o,none⟩) d.toList c],rfl,⟨rfl,d.toList,O,rfl⟩,?_⟩;exact⟨rfl,rfl,rfl,s,[g],⟨[g],[],rfl,.inr ⟨g,rfl,⟨o,d.toList.length,c,pre,b,p,rfl,hh,Y,by omega,r,by omega,S⟩⟩,rfl⟩,by simp,U⟩
def EX(g:Nat)(x:AN)(a:LM):Ct prog 160 ([]++[OJ a]) (fun _=>True) [C8 g x] (fun v A=>(∃q:Bool,v=.bool q)/\A=[C8 g x]):=by
 show Ct prog 160 [OJ a] _ _ _;refine b_ 3 func160 rfl rfl rfl ?_;intro F _;refine D1 ?_;refine m8 rfl rfl ?_;intro c;refine M4 ?_;exact d_ rfl rfl _ ⟨⟨true,rfl⟩,rfl⟩ (fun w b=>b.drop)
abbrev Cy(gA gO:Nat):Value:=.func (.func 153) #[] #[i8 gA,i8 gO]
def Uj(x:AN):Prop:=x.o.code=0/\(x.c.kind=16\/x.c.kind=15)
def JB(g:Nat)(x:AN)(s:SE)(sl:SL)(d:DD)(y:DL)(hx:rE x)(hv:s.a6y.a6x.length<=100000)(hu:x.us.length<=100000):
  Cm prog 76 [i8 g] (cZ x) (C8 g x::l6 sl.ra s.a6y.a6x sl.rc::P3 x.b s sl d y) (fun h v A=>∃(l:List Bs) (a:qr) (c:Nat),v=.slice a l.length c/\n9 h a (fV l)/\(l≠[]->Uj x)/\A=C8 g x::l6 sl.ra s.a6y.a6x sl.rc::P3 x.b s sl d y):=by
 have V:=hx.c;refine A0 85 func76 rfl rfl rfl ?_;rintro F R h7;refine D1 ?_;refine M1 rfl rfl rfl ?_;intro D;refine u6 ?_;refine u6 ?_;intro r;refine x6 ?_;refine I6 2 ?_;refine C6 (Z:=[.blk D (.cells #[i8 g] 147)]) tk fun F1 X hb=>?_;have O:F1.heap D=some (.cells #[i8 g] 147 (0,0)):=L6 hb;clear hb;have k:cZ x F1.heap:=Mn.le X.heap h7;refine n8 (ι:=List Bs×AC) (fun q=>q.1.length<=200000/\(q.1≠[]->Uj x)) (fun q=>[(3,i8 r)]) (fun q=>C8 g x::Jt r q.1 q.2::B0 q.2.1 q.1 q.2.2::l6 sl.ra s.a6y.a6x sl.rc::F9 x.b s sl d y::x4 y.da y.rl y.dc::R) ?_ ?_
 ·refine o0 ?_;obtain⟨q1,Y⟩:=o9 (decide (x.o.code=0));refine D1 ?_;refine r_ (l5 rfl (fun w f=>I8 f O rfl)) ?_;refine P1 ?_;refine f_ ((M2 rfl rfl).eq (v':=.bool (!q1)) (jh (fun x=>Value.bool (!x)) Y.symm)) ?_;refine u6 ?_
  cases q1
  ·refine p7 rfl (fun h=>?_) qx;refine x6 ?_;exact g_ ([],none,0) ⟨by simp,fun e=>absurd rfl e⟩ (fun w f=>D3 (A:=[C8 g x,_,.own (.slice none 0 0) 9 1 [],l6 sl.ra s.a6y.a6x sl.rc,F9 x.b s sl d y,x4 y.da y.rl y.dc]) (J:=[]) tk (f.addNil 9 1))
  refine p7 rfl qx (fun h=>?_);refine I6 0 ?_;refine C5 (H':=C8 g x::Jt r [] (none,0)::B0 none [] 0::l6 sl.ra s.a6y.a6x sl.rc::F9 x.b s sl d y::x4 y.da y.rl y.dc::R) (fun w f=>D3 (A:=[C8 g x,_,.own (.slice none 0 0) 9 1 [],l6 sl.ra s.a6y.a6x sl.rc,F9 x.b s sl d y,x4 y.da y.rl y.dc]) (J:=[]) tk (f.addNil 9 1)) ?_;refine n8 (ι:=Bool) (fun q=>q=true->x.c.kind=16) (fun q=>[(1,i8 D),(3,i8 r),(4,Cy D r),(17,.bool q)]) (fun q=>C8 g x::Jt r [] (none,0)::B0 none [] 0::l6 sl.ra s.a6y.a6x sl.rc::F9 x.b s sl d y::x4 y.da y.rl y.dc::R) ?_ ?_
  ·obtain⟨q2,S⟩:=o9 (decide (x.c.kind=16));have q6:=V.a6B
   cases q2
   all_goals (
    refine D1 ?_;refine r_ (l5 rfl (fun w f=>I8 f O rfl)) ?_;refine P1 ?_;refine f_ ((q_ rfl rfl).eq (qn ((qz).trans S.symm))) ?_;refine u6 ?_;(first|refine u_ ?_|(refine v_ ?_;refine r_ (l5 rfl (fun w f=>I8 f O rfl)) ?_));refine P1 ?_;(first|refine u_ ?_|(refine v_ ?_;refine c_ rfl (X3 co S6 x.c.a6B x.k.ia x.k.ic 157 [] (fun _=>True) (fun i=>decide (10<=i.kind)) (fun i _=>Jo i) qb) (fun h Q _=>⟨k.c.a6B.le Q,trivial⟩) rfl ?_));refine A5 ?_)
   ·exact g_ false (fun e=>by cases e) i_
   ·exact g_ _ (fun _=>zy S.symm) i_
  intro q h0;refine x6 ?_;refine p7 rfl (fun T=>?_) (fun h=>?_)
  ·refine D1 ?_;refine r_ (l5 rfl (fun w f=>I8 f O rfl)) ?_;refine I6 5 ?_;refine o0 ?_;refine o8 (ι:=Nat×List Bs×AC) (fun i=>i.1<=x.us.length/\i.2.1.length<=i.1) (fun i=>[(1,i8 D),(3,i8 r),(4,Cy D r),(35,.slice x.ua x.us.length x.uc),(36,r7 x.us.length),(37,r7 i.1)]) (fun i=>C8 g x::Jt r i.2.1 i.2.2::B0 i.2.2.1 i.2.1 i.2.2.2::l6 sl.ra s.a6y.a6x sl.rc::F9 x.b s sl d y::x4 y.da y.rl y.dc::R) (fun i=>x.us.length-i.1) (0,[],none,0) ⟨zp _,kp _⟩ sub i_ ?_;rintro⟨j,p,o⟩ ⟨hj,ho⟩;simp only at hj ho;refine T2 ?_ ?_<;>intro h
   ·have z:j<x.us.length:=(by have:=zy h;omega);have u:=ae k.us z;refine D1 ?_;refine f_ (n5 rfl u rfl qb) ?_;refine r_ (l5 rfl (fun w f=>uD f k.us (i:=j) x7 z)) ?_;refine E8 ?_;refine r_ (l5 rfl (fun w f=>I8 f O rfl)) ?_;refine u6 ?_;refine A4 (ps:=[]) _ rfl rfl rfl (Cw g D r (x.us.getD j 0) x 158 [i8 g] hx (fun lm w bs Y S h3=>(xI g x lm w bs Y S h3).mono fun e w' ⟨v,A,a,⟨b,c⟩,d⟩=>⟨v,A,a,⟨⟨_,b⟩,c⟩,d⟩) p o qb) i_ (fun h Q _=>⟨Mn.le Q k,Q _ _ O⟩) rfl ?_;rintro v A ⟨rfl,M,o',h8,rfl⟩;refine A5 ?_;exact l8 (i:=(j,p,o)) (j+1,M,o') ⟨z,by simp only;omega⟩ qg sub i_
   ·refine x6 ?_;exact g_ (p,o) ⟨by simp only;omega,fun _=>⟨zy Y.symm,.inl (h0 T)⟩⟩ i_
  ·obtain⟨kl,h9,k0,q7⟩:=k.c.keys;have k8:=dw h9;have q5:=V.keys;have h4:=Es x.k.ka x.k.kc kl qb;rw[k8] at h4;refine I6 0 ?_;refine n8 (ι:=Bool) (fun q=>q=true->x.c.kind=15) (fun q=>[(1,i8 D),(3,i8 r),(4,Cy D r),(47,.bool q)]) (fun q=>C8 g x::Jt r [] (none,0)::B0 none [] 0::l6 sl.ra s.a6y.a6x sl.rc::F9 x.b s sl d y::x4 y.da y.rl y.dc::R) ?_ ?_
   ·obtain⟨q2,S⟩:=o9 (decide (x.c.kind=15))
    cases q2
    all_goals (
     refine D1 ?_;refine r_ (l5 rfl (fun w f=>I8 f O rfl)) ?_;refine P1 ?_;refine f_ ((q_ rfl rfl).eq (qn ((qz).trans S.symm))) ?_;refine u6 ?_;(first|refine u_ ?_|(refine v_ ?_;refine r_ (l5 rfl (fun w f=>I8 f O rfl)) ?_));refine P1 ?_;(first|refine u_ ?_|(refine v_ ?_;refine c_ rfl h4 (fun h Q _=>k0.le Q) rfl ?_));refine A5 ?_)
    ·exact g_ false (fun e=>by cases e) i_
    ·exact g_ _ (fun _=>zy S.symm) i_
   intro q h5;refine x6 ?_;refine p7 rfl (fun T=>?_) (fun h=>?_)
   ·refine D1 ?_;refine r_ (l5 rfl (fun w f=>I8 f O rfl)) ?_;refine I6 10 ?_;refine B7 (a:=sl.ra) (n:=s.a6y.a6x.length) (c:=sl.rc) (sz:=2) (xs:=S_ s.a6y.a6x) (te:=72) ud fun _ _ u=>?_;refine o0 ?_;refine o8 (ι:=Nat×List Bs×AC) (fun i=>i.1<=s.a6y.a6x.length/\i.2.1.length<=i.1) (fun i=>[(1,i8 D),(3,i8 r),(4,Cy D r),(70,.slice sl.ra s.a6y.a6x.length sl.rc),(71,r7 s.a6y.a6x.length),(72,r7 i.1)]) (fun i=>C8 g x::Jt r i.2.1 i.2.2::B0 i.2.2.1 i.2.1 i.2.2.2::l6 sl.ra s.a6y.a6x sl.rc::F9 x.b s sl d y::x4 y.da y.rl y.dc::R) (fun i=>s.a6y.a6x.length-i.1) (0,[],none,0) ⟨zp _,kp _⟩ sub i_ ?_;rintro⟨j,p,o⟩ ⟨hj,ho⟩;simp only at hj ho;refine T2 ?_ ?_<;>intro h
    ·have z:j<s.a6y.a6x.length:=(by have:=zy h;omega);have k9:=u qb;refine D1 ?_;refine f_ (n5 rfl k9 rfl qb) ?_;refine r_ (p9 rfl (fun w f=>bK (C:=dL) (f.ownN (t:=72) ud).2.2.1 B6 qp z x7) (B6 _)) ?_;refine i7 rfl ?_;intro g8;refine P1 ?_;refine A4 (ps:=[]) _ rfl rfl rfl (Cw g D r s.a6y.a6x[j].1 x 160 [] hx (fun lm=>EX g x lm) p o qb) (fun w f=>D3 (A:=[C8 g x,Jt r p o,B0 o.1 p o.2]) (J:=[_]) tk f) (fun h Q _=>⟨Mn.le Q k,Q _ _ O⟩) rfl ?_;rintro v A ⟨rfl,M,o',h8,rfl⟩;refine A5 ?_;exact l8 (i:=(j,p,o)) (j+1,M,o') ⟨z,by simp only;omega⟩ qg sub i_
    ·refine x6 ?_;exact g_ (p,o) ⟨by simp only;omega,fun _=>⟨zy Y.symm,.inr (h5 T)⟩⟩ i_
   ·refine x6 ?_;exact g_ ([],none,0) ⟨by simp,fun e=>absurd rfl e⟩ i_
 rintro⟨l,o⟩ ⟨hl,h6⟩;simp only at hl h6;refine u6 ?_;refine e_ (JA l o.1 o.2 qb) qw ?_;rintro v A ⟨rfl,m,U,rfl⟩;refine x6 ?_;have q0:=U.length_eq;refine u6 ?_;refine y5 (vs:=[.slice o.1 m.length o.2]) _ (by rw[q0];rfl) (po m o.1 o.2 qb) i_ qw rfl ?_;rintro v A ⟨rfl,rfl⟩;refine D0 ?_;refine kL (Z:=[B0 o.1 (Lib.compact m) o.2]) tk fun F2 q3 ⟨bs,hb⟩=>?_;have q4:n9 F2.heap o.1 (fV (Lib.compact m)):=A_.rd hb ud;refine I4 (A:=C8 g x::l6 sl.ra s.a6y.a6x sl.rc::P3 x.b s sl d y) (v:=.slice o.1 (Lib.compact m).length o.2) (X.trans q3) ⟨_,_,_,rfl,q4,fun e=>h6 fun e2=>e (by rw[e2] at U;rw[List.Perm.eq_nil U];rfl),rfl⟩ ?_;exact d_ rfl rfl _ qh (fun w f=>D3 (A:=[_,_,_,_]) (J:=[_]) tk f)
structure OX(s:SE)(st:ML)(o:OC)(bl:BL):Prop where
 se:Ad s
 a6x:s.a6y.a6x.length<=50000
 us:s.a6A.length<=100000
 ml:V5 st
 uo:o.a6A.length<=100000/\gg o.a6A
 mo:o.mods.length<=100000/\gg o.mods
 val:o.val<18446744073709551616
 bll:bl.length<=1000
 body:∀p∈bl,p.2.length<=1000000
def fC(s:SE)(st:ML)(o:OC)(bl:BL)(s':SE)(d':DD):Prop:=
 if s.a6E=false then s'=s/\d'=G7
 else(∃w:List Bs,w≠[]/\(o.code=0/\(s.cmd.kind=16\/s.cmd.kind=15))/\s'=s/\d'={G7 with want:=w})\/∃x:AN,x.c=s.cmd/\x.m.s=st/\x.o=o/\x.us=s.a6A/\x.bl=bl/\x.bx.x=mU s st/\ik x (X6 s) s' d'
def Uk(Q:SE->DD->Prop)(h:l_)(v:Value)(A:List As):Prop:=∃s' d' x' y',Q s' d'/\v=.tuple #[mq s' x',Ly d' y']/\A=l6 x'.ra s'.a6y.a6x x'.rc::x4 y'.da y'.rl y'.dc::T6 y'.rl/\d'.a6I=y'.rl.map Prod.fst/\(∀m∈y'.rl,gn m h)/\P4 s' x' h/\dM d'.req y'.ql h/\n9 h y'.wa (fV d'.want)
def ES.res{Q:SE->DD->Prop}{h:l_}{v:Value}{A:List As}(k:ES Q h v A):Uk Q h v A:=by
 obtain⟨e,f,g,d,i,rfl,rfl,j,a⟩:=k;have b:∀m∈d.rl,fQ m.1 m.2 h/\zD m.2:=fun m c=>⟨a.dd.rep m c,by
  rcases j.2 m c with h|h
  ·cases h
  ·rw[h];exact qh⟩
 exact⟨e,f,g,d,i,rfl,by rw[nX b],a.dd.a6I,fun m c=>.inl (b m c),a.se,a.dd.req,a.dd.want⟩
def eK{x:AN}{s b:SE}{a:DD}(h:ik x s b a):a.req=G7.req/\a.want=[]/\a.ask=false/\a.store=false/\a.body=[]:=by
 unfold ik at h;split at h
 ·rw[h.2];exact⟨rfl,rfl,rfl,rfl,rfl⟩
 split at h
 ·rw[h.2];exact⟨rfl,rfl,rfl,rfl,rfl⟩
 obtain⟨r,s1,c,d,e,_,_,h⟩:=h;split at h
 ·rw[h.2];exact⟨rfl,rfl,rfl,rfl,rfl⟩
 ·rw[h.2];exact⟨rfl,rfl,rfl,rfl,rfl⟩
def tj(s:SE)(x:SL)(m:MM)(o:OC)(oy:OL)(bl:BL)(ba:qr)(bc:Nat)(r:OX s m.s o bl):
  Cm prog 31 [mq s x,rW m,UH o oy,.slice ba bl.length bc] (fun h=>Gl h/\n9 h x.ra (S_ s.a6y.a6x)/\P4 s x h/\ew m h/\M8 o oy h/\n9 h ba (uU bl)) [] (Uk (fC s m.s o bl)):=by
 have hs:=r.se;refine A0 103 func31 rfl rfl rfl ?_;rintro F R ⟨hg,hr,q2,hm,ho,hb⟩;refine D1 ?_;refine m8 rfl rfl ?_;intro g4;refine m8 rfl rfl ?_;intro g5;refine m8 rfl rfl ?_;intro g6;refine i7 rfl ?_;intro u;refine i7 rfl ?_;intro y;refine u6 ?_;refine B_ (lN s x hs.le) ⟨hr,q2⟩ ?_;rintro v A F1 O ⟨a,rfl,rfl,Y⟩;refine f_ (A2 (ps:=[(0,.tmp 16)]) (vs:=[(0,mq s a)]) (cells:=(mn s a++tW G7 N9).toArray) rfl i6) ?_;refine m8 rfl rfl ?_;intro c;refine u6 ?_;refine C5 (H':=F9 c s a G7 N9::x4 none [] 0::l6 a.ra s.a6y.a6x a.rc::.blk y (.cells (tW G7 N9).toArray 46)::.blk u (.cells (mn oT rt).toArray 39)::.blk g6 (.cells (tX o oy).toArray 86)::.blk g5 (.cells (iQ m).toArray 62)::.blk g4 (.cells (mn s x).toArray 39)::R) (fun w g=>D3 (A:=[F9 c s a G7 N9,x4 none [] 0,_,_,_,_,_,_]) (J:=[]) tk (g.addNil 51 10)) ?_;refine eV ?_ ?_<;>intro h
 ·have Q:s.a6E=false:=by simpa using h
  refine x6 ?_;refine D8 [3,7] [8,9] [F9 c s a G7 N9] 10 ?_;refine wd [0,1,2,3,4,5,6,7,8,9] ?_;refine B4 ?_;refine I4 (A:=[l6 a.ra s.a6y.a6x a.rc,x4 none [] 0]) (v:=.tuple #[mq s a,Ly G7 N9]) O ⟨s,G7,a,N9,by unfold fC;rw[zr Q];exact qh,rfl,rfl,rfl,qy,Y,⟨n9.nil _ _,n9.nil _ _⟩,n9.nil _ _⟩ ?_;refine Y0 rfl rfl rfl ud rfl ud rfl _ qh (fun w g=>D3 (A:=[_,_]) (J:=[_,_,_,_,_,_]) tk g)
 have Q:¬s.a6E=false:=by simpa using h
 obtain⟨x0,h4⟩:=o9 (α:=AN) (⟨c,s.cmd,a.cl,m,o,oy,Gz,s.a6A,a.ua,a.uc,bl,ba,bc,R0,L0⟩);refine x6 ?_;refine D8 [5,6,7,12] [15] [F9 c s a G7 N9,.blk g5 (.cells (iQ m).toArray 62),.blk g6 (.cells (tX o oy).toArray 86)] 17 ?_;refine wd [0,1,2,3,4,5,6,7,8,9,10,11,12,13] ?_;refine w_ 14 rfl (A2 (ps:=[(0,.tmp 30),(1,.tmp 35),(2,.tmp 36),(3,.tmp 37),(5,.tmp 42),(6,.tmp 43)]) (vs:=[(0,i8 c),(1,vo s.cmd a.cl),(2,rW m),(3,UH o oy),(5,.slice a.ua s.a6A.length a.uc),(6,.slice ba bl.length bc)]) (cells:=(anC ⟨c,s.cmd,a.cl,m,o,oy,Gz,s.a6A,a.ua,a.uc,bl,ba,bc,R0,L0⟩).toArray) rfl i6) ?_;refine h_ 15 rfl i6 ?_;refine m8 rfl rfl ?_;intro d;refine D7 [16] ?_;refine C5 (H':=C8 d x0::F9 c s a G7 N9::x4 none [] 0::l6 a.ra s.a6y.a6x a.rc::.blk y (.cells (tW G7 N9).toArray 46)::.blk u (.cells (mn oT rt).toArray 39)::.blk g5 (.cells (iQ m).toArray 62)::R) (fun w g=>by rw[h4];exact D3 (A:=[_,_,_,_,_,_,_]) (J:=[_,_]) tk g) ?_;obtain⟨e,he⟩:=o9 (ay m.s s.a6y.box);have k:=uX m s.a6y.box r.ml;rw[<-he] at k;refine I6 0 ?_;refine V7 (fun(i:BM) (p:Nat) (_:Unit) (M:l9)=>F1.le M/\i.x=e.getD PI/\eZ i M.heap) (fun i p _ _=>[(8,i8 u),(9,i8 y),(10,i8 c),(11,i8 d),(12,i8 p),(13,.bool e.isSome)]) (fun _ _ _ M=>M) (fun i p _ _=>xK p i::C8 d x0::F9 c s a G7 N9::x4 none [] 0::l6 a.ra s.a6y.a6x a.rc::.blk y (.cells (tW G7 N9).toArray 46)::.blk u (.cells (mn oT rt).toArray 39)::R) ?_ ?_
 ·refine x6 ?_;refine D8 [0,6] [7,11,12] [.blk g5 (.cells (iQ m).toArray 62),F9 c s a G7 N9] 14 ?_;refine wd [0,1,2,3,4,5,6] ?_;refine S4 7 11 rfl rfl i6 ?_ ?_;refine G6 k (Mn.le O.heap hm) ?_;rintro v A Z Fz hz ⟨i,rfl,l,rfl,S⟩;refine D7 [8,9,10] ?_;refine h_ 11 rfl i6 ?_;refine i7 rfl ?_;intro p;refine D7 [12,13] ?_
  rotate_left 1
  refine i7 rfl ?_;intro p;refine V2 ?_;refine h_ 7 rfl i6 ?_;refine G6 k (Mn.le O.heap hm) ?_;rintro v A Z Fz hz ⟨i,rfl,l,rfl,S⟩;refine D7 [8,9,10,12,13] ?_
  rotate_left 1
  all_goals (refine x6 ?_)
  all_goals exact cO (Rr:=xK p i::C8 d x0::F9 c s a G7 N9::x4 none [] 0::l6 a.ra s.a6y.a6x a.rc::.blk y (.cells (tW G7 N9).toArray 46)::.blk u (.cells (mn oT rt).toArray 39)::R) Fz hz (fun w g=>D3 (A:=[_,_,_,_,_,_,_]) (J:=[_]) tk g) fun M T q3=>y7 (i,p,(),M) ⟨T,l,Mn.le q3 S⟩ rfl i_
 rintro i p _ M ⟨T,l,S⟩;refine I6 0 ?_;refine n8 (ι:=Bool) (fun q=>(if q then i.x else PI)=mU s m.s) (fun q=>[(8,i8 u),(9,i8 y),(10,i8 c),(11,i8 d),(12,i8 p),(68,.bool q)]) (fun _=>xK p i::C8 d x0::F9 c s a G7 N9::x4 none [] 0::l6 a.ra s.a6y.a6x a.rc::.blk y (.cells (tW G7 N9).toArray 46)::.blk u (.cells (mn oT rt).toArray 39)::R) ?_ ?_
 ·cases e with
  |none=>
   refine x6 ?_;refine D8 [3,9] [] [xK p i,F9 c s a G7 N9] 12 ?_;refine wd [0,1,2,3,4,5,6,7,8,9,10,11] ?_;exact g_ false (by unfold mU;rw[<-he];rfl) (fun w g=>D3 (A:=[_,_,_,_,_,_,_]) (J:=[]) tk g)
  |some b0=>
   have l:i.x=b0:=l;have q4:i.val=b0.val:=(by rw[<-l]);refine x6 ?_;refine D8 [3,9] [] [xK p i,F9 c s a G7 N9] 12 ?_;refine wd [0,1,2,3,4,5,6,7,8,9] ?_;(first|refine s_ 10 ?_|refine t_ 10 ?_|refine G4 10 rfl ((q_ rfl rfl).eq (v':=.bool (decide (i.val=s.a6y.val))) (qn qz)) rfl rfl rfl rfl rfl rfl i6 ?_);refine wd [11] ?_;refine g_ (decide (i.val=s.a6y.val)) ?_ (fun w g=>D3 (A:=[_,_,_,_,_,_,_]) (J:=[]) tk g);unfold mU;rw[<-he,l,q4];by_cases h9:b0.val=s.a6y.val
   ·simp[h9]
   ·simp[h9]
 intro y0 h0;refine x6 ?_;refine n8 (ι:=BM) (fun b=>b.x=mU s m.s/\eZ b M.heap) (fun _=>[(8,i8 u),(9,i8 y),(10,i8 c),(11,i8 d)]) (fun b=>C8 d {x0 with bx:=b}::F9 c s a G7 N9::x4 none [] 0::l6 a.ra s.a6y.a6x a.rc::.blk y (.cells (tW G7 N9).toArray 46)::.blk u (.cells (mn oT rt).toArray 39)::R) ?_ ?_
 ·refine p7 rfl ?_ ?_<;>intro h
  ·refine al ?_;exact g_ i ⟨by rw[<-h0,h];rfl,S⟩ (fun w g=>D3 (A:=[C8 d {x0 with bx:=i},_,_,_,_,_]) (J:=[_]) tk g)
  ·refine x6 ?_;exact g_ Gz ⟨by rw[<-h0,h];rfl,eZ.zero _⟩ (fun w g=>by
    have h9:=D3 (A:=[C8 d x0,F9 c s a G7 N9,x4 none [] 0,l6 a.ra s.a6y.a6x a.rc,.blk y _,.blk u _]) (J:=[xK p i]) tk g;rw[h4] at h9⊢;exact h9)
 rintro b ⟨h2,h7⟩;obtain⟨n,f⟩:∃n:AN,n={x0 with bx:=b}:=⟨_,rfl⟩;rw[<-f];rw[h4] at f;have k0:b.ls.length<=32/\∀lm∈b.ls,lm.t.a6J.length<=16:=by
  have h1:(mU s m.s).lts.length<=32/\∀t∈(mU s m.s).lts,t.a6J.length<=16:=by
   unfold mU
   cases e9:ay m.s s.a6y.box with
   |none=>exact⟨zp _,qy⟩
   |some b0=>
    have k8:=r.ml.box b0 (cp e9);by_cases h9:b0.val=s.a6y.val
    ·simp only[jq,zr h9,Z6];exact⟨k8.lts,fun t ht=>(k8.a6J t ht).1⟩
    ·simp only[jq,zb h9,Option.getD_none];exact⟨zp _,qy⟩
  rw[<-h2] at h1;exact⟨by simpa using h1.1,fun lm h5=>h1.2 lm.t (Q5 h5)⟩
 have k9:rE n:=by rw[f];exact⟨by show b.ls.length<=_;omega,fun lm h5=>by have:=k0.2 lm h5;omega,r.bll,r.body,hs.cmd⟩
 have q5:NN n (X6 s):=by
  refine⟨k9,?_,r.a6x,?_,?_,?_,?_⟩<;>rw[f]
  ·exact r.ml
  ·exact r.us
  ·exact r.uo
  ·exact r.mo
  ·exact r.val
 have j:=O.trans T;have z:P4 s a M.heap:=Mn.le T.heap Y;have h3:cZ n M.heap:=by rw[f];exact⟨hg.le j.heap,z.cmd,Mn.le j.heap hm,Mn.le j.heap ho,h7,z.a6A,hb.le j.heap⟩
 have U:n.b=c:=by rw[f]
 have q6:n.us.length<=100000:=by rw[f];exact r.us
 refine x6 ?_;refine C5 (H':=C8 d n::F9 n.b s a G7 N9::x4 none [] 0::l6 a.ra s.a6y.a6x a.rc::.blk y (.cells (tW G7 N9).toArray 46)::.blk u (.cells (mn oT rt).toArray 39)::R) (fun w g=>by rw[U];exact g) ?_;refine u6 ?_;refine B_ (JB d n s a G7 N9 k9 (by have:=r.a6x;omega) q6) h3 ?_;rintro v A F3 V ⟨w,wa,wc,rfl,q7,q8,rfl⟩;refine u6 ?_;refine C5 (H':=C8 d n::F9 c s a G7 N9::x4 none [] 0::l6 a.ra s.a6y.a6x a.rc::.blk y (.cells (tW G7 N9).toArray 46)::.blk u (.cells (mn oT rt).toArray 39)::R) (fun w g=>by rw[<-U];exact D3 (A:=[_,_,_,_,_,_]) (J:=[]) tk g) ?_;refine eV ?_ ?_<;>intro h
 ·have q0:w≠[]:=fun e1=>by rw[e1] at h;exact absurd h qp
  refine Y1 ?_;refine D8 [3,7] [8,9] [F9 c s a {G7 with want:=w} {N9 with wa:=wa,wc:=wc}] 10 ?_;refine wd [0,1,2,3,4,5,6,7,8,9] ?_;refine B4 ?_;refine I4 (A:=[l6 a.ra s.a6y.a6x a.rc,x4 none [] 0]) (v:=.tuple #[mq s a,Ly {G7 with want:=w} {N9 with wa:=wa,wc:=wc}]) (j.trans V) ⟨s,{G7 with want:=w},a,{N9 with wa:=wa,wc:=wc},by unfold fC;rw[zb Q];exact .inl ⟨w,q0,by have h8:=q8 q0;rw[f] at h8;exact h8,rfl,rfl⟩,rfl,rfl,rfl,qy,Mn.le V.heap z,⟨n9.nil _ _,n9.nil _ _⟩,q7⟩ ?_;refine Y0 rfl rfl rfl ud rfl ud rfl _ qh (fun w g=>D3 (A:=[_,_]) (J:=[_,_,_,_]) tk g)
 ·refine u6 ?_;refine e_ (BY c s a G7 N9) qw ?_;rintro v A ⟨rfl,rfl⟩;refine x6 ?_;refine C5 (H':=C8 d n::F9 n.b (X6 s) {a with cl:=I0,ua:=none,uc:=0} G7 N9::x4 none [] 0::l6 a.ra (X6 s).a6y.a6x a.rc::.blk y (.cells (tW G7 N9).toArray 46)::.blk u (.cells (mn oT rt).toArray 39)::R) (fun w g=>by rw[U];exact D3 (A:=[_,_,_,_,_,_]) (J:=[]) tk g) ?_;refine u6 ?_;refine B_ (QZ d n (X6 s) {a with cl:=I0,ua:=none,uc:=0} q5 (by rw[f];exact k0.2)) ⟨Mn.le V.heap h3,⟨n9.nil _ _,eu.zero _⟩⟩ ?_;rintro v A F4 q9 ⟨rfl,x',s',d',C,X,x3,D,h6,x5,q1,x9,y1,y2,rfl⟩;rw[x3,U];refine z_ (H':=_::_::_::_::_::_::(T6 X.rl++R)) (fun w g=>g.perm (((((z6 (T6 X.rl) [_,_] R).cons _).cons _).cons _).cons _)) ?_;refine x6 ?_;refine D8 [3,7] [8,9] [F9 c s' C d' X] 10 ?_;refine wd [0,1,2,3,4,5,6,7,8,9] ?_;refine B4 ?_;refine I4 (A:=l6 C.ra s'.a6y.a6x C.rc::x4 X.da X.rl X.dc::T6 X.rl) (v:=.tuple #[mq s' C,Ly d' X]) ((j.trans V).trans q9) ⟨s',d',C,X,?_,rfl,rfl,h6,x5,q1,?_,?_⟩ ?_
  ·unfold fC;rw[zb Q];exact .inr ⟨n,by rw[f],by rw[f],by rw[f],by rw[f],by rw[f],by rw[f];exact h2,D⟩
  ·rw[(eK D).1,x9];exact⟨n9.nil _ _,n9.nil _ _⟩
  ·rw[(eK D).2.1];exact n9.nil _ _
  ·refine Y0 rfl rfl rfl ud rfl ud rfl _ qh (fun w g=>D3 (A:=[_,_]) (J:=[_,_,_,_]) tk g)
def qM(n:Nat):Pu prog 21 [.int .i64 (n:Nat)] (fun _=>True) (.int .i64 ((min n 1048576:Nat):Int)):=by
 refine b_ 5 func21 rfl rfl rfl ?_;intro F _;refine A5 ?_;refine f_ ((FG rfl rfl).eq (v':=.int .i64 ((min n 1048576:Nat):Int)) (by congr 1;omega)) ?_;refine D0 ?_;exact d_ rfl rfl [] qh i_
def dD:∀x,∀q∈uT x,q.oneCell'=true:=fun x q a=>by simp at a;rcases a with rfl|rfl<;>rfl
structure WM where
 s:SE
 x:SL
 m:MM
 q:RQ
 ql:QL
 tr:Nat
 bl:BL
 ba:qr
 bc:Nat
abbrev NQ(w:WM):zq:=mn w.s w.x++iQ w.m++eN w.q w.ql++[.int .u64 (w.tr:Nat),.slice w.ba w.bl.length w.bc]
abbrev Fx(w:WM):Value:=.agg (NQ w).toArray
abbrev N7(g:Nat)(w:WM):As:=.blk g (.cells (NQ w).toArray 65)
structure TN where
 a:SE
 ax:SL
 b:SE
 bx:SL
 hk:Int
 ht:Bs
 hears:Bool
 comes:Bool
 fails:Bool
 d:DD
 y:DL
 c:CM
 k:CL
abbrev lT(t:TN):zq:=mn t.a t.ax++mn t.b t.bx++[.int .i64 t.hk,B t.ht,.bool t.hears,.bool t.comes,.bool t.fails]++tW t.d t.y++lg t.c t.k
abbrev UM(t:TN):Value:=.agg (lT t).toArray
abbrev aj(g:Nat)(t:TN):As:=.blk g (.cells (lT t).toArray 48)
def ja(w:WM)(t:TN):RQ:=if t.d.ask=true then(if t.d.req.op=1 then{t.d.req with node:=1,life:=1,tr:=w.tr+1} else t.d.req) else w.q
def Fy(w:WM)(t:TN):Nat:=if t.d.ask=true then(if t.d.req.op=1 then w.tr+1 else w.tr) else w.tr
def Ra(w:WM)(t:TN):BL:=if t.d.store=true then w.bl++[(Dg.sha t.d.body,t.d.body)] else w.bl
structure tl(w:WM)(t:TN)(w':WM):Prop where
 s:w'.s=t.b
 x:w'.x=t.bx
 m:w'.m=w.m
 q:w'.q=ja w t
 ql:w'.ql=if t.d.ask=true then t.y.ql else w.ql
 tr:w'.tr=Fy w t
 bl:w'.bl=Ra w t
def NR(w:WM)(t:TN)(ht:w.tr<=1000)(hb:w.bl.length<=1000)(hd:t.d.body.length<=1000000):
  Cm prog 33 [Fx w,UM t] (fun h=>n9 h w.ba (uU w.bl)) [] (fun h v A=>∃w',v=Fx w'/\A=[]/\tl w t w'/\n9 h w'.ba (uU w'.bl)):=by
 refine A0 50 func33 rfl rfl rfl ?_;rintro F R z;refine D1 ?_;refine m8 rfl rfl ?_;intro k;refine m8 rfl rfl ?_;intro u;refine i7 rfl ?_;intro y;refine P1 ?_;obtain⟨f,d⟩:∃f:WM,f={w with s:=t.b,x:=t.bx}:=⟨_,rfl⟩;refine C5 (H':=N7 k f::aj u t::.blk y (.cells (NQ ⟨oT,rt,IL,dq,du,0,[],none,0⟩).toArray 65)::R) (fun w b=>by rw[d];exact D3 (A:=[_,_,_]) (J:=[]) tk b) ?_;refine E8 ?_;refine n8 (ι:=WM) (fun q=>q={f with q:=ja w t,ql:=if t.d.ask=true then t.y.ql else w.ql,tr:=Fy w t}) (fun _=>[(2,i8 k),(3,i8 u),(4,i8 y)]) (fun q=>N7 k q::aj u t::.blk y (.cells (NQ ⟨oT,rt,IL,dq,du,0,[],none,0⟩).toArray 65)::R) ?_ ?_
 ·refine p7 rfl ?_ ?_<;>intro h
  ·refine al ?_;obtain⟨g,i⟩:∃g:WM,g={f with q:=t.d.req,ql:=t.y.ql}:=⟨_,rfl⟩;have C:g.tr=w.tr:=(by rw[i,d]);have D:g.q=t.d.req:=(by rw[i]);refine C5 (H':=N7 k g::aj u t::.blk y (.cells (NQ ⟨oT,rt,IL,dq,du,0,[],none,0⟩).toArray 65)::R) (fun w b=>by rw[i];exact D3 (A:=[_,_,_]) (J:=[]) tk b) ?_;refine E8 ?_;refine f_ ((q_ rfl rfl).eq (v':=.bool (decide (t.d.req.op=1))) (qn (kz.2 (by rw[D])))) ?_;refine O_ ?_ ?_<;>intro h2
   ·have M:t.d.req.op=1:=zy h2;refine A5 ?_;refine f_ ((L9 rfl rfl qb).eq (v':=.int .u64 ((g.tr+1:Nat):Int)) (by congr 1)) ?_;refine wk 13 ?_;exact g_ {f with q:=ja w t,ql:=if t.d.ask=true then t.y.ql else w.ql,tr:=Fy w t} rfl (fun v b=>by
     have O:({f with q:=ja w t,ql:=if t.d.ask=true then t.y.ql else w.ql,tr:=Fy w t}:WM)={g with q:={g.q with node:=1,life:=1,tr:=g.tr+1},tr:=g.tr+1}:=by
      rw[C,D,i];unfold ja Fy;rw[zr h,zr M,zr h,zr h,zr M]
     rw[O];exact D3 (A:=[_,_,_]) (J:=[]) tk b)
   ·refine x6 ?_;have M:¬t.d.req.op=1:=zu h2;exact g_ {f with q:=ja w t,ql:=if t.d.ask=true then t.y.ql else w.ql,tr:=Fy w t} rfl (fun v b=>by
     have O:({f with q:=ja w t,ql:=if t.d.ask=true then t.y.ql else w.ql,tr:=Fy w t}:WM)=g:=by
      rw[i,d];unfold ja Fy;rw[zr h,zb M,zr h,zr h,zb M]
     rw[O];exact b)
  ·refine x6 ?_;have Q:¬t.d.ask=true:=fun e=>(by rw[e] at h;cases h);exact g_ {f with q:=ja w t,ql:=if t.d.ask=true then t.y.ql else w.ql,tr:=Fy w t} rfl (fun v b=>by
    have O:({f with q:=ja w t,ql:=if t.d.ask=true then t.y.ql else w.ql,tr:=Fy w t}:WM)=f:=by
     rw[d];unfold ja Fy;rw[zb Q,zb Q,zb Q]
    rw[O];exact b)
 rintro c S;have a:c.ba=w.ba/\c.bl=w.bl/\c.bc=w.bc:=by rw[S,d];exact qm
 refine E8 ?_;refine V7 (fun(j:BL) (o:AC) (_:Unit) (n:l9)=>F.le n/\j=Ra w t/\n9 n.heap o.1 (uU j)) (fun _ _ _ _=>[(2,i8 k),(4,i8 y)]) (fun _ _ _ n=>n) (fun j o _ _=>N7 k {c with bl:=j,ba:=o.1,bc:=o.2}::.blk y (.cells (NQ ⟨oT,rt,IL,dq,du,0,[],none,0⟩).toArray 65)::R) ?_ ?_
 ·refine p7 rfl ?_ ?_<;>intro h
  ·refine x6 ?_;refine D8 [2,6,10] [0,3,7,12,13,15] [N7 k c,aj u t] 16 ?_;refine wd [1,2,4,5,6,8,9,10] ?_;refine h_ 0 rfl i6 ?_;refine N3 rfl ?_;intro Pl;refine V2 ?_;refine h_ 3 rfl i6 ?_;refine u7 uT (l:=[]) (m:=c.bl) aF dD (by show(0+c.bl.length)*32<=_;rw[a.2.1];omega) ?_ (hsrc:=fun v b=>by rw[a.1,a.2.1];exact z.le b.keep) (h63:=by rw[a.2.1];simp only[kx];omega);intro a37 h1 _;refine V2 ?_;refine h_ 7 rfl i6 ?_;refine c_ rfl (Dg.Sum_ct t.d.body qb) qw rfl ?_;refine fy [11] ?_;refine h_ 12 rfl i6 ?_;refine D2 uT (Dg.sha t.d.body,t.d.body) rfl ?_;intro a46 _;refine rR ?_;refine h_ 13 rfl i6 ?_;refine u7 uT (l:=c.bl) (m:=[(Dg.sha t.d.body,t.d.body)]) aF dD (by show(c.bl.length+1)*32<=_;rw[a.2.1];omega) ?_ (h63:=by rw[a.2.1];simp only[z1,kx];omega);intro T U _;refine D7 [14,15] ?_;refine kL (Z:=[.own (.slice T (c.bl++[(Dg.sha t.d.body,t.d.body)]).length U) 95 2 (uU (c.bl++[(Dg.sha t.d.body,t.d.body)]))]) tk fun n p ⟨bs,X⟩=>?_;exact y7 (c.bl++[(Dg.sha t.d.body,t.d.body)],(T,U),(),n) ⟨p,by unfold Ra;rw[zr h,a.2.1],A_.rd X ud⟩ rfl (fun v b=>D3 (A:=[_,_]) (J:=[aj u t,_]) tk b)
  ·refine x6 ?_;have Q:¬t.d.store=true:=fun e=>(by rw[e] at h;cases h);exact y7 (c.bl,(c.ba,c.bc),(),F) ⟨l9.le_refl _,by unfold Ra;rw[zb Q,a.2.1],by rw[a.1,a.2.1];exact z⟩ rfl (fun v b=>D3 (A:=[_,_]) (J:=[_]) tk b)
 rintro j o _ n ⟨p,Y,h0⟩;obtain⟨V,r⟩:∃V:WM,V={c with bl:=j,ba:=o.1,bc:=o.2}:=⟨_,rfl⟩;rw[<-r];refine M4 ?_;refine I4 (A:=[]) (v:=Fx V) p ⟨V,rfl,rfl,?_,by rw[r];exact h0⟩ ?_
 ·rw[r,S,d];exact⟨rfl,rfl,rfl,rfl,rfl,rfl,Y⟩
 ·exact H7 rfl rfl ud rfl _ qh (fun v b=>D3 (A:=[]) (J:=[_,_]) tk b)
