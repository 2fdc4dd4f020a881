import Derived.Test.YtmcepdopookilaaGreatDoorubx19
set_option maxHeartbeats 16000000
set_option maxRecDepth 8000
set_option linter.unusedVariables false
set_option linter.unusedSimpArgs false
set_option linter.defProp false
namespace Go.Proofs.YtmcepdopookilaaGreatDoor.Rp
open Go Go.Sl Go.RowKit Go.Proofs.Tryz
theorem Nq(s:Bs):(R9 s).length=s.length:=by simp[R9]
def Y_(l:List RM):List As:=l.flatMap fun m=>if m.1.a5Y=[] then[] else[A5 m.2.fa m.1.a5Y m.2.fc]
def kK(m:RM)(h:l_):Prop:=(fG m.1 m.2 h/\yR m.2)\/∃fa fc,m=zS fa fc
theorem kK.le{m:RM}{h b:l_}(k:kK m h)(hl:l_.le h b):kK m b:=by
 rcases k with⟨a,c⟩|a
 ·exact .inl ⟨a.le hl,c⟩
 ·exact .inr a
theorem Nr{m:RM}{h:l_}(k:fG m.1 m.2 h)(e:yR m.2):m.1.a5Y=[]:=by
 have b:=k.a5Y;rw[e.1] at b
 cases hq:m.1.a5Y with
 |nil=>rfl
 |cons a t=>
  obtain⟨d,c,_⟩:=b (by rw[hq];simp[fV])
  cases c
theorem nJ{l:List RM}{h:l_}(k:∀m∈l,fG m.1 m.2 h/\yR m.2):Y_ l=[]:=by
 unfold Y_;rw[List.flatMap_eq_nil_iff];intro m a;rw[zg (Nr (k m a).1 (k m a).2)]
theorem nK(a b:List RM):Y_ (a++b)=Y_ a++Y_ b:=Z7
theorem IE(b:BX)(fa:Option Addr)(fc:Nat):Y_ (mB b fa fc)=[A5 fa R6 fc]:=rfl
structure Ns(x:AN)(s:SE):Prop where
 ok:rt x
 ml:V_ x.m.s
 a5M:s.a5N.a5M.length<=50000
 us:x.us.length<=100000
 uo:x.o.a5P.length<=100000/\fT x.o.a5P
 mo:x.o.mods.length<=100000/\fT x.o.mods
 val:x.o.val<18446744073709551616
abbrev Qi:Bs:=[65,80,80,69,78,68,85,73,68,32]
abbrev uH(x:AN):Bs:=if x.o.a5P=[] then x.r.code else Qi++R5 x.o.val++[32]++R5 (x.o.a5P.getD 0 0)
abbrev Nt(w:Bs):RR:={R0 with kind:=11,box:=w}
def Ow(b:BX):List RR:=[uG,kI b.lts.length,ID xj b.val,ID mz b.next,ID mA b.high]
def M8(x:AN)(s:SE)(r:RR)(s':SE)(l:List RR):Prop:=
 if x.c.kind=7 then s'={s with a5O:=1,ses:=x.o.ses,num:=0}/\r=x.r/\l=[]
 else if x.c.kind=14 then s'=s/\r={x.r with code:=uH x}/\l=[]
 else if x.c.kind=8\/x.c.kind=9 then(ak x.m.s x.c.box=none/\s'=s/\r=qi x.c.tag/\l=[])\/∃b,ak x.m.s x.c.box=some b/\s'={s with a5N:=P4 b,a5O:=2,ro:=decide (x.c.kind=9)}/\r={x.r with code:=aG x.c.kind}/\l=Ow b
 else if x.c.kind=12 then s'=s/\r=x.r/\l.length<=8/\∀q∈l,∃b∈x.m.s.a5J,q=Nt b.name
 else if x.c.kind=13 then Ou x s r s' l
 else if x.c.kind=15 then s'=s/\r=x.r/\∃nums m,l=[BO nums m]
 else if x.c.kind=16 then ru x s x.us r s' l
 else if x.c.kind=17 then ru x s [] r s' l
 else s'=s/\r=x.r/\l=[]
def TE(g:Nat)(x:AN)(d:DD)(y:DL)(Q:RR->SE->List RR->Prop)(h:l_)(v:Value)(A:List As):Prop:=v=.tuple #[]/\∃r s sl l a c,Q r s (l.map Prod.fst)/\(∀m∈l,kK m h)/\S5 s sl h/\l.length<=200000/\A=C2 g {x with r:=r,z:=L0}::l5 sl.ra s.a5N.a5M sl.rc::(O2 x.b s sl d (C1 y l a c)++Y_ l)
theorem Nu(g:Nat)(x:AN)(s:SE)(sl:SL)(d:DD)(y:DL)(hx:Ns x s)(hz:x.z=L0)(hl:y.rl.length<=100):
  Cm prog 163 [l9 g] (fun h=>cJ x h/\S5 s sl h) (C2 g x::l5 sl.ra s.a5N.a5M sl.rc::O2 x.b s sl d y) (TE g x d y (M8 x s)):=by
 have a7:=hx.a5M;have y2:=hx.us;have q0:({x with r:=x.r,z:=L0}:AN)=x:=by
  obtain⟨xb,xc,xk,xm,xo,xy,y3,z0,z2,u0,u1,u2,u8,xr,xz⟩:=x;obtain rfl:xz=L0:=hz;rfl
 obtain⟨b7,h7⟩:=o8 (decide (x.c.kind=7));obtain⟨v0,q8⟩:=o8 (decide (x.c.kind=14));obtain⟨b8,h8⟩:=o8 (decide (x.c.kind=8));obtain⟨b9,h9⟩:=o8 (decide (x.c.kind=9));obtain⟨v1,q9⟩:=o8 (decide (x.c.kind=12));obtain⟨v2,x0⟩:=o8 (decide (x.c.kind=13));obtain⟨v3,x1⟩:=o8 (decide (x.c.kind=15));obtain⟨v4,x2⟩:=o8 (decide (x.c.kind=16));obtain⟨v5,x3⟩:=o8 (decide (x.c.kind=17));refine y5 133 func163 rfl rfl rfl ?_;rintro F R ⟨u,D⟩;refine I8 5 ?_;refine dl (fun(r:RR) (k:SE) (f:SL) (l:List RM) (o:AC) (t:l8)=>F.le t/\M8 x s r k (l.map Prod.fst)/\(∀m∈l,kK m t.heap)/\S5 k f t.heap/\l.length<=200000) (fun _ _ _ _ _ _=>[(0,l9 g)]) (fun _ _ _ _ _ t=>t) (fun r k f l o _=>C2 g {x with r:=r,z:=L0}::l5 f.ra k.a5N.a5M f.rc::E9 x.b k f d (C1 y l o.1 o.2)::u7 o.1 (y.rl++l) o.2::(Y_ l++R)) ?_ ?_
 ·refine n8 ?_;have h0:∀w,Hp F w (C2 g x::l5 sl.ra s.a5N.a5M sl.rc::E9 x.b s sl d y::u7 y.da y.rl y.dc::R)->Hp F w (C2 g {x with r:=x.r,z:=L0}::l5 sl.ra s.a5N.a5M sl.rc::E9 x.b s sl d (C1 y [] y.da y.dc)::u7 y.da (y.rl++[]) y.dc::(Y_ []++R)):=fun w n=>by
   rw[q0];simp only[C1,z7];exact n
  have x9:∀(Q:RR->SE->List RR->Prop) (t:l8) (v:Value) (A:List As),(∀r k l,Q r k l->M8 x s r k l/\l.length<=200000)->xg g x d y Q t.heap v A->F.le t->∃(r:RR) (k:SE) (f:SL) (l:List RM) (o:AC),v=.tuple #[]/\(M8 x s r k (l.map Prod.fst)/\(∀m∈l,kK m t.heap)/\S5 k f t.heap/\l.length<=200000)/\A++R=C2 g {x with r:=r,z:=L0}::l5 f.ra k.a5N.a5M f.rc::E9 x.b k f d (C1 y l o.1 o.2)::u7 o.1 (y.rl++l) o.2::(Y_ l++R):=fun Q t v A hQ ⟨hv,r,k,f,l,a,c,U,S,hs,V⟩ v6=>by
   refine⟨r,k,f,l,(a,c),hv,⟨(hQ _ _ _ U).1,fun m w4=>.inl (S m w4),hs,by have:=(hQ _ _ _ U).2;rwa [zh] at this⟩,?_⟩;rw[nJ S,V];rfl
  refine C7 ?_;refine f_ ((p7 rfl rfl).eq (v':=.bool b7) (qn ((qz).trans h7.symm))) ?_;refine r7 ?_
  cases b7
  case true=>
   have e7:x.c.kind=7:=qr h7.symm;refine w8 ?_;refine D2 [3,7,11,16] [20,24,28] [C2 g x] 29 ?_;refine wd [0,1,2,3,4,5,6,7,8,9,10,11,12,13,14,15,16,17,18,19,20,21,22,23,24,25,26,27,28] ?_;exact y6 (x.r,{s with a5O:=1,ses:=x.o.ses,num:=0},sl,[],(y.da,y.dc),F) ⟨l8.le_refl _,by unfold M8;rw[zg e7];exact qm,qy,⟨D.a5P,D.cmd⟩,zw _⟩ rfl (fun w n=>by
    rw[q0];simp only[C1,z7];exact C6 (A:=[_,_,_,_]) (J:=[]) tk n)
  have e7:¬x.c.kind=7:=zq h7.symm;refine C7 ?_;refine f_ ((p7 rfl rfl).eq (v':=.bool v0) (qn ((qz).trans q8.symm))) ?_;refine r7 ?_
  cases v0
  case true=>
   have M:x.c.kind=14:=qr q8.symm;refine wk 7 ?_;refine o9 rfl ?_ ?_<;>intro h
   ·have O:0<x.o.a5P.length:=(by have:=qr h;omega);have y0:=Y5 u.o.a5P O;have w5:x.o.a5P≠[]:=fun e=>(by rw[e] at O;simp at O);have v7:x.o.a5P.getD 0 0<18446744073709551616:=hx.uo.2 _ (by rw[zd,zj O];exact zy O);have a0:=kJ 19 x.o.val (by have:=hx.val;omega);have a1:=kJ 19 (x.o.a5P.getD 0 0) qb;refine w8 ?_;refine D2 [5,13] [6,15,16,21] [C2 g x] 22 ?_;refine wd [0,1,2,3,4,5,9,10,11,12,13] ?_;refine w_ 14 rfl (m9 rfl y0 rfl qb) ?_;refine az 6 15 rfl rfl i6 ?_ ?_;refine c_ rfl (aF x.o.val hx.val) (fun h hh _=>u.g.le hh) rfl ?_;refine fg [7,8] ?_;refine h_ 15 rfl i6 ?_;refine r_ (i8 rfl (fun w n=>ui n u.o.a5P (i:=0) x4 O)) ?_;refine xF ?_;refine h_ 16 rfl i6 ?_;refine c_ rfl (aF (x.o.a5P.getD 0 0) v7) (fun h hh _=>u.g.le hh) rfl ?_;refine E6 [17,18,19,20,21] ?_
    rotate_left 1
    refine r_ (i8 rfl (fun w n=>ui n u.o.a5P (i:=0) x4 O)) ?_;refine Y9 ?_;refine h_ 6 rfl i6 ?_;refine c_ rfl (aF x.o.val hx.val) (fun h hh _=>u.g.le hh) rfl ?_;refine E6 [7,8] ?_;refine h_ 16 rfl i6 ?_;refine c_ rfl (aF (x.o.a5P.getD 0 0) v7) (fun h hh _=>u.g.le hh) rfl ?_;refine E6 [17,18,19,20,21] ?_
    rotate_left 1
    all_goals (refine w8 ?_)
    all_goals exact y6 ({x.r with code:=Qi++R5 x.o.val++[32]++R5 (x.o.a5P.getD 0 0)},s,sl,[],(y.da,y.dc),F) ⟨l8.le_refl _,by unfold M8;rw[zk e7,zg M];exact⟨rfl,by rw[show uH x=Qi++R5 x.o.val++[32]++R5 (x.o.a5P.getD 0 0) from zk w5],rfl⟩,qy,D,zw _⟩ rfl (fun w n=>by
     obtain⟨xb,xc,xk,xm,xo,xy,y3,z0,z2,u0,u1,u2,u8,xr,xz⟩:=x;obtain rfl:xz=L0:=hz;simp only[C1,z7];exact C6 (A:=[_,_,_,_]) (J:=[]) tk n)
   ·have v8:x.o.a5P=[]:=jx (qu h);refine w8 ?_;exact y6 (x.r,s,sl,[],(y.da,y.dc),F) ⟨l8.le_refl _,by unfold M8;rw[zk e7,zg M];exact⟨rfl,by rw[show uH x=x.r.code from zg v8],rfl⟩,qy,D,zw _⟩ rfl h0
  have M:¬x.c.kind=14:=zq q8.symm;refine w8 ?_;have h6:∀(t:l8) (v:Value) (A:List As),x.c.kind=8\/x.c.kind=9->Ov g x s sl d y t.heap v A->F.le t->∃(r:RR) (k:SE) (f:SL) (l:List RM) (o:AC),v=.tuple #[]/\(M8 x s r k (l.map Prod.fst)/\(∀m∈l,kK m t.heap)/\S5 k f t.heap/\l.length<=200000)/\A++R=C2 g {x with r:=r,z:=L0}::l5 f.ra k.a5N.a5M f.rc::E9 x.b k f d (C1 y l o.1 o.2)::u7 o.1 (y.rl++l) o.2::(Y_ l++R):=fun t v A hk ⟨hv,ho⟩ v6=>by
   have k0:S5 s sl t.heap:=Mn.le v6.heap D;rcases ho with⟨hn,a,c,V⟩|⟨b,ra,rc,fa,fc,a,c,hb,V⟩
   ·refine⟨qi x.c.tag,s,sl,[],(a,c),hv,⟨?_,qy,k0,zw _⟩,by rw[V];rfl⟩;unfold M8;rw[zk e7,zk M,zg hk];exact .inl ⟨hn,rfl,rfl,rfl⟩
   ·refine⟨{x.r with code:=aG x.c.kind},{s with a5N:=P4 b,a5O:=2,ro:=decide (x.c.kind=9)},{sl with ra:=ra,rc:=rc},mB b fa fc,(a,c),hv,⟨?_,fun m S=>?_,⟨k0.a5P,k0.cmd⟩,by simp⟩,?_⟩
    ·unfold M8;rw[zk e7,zk M,zg hk];exact .inr ⟨b,hb,rfl,rfl,rfl⟩
    ·rcases kw.1 S with rfl|S
     ·exact .inr ⟨fa,fc,rfl⟩
     ·simp at S;rcases S with rfl|rfl|rfl|rfl<;>exact .inl ⟨⟨rfl,n9.nil _ _,n9.nil _ _,n9.nil _ _,qy⟩,rfl,rfl⟩
    ·rw[V,IE];obtain⟨xb,xc,xk,xm,xo,xy,y3,z0,z2,u0,u1,u2,u8,xr,xz⟩:=x;obtain rfl:xz=L0:=hz;rfl
  refine C7 ?_;refine f_ ((p7 rfl rfl).eq (v':=.bool b8) (qn ((qz).trans h8.symm))) ?_;refine r7 ?_
  cases b8
  case true=>
   have e8:x.c.kind=8:=qr h8.symm;refine r7 ?_;refine A9 (sO g x s sl d y hx.ok hz hx.ml qb) u ?_;intro v A t p U;obtain⟨r,k,f,l,o,rfl,⟨h1,h2,h3,h4⟩,V⟩:=h6 t v A (.inl e8) U p;refine I7 (H':=C2 g {x with r:=r,z:=L0}::l5 f.ra k.a5N.a5M f.rc::E9 x.b k f d (C1 y l o.1 o.2)::u7 o.1 (y.rl++l) o.2::(Y_ l++R)) (fun w n=>by rw[<-V];exact n) ?_;refine w8 ?_;exact y6 (r,k,f,l,o,t) ⟨p,h1,h2,h3,h4⟩ rfl i_
  have e8:¬x.c.kind=8:=zq h8.symm;refine C7 ?_;refine f_ ((p7 rfl rfl).eq (v':=.bool b9) (qn ((qz).trans h9.symm))) ?_;refine r7 ?_
  cases b9
  case true=>
   have e9:x.c.kind=9:=qr h9.symm;refine r7 ?_;refine A9 (sO g x s sl d y hx.ok hz hx.ml qb) u ?_;intro v A t p U;obtain⟨r,k,f,l,o,rfl,⟨h1,h2,h3,h4⟩,V⟩:=h6 t v A (.inr e9) U p;refine I7 (H':=C2 g {x with r:=r,z:=L0}::l5 f.ra k.a5N.a5M f.rc::E9 x.b k f d (C1 y l o.1 o.2)::u7 o.1 (y.rl++l) o.2::(Y_ l++R)) (fun w n=>by rw[<-V];exact n) ?_;refine w8 ?_;exact y6 (r,k,f,l,o,t) ⟨p,h1,h2,h3,h4⟩ rfl i_
  have e9:¬x.c.kind=9:=zq h9.symm;have Y:¬(x.c.kind=8\/x.c.kind=9):=fun h=>h.elim e8 e9;refine C7 ?_;refine f_ ((p7 rfl rfl).eq (v':=.bool v1) (qn ((qz).trans q9.symm))) ?_;refine r7 ?_
  cases v1
  case true=>
   have X:x.c.kind=12:=qr q9.symm;have k8:x.c.a5U.length<=2000000000:=hx.ok.c.pat;have v9:(R9 x.c.a5U).length<=2000000000:=(by rw[Nq];exact k8);have a2:x.m.a5J.length<=8:=(by have:=hx.ml.a5J;simpa using this);refine I8 7 ?_;refine n7 (ι:=List RM×AC) (fun q=>q.1.length<=8/\∀m∈q.1,∃b∈x.m.s.a5J,m=(Nt b.name,L0)) (fun _=>[(0,l9 g)]) (fun q=>C2 g x::l5 sl.ra s.a5N.a5M sl.rc::E9 x.b s sl d (C1 y q.1 q.2.1 q.2.2)::u7 q.2.1 (y.rl++q.1) q.2.2::R) ?_ ?_
   ·refine n8 ?_;refine o7 (ι:=Nat×List RM×AC) (fun i=>i.1<=x.m.a5J.length/\i.2.1.length<=i.1/\∀m∈i.2.1,∃b∈x.m.s.a5J,m=(Nt b.name,L0)) (fun i=>[(0,l9 g),(78,.slice x.m.ba x.m.a5J.length x.m.bc),(79,.int .i64 (x.m.a5J.length:Nat)),(80,.int .i64 (i.1:Nat))]) (fun i=>C2 g x::l5 sl.ra s.a5N.a5M sl.rc::E9 x.b s sl d (C1 y i.2.1 i.2.2.1 i.2.2.2)::u7 i.2.2.1 (y.rl++i.2.1) i.2.2.2::R) (fun i=>x.m.a5J.length-i.1) (0,[],(y.da,y.dc)) ⟨zw _,zr _,qy⟩ sub (fun w n=>by simp only[C1,z7];exact n) ?_;rintro⟨j,l,o⟩ ⟨hj,w7,T⟩;simp only at hj w7 T;refine R7 ?_ ?_<;>intro h
    ·have q1:j<x.m.a5J.length:=(by have:=qr h;omega);have y0:=q_ u.m.a5J o_ qp q1;have w0:x.m.a5J[j].x∈x.m.s.a5J:=Q5 (zy q1);have q3:x.m.a5J[j].name.length<=1000000:=(by have:=(hx.ml.box _ w0).name;show(x.m.a5J[j].x).name.length<=_;omega);refine I8 0 ?_;refine n7 (ι:=List RM×AC) (fun q=>q.1.length<=j+1/\∀m∈q.1,∃b∈x.m.s.a5J,m=(Nt b.name,L0)) (fun _=>[(0,l9 g),(78,.slice x.m.ba x.m.a5J.length x.m.bc),(79,.int .i64 (x.m.a5J.length:Nat)),(80,.int .i64 (j:Nat))]) (fun q=>C2 g x::l5 sl.ra s.a5N.a5M sl.rc::E9 x.b s sl d (C1 y q.1 q.2.1 q.2.2)::u7 q.2.1 (y.rl++q.1) q.2.2::R) ?_ ?_
     ·refine n8 ?_;refine C7 ?_;refine f_ (m9 rfl y0 rfl qb) ?_;refine r_ (p8 rfl (fun w n=>cQ (C:=cY) (u.m.a5J.le n.keep) o_ qp q1 x4) (o_ _)) ?_;refine i7 rfl ?_;intro g3;refine r7 ?_;refine I8 0 ?_;refine n7 (ι:=Bool) (fun _=>True) (fun q=>[(3,l9 g3),(107,.bool q),(0,l9 g),(78,.slice x.m.ba x.m.a5J.length x.m.bc),(79,.int .i64 (x.m.a5J.length:Nat)),(80,.int .i64 (j:Nat))]) (fun _=>Br g3 x.m.a5J[j]::C2 g x::l5 sl.ra s.a5N.a5M sl.rc::E9 x.b s sl d (C1 y l o.1 o.2)::u7 o.1 (y.rl++l) o.2::R) ?_ ?_
      ·obtain⟨q5,h5⟩:=o8 (decide (x.m.a5J[j].name=[73,78,66,79,88]))
       cases q5
       ·refine w8 ?_;refine D2 [4,6,10,17,20] [7] [C2 g x,Br g3 x.m.a5J[j]] 24 ?_;refine wd [0,1,2,3,4,5,6] ?_;refine h_ 7 rfl i6 ?_;refine e_ (C:=[]) (nI x.c.a5U x.m.a5J[j].name k8 q3) qw ?_;rintro v A ⟨⟨q,rfl⟩,rfl⟩;cases q;rotate_left 1;(refine F8 ?_;refine dH (.inr (aW G2)) ?_;refine wd [8,9,10] ?_;(first|refine s_ 11 ?_|refine t_ 11 ?_);refine wd [12,13,14,15,16,17,19,20] ?_;refine h_ 18 rfl i6 ?_;(first|refine T4 rfl rfl rfl rfl rfl rfl rfl ?_|refine Y2 rfl rfl rfl rfl rfl rfl ?_);refine F8 ?_;refine dH (.inr (aW G2)) ?_;refine h_ 21 rfl i6 ?_;(first|refine T4 rfl rfl rfl rfl rfl rfl rfl ?_|refine Y2 rfl rfl rfl rfl rfl rfl ?_);refine F8 ?_;refine dH (.inl i6) ?_;refine wd [22,23] ?_;exact g_ true trivial (fun w n=>C6 (A:=[_,_,_,_,_]) (J:=[]) tk n));refine fg [8,9,10] ?_;(first|refine s_ 11 ?_|refine t_ 11 ?_|refine E1 11 rfl ((C8 rfl rfl).eq (v':=.bool false) (qn h5.symm)) rfl rfl rfl rfl rfl rfl i6 ?_);refine wd [12,13,14,15,16,17,19,20] ?_;refine h_ 18 rfl i6 ?_;(first|refine u_ ?_|(refine v_ ?_;refine c_ rfl (I4 x.c.a5U qb) qw rfl ?_));refine Y9 ?_;refine h_ 21 rfl i6 ?_;(first|refine u_ ?_|(refine v_ ?_;refine e_ (C:=[]) (nI (R9 x.c.a5U) x.m.a5J[j].name v9 q3) qw ?_;rintro v A ⟨⟨q2,rfl⟩,rfl⟩));refine E6 [22,23] ?_;exact g_ _ trivial (fun w n=>C6 (A:=[_,_,_,_,_]) (J:=[]) tk n)
       ·refine w8 ?_;refine D2 [4,6,10,17,20] [7] [C2 g x,Br g3 x.m.a5J[j]] 24 ?_;refine wd [0,1,2,3,4,5,6] ?_;refine h_ 7 rfl i6 ?_;refine e_ (C:=[]) (nI x.c.a5U x.m.a5J[j].name k8 q3) qw ?_;rintro v A ⟨⟨q,rfl⟩,rfl⟩;cases q;rotate_left 1;(refine F8 ?_;refine dH (.inr (aW G2)) ?_;refine wd [8,9,10] ?_;(first|refine s_ 11 ?_|refine t_ 11 ?_);refine wd [12,13,14,15,16,17,19,20] ?_;refine h_ 18 rfl i6 ?_;(first|refine T4 rfl rfl rfl rfl rfl rfl rfl ?_|refine Y2 rfl rfl rfl rfl rfl rfl ?_);refine F8 ?_;refine dH (.inr (aW G2)) ?_;refine h_ 21 rfl i6 ?_;(first|refine T4 rfl rfl rfl rfl rfl rfl rfl ?_|refine Y2 rfl rfl rfl rfl rfl rfl ?_);refine F8 ?_;refine dH (.inl i6) ?_;refine wd [22,23] ?_;exact g_ true trivial (fun w n=>C6 (A:=[_,_,_,_,_]) (J:=[]) tk n));refine fg [8,9,10] ?_;(first|refine s_ 11 ?_|refine t_ 11 ?_|refine E1 11 rfl ((C8 rfl rfl).eq (v':=.bool true) (qn h5.symm)) rfl rfl rfl rfl rfl rfl i6 ?_);refine wd [12,13,14,15,16,17,19,20] ?_;refine h_ 18 rfl i6 ?_;(first|refine u_ ?_|(refine v_ ?_;refine c_ rfl (I4 x.c.a5U qb) qw rfl ?_));refine Y9 ?_;refine h_ 21 rfl i6 ?_;(first|refine u_ ?_|(refine v_ ?_;refine e_ (C:=[]) (nI (R9 x.c.a5U) x.m.a5J[j].name v9 q3) qw ?_;rintro v A ⟨⟨q2,rfl⟩,rfl⟩));refine E6 [22,23] ?_;exact g_ _ trivial (fun w n=>C6 (A:=[_,_,_,_,_]) (J:=[]) tk n)
      intro a6 _;refine O0 ?_ ?_<;>intro h
      ·refine w8 ?_;refine D2 [3,5] [7] [C2 g x,Br g3 x.m.a5J[j]] 8 ?_;refine wd [0,1,2,3,4,5] ?_;refine w_ 6 rfl (y8 (ps:=[(0,.const (.int .i64 11)),(8,.tmp 113)]) (vs:=[(0,.int .i64 11),(8,B x.m.a5J[j].name)]) (cells:=(tv (Nt x.m.a5J[j].name) L0).toArray) rfl i6) ?_;refine h_ 7 rfl i6 ?_;refine e_ (V3 x.b s sl d (C1 y l o.1 o.2) (Nt x.m.a5J[j].name) L0 (by simp only[zz];omega)) qw ?_;rintro v A ⟨rfl,a9,c9,rfl⟩;refine E6 [] ?_;rw[show F5 (C1 y l o.1 o.2) (Nt x.m.a5J[j].name,L0) a9 c9=C1 y (l++[(Nt x.m.a5J[j].name,L0)]) a9 c9 from by simp[F5,C1]];exact g_ (l++[(Nt x.m.a5J[j].name,L0)],a9,c9) ⟨by rw[zz];simp only[zx,zn];omega,fun m S=>by rcases zb.1 S with S|S;exact T m S;exact⟨_,w0,zu.1 S⟩⟩ (fun w n=>C6 (A:=[_,_,_,_]) (J:=[_]) tk n)
      ·refine w8 ?_;exact g_ (l,o) ⟨by simp only;omega,T⟩ (fun w n=>C6 (A:=[_,_,_,_]) (J:=[_]) tk n)
     rintro⟨l2,o2⟩ ⟨w1,w2⟩;simp only at w1 w2;refine A1 ?_;exact l6 (i:=(j,l,o)) (j+1,l2,o2) ⟨q1,w1,w2⟩ qg sub i_
    ·refine w8 ?_;exact g_ (l,o) ⟨by simp only;omega,T⟩ i_
   rintro⟨l,o⟩ ⟨w3,T⟩;simp only at w3 T;have q4:∀h:l_,∀m∈l,fG m.1 m.2 h/\yR m.2:=fun h m S=>by
    obtain⟨b,hb,rfl⟩:=T m S;exact⟨⟨rfl,n9.nil _ _,n9.nil _ _,n9.nil _ _,qy⟩,rfl,rfl⟩
   refine w8 ?_;exact y6 (x.r,s,sl,l,o,F) ⟨l8.le_refl _,by
    unfold M8;rw[zk e7,zk M,zk Y,zg X];exact⟨rfl,rfl,by rw[zh];exact w3,fun q U=>by obtain⟨m,S,rfl⟩:=jv.1 U;obtain⟨b,hb,rfl⟩:=T m S;exact⟨b,hb,rfl⟩⟩,fun m S=>.inl (q4 _ m S),D,by simp only;omega⟩ rfl (fun w n=>by rw[q0,nJ (q4 F.heap)];exact n)
  have X:¬x.c.kind=12:=zq q9.symm;refine C7 ?_;refine f_ ((p7 rfl rfl).eq (v':=.bool v2) (qn ((qz).trans x0.symm))) ?_;refine r7 ?_
  cases v2
  case true=>
   have Z:x.c.kind=13:=qr x0.symm;refine r7 ?_;refine A9 (Ey g x s sl d y hx.ok hz hx.ml qb) ⟨u,D⟩ ?_;intro v A t p U;obtain⟨r,k,f,l,o,rfl,⟨h1,h2,h3,h4⟩,V⟩:=x9 _ t v A (fun r k l h=>by unfold M8;rw[zk e7,zk M,zk Y,zk X,zg Z];exact⟨h,by rcases h.2 with⟨_,h⟩|⟨_,_,_,h,_⟩<;>rw[h]<;>simp⟩) U p;refine I7 (H':=C2 g {x with r:=r,z:=L0}::l5 f.ra k.a5N.a5M f.rc::E9 x.b k f d (C1 y l o.1 o.2)::u7 o.1 (y.rl++l) o.2::(Y_ l++R)) (fun w n=>by rw[<-V];exact n) ?_;refine w8 ?_;exact y6 (r,k,f,l,o,t) ⟨p,h1,h2,h3,h4⟩ rfl i_
  have Z:¬x.c.kind=13:=zq x0.symm;refine C7 ?_;refine f_ ((p7 rfl rfl).eq (v':=.bool v3) (qn ((qz).trans x1.symm))) ?_;refine r7 ?_
  cases v3
  case true=>
   have k9:x.c.kind=15:=qr x1.symm;refine r7 ?_;refine A9 (Ex g x s sl d y hx.ok qb qb) u ?_;rintro v A t p ⟨rfl,q7,m,z,a,c,hn,q4,w9,rfl⟩;refine w8 ?_;exact y6 (x.r,s,sl,[(BO q7 m,z)],(a,c),t) ⟨p,by unfold M8;rw[zk e7,zk M,zk Y,zk X,zk Z,zg k9];exact⟨rfl,rfl,q7,m,rfl⟩,(fun q U=>by rw[zu.1 U];exact .inl ⟨q4,w9⟩),Mn.le p.heap D,by simp⟩ rfl (fun w n=>by rw[q0];exact n)
  have k9:¬x.c.kind=15:=zq x1.symm;refine C7 ?_;refine f_ ((p7 rfl rfl).eq (v':=.bool v4) (qn ((qz).trans x2.symm))) ?_;refine r7 ?_
  cases v4
  case true=>
   have q6:x.c.kind=16:=qr x2.symm;refine r7 ?_;refine A9 (zR g x s sl d y hx.ok hz qb y2 (by have:=hx.ok.c.a5Q;omega) qb) ⟨u,D⟩ ?_;intro v A t p U;obtain⟨r,k,f,l,o,rfl,⟨h1,h2,h3,h4⟩,V⟩:=x9 _ t v A (fun r k l h=>by unfold M8;rw[zk e7,zk M,zk Y,zk X,zk Z,zk k9,zg q6];exact⟨h,by have:=h.1;omega⟩) U p;refine I7 (H':=C2 g {x with r:=r,z:=L0}::l5 f.ra k.a5N.a5M f.rc::E9 x.b k f d (C1 y l o.1 o.2)::u7 o.1 (y.rl++l) o.2::(Y_ l++R)) (fun w n=>by rw[<-V];exact n) ?_;refine w8 ?_;exact y6 (r,k,f,l,o,t) ⟨p,h1,h2,h3,h4⟩ rfl i_
  have q6:¬x.c.kind=16:=zq x2.symm;refine C7 ?_;refine f_ ((p7 rfl rfl).eq (v':=.bool v5) (qn ((qz).trans x3.symm))) ?_;refine r7 ?_
  cases v5
  case true=>
   have y1:x.c.kind=17:=qr x3.symm;refine r7 ?_;refine A9 (Ez g x s sl d y hx.ok hz qb y2 hx.uo.1 hx.mo qb) ⟨u,D⟩ ?_;intro v A t p U;obtain⟨r,k,f,l,o,rfl,⟨h1,h2,h3,h4⟩,V⟩:=x9 _ t v A (fun r k l h=>by unfold M8;rw[zk e7,zk M,zk Y,zk X,zk Z,zk k9,zk q6,zg y1];exact⟨h,by have:=h.1;omega⟩) U p;refine I7 (H':=C2 g {x with r:=r,z:=L0}::l5 f.ra k.a5N.a5M f.rc::E9 x.b k f d (C1 y l o.1 o.2)::u7 o.1 (y.rl++l) o.2::(Y_ l++R)) (fun w n=>by rw[<-V];exact n) ?_;refine w8 ?_;exact y6 (r,k,f,l,o,t) ⟨p,h1,h2,h3,h4⟩ rfl i_
  have y1:¬x.c.kind=17:=zq x3.symm;refine w8 ?_;exact y6 (x.r,s,sl,[],(y.da,y.dc),F) ⟨l8.le_refl _,by unfold M8;rw[zk e7,zk M,zk Y,zk X,zk Z,zk k9,zk q6,zk y1];exact qm,qy,D,zw _⟩ rfl h0
 rintro r k f l o t ⟨p,h1,h2,h3,h4⟩;refine H4 (A:=C2 g {x with r:=r,z:=L0}::l5 f.ra k.a5N.a5M f.rc::(O2 x.b k f d (C1 y l o.1 o.2)++Y_ l)) (v:=.tuple #[]) p ⟨rfl,r,k,f,l,o.1,o.2,h1,h2,h3,h4,rfl⟩ ?_;exact m6 rfl _ qh i_
abbrev ig:Bs:=[116,104,101,32,115,101,115,115,105,111,110,32,105,115,32,103,111,110,101]
abbrev bE:Bs:=[116,104,101,32,109,97,105,108,98,111,120,32,105,115,32,103,111,110,101]
abbrev uP(x:AN):Bool:=decide (x.c.kind=8)||decide (x.c.kind=9)
abbrev ii(x:AN):Bool:=decide (x.c.kind=16)||decide (x.c.kind=17)||decide (x.c.kind=15)
abbrev BV(x:AN)(s:SE):SE:=if(uP x||decide (x.c.kind=4))=true then{s with a5O:=1,a5N:=Av,ro:=false} else s
abbrev xM(x:AN):AN:={x with r:=dU x.c.tag,z:=L0}
def fq(x:AN)(s s':SE)(d':DD):Prop:=
 if x.o.code=16 then s'={s with a5O:=3}/\d'={F_ with a5X:=[I3 ig],close:=true}
 else if x.c.kind=3 then s'={s with a5O:=3}/\d'={F_ with a5X:=[I3 dD,dU x.c.tag],close:=true}
 else∃r s1 l1 s2 l2,(if x.o.code=0 then M8 (xM x) (BV x s) r s1 l1 else s1=BV x s/\l1=[]/\r=nh x.c.tag (mI x.c.kind x.o.code).1 (mI x.c.kind x.o.code).2)
  /\(if s1.a5O=2/\uP x=false/\x.bx.val≠0 then s2={s1 with a5N:=(U9 s1.a5N x.bx.x (!ii x) s1.cond).1}/\l2=(U9 s1.a5N x.bx.x (!ii x) s1.cond).2 else s2=s1/\l2=[])
  /\(if s1.a5O=2/\uP x=false/\x.bx.val=0 then s'={s2 with a5O:=3}/\d'={F_ with a5X:=l1++l2++[r,I3 bE],close:=true} else s'=s2/\d'={F_ with a5X:=l1++l2++[r]})
def a1O(g:Nat)(x:AN)(s:SE)(h:l_)(v:Value)(A:List As):Prop:=v=.tuple #[]/\∃x' s' d' sl' y',x'.b=x.b/\fq x s s' d'/\d'.a5X=y'.rl.map Prod.fst/\(∀m∈y'.rl,kK m h)/\S5 s' sl' h/\y'.ql=cX/\y'.wa=none/\y'.wc=0/\A=C2 g x'::l5 sl'.ra s'.a5N.a5M sl'.rc::(O2 x'.b s' sl' d' y'++Y_ y'.rl)
theorem sP{x:AN}{s c:SE}{r:RR}{l:List RR}(h:M8 x s r c l)(f:V_ x.m.s)(a:s.a5N.a5M.length<=50000):c.a5N.a5M.length<=50000:=by
 have d:∀e,ru x s e r c l->c.a5N.a5M.length<=50000:=fun e h=>by
  obtain⟨_,⟨g,rfl,i⟩,_⟩:=h;have:=i.len;show g.a5M.length<=_;omega
 unfold M8 at h;split at h
 ·rw[h.1];exact a
 split at h
 ·rw[h.1];exact a
 split at h
 ·rcases h with⟨_,rfl,_⟩|⟨b,j,rfl,_⟩
  ·exact a
  ·have:=(f.box b (bS j)).lts;show(P4 b).a5M.length<=_;simp only[P4,zh];omega
 split at h
 ·rw[h.1];exact a
 split at h
 ·rw[h.1];exact a
 split at h
 ·rw[h.1];exact a
 split at h
 ·exact d _ h
 split at h
 ·exact d _ h
 ·rw[h.1];exact a
theorem Ql{x:AN}{s a:SE}{r:RR}{l:List RR}(h:M8 x s r a l)(hp:x.r.values=[]/\x.r.nums=[]/\x.r.a5Y=[]):r.values=[]/\r.nums=[]/\r.a5Y=[]:=by
 have d:∀e,ru x s e r a l->r.values=[]/\r.nums=[]/\r.a5Y=[]:=fun e h=>by
  obtain⟨_,_,h,_⟩:=h;rcases h with⟨c,rfl⟩|rfl
  ·exact hp
  ·exact qm
 unfold M8 at h;split at h
 ·rw[h.2.1];exact hp
 split at h
 ·rw[h.2.1];exact hp
 split at h
 ·rcases h with⟨_,_,rfl,_⟩|⟨b,f,_,rfl,_⟩
  ·exact qm
  ·exact hp
 split at h
 ·rw[h.2.1];exact hp
 split at h
 ·rcases h.2 with⟨rfl,_⟩|⟨rfl,_⟩
  ·exact qm
  ·exact hp
 split at h
 ·rw[h.2.1];exact hp
 split at h
 ·exact d _ h
 split at h
 ·exact d _ h
 ·rw[h.2.1];exact hp
theorem kL(b:BX):∀(k:Nat) (a:List (Nat×Nat)),(V7 b k a).1.length<=a.length/\(V7 b k a).2.length<=k
 |0,a=>⟨zr _,zr _⟩
 |k+1,a=>by
  unfold V7;split
  ·have:=kL b k a;exact⟨this.1,by omega⟩
  ·have:=kL b k (a.eraseIdx k);have c:(a.eraseIdx k).length<=a.length:=List.length_eraseIdx_le ..;exact⟨by simp only;omega,by simp only[zx];omega⟩
theorem sQ(v:VW)(b:BX)(e c:Bool):(U9 v b e c).2.length<=2*v.a5M.length+1:=by
 unfold U9;split
 ·exact zw _
 ·have h:=kL b v.a5M.length v.a5M;simp only;generalize hq:(if e=true then V7 b v.a5M.length v.a5M else(v.a5M,[]))=q;have a:q.1.length<=v.a5M.length/\q.2.length<=v.a5M.length:=by
   rw[<-hq];split
   ·exact h
   ·exact⟨zr _,zw _⟩
  have d:∀(f:((Nat×Nat)×Option LT)×Nat->Option RR),((q.1.map (X8 b)).zipIdx.filterMap f).length<=v.a5M.length:=fun f=>by
   refine jd (List.length_filterMap_le _ _) ?_;simp;exact a.1
  rw[zz,zz];have g:=d (fun h=>h.1.2.map fun x=>tD x (h.2+1) c);split<;>simp only[zn,zx]<;>omega
theorem Qo(g:Nat)(x:AN)(s:SE)(sl:SL)(hx:Ns x s)(hf:∀lm∈x.bx.ls,lm.t.a5Y.length<=16):
  Cm prog 78 [l9 g] (fun h=>cJ x h/\S5 s sl h) (C2 g x::l5 sl.ra s.a5N.a5M sl.rc::O2 x.b s sl F_ M_) (a1O g x s):=by
 obtain⟨v4,q3⟩:=o8 (decide (x.o.code=16));obtain⟨c0,u2⟩:=o8 (decide (x.o.code=0));obtain⟨b3,h3⟩:=o8 (decide (x.c.kind=3));obtain⟨b8,h8⟩:=o8 (decide (x.c.kind=8));obtain⟨b9,h9⟩:=o8 (decide (x.c.kind=9));obtain⟨b4,h4⟩:=o8 (decide (x.c.kind=4));obtain⟨v5,v6⟩:=o8 (decide (x.c.kind=15));obtain⟨v7,v8⟩:=o8 (decide (x.c.kind=16));obtain⟨v9,w0⟩:=o8 (decide (x.c.kind=17));obtain⟨th,q4⟩:=o8 (decide (x.bx.val=0));refine y5 213 func78 rfl rfl rfl ?_;rintro F R ⟨S,h0⟩;refine I8 6 ?_;refine n7 (ι:=Unit) (fun _=>x.o.code≠16/\x.c.kind≠3) (fun _=>[(0,l9 g),(2,.int .i64 (x.c.kind:Nat))]) (fun _=>C2 g x::l5 sl.ra s.a5N.a5M sl.rc::E9 x.b s sl F_ M_::u7 none [] 0::R) ?_ ?_
 ·refine n8 ?_;refine ap ?_;refine f_ ((p7 rfl rfl).eq (v':=.bool v4) (qn q3.symm)) ?_;refine r7 ?_
  cases v4
  case true=>
   have k8:x.o.code=16:=qr q3.symm;refine O3 ?_;refine e_ (tJ x.b s sl F_ M_ ig qp) qw ?_;rintro v A ⟨rfl,a,c,rfl⟩;refine ox ?_;refine H4 (A:=C2 g x::l5 sl.ra s.a5N.a5M sl.rc::(O2 x.b {s with a5O:=3} sl {F_ with a5X:=[I3 ig],close:=true} (F5 M_ (I3 ig,L0) a c)++Y_ [(I3 ig,L0)])) (v:=.tuple #[]) (l8.le_refl _) ⟨rfl,x,{s with a5O:=3},{F_ with a5X:=[I3 ig],close:=true},sl,F5 M_ (I3 ig,L0) a c,rfl,by unfold fq;rw[zg k8];exact qh,rfl,(fun m j=>by rw[zu.1 (show m∈[(I3 ig,L0)] from j)];exact .inl ⟨⟨rfl,n9.nil _ _,n9.nil _ _,n9.nil _ _,qy⟩,rfl,rfl⟩),⟨h0.a5P,h0.cmd⟩,rfl,rfl,rfl,rfl⟩ ?_;exact m6 rfl _ qh (fun w C=>C6 (A:=[_,_,E9 x.b {s with a5O:=3} sl {F_ with close:=true} (F5 M_ (I3 ig,L0) a c),u7 a [(I3 ig,L0)] c]) (J:=[]) tk C)
  have k8:¬x.o.code=16:=zq q3.symm;refine r7 ?_;refine f_ ((p7 rfl rfl).eq (v':=.bool b3) (qn ((qz).trans h3.symm))) ?_;refine r7 ?_
  cases b3
  case true=>
   have e3:x.c.kind=3:=qr h3.symm;refine w8 ?_;refine D2 [3,8] [9] [C2 g x] 10 ?_;refine wd [0,1,2,3,4,5,6,7,8] ?_;refine h_ 9 rfl i6 ?_;refine e_ (oK x.b s sl F_ M_ x.c.tag qp) qw ?_;rintro v A ⟨rfl,a,c,rfl⟩;refine E6 [] ?_;refine A4 ?_;refine H4 (A:=C2 g x::l5 sl.ra s.a5N.a5M sl.rc::(O2 x.b {s with a5O:=3} sl {F_ with a5X:=[I3 dD,dU x.c.tag],close:=true} {M_ with da:=a,dc:=c,rl:=[(I3 dD,L0),(dU x.c.tag,L0)]}++Y_ [(I3 dD,L0),(dU x.c.tag,L0)])) (v:=.tuple #[]) (l8.le_refl _) ⟨rfl,x,{s with a5O:=3},{F_ with a5X:=[I3 dD,dU x.c.tag],close:=true},sl,{M_ with da:=a,dc:=c,rl:=[(I3 dD,L0),(dU x.c.tag,L0)]},rfl,by unfold fq;rw[zk k8,zg e3];exact qh,rfl,(fun m j=>by simp at j;rcases j with rfl|rfl<;>exact .inl ⟨⟨rfl,n9.nil _ _,n9.nil _ _,n9.nil _ _,qy⟩,rfl,rfl⟩),⟨h0.a5P,h0.cmd⟩,rfl,rfl,rfl,rfl⟩ ?_;exact m6 rfl _ qh (fun w C=>C6 (A:=[_,_,E9 x.b {s with a5O:=3} sl {F_ with close:=true} {M_ with da:=a,dc:=c,rl:=[(I3 dD,L0),(dU x.c.tag,L0)]},u7 a [(I3 dD,L0),(dU x.c.tag,L0)] c]) (J:=[]) tk C)
  have e3:¬x.c.kind=3:=zq h3.symm;refine w8 ?_;exact g_ () ⟨k8,e3⟩ i_
 rintro _ ⟨k8,e3⟩;obtain⟨q,hq⟩:=o8 ((b8||b9));have D:uP x=q:=by rw[hq,h8,h9]
 refine w8 ?_;refine I8 0 ?_;refine x8 [(0,l9 g),(2,.int .i64 (x.c.kind:Nat)),(3,.bool q)] (C2 g x::l5 sl.ra s.a5N.a5M sl.rc::E9 x.b s sl F_ M_::u7 none [] 0::R) ?_ ?_
 ·cases b8
  all_goals (
   refine r7 ?_;refine f_ ((p7 rfl rfl).eq (qn ((qz).trans h8.symm))) ?_;refine A1 ?_;(first|refine u_ ?_|(refine v_ ?_;refine f_ ((p7 rfl rfl).eq (v':=.bool b9) (qn ((qz).trans h9.symm))) ?_));refine A1 ?_)
  all_goals (subst hq;exact p9 sub i_)
 obtain⟨q2,k9⟩:=o8 ((q||b4));have T:BV x s=if q2=true then{s with a5O:=1,a5N:=Av,ro:=false} else s:=by unfold BV;rw[D,k9,h4]
 refine w8 ?_;refine I8 0 ?_;refine x8 [(0,l9 g),(2,.int .i64 (x.c.kind:Nat)),(3,.bool q),(48,.bool q2)] (C2 g x::l5 sl.ra s.a5N.a5M sl.rc::E9 x.b s sl F_ M_::u7 none [] 0::R) ?_ ?_
 ·clear D T hq
  cases q
  all_goals (
   refine E7 ?_;(first|refine u_ ?_|(refine v_ ?_;refine f_ ((p7 rfl rfl).eq (v':=.bool b4) (qn ((qz).trans h4.symm))) ?_));refine r7 ?_)
  all_goals (subst k9;exact p9 sub i_)
 refine w8 ?_;refine n7 (ι:=SE×SL) (fun p=>p.1=BV x s/\S5 p.1 p.2 F.heap) (fun _=>[(0,l9 g),(2,.int .i64 (x.c.kind:Nat)),(3,.bool q)]) (fun p=>C2 g x::l5 p.2.ra p.1.a5N.a5M p.2.rc::E9 x.b p.1 p.2 F_ M_::u7 none [] 0::R) ?_ ?_
 ·refine o9 rfl ?_ ?_<;>intro h
  ·refine w8 ?_;refine D2 [3,7,11] [16,20,24] [C2 g x] 25 ?_;refine wd [0,1,2,3,4,5,6,7,8,9,10,11,12,13,14,15,16,17,18,19,20,21,22,23,24] ?_;exact g_ ({s with a5O:=1,a5N:=Av,ro:=false},{sl with ra:=none,rc:=0}) ⟨by rw[T,zg h],⟨h0.a5P,h0.cmd⟩⟩ (fun w C=>C6 (A:=[_,l5 none [] 0,E9 x.b {s with a5O:=1,a5N:=Av,ro:=false} {sl with ra:=none,rc:=0} F_ M_,_]) (J:=[l5 sl.ra s.a5N.a5M sl.rc]) tk (C.addNil 72 2))
  ·refine w8 ?_;exact g_ (s,sl) ⟨by rw[T,h];rfl,h0⟩ i_
 rintro⟨s0,q5⟩ ⟨u8,q6⟩;simp only at u8 q6;have v0:s0.a5N.a5M.length<=50000:=by rw[u8,T];split;exact zw _;exact hx.a5M
 obtain⟨O,n⟩:=o8 (xM x);have y2:Ns O s0:=by rw[n];exact⟨⟨hx.ok.ls,hx.ok.fl,hx.ok.bl,hx.ok.body,hx.ok.c⟩,hx.ml,v0,hx.us,hx.uo,hx.mo,hx.val⟩
 have w1:cJ O F.heap:=by rw[n];exact⟨S.g,S.c,S.m,S.o,S.bx,S.us,S.bl⟩
 have a1:O.z=L0:=by rw[n]
 have a2:O.b=x.b:=by rw[n]
 have a6:O.c=x.c:=by rw[n]
 have z0:O.o=x.o:=by rw[n]
 refine wk 10 ?_;refine D7 (H':=C2 g O::l5 q5.ra s0.a5N.a5M q5.rc::E9 O.b s0 q5 F_ M_::u7 none [] 0::R) (fun w C=>by rw[n];exact C6 (A:=[_,_,_,_]) (J:=[]) tk C) ?_;refine ap ?_;refine f_ ((p7 rfl rfl).eq (v':=.bool c0) (qn (by rw[z0];exact u2.symm))) ?_;refine w8 ?_;refine dl (fun(r:RR) (s1:SE) (d:SL) (l:List RM) (o:AC) (F1:l8)=>F.le F1/\(if x.o.code=0 then M8 O s0 r s1 (l.map Prod.fst) else s1=s0/\l.map Prod.fst=[]/\r=nh x.c.tag (mI x.c.kind x.o.code).1 (mI x.c.kind x.o.code).2)/\(∀m∈l,kK m F1.heap)/\S5 s1 d F1.heap/\l.length<=200000) (fun _ _ _ _ _ _=>[(0,l9 g),(2,.int .i64 (x.c.kind:Nat)),(3,.bool q)]) (fun _ _ _ _ _ F1=>F1) (fun r s1 d l o _=>C2 g {O with r:=r,z:=L0}::l5 d.ra s1.a5N.a5M d.rc::E9 O.b s1 d F_ (C1 M_ l o.1 o.2)::u7 o.1 l o.2::(Y_ l++R)) ?_ ?_
 ·refine o9 rfl ?_ ?_<;>intro h
  ·have e0:x.o.code=0:=qr (u2.symm.trans h);refine r7 ?_;refine A9 (Nu g O s0 q5 F_ M_ y2 a1 qp) ⟨w1,q6⟩ ?_;rintro v A F1 q7 ⟨rfl,r,s1,d,l,a,c,h1,h2,h3,h4,rfl⟩;refine w8 ?_;exact y6 (r,s1,d,l,(a,c),F1) ⟨q7,by rw[zg e0];exact h1,h2,h3,h4⟩ rfl i_
  ·have e0:¬x.o.code=0:=zq (u2.symm.trans h);refine wk 7 ?_;refine c_ rfl (zM x.c.kind O.o.code) qw rfl ?_;refine A1 ?_;refine e_ (eu g O (mI x.c.kind O.o.code).1 (mI x.c.kind O.o.code).2) qw ?_;rintro v A ⟨rfl,rfl⟩;refine w8 ?_;exact y6 (nh O.c.tag (mI x.c.kind O.o.code).1 (mI x.c.kind O.o.code).2,s0,q5,[],(none,0),F) ⟨l8.le_refl _,by rw[zk e0,a6,z0];exact qm,qy,q6,zw _⟩ rfl (fun w C=>C6 (A:=[_,_,_,_]) (J:=[]) tk C)
 rintro r s1 d l o F1 ⟨q7,M,a7,q8,b7⟩;have b2:s1.a5N.a5M.length<=50000:=by
  by_cases e0:x.o.code=0
  ·rw[zg e0] at M;exact sP M y2.ml v0
  ·rw[zk e0] at M;rw[M.1];exact v0
 have w2:cJ x F1.heap:=Mn.le q7.heap S;obtain⟨i,q9⟩:∃i:AN,i={O with r:=r,z:=L0}:=⟨_,rfl⟩;have U:i.bx=x.bx:=by rw[q9,n]
 have a8:i.r=r:=by rw[q9]
 have b0:i.z=L0:=by rw[q9]
 have v1:i.b=x.b:=by rw[q9,n]
 obtain⟨st,q0⟩:=o8 (decide (s1.a5O=2));rw[<-q9];refine w8 ?_;refine D7 (H':=C2 g i::l5 d.ra s1.a5N.a5M d.rc::E9 i.b s1 d F_ (C1 M_ l o.1 o.2)::u7 o.1 l o.2::(Y_ l++R)) (fun w C=>by rw[v1,<-a2];exact C) ?_;refine ap ?_;refine f_ ((M3 rfl rfl).eq (v':=.bool (!th)) (jy (fun b=>Value.bool (!b)) ((zp.2 (by rw[U];omega)).trans q4.symm))) ?_;refine r7 ?_;refine I8 0 ?_;refine x8 [(0,l9 g),(2,.int .i64 (x.c.kind:Nat)),(3,.bool q),(4,.bool (!th)),(120,.bool (st&&!q&&!th))] (C2 g i::l5 d.ra s1.a5N.a5M d.rc::E9 i.b s1 d F_ (C1 M_ l o.1 o.2)::u7 o.1 l o.2::(Y_ l++R)) ?_ ?_
 ·clear D T hq k9
  cases st<;>cases q
  all_goals (
   refine wk 8 ?_;refine f_ ((p7 rfl rfl).eq (qn ((qz).trans q0.symm))) ?_;refine wk 7 ?_)
  all_goals exact p9 sub i_
 refine w8 ?_;refine dl (fun(k:SE) (f:SL) (y:List RM) (t:AC) (_:Unit) (F2:l8)=>F1.le F2/\(if s1.a5O=2/\uP x=false/\x.bx.val≠0 then k={s1 with a5N:=(U9 s1.a5N x.bx.x (!ii x) s1.cond).1}/\y.map Prod.fst=(U9 s1.a5N x.bx.x (!ii x) s1.cond).2 else k=s1/\y.map Prod.fst=[])/\(∀m∈y,fG m.1 m.2 F2.heap/\yR m.2)/\S5 k f F2.heap/\y.length<=200000) (fun _ _ _ _ _ _=>[(0,l9 g),(2,.int .i64 (x.c.kind:Nat)),(3,.bool q),(4,.bool (!th))]) (fun _ _ _ _ _ F2=>F2) (fun k f y t _ _=>C2 g i::l5 f.ra k.a5N.a5M f.rc::E9 i.b k f F_ (C1 M_ (l++y) t.1 t.2)::u7 t.1 (l++y) t.2::(Y_ l++R)) ?_ ?_
 ·refine o9 rfl ?_ ?_<;>intro h
  ·have h':st=true/\q=false/\th=false:=by
    clear D T hq k9
    cases st<;>cases q<;>cases th<;>simp_all
   have x0:s1.a5O=2/\uP x=false/\x.bx.val≠0:=⟨qr (q0.symm.trans h'.1),D.trans h'.2.1,zq (q4.symm.trans h'.2.2)⟩;obtain⟨rd,z2⟩:=o8 ((v7||v9||v5));have x3:ii x=rd:=(by rw[z2,v8,w0,v6]);refine I8 0 ?_;refine x8 [(0,l9 g),(2,.int .i64 (x.c.kind:Nat)),(3,.bool q),(4,.bool (!th)),(5,.bool rd)] (C2 g i::l5 d.ra s1.a5N.a5M d.rc::E9 i.b s1 d F_ (C1 M_ l o.1 o.2)::u7 o.1 l o.2::(Y_ l++R)) ?_ ?_
   ·clear x3
    cases v7<;>cases v9
    all_goals (
     refine r7 ?_;refine f_ ((p7 rfl rfl).eq (qn ((qz).trans v8.symm))) ?_;refine A1 ?_;(first|refine u_ ?_|(refine v_ ?_;refine f_ ((p7 rfl rfl).eq (qn ((qz).trans w0.symm))) ?_));refine E7 ?_;(first|refine u_ ?_|(refine v_ ?_;refine f_ ((p7 rfl rfl).eq (v':=.bool v5) (qn ((qz).trans v6.symm))) ?_));refine A1 ?_)
    all_goals (subst z2;exact p9 sub i_)
   refine w8 ?_;refine B9 (Z:=[l5 d.ra s1.a5N.a5M d.rc]) tk fun F2 V ⟨bs,hb⟩=>?_;have u0:n9 F2.heap d.ra (T8 s1.a5N.a5M):=A3.rd hb ud;clear hb;have w3:fL i.bx F2.heap:=(by rw[U];exact Mn.le V.heap w2.bx);have X:=Ms s1.a5N d.ra d.rc i.bx (!rd) s1.cond qb (by rw[U];have:=hx.ok.ls;omega) (by rw[U];exact hf);obtain⟨e,he⟩:=o8 (U9 s1.a5N i.bx.x (!rd) s1.cond);have v2:=sQ s1.a5N i.bx.x (!rd) s1.cond;rw[<-he] at X v2;refine I8 0 ?_;refine dl (fun(p:AC) (Q:List RM) (t:AC) (g6:Nat) (_:Unit) (F3:l8)=>F2.le F3/\Q.map Prod.fst=e.2/\∀m∈Q,fG m.1 m.2 F3.heap/\yR m.2) (fun _ Q t g6 _ _=>[(0,l9 g),(2,.int .i64 (x.c.kind:Nat)),(3,.bool q),(4,.bool (!th)),(6,l9 g6),(7,.slice t.1 Q.length t.2)]) (fun _ _ _ _ _ F3=>F3) (fun p Q t g6 _ _=>wy g6 e.1 p::l5 p.1 e.1.a5M p.2::u7 t.1 Q t.2::C2 g i::E9 i.b s1 d F_ (C1 M_ l o.1 o.2)::u7 o.1 l o.2::(Y_ l++R)) ?_ ?_
   ·refine w8 ?_;refine D2 [3,7,11,17,21] [22,26,27] [C2 g i,E9 i.b s1 d F_ (C1 M_ l o.1 o.2)] 29 ?_;refine wd [0,1,2,3,4,5,6,7,8,9,10,11,12,13,14,15,16,17,18,19,20,21] ?_;refine az 22 26 rfl rfl i6 ?_ ?_;refine R8 X ⟨u0,w3⟩ ?_;rintro v A Z Fz hz ⟨p,Q,t,rfl,rfl,x9,Y⟩;refine E6 [23,24,25] ?_;refine h_ 26 rfl i6 ?_;refine i7 rfl ?_;intro g6;refine E6 [27,28] ?_
    rotate_left 1
    refine i7 rfl ?_;intro g6;refine Y9 ?_;refine h_ 22 rfl i6 ?_;refine R8 X ⟨u0,w3⟩ ?_;rintro v A Z Fz hz ⟨p,Q,t,rfl,rfl,x9,Y⟩;refine E6 [23,24,25,27,28] ?_
    rotate_left 1
    all_goals (refine w8 ?_)
    all_goals exact ey (Rr:=wy g6 e.1 p::l5 p.1 e.1.a5M p.2::u7 t.1 Q t.2::C2 g i::E9 i.b s1 d F_ (C1 M_ l o.1 o.2)::u7 o.1 l o.2::(Y_ l++R)) Fz hz (fun w C=>C6 (A:=[_,_,_,_,_,_]) (J:=[]) tk C) fun F3 y0 b1=>y6 (p,Q,t,g6,(),F3) ⟨y0,x9,fun m j=>⟨(Y m j).1.le b1,(Y m j).2⟩⟩ rfl i_
   rintro p Q t g6 _ F3 ⟨y0,x9,Y⟩;have b5:Q.length<=2*s1.a5N.a5M.length+1:=(by rw[<-x9,zh] at v2;exact v2);refine w8 ?_;refine D2 [3,4] [8] [C2 g i,wy g6 e.1 p] 9 ?_;refine wd [0,1,2,3,4,5,6,7,8] ?_;refine w8 ?_;refine D2 [3,7,11] [13,17] [C2 g i,E9 i.b {s1 with a5N:=e.1} {d with ra:=p.1,rc:=p.2} F_ (C1 M_ l o.1 o.2)] 18 ?_;refine wd [0,1,2,3,4,5,6,7,8,9,10,11,12] ?_;refine h_ 13 rfl i6 ?_;refine w6 yh (l:=l) (m:=Q) aK jH (by show(l.length+Q.length)*160<=_;omega) ?_;intro a c _;refine fg [14,15,16,17] ?_;exact y6 ({s1 with a5N:=e.1},{d with ra:=p.1,rc:=p.2},Q,(a,c),(),F3) ⟨V.trans y0,by rw[zg x0,x3,<-U,<-he];exact⟨rfl,x9⟩,Y,⟨(Mn.le (V.trans y0).heap q8).a5P,(Mn.le (V.trans y0).heap q8).cmd⟩,by simp only;omega⟩ rfl (fun w C=>C6 (A:=[_,_,_,_]) (J:=[_,_]) tk C)
  ·refine w8 ?_;have h5:¬(s1.a5O=2/\uP x=false/\x.bx.val≠0):=fun⟨e1,e2,e3⟩=>by
    rw[show st=true from q0.trans (jk e1),show q=false from D.symm.trans e2,show th=false from q4.trans (Qz e3)] at h
    cases h
   exact y6 (s1,d,[],o,(),F1) ⟨l8.le_refl _,by rw[zk h5];exact qh,qy,q8,zw _⟩ rfl (fun w C=>by
    rw[z7];exact C)
 rintro k f y t _ F2 ⟨V,X,Y,y1,b6⟩;have w4:k.a5O=s1.a5O:=by
  split at X
  ·rw[X.1]
  ·rw[X.1]
 have h7:r.values=[]/\r.nums=[]/\r.a5Y=[]:=by
  by_cases e0:x.o.code=0
  ·rw[zg e0] at M;exact Ql M (by rw[n];exact qm)
  ·rw[zk e0] at M;rw[M.2.2];exact qm
 have w5:∀h,fG r L0 h:=fun h=>⟨h7.1,by rw[h7.2.1];exact n9.nil _ _,by rw[h7.2.2];exact n9.nil _ _,n9.nil _ _,qy⟩;have w7:Y_ (l++y)=Y_ l:=by rw[nK,nJ Y,z7]
 have u1:Y_ (l++y++[(r,L0)])=Y_ l:=by rw[nK,w7];unfold Y_;simp[h7.2.2]
 have w9:Y_ (l++y++[(r,L0)]++[(I3 bE,L0)])=Y_ l:=by rw[nK,u1];unfold Y_;simp
 have a0:∀m∈l++y++[(r,L0)],kK m F2.heap:=fun m j=>by
  rcases zb.1 j with j|j
  ·rcases zb.1 j with j|j
   ·exact(a7 m j).le V.heap
   ·exact .inl (Y m j)
  ·rw[zu.1 j];exact .inl ⟨w5 _,rfl,rfl⟩
 have k0:∀(s':SE) (d':DD),(if s1.a5O=2/\uP x=false/\x.bx.val=0 then s'={k with a5O:=3}/\d'={F_ with a5X:=l.map Prod.fst++y.map Prod.fst++[r,I3 bE],close:=true} else s'=k/\d'={F_ with a5X:=l.map Prod.fst++y.map Prod.fst++[r]})->fq x s s' d':=fun s' d' h=>by
  unfold fq;rw[zk k8,zk e3];refine⟨r,s1,l.map Prod.fst,k,y.map Prod.fst,?_,X,h⟩;rw[n,u8] at M;exact M
 refine w8 ?_;refine D2 [3,7] [8] [C2 g i] 9 ?_;refine wd [0,1,2,3,4,5,6,7] ?_;refine h_ 8 rfl i6 ?_;refine e_ (V3 i.b k f F_ (C1 M_ (l++y) t.1 t.2) i.r i.z (by simp only[zz,zn];omega)) qw ?_;rintro v A ⟨rfl,a3,c3,rfl⟩;refine E6 [] ?_;rw[a8,b0];obtain⟨u,v3⟩:=o8 (F5 (C1 M_ (l++y) t.1 t.2) (r,L0) a3 c3);rw[<-v3];have h6:u.rl=l++y++[(r,L0)]:=by rw[v3];rfl
 have q1:u.ql=cX/\u.wa=none/\u.wc=0:=by rw[v3];exact qm
 refine I8 0 ?_;refine x8 [(0,l9 g),(207,.bool (st&&!q&&th))] (C2 g i::l5 f.ra k.a5N.a5M f.rc::E9 i.b k f F_ u::u7 u.da u.rl u.dc::(Y_ l++R)) ?_ ?_
 ·clear D T hq k9 k0;refine D7 (H':=C2 g i::l5 f.ra k.a5N.a5M f.rc::E9 i.b k f F_ u::u7 u.da u.rl u.dc::(Y_ l++R)) (fun w C=>C6 (A:=[_,_,_,_]) (J:=[]) tk C) ?_
  cases st<;>cases q<;>cases th
  all_goals (
   refine wk 8 ?_;refine f_ ((p7 rfl rfl).eq (qn ((zp.2 (by rw[w4];omega)).trans q0.symm))) ?_;refine wk 8 ?_)
  all_goals exact p9 sub i_
 refine O0 ?_ ?_<;>intro h
 ·have x0:s1.a5O=2/\uP x=false/\x.bx.val=0:=by
   have h':st=true/\q=false/\th=true:=by
    clear D T hq k9 k0
    cases st<;>cases q<;>cases th<;>simp_all
   exact⟨qr (q0.symm.trans h'.1),D.trans h'.2.1,qr (q4.symm.trans h'.2.2)⟩
  refine O3 ?_;refine e_ (tJ i.b k f F_ u bE (by rw[h6];simp only[zz,zx,zn];omega)) qw ?_;rintro v A ⟨rfl,a4,c4,rfl⟩;refine w8 ?_;refine H4 (A:=C2 g i::l5 f.ra k.a5N.a5M f.rc::(O2 i.b {k with a5O:=3} f {F_ with a5X:=l.map Prod.fst++y.map Prod.fst++[r,I3 bE],close:=true} (F5 u (I3 bE,L0) a4 c4)++Y_ l)) (v:=.tuple #[]) (q7.trans V) ⟨rfl,i,{k with a5O:=3},{F_ with a5X:=l.map Prod.fst++y.map Prod.fst++[r,I3 bE],close:=true},f,F5 u (I3 bE,L0) a4 c4,v1,k0 _ _ (by rw[zg x0];exact qh),by simp[h6],fun m j=>?_,⟨y1.a5P,y1.cmd⟩,q1.1,q1.2.1,q1.2.2,?_⟩ ?_
  ·rw[show(F5 u (I3 bE,L0) a4 c4).rl=u.rl++[(I3 bE,L0)] from rfl,h6] at j;rcases zb.1 j with j|j
   ·exact a0 m j
   ·rw[zu.1 j];exact .inl ⟨⟨rfl,n9.nil _ _,n9.nil _ _,n9.nil _ _,qy⟩,rfl,rfl⟩
  ·rw[show(F5 u (I3 bE,L0) a4 c4).rl=u.rl++[(I3 bE,L0)] from rfl,h6,w9]
  ·exact m6 rfl _ qh (fun w C=>C6 (A:=[_,_,E9 i.b {k with a5O:=3} f {F_ with close:=true} (F5 u (I3 bE,L0) a4 c4),u7 a4 (u.rl++[(I3 bE,L0)]) c4]) (J:=[]) tk C)
 ·refine w8 ?_;have h5:¬(s1.a5O=2/\uP x=false/\x.bx.val=0):=fun⟨e1,e2,e3⟩=>by
   rw[show st=true from q0.trans (jk e1),show q=false from D.symm.trans e2,show th=true from q4.trans (jk e3)] at h
   cases h
  refine H4 (A:=C2 g i::l5 f.ra k.a5N.a5M f.rc::(O2 i.b k f {F_ with a5X:=l.map Prod.fst++y.map Prod.fst++[r]} u++Y_ l)) (v:=.tuple #[]) (q7.trans V) ⟨rfl,i,k,{F_ with a5X:=l.map Prod.fst++y.map Prod.fst++[r]},f,u,v1,k0 _ _ (by rw[zk h5];exact qh),by simp[h6],fun m j=>a0 m (by rw[<-h6];exact j),y1,q1.1,q1.2.1,q1.2.2,by rw[h6,u1]⟩ ?_;exact m6 rfl _ qh i_
theorem IF(i:IT):Pu prog 157 [.agg (bR i).toArray] (fun _=>True) (.bool (decide (10<=i.kind))):=by
 refine b_ 6 func157 rfl rfl rfl ?_;intro F _;refine C7 ?_;refine m8 rfl rfl ?_;intro b;refine E7 ?_;refine f_ ((I5 rfl rfl).eq (v':=.bool (decide (10<=i.kind))) (qn qz)) ?_;refine C5 ?_;exact d_ rfl rfl [] qh (fun w a=>a.dropAll)
abbrev IG(gO:Nat)(out:List Bs)(o:AC):As:=.blk gO (.cells #[.slice o.1 out.length o.2] 34)
theorem BW(g z e u:Nat)(x:AN)(f:FuncId)[HF prog f](ps:List Value)(hx:rt x)(k:∀d:LM,Ct prog f (ps++[Og d]) (fun _=>True) [C2 g x] (fun v A=>(∃q:Bool,v=.bool q)/\A=[C2 g x]))(a:List Bs)(o:AC)(S:a.length<=200000):
  Ct prog 153 [.int .u64 (u:Nat),.func (.func f) ps.toArray #[],l9 z,l9 e] (fun h=>cJ x h/\h z=some (.cells #[l9 g] 147 (0,0))) [C2 g x,IG e a o,A5 o.1 a o.2] (fun v A=>v=.tuple #[]/\∃(b:List Bs) (o':AC),b.length<=a.length+1/\A=[C2 g x,IG e b o',A5 o'.1 b o'.2]):=by
 have C:=hx.ls;have D:=hx.bl;refine b_ 38 func153 rfl rfl rfl ?_;rintro F ⟨i,j⟩;refine C7 ?_;refine r_ (i8 rfl (fun w c=>I0 c j rfl)) ?_;refine r7 ?_;refine e_ (eY g x u qb) (fun h p _=>i.bx.ls.le p) ?_;rintro v A ⟨d,M,rfl,O,rfl⟩;refine E7 ?_;refine i7 rfl ?_;intro r;refine Rc ?_;refine r_ (i8 rfl (fun w c=>I0 c j rfl)) ?_;refine A1 ?_;refine e_ (qf g x d.t.hash qb) (fun h p _=>i.bl.le p) ?_;rintro v A ⟨t,s,rfl,Q,rfl⟩;refine ap ?_;refine n7 (ι:=Bool) (fun _=>True) (fun q=>[(3,l9 e),(6,l9 r),(32,.bool q)]) (fun _=>[.blk r (.cells (S_ d).toArray 156),C2 g x,IG e a o,A5 o.1 a o.2]) ?_ ?_
 ·cases M<;>cases s
  all_goals (
   refine wk 8 ?_;(first|refine u_ ?_|(refine v_ ?_;refine z_ (ps:=ps) _ rfl rfl x4 (k d) i_ qw rfl ?_;rintro v A ⟨⟨q,rfl⟩,rfl⟩));refine r7 ?_)
  all_goals exact g_ _ trivial (fun w c=>C6 (A:=[.blk r _,C2 g x,IG e a o,A5 o.1 a o.2]) (J:=[]) tk c)
 intro q _;refine O0 ?_ ?_<;>intro h
 ·refine E7 ?_;refine um (n:=d.t.hash) ?_;intro a36;refine un (l:=a) (m:=[d.t.hash]) (by show(a.length+1)*16<=_;omega) ?_;intro a37 y _;refine r7 ?_;exact m6 rfl _ ⟨rfl,a++[d.t.hash],(a37,y),by simp,rfl⟩ (fun w c=>C6 (A:=[_,_,_]) (J:=[_,_]) tk c)
 ·refine w8 ?_;exact m6 rfl _ ⟨rfl,a,o,by omega,rfl⟩ (fun w c=>C6 (A:=[_,_,_]) (J:=[_]) tk c)
theorem IH(l:List Bs)(a:Option Addr)(c:Nat)(hl:l.length<4611686018427387904):Ct prog 161 [.slice a l.length c] (fun _=>True) [A5 a l c] (fun v A=>v=.tuple #[]/\∃m:List Bs,m.Perm l/\A=[A5 a m c]):=by
 intro w bs t h6 h5;obtain⟨b1,b2,rfl,u,rfl⟩:=t;rcases u with⟨X,hx,rfl⟩|⟨g,rfl,⟨o,n,h7,pre,b,p,X,hg,Y,h8,z,h9,q⟩⟩
 ·injection X with f e2 e3;subst f e3;have Z:l=[]:=jx e2;subst Z;refine(Tryz.slices_Sort_string_none none 0 w).mono ?_;rintro e w' ⟨rfl,rfl⟩;refine⟨_,[A5 none [] 0],rfl,⟨rfl,[],.nil,rfl⟩,?_⟩;exact(Hp.start (C:=[]) (bs:=[]) rfl Zy).addNil _ _
 ·injection X with f e2 e3;subst f e2 e3;have i:w.heap[g]? =some (.cells (pre++fV l++b).toArray 9 p):=hg;have D:g<w.heap.size:=(kr.1 i).1;have k0:=L8 l;have hH:Sort.Holds (fun(x:Bs)=>B x) w g o l.toArray:=fun j hj=>by
   have h0:j<l.length:=(by simpa using hj);constructor
   ·simp only[World.cell?,i];simp only[Wm,Kz,if_false,Ky];rw[zm,jz qb,jj qb];simp[fV,<-Y,h0]
   ·simp only[World.frozen?,i];simp only[zz] at q;rw[J3];rcases q with h|h
    ·by_cases hh:p.1<=o+j
     ·exact .inr (by simp;omega)
     ·exact .inl (by simpa using hh)
    ·exact .inl (by simp;omega)
  have hc:=Tryz.slices_Sort_string g o c l w hH D hl;refine hc.mono ?_;rintro e w' ⟨rfl,n,J,rfl⟩;obtain⟨d,M⟩:∃d:Array Bs,d=(l.mergeSort fun x y=>decide (x<=y)).toArray:=⟨_,rfl⟩;have O:List.Perm d.toList l:=by rw[M];exact List.mergeSort_perm _ _
  have h1:d.toList.length=l.length:=O.length_eq;rw[<-M];show∃v A,_/\_/\Hp _ (sortWorld (fun(x:Bs)=>B x) w g o n d J) _;have hh:(sortWorld (fun(x:Bs)=>B x) w g o n d J).heap[g]? =some (.cells (pre++fV d.toList++b).toArray 9 p):=by
   show((Sort.mapBlock _ g _).heap++J)[g]? =_;unfold Sort.mapBlock;have f:(Sort.ahead w n).heap=w.heap:=rfl;rw[Zx (by rw[Jr,f];exact D),Q9,zg rfl,f,i];simp only[Qw,Sort.onCells];have:=tS (pre:=pre) (post:=b) h1;rw[Y] at this;rw[<-this]
  have k8:=L8 d.toList;have Q:(fV d.toList).length=(fV l).length:=by omega
  have r:c*1<=(fV d.toList++b).length:=by
   rw[zz,Q,<-zz];exact z
  have S:p.2<=p.1\/(pre++fV d.toList++b).length<=p.1:=by
   rw[zz,zz,Q,<-zz,<-zz];exact q
  have s:l_.le (r8 w [g]).heap (hp (sortWorld (fun(x:Bs)=>B x) w g o n d J)):=fun k o' T=>by
   have h4:k≠g:=by
    rintro rfl;simp[r8,E5] at T
   have h2:w.heap[k]? =some o':=bT w _ k o' T;have h3:k<w.heap.size:=(kr.1 h2).1;show((Sort.mapBlock _ g _).heap++J)[k]? =_;unfold Sort.mapBlock;have f:(Sort.ahead w n).heap=w.heap:=rfl;rw[Zx (by rw[Jr,f];exact h3),Q9,zk (fun h=>h4 h.symm),f];exact h2
  have U:∀k∈[g],(r8 w [g]).heap k=none:=fun k V=>by
   simp at V;subst V;simp[r8,E5]
  refine⟨.tuple #[],[A5 (some ⟨g,o,none⟩) d.toList c],rfl,⟨rfl,d.toList,O,rfl⟩,?_⟩;exact⟨rfl,rfl,rfl,s,[g],⟨[g],[],rfl,.inr ⟨g,rfl,⟨o,d.toList.length,c,pre,b,p,rfl,hh,Y,by omega,r,by omega,S⟩⟩,rfl⟩,by simp,U⟩
theorem EA(g:Nat)(x:AN)(a:LM):Ct prog 160 ([]++[Og a]) (fun _=>True) [C2 g x] (fun v A=>(∃q:Bool,v=.bool q)/\A=[C2 g x]):=by
 show Ct prog 160 [Og a] _ _ _;refine b_ 3 func160 rfl rfl rfl ?_;intro F _;refine C7 ?_;refine m8 rfl rfl ?_;intro c;refine L7 ?_;exact d_ rfl rfl _ ⟨⟨true,rfl⟩,rfl⟩ (fun w b=>b.drop)
abbrev BY(gA gO:Nat):Value:=.func (.func 153) #[] #[l9 gA,l9 gO]
def TF(x:AN):Prop:=x.o.code=0/\(x.c.kind=16\/x.c.kind=15)
theorem II(g:Nat)(x:AN)(s:SE)(sl:SL)(d:DD)(y:DL)(hx:rt x)(hv:s.a5N.a5M.length<=100000)(hu:x.us.length<=100000):
  Cm prog 76 [l9 g] (cJ x) (C2 g x::l5 sl.ra s.a5N.a5M sl.rc::O2 x.b s sl d y) (fun h v A=>∃(l:List Bs) (a:Option Addr) (c:Nat),v=.slice a l.length c/\n9 h a (fV l)/\(l≠[]->TF x)/\A=C2 g x::l5 sl.ra s.a5N.a5M sl.rc::O2 x.b s sl d y):=by
 have V:=hx.c;refine y5 85 func76 rfl rfl rfl ?_;rintro F R h7;refine C7 ?_;refine L5 rfl rfl rfl ?_;intro D;refine r7 ?_;refine r7 ?_;intro r;refine w8 ?_;refine I8 2 ?_;refine B9 (Z:=[.blk D (.cells #[l9 g] 147)]) tk fun F1 X hb=>?_;have O:F1.heap D=some (.cells #[l9 g] 147 (0,0)):=J_ hb;clear hb;have k:cJ x F1.heap:=Mn.le X.heap h7;refine n7 (ι:=List Bs×AC) (fun q=>q.1.length<=200000/\(q.1≠[]->TF x)) (fun q=>[(3,l9 r)]) (fun q=>C2 g x::IG r q.1 q.2::A5 q.2.1 q.1 q.2.2::l5 sl.ra s.a5N.a5M sl.rc::E9 x.b s sl d y::u7 y.da y.rl y.dc::R) ?_ ?_
 ·refine n8 ?_;obtain⟨q1,Y⟩:=o8 (decide (x.o.code=0));refine C7 ?_;refine r_ (i8 rfl (fun w f=>I0 f O rfl)) ?_;refine O3 ?_;refine f_ ((M3 rfl rfl).eq (v':=.bool (!q1)) (jy (fun x=>Value.bool (!x)) Y.symm)) ?_;refine r7 ?_
  cases q1
  ·refine o9 rfl (fun h=>?_) qx;refine w8 ?_;exact g_ ([],none,0) ⟨by simp,fun e=>absurd rfl e⟩ (fun w f=>C6 (A:=[C2 g x,_,.own (.slice none 0 0) 9 1 [],l5 sl.ra s.a5N.a5M sl.rc,E9 x.b s sl d y,u7 y.da y.rl y.dc]) (J:=[]) tk (f.addNil 9 1))
  refine o9 rfl qx (fun h=>?_);refine I8 0 ?_;refine D7 (H':=C2 g x::IG r [] (none,0)::A5 none [] 0::l5 sl.ra s.a5N.a5M sl.rc::E9 x.b s sl d y::u7 y.da y.rl y.dc::R) (fun w f=>C6 (A:=[C2 g x,_,.own (.slice none 0 0) 9 1 [],l5 sl.ra s.a5N.a5M sl.rc,E9 x.b s sl d y,u7 y.da y.rl y.dc]) (J:=[]) tk (f.addNil 9 1)) ?_;refine n7 (ι:=Bool) (fun q=>q=true->x.c.kind=16) (fun q=>[(1,l9 D),(3,l9 r),(4,BY D r),(17,.bool q)]) (fun q=>C2 g x::IG r [] (none,0)::A5 none [] 0::l5 sl.ra s.a5N.a5M sl.rc::E9 x.b s sl d y::u7 y.da y.rl y.dc::R) ?_ ?_
  ·obtain⟨q2,S⟩:=o8 (decide (x.c.kind=16));have q6:=V.a5Q
   cases q2
   all_goals (
    refine C7 ?_;refine r_ (i8 rfl (fun w f=>I0 f O rfl)) ?_;refine O3 ?_;refine f_ ((p7 rfl rfl).eq (qn ((qz).trans S.symm))) ?_;refine r7 ?_;(first|refine u_ ?_|(refine v_ ?_;refine r_ (i8 rfl (fun w f=>I0 f O rfl)) ?_));refine O3 ?_;(first|refine u_ ?_|(refine v_ ?_;refine c_ rfl (V4 bR Q_ x.c.a5Q x.k.ia x.k.ic 157 [] (fun _=>True) (fun i=>decide (10<=i.kind)) (fun i _=>IF i) qb) (fun h Q _=>⟨k.c.a5Q.le Q,trivial⟩) rfl ?_));refine A1 ?_)
   ·exact g_ false (fun e=>by cases e) i_
   ·exact g_ _ (fun _=>qr S.symm) i_
  intro q h0;refine w8 ?_;refine o9 rfl (fun T=>?_) (fun h=>?_)
  ·refine C7 ?_;refine r_ (i8 rfl (fun w f=>I0 f O rfl)) ?_;refine I8 5 ?_;refine n8 ?_;refine o7 (ι:=Nat×List Bs×AC) (fun i=>i.1<=x.us.length/\i.2.1.length<=i.1) (fun i=>[(1,l9 D),(3,l9 r),(4,BY D r),(35,.slice x.ua x.us.length x.uc),(36,.int .i64 (x.us.length:Nat)),(37,.int .i64 (i.1:Nat))]) (fun i=>C2 g x::IG r i.2.1 i.2.2::A5 i.2.2.1 i.2.1 i.2.2.2::l5 sl.ra s.a5N.a5M sl.rc::E9 x.b s sl d y::u7 y.da y.rl y.dc::R) (fun i=>x.us.length-i.1) (0,[],none,0) ⟨zw _,zr _⟩ sub i_ ?_;rintro⟨j,p,o⟩ ⟨hj,ho⟩;simp only at hj ho;refine R7 ?_ ?_<;>intro h
   ·have z:j<x.us.length:=(by have:=qr h;omega);have u:=Y5 k.us z;refine C7 ?_;refine f_ (m9 rfl u rfl qb) ?_;refine r_ (i8 rfl (fun w f=>ui f k.us (i:=j) x4 z)) ?_;refine E7 ?_;refine r_ (i8 rfl (fun w f=>I0 f O rfl)) ?_;refine r7 ?_;refine z_ (ps:=[]) _ rfl rfl rfl (BW g D r (x.us.getD j 0) x 158 [l9 g] hx (fun lm w bs Y S h3=>(xd g x lm w bs Y S h3).mono fun e w' ⟨v,A,a,⟨b,c⟩,d⟩=>⟨v,A,a,⟨⟨_,b⟩,c⟩,d⟩) p o qb) i_ (fun h Q _=>⟨Mn.le Q k,Q _ _ O⟩) rfl ?_;rintro v A ⟨rfl,M,o',h8,rfl⟩;refine A1 ?_;exact l6 (i:=(j,p,o)) (j+1,M,o') ⟨z,by simp only;omega⟩ qg sub i_
   ·refine w8 ?_;exact g_ (p,o) ⟨by simp only;omega,fun _=>⟨qr Y.symm,.inl (h0 T)⟩⟩ i_
  ·obtain⟨kl,h9,k0,q7⟩:=k.c.keys;have k8:=db h9;have q5:=V.keys;have h4:=DU x.k.ka x.k.kc kl qb;rw[k8] at h4;refine I8 0 ?_;refine n7 (ι:=Bool) (fun q=>q=true->x.c.kind=15) (fun q=>[(1,l9 D),(3,l9 r),(4,BY D r),(47,.bool q)]) (fun q=>C2 g x::IG r [] (none,0)::A5 none [] 0::l5 sl.ra s.a5N.a5M sl.rc::E9 x.b s sl d y::u7 y.da y.rl y.dc::R) ?_ ?_
   ·obtain⟨q2,S⟩:=o8 (decide (x.c.kind=15))
    cases q2
    all_goals (
     refine C7 ?_;refine r_ (i8 rfl (fun w f=>I0 f O rfl)) ?_;refine O3 ?_;refine f_ ((p7 rfl rfl).eq (qn ((qz).trans S.symm))) ?_;refine r7 ?_;(first|refine u_ ?_|(refine v_ ?_;refine r_ (i8 rfl (fun w f=>I0 f O rfl)) ?_));refine O3 ?_;(first|refine u_ ?_|(refine v_ ?_;refine c_ rfl h4 (fun h Q _=>k0.le Q) rfl ?_));refine A1 ?_)
    ·exact g_ false (fun e=>by cases e) i_
    ·exact g_ _ (fun _=>qr S.symm) i_
   intro q h5;refine w8 ?_;refine o9 rfl (fun T=>?_) (fun h=>?_)
   ·refine C7 ?_;refine r_ (i8 rfl (fun w f=>I0 f O rfl)) ?_;refine I8 10 ?_;refine B5 (a:=sl.ra) (n:=s.a5N.a5M.length) (c:=sl.rc) (sz:=2) (xs:=T8 s.a5N.a5M) (te:=72) ud fun _ _ u=>?_;refine n8 ?_;refine o7 (ι:=Nat×List Bs×AC) (fun i=>i.1<=s.a5N.a5M.length/\i.2.1.length<=i.1) (fun i=>[(1,l9 D),(3,l9 r),(4,BY D r),(70,.slice sl.ra s.a5N.a5M.length sl.rc),(71,.int .i64 (s.a5N.a5M.length:Nat)),(72,.int .i64 (i.1:Nat))]) (fun i=>C2 g x::IG r i.2.1 i.2.2::A5 i.2.2.1 i.2.1 i.2.2.2::l5 sl.ra s.a5N.a5M sl.rc::E9 x.b s sl d y::u7 y.da y.rl y.dc::R) (fun i=>s.a5N.a5M.length-i.1) (0,[],none,0) ⟨zw _,zr _⟩ sub i_ ?_;rintro⟨j,p,o⟩ ⟨hj,ho⟩;simp only at hj ho;refine R7 ?_ ?_<;>intro h
    ·have z:j<s.a5N.a5M.length:=(by have:=qr h;omega);have k9:=u qb;refine C7 ?_;refine f_ (m9 rfl k9 rfl qb) ?_;refine r_ (p8 rfl (fun w f=>cQ (C:=dV) (f.ownN (t:=72) ud).2.2.1 B4 qp z x4) (B4 _)) ?_;refine i7 rfl ?_;intro g8;refine O3 ?_;refine z_ (ps:=[]) _ rfl rfl rfl (BW g D r s.a5N.a5M[j].1 x 160 [] hx (fun lm=>EA g x lm) p o qb) (fun w f=>C6 (A:=[C2 g x,IG r p o,A5 o.1 p o.2]) (J:=[_]) tk f) (fun h Q _=>⟨Mn.le Q k,Q _ _ O⟩) rfl ?_;rintro v A ⟨rfl,M,o',h8,rfl⟩;refine A1 ?_;exact l6 (i:=(j,p,o)) (j+1,M,o') ⟨z,by simp only;omega⟩ qg sub i_
    ·refine w8 ?_;exact g_ (p,o) ⟨by simp only;omega,fun _=>⟨qr Y.symm,.inr (h5 T)⟩⟩ i_
   ·refine w8 ?_;exact g_ ([],none,0) ⟨by simp,fun e=>absurd rfl e⟩ i_
 rintro⟨l,o⟩ ⟨hl,h6⟩;simp only at hl h6;refine r7 ?_;refine e_ (IH l o.1 o.2 qb) qw ?_;rintro v A ⟨rfl,m,U,rfl⟩;refine w8 ?_;have q0:=U.length_eq;refine r7 ?_;refine x6 (vs:=[.slice o.1 m.length o.2]) _ (by rw[q0];rfl) (oY m o.1 o.2 qb) i_ qw rfl ?_;rintro v A ⟨rfl,rfl⟩;refine C5 ?_;refine ki (Z:=[A5 o.1 (Lib.compact m) o.2]) tk fun F2 q3 ⟨bs,hb⟩=>?_;have q4:n9 F2.heap o.1 (fV (Lib.compact m)):=A3.rd hb ud;refine H4 (A:=C2 g x::l5 sl.ra s.a5N.a5M sl.rc::O2 x.b s sl d y) (v:=.slice o.1 (Lib.compact m).length o.2) (X.trans q3) ⟨_,_,_,rfl,q4,fun e=>h6 fun e2=>e (by rw[e2] at U;rw[List.Perm.eq_nil U];rfl),rfl⟩ ?_;exact d_ rfl rfl _ qh (fun w f=>C6 (A:=[_,_,_,_]) (J:=[_]) tk f)
structure Ox(s:SE)(st:ML)(o:OC)(bl:BL):Prop where
 se:zK s
 a5M:s.a5N.a5M.length<=50000
 us:s.a5P.length<=100000
 ml:V_ st
 uo:o.a5P.length<=100000/\fT o.a5P
 mo:o.mods.length<=100000/\fT o.mods
 val:o.val<18446744073709551616
 bll:bl.length<=1000
 body:∀p∈bl,p.2.length<=1000000
def ez(s:SE)(st:ML)(o:OC)(bl:BL)(s':SE)(d':DD):Prop:=
 if s.a5T=false then s'=s/\d'=F_
 else(∃w:List Bs,w≠[]/\(o.code=0/\(s.cmd.kind=16\/s.cmd.kind=15))/\s'=s/\d'={F_ with want:=w})\/∃x:AN,x.c=s.cmd/\x.m.s=st/\x.o=o/\x.us=s.a5P/\x.bl=bl/\x.bx.x=mJ s st/\fq x (V8 s) s' d'
def TG(Q:SE->DD->Prop)(h:l_)(v:Value)(A:List As):Prop:=∃s' d' x' y',Q s' d'/\v=.tuple #[qJ s' x',Lc d' y']/\A=l5 x'.ra s'.a5N.a5M x'.rc::u7 y'.da y'.rl y'.dc::Y_ y'.rl/\d'.a5X=y'.rl.map Prod.fst/\(∀m∈y'.rl,kK m h)/\S5 s' x' h/\dA d'.req y'.ql h/\n9 h y'.wa (fV d'.want)
theorem Ev.res{Q:SE->DD->Prop}{h:l_}{v:Value}{A:List As}(k:Ev Q h v A):TG Q h v A:=by
 obtain⟨e,f,g,d,i,rfl,rfl,j,a⟩:=k;have b:∀m∈d.rl,fG m.1 m.2 h/\yR m.2:=fun m c=>⟨a.dd.rep m c,by
  rcases j.2 m c with h|h
  ·cases h
  ·rw[h];exact qh⟩
 exact⟨e,f,g,d,i,rfl,by rw[nJ b],a.dd.a5X,fun m c=>.inl (b m c),a.se,a.dd.req,a.dd.want⟩
theorem eA{x:AN}{s b:SE}{a:DD}(h:fq x s b a):a.req=F_.req/\a.want=[]/\a.ask=false/\a.store=false/\a.body=[]:=by
 unfold fq at h;split at h
 ·rw[h.2];exact⟨rfl,rfl,rfl,rfl,rfl⟩
 split at h
 ·rw[h.2];exact⟨rfl,rfl,rfl,rfl,rfl⟩
 obtain⟨r,s1,c,d,e,_,_,h⟩:=h;split at h
 ·rw[h.2];exact⟨rfl,rfl,rfl,rfl,rfl⟩
 ·rw[h.2];exact⟨rfl,rfl,rfl,rfl,rfl⟩
theorem sR(s:SE)(x:SL)(m:MM)(o:OC)(oy:OL)(bl:BL)(ba:Option Addr)(bc:Nat)(r:Ox s m.s o bl):
  Cm prog 31 [qJ s x,uN m,Uc o oy,.slice ba bl.length bc] (fun h=>Gl h/\n9 h x.ra (T8 s.a5N.a5M)/\S5 s x h/\iE m h/\L_ o oy h/\n9 h ba (uC bl)) [] (TG (ez s m.s o bl)):=by
 have hs:=r.se;refine y5 103 func31 rfl rfl rfl ?_;rintro F R ⟨hg,hr,q2,hm,ho,hb⟩;refine C7 ?_;refine m8 rfl rfl ?_;intro g4;refine m8 rfl rfl ?_;intro g5;refine m8 rfl rfl ?_;intro g6;refine i7 rfl ?_;intro u;refine i7 rfl ?_;intro y;refine r7 ?_;refine A9 (lD s x hs.le) ⟨hr,q2⟩ ?_;rintro v A F1 O ⟨a,rfl,rfl,Y⟩;refine f_ (y8 (ps:=[(0,.tmp 16)]) (vs:=[(0,qJ s a)]) (cells:=(gR s a++kS F_ M_).toArray) rfl i6) ?_;refine m8 rfl rfl ?_;intro c;refine r7 ?_;refine D7 (H':=E9 c s a F_ M_::u7 none [] 0::l5 a.ra s.a5N.a5M a.rc::.blk y (.cells (kS F_ M_).toArray 46)::.blk u (.cells (gR oG qZ).toArray 39)::.blk g6 (.cells (tI o oy).toArray 86)::.blk g5 (.cells (iD m).toArray 62)::.blk g4 (.cells (gR s x).toArray 39)::R) (fun w g=>C6 (A:=[E9 c s a F_ M_,u7 none [] 0,_,_,_,_,_,_]) (J:=[]) tk (g.addNil 51 10)) ?_;refine eM ?_ ?_<;>intro h
 ·have Q:s.a5T=false:=by simpa using h
  refine w8 ?_;refine D2 [3,7] [8,9] [E9 c s a F_ M_] 10 ?_;refine wd [0,1,2,3,4,5,6,7,8,9] ?_;refine A4 ?_;refine H4 (A:=[l5 a.ra s.a5N.a5M a.rc,u7 none [] 0]) (v:=.tuple #[qJ s a,Lc F_ M_]) O ⟨s,F_,a,M_,by unfold ez;rw[zg Q];exact qh,rfl,rfl,rfl,qy,Y,⟨n9.nil _ _,n9.nil _ _⟩,n9.nil _ _⟩ ?_;refine X2 rfl rfl rfl ud rfl ud rfl _ qh (fun w g=>C6 (A:=[_,_]) (J:=[_,_,_,_,_,_]) tk g)
 have Q:¬s.a5T=false:=by simpa using h
 obtain⟨x0,h4⟩:=o8 (α:=AN) (⟨c,s.cmd,a.cl,m,o,oy,Ga,s.a5P,a.ua,a.uc,bl,ba,bc,R0,L0⟩);refine w8 ?_;refine D2 [5,6,7,12] [15] [E9 c s a F_ M_,.blk g5 (.cells (iD m).toArray 62),.blk g6 (.cells (tI o oy).toArray 86)] 17 ?_;refine wd [0,1,2,3,4,5,6,7,8,9,10,11,12,13] ?_;refine w_ 14 rfl (y8 (ps:=[(0,.tmp 30),(1,.tmp 35),(2,.tmp 36),(3,.tmp 37),(5,.tmp 42),(6,.tmp 43)]) (vs:=[(0,l9 c),(1,uM s.cmd a.cl),(2,uN m),(3,Uc o oy),(5,.slice a.ua s.a5P.length a.uc),(6,.slice ba bl.length bc)]) (cells:=(anC ⟨c,s.cmd,a.cl,m,o,oy,Ga,s.a5P,a.ua,a.uc,bl,ba,bc,R0,L0⟩).toArray) rfl i6) ?_;refine h_ 15 rfl i6 ?_;refine m8 rfl rfl ?_;intro d;refine E6 [16] ?_;refine D7 (H':=C2 d x0::E9 c s a F_ M_::u7 none [] 0::l5 a.ra s.a5N.a5M a.rc::.blk y (.cells (kS F_ M_).toArray 46)::.blk u (.cells (gR oG qZ).toArray 39)::.blk g5 (.cells (iD m).toArray 62)::R) (fun w g=>by rw[h4];exact C6 (A:=[_,_,_,_,_,_,_]) (J:=[_,_]) tk g) ?_;obtain⟨e,he⟩:=o8 (ak m.s s.a5N.box);have k:=uF m s.a5N.box r.ml;rw[<-he] at k;refine I8 0 ?_;refine S8 (fun(i:BM) (p:Nat) (_:Unit) (M:l8)=>F1.le M/\i.x=e.getD Pe/\fL i M.heap) (fun i p _ _=>[(8,l9 u),(9,l9 y),(10,l9 c),(11,l9 d),(12,l9 p),(13,.bool e.isSome)]) (fun _ _ _ M=>M) (fun i p _ _=>xf p i::C2 d x0::E9 c s a F_ M_::u7 none [] 0::l5 a.ra s.a5N.a5M a.rc::.blk y (.cells (kS F_ M_).toArray 46)::.blk u (.cells (gR oG qZ).toArray 39)::R) ?_ ?_
 ·refine w8 ?_;refine D2 [0,6] [7,11,12] [.blk g5 (.cells (iD m).toArray 62),E9 c s a F_ M_] 14 ?_;refine wd [0,1,2,3,4,5,6] ?_;refine az 7 11 rfl rfl i6 ?_ ?_;refine R8 k (Mn.le O.heap hm) ?_;rintro v A Z Fz hz ⟨i,rfl,l,rfl,S⟩;refine E6 [8,9,10] ?_;refine h_ 11 rfl i6 ?_;refine i7 rfl ?_;intro p;refine E6 [12,13] ?_
  rotate_left 1
  refine i7 rfl ?_;intro p;refine Y9 ?_;refine h_ 7 rfl i6 ?_;refine R8 k (Mn.le O.heap hm) ?_;rintro v A Z Fz hz ⟨i,rfl,l,rfl,S⟩;refine E6 [8,9,10,12,13] ?_
  rotate_left 1
  all_goals (refine w8 ?_)
  all_goals exact ey (Rr:=xf p i::C2 d x0::E9 c s a F_ M_::u7 none [] 0::l5 a.ra s.a5N.a5M a.rc::.blk y (.cells (kS F_ M_).toArray 46)::.blk u (.cells (gR oG qZ).toArray 39)::R) Fz hz (fun w g=>C6 (A:=[_,_,_,_,_,_,_]) (J:=[_]) tk g) fun M T q3=>y6 (i,p,(),M) ⟨T,l,Mn.le q3 S⟩ rfl i_
 rintro i p _ M ⟨T,l,S⟩;refine I8 0 ?_;refine n7 (ι:=Bool) (fun q=>(if q then i.x else Pe)=mJ s m.s) (fun q=>[(8,l9 u),(9,l9 y),(10,l9 c),(11,l9 d),(12,l9 p),(68,.bool q)]) (fun _=>xf p i::C2 d x0::E9 c s a F_ M_::u7 none [] 0::l5 a.ra s.a5N.a5M a.rc::.blk y (.cells (kS F_ M_).toArray 46)::.blk u (.cells (gR oG qZ).toArray 39)::R) ?_ ?_
 ·cases e with
  |none=>
   refine w8 ?_;refine D2 [3,9] [] [xf p i,E9 c s a F_ M_] 12 ?_;refine wd [0,1,2,3,4,5,6,7,8,9,10,11] ?_;exact g_ false (by unfold mJ;rw[<-he];rfl) (fun w g=>C6 (A:=[_,_,_,_,_,_,_]) (J:=[]) tk g)
  |some b0=>
   have l:i.x=b0:=l;have q4:i.val=b0.val:=(by rw[<-l]);refine w8 ?_;refine D2 [3,9] [] [xf p i,E9 c s a F_ M_] 12 ?_;refine wd [0,1,2,3,4,5,6,7,8,9] ?_;(first|refine s_ 10 ?_|refine t_ 10 ?_|refine E1 10 rfl ((p7 rfl rfl).eq (v':=.bool (decide (i.val=s.a5N.val))) (qn qz)) rfl rfl rfl rfl rfl rfl i6 ?_);refine wd [11] ?_;refine g_ (decide (i.val=s.a5N.val)) ?_ (fun w g=>C6 (A:=[_,_,_,_,_,_,_]) (J:=[]) tk g);unfold mJ;rw[<-he,l,q4];by_cases h9:b0.val=s.a5N.val
   ·simp[h9]
   ·simp[h9]
 intro y1 h0;refine w8 ?_;refine n7 (ι:=BM) (fun b=>b.x=mJ s m.s/\fL b M.heap) (fun _=>[(8,l9 u),(9,l9 y),(10,l9 c),(11,l9 d)]) (fun b=>C2 d {x0 with bx:=b}::E9 c s a F_ M_::u7 none [] 0::l5 a.ra s.a5N.a5M a.rc::.blk y (.cells (kS F_ M_).toArray 46)::.blk u (.cells (gR oG qZ).toArray 39)::R) ?_ ?_
 ·refine o9 rfl ?_ ?_<;>intro h
  ·refine ap ?_;exact g_ i ⟨by rw[<-h0,h];rfl,S⟩ (fun w g=>C6 (A:=[C2 d {x0 with bx:=i},_,_,_,_,_]) (J:=[_]) tk g)
  ·refine w8 ?_;exact g_ Ga ⟨by rw[<-h0,h];rfl,fL.zero _⟩ (fun w g=>by
    have h9:=C6 (A:=[C2 d x0,E9 c s a F_ M_,u7 none [] 0,l5 a.ra s.a5N.a5M a.rc,.blk y _,.blk u _]) (J:=[xf p i]) tk g;rw[h4] at h9⊢;exact h9)
 rintro b ⟨h2,h7⟩;obtain⟨n,f⟩:∃n:AN,n={x0 with bx:=b}:=⟨_,rfl⟩;rw[<-f];rw[h4] at f;have k0:b.ls.length<=32/\∀lm∈b.ls,lm.t.a5Y.length<=16:=by
  have h1:(mJ s m.s).lts.length<=32/\∀t∈(mJ s m.s).lts,t.a5Y.length<=16:=by
   unfold mJ
   cases e9:ak m.s s.a5N.box with
   |none=>exact⟨zw _,qy⟩
   |some b0=>
    have k8:=r.ml.box b0 (bS e9);by_cases h9:b0.val=s.a5N.val
    ·simp only[z6,zg h9,Zd];exact⟨k8.lts,fun t ht=>(k8.a5Y t ht).1⟩
    ·simp only[z6,zk h9,Option.getD_none];exact⟨zw _,qy⟩
  rw[<-h2] at h1;exact⟨by simpa using h1.1,fun lm h5=>h1.2 lm.t (Q5 h5)⟩
 have k9:rt n:=by rw[f];exact⟨by show b.ls.length<=_;omega,fun lm h5=>by have:=k0.2 lm h5;omega,r.bll,r.body,hs.cmd⟩
 have q5:Ns n (V8 s):=by
  refine⟨k9,?_,r.a5M,?_,?_,?_,?_⟩<;>rw[f]
  ·exact r.ml
  ·exact r.us
  ·exact r.uo
  ·exact r.mo
  ·exact r.val
 have j:=O.trans T;have z:S5 s a M.heap:=Mn.le T.heap Y;have h3:cJ n M.heap:=by rw[f];exact⟨hg.le j.heap,z.cmd,Mn.le j.heap hm,Mn.le j.heap ho,h7,z.a5P,hb.le j.heap⟩
 have U:n.b=c:=by rw[f]
 have q6:n.us.length<=100000:=by rw[f];exact r.us
 refine w8 ?_;refine D7 (H':=C2 d n::E9 n.b s a F_ M_::u7 none [] 0::l5 a.ra s.a5N.a5M a.rc::.blk y (.cells (kS F_ M_).toArray 46)::.blk u (.cells (gR oG qZ).toArray 39)::R) (fun w g=>by rw[U];exact g) ?_;refine r7 ?_;refine A9 (II d n s a F_ M_ k9 (by have:=r.a5M;omega) q6) h3 ?_;rintro v A F3 V ⟨w,wa,wc,rfl,q7,q8,rfl⟩;refine r7 ?_;refine D7 (H':=C2 d n::E9 c s a F_ M_::u7 none [] 0::l5 a.ra s.a5N.a5M a.rc::.blk y (.cells (kS F_ M_).toArray 46)::.blk u (.cells (gR oG qZ).toArray 39)::R) (fun w g=>by rw[<-U];exact C6 (A:=[_,_,_,_,_,_]) (J:=[]) tk g) ?_;refine eM ?_ ?_<;>intro h
 ·have q0:w≠[]:=fun e1=>by rw[e1] at h;exact absurd h qp
  refine aq ?_;refine D2 [3,7] [8,9] [E9 c s a {F_ with want:=w} {M_ with wa:=wa,wc:=wc}] 10 ?_;refine wd [0,1,2,3,4,5,6,7,8,9] ?_;refine A4 ?_;refine H4 (A:=[l5 a.ra s.a5N.a5M a.rc,u7 none [] 0]) (v:=.tuple #[qJ s a,Lc {F_ with want:=w} {M_ with wa:=wa,wc:=wc}]) (j.trans V) ⟨s,{F_ with want:=w},a,{M_ with wa:=wa,wc:=wc},by unfold ez;rw[zk Q];exact .inl ⟨w,q0,by have h8:=q8 q0;rw[f] at h8;exact h8,rfl,rfl⟩,rfl,rfl,rfl,qy,Mn.le V.heap z,⟨n9.nil _ _,n9.nil _ _⟩,q7⟩ ?_;refine X2 rfl rfl rfl ud rfl ud rfl _ qh (fun w g=>C6 (A:=[_,_]) (J:=[_,_,_,_]) tk g)
 ·refine r7 ?_;refine e_ (BA c s a F_ M_) qw ?_;rintro v A ⟨rfl,rfl⟩;refine w8 ?_;refine D7 (H':=C2 d n::E9 n.b (V8 s) {a with cl:=H3,ua:=none,uc:=0} F_ M_::u7 none [] 0::l5 a.ra (V8 s).a5N.a5M a.rc::.blk y (.cells (kS F_ M_).toArray 46)::.blk u (.cells (gR oG qZ).toArray 39)::R) (fun w g=>by rw[U];exact C6 (A:=[_,_,_,_,_,_]) (J:=[]) tk g) ?_;refine r7 ?_;refine A9 (Qo d n (V8 s) {a with cl:=H3,ua:=none,uc:=0} q5 (by rw[f];exact k0.2)) ⟨Mn.le V.heap h3,⟨n9.nil _ _,dW.zero _⟩⟩ ?_;rintro v A F4 q9 ⟨rfl,x',s',d',C,X,x3,D,h6,x9,q1,y0,y2,y3,rfl⟩;rw[x3,U];refine I7 (H':=_::_::_::_::_::_::(Y_ X.rl++R)) (fun w g=>g.perm (((((Qb (Y_ X.rl) [_,_] R).cons _).cons _).cons _).cons _)) ?_;refine w8 ?_;refine D2 [3,7] [8,9] [E9 c s' C d' X] 10 ?_;refine wd [0,1,2,3,4,5,6,7,8,9] ?_;refine A4 ?_;refine H4 (A:=l5 C.ra s'.a5N.a5M C.rc::u7 X.da X.rl X.dc::Y_ X.rl) (v:=.tuple #[qJ s' C,Lc d' X]) ((j.trans V).trans q9) ⟨s',d',C,X,?_,rfl,rfl,h6,x9,q1,?_,?_⟩ ?_
  ·unfold ez;rw[zk Q];exact .inr ⟨n,by rw[f],by rw[f],by rw[f],by rw[f],by rw[f],by rw[f];exact h2,D⟩
  ·rw[(eA D).1,y0];exact⟨n9.nil _ _,n9.nil _ _⟩
  ·rw[(eA D).2.1];exact n9.nil _ _
  ·refine X2 rfl rfl rfl ud rfl ud rfl _ qh (fun w g=>C6 (A:=[_,_]) (J:=[_,_,_,_]) tk g)
theorem qt(n:Nat):Pu prog 21 [.int .i64 (n:Nat)] (fun _=>True) (.int .i64 ((min n 1048576:Nat):Int)):=by
 refine b_ 5 func21 rfl rfl rfl ?_;intro F _;refine A1 ?_;refine f_ ((Ff rfl rfl).eq (v':=.int .i64 ((min n 1048576:Nat):Int)) (by congr 1;omega)) ?_;refine C5 ?_;exact d_ rfl rfl [] qh i_
theorem dm:∀x,∀q∈uB x,q.oneCell'=true:=fun x q a=>by simp at a;rcases a with rfl|rfl<;>rfl
structure WM where
 s:SE
 x:SL
 m:MM
 q:RQ
 ql:QL
 tr:Nat
 bl:BL
 ba:Option Addr
 bc:Nat
abbrev Oy(w:WM):List Value:=gR w.s w.x++iD w.m++eE w.q w.ql++[.int .u64 (w.tr:Nat),.slice w.ba w.bl.length w.bc]
abbrev EW(w:WM):Value:=.agg (Oy w).toArray
abbrev ij(g:Nat)(w:WM):As:=.blk g (.cells (Oy w).toArray 65)
structure TN where
 a:SE
 ax:SL
 b:SE
 bx:SL
 hk:Int
 ht:Bs
 hears:Bool
 comes:Bool
 fails:Bool
 d:DD
 y:DL
 c:CM
 k:CL
abbrev fk(t:TN):List Value:=gR t.a t.ax++gR t.b t.bx++[.int .i64 t.hk,B t.ht,.bool t.hears,.bool t.comes,.bool t.fails]++kS t.d t.y++iA t.c t.k
abbrev Uh(t:TN):Value:=.agg (fk t).toArray
abbrev qv(g:Nat)(t:TN):As:=.blk g (.cells (fk t).toArray 48)
def iP(w:WM)(t:TN):RQ:=if t.d.ask=true then(if t.d.req.op=1 then{t.d.req with node:=1,life:=1,tr:=w.tr+1} else t.d.req) else w.q
def EX(w:WM)(t:TN):Nat:=if t.d.ask=true then(if t.d.req.op=1 then w.tr+1 else w.tr) else w.tr
def Rn(w:WM)(t:TN):BL:=if t.d.store=true then w.bl++[(Dg.sha t.d.body,t.d.body)] else w.bl
structure sS(w:WM)(t:TN)(w':WM):Prop where
 s:w'.s=t.b
 x:w'.x=t.bx
 m:w'.m=w.m
 q:w'.q=iP w t
 ql:w'.ql=if t.d.ask=true then t.y.ql else w.ql
 tr:w'.tr=EX w t
 bl:w'.bl=Rn w t
theorem Nv(w:WM)(t:TN)(ht:w.tr<=1000)(hb:w.bl.length<=1000)(hd:t.d.body.length<=1000000):
  Cm prog 33 [EW w,Uh t] (fun h=>n9 h w.ba (uC w.bl)) [] (fun h v A=>∃w',v=EW w'/\A=[]/\sS w t w'/\n9 h w'.ba (uC w'.bl)):=by
 refine y5 50 func33 rfl rfl rfl ?_;rintro F R z;refine C7 ?_;refine m8 rfl rfl ?_;intro k;refine m8 rfl rfl ?_;intro u;refine i7 rfl ?_;intro y;refine O3 ?_;obtain⟨f,d⟩:∃f:WM,f={w with s:=t.b,x:=t.bx}:=⟨_,rfl⟩;refine D7 (H':=ij k f::qv u t::.blk y (.cells (Oy ⟨oG,qZ,Io,cU,cX,0,[],none,0⟩).toArray 65)::R) (fun w b=>by rw[d];exact C6 (A:=[_,_,_]) (J:=[]) tk b) ?_;refine E7 ?_;refine n7 (ι:=WM) (fun q=>q={f with q:=iP w t,ql:=if t.d.ask=true then t.y.ql else w.ql,tr:=EX w t}) (fun _=>[(2,l9 k),(3,l9 u),(4,l9 y)]) (fun q=>ij k q::qv u t::.blk y (.cells (Oy ⟨oG,qZ,Io,cU,cX,0,[],none,0⟩).toArray 65)::R) ?_ ?_
 ·refine o9 rfl ?_ ?_<;>intro h
  ·refine ap ?_;obtain⟨g,i⟩:∃g:WM,g={f with q:=t.d.req,ql:=t.y.ql}:=⟨_,rfl⟩;have C:g.tr=w.tr:=(by rw[i,d]);have D:g.q=t.d.req:=(by rw[i]);refine D7 (H':=ij k g::qv u t::.blk y (.cells (Oy ⟨oG,qZ,Io,cU,cX,0,[],none,0⟩).toArray 65)::R) (fun w b=>by rw[i];exact C6 (A:=[_,_,_]) (J:=[]) tk b) ?_;refine E7 ?_;refine f_ ((p7 rfl rfl).eq (v':=.bool (decide (t.d.req.op=1))) (qn (zp.2 (by rw[D])))) ?_;refine O0 ?_ ?_<;>intro h2
   ·have M:t.d.req.op=1:=qr h2;refine A1 ?_;refine f_ ((L2 rfl rfl qb).eq (v':=.int .u64 ((g.tr+1:Nat):Int)) (by congr 1)) ?_;refine wk 13 ?_;exact g_ {f with q:=iP w t,ql:=if t.d.ask=true then t.y.ql else w.ql,tr:=EX w t} rfl (fun v b=>by
     have O:({f with q:=iP w t,ql:=if t.d.ask=true then t.y.ql else w.ql,tr:=EX w t}:WM)={g with q:={g.q with node:=1,life:=1,tr:=g.tr+1},tr:=g.tr+1}:=by
      rw[C,D,i];unfold iP EX;rw[zg h,zg M,zg h,zg h,zg M]
     rw[O];exact C6 (A:=[_,_,_]) (J:=[]) tk b)
   ·refine w8 ?_;have M:¬t.d.req.op=1:=zq h2;exact g_ {f with q:=iP w t,ql:=if t.d.ask=true then t.y.ql else w.ql,tr:=EX w t} rfl (fun v b=>by
     have O:({f with q:=iP w t,ql:=if t.d.ask=true then t.y.ql else w.ql,tr:=EX w t}:WM)=g:=by
      rw[i,d];unfold iP EX;rw[zg h,zk M,zg h,zg h,zk M]
     rw[O];exact b)
  ·refine w8 ?_;have Q:¬t.d.ask=true:=fun e=>(by rw[e] at h;cases h);exact g_ {f with q:=iP w t,ql:=if t.d.ask=true then t.y.ql else w.ql,tr:=EX w t} rfl (fun v b=>by
    have O:({f with q:=iP w t,ql:=if t.d.ask=true then t.y.ql else w.ql,tr:=EX w t}:WM)=f:=by
     rw[d];unfold iP EX;rw[zk Q,zk Q,zk Q]
    rw[O];exact b)
 rintro c S;have a:c.ba=w.ba/\c.bl=w.bl/\c.bc=w.bc:=by rw[S,d];exact qm
 refine E7 ?_;refine S8 (fun(j:BL) (o:AC) (_:Unit) (n:l8)=>F.le n/\j=Rn w t/\n9 n.heap o.1 (uC j)) (fun _ _ _ _=>[(2,l9 k),(4,l9 y)]) (fun _ _ _ n=>n) (fun j o _ _=>ij k {c with bl:=j,ba:=o.1,bc:=o.2}::.blk y (.cells (Oy ⟨oG,qZ,Io,cU,cX,0,[],none,0⟩).toArray 65)::R) ?_ ?_
 ·refine o9 rfl ?_ ?_<;>intro h
  ·refine w8 ?_;refine D2 [2,6,10] [0,3,7,12,13,15] [ij k c,qv u t] 16 ?_;refine wd [1,2,4,5,6,8,9,10] ?_;refine h_ 0 rfl i6 ?_;refine M4 rfl ?_;intro OJ;refine Y9 ?_;refine h_ 3 rfl i6 ?_;refine w6 uB (l:=[]) (m:=c.bl) ao dm (by show(0+c.bl.length)*32<=_;rw[a.2.1];omega) ?_ (hsrc:=fun v b=>by rw[a.1,a.2.1];exact z.le b.keep) (h63:=by rw[a.2.1];simp only[zn];omega);intro a37 h1 _;refine Y9 ?_;refine h_ 7 rfl i6 ?_;refine c_ rfl (Dg.Sum_ct t.d.body qb) qw rfl ?_;refine fg [11] ?_;refine h_ 12 rfl i6 ?_;refine C4 uB (Dg.sha t.d.body,t.d.body) rfl ?_;intro a46 _;refine xF ?_;refine h_ 13 rfl i6 ?_;refine w6 uB (l:=c.bl) (m:=[(Dg.sha t.d.body,t.d.body)]) ao dm (by show(c.bl.length+1)*32<=_;rw[a.2.1];omega) ?_ (h63:=by rw[a.2.1];simp only[zx,zn];omega);intro T U _;refine E6 [14,15] ?_;refine ki (Z:=[.own (.slice T (c.bl++[(Dg.sha t.d.body,t.d.body)]).length U) 95 2 (uC (c.bl++[(Dg.sha t.d.body,t.d.body)]))]) tk fun n p ⟨bs,X⟩=>?_;exact y6 (c.bl++[(Dg.sha t.d.body,t.d.body)],(T,U),(),n) ⟨p,by unfold Rn;rw[zg h,a.2.1],A3.rd X ud⟩ rfl (fun v b=>C6 (A:=[_,_]) (J:=[qv u t,_]) tk b)
  ·refine w8 ?_;have Q:¬t.d.store=true:=fun e=>(by rw[e] at h;cases h);exact y6 (c.bl,(c.ba,c.bc),(),F) ⟨l8.le_refl _,by unfold Rn;rw[zk Q,a.2.1],by rw[a.1,a.2.1];exact z⟩ rfl (fun v b=>C6 (A:=[_,_]) (J:=[_]) tk b)
 rintro j o _ n ⟨p,Y,h0⟩;obtain⟨V,r⟩:∃V:WM,V={c with bl:=j,ba:=o.1,bc:=o.2}:=⟨_,rfl⟩;rw[<-r];refine L7 ?_;refine H4 (A:=[]) (v:=EW V) p ⟨V,rfl,rfl,?_,by rw[r];exact h0⟩ ?_
 ·rw[r,S,d];exact⟨rfl,rfl,rfl,rfl,rfl,rfl,Y⟩
 ·exact G7 rfl rfl ud rfl _ qh (fun v b=>C6 (A:=[]) (J:=[_,_]) tk b)
