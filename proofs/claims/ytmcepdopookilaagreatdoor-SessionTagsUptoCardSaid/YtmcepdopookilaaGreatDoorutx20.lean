import Derived.Test.YtmcepdopookilaaGreatDoorutx19
set_option maxHeartbeats 16000000
set_option maxRecDepth 8000
set_option linter.unusedVariables false
set_option linter.unusedSimpArgs false
set_option linter.defProp false
namespace Go.Proofs.YtmcepdopookilaaGreatDoor.Rp
open Go Go.Sl Go.RowKit Go.Proofs.Tryz
theorem Nl(s:Bs):(R8 s).length=s.length:=by simp[R8]
def Y_(l:List RM):List As:=l.flatMap fun m=>if m.1.a5U=[] then[] else[A4 m.2.fa m.1.a5U m.2.fc]
def kH(m:RM)(h:l_):Prop:=(fC m.1 m.2 h/\yM m.2)\/∃fa fc,m=zN fa fc
theorem kH.le{m:RM}{h b:l_}(k:kH m h)(hl:l_.le h b):kH m b:=by
 rcases k with⟨a,c⟩|a
 ·exact .inl ⟨a.le hl,c⟩
 ·exact .inr a
theorem Nm{m:RM}{h:l_}(k:fC m.1 m.2 h)(e:yM m.2):m.1.a5U=[]:=by
 have b:=k.a5U;rw[e.1] at b
 cases hq:m.1.a5U with
 |nil=>rfl
 |cons a t=>
  obtain⟨d,c,_⟩:=b (by rw[hq];simp[fV])
  cases c
theorem nG{l:List RM}{h:l_}(k:∀m∈l,fC m.1 m.2 h/\yM m.2):Y_ l=[]:=by
 unfold Y_;rw[List.flatMap_eq_nil_iff];intro m a;rw[zu (Nm (k m a).1 (k m a).2)]
theorem nH(a b:List RM):Y_ (a++b)=Y_ a++Y_ b:=Kk
theorem ID(b:BX)(fa:Option Addr)(fc:Nat):Y_ (my b fa fc)=[A4 fa R5 fc]:=rfl
structure No(x:AN)(s:SE):Prop where
 ok:rm x
 ml:V_ x.m.s
 a5I:s.a5J.a5I.length<=50000
 us:x.us.length<=100000
 uo:x.o.a5L.length<=100000/\fP x.o.a5L
 mo:x.o.mods.length<=100000/\fP x.o.mods
 val:x.o.val<18446744073709551616
abbrev Qi:Bs:=[65,80,80,69,78,68,85,73,68,32]
abbrev uF(x:AN):Bs:=if x.o.a5L=[] then x.r.code else Qi++R1 x.o.val++[32]++R1 (x.o.a5L.getD 0 0)
abbrev Np(w:Bs):RR:={R0 with kind:=11,box:=w}
def Ov(b:BX):List RR:=[uE,kF b.lts.length,IC xe b.val,IC mv b.next,IC mw b.high]
def L6(x:AN)(s:SE)(r:RR)(s':SE)(l:List RR):Prop:=
 if x.c.kind=7 then s'={s with a5K:=1,ses:=x.o.ses,num:=0}/\r=x.r/\l=[]
 else if x.c.kind=14 then s'=s/\r={x.r with code:=uF x}/\l=[]
 else if x.c.kind=8\/x.c.kind=9 then(al x.m.s x.c.box=none/\s'=s/\r=qe x.c.tag/\l=[])\/∃b,al x.m.s x.c.box=some b/\s'={s with a5J:=P4 b,a5K:=2,ro:=decide (x.c.kind=9)}/\r={x.r with code:=aG x.c.kind}/\l=Ov b
 else if x.c.kind=12 then s'=s/\r=x.r/\l.length<=8/\∀q∈l,∃b∈x.m.s.a5F,q=Np b.name
 else if x.c.kind=13 then Ot x s r s' l
 else if x.c.kind=15 then s'=s/\r=x.r/\∃nums m,l=[BK nums m]
 else if x.c.kind=16 then qf x s x.us r s' l
 else if x.c.kind=17 then qf x s [] r s' l
 else s'=s/\r=x.r/\l=[]
def TA(g:Nat)(x:AN)(d:DD)(y:DL)(Q:RR->SE->List RR->Prop)(h:l_)(v:Value)(A:List As):Prop:=v=.tuple #[]/\∃r s sl l a c,Q r s (l.map Prod.fst)/\(∀m∈l,kH m h)/\U2 s sl h/\l.length<=200000/\A=C2 g {x with r:=r,z:=L0}::l5 sl.ra s.a5J.a5I sl.rc::(O4 x.b s sl d (C1 y l a c)++Y_ l)
theorem Nq(g:Nat)(x:AN)(s:SE)(sl:SL)(d:DD)(y:DL)(hx:No x s)(hz:x.z=L0)(hl:y.rl.length<=100):
  Cm prog 163 [l9 g] (fun h=>cM x h/\U2 s sl h) (C2 g x::l5 sl.ra s.a5J.a5I sl.rc::O4 x.b s sl d y) (TA g x d y (L6 x s)):=by
 have a7:=hx.a5I;have y2:=hx.us;have q0:({x with r:=x.r,z:=L0}:AN)=x:=by
  obtain⟨xb,xc,xk,xm,xo,xy,y3,z0,z2,u0,u1,u2,u8,xr,xz⟩:=x;obtain rfl:xz=L0:=hz;rfl
 obtain⟨b7,h7⟩:=o7 (decide (x.c.kind=7));obtain⟨v0,q8⟩:=o7 (decide (x.c.kind=14));obtain⟨b8,h8⟩:=o7 (decide (x.c.kind=8));obtain⟨b9,h9⟩:=o7 (decide (x.c.kind=9));obtain⟨v1,q9⟩:=o7 (decide (x.c.kind=12));obtain⟨v2,x0⟩:=o7 (decide (x.c.kind=13));obtain⟨v3,x1⟩:=o7 (decide (x.c.kind=15));obtain⟨v4,x2⟩:=o7 (decide (x.c.kind=16));obtain⟨v5,x3⟩:=o7 (decide (x.c.kind=17));refine y4 133 func163 rfl rfl rfl ?_;rintro F R ⟨u,D⟩;refine H9 5 ?_;refine dr (fun(r:RR) (k:SE) (f:SL) (l:List RM) (o:AC) (t:l6)=>F.le t/\L6 x s r k (l.map Prod.fst)/\(∀m∈l,kH m t.heap)/\U2 k f t.heap/\l.length<=200000) (fun _ _ _ _ _ _=>[(0,l9 g)]) (fun _ _ _ _ _ t=>t) (fun r k f l o _=>C2 g {x with r:=r,z:=L0}::l5 f.ra k.a5J.a5I f.rc::E7 x.b k f d (C1 y l o.1 o.2)::r8 o.1 (y.rl++l) o.2::(Y_ l++R)) ?_ ?_
 ·refine n8 ?_;have h0:∀w,Hp F w (C2 g x::l5 sl.ra s.a5J.a5I sl.rc::E7 x.b s sl d y::r8 y.da y.rl y.dc::R)->Hp F w (C2 g {x with r:=x.r,z:=L0}::l5 sl.ra s.a5J.a5I sl.rc::E7 x.b s sl d (C1 y [] y.da y.dc)::r8 y.da (y.rl++[]) y.dc::(Y_ []++R)):=fun w n=>by
   rw[q0];simp only[C1,z7];exact n
  have x9:∀(Q:RR->SE->List RR->Prop) (t:l6) (v:Value) (A:List As),(∀r k l,Q r k l->L6 x s r k l/\l.length<=200000)->wZ g x d y Q t.heap v A->F.le t->∃(r:RR) (k:SE) (f:SL) (l:List RM) (o:AC),v=.tuple #[]/\(L6 x s r k (l.map Prod.fst)/\(∀m∈l,kH m t.heap)/\U2 k f t.heap/\l.length<=200000)/\A++R=C2 g {x with r:=r,z:=L0}::l5 f.ra k.a5J.a5I f.rc::E7 x.b k f d (C1 y l o.1 o.2)::r8 o.1 (y.rl++l) o.2::(Y_ l++R):=fun Q t v A hQ ⟨hv,r,k,f,l,a,c,U,S,hs,V⟩ v6=>by
   refine⟨r,k,f,l,(a,c),hv,⟨(hQ _ _ _ U).1,fun m w4=>.inl (S m w4),hs,by have:=(hQ _ _ _ U).2;rwa [zr] at this⟩,?_⟩;rw[nG S,V];rfl
  refine C6 ?_;refine f_ ((p8 rfl rfl).eq (v':=.bool b7) (qn ((qz).trans h7.symm))) ?_;refine p_ ?_
  cases b7
  case true=>
   have e7:x.c.kind=7:=qr h7.symm;refine u7 ?_;refine D8 [3,7,11,16] [20,24,28] [C2 g x] 29 ?_;refine wd [0,1,2,3,4,5,6,7,8,9,10,11,12,13,14,15,16,17,18,19,20,21,22,23,24,25,26,27,28] ?_;exact y5 (x.r,{s with a5K:=1,ses:=x.o.ses,num:=0},sl,[],(y.da,y.dc),F) ⟨l6.le_refl _,by unfold L6;rw[zu e7];exact qm,qy,⟨D.a5L,D.cmd⟩,zw _⟩ rfl (fun w n=>by
    rw[q0];simp only[C1,z7];exact C5 (A:=[_,_,_,_]) (J:=[]) tk n)
  have e7:¬x.c.kind=7:=zq h7.symm;refine C6 ?_;refine f_ ((p8 rfl rfl).eq (v':=.bool v0) (qn ((qz).trans q8.symm))) ?_;refine p_ ?_
  cases v0
  case true=>
   have M:x.c.kind=14:=qr q8.symm;refine wk 7 ?_;refine o8 rfl ?_ ?_<;>intro h
   ·have O:0<x.o.a5L.length:=(by have:=qr h;omega);have y0:=Y6 u.o.a5L O;have w5:x.o.a5L≠[]:=fun e=>(by rw[e] at O;simp at O);have v7:x.o.a5L.getD 0 0<18446744073709551616:=hx.uo.2 _ (by rw[zd,zj O];exact zx O);have a0:=kG 19 x.o.val (by have:=hx.val;omega);have a1:=kG 19 (x.o.a5L.getD 0 0) qb;refine u7 ?_;refine D8 [5,13] [6,15,16,21] [C2 g x] 22 ?_;refine wd [0,1,2,3,4,5,9,10,11,12,13] ?_;refine w_ 14 rfl (m8 rfl y0 rfl qb) ?_;refine bv 6 15 rfl rfl i6 ?_ ?_;refine e_ rfl (aF x.o.val hx.val) (fun h hh _=>u.g.le hh) rfl ?_;refine gj [7,8] ?_;refine h_ 15 rfl i6 ?_;refine r_ (i8 rfl (fun w n=>uf n u.o.a5L (i:=0) x6 O)) ?_;refine xB ?_;refine h_ 16 rfl i6 ?_;refine e_ rfl (aF (x.o.a5L.getD 0 0) v7) (fun h hh _=>u.g.le hh) rfl ?_;refine E6 [17,18,19,20,21] ?_
    rotate_left 1
    refine r_ (i8 rfl (fun w n=>uf n u.o.a5L (i:=0) x6 O)) ?_;refine ah ?_;refine h_ 6 rfl i6 ?_;refine e_ rfl (aF x.o.val hx.val) (fun h hh _=>u.g.le hh) rfl ?_;refine E6 [7,8] ?_;refine h_ 16 rfl i6 ?_;refine e_ rfl (aF (x.o.a5L.getD 0 0) v7) (fun h hh _=>u.g.le hh) rfl ?_;refine E6 [17,18,19,20,21] ?_
    rotate_left 1
    all_goals (refine u7 ?_)
    all_goals exact y5 ({x.r with code:=Qi++R1 x.o.val++[32]++R1 (x.o.a5L.getD 0 0)},s,sl,[],(y.da,y.dc),F) ⟨l6.le_refl _,by unfold L6;rw[zk e7,zu M];exact⟨rfl,by rw[show uF x=Qi++R1 x.o.val++[32]++R1 (x.o.a5L.getD 0 0) from zk w5],rfl⟩,qy,D,zw _⟩ rfl (fun w n=>by
     obtain⟨xb,xc,xk,xm,xo,xy,y3,z0,z2,u0,u1,u2,u8,xr,xz⟩:=x;obtain rfl:xz=L0:=hz;simp only[C1,z7];exact C5 (A:=[_,_,_,_]) (J:=[]) tk n)
   ·have v8:x.o.a5L=[]:=jy (qu h);refine u7 ?_;exact y5 (x.r,s,sl,[],(y.da,y.dc),F) ⟨l6.le_refl _,by unfold L6;rw[zk e7,zu M];exact⟨rfl,by rw[show uF x=x.r.code from zu v8],rfl⟩,qy,D,zw _⟩ rfl h0
  have M:¬x.c.kind=14:=zq q8.symm;refine u7 ?_;have h6:∀(t:l6) (v:Value) (A:List As),x.c.kind=8\/x.c.kind=9->Ou g x s sl d y t.heap v A->F.le t->∃(r:RR) (k:SE) (f:SL) (l:List RM) (o:AC),v=.tuple #[]/\(L6 x s r k (l.map Prod.fst)/\(∀m∈l,kH m t.heap)/\U2 k f t.heap/\l.length<=200000)/\A++R=C2 g {x with r:=r,z:=L0}::l5 f.ra k.a5J.a5I f.rc::E7 x.b k f d (C1 y l o.1 o.2)::r8 o.1 (y.rl++l) o.2::(Y_ l++R):=fun t v A hk ⟨hv,ho⟩ v6=>by
   have k0:U2 s sl t.heap:=Mn.le v6.heap D;rcases ho with⟨hn,a,c,V⟩|⟨b,ra,rc,fa,fc,a,c,hb,V⟩
   ·refine⟨qe x.c.tag,s,sl,[],(a,c),hv,⟨?_,qy,k0,zw _⟩,by rw[V];rfl⟩;unfold L6;rw[zk e7,zk M,zu hk];exact .inl ⟨hn,rfl,rfl,rfl⟩
   ·refine⟨{x.r with code:=aG x.c.kind},{s with a5J:=P4 b,a5K:=2,ro:=decide (x.c.kind=9)},{sl with ra:=ra,rc:=rc},my b fa fc,(a,c),hv,⟨?_,fun m S=>?_,⟨k0.a5L,k0.cmd⟩,by simp⟩,?_⟩
    ·unfold L6;rw[zk e7,zk M,zu hk];exact .inr ⟨b,hb,rfl,rfl,rfl⟩
    ·rcases ky.1 S with rfl|S
     ·exact .inr ⟨fa,fc,rfl⟩
     ·simp at S;rcases S with rfl|rfl|rfl|rfl<;>exact .inl ⟨⟨rfl,o0.nil _ _,o0.nil _ _,o0.nil _ _,qy⟩,rfl,rfl⟩
    ·rw[V,ID];obtain⟨xb,xc,xk,xm,xo,xy,y3,z0,z2,u0,u1,u2,u8,xr,xz⟩:=x;obtain rfl:xz=L0:=hz;rfl
  refine C6 ?_;refine f_ ((p8 rfl rfl).eq (v':=.bool b8) (qn ((qz).trans h8.symm))) ?_;refine p_ ?_
  cases b8
  case true=>
   have e8:x.c.kind=8:=qr h8.symm;refine p_ ?_;refine A8 (sK g x s sl d y hx.ok hz hx.ml qb) u ?_;intro v A t p U;obtain⟨r,k,f,l,o,rfl,⟨h1,h2,h3,h4⟩,V⟩:=h6 t v A (.inl e8) U p;refine I7 (H':=C2 g {x with r:=r,z:=L0}::l5 f.ra k.a5J.a5I f.rc::E7 x.b k f d (C1 y l o.1 o.2)::r8 o.1 (y.rl++l) o.2::(Y_ l++R)) (fun w n=>by rw[<-V];exact n) ?_;refine u7 ?_;exact y5 (r,k,f,l,o,t) ⟨p,h1,h2,h3,h4⟩ rfl i_
  have e8:¬x.c.kind=8:=zq h8.symm;refine C6 ?_;refine f_ ((p8 rfl rfl).eq (v':=.bool b9) (qn ((qz).trans h9.symm))) ?_;refine p_ ?_
  cases b9
  case true=>
   have e9:x.c.kind=9:=qr h9.symm;refine p_ ?_;refine A8 (sK g x s sl d y hx.ok hz hx.ml qb) u ?_;intro v A t p U;obtain⟨r,k,f,l,o,rfl,⟨h1,h2,h3,h4⟩,V⟩:=h6 t v A (.inr e9) U p;refine I7 (H':=C2 g {x with r:=r,z:=L0}::l5 f.ra k.a5J.a5I f.rc::E7 x.b k f d (C1 y l o.1 o.2)::r8 o.1 (y.rl++l) o.2::(Y_ l++R)) (fun w n=>by rw[<-V];exact n) ?_;refine u7 ?_;exact y5 (r,k,f,l,o,t) ⟨p,h1,h2,h3,h4⟩ rfl i_
  have e9:¬x.c.kind=9:=zq h9.symm;have Y:¬(x.c.kind=8\/x.c.kind=9):=fun h=>h.elim e8 e9;refine C6 ?_;refine f_ ((p8 rfl rfl).eq (v':=.bool v1) (qn ((qz).trans q9.symm))) ?_;refine p_ ?_
  cases v1
  case true=>
   have X:x.c.kind=12:=qr q9.symm;have k8:x.c.a5Q.length<=2000000000:=hx.ok.c.pat;have v9:(R8 x.c.a5Q).length<=2000000000:=(by rw[Nl];exact k8);have a2:x.m.a5F.length<=8:=(by have:=hx.ml.a5F;simpa using this);refine H9 7 ?_;refine n7 (ι:=List RM×AC) (fun q=>q.1.length<=8/\∀m∈q.1,∃b∈x.m.s.a5F,m=(Np b.name,L0)) (fun _=>[(0,l9 g)]) (fun q=>C2 g x::l5 sl.ra s.a5J.a5I sl.rc::E7 x.b s sl d (C1 y q.1 q.2.1 q.2.2)::r8 q.2.1 (y.rl++q.1) q.2.2::R) ?_ ?_
   ·refine n8 ?_;refine o9 (ι:=Nat×List RM×AC) (fun i=>i.1<=x.m.a5F.length/\i.2.1.length<=i.1/\∀m∈i.2.1,∃b∈x.m.s.a5F,m=(Np b.name,L0)) (fun i=>[(0,l9 g),(78,.slice x.m.ba x.m.a5F.length x.m.bc),(79,.int .i64 (x.m.a5F.length:Nat)),(80,.int .i64 (i.1:Nat))]) (fun i=>C2 g x::l5 sl.ra s.a5J.a5I sl.rc::E7 x.b s sl d (C1 y i.2.1 i.2.2.1 i.2.2.2)::r8 i.2.2.1 (y.rl++i.2.1) i.2.2.2::R) (fun i=>x.m.a5F.length-i.1) (0,[],(y.da,y.dc)) ⟨zw _,z1 _,qy⟩ sub (fun w n=>by simp only[C1,z7];exact n) ?_;rintro⟨j,l,o⟩ ⟨hj,w7,T⟩;simp only at hj w7 T;refine R6 ?_ ?_<;>intro h
    ·have q1:j<x.m.a5F.length:=(by have:=qr h;omega);have y0:=y7 u.m.a5F p7 qp q1;have w0:x.m.a5F[j].x∈x.m.s.a5F:=Zz (zx q1);have q3:x.m.a5F[j].name.length<=1000000:=(by have:=(hx.ml.box _ w0).name;show(x.m.a5F[j].x).name.length<=_;omega);refine H9 0 ?_;refine n7 (ι:=List RM×AC) (fun q=>q.1.length<=j+1/\∀m∈q.1,∃b∈x.m.s.a5F,m=(Np b.name,L0)) (fun _=>[(0,l9 g),(78,.slice x.m.ba x.m.a5F.length x.m.bc),(79,.int .i64 (x.m.a5F.length:Nat)),(80,.int .i64 (j:Nat))]) (fun q=>C2 g x::l5 sl.ra s.a5J.a5I sl.rc::E7 x.b s sl d (C1 y q.1 q.2.1 q.2.2)::r8 q.2.1 (y.rl++q.1) q.2.2::R) ?_ ?_
     ·refine n8 ?_;refine C6 ?_;refine f_ (m8 rfl y0 rfl qb) ?_;refine r_ (w8 rfl (fun w n=>fe (C:=de) (u.m.a5F.le n.keep) p7 qp q1 x6) (p7 _)) ?_;refine i7 rfl ?_;intro g3;refine p_ ?_;refine H9 0 ?_;refine n7 (ι:=Bool) (fun _=>True) (fun q=>[(3,l9 g3),(107,.bool q),(0,l9 g),(78,.slice x.m.ba x.m.a5F.length x.m.bc),(79,.int .i64 (x.m.a5F.length:Nat)),(80,.int .i64 (j:Nat))]) (fun _=>Bp g3 x.m.a5F[j]::C2 g x::l5 sl.ra s.a5J.a5I sl.rc::E7 x.b s sl d (C1 y l o.1 o.2)::r8 o.1 (y.rl++l) o.2::R) ?_ ?_
      ·obtain⟨q5,h5⟩:=o7 (decide (x.m.a5F[j].name=[73,78,66,79,88]))
       cases q5
       ·refine u7 ?_;refine D8 [4,6,10,17,20] [7] [C2 g x,Bp g3 x.m.a5F[j]] 24 ?_;refine wd [0,1,2,3,4,5,6] ?_;refine h_ 7 rfl i6 ?_;refine c_ (C:=[]) (nF x.c.a5Q x.m.a5F[j].name k8 q3) qw ?_;rintro v A ⟨⟨q,rfl⟩,rfl⟩;cases q;rotate_left 1;(refine F7 ?_;refine dJ (.inr (aV I5)) ?_;refine wd [8,9,10] ?_;(first|refine s_ 11 ?_|refine t_ 11 ?_);refine wd [12,13,14,15,16,17,19,20] ?_;refine h_ 18 rfl i6 ?_;(first|refine T2 rfl rfl rfl rfl rfl rfl rfl ?_|refine Y3 rfl rfl rfl rfl rfl rfl ?_);refine F7 ?_;refine dJ (.inr (aV I5)) ?_;refine h_ 21 rfl i6 ?_;(first|refine T2 rfl rfl rfl rfl rfl rfl rfl ?_|refine Y3 rfl rfl rfl rfl rfl rfl ?_);refine F7 ?_;refine dJ (.inl i6) ?_;refine wd [22,23] ?_;exact g_ true trivial (fun w n=>C5 (A:=[_,_,_,_,_]) (J:=[]) tk n));refine gj [8,9,10] ?_;(first|refine s_ 11 ?_|refine t_ 11 ?_|refine F6 11 rfl ((B_ rfl rfl).eq (v':=.bool false) (qn h5.symm)) rfl rfl rfl rfl rfl rfl i6 ?_);refine wd [12,13,14,15,16,17,19,20] ?_;refine h_ 18 rfl i6 ?_;(first|refine u_ ?_|(refine v_ ?_;refine e_ rfl (I3 x.c.a5Q qb) qw rfl ?_));refine ah ?_;refine h_ 21 rfl i6 ?_;(first|refine u_ ?_|(refine v_ ?_;refine c_ (C:=[]) (nF (R8 x.c.a5Q) x.m.a5F[j].name v9 q3) qw ?_;rintro v A ⟨⟨q2,rfl⟩,rfl⟩));refine E6 [22,23] ?_;exact g_ _ trivial (fun w n=>C5 (A:=[_,_,_,_,_]) (J:=[]) tk n)
       ·refine u7 ?_;refine D8 [4,6,10,17,20] [7] [C2 g x,Bp g3 x.m.a5F[j]] 24 ?_;refine wd [0,1,2,3,4,5,6] ?_;refine h_ 7 rfl i6 ?_;refine c_ (C:=[]) (nF x.c.a5Q x.m.a5F[j].name k8 q3) qw ?_;rintro v A ⟨⟨q,rfl⟩,rfl⟩;cases q;rotate_left 1;(refine F7 ?_;refine dJ (.inr (aV I5)) ?_;refine wd [8,9,10] ?_;(first|refine s_ 11 ?_|refine t_ 11 ?_);refine wd [12,13,14,15,16,17,19,20] ?_;refine h_ 18 rfl i6 ?_;(first|refine T2 rfl rfl rfl rfl rfl rfl rfl ?_|refine Y3 rfl rfl rfl rfl rfl rfl ?_);refine F7 ?_;refine dJ (.inr (aV I5)) ?_;refine h_ 21 rfl i6 ?_;(first|refine T2 rfl rfl rfl rfl rfl rfl rfl ?_|refine Y3 rfl rfl rfl rfl rfl rfl ?_);refine F7 ?_;refine dJ (.inl i6) ?_;refine wd [22,23] ?_;exact g_ true trivial (fun w n=>C5 (A:=[_,_,_,_,_]) (J:=[]) tk n));refine gj [8,9,10] ?_;(first|refine s_ 11 ?_|refine t_ 11 ?_|refine F6 11 rfl ((B_ rfl rfl).eq (v':=.bool true) (qn h5.symm)) rfl rfl rfl rfl rfl rfl i6 ?_);refine wd [12,13,14,15,16,17,19,20] ?_;refine h_ 18 rfl i6 ?_;(first|refine u_ ?_|(refine v_ ?_;refine e_ rfl (I3 x.c.a5Q qb) qw rfl ?_));refine ah ?_;refine h_ 21 rfl i6 ?_;(first|refine u_ ?_|(refine v_ ?_;refine c_ (C:=[]) (nF (R8 x.c.a5Q) x.m.a5F[j].name v9 q3) qw ?_;rintro v A ⟨⟨q2,rfl⟩,rfl⟩));refine E6 [22,23] ?_;exact g_ _ trivial (fun w n=>C5 (A:=[_,_,_,_,_]) (J:=[]) tk n)
      intro a6 _;refine N8 ?_ ?_<;>intro h
      ·refine u7 ?_;refine D8 [3,5] [7] [C2 g x,Bp g3 x.m.a5F[j]] 8 ?_;refine wd [0,1,2,3,4,5] ?_;refine w_ 6 rfl (y8 (ps:=[(0,.const (.int .i64 11)),(8,.tmp 113)]) (vs:=[(0,.int .i64 11),(8,B x.m.a5F[j].name)]) (cells:=(tp (Np x.m.a5F[j].name) L0).toArray) rfl i6) ?_;refine h_ 7 rfl i6 ?_;refine c_ (V2 x.b s sl d (C1 y l o.1 o.2) (Np x.m.a5F[j].name) L0 (by simp only[zz];omega)) qw ?_;rintro v A ⟨rfl,a9,c9,rfl⟩;refine E6 [] ?_;rw[show E9 (C1 y l o.1 o.2) (Np x.m.a5F[j].name,L0) a9 c9=C1 y (l++[(Np x.m.a5F[j].name,L0)]) a9 c9 from by simp[E9,C1]];exact g_ (l++[(Np x.m.a5F[j].name,L0)],a9,c9) ⟨by rw[zz];simp only[zy,zn];omega,fun m S=>by rcases zb.1 S with S|S;exact T m S;exact⟨_,w0,zg.1 S⟩⟩ (fun w n=>C5 (A:=[_,_,_,_]) (J:=[_]) tk n)
      ·refine u7 ?_;exact g_ (l,o) ⟨by simp only;omega,T⟩ (fun w n=>C5 (A:=[_,_,_,_]) (J:=[_]) tk n)
     rintro⟨l2,o2⟩ ⟨w1,w2⟩;simp only at w1 w2;refine y9 ?_;exact l8 (i:=(j,l,o)) (j+1,l2,o2) ⟨q1,w1,w2⟩ qg sub i_
    ·refine u7 ?_;exact g_ (l,o) ⟨by simp only;omega,T⟩ i_
   rintro⟨l,o⟩ ⟨w3,T⟩;simp only at w3 T;have q4:∀h:l_,∀m∈l,fC m.1 m.2 h/\yM m.2:=fun h m S=>by
    obtain⟨b,hb,rfl⟩:=T m S;exact⟨⟨rfl,o0.nil _ _,o0.nil _ _,o0.nil _ _,qy⟩,rfl,rfl⟩
   refine u7 ?_;exact y5 (x.r,s,sl,l,o,F) ⟨l6.le_refl _,by
    unfold L6;rw[zk e7,zk M,zk Y,zu X];exact⟨rfl,rfl,by rw[zr];exact w3,fun q U=>by obtain⟨m,S,rfl⟩:=jx.1 U;obtain⟨b,hb,rfl⟩:=T m S;exact⟨b,hb,rfl⟩⟩,fun m S=>.inl (q4 _ m S),D,by simp only;omega⟩ rfl (fun w n=>by rw[q0,nG (q4 F.heap)];exact n)
  have X:¬x.c.kind=12:=zq q9.symm;refine C6 ?_;refine f_ ((p8 rfl rfl).eq (v':=.bool v2) (qn ((qz).trans x0.symm))) ?_;refine p_ ?_
  cases v2
  case true=>
   have Z:x.c.kind=13:=qr x0.symm;refine p_ ?_;refine A8 (Ew g x s sl d y hx.ok hz hx.ml qb) ⟨u,D⟩ ?_;intro v A t p U;obtain⟨r,k,f,l,o,rfl,⟨h1,h2,h3,h4⟩,V⟩:=x9 _ t v A (fun r k l h=>by unfold L6;rw[zk e7,zk M,zk Y,zk X,zu Z];exact⟨h,by rcases h.2 with⟨_,h⟩|⟨_,_,_,h,_⟩<;>rw[h]<;>simp⟩) U p;refine I7 (H':=C2 g {x with r:=r,z:=L0}::l5 f.ra k.a5J.a5I f.rc::E7 x.b k f d (C1 y l o.1 o.2)::r8 o.1 (y.rl++l) o.2::(Y_ l++R)) (fun w n=>by rw[<-V];exact n) ?_;refine u7 ?_;exact y5 (r,k,f,l,o,t) ⟨p,h1,h2,h3,h4⟩ rfl i_
  have Z:¬x.c.kind=13:=zq x0.symm;refine C6 ?_;refine f_ ((p8 rfl rfl).eq (v':=.bool v3) (qn ((qz).trans x1.symm))) ?_;refine p_ ?_
  cases v3
  case true=>
   have k9:x.c.kind=15:=qr x1.symm;refine p_ ?_;refine A8 (Ev g x s sl d y hx.ok qb qb) u ?_;rintro v A t p ⟨rfl,q7,m,z,a,c,hn,q4,w9,rfl⟩;refine u7 ?_;exact y5 (x.r,s,sl,[(BK q7 m,z)],(a,c),t) ⟨p,by unfold L6;rw[zk e7,zk M,zk Y,zk X,zk Z,zu k9];exact⟨rfl,rfl,q7,m,rfl⟩,(fun q U=>by rw[zg.1 U];exact .inl ⟨q4,w9⟩),Mn.le p.heap D,by simp⟩ rfl (fun w n=>by rw[q0];exact n)
  have k9:¬x.c.kind=15:=zq x1.symm;refine C6 ?_;refine f_ ((p8 rfl rfl).eq (v':=.bool v4) (qn ((qz).trans x2.symm))) ?_;refine p_ ?_
  cases v4
  case true=>
   have q6:x.c.kind=16:=qr x2.symm;refine p_ ?_;refine A8 (zM g x s sl d y hx.ok hz qb y2 (by have:=hx.ok.c.a5M;omega) qb) ⟨u,D⟩ ?_;intro v A t p U;obtain⟨r,k,f,l,o,rfl,⟨h1,h2,h3,h4⟩,V⟩:=x9 _ t v A (fun r k l h=>by unfold L6;rw[zk e7,zk M,zk Y,zk X,zk Z,zk k9,zu q6];exact⟨h,by have:=h.1;omega⟩) U p;refine I7 (H':=C2 g {x with r:=r,z:=L0}::l5 f.ra k.a5J.a5I f.rc::E7 x.b k f d (C1 y l o.1 o.2)::r8 o.1 (y.rl++l) o.2::(Y_ l++R)) (fun w n=>by rw[<-V];exact n) ?_;refine u7 ?_;exact y5 (r,k,f,l,o,t) ⟨p,h1,h2,h3,h4⟩ rfl i_
  have q6:¬x.c.kind=16:=zq x2.symm;refine C6 ?_;refine f_ ((p8 rfl rfl).eq (v':=.bool v5) (qn ((qz).trans x3.symm))) ?_;refine p_ ?_
  cases v5
  case true=>
   have y1:x.c.kind=17:=qr x3.symm;refine p_ ?_;refine A8 (Ex g x s sl d y hx.ok hz qb y2 hx.uo.1 hx.mo qb) ⟨u,D⟩ ?_;intro v A t p U;obtain⟨r,k,f,l,o,rfl,⟨h1,h2,h3,h4⟩,V⟩:=x9 _ t v A (fun r k l h=>by unfold L6;rw[zk e7,zk M,zk Y,zk X,zk Z,zk k9,zk q6,zu y1];exact⟨h,by have:=h.1;omega⟩) U p;refine I7 (H':=C2 g {x with r:=r,z:=L0}::l5 f.ra k.a5J.a5I f.rc::E7 x.b k f d (C1 y l o.1 o.2)::r8 o.1 (y.rl++l) o.2::(Y_ l++R)) (fun w n=>by rw[<-V];exact n) ?_;refine u7 ?_;exact y5 (r,k,f,l,o,t) ⟨p,h1,h2,h3,h4⟩ rfl i_
  have y1:¬x.c.kind=17:=zq x3.symm;refine u7 ?_;exact y5 (x.r,s,sl,[],(y.da,y.dc),F) ⟨l6.le_refl _,by unfold L6;rw[zk e7,zk M,zk Y,zk X,zk Z,zk k9,zk q6,zk y1];exact qm,qy,D,zw _⟩ rfl h0
 rintro r k f l o t ⟨p,h1,h2,h3,h4⟩;refine H3 (A:=C2 g {x with r:=r,z:=L0}::l5 f.ra k.a5J.a5I f.rc::(O4 x.b k f d (C1 y l o.1 o.2)++Y_ l)) (v:=.tuple #[]) p ⟨rfl,r,k,f,l,o.1,o.2,h1,h2,h3,h4,rfl⟩ ?_;exact m6 rfl _ qh i_
abbrev gZ:Bs:=[116,104,101,32,115,101,115,115,105,111,110,32,105,115,32,103,111,110,101]
abbrev bn:Bs:=[116,104,101,32,109,97,105,108,98,111,120,32,105,115,32,103,111,110,101]
abbrev uM(x:AN):Bool:=decide (x.c.kind=8)||decide (x.c.kind=9)
abbrev ib(x:AN):Bool:=decide (x.c.kind=16)||decide (x.c.kind=17)||decide (x.c.kind=15)
abbrev xK(x:AN)(s:SE):SE:=if(uM x||decide (x.c.kind=4))=true then{s with a5K:=1,a5J:=Aq,ro:=false} else s
abbrev xL(x:AN):AN:={x with r:=bT x.c.tag,z:=L0}
def fk(x:AN)(s s':SE)(d':DD):Prop:=
 if x.o.code=16 then s'={s with a5K:=3}/\d'={F8 with a5T:=[G2 gZ],close:=true}
 else if x.c.kind=3 then s'={s with a5K:=3}/\d'={F8 with a5T:=[G2 bg,bT x.c.tag],close:=true}
 else∃r s1 l1 s2 l2,(if x.o.code=0 then L6 (xL x) (xK x s) r s1 l1 else s1=xK x s/\l1=[]/\r=kP x.c.tag (mF x.c.kind x.o.code).1 (mF x.c.kind x.o.code).2)
  /\(if s1.a5K=2/\uM x=false/\x.bx.val≠0 then s2={s1 with a5J:=(U7 s1.a5J x.bx.x (!ib x) s1.cond).1}/\l2=(U7 s1.a5J x.bx.x (!ib x) s1.cond).2 else s2=s1/\l2=[])
  /\(if s1.a5K=2/\uM x=false/\x.bx.val=0 then s'={s2 with a5K:=3}/\d'={F8 with a5T:=l1++l2++[r,G2 bn],close:=true} else s'=s2/\d'={F8 with a5T:=l1++l2++[r]})
def a1M(g:Nat)(x:AN)(s:SE)(h:l_)(v:Value)(A:List As):Prop:=v=.tuple #[]/\∃x' s' d' sl' y',x'.b=x.b/\fk x s s' d'/\d'.a5T=y'.rl.map Prod.fst/\(∀m∈y'.rl,kH m h)/\U2 s' sl' h/\y'.ql=db/\y'.wa=none/\y'.wc=0/\A=C2 g x'::l5 sl'.ra s'.a5J.a5I sl'.rc::(O4 x'.b s' sl' d' y'++Y_ y'.rl)
theorem sL{x:AN}{s c:SE}{r:RR}{l:List RR}(h:L6 x s r c l)(f:V_ x.m.s)(a:s.a5J.a5I.length<=50000):c.a5J.a5I.length<=50000:=by
 have d:∀e,qf x s e r c l->c.a5J.a5I.length<=50000:=fun e h=>by
  obtain⟨_,⟨g,rfl,i⟩,_⟩:=h;have:=i.len;show g.a5I.length<=_;omega
 unfold L6 at h;split at h
 ·rw[h.1];exact a
 split at h
 ·rw[h.1];exact a
 split at h
 ·rcases h with⟨_,rfl,_⟩|⟨b,j,rfl,_⟩
  ·exact a
  ·have:=(f.box b (bU j)).lts;show(P4 b).a5I.length<=_;simp only[P4,zr];omega
 split at h
 ·rw[h.1];exact a
 split at h
 ·rw[h.1];exact a
 split at h
 ·rw[h.1];exact a
 split at h
 ·exact d _ h
 split at h
 ·exact d _ h
 ·rw[h.1];exact a
theorem Ql{x:AN}{s a:SE}{r:RR}{l:List RR}(h:L6 x s r a l)(hp:x.r.values=[]/\x.r.nums=[]/\x.r.a5U=[]):r.values=[]/\r.nums=[]/\r.a5U=[]:=by
 have d:∀e,qf x s e r a l->r.values=[]/\r.nums=[]/\r.a5U=[]:=fun e h=>by
  obtain⟨_,_,h,_⟩:=h;rcases h with⟨c,rfl⟩|rfl
  ·exact hp
  ·exact qm
 unfold L6 at h;split at h
 ·rw[h.2.1];exact hp
 split at h
 ·rw[h.2.1];exact hp
 split at h
 ·rcases h with⟨_,_,rfl,_⟩|⟨b,f,_,rfl,_⟩
  ·exact qm
  ·exact hp
 split at h
 ·rw[h.2.1];exact hp
 split at h
 ·rcases h.2 with⟨rfl,_⟩|⟨rfl,_⟩
  ·exact qm
  ·exact hp
 split at h
 ·rw[h.2.1];exact hp
 split at h
 ·exact d _ h
 split at h
 ·exact d _ h
 ·rw[h.2.1];exact hp
theorem kI(b:BX):∀(k:Nat) (a:List (Nat×Nat)),(V7 b k a).1.length<=a.length/\(V7 b k a).2.length<=k
 |0,a=>⟨z1 _,z1 _⟩
 |k+1,a=>by
  unfold V7;split
  ·have:=kI b k a;exact⟨this.1,by omega⟩
  ·have:=kI b k (a.eraseIdx k);have c:(a.eraseIdx k).length<=a.length:=List.length_eraseIdx_le ..;exact⟨by simp only;omega,by simp only[zy];omega⟩
theorem sM(v:VW)(b:BX)(e c:Bool):(U7 v b e c).2.length<=2*v.a5I.length+1:=by
 unfold U7;split
 ·exact zw _
 ·have h:=kI b v.a5I.length v.a5I;simp only;generalize hq:(if e=true then V7 b v.a5I.length v.a5I else(v.a5I,[]))=q;have a:q.1.length<=v.a5I.length/\q.2.length<=v.a5I.length:=by
   rw[<-hq];split
   ·exact h
   ·exact⟨z1 _,zw _⟩
  have d:∀(f:((Nat×Nat)×Option LT)×Nat->Option RR),((q.1.map (X9 b)).zipIdx.filterMap f).length<=v.a5I.length:=fun f=>by
   refine ju (List.length_filterMap_le _ _) ?_;simp;exact a.1
  rw[zz,zz];have g:=d (fun h=>h.1.2.map fun x=>tA x (h.2+1) c);split<;>simp only[zn,zy]<;>omega
theorem Qo(g:Nat)(x:AN)(s:SE)(sl:SL)(hx:No x s)(hf:∀lm∈x.bx.ls,lm.t.a5U.length<=16):
  Cm prog 78 [l9 g] (fun h=>cM x h/\U2 s sl h) (C2 g x::l5 sl.ra s.a5J.a5I sl.rc::O4 x.b s sl F8 M_) (a1M g x s):=by
 obtain⟨v4,q3⟩:=o7 (decide (x.o.code=16));obtain⟨c0,u2⟩:=o7 (decide (x.o.code=0));obtain⟨b3,h3⟩:=o7 (decide (x.c.kind=3));obtain⟨b8,h8⟩:=o7 (decide (x.c.kind=8));obtain⟨b9,h9⟩:=o7 (decide (x.c.kind=9));obtain⟨b4,h4⟩:=o7 (decide (x.c.kind=4));obtain⟨v5,v6⟩:=o7 (decide (x.c.kind=15));obtain⟨v7,v8⟩:=o7 (decide (x.c.kind=16));obtain⟨v9,w0⟩:=o7 (decide (x.c.kind=17));obtain⟨th,q4⟩:=o7 (decide (x.bx.val=0));refine y4 213 func78 rfl rfl rfl ?_;rintro F R ⟨S,h0⟩;refine H9 6 ?_;refine n7 (ι:=Unit) (fun _=>x.o.code≠16/\x.c.kind≠3) (fun _=>[(0,l9 g),(2,.int .i64 (x.c.kind:Nat))]) (fun _=>C2 g x::l5 sl.ra s.a5J.a5I sl.rc::E7 x.b s sl F8 M_::r8 none [] 0::R) ?_ ?_
 ·refine n8 ?_;refine au ?_;refine f_ ((p8 rfl rfl).eq (v':=.bool v4) (qn q3.symm)) ?_;refine p_ ?_
  cases v4
  case true=>
   have k8:x.o.code=16:=qr q3.symm;refine O2 ?_;refine c_ (tI x.b s sl F8 M_ gZ qp) qw ?_;rintro v A ⟨rfl,a,c,rfl⟩;refine ov ?_;refine H3 (A:=C2 g x::l5 sl.ra s.a5J.a5I sl.rc::(O4 x.b {s with a5K:=3} sl {F8 with a5T:=[G2 gZ],close:=true} (E9 M_ (G2 gZ,L0) a c)++Y_ [(G2 gZ,L0)])) (v:=.tuple #[]) (l6.le_refl _) ⟨rfl,x,{s with a5K:=3},{F8 with a5T:=[G2 gZ],close:=true},sl,E9 M_ (G2 gZ,L0) a c,rfl,by unfold fk;rw[zu k8];exact qh,rfl,(fun m j=>by rw[zg.1 (show m∈[(G2 gZ,L0)] from j)];exact .inl ⟨⟨rfl,o0.nil _ _,o0.nil _ _,o0.nil _ _,qy⟩,rfl,rfl⟩),⟨h0.a5L,h0.cmd⟩,rfl,rfl,rfl,rfl⟩ ?_;exact m6 rfl _ qh (fun w C=>C5 (A:=[_,_,E7 x.b {s with a5K:=3} sl {F8 with close:=true} (E9 M_ (G2 gZ,L0) a c),r8 a [(G2 gZ,L0)] c]) (J:=[]) tk C)
  have k8:¬x.o.code=16:=zq q3.symm;refine p_ ?_;refine f_ ((p8 rfl rfl).eq (v':=.bool b3) (qn ((qz).trans h3.symm))) ?_;refine p_ ?_
  cases b3
  case true=>
   have e3:x.c.kind=3:=qr h3.symm;refine u7 ?_;refine D8 [3,8] [9] [C2 g x] 10 ?_;refine wd [0,1,2,3,4,5,6,7,8] ?_;refine h_ 9 rfl i6 ?_;refine c_ (oI x.b s sl F8 M_ x.c.tag qp) qw ?_;rintro v A ⟨rfl,a,c,rfl⟩;refine E6 [] ?_;refine A2 ?_;refine H3 (A:=C2 g x::l5 sl.ra s.a5J.a5I sl.rc::(O4 x.b {s with a5K:=3} sl {F8 with a5T:=[G2 bg,bT x.c.tag],close:=true} {M_ with da:=a,dc:=c,rl:=[(G2 bg,L0),(bT x.c.tag,L0)]}++Y_ [(G2 bg,L0),(bT x.c.tag,L0)])) (v:=.tuple #[]) (l6.le_refl _) ⟨rfl,x,{s with a5K:=3},{F8 with a5T:=[G2 bg,bT x.c.tag],close:=true},sl,{M_ with da:=a,dc:=c,rl:=[(G2 bg,L0),(bT x.c.tag,L0)]},rfl,by unfold fk;rw[zk k8,zu e3];exact qh,rfl,(fun m j=>by simp at j;rcases j with rfl|rfl<;>exact .inl ⟨⟨rfl,o0.nil _ _,o0.nil _ _,o0.nil _ _,qy⟩,rfl,rfl⟩),⟨h0.a5L,h0.cmd⟩,rfl,rfl,rfl,rfl⟩ ?_;exact m6 rfl _ qh (fun w C=>C5 (A:=[_,_,E7 x.b {s with a5K:=3} sl {F8 with close:=true} {M_ with da:=a,dc:=c,rl:=[(G2 bg,L0),(bT x.c.tag,L0)]},r8 a [(G2 bg,L0),(bT x.c.tag,L0)] c]) (J:=[]) tk C)
  have e3:¬x.c.kind=3:=zq h3.symm;refine u7 ?_;exact g_ () ⟨k8,e3⟩ i_
 rintro _ ⟨k8,e3⟩;obtain⟨q,hq⟩:=o7 ((b8||b9));have D:uM x=q:=by rw[hq,h8,h9]
 refine u7 ?_;refine H9 0 ?_;refine w6 [(0,l9 g),(2,.int .i64 (x.c.kind:Nat)),(3,.bool q)] (C2 g x::l5 sl.ra s.a5J.a5I sl.rc::E7 x.b s sl F8 M_::r8 none [] 0::R) ?_ ?_
 ·cases b8
  all_goals (
   refine p_ ?_;refine f_ ((p8 rfl rfl).eq (qn ((qz).trans h8.symm))) ?_;refine y9 ?_;(first|refine u_ ?_|(refine v_ ?_;refine f_ ((p8 rfl rfl).eq (v':=.bool b9) (qn ((qz).trans h9.symm))) ?_));refine y9 ?_)
  all_goals (subst hq;exact o_ sub i_)
 obtain⟨q2,k9⟩:=o7 ((q||b4));have T:xK x s=if q2=true then{s with a5K:=1,a5J:=Aq,ro:=false} else s:=by unfold xK;rw[D,k9,h4]
 refine u7 ?_;refine H9 0 ?_;refine w6 [(0,l9 g),(2,.int .i64 (x.c.kind:Nat)),(3,.bool q),(48,.bool q2)] (C2 g x::l5 sl.ra s.a5J.a5I sl.rc::E7 x.b s sl F8 M_::r8 none [] 0::R) ?_ ?_
 ·clear D T hq
  cases q
  all_goals (
   refine E5 ?_;(first|refine u_ ?_|(refine v_ ?_;refine f_ ((p8 rfl rfl).eq (v':=.bool b4) (qn ((qz).trans h4.symm))) ?_));refine p_ ?_)
  all_goals (subst k9;exact o_ sub i_)
 refine u7 ?_;refine n7 (ι:=SE×SL) (fun p=>p.1=xK x s/\U2 p.1 p.2 F.heap) (fun _=>[(0,l9 g),(2,.int .i64 (x.c.kind:Nat)),(3,.bool q)]) (fun p=>C2 g x::l5 p.2.ra p.1.a5J.a5I p.2.rc::E7 x.b p.1 p.2 F8 M_::r8 none [] 0::R) ?_ ?_
 ·refine o8 rfl ?_ ?_<;>intro h
  ·refine u7 ?_;refine D8 [3,7,11] [16,20,24] [C2 g x] 25 ?_;refine wd [0,1,2,3,4,5,6,7,8,9,10,11,12,13,14,15,16,17,18,19,20,21,22,23,24] ?_;exact g_ ({s with a5K:=1,a5J:=Aq,ro:=false},{sl with ra:=none,rc:=0}) ⟨by rw[T,zu h],⟨h0.a5L,h0.cmd⟩⟩ (fun w C=>C5 (A:=[_,l5 none [] 0,E7 x.b {s with a5K:=1,a5J:=Aq,ro:=false} {sl with ra:=none,rc:=0} F8 M_,_]) (J:=[l5 sl.ra s.a5J.a5I sl.rc]) tk (C.addNil 72 2))
  ·refine u7 ?_;exact g_ (s,sl) ⟨by rw[T,h];rfl,h0⟩ i_
 rintro⟨s0,q5⟩ ⟨u8,q6⟩;simp only at u8 q6;have v0:s0.a5J.a5I.length<=50000:=by rw[u8,T];split;exact zw _;exact hx.a5I
 obtain⟨O,n⟩:=o7 (xL x);have y2:No O s0:=by rw[n];exact⟨⟨hx.ok.ls,hx.ok.fl,hx.ok.bl,hx.ok.body,hx.ok.c⟩,hx.ml,v0,hx.us,hx.uo,hx.mo,hx.val⟩
 have w1:cM O F.heap:=by rw[n];exact⟨S.g,S.c,S.m,S.o,S.bx,S.us,S.bl⟩
 have a1:O.z=L0:=by rw[n]
 have a2:O.b=x.b:=by rw[n]
 have a6:O.c=x.c:=by rw[n]
 have z0:O.o=x.o:=by rw[n]
 refine wk 10 ?_;refine D5 (H':=C2 g O::l5 q5.ra s0.a5J.a5I q5.rc::E7 O.b s0 q5 F8 M_::r8 none [] 0::R) (fun w C=>by rw[n];exact C5 (A:=[_,_,_,_]) (J:=[]) tk C) ?_;refine au ?_;refine f_ ((p8 rfl rfl).eq (v':=.bool c0) (qn (by rw[z0];exact u2.symm))) ?_;refine u7 ?_;refine dr (fun(r:RR) (s1:SE) (d:SL) (l:List RM) (o:AC) (F1:l6)=>F.le F1/\(if x.o.code=0 then L6 O s0 r s1 (l.map Prod.fst) else s1=s0/\l.map Prod.fst=[]/\r=kP x.c.tag (mF x.c.kind x.o.code).1 (mF x.c.kind x.o.code).2)/\(∀m∈l,kH m F1.heap)/\U2 s1 d F1.heap/\l.length<=200000) (fun _ _ _ _ _ _=>[(0,l9 g),(2,.int .i64 (x.c.kind:Nat)),(3,.bool q)]) (fun _ _ _ _ _ F1=>F1) (fun r s1 d l o _=>C2 g {O with r:=r,z:=L0}::l5 d.ra s1.a5J.a5I d.rc::E7 O.b s1 d F8 (C1 M_ l o.1 o.2)::r8 o.1 l o.2::(Y_ l++R)) ?_ ?_
 ·refine o8 rfl ?_ ?_<;>intro h
  ·have e0:x.o.code=0:=qr (u2.symm.trans h);refine p_ ?_;refine A8 (Nq g O s0 q5 F8 M_ y2 a1 qp) ⟨w1,q6⟩ ?_;rintro v A F1 q7 ⟨rfl,r,s1,d,l,a,c,h1,h2,h3,h4,rfl⟩;refine u7 ?_;exact y5 (r,s1,d,l,(a,c),F1) ⟨q7,by rw[zu e0];exact h1,h2,h3,h4⟩ rfl i_
  ·have e0:¬x.o.code=0:=zq (u2.symm.trans h);refine wk 7 ?_;refine e_ rfl (zH x.c.kind O.o.code) qw rfl ?_;refine y9 ?_;refine c_ (ep g O (mF x.c.kind O.o.code).1 (mF x.c.kind O.o.code).2) qw ?_;rintro v A ⟨rfl,rfl⟩;refine u7 ?_;exact y5 (kP O.c.tag (mF x.c.kind O.o.code).1 (mF x.c.kind O.o.code).2,s0,q5,[],(none,0),F) ⟨l6.le_refl _,by rw[zk e0,a6,z0];exact qm,qy,q6,zw _⟩ rfl (fun w C=>C5 (A:=[_,_,_,_]) (J:=[]) tk C)
 rintro r s1 d l o F1 ⟨q7,M,a7,q8,b7⟩;have b2:s1.a5J.a5I.length<=50000:=by
  by_cases e0:x.o.code=0
  ·rw[zu e0] at M;exact sL M y2.ml v0
  ·rw[zk e0] at M;rw[M.1];exact v0
 have w2:cM x F1.heap:=Mn.le q7.heap S;obtain⟨i,q9⟩:∃i:AN,i={O with r:=r,z:=L0}:=⟨_,rfl⟩;have U:i.bx=x.bx:=by rw[q9,n]
 have a8:i.r=r:=by rw[q9]
 have b0:i.z=L0:=by rw[q9]
 have v1:i.b=x.b:=by rw[q9,n]
 obtain⟨st,q0⟩:=o7 (decide (s1.a5K=2));rw[<-q9];refine u7 ?_;refine D5 (H':=C2 g i::l5 d.ra s1.a5J.a5I d.rc::E7 i.b s1 d F8 (C1 M_ l o.1 o.2)::r8 o.1 l o.2::(Y_ l++R)) (fun w C=>by rw[v1,<-a2];exact C) ?_;refine au ?_;refine f_ ((M1 rfl rfl).eq (v':=.bool (!th)) (jk (fun b=>Value.bool (!b)) ((zp.2 (by rw[U];omega)).trans q4.symm))) ?_;refine p_ ?_;refine H9 0 ?_;refine w6 [(0,l9 g),(2,.int .i64 (x.c.kind:Nat)),(3,.bool q),(4,.bool (!th)),(120,.bool (st&&!q&&!th))] (C2 g i::l5 d.ra s1.a5J.a5I d.rc::E7 i.b s1 d F8 (C1 M_ l o.1 o.2)::r8 o.1 l o.2::(Y_ l++R)) ?_ ?_
 ·clear D T hq k9
  cases st<;>cases q
  all_goals (
   refine wk 8 ?_;refine f_ ((p8 rfl rfl).eq (qn ((qz).trans q0.symm))) ?_;refine wk 7 ?_)
  all_goals exact o_ sub i_
 refine u7 ?_;refine dr (fun(k:SE) (f:SL) (y:List RM) (t:AC) (_:Unit) (F2:l6)=>F1.le F2/\(if s1.a5K=2/\uM x=false/\x.bx.val≠0 then k={s1 with a5J:=(U7 s1.a5J x.bx.x (!ib x) s1.cond).1}/\y.map Prod.fst=(U7 s1.a5J x.bx.x (!ib x) s1.cond).2 else k=s1/\y.map Prod.fst=[])/\(∀m∈y,fC m.1 m.2 F2.heap/\yM m.2)/\U2 k f F2.heap/\y.length<=200000) (fun _ _ _ _ _ _=>[(0,l9 g),(2,.int .i64 (x.c.kind:Nat)),(3,.bool q),(4,.bool (!th))]) (fun _ _ _ _ _ F2=>F2) (fun k f y t _ _=>C2 g i::l5 f.ra k.a5J.a5I f.rc::E7 i.b k f F8 (C1 M_ (l++y) t.1 t.2)::r8 t.1 (l++y) t.2::(Y_ l++R)) ?_ ?_
 ·refine o8 rfl ?_ ?_<;>intro h
  ·have h':st=true/\q=false/\th=false:=by
    clear D T hq k9
    cases st<;>cases q<;>cases th<;>simp_all
   have x0:s1.a5K=2/\uM x=false/\x.bx.val≠0:=⟨qr (q0.symm.trans h'.1),D.trans h'.2.1,zq (q4.symm.trans h'.2.2)⟩;obtain⟨rd,z2⟩:=o7 ((v7||v9||v5));have x3:ib x=rd:=(by rw[z2,v8,w0,v6]);refine H9 0 ?_;refine w6 [(0,l9 g),(2,.int .i64 (x.c.kind:Nat)),(3,.bool q),(4,.bool (!th)),(5,.bool rd)] (C2 g i::l5 d.ra s1.a5J.a5I d.rc::E7 i.b s1 d F8 (C1 M_ l o.1 o.2)::r8 o.1 l o.2::(Y_ l++R)) ?_ ?_
   ·clear x3
    cases v7<;>cases v9
    all_goals (
     refine p_ ?_;refine f_ ((p8 rfl rfl).eq (qn ((qz).trans v8.symm))) ?_;refine y9 ?_;(first|refine u_ ?_|(refine v_ ?_;refine f_ ((p8 rfl rfl).eq (qn ((qz).trans w0.symm))) ?_));refine E5 ?_;(first|refine u_ ?_|(refine v_ ?_;refine f_ ((p8 rfl rfl).eq (v':=.bool v5) (qn ((qz).trans v6.symm))) ?_));refine y9 ?_)
    all_goals (subst z2;exact o_ sub i_)
   refine u7 ?_;refine B8 (Z:=[l5 d.ra s1.a5J.a5I d.rc]) tk fun F2 V ⟨bs,hb⟩=>?_;have u0:o0 F2.heap d.ra (V5 s1.a5J.a5I):=A3.rd hb ud;clear hb;have w3:fH i.bx F2.heap:=(by rw[U];exact Mn.le V.heap w2.bx);have X:=Mo s1.a5J d.ra d.rc i.bx (!rd) s1.cond qb (by rw[U];have:=hx.ok.ls;omega) (by rw[U];exact hf);obtain⟨e,he⟩:=o7 (U7 s1.a5J i.bx.x (!rd) s1.cond);have v2:=sM s1.a5J i.bx.x (!rd) s1.cond;rw[<-he] at X v2;refine H9 0 ?_;refine dr (fun(p:AC) (Q:List RM) (t:AC) (g6:Nat) (_:Unit) (F3:l6)=>F2.le F3/\Q.map Prod.fst=e.2/\∀m∈Q,fC m.1 m.2 F3.heap/\yM m.2) (fun _ Q t g6 _ _=>[(0,l9 g),(2,.int .i64 (x.c.kind:Nat)),(3,.bool q),(4,.bool (!th)),(6,l9 g6),(7,.slice t.1 Q.length t.2)]) (fun _ _ _ _ _ F3=>F3) (fun p Q t g6 _ _=>wt g6 e.1 p::l5 p.1 e.1.a5I p.2::r8 t.1 Q t.2::C2 g i::E7 i.b s1 d F8 (C1 M_ l o.1 o.2)::r8 o.1 l o.2::(Y_ l++R)) ?_ ?_
   ·refine u7 ?_;refine D8 [3,7,11,17,21] [22,26,27] [C2 g i,E7 i.b s1 d F8 (C1 M_ l o.1 o.2)] 29 ?_;refine wd [0,1,2,3,4,5,6,7,8,9,10,11,12,13,14,15,16,17,18,19,20,21] ?_;refine bv 22 26 rfl rfl i6 ?_ ?_;refine R7 X ⟨u0,w3⟩ ?_;rintro v A Z Fz hz ⟨p,Q,t,rfl,rfl,x9,Y⟩;refine E6 [23,24,25] ?_;refine h_ 26 rfl i6 ?_;refine i7 rfl ?_;intro g6;refine E6 [27,28] ?_
    rotate_left 1
    refine i7 rfl ?_;intro g6;refine ah ?_;refine h_ 22 rfl i6 ?_;refine R7 X ⟨u0,w3⟩ ?_;rintro v A Z Fz hz ⟨p,Q,t,rfl,rfl,x9,Y⟩;refine E6 [23,24,25,27,28] ?_
    rotate_left 1
    all_goals (refine u7 ?_)
    all_goals exact ew (Rr:=wt g6 e.1 p::l5 p.1 e.1.a5I p.2::r8 t.1 Q t.2::C2 g i::E7 i.b s1 d F8 (C1 M_ l o.1 o.2)::r8 o.1 l o.2::(Y_ l++R)) Fz hz (fun w C=>C5 (A:=[_,_,_,_,_,_]) (J:=[]) tk C) fun F3 y0 b1=>y5 (p,Q,t,g6,(),F3) ⟨y0,x9,fun m j=>⟨(Y m j).1.le b1,(Y m j).2⟩⟩ rfl i_
   rintro p Q t g6 _ F3 ⟨y0,x9,Y⟩;have b5:Q.length<=2*s1.a5J.a5I.length+1:=(by rw[<-x9,zr] at v2;exact v2);refine u7 ?_;refine D8 [3,4] [8] [C2 g i,wt g6 e.1 p] 9 ?_;refine wd [0,1,2,3,4,5,6,7,8] ?_;refine u7 ?_;refine D8 [3,7,11] [13,17] [C2 g i,E7 i.b {s1 with a5J:=e.1} {d with ra:=p.1,rc:=p.2} F8 (C1 M_ l o.1 o.2)] 18 ?_;refine wd [0,1,2,3,4,5,6,7,8,9,10,11,12] ?_;refine h_ 13 rfl i6 ?_;refine u6 qW (l:=l) (m:=Q) N_ jF (by show(l.length+Q.length)*160<=_;omega) ?_;intro a c _;refine gj [14,15,16,17] ?_;exact y5 ({s1 with a5J:=e.1},{d with ra:=p.1,rc:=p.2},Q,(a,c),(),F3) ⟨V.trans y0,by rw[zu x0,x3,<-U,<-he];exact⟨rfl,x9⟩,Y,⟨(Mn.le (V.trans y0).heap q8).a5L,(Mn.le (V.trans y0).heap q8).cmd⟩,by simp only;omega⟩ rfl (fun w C=>C5 (A:=[_,_,_,_]) (J:=[_,_]) tk C)
  ·refine u7 ?_;have h5:¬(s1.a5K=2/\uM x=false/\x.bx.val≠0):=fun⟨e1,e2,e3⟩=>by
    rw[show st=true from q0.trans (kr e1),show q=false from D.symm.trans e2,show th=false from q4.trans (jc e3)] at h
    cases h
   exact y5 (s1,d,[],o,(),F1) ⟨l6.le_refl _,by rw[zk h5];exact qh,qy,q8,zw _⟩ rfl (fun w C=>by
    rw[z7];exact C)
 rintro k f y t _ F2 ⟨V,X,Y,y1,b6⟩;have w4:k.a5K=s1.a5K:=by
  split at X
  ·rw[X.1]
  ·rw[X.1]
 have h7:r.values=[]/\r.nums=[]/\r.a5U=[]:=by
  by_cases e0:x.o.code=0
  ·rw[zu e0] at M;exact Ql M (by rw[n];exact qm)
  ·rw[zk e0] at M;rw[M.2.2];exact qm
 have w5:∀h,fC r L0 h:=fun h=>⟨h7.1,by rw[h7.2.1];exact o0.nil _ _,by rw[h7.2.2];exact o0.nil _ _,o0.nil _ _,qy⟩;have w7:Y_ (l++y)=Y_ l:=by rw[nH,nG Y,z7]
 have u1:Y_ (l++y++[(r,L0)])=Y_ l:=by rw[nH,w7];unfold Y_;simp[h7.2.2]
 have w9:Y_ (l++y++[(r,L0)]++[(G2 bn,L0)])=Y_ l:=by rw[nH,u1];unfold Y_;simp
 have a0:∀m∈l++y++[(r,L0)],kH m F2.heap:=fun m j=>by
  rcases zb.1 j with j|j
  ·rcases zb.1 j with j|j
   ·exact(a7 m j).le V.heap
   ·exact .inl (Y m j)
  ·rw[zg.1 j];exact .inl ⟨w5 _,rfl,rfl⟩
 have k0:∀(s':SE) (d':DD),(if s1.a5K=2/\uM x=false/\x.bx.val=0 then s'={k with a5K:=3}/\d'={F8 with a5T:=l.map Prod.fst++y.map Prod.fst++[r,G2 bn],close:=true} else s'=k/\d'={F8 with a5T:=l.map Prod.fst++y.map Prod.fst++[r]})->fk x s s' d':=fun s' d' h=>by
  unfold fk;rw[zk k8,zk e3];refine⟨r,s1,l.map Prod.fst,k,y.map Prod.fst,?_,X,h⟩;rw[n,u8] at M;exact M
 refine u7 ?_;refine D8 [3,7] [8] [C2 g i] 9 ?_;refine wd [0,1,2,3,4,5,6,7] ?_;refine h_ 8 rfl i6 ?_;refine c_ (V2 i.b k f F8 (C1 M_ (l++y) t.1 t.2) i.r i.z (by simp only[zz,zn];omega)) qw ?_;rintro v A ⟨rfl,a3,c3,rfl⟩;refine E6 [] ?_;rw[a8,b0];obtain⟨u,v3⟩:=o7 (E9 (C1 M_ (l++y) t.1 t.2) (r,L0) a3 c3);rw[<-v3];have h6:u.rl=l++y++[(r,L0)]:=by rw[v3];rfl
 have q1:u.ql=db/\u.wa=none/\u.wc=0:=by rw[v3];exact qm
 refine H9 0 ?_;refine w6 [(0,l9 g),(207,.bool (st&&!q&&th))] (C2 g i::l5 f.ra k.a5J.a5I f.rc::E7 i.b k f F8 u::r8 u.da u.rl u.dc::(Y_ l++R)) ?_ ?_
 ·clear D T hq k9 k0;refine D5 (H':=C2 g i::l5 f.ra k.a5J.a5I f.rc::E7 i.b k f F8 u::r8 u.da u.rl u.dc::(Y_ l++R)) (fun w C=>C5 (A:=[_,_,_,_]) (J:=[]) tk C) ?_
  cases st<;>cases q<;>cases th
  all_goals (
   refine wk 8 ?_;refine f_ ((p8 rfl rfl).eq (qn ((zp.2 (by rw[w4];omega)).trans q0.symm))) ?_;refine wk 8 ?_)
  all_goals exact o_ sub i_
 refine N8 ?_ ?_<;>intro h
 ·have x0:s1.a5K=2/\uM x=false/\x.bx.val=0:=by
   have h':st=true/\q=false/\th=true:=by
    clear D T hq k9 k0
    cases st<;>cases q<;>cases th<;>simp_all
   exact⟨qr (q0.symm.trans h'.1),D.trans h'.2.1,qr (q4.symm.trans h'.2.2)⟩
  refine O2 ?_;refine c_ (tI i.b k f F8 u bn (by rw[h6];simp only[zz,zy,zn];omega)) qw ?_;rintro v A ⟨rfl,a4,c4,rfl⟩;refine u7 ?_;refine H3 (A:=C2 g i::l5 f.ra k.a5J.a5I f.rc::(O4 i.b {k with a5K:=3} f {F8 with a5T:=l.map Prod.fst++y.map Prod.fst++[r,G2 bn],close:=true} (E9 u (G2 bn,L0) a4 c4)++Y_ l)) (v:=.tuple #[]) (q7.trans V) ⟨rfl,i,{k with a5K:=3},{F8 with a5T:=l.map Prod.fst++y.map Prod.fst++[r,G2 bn],close:=true},f,E9 u (G2 bn,L0) a4 c4,v1,k0 _ _ (by rw[zu x0];exact qh),by simp[h6],fun m j=>?_,⟨y1.a5L,y1.cmd⟩,q1.1,q1.2.1,q1.2.2,?_⟩ ?_
  ·rw[show(E9 u (G2 bn,L0) a4 c4).rl=u.rl++[(G2 bn,L0)] from rfl,h6] at j;rcases zb.1 j with j|j
   ·exact a0 m j
   ·rw[zg.1 j];exact .inl ⟨⟨rfl,o0.nil _ _,o0.nil _ _,o0.nil _ _,qy⟩,rfl,rfl⟩
  ·rw[show(E9 u (G2 bn,L0) a4 c4).rl=u.rl++[(G2 bn,L0)] from rfl,h6,w9]
  ·exact m6 rfl _ qh (fun w C=>C5 (A:=[_,_,E7 i.b {k with a5K:=3} f {F8 with close:=true} (E9 u (G2 bn,L0) a4 c4),r8 a4 (u.rl++[(G2 bn,L0)]) c4]) (J:=[]) tk C)
 ·refine u7 ?_;have h5:¬(s1.a5K=2/\uM x=false/\x.bx.val=0):=fun⟨e1,e2,e3⟩=>by
   rw[show st=true from q0.trans (kr e1),show q=false from D.symm.trans e2,show th=true from q4.trans (kr e3)] at h
   cases h
  refine H3 (A:=C2 g i::l5 f.ra k.a5J.a5I f.rc::(O4 i.b k f {F8 with a5T:=l.map Prod.fst++y.map Prod.fst++[r]} u++Y_ l)) (v:=.tuple #[]) (q7.trans V) ⟨rfl,i,k,{F8 with a5T:=l.map Prod.fst++y.map Prod.fst++[r]},f,u,v1,k0 _ _ (by rw[zk h5];exact qh),by simp[h6],fun m j=>a0 m (by rw[<-h6];exact j),y1,q1.1,q1.2.1,q1.2.2,by rw[h6,u1]⟩ ?_;exact m6 rfl _ qh i_
theorem IE(i:IT):Pu prog 157 [.agg (cZ i).toArray] (fun _=>True) (.bool (decide (10<=i.kind))):=by
 refine b_ 6 func157 rfl rfl rfl ?_;intro F _;refine C6 ?_;refine m9 rfl rfl ?_;intro b;refine E5 ?_;refine f_ ((I4 rfl rfl).eq (v':=.bool (decide (10<=i.kind))) (qn qz)) ?_;refine C8 ?_;exact d_ rfl rfl [] qh (fun w a=>a.dropAll)
abbrev IF(gO:Nat)(out:List Bs)(o:AC):As:=.blk gO (.cells #[.slice o.1 out.length o.2] 34)
theorem BT(g z e u:Nat)(x:AN)(f:FuncId)[HF prog f](ps:List Value)(hx:rm x)(k:∀d:LM,Ct prog f (ps++[Of d]) (fun _=>True) [C2 g x] (fun v A=>(∃q:Bool,v=.bool q)/\A=[C2 g x]))(a:List Bs)(o:AC)(S:a.length<=200000):
  Ct prog 153 [.int .u64 (u:Nat),.func (.func f) ps.toArray #[],l9 z,l9 e] (fun h=>cM x h/\h z=some (.cells #[l9 g] 147 (0,0))) [C2 g x,IF e a o,A4 o.1 a o.2] (fun v A=>v=.tuple #[]/\∃(b:List Bs) (o':AC),b.length<=a.length+1/\A=[C2 g x,IF e b o',A4 o'.1 b o'.2]):=by
 have C:=hx.ls;have D:=hx.bl;refine b_ 38 func153 rfl rfl rfl ?_;rintro F ⟨i,j⟩;refine C6 ?_;refine r_ (i8 rfl (fun w c=>I0 c j rfl)) ?_;refine p_ ?_;refine c_ (eV g x u qb) (fun h p _=>i.bx.ls.le p) ?_;rintro v A ⟨d,M,rfl,O,rfl⟩;refine E5 ?_;refine i7 rfl ?_;intro r;refine QW ?_;refine r_ (i8 rfl (fun w c=>I0 c j rfl)) ?_;refine y9 ?_;refine c_ (qa g x d.t.hash qb) (fun h p _=>i.bl.le p) ?_;rintro v A ⟨t,s,rfl,Q,rfl⟩;refine au ?_;refine n7 (ι:=Bool) (fun _=>True) (fun q=>[(3,l9 e),(6,l9 r),(32,.bool q)]) (fun _=>[.blk r (.cells (S8 d).toArray 156),C2 g x,IF e a o,A4 o.1 a o.2]) ?_ ?_
 ·cases M<;>cases s
  all_goals (
   refine wk 8 ?_;(first|refine u_ ?_|(refine v_ ?_;refine A0 (ps:=ps) _ rfl rfl x6 (k d) i_ qw rfl ?_;rintro v A ⟨⟨q,rfl⟩,rfl⟩));refine p_ ?_)
  all_goals exact g_ _ trivial (fun w c=>C5 (A:=[.blk r _,C2 g x,IF e a o,A4 o.1 a o.2]) (J:=[]) tk c)
 intro q _;refine N8 ?_ ?_<;>intro h
 ·refine E5 ?_;refine uk (n:=d.t.hash) ?_;intro a36;refine ul (l:=a) (m:=[d.t.hash]) (by show(a.length+1)*16<=_;omega) ?_;intro a37 y _;refine p_ ?_;exact m6 rfl _ ⟨rfl,a++[d.t.hash],(a37,y),by simp,rfl⟩ (fun w c=>C5 (A:=[_,_,_]) (J:=[_,_]) tk c)
 ·refine u7 ?_;exact m6 rfl _ ⟨rfl,a,o,by omega,rfl⟩ (fun w c=>C5 (A:=[_,_,_]) (J:=[_]) tk c)
theorem IG(l:List Bs)(a:Option Addr)(c:Nat)(hl:l.length<4611686018427387904):Ct prog 161 [.slice a l.length c] (fun _=>True) [A4 a l c] (fun v A=>v=.tuple #[]/\∃m:List Bs,m.Perm l/\A=[A4 a m c]):=by
 intro w bs t h6 h5;obtain⟨b1,b2,rfl,u,rfl⟩:=t;rcases u with⟨X,hx,rfl⟩|⟨g,rfl,⟨o,n,h7,pre,b,p,X,hg,Y,h8,z,h9,q⟩⟩
 ·injection X with f e2 e3;subst f e3;have Z:l=[]:=jy e2;subst Z;refine(Tryz.slices_Sort_string_none none 0 w).mono ?_;rintro e w' ⟨rfl,rfl⟩;refine⟨_,[A4 none [] 0],rfl,⟨rfl,[],.nil,rfl⟩,?_⟩;exact(Hp.start (C:=[]) (bs:=[]) rfl Zx).addNil _ _
 ·injection X with f e2 e3;subst f e2 e3;have i:w.heap[g]? =some (.cells (pre++fV l++b).toArray 9 p):=hg;have D:g<w.heap.size:=(kp.1 i).1;have k0:=L8 l;have hH:Sort.Holds (fun(x:Bs)=>B x) w g o l.toArray:=fun j hj=>by
   have h0:j<l.length:=(by simpa using hj);constructor
   ·simp only[World.cell?,i];simp only[Wm,Kw,if_false,Ku];rw[zh,jz qb,jg qb];simp[fV,<-Y,h0]
   ·simp only[World.frozen?,i];simp only[zz] at q;rw[J3];rcases q with h|h
    ·by_cases hh:p.1<=o+j
     ·exact .inr (by simp;omega)
     ·exact .inl (by simpa using hh)
    ·exact .inl (by simp;omega)
  have hc:=Tryz.slices_Sort_string g o c l w hH D hl;refine hc.mono ?_;rintro e w' ⟨rfl,n,J,rfl⟩;obtain⟨d,M⟩:∃d:Array Bs,d=(l.mergeSort fun x y=>decide (x<=y)).toArray:=⟨_,rfl⟩;have O:List.Perm d.toList l:=by rw[M];exact List.mergeSort_perm _ _
  have h1:d.toList.length=l.length:=O.length_eq;rw[<-M];show∃v A,_/\_/\Hp _ (sortWorld (fun(x:Bs)=>B x) w g o n d J) _;have hh:(sortWorld (fun(x:Bs)=>B x) w g o n d J).heap[g]? =some (.cells (pre++fV d.toList++b).toArray 9 p):=by
   show((Sort.mapBlock _ g _).heap++J)[g]? =_;unfold Sort.mapBlock;have f:(Sort.ahead w n).heap=w.heap:=rfl;rw[Zv (by rw[Jr,f];exact D),Q8,zu rfl,f,i];simp only[Qj,Sort.onCells];have:=tQ (pre:=pre) (post:=b) h1;rw[Y] at this;rw[<-this]
  have k8:=L8 d.toList;have Q:(fV d.toList).length=(fV l).length:=by omega
  have r:c*1<=(fV d.toList++b).length:=by
   rw[zz,Q,<-zz];exact z
  have S:p.2<=p.1\/(pre++fV d.toList++b).length<=p.1:=by
   rw[zz,zz,Q,<-zz,<-zz];exact q
  have s:l_.le (q_ w [g]).heap (hp (sortWorld (fun(x:Bs)=>B x) w g o n d J)):=fun k o' T=>by
   have h4:k≠g:=by
    rintro rfl;simp[q_,E4] at T
   have h2:w.heap[k]? =some o':=bV w _ k o' T;have h3:k<w.heap.size:=(kp.1 h2).1;show((Sort.mapBlock _ g _).heap++J)[k]? =_;unfold Sort.mapBlock;have f:(Sort.ahead w n).heap=w.heap:=rfl;rw[Zv (by rw[Jr,f];exact h3),Q8,zk (fun h=>h4 h.symm),f];exact h2
  have U:∀k∈[g],(q_ w [g]).heap k=none:=fun k V=>by
   simp at V;subst V;simp[q_,E4]
  refine⟨.tuple #[],[A4 (some ⟨g,o,none⟩) d.toList c],rfl,⟨rfl,d.toList,O,rfl⟩,?_⟩;exact⟨rfl,rfl,rfl,s,[g],⟨[g],[],rfl,.inr ⟨g,rfl,⟨o,d.toList.length,c,pre,b,p,rfl,hh,Y,by omega,r,by omega,S⟩⟩,rfl⟩,by simp,U⟩
theorem Ey(g:Nat)(x:AN)(a:LM):Ct prog 160 ([]++[Of a]) (fun _=>True) [C2 g x] (fun v A=>(∃q:Bool,v=.bool q)/\A=[C2 g x]):=by
 show Ct prog 160 [Of a] _ _ _;refine b_ 3 func160 rfl rfl rfl ?_;intro F _;refine C6 ?_;refine m9 rfl rfl ?_;intro c;refine L7 ?_;exact d_ rfl rfl _ ⟨⟨true,rfl⟩,rfl⟩ (fun w b=>b.drop)
abbrev BU(gA gO:Nat):Value:=.func (.func 153) #[] #[l9 gA,l9 gO]
def TB(x:AN):Prop:=x.o.code=0/\(x.c.kind=16\/x.c.kind=15)
theorem IH(g:Nat)(x:AN)(s:SE)(sl:SL)(d:DD)(y:DL)(hx:rm x)(hv:s.a5J.a5I.length<=100000)(hu:x.us.length<=100000):
  Cm prog 76 [l9 g] (cM x) (C2 g x::l5 sl.ra s.a5J.a5I sl.rc::O4 x.b s sl d y) (fun h v A=>∃(l:List Bs) (a:Option Addr) (c:Nat),v=.slice a l.length c/\o0 h a (fV l)/\(l≠[]->TB x)/\A=C2 g x::l5 sl.ra s.a5J.a5I sl.rc::O4 x.b s sl d y):=by
 have V:=hx.c;refine y4 85 func76 rfl rfl rfl ?_;rintro F R h7;refine C6 ?_;refine L2 rfl rfl rfl ?_;intro D;refine p_ ?_;refine p_ ?_;intro r;refine u7 ?_;refine H9 2 ?_;refine B8 (Z:=[.blk D (.cells #[l9 g] 147)]) tk fun F1 X hb=>?_;have O:F1.heap D=some (.cells #[l9 g] 147 (0,0)):=I_ hb;clear hb;have k:cM x F1.heap:=Mn.le X.heap h7;refine n7 (ι:=List Bs×AC) (fun q=>q.1.length<=200000/\(q.1≠[]->TB x)) (fun q=>[(3,l9 r)]) (fun q=>C2 g x::IF r q.1 q.2::A4 q.2.1 q.1 q.2.2::l5 sl.ra s.a5J.a5I sl.rc::E7 x.b s sl d y::r8 y.da y.rl y.dc::R) ?_ ?_
 ·refine n8 ?_;obtain⟨q1,Y⟩:=o7 (decide (x.o.code=0));refine C6 ?_;refine r_ (i8 rfl (fun w f=>I0 f O rfl)) ?_;refine O2 ?_;refine f_ ((M1 rfl rfl).eq (v':=.bool (!q1)) (jk (fun x=>Value.bool (!x)) Y.symm)) ?_;refine p_ ?_
  cases q1
  ·refine o8 rfl (fun h=>?_) qx;refine u7 ?_;exact g_ ([],none,0) ⟨by simp,fun e=>absurd rfl e⟩ (fun w f=>C5 (A:=[C2 g x,_,.own (.slice none 0 0) 9 1 [],l5 sl.ra s.a5J.a5I sl.rc,E7 x.b s sl d y,r8 y.da y.rl y.dc]) (J:=[]) tk (f.addNil 9 1))
  refine o8 rfl qx (fun h=>?_);refine H9 0 ?_;refine D5 (H':=C2 g x::IF r [] (none,0)::A4 none [] 0::l5 sl.ra s.a5J.a5I sl.rc::E7 x.b s sl d y::r8 y.da y.rl y.dc::R) (fun w f=>C5 (A:=[C2 g x,_,.own (.slice none 0 0) 9 1 [],l5 sl.ra s.a5J.a5I sl.rc,E7 x.b s sl d y,r8 y.da y.rl y.dc]) (J:=[]) tk (f.addNil 9 1)) ?_;refine n7 (ι:=Bool) (fun q=>q=true->x.c.kind=16) (fun q=>[(1,l9 D),(3,l9 r),(4,BU D r),(17,.bool q)]) (fun q=>C2 g x::IF r [] (none,0)::A4 none [] 0::l5 sl.ra s.a5J.a5I sl.rc::E7 x.b s sl d y::r8 y.da y.rl y.dc::R) ?_ ?_
  ·obtain⟨q2,S⟩:=o7 (decide (x.c.kind=16));have q6:=V.a5M
   cases q2
   all_goals (
    refine C6 ?_;refine r_ (i8 rfl (fun w f=>I0 f O rfl)) ?_;refine O2 ?_;refine f_ ((p8 rfl rfl).eq (qn ((qz).trans S.symm))) ?_;refine p_ ?_;(first|refine u_ ?_|(refine v_ ?_;refine r_ (i8 rfl (fun w f=>I0 f O rfl)) ?_));refine O2 ?_;(first|refine u_ ?_|(refine v_ ?_;refine e_ rfl (V3 cZ an x.c.a5M x.k.ia x.k.ic 157 [] (fun _=>True) (fun i=>decide (10<=i.kind)) (fun i _=>IE i) qb) (fun h Q _=>⟨k.c.a5M.le Q,trivial⟩) rfl ?_));refine y9 ?_)
   ·exact g_ false (fun e=>by cases e) i_
   ·exact g_ _ (fun _=>qr S.symm) i_
  intro q h0;refine u7 ?_;refine o8 rfl (fun T=>?_) (fun h=>?_)
  ·refine C6 ?_;refine r_ (i8 rfl (fun w f=>I0 f O rfl)) ?_;refine H9 5 ?_;refine n8 ?_;refine o9 (ι:=Nat×List Bs×AC) (fun i=>i.1<=x.us.length/\i.2.1.length<=i.1) (fun i=>[(1,l9 D),(3,l9 r),(4,BU D r),(35,.slice x.ua x.us.length x.uc),(36,.int .i64 (x.us.length:Nat)),(37,.int .i64 (i.1:Nat))]) (fun i=>C2 g x::IF r i.2.1 i.2.2::A4 i.2.2.1 i.2.1 i.2.2.2::l5 sl.ra s.a5J.a5I sl.rc::E7 x.b s sl d y::r8 y.da y.rl y.dc::R) (fun i=>x.us.length-i.1) (0,[],none,0) ⟨zw _,z1 _⟩ sub i_ ?_;rintro⟨j,p,o⟩ ⟨hj,ho⟩;simp only at hj ho;refine R6 ?_ ?_<;>intro h
   ·have z:j<x.us.length:=(by have:=qr h;omega);have u:=Y6 k.us z;refine C6 ?_;refine f_ (m8 rfl u rfl qb) ?_;refine r_ (i8 rfl (fun w f=>uf f k.us (i:=j) x6 z)) ?_;refine E5 ?_;refine r_ (i8 rfl (fun w f=>I0 f O rfl)) ?_;refine p_ ?_;refine A0 (ps:=[]) _ rfl rfl rfl (BT g D r (x.us.getD j 0) x 158 [l9 g] hx (fun lm w bs Y S h3=>(wW g x lm w bs Y S h3).mono fun e w' ⟨v,A,a,⟨b,c⟩,d⟩=>⟨v,A,a,⟨⟨_,b⟩,c⟩,d⟩) p o qb) i_ (fun h Q _=>⟨Mn.le Q k,Q _ _ O⟩) rfl ?_;rintro v A ⟨rfl,M,o',h8,rfl⟩;refine y9 ?_;exact l8 (i:=(j,p,o)) (j+1,M,o') ⟨z,by simp only;omega⟩ qg sub i_
   ·refine u7 ?_;exact g_ (p,o) ⟨by simp only;omega,fun _=>⟨qr Y.symm,.inl (h0 T)⟩⟩ i_
  ·obtain⟨kl,h9,k0,q7⟩:=k.c.keys;have k8:=dg h9;have q5:=V.keys;have h4:=DS x.k.ka x.k.kc kl qb;rw[k8] at h4;refine H9 0 ?_;refine n7 (ι:=Bool) (fun q=>q=true->x.c.kind=15) (fun q=>[(1,l9 D),(3,l9 r),(4,BU D r),(47,.bool q)]) (fun q=>C2 g x::IF r [] (none,0)::A4 none [] 0::l5 sl.ra s.a5J.a5I sl.rc::E7 x.b s sl d y::r8 y.da y.rl y.dc::R) ?_ ?_
   ·obtain⟨q2,S⟩:=o7 (decide (x.c.kind=15))
    cases q2
    all_goals (
     refine C6 ?_;refine r_ (i8 rfl (fun w f=>I0 f O rfl)) ?_;refine O2 ?_;refine f_ ((p8 rfl rfl).eq (qn ((qz).trans S.symm))) ?_;refine p_ ?_;(first|refine u_ ?_|(refine v_ ?_;refine r_ (i8 rfl (fun w f=>I0 f O rfl)) ?_));refine O2 ?_;(first|refine u_ ?_|(refine v_ ?_;refine e_ rfl h4 (fun h Q _=>k0.le Q) rfl ?_));refine y9 ?_)
    ·exact g_ false (fun e=>by cases e) i_
    ·exact g_ _ (fun _=>qr S.symm) i_
   intro q h5;refine u7 ?_;refine o8 rfl (fun T=>?_) (fun h=>?_)
   ·refine C6 ?_;refine r_ (i8 rfl (fun w f=>I0 f O rfl)) ?_;refine H9 10 ?_;refine B4 (a:=sl.ra) (n:=s.a5J.a5I.length) (c:=sl.rc) (sz:=2) (xs:=V5 s.a5J.a5I) (te:=72) ud fun _ _ u=>?_;refine n8 ?_;refine o9 (ι:=Nat×List Bs×AC) (fun i=>i.1<=s.a5J.a5I.length/\i.2.1.length<=i.1) (fun i=>[(1,l9 D),(3,l9 r),(4,BU D r),(70,.slice sl.ra s.a5J.a5I.length sl.rc),(71,.int .i64 (s.a5J.a5I.length:Nat)),(72,.int .i64 (i.1:Nat))]) (fun i=>C2 g x::IF r i.2.1 i.2.2::A4 i.2.2.1 i.2.1 i.2.2.2::l5 sl.ra s.a5J.a5I sl.rc::E7 x.b s sl d y::r8 y.da y.rl y.dc::R) (fun i=>s.a5J.a5I.length-i.1) (0,[],none,0) ⟨zw _,z1 _⟩ sub i_ ?_;rintro⟨j,p,o⟩ ⟨hj,ho⟩;simp only at hj ho;refine R6 ?_ ?_<;>intro h
    ·have z:j<s.a5J.a5I.length:=(by have:=qr h;omega);have k9:=u qb;refine C6 ?_;refine f_ (m8 rfl k9 rfl qb) ?_;refine r_ (w8 rfl (fun w f=>fe (C:=ix) (f.ownN (t:=72) ud).2.2.1 D0 qp z x6) (D0 _)) ?_;refine i7 rfl ?_;intro g8;refine O2 ?_;refine A0 (ps:=[]) _ rfl rfl rfl (BT g D r s.a5J.a5I[j].1 x 160 [] hx (fun lm=>Ey g x lm) p o qb) (fun w f=>C5 (A:=[C2 g x,IF r p o,A4 o.1 p o.2]) (J:=[_]) tk f) (fun h Q _=>⟨Mn.le Q k,Q _ _ O⟩) rfl ?_;rintro v A ⟨rfl,M,o',h8,rfl⟩;refine y9 ?_;exact l8 (i:=(j,p,o)) (j+1,M,o') ⟨z,by simp only;omega⟩ qg sub i_
    ·refine u7 ?_;exact g_ (p,o) ⟨by simp only;omega,fun _=>⟨qr Y.symm,.inr (h5 T)⟩⟩ i_
   ·refine u7 ?_;exact g_ ([],none,0) ⟨by simp,fun e=>absurd rfl e⟩ i_
 rintro⟨l,o⟩ ⟨hl,h6⟩;simp only at hl h6;refine p_ ?_;refine c_ (IG l o.1 o.2 qb) qw ?_;rintro v A ⟨rfl,m,U,rfl⟩;refine u7 ?_;have q0:=U.length_eq;refine p_ ?_;refine x5 (vs:=[.slice o.1 m.length o.2]) _ (by rw[q0];rfl) (oW m o.1 o.2 qb) i_ qw rfl ?_;rintro v A ⟨rfl,rfl⟩;refine C8 ?_;refine jZ (Z:=[A4 o.1 (Lib.compact m) o.2]) tk fun F2 q3 ⟨bs,hb⟩=>?_;have q4:o0 F2.heap o.1 (fV (Lib.compact m)):=A3.rd hb ud;refine H3 (A:=C2 g x::l5 sl.ra s.a5J.a5I sl.rc::O4 x.b s sl d y) (v:=.slice o.1 (Lib.compact m).length o.2) (X.trans q3) ⟨_,_,_,rfl,q4,fun e=>h6 fun e2=>e (by rw[e2] at U;rw[List.Perm.eq_nil U];rfl),rfl⟩ ?_;exact d_ rfl rfl _ qh (fun w f=>C5 (A:=[_,_,_,_]) (J:=[_]) tk f)
structure Ow(s:SE)(st:ML)(o:OC)(bl:BL):Prop where
 se:zF s
 a5I:s.a5J.a5I.length<=50000
 us:s.a5L.length<=100000
 ml:V_ st
 uo:o.a5L.length<=100000/\fP o.a5L
 mo:o.mods.length<=100000/\fP o.mods
 val:o.val<18446744073709551616
 bll:bl.length<=1000
 body:∀p∈bl,p.2.length<=1000000
def ey(s:SE)(st:ML)(o:OC)(bl:BL)(s':SE)(d':DD):Prop:=
 if s.a5P=false then s'=s/\d'=F8
 else(∃w:List Bs,w≠[]/\(o.code=0/\(s.cmd.kind=16\/s.cmd.kind=15))/\s'=s/\d'={F8 with want:=w})\/∃x:AN,x.c=s.cmd/\x.m.s=st/\x.o=o/\x.us=s.a5L/\x.bl=bl/\x.bx.x=mG s st/\fk x (V8 s) s' d'
def TC(Q:SE->DD->Prop)(h:l_)(v:Value)(A:List As):Prop:=∃s' d' x' y',Q s' d'/\v=.tuple #[rH s' x',KX d' y']/\A=l5 x'.ra s'.a5J.a5I x'.rc::r8 y'.da y'.rl y'.dc::Y_ y'.rl/\d'.a5T=y'.rl.map Prod.fst/\(∀m∈y'.rl,kH m h)/\U2 s' x' h/\dC d'.req y'.ql h/\o0 h y'.wa (fV d'.want)
theorem Et.res{Q:SE->DD->Prop}{h:l_}{v:Value}{A:List As}(k:Et Q h v A):TC Q h v A:=by
 obtain⟨e,f,g,d,i,rfl,rfl,j,a⟩:=k;have b:∀m∈d.rl,fC m.1 m.2 h/\yM m.2:=fun m c=>⟨a.dd.rep m c,by
  rcases j.2 m c with h|h
  ·cases h
  ·rw[h];exact qh⟩
 exact⟨e,f,g,d,i,rfl,by rw[nG b],a.dd.a5T,fun m c=>.inl (b m c),a.se,a.dd.req,a.dd.want⟩
theorem cC{x:AN}{s b:SE}{a:DD}(h:fk x s b a):a.req=F8.req/\a.want=[]/\a.ask=false/\a.store=false/\a.body=[]:=by
 unfold fk at h;split at h
 ·rw[h.2];exact⟨rfl,rfl,rfl,rfl,rfl⟩
 split at h
 ·rw[h.2];exact⟨rfl,rfl,rfl,rfl,rfl⟩
 obtain⟨r,s1,c,d,e,_,_,h⟩:=h;split at h
 ·rw[h.2];exact⟨rfl,rfl,rfl,rfl,rfl⟩
 ·rw[h.2];exact⟨rfl,rfl,rfl,rfl,rfl⟩
theorem sN(s:SE)(x:SL)(m:MM)(o:OC)(oy:OL)(bl:BL)(ba:Option Addr)(bc:Nat)(r:Ow s m.s o bl):
  Cm prog 31 [rH s x,uK m,TZ o oy,.slice ba bl.length bc] (fun h=>Gl h/\o0 h x.ra (V5 s.a5J.a5I)/\U2 s x h/\iB m h/\L_ o oy h/\o0 h ba (uA bl)) [] (TC (ey s m.s o bl)):=by
 have hs:=r.se;refine y4 103 func31 rfl rfl rfl ?_;rintro F R ⟨hg,hr,q2,hm,ho,hb⟩;refine C6 ?_;refine m9 rfl rfl ?_;intro g4;refine m9 rfl rfl ?_;intro g5;refine m9 rfl rfl ?_;intro g6;refine i7 rfl ?_;intro u;refine i7 rfl ?_;intro y;refine p_ ?_;refine A8 (lB s x hs.le) ⟨hr,q2⟩ ?_;rintro v A F1 O ⟨a,rfl,rfl,Y⟩;refine f_ (y8 (ps:=[(0,.tmp 16)]) (vs:=[(0,rH s a)]) (cells:=(mH s a++tG F8 M_).toArray) rfl i6) ?_;refine m9 rfl rfl ?_;intro c;refine p_ ?_;refine D5 (H':=E7 c s a F8 M_::r8 none [] 0::l5 a.ra s.a5J.a5I a.rc::.blk y (.cells (tG F8 M_).toArray 46)::.blk u (.cells (mH oD qV).toArray 39)::.blk g6 (.cells (tH o oy).toArray 86)::.blk g5 (.cells (iA m).toArray 62)::.blk g4 (.cells (mH s x).toArray 39)::R) (fun w g=>C5 (A:=[E7 c s a F8 M_,r8 none [] 0,_,_,_,_,_,_]) (J:=[]) tk (g.addNil 51 10)) ?_;refine eI ?_ ?_<;>intro h
 ·have Q:s.a5P=false:=by simpa using h
  refine u7 ?_;refine D8 [3,7] [8,9] [E7 c s a F8 M_] 10 ?_;refine wd [0,1,2,3,4,5,6,7,8,9] ?_;refine A2 ?_;refine H3 (A:=[l5 a.ra s.a5J.a5I a.rc,r8 none [] 0]) (v:=.tuple #[rH s a,KX F8 M_]) O ⟨s,F8,a,M_,by unfold ey;rw[zu Q];exact qh,rfl,rfl,rfl,qy,Y,⟨o0.nil _ _,o0.nil _ _⟩,o0.nil _ _⟩ ?_;refine X2 rfl rfl rfl ud rfl ud rfl _ qh (fun w g=>C5 (A:=[_,_]) (J:=[_,_,_,_,_,_]) tk g)
 have Q:¬s.a5P=false:=by simpa using h
 obtain⟨x0,h4⟩:=o7 (α:=AN) (⟨c,s.cmd,a.cl,m,o,oy,Ga,s.a5L,a.ua,a.uc,bl,ba,bc,R0,L0⟩);refine u7 ?_;refine D8 [5,6,7,12] [15] [E7 c s a F8 M_,.blk g5 (.cells (iA m).toArray 62),.blk g6 (.cells (tH o oy).toArray 86)] 17 ?_;refine wd [0,1,2,3,4,5,6,7,8,9,10,11,12,13] ?_;refine w_ 14 rfl (y8 (ps:=[(0,.tmp 30),(1,.tmp 35),(2,.tmp 36),(3,.tmp 37),(5,.tmp 42),(6,.tmp 43)]) (vs:=[(0,l9 c),(1,xE s.cmd a.cl),(2,uK m),(3,TZ o oy),(5,.slice a.ua s.a5L.length a.uc),(6,.slice ba bl.length bc)]) (cells:=(anC ⟨c,s.cmd,a.cl,m,o,oy,Ga,s.a5L,a.ua,a.uc,bl,ba,bc,R0,L0⟩).toArray) rfl i6) ?_;refine h_ 15 rfl i6 ?_;refine m9 rfl rfl ?_;intro d;refine E6 [16] ?_;refine D5 (H':=C2 d x0::E7 c s a F8 M_::r8 none [] 0::l5 a.ra s.a5J.a5I a.rc::.blk y (.cells (tG F8 M_).toArray 46)::.blk u (.cells (mH oD qV).toArray 39)::.blk g5 (.cells (iA m).toArray 62)::R) (fun w g=>by rw[h4];exact C5 (A:=[_,_,_,_,_,_,_]) (J:=[_,_]) tk g) ?_;obtain⟨e,he⟩:=o7 (al m.s s.a5J.box);have k:=uD m s.a5J.box r.ml;rw[<-he] at k;refine H9 0 ?_;refine S6 (fun(i:BM) (p:Nat) (_:Unit) (M:l6)=>F1.le M/\i.x=e.getD Pd/\fH i M.heap) (fun i p _ _=>[(8,l9 u),(9,l9 y),(10,l9 c),(11,l9 d),(12,l9 p),(13,.bool e.isSome)]) (fun _ _ _ M=>M) (fun i p _ _=>wY p i::C2 d x0::E7 c s a F8 M_::r8 none [] 0::l5 a.ra s.a5J.a5I a.rc::.blk y (.cells (tG F8 M_).toArray 46)::.blk u (.cells (mH oD qV).toArray 39)::R) ?_ ?_
 ·refine u7 ?_;refine D8 [0,6] [7,11,12] [.blk g5 (.cells (iA m).toArray 62),E7 c s a F8 M_] 14 ?_;refine wd [0,1,2,3,4,5,6] ?_;refine bv 7 11 rfl rfl i6 ?_ ?_;refine R7 k (Mn.le O.heap hm) ?_;rintro v A Z Fz hz ⟨i,rfl,l,rfl,S⟩;refine E6 [8,9,10] ?_;refine h_ 11 rfl i6 ?_;refine i7 rfl ?_;intro p;refine E6 [12,13] ?_
  rotate_left 1
  refine i7 rfl ?_;intro p;refine ah ?_;refine h_ 7 rfl i6 ?_;refine R7 k (Mn.le O.heap hm) ?_;rintro v A Z Fz hz ⟨i,rfl,l,rfl,S⟩;refine E6 [8,9,10,12,13] ?_
  rotate_left 1
  all_goals (refine u7 ?_)
  all_goals exact ew (Rr:=wY p i::C2 d x0::E7 c s a F8 M_::r8 none [] 0::l5 a.ra s.a5J.a5I a.rc::.blk y (.cells (tG F8 M_).toArray 46)::.blk u (.cells (mH oD qV).toArray 39)::R) Fz hz (fun w g=>C5 (A:=[_,_,_,_,_,_,_]) (J:=[_]) tk g) fun M T q3=>y5 (i,p,(),M) ⟨T,l,Mn.le q3 S⟩ rfl i_
 rintro i p _ M ⟨T,l,S⟩;refine H9 0 ?_;refine n7 (ι:=Bool) (fun q=>(if q then i.x else Pd)=mG s m.s) (fun q=>[(8,l9 u),(9,l9 y),(10,l9 c),(11,l9 d),(12,l9 p),(68,.bool q)]) (fun _=>wY p i::C2 d x0::E7 c s a F8 M_::r8 none [] 0::l5 a.ra s.a5J.a5I a.rc::.blk y (.cells (tG F8 M_).toArray 46)::.blk u (.cells (mH oD qV).toArray 39)::R) ?_ ?_
 ·cases e with
  |none=>
   refine u7 ?_;refine D8 [3,9] [] [wY p i,E7 c s a F8 M_] 12 ?_;refine wd [0,1,2,3,4,5,6,7,8,9,10,11] ?_;exact g_ false (by unfold mG;rw[<-he];rfl) (fun w g=>C5 (A:=[_,_,_,_,_,_,_]) (J:=[]) tk g)
  |some b0=>
   have l:i.x=b0:=l;have q4:i.val=b0.val:=(by rw[<-l]);refine u7 ?_;refine D8 [3,9] [] [wY p i,E7 c s a F8 M_] 12 ?_;refine wd [0,1,2,3,4,5,6,7,8,9] ?_;(first|refine s_ 10 ?_|refine t_ 10 ?_|refine F6 10 rfl ((p8 rfl rfl).eq (v':=.bool (decide (i.val=s.a5J.val))) (qn qz)) rfl rfl rfl rfl rfl rfl i6 ?_);refine wd [11] ?_;refine g_ (decide (i.val=s.a5J.val)) ?_ (fun w g=>C5 (A:=[_,_,_,_,_,_,_]) (J:=[]) tk g);unfold mG;rw[<-he,l,q4];by_cases h9:b0.val=s.a5J.val
   ·simp[h9]
   ·simp[h9]
 intro y1 h0;refine u7 ?_;refine n7 (ι:=BM) (fun b=>b.x=mG s m.s/\fH b M.heap) (fun _=>[(8,l9 u),(9,l9 y),(10,l9 c),(11,l9 d)]) (fun b=>C2 d {x0 with bx:=b}::E7 c s a F8 M_::r8 none [] 0::l5 a.ra s.a5J.a5I a.rc::.blk y (.cells (tG F8 M_).toArray 46)::.blk u (.cells (mH oD qV).toArray 39)::R) ?_ ?_
 ·refine o8 rfl ?_ ?_<;>intro h
  ·refine au ?_;exact g_ i ⟨by rw[<-h0,h];rfl,S⟩ (fun w g=>C5 (A:=[C2 d {x0 with bx:=i},_,_,_,_,_]) (J:=[_]) tk g)
  ·refine u7 ?_;exact g_ Ga ⟨by rw[<-h0,h];rfl,fH.zero _⟩ (fun w g=>by
    have h9:=C5 (A:=[C2 d x0,E7 c s a F8 M_,r8 none [] 0,l5 a.ra s.a5J.a5I a.rc,.blk y _,.blk u _]) (J:=[wY p i]) tk g;rw[h4] at h9⊢;exact h9)
 rintro b ⟨h2,h7⟩;obtain⟨n,f⟩:∃n:AN,n={x0 with bx:=b}:=⟨_,rfl⟩;rw[<-f];rw[h4] at f;have k0:b.ls.length<=32/\∀lm∈b.ls,lm.t.a5U.length<=16:=by
  have h1:(mG s m.s).lts.length<=32/\∀t∈(mG s m.s).lts,t.a5U.length<=16:=by
   unfold mG
   cases e9:al m.s s.a5J.box with
   |none=>exact⟨zw _,qy⟩
   |some b0=>
    have k8:=r.ml.box b0 (bU e9);by_cases h9:b0.val=s.a5J.val
    ·simp only[z6,zu h9,Zh];exact⟨k8.lts,fun t ht=>(k8.a5U t ht).1⟩
    ·simp only[z6,zk h9,Option.getD_none];exact⟨zw _,qy⟩
  rw[<-h2] at h1;exact⟨by simpa using h1.1,fun lm h5=>h1.2 lm.t (Zz h5)⟩
 have k9:rm n:=by rw[f];exact⟨by show b.ls.length<=_;omega,fun lm h5=>by have:=k0.2 lm h5;omega,r.bll,r.body,hs.cmd⟩
 have q5:No n (V8 s):=by
  refine⟨k9,?_,r.a5I,?_,?_,?_,?_⟩<;>rw[f]
  ·exact r.ml
  ·exact r.us
  ·exact r.uo
  ·exact r.mo
  ·exact r.val
 have j:=O.trans T;have z:U2 s a M.heap:=Mn.le T.heap Y;have h3:cM n M.heap:=by rw[f];exact⟨hg.le j.heap,z.cmd,Mn.le j.heap hm,Mn.le j.heap ho,h7,z.a5L,hb.le j.heap⟩
 have U:n.b=c:=by rw[f]
 have q6:n.us.length<=100000:=by rw[f];exact r.us
 refine u7 ?_;refine D5 (H':=C2 d n::E7 n.b s a F8 M_::r8 none [] 0::l5 a.ra s.a5J.a5I a.rc::.blk y (.cells (tG F8 M_).toArray 46)::.blk u (.cells (mH oD qV).toArray 39)::R) (fun w g=>by rw[U];exact g) ?_;refine p_ ?_;refine A8 (IH d n s a F8 M_ k9 (by have:=r.a5I;omega) q6) h3 ?_;rintro v A F3 V ⟨w,wa,wc,rfl,q7,q8,rfl⟩;refine p_ ?_;refine D5 (H':=C2 d n::E7 c s a F8 M_::r8 none [] 0::l5 a.ra s.a5J.a5I a.rc::.blk y (.cells (tG F8 M_).toArray 46)::.blk u (.cells (mH oD qV).toArray 39)::R) (fun w g=>by rw[<-U];exact C5 (A:=[_,_,_,_,_,_]) (J:=[]) tk g) ?_;refine eI ?_ ?_<;>intro h
 ·have q0:w≠[]:=fun e1=>by rw[e1] at h;exact absurd h qp
  refine cG ?_;refine D8 [3,7] [8,9] [E7 c s a {F8 with want:=w} {M_ with wa:=wa,wc:=wc}] 10 ?_;refine wd [0,1,2,3,4,5,6,7,8,9] ?_;refine A2 ?_;refine H3 (A:=[l5 a.ra s.a5J.a5I a.rc,r8 none [] 0]) (v:=.tuple #[rH s a,KX {F8 with want:=w} {M_ with wa:=wa,wc:=wc}]) (j.trans V) ⟨s,{F8 with want:=w},a,{M_ with wa:=wa,wc:=wc},by unfold ey;rw[zk Q];exact .inl ⟨w,q0,by have h8:=q8 q0;rw[f] at h8;exact h8,rfl,rfl⟩,rfl,rfl,rfl,qy,Mn.le V.heap z,⟨o0.nil _ _,o0.nil _ _⟩,q7⟩ ?_;refine X2 rfl rfl rfl ud rfl ud rfl _ qh (fun w g=>C5 (A:=[_,_]) (J:=[_,_,_,_]) tk g)
 ·refine p_ ?_;refine c_ (By c s a F8 M_) qw ?_;rintro v A ⟨rfl,rfl⟩;refine u7 ?_;refine D5 (H':=C2 d n::E7 n.b (V8 s) {a with cl:=G_,ua:=none,uc:=0} F8 M_::r8 none [] 0::l5 a.ra (V8 s).a5J.a5I a.rc::.blk y (.cells (tG F8 M_).toArray 46)::.blk u (.cells (mH oD qV).toArray 39)::R) (fun w g=>by rw[U];exact C5 (A:=[_,_,_,_,_,_]) (J:=[]) tk g) ?_;refine p_ ?_;refine A8 (Qo d n (V8 s) {a with cl:=G_,ua:=none,uc:=0} q5 (by rw[f];exact k0.2)) ⟨Mn.le V.heap h3,⟨o0.nil _ _,fh.zero _⟩⟩ ?_;rintro v A F4 q9 ⟨rfl,x',s',d',C,X,x3,D,h6,x9,q1,y0,y2,y3,rfl⟩;rw[x3,U];refine I7 (H':=_::_::_::_::_::_::(Y_ X.rl++R)) (fun w g=>g.perm (((((Qb (Y_ X.rl) [_,_] R).cons _).cons _).cons _).cons _)) ?_;refine u7 ?_;refine D8 [3,7] [8,9] [E7 c s' C d' X] 10 ?_;refine wd [0,1,2,3,4,5,6,7,8,9] ?_;refine A2 ?_;refine H3 (A:=l5 C.ra s'.a5J.a5I C.rc::r8 X.da X.rl X.dc::Y_ X.rl) (v:=.tuple #[rH s' C,KX d' X]) ((j.trans V).trans q9) ⟨s',d',C,X,?_,rfl,rfl,h6,x9,q1,?_,?_⟩ ?_
  ·unfold ey;rw[zk Q];exact .inr ⟨n,by rw[f],by rw[f],by rw[f],by rw[f],by rw[f],by rw[f];exact h2,D⟩
  ·rw[(cC D).1,y0];exact⟨o0.nil _ _,o0.nil _ _⟩
  ·rw[(cC D).2.1];exact o0.nil _ _
  ·refine X2 rfl rfl rfl ud rfl ud rfl _ qh (fun w g=>C5 (A:=[_,_]) (J:=[_,_,_,_]) tk g)
theorem qo(n:Nat):Pu prog 21 [.int .i64 (n:Nat)] (fun _=>True) (.int .i64 ((min n 1048576:Nat):Int)):=by
 refine b_ 5 func21 rfl rfl rfl ?_;intro F _;refine y9 ?_;refine f_ ((Ff rfl rfl).eq (v':=.int .i64 ((min n 1048576:Nat):Int)) (by congr 1;omega)) ?_;refine C8 ?_;exact d_ rfl rfl [] qh i_
def aH(tag:Bs)(r:RR):Bool:=decide (r.kind<=3)&&decide (r.tag=tag)&&(!decide (tag=[42])||decide (r.kind=3))
theorem zO(l:List RM)(a:Option Addr)(c:Nat)(tag:Bs)(hl:l.length<=1000000):Pu prog 13 [.slice a l.length c,B tag] (fun h=>o0 h a (NY l)) (.int .i64 ((l.countP fun m=>aH tag m.1:Nat):Int)):=by
 obtain⟨i,q⟩:=o7 (decide (tag=[42]));refine b_ 43 func13 rfl rfl rfl ?_;intro F d;refine y9 ?_;refine H9 1 ?_;refine w6 [(5,.int .i64 ((l.countP fun m=>aH tag m.1:Nat):Int))] [] ?_ ?_
 ·refine n8 ?_;refine o9 (ι:=Nat) (fun j=>j<=l.length) (fun j=>[(0,.slice a l.length c),(1,B tag),(5,.int .i64 (((l.take j).countP fun m=>aH tag m.1:Nat):Int)),(6,.int .i64 (j:Nat))]) (fun _=>[]) (fun j=>l.length-j) 0 (zw _) sub i_ ?_;intro j z;refine CO ?_ ?_<;>intro h
  ·have b:j<l.length:=(by have:=qr h;omega);have e:=y7 d N_ qp b;have k:(l.take j).countP (fun m=>aH tag m.1)<=j:=ju List.countP_le_length (by rw[zm];omega);have f:(l.take (j+1)).countP (fun m=>aH tag m.1)=(l.take j).countP (fun m=>aH tag m.1)+if aH tag l[j].1 then 1 else 0:=by
    rw[kj b,Zj,List.countP_singleton]
   obtain⟨o,r⟩:=o7 (decide (l[j].1.kind<=3));obtain⟨p,s⟩:=o7 (decide (l[j].1.tag=tag));obtain⟨t,u⟩:=o7 (decide (l[j].1.kind=3));have v:aH tag l[j].1=(o&&p&&(!i||t)):=(by unfold aH;rw[<-r,<-s,<-q,<-u]);rw[v] at f;obtain⟨n,y⟩:=o7 ((l.take j).countP (fun m=>aH tag m.1));rw[<-y] at f k⊢;refine H9 0 ?_;refine w6 [(0,.slice a l.length c),(1,B tag),(5,.int .i64 (((l.take (j+1)).countP fun m=>aH tag m.1:Nat):Int)),(6,.int .i64 (j:Nat))] [] ?_ ?_
   ·rw[f];refine n8 ?_;refine H9 0 ?_;refine w6 [(0,.slice a l.length c),(1,B tag),(5,.int .i64 (n:Nat)),(6,.int .i64 (j:Nat)),(39,.bool (o&&p&&(!i||t)))] [] ?_ ?_
    ·cases o<;>cases p<;>cases i
     all_goals (
      refine y9 ?_;refine f_ (m8 rfl e rfl qb) ?_;refine p_ ?_;refine r_ (i8 rfl (fun w g=>cH (C:=qW) (j:=0) (d.le g.keep) N_ b rfl x6)) ?_;refine f_ ((F_ rfl rfl).eb r) ?_;refine E5 ?_;(first|refine u_ ?_|(refine v_ ?_;refine f_ (m8 rfl e rfl qb) ?_));refine p_ ?_;(first|refine u_ ?_|(refine v_ ?_;refine r_ (i8 rfl (fun w g=>cH (C:=qW) (j:=1) (d.le g.keep) N_ b rfl x6)) ?_));refine p_ ?_;(first|refine u_ ?_|(refine v_ ?_;refine f_ ((B_ rfl rfl).eb s) ?_));refine E5 ?_;(first|refine u_ ?_|(refine v_ ?_;refine f_ ((E1 rfl rfl).eq (jk (fun x=>Value.bool (!x)) q.symm)) ?_));refine E5 ?_;(first|refine u_ ?_|(refine v_ ?_;refine f_ (m8 rfl e rfl qb) ?_));refine p_ ?_;(first|refine u_ ?_|(refine v_ ?_;refine r_ (i8 rfl (fun w g=>cH (C:=qW) (j:=0) (d.le g.keep) N_ b rfl x6)) ?_));(first|refine u_ ?_|(refine v_ ?_;refine f_ ((p8 rfl rfl).eb u) ?_));refine y9 ?_)
     all_goals exact o_ sub i_
    refine N8 ?_ ?_<;>intro h
    ·rw[zu h];refine p_ ?_;refine f_ ((p9 rfl rfl qb).eq (v':=.int .i64 ((n+1:Nat):Int)) (by congr 1)) ?_;refine p_ ?_;exact o_ sub i_
    ·rw[zk (by rw[h];decide)];refine u7 ?_;exact o_ sub i_
   refine E5 ?_;exact l8 (j+1) b qb sub i_
  ·have b:j=l.length:=(by have:=zq h;omega);subst b;rw[j9];refine u7 ?_;exact o_ sub i_
 refine L7 ?_;exact d_ rfl rfl [] qh i_
abbrev Ox:Bs:=[116,104,101,32,115,101,115,115,105,111,110,32,105,115,32,103,111,110,101]
def qt:List RR->Bool
 |[r]=>decide (r.kind=4)&&decide (r.text=Ox)
 |_=>false
theorem II(l:List RM)(a:Option Addr)(c:Nat)(hl:l.length<=1000000):Pu prog 12 [.slice a l.length c] (fun h=>o0 h a (NY l)) (.bool (qt (l.map Prod.fst))):=by
 by_cases h0:l.length=1
 ·obtain⟨m,rfl⟩:=List.length_eq_one_iff.1 h0;obtain⟨k,n⟩:=o7 (decide (m.1.kind=4));obtain⟨p,o⟩:=o7 (decide (m.1.text=Ox));have e:qt ([m].map Prod.fst)=(k&&p):=by rw[n,o];rfl
  rw[e];refine b_ 20 func12 rfl rfl rfl ?_;intro F b;have d:=y7 b N_ qp (i:=0) x6;refine p_ ?_
  cases k
  all_goals (
   refine au ?_;(first|refine u_ ?_|(refine v_ ?_;refine f_ (m8 rfl d rfl x6) ?_));refine p_ ?_;(first|refine u_ ?_|(refine v_ ?_;refine r_ (i8 rfl (fun w f=>cH (C:=qW) (i:=0) (j:=0) (b.le f.keep) N_ x6 rfl x6)) ?_));(first|refine u_ ?_|(refine v_ ?_;refine f_ ((p8 rfl rfl).eb n) ?_));refine E5 ?_;(first|refine u_ ?_|(refine v_ ?_;refine f_ (m8 rfl d rfl x6) ?_));refine p_ ?_;(first|refine u_ ?_|(refine v_ ?_;refine r_ (i8 rfl (fun w f=>cH (C:=qW) (i:=0) (j:=3) (b.le f.keep) N_ x6 rfl x6)) ?_));(first|refine u_ ?_|(refine v_ ?_;refine f_ ((B_ rfl rfl).eb o) ?_));refine y9 ?_)
  all_goals (refine A2 ?_;exact d_ rfl rfl [] qh i_)
 ·have e:qt (l.map Prod.fst)=false:=by
   match l,h0 with
   |[],_=>rfl
   |[m],h=>exact absurd rfl h
   |_::_::_,_=>rfl
  rw[e];have g:((l.length:Nat):Int)≠1:=by omega
  refine b_ 20 func12 rfl rfl rfl ?_;intro F b;refine E5 ?_;refine f_ ((p8 rfl rfl).eq (v':=.bool false) (by simp[g])) ?_;refine wk 15 ?_;refine A2 ?_;exact d_ rfl rfl [] qh i_
theorem dt:∀x,∀q∈uz x,q.oneCell'=true:=fun x q a=>by simp at a;rcases a with rfl|rfl<;>rfl
structure WM where
 s:SE
 x:SL
 m:MM
 q:RQ
 ql:QL
 tr:Nat
 bl:BL
 ba:Option Addr
 bc:Nat
abbrev Oy(w:WM):List Value:=mH w.s w.x++iA w.m++eA w.q w.ql++[.int .u64 (w.tr:Nat),.slice w.ba w.bl.length w.bc]
abbrev EW(w:WM):Value:=.agg (Oy w).toArray
abbrev ie(g:Nat)(w:WM):As:=.blk g (.cells (Oy w).toArray 65)
structure TN where
 a:SE
 ax:SL
 b:SE
 bx:SL
 hk:Int
 ht:Bs
 hears:Bool
 comes:Bool
 fails:Bool
 d:DD
 y:DL
 c:CM
 k:CL
abbrev dH(t:TN):List Value:=mH t.a t.ax++mH t.b t.bx++[.int .i64 t.hk,B t.ht,.bool t.hears,.bool t.comes,.bool t.fails]++tG t.d t.y++li t.c t.k
abbrev Ue(t:TN):Value:=.agg (dH t).toArray
abbrev iM(g:Nat)(t:TN):As:=.blk g (.cells (dH t).toArray 48)
def iN(w:WM)(t:TN):RQ:=if t.d.ask=true then(if t.d.req.op=1 then{t.d.req with node:=1,life:=1,tr:=w.tr+1} else t.d.req) else w.q
def EX(w:WM)(t:TN):Nat:=if t.d.ask=true then(if t.d.req.op=1 then w.tr+1 else w.tr) else w.tr
def Rh(w:WM)(t:TN):BL:=if t.d.store=true then w.bl++[(Dg.sha t.d.body,t.d.body)] else w.bl
structure sO(w:WM)(t:TN)(w':WM):Prop where
 s:w'.s=t.b
 x:w'.x=t.bx
 m:w'.m=w.m
 q:w'.q=iN w t
 ql:w'.ql=if t.d.ask=true then t.y.ql else w.ql
 tr:w'.tr=EX w t
 bl:w'.bl=Rh w t
theorem Nr(w:WM)(t:TN)(ht:w.tr<=1000)(hb:w.bl.length<=1000)(hd:t.d.body.length<=1000000):
  Cm prog 33 [EW w,Ue t] (fun h=>o0 h w.ba (uA w.bl)) [] (fun h v A=>∃w',v=EW w'/\A=[]/\sO w t w'/\o0 h w'.ba (uA w'.bl)):=by
 refine y4 50 func33 rfl rfl rfl ?_;rintro F R z;refine C6 ?_;refine m9 rfl rfl ?_;intro k;refine m9 rfl rfl ?_;intro u;refine i7 rfl ?_;intro y;refine O2 ?_;obtain⟨f,d⟩:∃f:WM,f={w with s:=t.b,x:=t.bx}:=⟨_,rfl⟩;refine D5 (H':=ie k f::iM u t::.blk y (.cells (Oy ⟨oD,qV,Im,cW,db,0,[],none,0⟩).toArray 65)::R) (fun w b=>by rw[d];exact C5 (A:=[_,_,_]) (J:=[]) tk b) ?_;refine E5 ?_;refine n7 (ι:=WM) (fun q=>q={f with q:=iN w t,ql:=if t.d.ask=true then t.y.ql else w.ql,tr:=EX w t}) (fun _=>[(2,l9 k),(3,l9 u),(4,l9 y)]) (fun q=>ie k q::iM u t::.blk y (.cells (Oy ⟨oD,qV,Im,cW,db,0,[],none,0⟩).toArray 65)::R) ?_ ?_
 ·refine o8 rfl ?_ ?_<;>intro h
  ·refine au ?_;obtain⟨g,i⟩:∃g:WM,g={f with q:=t.d.req,ql:=t.y.ql}:=⟨_,rfl⟩;have C:g.tr=w.tr:=(by rw[i,d]);have D:g.q=t.d.req:=(by rw[i]);refine D5 (H':=ie k g::iM u t::.blk y (.cells (Oy ⟨oD,qV,Im,cW,db,0,[],none,0⟩).toArray 65)::R) (fun w b=>by rw[i];exact C5 (A:=[_,_,_]) (J:=[]) tk b) ?_;refine E5 ?_;refine f_ ((p8 rfl rfl).eq (v':=.bool (decide (t.d.req.op=1))) (qn (zp.2 (by rw[D])))) ?_;refine N8 ?_ ?_<;>intro h2
   ·have M:t.d.req.op=1:=qr h2;refine y9 ?_;refine f_ ((K_ rfl rfl qb).eq (v':=.int .u64 ((g.tr+1:Nat):Int)) (by congr 1)) ?_;refine wk 13 ?_;exact g_ {f with q:=iN w t,ql:=if t.d.ask=true then t.y.ql else w.ql,tr:=EX w t} rfl (fun v b=>by
     have O:({f with q:=iN w t,ql:=if t.d.ask=true then t.y.ql else w.ql,tr:=EX w t}:WM)={g with q:={g.q with node:=1,life:=1,tr:=g.tr+1},tr:=g.tr+1}:=by
      rw[C,D,i];unfold iN EX;rw[zu h,zu M,zu h,zu h,zu M]
     rw[O];exact C5 (A:=[_,_,_]) (J:=[]) tk b)
   ·refine u7 ?_;have M:¬t.d.req.op=1:=zq h2;exact g_ {f with q:=iN w t,ql:=if t.d.ask=true then t.y.ql else w.ql,tr:=EX w t} rfl (fun v b=>by
     have O:({f with q:=iN w t,ql:=if t.d.ask=true then t.y.ql else w.ql,tr:=EX w t}:WM)=g:=by
      rw[i,d];unfold iN EX;rw[zu h,zk M,zu h,zu h,zk M]
     rw[O];exact b)
  ·refine u7 ?_;have Q:¬t.d.ask=true:=fun e=>(by rw[e] at h;cases h);exact g_ {f with q:=iN w t,ql:=if t.d.ask=true then t.y.ql else w.ql,tr:=EX w t} rfl (fun v b=>by
    have O:({f with q:=iN w t,ql:=if t.d.ask=true then t.y.ql else w.ql,tr:=EX w t}:WM)=f:=by
     rw[d];unfold iN EX;rw[zk Q,zk Q,zk Q]
    rw[O];exact b)
 rintro c S;have a:c.ba=w.ba/\c.bl=w.bl/\c.bc=w.bc:=by rw[S,d];exact qm
 refine E5 ?_;refine S6 (fun(j:BL) (o:AC) (_:Unit) (n:l6)=>F.le n/\j=Rh w t/\o0 n.heap o.1 (uA j)) (fun _ _ _ _=>[(2,l9 k),(4,l9 y)]) (fun _ _ _ n=>n) (fun j o _ _=>ie k {c with bl:=j,ba:=o.1,bc:=o.2}::.blk y (.cells (Oy ⟨oD,qV,Im,cW,db,0,[],none,0⟩).toArray 65)::R) ?_ ?_
 ·refine o8 rfl ?_ ?_<;>intro h
  ·refine u7 ?_;refine D8 [2,6,10] [0,3,7,12,13,15] [ie k c,iM u t] 16 ?_;refine wd [1,2,4,5,6,8,9,10] ?_;refine h_ 0 rfl i6 ?_;refine M5 rfl ?_;intro OJ;refine ah ?_;refine h_ 3 rfl i6 ?_;refine u6 uz (l:=[]) (m:=c.bl) aq dt (by show(0+c.bl.length)*32<=_;rw[a.2.1];omega) ?_ (hsrc:=fun v b=>by rw[a.1,a.2.1];exact z.le b.keep) (h63:=by rw[a.2.1];simp only[zn];omega);intro a37 h1 _;refine ah ?_;refine h_ 7 rfl i6 ?_;refine e_ rfl (Dg.Sum_ct t.d.body qb) qw rfl ?_;refine gj [11] ?_;refine h_ 12 rfl i6 ?_;refine C4 uz (Dg.sha t.d.body,t.d.body) rfl ?_;intro a46 _;refine xB ?_;refine h_ 13 rfl i6 ?_;refine u6 uz (l:=c.bl) (m:=[(Dg.sha t.d.body,t.d.body)]) aq dt (by show(c.bl.length+1)*32<=_;rw[a.2.1];omega) ?_ (h63:=by rw[a.2.1];simp only[zy,zn];omega);intro T U _;refine E6 [14,15] ?_;refine jZ (Z:=[.own (.slice T (c.bl++[(Dg.sha t.d.body,t.d.body)]).length U) 95 2 (uA (c.bl++[(Dg.sha t.d.body,t.d.body)]))]) tk fun n p ⟨bs,X⟩=>?_;exact y5 (c.bl++[(Dg.sha t.d.body,t.d.body)],(T,U),(),n) ⟨p,by unfold Rh;rw[zu h,a.2.1],A3.rd X ud⟩ rfl (fun v b=>C5 (A:=[_,_]) (J:=[iM u t,_]) tk b)
  ·refine u7 ?_;have Q:¬t.d.store=true:=fun e=>(by rw[e] at h;cases h);exact y5 (c.bl,(c.ba,c.bc),(),F) ⟨l6.le_refl _,by unfold Rh;rw[zk Q,a.2.1],by rw[a.1,a.2.1];exact z⟩ rfl (fun v b=>C5 (A:=[_,_]) (J:=[_]) tk b)
 rintro j o _ n ⟨p,Y,h0⟩;obtain⟨V,r⟩:∃V:WM,V={c with bl:=j,ba:=o.1,bc:=o.2}:=⟨_,rfl⟩;rw[<-r];refine L7 ?_;refine H3 (A:=[]) (v:=EW V) p ⟨V,rfl,rfl,?_,by rw[r];exact h0⟩ ?_
 ·rw[r,S,d];exact⟨rfl,rfl,rfl,rfl,rfl,rfl,Y⟩
 ·exact G6 rfl rfl ud rfl _ qh (fun v b=>C5 (A:=[]) (J:=[_,_]) tk b)
