import Derived.Test.YtmcepdopookilaaGreatDoorucx19
set_option maxHeartbeats 16000000
set_option maxRecDepth 8000
set_option linter.unusedVariables false
set_option linter.unusedSimpArgs false
set_option linter.defProp false
namespace Go.Proofs.YtmcepdopookilaaGreatDoor.Rp
open Go Go.Sl Go.RowKit Go.Proofs.Tryz
theorem Nt(s:Bs):(R8 s).length=s.length:=by simp[R8]
def Y9(l:List RM):List As:=l.flatMap fun m=>if m.1.a5R=[] then[] else[A4 m.2.fa m.1.a5R m.2.fc]
def kI(m:RM)(h:l9):Prop:=(fE m.1 m.2 h/\yT m.2)\/∃fa fc,m=zU fa fc
theorem kI.le{m:RM}{h b:l9}(k:kI m h)(hl:l9.le h b):kI m b:=by
 rcases k with⟨a,c⟩|a
 ·exact .inl ⟨a.le hl,c⟩
 ·exact .inr a
theorem Nu{m:RM}{h:l9}(k:fE m.1 m.2 h)(e:yT m.2):m.1.a5R=[]:=by
 have b:=k.a5R;rw[e.1] at b
 cases hq:m.1.a5R with
 |nil=>rfl
 |cons a t=>
  obtain⟨d,c,_⟩:=b (by rw[hq];simp[fV])
  cases c
theorem nK{l:List RM}{h:l9}(k:∀m∈l,fE m.1 m.2 h/\yT m.2):Y9 l=[]:=by
 unfold Y9;rw[List.flatMap_eq_nil_iff];intro m a;rw[zu (Nu (k m a).1 (k m a).2)]
theorem nL(a b:List RM):Y9 (a++b)=Y9 a++Y9 b:=Z8
theorem IK(b:BX)(fa:Option Addr)(fc:Nat):Y9 (mA b fa fc)=[A4 fa R5 fc]:=rfl
structure Nv(x:AN)(s:SE):Prop where
 ok:rx x
 ml:U4 x.m.s
 a5F:s.a5G.a5F.length<=50000
 us:x.us.length<=100000
 uo:x.o.a5I.length<=100000/\fR x.o.a5I
 mo:x.o.mods.length<=100000/\fR x.o.mods
 val:x.o.val<18446744073709551616
abbrev Qt:Bs:=[65,80,80,69,78,68,85,73,68,32]
abbrev uL(x:AN):Bs:=if x.o.a5I=[] then x.r.code else Qt++R4 x.o.val++[32]++R4 (x.o.a5I.getD 0 0)
abbrev Nw(w:Bs):RR:={R0 with kind:=11,box:=w}
def OA(b:BX):List RR:=[qA,gK b.lts.length,Fe xl b.val,Fe my b.next,Fe mz b.high]
def L6(x:AN)(s:SE)(r:RR)(s':SE)(l:List RR):Prop:=
 if x.c.kind=7 then s'={s with a5H:=1,ses:=x.o.ses,num:=0}/\r=x.r/\l=[]
 else if x.c.kind=14 then s'=s/\r={x.r with code:=uL x}/\l=[]
 else if x.c.kind=8\/x.c.kind=9 then(ak x.m.s x.c.box=none/\s'=s/\r=qo x.c.tag/\l=[])\/∃b,ak x.m.s x.c.box=some b/\s'={s with a5G:=P3 b,a5H:=2,ro:=decide (x.c.kind=9)}/\r={x.r with code:=aF x.c.kind}/\l=OA b
 else if x.c.kind=12 then s'=s/\r=x.r/\l.length<=8/\∀q∈l,∃b∈x.m.s.a5C,q=Nw b.name
 else if x.c.kind=13 then Oy x s r s' l
 else if x.c.kind=15 then s'=s/\r=x.r/\∃nums m,l=[BU nums m]
 else if x.c.kind=16 then qt x s x.us r s' l
 else if x.c.kind=17 then qt x s [] r s' l
 else s'=s/\r=x.r/\l=[]
def TB(g:Nat)(x:AN)(d:DD)(y:DL)(Q:RR->SE->List RR->Prop)(h:l9)(v:Value)(A:List As):Prop:=v=.tuple #[]/\∃r s sl l a c,Q r s (l.map Prod.fst)/\(∀m∈l,kI m h)/\U3 s sl h/\l.length<=200000/\A=C2 g {x with r:=r,z:=L0}::l5 sl.ra s.a5G.a5F sl.rc::(O3 x.b s sl d (C0 y l a c)++Y9 l)
theorem Nx(g:Nat)(x:AN)(s:SE)(sl:SL)(d:DD)(y:DL)(hx:Nv x s)(hz:x.z=L0)(hl:y.rl.length<=100):
  Cm prog 163 [m6 g] (fun h=>cI x h/\U3 s sl h) (C2 g x::l5 sl.ra s.a5G.a5F sl.rc::O3 x.b s sl d y) (TB g x d y (L6 x s)):=by
 have a6:=hx.a5F;have y2:=hx.us;have q0:({x with r:=x.r,z:=L0}:AN)=x:=by
  obtain⟨xb,xc,xk,xm,xo,xy,y3,z0,z1,z2,u0,u1,u2,xr,xz⟩:=x;obtain rfl:xz=L0:=hz;rfl
 obtain⟨b7,h7⟩:=o7 (decide (x.c.kind=7));obtain⟨u8,q8⟩:=o7 (decide (x.c.kind=14));obtain⟨b8,h8⟩:=o7 (decide (x.c.kind=8));obtain⟨b9,h9⟩:=o7 (decide (x.c.kind=9));obtain⟨v0,q9⟩:=o7 (decide (x.c.kind=12));obtain⟨v1,x0⟩:=o7 (decide (x.c.kind=13));obtain⟨v2,x1⟩:=o7 (decide (x.c.kind=15));obtain⟨v3,x2⟩:=o7 (decide (x.c.kind=16));obtain⟨v4,x3⟩:=o7 (decide (x.c.kind=17));refine x8 133 func163 rfl rfl rfl ?_;rintro F R ⟨u,D⟩;refine I8 5 ?_;refine dp (fun(r:RR) (k:SE) (f:SL) (l:List RM) (o:AC) (t:l6)=>F.le t/\L6 x s r k (l.map Prod.fst)/\(∀m∈l,kI m t.heap)/\U3 k f t.heap/\l.length<=200000) (fun _ _ _ _ _ _=>[(0,m6 g)]) (fun _ _ _ _ _ t=>t) (fun r k f l o _=>C2 g {x with r:=r,z:=L0}::l5 f.ra k.a5G.a5F f.rc::E8 x.b k f d (C0 y l o.1 o.2)::r8 o.1 (y.rl++l) o.2::(Y9 l++R)) ?_ ?_
 ·refine n9 ?_;have h0:∀w,Hp F w (C2 g x::l5 sl.ra s.a5G.a5F sl.rc::E8 x.b s sl d y::r8 y.da y.rl y.dc::R)->Hp F w (C2 g {x with r:=x.r,z:=L0}::l5 sl.ra s.a5G.a5F sl.rc::E8 x.b s sl d (C0 y [] y.da y.dc)::r8 y.da (y.rl++[]) y.dc::(Y9 []++R)):=fun w n=>by
   rw[q0];simp only[C0,z8];exact n
  have x9:∀(Q:RR->SE->List RR->Prop) (t:l6) (v:Value) (A:List As),(∀r k l,Q r k l->L6 x s r k l/\l.length<=200000)->xh g x d y Q t.heap v A->F.le t->∃(r:RR) (k:SE) (f:SL) (l:List RM) (o:AC),v=.tuple #[]/\(L6 x s r k (l.map Prod.fst)/\(∀m∈l,kI m t.heap)/\U3 k f t.heap/\l.length<=200000)/\A++R=C2 g {x with r:=r,z:=L0}::l5 f.ra k.a5G.a5F f.rc::E8 x.b k f d (C0 y l o.1 o.2)::r8 o.1 (y.rl++l) o.2::(Y9 l++R):=fun Q t v A hQ ⟨hv,r,k,f,l,a,c,U,S,hs,V⟩ v5=>by
   refine⟨r,k,f,l,(a,c),hv,⟨(hQ _ _ _ U).1,fun m w3=>.inl (S m w3),hs,by have:=(hQ _ _ _ U).2;rwa [zm] at this⟩,?_⟩;rw[nK S,V];rfl
  refine C6 ?_;refine f_ ((o_ rfl rfl).eq (v':=.bool b7) (qn ((qz).trans h7.symm))) ?_;refine p_ ?_
  cases b7
  case true=>
   have e7:x.c.kind=7:=qr h7.symm;refine u7 ?_;refine D9 [3,7,11,16] [20,24,28] [C2 g x] 29 ?_;refine wd [0,1,2,3,4,5,6,7,8,9,10,11,12,13,14,15,16,17,18,19,20,21,22,23,24,25,26,27,28] ?_;exact y5 (x.r,{s with a5H:=1,ses:=x.o.ses,num:=0},sl,[],(y.da,y.dc),F) ⟨l6.le_refl _,by unfold L6;rw[zu e7];exact qm,qy,⟨D.a5I,D.cmd⟩,zw _⟩ rfl (fun w n=>by
    rw[q0];simp only[C0,z8];exact C1 (A:=[_,_,_,_]) (J:=[]) tk n)
  have e7:¬x.c.kind=7:=zq h7.symm;refine C6 ?_;refine f_ ((o_ rfl rfl).eq (v':=.bool u8) (qn ((qz).trans q8.symm))) ?_;refine p_ ?_
  cases u8
  case true=>
   have M:x.c.kind=14:=qr q8.symm;refine wk 7 ?_;refine o8 rfl ?_ ?_<;>intro h
   ·have O:0<x.o.a5I.length:=(by have:=qr h;omega);have y0:=Y5 u.o.a5I O;have w4:x.o.a5I≠[]:=fun e=>(by rw[e] at O;simp at O);have v6:x.o.a5I.getD 0 0<18446744073709551616:=hx.uo.2 _ (by rw[zd,zj O];exact zx O);have w9:=kH 19 x.o.val (by have:=hx.val;omega);have a0:=kH 19 (x.o.a5I.getD 0 0) qb;refine u7 ?_;refine D9 [5,13] [6,15,16,21] [C2 g x] 22 ?_;refine wd [0,1,2,3,4,5,9,10,11,12,13] ?_;refine w_ 14 rfl (m8 rfl y0 rfl qb) ?_;refine bv 6 15 rfl rfl i6 ?_ ?_;refine e_ rfl (aD x.o.val hx.val) (fun h hh _=>u.g.le hh) rfl ?_;refine gn [7,8] ?_;refine h_ 15 rfl i6 ?_;refine r_ (i8 rfl (fun w n=>un n u.o.a5I (i:=0) y4 O)) ?_;refine xI ?_;refine h_ 16 rfl i6 ?_;refine e_ rfl (aD (x.o.a5I.getD 0 0) v6) (fun h hh _=>u.g.le hh) rfl ?_;refine E5 [17,18,19,20,21] ?_
    rotate_left 1
    refine r_ (i8 rfl (fun w n=>un n u.o.a5I (i:=0) y4 O)) ?_;refine ae ?_;refine h_ 6 rfl i6 ?_;refine e_ rfl (aD x.o.val hx.val) (fun h hh _=>u.g.le hh) rfl ?_;refine E5 [7,8] ?_;refine h_ 16 rfl i6 ?_;refine e_ rfl (aD (x.o.a5I.getD 0 0) v6) (fun h hh _=>u.g.le hh) rfl ?_;refine E5 [17,18,19,20,21] ?_
    rotate_left 1
    all_goals (refine u7 ?_)
    all_goals exact y5 ({x.r with code:=Qt++R4 x.o.val++[32]++R4 (x.o.a5I.getD 0 0)},s,sl,[],(y.da,y.dc),F) ⟨l6.le_refl _,by unfold L6;rw[zk e7,zu M];exact⟨rfl,by rw[show uL x=Qt++R4 x.o.val++[32]++R4 (x.o.a5I.getD 0 0) from zk w4],rfl⟩,qy,D,zw _⟩ rfl (fun w n=>by
     obtain⟨xb,xc,xk,xm,xo,xy,y3,z0,z1,z2,u0,u1,u2,xr,xz⟩:=x;obtain rfl:xz=L0:=hz;simp only[C0,z8];exact C1 (A:=[_,_,_,_]) (J:=[]) tk n)
   ·have v7:x.o.a5I=[]:=jx (qu h);refine u7 ?_;exact y5 (x.r,s,sl,[],(y.da,y.dc),F) ⟨l6.le_refl _,by unfold L6;rw[zk e7,zu M];exact⟨rfl,by rw[show uL x=x.r.code from zu v7],rfl⟩,qy,D,zw _⟩ rfl h0
  have M:¬x.c.kind=14:=zq q8.symm;refine u7 ?_;have h6:∀(t:l6) (v:Value) (A:List As),x.c.kind=8\/x.c.kind=9->Oz g x s sl d y t.heap v A->F.le t->∃(r:RR) (k:SE) (f:SL) (l:List RM) (o:AC),v=.tuple #[]/\(L6 x s r k (l.map Prod.fst)/\(∀m∈l,kI m t.heap)/\U3 k f t.heap/\l.length<=200000)/\A++R=C2 g {x with r:=r,z:=L0}::l5 f.ra k.a5G.a5F f.rc::E8 x.b k f d (C0 y l o.1 o.2)::r8 o.1 (y.rl++l) o.2::(Y9 l++R):=fun t v A hk ⟨hv,ho⟩ v5=>by
   have k0:U3 s sl t.heap:=Mn.le v5.heap D;rcases ho with⟨hn,a,c,V⟩|⟨b,ra,rc,fa,fc,a,c,hb,V⟩
   ·refine⟨qo x.c.tag,s,sl,[],(a,c),hv,⟨?_,qy,k0,zw _⟩,by rw[V];rfl⟩;unfold L6;rw[zk e7,zk M,zu hk];exact .inl ⟨hn,rfl,rfl,rfl⟩
   ·refine⟨{x.r with code:=aF x.c.kind},{s with a5G:=P3 b,a5H:=2,ro:=decide (x.c.kind=9)},{sl with ra:=ra,rc:=rc},mA b fa fc,(a,c),hv,⟨?_,fun m S=>?_,⟨k0.a5I,k0.cmd⟩,by simp⟩,?_⟩
    ·unfold L6;rw[zk e7,zk M,zu hk];exact .inr ⟨b,hb,rfl,rfl,rfl⟩
    ·rcases ky.1 S with rfl|S
     ·exact .inr ⟨fa,fc,rfl⟩
     ·simp at S;rcases S with rfl|rfl|rfl|rfl<;>exact .inl ⟨⟨rfl,o0.nil _ _,o0.nil _ _,o0.nil _ _,qy⟩,rfl,rfl⟩
    ·rw[V,IK];obtain⟨xb,xc,xk,xm,xo,xy,y3,z0,z1,z2,u0,u1,u2,xr,xz⟩:=x;obtain rfl:xz=L0:=hz;rfl
  refine C6 ?_;refine f_ ((o_ rfl rfl).eq (v':=.bool b8) (qn ((qz).trans h8.symm))) ?_;refine p_ ?_
  cases b8
  case true=>
   have e8:x.c.kind=8:=qr h8.symm;refine p_ ?_;refine A8 (sR g x s sl d y hx.ok hz hx.ml qb) u ?_;intro v A t p U;obtain⟨r,k,f,l,o,rfl,⟨h1,h2,h3,h4⟩,V⟩:=h6 t v A (.inl e8) U p;refine I6 (H':=C2 g {x with r:=r,z:=L0}::l5 f.ra k.a5G.a5F f.rc::E8 x.b k f d (C0 y l o.1 o.2)::r8 o.1 (y.rl++l) o.2::(Y9 l++R)) (fun w n=>by rw[<-V];exact n) ?_;refine u7 ?_;exact y5 (r,k,f,l,o,t) ⟨p,h1,h2,h3,h4⟩ rfl i_
  have e8:¬x.c.kind=8:=zq h8.symm;refine C6 ?_;refine f_ ((o_ rfl rfl).eq (v':=.bool b9) (qn ((qz).trans h9.symm))) ?_;refine p_ ?_
  cases b9
  case true=>
   have e9:x.c.kind=9:=qr h9.symm;refine p_ ?_;refine A8 (sR g x s sl d y hx.ok hz hx.ml qb) u ?_;intro v A t p U;obtain⟨r,k,f,l,o,rfl,⟨h1,h2,h3,h4⟩,V⟩:=h6 t v A (.inr e9) U p;refine I6 (H':=C2 g {x with r:=r,z:=L0}::l5 f.ra k.a5G.a5F f.rc::E8 x.b k f d (C0 y l o.1 o.2)::r8 o.1 (y.rl++l) o.2::(Y9 l++R)) (fun w n=>by rw[<-V];exact n) ?_;refine u7 ?_;exact y5 (r,k,f,l,o,t) ⟨p,h1,h2,h3,h4⟩ rfl i_
  have e9:¬x.c.kind=9:=zq h9.symm;have Y:¬(x.c.kind=8\/x.c.kind=9):=fun h=>h.elim e8 e9;refine C6 ?_;refine f_ ((o_ rfl rfl).eq (v':=.bool v0) (qn ((qz).trans q9.symm))) ?_;refine p_ ?_
  cases v0
  case true=>
   have X:x.c.kind=12:=qr q9.symm;have k8:x.c.a5N.length<=2000000000:=hx.ok.c.pat;have v8:(R8 x.c.a5N).length<=2000000000:=(by rw[Nt];exact k8);have a1:x.m.a5C.length<=8:=(by have:=hx.ml.a5C;simpa using this);refine I8 7 ?_;refine n7 (ι:=List RM×AC) (fun q=>q.1.length<=8/\∀m∈q.1,∃b∈x.m.s.a5C,m=(Nw b.name,L0)) (fun _=>[(0,m6 g)]) (fun q=>C2 g x::l5 sl.ra s.a5G.a5F sl.rc::E8 x.b s sl d (C0 y q.1 q.2.1 q.2.2)::r8 q.2.1 (y.rl++q.1) q.2.2::R) ?_ ?_
   ·refine n9 ?_;refine o9 (ι:=Nat×List RM×AC) (fun i=>i.1<=x.m.a5C.length/\i.2.1.length<=i.1/\∀m∈i.2.1,∃b∈x.m.s.a5C,m=(Nw b.name,L0)) (fun i=>[(0,m6 g),(78,.slice x.m.ba x.m.a5C.length x.m.bc),(79,.int .i64 (x.m.a5C.length:Nat)),(80,.int .i64 (i.1:Nat))]) (fun i=>C2 g x::l5 sl.ra s.a5G.a5F sl.rc::E8 x.b s sl d (C0 y i.2.1 i.2.2.1 i.2.2.2)::r8 i.2.2.1 (y.rl++i.2.1) i.2.2.2::R) (fun i=>x.m.a5C.length-i.1) (0,[],(y.da,y.dc)) ⟨zw _,zr _,qy⟩ sub (fun w n=>by simp only[C0,z8];exact n) ?_;rintro⟨j,l,o⟩ ⟨hj,w5,T⟩;simp only at hj w5 T;refine R6 ?_ ?_<;>intro h
    ·have q1:j<x.m.a5C.length:=(by have:=qr h;omega);have y0:=A0 u.m.a5C p7 qp q1;have v9:x.m.a5C[j].x∈x.m.s.a5C:=Zk (zx q1);have q3:x.m.a5C[j].name.length<=1000000:=(by have:=(hx.ml.box _ v9).name;show(x.m.a5C[j].x).name.length<=_;omega);refine I8 0 ?_;refine n7 (ι:=List RM×AC) (fun q=>q.1.length<=j+1/\∀m∈q.1,∃b∈x.m.s.a5C,m=(Nw b.name,L0)) (fun _=>[(0,m6 g),(78,.slice x.m.ba x.m.a5C.length x.m.bc),(79,.int .i64 (x.m.a5C.length:Nat)),(80,.int .i64 (j:Nat))]) (fun q=>C2 g x::l5 sl.ra s.a5G.a5F sl.rc::E8 x.b s sl d (C0 y q.1 q.2.1 q.2.2)::r8 q.2.1 (y.rl++q.1) q.2.2::R) ?_ ?_
     ·refine n9 ?_;refine C6 ?_;refine f_ (m8 rfl y0 rfl qb) ?_;refine r_ (w8 rfl (fun w n=>fq (C:=cZ) (u.m.a5C.le n.keep) p7 qp q1 y4) (p7 _)) ?_;refine i7 rfl ?_;intro g3;refine p_ ?_;refine I8 0 ?_;refine n7 (ι:=Bool) (fun _=>True) (fun q=>[(3,m6 g3),(107,.bool q),(0,m6 g),(78,.slice x.m.ba x.m.a5C.length x.m.bc),(79,.int .i64 (x.m.a5C.length:Nat)),(80,.int .i64 (j:Nat))]) (fun _=>By g3 x.m.a5C[j]::C2 g x::l5 sl.ra s.a5G.a5F sl.rc::E8 x.b s sl d (C0 y l o.1 o.2)::r8 o.1 (y.rl++l) o.2::R) ?_ ?_
      ·obtain⟨q5,h5⟩:=o7 (decide (x.m.a5C[j].name=[73,78,66,79,88]))
       cases q5
       ·refine u7 ?_;refine D9 [4,6,10,17,20] [7] [C2 g x,By g3 x.m.a5C[j]] 24 ?_;refine wd [0,1,2,3,4,5,6] ?_;refine h_ 7 rfl i6 ?_;refine c_ (C:=[]) (nJ x.c.a5N x.m.a5C[j].name k8 q3) qw ?_;rintro v A ⟨⟨q,rfl⟩,rfl⟩;cases q;rotate_left 1;(refine F7 ?_;refine dH (.inr (aW I4)) ?_;refine wd [8,9,10] ?_;(first|refine s_ 11 ?_|refine t_ 11 ?_);refine wd [12,13,14,15,16,17,19,20] ?_;refine h_ 18 rfl i6 ?_;(first|refine T3 rfl rfl rfl rfl rfl rfl rfl ?_|refine Y2 rfl rfl rfl rfl rfl rfl ?_);refine F7 ?_;refine dH (.inr (aW I4)) ?_;refine h_ 21 rfl i6 ?_;(first|refine T3 rfl rfl rfl rfl rfl rfl rfl ?_|refine Y2 rfl rfl rfl rfl rfl rfl ?_);refine F7 ?_;refine dH (.inl i6) ?_;refine wd [22,23] ?_;exact g_ true trivial (fun w n=>C1 (A:=[_,_,_,_,_]) (J:=[]) tk n));refine gn [8,9,10] ?_;(first|refine s_ 11 ?_|refine t_ 11 ?_|refine F6 11 rfl ((C5 rfl rfl).eq (v':=.bool false) (qn h5.symm)) rfl rfl rfl rfl rfl rfl i6 ?_);refine wd [12,13,14,15,16,17,19,20] ?_;refine h_ 18 rfl i6 ?_;(first|refine u_ ?_|(refine v_ ?_;refine e_ rfl (I2 x.c.a5N qb) qw rfl ?_));refine ae ?_;refine h_ 21 rfl i6 ?_;(first|refine u_ ?_|(refine v_ ?_;refine c_ (C:=[]) (nJ (R8 x.c.a5N) x.m.a5C[j].name v8 q3) qw ?_;rintro v A ⟨⟨q2,rfl⟩,rfl⟩));refine E5 [22,23] ?_;exact g_ _ trivial (fun w n=>C1 (A:=[_,_,_,_,_]) (J:=[]) tk n)
       ·refine u7 ?_;refine D9 [4,6,10,17,20] [7] [C2 g x,By g3 x.m.a5C[j]] 24 ?_;refine wd [0,1,2,3,4,5,6] ?_;refine h_ 7 rfl i6 ?_;refine c_ (C:=[]) (nJ x.c.a5N x.m.a5C[j].name k8 q3) qw ?_;rintro v A ⟨⟨q,rfl⟩,rfl⟩;cases q;rotate_left 1;(refine F7 ?_;refine dH (.inr (aW I4)) ?_;refine wd [8,9,10] ?_;(first|refine s_ 11 ?_|refine t_ 11 ?_);refine wd [12,13,14,15,16,17,19,20] ?_;refine h_ 18 rfl i6 ?_;(first|refine T3 rfl rfl rfl rfl rfl rfl rfl ?_|refine Y2 rfl rfl rfl rfl rfl rfl ?_);refine F7 ?_;refine dH (.inr (aW I4)) ?_;refine h_ 21 rfl i6 ?_;(first|refine T3 rfl rfl rfl rfl rfl rfl rfl ?_|refine Y2 rfl rfl rfl rfl rfl rfl ?_);refine F7 ?_;refine dH (.inl i6) ?_;refine wd [22,23] ?_;exact g_ true trivial (fun w n=>C1 (A:=[_,_,_,_,_]) (J:=[]) tk n));refine gn [8,9,10] ?_;(first|refine s_ 11 ?_|refine t_ 11 ?_|refine F6 11 rfl ((C5 rfl rfl).eq (v':=.bool true) (qn h5.symm)) rfl rfl rfl rfl rfl rfl i6 ?_);refine wd [12,13,14,15,16,17,19,20] ?_;refine h_ 18 rfl i6 ?_;(first|refine u_ ?_|(refine v_ ?_;refine e_ rfl (I2 x.c.a5N qb) qw rfl ?_));refine ae ?_;refine h_ 21 rfl i6 ?_;(first|refine u_ ?_|(refine v_ ?_;refine c_ (C:=[]) (nJ (R8 x.c.a5N) x.m.a5C[j].name v8 q3) qw ?_;rintro v A ⟨⟨q2,rfl⟩,rfl⟩));refine E5 [22,23] ?_;exact g_ _ trivial (fun w n=>C1 (A:=[_,_,_,_,_]) (J:=[]) tk n)
      intro a2 _;refine O1 ?_ ?_<;>intro h
      ·refine u7 ?_;refine D9 [3,5] [7] [C2 g x,By g3 x.m.a5C[j]] 8 ?_;refine wd [0,1,2,3,4,5] ?_;refine w_ 6 rfl (y7 (ps:=[(0,.const (.int .i64 11)),(8,.tmp 113)]) (vs:=[(0,.int .i64 11),(8,B x.m.a5C[j].name)]) (cells:=(tD (Nw x.m.a5C[j].name) L0).toArray) rfl i6) ?_;refine h_ 7 rfl i6 ?_;refine c_ (V4 x.b s sl d (C0 y l o.1 o.2) (Nw x.m.a5C[j].name) L0 (by simp only[zz];omega)) qw ?_;rintro v A ⟨rfl,a9,c9,rfl⟩;refine E5 [] ?_;rw[show E_ (C0 y l o.1 o.2) (Nw x.m.a5C[j].name,L0) a9 c9=C0 y (l++[(Nw x.m.a5C[j].name,L0)]) a9 c9 from by simp[E_,C0]];exact g_ (l++[(Nw x.m.a5C[j].name,L0)],a9,c9) ⟨by rw[zz];simp only[zy,z6];omega,fun m S=>by rcases zc.1 S with S|S;exact T m S;exact⟨_,v9,zg.1 S⟩⟩ (fun w n=>C1 (A:=[_,_,_,_]) (J:=[_]) tk n)
      ·refine u7 ?_;exact g_ (l,o) ⟨by simp only;omega,T⟩ (fun w n=>C1 (A:=[_,_,_,_]) (J:=[_]) tk n)
     rintro⟨l2,o2⟩ ⟨w0,w1⟩;simp only at w0 w1;refine y8 ?_;exact l8 (i:=(j,l,o)) (j+1,l2,o2) ⟨q1,w0,w1⟩ qg sub i_
    ·refine u7 ?_;exact g_ (l,o) ⟨by simp only;omega,T⟩ i_
   rintro⟨l,o⟩ ⟨w2,T⟩;simp only at w2 T;have q4:∀h:l9,∀m∈l,fE m.1 m.2 h/\yT m.2:=fun h m S=>by
    obtain⟨b,hb,rfl⟩:=T m S;exact⟨⟨rfl,o0.nil _ _,o0.nil _ _,o0.nil _ _,qy⟩,rfl,rfl⟩
   refine u7 ?_;exact y5 (x.r,s,sl,l,o,F) ⟨l6.le_refl _,by
    unfold L6;rw[zk e7,zk M,zk Y,zu X];exact⟨rfl,rfl,by rw[zm];exact w2,fun q U=>by obtain⟨m,S,rfl⟩:=jv.1 U;obtain⟨b,hb,rfl⟩:=T m S;exact⟨b,hb,rfl⟩⟩,fun m S=>.inl (q4 _ m S),D,by simp only;omega⟩ rfl (fun w n=>by rw[q0,nK (q4 F.heap)];exact n)
  have X:¬x.c.kind=12:=zq q9.symm;refine C6 ?_;refine f_ ((o_ rfl rfl).eq (v':=.bool v1) (qn ((qz).trans x0.symm))) ?_;refine p_ ?_
  cases v1
  case true=>
   have Z:x.c.kind=13:=qr x0.symm;refine p_ ?_;refine A8 (EC g x s sl d y hx.ok hz hx.ml qb) ⟨u,D⟩ ?_;intro v A t p U;obtain⟨r,k,f,l,o,rfl,⟨h1,h2,h3,h4⟩,V⟩:=x9 _ t v A (fun r k l h=>by unfold L6;rw[zk e7,zk M,zk Y,zk X,zu Z];exact⟨h,by rcases h.2 with⟨_,h⟩|⟨_,_,_,h,_⟩<;>rw[h]<;>simp⟩) U p;refine I6 (H':=C2 g {x with r:=r,z:=L0}::l5 f.ra k.a5G.a5F f.rc::E8 x.b k f d (C0 y l o.1 o.2)::r8 o.1 (y.rl++l) o.2::(Y9 l++R)) (fun w n=>by rw[<-V];exact n) ?_;refine u7 ?_;exact y5 (r,k,f,l,o,t) ⟨p,h1,h2,h3,h4⟩ rfl i_
  have Z:¬x.c.kind=13:=zq x0.symm;refine C6 ?_;refine f_ ((o_ rfl rfl).eq (v':=.bool v2) (qn ((qz).trans x1.symm))) ?_;refine p_ ?_
  cases v2
  case true=>
   have k9:x.c.kind=15:=qr x1.symm;refine p_ ?_;refine A8 (EB g x s sl d y hx.ok qb qb) u ?_;rintro v A t p ⟨rfl,q7,m,z,a,c,hn,q4,w7,rfl⟩;refine u7 ?_;exact y5 (x.r,s,sl,[(BU q7 m,z)],(a,c),t) ⟨p,by unfold L6;rw[zk e7,zk M,zk Y,zk X,zk Z,zu k9];exact⟨rfl,rfl,q7,m,rfl⟩,(fun q U=>by rw[zg.1 U];exact .inl ⟨q4,w7⟩),Mn.le p.heap D,by simp⟩ rfl (fun w n=>by rw[q0];exact n)
  have k9:¬x.c.kind=15:=zq x1.symm;refine C6 ?_;refine f_ ((o_ rfl rfl).eq (v':=.bool v3) (qn ((qz).trans x2.symm))) ?_;refine p_ ?_
  cases v3
  case true=>
   have q6:x.c.kind=16:=qr x2.symm;refine p_ ?_;refine A8 (zT g x s sl d y hx.ok hz qb y2 (by have:=hx.ok.c.a5J;omega) qb) ⟨u,D⟩ ?_;intro v A t p U;obtain⟨r,k,f,l,o,rfl,⟨h1,h2,h3,h4⟩,V⟩:=x9 _ t v A (fun r k l h=>by unfold L6;rw[zk e7,zk M,zk Y,zk X,zk Z,zk k9,zu q6];exact⟨h,by have:=h.1;omega⟩) U p;refine I6 (H':=C2 g {x with r:=r,z:=L0}::l5 f.ra k.a5G.a5F f.rc::E8 x.b k f d (C0 y l o.1 o.2)::r8 o.1 (y.rl++l) o.2::(Y9 l++R)) (fun w n=>by rw[<-V];exact n) ?_;refine u7 ?_;exact y5 (r,k,f,l,o,t) ⟨p,h1,h2,h3,h4⟩ rfl i_
  have q6:¬x.c.kind=16:=zq x2.symm;refine C6 ?_;refine f_ ((o_ rfl rfl).eq (v':=.bool v4) (qn ((qz).trans x3.symm))) ?_;refine p_ ?_
  cases v4
  case true=>
   have y1:x.c.kind=17:=qr x3.symm;refine p_ ?_;refine A8 (ED g x s sl d y hx.ok hz qb y2 hx.uo.1 hx.mo qb) ⟨u,D⟩ ?_;intro v A t p U;obtain⟨r,k,f,l,o,rfl,⟨h1,h2,h3,h4⟩,V⟩:=x9 _ t v A (fun r k l h=>by unfold L6;rw[zk e7,zk M,zk Y,zk X,zk Z,zk k9,zk q6,zu y1];exact⟨h,by have:=h.1;omega⟩) U p;refine I6 (H':=C2 g {x with r:=r,z:=L0}::l5 f.ra k.a5G.a5F f.rc::E8 x.b k f d (C0 y l o.1 o.2)::r8 o.1 (y.rl++l) o.2::(Y9 l++R)) (fun w n=>by rw[<-V];exact n) ?_;refine u7 ?_;exact y5 (r,k,f,l,o,t) ⟨p,h1,h2,h3,h4⟩ rfl i_
  have y1:¬x.c.kind=17:=zq x3.symm;refine u7 ?_;exact y5 (x.r,s,sl,[],(y.da,y.dc),F) ⟨l6.le_refl _,by unfold L6;rw[zk e7,zk M,zk Y,zk X,zk Z,zk k9,zk q6,zk y1];exact qm,qy,D,zw _⟩ rfl h0
 rintro r k f l o t ⟨p,h1,h2,h3,h4⟩;refine G_ (A:=C2 g {x with r:=r,z:=L0}::l5 f.ra k.a5G.a5F f.rc::(O3 x.b k f d (C0 y l o.1 o.2)++Y9 l)) (v:=.tuple #[]) p ⟨rfl,r,k,f,l,o.1,o.2,h1,h2,h3,h4,rfl⟩ ?_;exact l_ rfl _ qh i_
abbrev ii:Bs:=[116,104,101,32,115,101,115,115,105,111,110,32,105,115,32,103,111,110,101]
abbrev bH:Bs:=[116,104,101,32,109,97,105,108,98,111,120,32,105,115,32,103,111,110,101]
abbrev sS(x:AN):Bool:=decide (x.c.kind=8)||decide (x.c.kind=9)
abbrev fe(x:AN):Bool:=decide (x.c.kind=16)||decide (x.c.kind=17)||decide (x.c.kind=15)
abbrev qB(x:AN)(s:SE):SE:=if(sS x||decide (x.c.kind=4))=true then{s with a5H:=1,a5G:=AA,ro:=false} else s
abbrev uT(x:AN):AN:={x with r:=dA x.c.tag,z:=L0}
def fm(x:AN)(s s':SE)(d':DD):Prop:=
 if x.o.code=16 then s'={s with a5H:=3}/\d'={F9 with a5Q:=[H7 ii],close:=true}
 else if x.c.kind=3 then s'={s with a5H:=3}/\d'={F9 with a5Q:=[H7 cG,dA x.c.tag],close:=true}
 else∃r s1 l1 s2 l2,(if x.o.code=0 then L6 (uT x) (qB x s) r s1 l1 else s1=qB x s/\l1=[]/\r=lW x.c.tag (mH x.c.kind x.o.code).1 (mH x.c.kind x.o.code).2)
  /\(if s1.a5H=2/\sS x=false/\x.bx.val≠0 then s2={s1 with a5G:=(T7 s1.a5G x.bx.x (!fe x) s1.cond).1}/\l2=(T7 s1.a5G x.bx.x (!fe x) s1.cond).2 else s2=s1/\l2=[])
  /\(if s1.a5H=2/\sS x=false/\x.bx.val=0 then s'={s2 with a5H:=3}/\d'={F9 with a5Q:=l1++l2++[r,H7 bH],close:=true} else s'=s2/\d'={F9 with a5Q:=l1++l2++[r]})
def a1L(g:Nat)(x:AN)(s:SE)(h:l9)(v:Value)(A:List As):Prop:=v=.tuple #[]/\∃x' s' d' sl' y',x'.b=x.b/\fm x s s' d'/\d'.a5Q=y'.rl.map Prod.fst/\(∀m∈y'.rl,kI m h)/\U3 s' sl' h/\y'.ql=cY/\y'.wa=none/\y'.wc=0/\A=C2 g x'::l5 sl'.ra s'.a5G.a5F sl'.rc::(O3 x'.b s' sl' d' y'++Y9 y'.rl)
theorem lG{x:AN}{s c:SE}{r:RR}{l:List RR}(h:L6 x s r c l)(f:U4 x.m.s)(a:s.a5G.a5F.length<=50000):c.a5G.a5F.length<=50000:=by
 have d:∀e,qt x s e r c l->c.a5G.a5F.length<=50000:=fun e h=>by
  obtain⟨_,⟨g,rfl,i⟩,_⟩:=h;have:=i.len;show g.a5F.length<=_;omega
 unfold L6 at h;split at h
 ·rw[h.1];exact a
 split at h
 ·rw[h.1];exact a
 split at h
 ·rcases h with⟨_,rfl,_⟩|⟨b,j,rfl,_⟩
  ·exact a
  ·have:=(f.box b (aE j)).lts;show(P3 b).a5F.length<=_;simp only[P3,zm];omega
 split at h
 ·rw[h.1];exact a
 split at h
 ·rw[h.1];exact a
 split at h
 ·rw[h.1];exact a
 split at h
 ·exact d _ h
 split at h
 ·exact d _ h
 ·rw[h.1];exact a
theorem QA{x:AN}{s a:SE}{r:RR}{l:List RR}(h:L6 x s r a l)(hp:x.r.values=[]/\x.r.nums=[]/\x.r.a5R=[]):r.values=[]/\r.nums=[]/\r.a5R=[]:=by
 have d:∀e,qt x s e r a l->r.values=[]/\r.nums=[]/\r.a5R=[]:=fun e h=>by
  obtain⟨_,_,h,_⟩:=h;rcases h with⟨c,rfl⟩|rfl
  ·exact hp
  ·exact qm
 unfold L6 at h;split at h
 ·rw[h.2.1];exact hp
 split at h
 ·rw[h.2.1];exact hp
 split at h
 ·rcases h with⟨_,_,rfl,_⟩|⟨b,f,_,rfl,_⟩
  ·exact qm
  ·exact hp
 split at h
 ·rw[h.2.1];exact hp
 split at h
 ·rcases h.2 with⟨rfl,_⟩|⟨rfl,_⟩
  ·exact qm
  ·exact hp
 split at h
 ·rw[h.2.1];exact hp
 split at h
 ·exact d _ h
 split at h
 ·exact d _ h
 ·rw[h.2.1];exact hp
theorem fW(b:BX):∀(k:Nat) (a:List (Nat×Nat)),(V1 b k a).1.length<=a.length/\(V1 b k a).2.length<=k
 |0,a=>⟨zr _,zr _⟩
 |k+1,a=>by
  unfold V1;split
  ·have:=fW b k a;exact⟨this.1,by omega⟩
  ·have:=fW b k (a.eraseIdx k);have c:(a.eraseIdx k).length<=a.length:=List.length_eraseIdx_le ..;exact⟨by simp only;omega,by simp only[zy];omega⟩
theorem sT(v:VW)(b:BX)(e c:Bool):(T7 v b e c).2.length<=2*v.a5F.length+1:=by
 unfold T7;split
 ·exact zw _
 ·have h:=fW b v.a5F.length v.a5F;simp only;generalize hq:(if e=true then V1 b v.a5F.length v.a5F else(v.a5F,[]))=q;have a:q.1.length<=v.a5F.length/\q.2.length<=v.a5F.length:=by
   rw[<-hq];split
   ·exact h
   ·exact⟨zr _,zw _⟩
  have d:∀(f:((Nat×Nat)×Option LT)×Nat->Option RR),((q.1.map (X8 b)).zipIdx.filterMap f).length<=v.a5F.length:=fun f=>by
   refine jd (List.length_filterMap_le _ _) ?_;simp;exact a.1
  rw[zz,zz];have g:=d (fun h=>h.1.2.map fun x=>tH x (h.2+1) c);split<;>simp only[z6,zy]<;>omega
theorem QB(g:Nat)(x:AN)(s:SE)(sl:SL)(hx:Nv x s)(hf:∀lm∈x.bx.ls,lm.t.a5R.length<=16):
  Cm prog 78 [m6 g] (fun h=>cI x h/\U3 s sl h) (C2 g x::l5 sl.ra s.a5G.a5F sl.rc::O3 x.b s sl F9 N0) (a1L g x s):=by
 obtain⟨v3,q3⟩:=o7 (decide (x.o.code=16));obtain⟨c0,u1⟩:=o7 (decide (x.o.code=0));obtain⟨b3,h3⟩:=o7 (decide (x.c.kind=3));obtain⟨b8,h8⟩:=o7 (decide (x.c.kind=8));obtain⟨b9,h9⟩:=o7 (decide (x.c.kind=9));obtain⟨b4,h4⟩:=o7 (decide (x.c.kind=4));obtain⟨v4,v5⟩:=o7 (decide (x.c.kind=15));obtain⟨v6,v7⟩:=o7 (decide (x.c.kind=16));obtain⟨v8,v9⟩:=o7 (decide (x.c.kind=17));obtain⟨th,q4⟩:=o7 (decide (x.bx.val=0));refine x8 213 func78 rfl rfl rfl ?_;rintro F R ⟨S,h0⟩;refine I8 6 ?_;refine n7 (ι:=Unit) (fun _=>x.o.code≠16/\x.c.kind≠3) (fun _=>[(0,m6 g),(2,.int .i64 (x.c.kind:Nat))]) (fun _=>C2 g x::l5 sl.ra s.a5G.a5F sl.rc::E8 x.b s sl F9 N0::r8 none [] 0::R) ?_ ?_
 ·refine n9 ?_;refine aH ?_;refine f_ ((o_ rfl rfl).eq (v':=.bool v3) (qn q3.symm)) ?_;refine p_ ?_
  cases v3
  case true=>
   have k8:x.o.code=16:=qr q3.symm;refine O2 ?_;refine c_ (tP x.b s sl F9 N0 ii qp) qw ?_;rintro v A ⟨rfl,a,c,rfl⟩;refine oz ?_;refine G_ (A:=C2 g x::l5 sl.ra s.a5G.a5F sl.rc::(O3 x.b {s with a5H:=3} sl {F9 with a5Q:=[H7 ii],close:=true} (E_ N0 (H7 ii,L0) a c)++Y9 [(H7 ii,L0)])) (v:=.tuple #[]) (l6.le_refl _) ⟨rfl,x,{s with a5H:=3},{F9 with a5Q:=[H7 ii],close:=true},sl,E_ N0 (H7 ii,L0) a c,rfl,by unfold fm;rw[zu k8];exact qh,rfl,(fun m j=>by rw[zg.1 (show m∈[(H7 ii,L0)] from j)];exact .inl ⟨⟨rfl,o0.nil _ _,o0.nil _ _,o0.nil _ _,qy⟩,rfl,rfl⟩),⟨h0.a5I,h0.cmd⟩,rfl,rfl,rfl,rfl⟩ ?_;exact l_ rfl _ qh (fun w C=>C1 (A:=[_,_,E8 x.b {s with a5H:=3} sl {F9 with close:=true} (E_ N0 (H7 ii,L0) a c),r8 a [(H7 ii,L0)] c]) (J:=[]) tk C)
  have k8:¬x.o.code=16:=zq q3.symm;refine p_ ?_;refine f_ ((o_ rfl rfl).eq (v':=.bool b3) (qn ((qz).trans h3.symm))) ?_;refine p_ ?_
  cases b3
  case true=>
   have e3:x.c.kind=3:=qr h3.symm;refine u7 ?_;refine D9 [3,8] [9] [C2 g x] 10 ?_;refine wd [0,1,2,3,4,5,6,7,8] ?_;refine h_ 9 rfl i6 ?_;refine c_ (oL x.b s sl F9 N0 x.c.tag qp) qw ?_;rintro v A ⟨rfl,a,c,rfl⟩;refine E5 [] ?_;refine A3 ?_;refine G_ (A:=C2 g x::l5 sl.ra s.a5G.a5F sl.rc::(O3 x.b {s with a5H:=3} sl {F9 with a5Q:=[H7 cG,dA x.c.tag],close:=true} {N0 with da:=a,dc:=c,rl:=[(H7 cG,L0),(dA x.c.tag,L0)]}++Y9 [(H7 cG,L0),(dA x.c.tag,L0)])) (v:=.tuple #[]) (l6.le_refl _) ⟨rfl,x,{s with a5H:=3},{F9 with a5Q:=[H7 cG,dA x.c.tag],close:=true},sl,{N0 with da:=a,dc:=c,rl:=[(H7 cG,L0),(dA x.c.tag,L0)]},rfl,by unfold fm;rw[zk k8,zu e3];exact qh,rfl,(fun m j=>by simp at j;rcases j with rfl|rfl<;>exact .inl ⟨⟨rfl,o0.nil _ _,o0.nil _ _,o0.nil _ _,qy⟩,rfl,rfl⟩),⟨h0.a5I,h0.cmd⟩,rfl,rfl,rfl,rfl⟩ ?_;exact l_ rfl _ qh (fun w C=>C1 (A:=[_,_,E8 x.b {s with a5H:=3} sl {F9 with close:=true} {N0 with da:=a,dc:=c,rl:=[(H7 cG,L0),(dA x.c.tag,L0)]},r8 a [(H7 cG,L0),(dA x.c.tag,L0)] c]) (J:=[]) tk C)
  have e3:¬x.c.kind=3:=zq h3.symm;refine u7 ?_;exact g_ () ⟨k8,e3⟩ i_
 rintro _ ⟨k8,e3⟩;obtain⟨q,hq⟩:=o7 ((b8||b9));have D:sS x=q:=by rw[hq,h8,h9]
 refine u7 ?_;refine I8 0 ?_;refine x6 [(0,m6 g),(2,.int .i64 (x.c.kind:Nat)),(3,.bool q)] (C2 g x::l5 sl.ra s.a5G.a5F sl.rc::E8 x.b s sl F9 N0::r8 none [] 0::R) ?_ ?_
 ·cases b8
  all_goals (
   refine p_ ?_;refine f_ ((o_ rfl rfl).eq (qn ((qz).trans h8.symm))) ?_;refine y8 ?_;(first|refine u_ ?_|(refine v_ ?_;refine f_ ((o_ rfl rfl).eq (v':=.bool b9) (qn ((qz).trans h9.symm))) ?_));refine y8 ?_)
  all_goals (subst hq;exact p8 sub i_)
 obtain⟨q2,k9⟩:=o7 ((q||b4));have T:qB x s=if q2=true then{s with a5H:=1,a5G:=AA,ro:=false} else s:=by unfold qB;rw[D,k9,h4]
 refine u7 ?_;refine I8 0 ?_;refine x6 [(0,m6 g),(2,.int .i64 (x.c.kind:Nat)),(3,.bool q),(48,.bool q2)] (C2 g x::l5 sl.ra s.a5G.a5F sl.rc::E8 x.b s sl F9 N0::r8 none [] 0::R) ?_ ?_
 ·clear D T hq
  cases q
  all_goals (
   refine E4 ?_;(first|refine u_ ?_|(refine v_ ?_;refine f_ ((o_ rfl rfl).eq (v':=.bool b4) (qn ((qz).trans h4.symm))) ?_));refine p_ ?_)
  all_goals (subst k9;exact p8 sub i_)
 refine u7 ?_;refine n7 (ι:=SE×SL) (fun p=>p.1=qB x s/\U3 p.1 p.2 F.heap) (fun _=>[(0,m6 g),(2,.int .i64 (x.c.kind:Nat)),(3,.bool q)]) (fun p=>C2 g x::l5 p.2.ra p.1.a5G.a5F p.2.rc::E8 x.b p.1 p.2 F9 N0::r8 none [] 0::R) ?_ ?_
 ·refine o8 rfl ?_ ?_<;>intro h
  ·refine u7 ?_;refine D9 [3,7,11] [16,20,24] [C2 g x] 25 ?_;refine wd [0,1,2,3,4,5,6,7,8,9,10,11,12,13,14,15,16,17,18,19,20,21,22,23,24] ?_;exact g_ ({s with a5H:=1,a5G:=AA,ro:=false},{sl with ra:=none,rc:=0}) ⟨by rw[T,zu h],⟨h0.a5I,h0.cmd⟩⟩ (fun w C=>C1 (A:=[_,l5 none [] 0,E8 x.b {s with a5H:=1,a5G:=AA,ro:=false} {sl with ra:=none,rc:=0} F9 N0,_]) (J:=[l5 sl.ra s.a5G.a5F sl.rc]) tk (C.addNil 72 2))
  ·refine u7 ?_;exact g_ (s,sl) ⟨by rw[T,h];rfl,h0⟩ i_
 rintro⟨s0,q5⟩ ⟨u2,q6⟩;simp only at u2 q6;have u8:s0.a5G.a5F.length<=50000:=by rw[u2,T];split;exact zw _;exact hx.a5F
 obtain⟨O,n⟩:=o7 (uT x);have y2:Nv O s0:=by rw[n];exact⟨⟨hx.ok.ls,hx.ok.fl,hx.ok.bl,hx.ok.body,hx.ok.c⟩,hx.ml,u8,hx.us,hx.uo,hx.mo,hx.val⟩
 have w0:cI O F.heap:=by rw[n];exact⟨S.g,S.c,S.m,S.o,S.bx,S.us,S.bl⟩
 have a0:O.z=L0:=by rw[n]
 have a1:O.b=x.b:=by rw[n]
 have a2:O.c=x.c:=by rw[n]
 have z0:O.o=x.o:=by rw[n]
 refine wk 10 ?_;refine D5 (H':=C2 g O::l5 q5.ra s0.a5G.a5F q5.rc::E8 O.b s0 q5 F9 N0::r8 none [] 0::R) (fun w C=>by rw[n];exact C1 (A:=[_,_,_,_]) (J:=[]) tk C) ?_;refine aH ?_;refine f_ ((o_ rfl rfl).eq (v':=.bool c0) (qn (by rw[z0];exact u1.symm))) ?_;refine u7 ?_;refine dp (fun(r:RR) (s1:SE) (d:SL) (l:List RM) (o:AC) (F1:l6)=>F.le F1/\(if x.o.code=0 then L6 O s0 r s1 (l.map Prod.fst) else s1=s0/\l.map Prod.fst=[]/\r=lW x.c.tag (mH x.c.kind x.o.code).1 (mH x.c.kind x.o.code).2)/\(∀m∈l,kI m F1.heap)/\U3 s1 d F1.heap/\l.length<=200000) (fun _ _ _ _ _ _=>[(0,m6 g),(2,.int .i64 (x.c.kind:Nat)),(3,.bool q)]) (fun _ _ _ _ _ F1=>F1) (fun r s1 d l o _=>C2 g {O with r:=r,z:=L0}::l5 d.ra s1.a5G.a5F d.rc::E8 O.b s1 d F9 (C0 N0 l o.1 o.2)::r8 o.1 l o.2::(Y9 l++R)) ?_ ?_
 ·refine o8 rfl ?_ ?_<;>intro h
  ·have e0:x.o.code=0:=qr (u1.symm.trans h);refine p_ ?_;refine A8 (Nx g O s0 q5 F9 N0 y2 a0 qp) ⟨w0,q6⟩ ?_;rintro v A F1 q7 ⟨rfl,r,s1,d,l,a,c,h1,h2,h3,h4,rfl⟩;refine u7 ?_;exact y5 (r,s1,d,l,(a,c),F1) ⟨q7,by rw[zu e0];exact h1,h2,h3,h4⟩ rfl i_
  ·have e0:¬x.o.code=0:=zq (u1.symm.trans h);refine wk 7 ?_;refine e_ rfl (zO x.c.kind O.o.code) qw rfl ?_;refine y8 ?_;refine c_ (eo g O (mH x.c.kind O.o.code).1 (mH x.c.kind O.o.code).2) qw ?_;rintro v A ⟨rfl,rfl⟩;refine u7 ?_;exact y5 (lW O.c.tag (mH x.c.kind O.o.code).1 (mH x.c.kind O.o.code).2,s0,q5,[],(none,0),F) ⟨l6.le_refl _,by rw[zk e0,a2,z0];exact qm,qy,q6,zw _⟩ rfl (fun w C=>C1 (A:=[_,_,_,_]) (J:=[]) tk C)
 rintro r s1 d l o F1 ⟨q7,M,a6,q8,b6⟩;have b1:s1.a5G.a5F.length<=50000:=by
  by_cases e0:x.o.code=0
  ·rw[zu e0] at M;exact lG M y2.ml u8
  ·rw[zk e0] at M;rw[M.1];exact u8
 have w1:cI x F1.heap:=Mn.le q7.heap S;obtain⟨i,q9⟩:∃i:AN,i={O with r:=r,z:=L0}:=⟨_,rfl⟩;have U:i.bx=x.bx:=by rw[q9,n]
 have a7:i.r=r:=by rw[q9]
 have a8:i.z=L0:=by rw[q9]
 have v0:i.b=x.b:=by rw[q9,n]
 obtain⟨st,q0⟩:=o7 (decide (s1.a5H=2));rw[<-q9];refine u7 ?_;refine D5 (H':=C2 g i::l5 d.ra s1.a5G.a5F d.rc::E8 i.b s1 d F9 (C0 N0 l o.1 o.2)::r8 o.1 l o.2::(Y9 l++R)) (fun w C=>by rw[v0,<-a1];exact C) ?_;refine aH ?_;refine f_ ((M9 rfl rfl).eq (v':=.bool (!th)) (jw (fun b=>Value.bool (!b)) ((zh.2 (by rw[U];omega)).trans q4.symm))) ?_;refine p_ ?_;refine I8 0 ?_;refine x6 [(0,m6 g),(2,.int .i64 (x.c.kind:Nat)),(3,.bool q),(4,.bool (!th)),(120,.bool (st&&!q&&!th))] (C2 g i::l5 d.ra s1.a5G.a5F d.rc::E8 i.b s1 d F9 (C0 N0 l o.1 o.2)::r8 o.1 l o.2::(Y9 l++R)) ?_ ?_
 ·clear D T hq k9
  cases st<;>cases q
  all_goals (
   refine wk 8 ?_;refine f_ ((o_ rfl rfl).eq (qn ((qz).trans q0.symm))) ?_;refine wk 7 ?_)
  all_goals exact p8 sub i_
 refine u7 ?_;refine dp (fun(k:SE) (f:SL) (y:List RM) (t:AC) (_:Unit) (F2:l6)=>F1.le F2/\(if s1.a5H=2/\sS x=false/\x.bx.val≠0 then k={s1 with a5G:=(T7 s1.a5G x.bx.x (!fe x) s1.cond).1}/\y.map Prod.fst=(T7 s1.a5G x.bx.x (!fe x) s1.cond).2 else k=s1/\y.map Prod.fst=[])/\(∀m∈y,fE m.1 m.2 F2.heap/\yT m.2)/\U3 k f F2.heap/\y.length<=200000) (fun _ _ _ _ _ _=>[(0,m6 g),(2,.int .i64 (x.c.kind:Nat)),(3,.bool q),(4,.bool (!th))]) (fun _ _ _ _ _ F2=>F2) (fun k f y t _ _=>C2 g i::l5 f.ra k.a5G.a5F f.rc::E8 i.b k f F9 (C0 N0 (l++y) t.1 t.2)::r8 t.1 (l++y) t.2::(Y9 l++R)) ?_ ?_
 ·refine o8 rfl ?_ ?_<;>intro h
  ·have h':st=true/\q=false/\th=false:=by
    clear D T hq k9
    cases st<;>cases q<;>cases th<;>simp_all
   have x0:s1.a5H=2/\sS x=false/\x.bx.val≠0:=⟨qr (q0.symm.trans h'.1),D.trans h'.2.1,zq (q4.symm.trans h'.2.2)⟩;obtain⟨rd,z1⟩:=o7 ((v6||v8||v4));have x3:fe x=rd:=(by rw[z1,v7,v9,v5]);refine I8 0 ?_;refine x6 [(0,m6 g),(2,.int .i64 (x.c.kind:Nat)),(3,.bool q),(4,.bool (!th)),(5,.bool rd)] (C2 g i::l5 d.ra s1.a5G.a5F d.rc::E8 i.b s1 d F9 (C0 N0 l o.1 o.2)::r8 o.1 l o.2::(Y9 l++R)) ?_ ?_
   ·clear x3
    cases v6<;>cases v8
    all_goals (
     refine p_ ?_;refine f_ ((o_ rfl rfl).eq (qn ((qz).trans v7.symm))) ?_;refine y8 ?_;(first|refine u_ ?_|(refine v_ ?_;refine f_ ((o_ rfl rfl).eq (qn ((qz).trans v9.symm))) ?_));refine E4 ?_;(first|refine u_ ?_|(refine v_ ?_;refine f_ ((o_ rfl rfl).eq (v':=.bool v4) (qn ((qz).trans v5.symm))) ?_));refine y8 ?_)
    all_goals (subst z1;exact p8 sub i_)
   refine u7 ?_;refine B8 (Z:=[l5 d.ra s1.a5G.a5F d.rc]) tk fun F2 V ⟨bs,hb⟩=>?_;have z2:o0 F2.heap d.ra (V7 s1.a5G.a5F):=A2.rd hb ud;clear hb;have w2:fJ i.bx F2.heap:=(by rw[U];exact Mn.le V.heap w1.bx);have X:=Mv s1.a5G d.ra d.rc i.bx (!rd) s1.cond qb (by rw[U];have:=hx.ok.ls;omega) (by rw[U];exact hf);obtain⟨e,he⟩:=o7 (T7 s1.a5G i.bx.x (!rd) s1.cond);have v1:=sT s1.a5G i.bx.x (!rd) s1.cond;rw[<-he] at X v1;refine I8 0 ?_;refine dp (fun(p:AC) (Q:List RM) (t:AC) (g6:Nat) (_:Unit) (F3:l6)=>F2.le F3/\Q.map Prod.fst=e.2/\∀m∈Q,fE m.1 m.2 F3.heap/\yT m.2) (fun _ Q t g6 _ _=>[(0,m6 g),(2,.int .i64 (x.c.kind:Nat)),(3,.bool q),(4,.bool (!th)),(6,m6 g6),(7,.slice t.1 Q.length t.2)]) (fun _ _ _ _ _ F3=>F3) (fun p Q t g6 _ _=>wz g6 e.1 p::l5 p.1 e.1.a5F p.2::r8 t.1 Q t.2::C2 g i::E8 i.b s1 d F9 (C0 N0 l o.1 o.2)::r8 o.1 l o.2::(Y9 l++R)) ?_ ?_
   ·refine u7 ?_;refine D9 [3,7,11,17,21] [22,26,27] [C2 g i,E8 i.b s1 d F9 (C0 N0 l o.1 o.2)] 29 ?_;refine wd [0,1,2,3,4,5,6,7,8,9,10,11,12,13,14,15,16,17,18,19,20,21] ?_;refine bv 22 26 rfl rfl i6 ?_ ?_;refine R7 X ⟨z2,w2⟩ ?_;rintro v A Z Fz hz ⟨p,Q,t,rfl,rfl,x9,Y⟩;refine E5 [23,24,25] ?_;refine h_ 26 rfl i6 ?_;refine i7 rfl ?_;intro g6;refine E5 [27,28] ?_
    rotate_left 1
    refine i7 rfl ?_;intro g6;refine ae ?_;refine h_ 22 rfl i6 ?_;refine R7 X ⟨z2,w2⟩ ?_;rintro v A Z Fz hz ⟨p,Q,t,rfl,rfl,x9,Y⟩;refine E5 [23,24,25,27,28] ?_
    rotate_left 1
    all_goals (refine u7 ?_)
    all_goals exact eu (Rr:=wz g6 e.1 p::l5 p.1 e.1.a5F p.2::r8 t.1 Q t.2::C2 g i::E8 i.b s1 d F9 (C0 N0 l o.1 o.2)::r8 o.1 l o.2::(Y9 l++R)) Fz hz (fun w C=>C1 (A:=[_,_,_,_,_,_]) (J:=[]) tk C) fun F3 y0 b0=>y5 (p,Q,t,g6,(),F3) ⟨y0,x9,fun m j=>⟨(Y m j).1.le b0,(Y m j).2⟩⟩ rfl i_
   rintro p Q t g6 _ F3 ⟨y0,x9,Y⟩;have b2:Q.length<=2*s1.a5G.a5F.length+1:=(by rw[<-x9,zm] at v1;exact v1);refine u7 ?_;refine D9 [3,4] [8] [C2 g i,wz g6 e.1 p] 9 ?_;refine wd [0,1,2,3,4,5,6,7,8] ?_;refine u7 ?_;refine D9 [3,7,11] [13,17] [C2 g i,E8 i.b {s1 with a5G:=e.1} {d with ra:=p.1,rc:=p.2} F9 (C0 N0 l o.1 o.2)] 18 ?_;refine wd [0,1,2,3,4,5,6,7,8,9,10,11,12] ?_;refine h_ 13 rfl i6 ?_;refine u6 xM (l:=l) (m:=Q) aJ jH (by show(l.length+Q.length)*160<=_;omega) ?_;intro a c _;refine gn [14,15,16,17] ?_;exact y5 ({s1 with a5G:=e.1},{d with ra:=p.1,rc:=p.2},Q,(a,c),(),F3) ⟨V.trans y0,by rw[zu x0,x3,<-U,<-he];exact⟨rfl,x9⟩,Y,⟨(Mn.le (V.trans y0).heap q8).a5I,(Mn.le (V.trans y0).heap q8).cmd⟩,by simp only;omega⟩ rfl (fun w C=>C1 (A:=[_,_,_,_]) (J:=[_,_]) tk C)
  ·refine u7 ?_;have h5:¬(s1.a5H=2/\sS x=false/\x.bx.val≠0):=fun⟨e1,e2,e3⟩=>by
    rw[show st=true from q0.trans (jk e1),show q=false from D.symm.trans e2,show th=false from q4.trans (Qk e3)] at h
    cases h
   exact y5 (s1,d,[],o,(),F1) ⟨l6.le_refl _,by rw[zk h5];exact qh,qy,q8,zw _⟩ rfl (fun w C=>by
    rw[z8];exact C)
 rintro k f y t _ F2 ⟨V,X,Y,y1,b5⟩;have w3:k.a5H=s1.a5H:=by
  split at X
  ·rw[X.1]
  ·rw[X.1]
 have h7:r.values=[]/\r.nums=[]/\r.a5R=[]:=by
  by_cases e0:x.o.code=0
  ·rw[zu e0] at M;exact QA M (by rw[n];exact qm)
  ·rw[zk e0] at M;rw[M.2.2];exact qm
 have w4:∀h,fE r L0 h:=fun h=>⟨h7.1,by rw[h7.2.1];exact o0.nil _ _,by rw[h7.2.2];exact o0.nil _ _,o0.nil _ _,qy⟩;have w5:Y9 (l++y)=Y9 l:=by rw[nL,nK Y,z8]
 have u0:Y9 (l++y++[(r,L0)])=Y9 l:=by rw[nL,w5];unfold Y9;simp[h7.2.2]
 have w7:Y9 (l++y++[(r,L0)]++[(H7 bH,L0)])=Y9 l:=by rw[nL,u0];unfold Y9;simp
 have w9:∀m∈l++y++[(r,L0)],kI m F2.heap:=fun m j=>by
  rcases zc.1 j with j|j
  ·rcases zc.1 j with j|j
   ·exact(a6 m j).le V.heap
   ·exact .inl (Y m j)
  ·rw[zg.1 j];exact .inl ⟨w4 _,rfl,rfl⟩
 have k0:∀(s':SE) (d':DD),(if s1.a5H=2/\sS x=false/\x.bx.val=0 then s'={k with a5H:=3}/\d'={F9 with a5Q:=l.map Prod.fst++y.map Prod.fst++[r,H7 bH],close:=true} else s'=k/\d'={F9 with a5Q:=l.map Prod.fst++y.map Prod.fst++[r]})->fm x s s' d':=fun s' d' h=>by
  unfold fm;rw[zk k8,zk e3];refine⟨r,s1,l.map Prod.fst,k,y.map Prod.fst,?_,X,h⟩;rw[n,u2] at M;exact M
 refine u7 ?_;refine D9 [3,7] [8] [C2 g i] 9 ?_;refine wd [0,1,2,3,4,5,6,7] ?_;refine h_ 8 rfl i6 ?_;refine c_ (V4 i.b k f F9 (C0 N0 (l++y) t.1 t.2) i.r i.z (by simp only[zz,z6];omega)) qw ?_;rintro v A ⟨rfl,a3,c3,rfl⟩;refine E5 [] ?_;rw[a7,a8];obtain⟨u,v2⟩:=o7 (E_ (C0 N0 (l++y) t.1 t.2) (r,L0) a3 c3);rw[<-v2];have h6:u.rl=l++y++[(r,L0)]:=by rw[v2];rfl
 have q1:u.ql=cY/\u.wa=none/\u.wc=0:=by rw[v2];exact qm
 refine I8 0 ?_;refine x6 [(0,m6 g),(207,.bool (st&&!q&&th))] (C2 g i::l5 f.ra k.a5G.a5F f.rc::E8 i.b k f F9 u::r8 u.da u.rl u.dc::(Y9 l++R)) ?_ ?_
 ·clear D T hq k9 k0;refine D5 (H':=C2 g i::l5 f.ra k.a5G.a5F f.rc::E8 i.b k f F9 u::r8 u.da u.rl u.dc::(Y9 l++R)) (fun w C=>C1 (A:=[_,_,_,_]) (J:=[]) tk C) ?_
  cases st<;>cases q<;>cases th
  all_goals (
   refine wk 8 ?_;refine f_ ((o_ rfl rfl).eq (qn ((zh.2 (by rw[w3];omega)).trans q0.symm))) ?_;refine wk 8 ?_)
  all_goals exact p8 sub i_
 refine O1 ?_ ?_<;>intro h
 ·have x0:s1.a5H=2/\sS x=false/\x.bx.val=0:=by
   have h':st=true/\q=false/\th=true:=by
    clear D T hq k9 k0
    cases st<;>cases q<;>cases th<;>simp_all
   exact⟨qr (q0.symm.trans h'.1),D.trans h'.2.1,qr (q4.symm.trans h'.2.2)⟩
  refine O2 ?_;refine c_ (tP i.b k f F9 u bH (by rw[h6];simp only[zz,zy,z6];omega)) qw ?_;rintro v A ⟨rfl,a4,c4,rfl⟩;refine u7 ?_;refine G_ (A:=C2 g i::l5 f.ra k.a5G.a5F f.rc::(O3 i.b {k with a5H:=3} f {F9 with a5Q:=l.map Prod.fst++y.map Prod.fst++[r,H7 bH],close:=true} (E_ u (H7 bH,L0) a4 c4)++Y9 l)) (v:=.tuple #[]) (q7.trans V) ⟨rfl,i,{k with a5H:=3},{F9 with a5Q:=l.map Prod.fst++y.map Prod.fst++[r,H7 bH],close:=true},f,E_ u (H7 bH,L0) a4 c4,v0,k0 _ _ (by rw[zu x0];exact qh),by simp[h6],fun m j=>?_,⟨y1.a5I,y1.cmd⟩,q1.1,q1.2.1,q1.2.2,?_⟩ ?_
  ·rw[show(E_ u (H7 bH,L0) a4 c4).rl=u.rl++[(H7 bH,L0)] from rfl,h6] at j;rcases zc.1 j with j|j
   ·exact w9 m j
   ·rw[zg.1 j];exact .inl ⟨⟨rfl,o0.nil _ _,o0.nil _ _,o0.nil _ _,qy⟩,rfl,rfl⟩
  ·rw[show(E_ u (H7 bH,L0) a4 c4).rl=u.rl++[(H7 bH,L0)] from rfl,h6,w7]
  ·exact l_ rfl _ qh (fun w C=>C1 (A:=[_,_,E8 i.b {k with a5H:=3} f {F9 with close:=true} (E_ u (H7 bH,L0) a4 c4),r8 a4 (u.rl++[(H7 bH,L0)]) c4]) (J:=[]) tk C)
 ·refine u7 ?_;have h5:¬(s1.a5H=2/\sS x=false/\x.bx.val=0):=fun⟨e1,e2,e3⟩=>by
   rw[show st=true from q0.trans (jk e1),show q=false from D.symm.trans e2,show th=true from q4.trans (jk e3)] at h
   cases h
  refine G_ (A:=C2 g i::l5 f.ra k.a5G.a5F f.rc::(O3 i.b k f {F9 with a5Q:=l.map Prod.fst++y.map Prod.fst++[r]} u++Y9 l)) (v:=.tuple #[]) (q7.trans V) ⟨rfl,i,k,{F9 with a5Q:=l.map Prod.fst++y.map Prod.fst++[r]},f,u,v0,k0 _ _ (by rw[zk h5];exact qh),by simp[h6],fun m j=>w9 m (by rw[<-h6];exact j),y1,q1.1,q1.2.1,q1.2.2,by rw[h6,u0]⟩ ?_;exact l_ rfl _ qh i_
theorem IL(i:IT):Pu prog 157 [.agg (cX i).toArray] (fun _=>True) (.bool (decide (10<=i.kind))):=by
 refine b_ 6 func157 rfl rfl rfl ?_;intro F _;refine C6 ?_;refine m9 rfl rfl ?_;intro b;refine E4 ?_;refine f_ ((I3 rfl rfl).eq (v':=.bool (decide (10<=i.kind))) (qn qz)) ?_;refine C8 ?_;exact d_ rfl rfl [] qh (fun w a=>a.dropAll)
abbrev IM(gO:Nat)(out:List Bs)(o:AC):As:=.blk gO (.cells #[.slice o.1 out.length o.2] 34)
theorem Cc(g z e u:Nat)(x:AN)(f:FuncId)[HF prog f](ps:List Value)(hx:rx x)(k:∀d:LM,Ct prog f (ps++[Ok d]) (fun _=>True) [C2 g x] (fun v A=>(∃q:Bool,v=.bool q)/\A=[C2 g x]))(a:List Bs)(o:AC)(S:a.length<=200000):
  Ct prog 153 [.int .u64 (u:Nat),.func (.func f) ps.toArray #[],m6 z,m6 e] (fun h=>cI x h/\h z=some (.cells #[m6 g] 147 (0,0))) [C2 g x,IM e a o,A4 o.1 a o.2] (fun v A=>v=.tuple #[]/\∃(b:List Bs) (o':AC),b.length<=a.length+1/\A=[C2 g x,IM e b o',A4 o'.1 b o'.2]):=by
 have C:=hx.ls;have D:=hx.bl;refine b_ 38 func153 rfl rfl rfl ?_;rintro F ⟨i,j⟩;refine C6 ?_;refine r_ (i8 rfl (fun w c=>H_ c j rfl)) ?_;refine p_ ?_;refine c_ (eV g x u qb) (fun h p _=>i.bx.ls.le p) ?_;rintro v A ⟨d,M,rfl,O,rfl⟩;refine E4 ?_;refine i7 rfl ?_;intro r;refine QZ ?_;refine r_ (i8 rfl (fun w c=>H_ c j rfl)) ?_;refine y8 ?_;refine c_ (qi g x d.t.hash qb) (fun h p _=>i.bl.le p) ?_;rintro v A ⟨t,s,rfl,Q,rfl⟩;refine aH ?_;refine n7 (ι:=Bool) (fun _=>True) (fun q=>[(3,m6 e),(6,m6 r),(32,.bool q)]) (fun _=>[.blk r (.cells (S9 d).toArray 156),C2 g x,IM e a o,A4 o.1 a o.2]) ?_ ?_
 ·cases M<;>cases s
  all_goals (
   refine wk 8 ?_;(first|refine u_ ?_|(refine v_ ?_;refine z_ (ps:=ps) _ rfl rfl y4 (k d) i_ qw rfl ?_;rintro v A ⟨⟨q,rfl⟩,rfl⟩));refine p_ ?_)
  all_goals exact g_ _ trivial (fun w c=>C1 (A:=[.blk r _,C2 g x,IM e a o,A4 o.1 a o.2]) (J:=[]) tk c)
 intro q _;refine O1 ?_ ?_<;>intro h
 ·refine E4 ?_;refine uu (n:=d.t.hash) ?_;intro a36;refine uv (l:=a) (m:=[d.t.hash]) (by show(a.length+1)*16<=_;omega) ?_;intro a37 y _;refine p_ ?_;exact l_ rfl _ ⟨rfl,a++[d.t.hash],(a37,y),by simp,rfl⟩ (fun w c=>C1 (A:=[_,_,_]) (J:=[_,_]) tk c)
 ·refine u7 ?_;exact l_ rfl _ ⟨rfl,a,o,by omega,rfl⟩ (fun w c=>C1 (A:=[_,_,_]) (J:=[_]) tk c)
theorem IN(l:List Bs)(a:Option Addr)(c:Nat)(hl:l.length<4611686018427387904):Ct prog 161 [.slice a l.length c] (fun _=>True) [A4 a l c] (fun v A=>v=.tuple #[]/\∃m:List Bs,m.Perm l/\A=[A4 a m c]):=by
 intro w bs t h6 h5;obtain⟨b1,b2,rfl,u,rfl⟩:=t;rcases u with⟨X,hx,rfl⟩|⟨g,rfl,⟨o,n,h7,pre,b,p,X,hg,Y,h8,z,h9,q⟩⟩
 ·injection X with f e2 e3;subst f e3;have Z:l=[]:=jx e2;subst Z;refine(Tryz.slices_Sort_string_none none 0 w).mono ?_;rintro e w' ⟨rfl,rfl⟩;refine⟨_,[A4 none [] 0],rfl,⟨rfl,[],.nil,rfl⟩,?_⟩;exact(Hp.start (C:=[]) (bs:=[]) rfl Zj).addNil _ _
 ·injection X with f e2 e3;subst f e2 e3;have i:w.heap[g]? =some (.cells (pre++fV l++b).toArray 9 p):=hg;have D:g<w.heap.size:=(jq.1 i).1;have k0:=L8 l;have hH:Sort.Holds (fun(x:Bs)=>B x) w g o l.toArray:=fun j hj=>by
   have h0:j<l.length:=(by simpa using hj);constructor
   ·simp only[World.cell?,i];simp only[Wm,Kk,if_false,Kx];rw[zn,jz qb,jg qb];simp[fV,<-Y,h0]
   ·simp only[World.frozen?,i];simp only[zz] at q;rw[J3];rcases q with h|h
    ·by_cases hh:p.1<=o+j
     ·exact .inr (by simp;omega)
     ·exact .inl (by simpa using hh)
    ·exact .inl (by simp;omega)
  have hc:=Tryz.slices_Sort_string g o c l w hH D hl;refine hc.mono ?_;rintro e w' ⟨rfl,n,J,rfl⟩;obtain⟨d,M⟩:∃d:Array Bs,d=(l.mergeSort fun x y=>decide (x<=y)).toArray:=⟨_,rfl⟩;have O:List.Perm d.toList l:=by rw[M];exact List.mergeSort_perm _ _
  have h1:d.toList.length=l.length:=O.length_eq;rw[<-M];show∃v A,_/\_/\Hp _ (sortWorld (fun(x:Bs)=>B x) w g o n d J) _;have hh:(sortWorld (fun(x:Bs)=>B x) w g o n d J).heap[g]? =some (.cells (pre++fV d.toList++b).toArray 9 p):=by
   show((Sort.mapBlock _ g _).heap++J)[g]? =_;unfold Sort.mapBlock;have f:(Sort.ahead w n).heap=w.heap:=rfl;rw[Zw (by rw[Jr,f];exact D),Q8,zu rfl,f,i];simp only[Qz,Sort.onCells];have:=tX (pre:=pre) (post:=b) h1;rw[Y] at this;rw[<-this]
  have k8:=L8 d.toList;have Q:(fV d.toList).length=(fV l).length:=by omega
  have r:c*1<=(fV d.toList++b).length:=by
   rw[zz,Q,<-zz];exact z
  have S:p.2<=p.1\/(pre++fV d.toList++b).length<=p.1:=by
   rw[zz,zz,Q,<-zz,<-zz];exact q
  have s:l9.le (q_ w [g]).heap (hp (sortWorld (fun(x:Bs)=>B x) w g o n d J)):=fun k o' T=>by
   have h4:k≠g:=by
    rintro rfl;simp[q_,E3] at T
   have h2:w.heap[k]? =some o':=bU w _ k o' T;have h3:k<w.heap.size:=(jq.1 h2).1;show((Sort.mapBlock _ g _).heap++J)[k]? =_;unfold Sort.mapBlock;have f:(Sort.ahead w n).heap=w.heap:=rfl;rw[Zw (by rw[Jr,f];exact h3),Q8,zk (fun h=>h4 h.symm),f];exact h2
  have U:∀k∈[g],(q_ w [g]).heap k=none:=fun k V=>by
   simp at V;subst V;simp[q_,E3]
  refine⟨.tuple #[],[A4 (some ⟨g,o,none⟩) d.toList c],rfl,⟨rfl,d.toList,O,rfl⟩,?_⟩;exact⟨rfl,rfl,rfl,s,[g],⟨[g],[],rfl,.inr ⟨g,rfl,⟨o,d.toList.length,c,pre,b,p,rfl,hh,Y,by omega,r,by omega,S⟩⟩,rfl⟩,by simp,U⟩
theorem EE(g:Nat)(x:AN)(a:LM):Ct prog 160 ([]++[Ok a]) (fun _=>True) [C2 g x] (fun v A=>(∃q:Bool,v=.bool q)/\A=[C2 g x]):=by
 show Ct prog 160 [Ok a] _ _ _;refine b_ 3 func160 rfl rfl rfl ?_;intro F _;refine C6 ?_;refine m9 rfl rfl ?_;intro c;refine L7 ?_;exact d_ rfl rfl _ ⟨⟨true,rfl⟩,rfl⟩ (fun w b=>b.drop)
abbrev Cd(gA gO:Nat):Value:=.func (.func 153) #[] #[m6 gA,m6 gO]
def TC(x:AN):Prop:=x.o.code=0/\(x.c.kind=16\/x.c.kind=15)
theorem IP(g:Nat)(x:AN)(s:SE)(sl:SL)(d:DD)(y:DL)(hx:rx x)(hv:s.a5G.a5F.length<=100000)(hu:x.us.length<=100000):
  Cm prog 76 [m6 g] (cI x) (C2 g x::l5 sl.ra s.a5G.a5F sl.rc::O3 x.b s sl d y) (fun h v A=>∃(l:List Bs) (a:Option Addr) (c:Nat),v=.slice a l.length c/\o0 h a (fV l)/\(l≠[]->TC x)/\A=C2 g x::l5 sl.ra s.a5G.a5F sl.rc::O3 x.b s sl d y):=by
 have V:=hx.c;refine x8 85 func76 rfl rfl rfl ?_;rintro F R h7;refine C6 ?_;refine L2 rfl rfl rfl ?_;intro D;refine p_ ?_;refine p_ ?_;intro r;refine u7 ?_;refine I8 2 ?_;refine B8 (Z:=[.blk D (.cells #[m6 g] 147)]) tk fun F1 X hb=>?_;have O:F1.heap D=some (.cells #[m6 g] 147 (0,0)):=I_ hb;clear hb;have k:cI x F1.heap:=Mn.le X.heap h7;refine n7 (ι:=List Bs×AC) (fun q=>q.1.length<=200000/\(q.1≠[]->TC x)) (fun q=>[(3,m6 r)]) (fun q=>C2 g x::IM r q.1 q.2::A4 q.2.1 q.1 q.2.2::l5 sl.ra s.a5G.a5F sl.rc::E8 x.b s sl d y::r8 y.da y.rl y.dc::R) ?_ ?_
 ·refine n9 ?_;obtain⟨q1,Y⟩:=o7 (decide (x.o.code=0));refine C6 ?_;refine r_ (i8 rfl (fun w f=>H_ f O rfl)) ?_;refine O2 ?_;refine f_ ((M9 rfl rfl).eq (v':=.bool (!q1)) (jw (fun x=>Value.bool (!x)) Y.symm)) ?_;refine p_ ?_
  cases q1
  ·refine o8 rfl (fun h=>?_) qx;refine u7 ?_;exact g_ ([],none,0) ⟨by simp,fun e=>absurd rfl e⟩ (fun w f=>C1 (A:=[C2 g x,_,.own (.slice none 0 0) 9 1 [],l5 sl.ra s.a5G.a5F sl.rc,E8 x.b s sl d y,r8 y.da y.rl y.dc]) (J:=[]) tk (f.addNil 9 1))
  refine o8 rfl qx (fun h=>?_);refine I8 0 ?_;refine D5 (H':=C2 g x::IM r [] (none,0)::A4 none [] 0::l5 sl.ra s.a5G.a5F sl.rc::E8 x.b s sl d y::r8 y.da y.rl y.dc::R) (fun w f=>C1 (A:=[C2 g x,_,.own (.slice none 0 0) 9 1 [],l5 sl.ra s.a5G.a5F sl.rc,E8 x.b s sl d y,r8 y.da y.rl y.dc]) (J:=[]) tk (f.addNil 9 1)) ?_;refine n7 (ι:=Bool) (fun q=>q=true->x.c.kind=16) (fun q=>[(1,m6 D),(3,m6 r),(4,Cd D r),(17,.bool q)]) (fun q=>C2 g x::IM r [] (none,0)::A4 none [] 0::l5 sl.ra s.a5G.a5F sl.rc::E8 x.b s sl d y::r8 y.da y.rl y.dc::R) ?_ ?_
  ·obtain⟨q2,S⟩:=o7 (decide (x.c.kind=16));have q6:=V.a5J
   cases q2
   all_goals (
    refine C6 ?_;refine r_ (i8 rfl (fun w f=>H_ f O rfl)) ?_;refine O2 ?_;refine f_ ((o_ rfl rfl).eq (qn ((qz).trans S.symm))) ?_;refine p_ ?_;(first|refine u_ ?_|(refine v_ ?_;refine r_ (i8 rfl (fun w f=>H_ f O rfl)) ?_));refine O2 ?_;(first|refine u_ ?_|(refine v_ ?_;refine e_ rfl (V5 cX am x.c.a5J x.k.ia x.k.ic 157 [] (fun _=>True) (fun i=>decide (10<=i.kind)) (fun i _=>IL i) qb) (fun h Q _=>⟨k.c.a5J.le Q,trivial⟩) rfl ?_));refine y8 ?_)
   ·exact g_ false (fun e=>by cases e) i_
   ·exact g_ _ (fun _=>qr S.symm) i_
  intro q h0;refine u7 ?_;refine o8 rfl (fun T=>?_) (fun h=>?_)
  ·refine C6 ?_;refine r_ (i8 rfl (fun w f=>H_ f O rfl)) ?_;refine I8 5 ?_;refine n9 ?_;refine o9 (ι:=Nat×List Bs×AC) (fun i=>i.1<=x.us.length/\i.2.1.length<=i.1) (fun i=>[(1,m6 D),(3,m6 r),(4,Cd D r),(35,.slice x.ua x.us.length x.uc),(36,.int .i64 (x.us.length:Nat)),(37,.int .i64 (i.1:Nat))]) (fun i=>C2 g x::IM r i.2.1 i.2.2::A4 i.2.2.1 i.2.1 i.2.2.2::l5 sl.ra s.a5G.a5F sl.rc::E8 x.b s sl d y::r8 y.da y.rl y.dc::R) (fun i=>x.us.length-i.1) (0,[],none,0) ⟨zw _,zr _⟩ sub i_ ?_;rintro⟨j,p,o⟩ ⟨hj,ho⟩;simp only at hj ho;refine R6 ?_ ?_<;>intro h
   ·have z:j<x.us.length:=(by have:=qr h;omega);have u:=Y5 k.us z;refine C6 ?_;refine f_ (m8 rfl u rfl qb) ?_;refine r_ (i8 rfl (fun w f=>un f k.us (i:=j) y4 z)) ?_;refine E4 ?_;refine r_ (i8 rfl (fun w f=>H_ f O rfl)) ?_;refine p_ ?_;refine z_ (ps:=[]) _ rfl rfl rfl (Cc g D r (x.us.getD j 0) x 158 [m6 g] hx (fun lm w bs Y S h3=>(xe g x lm w bs Y S h3).mono fun e w' ⟨v,A,a,⟨b,c⟩,d⟩=>⟨v,A,a,⟨⟨_,b⟩,c⟩,d⟩) p o qb) i_ (fun h Q _=>⟨Mn.le Q k,Q _ _ O⟩) rfl ?_;rintro v A ⟨rfl,M,o',h8,rfl⟩;refine y8 ?_;exact l8 (i:=(j,p,o)) (j+1,M,o') ⟨z,by simp only;omega⟩ qg sub i_
   ·refine u7 ?_;exact g_ (p,o) ⟨by simp only;omega,fun _=>⟨qr Y.symm,.inl (h0 T)⟩⟩ i_
  ·obtain⟨kl,h9,k0,q7⟩:=k.c.keys;have k8:=de h9;have q5:=V.keys;have h4:=DY x.k.ka x.k.kc kl qb;rw[k8] at h4;refine I8 0 ?_;refine n7 (ι:=Bool) (fun q=>q=true->x.c.kind=15) (fun q=>[(1,m6 D),(3,m6 r),(4,Cd D r),(47,.bool q)]) (fun q=>C2 g x::IM r [] (none,0)::A4 none [] 0::l5 sl.ra s.a5G.a5F sl.rc::E8 x.b s sl d y::r8 y.da y.rl y.dc::R) ?_ ?_
   ·obtain⟨q2,S⟩:=o7 (decide (x.c.kind=15))
    cases q2
    all_goals (
     refine C6 ?_;refine r_ (i8 rfl (fun w f=>H_ f O rfl)) ?_;refine O2 ?_;refine f_ ((o_ rfl rfl).eq (qn ((qz).trans S.symm))) ?_;refine p_ ?_;(first|refine u_ ?_|(refine v_ ?_;refine r_ (i8 rfl (fun w f=>H_ f O rfl)) ?_));refine O2 ?_;(first|refine u_ ?_|(refine v_ ?_;refine e_ rfl h4 (fun h Q _=>k0.le Q) rfl ?_));refine y8 ?_)
    ·exact g_ false (fun e=>by cases e) i_
    ·exact g_ _ (fun _=>qr S.symm) i_
   intro q h5;refine u7 ?_;refine o8 rfl (fun T=>?_) (fun h=>?_)
   ·refine C6 ?_;refine r_ (i8 rfl (fun w f=>H_ f O rfl)) ?_;refine I8 10 ?_;refine B4 (a:=sl.ra) (n:=s.a5G.a5F.length) (c:=sl.rc) (sz:=2) (xs:=V7 s.a5G.a5F) (te:=72) ud fun _ _ u=>?_;refine n9 ?_;refine o9 (ι:=Nat×List Bs×AC) (fun i=>i.1<=s.a5G.a5F.length/\i.2.1.length<=i.1) (fun i=>[(1,m6 D),(3,m6 r),(4,Cd D r),(70,.slice sl.ra s.a5G.a5F.length sl.rc),(71,.int .i64 (s.a5G.a5F.length:Nat)),(72,.int .i64 (i.1:Nat))]) (fun i=>C2 g x::IM r i.2.1 i.2.2::A4 i.2.2.1 i.2.1 i.2.2.2::l5 sl.ra s.a5G.a5F sl.rc::E8 x.b s sl d y::r8 y.da y.rl y.dc::R) (fun i=>s.a5G.a5F.length-i.1) (0,[],none,0) ⟨zw _,zr _⟩ sub i_ ?_;rintro⟨j,p,o⟩ ⟨hj,ho⟩;simp only at hj ho;refine R6 ?_ ?_<;>intro h
    ·have z:j<s.a5G.a5F.length:=(by have:=qr h;omega);have k9:=u qb;refine C6 ?_;refine f_ (m8 rfl k9 rfl qb) ?_;refine r_ (w8 rfl (fun w f=>fq (C:=iA) (f.ownN (t:=72) ud).2.2.1 D0 qp z y4) (D0 _)) ?_;refine i7 rfl ?_;intro g8;refine O2 ?_;refine z_ (ps:=[]) _ rfl rfl rfl (Cc g D r s.a5G.a5F[j].1 x 160 [] hx (fun lm=>EE g x lm) p o qb) (fun w f=>C1 (A:=[C2 g x,IM r p o,A4 o.1 p o.2]) (J:=[_]) tk f) (fun h Q _=>⟨Mn.le Q k,Q _ _ O⟩) rfl ?_;rintro v A ⟨rfl,M,o',h8,rfl⟩;refine y8 ?_;exact l8 (i:=(j,p,o)) (j+1,M,o') ⟨z,by simp only;omega⟩ qg sub i_
    ·refine u7 ?_;exact g_ (p,o) ⟨by simp only;omega,fun _=>⟨qr Y.symm,.inr (h5 T)⟩⟩ i_
   ·refine u7 ?_;exact g_ ([],none,0) ⟨by simp,fun e=>absurd rfl e⟩ i_
 rintro⟨l,o⟩ ⟨hl,h6⟩;simp only at hl h6;refine p_ ?_;refine c_ (IN l o.1 o.2 qb) qw ?_;rintro v A ⟨rfl,m,U,rfl⟩;refine u7 ?_;have q0:=U.length_eq;refine p_ ?_;refine x4 (vs:=[.slice o.1 m.length o.2]) _ (by rw[q0];rfl) (oZ m o.1 o.2 qb) i_ qw rfl ?_;rintro v A ⟨rfl,rfl⟩;refine C8 ?_;refine kf (Z:=[A4 o.1 (Lib.compact m) o.2]) tk fun F2 q3 ⟨bs,hb⟩=>?_;have q4:o0 F2.heap o.1 (fV (Lib.compact m)):=A2.rd hb ud;refine G_ (A:=C2 g x::l5 sl.ra s.a5G.a5F sl.rc::O3 x.b s sl d y) (v:=.slice o.1 (Lib.compact m).length o.2) (X.trans q3) ⟨_,_,_,rfl,q4,fun e=>h6 fun e2=>e (by rw[e2] at U;rw[List.Perm.eq_nil U];rfl),rfl⟩ ?_;exact d_ rfl rfl _ qh (fun w f=>C1 (A:=[_,_,_,_]) (J:=[_]) tk f)
structure OB(s:SE)(st:ML)(o:OC)(bl:BL):Prop where
 se:zM s
 a5F:s.a5G.a5F.length<=50000
 us:s.a5I.length<=100000
 ml:U4 st
 uo:o.a5I.length<=100000/\fR o.a5I
 mo:o.mods.length<=100000/\fR o.mods
 val:o.val<18446744073709551616
 bll:bl.length<=1000
 body:∀p∈bl,p.2.length<=1000000
def ew(s:SE)(st:ML)(o:OC)(bl:BL)(s':SE)(d':DD):Prop:=
 if s.a5M=false then s'=s/\d'=F9
 else(∃w:List Bs,w≠[]/\(o.code=0/\(s.cmd.kind=16\/s.cmd.kind=15))/\s'=s/\d'={F9 with want:=w})\/∃x:AN,x.c=s.cmd/\x.m.s=st/\x.o=o/\x.us=s.a5I/\x.bl=bl/\x.bx.x=mI s st/\fm x (V9 s) s' d'
def TD(Q:SE->DD->Prop)(h:l9)(v:Value)(A:List As):Prop:=∃s' d' x' y',Q s' d'/\v=.tuple #[rP s' x',Lf d' y']/\A=l5 x'.ra s'.a5G.a5F x'.rc::r8 y'.da y'.rl y'.dc::Y9 y'.rl/\d'.a5Q=y'.rl.map Prod.fst/\(∀m∈y'.rl,kI m h)/\U3 s' x' h/\dB d'.req y'.ql h/\o0 h y'.wa (fV d'.want)
theorem Ez.res{Q:SE->DD->Prop}{h:l9}{v:Value}{A:List As}(k:Ez Q h v A):TD Q h v A:=by
 obtain⟨e,f,g,d,i,rfl,rfl,j,a⟩:=k;have b:∀m∈d.rl,fE m.1 m.2 h/\yT m.2:=fun m c=>⟨a.dd.rep m c,by
  rcases j.2 m c with h|h
  ·cases h
  ·rw[h];exact qh⟩
 exact⟨e,f,g,d,i,rfl,by rw[nK b],a.dd.a5Q,fun m c=>.inl (b m c),a.se,a.dd.req,a.dd.want⟩
theorem ey{x:AN}{s b:SE}{a:DD}(h:fm x s b a):a.req=F9.req/\a.want=[]/\a.ask=false/\a.store=false/\a.body=[]:=by
 unfold fm at h;split at h
 ·rw[h.2];exact⟨rfl,rfl,rfl,rfl,rfl⟩
 split at h
 ·rw[h.2];exact⟨rfl,rfl,rfl,rfl,rfl⟩
 obtain⟨r,s1,c,d,e,_,_,h⟩:=h;split at h
 ·rw[h.2];exact⟨rfl,rfl,rfl,rfl,rfl⟩
 ·rw[h.2];exact⟨rfl,rfl,rfl,rfl,rfl⟩
theorem sU(s:SE)(x:SL)(m:MM)(o:OC)(oy:OL)(bl:BL)(ba:Option Addr)(bc:Nat)(r:OB s m.s o bl):
  Cm prog 31 [rP s x,uR m,TX o oy,.slice ba bl.length bc] (fun h=>Gl h/\o0 h x.ra (V7 s.a5G.a5F)/\U3 s x h/\iE m h/\L9 o oy h/\o0 h ba (uH bl)) [] (TD (ew s m.s o bl)):=by
 have hs:=r.se;refine x8 103 func31 rfl rfl rfl ?_;rintro F R ⟨hg,hr,q2,hm,ho,hb⟩;refine C6 ?_;refine m9 rfl rfl ?_;intro g4;refine m9 rfl rfl ?_;intro g5;refine m9 rfl rfl ?_;intro g6;refine i7 rfl ?_;intro u;refine i7 rfl ?_;intro y;refine p_ ?_;refine A8 (lA s x hs.le) ⟨hr,q2⟩ ?_;rintro v A F1 O ⟨a,rfl,rfl,Y⟩;refine f_ (y7 (ps:=[(0,.tmp 16)]) (vs:=[(0,rP s a)]) (cells:=(mJ s a++tN F9 N0).toArray) rfl i6) ?_;refine m9 rfl rfl ?_;intro c;refine p_ ?_;refine D5 (H':=E8 c s a F9 N0::r8 none [] 0::l5 a.ra s.a5G.a5F a.rc::.blk y (.cells (tN F9 N0).toArray 46)::.blk u (.cells (mJ oH rf).toArray 39)::.blk g6 (.cells (tO o oy).toArray 86)::.blk g5 (.cells (iD m).toArray 62)::.blk g4 (.cells (mJ s x).toArray 39)::R) (fun w g=>C1 (A:=[E8 c s a F9 N0,r8 none [] 0,_,_,_,_,_,_]) (J:=[]) tk (g.addNil 51 10)) ?_;refine eJ ?_ ?_<;>intro h
 ·have Q:s.a5M=false:=by simpa using h
  refine u7 ?_;refine D9 [3,7] [8,9] [E8 c s a F9 N0] 10 ?_;refine wd [0,1,2,3,4,5,6,7,8,9] ?_;refine A3 ?_;refine G_ (A:=[l5 a.ra s.a5G.a5F a.rc,r8 none [] 0]) (v:=.tuple #[rP s a,Lf F9 N0]) O ⟨s,F9,a,N0,by unfold ew;rw[zu Q];exact qh,rfl,rfl,rfl,qy,Y,⟨o0.nil _ _,o0.nil _ _⟩,o0.nil _ _⟩ ?_;refine X2 rfl rfl rfl ud rfl ud rfl _ qh (fun w g=>C1 (A:=[_,_]) (J:=[_,_,_,_,_,_]) tk g)
 have Q:¬s.a5M=false:=by simpa using h
 obtain⟨x0,h4⟩:=o7 (α:=AN) (⟨c,s.cmd,a.cl,m,o,oy,Gi,s.a5I,a.ua,a.uc,bl,ba,bc,R0,L0⟩);refine u7 ?_;refine D9 [5,6,7,12] [15] [E8 c s a F9 N0,.blk g5 (.cells (iD m).toArray 62),.blk g6 (.cells (tO o oy).toArray 86)] 17 ?_;refine wd [0,1,2,3,4,5,6,7,8,9,10,11,12,13] ?_;refine w_ 14 rfl (y7 (ps:=[(0,.tmp 30),(1,.tmp 35),(2,.tmp 36),(3,.tmp 37),(5,.tmp 42),(6,.tmp 43)]) (vs:=[(0,m6 c),(1,xL s.cmd a.cl),(2,uR m),(3,TX o oy),(5,.slice a.ua s.a5I.length a.uc),(6,.slice ba bl.length bc)]) (cells:=(anC ⟨c,s.cmd,a.cl,m,o,oy,Gi,s.a5I,a.ua,a.uc,bl,ba,bc,R0,L0⟩).toArray) rfl i6) ?_;refine h_ 15 rfl i6 ?_;refine m9 rfl rfl ?_;intro d;refine E5 [16] ?_;refine D5 (H':=C2 d x0::E8 c s a F9 N0::r8 none [] 0::l5 a.ra s.a5G.a5F a.rc::.blk y (.cells (tN F9 N0).toArray 46)::.blk u (.cells (mJ oH rf).toArray 39)::.blk g5 (.cells (iD m).toArray 62)::R) (fun w g=>by rw[h4];exact C1 (A:=[_,_,_,_,_,_,_]) (J:=[_,_]) tk g) ?_;obtain⟨e,he⟩:=o7 (ak m.s s.a5G.box);have k:=uK m s.a5G.box r.ml;rw[<-he] at k;refine I8 0 ?_;refine S7 (fun(i:BM) (p:Nat) (_:Unit) (M:l6)=>F1.le M/\i.x=e.getD Ph/\fJ i M.heap) (fun i p _ _=>[(8,m6 u),(9,m6 y),(10,m6 c),(11,m6 d),(12,m6 p),(13,.bool e.isSome)]) (fun _ _ _ M=>M) (fun i p _ _=>xg p i::C2 d x0::E8 c s a F9 N0::r8 none [] 0::l5 a.ra s.a5G.a5F a.rc::.blk y (.cells (tN F9 N0).toArray 46)::.blk u (.cells (mJ oH rf).toArray 39)::R) ?_ ?_
 ·refine u7 ?_;refine D9 [0,6] [7,11,12] [.blk g5 (.cells (iD m).toArray 62),E8 c s a F9 N0] 14 ?_;refine wd [0,1,2,3,4,5,6] ?_;refine bv 7 11 rfl rfl i6 ?_ ?_;refine R7 k (Mn.le O.heap hm) ?_;rintro v A Z Fz hz ⟨i,rfl,l,rfl,S⟩;refine E5 [8,9,10] ?_;refine h_ 11 rfl i6 ?_;refine i7 rfl ?_;intro p;refine E5 [12,13] ?_
  rotate_left 1
  refine i7 rfl ?_;intro p;refine ae ?_;refine h_ 7 rfl i6 ?_;refine R7 k (Mn.le O.heap hm) ?_;rintro v A Z Fz hz ⟨i,rfl,l,rfl,S⟩;refine E5 [8,9,10,12,13] ?_
  rotate_left 1
  all_goals (refine u7 ?_)
  all_goals exact eu (Rr:=xg p i::C2 d x0::E8 c s a F9 N0::r8 none [] 0::l5 a.ra s.a5G.a5F a.rc::.blk y (.cells (tN F9 N0).toArray 46)::.blk u (.cells (mJ oH rf).toArray 39)::R) Fz hz (fun w g=>C1 (A:=[_,_,_,_,_,_,_]) (J:=[_]) tk g) fun M T q3=>y5 (i,p,(),M) ⟨T,l,Mn.le q3 S⟩ rfl i_
 rintro i p _ M ⟨T,l,S⟩;refine I8 0 ?_;refine n7 (ι:=Bool) (fun q=>(if q then i.x else Ph)=mI s m.s) (fun q=>[(8,m6 u),(9,m6 y),(10,m6 c),(11,m6 d),(12,m6 p),(68,.bool q)]) (fun _=>xg p i::C2 d x0::E8 c s a F9 N0::r8 none [] 0::l5 a.ra s.a5G.a5F a.rc::.blk y (.cells (tN F9 N0).toArray 46)::.blk u (.cells (mJ oH rf).toArray 39)::R) ?_ ?_
 ·cases e with
  |none=>
   refine u7 ?_;refine D9 [3,9] [] [xg p i,E8 c s a F9 N0] 12 ?_;refine wd [0,1,2,3,4,5,6,7,8,9,10,11] ?_;exact g_ false (by unfold mI;rw[<-he];rfl) (fun w g=>C1 (A:=[_,_,_,_,_,_,_]) (J:=[]) tk g)
  |some b0=>
   have l:i.x=b0:=l;have q4:i.val=b0.val:=(by rw[<-l]);refine u7 ?_;refine D9 [3,9] [] [xg p i,E8 c s a F9 N0] 12 ?_;refine wd [0,1,2,3,4,5,6,7,8,9] ?_;(first|refine s_ 10 ?_|refine t_ 10 ?_|refine F6 10 rfl ((o_ rfl rfl).eq (v':=.bool (decide (i.val=s.a5G.val))) (qn qz)) rfl rfl rfl rfl rfl rfl i6 ?_);refine wd [11] ?_;refine g_ (decide (i.val=s.a5G.val)) ?_ (fun w g=>C1 (A:=[_,_,_,_,_,_,_]) (J:=[]) tk g);unfold mI;rw[<-he,l,q4];by_cases h9:b0.val=s.a5G.val
   ·simp[h9]
   ·simp[h9]
 intro y1 h0;refine u7 ?_;refine n7 (ι:=BM) (fun b=>b.x=mI s m.s/\fJ b M.heap) (fun _=>[(8,m6 u),(9,m6 y),(10,m6 c),(11,m6 d)]) (fun b=>C2 d {x0 with bx:=b}::E8 c s a F9 N0::r8 none [] 0::l5 a.ra s.a5G.a5F a.rc::.blk y (.cells (tN F9 N0).toArray 46)::.blk u (.cells (mJ oH rf).toArray 39)::R) ?_ ?_
 ·refine o8 rfl ?_ ?_<;>intro h
  ·refine aH ?_;exact g_ i ⟨by rw[<-h0,h];rfl,S⟩ (fun w g=>C1 (A:=[C2 d {x0 with bx:=i},_,_,_,_,_]) (J:=[_]) tk g)
  ·refine u7 ?_;exact g_ Gi ⟨by rw[<-h0,h];rfl,fJ.zero _⟩ (fun w g=>by
    have h9:=C1 (A:=[C2 d x0,E8 c s a F9 N0,r8 none [] 0,l5 a.ra s.a5G.a5F a.rc,.blk y _,.blk u _]) (J:=[xg p i]) tk g;rw[h4] at h9⊢;exact h9)
 rintro b ⟨h2,h7⟩;obtain⟨n,f⟩:∃n:AN,n={x0 with bx:=b}:=⟨_,rfl⟩;rw[<-f];rw[h4] at f;have k0:b.ls.length<=32/\∀lm∈b.ls,lm.t.a5R.length<=16:=by
  have h1:(mI s m.s).lts.length<=32/\∀t∈(mI s m.s).lts,t.a5R.length<=16:=by
   unfold mI
   cases e9:ak m.s s.a5G.box with
   |none=>exact⟨zw _,qy⟩
   |some b0=>
    have k8:=r.ml.box b0 (aE e9);by_cases h9:b0.val=s.a5G.val
    ·simp only[zb,zu h9,Zd];exact⟨k8.lts,fun t ht=>(k8.a5R t ht).1⟩
    ·simp only[zb,zk h9,Option.getD_none];exact⟨zw _,qy⟩
  rw[<-h2] at h1;exact⟨by simpa using h1.1,fun lm h5=>h1.2 lm.t (Zk h5)⟩
 have k9:rx n:=by rw[f];exact⟨by show b.ls.length<=_;omega,fun lm h5=>by have:=k0.2 lm h5;omega,r.bll,r.body,hs.cmd⟩
 have q5:Nv n (V9 s):=by
  refine⟨k9,?_,r.a5F,?_,?_,?_,?_⟩<;>rw[f]
  ·exact r.ml
  ·exact r.us
  ·exact r.uo
  ·exact r.mo
  ·exact r.val
 have j:=O.trans T;have z:U3 s a M.heap:=Mn.le T.heap Y;have h3:cI n M.heap:=by rw[f];exact⟨hg.le j.heap,z.cmd,Mn.le j.heap hm,Mn.le j.heap ho,h7,z.a5I,hb.le j.heap⟩
 have U:n.b=c:=by rw[f]
 have q6:n.us.length<=100000:=by rw[f];exact r.us
 refine u7 ?_;refine D5 (H':=C2 d n::E8 n.b s a F9 N0::r8 none [] 0::l5 a.ra s.a5G.a5F a.rc::.blk y (.cells (tN F9 N0).toArray 46)::.blk u (.cells (mJ oH rf).toArray 39)::R) (fun w g=>by rw[U];exact g) ?_;refine p_ ?_;refine A8 (IP d n s a F9 N0 k9 (by have:=r.a5F;omega) q6) h3 ?_;rintro v A F3 V ⟨w,wa,wc,rfl,q7,q8,rfl⟩;refine p_ ?_;refine D5 (H':=C2 d n::E8 c s a F9 N0::r8 none [] 0::l5 a.ra s.a5G.a5F a.rc::.blk y (.cells (tN F9 N0).toArray 46)::.blk u (.cells (mJ oH rf).toArray 39)::R) (fun w g=>by rw[<-U];exact C1 (A:=[_,_,_,_,_,_]) (J:=[]) tk g) ?_;refine eJ ?_ ?_<;>intro h
 ·have q0:w≠[]:=fun e1=>by rw[e1] at h;exact absurd h qp
  refine cQ ?_;refine D9 [3,7] [8,9] [E8 c s a {F9 with want:=w} {N0 with wa:=wa,wc:=wc}] 10 ?_;refine wd [0,1,2,3,4,5,6,7,8,9] ?_;refine A3 ?_;refine G_ (A:=[l5 a.ra s.a5G.a5F a.rc,r8 none [] 0]) (v:=.tuple #[rP s a,Lf {F9 with want:=w} {N0 with wa:=wa,wc:=wc}]) (j.trans V) ⟨s,{F9 with want:=w},a,{N0 with wa:=wa,wc:=wc},by unfold ew;rw[zk Q];exact .inl ⟨w,q0,by have h8:=q8 q0;rw[f] at h8;exact h8,rfl,rfl⟩,rfl,rfl,rfl,qy,Mn.le V.heap z,⟨o0.nil _ _,o0.nil _ _⟩,q7⟩ ?_;refine X2 rfl rfl rfl ud rfl ud rfl _ qh (fun w g=>C1 (A:=[_,_]) (J:=[_,_,_,_]) tk g)
 ·refine p_ ?_;refine c_ (BG c s a F9 N0) qw ?_;rintro v A ⟨rfl,rfl⟩;refine u7 ?_;refine D5 (H':=C2 d n::E8 n.b (V9 s) {a with cl:=G9,ua:=none,uc:=0} F9 N0::r8 none [] 0::l5 a.ra (V9 s).a5G.a5F a.rc::.blk y (.cells (tN F9 N0).toArray 46)::.blk u (.cells (mJ oH rf).toArray 39)::R) (fun w g=>by rw[U];exact C1 (A:=[_,_,_,_,_,_]) (J:=[]) tk g) ?_;refine p_ ?_;refine A8 (QB d n (V9 s) {a with cl:=G9,ua:=none,uc:=0} q5 (by rw[f];exact k0.2)) ⟨Mn.le V.heap h3,⟨o0.nil _ _,fj.zero _⟩⟩ ?_;rintro v A F4 q9 ⟨rfl,x',s',d',C,X,x3,D,h6,x9,q1,y0,y2,y3,rfl⟩;rw[x3,U];refine I6 (H':=_::_::_::_::_::_::(Y9 X.rl++R)) (fun w g=>g.perm (((((Qd (Y9 X.rl) [_,_] R).cons _).cons _).cons _).cons _)) ?_;refine u7 ?_;refine D9 [3,7] [8,9] [E8 c s' C d' X] 10 ?_;refine wd [0,1,2,3,4,5,6,7,8,9] ?_;refine A3 ?_;refine G_ (A:=l5 C.ra s'.a5G.a5F C.rc::r8 X.da X.rl X.dc::Y9 X.rl) (v:=.tuple #[rP s' C,Lf d' X]) ((j.trans V).trans q9) ⟨s',d',C,X,?_,rfl,rfl,h6,x9,q1,?_,?_⟩ ?_
  ·unfold ew;rw[zk Q];exact .inr ⟨n,by rw[f],by rw[f],by rw[f],by rw[f],by rw[f],by rw[f];exact h2,D⟩
  ·rw[(ey D).1,y0];exact⟨o0.nil _ _,o0.nil _ _⟩
  ·rw[(ey D).2.1];exact o0.nil _ _
  ·refine X2 rfl rfl rfl ud rfl ud rfl _ qh (fun w g=>C1 (A:=[_,_]) (J:=[_,_,_,_]) tk g)
theorem qC(n:Nat):Pu prog 21 [.int .i64 (n:Nat)] (fun _=>True) (.int .i64 ((min n 1048576:Nat):Int)):=by
 refine b_ 5 func21 rfl rfl rfl ?_;intro F _;refine y8 ?_;refine f_ ((Fp rfl rfl).eq (v':=.int .i64 ((min n 1048576:Nat):Int)) (by congr 1;omega)) ?_;refine C8 ?_;exact d_ rfl rfl [] qh i_
theorem dq:∀x,∀q∈uG x,q.oneCell'=true:=fun x q a=>by simp at a;rcases a with rfl|rfl<;>rfl
structure WM where
 s:SE
 x:SL
 m:MM
 q:RQ
 ql:QL
 tr:Nat
 bl:BL
 ba:Option Addr
 bc:Nat
abbrev OD(w:WM):List Value:=mJ w.s w.x++iD w.m++eB w.q w.ql++[.int .u64 (w.tr:Nat),.slice w.ba w.bl.length w.bc]
abbrev Ff(w:WM):Value:=.agg (OD w).toArray
abbrev ij(g:Nat)(w:WM):As:=.blk g (.cells (OD w).toArray 65)
structure TN where
 a:SE
 ax:SL
 b:SE
 bx:SL
 hk:Int
 ht:Bs
 hears:Bool
 comes:Bool
 fails:Bool
 d:DD
 y:DL
 c:CM
 k:CL
abbrev gL(t:TN):List Value:=mJ t.a t.ax++mJ t.b t.bx++[.int .i64 t.hk,B t.ht,.bool t.hears,.bool t.comes,.bool t.fails]++tN t.d t.y++lh t.c t.k
abbrev Uc(t:TN):Value:=.agg (gL t).toArray
abbrev qD(g:Nat)(t:TN):As:=.blk g (.cells (gL t).toArray 48)
def iP(w:WM)(t:TN):RQ:=if t.d.ask=true then(if t.d.req.op=1 then{t.d.req with node:=1,life:=1,tr:=w.tr+1} else t.d.req) else w.q
def Fg(w:WM)(t:TN):Nat:=if t.d.ask=true then(if t.d.req.op=1 then w.tr+1 else w.tr) else w.tr
def Rk(w:WM)(t:TN):BL:=if t.d.store=true then w.bl++[(Dg.sha t.d.body,t.d.body)] else w.bl
structure sV(w:WM)(t:TN)(w':WM):Prop where
 s:w'.s=t.b
 x:w'.x=t.bx
 m:w'.m=w.m
 q:w'.q=iP w t
 ql:w'.ql=if t.d.ask=true then t.y.ql else w.ql
 tr:w'.tr=Fg w t
 bl:w'.bl=Rk w t
theorem Ny(w:WM)(t:TN)(ht:w.tr<=1000)(hb:w.bl.length<=1000)(hd:t.d.body.length<=1000000):
  Cm prog 33 [Ff w,Uc t] (fun h=>o0 h w.ba (uH w.bl)) [] (fun h v A=>∃w',v=Ff w'/\A=[]/\sV w t w'/\o0 h w'.ba (uH w'.bl)):=by
 refine x8 50 func33 rfl rfl rfl ?_;rintro F R z;refine C6 ?_;refine m9 rfl rfl ?_;intro k;refine m9 rfl rfl ?_;intro u;refine i7 rfl ?_;intro y;refine O2 ?_;obtain⟨f,d⟩:∃f:WM,f={w with s:=t.b,x:=t.bx}:=⟨_,rfl⟩;refine D5 (H':=ij k f::qD u t::.blk y (.cells (OD ⟨oH,rf,Iv,cU,cY,0,[],none,0⟩).toArray 65)::R) (fun w b=>by rw[d];exact C1 (A:=[_,_,_]) (J:=[]) tk b) ?_;refine E4 ?_;refine n7 (ι:=WM) (fun q=>q={f with q:=iP w t,ql:=if t.d.ask=true then t.y.ql else w.ql,tr:=Fg w t}) (fun _=>[(2,m6 k),(3,m6 u),(4,m6 y)]) (fun q=>ij k q::qD u t::.blk y (.cells (OD ⟨oH,rf,Iv,cU,cY,0,[],none,0⟩).toArray 65)::R) ?_ ?_
 ·refine o8 rfl ?_ ?_<;>intro h
  ·refine aH ?_;obtain⟨g,i⟩:∃g:WM,g={f with q:=t.d.req,ql:=t.y.ql}:=⟨_,rfl⟩;have C:g.tr=w.tr:=(by rw[i,d]);have D:g.q=t.d.req:=(by rw[i]);refine D5 (H':=ij k g::qD u t::.blk y (.cells (OD ⟨oH,rf,Iv,cU,cY,0,[],none,0⟩).toArray 65)::R) (fun w b=>by rw[i];exact C1 (A:=[_,_,_]) (J:=[]) tk b) ?_;refine E4 ?_;refine f_ ((o_ rfl rfl).eq (v':=.bool (decide (t.d.req.op=1))) (qn (zh.2 (by rw[D])))) ?_;refine O1 ?_ ?_<;>intro h2
   ·have M:t.d.req.op=1:=qr h2;refine y8 ?_;refine f_ ((K_ rfl rfl qb).eq (v':=.int .u64 ((g.tr+1:Nat):Int)) (by congr 1)) ?_;refine wk 13 ?_;exact g_ {f with q:=iP w t,ql:=if t.d.ask=true then t.y.ql else w.ql,tr:=Fg w t} rfl (fun v b=>by
     have O:({f with q:=iP w t,ql:=if t.d.ask=true then t.y.ql else w.ql,tr:=Fg w t}:WM)={g with q:={g.q with node:=1,life:=1,tr:=g.tr+1},tr:=g.tr+1}:=by
      rw[C,D,i];unfold iP Fg;rw[zu h,zu M,zu h,zu h,zu M]
     rw[O];exact C1 (A:=[_,_,_]) (J:=[]) tk b)
   ·refine u7 ?_;have M:¬t.d.req.op=1:=zq h2;exact g_ {f with q:=iP w t,ql:=if t.d.ask=true then t.y.ql else w.ql,tr:=Fg w t} rfl (fun v b=>by
     have O:({f with q:=iP w t,ql:=if t.d.ask=true then t.y.ql else w.ql,tr:=Fg w t}:WM)=g:=by
      rw[i,d];unfold iP Fg;rw[zu h,zk M,zu h,zu h,zk M]
     rw[O];exact b)
  ·refine u7 ?_;have Q:¬t.d.ask=true:=fun e=>(by rw[e] at h;cases h);exact g_ {f with q:=iP w t,ql:=if t.d.ask=true then t.y.ql else w.ql,tr:=Fg w t} rfl (fun v b=>by
    have O:({f with q:=iP w t,ql:=if t.d.ask=true then t.y.ql else w.ql,tr:=Fg w t}:WM)=f:=by
     rw[d];unfold iP Fg;rw[zk Q,zk Q,zk Q]
    rw[O];exact b)
 rintro c S;have a:c.ba=w.ba/\c.bl=w.bl/\c.bc=w.bc:=by rw[S,d];exact qm
 refine E4 ?_;refine S7 (fun(j:BL) (o:AC) (_:Unit) (n:l6)=>F.le n/\j=Rk w t/\o0 n.heap o.1 (uH j)) (fun _ _ _ _=>[(2,m6 k),(4,m6 y)]) (fun _ _ _ n=>n) (fun j o _ _=>ij k {c with bl:=j,ba:=o.1,bc:=o.2}::.blk y (.cells (OD ⟨oH,rf,Iv,cU,cY,0,[],none,0⟩).toArray 65)::R) ?_ ?_
 ·refine o8 rfl ?_ ?_<;>intro h
  ·refine u7 ?_;refine D9 [2,6,10] [0,3,7,12,13,15] [ij k c,qD u t] 16 ?_;refine wd [1,2,4,5,6,8,9,10] ?_;refine h_ 0 rfl i6 ?_;refine M4 rfl ?_;intro OO;refine ae ?_;refine h_ 3 rfl i6 ?_;refine u6 uG (l:=[]) (m:=c.bl) ap dq (by show(0+c.bl.length)*32<=_;rw[a.2.1];omega) ?_ (hsrc:=fun v b=>by rw[a.1,a.2.1];exact z.le b.keep) (h63:=by rw[a.2.1];simp only[z6];omega);intro a37 h1 _;refine ae ?_;refine h_ 7 rfl i6 ?_;refine e_ rfl (Dg.Sum_ct t.d.body qb) qw rfl ?_;refine gn [11] ?_;refine h_ 12 rfl i6 ?_;refine C4 uG (Dg.sha t.d.body,t.d.body) rfl ?_;intro a46 _;refine xI ?_;refine h_ 13 rfl i6 ?_;refine u6 uG (l:=c.bl) (m:=[(Dg.sha t.d.body,t.d.body)]) ap dq (by show(c.bl.length+1)*32<=_;rw[a.2.1];omega) ?_ (h63:=by rw[a.2.1];simp only[zy,z6];omega);intro T U _;refine E5 [14,15] ?_;refine kf (Z:=[.own (.slice T (c.bl++[(Dg.sha t.d.body,t.d.body)]).length U) 95 2 (uH (c.bl++[(Dg.sha t.d.body,t.d.body)]))]) tk fun n p ⟨bs,X⟩=>?_;exact y5 (c.bl++[(Dg.sha t.d.body,t.d.body)],(T,U),(),n) ⟨p,by unfold Rk;rw[zu h,a.2.1],A2.rd X ud⟩ rfl (fun v b=>C1 (A:=[_,_]) (J:=[qD u t,_]) tk b)
  ·refine u7 ?_;have Q:¬t.d.store=true:=fun e=>(by rw[e] at h;cases h);exact y5 (c.bl,(c.ba,c.bc),(),F) ⟨l6.le_refl _,by unfold Rk;rw[zk Q,a.2.1],by rw[a.1,a.2.1];exact z⟩ rfl (fun v b=>C1 (A:=[_,_]) (J:=[_]) tk b)
 rintro j o _ n ⟨p,Y,h0⟩;obtain⟨V,r⟩:∃V:WM,V={c with bl:=j,ba:=o.1,bc:=o.2}:=⟨_,rfl⟩;rw[<-r];refine L7 ?_;refine G_ (A:=[]) (v:=Ff V) p ⟨V,rfl,rfl,?_,by rw[r];exact h0⟩ ?_
 ·rw[r,S,d];exact⟨rfl,rfl,rfl,rfl,rfl,rfl,Y⟩
 ·exact G5 rfl rfl ud rfl _ qh (fun v b=>C1 (A:=[]) (J:=[_,_]) tk b)
