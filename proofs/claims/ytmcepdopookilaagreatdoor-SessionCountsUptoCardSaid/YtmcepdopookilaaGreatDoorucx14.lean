import Derived.Test.YtmcepdopookilaaGreatDoorucx13
set_option maxHeartbeats 16000000
set_option maxRecDepth 8000
set_option linter.unusedVariables false
set_option linter.unusedSimpArgs false
set_option linter.defProp false
namespace Go.Proofs.YtmcepdopookilaaGreatDoor.Rp
open Go Go.Sl Go.RowKit Go.Proofs.Tryz
theorem nz{H H' a:List As}{x:As}(u:M2 H x a H'):∀M:List As,M2 (M++H) x a (M++H')
 |[]=>u
 |_::M=>.there (nz u M)
theorem wx(z:KA)(i:Nat)(m:KM):KA.own ⟨z.l.set i m,z.a,z.c⟩=.own (.slice z.a z.l.length z.c) 127 6 ((z.l.set i m).flatMap bD):=by
 show As.own (.slice z.a (z.l.set i m).length z.c) _ _ _=_;rw[js]
abbrev Ho(m:KM)(n:Nat):KM:=⟨{m.k with kids:=n},m.a,m.c⟩
theorem mQ.same{z:KA}{i:Nat}{m:KM}{B:List KA}:∀N:List KA,mQ (N++z::B) (N++⟨z.l.set i m,z.a,z.c⟩::B)
 |[]=>.cons ⟨rfl,rfl,by rw[js];exact zr _⟩ (mQ.refl _)
 |y::N=>.cons ⟨rfl,rfl,zr _⟩ (mQ.same N)
theorem gD{P:Program}{N:Nat}{K R:y6}{E:List (Nat×y6)}{L:F_}{F:l6}{ops:Array Oper}{rest:List Oper}{ty:TypeId}{pos:String}{af:Array Edge}{t:TypeId}{i:KT}{W:List As}{a:Option Addr}{at_ n q:Nat}{x y:Operand}[hs:HS P t 1](p:∃M z B,i.y::i.D=M++z::B/\z.a=a/\at_<z.l.length)(b:wt i)(g:n<=2000000000)(h:∀j:KT,cH i j->wt j->j.y.a=i.y.a->j.y.c=i.y.c->j.y.l.length=i.y.l.length->GL P N ops rest K E R L F (W++wr j))(hx:ev L x=some (.pointer (N1 a q)))(hv:ev L y=some (.int .i64 (n:Nat)))(hq:q=at_*6+1):GL P N ops (⟨none,.store t x y,ty,pos,af,none⟩::rest) K E R L F (W++wr i):=by
 obtain⟨M,z,B,e,rfl,f⟩:=p;have hg:∀j:KT,j.y::j.D=M++⟨z.l.set at_ (Ho z.l[at_] n),z.a,z.c⟩::B->i.y.l.length<=j.y.l.length->j.S=i.S->cH i j:=fun j d r s=>⟨r,⟨[],_,rfl,by rw[e,d];exact mQ.same M⟩,[],s⟩
 cases M with
 |nil=>
  obtain⟨rfl,rfl⟩:=List.cons.inj e;refine A9 (C:=bD) (l:=i.y.l) (i:=at_) (j:=1) (Ho i.y.l[at_] n) an f rfl (H':=W++wr ⟨⟨i.y.l.set at_ (Ho i.y.l[at_] n),i.y.a,i.y.c⟩,i.D,i.S⟩) (h _ (hg _ rfl (by rw[js];exact zr _) rfl) ⟨by rw[js];exact b.len,fun m k=>?_,fun m k=>?_⟩ rfl rfl (by rw[js])) (hx:=hx) (hv:=hv) (len:=i.y.l.length) (c:=i.y.c) (te:=127) (u:=nz (by show M2 _ _ _ (KA.own ⟨_,_,_⟩::_);rw[wx];exact .here) W) (hq:=hq)
  ·rcases jp k with d|rfl
   ·exact b.set m d
   ·have o:=b.set _ (zx f);exact⟨o.1,o.2.1,o.2.2.1,g⟩
  ·rcases jp k with d|rfl
   ·exact b.own m d
   ·show(i.y.l[at_]).k.set=[]\/V3 (i.y.l[at_]).a (i.y.l[at_]).k.set (i.y.l[at_]).c∈i.S;exact b.own _ (zx f)
 |cons y0 M=>
  obtain⟨rfl,v⟩:=List.cons.inj e;refine A9 (C:=bD) (l:=z.l) (i:=at_) (j:=1) (Ho z.l[at_] n) an f rfl (len:=z.l.length) (c:=z.c) (te:=127) (H':=W++wr ⟨i.y,M++⟨z.l.set at_ (Ho z.l[at_] n),z.a,z.c⟩::B,i.S⟩) (h _ (hg _ rfl (zr _) rfl) ⟨b.len,b.set,b.own⟩ rfl rfl rfl) (hx:=hx) (hv:=hv) (u:=nz (.there ?_) W) (hq:=hq);rw[show i.D=M++z::B from v,jm,jm,Qu,Qu,zn,zn,wx];exact nz .here _
theorem sA{s:Bs}{i a:KT}{p n b:Nat}(h:px s (fun(i:KT) p c p'=>p<=p'/\p'<=s.length/\cH i c/\wt c) i p n a b):p<=b/\b<=s.length/\cH i a/\wt a:=by
 induction h with
 |one h=>exact h
 |more h hl hr ih=>exact⟨by omega,hr.2.1,ih.2.2.1.trans hr.2.2.1,hr.2.2.2⟩
theorem ul{s:Bs}{i c:KT}{p n a:Nat}(h:px s (fun(i:KT) p b p'=>p<=p'/\p'<=s.length/\cH i b/\wt b) i p n c a):n<=a+1:=by
 induction h with
 |one h=>omega
 |more h hl hr ih=>have:=hr.1;omega
theorem gE{Q X Y:As}{Z:List As}:((Q::(Z++[X,Y]))++[]).Perm (X::Y::Q::Z):=by
 rw[z8];exact(kj (l₁:=Q::Z) (l₂:=[X,Y]))
theorem Bv{u i:KT}{at_:Nat}(h:cH u i)(ha:at_<u.y.l.length):∃M z B,i.y::i.D=M++z::B/\z.a=u.y.a/\at_<z.l.length:=by
 obtain⟨N,B,e,k⟩:=h.arr
 cases k with
 |@cons x y l m k1 k2=>exact⟨N,y,m,e,k1.1,Nat.lt_of_lt_of_le ha k1.2.2⟩
theorem pF(b:Nat)(s:Bs)(hs:s.length<=1000000000)(d:Nat)(Z:d<=100)(hk:d<=8->rt 345 b s (d+1)):rt 284 b s d:=fun p c x t hp ht=>by
 refine B7 22 func284 rfl rfl rfl ?_;intro F hg;refine p_ ?_;intro r;refine p_ ?_;intro y;refine p_ ?_;refine f_ ((y7 rfl rfl).eq (v':=.agg (bD ⟨⟨1,0,[],[],0,[]⟩,none,0⟩).toArray) rfl) ?_;refine w6 [pB r b,.blk y (.cells #[.int .i64 (d:Nat)] 3)] rfl (eR b s p c x t ⟨⟨1,0,[],[],0,[]⟩,none,0⟩ ht.len) (fun w f=>f.perm ((List.Perm.swap _ _ _).trans (kj (l₁:=[_,_])))) qw rfl rfl (l6.le_refl _) (fun v h=>h) ?_;rintro v A ⟨u,rfl,rfl,h3,h4,C,J⟩;refine I6 (fun w f=>f.perm kj) ?_;simp only[Qc,j7];refine p_ ?_;have ku:=cq ht h4 C J ⟨by simp,by simp,by simp,by simp⟩ (.inl rfl);have M:t.y.l.length<u.y.l.length:=by rw[C];simp
 obtain⟨q,hq⟩:=o7 (decide (d<=8));refine p_ ?_;refine f_ ((G2 rfl rfl).eq (v':=.bool q) (qn ((qz).trans hq.symm))) ?_;refine n5 (G7 q) qw rfl (fun v h=>h.2) ?_;rintro v A ⟨S,rfl,rfl⟩;refine u7 ?_;have O:=qr (hq.symm.trans S);refine B4 (a:=u.y.a) (n:=u.y.l.length) (c:=u.y.c) (sz:=6) (xs:=qM u.y.l) ud ?_;intro _ _ m;replace m:=m qb;rw[eQ];refine u7 ?_;refine D9 [0,6] [4,8,9,11] [pB r b] 12 ?_;refine wd [0,1,2,3,5,6,7] ?_;refine bv 4 8 rfl rfl i6 ?_ ?_;refine r_ (by first|exact E9 rfl ud (by rfl)|exact i8 rfl (fun w f=>vk f (by assumption) (by rfl))) ?_;refine ae ?_;refine h_ 8 rfl i6 ?_;refine w6 [] rfl (nu b s hs 344 [m6 r,m6 y] Gl (pA c) (ny x) (fun i=>wr i++[pB r b,.blk y (.cells #[.int .i64 (d:Nat)] 3)]) (fun i p=>wt i/\cH u i) (fun i p z l=>p<=l/\l<=s.length/\cH i z/\wt z) (fun _ _=>True) (fun i p z l h hp o=>⟨o.1,o.2.1,o.2.2.2,h.2.trans o.2.2.1⟩) (fun _ _ h=>h) (fun i p h hp=>(sy b r y s d Z (hk O) p c x i hp h.1).mono (fun _ h=>h) (fun v A ⟨u,l,T,U,e,V,C,J⟩=>⟨u,l,⟨T,U,C,J⟩,e,V⟩) (fun v h=>⟨trivial,h⟩)) u p ⟨ku,cH.refl u⟩ hp) (fun w f=>by rw[<-eQ b s p c x u] at f;exact f.perm gE.symm) pre rfl rfl (l6.le_refl _) (fun v h=>h.2) ?_;rintro v A ⟨n,i,l,g,X,rfl,rfl⟩;refine I6 (fun w f=>f.perm gE) ?_;rw[eQ];obtain⟨i1,i2,D,Q⟩:=sA g;have Y:=D.len;refine Ak (a:=i.y.a) (n:=i.y.l.length) (c:=i.y.c) (sz:=6) (xs:=qM i.y.l) ud ?_;intro _ _ k;replace k:=k qb;refine xI ?_;refine h_ 9 rfl i6 ?_
 first|refine f_ (m8 rfl m rfl qb) ?_|refine f_ (m8 rfl k rfl qb) ?_
 refine E5 [10] ?_;refine h_ 11 rfl i6 ?_;(first|refine gD (W:=[_,_,_]) (i:=i) (a:=u.y.a) (at_:=t.y.l.length) (n:=n) (Bv D M) Q (by have:=ul g;omega) ?_ rfl rfl y4|refine gD (W:=[_,_,_]) (i:=i) (a:=i.y.a) (at_:=t.y.l.length) (n:=n) ⟨[],i.y,i.D,rfl,rfl,by omega⟩ Q (by have:=ul g;omega) ?_ rfl rfl y4);intro j j1 j2 j3 j4 j5;refine E5 [] ?_
 rotate_left 1
 refine w6 [] rfl (nu b s hs 344 [m6 r,m6 y] Gl (pA c) (ny x) (fun i=>wr i++[pB r b,.blk y (.cells #[.int .i64 (d:Nat)] 3)]) (fun i p=>wt i/\cH u i) (fun i p z l=>p<=l/\l<=s.length/\cH i z/\wt z) (fun _ _=>True) (fun i p z l h hp o=>⟨o.1,o.2.1,o.2.2.2,h.2.trans o.2.2.1⟩) (fun _ _ h=>h) (fun i p h hp=>(sy b r y s d Z (hk O) p c x i hp h.1).mono (fun _ h=>h) (fun v A ⟨u,l,T,U,e,V,C,J⟩=>⟨u,l,⟨T,U,C,J⟩,e,V⟩) (fun v h=>⟨trivial,h⟩)) u p ⟨ku,cH.refl u⟩ hp) (fun w f=>by rw[<-eQ b s p c x u] at f;exact f.perm gE.symm) pre rfl rfl (l6.le_refl _) (fun v h=>h.2) ?_;rintro v A ⟨n,i,l,g,X,rfl,rfl⟩;refine I6 (fun w f=>f.perm gE) ?_;rw[eQ];obtain⟨i1,i2,D,Q⟩:=sA g;have Y:=D.len;refine Ak (a:=i.y.a) (n:=i.y.l.length) (c:=i.y.c) (sz:=6) (xs:=qM i.y.l) ud ?_;intro _ _ k;replace k:=k qb;refine ae ?_;refine h_ 4 rfl i6 ?_;refine r_ (by first|exact E9 rfl ud (by rfl)|exact i8 rfl (fun w f=>vk f (by assumption) (by rfl))) ?_;refine xI ?_;refine h_ 9 rfl i6 ?_
 first|refine f_ (m8 rfl m rfl qb) ?_|refine f_ (m8 rfl k rfl qb) ?_
 refine E5 [10] ?_;refine h_ 11 rfl i6 ?_;(first|refine gD (W:=[_,_,_]) (i:=i) (a:=u.y.a) (at_:=t.y.l.length) (n:=n) (Bv D M) Q (by have:=ul g;omega) ?_ rfl rfl y4|refine gD (W:=[_,_,_]) (i:=i) (a:=i.y.a) (at_:=t.y.l.length) (n:=n) ⟨[],i.y,i.D,rfl,rfl,by omega⟩ Q (by have:=ul g;omega) ?_ rfl rfl y4);intro j j1 j2 j3 j4 j5;refine E5 [] ?_
 rotate_left 1
 all_goals (refine u7 ?_)
 all_goals exact l_ rfl _ ⟨j,l,i1,i2,rfl,rfl,(h3.trans D).trans j1,j2⟩ (fun w f=>by rw[eQ,j3,j4,j5];exact f.drop.drop)
theorem Hq(b:Nat)(s:Bs)(hs:s.length<=1000000000):∀n a,a<=50->10<=a+n->n<=20->rt 284 b s a/\rt 345 b s a
 |0,a,hd,h,hn=>by
  have c:a<=8->rt 345 b s (a+1):=fun d=>absurd h qb;have hg:=pF b s hs a qb c;exact⟨hg,ww b s hs a qb hg c⟩
 |n+1,a,hd,h,hn=>by
  have c:a<=8->rt 345 b s (a+1):=fun d=>(Hq b s hs n (a+1) qb qb qb).2;have hg:=pF b s hs a qb c;exact⟨hg,ww b s hs a qb hg c⟩
theorem DP(b:Nat)(s:Bs)(hs:s.length<=1000000000)(c:CM)(p:Nat)(hp:p<=s.length):Cx prog 215 [m6 b] Gl [H8 b s p (P6 c) G9] (fun v A=>∃(d:List KY) (p':Nat) (x:CL) (Z:List As),p'<=s.length/\d.length<=32/\(∀k∈d,EX k)/\v=.tuple #[]/\A=H8 b s p' {P6 c with keys:=d} x::Z/\sw {P6 c with keys:=d} x Z) (fun v=>v=N3):=by
 refine B7 6 func215 rfl rfl rfl ?_;intro F hg;refine p_ ?_;refine n5 (D7 b s [32] p (P6 c) G9 qb hp qp) pre rfl (fun v h=>h.2) ?_;rintro v A ⟨l,f,rfl,rfl⟩;refine u7 ?_;have n:=C_ f y4;refine O6 127 6 ?_;refine p_ ?_;refine w6 [] rfl ((Hq b s hs 9 1 qb qb qb).1 l (P6 c) G9 ⟨⟨[],none,0⟩,[],[]⟩ n.2.2 ⟨by simp,fun m a=>by simp at a,fun m a=>by simp at a⟩) (fun w g=>x7.hp tk g) pre rfl rfl (l6.le_refl _) (fun v h=>h) ?_;rintro v A ⟨u,p',r,o,rfl,rfl,t,i⟩;rw[z8];refine u7 ?_;refine l_ rfl _ ⟨u.y.l.map KM.k,p',ny G9 u,wr u,o,by rw[zm];exact i.len,fun k q=>?_,rfl,rfl,fun h y j=>⟨o0.nil _ _,o0.nil _ _,⟨u.y.l,rfl,A2.rd j .del,fun m a=>?_⟩,o0.nil _ _⟩⟩ fun w g=>g
 ·obtain⟨m,a,rfl⟩:=jv.1 q;exact i.set m a
 ·rcases i.own m a with e|e
  ·rw[e];exact o0.nil _ _
  ·exact dQ j (.tail _ (K2 _ e))
def Oi:Nat->FuncId
 |1=>207
 |2=>207
 |3=>207
 |4=>207
 |5=>207
 |6=>208
 |7=>209
 |8=>210
 |9=>210
 |10=>211
 |11=>211
 |12=>212
 |13=>213
 |14=>214
 |15=>215
 |16=>216
 |17=>217
 |18=>218
 |_=>207
abbrev fnV(k:Nat):Value:=if k=0 then .nilFunc else .func (.func (Oi k)) #[] #[]
abbrev Ml(k:Nat):Value:=.tuple #[.agg #[.int .i64 (k:Nat),.bool (decide (15<=k)),fnV k],.bool (decide (k≠0))]
theorem Mm{w:Bs}(h:w∉vD):H5 w=0:=zk h
theorem mn(w:Bs):Pu prog 133 [B w] (fun _=>True) (Ml (H5 w)):=by
 refine b_ 60 func133 rfl rfl rfl ?_;intro F _;refine p_ ?_;intro u;refine EW ?_ ?_<;>intro k
 ·obtain rfl:=qr k;refine bT ?_;exact D2 rfl rfl rfl ud rfl [] ⟨by rw[show H5 _=1 from by decide];rfl,rfl⟩ (fun w a=>a.dropAll)
 refine bd ?_ ?_<;>intro l
 ·obtain rfl:=qr l;refine bT ?_;exact D2 rfl rfl rfl ud rfl [] ⟨by rw[show H5 _=2 from by decide];rfl,rfl⟩ (fun w a=>a.dropAll)
 refine bd ?_ ?_<;>intro m
 ·obtain rfl:=qr m;refine bT ?_;exact D2 rfl rfl rfl ud rfl [] ⟨by rw[show H5 _=3 from by decide];rfl,rfl⟩ (fun w a=>a.dropAll)
 refine bd ?_ ?_<;>intro n
 ·obtain rfl:=qr n;refine bT ?_;exact D2 rfl rfl rfl ud rfl [] ⟨by rw[show H5 _=4 from by decide];rfl,rfl⟩ (fun w a=>a.dropAll)
 refine bd ?_ ?_<;>intro o
 ·obtain rfl:=qr o;refine bT ?_;exact D2 rfl rfl rfl ud rfl [] ⟨by rw[show H5 _=5 from by decide];rfl,rfl⟩ (fun w a=>a.dropAll)
 refine bd ?_ ?_<;>intro p
 ·obtain rfl:=qr p;refine bT ?_;exact D2 rfl rfl rfl ud rfl [] ⟨by rw[show H5 _=6 from by decide];rfl,rfl⟩ (fun w a=>a.dropAll)
 refine bd ?_ ?_<;>intro q
 ·obtain rfl:=qr q;refine bT ?_;exact D2 rfl rfl rfl ud rfl [] ⟨by rw[show H5 _=7 from by decide];rfl,rfl⟩ (fun w a=>a.dropAll)
 refine bd ?_ ?_<;>intro r
 ·obtain rfl:=qr r;refine bT ?_;exact D2 rfl rfl rfl ud rfl [] ⟨by rw[show H5 _=8 from by decide];rfl,rfl⟩ (fun w a=>a.dropAll)
 refine bd ?_ ?_<;>intro s
 ·obtain rfl:=qr s;refine bT ?_;exact D2 rfl rfl rfl ud rfl [] ⟨by rw[show H5 _=9 from by decide];rfl,rfl⟩ (fun w a=>a.dropAll)
 refine bd ?_ ?_<;>intro b
 ·obtain rfl:=qr b;refine bT ?_;exact D2 rfl rfl rfl ud rfl [] ⟨by rw[show H5 _=10 from by decide];rfl,rfl⟩ (fun w a=>a.dropAll)
 refine bd ?_ ?_<;>intro c
 ·obtain rfl:=qr c;refine bT ?_;exact D2 rfl rfl rfl ud rfl [] ⟨by rw[show H5 _=11 from by decide];rfl,rfl⟩ (fun w a=>a.dropAll)
 refine bd ?_ ?_<;>intro d
 ·obtain rfl:=qr d;refine bT ?_;exact D2 rfl rfl rfl ud rfl [] ⟨by rw[show H5 _=12 from by decide];rfl,rfl⟩ (fun w a=>a.dropAll)
 refine bd ?_ ?_<;>intro e
 ·obtain rfl:=qr e;refine bT ?_;exact D2 rfl rfl rfl ud rfl [] ⟨by rw[show H5 _=13 from by decide];rfl,rfl⟩ (fun w a=>a.dropAll)
 refine bd ?_ ?_<;>intro f
 ·obtain rfl:=qr f;refine bT ?_;exact D2 rfl rfl rfl ud rfl [] ⟨by rw[show H5 _=14 from by decide];rfl,rfl⟩ (fun w a=>a.dropAll)
 refine bd ?_ ?_<;>intro g
 ·obtain rfl:=qr g;refine bT ?_;exact D2 rfl rfl rfl ud rfl [] ⟨by rw[show H5 _=15 from by decide];rfl,rfl⟩ (fun w a=>a.dropAll)
 refine bd ?_ ?_<;>intro h
 ·obtain rfl:=qr h;refine bT ?_;exact D2 rfl rfl rfl ud rfl [] ⟨by rw[show H5 _=16 from by decide];rfl,rfl⟩ (fun w a=>a.dropAll)
 refine bd ?_ ?_<;>intro i
 ·obtain rfl:=qr i;refine bT ?_;exact D2 rfl rfl rfl ud rfl [] ⟨by rw[show H5 _=17 from by decide];rfl,rfl⟩ (fun w a=>a.dropAll)
 refine bd ?_ ?_<;>intro j
 ·obtain rfl:=qr j;refine bT ?_;exact D2 rfl rfl rfl ud rfl [] ⟨by rw[show H5 _=18 from by decide];rfl,rfl⟩ (fun w a=>a.dropAll)
 refine bT ?_;refine D2 rfl rfl rfl ud rfl [] ⟨?_,rfl⟩ (fun w a=>a.dropAll);rw[Mm (w:=w) ?_]
 ·rfl
 ·intro t;simp only[vD,ky,Kr,Yj] at t;simp only[Zp] at k l m n o p q r s b c d e f g h i j
  simp_all
theorem Hs{c d:UInt8}:decide ([c]=[d])=decide (c=d):=zh.2 y4
theorem Ht:vR 135 (fun c=>!decide (c=32)):=fun c=>by
 refine b_ 5 func135 rfl rfl rfl ?_;intro F _;refine y8 ?_;refine f_ ((E7 rfl rfl).eq (jw (fun b=>Value.bool (!b)) (Hs (d:=32)))) ?_;refine C8 ?_;exact d_ rfl rfl [] qh i_
theorem Mo:vR 205 yj:=fun c=>by
 obtain⟨a,f⟩:=o7 (decide (c=43));obtain⟨h,g⟩:=o7 (P0 c);have e:yj c=(!a&&h):=by unfold yj;rw[<-f,<-g,W4]
 rw[e];refine b_ 9 func205 rfl rfl rfl ?_;intro F _
 cases a
 all_goals (
  refine y8 ?_;refine f_ ((E7 rfl rfl).eq (jw (fun b=>Value.bool (!b)) ((Hs (d:=43)).trans f.symm))) ?_;refine y8 ?_;(first|refine u_ ?_|(refine v_ ?_;refine e_ rfl (pf c) qw rfl ?_;rw[<-g]));refine y8 ?_)
 all_goals (refine A3 ?_;exact d_ rfl rfl [] qh i_)
theorem PB(b:Nat)(s:Bs)(hs:s.length<=1000000000):Ct prog 131 [m6 b] (fun _=>True) [H8 b s 0 iw G9] (fun v A=>v=.bool (dU s)/\∃p c,A=[H8 b s p c G9]/\(dU s=true->p=(cE s).length+1/\c=first s)):=by
 have m:(cE s).length<=s.length:=by have:=bQ (q:=yj) (s:=s) (p:=0) (zw _);rw[ju] at this;exact this
 obtain⟨a,j⟩:=o7 (decide (cE s=[]));obtain⟨d,l⟩:=o7 (decide (32<(cE s).length));obtain⟨f,i⟩:=o7 (I0 s [32] (cE s).length);have e:dU s=(!a&&!d&&f):=by
  unfold dU;rw[j,l,i];congr 1;congr 1
  ·cases cE s<;>simp
  ·rw[<-decide_not];exact zh.2 qb
 rw[e];refine b_ 23 func131 rfl rfl rfl ?_;intro F _;refine y8 ?_;refine c_ (eO 205 yj Mo b s 0 iw G9 qb (zw _)) qw ?_;rintro v A ⟨rfl,rfl⟩;rw[ju,show N9 yj s 0=cE s from rfl];refine p_ ?_;refine n7 (ι:=Nat) (fun p=>(!a&&!d&&f)=true->p=(cE s).length+1) (fun _=>[(0,m6 b),(3,B (cE s)),(17,.bool (!(!a&&!d&&f)))]) (fun p=>[H8 b s p iw G9]) ?_ ?_
 ·cases a<;>cases d
  all_goals (
   refine p_ ?_;refine f_ ((C5 rfl rfl).eb j) ?_;refine E4 ?_;(first|refine u_ ?_|(refine v_ ?_;refine f_ ((D8 rfl rfl).eq (qn ((qz).trans l.symm))) ?_));refine E4 ?_;(first|refine u_ ?_|(refine v_ ?_;refine c_ (S6 b s [32] (cE s).length iw G9 qb m qp) qw ?_;rintro v A ⟨rfl,rfl⟩;rw[<-i]));refine y8 ?_)
  ·exact g_ _ (fun k=>by
    have k3:f=true:=(by simpa using k);unfold H3;rw[<-i,k3];rfl) i_
  all_goals exact g_ (cE s).length (fun k=>by simp at k) i_
 rintro p hp;refine O1 ?_ ?_<;>intro h
 ·refine C8 ?_;have g:(!a&&!d&&f)=false:=by revert h;cases a<;>cases d<;>cases f<;>simp
  rw[g];exact d_ rfl rfl [H8 b s p iw G9] ⟨rfl,p,iw,rfl,fun k=>by cases k⟩ i_
 ·have g:(!a&&!d&&f)=true:=by revert h;cases a<;>cases d<;>cases f<;>simp
  refine KW ?_;rw[g];exact d_ rfl rfl [H8 b s p (first s) G9] ⟨rfl,p,first s,rfl,fun _=>⟨hp g,rfl⟩⟩ i_
def bE(s:Bs)(c:CM)(p:Nat)(r:Option (CM×Nat)):Prop:=
 if c.kind=15 then r=none\/∃ks e,r=some ({c with keys:=ks},e)/\ks.length<=32/\∀k∈ks,EX k
 else r=T6 c s p
theorem ke{c:CM}{s:Bs}{p:Nat}(h:c.cond=false):((I9 c s p).map fun q=>({q.1 with cond:=I0 s cg q.2},H3 s cg q.2))=lf c s p:=by
 unfold lf
 cases hn:I9 c s p with
 |none=>rfl
 |some r=>
  obtain⟨w,e,rfl⟩:=cp hn;simp only[Qz];unfold H3
  cases hl:I0 s cg e
  ·simp[h,hl]
  ·simp[hl]
theorem dj{α β:Type}{o:Option α}{f:α->β}{r:β}(h:o.map f=some r):∃q,o=some q/\f q=r:=kg.1 h
abbrev Re(r:CM×Nat):Prop:=r.1.set=[]/\r.1.a5J=[]/\r.1.keys=[]/\r.1.a5R=[]
theorem fQ{c:CM}{p:Nat}{r:CM×Nat}(h:some (P6 c,p)=some r):Re r:=by cases h;exact⟨rfl,rfl,rfl,rfl⟩
theorem yP{c:CM}{s:Bs}{p:Nat}{r:CM×Nat}(h:((H9 s Az p).map fun e=>(P6 c,e))=some r):Re r:=by
 obtain⟨q,_,rfl⟩:=dj h;exact⟨rfl,rfl,rfl,rfl⟩
theorem DQ{c:CM}{s:Bs}{p:Nat}{r:CM×Nat}(h:dx (P6 c) s p=some r):Re r:=by
 unfold dx at h;obtain⟨q,_,a⟩:=zp.1 h;obtain⟨t,_,rfl⟩:=dj a;exact⟨rfl,rfl,rfl,rfl⟩
theorem lw{c:CM}{s:Bs}{p:Nat}{r:CM×Nat}(h:I9 (P6 c) s p=some r):Re r:=by
 obtain⟨w,e,rfl⟩:=cp h;exact⟨rfl,rfl,rfl,rfl⟩
theorem sB{c:CM}{s:Bs}{p:Nat}{r:CM×Nat}(h:lf (P6 c) s p=some r):Re r:=by
 unfold lf at h;obtain⟨q,a,rfl⟩:=dj h;have:=lw a;split<;>exact this
theorem Hu{c:CM}{s:Bs}{p:Nat}{r:CM×Nat}(h:jA (P6 c) s p=some r):Re r:=by
 unfold jA at h;obtain⟨q,_,a⟩:=zp.1 h;split at a
 ·obtain⟨t,_,rfl⟩:=dj a;exact⟨rfl,rfl,rfl,rfl⟩
 ·cases a;exact⟨rfl,rfl,rfl,rfl⟩
abbrev W_(f:FuncId)(b:Nat)(s:Bs)(c:CM)(p:Nat):Prop:=Cx prog f [m6 b] Gl [H8 b s p (P6 c) G9] (fun v A=>∃r x Z,bE s (P6 c) p (some r)/\v=.tuple #[]/\A=H8 b s r.2 r.1 x::Z/\sw r.1 x Z) (fun v=>bE s (P6 c) p none/\v=N3)
theorem W_.of_m{f:FuncId}{b:Nat}{s:Bs}{a:CM->Nat->Option (CM×Nat)}(h:sx f b s a){c:CM}{p:Nat}(hp:p<=s.length)(d:c.kind≠15)(e:a (P6 c) p=T6 (P6 c) s p):W_ f b s c p:=
 (h c p hp).mono (fun _ h=>h) (fun v A ⟨r,x,Z,g,i,j,k⟩=>⟨r,x,Z,by unfold bE;rw[zk d,<-e];exact g.symm,i,j,k⟩) (fun v h=>⟨by unfold bE;rw[zk d,<-e];exact h.1.symm,h.2⟩)
theorem Mp(b:Nat)(s:Bs)(hs:s.length<=1000000000)(c:CM)(p:Nat)(hp:p<=s.length)(l:1<=c.kind)(d:c.kind<=18):W_ (Oi c.kind) b s c p:=by
 by_cases h15:c.kind=15
 ·rw[h15];show W_ 215 b s c p;exact(DP b s hs c p hp).mono (fun _ h=>h) (fun v A ⟨e,f,x,Z,m,i,a3,a4,a5,j⟩=>⟨({P6 c with keys:=e},f),x,Z,by unfold bE;rw[zu h15];exact .inr ⟨e,f,rfl,i,a3⟩,a4,a5,j⟩) (fun v h=>⟨by unfold bE;rw[zu h15];exact .inl rfl,h⟩)
 obtain⟨k,a⟩:∃k,c.kind=k:=⟨_,rfl⟩;have g:k<=18:=a▸d;rw[a]
 match k,a,g with
 |0,a,_=>omega
 |1,a,_=>exact W_.of_m (sx.of_x (co b s) fun c p r h=>fQ h) hp h15 ((by simp[T6,a]))
 |2,a,_=>exact W_.of_m (sx.of_x (co b s) fun c p r h=>fQ h) hp h15 ((by simp[T6,a]))
 |3,a,_=>exact W_.of_m (sx.of_x (co b s) fun c p r h=>fQ h) hp h15 ((by simp[T6,a]))
 |4,a,_=>exact W_.of_m (sx.of_x (co b s) fun c p r h=>fQ h) hp h15 ((by simp[T6,a]))
 |5,a,_=>exact W_.of_m (sx.of_x (co b s) fun c p r h=>fQ h) hp h15 ((by simp[T6,a]))
 |6,a,_=>exact W_.of_m (sx.of_x (DE b s hs) fun c p r h=>yP h) hp h15 ((by simp[T6,a]))
 |7,a,_=>exact W_.of_m (sx.of_x (Hc b s hs) fun c p r h=>DQ h) hp h15 ((by simp[T6,a]))
 |8,a,_=>exact W_.of_m (sx.of_x (wl b s hs) fun c p r h=>sB ((ke rfl).symm.trans h)) hp h15 ((ke rfl).trans (by simp[T6,a]))
 |9,a,_=>exact W_.of_m (sx.of_x (wl b s hs) fun c p r h=>sB ((ke rfl).symm.trans h)) hp h15 ((ke rfl).trans (by simp[T6,a]))
 |10,a,_=>exact W_.of_m (sx.of_x (dY b s hs) fun c p r h=>lw h) hp h15 ((by simp[T6,a]))
 |11,a,_=>exact W_.of_m (sx.of_x (dY b s hs) fun c p r h=>lw h) hp h15 ((by simp[T6,a]))
 |12,a,_=>exact W_.of_m (sx.of_x (Hd b s hs) fun c p r h=>Hu h) hp h15 ((by simp[T6,a]))
 |13,a,_=>exact W_.of_m (DK b s hs) hp h15 ((by simp[T6,a]))
 |14,a,_=>exact W_.of_m (DN b s hs) hp h15 ((by simp[T6,a]))
 |15,a,_=>exact absurd a h15
 |16,a,_=>exact W_.of_m (Hl b s hs) hp h15 ((by simp[T6,a]))
 |17,a,_=>exact W_.of_m (Hh b s hs) hp h15 ((by simp[T6,a]))
 |18,a,_=>exact W_.of_m (DM b s hs) hp h15 ((by simp[T6,a]))
 |k+19,a,g=>omega
end Go.Proofs.YtmcepdopookilaaGreatDoor.Rp
namespace Go.Sl
open Go Go.RowKit Go.Proofs.Tryz
section
variable{P:Program}{Q:Exit->Act->World->Prop}
theorem pG{ops:Array Oper}(ds:List Deferred):∀(l:List Oper) (a:Act) (w:World),wpList P ops Q l a w->wpList P ops (shQ ds Q) l (qW ds a) w
 |[],a,w,h=>⟨a,rfl,h⟩
 |o::rest,a,w,h=>by
  have b:∀a w,wpList P ops Q rest a w->wpList P ops (shQ ds Q) rest (qW ds a) w:=fun a w h=>pG ds rest a w h;have s:(qW ds a).tmps=a.tmps:=rfl;have m:(qW ds a).eval=a.eval:=by funext x;cases x<;>rfl
  unfold wpList at h⊢;rw[s];split
  ·rename_i g;simp only[g,if_true] at h;rcases h with h|⟨h,⟨i,j,t⟩⟩
   ·left;unfold Oper.wp at*;rw[m];generalize (execOp a.eval o).run P w=r at*
    cases r with
    |ok n w'=>
     cases n<;>simp only[Oper.upon] at*
     case value v=>rw[gg];exact b _ _ h
     case skip=>rw[gg];exact b _ _ h
     case defer d=>have p:=b _ _ h;rw[<-gg] at p;exact p
     case enter f args=>
      refine h.mono (fun e k q=>?_)
      cases e with
      |returned v=>simp only at q⊢;rw[gg];exact b _ _ q
      |panicked c=>exact⟨_,rfl,q⟩
      |outgrown=>obtain⟨i,j,q⟩:=q;exact⟨_,j,i,rfl,q⟩
     case row row args=>exact h.mono (fun v k q=>by rw[gg];exact b _ _ q)
    |halt x w'=>cases x<;>simp only[Oper.upon] at* <;>first|exact h.elim|exact⟨_,rfl,h⟩
   ·right;refine⟨?_,⟨_,j,i,rfl,t⟩⟩;unfold Oper.asks at*;rw[m];exact h
  ·rename_i g;simp only[g] at h;rw[gg];exact b _ _ h
theorem um{N:Nat}{id:Nat}{l:List Oper}{K Kp R:y6}{L:F_}{F:l6}{H:List As}(ds:List Deferred)(h:GL P N l.toArray l K [(1,Kp)] R L F H)(c:∀a w,K a w->Q .normal (qW ds a) w)(hp:∀(a:Act) (w:World) (v:Value),Kp ⟨a.tmps.push v,a.defers⟩ w->Q (.panic [{v:=v,recovered:=false}]) (qW ds a) w)(d:∀a w,R a w->Q .ret (qW ds a) w){a:Act}{w:World}(hf:G3 N L a)(f:Hp F w H):(Code.region id l.toArray false).wp P Q (qW ds a) w:=by
 unfold GL at h;refine Code.wp_mono ?_ (wp_region_lit (pG ds _ _ _ (h a w hf f)));rintro e g i ⟨j,rfl,q⟩
 cases e with
 |normal=>exact c _ _ q
 |ret=>exact d _ _ q
 |exit id=>simp[MQ,List.lookup] at q
 |goto l=>exact q.elim
 |panic ch=>
  rcases q with⟨k,v,b,_⟩|⟨k,v,b,rfl,q⟩
  ·cases b
  ·injection b with b;subst b;exact hp _ _ _ q
 |outgrown=>exact q.elim
end
def Mq(N:Nat)(L:F_)(F:l6)(Hr:List As)(Pq:Value->Prop):y6:=fun a w=>∃tm v,a.tmps=tm.push v/\a.defers=[]/\G3 N L ⟨tm,[]⟩/\Hp F w Hr/\Pq v
section
variable{P:Program}{N:Nat}{K R:y6}{E:List (Nat×y6)}{L L':F_}{F:l6}{H Hr:List As}{ops:Array Oper}{rest:List Oper}{ty:TypeId}{pos:String}{af:Array Edge}{Pq Pq':Value->Prop}
theorem pH{o:Oper}{d:Nat}{f:FuncId}{vs:List Value}{j:l9->Prop}{C Rr:List As}{i:Value->List As->Prop}(hg:o.guard=none)(r:o.dst=some d)(O:Nat.blt d N=true)(s:∀ρ w,Fl L ρ->(execOp ρ o).run P w=.ok (.enter f vs.toArray) w)(hc:Cx P f vs j C i Pq)(hH:∀w,Hp F w H->Hp F w (C++Rr))(t:∀h,l9.le F.heap h->(∃bs,A2 h Rr bs)->j h)(Q:E.lookup 1=some (Mq N L' F Hr Pq'))(z:fp L' L)(S:∀w,Hp F w Rr->Hp F w Hr)(D:∀v,Pq v->Pq' v)(h:∀v A,i v A->GL P N ops rest K E R ((d,v)::L) F (A++Rr)):GL P N ops (o::rest) K E R L F H:=by
 unfold GL at h⊢;intro a w hf T;have g:=hH w T;obtain⟨bs,hs,x,k⟩:=g.own;obtain⟨y,U,e,l,m⟩:=A2.split hs;subst e;have n:j (E3 w y):=by
  refine t _ (fun b V p=>?_) ⟨U,A2.same m fun b J=>?_⟩
  ·have X:=g.keep b V p;have M:b∉y:=fun J=>(by rw[k b (by simp[J])] at p;cases p);simpa[E3,M,hp] using X
  ·have M:b∉y:=fun hc=>(j6.1 x).2.2 b hc b J rfl;simp[E3,M,hp]
 refine wpList_plain hg fun K' Y=>?_;unfold Oper.wp;rw[s _ w hf.agr,Oper.upon_enter];refine(hc w y l (j6.1 x).1 n).mono ?_;rintro e w' (⟨v,A,rfl,q,c⟩|⟨v,rfl,Z,c⟩)
 ·rw[r];exact Y _ _ (h v A q _ _ (hf.put O v) (g.back l m x k c))
 ·have u:=hf.sub z;exact .inr ⟨_,v,Q,rfl,a.tmps,v,rfl,hf.defers,⟨rfl,u.size,u.at_⟩,S _ (g.back l m x k c),D v Z⟩
theorem DR{d:Nat}{f:FuncId}{args:List Operand}{e:Array TypeId}{vs:List Value}{b:l9->Prop}{C:List As}{a:Value->List As->Prop}[HF P f](Rr:List As)(hx:rC L args=some vs)(hc:Cx P f vs b C a Pq)(hH:∀w,Hp F w H->Hp F w (C++Rr))(c:∀h,l9.le F.heap h->(∃bs,A2 h Rr bs)->b h)(j:Nat.blt d N=true)(k:E.lookup 1=some (Mq N L' F Hr Pq'))(g:fp L' L)(l:∀w,Hp F w Rr->Hp F w Hr)(i:∀v,Pq v->Pq' v)(h:∀v A,a v A->GL P N ops rest K E R ((d,v)::L) F (A++Rr)):GL P N ops (⟨some d,.call ⟨.value (.func f),args.toArray,e⟩,ty,pos,af,none⟩::rest) K E R L F H:=
 pH rfl rfl j (fun ρ w hf=>aU hx hf w) hc hH c k g l i h
theorem yQ{d:Nat}{x:Operand}{f:FuncId}{args:List Operand}{i:Array TypeId}{vs ps qs b:List Value}{c:l9->Prop}{C:List As}{a:Value->List As->Prop}[hF:HF P f](Rr:List As)(hv:ev L x=some (.func (.func f) ps.toArray qs.toArray))(hx:rC L args=some vs)(e:ps++vs++qs=b)(hc:Cx P f b c C a Pq)(hH:∀w,Hp F w H->Hp F w (C++Rr))(g:∀h,l9.le F.heap h->(∃bs,A2 h Rr bs)->c h)(l:Nat.blt d N=true)(m:E.lookup 1=some (Mq N L' F Hr Pq'))(j:fp L' L)(n:∀w,Hp F w Rr->Hp F w Hr)(k:∀v,Pq v->Pq' v)(h:∀v A,a v A->GL P N ops rest K E R ((d,v)::L) F (A++Rr)):GL P N ops (⟨some d,.call ⟨.value x,args.toArray,i⟩,ty,pos,af,none⟩::rest) K E R L F H:=
 pH rfl rfl l (fun ρ w hf=>by
  have o:=hf _ _ hv;have p:=aT hf hx;subst e;simp only[execOp,resolve,o,Deferred.ofValue,Zx,p,Sem.run_bind,Sem.run_pure,Result.andThen_ok,invoke];have:(ps.toArray++vs.toArray++qs.toArray:Array Value)=(ps++vs++qs).toArray:=by simp
  rw[this];exact hF.h _ w) hc hH g m j n k h
end
end Go.Sl
namespace Go.Proofs.YtmcepdopookilaaGreatDoor.Rp
open Go Go.Sl Go.RowKit Go.Proofs.Tryz
abbrev EZ(g:Nat)(ra:Option Addr)(pre:List Nat)(rc:Nat)(Z:List As):List As:=.blk g (.cells #[.slice ra pre.length rc] 37)::U2 ra pre rc::Z
theorem Bw{g rc:Nat}{ra:Option Addr}{pre:List Nat}{Z:List As}(hz:Z.all As.isC=true):(EZ g ra pre rc Z).all As.isC=true:=by show(true&&(true&&Z.all As.isC))=true;rw[hz];rfl
def Mr(ms:List KV)(v:Value)(A:List As):Prop:=∃a l c,v=.slice a l.length c/\A=[U2 a l c]/\DC ms l
theorem pI{W a:World}(h:KeepsFrom 0 W a):KeepsWalks W a:=⟨h.size,fun k o b c=>h.same k o (zw _) b (by cases o<;>first|rfl|cases c)⟩
theorem yR(U V cs:Nat)(es:Array MapEntry)(X:List KV)(hm:N8 (.int .u64) es cs X)(hk:∀kv∈X,Px kv)(hl:X.length<=1000000000):
  Ct prog 433 [.slice none 0 0,.func (.func 422) #[] #[m6 V]] (fun h=>h U=some (.map es cs)/\h V=some (.cells #[.map (some U)] 406 (0,0))) [] (Mr X):=by
 intro Y y hs u2 J;have q5:y=[]:=hs;subst q5;rw[N4] at J;refine(callsIn_wide (n:=5)).1 (callsIn_of_wp_marks func433 rfl trivial ?_ rfl);have q6:(Y_ Y).heap U=some (.map es cs):=by rw[M1];exact J.1
 have q7:(Y_ Y).heap V=some (.cells #[.map (some U)] 406 (0,0)):=by rw[M1];exact J.2
 refine(?_:GN none 5 prog 13 _ _ (av 0 [.slice none 0 0,.func (.func 422) #[] #[m6 V]]) (Y_ Y) []) _ _ (T2 13 _ rfl) (aa Y);refine M5 ?_;refine I7 ?_;refine C6 ?_;refine L2 rfl rfl rfl ?_;intro i;refine p_ ?_;refine O8 ?_;refine M5 ?_;refine M5 ?_;refine I7 ?_;refine I8 1 ?_;refine O8 ?_;refine aV ?_;intro a C q8 j;have z:=q8.sub (L':=[(2,m6 i),(6,.func (.func 422) #[] #[m6 V])]) sub;obtain⟨F1,h8⟩:=o7 (q_ C [i]);have q9:C.heap[i]? =some (.cells #[.slice none 0 0] 37):=j.blk ud;have x0:Hp F1 C (EZ i none [] 0 []):=by
  have h1:Hp (q_ C [i]) C [.blk i (.cells #[.slice none 0 0] 37)]:=Hp.start ⟨[i],[],rfl,⟨rfl,q9⟩,rfl⟩ y4;rw[h8];exact(h1.addNil 27 1).perm (.swap _ _ _)
 have h0:∀b,(F1.heap b).isSome=true->b<C.heap.size:=by rw[h8];exact Ft
 have Q:∀T A,Hp F1 T A->Hp (Y_ Y) T A:=fun T A k=>by
  rw[h8] at k;refine⟨k.os.trans j.os,k.tape.trans j.tape,k.output.trans j.output,fun b o t=>k.keep b o ?_,?_⟩
  ·have h1:=j.keep b o t;obtain⟨y,hs,_,hf⟩:=j.own;obtain⟨b1,b2,e,⟨e1,_⟩,_⟩:=hs;have h2:b≠i:=(by rintro rfl;have:=hf b (by rw[e,e1];simp);rw[this] at t;cases t);show E3 C [i] b=_;simp[E3,h2];exact h1
  ·obtain⟨y,hs,hn,hf⟩:=k.own;refine⟨y,hs,hn,fun b t=>?_⟩;have h1:=hf b t
   cases h2:(Y_ Y).heap b with
   |none=>rfl
   |some o=>
    have h3:=j.keep b o h2;have h4:E3 C [i] b=none:=h1;unfold E3 at h4;split at h4
    ·rename_i h5;obtain⟨y,hs,_,h9⟩:=j.own;obtain⟨b1,b2,e,⟨e1,_⟩,_⟩:=hs;simp at h5;subst h5;have:=h9 b (by rw[e,e1];simp);rw[this] at h2;cases h2
    ·exact absurd (h4.symm.trans h3) y4
 have x1:C.heap[U]? =some (.map es cs):=j.keep U _ q6;have x2:C.heap[V]? =some (.cells #[.map (some U)] 406 (0,0)):=j.keep V _ q7;refine wpIn_rangeFunc_ownH (F:=Fence.wide) (encs:=Pw) (Kp:=KeepsWalks) (S:=DC X) (Sp:=fun _=>True) (N:=X.length) (w0:=C) rfl qp (z.eval (x:=.tmp 6) rfl) trivial (fun h7 w=>(inferInstance:HF prog 422).h h7 w) (wj U V cs es X hm hk C x1 x2 4) (fun h k=>walksK_t h k) (fun W l o o' hl x3 hc hw=>walksK_b W l o o' hl x3 hc hw) (Below.refl _ C) (fun x=>rfl)
  (fun pre W=>∃p q Z,Z.all As.isC=true/\Hp F1 W (EZ i p pre q Z)) (fun _ _ _=>False)
  (fun s W T k0 hs hg hr=>by obtain⟨p,q,Z,hz,h⟩:=hs;exact⟨p,q,Z,hz,ab h (Bw hz) h0 hg hr⟩)
  (fun c s W T k0 hs hg hr=>hs) ⟨none,0,[],rfl,x0⟩
  (fun x a' W=>G3 13 [(5,.int .u64 (x:Nat)),(2,m6 i)] a') (fun x a' s W T k0 hs hg hr=>hs) ?_ ?_ ?_ ?_
 ·intro l pre x W K hI hK;obtain⟨p,q,Z,hz,hW⟩:=hI;have hc:(EZ i p pre q Z).all As.isC=true:=Bw hz;obtain⟨y,hs,M,f⟩:=fA hW;have x9:G3 13 [(7,.int .u64 (x:Nat)),(2,m6 i)] {tmps:=a.tmps.setIfInBounds 7 (.int .u64 (x:Nat)),defers:=[]}:=by
   have h1:=(z.put (d:=7) rfl (.int .u64 (x:Nat))).sub (L':=[(7,.int .u64 (x:Nat)),(2,m6 i)]) sub;exact⟨rfl,h1.size,h1.at_⟩
  refine(?_:GN (some l) 3 prog 13 _ _ [(7,.int .u64 (x:Nat)),(2,m6 i)] (q_ W y) (EZ i p pre q Z)) _ W (by simpa[Pw] using x9) M;refine dI (.inr (by intro o ho c;simp at ho;rcases ho with rfl;simp)) ?_;refine f_ oF ?_;refine F7 ?_;unfold At;intro a' T y0 k8;have u:∀B,KeepsFrom B W T:=iY hs hc k8 (fun b t=>by rw[hs.blks] at t;exact t);exact hK a' T (u _) (pI (u 0)) ⟨p,q,Z,hz,f _ _ k8⟩ (y0.sub sub)
 ·intro l pre x a' W u8 u0 hI hA u1;obtain⟨p,q,Z,hz,hW⟩:=hI;have hc:(EZ i p pre q Z).all As.isC=true:=Bw hz;obtain⟨y,hs,M,f⟩:=fA hW;have k9:∀b∈y,b=i\/b∈(U2 p pre q).blks\/b∈Z.flatMap As.blks:=fun b t=>by
   rw[hs.blks] at t;simpa[EZ,As.blks] using t
  refine(?_:GN (some l) 3 prog 13 _ _ [(5,.int .u64 (x:Nat)),(2,m6 i)] (q_ W y) (EZ i p pre q Z)) a' W hA M;refine aV ?_;refine dI (.inr (by intro o ho c;simp at ho;rcases ho with rfl|rfl|rfl|rfl|rfl<;>simp)) ?_;refine r_ oR ?_;refine f_ oF ?_;refine gB (n:=x) ?_;intro q0;by_cases hroom:pre.length+1<=q
  ·refine fw (n:=pre.length) (m:=1) (xs:=nV pre) (news:=nV [x]) (e:=27) (sz:=1) rfl rfl uh (fun w hw=>(hw.ownN ud).2.2.1) rfl rfl (iv _) hroom rfl ?_;refine bZ rfl rfl uh pa rfl rfl ?_;refine F7 ?_;unfold At;intro a2 w2 h9 O
   change _/\_/\_
   have u:∀B,KeepsFrom B W w2:=iY hs hc O (fun b t=>by
    simp only[Q2,zc];rcases k9 b t with rfl|h|h
    ·exact .inr (.inl (by simp[As.blks]))
    ·exact .inr (.inr (.inl (by cases p<;>exact h)))
    ·exact .inr (.inr (.inr h)))
   refine⟨u _,pI (u 0),p,q,U2 q0 [x] 1::Z,by show(true&&Z.all As.isC)=true;rw[hz];rfl,?_⟩;unfold EZ U2;rw[zz,az];exact((f _ _ O).perm (List.Perm.trans (.swap _ _ _) (.cons _ (.swap _ _ _))))
  ·refine fC (n:=pre.length) (m:=1) (xs:=nV pre) (news:=nV [x]) (e:=27) (sz:=1) rfl rfl ud (fun w hw=>(hw.ownN ud).2.2.1) rfl rfl rfl (by show(pre.length+1)*8<=_;omega) qb hroom qp rfl ?_;intro g c2 v0;refine bZ rfl rfl uh pa rfl rfl ?_;refine F7 ?_;unfold At;intro a2 w2 h9 O
   change _/\_/\_
   have u:∀B,KeepsFrom B W w2:=iY hs hc O (fun b t=>by
    simp only[Q2,zc];rcases k9 b t with rfl|h|h
    ·exact .inr (.inr (.inl (by simp[As.blks])))
    ·exact .inr (.inr (.inr (.inl h)))
    ·exact .inr (.inr (.inr (.inr h))))
   refine⟨u _,pI (u 0),some ⟨g,0,none⟩,c2,U2 q0 [x] 1::U2 p pre q::Z,by show(true&&(true&&Z.all As.isC))=true;rw[hz];rfl,?_⟩;unfold EZ U2;rw[zz,az];exact((f _ _ O).perm (List.Perm.trans (.cons _ (.swap _ _ _)) (List.Perm.trans (.swap _ _ _) (.refl _))))
 ·intro D xs W hD y1 hI hK;obtain⟨p,q,Z,hz,hW⟩:=hI;have hc:(EZ i p xs q Z).all As.isC=true:=Bw hz;obtain⟨y,hs,M,f⟩:=fA hW;have y2:D∉y:=fun t=>by
   obtain⟨o,h5,h6⟩:=hs.cells hc D t;have q1:W.heap[D]? =some o:=h5;rw[hK] at q1;cases q1;cases h6
  have y3:(q_ W y).heap D=some (.deferred (some [])):=by simp[q_,E3,y2,hK]
  rw[iZ z _];refine wpIn_seq ?_;refine(wpIn_wide (n:=5)).2 (um (K:=fun a' w'=>G3 13 [(4,.slice p xs.length q)] a'/\Hp (q_ W y) w' (EZ i p xs q Z)) (Kp:=fun _ _=>False) (R:=fun _ _=>False) [_] ?_ ?_ (fun _ _ _ h=>h.elim) (fun _ _ h=>h.elim) (z.sub (L':=[(2,m6 i)]) sub) M)
  ·refine r_ oR ?_;refine f_ oF ?_;refine F7 ?_;exact p8 sub i_
  ·rintro a9 w9 ⟨q2,q3⟩;have q4:w9.heap[D]? =some (.deferred (some [])):=q3.keep D _ y3;have z0:=ab (f _ _ q3) hc h0 (grownBy_putObj' w9 D (.deferred none)) (fun r e=>by cases e;exact⟨hD,_,q4,rfl⟩);refine wpIn_ret ?_;have t:=(fB (n:=5) (P:=prog) (fn:=Tryz.f433) (R:=fun e w'=>∃v A,e=.returned v/\Mr X v A/\Hp (q_ Y []) w' A) (a:=qW [{target:=.collected D,args:=#[]}] a9) (w:=w9) (D:=D) (ds:=[]) (by show a9.defers++_=_;rw[q2.defers];rfl) rfl q4 ⟨_,results_tmp rfl _ _ _,_,[U2 p xs q],rfl,⟨p,xs,q,by rw[show(qW _ a9).tmps.getD 4 undef=.slice p xs.length q from q2.eval (x:=.tmp 4) rfl],rfl,y1⟩,(Q _ _ z0).drop.left (A:=[_])⟩).2;exact t
 ·intro D c pre W hD z1 z2 hK;exact z2.elim
abbrev SQ(g m:Nat):As:=.blk g (.cells #[.map (some m)] 406)
abbrev Hv(g:Nat):Value:=.func (.func 422) #[] #[m6 g]
theorem Hw(m:Nat):Ct prog 399 [.map (some m)] (fun _=>True) [] (fun v A=>∃g,v=Hv g/\A=[SQ g m]):=by
 refine b_ 4 func399 rfl rfl rfl ?_;intro F _;refine C6 ?_;refine L2 rfl rfl rfl ?_;intro a;refine bT ?_;exact d_ rfl rfl _ ⟨a,rfl,rfl⟩ (fun _ h=>h)
section
variable(mb Bm cs:Nat)(es:Array MapEntry)(ms:List KV)(hm:N8 (.int .u64) es cs ms)(hk:∀kv∈ms,Px kv)(hl:ms.length<=1000000000)
include hm hk hl
theorem Hx:Ct prog 420 [Hv Bm] (fun h=>h mb=some (.map es cs)/\h Bm=some (.cells #[.map (some mb)] 406 (0,0))) [] (Mr ms):=by
 refine b_ 5 func420 rfl rfl rfl ?_;rintro F ⟨d,e⟩;refine y8 ?_;refine c_ (yR mb Bm cs es ms hm hk hl) (fun h b _=>⟨b _ _ d,b _ _ e⟩) ?_;rintro v A ⟨a,l,c,rfl,rfl,hg⟩;refine C8 ?_;exact d_ rfl rfl _ ⟨a,l,c,rfl,rfl,hg⟩ (fun _ h=>h)
theorem yS:Ct prog 398 [Hv Bm] (fun h=>h mb=some (.map es cs)/\h Bm=some (.cells #[.map (some mb)] 406 (0,0))) [] (Mr ms):=by
 refine b_ 9 func398 rfl rfl rfl ?_;rintro F ⟨d,e⟩;refine y8 ?_;refine c_ (Hx mb Bm cs es ms hm hk hl) (fun h b _=>⟨b _ _ d,b _ _ e⟩) ?_;rintro v A ⟨a,l,c,rfl,rfl,hg⟩;refine y8 ?_;refine c_ (Ha a l.length c (by have:=hg.1;omega) l rfl) qw ?_;rintro v A ⟨rfl,f,hs,rfl⟩;refine L7 ?_;exact d_ rfl rfl _ ⟨a,f,c,by rw[hs.len],by unfold U2;rw[hs.len];rfl,by rw[DC,hs.len];exact⟨hg.1,fun x g=>hg.2 x (hs.sub x g)⟩⟩ (fun _ h=>h)
end
theorem un{F:l6}{w:World}{H:List As}{a:Option Addr}{l:List Nat}(b:Hp F w H)(r:o0 F.heap a (nV l)){q i:Nat}(h:q=i)(c:i<l.length):L_ (hp w) (N1 a q) [.int .u64 (l.getD i 0:Nat)]:=
 mX b r y4 fun j u hu=>by
  match j,hu with
  |0,hu=>
   simp at hu;subst hu h;simp[nV,c]
theorem Y5{h:l9}{a:Option Addr}{l:List Nat}{i:Nat}(r:o0 h a (nV l))(c:i<l.length):∃b,a=some b:=by
 obtain⟨b,e,_⟩:=r (by intro e;have:=jw List.length e;rw[tC] at this;simp at this;subst this;simp at c);exact⟨b,e⟩
theorem wy{l:List Nat}{k:Nat}(a:k<l.length):l.getD k 0∈l:=by
 rw[zd,zj a];exact zx a
abbrev Ms(n:Nat)(ms:List KV):Prop:=(∀kv∈ms,Px kv/\∃k:Int,kv.2=.int .i64 k/\0<=k/\k<=n)/\ms.length<=n
theorem pJ(a:List KV)(k:Value):∃o,OM a k o:=by
 by_cases h:∃v,(k,v)∈a
 ·obtain⟨v,h⟩:=h;exact⟨some v,h⟩
 ·exact⟨none,fun v b=>h ⟨v,b⟩⟩
abbrev Hy(r:Nat×Nat):Prop:=DB r.1/\DB r.2
def SR(n:Nat)(v:Value)(A:List As):Prop:=∃a l c,v=.slice a l.length c/\A=[V3 a l c]/\l.length<=n/\∀r∈l,Hy r
theorem Mt(p:List Nat)(oa:Option Addr)(oc:Nat)(k9:∀x∈p,x<18446744073709551616)(hl:p.length<=1000000):Ct prog 352 [.slice oa p.length oc] (fun h=>o0 h oa (nV p)) [] (SR p.length):=by
 refine b_ 61 func352 rfl rfl rfl ?_;intro F h8;refine xJ ?_;refine om rfl ?_;intro y;refine p_ ?_;refine I8 3 ?_;refine n7 (ι:=Array MapEntry×Nat×List KV) (fun i=>N8 (.int .u64) i.1 i.2.1 i.2.2/\Ms p.length i.2.2) (fun _=>[(2,.slice none 0 0),(3,.map (some y))]) (fun i=>[.blk y (.map i.1 i.2.1)]) ?_ ?_
 ·refine n9 ?_;refine gC (fun(j:Nat) (S:Array MapEntry) (T:Nat) (M:List KV) (_ _:Unit)=>j<=p.length/\N8 (.int .u64) S T M/\Ms j M) (fun j _ _ _ _ _=>[(2,.slice none 0 0),(3,.map (some y)),(11,.slice oa p.length oc),(12,.int .i64 (p.length:Nat)),(13,.int .i64 (j:Nat))]) (fun _ S T _ _ _=>[.blk y (.map S T)]) (fun j _ _ _ _ _=>p.length-j) 0 #[] 0 [] () () ⟨zw _,N8.empty _ _,qy,zr _⟩ sub i_ ?_;rintro j S T M _ _ ⟨hj,hm,hc⟩;refine R6 ?_ ?_<;>intro h
  ·have z:j<p.length:=(by have:=qr h;omega);have D:=Y5 h8 z;refine p_ ?_;refine r_ (i8 rfl (fun w O=>un O h8 (i:=j) y4 z)) ?_;refine E4 ?_;refine n7 (ι:=Array MapEntry×Nat×List KV) (fun i=>N8 (.int .u64) i.1 i.2.1 i.2.2/\Ms (j+1) i.2.2) (fun _=>[(2,.slice none 0 0),(3,.map (some y)),(11,.slice oa p.length oc),(12,.int .i64 (p.length:Nat)),(13,.int .i64 (j:Nat))]) (fun i=>[.blk y (.map i.1 i.2.1)]) ?_ ?_
   ·refine o8 rfl ?_ ?_<;>intro h
    ·have h9:0<p.getD j 0:=(by have:=qr h;omega);have q0:p.getD j 0<18446744073709551616:=k9 _ (wy z);obtain⟨o,hg⟩:=pJ M (.int .u64 (p.getD j 0:Nat));obtain⟨k,ek,q3,q4⟩:∃k:Int,o.getD (.int .i64 0)=.int .i64 k/\0<=k/\k<=j:=by
      cases o with
      |none=>exact⟨0,rfl,by omega,by omega⟩
      |some v=>obtain⟨_,k,e,U,Q⟩:=hc.1 _ hg;exact⟨k,e,U,Q⟩
     refine y8 ?_;refine r_ ((Fx (key:=.int .u64 (p.getD j 0:Nat)) (o:=o) (zv:=.int .i64 0) (c:=false) rfl rfl .del hm rfl hg).eq (v':=.int .i64 k) ek) ?_;refine p_ ?_;refine CJ rfl rfl rfl hm rfl (fun V X=>.here) ?_;intro V X k0;refine u7 ?_;have PQ:∃J,Fv M (.int .u64 (p.getD j 0:Nat)) (.int .i64 (k+1)) J/\Ms (j+1) J:=by
      have k8:Px (.int .u64 (p.getD j 0:Nat),.int .i64 (k+1))/\∃q:Int,Value.int .i64 (k+1)=.int .i64 q/\0<=q/\q<=(j+1:Nat):=⟨⟨_,⟨h9,q0⟩,rfl⟩,k+1,rfl,by omega,by omega⟩
      cases o with
      |none=>
       refine⟨_,.inl ⟨hg,.refl _⟩,fun Y f=>?_,by rw[zy];have:=hc.2;omega⟩;rcases ky.1 f with rfl|f
       ·exact k8
       ·obtain⟨U,q,Q,h3,h4⟩:=hc.1 Y f;exact⟨U,q,Q,h3,by omega⟩
      |some v=>
       obtain⟨r1,r2,e⟩:=Wp hg;have hp:M.Perm ((.int .u64 (p.getD j 0:Nat),v)::(r1++r2)):=(by rw[e];exact Qp);refine⟨_,.inr ⟨v,r1++r2,hp,.refl _⟩,fun Y f=>?_,by have:=hp.length_eq;have:=hc.2;rw[zy] at*;omega⟩;rcases ky.1 f with rfl|f
       ·exact k8
       ·obtain⟨U,q,Q,h3,h4⟩:=hc.1 Y (hp.mem_iff.2 (jj _ f));exact⟨U,q,Q,h3,by omega⟩
     obtain⟨J,hp,h7⟩:=PQ;exact g_ (V,X,J) ⟨k0 J hp,h7⟩ i_
    ·refine u7 ?_;exact g_ (S,T,M) ⟨hm,fun Y f=>by obtain⟨U,q,Q,h3,h4⟩:=hc.1 Y f;exact⟨U,q,Q,h3,by omega⟩,by have:=hc.2;show M.length<=_;omega⟩ i_
   rintro⟨V,X,J⟩ ⟨q1,h7⟩;refine y8 ?_;exact l8 (i:=(j,S,T,M,(),())) (j+1,V,X,J,(),()) ⟨z,q1,h7⟩ qg sub i_
  ·have z:j=p.length:=(by have:=zq h;omega);refine u7 ?_;exact g_ (S,T,M) ⟨hm,by rw[<-z];exact hc⟩ i_
 rintro⟨S,T,M⟩ ⟨hm,hc⟩;simp only at hm hc;have hk:∀Y∈M,Px Y:=fun Y f=>(hc.1 Y f).1;have q5:=hc.2;refine y8 ?_;refine c_ (Hw y) qw ?_;rintro v A ⟨g,rfl,rfl⟩;refine c_ (C:=[]) (yS y g T S M hm hk qb) ?pre ?_;(case pre=>exact fun h hh ⟨bs,hb⟩=>⟨hb.blk ud,hb.blk ud⟩);rintro v A ⟨sa,sl,sc,rfl,rfl,hg⟩;refine I8 2 ?_;refine n7 (ι:=Option Addr×List (Nat×Nat)×Nat) (fun i=>i.2.1.length<=sl.length/\∀r∈i.2.1,Hy r) (fun i=>[(6,.slice i.1 i.2.1.length i.2.2)]) (fun i=>[V3 i.1 i.2.1 i.2.2]) ?_ ?_
 ·refine n9 ?_;refine gC (fun(j:Nat) (_:Option Addr) (b:List (Nat×Nat)) (_:Nat) (_ _:Unit)=>j<=sl.length/\b.length<=j/\∀r∈b,Hy r) (fun j s b u _ _=>[(6,.slice s b.length u),(26,.slice sa sl.length sc),(27,.int .i64 (sl.length:Nat)),(28,.int .i64 (j:Nat))]) (fun _ s b u _ _=>[V3 s b u,U2 sa sl sc]) (fun j _ _ _ _ _=>sl.length-j) 0 none [] 0 () () ⟨zw _,zr _,fun _ h=>by cases h⟩ sub (fun w O=>x7.left tk (O.addNil 178 2)) ?_;rintro j s b u _ _ ⟨hj,q6,Z⟩;refine R6 ?_ ?_<;>intro h
  ·have z:j<sl.length:=(by have:=qr h;omega);refine B4 (a:=sa) (n:=sl.length) (c:=sc) (sz:=1) (xs:=nV sl) (te:=27) ud fun _ _ D=>?_;have D:=D qb;obtain⟨x,hx⟩:=o7 (sl.getD (j:Int).toNat 0);have h6:DB x:=(by rw[hx];exact hg.2 _ (ug (i:=(j:Int)) (n:=sl.length) qb rfl));have h9:=h6.1;refine I8 0 ?_;refine n7 (ι:=Option Addr×List (Nat×Nat)×Nat) (fun i=>i.2.1.length<=j+1/\∀r∈i.2.1,Hy r) (fun i=>[(6,.slice i.1 i.2.1.length i.2.2),(26,.slice sa sl.length sc),(27,.int .i64 (sl.length:Nat)),(28,.int .i64 (j:Nat))]) (fun i=>[V3 i.1 i.2.1 i.2.2,U2 sa sl sc]) ?_ ?_
   ·refine n9 ?_;refine p_ ?_;refine r_ ((ao (n:=sl.length) rfl).eq (v':=.int .u64 (x:Nat)) (by rw[hx])) ?_;refine O2 ?_;refine B4 (a:=s) (n:=b.length) (c:=u) (sz:=2) (xs:=V7 b) (te:=178) ud fun _ _ d=>?_;refine n7 (ι:=Bool) (fun q=>q=true->0<b.length) (fun q=>[(6,.slice s b.length u),(8,.int .u64 (x:Nat)),(9,.int .i64 (b.length:Nat)),(26,.slice sa sl.length sc),(27,.int .i64 (sl.length:Nat)),(28,.int .i64 (j:Nat)),(46,.bool q)]) (fun _=>[V3 s b u,U2 sa sl sc]) ?_ ?_
    ·by_cases h0:0<b.length
     ·have d:=d h0;refine p_ ?_;refine f_ ((D8 rfl rfl).eq (v':=.bool true) (qn qk)) ?_;refine E4 ?_;refine A1 rfl rfl rfl ?_;refine f_ ((E0 rfl rfl qb).eq (v':=.int .i64 ((b.length-1:Nat):Int)) (by congr 1;omega)) ?_;refine y8 ?_;refine A1 rfl rfl rfl ?_;refine r_ (i8 rfl (fun w O=>dO (j:=1) (O.ownN (t:=178) ud).2.2.1 D0 (i:=b.length-1) qb rfl y4)) ?_;refine O2 ?_;exact g_ _ (fun _=>h0) i_
     ·refine p_ ?_;refine f_ ((D8 rfl rfl).eq (v':=.bool false) (qn qj)) ?_;refine wk 11 ?_;exact g_ false qx i_
    intro q hq;refine O1 ?_ ?_<;>intro h
    ·have h0:=hq h;have d:=d h0;refine y8 ?_;refine f_ ((E0 rfl rfl qb).eq (v':=.int .i64 ((b.length-1:Nat):Int)) (by congr 1;omega)) ?_;refine E4 ?_;refine A9 (C:=iA) (l:=b) (b[b.length-1].1,x) D0 (i:=b.length-1) qb (j:=1) rfl ?_;refine u7 ?_;refine g_ (s,b.set (b.length-1) (b[b.length-1].1,x),u) ⟨by simp only[js];omega,fun r hr=>?_⟩ (fun w O=>by simp only[V3,js];exact O) (by simp only[js];exact sub);rcases jp hr with h5|rfl
     ·exact Z r h5
     ·exact⟨(Z _ (zx qb)).1,h6⟩
    ·refine O2 ?_;refine C4 iA (x,x) rfl ?_;intro q7 _;refine u6 iA (l:=b) (m:=[(x,x)]) D0 ni (by show(b.length+1)*16<=_;omega) ?_;intro Uh q2 _;refine p_ ?_;refine g_ (Uh,b++[(x,x)],q2) ⟨by simp only[zz,zy,z6];omega,fun r hr=>?_⟩ (fun w O=>x7.left tk O);rcases zc.1 hr with h5|h5
     ·exact Z r h5
     ·rw[zg.1 h5];exact⟨h6,h6⟩
   rintro⟨a3,l3,c3⟩ ⟨h3,h4⟩;simp only at h3 h4;refine y8 ?_;exact l8 (i:=(j,s,b,u,(),())) (j+1,a3,l3,c3,(),()) ⟨z,h3,h4⟩ qg sub i_
  ·refine u7 ?_;exact g_ (s,b,u) ⟨by simp only;omega,Z⟩ (fun w O=>x7.left tk O)
 rintro⟨ra,rl,rc⟩ ⟨U,Q⟩;simp only at U Q;refine L7 ?_;exact d_ rfl rfl _ ⟨ra,rl,rc,rfl,rfl,by have:=hg.1;omega,Q⟩ i_
open Go Go.Sl Go.RowKit Go.Proofs.Tryz
abbrev fR(l:List Nat):Prop:=∀x∈l,x<18446744073709551616
theorem Bx(v:VW)(a:Option Addr)(c:Nat)(b:List Nat)(ua:Option Addr)(uc:Nat)(e:Bool)(hv:v.a5F.length<=1000000)(hl:b.length<=1000000)(hu:fR b):Ct prog 290 [yH v a c,.slice ua b.length uc,.bool e] (fun h=>o0 h a (V7 v.a5F)/\o0 h ua (nV b)) [] (SR b.length):=by
 refine b_ 38 func290 rfl rfl rfl ?_;rintro F ⟨D,s⟩;refine C6 ?_;refine m9 rfl rfl ?_;intro u;refine p_ ?_;refine I8 4 ?_;refine n7 (ι:=Option Addr×List Nat×Nat) (fun i=>i.2.1.length<=b.length/\fR i.2.1) (fun i=>[(7,.slice i.1 i.2.1.length i.2.2)]) (fun i=>[U2 i.1 i.2.1 i.2.2]) ?_ ?_
 ·refine n9 ?_;refine gC (fun(j:Nat) (_:Option Addr) (d:List Nat) (_:Nat) (_ _:Unit)=>j<=b.length/\d.length<=j/\fR d) (fun j o d p _ _=>[(2,.bool e),(3,m6 u),(7,.slice o d.length p),(11,.slice ua b.length uc),(12,.int .i64 (b.length:Nat)),(13,.int .i64 (j:Nat))]) (fun _ o d p _ _=>[U2 o d p,.blk u (.cells (Gh v a c).toArray 30)]) (fun j _ _ _ _ _=>b.length-j) 0 none [] 0 () () ⟨zw _,zr _,fun _ h=>by cases h⟩ sub (fun w f=>x7.left tk (f.addNil 27 1)) ?_;rintro j o d p _ _ ⟨hj,h0,q⟩;refine R6 ?_ ?_<;>intro h
  ·have g:j<b.length:=(by have:=qr h;omega);have J:=Y5 s g;have M:=db (fun r:Nat×Nat=>decide (r.1=b.getD j 0)) v.a5F;refine p_ ?_;refine r_ (i8 rfl (fun w f=>un f s (i:=j) y4 g)) ?_;refine p_ ?_;refine I8 0 ?_;obtain⟨r,Y⟩:=o7 (lu v.a5F (b.getD j 0));refine y8 ?_;refine e_ rfl (yI v a c (b.getD j 0) hv) (fun h Z _=>D.le Z) rfl ?_;rw[<-Y];refine I8 1 ?_;refine n7 (ι:=Option Addr×List Nat×Nat) (fun i=>i.2.1.length<=j+1/\fR i.2.1) (fun i=>[(2,.bool e),(3,m6 u),(7,.slice i.1 i.2.1.length i.2.2),(11,.slice ua b.length uc),(12,.int .i64 (b.length:Nat)),(13,.int .i64 (j:Nat))]) (fun i=>[U2 i.1 i.2.1 i.2.2,.blk u (.cells (Gh v a c).toArray 30)]) ?_ ?_
   ·have k:∀x,x<18446744073709551616->(d++[x]).length<=j+1/\fR (d++[x]):=fun x hx=>⟨by simp only[zz,zy,z6];omega,fun y hy=>by
     rcases zc.1 hy with O|O
     ·exact q y O
     ·rw[zg.1 O];exact hx⟩
    refine n9 ?_;refine eJ ?_ ?_<;>intro h
    ·refine u7 ?_;exact g_ (o,d,p) ⟨by simp only;omega,q⟩ (fun w f=>x7.left tk f)
    have h6:0<=r/\r<1000000:=(by have h1:=zq h;have h2:r<v.a5F.length:=(by rw[Y];exact M.2);omega);refine bd ?_ ?_<;>intro h
    ·refine y8 ?_;refine gB (n:=b.getD j 0) ?_;intro QY;refine jW (l:=d) (m:=[b.getD j 0]) (by show(d.length+1)*8<=_;omega) ?_;intro OO Q;refine p_ ?_;exact g_ (OO,d++[b.getD j 0],Q) (k _ (hu _ (wy g))) (fun w f=>x7.left tk f)
    ·refine E4 ?_;refine f_ ((y9 rfl qb).eq (v':=.int .u64 ((r+1).toNat:Nat)) (by congr 1;omega)) ?_;refine gB (n:=(r+1).toNat) ?_;intro h7;refine jW (l:=d) (m:=[(r+1).toNat]) (by show(d.length+1)*8<=_;omega) ?_;intro S T;refine p_ ?_;exact g_ (S,d++[(r+1).toNat],T) (k _ qb) (fun w f=>x7.left tk f)
   rintro⟨a3,U,V⟩ ⟨z,t⟩;simp only at z t;refine y8 ?_;exact l8 (i:=(j,o,d,p,(),())) (j+1,a3,U,V,(),()) ⟨g,z,t⟩ qg sub i_
  ·refine u7 ?_;exact g_ (o,d,p) ⟨by simp only;omega,q⟩ (fun w f=>x7.left tk f)
 rintro⟨a3,U,V⟩ ⟨z,t⟩;simp only at z t;refine p_ ?_;refine c_ (C:=[]) (Mt U a3 V t qb) ?pre ?_;(case pre=>exact fun h Z ⟨bs,hb⟩=>A2.rd hb ud);rintro x A ⟨ra,rl,rc,rfl,rfl,h8,X⟩;refine C8 ?_;exact d_ rfl rfl _ ⟨ra,rl,rc,rfl,rfl,by omega,X⟩ (fun w f=>x7.left tk f)
end Go.Proofs.YtmcepdopookilaaGreatDoor.Rp
namespace Go.Sl
open Go Go.RowKit Go.Proofs.Tryz
section
variable{P:Program}{N:Nat}{K R:y6}{E:List (Nat×y6)}{L:F_}{F:l6}{H:List As}{ops:Array Oper}{rest:List Oper}{ty:TypeId}{pos:String}{af:Array Edge}{t:TypeId}
theorem Hp.capOwn{w:World}{a:Option Addr}{n c k sz:Nat}{te:TypeId}{xs:List Value}{H':List As}(p:Hp F w H)(u:M2 H (.own (.slice a n c) te sz xs) [.own (.slice a n k) te sz xs] H')(j:n<=k)(q:k<=c):Hp F w H':=by
 obtain⟨l,d,e,r,kk⟩:=p.focus u;refine kk w l rfl rfl rfl (fun _ _ _=>rfl) ⟨l,[],by simp,?_,rfl⟩ e (fun _ s=>.inl s);rcases d with⟨f,rfl,rfl⟩|⟨g,rfl,⟨o,z,t,pre,b,v,f,hg,x,m,h,y,i⟩⟩
 ·injection f with e1 e2 e3;subst e1 e2 e3;have:k=0:=by omega
  subst this;exact .inl qm
 ·injection f with e1 e2 e3;subst e1 e2 e3;have A:k*sz<=c*sz:=Qy _ q;have C:c*sz-k*sz<=b.length:=by
   rw[zz,m] at h;have:n*sz<=k*sz:=Qy _ j;omega
  exact .inr ⟨g,rfl,⟨o,n,k,pre,b,v,rfl,hg,x,m,by omega,j,i⟩⟩
theorem pK{d:Nat}{s x:Operand}{a b:Option Addr}{n m S sz:Nat}{xs news:List Value}{e:TypeId}{z:Value}{i:TypeInfo}[hu:HU P t (.slice e)][hz:HZ P e z][hi:HI P e i][hs:HS P e sz](T:ev L s=some (.slice a n n))(U:ev L x=some (.slice b m S))(V:∀w,Hp F w H->o0 (hp w) a xs)(y:xs.length=n*sz)(ha:a=none->n=0)(hsrc:∀w,Hp F w H->KB (hp w) b news)(hl:news.length=m*sz)(X:Nat.blt 0 sz=true)(Y:z.cells.size=sz)(l:(n+m)*i.bytes<=140737488355328)(h63:n+m<=9223372036854775807)(hm:0<m)(hd:Nat.blt d N=true)(h:∀g Z,n+m<=Z->GL P N ops rest K E R ((d,.slice (some ⟨g,0,none⟩) (n+m) Z)::L) F (.own (.slice (some ⟨g,0,none⟩) (n+m) Z) e sz (xs++news)::H)):
  GL P N ops (⟨some d,.call ⟨.builtin .append,#[s,x],#[t,t]⟩,ty,pos,af,none⟩::rest) K E R L F H:=
 R_ rfl rfl hd fun w0 w hf hw=>by
  have J:0<sz:=by simpa[Kd] using X
  have c:=hi.h;have p:i.size=sz:=by
   have C:=hs.h w;simp[sizeOf,typeInfo,c] at C;exact C
  have M:i.zero=some z:=by
   have C:=hz.h w;simp only[zeroValue,Sem.run_bind,typeInfo] at C
   cases hq:i.zero with
   |none=>simp[c,hq] at C
   |some z'=>simp[c,hq] at C;rw[C]
  have q:∀vv w',(Builtin.append_ #[t,t] ty #[.slice a n n,.slice b m S]).run P w=.ok vv w'->
    (execOp w0.eval ⟨some d,.call ⟨.builtin .append,#[s,x],#[t,t]⟩,ty,pos,af,none⟩).run P w=.ok (.value vv) w':=fun vv w' O=>by
   simp[execOp,resolve,invoke,builtin,hf.eval T,hf.eval U,O]
  have h0:news≠[]:=by
   rintro rfl;have:0<m*sz:=K7 hm J;simp at hl;omega
  obtain⟨ad,rfl,A⟩:=hsrc w hw h0;have f:∀j u,news[j]? =some u->w.cell? (ad.add j)=some u:=A;have h1:=V w hw;have r:∀(k:Nat),k<n+m->Hp F (w.drew.alloc (.cells (xs.toArray++news.toArray++Builtin.zeroCells z.cells (grownCap w (n+m) k e-(n+m))) e)) (.own (.slice (some ⟨w.heap.size,0,none⟩) (n+m) (grownCap w (n+m) k e)) e sz (xs++news)::H)/\n+m<=grownCap w (n+m) k e:=fun k ho=>by
   have Q:=grownCap_ge w (n+m) k e;refine⟨O7 (w:=w.drew) (post:=(Builtin.zeroCells z.cells (grownCap w (n+m) k e-(n+m))).toList) (fr:=(0,0)) hw.drew' ?_ ?_ Q (.inl (zr _)) ?_,Q⟩
   ·rw[zz,y,hl,Q0]
   ·simp only[zz,y,hl,Zh,size_zeroCells,Y,<-Q0];congr 1;omega
   ·congr 2;apply Q6.1;simp
  cases a with
  |none=>
   have h3:=ha rfl;subst h3;have D:xs=[]:=jx (by simpa using y);subst D;have hr:=run_append_nil (P:=P) w t ty e i z hu.h c M ad m S news (by rw[p];exact hl) f qb qb (by rw[ju] at l;omega);have o:=r 0 qb;simp only[ju,j7] at o;refine⟨_,_,.own (.slice (some ⟨w.heap.size,0,none⟩) m (grownCap w m 0 e)) e sz news::H,q _ _ hr,?_,?_⟩
   ·have:=o.1;simpa using this
   ·have:=h w.heap.size (grownCap w m 0 e) (by simpa using o.2);simpa using this
  |some ad0=>
   have h4:∀j v,xs[j]? =some v->w.cell? (ad0.add j)=some v:=fun j v hj=>by
    have D:xs≠[]:=(by rintro rfl;simp at hj);obtain⟨h6,e2,h5⟩:=h1 D;injection e2 with e2;subst e2;exact h5 j v hj
   have hr:=run_append_grow (P:=P) w t ty e i z hu.h c M ad0 n n xs (by rw[p];exact y) h4 ad m S news (by rw[p];exact hl) f qb qb (growslice_fits qb l);have o:=r n qb;exact⟨_,_,_,q _ _ hr,o.1,h _ _ o.2⟩
theorem Hz{α β γ δ ε ζ:Type}{c:Code}(b:α->β->γ->δ->ε->ζ->Prop)(g:α->β->γ->δ->ε->ζ->F_)(i:α->β->γ->δ->ε->ζ->l6)(HI:α->β->γ->δ->ε->ζ->List As)(μ:α->β->γ->δ->ε->ζ->Nat)(d:α)(e:β)(z0:γ)(f:δ)(v0:ε)(w0:ζ)(k:b d e z0 f v0 w0)(l:fp (g d e z0 f v0 w0) L)(m:i d e z0 f v0 w0=F)(hH:∀w,Hp F w H->Hp F w (HI d e z0 f v0 w0))(round:∀x y z u v q,b x y z u v q->G P N c (fun a w=>∃j:α×β×γ×δ×ε×ζ,b j.1 j.2.1 j.2.2.1 j.2.2.2.1 j.2.2.2.2.1 j.2.2.2.2.2/\μ j.1 j.2.1 j.2.2.1 j.2.2.2.1 j.2.2.2.2.1 j.2.2.2.2.2<μ x y z u v q/\G3 N (g j.1 j.2.1 j.2.2.1 j.2.2.2.1 j.2.2.2.2.1 j.2.2.2.2.2) a/\Hp (i j.1 j.2.1 j.2.2.1 j.2.2.2.1 j.2.2.2.2.1 j.2.2.2.2.2) w (HI j.1 j.2.1 j.2.2.1 j.2.2.2.1 j.2.2.2.2.1 j.2.2.2.2.2)) E R (g x y z u v q) (i x y z u v q) (HI x y z u v q)):G P N (.loop c) K E R L F H:=
 bJ (ι:=α×β×γ×δ×ε×ζ) (fun j=>b j.1 j.2.1 j.2.2.1 j.2.2.2.1 j.2.2.2.2.1 j.2.2.2.2.2) (fun j=>g j.1 j.2.1 j.2.2.1 j.2.2.2.1 j.2.2.2.2.1 j.2.2.2.2.2) (fun j=>i j.1 j.2.1 j.2.2.1 j.2.2.2.1 j.2.2.2.2.1 j.2.2.2.2.2) (fun j=>HI j.1 j.2.1 j.2.2.1 j.2.2.2.1 j.2.2.2.2.1 j.2.2.2.2.2) (fun j=>μ j.1 j.2.1 j.2.2.1 j.2.2.2.1 j.2.2.2.2.1 j.2.2.2.2.2) (d,e,z0,f,v0,w0) k l m hH fun j h=>round j.1 j.2.1 j.2.2.1 j.2.2.2.1 j.2.2.2.2.1 j.2.2.2.2.2 h
theorem HB{c:Code}{ι:Type}(d:ι->Prop)(L':ι->F_)(f:ι->l6)(H':ι->List As)(g:G P N c (fun a w=>∃i,d i/\G3 N (L' i) a/\Hp (f i) w (H' i)) E R L F H)(h:∀i,d i->At N K (L' i) (f i) (H' i)):G P N c K E R L F H:=by
 unfold G At at*;intro a w hf b;refine Code.wp_mono (fun e a w q=>?_) (g a w hf b)
 cases e with
 |normal=>obtain⟨i,hp,hf,b⟩:=q;exact h i hp a w hf b
 |_=>exact q
theorem y5{ι:Type}{b:ι->Prop}{L':ι->F_}{c:ι->l6}{H':ι->List As}(i:ι)(hp:b i)(d:c i=F)(hH:∀w,Hp F w H->Hp F w (H' i))(hs:fp (L' i) L:=by exact sub):At N (fun a w=>∃i,b i/\G3 N (L' i) a/\Hp (c i) w (H' i)) L F H:=by
 unfold At;exact fun a w hf e=>⟨i,hp,hf.sub hs,by rw[d];exact hH w e⟩
theorem Hp.mid{w:World}{A J a:List As}(h:Hp F w (A++J++a)):Hp F w (A++a):=by
 have b:Hp F w ((A++a)++J):=h.perm (by rw[zn,zn];exact Zr _ kj);exact b.left
theorem C1{w:World}{A J a:List As}(h:x7 (A++J) H a)(b:Hp F w H):Hp F w (A++a):=(h.hp b).mid
theorem kf{Z Rr:List As}(hH:x7 Z H Rr)(k:∀a,F.le a->(∃bs,A2 a.heap Z bs)->At N K L a Rr):At N K L F H:=
 At.weaken (H':=Rr++Z) (dJ k) (fp.refl _) (fun w b=>(hH.hp b).perm kj)
theorem lx{c:Code}{α β γ δ:Type}(b:α->β->γ->δ->Prop)(L':α->β->γ->δ->F_)(H':α->β->γ->δ->List As)(d:G P N c (fun a w=>∃i:α×β×γ×δ,b i.1 i.2.1 i.2.2.1 i.2.2.2/\G3 N (L' i.1 i.2.1 i.2.2.1 i.2.2.2) a/\Hp F w (H' i.1 i.2.1 i.2.2.1 i.2.2.2)) E R L F H)(e:∀x y z u,b x y z u->At N K (L' x y z u) F (H' x y z u)):G P N c K E R L F H:=
 n7 (ι:=α×β×γ×δ) (fun i=>b i.1 i.2.1 i.2.2.1 i.2.2.2) (fun i=>L' i.1 i.2.1 i.2.2.1 i.2.2.2) (fun i=>H' i.1 i.2.1 i.2.2.1 i.2.2.2) d fun i h=>e i.1 i.2.1 i.2.2.1 i.2.2.2 h
theorem S7{c:Code}{α β γ δ:Type}(b:α->β->γ->δ->Prop)(L':α->β->γ->δ->F_)(d:α->β->γ->δ->l6)(H':α->β->γ->δ->List As)(e:G P N c (fun a w=>∃i:α×β×γ×δ,b i.1 i.2.1 i.2.2.1 i.2.2.2/\G3 N (L' i.1 i.2.1 i.2.2.1 i.2.2.2) a/\Hp (d i.1 i.2.1 i.2.2.1 i.2.2.2) w (H' i.1 i.2.1 i.2.2.1 i.2.2.2)) E R L F H)(f:∀x y z u,b x y z u->At N K (L' x y z u) (d x y z u) (H' x y z u)):G P N c K E R L F H:=
 HB (ι:=α×β×γ×δ) (fun i=>b i.1 i.2.1 i.2.2.1 i.2.2.2) (fun i=>L' i.1 i.2.1 i.2.2.1 i.2.2.2) (fun i=>d i.1 i.2.1 i.2.2.1 i.2.2.2) (fun i=>H' i.1 i.2.1 i.2.2.1 i.2.2.2) e fun i h=>f i.1 i.2.1 i.2.2.1 i.2.2.2 h
end
end Go.Sl
namespace Go.Proofs.YtmcepdopookilaaGreatDoor.Rp
open Go Go.Sl Go.RowKit Go.Proofs.Tryz
abbrev AC:=Option Addr×Nat
abbrev Fa(n:Nat):RR:={R0 with kind:=9,n:=n}
abbrev PC(n:Nat):RR:={R0 with kind:=8,n:=n}
abbrev wz(g:Nat)(v:VW)(p:AC):As:=.blk g (.cells (Gh v p.1 p.2).toArray 30)
abbrev HC(v:VW)(a5F:List (Nat×Nat)):VW:=⟨v.box,v.val,a5F⟩
abbrev By(g:Nat)(b:BM):As:=.blk g (.cells (cZ b).toArray 100)
abbrev yT(x:RL):Prop:=x.fa=none/\x.fc=0
abbrev Ke(rl:List RM):Prop:=∀m∈rl,m.2=L0/\m.1.nums=[]/\m.1.a5R=[]/\m.1.values=[]
theorem Ke.app{rl:List RM}(h:Ke rl){r:RR}(b:r.nums=[])(c:r.a5R=[])(d:r.values=[]):Ke (rl++[(r,L0)]):=fun m e=>by
 rcases zc.1 e with a|a
 ·exact h m a
 ·rw[zg.1 a];exact⟨rfl,b,c,d⟩
theorem Ke.rd{rl:List RM}(h:Ke rl)(a:l9):∀m∈rl,fE m.1 m.2 a/\yT m.2:=fun m f=>by
 obtain⟨e,b,c,d⟩:=h m f;obtain⟨r,x⟩:=m;simp only at e b c d;subst e;exact⟨cF b c d a,rfl,rfl⟩
theorem wA{b:BM}{u:Nat}(h:yJ b.ls u<0):bN b.x u=none:=by
 unfold yJ D1 at h;unfold bN
 cases e:b.ls.findIdx? fun x=>decide (x.t.uid=u) with
 |some i=>rw[e] at h;simp only[Option.elim] at h;omega
 |none=>
  rw[Q5] at e;rw[Wh];intro x a;obtain⟨m,c,rfl⟩:=jv.1 a;have:=e m c;simpa using this
theorem wB{b:BM}{u:Nat}(h:¬yJ b.ls u<0):∃(i:Nat) (a:i<b.ls.length),yJ b.ls u=(i:Nat)/\bN b.x u=some b.ls[i].t:=by
 unfold yJ D1 at h⊢;unfold bN
 cases e:b.ls.findIdx? fun x=>decide (x.t.uid=u) with
 |none=>rw[e] at h;simp only[Option.elim] at h;omega
 |some i=>
  obtain⟨a,d,c⟩:=kd.1 e;refine⟨i,a,rfl,?_⟩;show(b.ls.map LM.t).find? _=_;have f:List.find? (fun m:LM=>decide (m.t.uid=u)) b.ls=some b.ls[i]:=List.find?_eq_some_iff_getElem.2 ⟨d,i,a,rfl,fun j g=>by simpa using c j g⟩;rw[List.find?_map];show Option.map LM.t (List.find? (fun m:LM=>decide (m.t.uid=u)) b.ls)=_;rw[f];rfl
theorem pL{b:BX}{k:Nat}{a:List (Nat×Nat)}(h:bN b (a.getD k (0,0)).1=none):V1 b (k+1) a=((V1 b k (a.eraseIdx k)).1,{R0 with kind:=9,n:=k+1}::(V1 b k (a.eraseIdx k)).2):=by
 rw[V1];rw[h]
theorem pM{b:BX}{k:Nat}{a:List (Nat×Nat)}{x:LT}(h:bN b (a.getD k (0,0)).1=some x):V1 b (k+1) a=V1 b k a:=by
 rw[V1];rw[h]
abbrev ki(v:VW)(b:BX)(expunge:Bool):List (Nat×Nat)×List RR:=if expunge then V1 b v.a5F.length v.a5F else(v.a5F,[])
def SyQ(e:VW×List RR)(h:l9)(x:Value)(A:List As):Prop:=∃p rl o,x=.tuple #[yH e.1 (Prod.fst p) (Prod.snd p),.slice (Prod.fst o) (List.length rl) (Prod.snd o)]/\A=[l5 p.1 e.1.a5F p.2,r8 o.1 rl o.2]/\rl.map Prod.fst=e.2/\∀m∈rl,fE m.1 m.2 h/\yT m.2
abbrev uq(ls:List LM)(m:Nat):List (Nat×Nat):=((ls.map LM.t).filter fun x=>decide (m<x.uid)).map fun x=>(x.uid,x.mod)
theorem HD(ls:List LM)(m:Nat){j:Nat}(a:j<ls.length):uq (ls.take (j+1)) m=uq (ls.take j) m++if m<ls[j].t.uid then[(ls[j].t.uid,ls[j].t.mod)] else[]:=by
 unfold uq;rw[kw a,jm,Wc,jm];congr 1;by_cases h:m<ls[j].t.uid<;>simp[h]
theorem Mu(ls:List LM)(m j:Nat):(uq (ls.take j) m).length<=j:=by
 unfold uq;rw[zm];refine jd (Qb _ _) ?_;rw[zm,z7];omega
abbrev ur(cond:Bool)(had:List ((Nat×Nat)×Option LT)):List RR:=had.zipIdx.filterMap fun h=>h.1.2.map fun x=>tH x (h.2+1) cond
theorem DS(cond:Bool)(a:List ((Nat×Nat)×Option LT)){j:Nat}(b:j<a.length):ur cond (a.take (j+1))=ur cond (a.take j)++(a[j].2.map fun x=>tH x (j+1) cond).toList:=by
 unfold ur;rw[kw b,List.zipIdx_append,List.filterMap_append,z7,Jb (Js b),ju,List.zipIdx_singleton];congr 1
abbrev PD(g4 g5 g8:Nat)(v:VW)(b:BM)(a5F:List (Nat×Nat))(p:AC)(rl:List RM)(o:AC)(R:List As):List As:=l5 p.1 a5F p.2::r8 o.1 rl o.2::wz g4 (HC v a5F) p::By g5 b::wz g8 AA (none,0)::R
abbrev HE(g4 g5 g8:Nat)(cond:Bool)(rl:List RM)(o:AC):F_:=[(3,.bool cond),(4,m6 g4),(5,m6 g5),(8,m6 g8),(9,.slice none 0 0),(10,.slice o.1 rl.length o.2)]
abbrev Oj(g4 g5 g8:Nat)(v:VW)(b:BM)(n:Nat)(x:List (Nat×Nat))(p:AC)(rl:List RM)(o:AC)(R:List As):List As:=.own (.slice p.1 n p.2) 72 2 (V7 x)::r8 o.1 rl o.2::.blk g4 (.cells #[B v.box,.int .u64 (v.val:Nat),.slice p.1 n p.2] 30)::By g5 b::wz g8 AA (none,0)::R
abbrev pN(b:BX)(a5F nw:List (Nat×Nat))(j:Nat):List (Nat×Nat):=((a5F.map (X8 b)).map (·.1)).take j++(a5F.drop j++nw)
theorem ut(b:BX)(a c:List (Nat×Nat)){j:Nat}(d:j<=a.length):(pN b a c j).length=a.length+c.length:=by
 simp only[pN,zz,z7,zm,kz];omega
theorem HG(b:BX)(a c:List (Nat×Nat)){j:Nat}(d:j<a.length):(pN b a c j)[j]'(by rw[ut b a c (Js d)];omega)=a[j]:=by
 have e:(((a.map (X8 b)).map (·.1)).take j).length=j:=by simp;omega
 have f:(pN b a c j)[j]? =some a[j]:=by
  unfold pN;rw[jz qb,e,Wg,jg (by simp;omega),Zy];simp[d]
 exact(Qw.1 f).2
theorem Bz(b:BX)(a c:List (Nat×Nat)){j:Nat}(d:j<a.length):(pN b a c j).set j (X8 b a[j]).1=pN b a c (j+1):=by
 have e:(((a.map (X8 b)).map (·.1)).take j).length=j:=by simp;omega
 unfold pN;rw[List.set_append_right _ _ qb,e,Wg,Qg d,Qc,List.set_cons_zero,kw (by simpa using d),zn];simp
theorem wC(b:BX)(a c:List (Nat×Nat)){j:Nat}(d:j<a.length)(h:(X8 b a[j]).1=a[j]):pN b a c (j+1)=pN b a c j:=by
 have e:j<(pN b a c j).length:=by rw[ut b a c (Js d)];omega
 rw[<-Bz b a c d,h]
 conv=>lhs;rw[<-HG b a c d]
 exact Zs e
abbrev Rf(fs:List Bs)(a:Option Addr)(c:Nat):VM:=⟨{V0 with kind:=6,a5R:=fs},a,c⟩
abbrev SS(n:Nat):VM:=⟨{V0 with kind:=9,n:=n},none,0⟩
theorem Mv(v:VW)(a:Option Addr)(c:Nat)(b:BM)(f cond:Bool)(hv:v.a5F.length<=100000)(hb:b.ls.length<=100000)(b6:∀x∈b.ls,x.t.a5R.length<=16):Cm prog 166 [yH v a c,JY b,.bool f,.bool cond] (fun h=>o0 h a (V7 v.a5F)/\fJ b h) [] (SyQ (T7 v b.x f cond)):=by
 refine x8 179 func166 rfl rfl rfl ?_;rintro F R ⟨b7,v9⟩;have y1:=v9.ls;obtain⟨q1,h1⟩:=o7 (decide (b.name=v.box));obtain⟨q2,h2⟩:=o7 (decide (b.val=v.val));refine C6 ?_;refine m9 rfl rfl ?_;intro D;refine m9 rfl rfl ?_;intro M;refine i7 rfl ?_;intro S;refine E4 ?_;refine c_ (fM (V7 v.a5F) a v.a5F.length c (bO _) (eM _) qb) (fun h hh _=>b7.le hh) ?_;rintro x A ⟨a2,c2,rfl,rfl⟩;refine E4 ?_;refine x6 [(2,.bool f),(3,.bool cond),(4,m6 D),(5,m6 M),(8,m6 S),(9,.slice none 0 0),(10,.slice none 0 0),(36,.bool (!q1||!q2))] (wz D v (a2,c2)::By M b::wz S AA (none,0)::l5 a2 v.a5F c2::R) ?_ ?_
 ·cases q1
  all_goals (
   refine O2 ?_;refine f_ ((E7 rfl rfl).eq (jw (fun b=>Value.bool (!b)) h1.symm)) ?_;refine aH ?_;(first|refine u_ ?_|(refine v_ ?_;refine f_ ((M9 rfl rfl).eq (jw (fun x=>Value.bool (!x)) ((zh.2 Ju).trans h2.symm))) ?_));refine p_ ?_)
  all_goals exact p8 sub (fun w s=>(tk (C:=[_,_,_,_])).hp s)
 refine O1 ?_ ?_<;>intro h
 ·have e:T7 v b.x f cond=(v,[]):=by
   unfold T7;refine zu ?_;rw[h1,h2] at h;simpa using h
  rw[e];refine bT ?_;refine G_ (A:=[l5 a2 v.a5F c2,r8 none [] 0]) (v:=.tuple #[yH v a2 c2,.slice none 0 0]) (l6.le_refl _) ⟨(a2,c2),[],(none,0),rfl,rfl,rfl,fun _ h=>by cases h⟩ ?_;exact D2 rfl rfl rfl ud rfl _ qh (fun w s=>C1 (A:=[_,_]) (J:=[_,_,_]) tk (s.addNil 51 10))
 have hq:q1=true/\q2=true:=by cases q1<;>cases q2<;>simp_all
 have x0:T7 v b.x f cond=(HC v (((ki v b.x f).1.map (X8 b.x)).map (·.1)++uq b.ls (L4 (ki v b.x f).1)),(ki v b.x f).2++(if uq b.ls (L4 (ki v b.x f).1)=[] then[] else[{R0 with kind:=8,n:=(ki v b.x f).1.length+(uq b.ls (L4 (ki v b.x f).1)).length}])++ur cond ((ki v b.x f).1.map (X8 b.x))):=by
  unfold T7;have h3:b.name=v.box:=qr (h1.symm.trans hq.1);have h4:b.val=v.val:=qr (h2.symm.trans hq.2);rw[zk (by show¬(b.name≠v.box\/b.val≠v.val);rw[h3,h4];simp)]
 refine u7 ?_;refine I8 5 ?_;refine lx (fun(d:List (Nat×Nat)) (p:AC) (y:List RM) (o:AC)=>ki v b.x f=(d,y.map Prod.fst)/\d.length<=v.a5F.length/\y.length<=v.a5F.length/\Ke y) (fun d p y o=>HE D M S cond y o) (fun d p y o=>PD D M S v b d p y o R) ?_ ?_
 ·refine n9 ?_;refine gC (fun(k:Nat) (d:List (Nat×Nat)) (p:AC) (y:List RM) (o:AC) (_:Unit)=>(f=true->k<=d.length/\V1 b.x v.a5F.length v.a5F=((V1 b.x k d).1,y.map Prod.fst++(V1 b.x k d).2))/\(f=false->d=v.a5F/\y=[])/\d.length<=v.a5F.length/\y.length+k<=v.a5F.length/\Ke y) (fun k d p y o _=>(2,.bool f)::(11,.int .i64 ((k:Int)-1))::HE D M S cond y o) (fun k d p y o _=>PD D M S v b d p y o R) (fun k _ _ _ _ _=>k) v.a5F.length v.a5F (a2,c2) [] (none,0) () ⟨fun _=>⟨zr _,rfl⟩,fun _=>qh,zr _,by simp,fun _ h=>by cases h⟩ sub (fun w s=>(tk (C:=[_,_,_,_,_])).hp (s.addNil 51 10)) ?_;rintro k d p y o _ ⟨w0,w1,y2,d1,k8⟩
  cases k with
  |zero=>
   refine p_ ?_;refine f_ ((I3 rfl rfl).eq (v':=.bool false) rfl) ?_;refine E4 ?_;refine g_ (d,p,y,o) ⟨?_,y2,by show y.length<=_;omega,k8⟩ i_;unfold ki
   cases f
   ·obtain⟨rfl,rfl⟩:=w1 rfl;rfl
   ·rw[zu rfl,(w0 rfl).2];simp[V1]
  |succ k=>
   cases f
   ·refine p_ ?_;refine f_ ((I3 rfl rfl).eq (v':=.bool true) (qn qk)) ?_;refine E4 ?_;refine g_ (d,p,y,o) ⟨?_,y2,by show y.length<=_;omega,k8⟩ i_;obtain⟨rfl,rfl⟩:=w1 rfl;rfl
   obtain⟨x1,y3⟩:=w0 rfl;have x1:k<d.length:=x1;refine p_ ?_;refine f_ ((I3 rfl rfl).eq (v':=.bool true) (qn qk)) ?_;refine E4 ?_;refine B4 (a:=p.1) (n:=d.length) (c:=p.2) (sz:=2) (xs:=V7 d) (te:=72) ud fun w2 v3 O=>?_;have O:=O qb;have eg:d.getD k (0,0)=d[k]:=(by rw[zd,zj x1];rfl);refine u7 ?_;refine D9 [0,2,6] [7] [l5 p.1 d p.2,wz D (HC v d) p,By M b] 9 ?_;refine wd [0,1,2] ?_;refine w_ 3 rfl ((aw rfl).eq (v':=.int .i64 (k:Nat)) (by congr 1;omega)) ?_;refine w_ 4 rfl (m8 (n:=(k:Nat)) (len:=d.length) rfl O rfl qb) ?_;refine wd [5] ?_;refine n8 6 rfl P5 (i8 rfl (fun w s=>dO (j:=0) (s.ownN (t:=72) ud).2.2.1 D0 (i:=k) x1 rfl y4)) I4 rfl rfl rfl i6 ?_;refine h_ 7 rfl i6 ?_;refine e_ rfl (Bi b d[k].1 qb) (fun h hh _=>y1.le hh) rfl ?_;refine E5 [8] ?_;refine lx (fun(V:List (Nat×Nat)) (p':AC) (x2:List RM) (o':AC)=>(k<=V.length/\V1 b.x v.a5F.length v.a5F=((V1 b.x k V).1,x2.map Prod.fst++(V1 b.x k V).2))/\V.length<=v.a5F.length/\x2.length+k<=v.a5F.length/\Ke x2) (fun d p y o=>(2,.bool true)::(11,.int .i64 ((((k+1:Nat):Nat):Int)-1))::HE D M S cond y o) (fun d p y o=>PD D M S v b d p y o R) ?_ ?_
   ·refine o8 rfl ?_ ?_<;>intro h
    ·have b8:bN b.x (d.getD k (0,0)).1=none:=(by rw[eg];exact wA (qr h));rw[pL b8] at y3;refine y8 ?_;refine f_ ((p9 rfl rfl qb).eq (v':=.int .i64 ((k+1:Nat):Int)) (by congr 1;omega)) ?_;refine p_ ?_;refine f_ (y7 (ps:=[(0,.const (.int .i64 9)),(4,.tmp 61)]) (vs:=[(0,.int .i64 9),(4,.int .u64 ((k+1:Nat):Int))]) (cells:=(tD (Fa (k+1)) L0).toArray) rfl i6) ?_;refine C4 xM (Fa (k+1),L0) rfl ?_;intro a63 _;refine u6 xM (l:=y) (m:=[(Fa (k+1),L0)]) aJ jH (by show(y.length+1)*160<=_;omega) ?_;intro q6 q7 _;refine p_ ?_;have ee:V7 (d.take k)++V7 (d.drop (k+1))=V7 (d.eraseIdx k):=(by rw[<-oJ,Kh]);have el:(d.eraseIdx k).length=d.length-1:=(by rw[J9,zu x1]);have q4:(k<=(d.eraseIdx k).length/\V1 b.x v.a5F.length v.a5F=((V1 b.x k (d.eraseIdx k)).1,(y++[(Fa (k+1),L0)]).map Prod.fst++(V1 b.x k (d.eraseIdx k)).2))/\(d.eraseIdx k).length<=v.a5F.length/\(y++[(Fa (k+1),L0)]).length+k<=v.a5F.length/\Ke (y++[(Fa (k+1),L0)]):=by
      refine⟨⟨by omega,?_⟩,by omega,by rw[zz];simp only[zy,z6];omega,k8.app rfl rfl rfl⟩;rw[y3,jm,zn];rfl
     by_cases hlast:k+1=d.length
     ·refine D5 (H':=.own (.slice p.1 k k) 72 2 (V7 (d.take k))::r8 q6 (y++[(Fa (k+1),L0)]) q7::wz D (HC v d) p::By M b::wz S AA (none,0)::R) (fun w s=>?_) ?_
      ·have h5:=C1 (A:=[l5 p.1 d p.2,r8 q6 (y++[(Fa (k+1),L0)]) q7,wz D (HC v d) p,By M b,wz S AA (none,0)]) (J:=[_]) tk s;have h6:=h5.cutOwn (j:=k) .here qb;rw[ay D0] at h6;exact h6.capOwn .here (zr _) qb
      refine u7 ?_;refine D9 [1,6] [10,12] [wz D (HC v d) p] 13 ?_;refine wd [0,1] ?_;refine w_ 2 rfl ((aw rfl).eq (v':=.int .i64 (k:Nat)) (by congr 1;omega)) ?_;refine w_ 3 rfl ((aw rfl).eq (v':=.int .i64 (k:Nat)) (by congr 1;omega)) ?_;refine w_ 4 rfl ((fN rfl rfl rfl rfl qb).eq (v':=.slice p.1 k k) (by simp[dW])) ?_;refine wd [5,6] ?_;refine w_ 7 rfl ((aw rfl).eq (v':=.int .i64 (k:Nat)) (by congr 1;omega)) ?_;refine wd [8] ?_;refine w_ 9 rfl (B5 (n:=d.length) rfl rfl rfl qb) ?_;refine h_ 10 rfl i6 ?_;refine B_ (m:=d.length-(k+1)) (n:=k) (xs:=V7 (d.take k)) (news:=V7 (d.drop (k+1))) rfl rfl (fun a' c'=>uh) (fun w s=>by rw[Qm qb];exact o0.nil _ _) (by rw[bO,kz];rfl) rfl rfl (eM _) (by show(k+(d.length-(k+1)))*16<=_;omega) qb rfl ?_;intro v4 k9 _;refine E5 [11,12] ?_;have en:k+(d.length-(k+1))=(d.eraseIdx k).length:=(by omega);refine g_ (d.eraseIdx k,(v4,k9),y++[(Fa (k+1),L0)],(q6,q7)) q4 (fun w s=>?_);show Hp F w (l5 v4 (d.eraseIdx k) k9::r8 q6 (y++[(Fa (k+1),L0)]) q7::.blk D (.cells #[B v.box,.int .u64 (v.val:Nat),.slice v4 (d.eraseIdx k).length k9] 30)::By M b::wz S AA (none,0)::R);unfold l5;rw[<-en,<-ee];exact(tk (C:=[_,_,_,_,_])).hp s
     ·have w3:0<d.length-(k+1):=(by omega);refine u7 ?_;refine D9 [1,6] [10,12] [wz D (HC v d) p] 13 ?_;refine wd [0,1] ?_;refine w_ 2 rfl ((aw rfl).eq (v':=.int .i64 (k:Nat)) (by congr 1;omega)) ?_;refine w_ 3 rfl ((aw rfl).eq (v':=.int .i64 (k:Nat)) (by congr 1;omega)) ?_;refine w_ 4 rfl ((fN rfl rfl rfl rfl qb).eq (v':=.slice p.1 k k) (by simp[dW])) ?_;refine wd [5,6] ?_;refine w_ 7 rfl ((aw rfl).eq (v':=.int .i64 (k:Nat)) (by congr 1;omega)) ?_;refine wd [8] ?_;refine w_ 9 rfl (B5 (n:=d.length) rfl rfl rfl qb) ?_;refine h_ 10 rfl i6 ?_;refine pK (n:=k) (m:=d.length-(k+1)) (sz:=2) (e:=72) (xs:=V7 (d.take k)) (news:=V7 (d.drop (k+1))) rfl rfl ?hrx (by rw[bO,z7,Jb qb]) (fun e=>by obtain⟨ad,h9⟩:=O;rw[e] at h9;cases h9) ?hsrc (by rw[bO,kz]) rfl rfl (by show(k+(d.length-(k+1)))*16<=_;omega) qb w3 rfl ?_;rotate_left 2;intro v5 k9 c7;rotate_right 1;(case hrx=>intro w s;have h6:=((s.ownN (t:=72) ud).2.2.1:o0 _ p.1 (V7 d)).cut w2 v3 0 k qb qb;rw[dW,Z1,Kj,Nat.sub_zero,ay D0] at h6;exact h6);(case hsrc=>intro w s;have h6:=((s.ownN (t:=72) ud).2.2.1:o0 _ p.1 (V7 d)).cut w2 v3 (k+1) d.length qb (zr _);rw[kX D0,kp (by rw[bO,kz];omega)] at h6;exact h6);refine E5 [11,12] ?_;have en:k+(d.length-(k+1))=(d.eraseIdx k).length:=(by omega);refine g_ (d.eraseIdx k,(some ⟨v5,0,none⟩,k9),y++[(Fa (k+1),L0)],(q6,q7)) q4 (fun w s=>?_);show Hp F w (l5 (some ⟨v5,0,none⟩) (d.eraseIdx k) k9::r8 q6 (y++[(Fa (k+1),L0)]) q7::.blk D (.cells #[B v.box,.int .u64 (v.val:Nat),.slice (some ⟨v5,0,none⟩) (d.eraseIdx k).length k9] 30)::By M b::wz S AA (none,0)::R);unfold l5;rw[<-en,<-ee];exact C1 (A:=[_,_,_,_,_]) (J:=[_,_]) tk s
    ·obtain⟨i,hi,hr,hx⟩:=wB (zq h);rw[<-eg] at hx;rw[pM hx] at y3;refine u7 ?_;exact g_ (d,p,y,o) ⟨⟨by show k<=d.length;omega,y3⟩,y2,by show y.length+k<=_;omega,k8⟩ (fun w s=>(tk (C:=[_,_,_,_,_])).hp s)
   rintro V p' x2 o' ⟨b9,w4,w5,w7⟩;refine p_ ?_;refine f_ ((E0 rfl rfl qb).eq (v':=.int .i64 ((k:Int)-1)) (by congr 1;omega)) ?_;refine p_ ?_;exact l8 (i:=(k+1,d,p,y,o,())) (k,V,p',x2,o',()) ⟨fun _=>b9,qx,w4,w5,w7⟩ qg sub i_
 rintro d p y o ⟨he,y2,c8,k8⟩;rw[he] at x0;replace x0:T7 v b.x f cond=(HC v ((d.map (X8 b.x)).map (·.1)++uq b.ls (L4 d)),y.map Prod.fst++(if uq b.ls (L4 d)=[] then[] else[PC (d.length+(uq b.ls (L4 d)).length)])++ur cond (d.map (X8 b.x))):=x0;rw[x0];clear x0 he;obtain⟨z,v6⟩:=o7 (L4 d);refine aH ?_;refine e_ rfl (we (HC v d) p.1 p.2 (by show d.length<=_;omega)) (fun h hh ⟨bs,hb⟩=>A2.rd hb ud) rfl ?_;rw[<-v6];refine p_ ?_;refine I8 4 ?_;have x3:=Mu b.ls z;refine n7 (ι:=AC) (fun _=>True) (fun _=>(12,.int .i64 (d.length:Nat))::HE D M S cond y o) (fun p=>PD D M S v b (d++uq b.ls z) p y o R) ?_ ?_
 ·refine n9 ?_;refine O5 (fun(j:Nat) (p:AC) (_:Unit)=>j<=b.ls.length) (fun j p _=>(12,.int .i64 (d.length:Nat))::(13,.int .u64 (z:Nat))::(83,.slice b.a b.ls.length b.c)::(84,.int .i64 (b.ls.length:Nat))::(85,.int .i64 (j:Nat))::HE D M S cond y o) (fun j p _=>PD D M S v b (d++uq (b.ls.take j) z) p y o R) (fun j _ _=>b.ls.length-j) 0 p () (zw _) sub (fun w s=>by rw[Kw];show Hp F w (PD D M S v b (d++[]) p y o R);rw[z8];exact(tk (C:=[_,_,_,_,_])).hp s) ?_;rintro j p _ hj;have d2:=x3 j;have y0:(d++uq (b.ls.take j) z).length<=200000:=by rw[zz];omega
  refine R6 ?_ ?_<;>intro h
  ·have Q:j<b.ls.length:=(by have:=qr h;omega);have O:=A0 y1 A_ qp Q;have e:=HD b.ls z Q;refine p_ ?_;refine r_ (w8 rfl (fun w s=>S5 (y1.le s.keep) A_ qp Q y4) (A_ _)) ?_;refine i7 rfl ?_;intro w9;refine aH ?_;refine n7 (ι:=AC) (fun _=>True) (fun _=>(12,.int .i64 (d.length:Nat))::(13,.int .u64 (z:Nat))::(83,.slice b.a b.ls.length b.c)::(84,.int .i64 (b.ls.length:Nat))::(85,.int .i64 (j:Nat))::HE D M S cond y o) (fun p=>PD D M S v b (d++uq (b.ls.take (j+1)) z) p y o R) ?_ ?_
   ·rw[e,<-zn];refine o8 rfl ?_ ?_<;>intro h
    ·have v7:z<b.ls[j].t.uid:=(by have:=qr h;omega);rw[zu v7];refine wk 7 ?_;refine C4 iA (b.ls[j].t.uid,b.ls[j].t.mod) rfl ?_;intro OP _;refine u6 iA (l:=d++uq (b.ls.take j) z) (m:=[(b.ls[j].t.uid,b.ls[j].t.mod)]) D0 ni (by show((d++uq (b.ls.take j) z).length+1)*16<=_;omega) ?_;intro z1 z2 _;refine y8 ?_;exact g_ (z1,z2) trivial (fun w s=>C1 (A:=[l5 z1 ((d++uq (b.ls.take j) z)++[(b.ls[j].t.uid,b.ls[j].t.mod)]) z2,_,_,_,_]) (J:=[.own (.slice OP 1 1) 72 2 _,.blk w9 _]) tk s)
    ·have v7:¬z<b.ls[j].t.uid:=(by have:=zq h;omega);rw[zk v7,z8];refine u7 ?_;exact g_ p trivial (fun w s=>C1 (A:=[_,_,_,_,_]) (J:=[.blk w9 _]) tk s)
   rintro U _;refine y8 ?_;exact l8 (i:=(j,p,())) (j+1,U,()) Q qg sub i_
  ·have Q:j=b.ls.length:=(by have:=zq h;omega);refine u7 ?_;exact g_ p trivial (fun w s=>by rw[Q,Qj] at s;exact s)
 rintro U _;have x3:=x3 b.ls.length;rw[Qj] at x3;obtain⟨T,c0⟩:=o7 (uq b.ls z);rw[<-c0] at x3⊢;obtain⟨n,hn⟩:=o7 (d.length+T.length);obtain⟨h0,q0⟩:=o7 (y.map Prod.fst++(if T=[] then[] else[PC (d.length+T.length)]));rw[<-q0];refine u7 ?_;refine D5 (H':=Oj D M S v b n (d++T) U y o R) (fun w s=>by rw[hn,<-zz];exact s) ?_;refine aH ?_;refine lx (fun(h7:List RM) (o2:AC) (_ _:Unit)=>h7.map Prod.fst=h0/\Ke h7/\h7.length<=v.a5F.length+1) (fun h7 o2 _ _=>(12,.int .i64 (d.length:Nat))::HE D M S cond h7 o2) (fun h7 o2 _ _=>Oj D M S v b n (d++T) U h7 o2 R) ?_ ?_
 ·refine o8 rfl ?_ ?_<;>intro h
  ·have v8:T≠[]:=(by rintro rfl;have:=qr h;simp at hn;omega);refine O2 ?_;refine f_ ((y9 rfl qb).eq (v':=.int .u64 (n:Nat)) rfl) ?_;refine f_ (y7 (ps:=[(0,.const (.int .i64 8)),(4,.tmp 113)]) (vs:=[(0,.int .i64 8),(4,.int .u64 (n:Nat))]) (cells:=(tD (PC n) L0).toArray) rfl i6) ?_;refine C4 xM (PC n,L0) rfl ?_;intro c9 _;refine u6 xM (l:=y) (m:=[(PC n,L0)]) aJ jH (by show(y.length+1)*160<=_;omega) ?_;intro u0 u1 _;refine p_ ?_;refine g_ (y++[(PC n,L0)],(u0,u1),(),()) ⟨?_,k8.app rfl rfl rfl,by simp only[zz,zy,z6];omega⟩ (fun w s=>C1 (A:=[_,r8 u0 (y++[(PC n,L0)]) u1,_,_,_]) (J:=[_]) tk s);rw[q0,zk v8,jm,hn];rfl
  ·have he:T=[]:=by
    have:=zq h;have h5:T.length=0:=(by omega);exact jx h5
   refine u7 ?_;refine g_ (y,o,(),()) ⟨?_,k8,by show y.length<=_;omega⟩ i_;rw[q0,zu he,z8]
 rintro h7 o2 _ _ ⟨c1,c3,c4⟩;refine u7 ?_;refine B4 (a:=U.1) (n:=n) (c:=U.2) (sz:=2) (xs:=V7 (d++T)) (te:=72) ud fun _ v3 O=>?_;refine E4 ?_;refine f_ ((B5 (n:=n) rfl rfl rfl (by have:=hn;omega)).eq (v':=.slice U.1 d.length U.2) (by simp[dW])) ?_;refine I8 2 ?_;have h8:∀r∈d.map (X8 b.x),True:=fun _ _=>trivial;have a0:(d.map (X8 b.x)).length=d.length:=zm _;refine S7 (fun(F3:l6) (g:List RM) (X:AC) (_:Unit)=>F.le F3/\g.map Prod.fst=h0++ur cond (d.map (X8 b.x))/\∀m∈g,fE m.1 m.2 F3.heap/\yT m.2) (fun _ g X _=>HE D M S cond g X) (fun F3 _ _ _=>F3) (fun _ g X _=>Oj D M S v b n (pN b.x d T d.length) U g X R) ?_ ?_
 ·refine n9 ?_;refine Hz (fun(j:Nat) (F2:l6) (g:List RM) (X:AC) (_ _:Unit)=>j<=d.length/\F.le F2/\g.map Prod.fst=h0++ur cond ((d.map (X8 b.x)).take j)/\(∀m∈g,fE m.1 m.2 F2.heap/\yT m.2)/\g.length<=v.a5F.length+1+j) (fun j _ g X _ _=>(120,.slice U.1 d.length U.2)::(121,.int .i64 (d.length:Nat))::(122,.int .i64 (j:Nat))::HE D M S cond g X) (fun _ F2 _ _ _ _=>F2) (fun j _ g X _ _=>Oj D M S v b n (pN b.x d T j) U g X R) (fun j _ _ _ _ _=>d.length-j) 0 F h7 o2 () () ⟨zw _,l6.le_refl _,by rw[Kw,c1];simp[ur],c3.rd _,c4⟩ sub rfl i_ ?_;rintro j F2 g X _ _ ⟨hj,q8,q3,Y,d3⟩;have d4:=ut b.x d T hj;refine R6 ?_ ?_<;>intro h
  ·have Q:j<d.length:=(by have:=qr h;omega);have a1:j<(pN b.x d T j).length:=(by omega);have O:=O qb;have q5:=y1.le q8.heap;have a6:=HG b.x d T Q;have z0:=DS cond (d.map (X8 b.x)) (by rw[a0];exact Q);rw[Jj] at z0;refine I8 0 ?_;refine S7 (fun(F3:l6) (k0:List RM) (o4:AC) (_:Unit)=>F2.le F3/\k0.map Prod.fst=h0++ur cond ((d.map (X8 b.x)).take (j+1))/\(∀m∈k0,fE m.1 m.2 F3.heap/\yT m.2)/\k0.length<=v.a5F.length+1+(j+1)) (fun _ k0 o4 _=>(120,.slice U.1 d.length U.2)::(121,.int .i64 (d.length:Nat))::(122,.int .i64 (j:Nat))::HE D M S cond k0 o4) (fun F3 _ _ _=>F3) (fun _ k0 o4 _=>Oj D M S v b n (pN b.x d T (j+1)) U k0 o4 R) ?_ ?_
   ·refine n9 ?_;refine y8 ?_;refine r_ ((w8 rfl (fun w s=>fq (s.ownN (t:=72) ud).2.2.1 D0 qp a1 y4) (D0 _)).eq (v':=.agg (iA d[j]).toArray) (by rw[a6])) ?_;refine i7 rfl ?_;intro q9;refine aH ?_;refine e_ rfl (Bi b d[j].1 qb) (fun h hh _=>q5.le hh) rfl ?_;refine p_ ?_;by_cases hlet:yJ b.ls d[j].1<0
    ·have h8:X8 b.x d[j]=(d[j],none):=(by unfold X8;rw[wA hlet]);refine u7 ?_;refine D9 [4,8,10] [] [By M b,.blk q9 (.cells (iA d[j]).toArray 72)] 13 ?_;refine wd [0] ?_;refine w_ 1 rfl ((E6 rfl rfl).eq (v':=.bool true) (qn (jk hlet))) ?_;refine wd [2,3,4,5,6,7,8,9,10,11,12] ?_;refine y5 (F2,g,X,()) ⟨l6.le_refl _,?_,Y,by show g.length<=_;omega⟩ rfl (fun w s=>?_)
     ·rw[z0,h8,<-zn,<-q3];simp
     ·show Hp F2 w (Oj D M S v b n (pN b.x d T (j+1)) U g X R);rw[wC b.x d T Q (by rw[h8])];exact C1 (A:=[_,_,_,_,_]) (J:=[.blk q9 _]) tk s
    obtain⟨i,hi,hr,hx⟩:=wB hlet;have b5:=A0 q5 A_ qp hi;obtain⟨q,hq⟩:=o7 (decide (b.ls[i].t.mod=d[j].2));rw[hr];refine u7 ?_;refine D9 [4,8,10] [] [By M b,.blk q9 (.cells (iA d[j]).toArray 72)] 13 ?_;refine wd [0] ?_;refine w_ 1 rfl ((E6 rfl rfl).eq (v':=.bool false) (qn qj)) ?_;refine wd [2,3,4,5,6,7] ?_;(first|refine s_ 8 ?_|refine t_ 8 ?_|refine io 8 rfl (i8 rfl (fun w s=>dO (j:=2) (q5.le s.keep) A_ hi rfl y4)) I4 rfl rfl rfl rfl rfl rfl i6 ?_);refine wd [9,10] ?_;(first|refine s_ 11 ?_|refine t_ 11 ?_|refine F6 11 rfl ((o_ rfl rfl).eq (v':=.bool q) (qn ((zh.2 Ju).trans hq.symm))) rfl rfl rfl rfl rfl rfl i6 ?_);refine wd [12] ?_
    cases q
    ·have v8:¬b.ls[i].t.mod=d[j].2:=zq hq.symm;have h8:X8 b.x d[j]=((d[j].1,b.ls[i].t.mod),some b.ls[i].t):=(by unfold X8;rw[hx];exact zk v8);have d0:=b6 _ (zx hi);have c5:o0 F2.heap b.ls[i].a (fV b.ls[i].t.a5R):=(v9.fl _ (zx hi)).le q8.heap;refine O2 ?_;refine r_ (w8 rfl (fun w s=>fq (q5.le s.keep) A_ qp hi y4) (A_ _)) ?_;refine i7 rfl ?_;intro a7;refine wk 8 ?_;refine A9 (C:=iA) (l:=pN b.x d T j) ((pN b.x d T j)[j].1,b.ls[i].t.mod) D0 (i:=j) a1 (j:=1) rfl ?_;refine u7 ?_;rw[show((pN b.x d T j)[j].1,b.ls[i].t.mod)=(X8 b.x d[j]).1 from by rw[a6,h8],Bz b.x d T Q];refine y8 ?_;refine c_ (Y4 b.ls[i].t.a5R b.ls[i].a b.ls[i].c qb) (fun h hh _=>c5.le hh) ?_;rintro x A ⟨fa,fc,rfl,rfl⟩;refine f_ (y7 (ps:=[(0,.const (.int .i64 6)),(2,.tmp 158)]) (vs:=[(0,.int .i64 6),(2,.slice fa b.ls[i].t.a5R.length fc)]) (cells:=(vz (Rf b.ls[i].t.a5R fa fc)).toArray) rfl i6) ?_;refine C4 vz (Rf b.ls[i].t.a5R fa fc) rfl ?_;intro a8 _;refine y8 ?_;refine lx (fun(vl:List VM) (u:AC) (_ _:Unit)=>vl=Rf b.ls[i].t.a5R fa fc::(if cond then[SS b.ls[i].t.mod] else[])) (fun vl u _ _=>(16,.int .i64 (j:Nat))::(20,.slice u.1 vl.length u.2)::(120,.slice U.1 d.length U.2)::(121,.int .i64 (d.length:Nat))::(122,.int .i64 (j:Nat))::HE D M S cond g X) (fun vl u _ _=>.own (.slice u.1 vl.length u.2) 110 6 (OZ vl)::A4 fa b.ls[i].t.a5R fc::Oj D M S v b n (pN b.x d T (j+1)) U g X R) ?_ ?_
     ·cases cond
      ·refine u7 ?_;exact g_ ([Rf b.ls[i].t.a5R fa fc],(a8,1),(),()) rfl (fun w s=>C1 (A:=[_,_,_,_,_,_,_]) (J:=[.blk a7 _,.blk q9 _]) tk s)
      ·refine E4 ?_;refine f_ (y7 (ps:=[(0,.const (.int .i64 9)),(1,.tmp 164)]) (vs:=[(0,.int .i64 9),(1,.int .u64 (b.ls[i].t.mod:Nat))]) (cells:=(vz (SS b.ls[i].t.mod)).toArray) rfl i6) ?_;refine C4 vz (SS b.ls[i].t.mod) rfl ?_;intro b0 _;refine u6 vz (l:=[Rf b.ls[i].t.a5R fa fc]) (m:=[SS b.ls[i].t.mod]) nf ng (by show 2*_<=_;decide) ?_;intro u2 u8 _;refine p_ ?_;exact g_ ([Rf b.ls[i].t.a5R fa fc,SS b.ls[i].t.mod],(u2,u8),(),()) rfl (fun w s=>C1 (A:=[.own (.slice u2 _ u8) _ 6 _,_,_,_,_,_,_]) (J:=[.own (.slice b0 _ 1) _ 6 _,.blk a7 _,.blk q9 _]) tk s)
     rintro vl u _ _ b1;obtain⟨x9,d5⟩:=o7 (α:=RL) (⟨none,0,none,0,u.1,u.2,vl⟩);refine y8 ?_;refine f_ ((p9 rfl rfl qb).eq (v':=.int .i64 ((j+1:Nat):Int)) (by congr 1)) ?_;refine y8 ?_;refine f_ ((y7 (ps:=[(0,.const (.int .i64 14)),(4,.tmp 171),(9,.tmp 172)]) (vs:=[(0,.int .i64 14),(4,.int .u64 ((j+1:Nat):Int)),(9,.slice u.1 vl.length u.2)]) (cells:=(tD (tH b.ls[i].t (j+1) cond) ⟨none,0,none,0,u.1,u.2,vl⟩).toArray) rfl i6)) ?_;refine C4 xM (tH b.ls[i].t (j+1) cond,⟨none,0,none,0,u.1,u.2,vl⟩) rfl ?_;intro b2 _;refine u6 xM (l:=g) (m:=[(tH b.ls[i].t (j+1) cond,⟨none,0,none,0,u.1,u.2,vl⟩)]) aJ jH (by show(g.length+1)*160<=_;omega) ?_;intro v0 v1 _;refine p_ ?_;refine kf (Z:=[.own (.slice u.1 vl.length u.2) 110 6 (OZ vl),A4 fa b.ls[i].t.a5R fc]) tk fun F3 v2 ⟨bs,b3⟩=>?_;have b4:fE (tH b.ls[i].t (j+1) cond) ⟨none,0,none,0,u.1,u.2,vl⟩ F3.heap:=by
      refine⟨?_,o0.nil _ _,o0.nil _ _,A2.rd b3 ud,fun m hm=>?_⟩
      ·rw[b1];cases cond<;>rfl
      ·rw[b1] at hm;rcases ky.1 hm with rfl|hm
       ·exact A2.rd b3 ud
       ·cases cond
        ·cases hm
        ·rw[zg.1 hm];exact o0.nil _ _
     refine y5 (F3,g++[(tH b.ls[i].t (j+1) cond,⟨none,0,none,0,u.1,u.2,vl⟩)],(v0,v1),()) ⟨v2,?_,fun m hm=>?_,by simp only[zz,zy,z6];omega⟩ rfl (fun w s=>C1 (A:=[_,r8 v0 _ v1,_,_,_]) (J:=[r8 b2 _ 1]) tk s)
     ·rw[z0,h8,<-zn,<-q3,jm];rfl
     ·rcases zc.1 hm with h5|h5
      ·exact⟨(Y m h5).1.le v2.heap,(Y m h5).2⟩
      ·rw[zg.1 h5];exact⟨b4,rfl,rfl⟩
    ·have c6:b.ls[i].t.mod=d[j].2:=qr hq.symm;have h8:X8 b.x d[j]=(d[j],none):=(by unfold X8;rw[hx];exact zu c6);refine u7 ?_;refine y5 (F2,g,X,()) ⟨l6.le_refl _,?_,Y,by show g.length<=_;omega⟩ rfl (fun w s=>?_)
     ·rw[z0,h8,<-zn,<-q3];simp
     ·show Hp F2 w (Oj D M S v b n (pN b.x d T (j+1)) U g X R);rw[wC b.x d T Q (by rw[h8])];exact C1 (A:=[_,_,_,_,_]) (J:=[.blk q9 _]) tk s
   rintro F3 k0 o4 _ ⟨h1,h2,h3,h4⟩;refine y8 ?_;exact O9 (i:=(j,F2,g,X,(),())) (j+1,F3,k0,o4,(),()) ⟨Q,q8.trans h1,h2,h3,h4⟩ qg sub rfl i_
  ·have Q:j=d.length:=(by have:=zq h;omega);refine u7 ?_;refine y5 (F2,g,X,()) ⟨q8,?_,Y⟩ rfl (fun w s=>by rw[Q] at s;exact s);rw[Q,<-a0,Qj] at q3;exact q3
 rintro F3 g X _ ⟨q8,q3,Y⟩;have q4:pN b.x d T d.length=(d.map (X8 b.x)).map (·.1)++T:=by unfold pN;rw[kp y4,J6,j7]
 have y0:n=((d.map (X8 b.x)).map (·.1)++T).length:=by simp[hn]
 rw[q4];refine JV ?_;refine G_ (A:=[l5 U.1 ((d.map (X8 b.x)).map (·.1)++T) U.2,r8 X.1 g X.2]) (v:=.tuple #[yH (HC v ((d.map (X8 b.x)).map (·.1)++T)) U.1 U.2,.slice X.1 g.length X.2]) q8 ⟨U,g,X,rfl,rfl,q3,Y⟩ ?_;have ev:yH (HC v ((d.map (X8 b.x)).map (·.1)++T)) U.1 U.2=.agg #[B v.box,.int .u64 (v.val:Nat),.slice U.1 n U.2]:=by rw[y0]
 rw[ev];exact D2 rfl rfl rfl ud rfl _ qh (fun w s=>by unfold l5;rw[<-y0];exact C1 (A:=[_,_]) (J:=[_,_,_]) tk s)
