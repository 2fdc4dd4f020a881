import Derived.Test.YtmcepdopookilaaGreatDoorubx13
set_option maxHeartbeats 16000000
set_option maxRecDepth 8000
set_option linter.unusedVariables false
set_option linter.unusedSimpArgs false
set_option linter.defProp false
namespace Go.Proofs.YtmcepdopookilaaGreatDoor.Rp
open Go Go.Sl Go.RowKit Go.Proofs.Tryz
theorem nz{H H' a:List As}{x:As}(u:M2 H x a H'):∀M:List As,M2 (M++H) x a (M++H')
 |[]=>u
 |_::M=>.there (nz u M)
theorem ww(z:KA)(i:Nat)(m:KM):KA.own ⟨z.l.set i m,z.a,z.c⟩=.own (.slice z.a z.l.length z.c) 127 6 ((z.l.set i m).flatMap aJ):=by
 show As.own (.slice z.a (z.l.set i m).length z.c) _ _ _=_;rw[jr]
abbrev Hf(m:KM)(n:Nat):KM:=⟨{m.k with kids:=n},m.a,m.c⟩
theorem mQ.same{z:KA}{i:Nat}{m:KM}{B:List KA}:∀N:List KA,mQ (N++z::B) (N++⟨z.l.set i m,z.a,z.c⟩::B)
 |[]=>.cons ⟨rfl,rfl,by rw[jr];exact zr _⟩ (mQ.refl _)
 |y::N=>.cons ⟨rfl,rfl,zr _⟩ (mQ.same N)
theorem gE{P:Program}{N:Nat}{K R:y7}{E:List (Nat×y7)}{L:G0}{F:l8}{ops:Array Oper}{rest:List Oper}{ty:TypeId}{pos:String}{af:Array Edge}{t:TypeId}{i:KT}{W:List As}{a:Option Addr}{at_ n q:Nat}{x y:Operand}[hs:HS P t 1](p:∃M z B,i.y::i.D=M++z::B/\z.a=a/\at_<z.l.length)(b:wr i)(g:n<=2000000000)(h:∀j:KT,cI i j->wr j->j.y.a=i.y.a->j.y.c=i.y.c->j.y.l.length=i.y.l.length->GL P N ops rest K E R L F (W++wq j))(hx:ev L x=some (.pointer (N0 a q)))(hv:ev L y=some (.int .i64 (n:Nat)))(hq:q=at_*6+1):GL P N ops (⟨none,.store t x y,ty,pos,af,none⟩::rest) K E R L F (W++wq i):=by
 obtain⟨M,z,B,e,rfl,f⟩:=p;have hg:∀j:KT,j.y::j.D=M++⟨z.l.set at_ (Hf z.l[at_] n),z.a,z.c⟩::B->i.y.l.length<=j.y.l.length->j.S=i.S->cI i j:=fun j d r s=>⟨r,⟨[],_,rfl,by rw[e,d];exact mQ.same M⟩,[],s⟩
 cases M with
 |nil=>
  obtain⟨rfl,rfl⟩:=List.cons.inj e;refine A_ (C:=aJ) (l:=i.y.l) (i:=at_) (j:=1) (Hf i.y.l[at_] n) R1 f rfl (H':=W++wq ⟨⟨i.y.l.set at_ (Hf i.y.l[at_] n),i.y.a,i.y.c⟩,i.D,i.S⟩) (h _ (hg _ rfl (by rw[jr];exact zr _) rfl) ⟨by rw[jr];exact b.len,fun m k=>?_,fun m k=>?_⟩ rfl rfl (by rw[jr])) (hx:=hx) (hv:=hv) (len:=i.y.l.length) (c:=i.y.c) (te:=127) (u:=nz (by show M2 _ _ _ (KA.own ⟨_,_,_⟩::_);rw[ww];exact .here) W) (hq:=hq)
  ·rcases jp k with d|rfl
   ·exact b.set m d
   ·have o:=b.set _ (zy f);exact⟨o.1,o.2.1,o.2.2.1,g⟩
  ·rcases jp k with d|rfl
   ·exact b.own m d
   ·show(i.y.l[at_]).k.set=[]\/V2 (i.y.l[at_]).a (i.y.l[at_]).k.set (i.y.l[at_]).c∈i.S;exact b.own _ (zy f)
 |cons y0 M=>
  obtain⟨rfl,v⟩:=List.cons.inj e;refine A_ (C:=aJ) (l:=z.l) (i:=at_) (j:=1) (Hf z.l[at_] n) R1 f rfl (len:=z.l.length) (c:=z.c) (te:=127) (H':=W++wq ⟨i.y,M++⟨z.l.set at_ (Hf z.l[at_] n),z.a,z.c⟩::B,i.S⟩) (h _ (hg _ rfl (zr _) rfl) ⟨b.len,b.set,b.own⟩ rfl rfl rfl) (hx:=hx) (hv:=hv) (u:=nz (.there ?_) W) (hq:=hq);rw[show i.D=M++z::B from v,jm,jm,Qu,Qu,zm,zm,ww];exact nz .here _
theorem sw{s:Bs}{i a:KT}{p n b:Nat}(h:pu s (fun(i:KT) p c p'=>p<=p'/\p'<=s.length/\cI i c/\wr c) i p n a b):p<=b/\b<=s.length/\cI i a/\wr a:=by
 induction h with
 |one h=>exact h
 |more h hl hr ih=>exact⟨by omega,hr.2.1,ih.2.2.1.trans hr.2.2.1,hr.2.2.2⟩
theorem uf{s:Bs}{i c:KT}{p n a:Nat}(h:pu s (fun(i:KT) p b p'=>p<=p'/\p'<=s.length/\cI i b/\wr b) i p n c a):n<=a+1:=by
 induction h with
 |one h=>omega
 |more h hl hr ih=>have:=hr.1;omega
theorem gG{Q X Y:As}{Z:List As}:((Q::(Z++[X,Y]))++[]).Perm (X::Y::Q::Z):=by
 rw[z7];exact(kz (l₁:=Q::Z) (l₂:=[X,Y]))
theorem Bo{u i:KT}{at_:Nat}(h:cI u i)(ha:at_<u.y.l.length):∃M z B,i.y::i.D=M++z::B/\z.a=u.y.a/\at_<z.l.length:=by
 obtain⟨N,B,e,k⟩:=h.arr
 cases k with
 |@cons x y l m k1 k2=>exact⟨N,y,m,e,k1.1,Nat.lt_of_lt_of_le ha k1.2.2⟩
theorem pD(b:Nat)(s:Bs)(hs:s.length<=1000000000)(d:Nat)(Z:d<=100)(hk:d<=8->rm 345 b s (d+1)):rm 284 b s d:=fun p c x t hp ht=>by
 refine B8 22 func284 rfl rfl rfl ?_;intro F hg;refine r7 ?_;intro r;refine r7 ?_;intro y;refine r7 ?_;refine f_ ((y8 rfl rfl).eq (v':=.agg (aJ ⟨⟨1,0,[],[],0,[]⟩,none,0⟩).toArray) rfl) ?_;refine x5 [pB r b,.blk y (.cells #[.int .i64 (d:Nat)] 3)] rfl (eU b s p c x t ⟨⟨1,0,[],[],0,[]⟩,none,0⟩ ht.len) (fun w f=>f.perm ((List.Perm.swap _ _ _).trans (kz (l₁:=[_,_])))) qw rfl rfl (l8.le_refl _) (fun v h=>h) ?_;rintro v A ⟨u,rfl,rfl,h3,h4,C,J⟩;refine I7 (fun w f=>f.perm kz) ?_;simp only[Q8,j8];refine r7 ?_;have ku:=cq ht h4 C J ⟨by simp,by simp,by simp,by simp⟩ (.inl rfl);have M:t.y.l.length<u.y.l.length:=by rw[C];simp
 obtain⟨q,hq⟩:=o8 (decide (d<=8));refine r7 ?_;refine f_ ((G4 rfl rfl).eq (v':=.bool q) (qn ((qz).trans hq.symm))) ?_;refine n5 (G9 q) qw rfl (fun v h=>h.2) ?_;rintro v A ⟨S,rfl,rfl⟩;refine w8 ?_;have O:=qr (hq.symm.trans S);refine B5 (a:=u.y.a) (n:=u.y.l.length) (c:=u.y.c) (sz:=6) (xs:=qI u.y.l) ud ?_;intro _ _ m;replace m:=m qb;rw[eT];refine w8 ?_;refine D2 [0,6] [4,8,9,11] [pB r b] 12 ?_;refine wd [0,1,2,3,5,6,7] ?_;refine az 4 8 rfl rfl i6 ?_ ?_;refine r_ (by first|exact E_ rfl ud (by rfl)|exact i8 rfl (fun w f=>vg f (by assumption) (by rfl))) ?_;refine Y9 ?_;refine h_ 8 rfl i6 ?_;refine x5 [] rfl (nu b s hs 344 [l9 r,l9 y] Gl (pz c) (ny x) (fun i=>wq i++[pB r b,.blk y (.cells #[.int .i64 (d:Nat)] 3)]) (fun i p=>wr i/\cI u i) (fun i p z l=>p<=l/\l<=s.length/\cI i z/\wr z) (fun _ _=>True) (fun i p z l h hp o=>⟨o.1,o.2.1,o.2.2.2,h.2.trans o.2.2.1⟩) (fun _ _ h=>h) (fun i p h hp=>(sv b r y s d Z (hk O) p c x i hp h.1).mono (fun _ h=>h) (fun v A ⟨u,l,T,U,e,V,C,J⟩=>⟨u,l,⟨T,U,C,J⟩,e,V⟩) (fun v h=>⟨trivial,h⟩)) u p ⟨ku,cI.refl u⟩ hp) (fun w f=>by rw[<-eT b s p c x u] at f;exact f.perm gG.symm) pre rfl rfl (l8.le_refl _) (fun v h=>h.2) ?_;rintro v A ⟨n,i,l,g,X,rfl,rfl⟩;refine I7 (fun w f=>f.perm gG) ?_;rw[eT];obtain⟨i1,i2,D,Q⟩:=sw g;have Y:=D.len;refine Ag (a:=i.y.a) (n:=i.y.l.length) (c:=i.y.c) (sz:=6) (xs:=qI i.y.l) ud ?_;intro _ _ k;replace k:=k qb;refine xF ?_;refine h_ 9 rfl i6 ?_
 first|refine f_ (m9 rfl m rfl qb) ?_|refine f_ (m9 rfl k rfl qb) ?_
 refine E6 [10] ?_;refine h_ 11 rfl i6 ?_;(first|refine gE (W:=[_,_,_]) (i:=i) (a:=u.y.a) (at_:=t.y.l.length) (n:=n) (Bo D M) Q (by have:=uf g;omega) ?_ rfl rfl x4|refine gE (W:=[_,_,_]) (i:=i) (a:=i.y.a) (at_:=t.y.l.length) (n:=n) ⟨[],i.y,i.D,rfl,rfl,by omega⟩ Q (by have:=uf g;omega) ?_ rfl rfl x4);intro j j1 j2 j3 j4 j5;refine E6 [] ?_
 rotate_left 1
 refine x5 [] rfl (nu b s hs 344 [l9 r,l9 y] Gl (pz c) (ny x) (fun i=>wq i++[pB r b,.blk y (.cells #[.int .i64 (d:Nat)] 3)]) (fun i p=>wr i/\cI u i) (fun i p z l=>p<=l/\l<=s.length/\cI i z/\wr z) (fun _ _=>True) (fun i p z l h hp o=>⟨o.1,o.2.1,o.2.2.2,h.2.trans o.2.2.1⟩) (fun _ _ h=>h) (fun i p h hp=>(sv b r y s d Z (hk O) p c x i hp h.1).mono (fun _ h=>h) (fun v A ⟨u,l,T,U,e,V,C,J⟩=>⟨u,l,⟨T,U,C,J⟩,e,V⟩) (fun v h=>⟨trivial,h⟩)) u p ⟨ku,cI.refl u⟩ hp) (fun w f=>by rw[<-eT b s p c x u] at f;exact f.perm gG.symm) pre rfl rfl (l8.le_refl _) (fun v h=>h.2) ?_;rintro v A ⟨n,i,l,g,X,rfl,rfl⟩;refine I7 (fun w f=>f.perm gG) ?_;rw[eT];obtain⟨i1,i2,D,Q⟩:=sw g;have Y:=D.len;refine Ag (a:=i.y.a) (n:=i.y.l.length) (c:=i.y.c) (sz:=6) (xs:=qI i.y.l) ud ?_;intro _ _ k;replace k:=k qb;refine Y9 ?_;refine h_ 4 rfl i6 ?_;refine r_ (by first|exact E_ rfl ud (by rfl)|exact i8 rfl (fun w f=>vg f (by assumption) (by rfl))) ?_;refine xF ?_;refine h_ 9 rfl i6 ?_
 first|refine f_ (m9 rfl m rfl qb) ?_|refine f_ (m9 rfl k rfl qb) ?_
 refine E6 [10] ?_;refine h_ 11 rfl i6 ?_;(first|refine gE (W:=[_,_,_]) (i:=i) (a:=u.y.a) (at_:=t.y.l.length) (n:=n) (Bo D M) Q (by have:=uf g;omega) ?_ rfl rfl x4|refine gE (W:=[_,_,_]) (i:=i) (a:=i.y.a) (at_:=t.y.l.length) (n:=n) ⟨[],i.y,i.D,rfl,rfl,by omega⟩ Q (by have:=uf g;omega) ?_ rfl rfl x4);intro j j1 j2 j3 j4 j5;refine E6 [] ?_
 rotate_left 1
 all_goals (refine w8 ?_)
 all_goals exact m6 rfl _ ⟨j,l,i1,i2,rfl,rfl,(h3.trans D).trans j1,j2⟩ (fun w f=>by rw[eT,j3,j4,j5];exact f.drop.drop)
theorem Hg(b:Nat)(s:Bs)(hs:s.length<=1000000000):∀n a,a<=50->10<=a+n->n<=20->rm 284 b s a/\rm 345 b s a
 |0,a,hd,h,hn=>by
  have c:a<=8->rm 345 b s (a+1):=fun d=>absurd h qb;have hg:=pD b s hs a qb c;exact⟨hg,wv b s hs a qb hg c⟩
 |n+1,a,hd,h,hn=>by
  have c:a<=8->rm 345 b s (a+1):=fun d=>(Hg b s hs n (a+1) qb qb qb).2;have hg:=pD b s hs a qb c;exact⟨hg,wv b s hs a qb hg c⟩
theorem DK(b:Nat)(s:Bs)(hs:s.length<=1000000000)(c:CM)(p:Nat)(hp:p<=s.length):Cx prog 215 [l9 b] Gl [H9 b s p (P6 c) H3] (fun v A=>∃(d:List KY) (p':Nat) (x:CL) (Z:List As),p'<=s.length/\d.length<=32/\(∀k∈d,EQ k)/\v=.tuple #[]/\A=H9 b s p' {P6 c with keys:=d} x::Z/\sr {P6 c with keys:=d} x Z) (fun v=>v=N1):=by
 refine B8 6 func215 rfl rfl rfl ?_;intro F hg;refine r7 ?_;refine n5 (D8 b s [32] p (P6 c) H3 qb hp qp) pre rfl (fun v h=>h.2) ?_;rintro v A ⟨l,f,rfl,rfl⟩;refine w8 ?_;have n:=D0 f x4;refine O8 127 6 ?_;refine r7 ?_;refine x5 [] rfl ((Hg b s hs 9 1 qb qb qb).1 l (P6 c) H3 ⟨⟨[],none,0⟩,[],[]⟩ n.2.2 ⟨by simp,fun m a=>by simp at a,fun m a=>by simp at a⟩) (fun w g=>y4.hp tk g) pre rfl rfl (l8.le_refl _) (fun v h=>h) ?_;rintro v A ⟨u,p',r,o,rfl,rfl,t,i⟩;rw[z7];refine w8 ?_;refine m6 rfl _ ⟨u.y.l.map KM.k,p',ny H3 u,wq u,o,by rw[zh];exact i.len,fun k q=>?_,rfl,rfl,fun h y j=>⟨n9.nil _ _,n9.nil _ _,⟨u.y.l,rfl,A3.rd j .del,fun m a=>?_⟩,n9.nil _ _⟩⟩ fun w g=>g
 ·obtain⟨m,a,rfl⟩:=jv.1 q;exact i.set m a
 ·rcases i.own m a with e|e
  ·rw[e];exact n9.nil _ _
  ·exact dP j (.tail _ (K1 _ e))
def Oe:Nat->FuncId
 |1=>207
 |2=>207
 |3=>207
 |4=>207
 |5=>207
 |6=>208
 |7=>209
 |8=>210
 |9=>210
 |10=>211
 |11=>211
 |12=>212
 |13=>213
 |14=>214
 |15=>215
 |16=>216
 |17=>217
 |18=>218
 |_=>207
abbrev fnV(k:Nat):Value:=if k=0 then .nilFunc else .func (.func (Oe k)) #[] #[]
abbrev Mi(k:Nat):Value:=.tuple #[.agg #[.int .i64 (k:Nat),.bool (decide (15<=k)),fnV k],.bool (decide (k≠0))]
theorem Mj{w:Bs}(h:w∉vB):H7 w=0:=zk h
theorem mq(w:Bs):Pu prog 133 [B w] (fun _=>True) (Mi (H7 w)):=by
 refine b_ 60 func133 rfl rfl rfl ?_;intro F _;refine r7 ?_;intro u;refine xZ ?_ ?_<;>intro k
 ·obtain rfl:=qr k;refine bQ ?_;exact D4 rfl rfl rfl ud rfl [] ⟨by rw[show H7 _=1 from by decide];rfl,rfl⟩ (fun w a=>a.dropAll)
 refine bA ?_ ?_<;>intro l
 ·obtain rfl:=qr l;refine bQ ?_;exact D4 rfl rfl rfl ud rfl [] ⟨by rw[show H7 _=2 from by decide];rfl,rfl⟩ (fun w a=>a.dropAll)
 refine bA ?_ ?_<;>intro m
 ·obtain rfl:=qr m;refine bQ ?_;exact D4 rfl rfl rfl ud rfl [] ⟨by rw[show H7 _=3 from by decide];rfl,rfl⟩ (fun w a=>a.dropAll)
 refine bA ?_ ?_<;>intro n
 ·obtain rfl:=qr n;refine bQ ?_;exact D4 rfl rfl rfl ud rfl [] ⟨by rw[show H7 _=4 from by decide];rfl,rfl⟩ (fun w a=>a.dropAll)
 refine bA ?_ ?_<;>intro o
 ·obtain rfl:=qr o;refine bQ ?_;exact D4 rfl rfl rfl ud rfl [] ⟨by rw[show H7 _=5 from by decide];rfl,rfl⟩ (fun w a=>a.dropAll)
 refine bA ?_ ?_<;>intro p
 ·obtain rfl:=qr p;refine bQ ?_;exact D4 rfl rfl rfl ud rfl [] ⟨by rw[show H7 _=6 from by decide];rfl,rfl⟩ (fun w a=>a.dropAll)
 refine bA ?_ ?_<;>intro q
 ·obtain rfl:=qr q;refine bQ ?_;exact D4 rfl rfl rfl ud rfl [] ⟨by rw[show H7 _=7 from by decide];rfl,rfl⟩ (fun w a=>a.dropAll)
 refine bA ?_ ?_<;>intro r
 ·obtain rfl:=qr r;refine bQ ?_;exact D4 rfl rfl rfl ud rfl [] ⟨by rw[show H7 _=8 from by decide];rfl,rfl⟩ (fun w a=>a.dropAll)
 refine bA ?_ ?_<;>intro s
 ·obtain rfl:=qr s;refine bQ ?_;exact D4 rfl rfl rfl ud rfl [] ⟨by rw[show H7 _=9 from by decide];rfl,rfl⟩ (fun w a=>a.dropAll)
 refine bA ?_ ?_<;>intro b
 ·obtain rfl:=qr b;refine bQ ?_;exact D4 rfl rfl rfl ud rfl [] ⟨by rw[show H7 _=10 from by decide];rfl,rfl⟩ (fun w a=>a.dropAll)
 refine bA ?_ ?_<;>intro c
 ·obtain rfl:=qr c;refine bQ ?_;exact D4 rfl rfl rfl ud rfl [] ⟨by rw[show H7 _=11 from by decide];rfl,rfl⟩ (fun w a=>a.dropAll)
 refine bA ?_ ?_<;>intro d
 ·obtain rfl:=qr d;refine bQ ?_;exact D4 rfl rfl rfl ud rfl [] ⟨by rw[show H7 _=12 from by decide];rfl,rfl⟩ (fun w a=>a.dropAll)
 refine bA ?_ ?_<;>intro e
 ·obtain rfl:=qr e;refine bQ ?_;exact D4 rfl rfl rfl ud rfl [] ⟨by rw[show H7 _=13 from by decide];rfl,rfl⟩ (fun w a=>a.dropAll)
 refine bA ?_ ?_<;>intro f
 ·obtain rfl:=qr f;refine bQ ?_;exact D4 rfl rfl rfl ud rfl [] ⟨by rw[show H7 _=14 from by decide];rfl,rfl⟩ (fun w a=>a.dropAll)
 refine bA ?_ ?_<;>intro g
 ·obtain rfl:=qr g;refine bQ ?_;exact D4 rfl rfl rfl ud rfl [] ⟨by rw[show H7 _=15 from by decide];rfl,rfl⟩ (fun w a=>a.dropAll)
 refine bA ?_ ?_<;>intro h
 ·obtain rfl:=qr h;refine bQ ?_;exact D4 rfl rfl rfl ud rfl [] ⟨by rw[show H7 _=16 from by decide];rfl,rfl⟩ (fun w a=>a.dropAll)
 refine bA ?_ ?_<;>intro i
 ·obtain rfl:=qr i;refine bQ ?_;exact D4 rfl rfl rfl ud rfl [] ⟨by rw[show H7 _=17 from by decide];rfl,rfl⟩ (fun w a=>a.dropAll)
 refine bA ?_ ?_<;>intro j
 ·obtain rfl:=qr j;refine bQ ?_;exact D4 rfl rfl rfl ud rfl [] ⟨by rw[show H7 _=18 from by decide];rfl,rfl⟩ (fun w a=>a.dropAll)
 refine bQ ?_;refine D4 rfl rfl rfl ud rfl [] ⟨?_,rfl⟩ (fun w a=>a.dropAll);rw[Mj (w:=w) ?_]
 ·rfl
 ·intro t;simp only[vB,kw,Jk,Yz] at t;simp only[Zp] at k l m n o p q r s b c d e f g h i j
  simp_all
theorem Hh{c d:UInt8}:decide ([c]=[d])=decide (c=d):=zp.2 x4
theorem Hi:vQ 135 (fun c=>!decide (c=32)):=fun c=>by
 refine b_ 5 func135 rfl rfl rfl ?_;intro F _;refine A1 ?_;refine f_ ((E8 rfl rfl).eq (jy (fun b=>Value.bool (!b)) (Hh (d:=32)))) ?_;refine C5 ?_;exact d_ rfl rfl [] qh i_
theorem Mk:vQ 205 yg:=fun c=>by
 obtain⟨a,f⟩:=o8 (decide (c=43));obtain⟨h,g⟩:=o8 (P3 c);have e:yg c=(!a&&h):=by unfold yg;rw[<-f,<-g,W2]
 rw[e];refine b_ 9 func205 rfl rfl rfl ?_;intro F _
 cases a
 all_goals (
  refine A1 ?_;refine f_ ((E8 rfl rfl).eq (jy (fun b=>Value.bool (!b)) ((Hh (d:=43)).trans f.symm))) ?_;refine A1 ?_;(first|refine u_ ?_|(refine v_ ?_;refine c_ rfl (pd c) qw rfl ?_;rw[<-g]));refine A1 ?_)
 all_goals (refine A4 ?_;exact d_ rfl rfl [] qh i_)
theorem Py(b:Nat)(s:Bs)(hs:s.length<=1000000000):Ct prog 131 [l9 b] (fun _=>True) [H9 b s 0 iw H3] (fun v A=>v=.bool (dT s)/\∃p c,A=[H9 b s p c H3]/\(dT s=true->p=(cF s).length+1/\c=first s)):=by
 have m:(cF s).length<=s.length:=by have:=bN (q:=yg) (s:=s) (p:=0) (zw _);rw[ju] at this;exact this
 obtain⟨a,j⟩:=o8 (decide (cF s=[]));obtain⟨d,l⟩:=o8 (decide (32<(cF s).length));obtain⟨f,i⟩:=o8 (I1 s [32] (cF s).length);have e:dT s=(!a&&!d&&f):=by
  unfold dT;rw[j,l,i];congr 1;congr 1
  ·cases cF s<;>simp
  ·rw[<-decide_not];exact zp.2 qb
 rw[e];refine b_ 23 func131 rfl rfl rfl ?_;intro F _;refine A1 ?_;refine e_ (eR 205 yg Mk b s 0 iw H3 qb (zw _)) qw ?_;rintro v A ⟨rfl,rfl⟩;rw[ju,show N8 yg s 0=cF s from rfl];refine r7 ?_;refine n7 (ι:=Nat) (fun p=>(!a&&!d&&f)=true->p=(cF s).length+1) (fun _=>[(0,l9 b),(3,B (cF s)),(17,.bool (!(!a&&!d&&f)))]) (fun p=>[H9 b s p iw H3]) ?_ ?_
 ·cases a<;>cases d
  all_goals (
   refine r7 ?_;refine f_ ((C8 rfl rfl).eb j) ?_;refine E7 ?_;(first|refine u_ ?_|(refine v_ ?_;refine f_ ((E2 rfl rfl).eq (qn ((qz).trans l.symm))) ?_));refine E7 ?_;(first|refine u_ ?_|(refine v_ ?_;refine e_ (S7 b s [32] (cF s).length iw H3 qb m qp) qw ?_;rintro v A ⟨rfl,rfl⟩;rw[<-i]));refine A1 ?_)
  ·exact g_ _ (fun k=>by
    have k3:f=true:=(by simpa using k);unfold H5;rw[<-i,k3];rfl) i_
  all_goals exact g_ (cF s).length (fun k=>by simp at k) i_
 rintro p hp;refine O0 ?_ ?_<;>intro h
 ·refine C5 ?_;have g:(!a&&!d&&f)=false:=by revert h;cases a<;>cases d<;>cases f<;>simp
  rw[g];exact d_ rfl rfl [H9 b s p iw H3] ⟨rfl,p,iw,rfl,fun k=>by cases k⟩ i_
 ·have g:(!a&&!d&&f)=true:=by revert h;cases a<;>cases d<;>cases f<;>simp
  refine KR ?_;rw[g];exact d_ rfl rfl [H9 b s p (first s) H3] ⟨rfl,p,first s,rfl,fun _=>⟨hp g,rfl⟩⟩ i_
def bB(s:Bs)(c:CM)(p:Nat)(r:Option (CM×Nat)):Prop:=
 if c.kind=15 then r=none\/∃ks e,r=some ({c with keys:=ks},e)/\ks.length<=32/\∀k∈ks,EQ k
 else r=T7 c s p
theorem ke{c:CM}{s:Bs}{p:Nat}(h:c.cond=false):((I_ c s p).map fun q=>({q.1 with cond:=I1 s cg q.2},H5 s cg q.2))=lj c s p:=by
 unfold lj
 cases hn:I_ c s p with
 |none=>rfl
 |some r=>
  obtain⟨w,e,rfl⟩:=cp hn;simp only[Qw];unfold H5
  cases hl:I1 s cg e
  ·simp[h,hl]
  ·simp[hl]
theorem dh{α β:Type}{o:Option α}{f:α->β}{r:β}(h:o.map f=some r):∃q,o=some q/\f q=r:=kx.1 h
abbrev Rh(r:CM×Nat):Prop:=r.1.set=[]/\r.1.a5Q=[]/\r.1.keys=[]/\r.1.a5Y=[]
theorem fS{c:CM}{p:Nat}{r:CM×Nat}(h:some (P6 c,p)=some r):Rh r:=by cases h;exact⟨rfl,rfl,rfl,rfl⟩
theorem yN{c:CM}{s:Bs}{p:Nat}{r:CM×Nat}(h:((H_ s Au p).map fun e=>(P6 c,e))=some r):Rh r:=by
 obtain⟨q,_,rfl⟩:=dh h;exact⟨rfl,rfl,rfl,rfl⟩
theorem DM{c:CM}{s:Bs}{p:Nat}{r:CM×Nat}(h:dx (P6 c) s p=some r):Rh r:=by
 unfold dx at h;obtain⟨q,_,a⟩:=zc.1 h;obtain⟨t,_,rfl⟩:=dh a;exact⟨rfl,rfl,rfl,rfl⟩
theorem lz{c:CM}{s:Bs}{p:Nat}{r:CM×Nat}(h:I_ (P6 c) s p=some r):Rh r:=by
 obtain⟨w,e,rfl⟩:=cp h;exact⟨rfl,rfl,rfl,rfl⟩
theorem sx{c:CM}{s:Bs}{p:Nat}{r:CM×Nat}(h:lj (P6 c) s p=some r):Rh r:=by
 unfold lj at h;obtain⟨q,a,rfl⟩:=dh h;have:=lz a;split<;>exact this
theorem Hj{c:CM}{s:Bs}{p:Nat}{r:CM×Nat}(h:jA (P6 c) s p=some r):Rh r:=by
 unfold jA at h;obtain⟨q,_,a⟩:=zc.1 h;split at a
 ·obtain⟨t,_,rfl⟩:=dh a;exact⟨rfl,rfl,rfl,rfl⟩
 ·cases a;exact⟨rfl,rfl,rfl,rfl⟩
abbrev W_(f:FuncId)(b:Nat)(s:Bs)(c:CM)(p:Nat):Prop:=Cx prog f [l9 b] Gl [H9 b s p (P6 c) H3] (fun v A=>∃r x Z,bB s (P6 c) p (some r)/\v=.tuple #[]/\A=H9 b s r.2 r.1 x::Z/\sr r.1 x Z) (fun v=>bB s (P6 c) p none/\v=N1)
theorem W_.of_m{f:FuncId}{b:Nat}{s:Bs}{a:CM->Nat->Option (CM×Nat)}(h:su f b s a){c:CM}{p:Nat}(hp:p<=s.length)(d:c.kind≠15)(e:a (P6 c) p=T7 (P6 c) s p):W_ f b s c p:=
 (h c p hp).mono (fun _ h=>h) (fun v A ⟨r,x,Z,g,i,j,k⟩=>⟨r,x,Z,by unfold bB;rw[zk d,<-e];exact g.symm,i,j,k⟩) (fun v h=>⟨by unfold bB;rw[zk d,<-e];exact h.1.symm,h.2⟩)
theorem Ml(b:Nat)(s:Bs)(hs:s.length<=1000000000)(c:CM)(p:Nat)(hp:p<=s.length)(l:1<=c.kind)(d:c.kind<=18):W_ (Oe c.kind) b s c p:=by
 by_cases h15:c.kind=15
 ·rw[h15];show W_ 215 b s c p;exact(DK b s hs c p hp).mono (fun _ h=>h) (fun v A ⟨e,f,x,Z,m,i,a3,a4,a5,j⟩=>⟨({P6 c with keys:=e},f),x,Z,by unfold bB;rw[zg h15];exact .inr ⟨e,f,rfl,i,a3⟩,a4,a5,j⟩) (fun v h=>⟨by unfold bB;rw[zg h15];exact .inl rfl,h⟩)
 obtain⟨k,a⟩:∃k,c.kind=k:=⟨_,rfl⟩;have g:k<=18:=a▸d;rw[a]
 match k,a,g with
 |0,a,_=>omega
 |1,a,_=>exact W_.of_m (su.of_x (co b s) fun c p r h=>fS h) hp h15 ((by simp[T7,a]))
 |2,a,_=>exact W_.of_m (su.of_x (co b s) fun c p r h=>fS h) hp h15 ((by simp[T7,a]))
 |3,a,_=>exact W_.of_m (su.of_x (co b s) fun c p r h=>fS h) hp h15 ((by simp[T7,a]))
 |4,a,_=>exact W_.of_m (su.of_x (co b s) fun c p r h=>fS h) hp h15 ((by simp[T7,a]))
 |5,a,_=>exact W_.of_m (su.of_x (co b s) fun c p r h=>fS h) hp h15 ((by simp[T7,a]))
 |6,a,_=>exact W_.of_m (su.of_x (Dz b s hs) fun c p r h=>yN h) hp h15 ((by simp[T7,a]))
 |7,a,_=>exact W_.of_m (su.of_x (GU b s hs) fun c p r h=>DM h) hp h15 ((by simp[T7,a]))
 |8,a,_=>exact W_.of_m (su.of_x (wj b s hs) fun c p r h=>sx ((ke rfl).symm.trans h)) hp h15 ((ke rfl).trans (by simp[T7,a]))
 |9,a,_=>exact W_.of_m (su.of_x (wj b s hs) fun c p r h=>sx ((ke rfl).symm.trans h)) hp h15 ((ke rfl).trans (by simp[T7,a]))
 |10,a,_=>exact W_.of_m (su.of_x (ed b s hs) fun c p r h=>lz h) hp h15 ((by simp[T7,a]))
 |11,a,_=>exact W_.of_m (su.of_x (ed b s hs) fun c p r h=>lz h) hp h15 ((by simp[T7,a]))
 |12,a,_=>exact W_.of_m (su.of_x (GV b s hs) fun c p r h=>Hj h) hp h15 ((by simp[T7,a]))
 |13,a,_=>exact W_.of_m (DG b s hs) hp h15 ((by simp[T7,a]))
 |14,a,_=>exact W_.of_m (DI b s hs) hp h15 ((by simp[T7,a]))
 |15,a,_=>exact absurd a h15
 |16,a,_=>exact W_.of_m (Hc b s hs) hp h15 ((by simp[T7,a]))
 |17,a,_=>exact W_.of_m (GZ b s hs) hp h15 ((by simp[T7,a]))
 |18,a,_=>exact W_.of_m (DH b s hs) hp h15 ((by simp[T7,a]))
 |k+19,a,g=>omega
end Go.Proofs.YtmcepdopookilaaGreatDoor.Rp
namespace Go.Sl
open Go Go.RowKit Go.Proofs.Tryz
section
variable{P:Program}{Q:Exit->Act->World->Prop}
theorem pF{ops:Array Oper}(ds:List Deferred):∀(l:List Oper) (a:Act) (w:World),wpList P ops Q l a w->wpList P ops (shQ ds Q) l (qT ds a) w
 |[],a,w,h=>⟨a,rfl,h⟩
 |o::rest,a,w,h=>by
  have b:∀a w,wpList P ops Q rest a w->wpList P ops (shQ ds Q) rest (qT ds a) w:=fun a w h=>pF ds rest a w h;have s:(qT ds a).tmps=a.tmps:=rfl;have m:(qT ds a).eval=a.eval:=by funext x;cases x<;>rfl
  unfold wpList at h⊢;rw[s];split
  ·rename_i g;simp only[g,if_true] at h;rcases h with h|⟨h,⟨i,j,t⟩⟩
   ·left;unfold Oper.wp at*;rw[m];generalize (execOp a.eval o).run P w=r at*
    cases r with
    |ok n w'=>
     cases n<;>simp only[Oper.upon] at*
     case value v=>rw[gj];exact b _ _ h
     case skip=>rw[gj];exact b _ _ h
     case defer d=>have p:=b _ _ h;rw[<-gj] at p;exact p
     case enter f args=>
      refine h.mono (fun e k q=>?_)
      cases e with
      |returned v=>simp only at q⊢;rw[gj];exact b _ _ q
      |panicked c=>exact⟨_,rfl,q⟩
      |outgrown=>obtain⟨i,j,q⟩:=q;exact⟨_,j,i,rfl,q⟩
     case row row args=>exact h.mono (fun v k q=>by rw[gj];exact b _ _ q)
    |halt x w'=>cases x<;>simp only[Oper.upon] at* <;>first|exact h.elim|exact⟨_,rfl,h⟩
   ·right;refine⟨?_,⟨_,j,i,rfl,t⟩⟩;unfold Oper.asks at*;rw[m];exact h
  ·rename_i g;simp only[g] at h;rw[gj];exact b _ _ h
theorem ug{N:Nat}{id:Nat}{l:List Oper}{K Kp R:y7}{L:G0}{F:l8}{H:List As}(ds:List Deferred)(h:GL P N l.toArray l K [(1,Kp)] R L F H)(c:∀a w,K a w->Q .normal (qT ds a) w)(hp:∀(a:Act) (w:World) (v:Value),Kp ⟨a.tmps.push v,a.defers⟩ w->Q (.panic [{v:=v,recovered:=false}]) (qT ds a) w)(d:∀a w,R a w->Q .ret (qT ds a) w){a:Act}{w:World}(hf:G5 N L a)(f:Hp F w H):(Code.region id l.toArray false).wp P Q (qT ds a) w:=by
 unfold GL at h;refine Code.wp_mono ?_ (wp_region_lit (pF ds _ _ _ (h a w hf f)));rintro e g i ⟨j,rfl,q⟩
 cases e with
 |normal=>exact c _ _ q
 |ret=>exact d _ _ q
 |exit id=>simp[MQ,List.lookup] at q
 |goto l=>exact q.elim
 |panic ch=>
  rcases q with⟨k,v,b,_⟩|⟨k,v,b,rfl,q⟩
  ·cases b
  ·injection b with b;subst b;exact hp _ _ _ q
 |outgrown=>exact q.elim
end
def Mm(N:Nat)(L:G0)(F:l8)(Hr:List As)(Pq:Value->Prop):y7:=fun a w=>∃tm v,a.tmps=tm.push v/\a.defers=[]/\G5 N L ⟨tm,[]⟩/\Hp F w Hr/\Pq v
section
variable{P:Program}{N:Nat}{K R:y7}{E:List (Nat×y7)}{L L':G0}{F:l8}{H Hr:List As}{ops:Array Oper}{rest:List Oper}{ty:TypeId}{pos:String}{af:Array Edge}{Pq Pq':Value->Prop}
theorem pG{o:Oper}{d:Nat}{f:FuncId}{vs:List Value}{j:l_->Prop}{C Rr:List As}{i:Value->List As->Prop}(hg:o.guard=none)(r:o.dst=some d)(O:Nat.blt d N=true)(s:∀ρ w,Fb L ρ->(execOp ρ o).run P w=.ok (.enter f vs.toArray) w)(hc:Cx P f vs j C i Pq)(hH:∀w,Hp F w H->Hp F w (C++Rr))(t:∀h,l_.le F.heap h->(∃bs,A3 h Rr bs)->j h)(Q:E.lookup 1=some (Mm N L' F Hr Pq'))(z:fv L' L)(S:∀w,Hp F w Rr->Hp F w Hr)(D:∀v,Pq v->Pq' v)(h:∀v A,i v A->GL P N ops rest K E R ((d,v)::L) F (A++Rr)):GL P N ops (o::rest) K E R L F H:=by
 unfold GL at h⊢;intro a w hf T;have g:=hH w T;obtain⟨bs,hs,x,k⟩:=g.own;obtain⟨y,U,e,l,m⟩:=A3.split hs;subst e;have n:j (E5 w y):=by
  refine t _ (fun b V p=>?_) ⟨U,A3.same m fun b J=>?_⟩
  ·have X:=g.keep b V p;have M:b∉y:=fun J=>(by rw[k b (by simp[J])] at p;cases p);simpa[E5,M,hp] using X
  ·have M:b∉y:=fun hc=>(j7.1 x).2.2 b hc b J rfl;simp[E5,M,hp]
 refine wpList_plain hg fun K' Y=>?_;unfold Oper.wp;rw[s _ w hf.agr,Oper.upon_enter];refine(hc w y l (j7.1 x).1 n).mono ?_;rintro e w' (⟨v,A,rfl,q,c⟩|⟨v,rfl,Z,c⟩)
 ·rw[r];exact Y _ _ (h v A q _ _ (hf.put O v) (g.back l m x k c))
 ·have u:=hf.sub z;exact .inr ⟨_,v,Q,rfl,a.tmps,v,rfl,hf.defers,⟨rfl,u.size,u.at_⟩,S _ (g.back l m x k c),D v Z⟩
theorem DN{d:Nat}{f:FuncId}{args:List Operand}{e:Array TypeId}{vs:List Value}{b:l_->Prop}{C:List As}{a:Value->List As->Prop}[HF P f](Rr:List As)(hx:rz L args=some vs)(hc:Cx P f vs b C a Pq)(hH:∀w,Hp F w H->Hp F w (C++Rr))(c:∀h,l_.le F.heap h->(∃bs,A3 h Rr bs)->b h)(j:Nat.blt d N=true)(k:E.lookup 1=some (Mm N L' F Hr Pq'))(g:fv L' L)(l:∀w,Hp F w Rr->Hp F w Hr)(i:∀v,Pq v->Pq' v)(h:∀v A,a v A->GL P N ops rest K E R ((d,v)::L) F (A++Rr)):GL P N ops (⟨some d,.call ⟨.value (.func f),args.toArray,e⟩,ty,pos,af,none⟩::rest) K E R L F H:=
 pG rfl rfl j (fun ρ w hf=>aU hx hf w) hc hH c k g l i h
theorem yO{d:Nat}{x:Operand}{f:FuncId}{args:List Operand}{i:Array TypeId}{vs ps qs b:List Value}{c:l_->Prop}{C:List As}{a:Value->List As->Prop}[hF:HF P f](Rr:List As)(hv:ev L x=some (.func (.func f) ps.toArray qs.toArray))(hx:rz L args=some vs)(e:ps++vs++qs=b)(hc:Cx P f b c C a Pq)(hH:∀w,Hp F w H->Hp F w (C++Rr))(g:∀h,l_.le F.heap h->(∃bs,A3 h Rr bs)->c h)(l:Nat.blt d N=true)(m:E.lookup 1=some (Mm N L' F Hr Pq'))(j:fv L' L)(n:∀w,Hp F w Rr->Hp F w Hr)(k:∀v,Pq v->Pq' v)(h:∀v A,a v A->GL P N ops rest K E R ((d,v)::L) F (A++Rr)):GL P N ops (⟨some d,.call ⟨.value x,args.toArray,i⟩,ty,pos,af,none⟩::rest) K E R L F H:=
 pG rfl rfl l (fun ρ w hf=>by
  have o:=hf _ _ hv;have p:=aT hf hx;subst e;simp only[execOp,resolve,o,Deferred.ofValue,Zv,p,Sem.run_bind,Sem.run_pure,Result.andThen_ok,invoke];have:(ps.toArray++vs.toArray++qs.toArray:Array Value)=(ps++vs++qs).toArray:=by simp
  rw[this];exact hF.h _ w) hc hH g m j n k h
end
end Go.Sl
namespace Go.Proofs.YtmcepdopookilaaGreatDoor.Rp
open Go Go.Sl Go.RowKit Go.Proofs.Tryz
abbrev ES(g:Nat)(ra:Option Addr)(pre:List Nat)(rc:Nat)(Z:List As):List As:=.blk g (.cells #[.slice ra pre.length rc] 37)::U3 ra pre rc::Z
theorem Bp{g rc:Nat}{ra:Option Addr}{pre:List Nat}{Z:List As}(hz:Z.all As.isC=true):(ES g ra pre rc Z).all As.isC=true:=by show(true&&(true&&Z.all As.isC))=true;rw[hz];rfl
def Mo(ms:List KV)(v:Value)(A:List As):Prop:=∃a l c,v=.slice a l.length c/\A=[U3 a l c]/\Dy ms l
theorem pH{W a:World}(h:KeepsFrom 0 W a):KeepsWalks W a:=⟨h.size,fun k o b c=>h.same k o (zw _) b (by cases o<;>first|rfl|cases c)⟩
theorem yP(U V cs:Nat)(es:Array MapEntry)(X:List KV)(hm:N7 (.int .u64) es cs X)(hk:∀kv∈X,Pt kv)(hl:X.length<=1000000000):
  Ct prog 433 [.slice none 0 0,.func (.func 422) #[] #[l9 V]] (fun h=>h U=some (.map es cs)/\h V=some (.cells #[.map (some U)] 406 (0,0))) [] (Mo X):=by
 intro Y y hs u8 J;have q5:y=[]:=hs;subst q5;rw[N3] at J;refine(callsIn_wide (n:=5)).1 (callsIn_of_wp_marks func433 rfl trivial ?_ rfl);have q6:(Z_ Y).heap U=some (.map es cs):=by rw[M1];exact J.1
 have q7:(Z_ Y).heap V=some (.cells #[.map (some U)] 406 (0,0)):=by rw[M1];exact J.2
 refine(?_:GN none 5 prog 13 _ _ (aw 0 [.slice none 0 0,.func (.func 422) #[] #[l9 V]]) (Z_ Y) []) _ _ (T3 13 _ rfl) (ab Y);refine M5 ?_;refine I9 ?_;refine C7 ?_;refine L5 rfl rfl rfl ?_;intro i;refine r7 ?_;refine O_ ?_;refine M5 ?_;refine M5 ?_;refine I9 ?_;refine I8 1 ?_;refine O_ ?_;refine aV ?_;intro a C q8 j;have z:=q8.sub (L':=[(2,l9 i),(6,.func (.func 422) #[] #[l9 V])]) sub;obtain⟨F1,h8⟩:=o8 (r8 C [i]);have q9:C.heap[i]? =some (.cells #[.slice none 0 0] 37):=j.blk ud;have x0:Hp F1 C (ES i none [] 0 []):=by
  have h1:Hp (r8 C [i]) C [.blk i (.cells #[.slice none 0 0] 37)]:=Hp.start ⟨[i],[],rfl,⟨rfl,q9⟩,rfl⟩ x4;rw[h8];exact(h1.addNil 27 1).perm (.swap _ _ _)
 have h0:∀b,(F1.heap b).isSome=true->b<C.heap.size:=by rw[h8];exact Fk
 have Q:∀T A,Hp F1 T A->Hp (Z_ Y) T A:=fun T A k=>by
  rw[h8] at k;refine⟨k.os.trans j.os,k.tape.trans j.tape,k.output.trans j.output,fun b o t=>k.keep b o ?_,?_⟩
  ·have h1:=j.keep b o t;obtain⟨y,hs,_,hf⟩:=j.own;obtain⟨b1,b2,e,⟨e1,_⟩,_⟩:=hs;have h2:b≠i:=(by rintro rfl;have:=hf b (by rw[e,e1];simp);rw[this] at t;cases t);show E5 C [i] b=_;simp[E5,h2];exact h1
  ·obtain⟨y,hs,hn,hf⟩:=k.own;refine⟨y,hs,hn,fun b t=>?_⟩;have h1:=hf b t
   cases h2:(Z_ Y).heap b with
   |none=>rfl
   |some o=>
    have h3:=j.keep b o h2;have h4:E5 C [i] b=none:=h1;unfold E5 at h4;split at h4
    ·rename_i h5;obtain⟨y,hs,_,h9⟩:=j.own;obtain⟨b1,b2,e,⟨e1,_⟩,_⟩:=hs;simp at h5;subst h5;have:=h9 b (by rw[e,e1];simp);rw[this] at h2;cases h2
    ·exact absurd (h4.symm.trans h3) x4
 have x1:C.heap[U]? =some (.map es cs):=j.keep U _ q6;have x2:C.heap[V]? =some (.cells #[.map (some U)] 406 (0,0)):=j.keep V _ q7;refine wpIn_rangeFunc_ownH (F:=Fence.wide) (encs:=Ps) (Kp:=KeepsWalks) (S:=Dy X) (Sp:=fun _=>True) (N:=X.length) (w0:=C) rfl qp (z.eval (x:=.tmp 6) rfl) trivial (fun h7 w=>(inferInstance:HF prog 422).h h7 w) (wi U V cs es X hm hk C x1 x2 4) (fun h k=>walksK_t h k) (fun W l o o' hl x3 hc hw=>walksK_b W l o o' hl x3 hc hw) (Below.refl _ C) (fun x=>rfl)
  (fun pre W=>∃p q Z,Z.all As.isC=true/\Hp F1 W (ES i p pre q Z)) (fun _ _ _=>False)
  (fun s W T k0 hs hg hr=>by obtain⟨p,q,Z,hz,h⟩:=hs;exact⟨p,q,Z,hz,ae h (Bp hz) h0 hg hr⟩)
  (fun c s W T k0 hs hg hr=>hs) ⟨none,0,[],rfl,x0⟩
  (fun x a' W=>G5 13 [(5,.int .u64 (x:Nat)),(2,l9 i)] a') (fun x a' s W T k0 hs hg hr=>hs) ?_ ?_ ?_ ?_
 ·intro l pre x W K hI hK;obtain⟨p,q,Z,hz,hW⟩:=hI;have hc:(ES i p pre q Z).all As.isC=true:=Bp hz;obtain⟨y,hs,M,f⟩:=fC hW;have x9:G5 13 [(7,.int .u64 (x:Nat)),(2,l9 i)] {tmps:=a.tmps.setIfInBounds 7 (.int .u64 (x:Nat)),defers:=[]}:=by
   have h1:=(z.put (d:=7) rfl (.int .u64 (x:Nat))).sub (L':=[(7,.int .u64 (x:Nat)),(2,l9 i)]) sub;exact⟨rfl,h1.size,h1.at_⟩
  refine(?_:GN (some l) 3 prog 13 _ _ [(7,.int .u64 (x:Nat)),(2,l9 i)] (r8 W y) (ES i p pre q Z)) _ W (by simpa[Ps] using x9) M;refine dI (.inr (by intro o ho c;simp at ho;rcases ho with rfl;simp)) ?_;refine f_ oF ?_;refine F8 ?_;unfold At;intro a' T y0 k8;have u:∀B,KeepsFrom B W T:=iZ hs hc k8 (fun b t=>by rw[hs.blks] at t;exact t);exact hK a' T (u _) (pH (u 0)) ⟨p,q,Z,hz,f _ _ k8⟩ (y0.sub sub)
 ·intro l pre x a' W v0 u1 hI hA u2;obtain⟨p,q,Z,hz,hW⟩:=hI;have hc:(ES i p pre q Z).all As.isC=true:=Bp hz;obtain⟨y,hs,M,f⟩:=fC hW;have k9:∀b∈y,b=i\/b∈(U3 p pre q).blks\/b∈Z.flatMap As.blks:=fun b t=>by
   rw[hs.blks] at t;simpa[ES,As.blks] using t
  refine(?_:GN (some l) 3 prog 13 _ _ [(5,.int .u64 (x:Nat)),(2,l9 i)] (r8 W y) (ES i p pre q Z)) a' W hA M;refine aV ?_;refine dI (.inr (by intro o ho c;simp at ho;rcases ho with rfl|rfl|rfl|rfl|rfl<;>simp)) ?_;refine r_ oR ?_;refine f_ oF ?_;refine gC (n:=x) ?_;intro q0;by_cases hroom:pre.length+1<=q
  ·refine fy (n:=pre.length) (m:=1) (xs:=nV pre) (news:=nV [x]) (e:=27) (sz:=1) rfl rfl uh (fun w hw=>(hw.ownN ud).2.2.1) rfl rfl (iv _) hroom rfl ?_;refine bZ rfl rfl uh pa rfl rfl ?_;refine F8 ?_;unfold At;intro a2 w2 h9 O
   change _/\_/\_
   have u:∀B,KeepsFrom B W w2:=iZ hs hc O (fun b t=>by
    simp only[Qm,zb];rcases k9 b t with rfl|h|h
    ·exact .inr (.inl (by simp[As.blks]))
    ·exact .inr (.inr (.inl (by cases p<;>exact h)))
    ·exact .inr (.inr (.inr h)))
   refine⟨u _,pH (u 0),p,q,U3 q0 [x] 1::Z,by show(true&&Z.all As.isC)=true;rw[hz];rfl,?_⟩;unfold ES U3;rw[zz,aB];exact((f _ _ O).perm (List.Perm.trans (.swap _ _ _) (.cons _ (.swap _ _ _))))
  ·refine fE (n:=pre.length) (m:=1) (xs:=nV pre) (news:=nV [x]) (e:=27) (sz:=1) rfl rfl ud (fun w hw=>(hw.ownN ud).2.2.1) rfl rfl rfl (by show(pre.length+1)*8<=_;omega) qb hroom qp rfl ?_;intro g c2 v1;refine bZ rfl rfl uh pa rfl rfl ?_;refine F8 ?_;unfold At;intro a2 w2 h9 O
   change _/\_/\_
   have u:∀B,KeepsFrom B W w2:=iZ hs hc O (fun b t=>by
    simp only[Qm,zb];rcases k9 b t with rfl|h|h
    ·exact .inr (.inr (.inl (by simp[As.blks])))
    ·exact .inr (.inr (.inr (.inl h)))
    ·exact .inr (.inr (.inr (.inr h))))
   refine⟨u _,pH (u 0),some ⟨g,0,none⟩,c2,U3 q0 [x] 1::U3 p pre q::Z,by show(true&&(true&&Z.all As.isC))=true;rw[hz];rfl,?_⟩;unfold ES U3;rw[zz,aB];exact((f _ _ O).perm (List.Perm.trans (.cons _ (.swap _ _ _)) (List.Perm.trans (.swap _ _ _) (.refl _))))
 ·intro D xs W hD y1 hI hK;obtain⟨p,q,Z,hz,hW⟩:=hI;have hc:(ES i p xs q Z).all As.isC=true:=Bp hz;obtain⟨y,hs,M,f⟩:=fC hW;have y2:D∉y:=fun t=>by
   obtain⟨o,h5,h6⟩:=hs.cells hc D t;have q1:W.heap[D]? =some o:=h5;rw[hK] at q1;cases q1;cases h6
  have y3:(r8 W y).heap D=some (.deferred (some [])):=by simp[r8,E5,y2,hK]
  rw[ja z _];refine wpIn_seq ?_;refine(wpIn_wide (n:=5)).2 (ug (K:=fun a' w'=>G5 13 [(4,.slice p xs.length q)] a'/\Hp (r8 W y) w' (ES i p xs q Z)) (Kp:=fun _ _=>False) (R:=fun _ _=>False) [_] ?_ ?_ (fun _ _ _ h=>h.elim) (fun _ _ h=>h.elim) (z.sub (L':=[(2,l9 i)]) sub) M)
  ·refine r_ oR ?_;refine f_ oF ?_;refine F8 ?_;exact p9 sub i_
  ·rintro a9 w9 ⟨q2,q3⟩;have q4:w9.heap[D]? =some (.deferred (some [])):=q3.keep D _ y3;have z0:=ae (f _ _ q3) hc h0 (grownBy_putObj' w9 D (.deferred none)) (fun r e=>by cases e;exact⟨hD,_,q4,rfl⟩);refine wpIn_ret ?_;have t:=(fD (n:=5) (P:=prog) (fn:=Tryz.f433) (R:=fun e w'=>∃v A,e=.returned v/\Mo X v A/\Hp (r8 Y []) w' A) (a:=qT [{target:=.collected D,args:=#[]}] a9) (w:=w9) (D:=D) (ds:=[]) (by show a9.defers++_=_;rw[q2.defers];rfl) rfl q4 ⟨_,results_tmp rfl _ _ _,_,[U3 p xs q],rfl,⟨p,xs,q,by rw[show(qT _ a9).tmps.getD 4 undef=.slice p xs.length q from q2.eval (x:=.tmp 4) rfl],rfl,y1⟩,(Q _ _ z0).drop.left (A:=[_])⟩).2;exact t
 ·intro D c pre W hD z2 u0 hK;exact u0.elim
abbrev SU(g m:Nat):As:=.blk g (.cells #[.map (some m)] 406)
abbrev Hl(g:Nat):Value:=.func (.func 422) #[] #[l9 g]
theorem Hm(m:Nat):Ct prog 399 [.map (some m)] (fun _=>True) [] (fun v A=>∃g,v=Hl g/\A=[SU g m]):=by
 refine b_ 4 func399 rfl rfl rfl ?_;intro F _;refine C7 ?_;refine L5 rfl rfl rfl ?_;intro a;refine bQ ?_;exact d_ rfl rfl _ ⟨a,rfl,rfl⟩ (fun _ h=>h)
section
variable(mb Bm cs:Nat)(es:Array MapEntry)(ms:List KV)(hm:N7 (.int .u64) es cs ms)(hk:∀kv∈ms,Pt kv)(hl:ms.length<=1000000000)
include hm hk hl
theorem Hn:Ct prog 420 [Hl Bm] (fun h=>h mb=some (.map es cs)/\h Bm=some (.cells #[.map (some mb)] 406 (0,0))) [] (Mo ms):=by
 refine b_ 5 func420 rfl rfl rfl ?_;rintro F ⟨d,e⟩;refine A1 ?_;refine e_ (yP mb Bm cs es ms hm hk hl) (fun h b _=>⟨b _ _ d,b _ _ e⟩) ?_;rintro v A ⟨a,l,c,rfl,rfl,hg⟩;refine C5 ?_;exact d_ rfl rfl _ ⟨a,l,c,rfl,rfl,hg⟩ (fun _ h=>h)
theorem yQ:Ct prog 398 [Hl Bm] (fun h=>h mb=some (.map es cs)/\h Bm=some (.cells #[.map (some mb)] 406 (0,0))) [] (Mo ms):=by
 refine b_ 9 func398 rfl rfl rfl ?_;rintro F ⟨d,e⟩;refine A1 ?_;refine e_ (Hn mb Bm cs es ms hm hk hl) (fun h b _=>⟨b _ _ d,b _ _ e⟩) ?_;rintro v A ⟨a,l,c,rfl,rfl,hg⟩;refine A1 ?_;refine e_ (GS a l.length c (by have:=hg.1;omega) l rfl) qw ?_;rintro v A ⟨rfl,f,hs,rfl⟩;refine L7 ?_;exact d_ rfl rfl _ ⟨a,f,c,by rw[hs.len],by unfold U3;rw[hs.len];rfl,by rw[Dy,hs.len];exact⟨hg.1,fun x g=>hg.2 x (hs.sub x g)⟩⟩ (fun _ h=>h)
end
theorem ui{F:l8}{w:World}{H:List As}{a:Option Addr}{l:List Nat}(b:Hp F w H)(r:n9 F.heap a (nV l)){q i:Nat}(h:q=i)(c:i<l.length):M0 (hp w) (N0 a q) [.int .u64 (l.getD i 0:Nat)]:=
 mW b r x4 fun j u hu=>by
  match j,hu with
  |0,hu=>
   simp at hu;subst hu h;simp[nV,c]
theorem Y5{h:l_}{a:Option Addr}{l:List Nat}{i:Nat}(r:n9 h a (nV l))(c:i<l.length):∃b,a=some b:=by
 obtain⟨b,e,_⟩:=r (by intro e;have:=jy List.length e;rw[tu] at this;simp at this;subst this;simp at c);exact⟨b,e⟩
theorem wx{l:List Nat}{k:Nat}(a:k<l.length):l.getD k 0∈l:=by
 rw[zd,zj a];exact zy a
abbrev Mp(n:Nat)(ms:List KV):Prop:=(∀kv∈ms,Pt kv/\∃k:Int,kv.2=.int .i64 k/\0<=k/\k<=n)/\ms.length<=n
theorem pI(a:List KV)(k:Value):∃o,OH a k o:=by
 by_cases h:∃v,(k,v)∈a
 ·obtain⟨v,h⟩:=h;exact⟨some v,h⟩
 ·exact⟨none,fun v b=>h ⟨v,b⟩⟩
abbrev Ho(r:Nat×Nat):Prop:=Dx r.1/\Dx r.2
def SV(n:Nat)(v:Value)(A:List As):Prop:=∃a l c,v=.slice a l.length c/\A=[V2 a l c]/\l.length<=n/\∀r∈l,Ho r
theorem Mq(p:List Nat)(oa:Option Addr)(oc:Nat)(k9:∀x∈p,x<18446744073709551616)(hl:p.length<=1000000):Ct prog 352 [.slice oa p.length oc] (fun h=>n9 h oa (nV p)) [] (SV p.length):=by
 refine b_ 61 func352 rfl rfl rfl ?_;intro F h8;refine xG ?_;refine ol rfl ?_;intro y;refine r7 ?_;refine I8 3 ?_;refine n7 (ι:=Array MapEntry×Nat×List KV) (fun i=>N7 (.int .u64) i.1 i.2.1 i.2.2/\Mp p.length i.2.2) (fun _=>[(2,.slice none 0 0),(3,.map (some y))]) (fun i=>[.blk y (.map i.1 i.2.1)]) ?_ ?_
 ·refine n8 ?_;refine gD (fun(j:Nat) (S:Array MapEntry) (T:Nat) (M:List KV) (_ _:Unit)=>j<=p.length/\N7 (.int .u64) S T M/\Mp j M) (fun j _ _ _ _ _=>[(2,.slice none 0 0),(3,.map (some y)),(11,.slice oa p.length oc),(12,.int .i64 (p.length:Nat)),(13,.int .i64 (j:Nat))]) (fun _ S T _ _ _=>[.blk y (.map S T)]) (fun j _ _ _ _ _=>p.length-j) 0 #[] 0 [] () () ⟨zw _,N7.empty _ _,qy,zr _⟩ sub i_ ?_;rintro j S T M _ _ ⟨hj,hm,hc⟩;refine R7 ?_ ?_<;>intro h
  ·have z:j<p.length:=(by have:=qr h;omega);have D:=Y5 h8 z;refine r7 ?_;refine r_ (i8 rfl (fun w O=>ui O h8 (i:=j) x4 z)) ?_;refine E7 ?_;refine n7 (ι:=Array MapEntry×Nat×List KV) (fun i=>N7 (.int .u64) i.1 i.2.1 i.2.2/\Mp (j+1) i.2.2) (fun _=>[(2,.slice none 0 0),(3,.map (some y)),(11,.slice oa p.length oc),(12,.int .i64 (p.length:Nat)),(13,.int .i64 (j:Nat))]) (fun i=>[.blk y (.map i.1 i.2.1)]) ?_ ?_
   ·refine o9 rfl ?_ ?_<;>intro h
    ·have h9:0<p.getD j 0:=(by have:=qr h;omega);have q0:p.getD j 0<18446744073709551616:=k9 _ (wx z);obtain⟨o,hg⟩:=pI M (.int .u64 (p.getD j 0:Nat));obtain⟨k,ek,q3,q4⟩:∃k:Int,o.getD (.int .i64 0)=.int .i64 k/\0<=k/\k<=j:=by
      cases o with
      |none=>exact⟨0,rfl,by omega,by omega⟩
      |some v=>obtain⟨_,k,e,U,Q⟩:=hc.1 _ hg;exact⟨k,e,U,Q⟩
     refine A1 ?_;refine r_ ((Fp (key:=.int .u64 (p.getD j 0:Nat)) (o:=o) (zv:=.int .i64 0) (c:=false) rfl rfl .del hm rfl hg).eq (v':=.int .i64 k) ek) ?_;refine r7 ?_;refine CF rfl rfl rfl hm rfl (fun V X=>.here) ?_;intro V X k0;refine w8 ?_;have PN:∃J,Fm M (.int .u64 (p.getD j 0:Nat)) (.int .i64 (k+1)) J/\Mp (j+1) J:=by
      have k8:Pt (.int .u64 (p.getD j 0:Nat),.int .i64 (k+1))/\∃q:Int,Value.int .i64 (k+1)=.int .i64 q/\0<=q/\q<=(j+1:Nat):=⟨⟨_,⟨h9,q0⟩,rfl⟩,k+1,rfl,by omega,by omega⟩
      cases o with
      |none=>
       refine⟨_,.inl ⟨hg,.refl _⟩,fun Y f=>?_,by rw[zx];have:=hc.2;omega⟩;rcases kw.1 f with rfl|f
       ·exact k8
       ·obtain⟨U,q,Q,h3,h4⟩:=hc.1 Y f;exact⟨U,q,Q,h3,by omega⟩
      |some v=>
       obtain⟨r1,r2,e⟩:=Wp hg;have hp:M.Perm ((.int .u64 (p.getD j 0:Nat),v)::(r1++r2)):=(by rw[e];exact Qd);refine⟨_,.inr ⟨v,r1++r2,hp,.refl _⟩,fun Y f=>?_,by have:=hp.length_eq;have:=hc.2;rw[zx] at*;omega⟩;rcases kw.1 f with rfl|f
       ·exact k8
       ·obtain⟨U,q,Q,h3,h4⟩:=hc.1 Y (hp.mem_iff.2 (jw _ f));exact⟨U,q,Q,h3,by omega⟩
     obtain⟨J,hp,h7⟩:=PN;exact g_ (V,X,J) ⟨k0 J hp,h7⟩ i_
    ·refine w8 ?_;exact g_ (S,T,M) ⟨hm,fun Y f=>by obtain⟨U,q,Q,h3,h4⟩:=hc.1 Y f;exact⟨U,q,Q,h3,by omega⟩,by have:=hc.2;show M.length<=_;omega⟩ i_
   rintro⟨V,X,J⟩ ⟨q1,h7⟩;refine A1 ?_;exact l6 (i:=(j,S,T,M,(),())) (j+1,V,X,J,(),()) ⟨z,q1,h7⟩ qg sub i_
  ·have z:j=p.length:=(by have:=zq h;omega);refine w8 ?_;exact g_ (S,T,M) ⟨hm,by rw[<-z];exact hc⟩ i_
 rintro⟨S,T,M⟩ ⟨hm,hc⟩;simp only at hm hc;have hk:∀Y∈M,Pt Y:=fun Y f=>(hc.1 Y f).1;have q5:=hc.2;refine A1 ?_;refine e_ (Hm y) qw ?_;rintro v A ⟨g,rfl,rfl⟩;refine e_ (C:=[]) (yQ y g T S M hm hk qb) ?pre ?_;(case pre=>exact fun h hh ⟨bs,hb⟩=>⟨hb.blk ud,hb.blk ud⟩);rintro v A ⟨sa,sl,sc,rfl,rfl,hg⟩;refine I8 2 ?_;refine n7 (ι:=Option Addr×List (Nat×Nat)×Nat) (fun i=>i.2.1.length<=sl.length/\∀r∈i.2.1,Ho r) (fun i=>[(6,.slice i.1 i.2.1.length i.2.2)]) (fun i=>[V2 i.1 i.2.1 i.2.2]) ?_ ?_
 ·refine n8 ?_;refine gD (fun(j:Nat) (_:Option Addr) (b:List (Nat×Nat)) (_:Nat) (_ _:Unit)=>j<=sl.length/\b.length<=j/\∀r∈b,Ho r) (fun j s b u _ _=>[(6,.slice s b.length u),(26,.slice sa sl.length sc),(27,.int .i64 (sl.length:Nat)),(28,.int .i64 (j:Nat))]) (fun _ s b u _ _=>[V2 s b u,U3 sa sl sc]) (fun j _ _ _ _ _=>sl.length-j) 0 none [] 0 () () ⟨zw _,zr _,fun _ h=>by cases h⟩ sub (fun w O=>y4.left tk (O.addNil 178 2)) ?_;rintro j s b u _ _ ⟨hj,q6,Z⟩;refine R7 ?_ ?_<;>intro h
  ·have z:j<sl.length:=(by have:=qr h;omega);refine B5 (a:=sa) (n:=sl.length) (c:=sc) (sz:=1) (xs:=nV sl) (te:=27) ud fun _ _ D=>?_;have D:=D qb;obtain⟨x,hx⟩:=o8 (sl.getD (j:Int).toNat 0);have h6:Dx x:=(by rw[hx];exact hg.2 _ (tY (i:=(j:Int)) (n:=sl.length) qb rfl));have h9:=h6.1;refine I8 0 ?_;refine n7 (ι:=Option Addr×List (Nat×Nat)×Nat) (fun i=>i.2.1.length<=j+1/\∀r∈i.2.1,Ho r) (fun i=>[(6,.slice i.1 i.2.1.length i.2.2),(26,.slice sa sl.length sc),(27,.int .i64 (sl.length:Nat)),(28,.int .i64 (j:Nat))]) (fun i=>[V2 i.1 i.2.1 i.2.2,U3 sa sl sc]) ?_ ?_
   ·refine n8 ?_;refine r7 ?_;refine r_ ((an (n:=sl.length) rfl).eq (v':=.int .u64 (x:Nat)) (by rw[hx])) ?_;refine O3 ?_;refine B5 (a:=s) (n:=b.length) (c:=u) (sz:=2) (xs:=T8 b) (te:=178) ud fun _ _ d=>?_;refine n7 (ι:=Bool) (fun q=>q=true->0<b.length) (fun q=>[(6,.slice s b.length u),(8,.int .u64 (x:Nat)),(9,.int .i64 (b.length:Nat)),(26,.slice sa sl.length sc),(27,.int .i64 (sl.length:Nat)),(28,.int .i64 (j:Nat)),(46,.bool q)]) (fun _=>[V2 s b u,U3 sa sl sc]) ?_ ?_
    ·by_cases h0:0<b.length
     ·have d:=d h0;refine r7 ?_;refine f_ ((E2 rfl rfl).eq (v':=.bool true) (qn qk)) ?_;refine E7 ?_;refine A2 rfl rfl rfl ?_;refine f_ ((E0 rfl rfl qb).eq (v':=.int .i64 ((b.length-1:Nat):Int)) (by congr 1;omega)) ?_;refine A1 ?_;refine A2 rfl rfl rfl ?_;refine r_ (i8 rfl (fun w O=>cD (j:=1) (O.ownN (t:=178) ud).2.2.1 B4 (i:=b.length-1) qb rfl x4)) ?_;refine O3 ?_;exact g_ _ (fun _=>h0) i_
     ·refine r7 ?_;refine f_ ((E2 rfl rfl).eq (v':=.bool false) (qn qj)) ?_;refine wk 11 ?_;exact g_ false qx i_
    intro q hq;refine O0 ?_ ?_<;>intro h
    ·have h0:=hq h;have d:=d h0;refine A1 ?_;refine f_ ((E0 rfl rfl qb).eq (v':=.int .i64 ((b.length-1:Nat):Int)) (by congr 1;omega)) ?_;refine E7 ?_;refine A_ (C:=dV) (l:=b) (b[b.length-1].1,x) B4 (i:=b.length-1) qb (j:=1) rfl ?_;refine w8 ?_;refine g_ (s,b.set (b.length-1) (b[b.length-1].1,x),u) ⟨by simp only[jr];omega,fun r hr=>?_⟩ (fun w O=>by simp only[V2,jr];exact O) (by simp only[jr];exact sub);rcases jp hr with h5|rfl
     ·exact Z r h5
     ·exact⟨(Z _ (zy qb)).1,h6⟩
    ·refine O3 ?_;refine C4 dV (x,x) rfl ?_;intro q7 _;refine w6 dV (l:=b) (m:=[(x,x)]) B4 ni (by show(b.length+1)*16<=_;omega) ?_;intro Um q2 _;refine r7 ?_;refine g_ (Um,b++[(x,x)],q2) ⟨by simp only[zz,zx,zn];omega,fun r hr=>?_⟩ (fun w O=>y4.left tk O);rcases zb.1 hr with h5|h5
     ·exact Z r h5
     ·rw[zu.1 h5];exact⟨h6,h6⟩
   rintro⟨a3,l3,c3⟩ ⟨h3,h4⟩;simp only at h3 h4;refine A1 ?_;exact l6 (i:=(j,s,b,u,(),())) (j+1,a3,l3,c3,(),()) ⟨z,h3,h4⟩ qg sub i_
  ·refine w8 ?_;exact g_ (s,b,u) ⟨by simp only;omega,Z⟩ (fun w O=>y4.left tk O)
 rintro⟨ra,rl,rc⟩ ⟨U,Q⟩;simp only at U Q;refine L7 ?_;exact d_ rfl rfl _ ⟨ra,rl,rc,rfl,rfl,by have:=hg.1;omega,Q⟩ i_
open Go Go.Sl Go.RowKit Go.Proofs.Tryz
abbrev fT(l:List Nat):Prop:=∀x∈l,x<18446744073709551616
theorem Bq(v:VW)(a:Option Addr)(c:Nat)(b:List Nat)(ua:Option Addr)(uc:Nat)(e:Bool)(hv:v.a5M.length<=1000000)(hl:b.length<=1000000)(hu:fT b):Ct prog 290 [yF v a c,.slice ua b.length uc,.bool e] (fun h=>n9 h a (T8 v.a5M)/\n9 h ua (nV b)) [] (SV b.length):=by
 refine b_ 38 func290 rfl rfl rfl ?_;rintro F ⟨D,s⟩;refine C7 ?_;refine m8 rfl rfl ?_;intro u;refine r7 ?_;refine I8 4 ?_;refine n7 (ι:=Option Addr×List Nat×Nat) (fun i=>i.2.1.length<=b.length/\fT i.2.1) (fun i=>[(7,.slice i.1 i.2.1.length i.2.2)]) (fun i=>[U3 i.1 i.2.1 i.2.2]) ?_ ?_
 ·refine n8 ?_;refine gD (fun(j:Nat) (_:Option Addr) (d:List Nat) (_:Nat) (_ _:Unit)=>j<=b.length/\d.length<=j/\fT d) (fun j o d p _ _=>[(2,.bool e),(3,l9 u),(7,.slice o d.length p),(11,.slice ua b.length uc),(12,.int .i64 (b.length:Nat)),(13,.int .i64 (j:Nat))]) (fun _ o d p _ _=>[U3 o d p,.blk u (.cells (vH v a c).toArray 30)]) (fun j _ _ _ _ _=>b.length-j) 0 none [] 0 () () ⟨zw _,zr _,fun _ h=>by cases h⟩ sub (fun w f=>y4.left tk (f.addNil 27 1)) ?_;rintro j o d p _ _ ⟨hj,h0,q⟩;refine R7 ?_ ?_<;>intro h
  ·have g:j<b.length:=(by have:=qr h;omega);have J:=Y5 s g;have M:=cZ (fun r:Nat×Nat=>decide (r.1=b.getD j 0)) v.a5M;refine r7 ?_;refine r_ (i8 rfl (fun w f=>ui f s (i:=j) x4 g)) ?_;refine r7 ?_;refine I8 0 ?_;obtain⟨r,Y⟩:=o8 (lx v.a5M (b.getD j 0));refine A1 ?_;refine c_ rfl (yG v a c (b.getD j 0) hv) (fun h Z _=>D.le Z) rfl ?_;rw[<-Y];refine I8 1 ?_;refine n7 (ι:=Option Addr×List Nat×Nat) (fun i=>i.2.1.length<=j+1/\fT i.2.1) (fun i=>[(2,.bool e),(3,l9 u),(7,.slice i.1 i.2.1.length i.2.2),(11,.slice ua b.length uc),(12,.int .i64 (b.length:Nat)),(13,.int .i64 (j:Nat))]) (fun i=>[U3 i.1 i.2.1 i.2.2,.blk u (.cells (vH v a c).toArray 30)]) ?_ ?_
   ·have k:∀x,x<18446744073709551616->(d++[x]).length<=j+1/\fT (d++[x]):=fun x hx=>⟨by simp only[zz,zx,zn];omega,fun y hy=>by
     rcases zb.1 hy with O|O
     ·exact q y O
     ·rw[zu.1 O];exact hx⟩
    refine n8 ?_;refine eM ?_ ?_<;>intro h
    ·refine w8 ?_;exact g_ (o,d,p) ⟨by simp only;omega,q⟩ (fun w f=>y4.left tk f)
    have h6:0<=r/\r<1000000:=(by have h1:=zq h;have h2:r<v.a5M.length:=(by rw[Y];exact M.2);omega);refine bA ?_ ?_<;>intro h
    ·refine A1 ?_;refine gC (n:=b.getD j 0) ?_;intro Rb;refine jW (l:=d) (m:=[b.getD j 0]) (by show(d.length+1)*8<=_;omega) ?_;intro OJ Q;refine r7 ?_;exact g_ (OJ,d++[b.getD j 0],Q) (k _ (hu _ (wx g))) (fun w f=>y4.left tk f)
    ·refine E7 ?_;refine f_ ((y9 rfl qb).eq (v':=.int .u64 ((r+1).toNat:Nat)) (by congr 1;omega)) ?_;refine gC (n:=(r+1).toNat) ?_;intro h7;refine jW (l:=d) (m:=[(r+1).toNat]) (by show(d.length+1)*8<=_;omega) ?_;intro S T;refine r7 ?_;exact g_ (S,d++[(r+1).toNat],T) (k _ qb) (fun w f=>y4.left tk f)
   rintro⟨a3,U,V⟩ ⟨z,t⟩;simp only at z t;refine A1 ?_;exact l6 (i:=(j,o,d,p,(),())) (j+1,a3,U,V,(),()) ⟨g,z,t⟩ qg sub i_
  ·refine w8 ?_;exact g_ (o,d,p) ⟨by simp only;omega,q⟩ (fun w f=>y4.left tk f)
 rintro⟨a3,U,V⟩ ⟨z,t⟩;simp only at z t;refine r7 ?_;refine e_ (C:=[]) (Mq U a3 V t qb) ?pre ?_;(case pre=>exact fun h Z ⟨bs,hb⟩=>A3.rd hb ud);rintro x A ⟨ra,rl,rc,rfl,rfl,h8,X⟩;refine C5 ?_;exact d_ rfl rfl _ ⟨ra,rl,rc,rfl,rfl,by omega,X⟩ (fun w f=>y4.left tk f)
end Go.Proofs.YtmcepdopookilaaGreatDoor.Rp
namespace Go.Sl
open Go Go.RowKit Go.Proofs.Tryz
section
variable{P:Program}{N:Nat}{K R:y7}{E:List (Nat×y7)}{L:G0}{F:l8}{H:List As}{ops:Array Oper}{rest:List Oper}{ty:TypeId}{pos:String}{af:Array Edge}{t:TypeId}
theorem Hp.capOwn{w:World}{a:Option Addr}{n c k sz:Nat}{te:TypeId}{xs:List Value}{H':List As}(p:Hp F w H)(u:M2 H (.own (.slice a n c) te sz xs) [.own (.slice a n k) te sz xs] H')(j:n<=k)(q:k<=c):Hp F w H':=by
 obtain⟨l,d,e,r,kk⟩:=p.focus u;refine kk w l rfl rfl rfl (fun _ _ _=>rfl) ⟨l,[],by simp,?_,rfl⟩ e (fun _ s=>.inl s);rcases d with⟨f,rfl,rfl⟩|⟨g,rfl,⟨o,z,t,pre,b,v,f,hg,x,m,h,y,i⟩⟩
 ·injection f with e1 e2 e3;subst e1 e2 e3;have:k=0:=by omega
  subst this;exact .inl qm
 ·injection f with e1 e2 e3;subst e1 e2 e3;have A:k*sz<=c*sz:=Qy _ q;have C:c*sz-k*sz<=b.length:=by
   rw[zz,m] at h;have:n*sz<=k*sz:=Qy _ j;omega
  exact .inr ⟨g,rfl,⟨o,n,k,pre,b,v,rfl,hg,x,m,by omega,j,i⟩⟩
theorem pJ{d:Nat}{s x:Operand}{a b:Option Addr}{n m S sz:Nat}{xs news:List Value}{e:TypeId}{z:Value}{i:TypeInfo}[hu:HU P t (.slice e)][hz:HZ P e z][hi:HI P e i][hs:HS P e sz](T:ev L s=some (.slice a n n))(U:ev L x=some (.slice b m S))(V:∀w,Hp F w H->n9 (hp w) a xs)(y:xs.length=n*sz)(ha:a=none->n=0)(hsrc:∀w,Hp F w H->Kl (hp w) b news)(hl:news.length=m*sz)(X:Nat.blt 0 sz=true)(Y:z.cells.size=sz)(l:(n+m)*i.bytes<=140737488355328)(h63:n+m<=9223372036854775807)(hm:0<m)(hd:Nat.blt d N=true)(h:∀g Z,n+m<=Z->GL P N ops rest K E R ((d,.slice (some ⟨g,0,none⟩) (n+m) Z)::L) F (.own (.slice (some ⟨g,0,none⟩) (n+m) Z) e sz (xs++news)::H)):
  GL P N ops (⟨some d,.call ⟨.builtin .append,#[s,x],#[t,t]⟩,ty,pos,af,none⟩::rest) K E R L F H:=
 S3 rfl rfl hd fun w0 w hf hw=>by
  have J:0<sz:=by simpa[Kd] using X
  have c:=hi.h;have p:i.size=sz:=by
   have C:=hs.h w;simp[sizeOf,typeInfo,c] at C;exact C
  have M:i.zero=some z:=by
   have C:=hz.h w;simp only[zeroValue,Sem.run_bind,typeInfo] at C
   cases hq:i.zero with
   |none=>simp[c,hq] at C
   |some z'=>simp[c,hq] at C;rw[C]
  have q:∀vv w',(Builtin.append_ #[t,t] ty #[.slice a n n,.slice b m S]).run P w=.ok vv w'->
    (execOp w0.eval ⟨some d,.call ⟨.builtin .append,#[s,x],#[t,t]⟩,ty,pos,af,none⟩).run P w=.ok (.value vv) w':=fun vv w' O=>by
   simp[execOp,resolve,invoke,builtin,hf.eval T,hf.eval U,O]
  have h0:news≠[]:=by
   rintro rfl;have:0<m*sz:=K6 hm J;simp at hl;omega
  obtain⟨ad,rfl,A⟩:=hsrc w hw h0;have f:∀j u,news[j]? =some u->w.cell? (ad.add j)=some u:=A;have h1:=V w hw;have r:∀(k:Nat),k<n+m->Hp F (w.drew.alloc (.cells (xs.toArray++news.toArray++Builtin.zeroCells z.cells (grownCap w (n+m) k e-(n+m))) e)) (.own (.slice (some ⟨w.heap.size,0,none⟩) (n+m) (grownCap w (n+m) k e)) e sz (xs++news)::H)/\n+m<=grownCap w (n+m) k e:=fun k ho=>by
   have Q:=grownCap_ge w (n+m) k e;refine⟨O9 (w:=w.drew) (post:=(Builtin.zeroCells z.cells (grownCap w (n+m) k e-(n+m))).toList) (fr:=(0,0)) hw.drew' ?_ ?_ Q (.inl (zr _)) ?_,Q⟩
   ·rw[zz,y,hl,Q0]
   ·simp only[zz,y,hl,Zh,size_zeroCells,Y,<-Q0];congr 1;omega
   ·congr 2;apply Q7.1;simp
  cases a with
  |none=>
   have h3:=ha rfl;subst h3;have D:xs=[]:=jx (by simpa using y);subst D;have hr:=run_append_nil (P:=P) w t ty e i z hu.h c M ad m S news (by rw[p];exact hl) f qb qb (by rw[ju] at l;omega);have o:=r 0 qb;simp only[ju,j8] at o;refine⟨_,_,.own (.slice (some ⟨w.heap.size,0,none⟩) m (grownCap w m 0 e)) e sz news::H,q _ _ hr,?_,?_⟩
   ·have:=o.1;simpa using this
   ·have:=h w.heap.size (grownCap w m 0 e) (by simpa using o.2);simpa using this
  |some ad0=>
   have h4:∀j v,xs[j]? =some v->w.cell? (ad0.add j)=some v:=fun j v hj=>by
    have D:xs≠[]:=(by rintro rfl;simp at hj);obtain⟨h6,e2,h5⟩:=h1 D;injection e2 with e2;subst e2;exact h5 j v hj
   have hr:=run_append_grow (P:=P) w t ty e i z hu.h c M ad0 n n xs (by rw[p];exact y) h4 ad m S news (by rw[p];exact hl) f qb qb (growslice_fits qb l);have o:=r n qb;exact⟨_,_,_,q _ _ hr,o.1,h _ _ o.2⟩
theorem Hq{α β γ δ ε ζ:Type}{c:Code}(b:α->β->γ->δ->ε->ζ->Prop)(g:α->β->γ->δ->ε->ζ->G0)(i:α->β->γ->δ->ε->ζ->l8)(HI:α->β->γ->δ->ε->ζ->List As)(μ:α->β->γ->δ->ε->ζ->Nat)(d:α)(e:β)(z0:γ)(f:δ)(v0:ε)(w0:ζ)(k:b d e z0 f v0 w0)(l:fv (g d e z0 f v0 w0) L)(m:i d e z0 f v0 w0=F)(hH:∀w,Hp F w H->Hp F w (HI d e z0 f v0 w0))(round:∀x y z u v q,b x y z u v q->G P N c (fun a w=>∃j:α×β×γ×δ×ε×ζ,b j.1 j.2.1 j.2.2.1 j.2.2.2.1 j.2.2.2.2.1 j.2.2.2.2.2/\μ j.1 j.2.1 j.2.2.1 j.2.2.2.1 j.2.2.2.2.1 j.2.2.2.2.2<μ x y z u v q/\G5 N (g j.1 j.2.1 j.2.2.1 j.2.2.2.1 j.2.2.2.2.1 j.2.2.2.2.2) a/\Hp (i j.1 j.2.1 j.2.2.1 j.2.2.2.1 j.2.2.2.2.1 j.2.2.2.2.2) w (HI j.1 j.2.1 j.2.2.1 j.2.2.2.1 j.2.2.2.2.1 j.2.2.2.2.2)) E R (g x y z u v q) (i x y z u v q) (HI x y z u v q)):G P N (.loop c) K E R L F H:=
 bG (ι:=α×β×γ×δ×ε×ζ) (fun j=>b j.1 j.2.1 j.2.2.1 j.2.2.2.1 j.2.2.2.2.1 j.2.2.2.2.2) (fun j=>g j.1 j.2.1 j.2.2.1 j.2.2.2.1 j.2.2.2.2.1 j.2.2.2.2.2) (fun j=>i j.1 j.2.1 j.2.2.1 j.2.2.2.1 j.2.2.2.2.1 j.2.2.2.2.2) (fun j=>HI j.1 j.2.1 j.2.2.1 j.2.2.2.1 j.2.2.2.2.1 j.2.2.2.2.2) (fun j=>μ j.1 j.2.1 j.2.2.1 j.2.2.2.1 j.2.2.2.2.1 j.2.2.2.2.2) (d,e,z0,f,v0,w0) k l m hH fun j h=>round j.1 j.2.1 j.2.2.1 j.2.2.2.1 j.2.2.2.2.1 j.2.2.2.2.2 h
theorem Hs{c:Code}{ι:Type}(d:ι->Prop)(L':ι->G0)(f:ι->l8)(H':ι->List As)(g:G P N c (fun a w=>∃i,d i/\G5 N (L' i) a/\Hp (f i) w (H' i)) E R L F H)(h:∀i,d i->At N K (L' i) (f i) (H' i)):G P N c K E R L F H:=by
 unfold G At at*;intro a w hf b;refine Code.wp_mono (fun e a w q=>?_) (g a w hf b)
 cases e with
 |normal=>obtain⟨i,hp,hf,b⟩:=q;exact h i hp a w hf b
 |_=>exact q
theorem y6{ι:Type}{b:ι->Prop}{L':ι->G0}{c:ι->l8}{H':ι->List As}(i:ι)(hp:b i)(d:c i=F)(hH:∀w,Hp F w H->Hp F w (H' i))(hs:fv (L' i) L:=by exact sub):At N (fun a w=>∃i,b i/\G5 N (L' i) a/\Hp (c i) w (H' i)) L F H:=by
 unfold At;exact fun a w hf e=>⟨i,hp,hf.sub hs,by rw[d];exact hH w e⟩
theorem Hp.mid{w:World}{A J a:List As}(h:Hp F w (A++J++a)):Hp F w (A++a):=by
 have b:Hp F w ((A++a)++J):=h.perm (by rw[zm,zm];exact Z0 _ kz);exact b.left
theorem C6{w:World}{A J a:List As}(h:y4 (A++J) H a)(b:Hp F w H):Hp F w (A++a):=(h.hp b).mid
theorem ki{Z Rr:List As}(hH:y4 Z H Rr)(k:∀a,F.le a->(∃bs,A3 a.heap Z bs)->At N K L a Rr):At N K L F H:=
 At.weaken (H':=Rr++Z) (dJ k) (fv.refl _) (fun w b=>(hH.hp b).perm kz)
theorem lA{c:Code}{α β γ δ:Type}(b:α->β->γ->δ->Prop)(L':α->β->γ->δ->G0)(H':α->β->γ->δ->List As)(d:G P N c (fun a w=>∃i:α×β×γ×δ,b i.1 i.2.1 i.2.2.1 i.2.2.2/\G5 N (L' i.1 i.2.1 i.2.2.1 i.2.2.2) a/\Hp F w (H' i.1 i.2.1 i.2.2.1 i.2.2.2)) E R L F H)(e:∀x y z u,b x y z u->At N K (L' x y z u) F (H' x y z u)):G P N c K E R L F H:=
 n7 (ι:=α×β×γ×δ) (fun i=>b i.1 i.2.1 i.2.2.1 i.2.2.2) (fun i=>L' i.1 i.2.1 i.2.2.1 i.2.2.2) (fun i=>H' i.1 i.2.1 i.2.2.1 i.2.2.2) d fun i h=>e i.1 i.2.1 i.2.2.1 i.2.2.2 h
theorem S8{c:Code}{α β γ δ:Type}(b:α->β->γ->δ->Prop)(L':α->β->γ->δ->G0)(d:α->β->γ->δ->l8)(H':α->β->γ->δ->List As)(e:G P N c (fun a w=>∃i:α×β×γ×δ,b i.1 i.2.1 i.2.2.1 i.2.2.2/\G5 N (L' i.1 i.2.1 i.2.2.1 i.2.2.2) a/\Hp (d i.1 i.2.1 i.2.2.1 i.2.2.2) w (H' i.1 i.2.1 i.2.2.1 i.2.2.2)) E R L F H)(f:∀x y z u,b x y z u->At N K (L' x y z u) (d x y z u) (H' x y z u)):G P N c K E R L F H:=
 Hs (ι:=α×β×γ×δ) (fun i=>b i.1 i.2.1 i.2.2.1 i.2.2.2) (fun i=>L' i.1 i.2.1 i.2.2.1 i.2.2.2) (fun i=>d i.1 i.2.1 i.2.2.1 i.2.2.2) (fun i=>H' i.1 i.2.1 i.2.2.1 i.2.2.2) e fun i h=>f i.1 i.2.1 i.2.2.1 i.2.2.2 h
end
end Go.Sl
namespace Go.Proofs.YtmcepdopookilaaGreatDoor.Rp
open Go Go.Sl Go.RowKit Go.Proofs.Tryz
abbrev AC:=Option Addr×Nat
abbrev ET(n:Nat):RR:={R0 with kind:=9,n:=n}
abbrev Pz(n:Nat):RR:={R0 with kind:=8,n:=n}
abbrev wy(g:Nat)(v:VW)(p:AC):As:=.blk g (.cells (vH v p.1 p.2).toArray 30)
abbrev Ht(v:VW)(a5M:List (Nat×Nat)):VW:=⟨v.box,v.val,a5M⟩
abbrev Br(g:Nat)(b:BM):As:=.blk g (.cells (cY b).toArray 100)
abbrev yR(x:RL):Prop:=x.fa=none/\x.fc=0
abbrev JY(rl:List RM):Prop:=∀m∈rl,m.2=L0/\m.1.nums=[]/\m.1.a5Y=[]/\m.1.values=[]
theorem JY.app{rl:List RM}(h:JY rl){r:RR}(b:r.nums=[])(c:r.a5Y=[])(d:r.values=[]):JY (rl++[(r,L0)]):=fun m e=>by
 rcases zb.1 e with a|a
 ·exact h m a
 ·rw[zu.1 a];exact⟨rfl,b,c,d⟩
theorem JY.rd{rl:List RM}(h:JY rl)(a:l_):∀m∈rl,fG m.1 m.2 a/\yR m.2:=fun m f=>by
 obtain⟨e,b,c,d⟩:=h m f;obtain⟨r,x⟩:=m;simp only at e b c d;subst e;exact⟨cH b c d a,rfl,rfl⟩
theorem wz{b:BM}{u:Nat}(h:yH b.ls u<0):bK b.x u=none:=by
 unfold yH D3 at h;unfold bK
 cases e:b.ls.findIdx? fun x=>decide (x.t.uid=u) with
 |some i=>rw[e] at h;simp only[Option.elim] at h;omega
 |none=>
  rw[Q6] at e;rw[Wh];intro x a;obtain⟨m,c,rfl⟩:=jv.1 a;have:=e m c;simpa using this
theorem wA{b:BM}{u:Nat}(h:¬yH b.ls u<0):∃(i:Nat) (a:i<b.ls.length),yH b.ls u=(i:Nat)/\bK b.x u=some b.ls[i].t:=by
 unfold yH D3 at h⊢;unfold bK
 cases e:b.ls.findIdx? fun x=>decide (x.t.uid=u) with
 |none=>rw[e] at h;simp only[Option.elim] at h;omega
 |some i=>
  obtain⟨a,d,c⟩:=kg.1 e;refine⟨i,a,rfl,?_⟩;show(b.ls.map LM.t).find? _=_;have f:List.find? (fun m:LM=>decide (m.t.uid=u)) b.ls=some b.ls[i]:=List.find?_eq_some_iff_getElem.2 ⟨d,i,a,rfl,fun j g=>by simpa using c j g⟩;rw[List.find?_map];show Option.map LM.t (List.find? (fun m:LM=>decide (m.t.uid=u)) b.ls)=_;rw[f];rfl
theorem pK{b:BX}{k:Nat}{a:List (Nat×Nat)}(h:bK b (a.getD k (0,0)).1=none):V7 b (k+1) a=((V7 b k (a.eraseIdx k)).1,{R0 with kind:=9,n:=k+1}::(V7 b k (a.eraseIdx k)).2):=by
 rw[V7];rw[h]
theorem pL{b:BX}{k:Nat}{a:List (Nat×Nat)}{x:LT}(h:bK b (a.getD k (0,0)).1=some x):V7 b (k+1) a=V7 b k a:=by
 rw[V7];rw[h]
abbrev ko(v:VW)(b:BX)(expunge:Bool):List (Nat×Nat)×List RR:=if expunge then V7 b v.a5M.length v.a5M else(v.a5M,[])
def SyQ(e:VW×List RR)(h:l_)(x:Value)(A:List As):Prop:=∃p rl o,x=.tuple #[yF e.1 (Prod.fst p) (Prod.snd p),.slice (Prod.fst o) (List.length rl) (Prod.snd o)]/\A=[l5 p.1 e.1.a5M p.2,u7 o.1 rl o.2]/\rl.map Prod.fst=e.2/\∀m∈rl,fG m.1 m.2 h/\yR m.2
abbrev uj(ls:List LM)(m:Nat):List (Nat×Nat):=((ls.map LM.t).filter fun x=>decide (m<x.uid)).map fun x=>(x.uid,x.mod)
theorem Hu(ls:List LM)(m:Nat){j:Nat}(a:j<ls.length):uj (ls.take (j+1)) m=uj (ls.take j) m++if m<ls[j].t.uid then[(ls[j].t.uid,ls[j].t.mod)] else[]:=by
 unfold uj;rw[kj a,jm,Wc,jm];congr 1;by_cases h:m<ls[j].t.uid<;>simp[h]
theorem Mr(ls:List LM)(m j:Nat):(uj (ls.take j) m).length<=j:=by
 unfold uj;rw[zh];refine jd (Qn _ _) ?_;rw[zh,z1];omega
abbrev uk(cond:Bool)(had:List ((Nat×Nat)×Option LT)):List RR:=had.zipIdx.filterMap fun h=>h.1.2.map fun x=>tD x (h.2+1) cond
theorem DO(cond:Bool)(a:List ((Nat×Nat)×Option LT)){j:Nat}(b:j<a.length):uk cond (a.take (j+1))=uk cond (a.take j)++(a[j].2.map fun x=>tD x (j+1) cond).toList:=by
 unfold uk;rw[kj b,List.zipIdx_append,List.filterMap_append,z1,Jg (Js b),ju,List.zipIdx_singleton];congr 1
abbrev PA(g4 g5 g8:Nat)(v:VW)(b:BM)(a5M:List (Nat×Nat))(p:AC)(rl:List RM)(o:AC)(R:List As):List As:=l5 p.1 a5M p.2::u7 o.1 rl o.2::wy g4 (Ht v a5M) p::Br g5 b::wy g8 Av (none,0)::R
abbrev Hv(g4 g5 g8:Nat)(cond:Bool)(rl:List RM)(o:AC):G0:=[(3,.bool cond),(4,l9 g4),(5,l9 g5),(8,l9 g8),(9,.slice none 0 0),(10,.slice o.1 rl.length o.2)]
abbrev Of(g4 g5 g8:Nat)(v:VW)(b:BM)(n:Nat)(x:List (Nat×Nat))(p:AC)(rl:List RM)(o:AC)(R:List As):List As:=.own (.slice p.1 n p.2) 72 2 (T8 x)::u7 o.1 rl o.2::.blk g4 (.cells #[B v.box,.int .u64 (v.val:Nat),.slice p.1 n p.2] 30)::Br g5 b::wy g8 Av (none,0)::R
abbrev pM(b:BX)(a5M nw:List (Nat×Nat))(j:Nat):List (Nat×Nat):=((a5M.map (X8 b)).map (·.1)).take j++(a5M.drop j++nw)
theorem ul(b:BX)(a c:List (Nat×Nat)){j:Nat}(d:j<=a.length):(pM b a c j).length=a.length+c.length:=by
 simp only[pM,zz,z1,zh,z8];omega
theorem Hw(b:BX)(a c:List (Nat×Nat)){j:Nat}(d:j<a.length):(pM b a c j)[j]'(by rw[ul b a c (Js d)];omega)=a[j]:=by
 have e:(((a.map (X8 b)).map (·.1)).take j).length=j:=by simp;omega
 have f:(pM b a c j)[j]? =some a[j]:=by
  unfold pM;rw[jz qb,e,Wg,jj (by simp;omega),Q2];simp[d]
 exact(jn.1 f).2
theorem Bt(b:BX)(a c:List (Nat×Nat)){j:Nat}(d:j<a.length):(pM b a c j).set j (X8 b a[j]).1=pM b a c (j+1):=by
 have e:(((a.map (X8 b)).map (·.1)).take j).length=j:=by simp;omega
 unfold pM;rw[List.set_append_right _ _ qb,e,Wg,Qg d,Q8,List.set_cons_zero,kj (by simpa using d),zm];simp
theorem wB(b:BX)(a c:List (Nat×Nat)){j:Nat}(d:j<a.length)(h:(X8 b a[j]).1=a[j]):pM b a c (j+1)=pM b a c j:=by
 have e:j<(pM b a c j).length:=by rw[ul b a c (Js d)];omega
 rw[<-Bt b a c d,h]
 conv=>lhs;rw[<-Hw b a c d]
 exact Zr e
abbrev Ri(fs:List Bs)(a:Option Addr)(c:Nat):VM:=⟨{V0 with kind:=6,a5Y:=fs},a,c⟩
abbrev SY(n:Nat):VM:=⟨{V0 with kind:=9,n:=n},none,0⟩
theorem Ms(v:VW)(a:Option Addr)(c:Nat)(b:BM)(f cond:Bool)(hv:v.a5M.length<=100000)(hb:b.ls.length<=100000)(b7:∀x∈b.ls,x.t.a5Y.length<=16):Cm prog 166 [yF v a c,JV b,.bool f,.bool cond] (fun h=>n9 h a (T8 v.a5M)/\fL b h) [] (SyQ (U9 v b.x f cond)):=by
 refine y5 179 func166 rfl rfl rfl ?_;rintro F R ⟨b8,w0⟩;have y1:=w0.ls;obtain⟨q1,h1⟩:=o8 (decide (b.name=v.box));obtain⟨q2,h2⟩:=o8 (decide (b.val=v.val));refine C7 ?_;refine m8 rfl rfl ?_;intro D;refine m8 rfl rfl ?_;intro M;refine i7 rfl ?_;intro S;refine E7 ?_;refine e_ (fO (T8 v.a5M) a v.a5M.length c (bL _) (eP _) qb) (fun h hh _=>b8.le hh) ?_;rintro x A ⟨a2,c2,rfl,rfl⟩;refine E7 ?_;refine x8 [(2,.bool f),(3,.bool cond),(4,l9 D),(5,l9 M),(8,l9 S),(9,.slice none 0 0),(10,.slice none 0 0),(36,.bool (!q1||!q2))] (wy D v (a2,c2)::Br M b::wy S Av (none,0)::l5 a2 v.a5M c2::R) ?_ ?_
 ·cases q1
  all_goals (
   refine O3 ?_;refine f_ ((E8 rfl rfl).eq (jy (fun b=>Value.bool (!b)) h1.symm)) ?_;refine ap ?_;(first|refine u_ ?_|(refine v_ ?_;refine f_ ((M3 rfl rfl).eq (jy (fun x=>Value.bool (!x)) ((zp.2 Jv).trans h2.symm))) ?_));refine r7 ?_)
  all_goals exact p9 sub (fun w s=>(tk (C:=[_,_,_,_])).hp s)
 refine O0 ?_ ?_<;>intro h
 ·have e:U9 v b.x f cond=(v,[]):=by
   unfold U9;refine zg ?_;rw[h1,h2] at h;simpa using h
  rw[e];refine bQ ?_;refine H4 (A:=[l5 a2 v.a5M c2,u7 none [] 0]) (v:=.tuple #[yF v a2 c2,.slice none 0 0]) (l8.le_refl _) ⟨(a2,c2),[],(none,0),rfl,rfl,rfl,fun _ h=>by cases h⟩ ?_;exact D4 rfl rfl rfl ud rfl _ qh (fun w s=>C6 (A:=[_,_]) (J:=[_,_,_]) tk (s.addNil 51 10))
 have hq:q1=true/\q2=true:=by cases q1<;>cases q2<;>simp_all
 have x0:U9 v b.x f cond=(Ht v (((ko v b.x f).1.map (X8 b.x)).map (·.1)++uj b.ls (L9 (ko v b.x f).1)),(ko v b.x f).2++(if uj b.ls (L9 (ko v b.x f).1)=[] then[] else[{R0 with kind:=8,n:=(ko v b.x f).1.length+(uj b.ls (L9 (ko v b.x f).1)).length}])++uk cond ((ko v b.x f).1.map (X8 b.x))):=by
  unfold U9;have h3:b.name=v.box:=qr (h1.symm.trans hq.1);have h4:b.val=v.val:=qr (h2.symm.trans hq.2);rw[zk (by show¬(b.name≠v.box\/b.val≠v.val);rw[h3,h4];simp)]
 refine w8 ?_;refine I8 5 ?_;refine lA (fun(d:List (Nat×Nat)) (p:AC) (y:List RM) (o:AC)=>ko v b.x f=(d,y.map Prod.fst)/\d.length<=v.a5M.length/\y.length<=v.a5M.length/\JY y) (fun d p y o=>Hv D M S cond y o) (fun d p y o=>PA D M S v b d p y o R) ?_ ?_
 ·refine n8 ?_;refine gD (fun(k:Nat) (d:List (Nat×Nat)) (p:AC) (y:List RM) (o:AC) (_:Unit)=>(f=true->k<=d.length/\V7 b.x v.a5M.length v.a5M=((V7 b.x k d).1,y.map Prod.fst++(V7 b.x k d).2))/\(f=false->d=v.a5M/\y=[])/\d.length<=v.a5M.length/\y.length+k<=v.a5M.length/\JY y) (fun k d p y o _=>(2,.bool f)::(11,.int .i64 ((k:Int)-1))::Hv D M S cond y o) (fun k d p y o _=>PA D M S v b d p y o R) (fun k _ _ _ _ _=>k) v.a5M.length v.a5M (a2,c2) [] (none,0) () ⟨fun _=>⟨zr _,rfl⟩,fun _=>qh,zr _,by simp,fun _ h=>by cases h⟩ sub (fun w s=>(tk (C:=[_,_,_,_,_])).hp (s.addNil 51 10)) ?_;rintro k d p y o _ ⟨w1,w2,y2,d2,k8⟩
  cases k with
  |zero=>
   refine r7 ?_;refine f_ ((I5 rfl rfl).eq (v':=.bool false) rfl) ?_;refine E7 ?_;refine g_ (d,p,y,o) ⟨?_,y2,by show y.length<=_;omega,k8⟩ i_;unfold ko
   cases f
   ·obtain⟨rfl,rfl⟩:=w2 rfl;rfl
   ·rw[zg rfl,(w1 rfl).2];simp[V7]
  |succ k=>
   cases f
   ·refine r7 ?_;refine f_ ((I5 rfl rfl).eq (v':=.bool true) (qn qk)) ?_;refine E7 ?_;refine g_ (d,p,y,o) ⟨?_,y2,by show y.length<=_;omega,k8⟩ i_;obtain⟨rfl,rfl⟩:=w2 rfl;rfl
   obtain⟨x1,y3⟩:=w1 rfl;have x1:k<d.length:=x1;refine r7 ?_;refine f_ ((I5 rfl rfl).eq (v':=.bool true) (qn qk)) ?_;refine E7 ?_;refine B5 (a:=p.1) (n:=d.length) (c:=p.2) (sz:=2) (xs:=T8 d) (te:=72) ud fun w3 v4 O=>?_;have O:=O qb;have eg:d.getD k (0,0)=d[k]:=(by rw[zd,zj x1];rfl);refine w8 ?_;refine D2 [0,2,6] [7] [l5 p.1 d p.2,wy D (Ht v d) p,Br M b] 9 ?_;refine wd [0,1,2] ?_;refine w_ 3 rfl ((ay rfl).eq (v':=.int .i64 (k:Nat)) (by congr 1;omega)) ?_;refine w_ 4 rfl (m9 (n:=(k:Nat)) (len:=d.length) rfl O rfl qb) ?_;refine wd [5] ?_;refine o0 6 rfl O4 (i8 rfl (fun w s=>cD (j:=0) (s.ownN (t:=72) ud).2.2.1 B4 (i:=k) x1 rfl x4)) G2 rfl rfl rfl i6 ?_;refine h_ 7 rfl i6 ?_;refine c_ rfl (Bb b d[k].1 qb) (fun h hh _=>y1.le hh) rfl ?_;refine E6 [8] ?_;refine lA (fun(V:List (Nat×Nat)) (p':AC) (x2:List RM) (o':AC)=>(k<=V.length/\V7 b.x v.a5M.length v.a5M=((V7 b.x k V).1,x2.map Prod.fst++(V7 b.x k V).2))/\V.length<=v.a5M.length/\x2.length+k<=v.a5M.length/\JY x2) (fun d p y o=>(2,.bool true)::(11,.int .i64 ((((k+1:Nat):Nat):Int)-1))::Hv D M S cond y o) (fun d p y o=>PA D M S v b d p y o R) ?_ ?_
   ·refine o9 rfl ?_ ?_<;>intro h
    ·have b9:bK b.x (d.getD k (0,0)).1=none:=(by rw[eg];exact wz (qr h));rw[pK b9] at y3;refine A1 ?_;refine f_ ((p_ rfl rfl qb).eq (v':=.int .i64 ((k+1:Nat):Int)) (by congr 1;omega)) ?_;refine r7 ?_;refine f_ (y8 (ps:=[(0,.const (.int .i64 9)),(4,.tmp 61)]) (vs:=[(0,.int .i64 9),(4,.int .u64 ((k+1:Nat):Int))]) (cells:=(tv (ET (k+1)) L0).toArray) rfl i6) ?_;refine C4 yh (ET (k+1),L0) rfl ?_;intro a63 _;refine w6 yh (l:=y) (m:=[(ET (k+1),L0)]) aK jH (by show(y.length+1)*160<=_;omega) ?_;intro q6 q7 _;refine r7 ?_;have ee:T8 (d.take k)++T8 (d.drop (k+1))=T8 (d.eraseIdx k):=(by rw[<-oI,Kh]);have el:(d.eraseIdx k).length=d.length-1:=(by rw[List.length_eraseIdx,zg x1]);have q4:(k<=(d.eraseIdx k).length/\V7 b.x v.a5M.length v.a5M=((V7 b.x k (d.eraseIdx k)).1,(y++[(ET (k+1),L0)]).map Prod.fst++(V7 b.x k (d.eraseIdx k)).2))/\(d.eraseIdx k).length<=v.a5M.length/\(y++[(ET (k+1),L0)]).length+k<=v.a5M.length/\JY (y++[(ET (k+1),L0)]):=by
      refine⟨⟨by omega,?_⟩,by omega,by rw[zz];simp only[zx,zn];omega,k8.app rfl rfl rfl⟩;rw[y3,jm,zm];rfl
     by_cases hlast:k+1=d.length
     ·refine D7 (H':=.own (.slice p.1 k k) 72 2 (T8 (d.take k))::u7 q6 (y++[(ET (k+1),L0)]) q7::wy D (Ht v d) p::Br M b::wy S Av (none,0)::R) (fun w s=>?_) ?_
      ·have h5:=C6 (A:=[l5 p.1 d p.2,u7 q6 (y++[(ET (k+1),L0)]) q7,wy D (Ht v d) p,Br M b,wy S Av (none,0)]) (J:=[_]) tk s;have h6:=h5.cutOwn (j:=k) .here qb;rw[aA B4] at h6;exact h6.capOwn .here (zr _) qb
      refine w8 ?_;refine D2 [1,6] [10,12] [wy D (Ht v d) p] 13 ?_;refine wd [0,1] ?_;refine w_ 2 rfl ((ay rfl).eq (v':=.int .i64 (k:Nat)) (by congr 1;omega)) ?_;refine w_ 3 rfl ((ay rfl).eq (v':=.int .i64 (k:Nat)) (by congr 1;omega)) ?_;refine w_ 4 rfl ((fP rfl rfl rfl rfl qb).eq (v':=.slice p.1 k k) (by simp[dY])) ?_;refine wd [5,6] ?_;refine w_ 7 rfl ((ay rfl).eq (v':=.int .i64 (k:Nat)) (by congr 1;omega)) ?_;refine wd [8] ?_;refine w_ 9 rfl (B6 (n:=d.length) rfl rfl rfl qb) ?_;refine h_ 10 rfl i6 ?_;refine C0 (m:=d.length-(k+1)) (n:=k) (xs:=T8 (d.take k)) (news:=T8 (d.drop (k+1))) rfl rfl (fun a' c'=>uh) (fun w s=>by rw[Qc qb];exact n9.nil _ _) (by rw[bL,z8];rfl) rfl rfl (eP _) (by show(k+(d.length-(k+1)))*16<=_;omega) qb rfl ?_;intro v5 k9 _;refine E6 [11,12] ?_;have en:k+(d.length-(k+1))=(d.eraseIdx k).length:=(by omega);refine g_ (d.eraseIdx k,(v5,k9),y++[(ET (k+1),L0)],(q6,q7)) q4 (fun w s=>?_);show Hp F w (l5 v5 (d.eraseIdx k) k9::u7 q6 (y++[(ET (k+1),L0)]) q7::.blk D (.cells #[B v.box,.int .u64 (v.val:Nat),.slice v5 (d.eraseIdx k).length k9] 30)::Br M b::wy S Av (none,0)::R);unfold l5;rw[<-en,<-ee];exact(tk (C:=[_,_,_,_,_])).hp s
     ·have w4:0<d.length-(k+1):=(by omega);refine w8 ?_;refine D2 [1,6] [10,12] [wy D (Ht v d) p] 13 ?_;refine wd [0,1] ?_;refine w_ 2 rfl ((ay rfl).eq (v':=.int .i64 (k:Nat)) (by congr 1;omega)) ?_;refine w_ 3 rfl ((ay rfl).eq (v':=.int .i64 (k:Nat)) (by congr 1;omega)) ?_;refine w_ 4 rfl ((fP rfl rfl rfl rfl qb).eq (v':=.slice p.1 k k) (by simp[dY])) ?_;refine wd [5,6] ?_;refine w_ 7 rfl ((ay rfl).eq (v':=.int .i64 (k:Nat)) (by congr 1;omega)) ?_;refine wd [8] ?_;refine w_ 9 rfl (B6 (n:=d.length) rfl rfl rfl qb) ?_;refine h_ 10 rfl i6 ?_;refine pJ (n:=k) (m:=d.length-(k+1)) (sz:=2) (e:=72) (xs:=T8 (d.take k)) (news:=T8 (d.drop (k+1))) rfl rfl ?hrx (by rw[bL,z1,Jg qb]) (fun e=>by obtain⟨ad,h9⟩:=O;rw[e] at h9;cases h9) ?hsrc (by rw[bL,z8]) rfl rfl (by show(k+(d.length-(k+1)))*16<=_;omega) qb w4 rfl ?_;rotate_left 2;intro v6 k9 c8;rotate_right 1;(case hrx=>intro w s;have h6:=((s.ownN (t:=72) ud).2.2.1:n9 _ p.1 (T8 d)).cut w3 v4 0 k qb qb;rw[dY,Z4,Kk,Nat.sub_zero,aA B4] at h6;exact h6);(case hsrc=>intro w s;have h6:=((s.ownN (t:=72) ud).2.2.1:n9 _ p.1 (T8 d)).cut w3 v4 (k+1) d.length qb (zr _);rw[lf B4,jq (by rw[bL,z8];omega)] at h6;exact h6);refine E6 [11,12] ?_;have en:k+(d.length-(k+1))=(d.eraseIdx k).length:=(by omega);refine g_ (d.eraseIdx k,(some ⟨v6,0,none⟩,k9),y++[(ET (k+1),L0)],(q6,q7)) q4 (fun w s=>?_);show Hp F w (l5 (some ⟨v6,0,none⟩) (d.eraseIdx k) k9::u7 q6 (y++[(ET (k+1),L0)]) q7::.blk D (.cells #[B v.box,.int .u64 (v.val:Nat),.slice (some ⟨v6,0,none⟩) (d.eraseIdx k).length k9] 30)::Br M b::wy S Av (none,0)::R);unfold l5;rw[<-en,<-ee];exact C6 (A:=[_,_,_,_,_]) (J:=[_,_]) tk s
    ·obtain⟨i,hi,hr,hx⟩:=wA (zq h);rw[<-eg] at hx;rw[pL hx] at y3;refine w8 ?_;exact g_ (d,p,y,o) ⟨⟨by show k<=d.length;omega,y3⟩,y2,by show y.length+k<=_;omega,k8⟩ (fun w s=>(tk (C:=[_,_,_,_,_])).hp s)
   rintro V p' x2 o' ⟨c0,w5,w7,w9⟩;refine r7 ?_;refine f_ ((E0 rfl rfl qb).eq (v':=.int .i64 ((k:Int)-1)) (by congr 1;omega)) ?_;refine r7 ?_;exact l6 (i:=(k+1,d,p,y,o,())) (k,V,p',x2,o',()) ⟨fun _=>c0,qx,w5,w7,w9⟩ qg sub i_
 rintro d p y o ⟨he,y2,c9,k8⟩;rw[he] at x0;replace x0:U9 v b.x f cond=(Ht v ((d.map (X8 b.x)).map (·.1)++uj b.ls (L9 d)),y.map Prod.fst++(if uj b.ls (L9 d)=[] then[] else[Pz (d.length+(uj b.ls (L9 d)).length)])++uk cond (d.map (X8 b.x))):=x0;rw[x0];clear x0 he;obtain⟨z,v7⟩:=o8 (L9 d);refine ap ?_;refine c_ rfl (vZ (Ht v d) p.1 p.2 (by show d.length<=_;omega)) (fun h hh ⟨bs,hb⟩=>A3.rd hb ud) rfl ?_;rw[<-v7];refine r7 ?_;refine I8 4 ?_;have x3:=Mr b.ls z;refine n7 (ι:=AC) (fun _=>True) (fun _=>(12,.int .i64 (d.length:Nat))::Hv D M S cond y o) (fun p=>PA D M S v b (d++uj b.ls z) p y o R) ?_ ?_
 ·refine n8 ?_;refine O7 (fun(j:Nat) (p:AC) (_:Unit)=>j<=b.ls.length) (fun j p _=>(12,.int .i64 (d.length:Nat))::(13,.int .u64 (z:Nat))::(83,.slice b.a b.ls.length b.c)::(84,.int .i64 (b.ls.length:Nat))::(85,.int .i64 (j:Nat))::Hv D M S cond y o) (fun j p _=>PA D M S v b (d++uj (b.ls.take j) z) p y o R) (fun j _ _=>b.ls.length-j) 0 p () (zw _) sub (fun w s=>by rw[Kj];show Hp F w (PA D M S v b (d++[]) p y o R);rw[z7];exact(tk (C:=[_,_,_,_,_])).hp s) ?_;rintro j p _ hj;have d3:=x3 j;have y0:(d++uj (b.ls.take j) z).length<=200000:=by rw[zz];omega
  refine R7 ?_ ?_<;>intro h
  ·have Q:j<b.ls.length:=(by have:=qr h;omega);have O:=q_ y1 B0 qp Q;have e:=Hu b.ls z Q;refine r7 ?_;refine r_ (p8 rfl (fun w s=>S6 (y1.le s.keep) B0 qp Q x4) (B0 _)) ?_;refine i7 rfl ?_;intro a0;refine ap ?_;refine n7 (ι:=AC) (fun _=>True) (fun _=>(12,.int .i64 (d.length:Nat))::(13,.int .u64 (z:Nat))::(83,.slice b.a b.ls.length b.c)::(84,.int .i64 (b.ls.length:Nat))::(85,.int .i64 (j:Nat))::Hv D M S cond y o) (fun p=>PA D M S v b (d++uj (b.ls.take (j+1)) z) p y o R) ?_ ?_
   ·rw[e,<-zm];refine o9 rfl ?_ ?_<;>intro h
    ·have v8:z<b.ls[j].t.uid:=(by have:=qr h;omega);rw[zg v8];refine wk 7 ?_;refine C4 dV (b.ls[j].t.uid,b.ls[j].t.mod) rfl ?_;intro OK _;refine w6 dV (l:=d++uj (b.ls.take j) z) (m:=[(b.ls[j].t.uid,b.ls[j].t.mod)]) B4 ni (by show((d++uj (b.ls.take j) z).length+1)*16<=_;omega) ?_;intro z2 u0 _;refine A1 ?_;exact g_ (z2,u0) trivial (fun w s=>C6 (A:=[l5 z2 ((d++uj (b.ls.take j) z)++[(b.ls[j].t.uid,b.ls[j].t.mod)]) u0,_,_,_,_]) (J:=[.own (.slice OK 1 1) 72 2 _,.blk a0 _]) tk s)
    ·have v8:¬z<b.ls[j].t.uid:=(by have:=zq h;omega);rw[zk v8,z7];refine w8 ?_;exact g_ p trivial (fun w s=>C6 (A:=[_,_,_,_,_]) (J:=[.blk a0 _]) tk s)
   rintro U _;refine A1 ?_;exact l6 (i:=(j,p,())) (j+1,U,()) Q qg sub i_
  ·have Q:j=b.ls.length:=(by have:=zq h;omega);refine w8 ?_;exact g_ p trivial (fun w s=>by rw[Q,Qj] at s;exact s)
 rintro U _;have x3:=x3 b.ls.length;rw[Qj] at x3;obtain⟨T,c1⟩:=o8 (uj b.ls z);rw[<-c1] at x3⊢;obtain⟨n,hn⟩:=o8 (d.length+T.length);obtain⟨h0,q0⟩:=o8 (y.map Prod.fst++(if T=[] then[] else[Pz (d.length+T.length)]));rw[<-q0];refine w8 ?_;refine D7 (H':=Of D M S v b n (d++T) U y o R) (fun w s=>by rw[hn,<-zz];exact s) ?_;refine ap ?_;refine lA (fun(h7:List RM) (o2:AC) (_ _:Unit)=>h7.map Prod.fst=h0/\JY h7/\h7.length<=v.a5M.length+1) (fun h7 o2 _ _=>(12,.int .i64 (d.length:Nat))::Hv D M S cond h7 o2) (fun h7 o2 _ _=>Of D M S v b n (d++T) U h7 o2 R) ?_ ?_
 ·refine o9 rfl ?_ ?_<;>intro h
  ·have v9:T≠[]:=(by rintro rfl;have:=qr h;simp at hn;omega);refine O3 ?_;refine f_ ((y9 rfl qb).eq (v':=.int .u64 (n:Nat)) rfl) ?_;refine f_ (y8 (ps:=[(0,.const (.int .i64 8)),(4,.tmp 113)]) (vs:=[(0,.int .i64 8),(4,.int .u64 (n:Nat))]) (cells:=(tv (Pz n) L0).toArray) rfl i6) ?_;refine C4 yh (Pz n,L0) rfl ?_;intro d0 _;refine w6 yh (l:=y) (m:=[(Pz n,L0)]) aK jH (by show(y.length+1)*160<=_;omega) ?_;intro u1 u2 _;refine r7 ?_;refine g_ (y++[(Pz n,L0)],(u1,u2),(),()) ⟨?_,k8.app rfl rfl rfl,by simp only[zz,zx,zn];omega⟩ (fun w s=>C6 (A:=[_,u7 u1 (y++[(Pz n,L0)]) u2,_,_,_]) (J:=[_]) tk s);rw[q0,zk v9,jm,hn];rfl
  ·have he:T=[]:=by
    have:=zq h;have h5:T.length=0:=(by omega);exact jx h5
   refine w8 ?_;refine g_ (y,o,(),()) ⟨?_,k8,by show y.length<=_;omega⟩ i_;rw[q0,zg he,z7]
 rintro h7 o2 _ _ ⟨c3,c4,c5⟩;refine w8 ?_;refine B5 (a:=U.1) (n:=n) (c:=U.2) (sz:=2) (xs:=T8 (d++T)) (te:=72) ud fun _ v4 O=>?_;refine E7 ?_;refine f_ ((B6 (n:=n) rfl rfl rfl (by have:=hn;omega)).eq (v':=.slice U.1 d.length U.2) (by simp[dY])) ?_;refine I8 2 ?_;have h8:∀r∈d.map (X8 b.x),True:=fun _ _=>trivial;have a1:(d.map (X8 b.x)).length=d.length:=zh _;refine S8 (fun(F3:l8) (g:List RM) (X:AC) (_:Unit)=>F.le F3/\g.map Prod.fst=h0++uk cond (d.map (X8 b.x))/\∀m∈g,fG m.1 m.2 F3.heap/\yR m.2) (fun _ g X _=>Hv D M S cond g X) (fun F3 _ _ _=>F3) (fun _ g X _=>Of D M S v b n (pM b.x d T d.length) U g X R) ?_ ?_
 ·refine n8 ?_;refine Hq (fun(j:Nat) (F2:l8) (g:List RM) (X:AC) (_ _:Unit)=>j<=d.length/\F.le F2/\g.map Prod.fst=h0++uk cond ((d.map (X8 b.x)).take j)/\(∀m∈g,fG m.1 m.2 F2.heap/\yR m.2)/\g.length<=v.a5M.length+1+j) (fun j _ g X _ _=>(120,.slice U.1 d.length U.2)::(121,.int .i64 (d.length:Nat))::(122,.int .i64 (j:Nat))::Hv D M S cond g X) (fun _ F2 _ _ _ _=>F2) (fun j _ g X _ _=>Of D M S v b n (pM b.x d T j) U g X R) (fun j _ _ _ _ _=>d.length-j) 0 F h7 o2 () () ⟨zw _,l8.le_refl _,by rw[Kj,c3];simp[uk],c4.rd _,c5⟩ sub rfl i_ ?_;rintro j F2 g X _ _ ⟨hj,q8,q3,Y,d4⟩;have d5:=ul b.x d T hj;refine R7 ?_ ?_<;>intro h
  ·have Q:j<d.length:=(by have:=qr h;omega);have a6:j<(pM b.x d T j).length:=(by omega);have O:=O qb;have q5:=y1.le q8.heap;have a7:=Hw b.x d T Q;have z0:=DO cond (d.map (X8 b.x)) (by rw[a1];exact Q);rw[J6] at z0;refine I8 0 ?_;refine S8 (fun(F3:l8) (k0:List RM) (o4:AC) (_:Unit)=>F2.le F3/\k0.map Prod.fst=h0++uk cond ((d.map (X8 b.x)).take (j+1))/\(∀m∈k0,fG m.1 m.2 F3.heap/\yR m.2)/\k0.length<=v.a5M.length+1+(j+1)) (fun _ k0 o4 _=>(120,.slice U.1 d.length U.2)::(121,.int .i64 (d.length:Nat))::(122,.int .i64 (j:Nat))::Hv D M S cond k0 o4) (fun F3 _ _ _=>F3) (fun _ k0 o4 _=>Of D M S v b n (pM b.x d T (j+1)) U k0 o4 R) ?_ ?_
   ·refine n8 ?_;refine A1 ?_;refine r_ ((p8 rfl (fun w s=>cQ (s.ownN (t:=72) ud).2.2.1 B4 qp a6 x4) (B4 _)).eq (v':=.agg (dV d[j]).toArray) (by rw[a7])) ?_;refine i7 rfl ?_;intro q9;refine ap ?_;refine c_ rfl (Bb b d[j].1 qb) (fun h hh _=>q5.le hh) rfl ?_;refine r7 ?_;by_cases hlet:yH b.ls d[j].1<0
    ·have h8:X8 b.x d[j]=(d[j],none):=(by unfold X8;rw[wz hlet]);refine w8 ?_;refine D2 [4,8,10] [] [Br M b,.blk q9 (.cells (dV d[j]).toArray 72)] 13 ?_;refine wd [0] ?_;refine w_ 1 rfl ((F6 rfl rfl).eq (v':=.bool true) (qn (jk hlet))) ?_;refine wd [2,3,4,5,6,7,8,9,10,11,12] ?_;refine y6 (F2,g,X,()) ⟨l8.le_refl _,?_,Y,by show g.length<=_;omega⟩ rfl (fun w s=>?_)
     ·rw[z0,h8,<-zm,<-q3];simp
     ·show Hp F2 w (Of D M S v b n (pM b.x d T (j+1)) U g X R);rw[wB b.x d T Q (by rw[h8])];exact C6 (A:=[_,_,_,_,_]) (J:=[.blk q9 _]) tk s
    obtain⟨i,hi,hr,hx⟩:=wA hlet;have b6:=q_ q5 B0 qp hi;obtain⟨q,hq⟩:=o8 (decide (b.ls[i].t.mod=d[j].2));rw[hr];refine w8 ?_;refine D2 [4,8,10] [] [Br M b,.blk q9 (.cells (dV d[j]).toArray 72)] 13 ?_;refine wd [0] ?_;refine w_ 1 rfl ((F6 rfl rfl).eq (v':=.bool false) (qn qj)) ?_;refine wd [2,3,4,5,6,7] ?_;(first|refine s_ 8 ?_|refine t_ 8 ?_|refine bW 8 rfl (i8 rfl (fun w s=>cD (j:=2) (q5.le s.keep) B0 hi rfl x4)) G2 rfl rfl rfl rfl rfl rfl i6 ?_);refine wd [9,10] ?_;(first|refine s_ 11 ?_|refine t_ 11 ?_|refine E1 11 rfl ((p7 rfl rfl).eq (v':=.bool q) (qn ((zp.2 Jv).trans hq.symm))) rfl rfl rfl rfl rfl rfl i6 ?_);refine wd [12] ?_
    cases q
    ·have v9:¬b.ls[i].t.mod=d[j].2:=zq hq.symm;have h8:X8 b.x d[j]=((d[j].1,b.ls[i].t.mod),some b.ls[i].t):=(by unfold X8;rw[hx];exact zk v9);have d1:=b7 _ (zy hi);have c6:n9 F2.heap b.ls[i].a (fV b.ls[i].t.a5Y):=(w0.fl _ (zy hi)).le q8.heap;refine O3 ?_;refine r_ (p8 rfl (fun w s=>cQ (q5.le s.keep) B0 qp hi x4) (B0 _)) ?_;refine i7 rfl ?_;intro a8;refine wk 8 ?_;refine A_ (C:=dV) (l:=pM b.x d T j) ((pM b.x d T j)[j].1,b.ls[i].t.mod) B4 (i:=j) a6 (j:=1) rfl ?_;refine w8 ?_;rw[show((pM b.x d T j)[j].1,b.ls[i].t.mod)=(X8 b.x d[j]).1 from by rw[a7,h8],Bt b.x d T Q];refine A1 ?_;refine e_ (Y4 b.ls[i].t.a5Y b.ls[i].a b.ls[i].c qb) (fun h hh _=>c6.le hh) ?_;rintro x A ⟨fa,fc,rfl,rfl⟩;refine f_ (y8 (ps:=[(0,.const (.int .i64 6)),(2,.tmp 158)]) (vs:=[(0,.int .i64 6),(2,.slice fa b.ls[i].t.a5Y.length fc)]) (cells:=(vx (Ri b.ls[i].t.a5Y fa fc)).toArray) rfl i6) ?_;refine C4 vx (Ri b.ls[i].t.a5Y fa fc) rfl ?_;intro b0 _;refine A1 ?_;refine lA (fun(vl:List VM) (u:AC) (_ _:Unit)=>vl=Ri b.ls[i].t.a5Y fa fc::(if cond then[SY b.ls[i].t.mod] else[])) (fun vl u _ _=>(16,.int .i64 (j:Nat))::(20,.slice u.1 vl.length u.2)::(120,.slice U.1 d.length U.2)::(121,.int .i64 (d.length:Nat))::(122,.int .i64 (j:Nat))::Hv D M S cond g X) (fun vl u _ _=>.own (.slice u.1 vl.length u.2) 110 6 (OW vl)::A5 fa b.ls[i].t.a5Y fc::Of D M S v b n (pM b.x d T (j+1)) U g X R) ?_ ?_
     ·cases cond
      ·refine w8 ?_;exact g_ ([Ri b.ls[i].t.a5Y fa fc],(b0,1),(),()) rfl (fun w s=>C6 (A:=[_,_,_,_,_,_,_]) (J:=[.blk a8 _,.blk q9 _]) tk s)
      ·refine E7 ?_;refine f_ (y8 (ps:=[(0,.const (.int .i64 9)),(1,.tmp 164)]) (vs:=[(0,.int .i64 9),(1,.int .u64 (b.ls[i].t.mod:Nat))]) (cells:=(vx (SY b.ls[i].t.mod)).toArray) rfl i6) ?_;refine C4 vx (SY b.ls[i].t.mod) rfl ?_;intro b1 _;refine w6 vx (l:=[Ri b.ls[i].t.a5Y fa fc]) (m:=[SY b.ls[i].t.mod]) mZ nf (by show 2*_<=_;decide) ?_;intro u8 v0 _;refine r7 ?_;exact g_ ([Ri b.ls[i].t.a5Y fa fc,SY b.ls[i].t.mod],(u8,v0),(),()) rfl (fun w s=>C6 (A:=[.own (.slice u8 _ v0) _ 6 _,_,_,_,_,_,_]) (J:=[.own (.slice b1 _ 1) _ 6 _,.blk a8 _,.blk q9 _]) tk s)
     rintro vl u _ _ b2;obtain⟨x9,d6⟩:=o8 (α:=RL) (⟨none,0,none,0,u.1,u.2,vl⟩);refine A1 ?_;refine f_ ((p_ rfl rfl qb).eq (v':=.int .i64 ((j+1:Nat):Int)) (by congr 1)) ?_;refine A1 ?_;refine f_ ((y8 (ps:=[(0,.const (.int .i64 14)),(4,.tmp 171),(9,.tmp 172)]) (vs:=[(0,.int .i64 14),(4,.int .u64 ((j+1:Nat):Int)),(9,.slice u.1 vl.length u.2)]) (cells:=(tv (tD b.ls[i].t (j+1) cond) ⟨none,0,none,0,u.1,u.2,vl⟩).toArray) rfl i6)) ?_;refine C4 yh (tD b.ls[i].t (j+1) cond,⟨none,0,none,0,u.1,u.2,vl⟩) rfl ?_;intro b3 _;refine w6 yh (l:=g) (m:=[(tD b.ls[i].t (j+1) cond,⟨none,0,none,0,u.1,u.2,vl⟩)]) aK jH (by show(g.length+1)*160<=_;omega) ?_;intro v1 v2 _;refine r7 ?_;refine ki (Z:=[.own (.slice u.1 vl.length u.2) 110 6 (OW vl),A5 fa b.ls[i].t.a5Y fc]) tk fun F3 v3 ⟨bs,b4⟩=>?_;have b5:fG (tD b.ls[i].t (j+1) cond) ⟨none,0,none,0,u.1,u.2,vl⟩ F3.heap:=by
      refine⟨?_,n9.nil _ _,n9.nil _ _,A3.rd b4 ud,fun m hm=>?_⟩
      ·rw[b2];cases cond<;>rfl
      ·rw[b2] at hm;rcases kw.1 hm with rfl|hm
       ·exact A3.rd b4 ud
       ·cases cond
        ·cases hm
        ·rw[zu.1 hm];exact n9.nil _ _
     refine y6 (F3,g++[(tD b.ls[i].t (j+1) cond,⟨none,0,none,0,u.1,u.2,vl⟩)],(v1,v2),()) ⟨v3,?_,fun m hm=>?_,by simp only[zz,zx,zn];omega⟩ rfl (fun w s=>C6 (A:=[_,u7 v1 _ v2,_,_,_]) (J:=[u7 b3 _ 1]) tk s)
     ·rw[z0,h8,<-zm,<-q3,jm];rfl
     ·rcases zb.1 hm with h5|h5
      ·exact⟨(Y m h5).1.le v3.heap,(Y m h5).2⟩
      ·rw[zu.1 h5];exact⟨b5,rfl,rfl⟩
    ·have c7:b.ls[i].t.mod=d[j].2:=qr hq.symm;have h8:X8 b.x d[j]=(d[j],none):=(by unfold X8;rw[hx];exact zg c7);refine w8 ?_;refine y6 (F2,g,X,()) ⟨l8.le_refl _,?_,Y,by show g.length<=_;omega⟩ rfl (fun w s=>?_)
     ·rw[z0,h8,<-zm,<-q3];simp
     ·show Hp F2 w (Of D M S v b n (pM b.x d T (j+1)) U g X R);rw[wB b.x d T Q (by rw[h8])];exact C6 (A:=[_,_,_,_,_]) (J:=[.blk q9 _]) tk s
   rintro F3 k0 o4 _ ⟨h1,h2,h3,h4⟩;refine A1 ?_;exact P0 (i:=(j,F2,g,X,(),())) (j+1,F3,k0,o4,(),()) ⟨Q,q8.trans h1,h2,h3,h4⟩ qg sub rfl i_
  ·have Q:j=d.length:=(by have:=zq h;omega);refine w8 ?_;refine y6 (F2,g,X,()) ⟨q8,?_,Y⟩ rfl (fun w s=>by rw[Q] at s;exact s);rw[Q,<-a1,Qj] at q3;exact q3
 rintro F3 g X _ ⟨q8,q3,Y⟩;have q4:pM b.x d T d.length=(d.map (X8 b.x)).map (·.1)++T:=by unfold pM;rw[jq x4,J7,j8]
 have y0:n=((d.map (X8 b.x)).map (·.1)++T).length:=by simp[hn]
 rw[q4];refine JS ?_;refine H4 (A:=[l5 U.1 ((d.map (X8 b.x)).map (·.1)++T) U.2,u7 X.1 g X.2]) (v:=.tuple #[yF (Ht v ((d.map (X8 b.x)).map (·.1)++T)) U.1 U.2,.slice X.1 g.length X.2]) q8 ⟨U,g,X,rfl,rfl,q3,Y⟩ ?_;have ev:yF (Ht v ((d.map (X8 b.x)).map (·.1)++T)) U.1 U.2=.agg #[B v.box,.int .u64 (v.val:Nat),.slice U.1 n U.2]:=by rw[y0]
 rw[ev];exact D4 rfl rfl rfl ud rfl _ qh (fun w s=>by unfold l5;rw[<-y0];exact C6 (A:=[_,_]) (J:=[_,_,_]) tk s)
