import Derived.Test.YtmcepdopookilaaGreatDoorutx13
set_option maxHeartbeats 16000000
set_option maxRecDepth 8000
set_option linter.unusedVariables false
set_option linter.unusedSimpArgs false
set_option linter.defProp false
namespace Go.Proofs.YtmcepdopookilaaGreatDoor.Rp
open Go Go.Sl Go.RowKit Go.Proofs.Tryz
theorem nv{H H' a:List As}{x:As}(u:M3 H x a H'):∀M:List As,M3 (M++H) x a (M++H')
 |[]=>u
 |_::M=>.there (nv u M)
theorem wq(z:KA)(i:Nat)(m:KM):KA.own ⟨z.l.set i m,z.a,z.c⟩=.own (.slice z.a z.l.length z.c) 127 6 ((z.l.set i m).flatMap bE):=by
 show As.own (.slice z.a (z.l.set i m).length z.c) _ _ _=_;rw[js]
abbrev Hf(m:KM)(n:Nat):KM:=⟨{m.k with kids:=n},m.a,m.c⟩
theorem mO.same{z:KA}{i:Nat}{m:KM}{B:List KA}:∀N:List KA,mO (N++z::B) (N++⟨z.l.set i m,z.a,z.c⟩::B)
 |[]=>.cons ⟨rfl,rfl,by rw[js];exact z1 _⟩ (mO.refl _)
 |y::N=>.cons ⟨rfl,rfl,z1 _⟩ (mO.same N)
theorem gB{P:Program}{N:Nat}{K R:y6}{E:List (Nat×y6)}{L:G0}{F:l6}{ops:Array Oper}{rest:List Oper}{ty:TypeId}{pos:String}{af:Array Edge}{t:TypeId}{i:KT}{W:List As}{a:Option Addr}{at_ n q:Nat}{x y:Operand}[hs:HS P t 1](p:∃M z B,i.y::i.D=M++z::B/\z.a=a/\at_<z.l.length)(b:wj i)(g:n<=2000000000)(h:∀j:KT,cL i j->wj j->j.y.a=i.y.a->j.y.c=i.y.c->j.y.l.length=i.y.l.length->GL P N ops rest K E R L F (W++wi j))(hx:ev L x=some (.pointer (N0 a q)))(hv:ev L y=some (.int .i64 (n:Nat)))(hq:q=at_*6+1):GL P N ops (⟨none,.store t x y,ty,pos,af,none⟩::rest) K E R L F (W++wi i):=by
 obtain⟨M,z,B,e,rfl,f⟩:=p;have hg:∀j:KT,j.y::j.D=M++⟨z.l.set at_ (Hf z.l[at_] n),z.a,z.c⟩::B->i.y.l.length<=j.y.l.length->j.S=i.S->cL i j:=fun j d r s=>⟨r,⟨[],_,rfl,by rw[e,d];exact mO.same M⟩,[],s⟩
 cases M with
 |nil=>
  obtain⟨rfl,rfl⟩:=List.cons.inj e;refine A9 (C:=bE) (l:=i.y.l) (i:=at_) (j:=1) (Hf i.y.l[at_] n) ao f rfl (H':=W++wi ⟨⟨i.y.l.set at_ (Hf i.y.l[at_] n),i.y.a,i.y.c⟩,i.D,i.S⟩) (h _ (hg _ rfl (by rw[js];exact z1 _) rfl) ⟨by rw[js];exact b.len,fun m k=>?_,fun m k=>?_⟩ rfl rfl (by rw[js])) (hx:=hx) (hv:=hv) (len:=i.y.l.length) (c:=i.y.c) (te:=127) (u:=nv (by show M3 _ _ _ (KA.own ⟨_,_,_⟩::_);rw[wq];exact .here) W) (hq:=hq)
  ·rcases jd k with d|rfl
   ·exact b.set m d
   ·have o:=b.set _ (zx f);exact⟨o.1,o.2.1,o.2.2.1,g⟩
  ·rcases jd k with d|rfl
   ·exact b.own m d
   ·show(i.y.l[at_]).k.set=[]\/V1 (i.y.l[at_]).a (i.y.l[at_]).k.set (i.y.l[at_]).c∈i.S;exact b.own _ (zx f)
 |cons y0 M=>
  obtain⟨rfl,v⟩:=List.cons.inj e;refine A9 (C:=bE) (l:=z.l) (i:=at_) (j:=1) (Hf z.l[at_] n) ao f rfl (len:=z.l.length) (c:=z.c) (te:=127) (H':=W++wi ⟨i.y,M++⟨z.l.set at_ (Hf z.l[at_] n),z.a,z.c⟩::B,i.S⟩) (h _ (hg _ rfl (z1 _) rfl) ⟨b.len,b.set,b.own⟩ rfl rfl rfl) (hx:=hx) (hv:=hv) (u:=nv (.there ?_) W) (hq:=hq);rw[show i.D=M++z::B from v,jn,jn,Qu,Qu,zh,zh,wq];exact nv .here _
theorem sm{s:Bs}{i a:KT}{p n b:Nat}(h:pr s (fun(i:KT) p c p'=>p<=p'/\p'<=s.length/\cL i c/\wj c) i p n a b):p<=b/\b<=s.length/\cL i a/\wj a:=by
 induction h with
 |one h=>exact h
 |more h hl hr ih=>exact⟨by omega,hr.2.1,ih.2.2.1.trans hr.2.2.1,hr.2.2.2⟩
theorem ub{s:Bs}{i c:KT}{p n a:Nat}(h:pr s (fun(i:KT) p b p'=>p<=p'/\p'<=s.length/\cL i b/\wj b) i p n c a):n<=a+1:=by
 induction h with
 |one h=>omega
 |more h hl hr ih=>have:=hr.1;omega
theorem gC{Q X Y:As}{Z:List As}:((Q::(Z++[X,Y]))++[]).Perm (X::Y::Q::Z):=by
 rw[z7];exact(kz (l₁:=Q::Z) (l₂:=[X,Y]))
theorem Bl{u i:KT}{at_:Nat}(h:cL u i)(ha:at_<u.y.l.length):∃M z B,i.y::i.D=M++z::B/\z.a=u.y.a/\at_<z.l.length:=by
 obtain⟨N,B,e,k⟩:=h.arr
 cases k with
 |@cons x y l m k1 k2=>exact⟨N,y,m,e,k1.1,Nat.lt_of_lt_of_le ha k1.2.2⟩
theorem pA(b:Nat)(s:Bs)(hs:s.length<=1000000000)(d:Nat)(Z:d<=100)(hk:d<=8->ri 345 b s (d+1)):ri 284 b s d:=fun p c x t hp ht=>by
 refine B7 22 func284 rfl rfl rfl ?_;intro F hg;refine p_ ?_;intro r;refine p_ ?_;intro y;refine p_ ?_;refine f_ ((y8 rfl rfl).eq (v':=.agg (bE ⟨⟨1,0,[],[],0,[]⟩,none,0⟩).toArray) rfl) ?_;refine x4 [pB r b,.blk y (.cells #[.int .i64 (d:Nat)] 3)] rfl (eR b s p c x t ⟨⟨1,0,[],[],0,[]⟩,none,0⟩ ht.len) (fun w f=>f.perm ((List.Perm.swap _ _ _).trans (kz (l₁:=[_,_])))) qw rfl rfl (l6.le_refl _) (fun v h=>h) ?_;rintro v A ⟨u,rfl,rfl,h3,h4,C,J⟩;refine I7 (fun w f=>f.perm kz) ?_;simp only[Q7,j7];refine p_ ?_;have ku:=cv ht h4 C J ⟨by simp,by simp,by simp,by simp⟩ (.inl rfl);have M:t.y.l.length<u.y.l.length:=by rw[C];simp
 obtain⟨q,hq⟩:=o7 (decide (d<=8));refine p_ ?_;refine f_ ((F_ rfl rfl).eq (v':=.bool q) (qn ((qz).trans hq.symm))) ?_;refine n5 (G8 q) qw rfl (fun v h=>h.2) ?_;rintro v A ⟨S,rfl,rfl⟩;refine u7 ?_;have O:=qr (hq.symm.trans S);refine B4 (a:=u.y.a) (n:=u.y.l.length) (c:=u.y.c) (sz:=6) (xs:=qG u.y.l) ud ?_;intro _ _ m;replace m:=m qb;rw[eQ];refine u7 ?_;refine D8 [0,6] [4,8,9,11] [pB r b] 12 ?_;refine wd [0,1,2,3,5,6,7] ?_;refine bv 4 8 rfl rfl i6 ?_ ?_;refine r_ (by first|exact E8 rfl ud (by rfl)|exact i8 rfl (fun w f=>vd f (by assumption) (by rfl))) ?_;refine ah ?_;refine h_ 8 rfl i6 ?_;refine x4 [] rfl (nr b s hs 344 [l9 r,l9 y] Gl (px c) (nu x) (fun i=>wi i++[pB r b,.blk y (.cells #[.int .i64 (d:Nat)] 3)]) (fun i p=>wj i/\cL u i) (fun i p z l=>p<=l/\l<=s.length/\cL i z/\wj z) (fun _ _=>True) (fun i p z l h hp o=>⟨o.1,o.2.1,o.2.2.2,h.2.trans o.2.2.1⟩) (fun _ _ h=>h) (fun i p h hp=>(sj b r y s d Z (hk O) p c x i hp h.1).mono (fun _ h=>h) (fun v A ⟨u,l,T,U,e,V,C,J⟩=>⟨u,l,⟨T,U,C,J⟩,e,V⟩) (fun v h=>⟨trivial,h⟩)) u p ⟨ku,cL.refl u⟩ hp) (fun w f=>by rw[<-eQ b s p c x u] at f;exact f.perm gC.symm) pre rfl rfl (l6.le_refl _) (fun v h=>h.2) ?_;rintro v A ⟨n,i,l,g,X,rfl,rfl⟩;refine I7 (fun w f=>f.perm gC) ?_;rw[eQ];obtain⟨i1,i2,D,Q⟩:=sm g;have Y:=D.len;refine Ac (a:=i.y.a) (n:=i.y.l.length) (c:=i.y.c) (sz:=6) (xs:=qG i.y.l) ud ?_;intro _ _ k;replace k:=k qb;refine xB ?_;refine h_ 9 rfl i6 ?_
 first|refine f_ (m8 rfl m rfl qb) ?_|refine f_ (m8 rfl k rfl qb) ?_
 refine E6 [10] ?_;refine h_ 11 rfl i6 ?_;(first|refine gB (W:=[_,_,_]) (i:=i) (a:=u.y.a) (at_:=t.y.l.length) (n:=n) (Bl D M) Q (by have:=ub g;omega) ?_ rfl rfl x6|refine gB (W:=[_,_,_]) (i:=i) (a:=i.y.a) (at_:=t.y.l.length) (n:=n) ⟨[],i.y,i.D,rfl,rfl,by omega⟩ Q (by have:=ub g;omega) ?_ rfl rfl x6);intro j j1 j2 j3 j4 j5;refine E6 [] ?_
 rotate_left 1
 refine x4 [] rfl (nr b s hs 344 [l9 r,l9 y] Gl (px c) (nu x) (fun i=>wi i++[pB r b,.blk y (.cells #[.int .i64 (d:Nat)] 3)]) (fun i p=>wj i/\cL u i) (fun i p z l=>p<=l/\l<=s.length/\cL i z/\wj z) (fun _ _=>True) (fun i p z l h hp o=>⟨o.1,o.2.1,o.2.2.2,h.2.trans o.2.2.1⟩) (fun _ _ h=>h) (fun i p h hp=>(sj b r y s d Z (hk O) p c x i hp h.1).mono (fun _ h=>h) (fun v A ⟨u,l,T,U,e,V,C,J⟩=>⟨u,l,⟨T,U,C,J⟩,e,V⟩) (fun v h=>⟨trivial,h⟩)) u p ⟨ku,cL.refl u⟩ hp) (fun w f=>by rw[<-eQ b s p c x u] at f;exact f.perm gC.symm) pre rfl rfl (l6.le_refl _) (fun v h=>h.2) ?_;rintro v A ⟨n,i,l,g,X,rfl,rfl⟩;refine I7 (fun w f=>f.perm gC) ?_;rw[eQ];obtain⟨i1,i2,D,Q⟩:=sm g;have Y:=D.len;refine Ac (a:=i.y.a) (n:=i.y.l.length) (c:=i.y.c) (sz:=6) (xs:=qG i.y.l) ud ?_;intro _ _ k;replace k:=k qb;refine ah ?_;refine h_ 4 rfl i6 ?_;refine r_ (by first|exact E8 rfl ud (by rfl)|exact i8 rfl (fun w f=>vd f (by assumption) (by rfl))) ?_;refine xB ?_;refine h_ 9 rfl i6 ?_
 first|refine f_ (m8 rfl m rfl qb) ?_|refine f_ (m8 rfl k rfl qb) ?_
 refine E6 [10] ?_;refine h_ 11 rfl i6 ?_;(first|refine gB (W:=[_,_,_]) (i:=i) (a:=u.y.a) (at_:=t.y.l.length) (n:=n) (Bl D M) Q (by have:=ub g;omega) ?_ rfl rfl x6|refine gB (W:=[_,_,_]) (i:=i) (a:=i.y.a) (at_:=t.y.l.length) (n:=n) ⟨[],i.y,i.D,rfl,rfl,by omega⟩ Q (by have:=ub g;omega) ?_ rfl rfl x6);intro j j1 j2 j3 j4 j5;refine E6 [] ?_
 rotate_left 1
 all_goals (refine u7 ?_)
 all_goals exact m6 rfl _ ⟨j,l,i1,i2,rfl,rfl,(h3.trans D).trans j1,j2⟩ (fun w f=>by rw[eQ,j3,j4,j5];exact f.drop.drop)
theorem Hg(b:Nat)(s:Bs)(hs:s.length<=1000000000):∀n a,a<=50->10<=a+n->n<=20->ri 284 b s a/\ri 345 b s a
 |0,a,hd,h,hn=>by
  have c:a<=8->ri 345 b s (a+1):=fun d=>absurd h qb;have hg:=pA b s hs a qb c;exact⟨hg,wo b s hs a qb hg c⟩
 |n+1,a,hd,h,hn=>by
  have c:a<=8->ri 345 b s (a+1):=fun d=>(Hg b s hs n (a+1) qb qb qb).2;have hg:=pA b s hs a qb c;exact⟨hg,wo b s hs a qb hg c⟩
theorem DI(b:Nat)(s:Bs)(hs:s.length<=1000000000)(c:CM)(p:Nat)(hp:p<=s.length):Cx prog 215 [l9 b] Gl [H8 b s p (P7 c) G_] (fun v A=>∃(d:List KY) (p':Nat) (x:CL) (Z:List As),p'<=s.length/\d.length<=32/\(∀k∈d,EQ k)/\v=.tuple #[]/\A=H8 b s p' {P7 c with keys:=d} x::Z/\sh {P7 c with keys:=d} x Z) (fun v=>v=N1):=by
 refine B7 6 func215 rfl rfl rfl ?_;intro F hg;refine p_ ?_;refine n5 (D7 b s [32] p (P7 c) G_ qb hp qp) pre rfl (fun v h=>h.2) ?_;rintro v A ⟨l,f,rfl,rfl⟩;refine u7 ?_;have n:=C_ f x6;refine O7 127 6 ?_;refine p_ ?_;refine x4 [] rfl ((Hg b s hs 9 1 qb qb qb).1 l (P7 c) G_ ⟨⟨[],none,0⟩,[],[]⟩ n.2.2 ⟨by simp,fun m a=>by simp at a,fun m a=>by simp at a⟩) (fun w g=>x8.hp tk g) pre rfl rfl (l6.le_refl _) (fun v h=>h) ?_;rintro v A ⟨u,p',r,o,rfl,rfl,t,i⟩;rw[z7];refine u7 ?_;refine m6 rfl _ ⟨u.y.l.map KM.k,p',nu G_ u,wi u,o,by rw[zr];exact i.len,fun k q=>?_,rfl,rfl,fun h y j=>⟨o0.nil _ _,o0.nil _ _,⟨u.y.l,rfl,A3.rd j .del,fun m a=>?_⟩,o0.nil _ _⟩⟩ fun w g=>g
 ·obtain⟨m,a,rfl⟩:=jx.1 q;exact i.set m a
 ·rcases i.own m a with e|e
  ·rw[e];exact o0.nil _ _
  ·exact dR j (.tail _ (K3 _ e))
def Od:Nat->FuncId
 |1=>207
 |2=>207
 |3=>207
 |4=>207
 |5=>207
 |6=>208
 |7=>209
 |8=>210
 |9=>210
 |10=>211
 |11=>211
 |12=>212
 |13=>213
 |14=>214
 |15=>215
 |16=>216
 |17=>217
 |18=>218
 |_=>207
abbrev fnV(k:Nat):Value:=if k=0 then .nilFunc else .func (.func (Od k)) #[] #[]
abbrev Me(k:Nat):Value:=.tuple #[.agg #[.int .i64 (k:Nat),.bool (decide (15<=k)),fnV k],.bool (decide (k≠0))]
theorem Mf{w:Bs}(h:w∉vu):H6 w=0:=zk h
theorem mi(w:Bs):Pu prog 133 [B w] (fun _=>True) (Me (H6 w)):=by
 refine b_ 60 func133 rfl rfl rfl ?_;intro F _;refine p_ ?_;intro u;refine CO ?_ ?_<;>intro k
 ·obtain rfl:=qr k;refine bS ?_;exact D2 rfl rfl rfl ud rfl [] ⟨by rw[show H6 _=1 from by decide];rfl,rfl⟩ (fun w a=>a.dropAll)
 refine bD ?_ ?_<;>intro l
 ·obtain rfl:=qr l;refine bS ?_;exact D2 rfl rfl rfl ud rfl [] ⟨by rw[show H6 _=2 from by decide];rfl,rfl⟩ (fun w a=>a.dropAll)
 refine bD ?_ ?_<;>intro m
 ·obtain rfl:=qr m;refine bS ?_;exact D2 rfl rfl rfl ud rfl [] ⟨by rw[show H6 _=3 from by decide];rfl,rfl⟩ (fun w a=>a.dropAll)
 refine bD ?_ ?_<;>intro n
 ·obtain rfl:=qr n;refine bS ?_;exact D2 rfl rfl rfl ud rfl [] ⟨by rw[show H6 _=4 from by decide];rfl,rfl⟩ (fun w a=>a.dropAll)
 refine bD ?_ ?_<;>intro o
 ·obtain rfl:=qr o;refine bS ?_;exact D2 rfl rfl rfl ud rfl [] ⟨by rw[show H6 _=5 from by decide];rfl,rfl⟩ (fun w a=>a.dropAll)
 refine bD ?_ ?_<;>intro p
 ·obtain rfl:=qr p;refine bS ?_;exact D2 rfl rfl rfl ud rfl [] ⟨by rw[show H6 _=6 from by decide];rfl,rfl⟩ (fun w a=>a.dropAll)
 refine bD ?_ ?_<;>intro q
 ·obtain rfl:=qr q;refine bS ?_;exact D2 rfl rfl rfl ud rfl [] ⟨by rw[show H6 _=7 from by decide];rfl,rfl⟩ (fun w a=>a.dropAll)
 refine bD ?_ ?_<;>intro r
 ·obtain rfl:=qr r;refine bS ?_;exact D2 rfl rfl rfl ud rfl [] ⟨by rw[show H6 _=8 from by decide];rfl,rfl⟩ (fun w a=>a.dropAll)
 refine bD ?_ ?_<;>intro s
 ·obtain rfl:=qr s;refine bS ?_;exact D2 rfl rfl rfl ud rfl [] ⟨by rw[show H6 _=9 from by decide];rfl,rfl⟩ (fun w a=>a.dropAll)
 refine bD ?_ ?_<;>intro b
 ·obtain rfl:=qr b;refine bS ?_;exact D2 rfl rfl rfl ud rfl [] ⟨by rw[show H6 _=10 from by decide];rfl,rfl⟩ (fun w a=>a.dropAll)
 refine bD ?_ ?_<;>intro c
 ·obtain rfl:=qr c;refine bS ?_;exact D2 rfl rfl rfl ud rfl [] ⟨by rw[show H6 _=11 from by decide];rfl,rfl⟩ (fun w a=>a.dropAll)
 refine bD ?_ ?_<;>intro d
 ·obtain rfl:=qr d;refine bS ?_;exact D2 rfl rfl rfl ud rfl [] ⟨by rw[show H6 _=12 from by decide];rfl,rfl⟩ (fun w a=>a.dropAll)
 refine bD ?_ ?_<;>intro e
 ·obtain rfl:=qr e;refine bS ?_;exact D2 rfl rfl rfl ud rfl [] ⟨by rw[show H6 _=13 from by decide];rfl,rfl⟩ (fun w a=>a.dropAll)
 refine bD ?_ ?_<;>intro f
 ·obtain rfl:=qr f;refine bS ?_;exact D2 rfl rfl rfl ud rfl [] ⟨by rw[show H6 _=14 from by decide];rfl,rfl⟩ (fun w a=>a.dropAll)
 refine bD ?_ ?_<;>intro g
 ·obtain rfl:=qr g;refine bS ?_;exact D2 rfl rfl rfl ud rfl [] ⟨by rw[show H6 _=15 from by decide];rfl,rfl⟩ (fun w a=>a.dropAll)
 refine bD ?_ ?_<;>intro h
 ·obtain rfl:=qr h;refine bS ?_;exact D2 rfl rfl rfl ud rfl [] ⟨by rw[show H6 _=16 from by decide];rfl,rfl⟩ (fun w a=>a.dropAll)
 refine bD ?_ ?_<;>intro i
 ·obtain rfl:=qr i;refine bS ?_;exact D2 rfl rfl rfl ud rfl [] ⟨by rw[show H6 _=17 from by decide];rfl,rfl⟩ (fun w a=>a.dropAll)
 refine bD ?_ ?_<;>intro j
 ·obtain rfl:=qr j;refine bS ?_;exact D2 rfl rfl rfl ud rfl [] ⟨by rw[show H6 _=18 from by decide];rfl,rfl⟩ (fun w a=>a.dropAll)
 refine bS ?_;refine D2 rfl rfl rfl ud rfl [] ⟨?_,rfl⟩ (fun w a=>a.dropAll);rw[Mf (w:=w) ?_]
 ·rfl
 ·intro t;simp only[vu,ky,W5,or_false] at t;simp only[Zw] at k l m n o p q r s b c d e f g h i j
  simp_all
theorem Hh{c d:UInt8}:decide ([c]=[d])=decide (c=d):=zp.2 x6
theorem Hi:vL 135 (fun c=>!decide (c=32)):=fun c=>by
 refine b_ 5 func135 rfl rfl rfl ?_;intro F _;refine y9 ?_;refine f_ ((E1 rfl rfl).eq (jk (fun b=>Value.bool (!b)) (Hh (d:=32)))) ?_;refine C8 ?_;exact d_ rfl rfl [] qh i_
theorem Mg:vL 205 vA:=fun c=>by
 obtain⟨a,f⟩:=o7 (decide (c=43));obtain⟨h,g⟩:=o7 (P1 c);have e:vA c=(!a&&h):=by unfold vA;rw[<-f,<-g,W3]
 rw[e];refine b_ 9 func205 rfl rfl rfl ?_;intro F _
 cases a
 all_goals (
  refine y9 ?_;refine f_ ((E1 rfl rfl).eq (jk (fun b=>Value.bool (!b)) ((Hh (d:=43)).trans f.symm))) ?_;refine y9 ?_;(first|refine u_ ?_|(refine v_ ?_;refine e_ rfl (pb c) qw rfl ?_;rw[<-g]));refine y9 ?_)
 all_goals (refine A2 ?_;exact d_ rfl rfl [] qh i_)
theorem Px(b:Nat)(s:Bs)(hs:s.length<=1000000000):Ct prog 131 [l9 b] (fun _=>True) [H8 b s 0 ir G_] (fun v A=>v=.bool (cj s)/\∃p c,A=[H8 b s p c G_]/\(cj s=true->p=(aZ s).length+1/\c=first s)):=by
 have m:(aZ s).length<=s.length:=by have:=bQ (q:=vA) (s:=s) (p:=0) (zw _);rw[jv] at this;exact this
 obtain⟨a,j⟩:=o7 (decide (aZ s=[]));obtain⟨d,l⟩:=o7 (decide (32<(aZ s).length));obtain⟨f,i⟩:=o7 (I1 s [32] (aZ s).length);have e:cj s=(!a&&!d&&f):=by
  unfold cj;rw[j,l,i];congr 1;congr 1
  ·cases aZ s<;>simp
  ·rw[<-decide_not];exact zp.2 qb
 rw[e];refine b_ 23 func131 rfl rfl rfl ?_;intro F _;refine y9 ?_;refine c_ (eO 205 vA Mg b s 0 ir G_ qb (zw _)) qw ?_;rintro v A ⟨rfl,rfl⟩;rw[jv,show N9 vA s 0=aZ s from rfl];refine p_ ?_;refine n7 (ι:=Nat) (fun p=>(!a&&!d&&f)=true->p=(aZ s).length+1) (fun _=>[(0,l9 b),(3,B (aZ s)),(17,.bool (!(!a&&!d&&f)))]) (fun p=>[H8 b s p ir G_]) ?_ ?_
 ·cases a<;>cases d
  all_goals (
   refine p_ ?_;refine f_ ((B_ rfl rfl).eb j) ?_;refine E5 ?_;(first|refine u_ ?_|(refine v_ ?_;refine f_ ((D_ rfl rfl).eq (qn ((qz).trans l.symm))) ?_));refine E5 ?_;(first|refine u_ ?_|(refine v_ ?_;refine c_ (S5 b s [32] (aZ s).length ir G_ qb m qp) qw ?_;rintro v A ⟨rfl,rfl⟩;rw[<-i]));refine y9 ?_)
  ·exact g_ _ (fun k=>by
    have k3:f=true:=(by simpa using k);unfold H4;rw[<-i,k3];rfl) i_
  all_goals exact g_ (aZ s).length (fun k=>by simp at k) i_
 rintro p hp;refine N8 ?_ ?_<;>intro h
 ·refine C8 ?_;have g:(!a&&!d&&f)=false:=by revert h;cases a<;>cases d<;>cases f<;>simp
  rw[g];exact d_ rfl rfl [H8 b s p ir G_] ⟨rfl,p,ir,rfl,fun k=>by cases k⟩ i_
 ·have g:(!a&&!d&&f)=true:=by revert h;cases a<;>cases d<;>cases f<;>simp
  refine KN ?_;rw[g];exact d_ rfl rfl [H8 b s p (first s) G_] ⟨rfl,p,first s,rfl,fun _=>⟨hp g,rfl⟩⟩ i_
def bF(s:Bs)(c:CM)(p:Nat)(r:Option (CM×Nat)):Prop:=
 if c.kind=15 then r=none\/∃ks e,r=some ({c with keys:=ks},e)/\ks.length<=32/\∀k∈ks,EQ k
 else r=T5 c s p
theorem jY{c:CM}{s:Bs}{p:Nat}(h:c.cond=false):((I9 c s p).map fun q=>({q.1 with cond:=I1 s ci q.2},H4 s ci q.2))=lg c s p:=by
 unfold lg
 cases hn:I9 c s p with
 |none=>rfl
 |some r=>
  obtain⟨w,e,rfl⟩:=cr hn;simp only[Qj];unfold H4
  cases hl:I1 s ci e
  ·simp[h,hl]
  ·simp[hl]
theorem dm{α β:Type}{o:Option α}{f:α->β}{r:β}(h:o.map f=some r):∃q,o=some q/\f q=r:=kx.1 h
abbrev Ra(r:CM×Nat):Prop:=r.1.set=[]/\r.1.a5M=[]/\r.1.keys=[]/\r.1.a5U=[]
theorem fO{c:CM}{p:Nat}{r:CM×Nat}(h:some (P7 c,p)=some r):Ra r:=by cases h;exact⟨rfl,rfl,rfl,rfl⟩
theorem yI{c:CM}{s:Bs}{p:Nat}{r:CM×Nat}(h:((H_ s Ap p).map fun e=>(P7 c,e))=some r):Ra r:=by
 obtain⟨q,_,rfl⟩:=dm h;exact⟨rfl,rfl,rfl,rfl⟩
theorem DJ{c:CM}{s:Bs}{p:Nat}{r:CM×Nat}(h:dz (P7 c) s p=some r):Ra r:=by
 unfold dz at h;obtain⟨q,_,a⟩:=zc.1 h;obtain⟨t,_,rfl⟩:=dm a;exact⟨rfl,rfl,rfl,rfl⟩
theorem lx{c:CM}{s:Bs}{p:Nat}{r:CM×Nat}(h:I9 (P7 c) s p=some r):Ra r:=by
 obtain⟨w,e,rfl⟩:=cr h;exact⟨rfl,rfl,rfl,rfl⟩
theorem so{c:CM}{s:Bs}{p:Nat}{r:CM×Nat}(h:lg (P7 c) s p=some r):Ra r:=by
 unfold lg at h;obtain⟨q,a,rfl⟩:=dm h;have:=lx a;split<;>exact this
theorem Hj{c:CM}{s:Bs}{p:Nat}{r:CM×Nat}(h:jo (P7 c) s p=some r):Ra r:=by
 unfold jo at h;obtain⟨q,_,a⟩:=zc.1 h;split at a
 ·obtain⟨t,_,rfl⟩:=dm a;exact⟨rfl,rfl,rfl,rfl⟩
 ·cases a;exact⟨rfl,rfl,rfl,rfl⟩
abbrev W_(f:FuncId)(b:Nat)(s:Bs)(c:CM)(p:Nat):Prop:=Cx prog f [l9 b] Gl [H8 b s p (P7 c) G_] (fun v A=>∃r x Z,bF s (P7 c) p (some r)/\v=.tuple #[]/\A=H8 b s r.2 r.1 x::Z/\sh r.1 x Z) (fun v=>bF s (P7 c) p none/\v=N1)
theorem W_.of_m{f:FuncId}{b:Nat}{s:Bs}{a:CM->Nat->Option (CM×Nat)}(h:si f b s a){c:CM}{p:Nat}(hp:p<=s.length)(d:c.kind≠15)(e:a (P7 c) p=T5 (P7 c) s p):W_ f b s c p:=
 (h c p hp).mono (fun _ h=>h) (fun v A ⟨r,x,Z,g,i,j,k⟩=>⟨r,x,Z,by unfold bF;rw[zk d,<-e];exact g.symm,i,j,k⟩) (fun v h=>⟨by unfold bF;rw[zk d,<-e];exact h.1.symm,h.2⟩)
theorem Mh(b:Nat)(s:Bs)(hs:s.length<=1000000000)(c:CM)(p:Nat)(hp:p<=s.length)(l:1<=c.kind)(d:c.kind<=18):W_ (Od c.kind) b s c p:=by
 by_cases h15:c.kind=15
 ·rw[h15];show W_ 215 b s c p;exact(DI b s hs c p hp).mono (fun _ h=>h) (fun v A ⟨e,f,x,Z,m,i,a3,a4,a5,j⟩=>⟨({P7 c with keys:=e},f),x,Z,by unfold bF;rw[zu h15];exact .inr ⟨e,f,rfl,i,a3⟩,a4,a5,j⟩) (fun v h=>⟨by unfold bF;rw[zu h15];exact .inl rfl,h⟩)
 obtain⟨k,a⟩:∃k,c.kind=k:=⟨_,rfl⟩;have g:k<=18:=a▸d;rw[a]
 match k,a,g with
 |0,a,_=>omega
 |1,a,_=>exact W_.of_m (si.of_x (cq b s) fun c p r h=>fO h) hp h15 ((by simp[T5,a]))
 |2,a,_=>exact W_.of_m (si.of_x (cq b s) fun c p r h=>fO h) hp h15 ((by simp[T5,a]))
 |3,a,_=>exact W_.of_m (si.of_x (cq b s) fun c p r h=>fO h) hp h15 ((by simp[T5,a]))
 |4,a,_=>exact W_.of_m (si.of_x (cq b s) fun c p r h=>fO h) hp h15 ((by simp[T5,a]))
 |5,a,_=>exact W_.of_m (si.of_x (cq b s) fun c p r h=>fO h) hp h15 ((by simp[T5,a]))
 |6,a,_=>exact W_.of_m (si.of_x (Dx b s hs) fun c p r h=>yI h) hp h15 ((by simp[T5,a]))
 |7,a,_=>exact W_.of_m (si.of_x (GU b s hs) fun c p r h=>DJ h) hp h15 ((by simp[T5,a]))
 |8,a,_=>exact W_.of_m (si.of_x (vZ b s hs) fun c p r h=>so ((jY rfl).symm.trans h)) hp h15 ((jY rfl).trans (by simp[T5,a]))
 |9,a,_=>exact W_.of_m (si.of_x (vZ b s hs) fun c p r h=>so ((jY rfl).symm.trans h)) hp h15 ((jY rfl).trans (by simp[T5,a]))
 |10,a,_=>exact W_.of_m (si.of_x (dY b s hs) fun c p r h=>lx h) hp h15 ((by simp[T5,a]))
 |11,a,_=>exact W_.of_m (si.of_x (dY b s hs) fun c p r h=>lx h) hp h15 ((by simp[T5,a]))
 |12,a,_=>exact W_.of_m (si.of_x (GV b s hs) fun c p r h=>Hj h) hp h15 ((by simp[T5,a]))
 |13,a,_=>exact W_.of_m (DE b s hs) hp h15 ((by simp[T5,a]))
 |14,a,_=>exact W_.of_m (DG b s hs) hp h15 ((by simp[T5,a]))
 |15,a,_=>exact absurd a h15
 |16,a,_=>exact W_.of_m (Hc b s hs) hp h15 ((by simp[T5,a]))
 |17,a,_=>exact W_.of_m (GZ b s hs) hp h15 ((by simp[T5,a]))
 |18,a,_=>exact W_.of_m (DF b s hs) hp h15 ((by simp[T5,a]))
 |k+19,a,g=>omega
end Go.Proofs.YtmcepdopookilaaGreatDoor.Rp
namespace Go.Sl
open Go Go.RowKit Go.Proofs.Tryz
section
variable{P:Program}{Q:Exit->Act->World->Prop}
theorem pC{ops:Array Oper}(ds:List Deferred):∀(l:List Oper) (a:Act) (w:World),wpList P ops Q l a w->wpList P ops (shQ ds Q) l (qQ ds a) w
 |[],a,w,h=>⟨a,rfl,h⟩
 |o::rest,a,w,h=>by
  have b:∀a w,wpList P ops Q rest a w->wpList P ops (shQ ds Q) rest (qQ ds a) w:=fun a w h=>pC ds rest a w h;have s:(qQ ds a).tmps=a.tmps:=rfl;have m:(qQ ds a).eval=a.eval:=by funext x;cases x<;>rfl
  unfold wpList at h⊢;rw[s];split
  ·rename_i g;simp only[g,if_true] at h;rcases h with h|⟨h,⟨i,j,t⟩⟩
   ·left;unfold Oper.wp at*;rw[m];generalize (execOp a.eval o).run P w=r at*
    cases r with
    |ok n w'=>
     cases n<;>simp only[Oper.upon] at*
     case value v=>rw[gc];exact b _ _ h
     case skip=>rw[gc];exact b _ _ h
     case defer d=>have p:=b _ _ h;rw[<-gc] at p;exact p
     case enter f args=>
      refine h.mono (fun e k q=>?_)
      cases e with
      |returned v=>simp only at q⊢;rw[gc];exact b _ _ q
      |panicked c=>exact⟨_,rfl,q⟩
      |outgrown=>obtain⟨i,j,q⟩:=q;exact⟨_,j,i,rfl,q⟩
     case row row args=>exact h.mono (fun v k q=>by rw[gc];exact b _ _ q)
    |halt x w'=>cases x<;>simp only[Oper.upon] at* <;>first|exact h.elim|exact⟨_,rfl,h⟩
   ·right;refine⟨?_,⟨_,j,i,rfl,t⟩⟩;unfold Oper.asks at*;rw[m];exact h
  ·rename_i g;simp only[g] at h;rw[gc];exact b _ _ h
theorem ue{N:Nat}{id:Nat}{l:List Oper}{K Kp R:y6}{L:G0}{F:l6}{H:List As}(ds:List Deferred)(h:GL P N l.toArray l K [(1,Kp)] R L F H)(c:∀a w,K a w->Q .normal (qQ ds a) w)(hp:∀(a:Act) (w:World) (v:Value),Kp ⟨a.tmps.push v,a.defers⟩ w->Q (.panic [{v:=v,recovered:=false}]) (qQ ds a) w)(d:∀a w,R a w->Q .ret (qQ ds a) w){a:Act}{w:World}(hf:G4 N L a)(f:Hp F w H):(Code.region id l.toArray false).wp P Q (qQ ds a) w:=by
 unfold GL at h;refine Code.wp_mono ?_ (wp_region_lit (pC ds _ _ _ (h a w hf f)));rintro e g i ⟨j,rfl,q⟩
 cases e with
 |normal=>exact c _ _ q
 |ret=>exact d _ _ q
 |exit id=>simp[MQ,List.lookup] at q
 |goto l=>exact q.elim
 |panic ch=>
  rcases q with⟨k,v,b,_⟩|⟨k,v,b,rfl,q⟩
  ·cases b
  ·injection b with b;subst b;exact hp _ _ _ q
 |outgrown=>exact q.elim
end
def Mi(N:Nat)(L:G0)(F:l6)(Hr:List As)(Pq:Value->Prop):y6:=fun a w=>∃tm v,a.tmps=tm.push v/\a.defers=[]/\G4 N L ⟨tm,[]⟩/\Hp F w Hr/\Pq v
section
variable{P:Program}{N:Nat}{K R:y6}{E:List (Nat×y6)}{L L':G0}{F:l6}{H Hr:List As}{ops:Array Oper}{rest:List Oper}{ty:TypeId}{pos:String}{af:Array Edge}{Pq Pq':Value->Prop}
theorem pD{o:Oper}{d:Nat}{f:FuncId}{vs:List Value}{j:l_->Prop}{C Rr:List As}{i:Value->List As->Prop}(hg:o.guard=none)(r:o.dst=some d)(O:Nat.blt d N=true)(s:∀ρ w,Fb L ρ->(execOp ρ o).run P w=.ok (.enter f vs.toArray) w)(hc:Cx P f vs j C i Pq)(hH:∀w,Hp F w H->Hp F w (C++Rr))(t:∀h,l_.le F.heap h->(∃bs,A3 h Rr bs)->j h)(Q:E.lookup 1=some (Mi N L' F Hr Pq'))(z:fo L' L)(S:∀w,Hp F w Rr->Hp F w Hr)(D:∀v,Pq v->Pq' v)(h:∀v A,i v A->GL P N ops rest K E R ((d,v)::L) F (A++Rr)):GL P N ops (o::rest) K E R L F H:=by
 unfold GL at h⊢;intro a w hf T;have g:=hH w T;obtain⟨bs,hs,x,k⟩:=g.own;obtain⟨y,U,e,l,m⟩:=A3.split hs;subst e;have n:j (E4 w y):=by
  refine t _ (fun b V p=>?_) ⟨U,A3.same m fun b J=>?_⟩
  ·have X:=g.keep b V p;have M:b∉y:=fun J=>(by rw[k b (by simp[J])] at p;cases p);simpa[E4,M,hp] using X
  ·have M:b∉y:=fun hc=>(j6.1 x).2.2 b hc b J rfl;simp[E4,M,hp]
 refine wpList_plain hg fun K' Y=>?_;unfold Oper.wp;rw[s _ w hf.agr,Oper.upon_enter];refine(hc w y l (j6.1 x).1 n).mono ?_;rintro e w' (⟨v,A,rfl,q,c⟩|⟨v,rfl,Z,c⟩)
 ·rw[r];exact Y _ _ (h v A q _ _ (hf.put O v) (g.back l m x k c))
 ·have u:=hf.sub z;exact .inr ⟨_,v,Q,rfl,a.tmps,v,rfl,hf.defers,⟨rfl,u.size,u.at_⟩,S _ (g.back l m x k c),D v Z⟩
theorem DK{d:Nat}{f:FuncId}{args:List Operand}{e:Array TypeId}{vs:List Value}{b:l_->Prop}{C:List As}{a:Value->List As->Prop}[HF P f](Rr:List As)(hx:rt L args=some vs)(hc:Cx P f vs b C a Pq)(hH:∀w,Hp F w H->Hp F w (C++Rr))(c:∀h,l_.le F.heap h->(∃bs,A3 h Rr bs)->b h)(j:Nat.blt d N=true)(k:E.lookup 1=some (Mi N L' F Hr Pq'))(g:fo L' L)(l:∀w,Hp F w Rr->Hp F w Hr)(i:∀v,Pq v->Pq' v)(h:∀v A,a v A->GL P N ops rest K E R ((d,v)::L) F (A++Rr)):GL P N ops (⟨some d,.call ⟨.value (.func f),args.toArray,e⟩,ty,pos,af,none⟩::rest) K E R L F H:=
 pD rfl rfl j (fun ρ w hf=>aT hx hf w) hc hH c k g l i h
theorem yJ{d:Nat}{x:Operand}{f:FuncId}{args:List Operand}{i:Array TypeId}{vs ps qs b:List Value}{c:l_->Prop}{C:List As}{a:Value->List As->Prop}[hF:HF P f](Rr:List As)(hv:ev L x=some (.func (.func f) ps.toArray qs.toArray))(hx:rt L args=some vs)(e:ps++vs++qs=b)(hc:Cx P f b c C a Pq)(hH:∀w,Hp F w H->Hp F w (C++Rr))(g:∀h,l_.le F.heap h->(∃bs,A3 h Rr bs)->c h)(l:Nat.blt d N=true)(m:E.lookup 1=some (Mi N L' F Hr Pq'))(j:fo L' L)(n:∀w,Hp F w Rr->Hp F w Hr)(k:∀v,Pq v->Pq' v)(h:∀v A,a v A->GL P N ops rest K E R ((d,v)::L) F (A++Rr)):GL P N ops (⟨some d,.call ⟨.value x,args.toArray,i⟩,ty,pos,af,none⟩::rest) K E R L F H:=
 pD rfl rfl l (fun ρ w hf=>by
  have o:=hf _ _ hv;have p:=aS hf hx;subst e;simp only[execOp,resolve,o,Deferred.ofValue,Zg,p,Sem.run_bind,Sem.run_pure,Result.andThen_ok,invoke];have:(ps.toArray++vs.toArray++qs.toArray:Array Value)=(ps++vs++qs).toArray:=by simp
  rw[this];exact hF.h _ w) hc hH g m j n k h
end
end Go.Sl
namespace Go.Proofs.YtmcepdopookilaaGreatDoor.Rp
open Go Go.Sl Go.RowKit Go.Proofs.Tryz
abbrev ES(g:Nat)(ra:Option Addr)(pre:List Nat)(rc:Nat)(Z:List As):List As:=.blk g (.cells #[.slice ra pre.length rc] 37)::U1 ra pre rc::Z
theorem Bn{g rc:Nat}{ra:Option Addr}{pre:List Nat}{Z:List As}(hz:Z.all As.isC=true):(ES g ra pre rc Z).all As.isC=true:=by show(true&&(true&&Z.all As.isC))=true;rw[hz];rfl
def Mj(ms:List KV)(v:Value)(A:List As):Prop:=∃a l c,v=.slice a l.length c/\A=[U1 a l c]/\Dw ms l
theorem pF{W a:World}(h:KeepsFrom 0 W a):KeepsWalks W a:=⟨h.size,fun k o b c=>h.same k o (zw _) b (by cases o<;>first|rfl|cases c)⟩
theorem yK(U V cs:Nat)(es:Array MapEntry)(X:List KV)(hm:N7 (.int .u64) es cs X)(hk:∀kv∈X,Ps kv)(hl:X.length<=1000000000):
  Ct prog 433 [.slice none 0 0,.func (.func 422) #[] #[l9 V]] (fun h=>h U=some (.map es cs)/\h V=some (.cells #[.map (some U)] 406 (0,0))) [] (Mj X):=by
 intro Y y hs u8 J;have q5:y=[]:=hs;subst q5;rw[N3] at J;refine(callsIn_wide (n:=5)).1 (callsIn_of_wp_marks func433 rfl trivial ?_ rfl);have q6:(Z_ Y).heap U=some (.map es cs):=by rw[M2];exact J.1
 have q7:(Z_ Y).heap V=some (.cells #[.map (some U)] 406 (0,0)):=by rw[M2];exact J.2
 refine(?_:GN none 5 prog 13 _ _ (ay 0 [.slice none 0 0,.func (.func 422) #[] #[l9 V]]) (Z_ Y) []) _ _ (T1 13 _ rfl) (ab Y);refine M6 ?_;refine I8 ?_;refine C6 ?_;refine L2 rfl rfl rfl ?_;intro i;refine p_ ?_;refine O9 ?_;refine M6 ?_;refine M6 ?_;refine I8 ?_;refine H9 1 ?_;refine O9 ?_;refine aU ?_;intro a C q8 j;have z:=q8.sub (L':=[(2,l9 i),(6,.func (.func 422) #[] #[l9 V])]) sub;obtain⟨F1,h8⟩:=o7 (q_ C [i]);have q9:C.heap[i]? =some (.cells #[.slice none 0 0] 37):=j.blk ud;have x0:Hp F1 C (ES i none [] 0 []):=by
  have h1:Hp (q_ C [i]) C [.blk i (.cells #[.slice none 0 0] 37)]:=Hp.start ⟨[i],[],rfl,⟨rfl,q9⟩,rfl⟩ x6;rw[h8];exact(h1.addNil 27 1).perm (.swap _ _ _)
 have h0:∀b,(F1.heap b).isSome=true->b<C.heap.size:=by rw[h8];exact Fk
 have Q:∀T A,Hp F1 T A->Hp (Z_ Y) T A:=fun T A k=>by
  rw[h8] at k;refine⟨k.os.trans j.os,k.tape.trans j.tape,k.output.trans j.output,fun b o t=>k.keep b o ?_,?_⟩
  ·have h1:=j.keep b o t;obtain⟨y,hs,_,hf⟩:=j.own;obtain⟨b1,b2,e,⟨e1,_⟩,_⟩:=hs;have h2:b≠i:=(by rintro rfl;have:=hf b (by rw[e,e1];simp);rw[this] at t;cases t);show E4 C [i] b=_;simp[E4,h2];exact h1
  ·obtain⟨y,hs,hn,hf⟩:=k.own;refine⟨y,hs,hn,fun b t=>?_⟩;have h1:=hf b t
   cases h2:(Z_ Y).heap b with
   |none=>rfl
   |some o=>
    have h3:=j.keep b o h2;have h4:E4 C [i] b=none:=h1;unfold E4 at h4;split at h4
    ·rename_i h5;obtain⟨y,hs,_,h9⟩:=j.own;obtain⟨b1,b2,e,⟨e1,_⟩,_⟩:=hs;simp at h5;subst h5;have:=h9 b (by rw[e,e1];simp);rw[this] at h2;cases h2
    ·exact absurd (h4.symm.trans h3) x6
 have x1:C.heap[U]? =some (.map es cs):=j.keep U _ q6;have x2:C.heap[V]? =some (.cells #[.map (some U)] 406 (0,0)):=j.keep V _ q7;refine wpIn_rangeFunc_ownH (F:=Fence.wide) (encs:=Pp) (Kp:=KeepsWalks) (S:=Dw X) (Sp:=fun _=>True) (N:=X.length) (w0:=C) rfl qp (z.eval (x:=.tmp 6) rfl) trivial (fun h7 w=>(inferInstance:HF prog 422).h h7 w) (vY U V cs es X hm hk C x1 x2 4) (fun h k=>walksK_t h k) (fun W l o o' hl x3 hc hw=>walksK_b W l o o' hl x3 hc hw) (Below.refl _ C) (fun x=>rfl)
  (fun pre W=>∃p q Z,Z.all As.isC=true/\Hp F1 W (ES i p pre q Z)) (fun _ _ _=>False)
  (fun s W T k0 hs hg hr=>by obtain⟨p,q,Z,hz,h⟩:=hs;exact⟨p,q,Z,hz,ae h (Bn hz) h0 hg hr⟩)
  (fun c s W T k0 hs hg hr=>hs) ⟨none,0,[],rfl,x0⟩
  (fun x a' W=>G4 13 [(5,.int .u64 (x:Nat)),(2,l9 i)] a') (fun x a' s W T k0 hs hg hr=>hs) ?_ ?_ ?_ ?_
 ·intro l pre x W K hI hK;obtain⟨p,q,Z,hz,hW⟩:=hI;have hc:(ES i p pre q Z).all As.isC=true:=Bn hz;obtain⟨y,hs,M,f⟩:=fy hW;have x9:G4 13 [(7,.int .u64 (x:Nat)),(2,l9 i)] {tmps:=a.tmps.setIfInBounds 7 (.int .u64 (x:Nat)),defers:=[]}:=by
   have h1:=(z.put (d:=7) rfl (.int .u64 (x:Nat))).sub (L':=[(7,.int .u64 (x:Nat)),(2,l9 i)]) sub;exact⟨rfl,h1.size,h1.at_⟩
  refine(?_:GN (some l) 3 prog 13 _ _ [(7,.int .u64 (x:Nat)),(2,l9 i)] (q_ W y) (ES i p pre q Z)) _ W (by simpa[Pp] using x9) M;refine dK (.inr (by intro o ho c;simp at ho;rcases ho with rfl;simp)) ?_;refine f_ oF ?_;refine F7 ?_;unfold At;intro a' T y0 k8;have u:∀B,KeepsFrom B W T:=iW hs hc k8 (fun b t=>by rw[hs.blks] at t;exact t);exact hK a' T (u _) (pF (u 0)) ⟨p,q,Z,hz,f _ _ k8⟩ (y0.sub sub)
 ·intro l pre x a' W v0 u1 hI hA u2;obtain⟨p,q,Z,hz,hW⟩:=hI;have hc:(ES i p pre q Z).all As.isC=true:=Bn hz;obtain⟨y,hs,M,f⟩:=fy hW;have k9:∀b∈y,b=i\/b∈(U1 p pre q).blks\/b∈Z.flatMap As.blks:=fun b t=>by
   rw[hs.blks] at t;simpa[ES,As.blks] using t
  refine(?_:GN (some l) 3 prog 13 _ _ [(5,.int .u64 (x:Nat)),(2,l9 i)] (q_ W y) (ES i p pre q Z)) a' W hA M;refine aU ?_;refine dK (.inr (by intro o ho c;simp at ho;rcases ho with rfl|rfl|rfl|rfl|rfl<;>simp)) ?_;refine r_ oR ?_;refine f_ oF ?_;refine gy (n:=x) ?_;intro q0;by_cases hroom:pre.length+1<=q
  ·refine fu (n:=pre.length) (m:=1) (xs:=nV pre) (news:=nV [x]) (e:=27) (sz:=1) rfl rfl uh (fun w hw=>(hw.ownN ud).2.2.1) rfl rfl (iq _) hroom rfl ?_;refine cd rfl rfl uh pa rfl rfl ?_;refine F7 ?_;unfold At;intro a2 w2 h9 O
   change _/\_/\_
   have u:∀B,KeepsFrom B W w2:=iW hs hc O (fun b t=>by
    simp only[Q2,zb];rcases k9 b t with rfl|h|h
    ·exact .inr (.inl (by simp[As.blks]))
    ·exact .inr (.inr (.inl (by cases p<;>exact h)))
    ·exact .inr (.inr (.inr h)))
   refine⟨u _,pF (u 0),p,q,U1 q0 [x] 1::Z,by show(true&&Z.all As.isC)=true;rw[hz];rfl,?_⟩;unfold ES U1;rw[zz,aB];exact((f _ _ O).perm (List.Perm.trans (.swap _ _ _) (.cons _ (.swap _ _ _))))
  ·refine fA (n:=pre.length) (m:=1) (xs:=nV pre) (news:=nV [x]) (e:=27) (sz:=1) rfl rfl ud (fun w hw=>(hw.ownN ud).2.2.1) rfl rfl rfl (by show(pre.length+1)*8<=_;omega) qb hroom qp rfl ?_;intro g c2 v1;refine cd rfl rfl uh pa rfl rfl ?_;refine F7 ?_;unfold At;intro a2 w2 h9 O
   change _/\_/\_
   have u:∀B,KeepsFrom B W w2:=iW hs hc O (fun b t=>by
    simp only[Q2,zb];rcases k9 b t with rfl|h|h
    ·exact .inr (.inr (.inl (by simp[As.blks])))
    ·exact .inr (.inr (.inr (.inl h)))
    ·exact .inr (.inr (.inr (.inr h))))
   refine⟨u _,pF (u 0),some ⟨g,0,none⟩,c2,U1 q0 [x] 1::U1 p pre q::Z,by show(true&&(true&&Z.all As.isC))=true;rw[hz];rfl,?_⟩;unfold ES U1;rw[zz,aB];exact((f _ _ O).perm (List.Perm.trans (.cons _ (.swap _ _ _)) (List.Perm.trans (.swap _ _ _) (.refl _))))
 ·intro D xs W hD y1 hI hK;obtain⟨p,q,Z,hz,hW⟩:=hI;have hc:(ES i p xs q Z).all As.isC=true:=Bn hz;obtain⟨y,hs,M,f⟩:=fy hW;have y2:D∉y:=fun t=>by
   obtain⟨o,h5,h6⟩:=hs.cells hc D t;have q1:W.heap[D]? =some o:=h5;rw[hK] at q1;cases q1;cases h6
  have y3:(q_ W y).heap D=some (.deferred (some [])):=by simp[q_,E4,y2,hK]
  rw[iX z _];refine wpIn_seq ?_;refine(wpIn_wide (n:=5)).2 (ue (K:=fun a' w'=>G4 13 [(4,.slice p xs.length q)] a'/\Hp (q_ W y) w' (ES i p xs q Z)) (Kp:=fun _ _=>False) (R:=fun _ _=>False) [_] ?_ ?_ (fun _ _ _ h=>h.elim) (fun _ _ h=>h.elim) (z.sub (L':=[(2,l9 i)]) sub) M)
  ·refine r_ oR ?_;refine f_ oF ?_;refine F7 ?_;exact o_ sub i_
  ·rintro a9 w9 ⟨q2,q3⟩;have q4:w9.heap[D]? =some (.deferred (some [])):=q3.keep D _ y3;have z0:=ae (f _ _ q3) hc h0 (grownBy_putObj' w9 D (.deferred none)) (fun r e=>by cases e;exact⟨hD,_,q4,rfl⟩);refine wpIn_ret ?_;have t:=(fz (n:=5) (P:=prog) (fn:=Tryz.f433) (R:=fun e w'=>∃v A,e=.returned v/\Mj X v A/\Hp (q_ Y []) w' A) (a:=qQ [{target:=.collected D,args:=#[]}] a9) (w:=w9) (D:=D) (ds:=[]) (by show a9.defers++_=_;rw[q2.defers];rfl) rfl q4 ⟨_,results_tmp rfl _ _ _,_,[U1 p xs q],rfl,⟨p,xs,q,by rw[show(qQ _ a9).tmps.getD 4 undef=.slice p xs.length q from q2.eval (x:=.tmp 4) rfl],rfl,y1⟩,(Q _ _ z0).drop.left (A:=[_])⟩).2;exact t
 ·intro D c pre W hD z2 u0 hK;exact u0.elim
abbrev SP(g m:Nat):As:=.blk g (.cells #[.map (some m)] 406)
abbrev Hl(g:Nat):Value:=.func (.func 422) #[] #[l9 g]
theorem Hm(m:Nat):Ct prog 399 [.map (some m)] (fun _=>True) [] (fun v A=>∃g,v=Hl g/\A=[SP g m]):=by
 refine b_ 4 func399 rfl rfl rfl ?_;intro F _;refine C6 ?_;refine L2 rfl rfl rfl ?_;intro a;refine bS ?_;exact d_ rfl rfl _ ⟨a,rfl,rfl⟩ (fun _ h=>h)
section
variable(mb Bm cs:Nat)(es:Array MapEntry)(ms:List KV)(hm:N7 (.int .u64) es cs ms)(hk:∀kv∈ms,Ps kv)(hl:ms.length<=1000000000)
include hm hk hl
theorem Hn:Ct prog 420 [Hl Bm] (fun h=>h mb=some (.map es cs)/\h Bm=some (.cells #[.map (some mb)] 406 (0,0))) [] (Mj ms):=by
 refine b_ 5 func420 rfl rfl rfl ?_;rintro F ⟨d,e⟩;refine y9 ?_;refine c_ (yK mb Bm cs es ms hm hk hl) (fun h b _=>⟨b _ _ d,b _ _ e⟩) ?_;rintro v A ⟨a,l,c,rfl,rfl,hg⟩;refine C8 ?_;exact d_ rfl rfl _ ⟨a,l,c,rfl,rfl,hg⟩ (fun _ h=>h)
theorem yL:Ct prog 398 [Hl Bm] (fun h=>h mb=some (.map es cs)/\h Bm=some (.cells #[.map (some mb)] 406 (0,0))) [] (Mj ms):=by
 refine b_ 9 func398 rfl rfl rfl ?_;rintro F ⟨d,e⟩;refine y9 ?_;refine c_ (Hn mb Bm cs es ms hm hk hl) (fun h b _=>⟨b _ _ d,b _ _ e⟩) ?_;rintro v A ⟨a,l,c,rfl,rfl,hg⟩;refine y9 ?_;refine c_ (GS a l.length c (by have:=hg.1;omega) l rfl) qw ?_;rintro v A ⟨rfl,f,hs,rfl⟩;refine L7 ?_;exact d_ rfl rfl _ ⟨a,f,c,by rw[hs.len],by unfold U1;rw[hs.len];rfl,by rw[Dw,hs.len];exact⟨hg.1,fun x g=>hg.2 x (hs.sub x g)⟩⟩ (fun _ h=>h)
end
theorem uf{F:l6}{w:World}{H:List As}{a:Option Addr}{l:List Nat}(b:Hp F w H)(r:o0 F.heap a (nV l)){q i:Nat}(h:q=i)(c:i<l.length):M0 (hp w) (N0 a q) [.int .u64 (l.getD i 0:Nat)]:=
 mU b r x6 fun j u hu=>by
  match j,hu with
  |0,hu=>
   simp at hu;subst hu h;simp[nV,c]
theorem Y6{h:l_}{a:Option Addr}{l:List Nat}{i:Nat}(r:o0 h a (nV l))(c:i<l.length):∃b,a=some b:=by
 obtain⟨b,e,_⟩:=r (by intro e;have:=jk List.length e;rw[tl] at this;simp at this;subst this;simp at c);exact⟨b,e⟩
theorem wr{l:List Nat}{k:Nat}(a:k<l.length):l.getD k 0∈l:=by
 rw[zd,zj a];exact zx a
abbrev Mk(n:Nat)(ms:List KV):Prop:=(∀kv∈ms,Ps kv/\∃k:Int,kv.2=.int .i64 k/\0<=k/\k<=n)/\ms.length<=n
theorem pG(a:List KV)(k:Value):∃o,OH a k o:=by
 by_cases h:∃v,(k,v)∈a
 ·obtain⟨v,h⟩:=h;exact⟨some v,h⟩
 ·exact⟨none,fun v b=>h ⟨v,b⟩⟩
abbrev Ho(r:Nat×Nat):Prop:=Dv r.1/\Dv r.2
def SQ(n:Nat)(v:Value)(A:List As):Prop:=∃a l c,v=.slice a l.length c/\A=[V1 a l c]/\l.length<=n/\∀r∈l,Ho r
theorem Ml(p:List Nat)(oa:Option Addr)(oc:Nat)(k9:∀x∈p,x<18446744073709551616)(hl:p.length<=1000000):Ct prog 352 [.slice oa p.length oc] (fun h=>o0 h oa (nV p)) [] (SQ p.length):=by
 refine b_ 61 func352 rfl rfl rfl ?_;intro F h8;refine xC ?_;refine og rfl ?_;intro y;refine p_ ?_;refine H9 3 ?_;refine n7 (ι:=Array MapEntry×Nat×List KV) (fun i=>N7 (.int .u64) i.1 i.2.1 i.2.2/\Mk p.length i.2.2) (fun _=>[(2,.slice none 0 0),(3,.map (some y))]) (fun i=>[.blk y (.map i.1 i.2.1)]) ?_ ?_
 ·refine n8 ?_;refine gz (fun(j:Nat) (S:Array MapEntry) (T:Nat) (M:List KV) (_ _:Unit)=>j<=p.length/\N7 (.int .u64) S T M/\Mk j M) (fun j _ _ _ _ _=>[(2,.slice none 0 0),(3,.map (some y)),(11,.slice oa p.length oc),(12,.int .i64 (p.length:Nat)),(13,.int .i64 (j:Nat))]) (fun _ S T _ _ _=>[.blk y (.map S T)]) (fun j _ _ _ _ _=>p.length-j) 0 #[] 0 [] () () ⟨zw _,N7.empty _ _,qy,z1 _⟩ sub i_ ?_;rintro j S T M _ _ ⟨hj,hm,hc⟩;refine R6 ?_ ?_<;>intro h
  ·have z:j<p.length:=(by have:=qr h;omega);have D:=Y6 h8 z;refine p_ ?_;refine r_ (i8 rfl (fun w O=>uf O h8 (i:=j) x6 z)) ?_;refine E5 ?_;refine n7 (ι:=Array MapEntry×Nat×List KV) (fun i=>N7 (.int .u64) i.1 i.2.1 i.2.2/\Mk (j+1) i.2.2) (fun _=>[(2,.slice none 0 0),(3,.map (some y)),(11,.slice oa p.length oc),(12,.int .i64 (p.length:Nat)),(13,.int .i64 (j:Nat))]) (fun i=>[.blk y (.map i.1 i.2.1)]) ?_ ?_
   ·refine o8 rfl ?_ ?_<;>intro h
    ·have h9:0<p.getD j 0:=(by have:=qr h;omega);have q0:p.getD j 0<18446744073709551616:=k9 _ (wr z);obtain⟨o,hg⟩:=pG M (.int .u64 (p.getD j 0:Nat));obtain⟨k,ek,q3,q4⟩:∃k:Int,o.getD (.int .i64 0)=.int .i64 k/\0<=k/\k<=j:=by
      cases o with
      |none=>exact⟨0,rfl,by omega,by omega⟩
      |some v=>obtain⟨_,k,e,U,Q⟩:=hc.1 _ hg;exact⟨k,e,U,Q⟩
     refine y9 ?_;refine r_ ((Fp (key:=.int .u64 (p.getD j 0:Nat)) (o:=o) (zv:=.int .i64 0) (c:=false) rfl rfl .del hm rfl hg).eq (v':=.int .i64 k) ek) ?_;refine p_ ?_;refine CC rfl rfl rfl hm rfl (fun V X=>.here) ?_;intro V X k0;refine u7 ?_;have PM:∃J,Fm M (.int .u64 (p.getD j 0:Nat)) (.int .i64 (k+1)) J/\Mk (j+1) J:=by
      have k8:Ps (.int .u64 (p.getD j 0:Nat),.int .i64 (k+1))/\∃q:Int,Value.int .i64 (k+1)=.int .i64 q/\0<=q/\q<=(j+1:Nat):=⟨⟨_,⟨h9,q0⟩,rfl⟩,k+1,rfl,by omega,by omega⟩
      cases o with
      |none=>
       refine⟨_,.inl ⟨hg,.refl _⟩,fun Y f=>?_,by rw[zy];have:=hc.2;omega⟩;rcases ky.1 f with rfl|f
       ·exact k8
       ·obtain⟨U,q,Q,h3,h4⟩:=hc.1 Y f;exact⟨U,q,Q,h3,by omega⟩
      |some v=>
       obtain⟨r1,r2,e⟩:=Wp hg;have hp:M.Perm ((.int .u64 (p.getD j 0:Nat),v)::(r1++r2)):=(by rw[e];exact Qd);refine⟨_,.inr ⟨v,r1++r2,hp,.refl _⟩,fun Y f=>?_,by have:=hp.length_eq;have:=hc.2;rw[zy] at*;omega⟩;rcases ky.1 f with rfl|f
       ·exact k8
       ·obtain⟨U,q,Q,h3,h4⟩:=hc.1 Y (hp.mem_iff.2 (jj _ f));exact⟨U,q,Q,h3,by omega⟩
     obtain⟨J,hp,h7⟩:=PM;exact g_ (V,X,J) ⟨k0 J hp,h7⟩ i_
    ·refine u7 ?_;exact g_ (S,T,M) ⟨hm,fun Y f=>by obtain⟨U,q,Q,h3,h4⟩:=hc.1 Y f;exact⟨U,q,Q,h3,by omega⟩,by have:=hc.2;show M.length<=_;omega⟩ i_
   rintro⟨V,X,J⟩ ⟨q1,h7⟩;refine y9 ?_;exact l8 (i:=(j,S,T,M,(),())) (j+1,V,X,J,(),()) ⟨z,q1,h7⟩ qg sub i_
  ·have z:j=p.length:=(by have:=zq h;omega);refine u7 ?_;exact g_ (S,T,M) ⟨hm,by rw[<-z];exact hc⟩ i_
 rintro⟨S,T,M⟩ ⟨hm,hc⟩;simp only at hm hc;have hk:∀Y∈M,Ps Y:=fun Y f=>(hc.1 Y f).1;have q5:=hc.2;refine y9 ?_;refine c_ (Hm y) qw ?_;rintro v A ⟨g,rfl,rfl⟩;refine c_ (C:=[]) (yL y g T S M hm hk qb) ?pre ?_;(case pre=>exact fun h hh ⟨bs,hb⟩=>⟨hb.blk ud,hb.blk ud⟩);rintro v A ⟨sa,sl,sc,rfl,rfl,hg⟩;refine H9 2 ?_;refine n7 (ι:=Option Addr×List (Nat×Nat)×Nat) (fun i=>i.2.1.length<=sl.length/\∀r∈i.2.1,Ho r) (fun i=>[(6,.slice i.1 i.2.1.length i.2.2)]) (fun i=>[V1 i.1 i.2.1 i.2.2]) ?_ ?_
 ·refine n8 ?_;refine gz (fun(j:Nat) (_:Option Addr) (b:List (Nat×Nat)) (_:Nat) (_ _:Unit)=>j<=sl.length/\b.length<=j/\∀r∈b,Ho r) (fun j s b u _ _=>[(6,.slice s b.length u),(26,.slice sa sl.length sc),(27,.int .i64 (sl.length:Nat)),(28,.int .i64 (j:Nat))]) (fun _ s b u _ _=>[V1 s b u,U1 sa sl sc]) (fun j _ _ _ _ _=>sl.length-j) 0 none [] 0 () () ⟨zw _,z1 _,fun _ h=>by cases h⟩ sub (fun w O=>x8.left tk (O.addNil 178 2)) ?_;rintro j s b u _ _ ⟨hj,q6,Z⟩;refine R6 ?_ ?_<;>intro h
  ·have z:j<sl.length:=(by have:=qr h;omega);refine B4 (a:=sa) (n:=sl.length) (c:=sc) (sz:=1) (xs:=nV sl) (te:=27) ud fun _ _ D=>?_;have D:=D qb;obtain⟨x,hx⟩:=o7 (sl.getD (j:Int).toNat 0);have h6:Dv x:=(by rw[hx];exact hg.2 _ (tW (i:=(j:Int)) (n:=sl.length) qb rfl));have h9:=h6.1;refine H9 0 ?_;refine n7 (ι:=Option Addr×List (Nat×Nat)×Nat) (fun i=>i.2.1.length<=j+1/\∀r∈i.2.1,Ho r) (fun i=>[(6,.slice i.1 i.2.1.length i.2.2),(26,.slice sa sl.length sc),(27,.int .i64 (sl.length:Nat)),(28,.int .i64 (j:Nat))]) (fun i=>[V1 i.1 i.2.1 i.2.2,U1 sa sl sc]) ?_ ?_
   ·refine n8 ?_;refine p_ ?_;refine r_ ((ap (n:=sl.length) rfl).eq (v':=.int .u64 (x:Nat)) (by rw[hx])) ?_;refine O2 ?_;refine B4 (a:=s) (n:=b.length) (c:=u) (sz:=2) (xs:=V5 b) (te:=178) ud fun _ _ d=>?_;refine n7 (ι:=Bool) (fun q=>q=true->0<b.length) (fun q=>[(6,.slice s b.length u),(8,.int .u64 (x:Nat)),(9,.int .i64 (b.length:Nat)),(26,.slice sa sl.length sc),(27,.int .i64 (sl.length:Nat)),(28,.int .i64 (j:Nat)),(46,.bool q)]) (fun _=>[V1 s b u,U1 sa sl sc]) ?_ ?_
    ·by_cases h0:0<b.length
     ·have d:=d h0;refine p_ ?_;refine f_ ((D_ rfl rfl).eq (v':=.bool true) (qn qk)) ?_;refine E5 ?_;refine A1 rfl rfl rfl ?_;refine f_ ((E0 rfl rfl qb).eq (v':=.int .i64 ((b.length-1:Nat):Int)) (by congr 1;omega)) ?_;refine y9 ?_;refine A1 rfl rfl rfl ?_;refine r_ (i8 rfl (fun w O=>cH (j:=1) (O.ownN (t:=178) ud).2.2.1 D0 (i:=b.length-1) qb rfl x6)) ?_;refine O2 ?_;exact g_ _ (fun _=>h0) i_
     ·refine p_ ?_;refine f_ ((D_ rfl rfl).eq (v':=.bool false) (qn qj)) ?_;refine wk 11 ?_;exact g_ false qx i_
    intro q hq;refine N8 ?_ ?_<;>intro h
    ·have h0:=hq h;have d:=d h0;refine y9 ?_;refine f_ ((E0 rfl rfl qb).eq (v':=.int .i64 ((b.length-1:Nat):Int)) (by congr 1;omega)) ?_;refine E5 ?_;refine A9 (C:=ix) (l:=b) (b[b.length-1].1,x) D0 (i:=b.length-1) qb (j:=1) rfl ?_;refine u7 ?_;refine g_ (s,b.set (b.length-1) (b[b.length-1].1,x),u) ⟨by simp only[js];omega,fun r hr=>?_⟩ (fun w O=>by simp only[V1,js];exact O) (by simp only[js];exact sub);rcases jd hr with h5|rfl
     ·exact Z r h5
     ·exact⟨(Z _ (zx qb)).1,h6⟩
    ·refine O2 ?_;refine C4 ix (x,x) rfl ?_;intro q7 _;refine u6 ix (l:=b) (m:=[(x,x)]) D0 nf (by show(b.length+1)*16<=_;omega) ?_;intro Uj q2 _;refine p_ ?_;refine g_ (Uj,b++[(x,x)],q2) ⟨by simp only[zz,zy,zn];omega,fun r hr=>?_⟩ (fun w O=>x8.left tk O);rcases zb.1 hr with h5|h5
     ·exact Z r h5
     ·rw[zg.1 h5];exact⟨h6,h6⟩
   rintro⟨a3,l3,c3⟩ ⟨h3,h4⟩;simp only at h3 h4;refine y9 ?_;exact l8 (i:=(j,s,b,u,(),())) (j+1,a3,l3,c3,(),()) ⟨z,h3,h4⟩ qg sub i_
  ·refine u7 ?_;exact g_ (s,b,u) ⟨by simp only;omega,Z⟩ (fun w O=>x8.left tk O)
 rintro⟨ra,rl,rc⟩ ⟨U,Q⟩;simp only at U Q;refine L7 ?_;exact d_ rfl rfl _ ⟨ra,rl,rc,rfl,rfl,by have:=hg.1;omega,Q⟩ i_
open Go Go.Sl Go.RowKit Go.Proofs.Tryz
abbrev fP(l:List Nat):Prop:=∀x∈l,x<18446744073709551616
theorem Bo(v:VW)(a:Option Addr)(c:Nat)(b:List Nat)(ua:Option Addr)(uc:Nat)(e:Bool)(hv:v.a5I.length<=1000000)(hl:b.length<=1000000)(hu:fP b):Ct prog 290 [yA v a c,.slice ua b.length uc,.bool e] (fun h=>o0 h a (V5 v.a5I)/\o0 h ua (nV b)) [] (SQ b.length):=by
 refine b_ 38 func290 rfl rfl rfl ?_;rintro F ⟨D,s⟩;refine C6 ?_;refine m9 rfl rfl ?_;intro u;refine p_ ?_;refine H9 4 ?_;refine n7 (ι:=Option Addr×List Nat×Nat) (fun i=>i.2.1.length<=b.length/\fP i.2.1) (fun i=>[(7,.slice i.1 i.2.1.length i.2.2)]) (fun i=>[U1 i.1 i.2.1 i.2.2]) ?_ ?_
 ·refine n8 ?_;refine gz (fun(j:Nat) (_:Option Addr) (d:List Nat) (_:Nat) (_ _:Unit)=>j<=b.length/\d.length<=j/\fP d) (fun j o d p _ _=>[(2,.bool e),(3,l9 u),(7,.slice o d.length p),(11,.slice ua b.length uc),(12,.int .i64 (b.length:Nat)),(13,.int .i64 (j:Nat))]) (fun _ o d p _ _=>[U1 o d p,.blk u (.cells (FZ v a c).toArray 30)]) (fun j _ _ _ _ _=>b.length-j) 0 none [] 0 () () ⟨zw _,z1 _,fun _ h=>by cases h⟩ sub (fun w f=>x8.left tk (f.addNil 27 1)) ?_;rintro j o d p _ _ ⟨hj,h0,q⟩;refine R6 ?_ ?_<;>intro h
  ·have g:j<b.length:=(by have:=qr h;omega);have J:=Y6 s g;have M:=df (fun r:Nat×Nat=>decide (r.1=b.getD j 0)) v.a5I;refine p_ ?_;refine r_ (i8 rfl (fun w f=>uf f s (i:=j) x6 g)) ?_;refine p_ ?_;refine H9 0 ?_;obtain⟨r,Y⟩:=o7 (lv v.a5I (b.getD j 0));refine y9 ?_;refine e_ rfl (yB v a c (b.getD j 0) hv) (fun h Z _=>D.le Z) rfl ?_;rw[<-Y];refine H9 1 ?_;refine n7 (ι:=Option Addr×List Nat×Nat) (fun i=>i.2.1.length<=j+1/\fP i.2.1) (fun i=>[(2,.bool e),(3,l9 u),(7,.slice i.1 i.2.1.length i.2.2),(11,.slice ua b.length uc),(12,.int .i64 (b.length:Nat)),(13,.int .i64 (j:Nat))]) (fun i=>[U1 i.1 i.2.1 i.2.2,.blk u (.cells (FZ v a c).toArray 30)]) ?_ ?_
   ·have k:∀x,x<18446744073709551616->(d++[x]).length<=j+1/\fP (d++[x]):=fun x hx=>⟨by simp only[zz,zy,zn];omega,fun y hy=>by
     rcases zb.1 hy with O|O
     ·exact q y O
     ·rw[zg.1 O];exact hx⟩
    refine n8 ?_;refine eI ?_ ?_<;>intro h
    ·refine u7 ?_;exact g_ (o,d,p) ⟨by simp only;omega,q⟩ (fun w f=>x8.left tk f)
    have h6:0<=r/\r<1000000:=(by have h1:=zq h;have h2:r<v.a5I.length:=(by rw[Y];exact M.2);omega);refine bD ?_ ?_<;>intro h
    ·refine y9 ?_;refine gy (n:=b.getD j 0) ?_;intro QV;refine jU (l:=d) (m:=[b.getD j 0]) (by show(d.length+1)*8<=_;omega) ?_;intro OJ Q;refine p_ ?_;exact g_ (OJ,d++[b.getD j 0],Q) (k _ (hu _ (wr g))) (fun w f=>x8.left tk f)
    ·refine E5 ?_;refine f_ ((z_ rfl qb).eq (v':=.int .u64 ((r+1).toNat:Nat)) (by congr 1;omega)) ?_;refine gy (n:=(r+1).toNat) ?_;intro h7;refine jU (l:=d) (m:=[(r+1).toNat]) (by show(d.length+1)*8<=_;omega) ?_;intro S T;refine p_ ?_;exact g_ (S,d++[(r+1).toNat],T) (k _ qb) (fun w f=>x8.left tk f)
   rintro⟨a3,U,V⟩ ⟨z,t⟩;simp only at z t;refine y9 ?_;exact l8 (i:=(j,o,d,p,(),())) (j+1,a3,U,V,(),()) ⟨g,z,t⟩ qg sub i_
  ·refine u7 ?_;exact g_ (o,d,p) ⟨by simp only;omega,q⟩ (fun w f=>x8.left tk f)
 rintro⟨a3,U,V⟩ ⟨z,t⟩;simp only at z t;refine p_ ?_;refine c_ (C:=[]) (Ml U a3 V t qb) ?pre ?_;(case pre=>exact fun h Z ⟨bs,hb⟩=>A3.rd hb ud);rintro x A ⟨ra,rl,rc,rfl,rfl,h8,X⟩;refine C8 ?_;exact d_ rfl rfl _ ⟨ra,rl,rc,rfl,rfl,by omega,X⟩ (fun w f=>x8.left tk f)
end Go.Proofs.YtmcepdopookilaaGreatDoor.Rp
namespace Go.Sl
open Go Go.RowKit Go.Proofs.Tryz
section
variable{P:Program}{N:Nat}{K R:y6}{E:List (Nat×y6)}{L:G0}{F:l6}{H:List As}{ops:Array Oper}{rest:List Oper}{ty:TypeId}{pos:String}{af:Array Edge}{t:TypeId}
theorem Hp.capOwn{w:World}{a:Option Addr}{n c k sz:Nat}{te:TypeId}{xs:List Value}{H':List As}(p:Hp F w H)(u:M3 H (.own (.slice a n c) te sz xs) [.own (.slice a n k) te sz xs] H')(j:n<=k)(q:k<=c):Hp F w H':=by
 obtain⟨l,d,e,r,kk⟩:=p.focus u;refine kk w l rfl rfl rfl (fun _ _ _=>rfl) ⟨l,[],by simp,?_,rfl⟩ e (fun _ s=>.inl s);rcases d with⟨f,rfl,rfl⟩|⟨g,rfl,⟨o,z,t,pre,b,v,f,hg,x,m,h,y,i⟩⟩
 ·injection f with e1 e2 e3;subst e1 e2 e3;have:k=0:=by omega
  subst this;exact .inl qm
 ·injection f with e1 e2 e3;subst e1 e2 e3;have A:k*sz<=c*sz:=Qy _ q;have C:c*sz-k*sz<=b.length:=by
   rw[zz,m] at h;have:n*sz<=k*sz:=Qy _ j;omega
  exact .inr ⟨g,rfl,⟨o,n,k,pre,b,v,rfl,hg,x,m,by omega,j,i⟩⟩
theorem pH{d:Nat}{s x:Operand}{a b:Option Addr}{n m S sz:Nat}{xs news:List Value}{e:TypeId}{z:Value}{i:TypeInfo}[hu:HU P t (.slice e)][hz:HZ P e z][hi:HI P e i][hs:HS P e sz](T:ev L s=some (.slice a n n))(U:ev L x=some (.slice b m S))(V:∀w,Hp F w H->o0 (hp w) a xs)(y:xs.length=n*sz)(ha:a=none->n=0)(hsrc:∀w,Hp F w H->Ka (hp w) b news)(hl:news.length=m*sz)(X:Nat.blt 0 sz=true)(Y:z.cells.size=sz)(l:(n+m)*i.bytes<=140737488355328)(h63:n+m<=9223372036854775807)(hm:0<m)(hd:Nat.blt d N=true)(h:∀g Z,n+m<=Z->GL P N ops rest K E R ((d,.slice (some ⟨g,0,none⟩) (n+m) Z)::L) F (.own (.slice (some ⟨g,0,none⟩) (n+m) Z) e sz (xs++news)::H)):
  GL P N ops (⟨some d,.call ⟨.builtin .append,#[s,x],#[t,t]⟩,ty,pos,af,none⟩::rest) K E R L F H:=
 R_ rfl rfl hd fun w0 w hf hw=>by
  have J:0<sz:=by simpa[Kh] using X
  have c:=hi.h;have p:i.size=sz:=by
   have C:=hs.h w;simp[sizeOf,typeInfo,c] at C;exact C
  have M:i.zero=some z:=by
   have C:=hz.h w;simp only[zeroValue,Sem.run_bind,typeInfo] at C
   cases hq:i.zero with
   |none=>simp[c,hq] at C
   |some z'=>simp[c,hq] at C;rw[C]
  have q:∀vv w',(Builtin.append_ #[t,t] ty #[.slice a n n,.slice b m S]).run P w=.ok vv w'->
    (execOp w0.eval ⟨some d,.call ⟨.builtin .append,#[s,x],#[t,t]⟩,ty,pos,af,none⟩).run P w=.ok (.value vv) w':=fun vv w' O=>by
   simp[execOp,resolve,invoke,builtin,hf.eval T,hf.eval U,O]
  have h0:news≠[]:=by
   rintro rfl;have:0<m*sz:=K8 hm J;simp at hl;omega
  obtain⟨ad,rfl,A⟩:=hsrc w hw h0;have f:∀j u,news[j]? =some u->w.cell? (ad.add j)=some u:=A;have h1:=V w hw;have r:∀(k:Nat),k<n+m->Hp F (w.drew.alloc (.cells (xs.toArray++news.toArray++Builtin.zeroCells z.cells (grownCap w (n+m) k e-(n+m))) e)) (.own (.slice (some ⟨w.heap.size,0,none⟩) (n+m) (grownCap w (n+m) k e)) e sz (xs++news)::H)/\n+m<=grownCap w (n+m) k e:=fun k ho=>by
   have Q:=grownCap_ge w (n+m) k e;refine⟨O8 (w:=w.drew) (post:=(Builtin.zeroCells z.cells (grownCap w (n+m) k e-(n+m))).toList) (fr:=(0,0)) hw.drew' ?_ ?_ Q (.inl (z1 _)) ?_,Q⟩
   ·rw[zz,y,hl,Q0]
   ·simp only[zz,y,hl,Zs,size_zeroCells,Y,<-Q0];congr 1;omega
   ·congr 2;apply Q6.1;simp
  cases a with
  |none=>
   have h3:=ha rfl;subst h3;have D:xs=[]:=jy (by simpa using y);subst D;have hr:=run_append_nil (P:=P) w t ty e i z hu.h c M ad m S news (by rw[p];exact hl) f qb qb (by rw[jv] at l;omega);have o:=r 0 qb;simp only[jv,j7] at o;refine⟨_,_,.own (.slice (some ⟨w.heap.size,0,none⟩) m (grownCap w m 0 e)) e sz news::H,q _ _ hr,?_,?_⟩
   ·have:=o.1;simpa using this
   ·have:=h w.heap.size (grownCap w m 0 e) (by simpa using o.2);simpa using this
  |some ad0=>
   have h4:∀j v,xs[j]? =some v->w.cell? (ad0.add j)=some v:=fun j v hj=>by
    have D:xs≠[]:=(by rintro rfl;simp at hj);obtain⟨h6,e2,h5⟩:=h1 D;injection e2 with e2;subst e2;exact h5 j v hj
   have hr:=run_append_grow (P:=P) w t ty e i z hu.h c M ad0 n n xs (by rw[p];exact y) h4 ad m S news (by rw[p];exact hl) f qb qb (growslice_fits qb l);have o:=r n qb;exact⟨_,_,_,q _ _ hr,o.1,h _ _ o.2⟩
theorem Hq{α β γ δ ε ζ:Type}{c:Code}(b:α->β->γ->δ->ε->ζ->Prop)(g:α->β->γ->δ->ε->ζ->G0)(i:α->β->γ->δ->ε->ζ->l6)(HI:α->β->γ->δ->ε->ζ->List As)(μ:α->β->γ->δ->ε->ζ->Nat)(d:α)(e:β)(z0:γ)(f:δ)(v0:ε)(w0:ζ)(k:b d e z0 f v0 w0)(l:fo (g d e z0 f v0 w0) L)(m:i d e z0 f v0 w0=F)(hH:∀w,Hp F w H->Hp F w (HI d e z0 f v0 w0))(round:∀x y z u v q,b x y z u v q->G P N c (fun a w=>∃j:α×β×γ×δ×ε×ζ,b j.1 j.2.1 j.2.2.1 j.2.2.2.1 j.2.2.2.2.1 j.2.2.2.2.2/\μ j.1 j.2.1 j.2.2.1 j.2.2.2.1 j.2.2.2.2.1 j.2.2.2.2.2<μ x y z u v q/\G4 N (g j.1 j.2.1 j.2.2.1 j.2.2.2.1 j.2.2.2.2.1 j.2.2.2.2.2) a/\Hp (i j.1 j.2.1 j.2.2.1 j.2.2.2.1 j.2.2.2.2.1 j.2.2.2.2.2) w (HI j.1 j.2.1 j.2.2.1 j.2.2.2.1 j.2.2.2.2.1 j.2.2.2.2.2)) E R (g x y z u v q) (i x y z u v q) (HI x y z u v q)):G P N (.loop c) K E R L F H:=
 bJ (ι:=α×β×γ×δ×ε×ζ) (fun j=>b j.1 j.2.1 j.2.2.1 j.2.2.2.1 j.2.2.2.2.1 j.2.2.2.2.2) (fun j=>g j.1 j.2.1 j.2.2.1 j.2.2.2.1 j.2.2.2.2.1 j.2.2.2.2.2) (fun j=>i j.1 j.2.1 j.2.2.1 j.2.2.2.1 j.2.2.2.2.1 j.2.2.2.2.2) (fun j=>HI j.1 j.2.1 j.2.2.1 j.2.2.2.1 j.2.2.2.2.1 j.2.2.2.2.2) (fun j=>μ j.1 j.2.1 j.2.2.1 j.2.2.2.1 j.2.2.2.2.1 j.2.2.2.2.2) (d,e,z0,f,v0,w0) k l m hH fun j h=>round j.1 j.2.1 j.2.2.1 j.2.2.2.1 j.2.2.2.2.1 j.2.2.2.2.2 h
theorem Hs{c:Code}{ι:Type}(d:ι->Prop)(L':ι->G0)(f:ι->l6)(H':ι->List As)(g:G P N c (fun a w=>∃i,d i/\G4 N (L' i) a/\Hp (f i) w (H' i)) E R L F H)(h:∀i,d i->At N K (L' i) (f i) (H' i)):G P N c K E R L F H:=by
 unfold G At at*;intro a w hf b;refine Code.wp_mono (fun e a w q=>?_) (g a w hf b)
 cases e with
 |normal=>obtain⟨i,hp,hf,b⟩:=q;exact h i hp a w hf b
 |_=>exact q
theorem y5{ι:Type}{b:ι->Prop}{L':ι->G0}{c:ι->l6}{H':ι->List As}(i:ι)(hp:b i)(d:c i=F)(hH:∀w,Hp F w H->Hp F w (H' i))(hs:fo (L' i) L:=by exact sub):At N (fun a w=>∃i,b i/\G4 N (L' i) a/\Hp (c i) w (H' i)) L F H:=by
 unfold At;exact fun a w hf e=>⟨i,hp,hf.sub hs,by rw[d];exact hH w e⟩
theorem Hp.mid{w:World}{A J a:List As}(h:Hp F w (A++J++a)):Hp F w (A++a):=by
 have b:Hp F w ((A++a)++J):=h.perm (by rw[zh,zh];exact Z5 _ kz);exact b.left
theorem C5{w:World}{A J a:List As}(h:x8 (A++J) H a)(b:Hp F w H):Hp F w (A++a):=(h.hp b).mid
theorem jZ{Z Rr:List As}(hH:x8 Z H Rr)(k:∀a,F.le a->(∃bs,A3 a.heap Z bs)->At N K L a Rr):At N K L F H:=
 At.weaken (H':=Rr++Z) (dL k) (fo.refl _) (fun w b=>(hH.hp b).perm kz)
theorem ly{c:Code}{α β γ δ:Type}(b:α->β->γ->δ->Prop)(L':α->β->γ->δ->G0)(H':α->β->γ->δ->List As)(d:G P N c (fun a w=>∃i:α×β×γ×δ,b i.1 i.2.1 i.2.2.1 i.2.2.2/\G4 N (L' i.1 i.2.1 i.2.2.1 i.2.2.2) a/\Hp F w (H' i.1 i.2.1 i.2.2.1 i.2.2.2)) E R L F H)(e:∀x y z u,b x y z u->At N K (L' x y z u) F (H' x y z u)):G P N c K E R L F H:=
 n7 (ι:=α×β×γ×δ) (fun i=>b i.1 i.2.1 i.2.2.1 i.2.2.2) (fun i=>L' i.1 i.2.1 i.2.2.1 i.2.2.2) (fun i=>H' i.1 i.2.1 i.2.2.1 i.2.2.2) d fun i h=>e i.1 i.2.1 i.2.2.1 i.2.2.2 h
theorem S6{c:Code}{α β γ δ:Type}(b:α->β->γ->δ->Prop)(L':α->β->γ->δ->G0)(d:α->β->γ->δ->l6)(H':α->β->γ->δ->List As)(e:G P N c (fun a w=>∃i:α×β×γ×δ,b i.1 i.2.1 i.2.2.1 i.2.2.2/\G4 N (L' i.1 i.2.1 i.2.2.1 i.2.2.2) a/\Hp (d i.1 i.2.1 i.2.2.1 i.2.2.2) w (H' i.1 i.2.1 i.2.2.1 i.2.2.2)) E R L F H)(f:∀x y z u,b x y z u->At N K (L' x y z u) (d x y z u) (H' x y z u)):G P N c K E R L F H:=
 Hs (ι:=α×β×γ×δ) (fun i=>b i.1 i.2.1 i.2.2.1 i.2.2.2) (fun i=>L' i.1 i.2.1 i.2.2.1 i.2.2.2) (fun i=>d i.1 i.2.1 i.2.2.1 i.2.2.2) (fun i=>H' i.1 i.2.1 i.2.2.1 i.2.2.2) e fun i h=>f i.1 i.2.1 i.2.2.1 i.2.2.2 h
end
end Go.Sl
namespace Go.Proofs.YtmcepdopookilaaGreatDoor.Rp
open Go Go.Sl Go.RowKit Go.Proofs.Tryz
abbrev AC:=Option Addr×Nat
abbrev ET(n:Nat):RR:={R0 with kind:=9,n:=n}
abbrev Py(n:Nat):RR:={R0 with kind:=8,n:=n}
abbrev wt(g:Nat)(v:VW)(p:AC):As:=.blk g (.cells (FZ v p.1 p.2).toArray 30)
abbrev Ht(v:VW)(a5I:List (Nat×Nat)):VW:=⟨v.box,v.val,a5I⟩
abbrev Bp(g:Nat)(b:BM):As:=.blk g (.cells (de b).toArray 100)
abbrev yM(x:RL):Prop:=x.fa=none/\x.fc=0
abbrev JU(rl:List RM):Prop:=∀m∈rl,m.2=L0/\m.1.nums=[]/\m.1.a5U=[]/\m.1.values=[]
theorem JU.app{rl:List RM}(h:JU rl){r:RR}(b:r.nums=[])(c:r.a5U=[])(d:r.values=[]):JU (rl++[(r,L0)]):=fun m e=>by
 rcases zb.1 e with a|a
 ·exact h m a
 ·rw[zg.1 a];exact⟨rfl,b,c,d⟩
theorem JU.rd{rl:List RM}(h:JU rl)(a:l_):∀m∈rl,fC m.1 m.2 a/\yM m.2:=fun m f=>by
 obtain⟨e,b,c,d⟩:=h m f;obtain⟨r,x⟩:=m;simp only at e b c d;subst e;exact⟨cK b c d a,rfl,rfl⟩
theorem wu{b:BM}{u:Nat}(h:yC b.ls u<0):bN b.x u=none:=by
 unfold yC D1 at h;unfold bN
 cases e:b.ls.findIdx? fun x=>decide (x.t.uid=u) with
 |some i=>rw[e] at h;simp only[Option.elim] at h;omega
 |none=>
  rw[Q5] at e;rw[Wh];intro x a;obtain⟨m,c,rfl⟩:=jx.1 a;have:=e m c;simpa using this
theorem wv{b:BM}{u:Nat}(h:¬yC b.ls u<0):∃(i:Nat) (a:i<b.ls.length),yC b.ls u=(i:Nat)/\bN b.x u=some b.ls[i].t:=by
 unfold yC D1 at h⊢;unfold bN
 cases e:b.ls.findIdx? fun x=>decide (x.t.uid=u) with
 |none=>rw[e] at h;simp only[Option.elim] at h;omega
 |some i=>
  obtain⟨a,d,c⟩:=kg.1 e;refine⟨i,a,rfl,?_⟩;show(b.ls.map LM.t).find? _=_;have f:List.find? (fun m:LM=>decide (m.t.uid=u)) b.ls=some b.ls[i]:=List.find?_eq_some_iff_getElem.2 ⟨d,i,a,rfl,fun j g=>by simpa using c j g⟩;rw[List.find?_map];show Option.map LM.t (List.find? (fun m:LM=>decide (m.t.uid=u)) b.ls)=_;rw[f];rfl
theorem pI{b:BX}{k:Nat}{a:List (Nat×Nat)}(h:bN b (a.getD k (0,0)).1=none):V7 b (k+1) a=((V7 b k (a.eraseIdx k)).1,{R0 with kind:=9,n:=k+1}::(V7 b k (a.eraseIdx k)).2):=by
 rw[V7];rw[h]
theorem pJ{b:BX}{k:Nat}{a:List (Nat×Nat)}{x:LT}(h:bN b (a.getD k (0,0)).1=some x):V7 b (k+1) a=V7 b k a:=by
 rw[V7];rw[h]
abbrev ke(v:VW)(b:BX)(expunge:Bool):List (Nat×Nat)×List RR:=if expunge then V7 b v.a5I.length v.a5I else(v.a5I,[])
def SyQ(e:VW×List RR)(h:l_)(x:Value)(A:List As):Prop:=∃p rl o,x=.tuple #[yA e.1 (Prod.fst p) (Prod.snd p),.slice (Prod.fst o) (List.length rl) (Prod.snd o)]/\A=[l5 p.1 e.1.a5I p.2,r8 o.1 rl o.2]/\rl.map Prod.fst=e.2/\∀m∈rl,fC m.1 m.2 h/\yM m.2
abbrev ug(ls:List LM)(m:Nat):List (Nat×Nat):=((ls.map LM.t).filter fun x=>decide (m<x.uid)).map fun x=>(x.uid,x.mod)
theorem Hu(ls:List LM)(m:Nat){j:Nat}(a:j<ls.length):ug (ls.take (j+1)) m=ug (ls.take j) m++if m<ls[j].t.uid then[(ls[j].t.uid,ls[j].t.mod)] else[]:=by
 unfold ug;rw[kj a,jn,Wc,jn];congr 1;by_cases h:m<ls[j].t.uid<;>simp[h]
theorem Mm(ls:List LM)(m j:Nat):(ug (ls.take j) m).length<=j:=by
 unfold ug;rw[zr];refine ju (Qn _ _) ?_;rw[zr,zm];omega
abbrev ui(cond:Bool)(had:List ((Nat×Nat)×Option LT)):List RR:=had.zipIdx.filterMap fun h=>h.1.2.map fun x=>tA x (h.2+1) cond
theorem DM(cond:Bool)(a:List ((Nat×Nat)×Option LT)){j:Nat}(b:j<a.length):ui cond (a.take (j+1))=ui cond (a.take j)++(a[j].2.map fun x=>tA x (j+1) cond).toList:=by
 unfold ui;rw[kj b,List.zipIdx_append,List.filterMap_append,zm,Jb (Js b),jv,List.zipIdx_singleton];congr 1
abbrev Pz(g4 g5 g8:Nat)(v:VW)(b:BM)(a5I:List (Nat×Nat))(p:AC)(rl:List RM)(o:AC)(R:List As):List As:=l5 p.1 a5I p.2::r8 o.1 rl o.2::wt g4 (Ht v a5I) p::Bp g5 b::wt g8 Aq (none,0)::R
abbrev Hv(g4 g5 g8:Nat)(cond:Bool)(rl:List RM)(o:AC):G0:=[(3,.bool cond),(4,l9 g4),(5,l9 g5),(8,l9 g8),(9,.slice none 0 0),(10,.slice o.1 rl.length o.2)]
abbrev Oe(g4 g5 g8:Nat)(v:VW)(b:BM)(n:Nat)(x:List (Nat×Nat))(p:AC)(rl:List RM)(o:AC)(R:List As):List As:=.own (.slice p.1 n p.2) 72 2 (V5 x)::r8 o.1 rl o.2::.blk g4 (.cells #[B v.box,.int .u64 (v.val:Nat),.slice p.1 n p.2] 30)::Bp g5 b::wt g8 Aq (none,0)::R
abbrev pK(b:BX)(a5I nw:List (Nat×Nat))(j:Nat):List (Nat×Nat):=((a5I.map (X9 b)).map (·.1)).take j++(a5I.drop j++nw)
theorem uj(b:BX)(a c:List (Nat×Nat)){j:Nat}(d:j<=a.length):(pK b a c j).length=a.length+c.length:=by
 simp only[pK,zz,zm,zr,z8];omega
theorem Hw(b:BX)(a c:List (Nat×Nat)){j:Nat}(d:j<a.length):(pK b a c j)[j]'(by rw[uj b a c (Js d)];omega)=a[j]:=by
 have e:(((a.map (X9 b)).map (·.1)).take j).length=j:=by simp;omega
 have f:(pK b a c j)[j]? =some a[j]:=by
  unfold pK;rw[jz qb,e,Wg,jg (by simp;omega),Zu];simp[d]
 exact(Qw.1 f).2
theorem Bq(b:BX)(a c:List (Nat×Nat)){j:Nat}(d:j<a.length):(pK b a c j).set j (X9 b a[j]).1=pK b a c (j+1):=by
 have e:(((a.map (X9 b)).map (·.1)).take j).length=j:=by simp;omega
 unfold pK;rw[List.set_append_right _ _ qb,e,Wg,Qg d,Q7,List.set_cons_zero,kj (by simpa using d),zh];simp
theorem ww(b:BX)(a c:List (Nat×Nat)){j:Nat}(d:j<a.length)(h:(X9 b a[j]).1=a[j]):pK b a c (j+1)=pK b a c j:=by
 have e:j<(pK b a c j).length:=by rw[uj b a c (Js d)];omega
 rw[<-Bq b a c d,h]
 conv=>lhs;rw[<-Hw b a c d]
 exact Z4 e
abbrev Rb(fs:List Bs)(a:Option Addr)(c:Nat):VM:=⟨{V0 with kind:=6,a5U:=fs},a,c⟩
abbrev SR(n:Nat):VM:=⟨{V0 with kind:=9,n:=n},none,0⟩
theorem Mo(v:VW)(a:Option Addr)(c:Nat)(b:BM)(f cond:Bool)(hv:v.a5I.length<=100000)(hb:b.ls.length<=100000)(b7:∀x∈b.ls,x.t.a5U.length<=16):Cm prog 166 [yA v a c,JR b,.bool f,.bool cond] (fun h=>o0 h a (V5 v.a5I)/\fH b h) [] (SyQ (U7 v b.x f cond)):=by
 refine y4 179 func166 rfl rfl rfl ?_;rintro F R ⟨b8,w0⟩;have y1:=w0.ls;obtain⟨q1,h1⟩:=o7 (decide (b.name=v.box));obtain⟨q2,h2⟩:=o7 (decide (b.val=v.val));refine C6 ?_;refine m9 rfl rfl ?_;intro D;refine m9 rfl rfl ?_;intro M;refine i7 rfl ?_;intro S;refine E5 ?_;refine c_ (fK (V5 v.a5I) a v.a5I.length c (bO _) (eM _) qb) (fun h hh _=>b8.le hh) ?_;rintro x A ⟨a2,c2,rfl,rfl⟩;refine E5 ?_;refine w6 [(2,.bool f),(3,.bool cond),(4,l9 D),(5,l9 M),(8,l9 S),(9,.slice none 0 0),(10,.slice none 0 0),(36,.bool (!q1||!q2))] (wt D v (a2,c2)::Bp M b::wt S Aq (none,0)::l5 a2 v.a5I c2::R) ?_ ?_
 ·cases q1
  all_goals (
   refine O2 ?_;refine f_ ((E1 rfl rfl).eq (jk (fun b=>Value.bool (!b)) h1.symm)) ?_;refine au ?_;(first|refine u_ ?_|(refine v_ ?_;refine f_ ((M1 rfl rfl).eq (jk (fun x=>Value.bool (!x)) ((zp.2 Ju).trans h2.symm))) ?_));refine p_ ?_)
  all_goals exact o_ sub (fun w s=>(tk (C:=[_,_,_,_])).hp s)
 refine N8 ?_ ?_<;>intro h
 ·have e:U7 v b.x f cond=(v,[]):=by
   unfold U7;refine zu ?_;rw[h1,h2] at h;simpa using h
  rw[e];refine bS ?_;refine H3 (A:=[l5 a2 v.a5I c2,r8 none [] 0]) (v:=.tuple #[yA v a2 c2,.slice none 0 0]) (l6.le_refl _) ⟨(a2,c2),[],(none,0),rfl,rfl,rfl,fun _ h=>by cases h⟩ ?_;exact D2 rfl rfl rfl ud rfl _ qh (fun w s=>C5 (A:=[_,_]) (J:=[_,_,_]) tk (s.addNil 51 10))
 have hq:q1=true/\q2=true:=by cases q1<;>cases q2<;>simp_all
 have x0:U7 v b.x f cond=(Ht v (((ke v b.x f).1.map (X9 b.x)).map (·.1)++ug b.ls (L9 (ke v b.x f).1)),(ke v b.x f).2++(if ug b.ls (L9 (ke v b.x f).1)=[] then[] else[{R0 with kind:=8,n:=(ke v b.x f).1.length+(ug b.ls (L9 (ke v b.x f).1)).length}])++ui cond ((ke v b.x f).1.map (X9 b.x))):=by
  unfold U7;have h3:b.name=v.box:=qr (h1.symm.trans hq.1);have h4:b.val=v.val:=qr (h2.symm.trans hq.2);rw[zk (by show¬(b.name≠v.box\/b.val≠v.val);rw[h3,h4];simp)]
 refine u7 ?_;refine H9 5 ?_;refine ly (fun(d:List (Nat×Nat)) (p:AC) (y:List RM) (o:AC)=>ke v b.x f=(d,y.map Prod.fst)/\d.length<=v.a5I.length/\y.length<=v.a5I.length/\JU y) (fun d p y o=>Hv D M S cond y o) (fun d p y o=>Pz D M S v b d p y o R) ?_ ?_
 ·refine n8 ?_;refine gz (fun(k:Nat) (d:List (Nat×Nat)) (p:AC) (y:List RM) (o:AC) (_:Unit)=>(f=true->k<=d.length/\V7 b.x v.a5I.length v.a5I=((V7 b.x k d).1,y.map Prod.fst++(V7 b.x k d).2))/\(f=false->d=v.a5I/\y=[])/\d.length<=v.a5I.length/\y.length+k<=v.a5I.length/\JU y) (fun k d p y o _=>(2,.bool f)::(11,.int .i64 ((k:Int)-1))::Hv D M S cond y o) (fun k d p y o _=>Pz D M S v b d p y o R) (fun k _ _ _ _ _=>k) v.a5I.length v.a5I (a2,c2) [] (none,0) () ⟨fun _=>⟨z1 _,rfl⟩,fun _=>qh,z1 _,by simp,fun _ h=>by cases h⟩ sub (fun w s=>(tk (C:=[_,_,_,_,_])).hp (s.addNil 51 10)) ?_;rintro k d p y o _ ⟨w1,w2,y2,d2,k8⟩
  cases k with
  |zero=>
   refine p_ ?_;refine f_ ((I4 rfl rfl).eq (v':=.bool false) rfl) ?_;refine E5 ?_;refine g_ (d,p,y,o) ⟨?_,y2,by show y.length<=_;omega,k8⟩ i_;unfold ke
   cases f
   ·obtain⟨rfl,rfl⟩:=w2 rfl;rfl
   ·rw[zu rfl,(w1 rfl).2];simp[V7]
  |succ k=>
   cases f
   ·refine p_ ?_;refine f_ ((I4 rfl rfl).eq (v':=.bool true) (qn qk)) ?_;refine E5 ?_;refine g_ (d,p,y,o) ⟨?_,y2,by show y.length<=_;omega,k8⟩ i_;obtain⟨rfl,rfl⟩:=w2 rfl;rfl
   obtain⟨x1,y3⟩:=w1 rfl;have x1:k<d.length:=x1;refine p_ ?_;refine f_ ((I4 rfl rfl).eq (v':=.bool true) (qn qk)) ?_;refine E5 ?_;refine B4 (a:=p.1) (n:=d.length) (c:=p.2) (sz:=2) (xs:=V5 d) (te:=72) ud fun w3 v4 O=>?_;have O:=O qb;have eg:d.getD k (0,0)=d[k]:=(by rw[zd,zj x1];rfl);refine u7 ?_;refine D8 [0,2,6] [7] [l5 p.1 d p.2,wt D (Ht v d) p,Bp M b] 9 ?_;refine wd [0,1,2] ?_;refine w_ 3 rfl ((az rfl).eq (v':=.int .i64 (k:Nat)) (by congr 1;omega)) ?_;refine w_ 4 rfl (m8 (n:=(k:Nat)) (len:=d.length) rfl O rfl qb) ?_;refine wd [5] ?_;refine n9 6 rfl P6 (i8 rfl (fun w s=>cH (j:=0) (s.ownN (t:=72) ud).2.2.1 D0 (i:=k) x1 rfl x6)) I5 rfl rfl rfl i6 ?_;refine h_ 7 rfl i6 ?_;refine e_ rfl (AZ b d[k].1 qb) (fun h hh _=>y1.le hh) rfl ?_;refine E6 [8] ?_;refine ly (fun(V:List (Nat×Nat)) (p':AC) (x2:List RM) (o':AC)=>(k<=V.length/\V7 b.x v.a5I.length v.a5I=((V7 b.x k V).1,x2.map Prod.fst++(V7 b.x k V).2))/\V.length<=v.a5I.length/\x2.length+k<=v.a5I.length/\JU x2) (fun d p y o=>(2,.bool true)::(11,.int .i64 ((((k+1:Nat):Nat):Int)-1))::Hv D M S cond y o) (fun d p y o=>Pz D M S v b d p y o R) ?_ ?_
   ·refine o8 rfl ?_ ?_<;>intro h
    ·have b9:bN b.x (d.getD k (0,0)).1=none:=(by rw[eg];exact wu (qr h));rw[pI b9] at y3;refine y9 ?_;refine f_ ((p9 rfl rfl qb).eq (v':=.int .i64 ((k+1:Nat):Int)) (by congr 1;omega)) ?_;refine p_ ?_;refine f_ (y8 (ps:=[(0,.const (.int .i64 9)),(4,.tmp 61)]) (vs:=[(0,.int .i64 9),(4,.int .u64 ((k+1:Nat):Int))]) (cells:=(tp (ET (k+1)) L0).toArray) rfl i6) ?_;refine C4 qW (ET (k+1),L0) rfl ?_;intro a63 _;refine u6 qW (l:=y) (m:=[(ET (k+1),L0)]) N_ jF (by show(y.length+1)*160<=_;omega) ?_;intro q6 q7 _;refine p_ ?_;have ee:V5 (d.take k)++V5 (d.drop (k+1))=V5 (d.eraseIdx k):=(by rw[<-oG,Kn]);have el:(d.eraseIdx k).length=d.length-1:=(by rw[List.length_eraseIdx,zu x1]);have q4:(k<=(d.eraseIdx k).length/\V7 b.x v.a5I.length v.a5I=((V7 b.x k (d.eraseIdx k)).1,(y++[(ET (k+1),L0)]).map Prod.fst++(V7 b.x k (d.eraseIdx k)).2))/\(d.eraseIdx k).length<=v.a5I.length/\(y++[(ET (k+1),L0)]).length+k<=v.a5I.length/\JU (y++[(ET (k+1),L0)]):=by
      refine⟨⟨by omega,?_⟩,by omega,by rw[zz];simp only[zy,zn];omega,k8.app rfl rfl rfl⟩;rw[y3,jn,zh];rfl
     by_cases hlast:k+1=d.length
     ·refine D5 (H':=.own (.slice p.1 k k) 72 2 (V5 (d.take k))::r8 q6 (y++[(ET (k+1),L0)]) q7::wt D (Ht v d) p::Bp M b::wt S Aq (none,0)::R) (fun w s=>?_) ?_
      ·have h5:=C5 (A:=[l5 p.1 d p.2,r8 q6 (y++[(ET (k+1),L0)]) q7,wt D (Ht v d) p,Bp M b,wt S Aq (none,0)]) (J:=[_]) tk s;have h6:=h5.cutOwn (j:=k) .here qb;rw[aA D0] at h6;exact h6.capOwn .here (z1 _) qb
      refine u7 ?_;refine D8 [1,6] [10,12] [wt D (Ht v d) p] 13 ?_;refine wd [0,1] ?_;refine w_ 2 rfl ((az rfl).eq (v':=.int .i64 (k:Nat)) (by congr 1;omega)) ?_;refine w_ 3 rfl ((az rfl).eq (v':=.int .i64 (k:Nat)) (by congr 1;omega)) ?_;refine w_ 4 rfl ((fL rfl rfl rfl rfl qb).eq (v':=.slice p.1 k k) (by simp[dW])) ?_;refine wd [5,6] ?_;refine w_ 7 rfl ((az rfl).eq (v':=.int .i64 (k:Nat)) (by congr 1;omega)) ?_;refine wd [8] ?_;refine w_ 9 rfl (B5 (n:=d.length) rfl rfl rfl qb) ?_;refine h_ 10 rfl i6 ?_;refine C0 (m:=d.length-(k+1)) (n:=k) (xs:=V5 (d.take k)) (news:=V5 (d.drop (k+1))) rfl rfl (fun a' c'=>uh) (fun w s=>by rw[Qc qb];exact o0.nil _ _) (by rw[bO,z8];rfl) rfl rfl (eM _) (by show(k+(d.length-(k+1)))*16<=_;omega) qb rfl ?_;intro v5 k9 _;refine E6 [11,12] ?_;have en:k+(d.length-(k+1))=(d.eraseIdx k).length:=(by omega);refine g_ (d.eraseIdx k,(v5,k9),y++[(ET (k+1),L0)],(q6,q7)) q4 (fun w s=>?_);show Hp F w (l5 v5 (d.eraseIdx k) k9::r8 q6 (y++[(ET (k+1),L0)]) q7::.blk D (.cells #[B v.box,.int .u64 (v.val:Nat),.slice v5 (d.eraseIdx k).length k9] 30)::Bp M b::wt S Aq (none,0)::R);unfold l5;rw[<-en,<-ee];exact(tk (C:=[_,_,_,_,_])).hp s
     ·have w4:0<d.length-(k+1):=(by omega);refine u7 ?_;refine D8 [1,6] [10,12] [wt D (Ht v d) p] 13 ?_;refine wd [0,1] ?_;refine w_ 2 rfl ((az rfl).eq (v':=.int .i64 (k:Nat)) (by congr 1;omega)) ?_;refine w_ 3 rfl ((az rfl).eq (v':=.int .i64 (k:Nat)) (by congr 1;omega)) ?_;refine w_ 4 rfl ((fL rfl rfl rfl rfl qb).eq (v':=.slice p.1 k k) (by simp[dW])) ?_;refine wd [5,6] ?_;refine w_ 7 rfl ((az rfl).eq (v':=.int .i64 (k:Nat)) (by congr 1;omega)) ?_;refine wd [8] ?_;refine w_ 9 rfl (B5 (n:=d.length) rfl rfl rfl qb) ?_;refine h_ 10 rfl i6 ?_;refine pH (n:=k) (m:=d.length-(k+1)) (sz:=2) (e:=72) (xs:=V5 (d.take k)) (news:=V5 (d.drop (k+1))) rfl rfl ?hrx (by rw[bO,zm,Jb qb]) (fun e=>by obtain⟨ad,h9⟩:=O;rw[e] at h9;cases h9) ?hsrc (by rw[bO,z8]) rfl rfl (by show(k+(d.length-(k+1)))*16<=_;omega) qb w4 rfl ?_;rotate_left 2;intro v6 k9 c8;rotate_right 1;(case hrx=>intro w s;have h6:=((s.ownN (t:=72) ud).2.2.1:o0 _ p.1 (V5 d)).cut w3 v4 0 k qb qb;rw[dW,Z7,Ky,Nat.sub_zero,aA D0] at h6;exact h6);(case hsrc=>intro w s;have h6:=((s.ownN (t:=72) ud).2.2.1:o0 _ p.1 (V5 d)).cut w3 v4 (k+1) d.length qb (z1 _);rw[kY D0,jq (by rw[bO,z8];omega)] at h6;exact h6);refine E6 [11,12] ?_;have en:k+(d.length-(k+1))=(d.eraseIdx k).length:=(by omega);refine g_ (d.eraseIdx k,(some ⟨v6,0,none⟩,k9),y++[(ET (k+1),L0)],(q6,q7)) q4 (fun w s=>?_);show Hp F w (l5 (some ⟨v6,0,none⟩) (d.eraseIdx k) k9::r8 q6 (y++[(ET (k+1),L0)]) q7::.blk D (.cells #[B v.box,.int .u64 (v.val:Nat),.slice (some ⟨v6,0,none⟩) (d.eraseIdx k).length k9] 30)::Bp M b::wt S Aq (none,0)::R);unfold l5;rw[<-en,<-ee];exact C5 (A:=[_,_,_,_,_]) (J:=[_,_]) tk s
    ·obtain⟨i,hi,hr,hx⟩:=wv (zq h);rw[<-eg] at hx;rw[pJ hx] at y3;refine u7 ?_;exact g_ (d,p,y,o) ⟨⟨by show k<=d.length;omega,y3⟩,y2,by show y.length+k<=_;omega,k8⟩ (fun w s=>(tk (C:=[_,_,_,_,_])).hp s)
   rintro V p' x2 o' ⟨c0,w5,w7,w9⟩;refine p_ ?_;refine f_ ((E0 rfl rfl qb).eq (v':=.int .i64 ((k:Int)-1)) (by congr 1;omega)) ?_;refine p_ ?_;exact l8 (i:=(k+1,d,p,y,o,())) (k,V,p',x2,o',()) ⟨fun _=>c0,qx,w5,w7,w9⟩ qg sub i_
 rintro d p y o ⟨he,y2,c9,k8⟩;rw[he] at x0;replace x0:U7 v b.x f cond=(Ht v ((d.map (X9 b.x)).map (·.1)++ug b.ls (L9 d)),y.map Prod.fst++(if ug b.ls (L9 d)=[] then[] else[Py (d.length+(ug b.ls (L9 d)).length)])++ui cond (d.map (X9 b.x))):=x0;rw[x0];clear x0 he;obtain⟨z,v7⟩:=o7 (L9 d);refine au ?_;refine e_ rfl (vU (Ht v d) p.1 p.2 (by show d.length<=_;omega)) (fun h hh ⟨bs,hb⟩=>A3.rd hb ud) rfl ?_;rw[<-v7];refine p_ ?_;refine H9 4 ?_;have x3:=Mm b.ls z;refine n7 (ι:=AC) (fun _=>True) (fun _=>(12,.int .i64 (d.length:Nat))::Hv D M S cond y o) (fun p=>Pz D M S v b (d++ug b.ls z) p y o R) ?_ ?_
 ·refine n8 ?_;refine O6 (fun(j:Nat) (p:AC) (_:Unit)=>j<=b.ls.length) (fun j p _=>(12,.int .i64 (d.length:Nat))::(13,.int .u64 (z:Nat))::(83,.slice b.a b.ls.length b.c)::(84,.int .i64 (b.ls.length:Nat))::(85,.int .i64 (j:Nat))::Hv D M S cond y o) (fun j p _=>Pz D M S v b (d++ug (b.ls.take j) z) p y o R) (fun j _ _=>b.ls.length-j) 0 p () (zw _) sub (fun w s=>by rw[Kx];show Hp F w (Pz D M S v b (d++[]) p y o R);rw[z7];exact(tk (C:=[_,_,_,_,_])).hp s) ?_;rintro j p _ hj;have d3:=x3 j;have y0:(d++ug (b.ls.take j) z).length<=200000:=by rw[zz];omega
  refine R6 ?_ ?_<;>intro h
  ·have Q:j<b.ls.length:=(by have:=qr h;omega);have O:=y7 y1 A_ qp Q;have e:=Hu b.ls z Q;refine p_ ?_;refine r_ (w8 rfl (fun w s=>S4 (y1.le s.keep) A_ qp Q x6) (A_ _)) ?_;refine i7 rfl ?_;intro a0;refine au ?_;refine n7 (ι:=AC) (fun _=>True) (fun _=>(12,.int .i64 (d.length:Nat))::(13,.int .u64 (z:Nat))::(83,.slice b.a b.ls.length b.c)::(84,.int .i64 (b.ls.length:Nat))::(85,.int .i64 (j:Nat))::Hv D M S cond y o) (fun p=>Pz D M S v b (d++ug (b.ls.take (j+1)) z) p y o R) ?_ ?_
   ·rw[e,<-zh];refine o8 rfl ?_ ?_<;>intro h
    ·have v8:z<b.ls[j].t.uid:=(by have:=qr h;omega);rw[zu v8];refine wk 7 ?_;refine C4 ix (b.ls[j].t.uid,b.ls[j].t.mod) rfl ?_;intro OK _;refine u6 ix (l:=d++ug (b.ls.take j) z) (m:=[(b.ls[j].t.uid,b.ls[j].t.mod)]) D0 nf (by show((d++ug (b.ls.take j) z).length+1)*16<=_;omega) ?_;intro z2 u0 _;refine y9 ?_;exact g_ (z2,u0) trivial (fun w s=>C5 (A:=[l5 z2 ((d++ug (b.ls.take j) z)++[(b.ls[j].t.uid,b.ls[j].t.mod)]) u0,_,_,_,_]) (J:=[.own (.slice OK 1 1) 72 2 _,.blk a0 _]) tk s)
    ·have v8:¬z<b.ls[j].t.uid:=(by have:=zq h;omega);rw[zk v8,z7];refine u7 ?_;exact g_ p trivial (fun w s=>C5 (A:=[_,_,_,_,_]) (J:=[.blk a0 _]) tk s)
   rintro U _;refine y9 ?_;exact l8 (i:=(j,p,())) (j+1,U,()) Q qg sub i_
  ·have Q:j=b.ls.length:=(by have:=zq h;omega);refine u7 ?_;exact g_ p trivial (fun w s=>by rw[Q,j9] at s;exact s)
 rintro U _;have x3:=x3 b.ls.length;rw[j9] at x3;obtain⟨T,c1⟩:=o7 (ug b.ls z);rw[<-c1] at x3⊢;obtain⟨n,hn⟩:=o7 (d.length+T.length);obtain⟨h0,q0⟩:=o7 (y.map Prod.fst++(if T=[] then[] else[Py (d.length+T.length)]));rw[<-q0];refine u7 ?_;refine D5 (H':=Oe D M S v b n (d++T) U y o R) (fun w s=>by rw[hn,<-zz];exact s) ?_;refine au ?_;refine ly (fun(h7:List RM) (o2:AC) (_ _:Unit)=>h7.map Prod.fst=h0/\JU h7/\h7.length<=v.a5I.length+1) (fun h7 o2 _ _=>(12,.int .i64 (d.length:Nat))::Hv D M S cond h7 o2) (fun h7 o2 _ _=>Oe D M S v b n (d++T) U h7 o2 R) ?_ ?_
 ·refine o8 rfl ?_ ?_<;>intro h
  ·have v9:T≠[]:=(by rintro rfl;have:=qr h;simp at hn;omega);refine O2 ?_;refine f_ ((z_ rfl qb).eq (v':=.int .u64 (n:Nat)) rfl) ?_;refine f_ (y8 (ps:=[(0,.const (.int .i64 8)),(4,.tmp 113)]) (vs:=[(0,.int .i64 8),(4,.int .u64 (n:Nat))]) (cells:=(tp (Py n) L0).toArray) rfl i6) ?_;refine C4 qW (Py n,L0) rfl ?_;intro d0 _;refine u6 qW (l:=y) (m:=[(Py n,L0)]) N_ jF (by show(y.length+1)*160<=_;omega) ?_;intro u1 u2 _;refine p_ ?_;refine g_ (y++[(Py n,L0)],(u1,u2),(),()) ⟨?_,k8.app rfl rfl rfl,by simp only[zz,zy,zn];omega⟩ (fun w s=>C5 (A:=[_,r8 u1 (y++[(Py n,L0)]) u2,_,_,_]) (J:=[_]) tk s);rw[q0,zk v9,jn,hn];rfl
  ·have he:T=[]:=by
    have:=zq h;have h5:T.length=0:=(by omega);exact jy h5
   refine u7 ?_;refine g_ (y,o,(),()) ⟨?_,k8,by show y.length<=_;omega⟩ i_;rw[q0,zu he,z7]
 rintro h7 o2 _ _ ⟨c3,c4,c5⟩;refine u7 ?_;refine B4 (a:=U.1) (n:=n) (c:=U.2) (sz:=2) (xs:=V5 (d++T)) (te:=72) ud fun _ v4 O=>?_;refine E5 ?_;refine f_ ((B5 (n:=n) rfl rfl rfl (by have:=hn;omega)).eq (v':=.slice U.1 d.length U.2) (by simp[dW])) ?_;refine H9 2 ?_;have h8:∀r∈d.map (X9 b.x),True:=fun _ _=>trivial;have a1:(d.map (X9 b.x)).length=d.length:=zr _;refine S6 (fun(F3:l6) (g:List RM) (X:AC) (_:Unit)=>F.le F3/\g.map Prod.fst=h0++ui cond (d.map (X9 b.x))/\∀m∈g,fC m.1 m.2 F3.heap/\yM m.2) (fun _ g X _=>Hv D M S cond g X) (fun F3 _ _ _=>F3) (fun _ g X _=>Oe D M S v b n (pK b.x d T d.length) U g X R) ?_ ?_
 ·refine n8 ?_;refine Hq (fun(j:Nat) (F2:l6) (g:List RM) (X:AC) (_ _:Unit)=>j<=d.length/\F.le F2/\g.map Prod.fst=h0++ui cond ((d.map (X9 b.x)).take j)/\(∀m∈g,fC m.1 m.2 F2.heap/\yM m.2)/\g.length<=v.a5I.length+1+j) (fun j _ g X _ _=>(120,.slice U.1 d.length U.2)::(121,.int .i64 (d.length:Nat))::(122,.int .i64 (j:Nat))::Hv D M S cond g X) (fun _ F2 _ _ _ _=>F2) (fun j _ g X _ _=>Oe D M S v b n (pK b.x d T j) U g X R) (fun j _ _ _ _ _=>d.length-j) 0 F h7 o2 () () ⟨zw _,l6.le_refl _,by rw[Kx,c3];simp[ui],c4.rd _,c5⟩ sub rfl i_ ?_;rintro j F2 g X _ _ ⟨hj,q8,q3,Y,d4⟩;have d5:=uj b.x d T hj;refine R6 ?_ ?_<;>intro h
  ·have Q:j<d.length:=(by have:=qr h;omega);have a6:j<(pK b.x d T j).length:=(by omega);have O:=O qb;have q5:=y1.le q8.heap;have a7:=Hw b.x d T Q;have z0:=DM cond (d.map (X9 b.x)) (by rw[a1];exact Q);rw[J6] at z0;refine H9 0 ?_;refine S6 (fun(F3:l6) (k0:List RM) (o4:AC) (_:Unit)=>F2.le F3/\k0.map Prod.fst=h0++ui cond ((d.map (X9 b.x)).take (j+1))/\(∀m∈k0,fC m.1 m.2 F3.heap/\yM m.2)/\k0.length<=v.a5I.length+1+(j+1)) (fun _ k0 o4 _=>(120,.slice U.1 d.length U.2)::(121,.int .i64 (d.length:Nat))::(122,.int .i64 (j:Nat))::Hv D M S cond k0 o4) (fun F3 _ _ _=>F3) (fun _ k0 o4 _=>Oe D M S v b n (pK b.x d T (j+1)) U k0 o4 R) ?_ ?_
   ·refine n8 ?_;refine y9 ?_;refine r_ ((w8 rfl (fun w s=>fe (s.ownN (t:=72) ud).2.2.1 D0 qp a6 x6) (D0 _)).eq (v':=.agg (ix d[j]).toArray) (by rw[a7])) ?_;refine i7 rfl ?_;intro q9;refine au ?_;refine e_ rfl (AZ b d[j].1 qb) (fun h hh _=>q5.le hh) rfl ?_;refine p_ ?_;by_cases hlet:yC b.ls d[j].1<0
    ·have h8:X9 b.x d[j]=(d[j],none):=(by unfold X9;rw[wu hlet]);refine u7 ?_;refine D8 [4,8,10] [] [Bp M b,.blk q9 (.cells (ix d[j]).toArray 72)] 13 ?_;refine wd [0] ?_;refine w_ 1 rfl ((E_ rfl rfl).eq (v':=.bool true) (qn (kr hlet))) ?_;refine wd [2,3,4,5,6,7,8,9,10,11,12] ?_;refine y5 (F2,g,X,()) ⟨l6.le_refl _,?_,Y,by show g.length<=_;omega⟩ rfl (fun w s=>?_)
     ·rw[z0,h8,<-zh,<-q3];simp
     ·show Hp F2 w (Oe D M S v b n (pK b.x d T (j+1)) U g X R);rw[ww b.x d T Q (by rw[h8])];exact C5 (A:=[_,_,_,_,_]) (J:=[.blk q9 _]) tk s
    obtain⟨i,hi,hr,hx⟩:=wv hlet;have b6:=y7 q5 A_ qp hi;obtain⟨q,hq⟩:=o7 (decide (b.ls[i].t.mod=d[j].2));rw[hr];refine u7 ?_;refine D8 [4,8,10] [] [Bp M b,.blk q9 (.cells (ix d[j]).toArray 72)] 13 ?_;refine wd [0] ?_;refine w_ 1 rfl ((E_ rfl rfl).eq (v':=.bool false) (qn qj)) ?_;refine wd [2,3,4,5,6,7] ?_;(first|refine s_ 8 ?_|refine t_ 8 ?_|refine il 8 rfl (i8 rfl (fun w s=>cH (j:=2) (q5.le s.keep) A_ hi rfl x6)) I5 rfl rfl rfl rfl rfl rfl i6 ?_);refine wd [9,10] ?_;(first|refine s_ 11 ?_|refine t_ 11 ?_|refine F6 11 rfl ((p8 rfl rfl).eq (v':=.bool q) (qn ((zp.2 Ju).trans hq.symm))) rfl rfl rfl rfl rfl rfl i6 ?_);refine wd [12] ?_
    cases q
    ·have v9:¬b.ls[i].t.mod=d[j].2:=zq hq.symm;have h8:X9 b.x d[j]=((d[j].1,b.ls[i].t.mod),some b.ls[i].t):=(by unfold X9;rw[hx];exact zk v9);have d1:=b7 _ (zx hi);have c6:o0 F2.heap b.ls[i].a (fV b.ls[i].t.a5U):=(w0.fl _ (zx hi)).le q8.heap;refine O2 ?_;refine r_ (w8 rfl (fun w s=>fe (q5.le s.keep) A_ qp hi x6) (A_ _)) ?_;refine i7 rfl ?_;intro a8;refine wk 8 ?_;refine A9 (C:=ix) (l:=pK b.x d T j) ((pK b.x d T j)[j].1,b.ls[i].t.mod) D0 (i:=j) a6 (j:=1) rfl ?_;refine u7 ?_;rw[show((pK b.x d T j)[j].1,b.ls[i].t.mod)=(X9 b.x d[j]).1 from by rw[a7,h8],Bq b.x d T Q];refine y9 ?_;refine c_ (Y5 b.ls[i].t.a5U b.ls[i].a b.ls[i].c qb) (fun h hh _=>c6.le hh) ?_;rintro x A ⟨fa,fc,rfl,rfl⟩;refine f_ (y8 (ps:=[(0,.const (.int .i64 6)),(2,.tmp 158)]) (vs:=[(0,.int .i64 6),(2,.slice fa b.ls[i].t.a5U.length fc)]) (cells:=(vp (Rb b.ls[i].t.a5U fa fc)).toArray) rfl i6) ?_;refine C4 vp (Rb b.ls[i].t.a5U fa fc) rfl ?_;intro b0 _;refine y9 ?_;refine ly (fun(vl:List VM) (u:AC) (_ _:Unit)=>vl=Rb b.ls[i].t.a5U fa fc::(if cond then[SR b.ls[i].t.mod] else[])) (fun vl u _ _=>(16,.int .i64 (j:Nat))::(20,.slice u.1 vl.length u.2)::(120,.slice U.1 d.length U.2)::(121,.int .i64 (d.length:Nat))::(122,.int .i64 (j:Nat))::Hv D M S cond g X) (fun vl u _ _=>.own (.slice u.1 vl.length u.2) 110 6 (OV vl)::A4 fa b.ls[i].t.a5U fc::Oe D M S v b n (pK b.x d T (j+1)) U g X R) ?_ ?_
     ·cases cond
      ·refine u7 ?_;exact g_ ([Rb b.ls[i].t.a5U fa fc],(b0,1),(),()) rfl (fun w s=>C5 (A:=[_,_,_,_,_,_,_]) (J:=[.blk a8 _,.blk q9 _]) tk s)
      ·refine E5 ?_;refine f_ (y8 (ps:=[(0,.const (.int .i64 9)),(1,.tmp 164)]) (vs:=[(0,.int .i64 9),(1,.int .u64 (b.ls[i].t.mod:Nat))]) (cells:=(vp (SR b.ls[i].t.mod)).toArray) rfl i6) ?_;refine C4 vp (SR b.ls[i].t.mod) rfl ?_;intro b1 _;refine u6 vp (l:=[Rb b.ls[i].t.a5U fa fc]) (m:=[SR b.ls[i].t.mod]) mX mY (by show 2*_<=_;decide) ?_;intro u8 v0 _;refine p_ ?_;exact g_ ([Rb b.ls[i].t.a5U fa fc,SR b.ls[i].t.mod],(u8,v0),(),()) rfl (fun w s=>C5 (A:=[.own (.slice u8 _ v0) _ 6 _,_,_,_,_,_,_]) (J:=[.own (.slice b1 _ 1) _ 6 _,.blk a8 _,.blk q9 _]) tk s)
     rintro vl u _ _ b2;obtain⟨x9,d6⟩:=o7 (α:=RL) (⟨none,0,none,0,u.1,u.2,vl⟩);refine y9 ?_;refine f_ ((p9 rfl rfl qb).eq (v':=.int .i64 ((j+1:Nat):Int)) (by congr 1)) ?_;refine y9 ?_;refine f_ ((y8 (ps:=[(0,.const (.int .i64 14)),(4,.tmp 171),(9,.tmp 172)]) (vs:=[(0,.int .i64 14),(4,.int .u64 ((j+1:Nat):Int)),(9,.slice u.1 vl.length u.2)]) (cells:=(tp (tA b.ls[i].t (j+1) cond) ⟨none,0,none,0,u.1,u.2,vl⟩).toArray) rfl i6)) ?_;refine C4 qW (tA b.ls[i].t (j+1) cond,⟨none,0,none,0,u.1,u.2,vl⟩) rfl ?_;intro b3 _;refine u6 qW (l:=g) (m:=[(tA b.ls[i].t (j+1) cond,⟨none,0,none,0,u.1,u.2,vl⟩)]) N_ jF (by show(g.length+1)*160<=_;omega) ?_;intro v1 v2 _;refine p_ ?_;refine jZ (Z:=[.own (.slice u.1 vl.length u.2) 110 6 (OV vl),A4 fa b.ls[i].t.a5U fc]) tk fun F3 v3 ⟨bs,b4⟩=>?_;have b5:fC (tA b.ls[i].t (j+1) cond) ⟨none,0,none,0,u.1,u.2,vl⟩ F3.heap:=by
      refine⟨?_,o0.nil _ _,o0.nil _ _,A3.rd b4 ud,fun m hm=>?_⟩
      ·rw[b2];cases cond<;>rfl
      ·rw[b2] at hm;rcases ky.1 hm with rfl|hm
       ·exact A3.rd b4 ud
       ·cases cond
        ·cases hm
        ·rw[zg.1 hm];exact o0.nil _ _
     refine y5 (F3,g++[(tA b.ls[i].t (j+1) cond,⟨none,0,none,0,u.1,u.2,vl⟩)],(v1,v2),()) ⟨v3,?_,fun m hm=>?_,by simp only[zz,zy,zn];omega⟩ rfl (fun w s=>C5 (A:=[_,r8 v1 _ v2,_,_,_]) (J:=[r8 b3 _ 1]) tk s)
     ·rw[z0,h8,<-zh,<-q3,jn];rfl
     ·rcases zb.1 hm with h5|h5
      ·exact⟨(Y m h5).1.le v3.heap,(Y m h5).2⟩
      ·rw[zg.1 h5];exact⟨b5,rfl,rfl⟩
    ·have c7:b.ls[i].t.mod=d[j].2:=qr hq.symm;have h8:X9 b.x d[j]=(d[j],none):=(by unfold X9;rw[hx];exact zu c7);refine u7 ?_;refine y5 (F2,g,X,()) ⟨l6.le_refl _,?_,Y,by show g.length<=_;omega⟩ rfl (fun w s=>?_)
     ·rw[z0,h8,<-zh,<-q3];simp
     ·show Hp F2 w (Oe D M S v b n (pK b.x d T (j+1)) U g X R);rw[ww b.x d T Q (by rw[h8])];exact C5 (A:=[_,_,_,_,_]) (J:=[.blk q9 _]) tk s
   rintro F3 k0 o4 _ ⟨h1,h2,h3,h4⟩;refine y9 ?_;exact O_ (i:=(j,F2,g,X,(),())) (j+1,F3,k0,o4,(),()) ⟨Q,q8.trans h1,h2,h3,h4⟩ qg sub rfl i_
  ·have Q:j=d.length:=(by have:=zq h;omega);refine u7 ?_;refine y5 (F2,g,X,()) ⟨q8,?_,Y⟩ rfl (fun w s=>by rw[Q] at s;exact s);rw[Q,<-a1,j9] at q3;exact q3
 rintro F3 g X _ ⟨q8,q3,Y⟩;have q4:pK b.x d T d.length=(d.map (X9 b.x)).map (·.1)++T:=by unfold pK;rw[jq x6,J7,j7]
 have y0:n=((d.map (X9 b.x)).map (·.1)++T).length:=by simp[hn]
 rw[q4];refine JO ?_;refine H3 (A:=[l5 U.1 ((d.map (X9 b.x)).map (·.1)++T) U.2,r8 X.1 g X.2]) (v:=.tuple #[yA (Ht v ((d.map (X9 b.x)).map (·.1)++T)) U.1 U.2,.slice X.1 g.length X.2]) q8 ⟨U,g,X,rfl,rfl,q3,Y⟩ ?_;have ev:yA (Ht v ((d.map (X9 b.x)).map (·.1)++T)) U.1 U.2=.agg #[B v.box,.int .u64 (v.val:Nat),.slice U.1 n U.2]:=by rw[y0]
 rw[ev];exact D2 rfl rfl rfl ud rfl _ qh (fun w s=>by unfold l5;rw[<-y0];exact C5 (A:=[_,_]) (J:=[_,_,_]) tk s)
