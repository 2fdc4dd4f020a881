import Derived.Test.YtmcepdopookilaaGreatDoorukx13
set_option maxHeartbeats 16000000
set_option maxRecDepth 8000
set_option linter.unusedVariables false
set_option linter.unusedSimpArgs false
set_option linter.defProp false
namespace Go.Proofs.YtmcepdopookilaaGreatDoor.Rp
open Go Go.Sl Go.RowKit Go.Proofs.Tryz
def nM{H H' a:List As}{x:As}(u:N1 H x a H'):∀M:List As,N1 (M++H) x a (M++H')
 |[]=>u
 |_::M=>.there (nM u M)
def wV(z:KA)(i:Nat)(m:KM):KA.own ⟨z.l.set i m,z.a,z.c⟩=.own (.slice z.a z.l.length z.c) 127 6 ((z.l.set i m).flatMap aX):=by
 show As.own (.slice z.a (z.l.set i m).length z.c) _ _ _=_;rw[Qw]
abbrev HJ(m:KM)(n:Nat):KM:=⟨{m.k with kids:=n},m.a,m.c⟩
def nh.same{z:KA}{i:Nat}{m:KM}{B:List KA}:∀N:List KA,nh (N++z::B) (N++⟨z.l.set i m,z.a,z.c⟩::B)
 |[]=>.cons ⟨rfl,rfl,by rw[Qw];exact kp _⟩ (nh.refl _)
 |y::N=>.cons ⟨rfl,rfl,kp _⟩ (nh.same N)
def gQ{P:zj}{N:Nat}{K R:A1}{E:List (Nat×A1)}{L:G9}{F:l9}{ops:Array Oper}{rest:List Oper}{ty:zk}{pos:String}{af:Array Edge}{t:zk}{i:KT}{W:List As}{a:qr}{at_ n q:Nat}{x y:zw}[hs:HS P t 1](p:∃M z B,i.y::i.D=M++z::B/\z.a=a/\at_<z.l.length)(b:wR i)(g:n<=2000000000)(h:∀j:KT,cY i j->wR j->j.y.a=i.y.a->j.y.c=i.y.c->j.y.l.length=i.y.l.length->GL P N ops rest K E R L F (W++wQ j))(hx:ev L x=some (.pointer (N_ a q)))(hv:ev L y=some (.int .i64 (n:Nat)))(hq:q=at_*6+1):GL P N ops (⟨none,.store t x y,ty,pos,af,none⟩::rest) K E R L F (W++wQ i):=by
 obtain⟨M,z,B,e,rfl,f⟩:=p;have hg:∀j:KT,j.y::j.D=M++⟨z.l.set at_ (HJ z.l[at_] n),z.a,z.c⟩::B->i.y.l.length<=j.y.l.length->j.S=i.S->cY i j:=fun j d r s=>⟨r,⟨[],_,rfl,by rw[e,d];exact nh.same M⟩,[],s⟩
 cases M with
 |nil=>
  obtain⟨rfl,rfl⟩:=List.cons.inj e;refine A6 (C:=aX) (l:=i.y.l) (i:=at_) (j:=1) (HJ i.y.l[at_] n) S7 f rfl (H':=W++wQ ⟨⟨i.y.l.set at_ (HJ i.y.l[at_] n),i.y.a,i.y.c⟩,i.D,i.S⟩) (h _ (hg _ rfl (by rw[Qw];exact kp _) rfl) ⟨by rw[Qw];exact b.len,fun m k=>?_,fun m k=>?_⟩ rfl rfl (by rw[Qw])) (hx:=hx) (hv:=hv) (len:=i.y.l.length) (c:=i.y.c) (te:=127) (u:=nM (by show N1 _ _ _ (KA.own ⟨_,_,_⟩::_);rw[wV];exact .here) W) (hq:=hq)
  ·rcases Qj k with d|rfl
   ·exact b.set m d
   ·have o:=b.set _ (zm f);exact⟨o.1,o.2.1,o.2.2.1,g⟩
  ·rcases Qj k with d|rfl
   ·exact b.own m d
   ·show(i.y.l[at_]).k.set=[]\/X1 (i.y.l[at_]).a (i.y.l[at_]).k.set (i.y.l[at_]).c∈i.S;exact b.own _ (zm f)
 |cons y0 M=>
  obtain⟨rfl,v⟩:=List.cons.inj e;refine A6 (C:=aX) (l:=z.l) (i:=at_) (j:=1) (HJ z.l[at_] n) S7 f rfl (len:=z.l.length) (c:=z.c) (te:=127) (H':=W++wQ ⟨i.y,M++⟨z.l.set at_ (HJ z.l[at_] n),z.a,z.c⟩::B,i.S⟩) (h _ (hg _ rfl (kp _) rfl) ⟨b.len,b.set,b.own⟩ rfl rfl rfl) (hx:=hx) (hv:=hv) (u:=nM (.there ?_) W) (hq:=hq);rw[show i.D=M++z::B from v,Qx,Qx,Q2,Q2,ky,ky,wV];exact nM .here _
def sI{s:Bs}{i a:KT}{p n b:Nat}(h:pK s (fun(i:KT) p c p'=>p<=p'/\p'<=s.length/\cY i c/\wR c) i p n a b):p<=b/\b<=s.length/\cY i a/\wR a:=by
 induction h with
 |one h=>exact h
 |more h hl hr ih=>exact⟨by omega,hr.2.1,ih.2.2.1.trans hr.2.2.1,hr.2.2.2⟩
def uB{s:Bs}{i c:KT}{p n a:Nat}(h:pK s (fun(i:KT) p b p'=>p<=p'/\p'<=s.length/\cY i b/\wR b) i p n c a):n<=a+1:=by
 induction h with
 |one h=>omega
 |more h hl hr ih=>have:=hr.1;omega
def gR{Q X Y:As}{Z:List As}:((Q::(Z++[X,Y]))++[]).Perm (X::Y::Q::Z):=by
 rw[jk];exact(jj (l₁:=Q::Z) (l₂:=[X,Y]))
def BK{u i:KT}{at_:Nat}(h:cY u i)(ha:at_<u.y.l.length):∃M z B,i.y::i.D=M++z::B/\z.a=u.y.a/\at_<z.l.length:=by
 obtain⟨N,B,e,k⟩:=h.arr
 cases k with
 |@cons x y l m k1 k2=>exact⟨N,y,m,e,k1.1,Nat.lt_of_lt_of_le ha k1.2.2⟩
def pQ(b:Nat)(s:Bs)(hs:s.length<=1000000000)(d:Nat)(Z:d<=100)(hk:d<=8->rC 345 b s (d+1)):rC 284 b s d:=fun p c x t hp ht=>by
 refine C2 22 func284 rfl rfl rfl ?_;intro F hg;refine u6 ?_;intro r;refine u6 ?_;intro y;refine u6 ?_;refine f_ ((A2 rfl rfl).eq (v':=.agg (aX ⟨⟨1,0,[],[],0,[]⟩,none,0⟩).toArray) rfl) ?_;refine y4 [pB r b,.blk y (.cells #[.int .i64 (d:Nat)] 3)] rfl (fh b s p c x t ⟨⟨1,0,[],[],0,[]⟩,none,0⟩ ht.len) (fun w f=>f.perm ((List.Perm.swap _ _ _).trans (jj (l₁:=[_,_])))) qw rfl rfl (l9.le_refl _) (fun v h=>h) ?_;rintro v A ⟨u,rfl,rfl,h3,h4,C,J⟩;refine z_ (fun w f=>f.perm jj) ?_;simp only[Zu,Qv];refine u6 ?_;have ku:=cJ ht h4 C J ⟨by simp,by simp,by simp,by simp⟩ (.inl rfl);have M:t.y.l.length<u.y.l.length:=by rw[C];simp
 obtain⟨q,hq⟩:=o9 (decide (d<=8));refine u6 ?_;refine f_ ((H4 rfl rfl).eq (v':=.bool q) (qn ((qz).trans hq.symm))) ?_;refine n7 (H9 q) qw rfl (fun v h=>h.2) ?_;rintro v A ⟨S,rfl,rfl⟩;refine x6 ?_;have O:=zy (hq.symm.trans S);refine B7 (a:=u.y.a) (n:=u.y.l.length) (c:=u.y.c) (sz:=6) (xs:=qV u.y.l) ud ?_;intro _ _ m;replace m:=m qb;rw[fg];refine x6 ?_;refine D8 [0,6] [4,8,9,11] [pB r b] 12 ?_;refine wd [0,1,2,3,5,6,7] ?_;refine S4 4 8 rfl rfl i6 ?_ ?_;refine r_ (by first|exact G0 rfl ud (by rfl)|exact l5 rfl (fun w f=>vK f (by assumption) (by rfl))) ?_;refine V2 ?_;refine h_ 8 rfl i6 ?_;refine y4 [] rfl (nI b s hs 344 [i8 r,i8 y] Gl (pN c) (nL x) (fun i=>wQ i++[pB r b,.blk y (.cells #[.int .i64 (d:Nat)] 3)]) (fun i p=>wR i/\cY u i) (fun i p z l=>p<=l/\l<=s.length/\cY i z/\wR z) (fun _ _=>True) (fun i p z l h hp o=>⟨o.1,o.2.1,o.2.2.2,h.2.trans o.2.2.1⟩) (fun _ _ h=>h) (fun i p h hp=>(sH b r y s d Z (hk O) p c x i hp h.1).mono (fun _ h=>h) (fun v A ⟨u,l,T,U,e,V,C,J⟩=>⟨u,l,⟨T,U,C,J⟩,e,V⟩) (fun v h=>⟨trivial,h⟩)) u p ⟨ku,cY.refl u⟩ hp) (fun w f=>by rw[<-fg b s p c x u] at f;exact f.perm gR.symm) pre rfl rfl (l9.le_refl _) (fun v h=>h.2) ?_;rintro v A ⟨n,i,l,g,X,rfl,rfl⟩;refine z_ (fun w f=>f.perm gR) ?_;rw[fg];obtain⟨i1,i2,D,Q⟩:=sI g;have Y:=D.len;refine AD (a:=i.y.a) (n:=i.y.l.length) (c:=i.y.c) (sz:=6) (xs:=qV i.y.l) ud ?_;intro _ _ k;replace k:=k qb;refine rR ?_;refine h_ 9 rfl i6 ?_
 first|refine f_ (n5 rfl m rfl qb) ?_|refine f_ (n5 rfl k rfl qb) ?_
 refine D7 [10] ?_;refine h_ 11 rfl i6 ?_;(first|refine gQ (W:=[_,_,_]) (i:=i) (a:=u.y.a) (at_:=t.y.l.length) (n:=n) (BK D M) Q (by have:=uB g;omega) ?_ rfl rfl x7|refine gQ (W:=[_,_,_]) (i:=i) (a:=i.y.a) (at_:=t.y.l.length) (n:=n) ⟨[],i.y,i.D,rfl,rfl,by omega⟩ Q (by have:=uB g;omega) ?_ rfl rfl x7);intro j j1 j2 j3 j4 j5;refine D7 [] ?_
 rotate_left 1
 refine y4 [] rfl (nI b s hs 344 [i8 r,i8 y] Gl (pN c) (nL x) (fun i=>wQ i++[pB r b,.blk y (.cells #[.int .i64 (d:Nat)] 3)]) (fun i p=>wR i/\cY u i) (fun i p z l=>p<=l/\l<=s.length/\cY i z/\wR z) (fun _ _=>True) (fun i p z l h hp o=>⟨o.1,o.2.1,o.2.2.2,h.2.trans o.2.2.1⟩) (fun _ _ h=>h) (fun i p h hp=>(sH b r y s d Z (hk O) p c x i hp h.1).mono (fun _ h=>h) (fun v A ⟨u,l,T,U,e,V,C,J⟩=>⟨u,l,⟨T,U,C,J⟩,e,V⟩) (fun v h=>⟨trivial,h⟩)) u p ⟨ku,cY.refl u⟩ hp) (fun w f=>by rw[<-fg b s p c x u] at f;exact f.perm gR.symm) pre rfl rfl (l9.le_refl _) (fun v h=>h.2) ?_;rintro v A ⟨n,i,l,g,X,rfl,rfl⟩;refine z_ (fun w f=>f.perm gR) ?_;rw[fg];obtain⟨i1,i2,D,Q⟩:=sI g;have Y:=D.len;refine AD (a:=i.y.a) (n:=i.y.l.length) (c:=i.y.c) (sz:=6) (xs:=qV i.y.l) ud ?_;intro _ _ k;replace k:=k qb;refine V2 ?_;refine h_ 4 rfl i6 ?_;refine r_ (by first|exact G0 rfl ud (by rfl)|exact l5 rfl (fun w f=>vK f (by assumption) (by rfl))) ?_;refine rR ?_;refine h_ 9 rfl i6 ?_
 first|refine f_ (n5 rfl m rfl qb) ?_|refine f_ (n5 rfl k rfl qb) ?_
 refine D7 [10] ?_;refine h_ 11 rfl i6 ?_;(first|refine gQ (W:=[_,_,_]) (i:=i) (a:=u.y.a) (at_:=t.y.l.length) (n:=n) (BK D M) Q (by have:=uB g;omega) ?_ rfl rfl x7|refine gQ (W:=[_,_,_]) (i:=i) (a:=i.y.a) (at_:=t.y.l.length) (n:=n) ⟨[],i.y,i.D,rfl,rfl,by omega⟩ Q (by have:=uB g;omega) ?_ rfl rfl x7);intro j j1 j2 j3 j4 j5;refine D7 [] ?_
 rotate_left 1
 all_goals (refine x6 ?_)
 all_goals exact m6 rfl _ ⟨j,l,i1,i2,rfl,rfl,(h3.trans D).trans j1,j2⟩ (fun w f=>by rw[fg,j3,j4,j5];exact f.drop.drop)
def HK(b:Nat)(s:Bs)(hs:s.length<=1000000000):∀n a,a<=50->10<=a+n->n<=20->rC 284 b s a/\rC 345 b s a
 |0,a,hd,h,hn=>by
  have c:a<=8->rC 345 b s (a+1):=fun d=>absurd h qb;have hg:=pQ b s hs a qb c;exact⟨hg,wU b s hs a qb hg c⟩
 |n+1,a,hd,h,hn=>by
  have c:a<=8->rC 345 b s (a+1):=fun d=>(HK b s hs n (a+1) qb qb qb).2;have hg:=pQ b s hs a qb c;exact⟨hg,wU b s hs a qb hg c⟩
def Ei(b:Nat)(s:Bs)(hs:s.length<=1000000000)(c:CM)(p:Nat)(hp:p<=s.length):Cx prog 215 [i8 b] Gl [I5 b s p (R8 c) I0] (fun v A=>∃(d:List KY) (p':Nat) (x:CL) (Z:List As),p'<=s.length/\d.length<=32/\(∀k∈d,Fr k)/\v=.tuple #[]/\A=I5 b s p' {R8 c with keys:=d} x::Z/\sF {R8 c with keys:=d} x Z) (fun v=>v=O0):=by
 refine C2 6 func215 rfl rfl rfl ?_;intro F hg;refine u6 ?_;refine n7 (E4 b s [32] p (R8 c) I0 qb hp qp) pre rfl (fun v h=>h.2) ?_;rintro v A ⟨l,f,rfl,rfl⟩;refine x6 ?_;have n:=D6 f x7;refine P8 127 6 ?_;refine u6 ?_;refine y4 [] rfl ((HK b s hs 9 1 qb qb qb).1 l (R8 c) I0 ⟨⟨[],none,0⟩,[],[]⟩ n.2.2 ⟨by simp,fun m a=>by simp at a,fun m a=>by simp at a⟩) (fun w g=>y9.hp tk g) pre rfl rfl (l9.le_refl _) (fun v h=>h) ?_;rintro v A ⟨u,p',r,o,rfl,rfl,t,i⟩;rw[jk];refine x6 ?_;refine m6 rfl _ ⟨u.y.l.map KM.k,p',nL I0 u,wQ u,o,by rw[kg];exact i.len,fun k q=>?_,rfl,rfl,fun h y j=>⟨n9.nil _ _,n9.nil _ _,⟨u.y.l,rfl,A_.rd j .del,fun m a=>?_⟩,n9.nil _ _⟩⟩ fun w g=>g
 ·obtain⟨m,a,rfl⟩:=jr.1 q;exact i.set m a
 ·rcases i.own m a with e|e
  ·rw[e];exact n9.nil _ _
  ·exact ef j (.tail _ (List.mem_append_right _ e))
def OH:Nat->FuncId
 |1=>207
 |2=>207
 |3=>207
 |4=>207
 |5=>207
 |6=>208
 |7=>209
 |8=>210
 |9=>210
 |10=>211
 |11=>211
 |12=>212
 |13=>213
 |14=>214
 |15=>215
 |16=>216
 |17=>217
 |18=>218
 |_=>207
abbrev fnV(k:Nat):Value:=if k=0 then .nilFunc else .func (.func (OH k)) #[] #[]
abbrev MF(k:Nat):Value:=.tuple #[.agg #[.int .i64 (k:Nat),.bool (decide (15<=k)),fnV k],.bool (decide (k≠0))]
def MG{w:Bs}(h:w∉vZ):F_ w=0:=zb h
def mE(w:Bs):Pu prog 133 [B w] (fun _=>True) (MF (F_ w)):=by
 refine b_ 60 func133 rfl rfl rfl ?_;intro F _;refine u6 ?_;intro u;refine AO ?_ ?_<;>intro k
 ·obtain rfl:=zy k;refine cn ?_;exact D_ rfl rfl rfl ud rfl [] ⟨by rw[show F_ _=1 from by decide];rfl,rfl⟩ (fun w a=>a.dropAll)
 refine bQ ?_ ?_<;>intro l
 ·obtain rfl:=zy l;refine cn ?_;exact D_ rfl rfl rfl ud rfl [] ⟨by rw[show F_ _=2 from by decide];rfl,rfl⟩ (fun w a=>a.dropAll)
 refine bQ ?_ ?_<;>intro m
 ·obtain rfl:=zy m;refine cn ?_;exact D_ rfl rfl rfl ud rfl [] ⟨by rw[show F_ _=3 from by decide];rfl,rfl⟩ (fun w a=>a.dropAll)
 refine bQ ?_ ?_<;>intro n
 ·obtain rfl:=zy n;refine cn ?_;exact D_ rfl rfl rfl ud rfl [] ⟨by rw[show F_ _=4 from by decide];rfl,rfl⟩ (fun w a=>a.dropAll)
 refine bQ ?_ ?_<;>intro o
 ·obtain rfl:=zy o;refine cn ?_;exact D_ rfl rfl rfl ud rfl [] ⟨by rw[show F_ _=5 from by decide];rfl,rfl⟩ (fun w a=>a.dropAll)
 refine bQ ?_ ?_<;>intro p
 ·obtain rfl:=zy p;refine cn ?_;exact D_ rfl rfl rfl ud rfl [] ⟨by rw[show F_ _=6 from by decide];rfl,rfl⟩ (fun w a=>a.dropAll)
 refine bQ ?_ ?_<;>intro q
 ·obtain rfl:=zy q;refine cn ?_;exact D_ rfl rfl rfl ud rfl [] ⟨by rw[show F_ _=7 from by decide];rfl,rfl⟩ (fun w a=>a.dropAll)
 refine bQ ?_ ?_<;>intro r
 ·obtain rfl:=zy r;refine cn ?_;exact D_ rfl rfl rfl ud rfl [] ⟨by rw[show F_ _=8 from by decide];rfl,rfl⟩ (fun w a=>a.dropAll)
 refine bQ ?_ ?_<;>intro s
 ·obtain rfl:=zy s;refine cn ?_;exact D_ rfl rfl rfl ud rfl [] ⟨by rw[show F_ _=9 from by decide];rfl,rfl⟩ (fun w a=>a.dropAll)
 refine bQ ?_ ?_<;>intro b
 ·obtain rfl:=zy b;refine cn ?_;exact D_ rfl rfl rfl ud rfl [] ⟨by rw[show F_ _=10 from by decide];rfl,rfl⟩ (fun w a=>a.dropAll)
 refine bQ ?_ ?_<;>intro c
 ·obtain rfl:=zy c;refine cn ?_;exact D_ rfl rfl rfl ud rfl [] ⟨by rw[show F_ _=11 from by decide];rfl,rfl⟩ (fun w a=>a.dropAll)
 refine bQ ?_ ?_<;>intro d
 ·obtain rfl:=zy d;refine cn ?_;exact D_ rfl rfl rfl ud rfl [] ⟨by rw[show F_ _=12 from by decide];rfl,rfl⟩ (fun w a=>a.dropAll)
 refine bQ ?_ ?_<;>intro e
 ·obtain rfl:=zy e;refine cn ?_;exact D_ rfl rfl rfl ud rfl [] ⟨by rw[show F_ _=13 from by decide];rfl,rfl⟩ (fun w a=>a.dropAll)
 refine bQ ?_ ?_<;>intro f
 ·obtain rfl:=zy f;refine cn ?_;exact D_ rfl rfl rfl ud rfl [] ⟨by rw[show F_ _=14 from by decide];rfl,rfl⟩ (fun w a=>a.dropAll)
 refine bQ ?_ ?_<;>intro g
 ·obtain rfl:=zy g;refine cn ?_;exact D_ rfl rfl rfl ud rfl [] ⟨by rw[show F_ _=15 from by decide];rfl,rfl⟩ (fun w a=>a.dropAll)
 refine bQ ?_ ?_<;>intro h
 ·obtain rfl:=zy h;refine cn ?_;exact D_ rfl rfl rfl ud rfl [] ⟨by rw[show F_ _=16 from by decide];rfl,rfl⟩ (fun w a=>a.dropAll)
 refine bQ ?_ ?_<;>intro i
 ·obtain rfl:=zy i;refine cn ?_;exact D_ rfl rfl rfl ud rfl [] ⟨by rw[show F_ _=17 from by decide];rfl,rfl⟩ (fun w a=>a.dropAll)
 refine bQ ?_ ?_<;>intro j
 ·obtain rfl:=zy j;refine cn ?_;exact D_ rfl rfl rfl ud rfl [] ⟨by rw[show F_ _=18 from by decide];rfl,rfl⟩ (fun w a=>a.dropAll)
 refine cn ?_;refine D_ rfl rfl rfl ud rfl [] ⟨?_,rfl⟩ (fun w a=>a.dropAll);rw[MG (w:=w) ?_]
 ·rfl
 ·intro t;simp only[vZ,jv,List.not_mem_nil,or_false] at t;simp only[Z7] at k l m n o p q r s b c d e f g h i j
  simp_all
def HL{c d:UInt8}:decide ([c]=[d])=decide (c=d):=kz.2 x7
def HN:wy 135 (fun c=>!decide (c=32)):=fun c=>by
 refine b_ 5 func135 rfl rfl rfl ?_;intro F _;refine A5 ?_;refine f_ ((F7 rfl rfl).eq (jh (fun b=>Value.bool (!b)) (HL (d:=32)))) ?_;refine D0 ?_;exact d_ rfl rfl [] qh i_
def MH:wy 205 yA:=fun c=>by
 obtain⟨a,f⟩:=o9 (decide (c=43));obtain⟨h,g⟩:=o9 (R2 c);have e:yA c=(!a&&h):=by unfold yA;rw[<-f,<-g,Yq]
 rw[e];refine b_ 9 func205 rfl rfl rfl ?_;intro F _
 cases a
 all_goals (
  refine A5 ?_;refine f_ ((F7 rfl rfl).eq (jh (fun b=>Value.bool (!b)) ((HL (d:=43)).trans f.symm))) ?_;refine A5 ?_;(first|refine u_ ?_|(refine v_ ?_;refine c_ rfl (pt c) qw rfl ?_;rw[<-g]));refine A5 ?_)
 all_goals (refine B4 ?_;exact d_ rfl rfl [] qh i_)
def Qe(b:Nat)(s:Bs)(hs:s.length<=1000000000):Ct prog 131 [i8 b] (fun _=>True) [I5 b s 0 iK I0] (fun v A=>v=.bool (dp s)/\∃p c,A=[I5 b s p c I0]/\(dp s=true->p=(cV s).length+1/\c=first s)):=by
 have m:(cV s).length<=s.length:=by have:=cg (q:=yA) (s:=s) (p:=0) (zp _);rw[j6] at this;exact this
 obtain⟨a,j⟩:=o9 (decide (cV s=[]));obtain⟨d,l⟩:=o9 (decide (32<(cV s).length));obtain⟨f,i⟩:=o9 (I9 s [32] (cV s).length);have e:dp s=(!a&&!d&&f):=by
  unfold dp;rw[j,l,i];congr 1;congr 1
  ·cases cV s<;>simp
  ·rw[<-decide_not];exact kz.2 qb
 rw[e];refine b_ 23 func131 rfl rfl rfl ?_;intro F _;refine A5 ?_;refine e_ (fd 205 yA MH b s 0 iK I0 qb (zp _)) qw ?_;rintro v A ⟨rfl,rfl⟩;rw[j6,show O6 yA s 0=cV s from rfl];refine u6 ?_;refine n8 (ι:=Nat) (fun p=>(!a&&!d&&f)=true->p=(cV s).length+1) (fun _=>[(0,i8 b),(3,B (cV s)),(17,.bool (!(!a&&!d&&f)))]) (fun p=>[I5 b s p iK I0]) ?_ ?_
 ·cases a<;>cases d
  all_goals (
   refine u6 ?_;refine f_ ((C9 rfl rfl).eb j) ?_;refine E8 ?_;(first|refine u_ ?_|(refine v_ ?_;refine f_ ((E9 rfl rfl).eq (qn ((qz).trans l.symm))) ?_));refine E8 ?_;(first|refine u_ ?_|(refine v_ ?_;refine e_ (T9 b s [32] (cV s).length iK I0 qb m qp) qw ?_;rintro v A ⟨rfl,rfl⟩;rw[<-i]));refine A5 ?_)
  ·exact g_ _ (fun k=>by
    have k3:f=true:=(by simpa using k);unfold I1;rw[<-i,k3];rfl) i_
  all_goals exact g_ (cV s).length (fun k=>by simp at k) i_
 rintro p hp;refine O_ ?_ ?_<;>intro h
 ·refine D0 ?_;have g:(!a&&!d&&f)=false:=by revert h;cases a<;>cases d<;>cases f<;>simp
  rw[g];exact d_ rfl rfl [I5 b s p iK I0] ⟨rfl,p,iK,rfl,fun k=>by cases k⟩ i_
 ·have g:(!a&&!d&&f)=true:=by revert h;cases a<;>cases d<;>cases f<;>simp
  refine Lq ?_;rw[g];exact d_ rfl rfl [I5 b s p (first s) I0] ⟨rfl,p,first s,rfl,fun _=>⟨hp g,rfl⟩⟩ i_
def bH(s:Bs)(c:CM)(p:Nat)(r:Option (CM×Nat)):Prop:=
 if c.kind=15 then r=none\/∃ks e,r=some ({c with keys:=ks},e)/\ks.length<=32/\∀k∈ks,Fr k
 else r=T7 c s p
def kK{c:CM}{s:Bs}{p:Nat}(h:c.cond=false):((L5 c s p).map fun q=>({q.1 with cond:=I9 s cC q.2},I1 s cC q.2))=lx c s p:=by
 unfold lx
 cases hn:L5 c s p with
 |none=>rfl
 |some r=>
  obtain⟨w,e,rfl⟩:=cI hn;simp only[Qh];unfold I1
  cases hl:I9 s cC e
  ·simp[h,hl]
  ·simp[hl]
def dA{α β:Type}{o:Option α}{f:α->β}{r:β}(h:o.map f=some r):∃q,o=some q/\f q=r:=jx.1 h
abbrev RN(r:CM×Nat):Prop:=r.1.set=[]/\r.1.a6B=[]/\r.1.keys=[]/\r.1.a6J=[]
def gf{c:CM}{p:Nat}{r:CM×Nat}(h:some (R8 c,p)=some r):RN r:=by cases h;exact⟨rfl,rfl,rfl,rfl⟩
def zo{c:CM}{s:Bs}{p:Nat}{r:CM×Nat}(h:((I7 s AS p).map fun e=>(R8 c,e))=some r):RN r:=by
 obtain⟨q,_,rfl⟩:=dA h;exact⟨rfl,rfl,rfl,rfl⟩
def Ej{c:CM}{s:Bs}{p:Nat}{r:CM×Nat}(h:dI (R8 c) s p=some r):RN r:=by
 unfold dI at h;obtain⟨q,_,a⟩:=kj.1 h;obtain⟨t,_,rfl⟩:=dA a;exact⟨rfl,rfl,rfl,rfl⟩
def lJ{c:CM}{s:Bs}{p:Nat}{r:CM×Nat}(h:L5 (R8 c) s p=some r):RN r:=by
 obtain⟨w,e,rfl⟩:=cI h;exact⟨rfl,rfl,rfl,rfl⟩
def sJ{c:CM}{s:Bs}{p:Nat}{r:CM×Nat}(h:lx (R8 c) s p=some r):RN r:=by
 unfold lx at h;obtain⟨q,a,rfl⟩:=dA h;have:=lJ a;split<;>exact this
def HP{c:CM}{s:Bs}{p:Nat}{r:CM×Nat}(h:jL (R8 c) s p=some r):RN r:=by
 unfold jL at h;obtain⟨q,_,a⟩:=kj.1 h;split at a
 ·obtain⟨t,_,rfl⟩:=dA a;exact⟨rfl,rfl,rfl,rfl⟩
 ·cases a;exact⟨rfl,rfl,rfl,rfl⟩
abbrev X8(f:FuncId)(b:Nat)(s:Bs)(c:CM)(p:Nat):Prop:=Cx prog f [i8 b] Gl [I5 b s p (R8 c) I0] (fun v A=>∃r x Z,bH s (R8 c) p (some r)/\v=.tuple #[]/\A=I5 b s r.2 r.1 x::Z/\sF r.1 x Z) (fun v=>bH s (R8 c) p none/\v=O0)
def X8.of_m{f:FuncId}{b:Nat}{s:Bs}{a:CM->Nat->Option (CM×Nat)}(h:sG f b s a){c:CM}{p:Nat}(hp:p<=s.length)(d:c.kind≠15)(e:a (R8 c) p=T7 (R8 c) s p):X8 f b s c p:=
 (h c p hp).mono (fun _ h=>h) (fun v A ⟨r,x,Z,g,i,j,k⟩=>⟨r,x,Z,by unfold bH;rw[zb d,<-e];exact g.symm,i,j,k⟩) (fun v h=>⟨by unfold bH;rw[zb d,<-e];exact h.1.symm,h.2⟩)
def MI(b:Nat)(s:Bs)(hs:s.length<=1000000000)(c:CM)(p:Nat)(hp:p<=s.length)(l:1<=c.kind)(d:c.kind<=18):X8 (OH c.kind) b s c p:=by
 by_cases h15:c.kind=15
 ·rw[h15];show X8 215 b s c p;exact(Ei b s hs c p hp).mono (fun _ h=>h) (fun v A ⟨e,f,x,Z,m,i,a3,a4,a5,j⟩=>⟨({R8 c with keys:=e},f),x,Z,by unfold bH;rw[zr h15];exact .inr ⟨e,f,rfl,i,a3⟩,a4,a5,j⟩) (fun v h=>⟨by unfold bH;rw[zr h15];exact .inl rfl,h⟩)
 obtain⟨k,a⟩:∃k,c.kind=k:=⟨_,rfl⟩;have g:k<=18:=a▸d;rw[a]
 match k,a,g with
 |0,a,_=>omega
 |1,a,_=>exact X8.of_m (sG.of_x (cH b s) fun c p r h=>gf h) hp h15 ((by simp[T7,a]))
 |2,a,_=>exact X8.of_m (sG.of_x (cH b s) fun c p r h=>gf h) hp h15 ((by simp[T7,a]))
 |3,a,_=>exact X8.of_m (sG.of_x (cH b s) fun c p r h=>gf h) hp h15 ((by simp[T7,a]))
 |4,a,_=>exact X8.of_m (sG.of_x (cH b s) fun c p r h=>gf h) hp h15 ((by simp[T7,a]))
 |5,a,_=>exact X8.of_m (sG.of_x (cH b s) fun c p r h=>gf h) hp h15 ((by simp[T7,a]))
 |6,a,_=>exact X8.of_m (sG.of_x (DY b s hs) fun c p r h=>zo h) hp h15 ((by simp[T7,a]))
 |7,a,_=>exact X8.of_m (sG.of_x (Hu b s hs) fun c p r h=>Ej h) hp h15 ((by simp[T7,a]))
 |8,a,_=>exact X8.of_m (sG.of_x (wM b s hs) fun c p r h=>sJ ((kK rfl).symm.trans h)) hp h15 ((kK rfl).trans (by simp[T7,a]))
 |9,a,_=>exact X8.of_m (sG.of_x (wM b s hs) fun c p r h=>sJ ((kK rfl).symm.trans h)) hp h15 ((kK rfl).trans (by simp[T7,a]))
 |10,a,_=>exact X8.of_m (sG.of_x (eB b s hs) fun c p r h=>lJ h) hp h15 ((by simp[T7,a]))
 |11,a,_=>exact X8.of_m (sG.of_x (eB b s hs) fun c p r h=>lJ h) hp h15 ((by simp[T7,a]))
 |12,a,_=>exact X8.of_m (sG.of_x (Hv b s hs) fun c p r h=>HP h) hp h15 ((by simp[T7,a]))
 |13,a,_=>exact X8.of_m (Ee b s hs) hp h15 ((by simp[T7,a]))
 |14,a,_=>exact X8.of_m (Eg b s hs) hp h15 ((by simp[T7,a]))
 |15,a,_=>exact absurd a h15
 |16,a,_=>exact X8.of_m (HD b s hs) hp h15 ((by simp[T7,a]))
 |17,a,_=>exact X8.of_m (Hz b s hs) hp h15 ((by simp[T7,a]))
 |18,a,_=>exact X8.of_m (Ef b s hs) hp h15 ((by simp[T7,a]))
 |k+19,a,g=>omega
end Go.Proofs.YtmcepdopookilaaGreatDoor.Rp
namespace Go.Sl
open Go Go.RowKit Go.Proofs.Tryz
section
variable{P:zj}{Q:Exit->Act->World->Prop}
def pR{ops:Array Oper}(ds:List Deferred):∀(l:List Oper) (a:Act) (w:World),wpList P ops Q l a w->wpList P ops (shQ ds Q) l (rj ds a) w
 |[],a,w,h=>⟨a,rfl,h⟩
 |o::rest,a,w,h=>by
  have b:∀a w,wpList P ops Q rest a w->wpList P ops (shQ ds Q) rest (rj ds a) w:=fun a w h=>pR ds rest a w h;have s:(rj ds a).tmps=a.tmps:=rfl;have m:(rj ds a).eval=a.eval:=by funext x;cases x<;>rfl
  unfold wpList at h⊢;rw[s];split
  ·rename_i g;simp only[g,if_true] at h;rcases h with h|⟨h,⟨i,j,t⟩⟩
   ·left;unfold Oper.wp at*;rw[m];generalize (execOp a.eval o).run P w=r at*
    cases r with
    |ok n w'=>
     cases n<;>simp only[Oper.upon] at*
     case value v=>rw[gC];exact b _ _ h
     case skip=>rw[gC];exact b _ _ h
     case defer d=>have p:=b _ _ h;rw[<-gC] at p;exact p
     case enter f args=>
      refine h.mono (fun e k q=>?_)
      cases e with
      |returned v=>simp only at q⊢;rw[gC];exact b _ _ q
      |panicked c=>exact⟨_,rfl,q⟩
      |outgrown=>obtain⟨i,j,q⟩:=q;exact⟨_,j,i,rfl,q⟩
     case row row args=>exact h.mono (fun v k q=>by rw[gC];exact b _ _ q)
    |halt x w'=>cases x<;>simp only[Oper.upon] at* <;>first|exact h.elim|exact⟨_,rfl,h⟩
   ·right;refine⟨?_,⟨_,j,i,rfl,t⟩⟩;unfold Oper.asks at*;rw[m];exact h
  ·rename_i g;simp only[g] at h;rw[gC];exact b _ _ h
def uC{N:Nat}{id:Nat}{l:List Oper}{K Kp R:A1}{L:G9}{F:l9}{H:List As}(ds:List Deferred)(h:GL P N l.toArray l K [(1,Kp)] R L F H)(c:∀a w,K a w->Q .normal (rj ds a) w)(hp:∀(a:Act) (w:World) (v:Value),Kp ⟨a.tmps.push v,a.defers⟩ w->Q (.panic [{v:=v,recovered:=false}]) (rj ds a) w)(d:∀a w,R a w->Q .ret (rj ds a) w){a:Act}{w:World}(hf:H5 N L a)(f:Hp F w H):(Code.region id l.toArray false).wp P Q (rj ds a) w:=by
 unfold GL at h;refine Code.wp_mono ?_ (wp_region_lit (pR ds _ _ _ (h a w hf f)));rintro e g i ⟨j,rfl,q⟩
 cases e with
 |normal=>exact c _ _ q
 |ret=>exact d _ _ q
 |exit id=>simp[MQ,List.lookup] at q
 |goto l=>exact q.elim
 |panic ch=>
  rcases q with⟨k,v,b,_⟩|⟨k,v,b,rfl,q⟩
  ·cases b
  ·injection b with b;subst b;exact hp _ _ _ q
 |outgrown=>exact q.elim
end
def MJ(N:Nat)(L:G9)(F:l9)(Hr:List As)(Pq:Value->Prop):A1:=fun a w=>∃tm v,a.tmps=tm.push v/\a.defers=[]/\H5 N L ⟨tm,[]⟩/\Hp F w Hr/\Pq v
section
variable{P:zj}{N:Nat}{K R:A1}{E:List (Nat×A1)}{L L':G9}{F:l9}{H Hr:List As}{ops:Array Oper}{rest:List Oper}{ty:zk}{pos:String}{af:Array Edge}{Pq Pq':Value->Prop}
def pS{o:Oper}{d:Nat}{f:FuncId}{vs:zq}{j:l_->Prop}{C Rr:List As}{i:Value->List As->Prop}(hg:o.guard=none)(r:o.dst=some d)(O:Nat.blt d N=true)(s:∀ρ w,FD L ρ->(execOp ρ o).run P w=.ok (.enter f vs.toArray) w)(hc:Cx P f vs j C i Pq)(hH:∀w,Hp F w H->Hp F w (C++Rr))(t:∀h,l_.le F.heap h->(∃bs,A_ h Rr bs)->j h)(Q:E.lookup 1=some (MJ N L' F Hr Pq'))(z:fE L' L)(S:∀w,Hp F w Rr->Hp F w Hr)(D:∀v,Pq v->Pq' v)(h:∀v A,i v A->GL P N ops rest K E R ((d,v)::L) F (A++Rr)):GL P N ops (o::rest) K E R L F H:=by
 unfold GL at h⊢;intro a w hf T;have g:=hH w T;obtain⟨bs,hs,x,k⟩:=g.own;obtain⟨y,U,e,l,m⟩:=A_.split hs;subst e;have n:j (F6 w y):=by
  refine t _ (fun b V p=>?_) ⟨U,A_.same m fun b J=>?_⟩
  ·have X:=g.keep b V p;have M:b∉y:=fun J=>(by rw[k b (by simp[J])] at p;cases p);simpa[F6,M,hp] using X
  ·have M:b∉y:=fun hc=>(Qg.1 x).2.2 b hc b J rfl;simp[F6,M,hp]
 refine wpList_plain hg fun K' Y=>?_;unfold Oper.wp;rw[s _ w hf.agr,Oper.upon_enter];refine(hc w y l (Qg.1 x).1 n).mono ?_;rintro e w' (⟨v,A,rfl,q,c⟩|⟨v,rfl,Z,c⟩)
 ·rw[r];exact Y _ _ (h v A q _ _ (hf.put O v) (g.back l m x k c))
 ·have u:=hf.sub z;exact .inr ⟨_,v,Q,rfl,a.tmps,v,rfl,hf.defers,⟨rfl,u.size,u.at_⟩,S _ (g.back l m x k c),D v Z⟩
def Ek{d:Nat}{f:FuncId}{args:List zw}{e:Array zk}{vs:zq}{b:l_->Prop}{C:List As}{a:Value->List As->Prop}[HF P f](Rr:List As)(hx:rI L args=some vs)(hc:Cx P f vs b C a Pq)(hH:∀w,Hp F w H->Hp F w (C++Rr))(c:∀h,l_.le F.heap h->(∃bs,A_ h Rr bs)->b h)(j:Nat.blt d N=true)(k:E.lookup 1=some (MJ N L' F Hr Pq'))(g:fE L' L)(l:∀w,Hp F w Rr->Hp F w Hr)(i:∀v,Pq v->Pq' v)(h:∀v A,a v A->GL P N ops rest K E R ((d,v)::L) F (A++Rr)):GL P N ops (⟨some d,.call ⟨.value (.func f),args.toArray,e⟩,ty,pos,af,none⟩::rest) K E R L F H:=
 pS rfl rfl j (fun ρ w hf=>bu hx hf w) hc hH c k g l i h
def zA{d:Nat}{x:zw}{f:FuncId}{args:List zw}{i:Array zk}{vs ps qs b:zq}{c:l_->Prop}{C:List As}{a:Value->List As->Prop}[hF:HF P f](Rr:List As)(hv:ev L x=some (.func (.func f) ps.toArray qs.toArray))(hx:rI L args=some vs)(e:ps++vs++qs=b)(hc:Cx P f b c C a Pq)(hH:∀w,Hp F w H->Hp F w (C++Rr))(g:∀h,l_.le F.heap h->(∃bs,A_ h Rr bs)->c h)(l:Nat.blt d N=true)(m:E.lookup 1=some (MJ N L' F Hr Pq'))(j:fE L' L)(n:∀w,Hp F w Rr->Hp F w Hr)(k:∀v,Pq v->Pq' v)(h:∀v A,a v A->GL P N ops rest K E R ((d,v)::L) F (A++Rr)):GL P N ops (⟨some d,.call ⟨.value x,args.toArray,i⟩,ty,pos,af,none⟩::rest) K E R L F H:=
 pS rfl rfl l (fun ρ w hf=>by
  have o:=hf _ _ hv;have p:=bt hf hx;subst e;simp only[execOp,resolve,o,Deferred.ofValue,Zr,p,Sem.run_bind,Sem.run_pure,Result.andThen_ok,invoke];have:(ps.toArray++vs.toArray++qs.toArray:Array Value)=(ps++vs++qs).toArray:=by simp
  rw[this];exact hF.h _ w) hc hH g m j n k h
end
end Go.Sl
namespace Go.Proofs.YtmcepdopookilaaGreatDoor.Rp
open Go Go.Sl Go.RowKit Go.Proofs.Tryz
abbrev Ft(g:Nat)(ra:qr)(pre:zz)(rc:Nat)(Z:List As):List As:=.blk g (.cells #[.slice ra pre.length rc] 37)::V4 ra pre rc::Z
def BN{g rc:Nat}{ra:qr}{pre:zz}{Z:List As}(hz:Z.all As.isC=true):(Ft g ra pre rc Z).all As.isC=true:=by show(true&&(true&&Z.all As.isC))=true;rw[hz];rfl
def MK(ms:List KV)(v:Value)(A:List As):Prop:=∃a l c,v=.slice a l.length c/\A=[V4 a l c]/\DX ms l
def pT{W a:World}(h:KeepsFrom 0 W a):KeepsWalks W a:=⟨h.size,fun k o b c=>h.same k o (zp _) b (by cases o<;>first|rfl|cases c)⟩
def zB(U V cs:Nat)(es:Array MapEntry)(X:List KV)(hm:O5 (.int .u64) es cs X)(hk:∀kv∈X,PX kv)(hl:X.length<=1000000000):
  Ct prog 433 [.slice none 0 0,.func (.func 422) #[] #[i8 V]] (fun h=>h U=some (.map es cs)/\h V=some (.cells #[.map (some U)] 406 (0,0))) [] (MK X):=by
 intro Y y hs u2 J;have q5:y=[]:=hs;subst q5;rw[O1] at J;refine(callsIn_wide (n:=5)).1 (callsIn_of_wp_marks func433 rfl trivial ?_ rfl);have q6:(am Y).heap U=some (.map es cs):=by rw[N0];exact J.1
 have q7:(am Y).heap V=some (.cells #[.map (some U)] 406 (0,0)):=by rw[N0];exact J.2
 refine(?_:GN none 5 prog 13 _ _ (aM 0 [.slice none 0 0,.func (.func 422) #[] #[i8 V]]) (am Y) []) _ _ (U3 13 _ rfl) (ap Y);refine N4 ?_;refine L4 ?_;refine D1 ?_;refine M1 rfl rfl rfl ?_;intro i;refine u6 ?_;refine P_ ?_;refine N4 ?_;refine N4 ?_;refine L4 ?_;refine I6 1 ?_;refine P_ ?_;refine bv ?_;intro a C q8 j;have z:=q8.sub (L':=[(2,i8 i),(6,.func (.func 422) #[] #[i8 V])]) sub;obtain⟨F1,h8⟩:=o9 (w6 C [i]);have q9:C.heap[i]? =some (.cells #[.slice none 0 0] 37):=j.blk ud;have x0:Hp F1 C (Ft i none [] 0 []):=by
  have h1:Hp (w6 C [i]) C [.blk i (.cells #[.slice none 0 0] 37)]:=Hp.start ⟨[i],[],rfl,⟨rfl,q9⟩,rfl⟩ x7;rw[h8];exact(h1.addNil 27 1).perm (.swap _ _ _)
 have h0:∀b,(F1.heap b).isSome=true->b<C.heap.size:=by rw[h8];exact FL
 have Q:∀T A,Hp F1 T A->Hp (am Y) T A:=fun T A k=>by
  rw[h8] at k;refine⟨k.os.trans j.os,k.tape.trans j.tape,k.output.trans j.output,fun b o t=>k.keep b o ?_,?_⟩
  ·have h1:=j.keep b o t;obtain⟨y,hs,_,hf⟩:=j.own;obtain⟨b1,b2,e,⟨e1,_⟩,_⟩:=hs;have h2:b≠i:=(by rintro rfl;have:=hf b (by rw[e,e1];simp);rw[this] at t;cases t);show F6 C [i] b=_;simp[F6,h2];exact h1
  ·obtain⟨y,hs,hn,hf⟩:=k.own;refine⟨y,hs,hn,fun b t=>?_⟩;have h1:=hf b t
   cases h2:(am Y).heap b with
   |none=>rfl
   |some o=>
    have h3:=j.keep b o h2;have h4:F6 C [i] b=none:=h1;unfold F6 at h4;split at h4
    ·rename_i h5;obtain⟨y,hs,_,h9⟩:=j.own;obtain⟨b1,b2,e,⟨e1,_⟩,_⟩:=hs;simp at h5;subst h5;have:=h9 b (by rw[e,e1];simp);rw[this] at h2;cases h2
    ·exact absurd (h4.symm.trans h3) x7
 have x1:C.heap[U]? =some (.map es cs):=j.keep U _ q6;have x2:C.heap[V]? =some (.cells #[.map (some U)] 406 (0,0)):=j.keep V _ q7;refine wpIn_rangeFunc_ownH (F:=Fence.wide) (encs:=PW) (Kp:=KeepsWalks) (S:=DX X) (Sp:=fun _=>True) (N:=X.length) (w0:=C) rfl qp (z.eval (x:=.tmp 6) rfl) trivial (fun h7 w=>(inferInstance:HF prog 422).h h7 w) (wL U V cs es X hm hk C x1 x2 4) (fun h k=>walksK_t h k) (fun W l o o' hl x3 hc hw=>walksK_b W l o o' hl x3 hc hw) (Below.refl _ C) (fun x=>rfl)
  (fun pre W=>∃p q Z,Z.all As.isC=true/\Hp F1 W (Ft i p pre q Z)) (fun _ _ _=>False)
  (fun s W T k0 hs hg hr=>by obtain⟨p,q,Z,hz,h⟩:=hs;exact⟨p,q,Z,hz,aq h (BN hz) h0 hg hr⟩)
  (fun c s W T k0 hs hg hr=>hs) ⟨none,0,[],rfl,x0⟩
  (fun x a' W=>H5 13 [(5,.int .u64 (x:Nat)),(2,i8 i)] a') (fun x a' s W T k0 hs hg hr=>hs) ?_ ?_ ?_ ?_
 ·intro l pre x W K hI hK;obtain⟨p,q,Z,hz,hW⟩:=hI;have hc:(Ft i p pre q Z).all As.isC=true:=BN hz;obtain⟨y,hs,M,f⟩:=fL hW;have x5:H5 13 [(7,.int .u64 (x:Nat)),(2,i8 i)] {tmps:=a.tmps.setIfInBounds 7 (.int .u64 (x:Nat)),defers:=[]}:=by
   have h1:=(z.put (d:=7) rfl (.int .u64 (x:Nat))).sub (L':=[(7,.int .u64 (x:Nat)),(2,i8 i)]) sub;exact⟨rfl,h1.size,h1.at_⟩
  refine(?_:GN (some l) 3 prog 13 _ _ [(7,.int .u64 (x:Nat)),(2,i8 i)] (w6 W y) (Ft i p pre q Z)) _ W (by simpa[PW] using x5) M;refine dV (.inr (by intro o ho c;simp at ho;rcases ho with rfl;simp)) ?_;refine f_ oF ?_;refine G5 ?_;unfold At;intro a' T x9 k8;have u:∀B,KeepsFrom B W T:=jD hs hc k8 (fun b t=>by rw[hs.blks] at t;exact t);exact hK a' T (u _) (pT (u 0)) ⟨p,q,Z,hz,f _ _ k8⟩ (x9.sub sub)
 ·intro l pre x a' W u8 u0 hI hA u1;obtain⟨p,q,Z,hz,hW⟩:=hI;have hc:(Ft i p pre q Z).all As.isC=true:=BN hz;obtain⟨y,hs,M,f⟩:=fL hW;have k9:∀b∈y,b=i\/b∈(V4 p pre q).blks\/b∈Z.flatMap As.blks:=fun b t=>by
   rw[hs.blks] at t;simpa[Ft,As.blks] using t
  refine(?_:GN (some l) 3 prog 13 _ _ [(5,.int .u64 (x:Nat)),(2,i8 i)] (w6 W y) (Ft i p pre q Z)) a' W hA M;refine bv ?_;refine dV (.inr (by intro o ho c;simp at ho;rcases ho with rfl|rfl|rfl|rfl|rfl<;>simp)) ?_;refine r_ oR ?_;refine f_ oF ?_;refine gN (n:=x) ?_;intro q0;by_cases hroom:pre.length+1<=q
  ·refine fH (n:=pre.length) (m:=1) (xs:=nV pre) (news:=nV [x]) (e:=27) (sz:=1) rfl rfl uh (fun w hw=>(hw.ownN ud).2.2.1) rfl rfl (iJ _) hroom rfl ?_;refine cz rfl rfl uh pa rfl rfl ?_;refine G5 ?_;unfold At;intro a2 w2 h9 O
   change _/\_/\_
   have u:∀B,KeepsFrom B W w2:=jD hs hc O (fun b t=>by
    simp only[Q4,kw];rcases k9 b t with rfl|h|h
    ·exact .inr (.inl (by simp[As.blks]))
    ·exact .inr (.inr (.inl (by cases p<;>exact h)))
    ·exact .inr (.inr (.inr h)))
   refine⟨u _,pT (u 0),p,q,V4 q0 [x] 1::Z,by show(true&&Z.all As.isC)=true;rw[hz];rfl,?_⟩;unfold Ft V4;rw[zg,aQ];exact((f _ _ O).perm (List.Perm.trans (.swap _ _ _) (.cons _ (.swap _ _ _))))
  ·refine fN (n:=pre.length) (m:=1) (xs:=nV pre) (news:=nV [x]) (e:=27) (sz:=1) rfl rfl ud (fun w hw=>(hw.ownN ud).2.2.1) rfl rfl rfl (by show(pre.length+1)*8<=_;omega) qb hroom qp rfl ?_;intro g c2 v0;refine cz rfl rfl uh pa rfl rfl ?_;refine G5 ?_;unfold At;intro a2 w2 h9 O
   change _/\_/\_
   have u:∀B,KeepsFrom B W w2:=jD hs hc O (fun b t=>by
    simp only[Q4,kw];rcases k9 b t with rfl|h|h
    ·exact .inr (.inr (.inl (by simp[As.blks])))
    ·exact .inr (.inr (.inr (.inl h)))
    ·exact .inr (.inr (.inr (.inr h))))
   refine⟨u _,pT (u 0),some ⟨g,0,none⟩,c2,V4 q0 [x] 1::V4 p pre q::Z,by show(true&&(true&&Z.all As.isC))=true;rw[hz];rfl,?_⟩;unfold Ft V4;rw[zg,aQ];exact((f _ _ O).perm (List.Perm.trans (.cons _ (.swap _ _ _)) (List.Perm.trans (.swap _ _ _) (.refl _))))
 ·intro D xs W hD y0 hI hK;obtain⟨p,q,Z,hz,hW⟩:=hI;have hc:(Ft i p xs q Z).all As.isC=true:=BN hz;obtain⟨y,hs,M,f⟩:=fL hW;have y1:D∉y:=fun t=>by
   obtain⟨o,h5,h6⟩:=hs.cells hc D t;have q1:W.heap[D]? =some o:=h5;rw[hK] at q1;cases q1;cases h6
  have y2:(w6 W y).heap D=some (.deferred (some [])):=by simp[w6,F6,y1,hK]
  rw[jE z _];refine wpIn_seq ?_;refine(wpIn_wide (n:=5)).2 (uC (K:=fun a' w'=>H5 13 [(4,.slice p xs.length q)] a'/\Hp (w6 W y) w' (Ft i p xs q Z)) (Kp:=fun _ _=>False) (R:=fun _ _=>False) [_] ?_ ?_ (fun _ _ _ h=>h.elim) (fun _ _ h=>h.elim) (z.sub (L':=[(2,i8 i)]) sub) M)
  ·refine r_ oR ?_;refine f_ oF ?_;refine G5 ?_;exact p_ sub i_
  ·rintro a9 w9 ⟨q2,q3⟩;have q4:w9.heap[D]? =some (.deferred (some [])):=q3.keep D _ y2;have y3:=aq (f _ _ q3) hc h0 (grownBy_putObj' w9 D (.deferred none)) (fun r e=>by cases e;exact⟨hD,_,q4,rfl⟩);refine wpIn_ret ?_;have t:=(fM (n:=5) (P:=prog) (fn:=Tryz.f433) (R:=fun e w'=>∃v A,e=.returned v/\MK X v A/\Hp (w6 Y []) w' A) (a:=rj [{target:=.collected D,args:=#[]}] a9) (w:=w9) (D:=D) (ds:=[]) (by show a9.defers++_=_;rw[q2.defers];rfl) rfl q4 ⟨_,results_tmp rfl _ _ _,_,[V4 p xs q],rfl,⟨p,xs,q,by rw[show(rj _ a9).tmps.getD 4 undef=.slice p xs.length q from q2.eval (x:=.tmp 4) rfl],rfl,y0⟩,(Q _ _ y3).drop.left (A:=[_])⟩).2;exact t
 ·intro D c pre W hD z0 z2 hK;exact z2.elim
abbrev Ty(g m:Nat):As:=.blk g (.cells #[.map (some m)] 406)
abbrev HQ(g:Nat):Value:=.func (.func 422) #[] #[i8 g]
def HR(m:Nat):Ct prog 399 [.map (some m)] (fun _=>True) [] (fun v A=>∃g,v=HQ g/\A=[Ty g m]):=by
 refine b_ 4 func399 rfl rfl rfl ?_;intro F _;refine D1 ?_;refine M1 rfl rfl rfl ?_;intro a;refine cn ?_;exact d_ rfl rfl _ ⟨a,rfl,rfl⟩ (fun _ h=>h)
section
variable(mb Bm cs:Nat)(es:Array MapEntry)(ms:List KV)(hm:O5 (.int .u64) es cs ms)(hk:∀kv∈ms,PX kv)(hl:ms.length<=1000000000)
include hm hk hl
def HT:Ct prog 420 [HQ Bm] (fun h=>h mb=some (.map es cs)/\h Bm=some (.cells #[.map (some mb)] 406 (0,0))) [] (MK ms):=by
 refine b_ 5 func420 rfl rfl rfl ?_;rintro F ⟨d,e⟩;refine A5 ?_;refine e_ (zB mb Bm cs es ms hm hk hl) (fun h b _=>⟨b _ _ d,b _ _ e⟩) ?_;rintro v A ⟨a,l,c,rfl,rfl,hg⟩;refine D0 ?_;exact d_ rfl rfl _ ⟨a,l,c,rfl,rfl,hg⟩ (fun _ h=>h)
def zC:Ct prog 398 [HQ Bm] (fun h=>h mb=some (.map es cs)/\h Bm=some (.cells #[.map (some mb)] 406 (0,0))) [] (MK ms):=by
 refine b_ 9 func398 rfl rfl rfl ?_;rintro F ⟨d,e⟩;refine A5 ?_;refine e_ (HT mb Bm cs es ms hm hk hl) (fun h b _=>⟨b _ _ d,b _ _ e⟩) ?_;rintro v A ⟨a,l,c,rfl,rfl,hg⟩;refine A5 ?_;refine e_ (Hs a l.length c (by have:=hg.1;omega) l rfl) qw ?_;rintro v A ⟨rfl,f,hs,rfl⟩;refine M4 ?_;exact d_ rfl rfl _ ⟨a,f,c,by rw[hs.len],by unfold V4;rw[hs.len];rfl,by rw[DX,hs.len];exact⟨hg.1,fun x g=>hg.2 x (hs.sub x g)⟩⟩ (fun _ h=>h)
end
def uD{F:l9}{w:World}{H:List As}{a:qr}{l:zz}(b:Hp F w H)(r:n9 F.heap a (nV l)){q i:Nat}(h:q=i)(c:i<l.length):M9 (hp w) (N_ a q) [.int .u64 (l.getD i 0:Nat)]:=
 nr b r x7 fun j u hu=>by
  match j,hu with
  |0,hu=>
   simp at hu;subst hu h;simp[nV,c]
def ae{h:l_}{a:qr}{l:zz}{i:Nat}(r:n9 h a (nV l))(c:i<l.length):∃b,a=some b:=by
 obtain⟨b,e,_⟩:=r (by intro e;have:=jh List.length e;rw[tL] at this;simp at this;subst this;simp at c);exact⟨b,e⟩
def wW{l:zz}{k:Nat}(a:k<l.length):l.getD k 0∈l:=by
 rw[z8,zd a];exact zm a
abbrev MN(n:Nat)(ms:List KV):Prop:=(∀kv∈ms,PX kv/\∃k:Int,kv.2=.int .i64 k/\0<=k/\k<=n)/\ms.length<=n
def pU(a:List KV)(k:Value):∃o,Pi a k o:=by
 by_cases h:∃v,(k,v)∈a
 ·obtain⟨v,h⟩:=h;exact⟨some v,h⟩
 ·exact⟨none,fun v b=>h ⟨v,b⟩⟩
abbrev HV(r:Nat×Nat):Prop:=DW r.1/\DW r.2
def Tz(n:Nat)(v:Value)(A:List As):Prop:=∃a l c,v=.slice a l.length c/\A=[X1 a l c]/\l.length<=n/\∀r∈l,HV r
def MO(p:zz)(oa:qr)(oc:Nat)(k9:∀x∈p,x<18446744073709551616)(hl:p.length<=1000000):Ct prog 352 [.slice oa p.length oc] (fun h=>n9 h oa (nV p)) [] (Tz p.length):=by
 refine b_ 61 func352 rfl rfl rfl ?_;intro F h8;refine yu ?_;refine oD rfl ?_;intro y;refine u6 ?_;refine I6 3 ?_;refine n8 (ι:=Array MapEntry×Nat×List KV) (fun i=>O5 (.int .u64) i.1 i.2.1 i.2.2/\MN p.length i.2.2) (fun _=>[(2,.slice none 0 0),(3,.map (some y))]) (fun i=>[.blk y (.map i.1 i.2.1)]) ?_ ?_
 ·refine o0 ?_;refine gP (fun(j:Nat) (S:Array MapEntry) (T:Nat) (M:List KV) (_ _:Unit)=>j<=p.length/\O5 (.int .u64) S T M/\MN j M) (fun j _ _ _ _ _=>[(2,.slice none 0 0),(3,.map (some y)),(11,.slice oa p.length oc),(12,r7 p.length),(13,r7 j)]) (fun _ S T _ _ _=>[.blk y (.map S T)]) (fun j _ _ _ _ _=>p.length-j) 0 #[] 0 [] () () ⟨zp _,O5.empty _ _,qy,kp _⟩ sub i_ ?_;rintro j S T M _ _ ⟨hj,hm,hc⟩;refine T2 ?_ ?_<;>intro h
  ·have z:j<p.length:=(by have:=zy h;omega);have D:=ae h8 z;refine u6 ?_;refine r_ (l5 rfl (fun w O=>uD O h8 (i:=j) x7 z)) ?_;refine E8 ?_;refine n8 (ι:=Array MapEntry×Nat×List KV) (fun i=>O5 (.int .u64) i.1 i.2.1 i.2.2/\MN (j+1) i.2.2) (fun _=>[(2,.slice none 0 0),(3,.map (some y)),(11,.slice oa p.length oc),(12,r7 p.length),(13,r7 j)]) (fun i=>[.blk y (.map i.1 i.2.1)]) ?_ ?_
   ·refine p7 rfl ?_ ?_<;>intro h
    ·have h9:0<p.getD j 0:=(by have:=zy h;omega);have q0:p.getD j 0<18446744073709551616:=k9 _ (wW z);obtain⟨o,hg⟩:=pU M (.int .u64 (p.getD j 0:Nat));obtain⟨k,ek,q3,q4⟩:∃k:Int,o.getD (.int .i64 0)=.int .i64 k/\0<=k/\k<=j:=by
      cases o with
      |none=>exact⟨0,rfl,by omega,by omega⟩
      |some v=>obtain⟨_,k,e,U,Q⟩:=hc.1 _ hg;exact⟨k,e,U,Q⟩
     refine A5 ?_;refine r_ ((FP (key:=.int .u64 (p.getD j 0:Nat)) (o:=o) (zv:=.int .i64 0) (c:=false) rfl rfl .del hm rfl hg).eq (v':=.int .i64 k) ek) ?_;refine u6 ?_;refine De rfl rfl rfl hm rfl (fun V X=>.here) ?_;intro V X k0;refine x6 ?_;have QH:∃J,FN M (.int .u64 (p.getD j 0:Nat)) (.int .i64 (k+1)) J/\MN (j+1) J:=by
      have k8:PX (.int .u64 (p.getD j 0:Nat),.int .i64 (k+1))/\∃q:Int,Value.int .i64 (k+1)=.int .i64 q/\0<=q/\q<=(j+1:Nat):=⟨⟨_,⟨h9,q0⟩,rfl⟩,k+1,rfl,by omega,by omega⟩
      cases o with
      |none=>
       refine⟨_,.inl ⟨hg,.refl _⟩,fun Y f=>?_,by rw[z1];have:=hc.2;omega⟩;rcases jv.1 f with rfl|f
       ·exact k8
       ·obtain⟨U,q,Q,h3,h4⟩:=hc.1 Y f;exact⟨U,q,Q,h3,by omega⟩
      |some v=>
       obtain⟨r1,r2,e⟩:=W0 hg;have hp:M.Perm ((.int .u64 (p.getD j 0:Nat),v)::(r1++r2)):=(by rw[e];exact Qm);refine⟨_,.inr ⟨v,r1++r2,hp,.refl _⟩,fun Y f=>?_,by have:=hp.length_eq;have:=hc.2;rw[z1] at*;omega⟩;rcases jv.1 f with rfl|f
       ·exact k8
       ·obtain⟨U,q,Q,h3,h4⟩:=hc.1 Y (hp.mem_iff.2 (jn _ f));exact⟨U,q,Q,h3,by omega⟩
     obtain⟨J,hp,h7⟩:=QH;exact g_ (V,X,J) ⟨k0 J hp,h7⟩ i_
    ·refine x6 ?_;exact g_ (S,T,M) ⟨hm,fun Y f=>by obtain⟨U,q,Q,h3,h4⟩:=hc.1 Y f;exact⟨U,q,Q,h3,by omega⟩,by have:=hc.2;show M.length<=_;omega⟩ i_
   rintro⟨V,X,J⟩ ⟨q1,h7⟩;refine A5 ?_;exact l8 (i:=(j,S,T,M,(),())) (j+1,V,X,J,(),()) ⟨z,q1,h7⟩ qg sub i_
  ·have z:j=p.length:=(by have:=zu h;omega);refine x6 ?_;exact g_ (S,T,M) ⟨hm,by rw[<-z];exact hc⟩ i_
 rintro⟨S,T,M⟩ ⟨hm,hc⟩;simp only at hm hc;have hk:∀Y∈M,PX Y:=fun Y f=>(hc.1 Y f).1;have q5:=hc.2;refine A5 ?_;refine e_ (HR y) qw ?_;rintro v A ⟨g,rfl,rfl⟩;refine e_ (C:=[]) (zC y g T S M hm hk qb) ?pre ?_;(case pre=>exact fun h hh ⟨bs,hb⟩=>⟨hb.blk ud,hb.blk ud⟩);rintro v A ⟨sa,sl,sc,rfl,rfl,hg⟩;refine I6 2 ?_;refine n8 (ι:=qr×List (Nat×Nat)×Nat) (fun i=>i.2.1.length<=sl.length/\∀r∈i.2.1,HV r) (fun i=>[(6,.slice i.1 i.2.1.length i.2.2)]) (fun i=>[X1 i.1 i.2.1 i.2.2]) ?_ ?_
 ·refine o0 ?_;refine gP (fun(j:Nat) (_:qr) (b:List (Nat×Nat)) (_:Nat) (_ _:Unit)=>j<=sl.length/\b.length<=j/\∀r∈b,HV r) (fun j s b u _ _=>[(6,.slice s b.length u),(26,.slice sa sl.length sc),(27,r7 sl.length),(28,r7 j)]) (fun _ s b u _ _=>[X1 s b u,V4 sa sl sc]) (fun j _ _ _ _ _=>sl.length-j) 0 none [] 0 () () ⟨zp _,kp _,fun _ h=>by cases h⟩ sub (fun w O=>y9.left tk (O.addNil 178 2)) ?_;rintro j s b u _ _ ⟨hj,q6,Z⟩;refine T2 ?_ ?_<;>intro h
  ·have z:j<sl.length:=(by have:=zy h;omega);refine B7 (a:=sa) (n:=sl.length) (c:=sc) (sz:=1) (xs:=nV sl) (te:=27) ud fun _ _ D=>?_;have D:=D qb;obtain⟨x,hx⟩:=o9 (sl.getD (j:Int).toNat 0);have h6:DW x:=(by rw[hx];exact hg.2 _ (uw (i:=(j:Int)) (n:=sl.length) qb rfl));have h9:=h6.1;refine I6 0 ?_;refine n8 (ι:=qr×List (Nat×Nat)×Nat) (fun i=>i.2.1.length<=j+1/\∀r∈i.2.1,HV r) (fun i=>[(6,.slice i.1 i.2.1.length i.2.2),(26,.slice sa sl.length sc),(27,r7 sl.length),(28,r7 j)]) (fun i=>[X1 i.1 i.2.1 i.2.2,V4 sa sl sc]) ?_ ?_
   ·refine o0 ?_;refine u6 ?_;refine r_ ((aD (n:=sl.length) rfl).eq (v':=.int .u64 (x:Nat)) (by rw[hx])) ?_;refine P1 ?_;refine B7 (a:=s) (n:=b.length) (c:=u) (sz:=2) (xs:=S_ b) (te:=178) ud fun _ _ d=>?_;refine n8 (ι:=Bool) (fun q=>q=true->0<b.length) (fun q=>[(6,.slice s b.length u),(8,.int .u64 (x:Nat)),(9,r7 b.length),(26,.slice sa sl.length sc),(27,r7 sl.length),(28,r7 j),(46,.bool q)]) (fun _=>[X1 s b u,V4 sa sl sc]) ?_ ?_
    ·by_cases h0:0<b.length
     ·have d:=d h0;refine u6 ?_;refine f_ ((E9 rfl rfl).eq (v':=.bool true) (qn qk)) ?_;refine E8 ?_;refine A7 rfl rfl rfl ?_;refine f_ ((E7 rfl rfl qb).eq (v':=.int .i64 ((b.length-1:Nat):Int)) (by congr 1;omega)) ?_;refine A5 ?_;refine A7 rfl rfl rfl ?_;refine r_ (l5 rfl (fun w O=>cT (j:=1) (O.ownN (t:=178) ud).2.2.1 B6 (i:=b.length-1) qb rfl x7)) ?_;refine P1 ?_;exact g_ _ (fun _=>h0) i_
     ·refine u6 ?_;refine f_ ((E9 rfl rfl).eq (v':=.bool false) (qn qj)) ?_;refine wk 11 ?_;exact g_ false qx i_
    intro q hq;refine O_ ?_ ?_<;>intro h
    ·have h0:=hq h;have d:=d h0;refine A5 ?_;refine f_ ((E7 rfl rfl qb).eq (v':=.int .i64 ((b.length-1:Nat):Int)) (by congr 1;omega)) ?_;refine E8 ?_;refine A6 (C:=dL) (l:=b) (b[b.length-1].1,x) B6 (i:=b.length-1) qb (j:=1) rfl ?_;refine x6 ?_;refine g_ (s,b.set (b.length-1) (b[b.length-1].1,x),u) ⟨by simp only[Qw];omega,fun r hr=>?_⟩ (fun w O=>by simp only[X1,Qw];exact O) (by simp only[Qw];exact sub);rcases Qj hr with h5|rfl
     ·exact Z r h5
     ·exact⟨(Z _ (zm qb)).1,h6⟩
    ·refine P1 ?_;refine D2 dL (x,x) rfl ?_;intro q7 _;refine u7 dL (l:=b) (m:=[(x,x)]) B6 jS (by show(b.length+1)*16<=_;omega) ?_;intro US q2 _;refine u6 ?_;refine g_ (US,b++[(x,x)],q2) ⟨by simp only[zg,z1,kx];omega,fun r hr=>?_⟩ (fun w O=>y9.left tk O);rcases kw.1 hr with h5|h5
     ·exact Z r h5
     ·rw[z7.1 h5];exact⟨h6,h6⟩
   rintro⟨a3,l3,c3⟩ ⟨h3,h4⟩;simp only at h3 h4;refine A5 ?_;exact l8 (i:=(j,s,b,u,(),())) (j+1,a3,l3,c3,(),()) ⟨z,h3,h4⟩ qg sub i_
  ·refine x6 ?_;exact g_ (s,b,u) ⟨by simp only;omega,Z⟩ (fun w O=>y9.left tk O)
 rintro⟨ra,rl,rc⟩ ⟨U,Q⟩;simp only at U Q;refine M4 ?_;exact d_ rfl rfl _ ⟨ra,rl,rc,rfl,rfl,by have:=hg.1;omega,Q⟩ i_
open Go Go.Sl Go.RowKit Go.Proofs.Tryz
abbrev gg(l:zz):Prop:=∀x∈l,x<18446744073709551616
def BO(v:VW)(a:qr)(c:Nat)(b:zz)(ua:qr)(uc:Nat)(e:Bool)(hv:v.a6x.length<=1000000)(hl:b.length<=1000000)(hu:gg b):Ct prog 290 [yW v a c,.slice ua b.length uc,.bool e] (fun h=>n9 h a (S_ v.a6x)/\n9 h ua (nV b)) [] (Tz b.length):=by
 refine b_ 38 func290 rfl rfl rfl ?_;rintro F ⟨D,s⟩;refine D1 ?_;refine m8 rfl rfl ?_;intro u;refine u6 ?_;refine I6 4 ?_;refine n8 (ι:=qr×zz×Nat) (fun i=>i.2.1.length<=b.length/\gg i.2.1) (fun i=>[(7,.slice i.1 i.2.1.length i.2.2)]) (fun i=>[V4 i.1 i.2.1 i.2.2]) ?_ ?_
 ·refine o0 ?_;refine gP (fun(j:Nat) (_:qr) (d:zz) (_:Nat) (_ _:Unit)=>j<=b.length/\d.length<=j/\gg d) (fun j o d p _ _=>[(2,.bool e),(3,i8 u),(7,.slice o d.length p),(11,.slice ua b.length uc),(12,r7 b.length),(13,r7 j)]) (fun _ o d p _ _=>[V4 o d p,.blk u (.cells (wl v a c).toArray 30)]) (fun j _ _ _ _ _=>b.length-j) 0 none [] 0 () () ⟨zp _,kp _,fun _ h=>by cases h⟩ sub (fun w f=>y9.left tk (f.addNil 27 1)) ?_;rintro j o d p _ _ ⟨hj,h0,q⟩;refine T2 ?_ ?_<;>intro h
  ·have g:j<b.length:=(by have:=zy h;omega);have J:=ae s g;have M:=dv (fun r:Nat×Nat=>decide (r.1=b.getD j 0)) v.a6x;refine u6 ?_;refine r_ (l5 rfl (fun w f=>uD f s (i:=j) x7 g)) ?_;refine u6 ?_;refine I6 0 ?_;obtain⟨r,Y⟩:=o9 (lH v.a6x (b.getD j 0));refine A5 ?_;refine c_ rfl (yX v a c (b.getD j 0) hv) (fun h Z _=>D.le Z) rfl ?_;rw[<-Y];refine I6 1 ?_;refine n8 (ι:=qr×zz×Nat) (fun i=>i.2.1.length<=j+1/\gg i.2.1) (fun i=>[(2,.bool e),(3,i8 u),(7,.slice i.1 i.2.1.length i.2.2),(11,.slice ua b.length uc),(12,r7 b.length),(13,r7 j)]) (fun i=>[V4 i.1 i.2.1 i.2.2,.blk u (.cells (wl v a c).toArray 30)]) ?_ ?_
   ·have k:∀x,x<18446744073709551616->(d++[x]).length<=j+1/\gg (d++[x]):=fun x hx=>⟨by simp only[zg,z1,kx];omega,fun y hy=>by
     rcases kw.1 hy with O|O
     ·exact q y O
     ·rw[z7.1 O];exact hx⟩
    refine o0 ?_;refine eV ?_ ?_<;>intro h
    ·refine x6 ?_;exact g_ (o,d,p) ⟨by simp only;omega,q⟩ (fun w f=>y9.left tk f)
    have h6:0<=r/\r<1000000:=(by have h1:=zu h;have h2:r<v.a6x.length:=(by rw[Y];exact M.2);omega);refine bQ ?_ ?_<;>intro h
    ·refine A5 ?_;refine gN (n:=b.getD j 0) ?_;intro yo;refine kG (l:=d) (m:=[b.getD j 0]) (by show(d.length+1)*8<=_;omega) ?_;intro Pl Q;refine u6 ?_;exact g_ (Pl,d++[b.getD j 0],Q) (k _ (hu _ (wW g))) (fun w f=>y9.left tk f)
    ·refine E8 ?_;refine f_ ((A3 rfl qb).eq (v':=.int .u64 ((r+1).toNat:Nat)) (by congr 1;omega)) ?_;refine gN (n:=(r+1).toNat) ?_;intro h7;refine kG (l:=d) (m:=[(r+1).toNat]) (by show(d.length+1)*8<=_;omega) ?_;intro S T;refine u6 ?_;exact g_ (S,d++[(r+1).toNat],T) (k _ qb) (fun w f=>y9.left tk f)
   rintro⟨a3,U,V⟩ ⟨z,t⟩;simp only at z t;refine A5 ?_;exact l8 (i:=(j,o,d,p,(),())) (j+1,a3,U,V,(),()) ⟨g,z,t⟩ qg sub i_
  ·refine x6 ?_;exact g_ (o,d,p) ⟨by simp only;omega,q⟩ (fun w f=>y9.left tk f)
 rintro⟨a3,U,V⟩ ⟨z,t⟩;simp only at z t;refine u6 ?_;refine e_ (C:=[]) (MO U a3 V t qb) ?pre ?_;(case pre=>exact fun h Z ⟨bs,hb⟩=>A_.rd hb ud);rintro x A ⟨ra,rl,rc,rfl,rfl,h8,X⟩;refine D0 ?_;exact d_ rfl rfl _ ⟨ra,rl,rc,rfl,rfl,by omega,X⟩ (fun w f=>y9.left tk f)
end Go.Proofs.YtmcepdopookilaaGreatDoor.Rp
namespace Go.Sl
open Go Go.RowKit Go.Proofs.Tryz
section
variable{P:zj}{N:Nat}{K R:A1}{E:List (Nat×A1)}{L:G9}{F:l9}{H:List As}{ops:Array Oper}{rest:List Oper}{ty:zk}{pos:String}{af:Array Edge}{t:zk}
def Hp.capOwn{w:World}{a:qr}{n c k sz:Nat}{te:zk}{xs:zq}{H':List As}(p:Hp F w H)(u:N1 H (.own (.slice a n c) te sz xs) [.own (.slice a n k) te sz xs] H')(j:n<=k)(q:k<=c):Hp F w H':=by
 obtain⟨l,d,e,r,kk⟩:=p.focus u;refine kk w l rfl rfl rfl (fun _ _ _=>rfl) ⟨l,[],by simp,?_,rfl⟩ e (fun _ s=>.inl s);rcases d with⟨f,rfl,rfl⟩|⟨g,rfl,⟨o,z,t,pre,b,v,f,hg,x,m,h,y,i⟩⟩
 ·injection f with e1 e2 e3;subst e1 e2 e3;have:k=0:=by omega
  subst this;exact .inl qm
 ·injection f with e1 e2 e3;subst e1 e2 e3;have A:k*sz<=c*sz:=Qr _ q;have C:c*sz-k*sz<=b.length:=by
   rw[zg,m] at h;have:n*sz<=k*sz:=Qr _ j;omega
  exact .inr ⟨g,rfl,⟨o,n,k,pre,b,v,rfl,hg,x,m,by omega,j,i⟩⟩
def pV{d:Nat}{s x:zw}{a b:qr}{n m S sz:Nat}{xs news:zq}{e:zk}{z:Value}{i:TypeInfo}[hu:HU P t (.slice e)][hz:HZ P e z][hi:HI P e i][hs:HS P e sz](T:ev L s=some (.slice a n n))(U:ev L x=some (.slice b m S))(V:∀w,Hp F w H->n9 (hp w) a xs)(y:xs.length=n*sz)(ha:a=none->n=0)(hsrc:∀w,Hp F w H->KX (hp w) b news)(hl:news.length=m*sz)(X:Nat.blt 0 sz=true)(Y:z.cells.size=sz)(l:(n+m)*i.bytes<=140737488355328)(h63:n+m<=9223372036854775807)(hm:0<m)(hd:Nat.blt d N=true)(h:∀g Z,n+m<=Z->GL P N ops rest K E R ((d,.slice (some ⟨g,0,none⟩) (n+m) Z)::L) F (.own (.slice (some ⟨g,0,none⟩) (n+m) Z) e sz (xs++news)::H)):
  GL P N ops (⟨some d,.call ⟨.builtin .append,#[s,x],#[t,t]⟩,ty,pos,af,none⟩::rest) K E R L F H:=
 T4 rfl rfl hd fun w0 w hf hw=>by
  have J:0<sz:=by simpa[K2] using X
  have c:=hi.h;have p:i.size=sz:=by
   have C:=hs.h w;simp[sizeOf,typeInfo,c] at C;exact C
  have M:i.zero=some z:=by
   have C:=hz.h w;simp only[zeroValue,Sem.run_bind,typeInfo] at C
   cases hq:i.zero with
   |none=>simp[c,hq] at C
   |some z'=>simp[c,hq] at C;rw[C]
  have q:∀vv w',(Builtin.append_ #[t,t] ty #[.slice a n n,.slice b m S]).run P w=.ok vv w'->
    (execOp w0.eval ⟨some d,.call ⟨.builtin .append,#[s,x],#[t,t]⟩,ty,pos,af,none⟩).run P w=.ok (.value vv) w':=fun vv w' O=>by
   simp[execOp,resolve,invoke,builtin,hf.eval T,hf.eval U,O]
  have h0:news≠[]:=by
   rintro rfl;have:0<m*sz:=Jv hm J;simp at hl;omega
  obtain⟨ad,rfl,A⟩:=hsrc w hw h0;have f:∀j u,news[j]? =some u->w.cell? (ad.add j)=some u:=A;have h1:=V w hw;have r:∀(k:Nat),k<n+m->Hp F (w.drew.alloc (.cells (xs.toArray++news.toArray++Builtin.zeroCells z.cells (grownCap w (n+m) k e-(n+m))) e)) (.own (.slice (some ⟨w.heap.size,0,none⟩) (n+m) (grownCap w (n+m) k e)) e sz (xs++news)::H)/\n+m<=grownCap w (n+m) k e:=fun k ho=>by
   have Q:=grownCap_ge w (n+m) k e;refine⟨P9 (w:=w.drew) (post:=(Builtin.zeroCells z.cells (grownCap w (n+m) k e-(n+m))).toList) (fr:=(0,0)) hw.drew' ?_ ?_ Q (.inl (kp _)) ?_,Q⟩
   ·rw[zg,y,hl,Zj]
   ·simp only[zg,y,hl,Z9,size_zeroCells,Y,<-Zj];congr 1;omega
   ·congr 2;apply Zv.1;simp
  cases a with
  |none=>
   have h3:=ha rfl;subst h3;have D:xs=[]:=js (by simpa using y);subst D;have hr:=run_append_nil (P:=P) w t ty e i z hu.h c M ad m S news (by rw[p];exact hl) f qb qb (by rw[j6] at l;omega);have o:=r 0 qb;simp only[j6,Qv] at o;refine⟨_,_,.own (.slice (some ⟨w.heap.size,0,none⟩) m (grownCap w m 0 e)) e sz news::H,q _ _ hr,?_,?_⟩
   ·have:=o.1;simpa using this
   ·have:=h w.heap.size (grownCap w m 0 e) (by simpa using o.2);simpa using this
  |some ad0=>
   have h4:∀j v,xs[j]? =some v->w.cell? (ad0.add j)=some v:=fun j v hj=>by
    have D:xs≠[]:=(by rintro rfl;simp at hj);obtain⟨h6,e2,h5⟩:=h1 D;injection e2 with e2;subst e2;exact h5 j v hj
   have hr:=run_append_grow (P:=P) w t ty e i z hu.h c M ad0 n n xs (by rw[p];exact y) h4 ad m S news (by rw[p];exact hl) f qb qb (growslice_fits qb l);have o:=r n qb;exact⟨_,_,_,q _ _ hr,o.1,h _ _ o.2⟩
def HW{α β γ δ ε ζ:Type}{c:Code}(b:α->β->γ->δ->ε->ζ->Prop)(g:α->β->γ->δ->ε->ζ->G9)(i:α->β->γ->δ->ε->ζ->l9)(HI:α->β->γ->δ->ε->ζ->List As)(μ:α->β->γ->δ->ε->ζ->Nat)(d:α)(e:β)(z0:γ)(f:δ)(v0:ε)(w0:ζ)(k:b d e z0 f v0 w0)(l:fE (g d e z0 f v0 w0) L)(m:i d e z0 f v0 w0=F)(hH:∀w,Hp F w H->Hp F w (HI d e z0 f v0 w0))(round:∀x y z u v q,b x y z u v q->G P N c (fun a w=>∃j:α×β×γ×δ×ε×ζ,b j.1 j.2.1 j.2.2.1 j.2.2.2.1 j.2.2.2.2.1 j.2.2.2.2.2/\μ j.1 j.2.1 j.2.2.1 j.2.2.2.1 j.2.2.2.2.1 j.2.2.2.2.2<μ x y z u v q/\H5 N (g j.1 j.2.1 j.2.2.1 j.2.2.2.1 j.2.2.2.2.1 j.2.2.2.2.2) a/\Hp (i j.1 j.2.1 j.2.2.1 j.2.2.2.1 j.2.2.2.2.1 j.2.2.2.2.2) w (HI j.1 j.2.1 j.2.2.1 j.2.2.2.1 j.2.2.2.2.1 j.2.2.2.2.2)) E R (g x y z u v q) (i x y z u v q) (HI x y z u v q)):G P N (.loop c) K E R L F H:=
 bV (ι:=α×β×γ×δ×ε×ζ) (fun j=>b j.1 j.2.1 j.2.2.1 j.2.2.2.1 j.2.2.2.2.1 j.2.2.2.2.2) (fun j=>g j.1 j.2.1 j.2.2.1 j.2.2.2.1 j.2.2.2.2.1 j.2.2.2.2.2) (fun j=>i j.1 j.2.1 j.2.2.1 j.2.2.2.1 j.2.2.2.2.1 j.2.2.2.2.2) (fun j=>HI j.1 j.2.1 j.2.2.1 j.2.2.2.1 j.2.2.2.2.1 j.2.2.2.2.2) (fun j=>μ j.1 j.2.1 j.2.2.1 j.2.2.2.1 j.2.2.2.2.1 j.2.2.2.2.2) (d,e,z0,f,v0,w0) k l m hH fun j h=>round j.1 j.2.1 j.2.2.1 j.2.2.2.1 j.2.2.2.2.1 j.2.2.2.2.2 h
def HX{c:Code}{ι:Type}(d:ι->Prop)(L':ι->G9)(f:ι->l9)(H':ι->List As)(g:G P N c (fun a w=>∃i,d i/\H5 N (L' i) a/\Hp (f i) w (H' i)) E R L F H)(h:∀i,d i->At N K (L' i) (f i) (H' i)):G P N c K E R L F H:=by
 unfold G At at*;intro a w hf b;refine Code.wp_mono (fun e a w q=>?_) (g a w hf b)
 cases e with
 |normal=>obtain⟨i,hp,hf,b⟩:=q;exact h i hp a w hf b
 |_=>exact q
def y7{ι:Type}{b:ι->Prop}{L':ι->G9}{c:ι->l9}{H':ι->List As}(i:ι)(hp:b i)(d:c i=F)(hH:∀w,Hp F w H->Hp F w (H' i))(hs:fE (L' i) L:=by exact sub):At N (fun a w=>∃i,b i/\H5 N (L' i) a/\Hp (c i) w (H' i)) L F H:=by
 unfold At;exact fun a w hf e=>⟨i,hp,hf.sub hs,by rw[d];exact hH w e⟩
def Hp.mid{w:World}{A J a:List As}(h:Hp F w (A++J++a)):Hp F w (A++a):=by
 have b:Hp F w ((A++a)++J):=h.perm (by rw[ky,ky];exact Kw _ jj);exact b.left
def D3{w:World}{A J a:List As}(h:y9 (A++J) H a)(b:Hp F w H):Hp F w (A++a):=(h.hp b).mid
def kL{Z Rr:List As}(hH:y9 Z H Rr)(k:∀a,F.le a->(∃bs,A_ a.heap Z bs)->At N K L a Rr):At N K L F H:=
 At.weaken (H':=Rr++Z) (dW k) (fE.refl _) (fun w b=>(hH.hp b).perm jj)
def lK{c:Code}{α β γ δ:Type}(b:α->β->γ->δ->Prop)(L':α->β->γ->δ->G9)(H':α->β->γ->δ->List As)(d:G P N c (fun a w=>∃i:α×β×γ×δ,b i.1 i.2.1 i.2.2.1 i.2.2.2/\H5 N (L' i.1 i.2.1 i.2.2.1 i.2.2.2) a/\Hp F w (H' i.1 i.2.1 i.2.2.1 i.2.2.2)) E R L F H)(e:∀x y z u,b x y z u->At N K (L' x y z u) F (H' x y z u)):G P N c K E R L F H:=
 n8 (ι:=α×β×γ×δ) (fun i=>b i.1 i.2.1 i.2.2.1 i.2.2.2) (fun i=>L' i.1 i.2.1 i.2.2.1 i.2.2.2) (fun i=>H' i.1 i.2.1 i.2.2.1 i.2.2.2) d fun i h=>e i.1 i.2.1 i.2.2.1 i.2.2.2 h
def V7{c:Code}{α β γ δ:Type}(b:α->β->γ->δ->Prop)(L':α->β->γ->δ->G9)(d:α->β->γ->δ->l9)(H':α->β->γ->δ->List As)(e:G P N c (fun a w=>∃i:α×β×γ×δ,b i.1 i.2.1 i.2.2.1 i.2.2.2/\H5 N (L' i.1 i.2.1 i.2.2.1 i.2.2.2) a/\Hp (d i.1 i.2.1 i.2.2.1 i.2.2.2) w (H' i.1 i.2.1 i.2.2.1 i.2.2.2)) E R L F H)(f:∀x y z u,b x y z u->At N K (L' x y z u) (d x y z u) (H' x y z u)):G P N c K E R L F H:=
 HX (ι:=α×β×γ×δ) (fun i=>b i.1 i.2.1 i.2.2.1 i.2.2.2) (fun i=>L' i.1 i.2.1 i.2.2.1 i.2.2.2) (fun i=>d i.1 i.2.1 i.2.2.1 i.2.2.2) (fun i=>H' i.1 i.2.1 i.2.2.1 i.2.2.2) e fun i h=>f i.1 i.2.1 i.2.2.1 i.2.2.2 h
end
end Go.Sl
namespace Go.Proofs.YtmcepdopookilaaGreatDoor.Rp
open Go Go.Sl Go.RowKit Go.Proofs.Tryz
abbrev AC:=qr×Nat
abbrev Fu(n:Nat):RR:={R0 with kind:=9,n:=n}
abbrev Qf(n:Nat):RR:={R0 with kind:=8,n:=n}
abbrev wX(g:Nat)(v:VW)(p:AC):As:=.blk g (.cells (wl v p.1 p.2).toArray 30)
abbrev HY(v:VW)(a6x:List (Nat×Nat)):VW:=⟨v.box,v.val,a6x⟩
abbrev BP(g:Nat)(b:BM):As:=.blk g (.cells (bR b).toArray 100)
abbrev zD(x:RL):Prop:=x.fa=none/\x.fc=0
abbrev KP(rl:List RM):Prop:=∀m∈rl,m.2=L0/\m.1.nums=[]/\m.1.a6J=[]/\m.1.values=[]
def KP.app{rl:List RM}(h:KP rl){r:RR}(b:r.nums=[])(c:r.a6J=[])(d:r.values=[]):KP (rl++[(r,L0)]):=fun m e=>by
 rcases kw.1 e with a|a
 ·exact h m a
 ·rw[z7.1 a];exact⟨rfl,b,c,d⟩
def KP.rd{rl:List RM}(h:KP rl)(a:l_):∀m∈rl,fQ m.1 m.2 a/\zD m.2:=fun m f=>by
 obtain⟨e,b,c,d⟩:=h m f;obtain⟨r,x⟩:=m;simp only at e b c d;subst e;exact⟨cX b c d a,rfl,rfl⟩
def wY{b:BM}{u:Nat}(h:yY b.ls u<0):bZ b.x u=none:=by
 unfold yY D9 at h;unfold bZ
 cases e:b.ls.findIdx? fun x=>decide (x.t.uid=u) with
 |some i=>rw[e] at h;simp only[Option.elim] at h;omega
 |none=>
  rw[Zx] at e;rw[W2];intro x a;obtain⟨m,c,rfl⟩:=jr.1 a;have:=e m c;simpa using this
def wZ{b:BM}{u:Nat}(h:¬yY b.ls u<0):∃(i:Nat) (a:i<b.ls.length),yY b.ls u=(i:Nat)/\bZ b.x u=some b.ls[i].t:=by
 unfold yY D9 at h⊢;unfold bZ
 cases e:b.ls.findIdx? fun x=>decide (x.t.uid=u) with
 |none=>rw[e] at h;simp only[Option.elim] at h;omega
 |some i=>
  obtain⟨a,d,c⟩:=jg.1 e;refine⟨i,a,rfl,?_⟩;show(b.ls.map LM.t).find? _=_;have f:List.find? (fun m:LM=>decide (m.t.uid=u)) b.ls=some b.ls[i]:=List.find?_eq_some_iff_getElem.2 ⟨d,i,a,rfl,fun j g=>by simpa using c j g⟩;rw[List.find?_map];show Option.map LM.t (List.find? (fun m:LM=>decide (m.t.uid=u)) b.ls)=_;rw[f];rfl
def pW{b:BX}{k:Nat}{a:List (Nat×Nat)}(h:bZ b (a.getD k (0,0)).1=none):az b (k+1) a=((az b k (a.eraseIdx k)).1,{R0 with kind:=9,n:=k+1}::(az b k (a.eraseIdx k)).2):=by
 rw[az];rw[h]
def pX{b:BX}{k:Nat}{a:List (Nat×Nat)}{x:LT}(h:bZ b (a.getD k (0,0)).1=some x):az b (k+1) a=az b k a:=by
 rw[az];rw[h]
abbrev kM(v:VW)(b:BX)(expunge:Bool):List (Nat×Nat)×List RR:=if expunge then az b v.a6x.length v.a6x else(v.a6x,[])
def SyQ(e:VW×List RR)(h:l_)(x:Value)(A:List As):Prop:=∃p rl o,x=.tuple #[yW e.1 (Prod.fst p) (Prod.snd p),.slice (Prod.fst o) (List.length rl) (Prod.snd o)]/\A=[l6 p.1 e.1.a6x p.2,x4 o.1 rl o.2]/\rl.map Prod.fst=e.2/\∀m∈rl,fQ m.1 m.2 h/\zD m.2
abbrev uE(ls:List LM)(m:Nat):List (Nat×Nat):=((ls.map LM.t).filter fun x=>decide (m<x.uid)).map fun x=>(x.uid,x.mod)
def Ia(ls:List LM)(m:Nat){j:Nat}(a:j<ls.length):uE (ls.take (j+1)) m=uE (ls.take j) m++if m<ls[j].t.uid then[(ls[j].t.uid,ls[j].t.mod)] else[]:=by
 unfold uE;rw[jy a,Qx,W1,Qx];congr 1;by_cases h:m<ls[j].t.uid<;>simp[h]
def MP(ls:List LM)(m j:Nat):(uE (ls.take j) m).length<=j:=by
 unfold uE;rw[kg];refine j9 (Q9 _ _) ?_;rw[kg,kr];omega
abbrev uF(cond:Bool)(had:List ((Nat×Nat)×Option LT)):List RR:=had.zipIdx.filterMap fun h=>h.1.2.map fun x=>tR x (h.2+1) cond
def El(cond:Bool)(a:List ((Nat×Nat)×Option LT)){j:Nat}(b:j<a.length):uF cond (a.take (j+1))=uF cond (a.take j)++(a[j].2.map fun x=>tR x (j+1) cond).toList:=by
 unfold uF;rw[jy b,List.zipIdx_append,List.filterMap_append,kr,Jr (J5 b),j6,List.zipIdx_singleton];congr 1
abbrev Qi(g4 g5 g8:Nat)(v:VW)(b:BM)(a6x:List (Nat×Nat))(p:AC)(rl:List RM)(o:AC)(R:List As):List As:=l6 p.1 a6x p.2::x4 o.1 rl o.2::wX g4 (HY v a6x) p::BP g5 b::wX g8 AT (none,0)::R
abbrev Ib(g4 g5 g8:Nat)(cond:Bool)(rl:List RM)(o:AC):G9:=[(3,.bool cond),(4,i8 g4),(5,i8 g5),(8,i8 g8),(9,.slice none 0 0),(10,.slice o.1 rl.length o.2)]
abbrev OI(g4 g5 g8:Nat)(v:VW)(b:BM)(n:Nat)(x:List (Nat×Nat))(p:AC)(rl:List RM)(o:AC)(R:List As):List As:=.own (.slice p.1 n p.2) 72 2 (S_ x)::x4 o.1 rl o.2::.blk g4 (.cells #[B v.box,.int .u64 (v.val:Nat),.slice p.1 n p.2] 30)::BP g5 b::wX g8 AT (none,0)::R
abbrev pY(b:BX)(a6x nw:List (Nat×Nat))(j:Nat):List (Nat×Nat):=((a6x.map (Y5 b)).map (·.1)).take j++(a6x.drop j++nw)
def uG(b:BX)(a c:List (Nat×Nat)){j:Nat}(d:j<=a.length):(pY b a c j).length=a.length+c.length:=by
 simp only[pY,zg,kr,kg,jz];omega
def Ic(b:BX)(a c:List (Nat×Nat)){j:Nat}(d:j<a.length):(pY b a c j)[j]'(by rw[uG b a c (J5 d)];omega)=a[j]:=by
 have e:(((a.map (Y5 b)).map (·.1)).take j).length=j:=by simp;omega
 have f:(pY b a c j)[j]? =some a[j]:=by
  unfold pY;rw[jc qb,e,Jc,j8 (by simp;omega),Zc];simp[d]
 exact(Qs.1 f).2
def BQ(b:BX)(a c:List (Nat×Nat)){j:Nat}(d:j<a.length):(pY b a c j).set j (Y5 b a[j]).1=pY b a c (j+1):=by
 have e:(((a.map (Y5 b)).map (·.1)).take j).length=j:=by simp;omega
 unfold pY;rw[List.set_append_right _ _ qb,e,Jc,Qc d,Zu,List.set_cons_zero,jy (by simpa using d),ky];simp
def xa(b:BX)(a c:List (Nat×Nat)){j:Nat}(d:j<a.length)(h:(Y5 b a[j]).1=a[j]):pY b a c (j+1)=pY b a c j:=by
 have e:j<(pY b a c j).length:=by rw[uG b a c (J5 d)];omega
 rw[<-BQ b a c d,h]
 conv=>lhs;rw[<-Ic b a c d]
 exact Kj e
abbrev RO(fs:List Bs)(a:qr)(c:Nat):VM:=⟨{V0 with kind:=6,a6J:=fs},a,c⟩
abbrev TA(n:Nat):VM:=⟨{V0 with kind:=9,n:=n},none,0⟩
def MR(v:VW)(a:qr)(c:Nat)(b:BM)(f cond:Bool)(hv:v.a6x.length<=100000)(hb:b.ls.length<=100000)(b6:∀x∈b.ls,x.t.a6J.length<=16):Cm prog 166 [yW v a c,KL b,.bool f,.bool cond] (fun h=>n9 h a (S_ v.a6x)/\eZ b h) [] (SyQ (aa v b.x f cond)):=by
 refine A0 179 func166 rfl rfl rfl ?_;rintro F R ⟨b7,v9⟩;have y0:=v9.ls;obtain⟨q1,h1⟩:=o9 (decide (b.name=v.box));obtain⟨q2,h2⟩:=o9 (decide (b.val=v.val));refine D1 ?_;refine m8 rfl rfl ?_;intro D;refine m8 rfl rfl ?_;intro M;refine i7 rfl ?_;intro S;refine E8 ?_;refine e_ (fY (S_ v.a6x) a v.a6x.length c (cd _) (eY _) qb) (fun h hh _=>b7.le hh) ?_;rintro x A ⟨a2,c2,rfl,rfl⟩;refine E8 ?_;refine x8 [(2,.bool f),(3,.bool cond),(4,i8 D),(5,i8 M),(8,i8 S),(9,.slice none 0 0),(10,.slice none 0 0),(36,.bool (!q1||!q2))] (wX D v (a2,c2)::BP M b::wX S AT (none,0)::l6 a2 v.a6x c2::R) ?_ ?_
 ·cases q1
  all_goals (
   refine P1 ?_;refine f_ ((F7 rfl rfl).eq (jh (fun b=>Value.bool (!b)) h1.symm)) ?_;refine al ?_;(first|refine u_ ?_|(refine v_ ?_;refine f_ ((M2 rfl rfl).eq (jh (fun x=>Value.bool (!x)) ((kz.2 Jn).trans h2.symm))) ?_));refine u6 ?_)
  all_goals exact p_ sub (fun w s=>(tk (C:=[_,_,_,_])).hp s)
 refine O_ ?_ ?_<;>intro h
 ·have e:aa v b.x f cond=(v,[]):=by
   unfold aa;refine zr ?_;rw[h1,h2] at h;simpa using h
  rw[e];refine cn ?_;refine I4 (A:=[l6 a2 v.a6x c2,x4 none [] 0]) (v:=.tuple #[yW v a2 c2,.slice none 0 0]) (l9.le_refl _) ⟨(a2,c2),[],(none,0),rfl,rfl,rfl,fun _ h=>by cases h⟩ ?_;exact D_ rfl rfl rfl ud rfl _ qh (fun w s=>D3 (A:=[_,_]) (J:=[_,_,_]) tk (s.addNil 51 10))
 have hq:q1=true/\q2=true:=by cases q1<;>cases q2<;>simp_all
 have x0:aa v b.x f cond=(HY v (((kM v b.x f).1.map (Y5 b.x)).map (·.1)++uE b.ls (M7 (kM v b.x f).1)),(kM v b.x f).2++(if uE b.ls (M7 (kM v b.x f).1)=[] then[] else[{R0 with kind:=8,n:=(kM v b.x f).1.length+(uE b.ls (M7 (kM v b.x f).1)).length}])++uF cond ((kM v b.x f).1.map (Y5 b.x))):=by
  unfold aa;have h3:b.name=v.box:=zy (h1.symm.trans hq.1);have h4:b.val=v.val:=zy (h2.symm.trans hq.2);rw[zb (by show¬(b.name≠v.box\/b.val≠v.val);rw[h3,h4];simp)]
 refine x6 ?_;refine I6 5 ?_;refine lK (fun(d:List (Nat×Nat)) (p:AC) (y:List RM) (o:AC)=>kM v b.x f=(d,y.map Prod.fst)/\d.length<=v.a6x.length/\y.length<=v.a6x.length/\KP y) (fun d p y o=>Ib D M S cond y o) (fun d p y o=>Qi D M S v b d p y o R) ?_ ?_
 ·refine o0 ?_;refine gP (fun(k:Nat) (d:List (Nat×Nat)) (p:AC) (y:List RM) (o:AC) (_:Unit)=>(f=true->k<=d.length/\az b.x v.a6x.length v.a6x=((az b.x k d).1,y.map Prod.fst++(az b.x k d).2))/\(f=false->d=v.a6x/\y=[])/\d.length<=v.a6x.length/\y.length+k<=v.a6x.length/\KP y) (fun k d p y o _=>(2,.bool f)::(11,.int .i64 ((k:Int)-1))::Ib D M S cond y o) (fun k d p y o _=>Qi D M S v b d p y o R) (fun k _ _ _ _ _=>k) v.a6x.length v.a6x (a2,c2) [] (none,0) () ⟨fun _=>⟨kp _,rfl⟩,fun _=>qh,kp _,by simp,fun _ h=>by cases h⟩ sub (fun w s=>(tk (C:=[_,_,_,_,_])).hp (s.addNil 51 10)) ?_;rintro k d p y o _ ⟨w0,w1,y1,d1,k8⟩
  cases k with
  |zero=>
   refine u6 ?_;refine f_ ((K_ rfl rfl).eq (v':=.bool false) rfl) ?_;refine E8 ?_;refine g_ (d,p,y,o) ⟨?_,y1,by show y.length<=_;omega,k8⟩ i_;unfold kM
   cases f
   ·obtain⟨rfl,rfl⟩:=w1 rfl;rfl
   ·rw[zr rfl,(w0 rfl).2];simp[az]
  |succ k=>
   cases f
   ·refine u6 ?_;refine f_ ((K_ rfl rfl).eq (v':=.bool true) (qn qk)) ?_;refine E8 ?_;refine g_ (d,p,y,o) ⟨?_,y1,by show y.length<=_;omega,k8⟩ i_;obtain⟨rfl,rfl⟩:=w1 rfl;rfl
   obtain⟨x1,y2⟩:=w0 rfl;have x1:k<d.length:=x1;refine u6 ?_;refine f_ ((K_ rfl rfl).eq (v':=.bool true) (qn qk)) ?_;refine E8 ?_;refine B7 (a:=p.1) (n:=d.length) (c:=p.2) (sz:=2) (xs:=S_ d) (te:=72) ud fun w2 v3 O=>?_;have O:=O qb;have eg:d.getD k (0,0)=d[k]:=(by rw[z8,zd x1];rfl);refine x6 ?_;refine D8 [0,2,6] [7] [l6 p.1 d p.2,wX D (HY v d) p,BP M b] 9 ?_;refine wd [0,1,2] ?_;refine w_ 3 rfl ((aN rfl).eq (v':=.int .i64 (k:Nat)) (by congr 1;omega)) ?_;refine w_ 4 rfl (n5 (n:=(k:Nat)) (len:=d.length) rfl O rfl qb) ?_;refine wd [5] ?_;refine o7 6 rfl R6 (l5 rfl (fun w s=>cT (j:=0) (s.ownN (t:=72) ud).2.2.1 B6 (i:=k) x1 rfl x7)) G3 rfl rfl rfl i6 ?_;refine h_ 7 rfl i6 ?_;refine c_ rfl (Bz b d[k].1 qb) (fun h hh _=>y0.le hh) rfl ?_;refine D7 [8] ?_;refine lK (fun(V:List (Nat×Nat)) (p':AC) (x2:List RM) (o':AC)=>(k<=V.length/\az b.x v.a6x.length v.a6x=((az b.x k V).1,x2.map Prod.fst++(az b.x k V).2))/\V.length<=v.a6x.length/\x2.length+k<=v.a6x.length/\KP x2) (fun d p y o=>(2,.bool true)::(11,.int .i64 ((((k+1:Nat):Nat):Int)-1))::Ib D M S cond y o) (fun d p y o=>Qi D M S v b d p y o R) ?_ ?_
   ·refine p7 rfl ?_ ?_<;>intro h
    ·have b8:bZ b.x (d.getD k (0,0)).1=none:=(by rw[eg];exact wY (zy h));rw[pW b8] at y2;refine A5 ?_;refine f_ ((r8 rfl rfl qb).eq (v':=.int .i64 ((k+1:Nat):Int)) (by congr 1;omega)) ?_;refine u6 ?_;refine f_ (A2 (ps:=[(0,.const (.int .i64 9)),(4,.tmp 61)]) (vs:=[(0,.int .i64 9),(4,.int .u64 ((k+1:Nat):Int))]) (cells:=(tM (Fu (k+1)) L0).toArray) rfl i6) ?_;refine D2 wm (Fu (k+1),L0) rfl ?_;intro a63 _;refine u7 wm (l:=y) (m:=[(Fu (k+1),L0)]) aB jT (by show(y.length+1)*160<=_;omega) ?_;intro q6 q7 _;refine u6 ?_;have ee:S_ (d.take k)++S_ (d.drop (k+1))=S_ (d.eraseIdx k):=(by rw[<-oV,K4]);have el:(d.eraseIdx k).length=d.length-1:=(by rw[List.length_eraseIdx,zr x1]);have q4:(k<=(d.eraseIdx k).length/\az b.x v.a6x.length v.a6x=((az b.x k (d.eraseIdx k)).1,(y++[(Fu (k+1),L0)]).map Prod.fst++(az b.x k (d.eraseIdx k)).2))/\(d.eraseIdx k).length<=v.a6x.length/\(y++[(Fu (k+1),L0)]).length+k<=v.a6x.length/\KP (y++[(Fu (k+1),L0)]):=by
      refine⟨⟨by omega,?_⟩,by omega,by rw[zg];simp only[z1,kx];omega,k8.app rfl rfl rfl⟩;rw[y2,Qx,ky];rfl
     by_cases hlast:k+1=d.length
     ·refine C5 (H':=.own (.slice p.1 k k) 72 2 (S_ (d.take k))::x4 q6 (y++[(Fu (k+1),L0)]) q7::wX D (HY v d) p::BP M b::wX S AT (none,0)::R) (fun w s=>?_) ?_
      ·have h5:=D3 (A:=[l6 p.1 d p.2,x4 q6 (y++[(Fu (k+1),L0)]) q7,wX D (HY v d) p,BP M b,wX S AT (none,0)]) (J:=[_]) tk s;have h6:=h5.cutOwn (j:=k) .here qb;rw[aP B6] at h6;exact h6.capOwn .here (kp _) qb
      refine x6 ?_;refine D8 [1,6] [10,12] [wX D (HY v d) p] 13 ?_;refine wd [0,1] ?_;refine w_ 2 rfl ((aN rfl).eq (v':=.int .i64 (k:Nat)) (by congr 1;omega)) ?_;refine w_ 3 rfl ((aN rfl).eq (v':=.int .i64 (k:Nat)) (by congr 1;omega)) ?_;refine w_ 4 rfl ((fZ rfl rfl rfl rfl qb).eq (v':=.slice p.1 k k) (by simp[ez])) ?_;refine wd [5,6] ?_;refine w_ 7 rfl ((aN rfl).eq (v':=.int .i64 (k:Nat)) (by congr 1;omega)) ?_;refine wd [8] ?_;refine w_ 9 rfl (C0 (n:=d.length) rfl rfl rfl qb) ?_;refine h_ 10 rfl i6 ?_;refine C4 (m:=d.length-(k+1)) (n:=k) (xs:=S_ (d.take k)) (news:=S_ (d.drop (k+1))) rfl rfl (fun a' c'=>uh) (fun w s=>by rw[Q7 qb];exact n9.nil _ _) (by rw[cd,jz];rfl) rfl rfl (eY _) (by show(k+(d.length-(k+1)))*16<=_;omega) qb rfl ?_;intro v4 k9 _;refine D7 [11,12] ?_;have en:k+(d.length-(k+1))=(d.eraseIdx k).length:=(by omega);refine g_ (d.eraseIdx k,(v4,k9),y++[(Fu (k+1),L0)],(q6,q7)) q4 (fun w s=>?_);show Hp F w (l6 v4 (d.eraseIdx k) k9::x4 q6 (y++[(Fu (k+1),L0)]) q7::.blk D (.cells #[B v.box,.int .u64 (v.val:Nat),.slice v4 (d.eraseIdx k).length k9] 30)::BP M b::wX S AT (none,0)::R);unfold l6;rw[<-en,<-ee];exact(tk (C:=[_,_,_,_,_])).hp s
     ·have w3:0<d.length-(k+1):=(by omega);refine x6 ?_;refine D8 [1,6] [10,12] [wX D (HY v d) p] 13 ?_;refine wd [0,1] ?_;refine w_ 2 rfl ((aN rfl).eq (v':=.int .i64 (k:Nat)) (by congr 1;omega)) ?_;refine w_ 3 rfl ((aN rfl).eq (v':=.int .i64 (k:Nat)) (by congr 1;omega)) ?_;refine w_ 4 rfl ((fZ rfl rfl rfl rfl qb).eq (v':=.slice p.1 k k) (by simp[ez])) ?_;refine wd [5,6] ?_;refine w_ 7 rfl ((aN rfl).eq (v':=.int .i64 (k:Nat)) (by congr 1;omega)) ?_;refine wd [8] ?_;refine w_ 9 rfl (C0 (n:=d.length) rfl rfl rfl qb) ?_;refine h_ 10 rfl i6 ?_;refine pV (n:=k) (m:=d.length-(k+1)) (sz:=2) (e:=72) (xs:=S_ (d.take k)) (news:=S_ (d.drop (k+1))) rfl rfl ?hrx (by rw[cd,kr,Jr qb]) (fun e=>by obtain⟨ad,h9⟩:=O;rw[e] at h9;cases h9) ?hsrc (by rw[cd,jz]) rfl rfl (by show(k+(d.length-(k+1)))*16<=_;omega) qb w3 rfl ?_;rotate_left 2;intro v5 k9 c7;rotate_right 1;(case hrx=>intro w s;have h6:=((s.ownN (t:=72) ud).2.2.1:n9 _ p.1 (S_ d)).cut w2 v3 0 k qb qb;rw[ez,Kx,Kh,Nat.sub_zero,aP B6] at h6;exact h6);(case hsrc=>intro w s;have h6:=((s.ownN (t:=72) ud).2.2.1:n9 _ p.1 (S_ d)).cut w2 v3 (k+1) d.length qb (kp _);rw[lr B6,jm (by rw[cd,jz];omega)] at h6;exact h6);refine D7 [11,12] ?_;have en:k+(d.length-(k+1))=(d.eraseIdx k).length:=(by omega);refine g_ (d.eraseIdx k,(some ⟨v5,0,none⟩,k9),y++[(Fu (k+1),L0)],(q6,q7)) q4 (fun w s=>?_);show Hp F w (l6 (some ⟨v5,0,none⟩) (d.eraseIdx k) k9::x4 q6 (y++[(Fu (k+1),L0)]) q7::.blk D (.cells #[B v.box,.int .u64 (v.val:Nat),.slice (some ⟨v5,0,none⟩) (d.eraseIdx k).length k9] 30)::BP M b::wX S AT (none,0)::R);unfold l6;rw[<-en,<-ee];exact D3 (A:=[_,_,_,_,_]) (J:=[_,_]) tk s
    ·obtain⟨i,hi,hr,hx⟩:=wZ (zu h);rw[<-eg] at hx;rw[pX hx] at y2;refine x6 ?_;exact g_ (d,p,y,o) ⟨⟨by show k<=d.length;omega,y2⟩,y1,by show y.length+k<=_;omega,k8⟩ (fun w s=>(tk (C:=[_,_,_,_,_])).hp s)
   rintro V p' x2 o' ⟨b9,w4,w5,w7⟩;refine u6 ?_;refine f_ ((E7 rfl rfl qb).eq (v':=.int .i64 ((k:Int)-1)) (by congr 1;omega)) ?_;refine u6 ?_;exact l8 (i:=(k+1,d,p,y,o,())) (k,V,p',x2,o',()) ⟨fun _=>b9,qx,w4,w5,w7⟩ qg sub i_
 rintro d p y o ⟨he,y1,c8,k8⟩;rw[he] at x0;replace x0:aa v b.x f cond=(HY v ((d.map (Y5 b.x)).map (·.1)++uE b.ls (M7 d)),y.map Prod.fst++(if uE b.ls (M7 d)=[] then[] else[Qf (d.length+(uE b.ls (M7 d)).length)])++uF cond (d.map (Y5 b.x))):=x0;rw[x0];clear x0 he;obtain⟨z,v6⟩:=o9 (M7 d);refine al ?_;refine c_ rfl (wH (HY v d) p.1 p.2 (by show d.length<=_;omega)) (fun h hh ⟨bs,hb⟩=>A_.rd hb ud) rfl ?_;rw[<-v6];refine u6 ?_;refine I6 4 ?_;have x3:=MP b.ls z;refine n8 (ι:=AC) (fun _=>True) (fun _=>(12,r7 d.length)::Ib D M S cond y o) (fun p=>Qi D M S v b (d++uE b.ls z) p y o R) ?_ ?_
 ·refine o0 ?_;refine P7 (fun(j:Nat) (p:AC) (_:Unit)=>j<=b.ls.length) (fun j p _=>(12,r7 d.length)::(13,.int .u64 (z:Nat))::(83,.slice b.a b.ls.length b.c)::(84,r7 b.ls.length)::(85,r7 j)::Ib D M S cond y o) (fun j p _=>Qi D M S v b (d++uE (b.ls.take j) z) p y o R) (fun j _ _=>b.ls.length-j) 0 p () (zp _) sub (fun w s=>by rw[Km];show Hp F w (Qi D M S v b (d++[]) p y o R);rw[jk];exact(tk (C:=[_,_,_,_,_])).hp s) ?_;rintro j p _ hj;have d2:=x3 j;have x5:(d++uE (b.ls.take j) z).length<=200000:=by rw[zg];omega
  refine T2 ?_ ?_<;>intro h
  ·have Q:j<b.ls.length:=(by have:=zy h;omega);have O:=p8 y0 A8 qp Q;have e:=Ia b.ls z Q;refine u6 ?_;refine r_ (p9 rfl (fun w s=>T8 (y0.le s.keep) A8 qp Q x7) (A8 _)) ?_;refine i7 rfl ?_;intro w9;refine al ?_;refine n8 (ι:=AC) (fun _=>True) (fun _=>(12,r7 d.length)::(13,.int .u64 (z:Nat))::(83,.slice b.a b.ls.length b.c)::(84,r7 b.ls.length)::(85,r7 j)::Ib D M S cond y o) (fun p=>Qi D M S v b (d++uE (b.ls.take (j+1)) z) p y o R) ?_ ?_
   ·rw[e,<-ky];refine p7 rfl ?_ ?_<;>intro h
    ·have v7:z<b.ls[j].t.uid:=(by have:=zy h;omega);rw[zr v7];refine wk 7 ?_;refine D2 dL (b.ls[j].t.uid,b.ls[j].t.mod) rfl ?_;intro Pm _;refine u7 dL (l:=d++uE (b.ls.take j) z) (m:=[(b.ls[j].t.uid,b.ls[j].t.mod)]) B6 jS (by show((d++uE (b.ls.take j) z).length+1)*16<=_;omega) ?_;intro z0 z2 _;refine A5 ?_;exact g_ (z0,z2) trivial (fun w s=>D3 (A:=[l6 z0 ((d++uE (b.ls.take j) z)++[(b.ls[j].t.uid,b.ls[j].t.mod)]) z2,_,_,_,_]) (J:=[.own (.slice Pm 1 1) 72 2 _,.blk w9 _]) tk s)
    ·have v7:¬z<b.ls[j].t.uid:=(by have:=zu h;omega);rw[zb v7,jk];refine x6 ?_;exact g_ p trivial (fun w s=>D3 (A:=[_,_,_,_,_]) (J:=[.blk w9 _]) tk s)
   rintro U _;refine A5 ?_;exact l8 (i:=(j,p,())) (j+1,U,()) Q qg sub i_
  ·have Q:j=b.ls.length:=(by have:=zu h;omega);refine x6 ?_;exact g_ p trivial (fun w s=>by rw[Q,Qn] at s;exact s)
 rintro U _;have x3:=x3 b.ls.length;rw[Qn] at x3;obtain⟨T,c0⟩:=o9 (uE b.ls z);rw[<-c0] at x3⊢;obtain⟨n,hn⟩:=o9 (d.length+T.length);obtain⟨h0,q0⟩:=o9 (y.map Prod.fst++(if T=[] then[] else[Qf (d.length+T.length)]));rw[<-q0];refine x6 ?_;refine C5 (H':=OI D M S v b n (d++T) U y o R) (fun w s=>by rw[hn,<-zg];exact s) ?_;refine al ?_;refine lK (fun(h7:List RM) (o2:AC) (_ _:Unit)=>h7.map Prod.fst=h0/\KP h7/\h7.length<=v.a6x.length+1) (fun h7 o2 _ _=>(12,r7 d.length)::Ib D M S cond h7 o2) (fun h7 o2 _ _=>OI D M S v b n (d++T) U h7 o2 R) ?_ ?_
 ·refine p7 rfl ?_ ?_<;>intro h
  ·have v8:T≠[]:=(by rintro rfl;have:=zy h;simp at hn;omega);refine P1 ?_;refine f_ ((A3 rfl qb).eq (v':=.int .u64 (n:Nat)) rfl) ?_;refine f_ (A2 (ps:=[(0,.const (.int .i64 8)),(4,.tmp 113)]) (vs:=[(0,.int .i64 8),(4,.int .u64 (n:Nat))]) (cells:=(tM (Qf n) L0).toArray) rfl i6) ?_;refine D2 wm (Qf n,L0) rfl ?_;intro c9 _;refine u7 wm (l:=y) (m:=[(Qf n,L0)]) aB jT (by show(y.length+1)*160<=_;omega) ?_;intro u0 u1 _;refine u6 ?_;refine g_ (y++[(Qf n,L0)],(u0,u1),(),()) ⟨?_,k8.app rfl rfl rfl,by simp only[zg,z1,kx];omega⟩ (fun w s=>D3 (A:=[_,x4 u0 (y++[(Qf n,L0)]) u1,_,_,_]) (J:=[_]) tk s);rw[q0,zb v8,Qx,hn];rfl
  ·have he:T=[]:=by
    have:=zu h;have h5:T.length=0:=(by omega);exact js h5
   refine x6 ?_;refine g_ (y,o,(),()) ⟨?_,k8,by show y.length<=_;omega⟩ i_;rw[q0,zr he,jk]
 rintro h7 o2 _ _ ⟨c1,c3,c4⟩;refine x6 ?_;refine B7 (a:=U.1) (n:=n) (c:=U.2) (sz:=2) (xs:=S_ (d++T)) (te:=72) ud fun _ v3 O=>?_;refine E8 ?_;refine f_ ((C0 (n:=n) rfl rfl rfl (by have:=hn;omega)).eq (v':=.slice U.1 d.length U.2) (by simp[ez])) ?_;refine I6 2 ?_;have h8:∀r∈d.map (Y5 b.x),True:=fun _ _=>trivial;have a0:(d.map (Y5 b.x)).length=d.length:=kg _;refine V7 (fun(F3:l9) (g:List RM) (X:AC) (_:Unit)=>F.le F3/\g.map Prod.fst=h0++uF cond (d.map (Y5 b.x))/\∀m∈g,fQ m.1 m.2 F3.heap/\zD m.2) (fun _ g X _=>Ib D M S cond g X) (fun F3 _ _ _=>F3) (fun _ g X _=>OI D M S v b n (pY b.x d T d.length) U g X R) ?_ ?_
 ·refine o0 ?_;refine HW (fun(j:Nat) (F2:l9) (g:List RM) (X:AC) (_ _:Unit)=>j<=d.length/\F.le F2/\g.map Prod.fst=h0++uF cond ((d.map (Y5 b.x)).take j)/\(∀m∈g,fQ m.1 m.2 F2.heap/\zD m.2)/\g.length<=v.a6x.length+1+j) (fun j _ g X _ _=>(120,.slice U.1 d.length U.2)::(121,r7 d.length)::(122,r7 j)::Ib D M S cond g X) (fun _ F2 _ _ _ _=>F2) (fun j _ g X _ _=>OI D M S v b n (pY b.x d T j) U g X R) (fun j _ _ _ _ _=>d.length-j) 0 F h7 o2 () () ⟨zp _,l9.le_refl _,by rw[Km,c1];simp[uF],c3.rd _,c4⟩ sub rfl i_ ?_;rintro j F2 g X _ _ ⟨hj,q8,q3,Y,d3⟩;have d4:=uG b.x d T hj;refine T2 ?_ ?_<;>intro h
  ·have Q:j<d.length:=(by have:=zy h;omega);have a1:j<(pY b.x d T j).length:=(by omega);have O:=O qb;have q5:=y0.le q8.heap;have a6:=Ic b.x d T Q;have y3:=El cond (d.map (Y5 b.x)) (by rw[a0];exact Q);rw[Wj] at y3;refine I6 0 ?_;refine V7 (fun(F3:l9) (k0:List RM) (o4:AC) (_:Unit)=>F2.le F3/\k0.map Prod.fst=h0++uF cond ((d.map (Y5 b.x)).take (j+1))/\(∀m∈k0,fQ m.1 m.2 F3.heap/\zD m.2)/\k0.length<=v.a6x.length+1+(j+1)) (fun _ k0 o4 _=>(120,.slice U.1 d.length U.2)::(121,r7 d.length)::(122,r7 j)::Ib D M S cond k0 o4) (fun F3 _ _ _=>F3) (fun _ k0 o4 _=>OI D M S v b n (pY b.x d T (j+1)) U k0 o4 R) ?_ ?_
   ·refine o0 ?_;refine A5 ?_;refine r_ ((p9 rfl (fun w s=>bK (s.ownN (t:=72) ud).2.2.1 B6 qp a1 x7) (B6 _)).eq (v':=.agg (dL d[j]).toArray) (by rw[a6])) ?_;refine i7 rfl ?_;intro q9;refine al ?_;refine c_ rfl (Bz b d[j].1 qb) (fun h hh _=>q5.le hh) rfl ?_;refine u6 ?_;by_cases hlet:yY b.ls d[j].1<0
    ·have h8:Y5 b.x d[j]=(d[j],none):=(by unfold Y5;rw[wY hlet]);refine x6 ?_;refine D8 [4,8,10] [] [BP M b,.blk q9 (.cells (dL d[j]).toArray 72)] 13 ?_;refine wd [0] ?_;refine w_ 1 rfl ((F8 rfl rfl).eq (v':=.bool true) (qn (ju hlet))) ?_;refine wd [2,3,4,5,6,7,8,9,10,11,12] ?_;refine y7 (F2,g,X,()) ⟨l9.le_refl _,?_,Y,by show g.length<=_;omega⟩ rfl (fun w s=>?_)
     ·rw[y3,h8,<-ky,<-q3];simp
     ·show Hp F2 w (OI D M S v b n (pY b.x d T (j+1)) U g X R);rw[xa b.x d T Q (by rw[h8])];exact D3 (A:=[_,_,_,_,_]) (J:=[.blk q9 _]) tk s
    obtain⟨i,hi,hr,hx⟩:=wZ hlet;have b5:=p8 q5 A8 qp hi;obtain⟨q,hq⟩:=o9 (decide (b.ls[i].t.mod=d[j].2));rw[hr];refine x6 ?_;refine D8 [4,8,10] [] [BP M b,.blk q9 (.cells (dL d[j]).toArray 72)] 13 ?_;refine wd [0] ?_;refine w_ 1 rfl ((F8 rfl rfl).eq (v':=.bool false) (qn qj)) ?_;refine wd [2,3,4,5,6,7] ?_;(first|refine s_ 8 ?_|refine t_ 8 ?_|refine iE 8 rfl (l5 rfl (fun w s=>cT (j:=2) (q5.le s.keep) A8 hi rfl x7)) G3 rfl rfl rfl rfl rfl rfl i6 ?_);refine wd [9,10] ?_;(first|refine s_ 11 ?_|refine t_ 11 ?_|refine G4 11 rfl ((q_ rfl rfl).eq (v':=.bool q) (qn ((kz.2 Jn).trans hq.symm))) rfl rfl rfl rfl rfl rfl i6 ?_);refine wd [12] ?_
    cases q
    ·have v8:¬b.ls[i].t.mod=d[j].2:=zu hq.symm;have h8:Y5 b.x d[j]=((d[j].1,b.ls[i].t.mod),some b.ls[i].t):=(by unfold Y5;rw[hx];exact zb v8);have d0:=b6 _ (zm hi);have c5:n9 F2.heap b.ls[i].a (fV b.ls[i].t.a6J):=(v9.fl _ (zm hi)).le q8.heap;refine P1 ?_;refine r_ (p9 rfl (fun w s=>bK (q5.le s.keep) A8 qp hi x7) (A8 _)) ?_;refine i7 rfl ?_;intro a7;refine wk 8 ?_;refine A6 (C:=dL) (l:=pY b.x d T j) ((pY b.x d T j)[j].1,b.ls[i].t.mod) B6 (i:=j) a1 (j:=1) rfl ?_;refine x6 ?_;rw[show((pY b.x d T j)[j].1,b.ls[i].t.mod)=(Y5 b.x d[j]).1 from by rw[a6,h8],BQ b.x d T Q];refine A5 ?_;refine e_ (ab b.ls[i].t.a6J b.ls[i].a b.ls[i].c qb) (fun h hh _=>c5.le hh) ?_;rintro x A ⟨fa,fc,rfl,rfl⟩;refine f_ (A2 (ps:=[(0,.const (.int .i64 6)),(2,.tmp 158)]) (vs:=[(0,.int .i64 6),(2,.slice fa b.ls[i].t.a6J.length fc)]) (cells:=(vV (RO b.ls[i].t.a6J fa fc)).toArray) rfl i6) ?_;refine D2 vV (RO b.ls[i].t.a6J fa fc) rfl ?_;intro a8 _;refine A5 ?_;refine lK (fun(vl:List VM) (u:AC) (_ _:Unit)=>vl=RO b.ls[i].t.a6J fa fc::(if cond then[TA b.ls[i].t.mod] else[])) (fun vl u _ _=>(16,r7 j)::(20,.slice u.1 vl.length u.2)::(120,.slice U.1 d.length U.2)::(121,r7 d.length)::(122,r7 j)::Ib D M S cond g X) (fun vl u _ _=>.own (.slice u.1 vl.length u.2) 110 6 (Pz vl)::B0 fa b.ls[i].t.a6J fc::OI D M S v b n (pY b.x d T (j+1)) U g X R) ?_ ?_
     ·cases cond
      ·refine x6 ?_;exact g_ ([RO b.ls[i].t.a6J fa fc],(a8,1),(),()) rfl (fun w s=>D3 (A:=[_,_,_,_,_,_,_]) (J:=[.blk a7 _,.blk q9 _]) tk s)
      ·refine E8 ?_;refine f_ (A2 (ps:=[(0,.const (.int .i64 9)),(1,.tmp 164)]) (vs:=[(0,.int .i64 9),(1,.int .u64 (b.ls[i].t.mod:Nat))]) (cells:=(vV (TA b.ls[i].t.mod)).toArray) rfl i6) ?_;refine D2 vV (TA b.ls[i].t.mod) rfl ?_;intro b0 _;refine u7 vV (l:=[RO b.ls[i].t.a6J fa fc]) (m:=[TA b.ls[i].t.mod]) ny nz (by show 2*_<=_;decide) ?_;intro u2 u8 _;refine u6 ?_;exact g_ ([RO b.ls[i].t.a6J fa fc,TA b.ls[i].t.mod],(u2,u8),(),()) rfl (fun w s=>D3 (A:=[.own (.slice u2 _ u8) _ 6 _,_,_,_,_,_,_]) (J:=[.own (.slice b0 _ 1) _ 6 _,.blk a7 _,.blk q9 _]) tk s)
     rintro vl u _ _ b1;obtain⟨x9,d5⟩:=o9 (α:=RL) (⟨none,0,none,0,u.1,u.2,vl⟩);refine A5 ?_;refine f_ ((r8 rfl rfl qb).eq (v':=.int .i64 ((j+1:Nat):Int)) (by congr 1)) ?_;refine A5 ?_;refine f_ ((A2 (ps:=[(0,.const (.int .i64 14)),(4,.tmp 171),(9,.tmp 172)]) (vs:=[(0,.int .i64 14),(4,.int .u64 ((j+1:Nat):Int)),(9,.slice u.1 vl.length u.2)]) (cells:=(tM (tR b.ls[i].t (j+1) cond) ⟨none,0,none,0,u.1,u.2,vl⟩).toArray) rfl i6)) ?_;refine D2 wm (tR b.ls[i].t (j+1) cond,⟨none,0,none,0,u.1,u.2,vl⟩) rfl ?_;intro b2 _;refine u7 wm (l:=g) (m:=[(tR b.ls[i].t (j+1) cond,⟨none,0,none,0,u.1,u.2,vl⟩)]) aB jT (by show(g.length+1)*160<=_;omega) ?_;intro v0 v1 _;refine u6 ?_;refine kL (Z:=[.own (.slice u.1 vl.length u.2) 110 6 (Pz vl),B0 fa b.ls[i].t.a6J fc]) tk fun F3 v2 ⟨bs,b3⟩=>?_;have b4:fQ (tR b.ls[i].t (j+1) cond) ⟨none,0,none,0,u.1,u.2,vl⟩ F3.heap:=by
      refine⟨?_,n9.nil _ _,n9.nil _ _,A_.rd b3 ud,fun m hm=>?_⟩
      ·rw[b1];cases cond<;>rfl
      ·rw[b1] at hm;rcases jv.1 hm with rfl|hm
       ·exact A_.rd b3 ud
       ·cases cond
        ·cases hm
        ·rw[z7.1 hm];exact n9.nil _ _
     refine y7 (F3,g++[(tR b.ls[i].t (j+1) cond,⟨none,0,none,0,u.1,u.2,vl⟩)],(v0,v1),()) ⟨v2,?_,fun m hm=>?_,by simp only[zg,z1,kx];omega⟩ rfl (fun w s=>D3 (A:=[_,x4 v0 _ v1,_,_,_]) (J:=[x4 b2 _ 1]) tk s)
     ·rw[y3,h8,<-ky,<-q3,Qx];rfl
     ·rcases kw.1 hm with h5|h5
      ·exact⟨(Y m h5).1.le v2.heap,(Y m h5).2⟩
      ·rw[z7.1 h5];exact⟨b4,rfl,rfl⟩
    ·have c6:b.ls[i].t.mod=d[j].2:=zy hq.symm;have h8:Y5 b.x d[j]=(d[j],none):=(by unfold Y5;rw[hx];exact zr c6);refine x6 ?_;refine y7 (F2,g,X,()) ⟨l9.le_refl _,?_,Y,by show g.length<=_;omega⟩ rfl (fun w s=>?_)
     ·rw[y3,h8,<-ky,<-q3];simp
     ·show Hp F2 w (OI D M S v b n (pY b.x d T (j+1)) U g X R);rw[xa b.x d T Q (by rw[h8])];exact D3 (A:=[_,_,_,_,_]) (J:=[.blk q9 _]) tk s
   rintro F3 k0 o4 _ ⟨h1,h2,h3,h4⟩;refine A5 ?_;exact Q_ (i:=(j,F2,g,X,(),())) (j+1,F3,k0,o4,(),()) ⟨Q,q8.trans h1,h2,h3,h4⟩ qg sub rfl i_
  ·have Q:j=d.length:=(by have:=zu h;omega);refine x6 ?_;refine y7 (F2,g,X,()) ⟨q8,?_,Y⟩ rfl (fun w s=>by rw[Q] at s;exact s);rw[Q,<-a0,Qn] at q3;exact q3
 rintro F3 g X _ ⟨q8,q3,Y⟩;have q4:pY b.x d T d.length=(d.map (Y5 b.x)).map (·.1)++T:=by unfold pY;rw[jm x7,Ww,Qv]
 have x5:n=((d.map (Y5 b.x)).map (·.1)++T).length:=by simp[hn]
 rw[q4];refine KH ?_;refine I4 (A:=[l6 U.1 ((d.map (Y5 b.x)).map (·.1)++T) U.2,x4 X.1 g X.2]) (v:=.tuple #[yW (HY v ((d.map (Y5 b.x)).map (·.1)++T)) U.1 U.2,.slice X.1 g.length X.2]) q8 ⟨U,g,X,rfl,rfl,q3,Y⟩ ?_;have ev:yW (HY v ((d.map (Y5 b.x)).map (·.1)++T)) U.1 U.2=.agg #[B v.box,.int .u64 (v.val:Nat),.slice U.1 n U.2]:=by rw[x5]
 rw[ev];exact D_ rfl rfl rfl ud rfl _ qh (fun w s=>by unfold l6;rw[<-x5];exact D3 (A:=[_,_]) (J:=[_,_,_]) tk s)
