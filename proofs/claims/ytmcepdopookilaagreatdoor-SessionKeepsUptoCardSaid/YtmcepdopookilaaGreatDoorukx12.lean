import Derived.Test.YtmcepdopookilaaGreatDoorukx11
set_option maxHeartbeats 16000000
set_option maxRecDepth 8000
set_option linter.unusedVariables false
set_option linter.unusedSimpArgs false
set_option linter.defProp false
namespace Go.Proofs.YtmcepdopookilaaGreatDoor.Rp
open Go Go.Sl Go.RowKit Go.Proofs.Tryz
def Bx(g a k:Nat):Pu prog 267 [.int .u64 (k:Nat),i8 g] (aY g (.int .u64 (a:Nat)) 27) (.int .u64 (R_ a k:Nat)):=by
 refine b_ 8 func267 rfl rfl rfl ?_;intro F d;obtain⟨q,b⟩:=o9 (decide (k=0));refine A5 ?_;refine f_ ((q_ rfl rfl).eq (v':=.bool q) (qn ((qz).trans b.symm))) ?_;refine x6 ?_
 cases q
 ·have c:k≠0:=zu b.symm;refine M4 ?_;exact d_ rfl rfl [] ⟨by unfold R_;rw[zb c],rfl⟩ i_
 ·have c:k=0:=zy b.symm;refine M4 ?_;exact d_ rfl rfl [] ⟨by unfold R_;rw[zr c];rfl,rfl⟩ i_
abbrev yV(g7 g5 g4 most n:Nat)(h:l_):Prop:=aY g7 (.func (.func 267) #[] #[i8 g4]) 307 h/\aY g5 (.int .u64 (n:Nat)) 27 h/\aY g4 (.int .u64 (most:Nat)) 27 h
def Me(f g g4 c n:Nat)(x:Nat×Nat):Pu prog 269 [.agg (dL x).toArray,i8 f,i8 g] (yV f g g4 c n) (.bool (decide (min (R_ c x.1) (R_ c x.2)<=n/\n<=max (R_ c x.1) (R_ c x.2)))):=by
 obtain⟨a,ha⟩:=o9 (R_ c x.1);obtain⟨b,i⟩:=o9 (R_ c x.2);obtain⟨l,j⟩:=o9 (decide (min a b<=n));obtain⟨r,k⟩:=o9 (decide (n<=max a b));rw[<-ha,<-i,Bool.decide_and,<-j,<-k];refine b_ 27 func269 rfl rfl rfl ?_;rintro F ⟨m,o,d⟩;refine D1 ?_;refine m8 rfl rfl ?_;intro p;refine u6 ?_;refine D8 [0,2,4,6] [3,7] [.blk p (.cells (dL x).toArray 178)] 10 ?_;refine wd [0,1,2,4,5,6] ?_;refine h_ 3 rfl i6 ?_;refine A4 (ps:=[]) _ rfl rfl rfl (Bx g4 c x.1) i_ (fun h e _=>e _ _ d) rfl ?_;rintro v A ⟨rfl,rfl⟩;rw[<-ha];refine V2 ?_;refine h_ 7 rfl i6 ?_;refine A4 (ps:=[]) _ rfl rfl rfl (Bx g4 c x.2) i_ (fun h e _=>e _ _ d) rfl ?_;rintro v A ⟨rfl,rfl⟩;rw[<-i];refine D7 [8,9] ?_
 cases l
 all_goals (
  refine P1 ?_;refine f_ ((H4 rfl rfl).eq (qn ((qz).trans j.symm))) ?_;refine al ?_;(first|refine u_ ?_|(refine v_ ?_;refine f_ ((H4 rfl rfl).eq (qn ((qz).trans k.symm))) ?_));refine A5 ?_)
 all_goals (refine B4 ?_;exact d_ rfl rfl [] qh (fun w q=>q.dropAll))
def lF(l:List (Nat×Nat))(a:qr)(c b n:Nat)(hl:l.length<=1000000):Pu prog 196 [.slice a l.length c,.int .u64 (b:Nat),.int .u64 (n:Nat)] (fun h=>n9 h a (S_ l)) (.bool (ii l b n)):=by
 refine b_ 12 func196 rfl rfl rfl ?_;intro F j;refine D1 ?_;refine M1 rfl rfl rfl ?_;intro d;refine M1 rfl rfl rfl ?_;intro e;refine A5 ?_;refine cA rfl rfl ?_;intro f;refine u6 ?_;refine C6 (Z:=[.blk f (.cells #[.func (.func 267) #[] #[i8 d]] 307),.blk e (.cells #[.int .u64 (n:Nat)] 27),.blk d (.cells #[.int .u64 (b:Nat)] 27)]) tk fun m g k=>?_;have hp:yV f e d b n m.heap:=⟨L6 k,L6 k,L6 k⟩;refine A5 ?_;refine c_ rfl (bF dL B6 l a c 269 [i8 f,i8 e] (yV f e d b n) _ (fun x _=>Me f e d b n x) qb) (fun h i _=>⟨(j.le g.heap).le i,i _ _ hp.1,i _ _ hp.2.1,i _ _ hp.2.2⟩) rfl ?_;refine D0 ?_;exact E0 g (d_ rfl rfl [] qh (fun w o=>o.dropAll))
abbrev wF(b g2 g5 most:Nat)(m:MM)(r:RQ)(q:QL)(o:OC)(y:OL)(h:l_):Prop:=aY g2 (i8 b) 132 h/\aY g5 (.int .u64 (most:Nat)) 27 h/\h b=some (.cells (OD m r q o y).toArray 136 (0,0))/\n9 h q.ua (S_ r.a6A)
def lG(b d e a:Nat)(m:MM)(r:RQ)(q:QL)(o:OC)(y:OL)(f:r.a6A.length<=1000000)(x:LM):Pu prog 195 [.agg (R7 x).toArray,i8 d,i8 e] (wF b d e a m r q o y) (.bool (ii r.a6A a x.t.uid)):=by
 refine b_ 14 func195 rfl rfl rfl ?_;rintro F ⟨g,i,j,c⟩;refine D1 ?_;refine m8 rfl rfl ?_;intro k;refine u6 ?_;refine D8 [0,4,5,7] [8] [.blk k (.cells (R7 x).toArray 156)] 10 ?_;refine wd [0,1,2,3,4,5,6,7] ?_;refine h_ 8 rfl i6 ?_;refine c_ rfl (lF r.a6A q.ua q.uc a x.t.uid f) (fun h l _=>c.le l) rfl ?_;refine D7 [9] ?_;refine B4 ?_;exact d_ rfl rfl [] qh (fun w n=>n.dropAll)
abbrev yW(v:VW)(a:qr)(c:Nat):Value:=.agg (wl v a c).toArray
def Mf(g u:Nat)(r:Nat×Nat):Pu prog 397 [.agg (dL r).toArray,i8 g] (aY g (.int .u64 (u:Nat)) 27) (.bool (decide (r.1=u))):=by
 refine b_ 8 func397 rfl rfl rfl ?_;intro F a;refine D1 ?_;refine m8 rfl rfl ?_;intro c;refine P1 ?_;refine f_ ((q_ rfl rfl).eq (dN r.1 u)) ?_;refine D0 ?_;exact d_ rfl rfl [] qh (fun w b=>b.dropAll)
abbrev lH(a6x:List (Nat×Nat))(u:Nat):Int:=D9 (fun r:Nat×Nat=>decide (r.1=u)) a6x
def yX(v:VW)(a:qr)(c u:Nat)(hl:v.a6x.length<=1000000):Pu prog 351 [yW v a c,.int .u64 (u:Nat)] (fun h=>n9 h a (S_ v.a6x)) (.int .i64 (lH v.a6x u)):=by
 refine b_ 9 func351 rfl rfl rfl ?_;intro F e;refine D1 ?_;refine m8 rfl rfl ?_;intro k;refine M1 rfl rfl rfl ?_;intro b;refine u6 ?_;refine C6 (Z:=[.blk b (.cells #[.int .u64 (u:Nat)] 27)]) tk fun g d i=>?_;have hp:aY b (.int .u64 (u:Nat)) 27 g.heap:=L6 i;refine E8 ?_;refine c_ rfl (mX dL B6 v.a6x a c 397 [i8 b] (aY b (.int .u64 (u:Nat)) 27) (fun r=>decide (r.1=u)) (fun r _=>Mf b u r) qb) (fun h f _=>⟨(e.le d.heap).le f,f _ _ hp⟩) rfl ?_;refine D0 ?_;exact E0 d (d_ rfl rfl [] qh (fun w j=>j.dropAll))
def Mg(v:VW)(u:Nat):lH v.a6x u+1=(cW v u:Nat):=by
 unfold lH D9 cW tQ
 cases h:v.a6x.findIdx? fun r=>decide (r.1=u) with
 |none=>rfl
 |some i=>simp[Option.elim]
def Hl(v:VW)(a:qr)(c u:Nat)(hl:v.a6x.length<=1000000):Pu prog 307 [yW v a c,.int .u64 (u:Nat)] (fun h=>n9 h a (S_ v.a6x)) (.int .i64 (cW v u:Nat)):=by
 refine b_ 9 func307 rfl rfl rfl ?_;intro F d;have b:=dv (fun r:Nat×Nat=>decide (r.1=u)) v.a6x;refine D1 ?_;refine m8 rfl rfl ?_;intro g;refine E8 ?_;refine c_ rfl (yX v a c u hl) (fun h e _=>d.le e) rfl ?_;refine f_ ((r8 rfl rfl (by have i: -1<=lH v.a6x u:=b.1;have j:lH v.a6x u<v.a6x.length:=b.2;omega)).eq (jh (Value.int .i64) (Mg v u))) ?_;refine D0 ?_;exact d_ rfl rfl [] qh (fun w f=>f.dropAll)
def wG{l:List (Nat×Nat)}{j:Nat}(a:j<l.length):M7 (l.take (j+1))=max (M7 (l.take j)) l[j].1:=by
 unfold M7;rw[jy a,W7];rfl
def wH(v:VW)(a:qr)(c:Nat)(hl:v.a6x.length<=1000000):Pu prog 239 [yW v a c] (fun h=>n9 h a (S_ v.a6x)) (.int .u64 (M7 v.a6x:Nat)):=by
 refine b_ 19 func239 rfl rfl rfl ?_;intro F e;refine D1 ?_;refine m8 rfl rfl ?_;intro g;refine Y1 ?_;refine o8 (ι:=Nat) (fun j=>j<=v.a6x.length) (fun j=>[(3,.int .u64 (M7 (v.a6x.take j):Nat)),(7,.slice a v.a6x.length c),(8,r7 v.a6x.length),(9,r7 j)]) (fun _=>[]) (fun j=>v.a6x.length-j) 0 (zp _) sub (fun w d=>d.dropAll) ?_;intro j i;refine T2 ?_ ?_<;>intro h
 ·have b:j<v.a6x.length:=by have:=zy h;omega
  have f:=p8 e B6 qp b;refine u6 ?_;refine r_ (p9 rfl (fun w d=>T8 (e.le d.keep) B6 qp b x7) (B6 _)) ?_;refine i7 rfl ?_;intro k;refine P1 ?_;refine f_ ((ol rfl rfl).eq (v':=.int .u64 (M7 (v.a6x.take (j+1)):Nat)) (by rw[wG b];congr 1;omega)) ?_;refine E8 ?_;refine l8 (j+1) b qb sub (fun w d=>d.dropAll)
 ·have b:j=v.a6x.length:=by have:=zu h;omega
  subst b;refine M4 ?_;exact d_ rfl rfl [] ⟨by rw[Qn],rfl⟩ (fun w d=>d.dropAll)
def Ts(v:VW)(x:Value)(A:List As):Prop:=∃a c,x=yW v a c/\A=[l6 a v.a6x c]
def sv{v:VW}{u m:Nat}(h:lH v.a6x u<0):cD v u m=v:=by
 unfold cD tQ;unfold lH D9 at h
 cases e:v.a6x.findIdx? fun r=>decide (r.1=u) with
 |none=>rfl
 |some i=>rw[e] at h;simp only[Option.elim] at h;omega
def sx{v:VW}{u m:Nat}(h:¬lH v.a6x u<0):∃(i:Nat) (a:i<v.a6x.length),lH v.a6x u=(i:Nat)/\cD v u m={v with a6x:=v.a6x.set i (v.a6x[i].1,m)}:=by
 unfold cD tQ;unfold lH D9 at h⊢
 cases e:v.a6x.findIdx? fun r=>decide (r.1=u) with
 |none=>rw[e] at h;simp only[Option.elim] at h;omega
 |some i=>
  have a:=(jg.1 e).1;exact⟨i,a,rfl,by simp[List.getD,a]⟩
def By(v:VW)(a:qr)(c u m:Nat)(hl:v.a6x.length<=1000000):Ct prog 309 [yW v a c,.int .u64 (u:Nat),.int .u64 (m:Nat)] (fun h=>n9 h a (S_ v.a6x)) [] (Ts (cD v u m)):=by
 refine b_ 24 func309 rfl rfl rfl ?_;intro F k;refine D1 ?_;refine m8 rfl rfl ?_;intro l;refine i7 rfl ?_;intro o;refine A5 ?_;refine e_ (fY (S_ v.a6x) a v.a6x.length c (cd _) (eY _) qb) (fun h p _=>k.le p) ?_;rintro x A ⟨d,e,rfl,rfl⟩;refine P1 ?_;refine c_ rfl (yX v d e u hl) (fun h p ⟨z,g⟩=>A_.rd g ud) rfl ?_;refine E8 ?_;refine x8 [(3,i8 l),(6,i8 o)] [.blk l (.cells (wl v d e).toArray 30),.blk o (.cells (wl AT none 0).toArray 30),l6 d (cD v u m).a6x e] ?_ ?_
 ·refine p7 rfl ?_ ?_<;>intro h
  ·have q:¬lH v.a6x u<0:=(by have:=zy h;omega);obtain⟨i,r,s,t⟩:=sx (m:=m) q;rw[t,s];refine B7 (a:=d) (n:=v.a6x.length) (c:=e) (sz:=2) (xs:=S_ v.a6x) (te:=72) ud fun _ _ b=>?_;have b:=b qb;refine Y1 ?_;refine A6 (C:=dL) (v.a6x[i].1,m) B6 r (j:=1) rfl ?_;refine x6 ?_;exact p_ sub (fun w f=>by show Hp F w [_,_,l6 d (v.a6x.set i (v.a6x[i].1,m)) e];unfold l6;rw[Qw];exact y9.left tk f)
  ·rw[sv (qu h)];refine x6 ?_;exact p_ sub (fun w f=>y9.left tk f)
 have y:v.a6x.length=(cD v u m).a6x.length:=by unfold cD;split<;>simp
 have g:(cD v u m).box=v.box/\(cD v u m).val=v.val:=by unfold cD;split<;>exact qh
 refine M4 ?_;exact H7 rfl rfl ud rfl _ ⟨d,e,by rw[show yW (cD v u m) d e=yW v d e from by unfold yW wl;rw[g.1,g.2,<-y]],rfl⟩ (fun w f=>f.drop.drop)
def Mh(b:BM)(hl:b.ls.length<=1000000):Ct prog 301 [KL b] (fun h=>n9 h b.a (qW b.ls)) [] (Ts (R4 b.x)):=by
 refine b_ 30 func301 rfl rfl rfl ?_;intro F d;refine D1 ?_;refine m8 rfl rfl ?_;intro r;refine i7 rfl ?_;intro g;refine P1 ?_;refine f_ (A2 (ps:=[(0,.tmp 7),(1,.tmp 9)]) (vs:=[(0,B b.name),(1,.int .u64 (b.val:Nat))]) (cells:=(wl ⟨b.name,b.val,[]⟩ none 0).toArray) rfl i6) ?_;refine i7 rfl ?_;intro i;refine al ?_;refine o8 (ι:=Nat×qr×Nat) (fun j=>j.1<=b.ls.length) (fun j=>[(2,i8 g),(3,i8 i),(12,.slice b.a b.ls.length b.c),(13,r7 b.ls.length),(14,r7 j.1)])
  (fun j=>[l6 j.2.1 ((b.ls.take j.1).map fun x=>(x.t.uid,x.t.mod)) j.2.2,.blk i (.cells (wl ⟨b.name,b.val,(b.ls.take j.1).map fun x=>(x.t.uid,x.t.mod)⟩ j.2.1 j.2.2).toArray 30),.blk g (.cells (wl AT none 0).toArray 30)]) (fun j=>b.ls.length-j.1) (0,none,0) (zp _) sub (fun w c=>y9.left tk (c.addNil 72 2)) ?_
 rintro⟨j,a5,k⟩ n;simp only at n;refine T2 ?_ ?_<;>intro h
 ·have a:j<b.ls.length:=by have:=zy h;omega
  have f:=p8 d A8 qp a;have e:(b.ls.take (j+1)).map (fun x=>(x.t.uid,x.t.mod))=(b.ls.take j).map (fun x=>(x.t.uid,x.t.mod))++[(b.ls[j].t.uid,b.ls[j].t.mod)]:=by rw[jy a,Qx];rfl
  refine u6 ?_;refine r_ (p9 rfl (fun w c=>T8 (d.le c.keep) A8 qp a x7) (A8 _)) ?_;refine i7 rfl ?_;intro s;refine wk 8 ?_;refine D2 dL (b.ls[j].t.uid,b.ls[j].t.mod) rfl ?_;intro t o;refine u7 dL (l:=(b.ls.take j).map fun x=>(x.t.uid,x.t.mod)) (m:=[(b.ls[j].t.uid,b.ls[j].t.mod)]) B6 jS (by rw[kg,kr];show(min j b.ls.length+1)*16<=_;omega) (h63:=by simp only[kg,kr,z1,kx];omega) ?_;intro p q _;refine P1 ?_;refine l8 (j+1,p,q) a qg sub (fun w c=>?_);simp only;rw[e];exact y9.left tk c
 ·have a:j=b.ls.length:=by have:=zu h;omega
  subst a;refine M4 ?_;have e:R4 b.x=⟨b.name,b.val,(b.ls.take b.ls.length).map fun x=>(x.t.uid,x.t.mod)⟩:=by rw[Qn];unfold R4;simp[J4]
  rw[e];exact H7 rfl rfl ud rfl _ ⟨a5,k,rfl,rfl⟩ (fun w c=>y9.left tk c)
def Hm(g u:Nat)(x:LM):Pu prog 312 [.agg (R7 x).toArray,i8 g] (aY g (.int .u64 (u:Nat)) 27) (.bool (decide (x.t.uid=u))):=by
 refine b_ 8 func312 rfl rfl rfl ?_;intro F a;refine D1 ?_;refine m8 rfl rfl ?_;intro c;refine P1 ?_;refine f_ ((q_ rfl rfl).eq (dN x.t.uid u)) ?_;refine D0 ?_;exact d_ rfl rfl [] qh (fun w b=>b.dropAll)
abbrev yY(l:List LM)(u:Nat):Int:=D9 (fun x:LM=>decide (x.t.uid=u)) l
def Bz(b:BM)(u:Nat)(hl:b.ls.length<=1000000):Pu prog 238 [KL b,.int .u64 (u:Nat)] (fun h=>n9 h b.a (qW b.ls)) (.int .i64 (yY b.ls u)):=by
 refine b_ 9 func238 rfl rfl rfl ?_;intro F d;refine D1 ?_;refine m8 rfl rfl ?_;intro j;refine M1 rfl rfl rfl ?_;intro a;refine u6 ?_;refine C6 (Z:=[.blk a (.cells #[.int .u64 (u:Nat)] 27)]) tk fun f c g=>?_;have hp:aY a (.int .u64 (u:Nat)) 27 f.heap:=L6 g;refine E8 ?_;refine c_ rfl (Y6 R7 A8 b.ls b.a b.c 312 [i8 a] (aY a (.int .u64 (u:Nat)) 27) (fun x=>decide (x.t.uid=u)) (fun x _=>Hm a u x) qb) (fun h e _=>⟨(d.le c.heap).le e,e _ _ hp⟩) rfl ?_;refine D0 ?_;exact E0 c (d_ rfl rfl [] qh (fun w i=>i.dropAll))
end Go.Proofs.YtmcepdopookilaaGreatDoor.Rp
namespace Go.Sl
open Go Go.RowKit Go.Proofs.YtmcepdopookilaaGreatDoor.Rp Go.Proofs.Tryz
section
variable{P:zj}{N:Nat}{K R:A1}{E:List (Nat×A1)}{L:G9}{F:l9}{H:List As}{ops:Array Oper}{rest:List Oper}{ty:zk}{pos:String}{af:Array Edge}{t:zk}
def gN{n d:Nat}{x:zw}{z:Value}[hu:HU P t (.slice 27)][hz:HZ P 27 z][hs:HS P 27 1](h:∀a,GL P N ops rest K E R ((d,.slice a 1 1)::L) F (V4 a [n] 1::H))(hx:ev L x=some (.int .u64 (n:Nat)):=by rfl)(b:Nat.blt d N=true:=by rfl):
  GL P N ops (⟨some d,.buildSlice t 1 #[(0,x)],ty,pos,af,none⟩::rest) K E R L F H:=
 D2 (C:=fun n:Nat=>[.int .u64 (n:Nat)]) n rfl (fun a _=>h a) hx rfl rfl rfl b
def kG{l m:zz}{d:Nat}{s x:zw}{a b:qr}{c n:Nat}{H':qr->Nat->List As}{z:Value}{i:TypeInfo}[hu:HU P t (.slice 27)][hz:HZ P 27 z][hi:HI P 27 i][hs:HS P 27 1](o:(l.length+m.length)*i.bytes<=140737488355328)(h:∀e f,GL P N ops rest K E R ((d,.slice e (l++m).length f)::L) F (H' e f))(g:ev L s=some (.slice a l.length c):=by rfl)(j:ev L x=some (.slice b m.length n):=by rfl)(u:∀e f,N1 H (V4 a l c) [V4 e (l++m) f] (H' e f):=by exact fun _ _=>uh)(hsrc:∀w,Hp F w H->KX (hp w) b (nV m):=by exact fun w p=>(p.ownN ud).2.2.1)(k:z.cells.size=1:=by rfl)(hl:l.length+m.length<=9223372036854775807:=by(first|omega|(simp only[z1,kx];omega)))(q:Nat.blt d N=true:=by rfl):
  GL P N ops (⟨some d,.call ⟨.builtin .append,#[s,x],#[t,t]⟩,ty,pos,af,none⟩::rest) K E R L F H:=
 C4 (news:=nV m) (m:=m.length) g j (H':=H') (fun e f=>by have:=u e f;unfold V4 at this;rw[zg,aQ] at this;exact this) hsrc (by rw[tL,Z0]) rfl k (iJ _) o hl q fun e f _=>by
  have:=h e f;rw[zg] at this;exact this
end
end Go.Sl
namespace Go.Proofs.YtmcepdopookilaaGreatDoor.Rp
open Go Go.Sl Go.RowKit Go.Proofs.Tryz
def pC(g n k:Nat):Pu prog 349 [.int .u64 (k:Nat),i8 g] (aY g (.int .u64 (n:Nat)) 27) (.int .u64 (R_ n k:Nat)):=by
 refine b_ 8 func349 rfl rfl rfl ?_;intro F c;obtain⟨q,a⟩:=o9 (decide (k=0));refine A5 ?_;refine f_ ((q_ rfl rfl).eq (v':=.bool q) (qn ((qz).trans a.symm))) ?_;refine x6 ?_
 cases q
 ·have b:k≠0:=zu a.symm;refine M4 ?_;exact d_ rfl rfl [] ⟨by unfold R_;rw[zb b],rfl⟩ i_
 ·have b:k=0:=zy a.symm;refine M4 ?_;exact d_ rfl rfl [] ⟨by unfold R_;rw[zr b];rfl,rfl⟩ i_
abbrev Hn(g9 g8 n:Nat)(h:l_):Prop:=aY g9 (.func (.func 349) #[] #[i8 g8]) 307 h/\aY g8 (.int .u64 (n:Nat)) 27 h
abbrev yZ(n:Nat)(x:Nat×Nat):Bool:=decide (min (R_ n x.1) (R_ n x.2)<1\/n<max (R_ n x.1) (R_ n x.2))
def ze(f d n:Nat)(x:Nat×Nat):Pu prog 350 [.agg (dL x).toArray,i8 f,i8 d] (Hn f d n) (.bool (yZ n x)):=by
 obtain⟨a,ha⟩:=o9 (R_ n x.1);obtain⟨b,g⟩:=o9 (R_ n x.2);obtain⟨k,i⟩:=o9 (decide (min a b<1));obtain⟨p,j⟩:=o9 (decide (n<max a b));rw[yZ,<-ha,<-g,Bool.decide_or,<-i,<-j];refine b_ 26 func350 rfl rfl rfl ?_;rintro F ⟨l,c⟩;refine D1 ?_;refine m8 rfl rfl ?_;intro m;refine u6 ?_;refine D8 [0,2,4,6] [3,7] [.blk m (.cells (dL x).toArray 178)] 10 ?_;refine wd [0,1,2,4,5,6] ?_;refine h_ 3 rfl i6 ?_;refine A4 (ps:=[]) _ rfl rfl rfl (pC d n x.1) i_ (fun h e _=>e _ _ c) rfl ?_;rintro v A ⟨rfl,rfl⟩;rw[<-ha];refine V2 ?_;refine h_ 7 rfl i6 ?_;refine A4 (ps:=[]) _ rfl rfl rfl (pC d n x.2) i_ (fun h e _=>e _ _ c) rfl ?_;rintro v A ⟨rfl,rfl⟩;rw[<-g];refine D7 [8,9] ?_
 cases k
 all_goals (
  refine E8 ?_;refine f_ ((F8 rfl rfl).eq (qn ((qz).trans i.symm))) ?_;refine al ?_;(first|refine u_ ?_|(refine v_ ?_;refine f_ ((E9 rfl rfl).eq (qn ((qz).trans j.symm))) ?_));refine A5 ?_)
 all_goals (refine B4 ?_;exact d_ rfl rfl [] qh (fun w o=>o.dropAll))
abbrev Mi(l a6x:List (Nat×Nat))(byUid:Bool)(x:(Nat×Nat)×Nat):Bool:=if byUid then ii l (M7 a6x) x.1.1 else ii l a6x.length (x.2+1)
abbrev iU(l a6x:List (Nat×Nat))(byUid:Bool)(j:Nat):zz:=((a6x.take j).zipIdx.filter (Mi l a6x byUid)).map fun x=>x.1.1
def DU(l b:List (Nat×Nat))(a:Bool){j:Nat}(c:j<b.length):iU l b a (j+1)=iU l b a j++if Mi l b a (b[j],j) then[b[j].1] else[]:=by
 unfold iU;rw[jy c,List.zipIdx_append,W1,Qx,kr,Jr (J5 c),j6];congr 1;rw[List.zipIdx_singleton,List.filter_cons];split<;>rfl
def Ho(l b:List (Nat×Nat))(a:Bool)(j:Nat):(iU l b a j).length<=b.length:=by
 unfold iU;rw[kg];refine j9 (Q9 _ _) ?_;rw[List.length_zipIdx,kr];omega
def a2i(e:Option (zz))(x:Value)(A:List As):Prop:=∃a c,x=.tuple #[.slice a (e.getD []).length c,.bool e.isSome]/\A=[V4 a (e.getD []) c]
def DV(v:VW)(a:qr)(c:Nat)(l:List (Nat×Nat))(p:qr)(s:Nat)(b:Bool)(hv:v.a6x.length<=1000000)(hl:l.length<=1000000):Ct prog 289 [yW v a c,.slice p l.length s,.bool b] (fun h=>n9 h a (S_ v.a6x)/\n9 h p (S_ l)) [] (a2i (Y4 v l b)):=by
 refine b_ 65 func289 rfl rfl rfl ?_;rintro F ⟨k,f⟩;refine D1 ?_;refine m8 rfl rfl ?_;intro z;refine Y1 ?_;refine cA rfl rfl ?_;intro r;refine A5 ?_;refine cA rfl rfl ?_;intro A;refine u6 ?_;refine C6 (Z:=[.blk A (.cells #[.func (.func 349) #[] #[i8 r]] 307),.blk r (.cells #[.int .u64 (v.a6x.length:Nat)] 27)]) tk fun V t O=>?_;have hp:Hn A r v.a6x.length V.heap:=⟨L6 O,L6 O⟩;replace k:=k.le t.heap;replace f:=f.le t.heap;clear O;refine A5 ?_;obtain⟨C,u⟩:=o9 ((!b&&l.any (yZ v.a6x.length)));refine x8 [(1,.slice p l.length s),(2,.bool b),(3,i8 z),(6,.slice none 0 0),(7,.bool false),(8,i8 r),(27,.bool C)] [.blk z (.cells (wl v a c).toArray 30)] ?_ ?_
 ·rw[u]
  cases b
  ·refine al ?_;refine A7 rfl rfl rfl ?_;refine c_ rfl (bF dL B6 l p s 350 [i8 A,i8 r] (Hn A r v.a6x.length) (yZ v.a6x.length) (fun x _=>ze A r v.a6x.length x) qb) (fun h o _=>⟨f.le o,o _ _ hp.1,o _ _ hp.2⟩) rfl ?_;refine u6 ?_;exact p_ sub i_
  ·refine al ?_;(first|refine u_ ?_|(refine v_ ?_;fail));refine u6 ?_;exact p_ sub i_
 have X:Y4 v l b=if C=true then none else some (iU l v.a6x b v.a6x.length):=by
  unfold Y4 iU;rw[u,Qn];have U:(b=false/\(l.any (yZ v.a6x.length))=true)↔(!b&&l.any (yZ v.a6x.length))=true:=by cases b<;>simp
  by_cases h:(!b&&l.any (yZ v.a6x.length))=true
  ·rw[zr h];exact zr (U.2 h)
  ·rw[zb h];exact zb fun Y=>h (U.1 Y)
 rw[X];refine O_ ?_ ?_<;>intro h
 ·rw[zr h];refine M4 ?_;exact E0 t (w8 rfl rfl rfl _ ⟨none,0,rfl,rfl⟩ (fun w d=>y9.left tk (d.addNil 27 1)))
 rw[h,zb qp];refine u6 ?_;refine c_ rfl (wH v a c hv) (fun h o _=>k.le o) rfl ?_;refine Y1 ?_;refine o8 (ι:=Nat×qr×Nat) (fun j=>j.1<=v.a6x.length) (fun j=>[(1,.slice p l.length s),(2,.bool b),(3,i8 z),(6,.slice none 0 0),(7,.bool false),(8,i8 r),(11,.int .u64 (M7 v.a6x:Nat)),(12,.slice j.2.1 (iU l v.a6x b j.1).length j.2.2),(31,.slice a v.a6x.length c),(32,r7 v.a6x.length),(33,r7 j.1)])
  (fun j=>[V4 j.2.1 (iU l v.a6x b j.1) j.2.2]) (fun j=>v.a6x.length-j.1) (0,none,0) (zp _) sub (fun w d=>y9.left tk (d.addNil 27 1)) ?_
 rintro⟨j,a5,J⟩ hj;simp only at hj;have h0:=Ho l v.a6x b j;refine T2 ?_ ?_<;>intro h
 ·have g:j<v.a6x.length:=by have:=zy h;omega
  have Q:=p8 k B6 qp g;obtain⟨S,y⟩:=o9 (Mi l v.a6x b (v.a6x[j],j));have e:=DU l v.a6x b g;rw[<-y] at e;refine A5 ?_;refine r_ (p9 rfl (fun w d=>T8 (k.le d.keep) B6 qp g x7) (B6 _)) ?_;refine i7 rfl ?_;intro D;refine A5 ?_;refine x8 [(1,.slice p l.length s),(2,.bool b),(3,i8 z),(6,.slice none 0 0),(7,.bool false),(8,i8 r),(11,.int .u64 (M7 v.a6x:Nat)),(12,.slice a5 (iU l v.a6x b j).length J),(14,i8 D),(31,.slice a v.a6x.length c),(32,r7 v.a6x.length),(33,r7 j),(57,.bool S)] [V4 a5 (iU l v.a6x b j) J,.blk D (.cells (dL v.a6x[j]).toArray 72)] ?_ ?_
  ·rw[y];unfold Mi
   cases b
   ·obtain⟨q,M⟩:=o9 (ii l v.a6x.length (j+1));refine Y1 ?_;(first|refine u_ ?_|(refine v_ ?_;fail));refine Y1 ?_;refine A7 rfl rfl rfl ?_;refine r_ (l5 rfl (fun w d=>vK d hp.2 rfl)) ?_;refine u6 ?_;refine A7 rfl rfl rfl ?_;refine f_ ((r8 rfl rfl qb).eq (v':=.int .i64 ((j+1:Nat):Int)) (by congr 1)) ?_;refine u6 ?_;refine A7 rfl rfl rfl ?_;refine c_ rfl (lF l p s v.a6x.length (j+1) hl) (fun h o _=>f.le o) rfl ?_;refine A5 ?_;exact p_ sub (fun w d=>y9.left tk d)
   ·obtain⟨q,M⟩:=o9 (ii l (M7 v.a6x) v.a6x[j].1);have e2:(if true=true then ii l (M7 v.a6x) v.a6x[j].1 else ii l v.a6x.length (j+1))=q:=M.symm;rw[e2]
    cases q
    ·refine Y1 ?_;refine A7 rfl rfl rfl ?_;refine c_ rfl (lF l p s (M7 v.a6x) v.a6x[j].1 hl) (fun h o _=>f.le o) rfl ?_;rw[<-M];refine wk 10 ?_;(first|refine u_ ?_|(refine v_ ?_;fail));refine A5 ?_;exact p_ sub (fun w d=>y9.left tk d)
    ·refine Y1 ?_;refine A7 rfl rfl rfl ?_;refine c_ rfl (lF l p s (M7 v.a6x) v.a6x[j].1 hl) (fun h o _=>f.le o) rfl ?_;rw[<-M];refine wk 10 ?_;(first|refine u_ ?_|(refine v_ ?_;fail));refine A5 ?_;exact p_ sub (fun w d=>y9.left tk d)
  refine x6 ?_;refine n8 (ι:=qr×Nat) (fun _=>True) (fun i=>[(1,.slice p l.length s),(2,.bool b),(3,i8 z),(6,.slice none 0 0),(7,.bool false),(8,i8 r),(11,.int .u64 (M7 v.a6x:Nat)),(12,.slice i.1 (iU l v.a6x b (j+1)).length i.2),(31,.slice a v.a6x.length c),(32,r7 v.a6x.length),(33,r7 j)]) (fun i=>[V4 i.1 (iU l v.a6x b (j+1)) i.2]) ?_ ?_
  ·rw[e];refine p7 rfl ?_ ?_<;>intro h
   ·rw[h,zr rfl];refine E8 ?_;refine gN (n:=v.a6x[j].1) ?_;intro h1;refine kG (l:=iU l v.a6x b j) (m:=[v.a6x[j].1]) (by show((iU l v.a6x b j).length+1)*8<=_;omega) ?_;intro UT T;refine u6 ?_;exact g_ (UT,T) trivial (fun w d=>y9.left tk d)
   ·rw[h,zb qp,jk];refine x6 ?_;exact g_ (a5,J) trivial (fun w d=>y9.left tk d)
  rintro⟨a6,c6⟩ _;refine A5 ?_;exact l8 (j+1,a6,c6) g qg sub i_
 ·have g:j=v.a6x.length:=by have:=zu h;omega
  subst g;refine cn ?_;exact E0 t (w8 rfl rfl rfl _ ⟨a5,J,rfl,rfl⟩ i_)
end Go.Proofs.YtmcepdopookilaaGreatDoor.Rp
namespace Go.Sl
open Go Go.RowKit Go.Proofs.YtmcepdopookilaaGreatDoor.Rp Go.Proofs.Tryz
abbrev B9(a:qr)(n c:Nat)(l:zz):As:=.own (.slice a n c) 27 1 (nV l)
structure Sm(l m:zz):Prop where
 len:m.length=l.length
 sub:∀x∈m,x∈l
def Sm.refl(l:zz):Sm l l:=⟨rfl,fun _ h=>h⟩
def Sm.trans{l m k:zz}(h:Sm l m)(g:Sm m k):Sm l k:=⟨g.len.trans h.len,fun x a=>h.sub x (g.sub x a)⟩
def Sm.set{l m:zz}(h:Sm l m)(i:Nat){x:Nat}(hx:x∈l):Sm l (m.set i x):=⟨by rw[Qw];exact h.len,fun y a=>by
 rcases Qj a with b|rfl
 ·exact h.sub y b
 ·exact hx⟩
def uw{l:zz}{i:Int}{n:Nat}(a:0<=i/\i<n)(hl:l.length=n):l.getD i.toNat 0∈l:=by
 have h:i.toNat<l.length:=by omega
 rw[z8,zd h];exact zm h
def Sm.swap{l m:zz}(h:Sm l m){i j:Int}{n:Nat}(a:0<=i/\i<n)(b:0<=j/\j<n)(hl:m.length=n):Sm l ((m.set i.toNat (m.getD j.toNat 0)).set j.toNat (m.getD i.toNat 0)):=(h.set _ (h.sub _ (uw b hl))).set _ (h.sub _ (uw a hl))
section
variable{P:zj}{N:Nat}{K R:A1}{E:List (Nat×A1)}{L:G9}{F:l9}{H:List As}{ops:Array Oper}{rest:List Oper}{ty:zk}{pos:String}{af:Array Edge}{dst:Option Nat}{gd:Option (Nat×Bool)}{t:zk}{x y:zw}
def aD{a:qr}{n c:Nat}{l:zz}{i:Int}{H':List As}[ha:HA P t false](hl:l.length=n)(u:N1 H (B9 a n c l) [] H':=by exact ud)(hx:ev L x=some (.pointer (N_ a (i.toNat*1))):=by rfl)(e:0<=i/\i<n:=by omega):dF P ⟨dst,.load t x,ty,pos,af,gd⟩ L F H (.int .u64 (l.getD i.toNat 0:Nat)):=
 l5 hx fun w d=>jB d u x7 fun j v b=>by
  match j,b with
  |0,b=>
   simp at b;subst b;have h:i.toNat<l.length:=(by omega);rw[Z0,Zk,nV,Q3,zd h];rfl
def X4{a:qr}{n c:Nat}{l:zz}{i:Int}{v:Nat}{H':List As}[hs:HS P t 1](hl:l.length=n)(h:GL P N ops rest K E R L F H')(u:N1 H (B9 a n c l) [B9 a n c (l.set i.toNat v)] H':=by exact uh)(hx:ev L x=some (.pointer (N_ a (i.toNat*1))):=by rfl)(d:ev L y=some (.int .u64 (v:Nat)):=by rfl)(f:0<=i/\i<n:=by omega):GL P N ops (⟨none,.store t x y,ty,pos,af,none⟩::rest) K E R L F H:=by
 have hp:M3 (nV l) (i.toNat*1) [.int .u64 (v:Nat)]=nV (l.set i.toNat v):=by
  have e:i.toNat<l.length:=by omega
  unfold M3 nV;rw[Z0,K0,Z8,zr (by simpa using e)];simp
 refine U_ (n:=1) (a:=a) (len:=n) (c:=c) (sz:=1) (xs:=nV l) (te:=27) hx d (H':=H') ?_ rfl qp (fun q b=>by simp[Value.cells] at b;subst b;rfl) (by rw[tL];omega) h;show N1 H _ [.own (.slice a n c) 27 1 (M3 (nV l) (i.toNat*1) [.int .u64 (v:Nat)])] H';rw[hp];exact u
def S8{a:qr}{n c:Nat}{l:zz}{j v0:Nat}{i:Int}{v:Nat}{H':List As}[hs:HS P t 1](hl:l.length=n)(h:GL P N ops rest K E R L F H')(u:N1 H (B9 a n c (l.set j v0)) [B9 a n c ((l.set j v0).set i.toNat v)] H':=by exact uh)(hx:ev L x=some (.pointer (N_ a (i.toNat*1))):=by rfl)(b:ev L y=some (.int .u64 (v:Nat)):=by rfl)(d:0<=i/\i<n:=by omega):GL P N ops (⟨none,.store t x y,ty,pos,af,none⟩::rest) K E R L F H:=X4 (by rw[Qw];exact hl) h u hx b d
end
end Go.Sl
namespace Go.Proofs.YtmcepdopookilaaGreatDoor.Rp
open Go Go.Sl Go.RowKit Go.Proofs.Tryz
def Mj(x:Nat):Pu prog 464 [.int .u64 (x:Nat)] (fun _=>True) (.bool false):=by
 refine b_ 6 func464 rfl rfl rfl ?_;intro F _;refine E8 ?_;refine f_ ((M2 rfl rfl).eq (v':=.bool false) x7) ?_;refine D0 ?_;exact d_ rfl rfl [] qh (fun _ h=>h)
def O8(x y:Nat):Pu prog 449 [.int .u64 (x:Nat),.int .u64 (y:Nat)] (fun _=>True) (.bool (decide (x<y))):=by
 refine b_ 17 func449 rfl rfl rfl ?_;intro F _;refine A5 ?_;refine c_ rfl (Mj x) qw rfl ?_;refine A5 ?_;(first|refine u_ ?_|(refine v_ ?_;fail));refine al ?_;refine A7 rfl rfl rfl ?_;refine f_ ((F8 rfl rfl).eq (v':=.bool (decide (x<y))) (qn (kz.2 Int.ofNat_lt))) ?_;refine M4 ?_;exact d_ rfl rfl [] qh (fun _ h=>h)
abbrev Tt(a:qr)(n c:Nat)(l:zz)(v:Value)(A:List As):Prop:=v=.tuple #[]/\∃m,Sm l m/\A=[B9 a n c m]
abbrev pD(f:FuncId)(a:qr)(n c:Nat)(args:zq):Prop:=∀l:zz,l.length=n->Ct prog f (.slice a n c::args) (fun _=>True) [B9 a n c l] (Tt a n c l)
abbrev iI(i:Int):Value:=.int .i64 i
def Mk(a:qr)(n c:Nat)(x y:Int)(hx:0<=x)(f:x<=y)(t:y<=n)(u:n<=1000000000):pD 443 a n c [iI x,iI y]:=by
 intro l g;refine b_ 49 func443 rfl rfl rfl ?_;intro F _;refine B7 (a:=a) (n:=n) (c:=c) (sz:=1) (xs:=nV l) (te:=27) ud fun _ o d=>?_;refine E8 ?_;refine o8 (ι:=Int×zz) (fun i=>x+1<=i.1/\(i.1<=y\/i.1=x+1)/\Sm l i.2) (fun i=>[(0,.slice a n c),(1,iI x),(2,iI y),(6,iI i.1)]) (fun i=>[B9 a n c i.2]) (fun i=>(y-i.1).toNat) (x+1,l) ⟨Kd _,.inr rfl,.refl _⟩ sub i_ ?_;rintro⟨i,m⟩ ⟨p,q,hs⟩;simp only at p q hs;refine eV ?_ ?_<;>intro h
 ·have r:i<y:=zy h;have d:=d qb;refine A5 ?_;refine P7 (fun(j:Int) (k:zz) (_:Unit)=>x<=j/\j<=i/\Sm l k) (fun j k _=>[(0,.slice a n c),(1,iI x),(2,iI y),(6,iI i),(7,iI j)]) (fun j k _=>[B9 a n c k]) (fun j k _=>(j-x).toNat) i m () ⟨by omega,Kd _,hs⟩ sub i_ ?_;rintro j k _ ⟨v,s,e⟩;have b:k.length=n:=e.len.trans g;by_cases hj0:j=x
  ·refine x6 ?_;refine D8 [7,12] [] [B9 a n c k] 15 ?_;refine wd [0,1] ?_;refine w_ 2 rfl ((E9 rfl rfl).eq (v':=.bool false) (qn qj)) ?_;refine wd [3,4,5,6,7,8,9,10,11,12] ?_;refine h_ 13 rfl i6 ?_;(first|refine u_ ?_|(refine v_ ?_;fail));refine D7 [14] ?_;refine E8 ?_;exact l8 (i:=(i,m)) (i+1,k) ⟨by simp only;omega,by simp only;omega,e⟩ qg sub i_
  refine x6 ?_;refine D8 [7,12] [] [B9 a n c k] 15 ?_;refine wd [0,1] ?_;refine w_ 2 rfl ((E9 rfl rfl).eq (v':=.bool true) (qn qk)) ?_;refine wd [3,4,5,6] ?_;(first|refine s_ 7 ?_|refine t_ 7 ?_|refine B8 7 rfl R6 (aD b) G3 rfl rfl rfl rfl rfl rfl i6 ?_);refine wd [8,9,10,11] ?_;(first|refine s_ 12 ?_|refine t_ 12 ?_|refine B8 12 rfl R6 (aD b) G3 rfl rfl rfl rfl rfl rfl i6 ?_);refine h_ 13 rfl i6 ?_;(first|refine u_ ?_|(refine v_ ?_;refine c_ rfl (O8 _ _) qw rfl ?_));refine D7 [14] ?_;refine p7 rfl ?_ ?_<;>intro h
  ·refine x6 ?_;refine D8 [9,13] [15,17] [B9 a n c k] 18 ?_;refine wd [0,1,2,3,4,5,6,7,8] ?_;refine o7 9 rfl R6 (aD b) G3 rfl rfl rfl i6 ?_;refine wd [10,11,12] ?_;refine o7 13 rfl R6 (aD b) G3 rfl rfl rfl i6 ?_;refine wd [14] ?_;refine h_ 15 rfl i6 ?_;refine X4 b ?_;refine D7 [16] ?_;refine h_ 17 rfl i6 ?_;refine S8 b ?_;refine D7 [] ?_;refine E8 ?_;exact l8 (i:=(j,k,())) (j-1,_,()) ⟨by simp only;omega,by simp only;omega,e.swap (n:=n) qb qb b⟩ qg sub i_
  ·refine E8 ?_;exact l8 (i:=(i,m)) (i+1,k) ⟨by simp only;omega,by simp only;omega,e⟩ qg sub i_
 ·refine x6 ?_;exact m6 rfl _ ⟨rfl,m,hs,rfl⟩ i_
def wI(a:qr)(n c:Nat)(lo d f:Int)(p:0<=lo)(y:0<=f)(z:0<=d)(A:f+d<=n)(C:n<=1000000000)(g:lo<=1000000000):pD 461 a n c [iI lo,iI d,iI f]:=by
 intro l s;refine b_ 76 func461 rfl rfl rfl ?_;intro F _;refine B7 (a:=a) (n:=n) (c:=c) (sz:=1) (xs:=nV l) (te:=27) ud fun _ t e=>?_;refine A5 ?_;refine o8 (ι:=Int×zz) (fun i=>0<=i.1/\i.1<=1000000000/\Sm l i.2) (fun i=>[(0,.slice a n c),(1,iI lo),(2,iI d),(3,iI f),(8,iI i.1)]) (fun i=>[B9 a n c i.2]) (fun i=>(d-i.1).toNat) (lo,l) ⟨p,g,.refl _⟩ sub i_ ?_;rintro⟨r,m⟩ ⟨u,j,hs⟩;simp only at u j hs;have b:m.length=n:=hs.len.trans s;refine wk 7 ?_;refine p7 rfl ?_ ?_<;>intro h
 ·refine x6 ?_;exact m6 rfl _ ⟨rfl,m,hs,rfl⟩ i_
 have hc:2*r+1<d:=by have:=zu h;omega
 have e:=e qb;refine x6 ?_;refine n8 (ι:=Bool) (fun q=>q=true->2*r+1+1<d) (fun q=>[(0,.slice a n c),(1,iI lo),(2,iI d),(3,iI f),(8,iI r),(9,iI (2*r+1)),(36,.bool q)]) (fun _=>[B9 a n c m]) ?_ ?_
 ·by_cases o:2*r+1+1<d
  ·refine x6 ?_;refine D8 [10,17] [] [B9 a n c m] 20 ?_;refine wd [0,1,2] ?_;refine w_ 3 rfl ((F8 rfl rfl).eq (v':=.bool true) (qn qk)) ?_;refine wd [4,5,6,7,8,9] ?_;(first|refine s_ 10 ?_|refine t_ 10 ?_|refine B8 10 rfl R6 (aD b) G3 rfl rfl rfl rfl rfl rfl i6 ?_);refine wd [11,12,13,14,15,16] ?_;(first|refine s_ 17 ?_|refine t_ 17 ?_|refine B8 17 rfl R6 (aD b) G3 rfl rfl rfl rfl rfl rfl i6 ?_);refine h_ 18 rfl i6 ?_;(first|refine u_ ?_|(refine v_ ?_;refine c_ rfl (O8 _ _) qw rfl ?_));refine D7 [19] ?_;exact g_ _ (fun _=>o) i_
  ·refine x6 ?_;refine D8 [10,17] [] [B9 a n c m] 20 ?_;refine wd [0,1,2] ?_;refine w_ 3 rfl ((F8 rfl rfl).eq (v':=.bool false) (qn qj)) ?_;refine wd [4,5,6,7,8,9,10,11,12,13,14,15,16,17] ?_;refine h_ 18 rfl i6 ?_;(first|refine u_ ?_|(refine v_ ?_;fail));refine D7 [19] ?_;exact g_ false qx i_
 intro q v;refine x6 ?_;refine n8 (ι:=Int) (fun k=>2*r+1<=k/\k<d) (fun k=>[(0,.slice a n c),(1,iI lo),(2,iI d),(3,iI f),(8,iI r),(9,iI k)]) (fun k=>[B9 a n c m]) ?_ ?_
 ·refine p7 rfl ?_ ?_<;>intro h
  ·have o:=v h;refine E8 ?_;exact g_ (2*r+1+1) qb i_
  ·refine x6 ?_;exact g_ (2*r+1) qb i_
 rintro k ⟨w,x⟩;refine x6 ?_;refine D8 [5,11] [12] [B9 a n c m] 14 ?_;refine wd [0,1,2,3,4] ?_;refine o7 5 rfl R6 (aD b) G3 rfl rfl rfl i6 ?_;refine wd [6,7,8,9,10] ?_;refine o7 11 rfl R6 (aD b) G3 rfl rfl rfl i6 ?_;refine h_ 12 rfl i6 ?_;refine c_ rfl (O8 _ _) qw rfl ?_;refine D7 [13] ?_;refine p7 rfl ?_ ?_<;>intro h
 ·refine oK ?_;exact m6 rfl _ ⟨rfl,m,hs,rfl⟩ i_
 ·refine x6 ?_;refine D8 [13,19] [21,23] [B9 a n c m] 24 ?_;refine wd [0,1,2,3,4,5,6,7,8,9,10,11,12] ?_;refine o7 13 rfl R6 (aD b) G3 rfl rfl rfl i6 ?_;refine wd [14,15,16,17,18] ?_;refine o7 19 rfl R6 (aD b) G3 rfl rfl rfl i6 ?_;refine wd [20] ?_;refine h_ 21 rfl i6 ?_;refine X4 b ?_;refine D7 [22] ?_;refine h_ 23 rfl i6 ?_;refine S8 b ?_;refine D7 [] ?_;refine A5 ?_;exact l8 (i:=(r,m)) (k,_) ⟨by simp only;omega,by simp only;omega,hs.swap (n:=n) qb qb b⟩ qg sub i_
def Hq(a:qr)(n c:Nat)(x y:Int)(hx:0<=x)(t:x<y)(z:y<=n)(s:n<=1000000000):pD 444 a n c [iI x,iI y]:=by
 intro l g;refine b_ 56 func444 rfl rfl rfl ?_;intro F _;refine B7 (a:=a) (n:=n) (c:=c) (sz:=1) (xs:=nV l) (te:=27) ud fun _ u d=>?_;have d:=d qb;refine I6 11 ?_;refine n8 (ι:=zz) (fun m=>Sm l m) (fun _=>[(0,.slice a n c),(6,iI x),(7,iI 0),(8,iI (y-x))]) (fun m=>[B9 a n c m]) ?_ ?_
 ·refine o0 ?_;refine o8 (ι:=Int×zz) (fun i=> -1<=i.1/\i.1<=1000000000/\Sm l i.2) (fun i=>[(0,.slice a n c),(6,iI x),(7,iI 0),(8,iI (y-x)),(9,iI i.1)]) (fun i=>[B9 a n c i.2]) (fun i=>(i.1+1).toNat) ((y-x-1)/2,l) ⟨by simp only;omega,by simp only;omega,.refl _⟩ sub i_ ?_;rintro⟨i,m⟩ ⟨k,o,hs⟩;simp only at k o hs;have b:m.length=n:=hs.len.trans g;refine bQ ?_ ?_<;>intro h
  ·have p:0<=i:=zy h;refine P1 ?_;refine e_ (wI a n c i (y-x) x p hx qb qb s qb m b) qw ?_;rintro v A ⟨rfl,q,e,rfl⟩;refine E8 ?_;exact l8 (i:=(i,m)) (i-1,q) ⟨by simp only;omega,by simp only;omega,hs.trans e⟩ qg sub i_
  ·refine x6 ?_;exact g_ m hs i_
 intro w r;refine E8 ?_;refine o8 (ι:=Int×zz) (fun i=> -1<=i.1/\i.1<=y-x-1/\Sm l i.2) (fun i=>[(0,.slice a n c),(6,iI x),(7,iI 0),(8,iI (y-x)),(10,iI i.1)]) (fun i=>[B9 a n c i.2]) (fun i=>(i.1+1).toNat) (y-x-1,w) ⟨by simp only;omega,Kd _,r⟩ sub i_ ?_;rintro⟨i,m⟩ ⟨k,o,hs⟩;simp only at k o hs;have b:m.length=n:=hs.len.trans g;refine bQ ?_ ?_<;>intro h
 ·have p:0<=i:=zy h;refine x6 ?_;refine D8 [11,15] [17,19] [B9 a n c m] 20 ?_;refine wd [0,1,2,3,4,5,6,7,8,9,10] ?_;refine o7 11 rfl R6 (aD b) G3 rfl rfl rfl i6 ?_;refine wd [12,13,14] ?_;refine o7 15 rfl R6 (aD b) G3 rfl rfl rfl i6 ?_;refine wd [16] ?_;refine h_ 17 rfl i6 ?_;refine X4 b ?_;refine D7 [18] ?_;refine h_ 19 rfl i6 ?_;refine S8 b ?_;refine D7 [] ?_;have f:=hs.swap (i:=x) (j:=x+i) (n:=n) qb qb b;refine P1 ?_;refine e_ (wI a n c 0 i x (Kd _) hx p qb s qb _ (f.len.trans g)) qw ?_;rintro v A ⟨rfl,q,e,rfl⟩;refine E8 ?_;exact l8 (i:=(i,m)) (i-1,q) ⟨by simp only;omega,by simp only;omega,f.trans e⟩ qg sub i_
 ·refine x6 ?_;exact m6 rfl _ ⟨rfl,m,hs,rfl⟩ i_
def Ml(a:qr)(n c:Nat)(x y:Int)(hx:0<=x)(e:x<=y)(k:y<=n)(o:n<=1000000000):pD 447 a n c [iI x,iI y]:=by
 intro l f;refine b_ 32 func447 rfl rfl rfl ?_;intro F _;refine B7 (a:=a) (n:=n) (c:=c) (sz:=1) (xs:=nV l) (te:=27) ud fun _ g b=>?_;refine al ?_;refine P7 (fun(i j:Int) (m:zz)=>x<=i/\i<=n/\x-1<=j+1/\j<y/\Sm l m) (fun i j m=>[(0,.slice a n c),(6,iI i),(7,iI j)]) (fun i j m=>[B9 a n c m]) (fun i j m=>(j-i+1).toNat) x (y-1) l ⟨Kd _,by omega,by omega,by omega,.refl _⟩ sub i_ ?_;rintro i j m ⟨p,q,r,s,hs⟩;have d:m.length=n:=hs.len.trans f;refine eV ?_ ?_<;>intro h
 ·have t:i<j:=zy h;have b:=b qb;refine x6 ?_;refine D8 [7,11] [13,15] [B9 a n c m] 16 ?_;refine wd [0,1,2,3,4,5,6] ?_;refine o7 7 rfl R6 (aD d) G3 rfl rfl rfl i6 ?_;refine wd [8,9,10] ?_;refine o7 11 rfl R6 (aD d) G3 rfl rfl rfl i6 ?_;refine wd [12] ?_;refine h_ 13 rfl i6 ?_;refine X4 d ?_;refine D7 [14] ?_;refine h_ 15 rfl i6 ?_;refine S8 d ?_;refine D7 [] ?_;refine Y1 ?_;exact l8 (i:=(i,j,m)) (i+1,j-1,_) ⟨by simp only;omega,by simp only;omega,by simp only;omega,by simp only;omega,hs.swap (n:=n) qb qb d⟩ qg sub i_
 ·refine x6 ?_;exact m6 rfl _ ⟨rfl,m,hs,rfl⟩ i_
abbrev PV(g:Nat)(s:Int):As:=.blk g (.cells #[iI s] 3)
def pF(a:qr)(n c:Nat)(l:zz)(hl:l.length=n)(x y:Int)(hx:0<=x/\x<n)(k:0<=y/\y<n)(g:Nat)(s:Int)(hs:0<=s/\s<=1000):Ct prog 471 [.slice a n c,iI x,iI y,i8 g] (fun _=>True) [B9 a n c l,PV g s] (fun v A=>∃d e f,(d=x/\e=y\/d=y/\e=x)/\(s<=f/\f<=s+1)/\v=.tuple #[iI d,iI e]/\A=[B9 a n c l,PV g f]):=by
 refine b_ 28 func471 rfl rfl rfl ?_;intro F _;refine B7 (a:=a) (n:=n) (c:=c) (sz:=1) (xs:=nV l) (te:=27) ud fun _ j b=>?_;have b:=b qb;refine A5 ?_;refine D8 [3,7] [8] [B9 a n c l] 9 ?_;refine wd [0,1,2] ?_;refine o7 3 rfl R6 (aD hl) G3 rfl rfl rfl i6 ?_;refine wd [4,5,6] ?_;refine o7 7 rfl R6 (aD hl) G3 rfl rfl rfl i6 ?_;refine h_ 8 rfl i6 ?_;refine c_ rfl (O8 _ _) qw rfl ?_;refine D7 [] ?_;refine p7 rfl ?_ ?_<;>intro h
 ·refine wk 10 ?_;refine B4 ?_;exact w8 rfl rfl rfl _ ⟨y,x,s+1,.inr qh,by omega,rfl,rfl⟩ (fun w i=>y9.left tk i)
 ·refine KH ?_;exact w8 rfl rfl rfl _ ⟨x,y,s,.inl qh,by omega,rfl,rfl⟩ (fun w i=>y9.left tk i)
def BA(a:qr)(n c:Nat)(l:zz)(hl:l.length=n)(x y z:Int)(hx:0<=x/\x<n)(d:0<=y/\y<n)(hz:0<=z/\z<n)(g:Nat)(s:Int)(hs:0<=s/\s<=900):Ct prog 463 [.slice a n c,iI x,iI y,iI z,i8 g] (fun _=>True) [B9 a n c l,PV g s] (fun v A=>∃r b,(r=x\/r=y\/r=z)/\(s<=b/\b<=s+3)/\v=iI r/\A=[B9 a n c l,PV g b]):=by
 refine b_ 36 func463 rfl rfl rfl ?_;intro F _;refine al ?_;refine e_ (pF a n c l hl x y hx d g s qb) qw ?_;rintro v A ⟨e,f,s1,p,h,rfl,rfl⟩;refine wk 9 ?_;refine e_ (pF a n c l hl f z qb hz g s1 qb) qw ?_;rintro v A ⟨i,q,j,t,k,rfl,rfl⟩;refine wk 9 ?_;refine e_ (pF a n c l hl e i qb qb g j qb) qw ?_;rintro v A ⟨u,m,s3,w,o,rfl,rfl⟩;refine Lq ?_;exact d_ rfl rfl _ ⟨m,s3,by omega,by omega,rfl,rfl⟩ i_
def pG(a:qr)(n c:Nat)(l:zz)(hl:l.length=n)(x:Int)(hx:1<=x/\x+1<n)(e:n<=1000000000)(g:Nat)(s:Int)(hs:0<=s/\s<=900):Ct prog 462 [.slice a n c,iI x,i8 g] (fun _=>True) [B9 a n c l,PV g s] (fun v A=>∃r b,(x-1<=r/\r<=x+1)/\(s<=b/\b<=s+3)/\v=iI r/\A=[B9 a n c l,PV g b]):=by
 refine b_ 15 func462 rfl rfl rfl ?_;intro F _;refine wk 8 ?_;refine e_ (BA a n c l hl (x-1) x (x+1) qb qb qb g s hs) qw ?_;rintro v A ⟨r,s1,f,d,rfl,rfl⟩;refine D0 ?_;exact d_ rfl rfl _ ⟨r,s1,by omega,d,rfl,rfl⟩ i_
def Mm(a:qr)(n c:Nat)(l:zz)(hl:l.length=n)(x y:Int)(hx:0<=x)(m:x+8<=y)(J:y<=n)(e:n<=1000000000):Ct prog 446 [.slice a n c,iI x,iI y] (fun _=>True) [B9 a n c l] (fun v A=>∃r k:Int,(x<=r/\r<y)/\v=.tuple #[iI r,iI k]/\A=[B9 a n c l]):=by
 refine b_ 57 func446 rfl rfl rfl ?_;intro F _;refine Y1 ?_;refine U2 ?_;refine cA rfl rfl ?_;intro d;refine wk 19 ?_;refine f_ ((K_ rfl rfl).eq (v':=.bool true) (qn qk)) ?_;refine A5 ?_;refine n8 (ι:=Int×Int×Int×Int) (fun i=>(x+1<=i.1/\i.1+1<y)/\(x+1<=i.2.1/\i.2.1+1<y)/\(x+1<=i.2.2.1/\i.2.2.1+1<y)/\0<=i.2.2.2/\i.2.2.2<=9) (fun i=>[(0,.slice a n c),(9,i8 d),(10,iI i.1),(11,iI i.2.1),(12,iI i.2.2.1)]) (fun i=>[B9 a n c l,PV d i.2.2.2]) ?_ ?_
 ·refine p7 rfl ?_ ?_<;>intro h
  ·have M:50<=y-x:=zy h;refine A5 ?_;refine e_ (pG a n c l hl (x+(y-x)/4*1) qb e d 0 qb) qw ?_;rintro v A ⟨o,s1,O,p,rfl,rfl⟩;refine E8 ?_;refine e_ (pG a n c l hl (x+(y-x)/4*2) qb e d s1 qb) qw ?_;rintro v A ⟨q,g,Q,f,rfl,rfl⟩;refine E8 ?_;refine e_ (pG a n c l hl (x+(y-x)/4*3) qb e d g qb) qw ?_;rintro v A ⟨t,s3,S,u,rfl,rfl⟩;refine u6 ?_;exact g_ (o,q,t,s3) ⟨by simp only;omega,by simp only;omega,by simp only;omega,by simp only;omega⟩ (fun w b=>y9.left tk b)
  ·refine x6 ?_;exact g_ (x+(y-x)/4*1,x+(y-x)/4*2,x+(y-x)/4*3,0) ⟨by simp only;omega,by simp only;omega,by simp only;omega,by simp only;omega⟩ (fun w b=>y9.left tk b)
 rintro⟨i,j,k,s⟩ ⟨z,C,D,hs⟩;simp only at z C D hs;refine P1 ?_;refine e_ (BA a n c l hl i j k qb qb qb d s qb) qw ?_;rintro v A ⟨r,g,T,f,rfl,rfl⟩;refine AO ?_ ?_<;>intro h
 ·refine cn ?_;exact w8 rfl rfl rfl _ ⟨r,1,by omega,rfl,rfl⟩ (fun w b=>y9.left tk b)
 refine bQ ?_ ?_<;>intro h
 ·refine cn ?_;exact w8 rfl rfl rfl _ ⟨r,2,by omega,rfl,rfl⟩ (fun w b=>y9.left tk b)
 refine cn ?_;exact w8 rfl rfl rfl _ ⟨r,0,by omega,rfl,rfl⟩ (fun w b=>y9.left tk b)
def Mo(a:qr)(n c:Nat)(l:zz)(hl:l.length=n)(x y:Int)(hx:0<=x)(M:x<y)(V:y<=n)(X:n<=1000000000):Ct prog 448 [.slice a n c,iI x,iI y] (fun _=>True) [B9 a n c l] (fun v A=>∃q m,Sm l m/\v=.bool q/\A=[B9 a n c m]):=by
 refine b_ 133 func448 rfl rfl rfl ?_;intro F _;refine B7 (a:=a) (n:=n) (c:=c) (sz:=1) (xs:=nV l) (te:=27) ud fun _ O e=>?_;have e:=e qb;refine al ?_;refine P7 (fun(i st:Int) (m:zz)=>x+1<=i/\i<=y/\0<=st/\st<=5/\Sm l m) (fun i st m=>[(0,.slice a n c),(1,iI x),(2,iI y),(6,.bool false),(7,iI i),(8,iI st)]) (fun i st m=>[B9 a n c m]) (fun i st m=>(5-st).toNat) (x+1) 0 l ⟨Kd _,by omega,by omega,by omega,.refl _⟩ sub i_ ?_;rintro C st m ⟨Q,S,Y,Z,hs⟩;have d:m.length=n:=hs.len.trans hl;refine I6 2 ?_;refine p7 rfl ?_ ?_<;>intro h
 ·have h5:st<5:=zy h;refine I6 0 ?_;refine o0 ?_;refine I6 0 ?_;refine n8 (ι:=Int) (fun i=>x+1<=i/\i<=y) (fun i=>[(0,.slice a n c),(1,iI x),(2,iI y),(6,.bool false),(7,iI i),(8,iI st)]) (fun _=>[B9 a n c m]) ?_ ?_
  ·refine o0 ?_;refine o8 (ι:=Int) (fun i=>x+1<=i/\i<=y) (fun i=>[(0,.slice a n c),(1,iI x),(2,iI y),(6,.bool false),(7,iI i),(8,iI st)]) (fun _=>[B9 a n c m]) (fun i=>(y-i).toNat) C ⟨Q,S⟩ sub i_ ?_;rintro i ⟨s,g⟩;by_cases t:i<y
   ·refine x6 ?_;refine D8 [7,12] [] [B9 a n c m] 16 ?_;refine wd [0,1] ?_;refine w_ 2 rfl ((F8 rfl rfl).eq (v':=.bool true) (qn (ju t))) ?_;refine wd [3,4,5,6] ?_;(first|refine s_ 7 ?_|refine t_ 7 ?_|refine B8 7 rfl R6 (aD d) G3 rfl rfl rfl rfl rfl rfl i6 ?_);refine wd [8,9,10,11] ?_;(first|refine s_ 12 ?_|refine t_ 12 ?_|refine B8 12 rfl R6 (aD d) G3 rfl rfl rfl rfl rfl rfl i6 ?_);refine h_ 13 rfl i6 ?_;(first|refine u_ ?_|(refine v_ ?_;refine c_ rfl (O8 _ _) qw rfl ?_));refine D7 [14,15] ?_;refine p7 rfl ?_ ?_<;>intro h
    ·refine E8 ?_;exact l8 (i:=i) (i+1) qb qb sub i_
    ·refine x6 ?_;exact g_ i ⟨s,g⟩ i_
   ·refine x6 ?_;refine D8 [7,12] [] [B9 a n c m] 16 ?_;refine wd [0,1] ?_;refine w_ 2 rfl ((F8 rfl rfl).eq (v':=.bool false) (qn (Qk t))) ?_;refine wd [3,4,5,6,7,8,9,10,11,12] ?_;refine h_ 13 rfl i6 ?_;(first|refine u_ ?_|(refine v_ ?_;fail));refine D7 [14,15] ?_;exact g_ i ⟨s,g⟩ i_
  rintro i ⟨s,g⟩;refine eV ?_ ?_<;>intro h
  ·refine D0 ?_;exact d_ rfl rfl _ ⟨true,m,hs,rfl,rfl⟩ i_
  have t:i<y:=by have:=zu h;omega
  refine AO ?_ ?_<;>intro h
  ·refine D0 ?_;exact d_ rfl rfl _ ⟨false,m,hs,rfl,rfl⟩ i_
  refine x6 ?_;refine D8 [9,13] [15,17] [B9 a n c m] 18 ?_;refine wd [0,1,2,3,4,5,6,7,8] ?_;refine o7 9 rfl R6 (aD d) G3 rfl rfl rfl i6 ?_;refine wd [10,11,12] ?_;refine o7 13 rfl R6 (aD d) G3 rfl rfl rfl i6 ?_;refine wd [14] ?_;refine h_ 15 rfl i6 ?_;refine X4 d ?_;refine D7 [16] ?_;refine h_ 17 rfl i6 ?_;refine S8 d ?_;refine D7 [] ?_;have o:=hs.swap (i:=i) (j:=i-1) (n:=n) qb qb d;obtain⟨D,u⟩:=o9 ((m.set i.toNat (m.getD (i-1).toNat 0)).set (i-1).toNat (m.getD i.toNat 0));rw[<-u] at o⊢;refine P1 ?_;refine n8 (ι:=zz) (fun k=>Sm l k) (fun _=>[(0,.slice a n c),(1,iI x),(2,iI y),(6,.bool false),(7,iI i),(8,iI st)]) (fun k=>[B9 a n c k]) ?_ ?_
  ·refine p7 rfl ?_ ?_<;>intro h
   ·refine E8 ?_;refine o8 (ι:=Int×zz) (fun j=>0<=j.1/\j.1<=i-1/\Sm l j.2) (fun j=>[(0,.slice a n c),(1,iI x),(2,iI y),(6,.bool false),(7,iI i),(8,iI st),(9,iI j.1)]) (fun j=>[B9 a n c j.2]) (fun j=>j.1.toNat) (i-1,D) ⟨by simp only;omega,Kd _,o⟩ sub i_ ?_;rintro⟨j,k⟩ ⟨w,p,f⟩;simp only at w p f;have b:k.length=n:=f.len.trans hl;refine bQ ?_ ?_<;>intro h
    ·have T:1<=j:=zy h;refine x6 ?_;refine D8 [3,8] [9] [B9 a n c k] 11 ?_;refine wd [0,1,2] ?_;refine o7 3 rfl R6 (aD b) G3 rfl rfl rfl i6 ?_;refine wd [4,5,6,7] ?_;refine o7 8 rfl R6 (aD b) G3 rfl rfl rfl i6 ?_;refine h_ 9 rfl i6 ?_;refine c_ rfl (O8 _ _) qw rfl ?_;refine D7 [10] ?_;refine p7 rfl ?_ ?_<;>intro h
     ·refine x6 ?_;exact g_ k f i_
     ·refine x6 ?_;refine D8 [9,13] [15,17] [B9 a n c k] 18 ?_;refine wd [0,1,2,3,4,5,6,7,8] ?_;refine o7 9 rfl R6 (aD b) G3 rfl rfl rfl i6 ?_;refine wd [10,11,12] ?_;refine o7 13 rfl R6 (aD b) G3 rfl rfl rfl i6 ?_;refine wd [14] ?_;refine h_ 15 rfl i6 ?_;refine X4 b ?_;refine D7 [16] ?_;refine h_ 17 rfl i6 ?_;refine S8 b ?_;refine D7 [] ?_;refine E8 ?_;exact l8 (i:=(j,k)) (j-1,_) ⟨by simp only;omega,by simp only;omega,f.swap (n:=n) qb qb b⟩ qg sub i_
    ·refine x6 ?_;exact g_ k f i_
   ·refine x6 ?_;exact g_ D o i_
  intro J r;refine P1 ?_;refine n8 (ι:=zz) (fun k=>Sm l k) (fun _=>[(0,.slice a n c),(1,iI x),(2,iI y),(6,.bool false),(7,iI i),(8,iI st)]) (fun k=>[B9 a n c k]) ?_ ?_
  ·refine p7 rfl ?_ ?_<;>intro h
   ·refine E8 ?_;refine o8 (ι:=Int×zz) (fun j=>i+1<=j.1/\j.1<=y/\Sm l j.2) (fun j=>[(0,.slice a n c),(1,iI x),(2,iI y),(6,.bool false),(7,iI i),(8,iI st),(10,iI j.1)]) (fun j=>[B9 a n c j.2]) (fun j=>(y-j.1).toNat) (i+1,J) ⟨Kd _,by simp only;omega,r⟩ sub i_ ?_;rintro⟨j,k⟩ ⟨w,p,f⟩;simp only at w p f;have b:k.length=n:=f.len.trans hl;refine eV ?_ ?_<;>intro h
    ·have T:j<y:=zy h;refine x6 ?_;refine D8 [3,8] [9] [B9 a n c k] 11 ?_;refine wd [0,1,2] ?_;refine o7 3 rfl R6 (aD b) G3 rfl rfl rfl i6 ?_;refine wd [4,5,6,7] ?_;refine o7 8 rfl R6 (aD b) G3 rfl rfl rfl i6 ?_;refine h_ 9 rfl i6 ?_;refine c_ rfl (O8 _ _) qw rfl ?_;refine D7 [10] ?_;refine p7 rfl ?_ ?_<;>intro h
     ·refine x6 ?_;exact g_ k f i_
     ·refine x6 ?_;refine D8 [9,13] [15,17] [B9 a n c k] 18 ?_;refine wd [0,1,2,3,4,5,6,7,8] ?_;refine o7 9 rfl R6 (aD b) G3 rfl rfl rfl i6 ?_;refine wd [10,11,12] ?_;refine o7 13 rfl R6 (aD b) G3 rfl rfl rfl i6 ?_;refine wd [14] ?_;refine h_ 15 rfl i6 ?_;refine X4 b ?_;refine D7 [16] ?_;refine h_ 17 rfl i6 ?_;refine S8 b ?_;refine D7 [] ?_;refine E8 ?_;exact l8 (i:=(j,k)) (j+1,_) ⟨by simp only;omega,by simp only;omega,f.swap (n:=n) qb qb b⟩ qg sub i_
    ·refine x6 ?_;exact g_ k f i_
   ·refine x6 ?_;exact g_ J r i_
  intro U z;refine E8 ?_;exact l8 (i:=(C,st,m)) (i,st+1,U) ⟨s,g,by simp only;omega,by simp only;omega,z⟩ qg sub i_
 ·refine D0 ?_;exact d_ rfl rfl _ ⟨false,m,hs,rfl,rfl⟩ i_
def Mp(a:qr)(n c:Nat)(l:zz)(hl:l.length=n)(x y p:Int)(hx:0<=x)(w:x<y)(M:y<=n)(hp:x<=p/\p<y)(O:n<=1000000000):Ct prog 450 [.slice a n c,iI x,iI y,iI p] (fun _=>True) [B9 a n c l] (fun v A=>∃r m,(x+1<=r/\r<=y)/\Sm l m/\v=iI r/\A=[B9 a n c m]):=by
 refine b_ 84 func450 rfl rfl rfl ?_;intro F _;refine B7 (a:=a) (n:=n) (c:=c) (sz:=1) (xs:=nV l) (te:=27) ud fun _ z d=>?_;have d:=d qb;refine u6 ?_;refine D8 [7,11] [13,15] [B9 a n c l] 16 ?_;refine wd [0,1,2,3,4,5,6] ?_;refine o7 7 rfl R6 (aD hl) G3 rfl rfl rfl i6 ?_;refine wd [8,9,10] ?_;refine o7 11 rfl R6 (aD hl) G3 rfl rfl rfl i6 ?_;refine wd [12] ?_;refine h_ 13 rfl i6 ?_;refine X4 hl ?_;refine D7 [14] ?_;refine h_ 15 rfl i6 ?_;refine S8 hl ?_;refine D7 [] ?_;have g:=(Sm.refl l).swap (i:=x) (j:=p) (n:=n) qb qb hl;obtain⟨C,o⟩:=o9 ((l.set x.toNat (l.getD p.toNat 0)).set p.toNat (l.getD x.toNat 0));rw[<-o] at g⊢;refine I6 6 ?_;refine n8 (ι:=Int×zz) (fun i=>x+1<=i.1/\i.1<=y/\Sm l i.2) (fun i=>[(9,iI i.1)]) (fun i=>[B9 a n c i.2]) ?_ ?_
 ·refine o0 ?_;refine P7 (fun(i j:Int) (m:zz)=>(x+1<=i/\i<=y)/\(x<=j+1/\j<y)/\Sm l m) (fun i j m=>[(0,.slice a n c),(1,iI x),(9,iI i),(10,iI j)]) (fun i j m=>[B9 a n c m]) (fun i j m=>(j-i+1).toNat) (x+1) (y-1) C ⟨by omega,by omega,g⟩ sub i_ ?_;rintro k e m ⟨D,J,hs⟩;have b:m.length=n:=hs.len.trans hl;refine I6 0 ?_;refine o0 ?_;refine I6 0 ?_;refine n8 (ι:=Int) (fun i=>k<=i/\i<=y) (fun i=>[(0,.slice a n c),(1,iI x),(9,iI i),(10,iI e)]) (fun _=>[B9 a n c m]) ?_ ?_
  ·refine o0 ?_;refine o8 (ι:=Int) (fun i=>k<=i/\i<=y) (fun i=>[(0,.slice a n c),(1,iI x),(9,iI i),(10,iI e)]) (fun _=>[B9 a n c m]) (fun i=>(y-i).toNat) k qb sub i_ ?_;intro i q;by_cases f:i<=e
   ·refine x6 ?_;refine D8 [7,11] [] [B9 a n c m] 15 ?_;refine wd [0,1] ?_;refine w_ 2 rfl ((H4 rfl rfl).eq (v':=.bool true) (qn (ju f))) ?_;refine wd [3,4,5,6] ?_;(first|refine s_ 7 ?_|refine t_ 7 ?_|refine B8 7 rfl R6 (aD b) G3 rfl rfl rfl rfl rfl rfl i6 ?_);refine wd [8,9,10] ?_;(first|refine s_ 11 ?_|refine t_ 11 ?_|refine B8 11 rfl R6 (aD b) G3 rfl rfl rfl rfl rfl rfl i6 ?_);refine h_ 12 rfl i6 ?_;(first|refine u_ ?_|(refine v_ ?_;refine c_ rfl (O8 _ _) qw rfl ?_));refine D7 [13,14] ?_;refine p7 rfl ?_ ?_<;>intro h
    ·refine E8 ?_;exact l8 (i:=i) (i+1) qb qb sub i_
    ·refine x6 ?_;exact g_ i q i_
   ·refine x6 ?_;refine D8 [7,11] [] [B9 a n c m] 15 ?_;refine wd [0,1] ?_;refine w_ 2 rfl ((H4 rfl rfl).eq (v':=.bool false) (qn (Qk f))) ?_;refine wd [3,4,5,6,7,8,9,10,11] ?_;refine h_ 12 rfl i6 ?_;(first|refine u_ ?_|(refine v_ ?_;fail));refine D7 [13,14] ?_;exact g_ i q i_
  intro i q;refine I6 0 ?_;refine n8 (ι:=Int) (fun j=>x<=j+1/\j<=e) (fun j=>[(0,.slice a n c),(1,iI x),(9,iI i),(10,iI j)]) (fun _=>[B9 a n c m]) ?_ ?_
  ·refine o0 ?_;refine o8 (ι:=Int) (fun j=>x<=j+1/\j<=e) (fun j=>[(0,.slice a n c),(1,iI x),(9,iI i),(10,iI j)]) (fun _=>[B9 a n c m]) (fun j=>(j+2).toNat) e qb sub i_ ?_;intro j s;by_cases f:i<=j
   ·refine x6 ?_;refine D8 [7,11] [] [B9 a n c m] 14 ?_;refine wd [0,1] ?_;refine w_ 2 rfl ((H4 rfl rfl).eq (v':=.bool true) (qn (ju f))) ?_;refine wd [3,4,5,6] ?_;(first|refine s_ 7 ?_|refine t_ 7 ?_|refine B8 7 rfl R6 (aD b) G3 rfl rfl rfl rfl rfl rfl i6 ?_);refine wd [8,9,10] ?_;(first|refine s_ 11 ?_|refine t_ 11 ?_|refine B8 11 rfl R6 (aD b) G3 rfl rfl rfl rfl rfl rfl i6 ?_);refine h_ 12 rfl i6 ?_;(first|refine u_ ?_|(refine v_ ?_;refine c_ rfl (O8 _ _) qw rfl ?_));refine D7 [13] ?_;refine p7 rfl ?_ ?_<;>intro h
    ·refine E8 ?_;exact l8 (i:=j) (j-1) qb qb sub i_
    ·refine x6 ?_;exact g_ j s i_
   ·refine x6 ?_;refine D8 [7,11] [] [B9 a n c m] 14 ?_;refine wd [0,1] ?_;refine w_ 2 rfl ((H4 rfl rfl).eq (v':=.bool false) (qn (Qk f))) ?_;refine wd [3,4,5,6,7,8,9,10,11] ?_;refine h_ 12 rfl i6 ?_;(first|refine u_ ?_|(refine v_ ?_;fail));refine D7 [13] ?_;exact g_ j s i_
  intro j s;refine eV ?_ ?_<;>intro h
  ·refine x6 ?_;exact g_ (i,m) ⟨by simp only;omega,by simp only;omega,hs⟩ i_
  have f:i<=j:=by have:=zu h;omega
  refine x6 ?_;refine D8 [7,11] [13,15] [B9 a n c m] 16 ?_;refine wd [0,1,2,3,4,5,6] ?_;refine o7 7 rfl R6 (aD b) G3 rfl rfl rfl i6 ?_;refine wd [8,9,10] ?_;refine o7 11 rfl R6 (aD b) G3 rfl rfl rfl i6 ?_;refine wd [12] ?_;refine h_ 13 rfl i6 ?_;refine X4 b ?_;refine D7 [14] ?_;refine h_ 15 rfl i6 ?_;refine S8 b ?_;refine D7 [] ?_;refine Y1 ?_;exact l8 (i:=(k,e,m)) (i+1,j-1,_) ⟨by simp only;omega,by simp only;omega,hs.swap (n:=n) qb qb b⟩ qg sub i_
 rintro⟨i,m⟩ ⟨t,u,hs⟩;simp only at t u hs;refine M4 ?_;exact d_ rfl rfl _ ⟨i,m,⟨t,u⟩,hs,rfl,rfl⟩ i_
def Mq(a:qr)(n c:Nat)(l:zz)(hl:l.length=n)(x y p:Int)(hx:0<=x)(C:x+1<y)(Q:y<=n)(hp:x<=p/\p<y)(S:n<=1000000000):Ct prog 451 [.slice a n c,iI x,iI y,iI p] (fun _=>True) [B9 a n c l] (fun v A=>∃r q m,(x<=r/\r<y)/\Sm l m/\v=.tuple #[iI r,.bool q]/\A=[B9 a n c m]):=by
 refine b_ 168 func451 rfl rfl rfl ?_;intro F _;refine B7 (a:=a) (n:=n) (c:=c) (sz:=1) (xs:=nV l) (te:=27) ud fun _ D f=>?_;have f:=f qb;refine A5 ?_;refine D8 [7,11] [13,15] [B9 a n c l] 16 ?_;refine wd [0,1,2,3,4,5,6] ?_;refine o7 7 rfl R6 (aD hl) G3 rfl rfl rfl i6 ?_;refine wd [8,9,10] ?_;refine o7 11 rfl R6 (aD hl) G3 rfl rfl rfl i6 ?_;refine wd [12] ?_;refine h_ 13 rfl i6 ?_;refine X4 hl ?_;refine D7 [14] ?_;refine h_ 15 rfl i6 ?_;refine S8 hl ?_;refine D7 [] ?_;have k:=(Sm.refl l).swap (i:=x) (j:=p) (n:=n) qb qb hl;obtain⟨d,w⟩:=o9 ((l.set x.toNat (l.getD p.toNat 0)).set p.toNat (l.getD x.toNat 0));rw[<-w] at k⊢;have b:d.length=n:=k.len.trans hl;refine I6 6 ?_;refine n8 (ι:=Int) (fun i=>x+1<=i/\i<=y) (fun i=>[(0,.slice a n c),(1,iI x),(10,iI i),(11,iI (y-1))]) (fun _=>[B9 a n c d]) ?_ ?_
 ·refine o0 ?_;refine o8 (ι:=Int) (fun i=>x+1<=i/\i<=y) (fun i=>[(0,.slice a n c),(1,iI x),(10,iI i),(11,iI (y-1))]) (fun _=>[B9 a n c d]) (fun i=>(y-i).toNat) (x+1) qb sub i_ ?_;intro i t;by_cases e:i<=y-1
  ·refine x6 ?_;refine D8 [7,11] [] [B9 a n c d] 14 ?_;refine wd [0,1] ?_;refine w_ 2 rfl ((H4 rfl rfl).eq (v':=.bool true) (qn (ju e))) ?_;refine wd [3,4,5,6] ?_;(first|refine s_ 7 ?_|refine t_ 7 ?_|refine B8 7 rfl R6 (aD b) G3 rfl rfl rfl rfl rfl rfl i6 ?_);refine wd [8,9,10] ?_;(first|refine s_ 11 ?_|refine t_ 11 ?_|refine B8 11 rfl R6 (aD b) G3 rfl rfl rfl rfl rfl rfl i6 ?_);refine h_ 12 rfl i6 ?_;(first|refine u_ ?_|(refine v_ ?_;refine c_ rfl (O8 _ _) qw rfl ?_));refine D7 [13] ?_;refine p7 rfl ?_ ?_<;>intro h
   ·refine E8 ?_;exact l8 (i:=i) (i+1) qb qb sub i_
   ·refine x6 ?_;exact g_ i t i_
  ·refine x6 ?_;refine D8 [7,11] [] [B9 a n c d] 14 ?_;refine wd [0,1] ?_;refine w_ 2 rfl ((H4 rfl rfl).eq (v':=.bool false) (qn (Qk e))) ?_;refine wd [3,4,5,6,7,8,9,10,11] ?_;refine h_ 12 rfl i6 ?_;(first|refine u_ ?_|(refine v_ ?_;fail));refine D7 [13] ?_;exact g_ i t i_
 intro i t;refine I6 0 ?_;refine n8 (ι:=Int) (fun j=>x<=j/\j<y) (fun j=>[(0,.slice a n c),(1,iI x),(10,iI i),(11,iI j)]) (fun _=>[B9 a n c d]) ?_ ?_
 ·refine o0 ?_;refine o8 (ι:=Int) (fun j=>x<=j/\j<y) (fun j=>[(0,.slice a n c),(1,iI x),(10,iI i),(11,iI j)]) (fun _=>[B9 a n c d]) (fun j=>j.toNat) (y-1) qb sub i_ ?_;intro j g;by_cases e:i<=j
  ·refine x6 ?_;refine D8 [7,11] [] [B9 a n c d] 15 ?_;refine wd [0,1] ?_;refine w_ 2 rfl ((H4 rfl rfl).eq (v':=.bool true) (qn (ju e))) ?_;refine wd [3,4,5,6] ?_;(first|refine s_ 7 ?_|refine t_ 7 ?_|refine B8 7 rfl R6 (aD b) G3 rfl rfl rfl rfl rfl rfl i6 ?_);refine wd [8,9,10] ?_;(first|refine s_ 11 ?_|refine t_ 11 ?_|refine B8 11 rfl R6 (aD b) G3 rfl rfl rfl rfl rfl rfl i6 ?_);refine h_ 12 rfl i6 ?_;(first|refine u_ ?_|(refine v_ ?_;refine c_ rfl (O8 _ _) qw rfl ?_));refine D7 [13,14] ?_;refine p7 rfl ?_ ?_<;>intro h
   ·refine E8 ?_;exact l8 (i:=j) (j-1) qb qb sub i_
   ·refine x6 ?_;exact g_ j g i_
  ·refine x6 ?_;refine D8 [7,11] [] [B9 a n c d] 15 ?_;refine wd [0,1] ?_;refine w_ 2 rfl ((H4 rfl rfl).eq (v':=.bool false) (qn (Qk e))) ?_;refine wd [3,4,5,6,7,8,9,10,11] ?_;refine h_ 12 rfl i6 ?_;(first|refine u_ ?_|(refine v_ ?_;fail));refine D7 [13,14] ?_;exact g_ j g i_
 intro j g;refine eV ?_ ?_<;>intro h
 ·refine x6 ?_;refine D8 [7,11] [13,15] [B9 a n c d] 16 ?_;refine wd [0,1,2,3,4,5,6] ?_;refine o7 7 rfl R6 (aD b) G3 rfl rfl rfl i6 ?_;refine wd [8,9,10] ?_;refine o7 11 rfl R6 (aD b) G3 rfl rfl rfl i6 ?_;refine wd [12] ?_;refine h_ 13 rfl i6 ?_;refine X4 b ?_;refine D7 [14] ?_;refine h_ 15 rfl i6 ?_;refine S8 b ?_;refine D7 [] ?_;refine cn ?_;exact w8 rfl rfl rfl _ ⟨j,true,_,g,k.swap (i:=j) (j:=x) (n:=n) qb qb b,rfl,rfl⟩ i_
 have e:i<=j:=by have:=zu h;omega
 refine x6 ?_;refine D8 [7,11] [13,15] [B9 a n c d] 16 ?_;refine wd [0,1,2,3,4,5,6] ?_;refine o7 7 rfl R6 (aD b) G3 rfl rfl rfl i6 ?_;refine wd [8,9,10] ?_;refine o7 11 rfl R6 (aD b) G3 rfl rfl rfl i6 ?_;refine wd [12] ?_;refine h_ 13 rfl i6 ?_;refine X4 b ?_;refine D7 [14] ?_;refine h_ 15 rfl i6 ?_;refine S8 b ?_;refine D7 [] ?_;have s:=k.swap (i:=i) (j:=j) (n:=n) qb qb b;obtain⟨J,z⟩:=o9 ((d.set i.toNat (d.getD j.toNat 0)).set j.toNat (d.getD i.toNat 0));rw[<-z] at s⊢;refine I6 6 ?_;refine n8 (ι:=Int×zz) (fun j=>(x<=j.1/\j.1<y)/\Sm l j.2) (fun j=>[(0,.slice a n c),(1,iI x),(11,iI j.1)]) (fun j=>[B9 a n c j.2]) ?_ ?_
 ·refine o0 ?_;refine P7 (fun(i j:Int) (m:zz)=>(x+2<=i/\i<=y+1)/\(i<=j+2/\j<y)/\Sm l m) (fun i j m=>[(0,.slice a n c),(1,iI x),(10,iI i),(11,iI j)]) (fun i j m=>[B9 a n c m]) (fun i j m=>(j-i+3).toNat) (i+1) (j-1) J ⟨by omega,by omega,s⟩ sub i_ ?_;rintro u o m ⟨M,O,hs⟩;have b:m.length=n:=hs.len.trans hl;refine I6 0 ?_;refine o0 ?_;refine I6 0 ?_;refine n8 (ι:=Int) (fun i=>u<=i/\i<=o+2) (fun i=>[(0,.slice a n c),(1,iI x),(10,iI i),(11,iI o)]) (fun _=>[B9 a n c m]) ?_ ?_
  ·refine o0 ?_;refine o8 (ι:=Int) (fun i=>u<=i/\i<=o+2) (fun i=>[(0,.slice a n c),(1,iI x),(10,iI i),(11,iI o)]) (fun _=>[B9 a n c m]) (fun i=>(y-i).toNat) u qb sub i_ ?_;intro i t;by_cases e:i<=o
   ·refine x6 ?_;refine D8 [7,11] [] [B9 a n c m] 14 ?_;refine wd [0,1] ?_;refine w_ 2 rfl ((H4 rfl rfl).eq (v':=.bool true) (qn (ju e))) ?_;refine wd [3,4,5,6] ?_;(first|refine s_ 7 ?_|refine t_ 7 ?_|refine B8 7 rfl R6 (aD b) G3 rfl rfl rfl rfl rfl rfl i6 ?_);refine wd [8,9,10] ?_;(first|refine s_ 11 ?_|refine t_ 11 ?_|refine B8 11 rfl R6 (aD b) G3 rfl rfl rfl rfl rfl rfl i6 ?_);refine h_ 12 rfl i6 ?_;(first|refine u_ ?_|(refine v_ ?_;refine c_ rfl (O8 _ _) qw rfl ?_));refine D7 [13] ?_;refine p7 rfl ?_ ?_<;>intro h
    ·refine E8 ?_;exact l8 (i:=i) (i+1) qb qb sub i_
    ·refine x6 ?_;exact g_ i t i_
   ·refine x6 ?_;refine D8 [7,11] [] [B9 a n c m] 14 ?_;refine wd [0,1] ?_;refine w_ 2 rfl ((H4 rfl rfl).eq (v':=.bool false) (qn (Qk e))) ?_;refine wd [3,4,5,6,7,8,9,10,11] ?_;refine h_ 12 rfl i6 ?_;(first|refine u_ ?_|(refine v_ ?_;fail));refine D7 [13] ?_;exact g_ i t i_
  intro i t;refine I6 0 ?_;refine n8 (ι:=Int) (fun j=>i<=j+2/\j<=o) (fun j=>[(0,.slice a n c),(1,iI x),(10,iI i),(11,iI j)]) (fun _=>[B9 a n c m]) ?_ ?_
  ·refine o0 ?_;refine o8 (ι:=Int) (fun j=>i<=j+2/\j<=o) (fun j=>[(0,.slice a n c),(1,iI x),(10,iI i),(11,iI j)]) (fun _=>[B9 a n c m]) (fun j=>(j+2).toNat) o qb sub i_ ?_;intro j g;by_cases e:i<=j
   ·refine x6 ?_;refine D8 [7,11] [] [B9 a n c m] 15 ?_;refine wd [0,1] ?_;refine w_ 2 rfl ((H4 rfl rfl).eq (v':=.bool true) (qn (ju e))) ?_;refine wd [3,4,5,6] ?_;(first|refine s_ 7 ?_|refine t_ 7 ?_|refine B8 7 rfl R6 (aD b) G3 rfl rfl rfl rfl rfl rfl i6 ?_);refine wd [8,9,10] ?_;(first|refine s_ 11 ?_|refine t_ 11 ?_|refine B8 11 rfl R6 (aD b) G3 rfl rfl rfl rfl rfl rfl i6 ?_);refine h_ 12 rfl i6 ?_;(first|refine u_ ?_|(refine v_ ?_;refine c_ rfl (O8 _ _) qw rfl ?_));refine D7 [13,14] ?_;refine p7 rfl ?_ ?_<;>intro h
    ·refine E8 ?_;exact l8 (i:=j) (j-1) qb qb sub i_
    ·refine x6 ?_;exact g_ j g i_
   ·refine x6 ?_;refine D8 [7,11] [] [B9 a n c m] 15 ?_;refine wd [0,1] ?_;refine w_ 2 rfl ((H4 rfl rfl).eq (v':=.bool false) (qn (Qk e))) ?_;refine wd [3,4,5,6,7,8,9,10,11] ?_;refine h_ 12 rfl i6 ?_;(first|refine u_ ?_|(refine v_ ?_;fail));refine D7 [13,14] ?_;exact g_ j g i_
  intro j g;refine eV ?_ ?_<;>intro h
  ·refine x6 ?_;exact g_ (j,m) ⟨by simp only;omega,hs⟩ i_
  have e:i<=j:=by have:=zu h;omega
  refine x6 ?_;refine D8 [7,11] [13,15] [B9 a n c m] 16 ?_;refine wd [0,1,2,3,4,5,6] ?_;refine o7 7 rfl R6 (aD b) G3 rfl rfl rfl i6 ?_;refine wd [8,9,10] ?_;refine o7 11 rfl R6 (aD b) G3 rfl rfl rfl i6 ?_;refine wd [12] ?_;refine h_ 13 rfl i6 ?_;refine X4 b ?_;refine D7 [14] ?_;refine h_ 15 rfl i6 ?_;refine S8 b ?_;refine D7 [] ?_;refine Y1 ?_;exact l8 (i:=(u,o,m)) (i+1,j-1,_) ⟨by simp only;omega,by simp only;omega,hs.swap (n:=n) qb qb b⟩ qg sub i_
 rintro⟨j,m⟩ ⟨g,hs⟩;simp only at g hs;have b:m.length=n:=hs.len.trans hl;refine x6 ?_;refine D8 [7,11] [13,15] [B9 a n c m] 16 ?_;refine wd [0,1,2,3,4,5,6] ?_;refine o7 7 rfl R6 (aD b) G3 rfl rfl rfl i6 ?_;refine wd [8,9,10] ?_;refine o7 11 rfl R6 (aD b) G3 rfl rfl rfl i6 ?_;refine wd [12] ?_;refine h_ 13 rfl i6 ?_;refine X4 b ?_;refine D7 [14] ?_;refine h_ 15 rfl i6 ?_;refine S8 b ?_;refine D7 [] ?_;refine cn ?_;exact w8 rfl rfl rfl _ ⟨j,false,_,g,hs.swap (i:=j) (j:=x) (n:=n) qb qb b,rfl,rfl⟩ i_
def BB(x:Nat)(hx:x<=1000000000):Pu prog 191 [.int .u64 (x:Nat)] (fun _=>True) (.int .i64 (Lib.bitLen x:Nat)):=V3 fun w _=>by
 have:=Tryz.bits_Len (x:Nat) w qb qb
 rwa [Qy] at this
def wJ:∀(f x:Nat),0<x->2^(Lib.bitLenAux f x)<=2*x
 |0,x,h=>by simp[Lib.bitLenAux];omega
 |f+1,x,h=>by
  rw[Lib.bitLenAux];split
  ·omega
  ·rcases Zq (x/2) with a|a
   ·have:Lib.bitLenAux f (x/2)=0:=(by rw[a];cases f<;>simp[Lib.bitLenAux]);rw[this];omega
   ·have:=wJ f (x/2) a;rw[Wm 1,Yj];omega
def Mr(x:Nat)(h:0<x):2^(Lib.bitLen x)<=2*x:=wJ 64 x h
def BC(x:Nat)(h:x<=1000000000):Lib.bitLen x<=30:=Lib.bitLen_le x 30 qb qb
def Ms(x:Int)(c:8<=x)(hx:x<=1000000000):∃k:Nat,k<=30/\(2^k:Nat)<=2*x/\Pu prog 332 [iI x] (fun _=>True) (.int .u64 ((2^k:Nat):Int)):=by
 have a:=BC x.toNat qb;have d:=Mr x.toNat qb;refine⟨Lib.bitLen x.toNat,a,by omega,?_⟩;refine b_ 7 func332 rfl rfl rfl ?_;intro F _;refine A5 ?_;refine f_ ((A3 rfl qb).eq (v':=.int .u64 ((x.toNat:Nat):Int)) (by congr 1;omega)) ?_;refine c_ rfl (BB x.toNat qb) qw rfl ?_;refine f_ ((Az rfl rfl qb).eq (v':=.int .u64 ((2^(Lib.bitLen x.toNat):Nat):Int)) (by(have b:min ((Lib.bitLen x.toNat:Nat):Int).toNat IntKind.u64.bits=Lib.bitLen x.toNat:=by(simp[IntKind.bits];omega));(have e:(2:Nat)^(Lib.bitLen x.toNat)<=2^30:=Nat.pow_le_pow_right qb a);rw[b,IntKind.wrap_u64,Int.one_mul];congr 1;show((2:Nat):Int)^(Lib.bitLen x.toNat)%_=_;rw[<-Yx];generalize (2:Nat)^(Lib.bitLen x.toNat)=M at*;omega)) ?_;refine D0 ?_;exact d_ rfl rfl [] qh (fun _ h=>h)
abbrev wK(g:Nat)(r:Int):As:=.blk g (.cells #[.int .u64 r] 359)
def Mt(g:Nat)(r:Int)(t:0<=r/\r<18446744073709551616):Ct prog 333 [i8 g] (fun _=>True) [wK g r] (fun v A=>∃h:Int,(0<=h/\h<18446744073709551616)/\v=.int .u64 h/\A=[wK g h]):=by
 have l:∀p q:Int,0<=p->p<18446744073709551616->0<=q->q<18446744073709551616->0<=bits .xor .u64 p q/\bits .xor .u64 p q<18446744073709551616:=fun p q i n o u=>by
  obtain⟨m,rfl⟩:=J2 i;obtain⟨k,rfl⟩:=J2 o;have e:bits .xor .u64 (m:Int) (k:Int)=((m^^^k:Nat):Int):=u64_xor_nat m k qb qb;have w:m^^^k<2^64:=Nat.xor_lt_two_pow qb qb;rw[e];omega
 have j:∀p:Int,0<=IntKind.u64.wrap p/\IntKind.u64.wrap p<18446744073709551616:=fun p=>by rw[IntKind.wrap_u64];omega
 have hf:∀p:Int,0<=p->p<18446744073709551616->0<=p.fdiv (2^(min (Int.toNat 7) IntKind.u64.bits))/\p.fdiv (2^(min (Int.toNat 7) IntKind.u64.bits))<18446744073709551616:=fun p i n=>by
  have e:(2:Int)^(min (Int.toNat 7) IntKind.u64.bits)=128:=by decide
  rw[e,Jg _ qb];omega
 refine b_ 33 func333 rfl rfl rfl ?_;intro F _;refine u6 ?_;obtain⟨b,i,a⟩:∃b,b=bits .xor .u64 r (IntKind.u64.wrap (r*2^(min (Int.toNat 13) IntKind.u64.bits)))/\(0<=b/\b<18446744073709551616):=⟨_,rfl,l _ _ t.1 t.2 (j _).1 (j _).2⟩;refine x6 ?_;refine D8 [2,5] [9] [wK g r] 10 ?_;refine wd [0,1,2,3,4,5,6,7,8,9] ?_;rw[<-i];obtain⟨c,n,d⟩:∃c,c=bits .xor .u64 b (b.fdiv (2^(min (Int.toNat 7) IntKind.u64.bits)))/\(0<=c/\c<18446744073709551616):=⟨_,rfl,l _ _ a.1 a.2 (hf _ a.1 a.2).1 (hf _ a.1 a.2).2⟩;refine x6 ?_;refine D8 [2,5] [9] [wK g b] 10 ?_;refine wd [0,1,2,3,4,5,6,7,8,9] ?_;rw[<-n];obtain⟨f,o,s⟩:∃f,f=bits .xor .u64 c (IntKind.u64.wrap (c*2^(min (Int.toNat 17) IntKind.u64.bits)))/\(0<=f/\f<18446744073709551616):=⟨_,rfl,l _ _ d.1 d.2 (j _).1 (j _).2⟩;refine x6 ?_;refine D8 [2,5] [9] [wK g c] 10 ?_;refine wd [0,1,2,3,4,5,6,7,8,9] ?_;rw[<-o];refine KH ?_;exact d_ rfl rfl _ ⟨f,s,rfl,rfl⟩ i_
def Mu(a:qr)(n c:Nat)(x y:Int)(hx:0<=x)(Q:x+8<=y)(hy:y<=n)(hn:n<=1000000000):pD 445 a n c [iI x,iI y]:=by
 intro l S;obtain⟨k,hk,C,t⟩:=Ms (y-x) qb qb;obtain⟨M,D⟩:=o9 (2^k);have T:1<=M:=by rw[D];exact Nat.one_le_two_pow
 rw[<-D] at C t;refine b_ 65 func445 rfl rfl rfl ?_;intro F _;refine B7 (a:=a) (n:=n) (c:=c) (sz:=1) (xs:=nV l) (te:=27) ud fun _ U b=>?_;have b:=b qb;refine al ?_;refine f_ ((K_ rfl rfl).eq (v':=.bool true) (qn qk)) ?_;refine A5 ?_;refine cA rfl rfl ?_;intro s;refine A5 ?_;refine c_ rfl t qw rfl ?_;refine wk 8 ?_;obtain⟨q,V,X,Y⟩:∃q:Int,q=(y-x)/4/\2<=q/\q*4<=y-x:=⟨_,rfl,by omega,by omega⟩;refine P7 (fun(i r:Int) (m:zz)=>(x+q*2-1<=i/\i<=x+q*2+2)/\(0<=r/\r<18446744073709551616)/\Sm l m) (fun i r m=>[(0,.slice a n c),(1,iI x),(6,iI (y-x)),(7,i8 s),(8,.int .u64 (M:Nat)),(9,iI i)]) (fun i r m=>[B9 a n c m,wK s r]) (fun i r m=>(x+q*2+3-i).toNat) (x+q*2-1) (y-x) l ⟨by omega,by omega,.refl _⟩ (by rw[V];exact sub) (fun w d=>y9.left tk d) ?_;rintro i r m ⟨hi,Z,hs⟩;have f:m.length=n:=hs.len.trans S;refine wk 8 ?_;refine p7 rfl ?_ ?_<;>intro h
 ·have h5:i<=x+q*2+1:=by have:=zy h;omega
  refine x6 ?_;refine n8 (ι:=Int×Int) (fun o=>(0<=o.1/\o.1<M)/\0<=o.2/\o.2<18446744073709551616) (fun o=>[(0,.slice a n c),(1,iI x),(6,iI (y-x)),(7,i8 s),(8,.int .u64 (M:Nat)),(9,iI i),(10,iI o.1)]) (fun o=>[B9 a n c m,wK s o.2]) ?_ ?_
  ·refine D1 ?_;refine e_ (Mt s r Z) qw ?_;rintro v A ⟨u,g,rfl,rfl⟩;obtain⟨o,J,O,z⟩:∃o,o=bits .and .u64 u ((M:Nat)-1:Int)/\0<=o/\o<M:=(by{refine⟨_,rfl,?_⟩;obtain⟨p,rfl⟩:=J2 g.1;(have e:bits .and .u64 (p:Int) ((M-1:Nat):Int)=((p&&&(M-1):Nat):Int):=u64_and_nat p (M-1) qb qb);rw[show((M:Nat):Int)-1=((M-1:Nat):Int) from by omega,e,D,Nat.and_two_pow_sub_one_eq_mod];have:=Nat.mod_lt p (show 0<2^k by omega);omega});refine A5 ?_;refine f_ ((lh (.inl rfl) rfl rfl).eq (v':=.int .u64 o) (by rw[J])) ?_;refine A5 ?_;exact g_ (o,u) ⟨⟨O,z⟩,g⟩ (fun w d=>y9.left tk d)
  rintro⟨o,u⟩ ⟨J,g⟩;simp only at J g;refine E8 ?_;refine n8 (ι:=Int) (fun o=>0<=o/\o<y-x) (fun o=>[(0,.slice a n c),(1,iI x),(6,iI (y-x)),(7,i8 s),(8,.int .u64 (M:Nat)),(9,iI i),(10,iI o)]) (fun _=>[B9 a n c m,wK s u]) ?_ ?_
  ·refine p7 rfl ?_ ?_<;>intro h
   ·have h6:y-x<=o:=zy h;refine P1 ?_;exact g_ (o-(y-x)) qb (fun w d=>y9.left tk d)
   ·have h6:¬y-x<=o:=zu h;refine x6 ?_;exact g_ o qb (fun w d=>y9.left tk d)
  intro o2 z;refine x6 ?_;refine D8 [11,15] [17,19] [B9 a n c m] 20 ?_;refine wd [0,1,2,3,4,5,6,7,8,9,10] ?_;refine o7 11 rfl R6 (aD f) G3 rfl rfl rfl i6 ?_;refine wd [12,13,14] ?_;refine o7 15 rfl R6 (aD f) G3 rfl rfl rfl i6 ?_;refine wd [16] ?_;refine h_ 17 rfl i6 ?_;refine X4 f ?_;refine D7 [18] ?_;refine h_ 19 rfl i6 ?_;refine S8 f ?_;refine D7 [] ?_;refine E8 ?_;exact l8 (i:=(i,r,m)) (i+1,u,_) ⟨by simp only;omega,by simp only;omega,hs.swap (i:=i) (j:=x+o2) (n:=n) qb qb f⟩ qg sub (fun w d=>y9.left tk d)
 ·refine x6 ?_;exact m6 rfl _ ⟨rfl,m,hs,rfl⟩ (fun w d=>y9.left tk d)
end Go.Proofs.YtmcepdopookilaaGreatDoor.Rp
namespace Go.Sl
open Go Go.RowKit Go.Proofs.Tryz
section
variable{P:zj}{N:Nat}{K R:A1}{E:List (Nat×A1)}{L:G9}{F:l9}{H:List As}
def gP{α β γ δ ε ζ:Type}{c:Code}(b:α->β->γ->δ->ε->ζ->Prop)(d:α->β->γ->δ->ε->ζ->G9)(HI:α->β->γ->δ->ε->ζ->List As)(μ:α->β->γ->δ->ε->ζ->Nat)(e:α)(f:β)(z0:γ)(g:δ)(v0:ε)(w0:ζ)(i:b e f z0 g v0 w0)(k:fE (d e f z0 g v0 w0) L)(hH:∀w,Hp F w H->Hp F w (HI e f z0 g v0 w0))(round:∀x y z u v q,b x y z u v q->G P N c (fun a w=>∃j:α×β×γ×δ×ε×ζ,b j.1 j.2.1 j.2.2.1 j.2.2.2.1 j.2.2.2.2.1 j.2.2.2.2.2/\μ j.1 j.2.1 j.2.2.1 j.2.2.2.1 j.2.2.2.2.1 j.2.2.2.2.2<μ x y z u v q/\H5 N (d j.1 j.2.1 j.2.2.1 j.2.2.2.1 j.2.2.2.2.1 j.2.2.2.2.2) a/\Hp F w (HI j.1 j.2.1 j.2.2.1 j.2.2.2.1 j.2.2.2.2.1 j.2.2.2.2.2)) E R (d x y z u v q) F (HI x y z u v q)):G P N (.loop c) K E R L F H:=
 o8 (ι:=α×β×γ×δ×ε×ζ) (fun j=>b j.1 j.2.1 j.2.2.1 j.2.2.2.1 j.2.2.2.2.1 j.2.2.2.2.2) (fun j=>d j.1 j.2.1 j.2.2.1 j.2.2.2.1 j.2.2.2.2.1 j.2.2.2.2.2) (fun j=>HI j.1 j.2.1 j.2.2.1 j.2.2.2.1 j.2.2.2.2.1 j.2.2.2.2.2) (fun j=>μ j.1 j.2.1 j.2.2.1 j.2.2.2.1 j.2.2.2.2.1 j.2.2.2.2.2) (e,f,z0,g,v0,w0) i k hH fun j h=>round j.1 j.2.1 j.2.2.1 j.2.2.2.1 j.2.2.2.2.1 j.2.2.2.2.2 h
end
end Go.Sl
namespace Go.Proofs.YtmcepdopookilaaGreatDoor.Rp
open Go Go.Sl Go.RowKit Go.Proofs.Tryz
def BD(a:qr)(n c:Nat)(C:n<=1000000000):∀(b:Nat) (x y d:Int),(y-x).toNat<b->0<=x->x<=y->y<=n->0<=d->d<=1000->pD 434 a n c [iI x,iI y,iI d]
 |0,x,y,d,h,_,_,_,_,_=>by omega
 |b+1,x0,y0,lim0,hb,hx0,hxy0,hy0,hl0,hl1=>by
  have ih:=BD a n c C b;intro l X;refine b_ 134 func434 rfl rfl rfl ?_;intro F _;refine B7 (a:=a) (n:=n) (c:=c) (sz:=1) (xs:=nV l) (te:=27) ud fun _ h4 w=>?_;refine A5 ?_;refine gP (fun(x y d:Int) (_ _:Bool) (m:zz)=>(x0<=x/\x<=y/\y<=y0)/\(0<=d/\d<=1000)/\Sm l m) (fun x y d f g _=>[(0,.slice a n c),(1,iI x),(2,iI y),(3,iI d),(8,.bool f),(9,.bool g)]) (fun _ _ _ _ _ m=>[B9 a n c m]) (fun x y _ _ _ _=>(y-x).toNat) x0 y0 lim0 true true l ⟨⟨Kd _,hxy0,Kd _⟩,⟨hl0,hl1⟩,.refl _⟩ sub i_ ?_;rintro x y d f g m ⟨h5,Y,hs⟩;have O:m.length=n:=hs.len.trans X;refine Y1 ?_;refine p7 rfl ?_ ?_<;>intro h
  ·refine E8 ?_;refine e_ (Mk a n c x y qb qb qb C m O) qw ?_;rintro v A ⟨rfl,z,j,rfl⟩;refine oK ?_;exact m6 rfl _ ⟨rfl,z,hs.trans j,rfl⟩ i_
  have h2:12<y-x:=by have:=zu h;omega
  have w:=w qb;refine bQ ?_ ?_<;>intro h
  ·refine E8 ?_;refine e_ (Hq a n c x y qb qb qb C m O) qw ?_;rintro v A ⟨rfl,z,j,rfl⟩;refine oK ?_;exact m6 rfl _ ⟨rfl,z,hs.trans j,rfl⟩ i_
  have h0:1<=d:=by have:=zu h;omega
  refine A5 ?_;refine n8 (ι:=Int×zz) (fun i=>(0<=i.1/\i.1<=1000)/\Sm l i.2) (fun i=>[(0,.slice a n c),(1,iI x),(2,iI y),(3,iI i.1),(8,.bool f),(9,.bool g),(10,iI (y-x))]) (fun i=>[B9 a n c i.2]) ?_ ?_
  ·refine p7 rfl ?_ ?_<;>intro h
   ·refine E8 ?_;refine e_ (Mu a n c x y qb qb qb C m O) qw ?_;rintro v A ⟨rfl,z,j,rfl⟩;refine E8 ?_;exact g_ (d-1,z) ⟨by simp only;omega,hs.trans j⟩ i_
   ·refine x6 ?_;exact g_ (d,m) ⟨Y,hs⟩ i_
  rintro⟨e,z⟩ ⟨o,j⟩;simp only at o j;have J:z.length=n:=j.len.trans X;refine E8 ?_;refine e_ (Mm a n c z J x y qb qb qb C) qw ?_;rintro v A ⟨p0,Q,h1,rfl,rfl⟩;refine wk 7 ?_;refine n8 (ι:=Int×Int×zz) (fun i=>(x<=i.1/\i.1<y)/\Sm l i.2.2) (fun i=>[(0,.slice a n c),(1,iI x),(2,iI y),(3,iI e),(8,.bool f),(9,.bool g),(10,iI (y-x)),(11,iI i.1),(12,iI i.2.1)]) (fun i=>[B9 a n c i.2.2]) ?_ ?_
  ·refine p7 rfl ?_ ?_<;>intro h
   ·refine E8 ?_;refine e_ (Ml a n c x y qb qb qb C z J) qw ?_;rintro v A ⟨rfl,V,s,rfl⟩;refine wk 8 ?_;exact g_ (y-1-(p0-x),1,V) ⟨by simp only;omega,j.trans s⟩ i_
   ·refine x6 ?_;exact g_ (p0,Q,z) ⟨h1,j⟩ i_
  rintro⟨p,h3,V⟩ ⟨hp,s⟩;simp only at hp s;have Z:V.length=n:=s.len.trans X;refine x6 ?_;refine n8 (ι:=Bool) (fun _=>True) (fun q=>[(0,.slice a n c),(1,iI x),(2,iI y),(3,iI e),(8,.bool f),(9,.bool g),(10,iI (y-x)),(11,iI p),(68,.bool q)]) (fun _=>[B9 a n c V]) ?_ ?_
  ·cases f<;>cases g
   all_goals (
    refine wk 8 ?_)
   all_goals exact g_ _ trivial i_
  rintro q _;refine x6 ?_;refine n8 (ι:=zz) (fun k=>Sm l k) (fun _=>[(0,.slice a n c),(1,iI x),(2,iI y),(3,iI e),(8,.bool f),(9,.bool g),(10,iI (y-x)),(11,iI p)]) (fun k=>[B9 a n c k]) ?_ ?_
  ·refine p7 rfl ?_ ?_<;>intro h
   ·refine E8 ?_;refine e_ (Mo a n c V Z x y qb qb qb C) qw ?_;rintro v A ⟨q2,D,u,rfl,rfl⟩;refine O_ ?_ ?_<;>intro h
    ·refine oK ?_;exact m6 rfl _ ⟨rfl,D,s.trans u,rfl⟩ i_
    ·refine x6 ?_;exact g_ D (s.trans u) i_
   ·refine x6 ?_;exact g_ V s i_
  intro D u;have t:D.length=n:=u.len.trans X;refine x6 ?_;refine n8 (ι:=Bool) (fun _=>True) (fun q=>[(0,.slice a n c),(1,iI x),(2,iI y),(3,iI e),(8,.bool f),(9,.bool g),(10,iI (y-x)),(11,iI p),(87,.bool q)]) (fun _=>[B9 a n c D]) ?_ ?_
  ·by_cases h6:0<x
   ·refine x6 ?_;refine D8 [7,11] [] [B9 a n c D] 15 ?_;refine wd [0] ?_;refine w_ 1 rfl ((E9 rfl rfl).eq (v':=.bool true) (qn (ju h6))) ?_;refine wd [2,3,4,5,6] ?_;(first|refine s_ 7 ?_|refine t_ 7 ?_|refine B8 7 rfl R6 (aD t) G3 rfl rfl rfl rfl rfl rfl i6 ?_);refine wd [8,9,10] ?_;(first|refine s_ 11 ?_|refine t_ 11 ?_|refine B8 11 rfl R6 (aD t) G3 rfl rfl rfl rfl rfl rfl i6 ?_);refine h_ 12 rfl i6 ?_;(first|refine u_ ?_|(refine v_ ?_;refine c_ rfl (O8 _ _) qw rfl ?_));refine D7 [13,14] ?_;exact g_ _ trivial i_
   ·refine x6 ?_;refine D8 [7,11] [] [B9 a n c D] 15 ?_;refine wd [0] ?_;refine w_ 1 rfl ((E9 rfl rfl).eq (v':=.bool false) (qn (Qk h6))) ?_;refine wd [2,3,4,5,6,7,8,9,10,11] ?_;refine h_ 12 rfl i6 ?_;(first|refine u_ ?_|(refine v_ ?_;fail));refine D7 [13,14] ?_;exact g_ false trivial i_
  rintro q3 _;refine O_ ?_ ?_<;>intro h
  ·refine P1 ?_;refine e_ (Mp a n c D t x y p qb qb qb hp C) qw ?_;rintro v A ⟨r,m5,hr,S,rfl,rfl⟩;refine E8 ?_;exact l8 (i:=(x,y,d,f,g,m)) (r,y,e,f,g,m5) ⟨by simp only;omega,o,u.trans S⟩ qg sub i_
  refine P1 ?_;refine e_ (Mq a n c D t x y p qb qb qb hp C) qw ?_;rintro v A ⟨r,q4,m5,hr,S,rfl,rfl⟩;refine al ?_;have T:=u.trans S;have M:m5.length=n:=T.len.trans X;refine wk 16 ?_;refine p7 rfl ?_ ?_<;>intro h
  ·refine wk 8 ?_;refine e_ (ih x r e qb qb qb qb qb qb m5 M) qw ?_;rintro v A ⟨rfl,m7,U,rfl⟩;refine E8 ?_;exact l8 (i:=(x,y,d,f,g,m)) (r+1,y,e,_,q4,m7) ⟨by simp only;omega,o,T.trans U⟩ qg sub i_
  ·refine wk 9 ?_;refine e_ (ih (r+1) y e qb qb qb qb qb qb m5 M) qw ?_;rintro v A ⟨rfl,m7,U,rfl⟩;refine A5 ?_;exact l8 (i:=(x,y,d,f,g,m)) (x,r,e,_,q4,m7) ⟨by simp only;omega,o,T.trans U⟩ qg sub i_
def Hs(a:qr)(n c:Nat)(b:n<=1000000000):pD 421 a n c []:=by
 intro l e;refine b_ 11 func421 rfl rfl rfl ?_;intro F _;refine Y1 ?_;refine f_ ((A3 rfl qb).eq (v':=.int .u64 ((n:Nat):Int)) rfl) ?_;refine c_ rfl (BB n b) qw rfl ?_;refine e_ (BD a n c b (n+1) 0 n (Lib.bitLen n:Nat) qb qb qb qb qb (by have:=BC n b;omega) l e) qw ?_;rintro v A ⟨rfl,f,d,rfl⟩;refine x6 ?_;exact m6 rfl _ ⟨rfl,f,d,rfl⟩ i_
end Go.Proofs.YtmcepdopookilaaGreatDoor.Rp
namespace Go.Sl
open Go Go.RowKit Go.Proofs.YtmcepdopookilaaGreatDoor.Rp Go.Proofs.Tryz
def muI(es:Array MapEntry)(g:Nat)(w:World):Nat:=match w.heap[g]? with
 |some (.mapIter _ _ seen _)=>(leftOf es seen).size
 |_=>0
def Ht{e:Array MapEntry}{g cs d c0:Nat}{b:Option Nat}{a:Array Nat}{c:List KV}{w:World}(h:w.heap[g]? =some (.mapIter b d a c0))(f:cx e cs d a c0 c):muI e g w=c.length:=by
 unfold muI;rw[h,<-f.left.length_eq];simp
def sy{W c:World}{g:Nat}{o:Obj}{A:List As}(h:Hp (w6 W [g]) c A)(d:c.heap[g]? =some o):W.grownBy c (some g):=by
 have f:∀k,k<W.heap.size->k≠g->c.heap[k]? =W.heap[k]?:=fun k f a=>by
  have e:W.heap[k]? =some W.heap[k]:=Zz f;rw[e];exact h.keep k _ (by show F6 W [g] k=_;simp[F6,a])
 refine⟨h.os,h.tape,h.output,?_,fun k b a=>f k b (fun e=>a (by rw[e]))⟩;rcases Q6 c.heap.size W.heap.size with b|i
 ·have a:c.heap.size≠g:=fun e=>by rw[<-e] at d;simp at d
  have j:=f c.heap.size b a;rw[Zz b] at j;simp at j
 ·exact i
end Go.Sl
namespace Go.Proofs.YtmcepdopookilaaGreatDoor.Rp
open Go Go.Sl Go.RowKit Go.Proofs.Tryz
def I8{F:l9}{w:World}{H:List As}{b o:Nat}{cs:Array Value}{te:zk}{fr:Nat×Nat}{v:Value}(c:Hp F w H)(d:F.heap b=some (.cells cs te fr))(hv:cs[o]? =some v):M9 (hp w) (some ⟨b,o,none⟩) [v]:=
 ⟨_,rfl,fun j q a=>by
  match j,a with
  |0,a=>
   simp at a;subst a;have e:=c.keep b _ d;have f:w.heap[b]? =some (.cells cs te fr):=e;simp[l_.cell?,hp,Addr.add,f,hv]⟩
def be{P:zj}{fn:Func}{R:Ending->World->Prop}{N:Nat}{L:G9}{a:Act}{w:World}(b:fn.results=#[])(hf:H5 N L a)(h:R (.returned (.tuple #[])) w):bodyPost P fn R .normal a w/\bodyPost P fn R .ret a w:=
 ⟨⟨hf.defers,_,results_none b _ _ _,h⟩,⟨hf.defers,_,results_none b _ _ _,h⟩⟩
abbrev PW(x:Nat):Array Value:=#[.int .u64 (x:Nat)]
abbrev DW(x:Nat):Prop:=0<x/\x<18446744073709551616
abbrev PX(kv:KV):Prop:=∃x:Nat,DW x/\kv.1=.int .u64 (x:Nat)
abbrev DX(ms:List KV)(ys:zz):Prop:=ys.length<=ms.length/\∀x∈ys,DW x
def wL(c X cs:Nat)(u:Array MapEntry)(M:List KV)(hm:O5 (.int .u64) u cs M)(hk:∀kv∈M,PX kv)(w0:World)(Y:w0.heap[c]? =some (.map u cs))(hB:w0.heap[X]? =some (.cells #[.map (some c)] 406 (0,0)))(n:Nat):
  SeqStopsK Fence.wide n prog 422 #[i8 X] PW KeepsWalks (DX M) (fun _=>True) M.length w0:=by
 intro l J Jx W hW hJ q0 hY h0;have q1:W.heap[c]? =some (.map u cs):=(hW.block c (jp.1 Y).1).trans Y;have q2:W.heap[X]? =some (.cells #[.map (some c)] 406 (0,0)):=(hW.block X (jp.1 hB).1).trans hB;refine callsIn_of_wp func422 rfl trivial ?_ rfl;refine(?_:GN none n prog 14 _ _ (aM 0 [.func (.yield l) #[] #[],i8 X]) (am W) []) _ _ (U3 14 _ rfl) (ap W);have q3:(am W).heap X=some (.cells #[.map (some c)] 406 (0,0)):=by rw[N0];exact q2
 have h2:(am W).heap c=some (.map u cs):=by rw[N0];exact q1
 refine N4 ?_;refine L4 ?_;refine D1 ?_;refine r_ (l5 rfl (fun w S=>I8 S q3 rfl)) ?_;refine Df rfl (fun w S=>S.keep c _ h2) hm rfl ?_;intro g z;refine x6 ?_;refine P_ ?_;refine bv ?_;intro a w q4 A;have d:w.heap[g]? =some (.mapIter (some c) cs #[] cs):=A.blk ud;have C:w.heap[c]? =some (.map u cs):=A.keep c _ h2;have h3:W.heap.size<=g:=by
  rcases Q6 g W.heap.size with h|h
  ·have h1:(am W).heap g=some W.heap[g]:=(by rw[N0];exact Zz h);obtain⟨bs,hs,_,hf⟩:=A.own;obtain⟨b1,b2,e,⟨e1,_⟩,_⟩:=hs;have:=hf g (by rw[e,e1];simp);rw[this] at h1;cases h1
  ·exact h
 refine wpIn_loop (fun a w=>∃(p:List KV) (f:Array Nat) (c0:Nat) (j:zz),H5 14 [(0,.func (.yield l) #[] #[]),(5,i8 g)] a/\J j w/\w.heap[c]? =some (.map u cs)/\w.heap[g]? =some (.mapIter (some c) cs f c0)/\cx u cs cs f c0 p/\j.length+p.length<=M.length/\(∀x∈j,DW x)/\∀kv∈p,PX kv) (fun _ w=>muI u g w)
  ⟨M,#[],cs,[],q4.sub sub,hJ [] W w none h0 (C1 A) (fun r e=>by cases e),C,d,z,by simp,by simp,hk⟩ ?_
 rintro a w ⟨p,f,c0,j,q5,h4,C,d,z,x9,h5,h6⟩;have q6:=Ht d z;have q7:c≠g:=by rintro rfl;rw[C] at d;cases d
 have T:(w6 w [g]).heap c=some (.map u cs):=by simp[w6,F6,q7,C]
 have q8:Hp (w6 w [g]) w [.blk g (.mapIter (some c) cs f c0)]:=Hp.start ⟨[g],[],rfl,⟨rfl,d⟩,rfl⟩ x7;refine(?_:GN none n prog 14 _ _ [(0,.func (.yield l) #[] #[]),(5,i8 g)] (w6 w [g]) [.blk g (.mapIter (some c) cs f c0)]) a w q5 q8;refine N4 ?_;refine L4 ?_;refine U2 ?_;refine FT (b:=c) (H':=fun s=>[.blk g (.mapIter (some c) cs s cs)]) rfl (fun w S=>S.keep c _ T) (fun s=>.here) z hm rfl (fun h=>?_) (fun k v U o hp h7 hl=>?_)
 ·refine u6 ?_;refine P_ ?_;refine N4 ?_;refine aV rfl (fun h=>absurd h qp) (fun _=>?_);refine AI ?_;unfold At;intro a2 Z t i;have q9:=sy i (i.blk ud);have Y:=be (P:=prog) (fn:=Tryz.f422) (R:=fun e q=>(∃v,e=.returned v)/\((∃j,DX M j/\J j q)\/(∃pre,True/\Jx pre q))) rfl t ⟨⟨_,rfl⟩,.inl ⟨j,⟨by omega,h5⟩,hJ _ w Z (some g) h4 q9 (fun r e=>by cases e;exact⟨h3,_,d,rfl⟩)⟩⟩;exact Y.1
 obtain⟨x,hx,ex⟩:=h6 (k,v) (hp.mem_iff.2 Qb);simp only at ex;subst ex;have x0:=hp.length_eq;rw[z1] at x0;refine u6 ?_;refine P_ ?_;refine N4 ?_;refine aV rfl (fun _=>?_) (fun h=>absurd h qp);refine eU ?_;refine P_ ?_;refine bv ?_;refine N4 ?_;refine L4 ?_;refine U2 ?_;refine r_ (FU rfl (fun w S=>S.keep c _ T) ud hl hm) ?_;refine A5 ?_;refine P_ ?_;refine N4 ?_;refine oB (pre:=List.take 2 _) (suf:=List.drop 2 _) (Qp 2 _).symm (.inl rfl) ?_;refine f_ oF ?_;refine f_ oF ?_;refine G5 ?_;unfold At;intro a1 w1 D V;have O:w1.heap[g]? =some (.mapIter (some c) cs o cs):=V.blk ud;have h8:w1.heap[c]? =some (.map u cs):=V.keep c _ T;have x1:J j w1:=hJ j w w1 (some g) h4 (sy V O) (fun r e=>by cases e;exact⟨h3,_,d,rfl⟩);have x2:=hY j x w1 x1 qb;refine vI (m:=n-1) (l:=l) (vs:=[.int .u64 (x:Nat)]) (D.eval (x:=.tmp 10) rfl) (by simp only[Q2,Jp];rw[D.eval (x:=.tmp 11) rfl];rfl) x2 rfl ?_;rintro e q (⟨rfl,x3,h9⟩|⟨rfl,k0⟩)
 ·refine⟨_,rfl,?_⟩;have k8:=h9.same g _ O rfl;have k9:=h9.same c _ h8 rfl;refine dg (F:=am q) (H:=[]) (.inl rfl) ?_ (D.put rfl _) (ap q);refine f_ oF ?_;refine G5 ?_;refine P_ ?_;refine aV rfl (fun h=>absurd h qp) (fun _=>?_);refine eU ?_;unfold At;intro a2 Z t i;have Q:Z.heap[g]? =some (.mapIter (some c) cs o cs):=i.keep g _ (by rw[N0];exact k8);refine⟨⟨U,o,cs,j++[x],t.sub sub,hJ _ q Z none x3 (C1 i) (fun r e=>by cases e),i.keep c _ (by rw[N0];exact k9),Q,h7,by rw[zg];simp only[z1,kx];omega,fun y hy=>?_,fun kv x5=>h6 kv (hp.mem_iff.2 (jn _ x5))⟩,?_⟩
  ·rcases kw.1 hy with hy|hy
   ·exact h5 y hy
   ·rw[z7.1 hy];exact hx
  ·rw[q6,Ht Q h7];omega
 ·refine⟨_,rfl,?_⟩;refine dg (F:=am q) (H:=[]) (.inl rfl) ?_ (D.put rfl _) (ap q);refine f_ oF ?_;refine G5 ?_;refine P_ ?_;refine aV rfl (fun _=>?_) (fun h=>absurd h qp);refine yl ?_;unfold At;intro a2 Z t i;have Y:=be (P:=prog) (fn:=Tryz.f422) (R:=fun e q=>(∃v,e=.returned v)/\((∃j,DX M j/\J j q)\/(∃pre,True/\Jx pre q))) rfl t ⟨⟨_,rfl⟩,.inr ⟨_,trivial,q0 _ q Z none k0 (C1 i) (fun r e=>by cases e)⟩⟩;exact Y.2
open Go Go.Sl Go.Proofs.Tryz
abbrev pH(b:Nat)(r:RR)(x:RL):As:=.blk b (.cells #[.int .i64 r.kind,B r.tag,B r.code,B r.text,.int .u64 (r.n:Nat),.slice x.na r.nums.length x.nc,.int .u64 (r.mod:Nat),.slice x.fa r.a6J.length x.fc,B r.box,.slice x.va x.vs.length x.vc] 51)
def uy:∀(n:Nat) (s b:Bs) (i:Nat) (t:Bs) (m:Nat),s.length<=n->AL b i s=some (t,m)->t.length<=b.length+s.length
 |_,[],_,_,_,_,_,h=>by simp[AL] at h
 |0,c::s,_,_,_,_,hn,_=>by simp at hn
 |n+1,c::s,b,i,t,m,hn,h=>by
  simp only[z1] at hn⊢;rw[jG] at h;split at h
  ·cases h
  split at h
  ·simp at h;rw[<-h.1];omega
  split at h
  ·split at h
   ·cases h
   ·next d t'=>
    split at h
    ·simp only[z1] at hn⊢;have:=uy n t' _ _ t m qb h;simp only[zg,z1,kx] at this;omega
    ·cases h
  split at h
  ·have:=uy n s _ _ t m qb h;simp only[zg,z1,kx] at this;omega
  ·cases h
def BE(s:Bs):((vO s).getD ([],0)).1.length<=s.length:=by
 cases h:vO s with
 |none=>simp
 |some q=>
  obtain⟨t,m⟩:=q
  cases s with
  |nil=>cases h
  |cons c v=>
   unfold vO at h;simp only at h;split at h
   ·have:=uy v.length v [] 1 t m (kp _) h;simp at this⊢;omega
   ·cases h
