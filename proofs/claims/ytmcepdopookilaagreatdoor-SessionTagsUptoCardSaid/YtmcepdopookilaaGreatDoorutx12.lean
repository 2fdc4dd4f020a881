import Derived.Test.YtmcepdopookilaaGreatDoorutx11
import Derived.Lib.BitFns
import Derived.Laws.BitsAllLaws
set_option maxHeartbeats 16000000
set_option maxRecDepth 8000
set_option linter.unusedVariables false
set_option linter.unusedSimpArgs false
set_option linter.defProp false
namespace Go.Proofs.YtmcepdopookilaaGreatDoor.Rp
open Go Go.Sl Go.RowKit Go.Proofs.Tryz
theorem AW(g a k:Nat):Pu prog 267 [.int .u64 (k:Nat),l9 g] (aK g (.int .u64 (a:Nat)) 27) (.int .u64 (P_ a k:Nat)):=by
 refine b_ 8 func267 rfl rfl rfl ?_;intro F d;obtain⟨q,b⟩:=o7 (decide (k=0));refine y9 ?_;refine f_ ((p8 rfl rfl).eq (v':=.bool q) (qn ((qz).trans b.symm))) ?_;refine u7 ?_
 cases q
 ·have c:k≠0:=zq b.symm;refine L7 ?_;exact d_ rfl rfl [] ⟨by unfold P_;rw[zk c],rfl⟩ i_
 ·have c:k=0:=qr b.symm;refine L7 ?_;exact d_ rfl rfl [] ⟨by unfold P_;rw[zu c];rfl,rfl⟩ i_
abbrev yz(g7 g5 g4 most n:Nat)(h:l_):Prop:=aK g7 (.func (.func 267) #[] #[l9 g4]) 307 h/\aK g5 (.int .u64 (n:Nat)) 27 h/\aK g4 (.int .u64 (most:Nat)) 27 h
theorem Lz(f g g4 c n:Nat)(x:Nat×Nat):Pu prog 269 [.agg (ix x).toArray,l9 f,l9 g] (yz f g g4 c n) (.bool (decide (min (P_ c x.1) (P_ c x.2)<=n/\n<=max (P_ c x.1) (P_ c x.2)))):=by
 obtain⟨a,ha⟩:=o7 (P_ c x.1);obtain⟨b,i⟩:=o7 (P_ c x.2);obtain⟨l,j⟩:=o7 (decide (min a b<=n));obtain⟨r,k⟩:=o7 (decide (n<=max a b));rw[<-ha,<-i,Bool.decide_and,<-j,<-k];refine b_ 27 func269 rfl rfl rfl ?_;rintro F ⟨m,o,d⟩;refine C6 ?_;refine m9 rfl rfl ?_;intro p;refine p_ ?_;refine D8 [0,2,4,6] [3,7] [.blk p (.cells (ix x).toArray 178)] 10 ?_;refine wd [0,1,2,4,5,6] ?_;refine h_ 3 rfl i6 ?_;refine A0 (ps:=[]) _ rfl rfl rfl (AW g4 c x.1) i_ (fun h e _=>e _ _ d) rfl ?_;rintro v A ⟨rfl,rfl⟩;rw[<-ha];refine ah ?_;refine h_ 7 rfl i6 ?_;refine A0 (ps:=[]) _ rfl rfl rfl (AW g4 c x.2) i_ (fun h e _=>e _ _ d) rfl ?_;rintro v A ⟨rfl,rfl⟩;rw[<-i];refine E6 [8,9] ?_
 cases l
 all_goals (
  refine O2 ?_;refine f_ ((F_ rfl rfl).eq (qn ((qz).trans j.symm))) ?_;refine au ?_;(first|refine u_ ?_|(refine v_ ?_;refine f_ ((F_ rfl rfl).eq (qn ((qz).trans k.symm))) ?_));refine y9 ?_)
 all_goals (refine A2 ?_;exact d_ rfl rfl [] qh (fun w q=>q.dropAll))
theorem lr(l:List (Nat×Nat))(a:Option Addr)(c b n:Nat)(hl:l.length<=1000000):Pu prog 196 [.slice a l.length c,.int .u64 (b:Nat),.int .u64 (n:Nat)] (fun h=>o0 h a (V5 l)) (.bool (gN l b n)):=by
 refine b_ 12 func196 rfl rfl rfl ?_;intro F j;refine C6 ?_;refine L2 rfl rfl rfl ?_;intro d;refine L2 rfl rfl rfl ?_;intro e;refine y9 ?_;refine ce rfl rfl ?_;intro f;refine p_ ?_;refine B8 (Z:=[.blk f (.cells #[.func (.func 267) #[] #[l9 d]] 307),.blk e (.cells #[.int .u64 (n:Nat)] 27),.blk d (.cells #[.int .u64 (b:Nat)] 27)]) tk fun m g k=>?_;have hp:yz f e d b n m.heap:=⟨I_ k,I_ k,I_ k⟩;refine y9 ?_;refine e_ rfl (bf ix D0 l a c 269 [l9 f,l9 e] (yz f e d b n) _ (fun x _=>Lz f e d b n x) qb) (fun h i _=>⟨(j.le g.heap).le i,i _ _ hp.1,i _ _ hp.2.1,i _ _ hp.2.2⟩) rfl ?_;refine C8 ?_;exact D3 g (d_ rfl rfl [] qh (fun w o=>o.dropAll))
abbrev vS(b g2 g5 most:Nat)(m:MM)(r:RQ)(q:QL)(o:OC)(y:OL)(h:l_):Prop:=aK g2 (l9 b) 132 h/\aK g5 (.int .u64 (most:Nat)) 27 h/\h b=some (.cells (NZ m r q o y).toArray 136 (0,0))/\o0 h q.ua (V5 r.a5L)
theorem lu(b d e a:Nat)(m:MM)(r:RQ)(q:QL)(o:OC)(y:OL)(f:r.a5L.length<=1000000)(x:LM):Pu prog 195 [.agg (S8 x).toArray,l9 d,l9 e] (vS b d e a m r q o y) (.bool (gN r.a5L a x.t.uid)):=by
 refine b_ 14 func195 rfl rfl rfl ?_;rintro F ⟨g,i,j,c⟩;refine C6 ?_;refine m9 rfl rfl ?_;intro k;refine p_ ?_;refine D8 [0,4,5,7] [8] [.blk k (.cells (S8 x).toArray 156)] 10 ?_;refine wd [0,1,2,3,4,5,6,7] ?_;refine h_ 8 rfl i6 ?_;refine e_ rfl (lr r.a5L q.ua q.uc a x.t.uid f) (fun h l _=>c.le l) rfl ?_;refine E6 [9] ?_;refine A2 ?_;exact d_ rfl rfl [] qh (fun w n=>n.dropAll)
abbrev yA(v:VW)(a:Option Addr)(c:Nat):Value:=.agg (FZ v a c).toArray
theorem LA(g u:Nat)(r:Nat×Nat):Pu prog 397 [.agg (ix r).toArray,l9 g] (aK g (.int .u64 (u:Nat)) 27) (.bool (decide (r.1=u))):=by
 refine b_ 8 func397 rfl rfl rfl ?_;intro F a;refine C6 ?_;refine m9 rfl rfl ?_;intro c;refine O2 ?_;refine f_ ((p8 rfl rfl).eq (dN r.1 u)) ?_;refine C8 ?_;exact d_ rfl rfl [] qh (fun w b=>b.dropAll)
abbrev lv(a5I:List (Nat×Nat))(u:Nat):Int:=D1 (fun r:Nat×Nat=>decide (r.1=u)) a5I
theorem yB(v:VW)(a:Option Addr)(c u:Nat)(hl:v.a5I.length<=1000000):Pu prog 351 [yA v a c,.int .u64 (u:Nat)] (fun h=>o0 h a (V5 v.a5I)) (.int .i64 (lv v.a5I u)):=by
 refine b_ 9 func351 rfl rfl rfl ?_;intro F e;refine C6 ?_;refine m9 rfl rfl ?_;intro k;refine L2 rfl rfl rfl ?_;intro b;refine p_ ?_;refine B8 (Z:=[.blk b (.cells #[.int .u64 (u:Nat)] 27)]) tk fun g d i=>?_;have hp:aK b (.int .u64 (u:Nat)) 27 g.heap:=I_ i;refine E5 ?_;refine e_ rfl (mK ix D0 v.a5I a c 397 [l9 b] (aK b (.int .u64 (u:Nat)) 27) (fun r=>decide (r.1=u)) (fun r _=>LA b u r) qb) (fun h f _=>⟨(e.le d.heap).le f,f _ _ hp⟩) rfl ?_;refine C8 ?_;exact D3 d (d_ rfl rfl [] qh (fun w j=>j.dropAll))
theorem LB(v:VW)(u:Nat):lv v.a5I u+1=(cJ v u:Nat):=by
 unfold lv D1 cJ tx
 cases h:v.a5I.findIdx? fun r=>decide (r.1=u) with
 |none=>rfl
 |some i=>simp[Option.elim]
theorem GM(v:VW)(a:Option Addr)(c u:Nat)(hl:v.a5I.length<=1000000):Pu prog 307 [yA v a c,.int .u64 (u:Nat)] (fun h=>o0 h a (V5 v.a5I)) (.int .i64 (cJ v u:Nat)):=by
 refine b_ 9 func307 rfl rfl rfl ?_;intro F d;have b:=df (fun r:Nat×Nat=>decide (r.1=u)) v.a5I;refine C6 ?_;refine m9 rfl rfl ?_;intro g;refine E5 ?_;refine e_ rfl (yB v a c u hl) (fun h e _=>d.le e) rfl ?_;refine f_ ((p9 rfl rfl (by have i: -1<=lv v.a5I u:=b.1;have j:lv v.a5I u<v.a5I.length:=b.2;omega)).eq (jk (Value.int .i64) (LB v u))) ?_;refine C8 ?_;exact d_ rfl rfl [] qh (fun w f=>f.dropAll)
theorem vT{l:List (Nat×Nat)}{j:Nat}(a:j<l.length):L9 (l.take (j+1))=max (L9 (l.take j)) l[j].1:=by
 unfold L9;rw[kj a,W0];rfl
theorem vU(v:VW)(a:Option Addr)(c:Nat)(hl:v.a5I.length<=1000000):Pu prog 239 [yA v a c] (fun h=>o0 h a (V5 v.a5I)) (.int .u64 (L9 v.a5I:Nat)):=by
 refine b_ 19 func239 rfl rfl rfl ?_;intro F e;refine C6 ?_;refine m9 rfl rfl ?_;intro g;refine cG ?_;refine o9 (ι:=Nat) (fun j=>j<=v.a5I.length) (fun j=>[(3,.int .u64 (L9 (v.a5I.take j):Nat)),(7,.slice a v.a5I.length c),(8,.int .i64 (v.a5I.length:Nat)),(9,.int .i64 (j:Nat))]) (fun _=>[]) (fun j=>v.a5I.length-j) 0 (zw _) sub (fun w d=>d.dropAll) ?_;intro j i;refine R6 ?_ ?_<;>intro h
 ·have b:j<v.a5I.length:=by have:=qr h;omega
  have f:=y7 e D0 qp b;refine p_ ?_;refine r_ (w8 rfl (fun w d=>S4 (e.le d.keep) D0 qp b x6) (D0 _)) ?_;refine i7 rfl ?_;intro k;refine O2 ?_;refine f_ ((nP rfl rfl).eq (v':=.int .u64 (L9 (v.a5I.take (j+1)):Nat)) (by rw[vT b];congr 1;omega)) ?_;refine E5 ?_;refine l8 (j+1) b qb sub (fun w d=>d.dropAll)
 ·have b:j=v.a5I.length:=by have:=zq h;omega
  subst b;refine L7 ?_;exact d_ rfl rfl [] ⟨by rw[j9],rfl⟩ (fun w d=>d.dropAll)
def SI(v:VW)(x:Value)(A:List As):Prop:=∃a c,x=yA v a c/\A=[l5 a v.a5I c]
theorem rW{v:VW}{u m:Nat}(h:lv v.a5I u<0):ck v u m=v:=by
 unfold ck tx;unfold lv D1 at h
 cases e:v.a5I.findIdx? fun r=>decide (r.1=u) with
 |none=>rfl
 |some i=>rw[e] at h;simp only[Option.elim] at h;omega
theorem rX{v:VW}{u m:Nat}(h:¬lv v.a5I u<0):∃(i:Nat) (a:i<v.a5I.length),lv v.a5I u=(i:Nat)/\ck v u m={v with a5I:=v.a5I.set i (v.a5I[i].1,m)}:=by
 unfold ck tx;unfold lv D1 at h⊢
 cases e:v.a5I.findIdx? fun r=>decide (r.1=u) with
 |none=>rw[e] at h;simp only[Option.elim] at h;omega
 |some i=>
  have a:=(kg.1 e).1;exact⟨i,a,rfl,by simp[List.getD,a]⟩
theorem AY(v:VW)(a:Option Addr)(c u m:Nat)(hl:v.a5I.length<=1000000):Ct prog 309 [yA v a c,.int .u64 (u:Nat),.int .u64 (m:Nat)] (fun h=>o0 h a (V5 v.a5I)) [] (SI (ck v u m)):=by
 refine b_ 24 func309 rfl rfl rfl ?_;intro F k;refine C6 ?_;refine m9 rfl rfl ?_;intro l;refine i7 rfl ?_;intro o;refine y9 ?_;refine c_ (fK (V5 v.a5I) a v.a5I.length c (bO _) (eM _) qb) (fun h p _=>k.le p) ?_;rintro x A ⟨d,e,rfl,rfl⟩;refine O2 ?_;refine e_ rfl (yB v d e u hl) (fun h p ⟨z,g⟩=>A3.rd g ud) rfl ?_;refine E5 ?_;refine w6 [(3,l9 l),(6,l9 o)] [.blk l (.cells (FZ v d e).toArray 30),.blk o (.cells (FZ Aq none 0).toArray 30),l5 d (ck v u m).a5I e] ?_ ?_
 ·refine o8 rfl ?_ ?_<;>intro h
  ·have q:¬lv v.a5I u<0:=(by have:=qr h;omega);obtain⟨i,r,s,t⟩:=rX (m:=m) q;rw[t,s];refine B4 (a:=d) (n:=v.a5I.length) (c:=e) (sz:=2) (xs:=V5 v.a5I) (te:=72) ud fun _ _ b=>?_;have b:=b qb;refine cG ?_;refine A9 (C:=ix) (v.a5I[i].1,m) D0 r (j:=1) rfl ?_;refine u7 ?_;exact o_ sub (fun w f=>by show Hp F w [_,_,l5 d (v.a5I.set i (v.a5I[i].1,m)) e];unfold l5;rw[js];exact x8.left tk f)
  ·rw[rW (qu h)];refine u7 ?_;exact o_ sub (fun w f=>x8.left tk f)
 have y:v.a5I.length=(ck v u m).a5I.length:=by unfold ck;split<;>simp
 have g:(ck v u m).box=v.box/\(ck v u m).val=v.val:=by unfold ck;split<;>exact qh
 refine L7 ?_;exact G6 rfl rfl ud rfl _ ⟨d,e,by rw[show yA (ck v u m) d e=yA v d e from by unfold yA FZ;rw[g.1,g.2,<-y]],rfl⟩ (fun w f=>f.drop.drop)
theorem LC(b:BM)(hl:b.ls.length<=1000000):Ct prog 301 [JR b] (fun h=>o0 h b.a (qH b.ls)) [] (SI (P4 b.x)):=by
 refine b_ 30 func301 rfl rfl rfl ?_;intro F d;refine C6 ?_;refine m9 rfl rfl ?_;intro r;refine i7 rfl ?_;intro g;refine O2 ?_;refine f_ (y8 (ps:=[(0,.tmp 7),(1,.tmp 9)]) (vs:=[(0,B b.name),(1,.int .u64 (b.val:Nat))]) (cells:=(FZ ⟨b.name,b.val,[]⟩ none 0).toArray) rfl i6) ?_;refine i7 rfl ?_;intro i;refine au ?_;refine o9 (ι:=Nat×Option Addr×Nat) (fun j=>j.1<=b.ls.length) (fun j=>[(2,l9 g),(3,l9 i),(12,.slice b.a b.ls.length b.c),(13,.int .i64 (b.ls.length:Nat)),(14,.int .i64 (j.1:Nat))])
  (fun j=>[l5 j.2.1 ((b.ls.take j.1).map fun x=>(x.t.uid,x.t.mod)) j.2.2,.blk i (.cells (FZ ⟨b.name,b.val,(b.ls.take j.1).map fun x=>(x.t.uid,x.t.mod)⟩ j.2.1 j.2.2).toArray 30),.blk g (.cells (FZ Aq none 0).toArray 30)]) (fun j=>b.ls.length-j.1) (0,none,0) (zw _) sub (fun w c=>x8.left tk (c.addNil 72 2)) ?_
 rintro⟨j,a5,k⟩ n;simp only at n;refine R6 ?_ ?_<;>intro h
 ·have a:j<b.ls.length:=by have:=qr h;omega
  have f:=y7 d A_ qp a;have e:(b.ls.take (j+1)).map (fun x=>(x.t.uid,x.t.mod))=(b.ls.take j).map (fun x=>(x.t.uid,x.t.mod))++[(b.ls[j].t.uid,b.ls[j].t.mod)]:=by rw[kj a,jn];rfl
  refine p_ ?_;refine r_ (w8 rfl (fun w c=>S4 (d.le c.keep) A_ qp a x6) (A_ _)) ?_;refine i7 rfl ?_;intro s;refine wk 8 ?_;refine C4 ix (b.ls[j].t.uid,b.ls[j].t.mod) rfl ?_;intro t o;refine u6 ix (l:=(b.ls.take j).map fun x=>(x.t.uid,x.t.mod)) (m:=[(b.ls[j].t.uid,b.ls[j].t.mod)]) D0 nf (by rw[zr,zm];show(min j b.ls.length+1)*16<=_;omega) (h63:=by simp only[zr,zm,zy,zn];omega) ?_;intro p q _;refine O2 ?_;refine l8 (j+1,p,q) a qg sub (fun w c=>?_);simp only;rw[e];exact x8.left tk c
 ·have a:j=b.ls.length:=by have:=zq h;omega
  subst a;refine L7 ?_;have e:P4 b.x=⟨b.name,b.val,(b.ls.take b.ls.length).map fun x=>(x.t.uid,x.t.mod)⟩:=by rw[j9];unfold P4;simp[Jn]
  rw[e];exact G6 rfl rfl ud rfl _ ⟨a5,k,rfl,rfl⟩ (fun w c=>x8.left tk c)
theorem GO(g u:Nat)(x:LM):Pu prog 312 [.agg (S8 x).toArray,l9 g] (aK g (.int .u64 (u:Nat)) 27) (.bool (decide (x.t.uid=u))):=by
 refine b_ 8 func312 rfl rfl rfl ?_;intro F a;refine C6 ?_;refine m9 rfl rfl ?_;intro c;refine O2 ?_;refine f_ ((p8 rfl rfl).eq (dN x.t.uid u)) ?_;refine C8 ?_;exact d_ rfl rfl [] qh (fun w b=>b.dropAll)
abbrev yC(l:List LM)(u:Nat):Int:=D1 (fun x:LM=>decide (x.t.uid=u)) l
theorem AZ(b:BM)(u:Nat)(hl:b.ls.length<=1000000):Pu prog 238 [JR b,.int .u64 (u:Nat)] (fun h=>o0 h b.a (qH b.ls)) (.int .i64 (yC b.ls u)):=by
 refine b_ 9 func238 rfl rfl rfl ?_;intro F d;refine C6 ?_;refine m9 rfl rfl ?_;intro j;refine L2 rfl rfl rfl ?_;intro a;refine p_ ?_;refine B8 (Z:=[.blk a (.cells #[.int .u64 (u:Nat)] 27)]) tk fun f c g=>?_;have hp:aK a (.int .u64 (u:Nat)) 27 f.heap:=I_ g;refine E5 ?_;refine e_ rfl (X_ S8 A_ b.ls b.a b.c 312 [l9 a] (aK a (.int .u64 (u:Nat)) 27) (fun x=>decide (x.t.uid=u)) (fun x _=>GO a u x) qb) (fun h e _=>⟨(d.le c.heap).le e,e _ _ hp⟩) rfl ?_;refine C8 ?_;exact D3 c (d_ rfl rfl [] qh (fun w i=>i.dropAll))
end Go.Proofs.YtmcepdopookilaaGreatDoor.Rp
namespace Go.Sl
open Go Go.RowKit Go.Proofs.YtmcepdopookilaaGreatDoor.Rp Go.Proofs.Tryz
section
variable{P:Program}{N:Nat}{K R:y6}{E:List (Nat×y6)}{L:G0}{F:l6}{H:List As}{ops:Array Oper}{rest:List Oper}{ty:TypeId}{pos:String}{af:Array Edge}{t:TypeId}
theorem gy{n d:Nat}{x:Operand}{z:Value}[hu:HU P t (.slice 27)][hz:HZ P 27 z][hs:HS P 27 1](h:∀a,GL P N ops rest K E R ((d,.slice a 1 1)::L) F (U1 a [n] 1::H))(hx:ev L x=some (.int .u64 (n:Nat)):=by rfl)(b:Nat.blt d N=true:=by rfl):
  GL P N ops (⟨some d,.buildSlice t 1 #[(0,x)],ty,pos,af,none⟩::rest) K E R L F H:=
 C4 (C:=fun n:Nat=>[.int .u64 (n:Nat)]) n rfl (fun a _=>h a) hx rfl rfl rfl b
theorem jU{l m:List Nat}{d:Nat}{s x:Operand}{a b:Option Addr}{c n:Nat}{H':Option Addr->Nat->List As}{z:Value}{i:TypeInfo}[hu:HU P t (.slice 27)][hz:HZ P 27 z][hi:HI P 27 i][hs:HS P 27 1](o:(l.length+m.length)*i.bytes<=140737488355328)(h:∀e f,GL P N ops rest K E R ((d,.slice e (l++m).length f)::L) F (H' e f))(g:ev L s=some (.slice a l.length c):=by rfl)(j:ev L x=some (.slice b m.length n):=by rfl)(u:∀e f,M3 H (U1 a l c) [U1 e (l++m) f] (H' e f):=by exact fun _ _=>uh)(hsrc:∀w,Hp F w H->Ka (hp w) b (nV m):=by exact fun w p=>(p.ownN ud).2.2.1)(k:z.cells.size=1:=by rfl)(hl:l.length+m.length<=9223372036854775807:=by(first|omega|(simp only[zy,zn];omega)))(q:Nat.blt d N=true:=by rfl):
  GL P N ops (⟨some d,.call ⟨.builtin .append,#[s,x],#[t,t]⟩,ty,pos,af,none⟩::rest) K E R L F H:=
 C0 (news:=nV m) (m:=m.length) g j (H':=H') (fun e f=>by have:=u e f;unfold U1 at this;rw[zz,aB] at this;exact this) hsrc (by rw[tl,Zd]) rfl k (iq _) o hl q fun e f _=>by
  have:=h e f;rw[zz] at this;exact this
end
end Go.Sl
namespace Go.Proofs.YtmcepdopookilaaGreatDoor.Rp
open Go Go.Sl Go.RowKit Go.Proofs.Tryz
theorem pi(g n k:Nat):Pu prog 349 [.int .u64 (k:Nat),l9 g] (aK g (.int .u64 (n:Nat)) 27) (.int .u64 (P_ n k:Nat)):=by
 refine b_ 8 func349 rfl rfl rfl ?_;intro F c;obtain⟨q,a⟩:=o7 (decide (k=0));refine y9 ?_;refine f_ ((p8 rfl rfl).eq (v':=.bool q) (qn ((qz).trans a.symm))) ?_;refine u7 ?_
 cases q
 ·have b:k≠0:=zq a.symm;refine L7 ?_;exact d_ rfl rfl [] ⟨by unfold P_;rw[zk b],rfl⟩ i_
 ·have b:k=0:=qr a.symm;refine L7 ?_;exact d_ rfl rfl [] ⟨by unfold P_;rw[zu b];rfl,rfl⟩ i_
abbrev GP(g9 g8 n:Nat)(h:l_):Prop:=aK g9 (.func (.func 349) #[] #[l9 g8]) 307 h/\aK g8 (.int .u64 (n:Nat)) 27 h
abbrev yD(n:Nat)(x:Nat×Nat):Bool:=decide (min (P_ n x.1) (P_ n x.2)<1\/n<max (P_ n x.1) (P_ n x.2))
theorem yE(f d n:Nat)(x:Nat×Nat):Pu prog 350 [.agg (ix x).toArray,l9 f,l9 d] (GP f d n) (.bool (yD n x)):=by
 obtain⟨a,ha⟩:=o7 (P_ n x.1);obtain⟨b,g⟩:=o7 (P_ n x.2);obtain⟨k,i⟩:=o7 (decide (min a b<1));obtain⟨p,j⟩:=o7 (decide (n<max a b));rw[yD,<-ha,<-g,Bool.decide_or,<-i,<-j];refine b_ 26 func350 rfl rfl rfl ?_;rintro F ⟨l,c⟩;refine C6 ?_;refine m9 rfl rfl ?_;intro m;refine p_ ?_;refine D8 [0,2,4,6] [3,7] [.blk m (.cells (ix x).toArray 178)] 10 ?_;refine wd [0,1,2,4,5,6] ?_;refine h_ 3 rfl i6 ?_;refine A0 (ps:=[]) _ rfl rfl rfl (pi d n x.1) i_ (fun h e _=>e _ _ c) rfl ?_;rintro v A ⟨rfl,rfl⟩;rw[<-ha];refine ah ?_;refine h_ 7 rfl i6 ?_;refine A0 (ps:=[]) _ rfl rfl rfl (pi d n x.2) i_ (fun h e _=>e _ _ c) rfl ?_;rintro v A ⟨rfl,rfl⟩;rw[<-g];refine E6 [8,9] ?_
 cases k
 all_goals (
  refine E5 ?_;refine f_ ((E_ rfl rfl).eq (qn ((qz).trans i.symm))) ?_;refine au ?_;(first|refine u_ ?_|(refine v_ ?_;refine f_ ((D_ rfl rfl).eq (qn ((qz).trans j.symm))) ?_));refine y9 ?_)
 all_goals (refine A2 ?_;exact d_ rfl rfl [] qh (fun w o=>o.dropAll))
abbrev LD(l a5I:List (Nat×Nat))(byUid:Bool)(x:(Nat×Nat)×Nat):Bool:=if byUid then gN l (L9 a5I) x.1.1 else gN l a5I.length (x.2+1)
abbrev iF(l a5I:List (Nat×Nat))(byUid:Bool)(j:Nat):List Nat:=((a5I.take j).zipIdx.filter (LD l a5I byUid)).map fun x=>x.1.1
theorem Dt(l b:List (Nat×Nat))(a:Bool){j:Nat}(c:j<b.length):iF l b a (j+1)=iF l b a j++if LD l b a (b[j],j) then[b[j].1] else[]:=by
 unfold iF;rw[kj c,List.zipIdx_append,Wc,jn,zm,Jb (Js c),jv];congr 1;rw[List.zipIdx_singleton,List.filter_cons];split<;>rfl
theorem GQ(l b:List (Nat×Nat))(a:Bool)(j:Nat):(iF l b a j).length<=b.length:=by
 unfold iF;rw[zr];refine ju (Qn _ _) ?_;rw[List.length_zipIdx,zm];omega
def a1x(e:Option (List Nat))(x:Value)(A:List As):Prop:=∃a c,x=.tuple #[.slice a (e.getD []).length c,.bool e.isSome]/\A=[U1 a (e.getD []) c]
theorem Du(v:VW)(a:Option Addr)(c:Nat)(l:List (Nat×Nat))(p:Option Addr)(s:Nat)(b:Bool)(hv:v.a5I.length<=1000000)(hl:l.length<=1000000):Ct prog 289 [yA v a c,.slice p l.length s,.bool b] (fun h=>o0 h a (V5 v.a5I)/\o0 h p (V5 l)) [] (a1x (X8 v l b)):=by
 refine b_ 65 func289 rfl rfl rfl ?_;rintro F ⟨k,f⟩;refine C6 ?_;refine m9 rfl rfl ?_;intro z;refine cG ?_;refine ce rfl rfl ?_;intro r;refine y9 ?_;refine ce rfl rfl ?_;intro A;refine p_ ?_;refine B8 (Z:=[.blk A (.cells #[.func (.func 349) #[] #[l9 r]] 307),.blk r (.cells #[.int .u64 (v.a5I.length:Nat)] 27)]) tk fun V t O=>?_;have hp:GP A r v.a5I.length V.heap:=⟨I_ O,I_ O⟩;replace k:=k.le t.heap;replace f:=f.le t.heap;clear O;refine y9 ?_;obtain⟨C,u⟩:=o7 ((!b&&l.any (yD v.a5I.length)));refine w6 [(1,.slice p l.length s),(2,.bool b),(3,l9 z),(6,.slice none 0 0),(7,.bool false),(8,l9 r),(27,.bool C)] [.blk z (.cells (FZ v a c).toArray 30)] ?_ ?_
 ·rw[u]
  cases b
  ·refine au ?_;refine A1 rfl rfl rfl ?_;refine e_ rfl (bf ix D0 l p s 350 [l9 A,l9 r] (GP A r v.a5I.length) (yD v.a5I.length) (fun x _=>yE A r v.a5I.length x) qb) (fun h o _=>⟨f.le o,o _ _ hp.1,o _ _ hp.2⟩) rfl ?_;refine p_ ?_;exact o_ sub i_
  ·refine au ?_;(first|refine u_ ?_|(refine v_ ?_;fail));refine p_ ?_;exact o_ sub i_
 have X:X8 v l b=if C=true then none else some (iF l v.a5I b v.a5I.length):=by
  unfold X8 iF;rw[u,j9];have U:(b=false/\(l.any (yD v.a5I.length))=true)↔(!b&&l.any (yD v.a5I.length))=true:=by cases b<;>simp
  by_cases h:(!b&&l.any (yD v.a5I.length))=true
  ·rw[zu h];exact zu (U.2 h)
  ·rw[zk h];exact zk fun Y=>h (U.1 Y)
 rw[X];refine N8 ?_ ?_<;>intro h
 ·rw[zu h];refine L7 ?_;exact D3 t (r7 rfl rfl rfl _ ⟨none,0,rfl,rfl⟩ (fun w d=>x8.left tk (d.addNil 27 1)))
 rw[h,zk qp];refine p_ ?_;refine e_ rfl (vU v a c hv) (fun h o _=>k.le o) rfl ?_;refine cG ?_;refine o9 (ι:=Nat×Option Addr×Nat) (fun j=>j.1<=v.a5I.length) (fun j=>[(1,.slice p l.length s),(2,.bool b),(3,l9 z),(6,.slice none 0 0),(7,.bool false),(8,l9 r),(11,.int .u64 (L9 v.a5I:Nat)),(12,.slice j.2.1 (iF l v.a5I b j.1).length j.2.2),(31,.slice a v.a5I.length c),(32,.int .i64 (v.a5I.length:Nat)),(33,.int .i64 (j.1:Nat))])
  (fun j=>[U1 j.2.1 (iF l v.a5I b j.1) j.2.2]) (fun j=>v.a5I.length-j.1) (0,none,0) (zw _) sub (fun w d=>x8.left tk (d.addNil 27 1)) ?_
 rintro⟨j,a5,J⟩ hj;simp only at hj;have h0:=GQ l v.a5I b j;refine R6 ?_ ?_<;>intro h
 ·have g:j<v.a5I.length:=by have:=qr h;omega
  have Q:=y7 k D0 qp g;obtain⟨S,y⟩:=o7 (LD l v.a5I b (v.a5I[j],j));have e:=Dt l v.a5I b g;rw[<-y] at e;refine y9 ?_;refine r_ (w8 rfl (fun w d=>S4 (k.le d.keep) D0 qp g x6) (D0 _)) ?_;refine i7 rfl ?_;intro D;refine y9 ?_;refine w6 [(1,.slice p l.length s),(2,.bool b),(3,l9 z),(6,.slice none 0 0),(7,.bool false),(8,l9 r),(11,.int .u64 (L9 v.a5I:Nat)),(12,.slice a5 (iF l v.a5I b j).length J),(14,l9 D),(31,.slice a v.a5I.length c),(32,.int .i64 (v.a5I.length:Nat)),(33,.int .i64 (j:Nat)),(57,.bool S)] [U1 a5 (iF l v.a5I b j) J,.blk D (.cells (ix v.a5I[j]).toArray 72)] ?_ ?_
  ·rw[y];unfold LD
   cases b
   ·obtain⟨q,M⟩:=o7 (gN l v.a5I.length (j+1));refine cG ?_;(first|refine u_ ?_|(refine v_ ?_;fail));refine cG ?_;refine A1 rfl rfl rfl ?_;refine r_ (i8 rfl (fun w d=>vd d hp.2 rfl)) ?_;refine p_ ?_;refine A1 rfl rfl rfl ?_;refine f_ ((p9 rfl rfl qb).eq (v':=.int .i64 ((j+1:Nat):Int)) (by congr 1)) ?_;refine p_ ?_;refine A1 rfl rfl rfl ?_;refine e_ rfl (lr l p s v.a5I.length (j+1) hl) (fun h o _=>f.le o) rfl ?_;refine y9 ?_;exact o_ sub (fun w d=>x8.left tk d)
   ·obtain⟨q,M⟩:=o7 (gN l (L9 v.a5I) v.a5I[j].1);have e2:(if true=true then gN l (L9 v.a5I) v.a5I[j].1 else gN l v.a5I.length (j+1))=q:=M.symm;rw[e2]
    cases q
    ·refine cG ?_;refine A1 rfl rfl rfl ?_;refine e_ rfl (lr l p s (L9 v.a5I) v.a5I[j].1 hl) (fun h o _=>f.le o) rfl ?_;rw[<-M];refine wk 10 ?_;(first|refine u_ ?_|(refine v_ ?_;fail));refine y9 ?_;exact o_ sub (fun w d=>x8.left tk d)
    ·refine cG ?_;refine A1 rfl rfl rfl ?_;refine e_ rfl (lr l p s (L9 v.a5I) v.a5I[j].1 hl) (fun h o _=>f.le o) rfl ?_;rw[<-M];refine wk 10 ?_;(first|refine u_ ?_|(refine v_ ?_;fail));refine y9 ?_;exact o_ sub (fun w d=>x8.left tk d)
  refine u7 ?_;refine n7 (ι:=Option Addr×Nat) (fun _=>True) (fun i=>[(1,.slice p l.length s),(2,.bool b),(3,l9 z),(6,.slice none 0 0),(7,.bool false),(8,l9 r),(11,.int .u64 (L9 v.a5I:Nat)),(12,.slice i.1 (iF l v.a5I b (j+1)).length i.2),(31,.slice a v.a5I.length c),(32,.int .i64 (v.a5I.length:Nat)),(33,.int .i64 (j:Nat))]) (fun i=>[U1 i.1 (iF l v.a5I b (j+1)) i.2]) ?_ ?_
  ·rw[e];refine o8 rfl ?_ ?_<;>intro h
   ·rw[h,zu rfl];refine E5 ?_;refine gy (n:=v.a5I[j].1) ?_;intro h1;refine jU (l:=iF l v.a5I b j) (m:=[v.a5I[j].1]) (by show((iF l v.a5I b j).length+1)*8<=_;omega) ?_;intro Uk T;refine p_ ?_;exact g_ (Uk,T) trivial (fun w d=>x8.left tk d)
   ·rw[h,zk qp,z7];refine u7 ?_;exact g_ (a5,J) trivial (fun w d=>x8.left tk d)
  rintro⟨a6,c6⟩ _;refine y9 ?_;exact l8 (j+1,a6,c6) g qg sub i_
 ·have g:j=v.a5I.length:=by have:=zq h;omega
  subst g;refine bS ?_;exact D3 t (r7 rfl rfl rfl _ ⟨a5,J,rfl,rfl⟩ i_)
end Go.Proofs.YtmcepdopookilaaGreatDoor.Rp
namespace Go.Sl
open Go Go.RowKit Go.Proofs.YtmcepdopookilaaGreatDoor.Rp Go.Proofs.Tryz
abbrev B3(a:Option Addr)(n c:Nat)(l:List Nat):As:=.own (.slice a n c) 27 1 (nV l)
structure Sm(l m:List Nat):Prop where
 len:m.length=l.length
 sub:∀x∈m,x∈l
theorem Sm.refl(l:List Nat):Sm l l:=⟨rfl,fun _ h=>h⟩
theorem Sm.trans{l m k:List Nat}(h:Sm l m)(g:Sm m k):Sm l k:=⟨g.len.trans h.len,fun x a=>h.sub x (g.sub x a)⟩
theorem Sm.set{l m:List Nat}(h:Sm l m)(i:Nat){x:Nat}(hx:x∈l):Sm l (m.set i x):=⟨by rw[js];exact h.len,fun y a=>by
 rcases jd a with b|rfl
 ·exact h.sub y b
 ·exact hx⟩
theorem tW{l:List Nat}{i:Int}{n:Nat}(a:0<=i/\i<n)(hl:l.length=n):l.getD i.toNat 0∈l:=by
 have h:i.toNat<l.length:=by omega
 rw[zd,zj h];exact zx h
theorem Sm.swap{l m:List Nat}(h:Sm l m){i j:Int}{n:Nat}(a:0<=i/\i<n)(b:0<=j/\j<n)(hl:m.length=n):Sm l ((m.set i.toNat (m.getD j.toNat 0)).set j.toNat (m.getD i.toNat 0)):=(h.set _ (h.sub _ (tW b hl))).set _ (h.sub _ (tW a hl))
section
variable{P:Program}{N:Nat}{K R:y6}{E:List (Nat×y6)}{L:G0}{F:l6}{H:List As}{ops:Array Oper}{rest:List Oper}{ty:TypeId}{pos:String}{af:Array Edge}{dst:Option Nat}{gd:Option (Nat×Bool)}{t:TypeId}{x y:Operand}
theorem ap{a:Option Addr}{n c:Nat}{l:List Nat}{i:Int}{H':List As}[ha:HA P t false](hl:l.length=n)(u:M3 H (B3 a n c l) [] H':=by exact ud)(hx:ev L x=some (.pointer (N0 a (i.toNat*1))):=by rfl)(e:0<=i/\i<n:=by omega):dv P ⟨dst,.load t x,ty,pos,af,gd⟩ L F H (.int .u64 (l.getD i.toNat 0:Nat)):=
 i8 hx fun w d=>iU d u x6 fun j v b=>by
  match j,b with
  |0,b=>
   simp at b;subst b;have h:i.toNat<l.length:=(by omega);rw[Zd,Q3,nV,Zb,zj h];rfl
theorem V4{a:Option Addr}{n c:Nat}{l:List Nat}{i:Int}{v:Nat}{H':List As}[hs:HS P t 1](hl:l.length=n)(h:GL P N ops rest K E R L F H')(u:M3 H (B3 a n c l) [B3 a n c (l.set i.toNat v)] H':=by exact uh)(hx:ev L x=some (.pointer (N0 a (i.toNat*1))):=by rfl)(d:ev L y=some (.int .u64 (v:Nat)):=by rfl)(f:0<=i/\i<n:=by omega):GL P N ops (⟨none,.store t x y,ty,pos,af,none⟩::rest) K E R L F H:=by
 have hp:L5 (nV l) (i.toNat*1) [.int .u64 (v:Nat)]=nV (l.set i.toNat v):=by
  have e:i.toNat<l.length:=by omega
  unfold L5 nV;rw[Zd,Kb,Zm,zu (by simpa using e)];simp
 refine T9 (n:=1) (a:=a) (len:=n) (c:=c) (sz:=1) (xs:=nV l) (te:=27) hx d (H':=H') ?_ rfl qp (fun q b=>by simp[Value.cells] at b;subst b;rfl) (by rw[tl];omega) h;show M3 H _ [.own (.slice a n c) 27 1 (L5 (nV l) (i.toNat*1) [.int .u64 (v:Nat)])] H';rw[hp];exact u
theorem R2{a:Option Addr}{n c:Nat}{l:List Nat}{j v0:Nat}{i:Int}{v:Nat}{H':List As}[hs:HS P t 1](hl:l.length=n)(h:GL P N ops rest K E R L F H')(u:M3 H (B3 a n c (l.set j v0)) [B3 a n c ((l.set j v0).set i.toNat v)] H':=by exact uh)(hx:ev L x=some (.pointer (N0 a (i.toNat*1))):=by rfl)(b:ev L y=some (.int .u64 (v:Nat)):=by rfl)(d:0<=i/\i<n:=by omega):GL P N ops (⟨none,.store t x y,ty,pos,af,none⟩::rest) K E R L F H:=V4 (by rw[js];exact hl) h u hx b d
end
end Go.Sl
namespace Go.Proofs.YtmcepdopookilaaGreatDoor.Rp
open Go Go.Sl Go.RowKit Go.Proofs.Tryz
theorem LF(x:Nat):Pu prog 464 [.int .u64 (x:Nat)] (fun _=>True) (.bool false):=by
 refine b_ 6 func464 rfl rfl rfl ?_;intro F _;refine E5 ?_;refine f_ ((M1 rfl rfl).eq (v':=.bool false) x6) ?_;refine C8 ?_;exact d_ rfl rfl [] qh (fun _ h=>h)
theorem O1(x y:Nat):Pu prog 449 [.int .u64 (x:Nat),.int .u64 (y:Nat)] (fun _=>True) (.bool (decide (x<y))):=by
 refine b_ 17 func449 rfl rfl rfl ?_;intro F _;refine y9 ?_;refine e_ rfl (LF x) qw rfl ?_;refine y9 ?_;(first|refine u_ ?_|(refine v_ ?_;fail));refine au ?_;refine A1 rfl rfl rfl ?_;refine f_ ((E_ rfl rfl).eq (v':=.bool (decide (x<y))) (qn (zp.2 Int.ofNat_lt))) ?_;refine L7 ?_;exact d_ rfl rfl [] qh (fun _ h=>h)
abbrev SJ(a:Option Addr)(n c:Nat)(l:List Nat)(v:Value)(A:List As):Prop:=v=.tuple #[]/\∃m,Sm l m/\A=[B3 a n c m]
abbrev pj(f:FuncId)(a:Option Addr)(n c:Nat)(args:List Value):Prop:=∀l:List Nat,l.length=n->Ct prog f (.slice a n c::args) (fun _=>True) [B3 a n c l] (SJ a n c l)
abbrev iI(i:Int):Value:=.int .i64 i
theorem LG(a:Option Addr)(n c:Nat)(x y:Int)(hx:0<=x)(f:x<=y)(t:y<=n)(u:n<=1000000000):pj 443 a n c [iI x,iI y]:=by
 intro l g;refine b_ 49 func443 rfl rfl rfl ?_;intro F _;refine B4 (a:=a) (n:=n) (c:=c) (sz:=1) (xs:=nV l) (te:=27) ud fun _ o d=>?_;refine E5 ?_;refine o9 (ι:=Int×List Nat) (fun i=>x+1<=i.1/\(i.1<=y\/i.1=x+1)/\Sm l i.2) (fun i=>[(0,.slice a n c),(1,iI x),(2,iI y),(6,iI i.1)]) (fun i=>[B3 a n c i.2]) (fun i=>(y-i.1).toNat) (x+1,l) ⟨Kj _,.inr rfl,.refl _⟩ sub i_ ?_;rintro⟨i,m⟩ ⟨p,q,hs⟩;simp only at p q hs;refine eI ?_ ?_<;>intro h
 ·have r:i<y:=qr h;have d:=d qb;refine y9 ?_;refine O6 (fun(j:Int) (k:List Nat) (_:Unit)=>x<=j/\j<=i/\Sm l k) (fun j k _=>[(0,.slice a n c),(1,iI x),(2,iI y),(6,iI i),(7,iI j)]) (fun j k _=>[B3 a n c k]) (fun j k _=>(j-x).toNat) i m () ⟨by omega,Kj _,hs⟩ sub i_ ?_;rintro j k _ ⟨v,s,e⟩;have b:k.length=n:=e.len.trans g;by_cases hj0:j=x
  ·refine u7 ?_;refine D8 [7,12] [] [B3 a n c k] 15 ?_;refine wd [0,1] ?_;refine w_ 2 rfl ((D_ rfl rfl).eq (v':=.bool false) (qn qj)) ?_;refine wd [3,4,5,6,7,8,9,10,11,12] ?_;refine h_ 13 rfl i6 ?_;(first|refine u_ ?_|(refine v_ ?_;fail));refine E6 [14] ?_;refine E5 ?_;exact l8 (i:=(i,m)) (i+1,k) ⟨by simp only;omega,by simp only;omega,e⟩ qg sub i_
  refine u7 ?_;refine D8 [7,12] [] [B3 a n c k] 15 ?_;refine wd [0,1] ?_;refine w_ 2 rfl ((D_ rfl rfl).eq (v':=.bool true) (qn qk)) ?_;refine wd [3,4,5,6] ?_;(first|refine s_ 7 ?_|refine t_ 7 ?_|refine B0 7 rfl P6 (ap b) I5 rfl rfl rfl rfl rfl rfl i6 ?_);refine wd [8,9,10,11] ?_;(first|refine s_ 12 ?_|refine t_ 12 ?_|refine B0 12 rfl P6 (ap b) I5 rfl rfl rfl rfl rfl rfl i6 ?_);refine h_ 13 rfl i6 ?_;(first|refine u_ ?_|(refine v_ ?_;refine e_ rfl (O1 _ _) qw rfl ?_));refine E6 [14] ?_;refine o8 rfl ?_ ?_<;>intro h
  ·refine u7 ?_;refine D8 [9,13] [15,17] [B3 a n c k] 18 ?_;refine wd [0,1,2,3,4,5,6,7,8] ?_;refine n9 9 rfl P6 (ap b) I5 rfl rfl rfl i6 ?_;refine wd [10,11,12] ?_;refine n9 13 rfl P6 (ap b) I5 rfl rfl rfl i6 ?_;refine wd [14] ?_;refine h_ 15 rfl i6 ?_;refine V4 b ?_;refine E6 [16] ?_;refine h_ 17 rfl i6 ?_;refine R2 b ?_;refine E6 [] ?_;refine E5 ?_;exact l8 (i:=(j,k,())) (j-1,_,()) ⟨by simp only;omega,by simp only;omega,e.swap (n:=n) qb qb b⟩ qg sub i_
  ·refine E5 ?_;exact l8 (i:=(i,m)) (i+1,k) ⟨by simp only;omega,by simp only;omega,e⟩ qg sub i_
 ·refine u7 ?_;exact m6 rfl _ ⟨rfl,m,hs,rfl⟩ i_
theorem vV(a:Option Addr)(n c:Nat)(lo d f:Int)(p:0<=lo)(y:0<=f)(z:0<=d)(A:f+d<=n)(C:n<=1000000000)(g:lo<=1000000000):pj 461 a n c [iI lo,iI d,iI f]:=by
 intro l s;refine b_ 76 func461 rfl rfl rfl ?_;intro F _;refine B4 (a:=a) (n:=n) (c:=c) (sz:=1) (xs:=nV l) (te:=27) ud fun _ t e=>?_;refine y9 ?_;refine o9 (ι:=Int×List Nat) (fun i=>0<=i.1/\i.1<=1000000000/\Sm l i.2) (fun i=>[(0,.slice a n c),(1,iI lo),(2,iI d),(3,iI f),(8,iI i.1)]) (fun i=>[B3 a n c i.2]) (fun i=>(d-i.1).toNat) (lo,l) ⟨p,g,.refl _⟩ sub i_ ?_;rintro⟨r,m⟩ ⟨u,j,hs⟩;simp only at u j hs;have b:m.length=n:=hs.len.trans s;refine wk 7 ?_;refine o8 rfl ?_ ?_<;>intro h
 ·refine u7 ?_;exact m6 rfl _ ⟨rfl,m,hs,rfl⟩ i_
 have hc:2*r+1<d:=by have:=zq h;omega
 have e:=e qb;refine u7 ?_;refine n7 (ι:=Bool) (fun q=>q=true->2*r+1+1<d) (fun q=>[(0,.slice a n c),(1,iI lo),(2,iI d),(3,iI f),(8,iI r),(9,iI (2*r+1)),(36,.bool q)]) (fun _=>[B3 a n c m]) ?_ ?_
 ·by_cases o:2*r+1+1<d
  ·refine u7 ?_;refine D8 [10,17] [] [B3 a n c m] 20 ?_;refine wd [0,1,2] ?_;refine w_ 3 rfl ((E_ rfl rfl).eq (v':=.bool true) (qn qk)) ?_;refine wd [4,5,6,7,8,9] ?_;(first|refine s_ 10 ?_|refine t_ 10 ?_|refine B0 10 rfl P6 (ap b) I5 rfl rfl rfl rfl rfl rfl i6 ?_);refine wd [11,12,13,14,15,16] ?_;(first|refine s_ 17 ?_|refine t_ 17 ?_|refine B0 17 rfl P6 (ap b) I5 rfl rfl rfl rfl rfl rfl i6 ?_);refine h_ 18 rfl i6 ?_;(first|refine u_ ?_|(refine v_ ?_;refine e_ rfl (O1 _ _) qw rfl ?_));refine E6 [19] ?_;exact g_ _ (fun _=>o) i_
  ·refine u7 ?_;refine D8 [10,17] [] [B3 a n c m] 20 ?_;refine wd [0,1,2] ?_;refine w_ 3 rfl ((E_ rfl rfl).eq (v':=.bool false) (qn qj)) ?_;refine wd [4,5,6,7,8,9,10,11,12,13,14,15,16,17] ?_;refine h_ 18 rfl i6 ?_;(first|refine u_ ?_|(refine v_ ?_;fail));refine E6 [19] ?_;exact g_ false qx i_
 intro q v;refine u7 ?_;refine n7 (ι:=Int) (fun k=>2*r+1<=k/\k<d) (fun k=>[(0,.slice a n c),(1,iI lo),(2,iI d),(3,iI f),(8,iI r),(9,iI k)]) (fun k=>[B3 a n c m]) ?_ ?_
 ·refine o8 rfl ?_ ?_<;>intro h
  ·have o:=v h;refine E5 ?_;exact g_ (2*r+1+1) qb i_
  ·refine u7 ?_;exact g_ (2*r+1) qb i_
 rintro k ⟨w,x⟩;refine u7 ?_;refine D8 [5,11] [12] [B3 a n c m] 14 ?_;refine wd [0,1,2,3,4] ?_;refine n9 5 rfl P6 (ap b) I5 rfl rfl rfl i6 ?_;refine wd [6,7,8,9,10] ?_;refine n9 11 rfl P6 (ap b) I5 rfl rfl rfl i6 ?_;refine h_ 12 rfl i6 ?_;refine e_ rfl (O1 _ _) qw rfl ?_;refine E6 [13] ?_;refine o8 rfl ?_ ?_<;>intro h
 ·refine ov ?_;exact m6 rfl _ ⟨rfl,m,hs,rfl⟩ i_
 ·refine u7 ?_;refine D8 [13,19] [21,23] [B3 a n c m] 24 ?_;refine wd [0,1,2,3,4,5,6,7,8,9,10,11,12] ?_;refine n9 13 rfl P6 (ap b) I5 rfl rfl rfl i6 ?_;refine wd [14,15,16,17,18] ?_;refine n9 19 rfl P6 (ap b) I5 rfl rfl rfl i6 ?_;refine wd [20] ?_;refine h_ 21 rfl i6 ?_;refine V4 b ?_;refine E6 [22] ?_;refine h_ 23 rfl i6 ?_;refine R2 b ?_;refine E6 [] ?_;refine y9 ?_;exact l8 (i:=(r,m)) (k,_) ⟨by simp only;omega,by simp only;omega,hs.swap (n:=n) qb qb b⟩ qg sub i_
theorem GR(a:Option Addr)(n c:Nat)(x y:Int)(hx:0<=x)(t:x<y)(z:y<=n)(s:n<=1000000000):pj 444 a n c [iI x,iI y]:=by
 intro l g;refine b_ 56 func444 rfl rfl rfl ?_;intro F _;refine B4 (a:=a) (n:=n) (c:=c) (sz:=1) (xs:=nV l) (te:=27) ud fun _ u d=>?_;have d:=d qb;refine H9 11 ?_;refine n7 (ι:=List Nat) (fun m=>Sm l m) (fun _=>[(0,.slice a n c),(6,iI x),(7,iI 0),(8,iI (y-x))]) (fun m=>[B3 a n c m]) ?_ ?_
 ·refine n8 ?_;refine o9 (ι:=Int×List Nat) (fun i=> -1<=i.1/\i.1<=1000000000/\Sm l i.2) (fun i=>[(0,.slice a n c),(6,iI x),(7,iI 0),(8,iI (y-x)),(9,iI i.1)]) (fun i=>[B3 a n c i.2]) (fun i=>(i.1+1).toNat) ((y-x-1)/2,l) ⟨by simp only;omega,by simp only;omega,.refl _⟩ sub i_ ?_;rintro⟨i,m⟩ ⟨k,o,hs⟩;simp only at k o hs;have b:m.length=n:=hs.len.trans g;refine bD ?_ ?_<;>intro h
  ·have p:0<=i:=qr h;refine O2 ?_;refine c_ (vV a n c i (y-x) x p hx qb qb s qb m b) qw ?_;rintro v A ⟨rfl,q,e,rfl⟩;refine E5 ?_;exact l8 (i:=(i,m)) (i-1,q) ⟨by simp only;omega,by simp only;omega,hs.trans e⟩ qg sub i_
  ·refine u7 ?_;exact g_ m hs i_
 intro w r;refine E5 ?_;refine o9 (ι:=Int×List Nat) (fun i=> -1<=i.1/\i.1<=y-x-1/\Sm l i.2) (fun i=>[(0,.slice a n c),(6,iI x),(7,iI 0),(8,iI (y-x)),(10,iI i.1)]) (fun i=>[B3 a n c i.2]) (fun i=>(i.1+1).toNat) (y-x-1,w) ⟨by simp only;omega,Kj _,r⟩ sub i_ ?_;rintro⟨i,m⟩ ⟨k,o,hs⟩;simp only at k o hs;have b:m.length=n:=hs.len.trans g;refine bD ?_ ?_<;>intro h
 ·have p:0<=i:=qr h;refine u7 ?_;refine D8 [11,15] [17,19] [B3 a n c m] 20 ?_;refine wd [0,1,2,3,4,5,6,7,8,9,10] ?_;refine n9 11 rfl P6 (ap b) I5 rfl rfl rfl i6 ?_;refine wd [12,13,14] ?_;refine n9 15 rfl P6 (ap b) I5 rfl rfl rfl i6 ?_;refine wd [16] ?_;refine h_ 17 rfl i6 ?_;refine V4 b ?_;refine E6 [18] ?_;refine h_ 19 rfl i6 ?_;refine R2 b ?_;refine E6 [] ?_;have f:=hs.swap (i:=x) (j:=x+i) (n:=n) qb qb b;refine O2 ?_;refine c_ (vV a n c 0 i x (Kj _) hx p qb s qb _ (f.len.trans g)) qw ?_;rintro v A ⟨rfl,q,e,rfl⟩;refine E5 ?_;exact l8 (i:=(i,m)) (i-1,q) ⟨by simp only;omega,by simp only;omega,f.trans e⟩ qg sub i_
 ·refine u7 ?_;exact m6 rfl _ ⟨rfl,m,hs,rfl⟩ i_
theorem LH(a:Option Addr)(n c:Nat)(x y:Int)(hx:0<=x)(e:x<=y)(k:y<=n)(o:n<=1000000000):pj 447 a n c [iI x,iI y]:=by
 intro l f;refine b_ 32 func447 rfl rfl rfl ?_;intro F _;refine B4 (a:=a) (n:=n) (c:=c) (sz:=1) (xs:=nV l) (te:=27) ud fun _ g b=>?_;refine au ?_;refine O6 (fun(i j:Int) (m:List Nat)=>x<=i/\i<=n/\x-1<=j+1/\j<y/\Sm l m) (fun i j m=>[(0,.slice a n c),(6,iI i),(7,iI j)]) (fun i j m=>[B3 a n c m]) (fun i j m=>(j-i+1).toNat) x (y-1) l ⟨Kj _,by omega,by omega,by omega,.refl _⟩ sub i_ ?_;rintro i j m ⟨p,q,r,s,hs⟩;have d:m.length=n:=hs.len.trans f;refine eI ?_ ?_<;>intro h
 ·have t:i<j:=qr h;have b:=b qb;refine u7 ?_;refine D8 [7,11] [13,15] [B3 a n c m] 16 ?_;refine wd [0,1,2,3,4,5,6] ?_;refine n9 7 rfl P6 (ap d) I5 rfl rfl rfl i6 ?_;refine wd [8,9,10] ?_;refine n9 11 rfl P6 (ap d) I5 rfl rfl rfl i6 ?_;refine wd [12] ?_;refine h_ 13 rfl i6 ?_;refine V4 d ?_;refine E6 [14] ?_;refine h_ 15 rfl i6 ?_;refine R2 d ?_;refine E6 [] ?_;refine cG ?_;exact l8 (i:=(i,j,m)) (i+1,j-1,_) ⟨by simp only;omega,by simp only;omega,by simp only;omega,by simp only;omega,hs.swap (n:=n) qb qb d⟩ qg sub i_
 ·refine u7 ?_;exact m6 rfl _ ⟨rfl,m,hs,rfl⟩ i_
abbrev Po(g:Nat)(s:Int):As:=.blk g (.cells #[iI s] 3)
theorem pm(a:Option Addr)(n c:Nat)(l:List Nat)(hl:l.length=n)(x y:Int)(hx:0<=x/\x<n)(k:0<=y/\y<n)(g:Nat)(s:Int)(hs:0<=s/\s<=1000):Ct prog 471 [.slice a n c,iI x,iI y,l9 g] (fun _=>True) [B3 a n c l,Po g s] (fun v A=>∃d e f,(d=x/\e=y\/d=y/\e=x)/\(s<=f/\f<=s+1)/\v=.tuple #[iI d,iI e]/\A=[B3 a n c l,Po g f]):=by
 refine b_ 28 func471 rfl rfl rfl ?_;intro F _;refine B4 (a:=a) (n:=n) (c:=c) (sz:=1) (xs:=nV l) (te:=27) ud fun _ j b=>?_;have b:=b qb;refine y9 ?_;refine D8 [3,7] [8] [B3 a n c l] 9 ?_;refine wd [0,1,2] ?_;refine n9 3 rfl P6 (ap hl) I5 rfl rfl rfl i6 ?_;refine wd [4,5,6] ?_;refine n9 7 rfl P6 (ap hl) I5 rfl rfl rfl i6 ?_;refine h_ 8 rfl i6 ?_;refine e_ rfl (O1 _ _) qw rfl ?_;refine E6 [] ?_;refine o8 rfl ?_ ?_<;>intro h
 ·refine wk 10 ?_;refine A2 ?_;exact r7 rfl rfl rfl _ ⟨y,x,s+1,.inr qh,by omega,rfl,rfl⟩ (fun w i=>x8.left tk i)
 ·refine JO ?_;exact r7 rfl rfl rfl _ ⟨x,y,s,.inl qh,by omega,rfl,rfl⟩ (fun w i=>x8.left tk i)
theorem Ba(a:Option Addr)(n c:Nat)(l:List Nat)(hl:l.length=n)(x y z:Int)(hx:0<=x/\x<n)(d:0<=y/\y<n)(hz:0<=z/\z<n)(g:Nat)(s:Int)(hs:0<=s/\s<=900):Ct prog 463 [.slice a n c,iI x,iI y,iI z,l9 g] (fun _=>True) [B3 a n c l,Po g s] (fun v A=>∃r b,(r=x\/r=y\/r=z)/\(s<=b/\b<=s+3)/\v=iI r/\A=[B3 a n c l,Po g b]):=by
 refine b_ 36 func463 rfl rfl rfl ?_;intro F _;refine au ?_;refine c_ (pm a n c l hl x y hx d g s qb) qw ?_;rintro v A ⟨e,f,s1,p,h,rfl,rfl⟩;refine wk 9 ?_;refine c_ (pm a n c l hl f z qb hz g s1 qb) qw ?_;rintro v A ⟨i,q,j,t,k,rfl,rfl⟩;refine wk 9 ?_;refine c_ (pm a n c l hl e i qb qb g j qb) qw ?_;rintro v A ⟨u,m,s3,w,o,rfl,rfl⟩;refine KN ?_;exact d_ rfl rfl _ ⟨m,s3,by omega,by omega,rfl,rfl⟩ i_
theorem pn(a:Option Addr)(n c:Nat)(l:List Nat)(hl:l.length=n)(x:Int)(hx:1<=x/\x+1<n)(e:n<=1000000000)(g:Nat)(s:Int)(hs:0<=s/\s<=900):Ct prog 462 [.slice a n c,iI x,l9 g] (fun _=>True) [B3 a n c l,Po g s] (fun v A=>∃r b,(x-1<=r/\r<=x+1)/\(s<=b/\b<=s+3)/\v=iI r/\A=[B3 a n c l,Po g b]):=by
 refine b_ 15 func462 rfl rfl rfl ?_;intro F _;refine wk 8 ?_;refine c_ (Ba a n c l hl (x-1) x (x+1) qb qb qb g s hs) qw ?_;rintro v A ⟨r,s1,f,d,rfl,rfl⟩;refine C8 ?_;exact d_ rfl rfl _ ⟨r,s1,by omega,d,rfl,rfl⟩ i_
theorem LJ(a:Option Addr)(n c:Nat)(l:List Nat)(hl:l.length=n)(x y:Int)(hx:0<=x)(m:x+8<=y)(J:y<=n)(e:n<=1000000000):Ct prog 446 [.slice a n c,iI x,iI y] (fun _=>True) [B3 a n c l] (fun v A=>∃r k:Int,(x<=r/\r<y)/\v=.tuple #[iI r,iI k]/\A=[B3 a n c l]):=by
 refine b_ 57 func446 rfl rfl rfl ?_;intro F _;refine cG ?_;refine T0 ?_;refine ce rfl rfl ?_;intro d;refine wk 19 ?_;refine f_ ((I4 rfl rfl).eq (v':=.bool true) (qn qk)) ?_;refine y9 ?_;refine n7 (ι:=Int×Int×Int×Int) (fun i=>(x+1<=i.1/\i.1+1<y)/\(x+1<=i.2.1/\i.2.1+1<y)/\(x+1<=i.2.2.1/\i.2.2.1+1<y)/\0<=i.2.2.2/\i.2.2.2<=9) (fun i=>[(0,.slice a n c),(9,l9 d),(10,iI i.1),(11,iI i.2.1),(12,iI i.2.2.1)]) (fun i=>[B3 a n c l,Po d i.2.2.2]) ?_ ?_
 ·refine o8 rfl ?_ ?_<;>intro h
  ·have M:50<=y-x:=qr h;refine y9 ?_;refine c_ (pn a n c l hl (x+(y-x)/4*1) qb e d 0 qb) qw ?_;rintro v A ⟨o,s1,O,p,rfl,rfl⟩;refine E5 ?_;refine c_ (pn a n c l hl (x+(y-x)/4*2) qb e d s1 qb) qw ?_;rintro v A ⟨q,g,Q,f,rfl,rfl⟩;refine E5 ?_;refine c_ (pn a n c l hl (x+(y-x)/4*3) qb e d g qb) qw ?_;rintro v A ⟨t,s3,S,u,rfl,rfl⟩;refine p_ ?_;exact g_ (o,q,t,s3) ⟨by simp only;omega,by simp only;omega,by simp only;omega,by simp only;omega⟩ (fun w b=>x8.left tk b)
  ·refine u7 ?_;exact g_ (x+(y-x)/4*1,x+(y-x)/4*2,x+(y-x)/4*3,0) ⟨by simp only;omega,by simp only;omega,by simp only;omega,by simp only;omega⟩ (fun w b=>x8.left tk b)
 rintro⟨i,j,k,s⟩ ⟨z,C,D,hs⟩;simp only at z C D hs;refine O2 ?_;refine c_ (Ba a n c l hl i j k qb qb qb d s qb) qw ?_;rintro v A ⟨r,g,T,f,rfl,rfl⟩;refine CO ?_ ?_<;>intro h
 ·refine bS ?_;exact r7 rfl rfl rfl _ ⟨r,1,by omega,rfl,rfl⟩ (fun w b=>x8.left tk b)
 refine bD ?_ ?_<;>intro h
 ·refine bS ?_;exact r7 rfl rfl rfl _ ⟨r,2,by omega,rfl,rfl⟩ (fun w b=>x8.left tk b)
 refine bS ?_;exact r7 rfl rfl rfl _ ⟨r,0,by omega,rfl,rfl⟩ (fun w b=>x8.left tk b)
theorem LK(a:Option Addr)(n c:Nat)(l:List Nat)(hl:l.length=n)(x y:Int)(hx:0<=x)(M:x<y)(V:y<=n)(X:n<=1000000000):Ct prog 448 [.slice a n c,iI x,iI y] (fun _=>True) [B3 a n c l] (fun v A=>∃q m,Sm l m/\v=.bool q/\A=[B3 a n c m]):=by
 refine b_ 133 func448 rfl rfl rfl ?_;intro F _;refine B4 (a:=a) (n:=n) (c:=c) (sz:=1) (xs:=nV l) (te:=27) ud fun _ O e=>?_;have e:=e qb;refine au ?_;refine O6 (fun(i st:Int) (m:List Nat)=>x+1<=i/\i<=y/\0<=st/\st<=5/\Sm l m) (fun i st m=>[(0,.slice a n c),(1,iI x),(2,iI y),(6,.bool false),(7,iI i),(8,iI st)]) (fun i st m=>[B3 a n c m]) (fun i st m=>(5-st).toNat) (x+1) 0 l ⟨Kj _,by omega,by omega,by omega,.refl _⟩ sub i_ ?_;rintro C st m ⟨Q,S,Y,Z,hs⟩;have d:m.length=n:=hs.len.trans hl;refine H9 2 ?_;refine o8 rfl ?_ ?_<;>intro h
 ·have h5:st<5:=qr h;refine H9 0 ?_;refine n8 ?_;refine H9 0 ?_;refine n7 (ι:=Int) (fun i=>x+1<=i/\i<=y) (fun i=>[(0,.slice a n c),(1,iI x),(2,iI y),(6,.bool false),(7,iI i),(8,iI st)]) (fun _=>[B3 a n c m]) ?_ ?_
  ·refine n8 ?_;refine o9 (ι:=Int) (fun i=>x+1<=i/\i<=y) (fun i=>[(0,.slice a n c),(1,iI x),(2,iI y),(6,.bool false),(7,iI i),(8,iI st)]) (fun _=>[B3 a n c m]) (fun i=>(y-i).toNat) C ⟨Q,S⟩ sub i_ ?_;rintro i ⟨s,g⟩;by_cases t:i<y
   ·refine u7 ?_;refine D8 [7,12] [] [B3 a n c m] 16 ?_;refine wd [0,1] ?_;refine w_ 2 rfl ((E_ rfl rfl).eq (v':=.bool true) (qn (kr t))) ?_;refine wd [3,4,5,6] ?_;(first|refine s_ 7 ?_|refine t_ 7 ?_|refine B0 7 rfl P6 (ap d) I5 rfl rfl rfl rfl rfl rfl i6 ?_);refine wd [8,9,10,11] ?_;(first|refine s_ 12 ?_|refine t_ 12 ?_|refine B0 12 rfl P6 (ap d) I5 rfl rfl rfl rfl rfl rfl i6 ?_);refine h_ 13 rfl i6 ?_;(first|refine u_ ?_|(refine v_ ?_;refine e_ rfl (O1 _ _) qw rfl ?_));refine E6 [14,15] ?_;refine o8 rfl ?_ ?_<;>intro h
    ·refine E5 ?_;exact l8 (i:=i) (i+1) qb qb sub i_
    ·refine u7 ?_;exact g_ i ⟨s,g⟩ i_
   ·refine u7 ?_;refine D8 [7,12] [] [B3 a n c m] 16 ?_;refine wd [0,1] ?_;refine w_ 2 rfl ((E_ rfl rfl).eq (v':=.bool false) (qn (jc t))) ?_;refine wd [3,4,5,6,7,8,9,10,11,12] ?_;refine h_ 13 rfl i6 ?_;(first|refine u_ ?_|(refine v_ ?_;fail));refine E6 [14,15] ?_;exact g_ i ⟨s,g⟩ i_
  rintro i ⟨s,g⟩;refine eI ?_ ?_<;>intro h
  ·refine C8 ?_;exact d_ rfl rfl _ ⟨true,m,hs,rfl,rfl⟩ i_
  have t:i<y:=by have:=zq h;omega
  refine CO ?_ ?_<;>intro h
  ·refine C8 ?_;exact d_ rfl rfl _ ⟨false,m,hs,rfl,rfl⟩ i_
  refine u7 ?_;refine D8 [9,13] [15,17] [B3 a n c m] 18 ?_;refine wd [0,1,2,3,4,5,6,7,8] ?_;refine n9 9 rfl P6 (ap d) I5 rfl rfl rfl i6 ?_;refine wd [10,11,12] ?_;refine n9 13 rfl P6 (ap d) I5 rfl rfl rfl i6 ?_;refine wd [14] ?_;refine h_ 15 rfl i6 ?_;refine V4 d ?_;refine E6 [16] ?_;refine h_ 17 rfl i6 ?_;refine R2 d ?_;refine E6 [] ?_;have o:=hs.swap (i:=i) (j:=i-1) (n:=n) qb qb d;obtain⟨D,u⟩:=o7 ((m.set i.toNat (m.getD (i-1).toNat 0)).set (i-1).toNat (m.getD i.toNat 0));rw[<-u] at o⊢;refine O2 ?_;refine n7 (ι:=List Nat) (fun k=>Sm l k) (fun _=>[(0,.slice a n c),(1,iI x),(2,iI y),(6,.bool false),(7,iI i),(8,iI st)]) (fun k=>[B3 a n c k]) ?_ ?_
  ·refine o8 rfl ?_ ?_<;>intro h
   ·refine E5 ?_;refine o9 (ι:=Int×List Nat) (fun j=>0<=j.1/\j.1<=i-1/\Sm l j.2) (fun j=>[(0,.slice a n c),(1,iI x),(2,iI y),(6,.bool false),(7,iI i),(8,iI st),(9,iI j.1)]) (fun j=>[B3 a n c j.2]) (fun j=>j.1.toNat) (i-1,D) ⟨by simp only;omega,Kj _,o⟩ sub i_ ?_;rintro⟨j,k⟩ ⟨w,p,f⟩;simp only at w p f;have b:k.length=n:=f.len.trans hl;refine bD ?_ ?_<;>intro h
    ·have T:1<=j:=qr h;refine u7 ?_;refine D8 [3,8] [9] [B3 a n c k] 11 ?_;refine wd [0,1,2] ?_;refine n9 3 rfl P6 (ap b) I5 rfl rfl rfl i6 ?_;refine wd [4,5,6,7] ?_;refine n9 8 rfl P6 (ap b) I5 rfl rfl rfl i6 ?_;refine h_ 9 rfl i6 ?_;refine e_ rfl (O1 _ _) qw rfl ?_;refine E6 [10] ?_;refine o8 rfl ?_ ?_<;>intro h
     ·refine u7 ?_;exact g_ k f i_
     ·refine u7 ?_;refine D8 [9,13] [15,17] [B3 a n c k] 18 ?_;refine wd [0,1,2,3,4,5,6,7,8] ?_;refine n9 9 rfl P6 (ap b) I5 rfl rfl rfl i6 ?_;refine wd [10,11,12] ?_;refine n9 13 rfl P6 (ap b) I5 rfl rfl rfl i6 ?_;refine wd [14] ?_;refine h_ 15 rfl i6 ?_;refine V4 b ?_;refine E6 [16] ?_;refine h_ 17 rfl i6 ?_;refine R2 b ?_;refine E6 [] ?_;refine E5 ?_;exact l8 (i:=(j,k)) (j-1,_) ⟨by simp only;omega,by simp only;omega,f.swap (n:=n) qb qb b⟩ qg sub i_
    ·refine u7 ?_;exact g_ k f i_
   ·refine u7 ?_;exact g_ D o i_
  intro J r;refine O2 ?_;refine n7 (ι:=List Nat) (fun k=>Sm l k) (fun _=>[(0,.slice a n c),(1,iI x),(2,iI y),(6,.bool false),(7,iI i),(8,iI st)]) (fun k=>[B3 a n c k]) ?_ ?_
  ·refine o8 rfl ?_ ?_<;>intro h
   ·refine E5 ?_;refine o9 (ι:=Int×List Nat) (fun j=>i+1<=j.1/\j.1<=y/\Sm l j.2) (fun j=>[(0,.slice a n c),(1,iI x),(2,iI y),(6,.bool false),(7,iI i),(8,iI st),(10,iI j.1)]) (fun j=>[B3 a n c j.2]) (fun j=>(y-j.1).toNat) (i+1,J) ⟨Kj _,by simp only;omega,r⟩ sub i_ ?_;rintro⟨j,k⟩ ⟨w,p,f⟩;simp only at w p f;have b:k.length=n:=f.len.trans hl;refine eI ?_ ?_<;>intro h
    ·have T:j<y:=qr h;refine u7 ?_;refine D8 [3,8] [9] [B3 a n c k] 11 ?_;refine wd [0,1,2] ?_;refine n9 3 rfl P6 (ap b) I5 rfl rfl rfl i6 ?_;refine wd [4,5,6,7] ?_;refine n9 8 rfl P6 (ap b) I5 rfl rfl rfl i6 ?_;refine h_ 9 rfl i6 ?_;refine e_ rfl (O1 _ _) qw rfl ?_;refine E6 [10] ?_;refine o8 rfl ?_ ?_<;>intro h
     ·refine u7 ?_;exact g_ k f i_
     ·refine u7 ?_;refine D8 [9,13] [15,17] [B3 a n c k] 18 ?_;refine wd [0,1,2,3,4,5,6,7,8] ?_;refine n9 9 rfl P6 (ap b) I5 rfl rfl rfl i6 ?_;refine wd [10,11,12] ?_;refine n9 13 rfl P6 (ap b) I5 rfl rfl rfl i6 ?_;refine wd [14] ?_;refine h_ 15 rfl i6 ?_;refine V4 b ?_;refine E6 [16] ?_;refine h_ 17 rfl i6 ?_;refine R2 b ?_;refine E6 [] ?_;refine E5 ?_;exact l8 (i:=(j,k)) (j+1,_) ⟨by simp only;omega,by simp only;omega,f.swap (n:=n) qb qb b⟩ qg sub i_
    ·refine u7 ?_;exact g_ k f i_
   ·refine u7 ?_;exact g_ J r i_
  intro U z;refine E5 ?_;exact l8 (i:=(C,st,m)) (i,st+1,U) ⟨s,g,by simp only;omega,by simp only;omega,z⟩ qg sub i_
 ·refine C8 ?_;exact d_ rfl rfl _ ⟨false,m,hs,rfl,rfl⟩ i_
theorem LL(a:Option Addr)(n c:Nat)(l:List Nat)(hl:l.length=n)(x y p:Int)(hx:0<=x)(w:x<y)(M:y<=n)(hp:x<=p/\p<y)(O:n<=1000000000):Ct prog 450 [.slice a n c,iI x,iI y,iI p] (fun _=>True) [B3 a n c l] (fun v A=>∃r m,(x+1<=r/\r<=y)/\Sm l m/\v=iI r/\A=[B3 a n c m]):=by
 refine b_ 84 func450 rfl rfl rfl ?_;intro F _;refine B4 (a:=a) (n:=n) (c:=c) (sz:=1) (xs:=nV l) (te:=27) ud fun _ z d=>?_;have d:=d qb;refine p_ ?_;refine D8 [7,11] [13,15] [B3 a n c l] 16 ?_;refine wd [0,1,2,3,4,5,6] ?_;refine n9 7 rfl P6 (ap hl) I5 rfl rfl rfl i6 ?_;refine wd [8,9,10] ?_;refine n9 11 rfl P6 (ap hl) I5 rfl rfl rfl i6 ?_;refine wd [12] ?_;refine h_ 13 rfl i6 ?_;refine V4 hl ?_;refine E6 [14] ?_;refine h_ 15 rfl i6 ?_;refine R2 hl ?_;refine E6 [] ?_;have g:=(Sm.refl l).swap (i:=x) (j:=p) (n:=n) qb qb hl;obtain⟨C,o⟩:=o7 ((l.set x.toNat (l.getD p.toNat 0)).set p.toNat (l.getD x.toNat 0));rw[<-o] at g⊢;refine H9 6 ?_;refine n7 (ι:=Int×List Nat) (fun i=>x+1<=i.1/\i.1<=y/\Sm l i.2) (fun i=>[(9,iI i.1)]) (fun i=>[B3 a n c i.2]) ?_ ?_
 ·refine n8 ?_;refine O6 (fun(i j:Int) (m:List Nat)=>(x+1<=i/\i<=y)/\(x<=j+1/\j<y)/\Sm l m) (fun i j m=>[(0,.slice a n c),(1,iI x),(9,iI i),(10,iI j)]) (fun i j m=>[B3 a n c m]) (fun i j m=>(j-i+1).toNat) (x+1) (y-1) C ⟨by omega,by omega,g⟩ sub i_ ?_;rintro k e m ⟨D,J,hs⟩;have b:m.length=n:=hs.len.trans hl;refine H9 0 ?_;refine n8 ?_;refine H9 0 ?_;refine n7 (ι:=Int) (fun i=>k<=i/\i<=y) (fun i=>[(0,.slice a n c),(1,iI x),(9,iI i),(10,iI e)]) (fun _=>[B3 a n c m]) ?_ ?_
  ·refine n8 ?_;refine o9 (ι:=Int) (fun i=>k<=i/\i<=y) (fun i=>[(0,.slice a n c),(1,iI x),(9,iI i),(10,iI e)]) (fun _=>[B3 a n c m]) (fun i=>(y-i).toNat) k qb sub i_ ?_;intro i q;by_cases f:i<=e
   ·refine u7 ?_;refine D8 [7,11] [] [B3 a n c m] 15 ?_;refine wd [0,1] ?_;refine w_ 2 rfl ((F_ rfl rfl).eq (v':=.bool true) (qn (kr f))) ?_;refine wd [3,4,5,6] ?_;(first|refine s_ 7 ?_|refine t_ 7 ?_|refine B0 7 rfl P6 (ap b) I5 rfl rfl rfl rfl rfl rfl i6 ?_);refine wd [8,9,10] ?_;(first|refine s_ 11 ?_|refine t_ 11 ?_|refine B0 11 rfl P6 (ap b) I5 rfl rfl rfl rfl rfl rfl i6 ?_);refine h_ 12 rfl i6 ?_;(first|refine u_ ?_|(refine v_ ?_;refine e_ rfl (O1 _ _) qw rfl ?_));refine E6 [13,14] ?_;refine o8 rfl ?_ ?_<;>intro h
    ·refine E5 ?_;exact l8 (i:=i) (i+1) qb qb sub i_
    ·refine u7 ?_;exact g_ i q i_
   ·refine u7 ?_;refine D8 [7,11] [] [B3 a n c m] 15 ?_;refine wd [0,1] ?_;refine w_ 2 rfl ((F_ rfl rfl).eq (v':=.bool false) (qn (jc f))) ?_;refine wd [3,4,5,6,7,8,9,10,11] ?_;refine h_ 12 rfl i6 ?_;(first|refine u_ ?_|(refine v_ ?_;fail));refine E6 [13,14] ?_;exact g_ i q i_
  intro i q;refine H9 0 ?_;refine n7 (ι:=Int) (fun j=>x<=j+1/\j<=e) (fun j=>[(0,.slice a n c),(1,iI x),(9,iI i),(10,iI j)]) (fun _=>[B3 a n c m]) ?_ ?_
  ·refine n8 ?_;refine o9 (ι:=Int) (fun j=>x<=j+1/\j<=e) (fun j=>[(0,.slice a n c),(1,iI x),(9,iI i),(10,iI j)]) (fun _=>[B3 a n c m]) (fun j=>(j+2).toNat) e qb sub i_ ?_;intro j s;by_cases f:i<=j
   ·refine u7 ?_;refine D8 [7,11] [] [B3 a n c m] 14 ?_;refine wd [0,1] ?_;refine w_ 2 rfl ((F_ rfl rfl).eq (v':=.bool true) (qn (kr f))) ?_;refine wd [3,4,5,6] ?_;(first|refine s_ 7 ?_|refine t_ 7 ?_|refine B0 7 rfl P6 (ap b) I5 rfl rfl rfl rfl rfl rfl i6 ?_);refine wd [8,9,10] ?_;(first|refine s_ 11 ?_|refine t_ 11 ?_|refine B0 11 rfl P6 (ap b) I5 rfl rfl rfl rfl rfl rfl i6 ?_);refine h_ 12 rfl i6 ?_;(first|refine u_ ?_|(refine v_ ?_;refine e_ rfl (O1 _ _) qw rfl ?_));refine E6 [13] ?_;refine o8 rfl ?_ ?_<;>intro h
    ·refine E5 ?_;exact l8 (i:=j) (j-1) qb qb sub i_
    ·refine u7 ?_;exact g_ j s i_
   ·refine u7 ?_;refine D8 [7,11] [] [B3 a n c m] 14 ?_;refine wd [0,1] ?_;refine w_ 2 rfl ((F_ rfl rfl).eq (v':=.bool false) (qn (jc f))) ?_;refine wd [3,4,5,6,7,8,9,10,11] ?_;refine h_ 12 rfl i6 ?_;(first|refine u_ ?_|(refine v_ ?_;fail));refine E6 [13] ?_;exact g_ j s i_
  intro j s;refine eI ?_ ?_<;>intro h
  ·refine u7 ?_;exact g_ (i,m) ⟨by simp only;omega,by simp only;omega,hs⟩ i_
  have f:i<=j:=by have:=zq h;omega
  refine u7 ?_;refine D8 [7,11] [13,15] [B3 a n c m] 16 ?_;refine wd [0,1,2,3,4,5,6] ?_;refine n9 7 rfl P6 (ap b) I5 rfl rfl rfl i6 ?_;refine wd [8,9,10] ?_;refine n9 11 rfl P6 (ap b) I5 rfl rfl rfl i6 ?_;refine wd [12] ?_;refine h_ 13 rfl i6 ?_;refine V4 b ?_;refine E6 [14] ?_;refine h_ 15 rfl i6 ?_;refine R2 b ?_;refine E6 [] ?_;refine cG ?_;exact l8 (i:=(k,e,m)) (i+1,j-1,_) ⟨by simp only;omega,by simp only;omega,hs.swap (n:=n) qb qb b⟩ qg sub i_
 rintro⟨i,m⟩ ⟨t,u,hs⟩;simp only at t u hs;refine L7 ?_;exact d_ rfl rfl _ ⟨i,m,⟨t,u⟩,hs,rfl,rfl⟩ i_
theorem LN(a:Option Addr)(n c:Nat)(l:List Nat)(hl:l.length=n)(x y p:Int)(hx:0<=x)(C:x+1<y)(Q:y<=n)(hp:x<=p/\p<y)(S:n<=1000000000):Ct prog 451 [.slice a n c,iI x,iI y,iI p] (fun _=>True) [B3 a n c l] (fun v A=>∃r q m,(x<=r/\r<y)/\Sm l m/\v=.tuple #[iI r,.bool q]/\A=[B3 a n c m]):=by
 refine b_ 168 func451 rfl rfl rfl ?_;intro F _;refine B4 (a:=a) (n:=n) (c:=c) (sz:=1) (xs:=nV l) (te:=27) ud fun _ D f=>?_;have f:=f qb;refine y9 ?_;refine D8 [7,11] [13,15] [B3 a n c l] 16 ?_;refine wd [0,1,2,3,4,5,6] ?_;refine n9 7 rfl P6 (ap hl) I5 rfl rfl rfl i6 ?_;refine wd [8,9,10] ?_;refine n9 11 rfl P6 (ap hl) I5 rfl rfl rfl i6 ?_;refine wd [12] ?_;refine h_ 13 rfl i6 ?_;refine V4 hl ?_;refine E6 [14] ?_;refine h_ 15 rfl i6 ?_;refine R2 hl ?_;refine E6 [] ?_;have k:=(Sm.refl l).swap (i:=x) (j:=p) (n:=n) qb qb hl;obtain⟨d,w⟩:=o7 ((l.set x.toNat (l.getD p.toNat 0)).set p.toNat (l.getD x.toNat 0));rw[<-w] at k⊢;have b:d.length=n:=k.len.trans hl;refine H9 6 ?_;refine n7 (ι:=Int) (fun i=>x+1<=i/\i<=y) (fun i=>[(0,.slice a n c),(1,iI x),(10,iI i),(11,iI (y-1))]) (fun _=>[B3 a n c d]) ?_ ?_
 ·refine n8 ?_;refine o9 (ι:=Int) (fun i=>x+1<=i/\i<=y) (fun i=>[(0,.slice a n c),(1,iI x),(10,iI i),(11,iI (y-1))]) (fun _=>[B3 a n c d]) (fun i=>(y-i).toNat) (x+1) qb sub i_ ?_;intro i t;by_cases e:i<=y-1
  ·refine u7 ?_;refine D8 [7,11] [] [B3 a n c d] 14 ?_;refine wd [0,1] ?_;refine w_ 2 rfl ((F_ rfl rfl).eq (v':=.bool true) (qn (kr e))) ?_;refine wd [3,4,5,6] ?_;(first|refine s_ 7 ?_|refine t_ 7 ?_|refine B0 7 rfl P6 (ap b) I5 rfl rfl rfl rfl rfl rfl i6 ?_);refine wd [8,9,10] ?_;(first|refine s_ 11 ?_|refine t_ 11 ?_|refine B0 11 rfl P6 (ap b) I5 rfl rfl rfl rfl rfl rfl i6 ?_);refine h_ 12 rfl i6 ?_;(first|refine u_ ?_|(refine v_ ?_;refine e_ rfl (O1 _ _) qw rfl ?_));refine E6 [13] ?_;refine o8 rfl ?_ ?_<;>intro h
   ·refine E5 ?_;exact l8 (i:=i) (i+1) qb qb sub i_
   ·refine u7 ?_;exact g_ i t i_
  ·refine u7 ?_;refine D8 [7,11] [] [B3 a n c d] 14 ?_;refine wd [0,1] ?_;refine w_ 2 rfl ((F_ rfl rfl).eq (v':=.bool false) (qn (jc e))) ?_;refine wd [3,4,5,6,7,8,9,10,11] ?_;refine h_ 12 rfl i6 ?_;(first|refine u_ ?_|(refine v_ ?_;fail));refine E6 [13] ?_;exact g_ i t i_
 intro i t;refine H9 0 ?_;refine n7 (ι:=Int) (fun j=>x<=j/\j<y) (fun j=>[(0,.slice a n c),(1,iI x),(10,iI i),(11,iI j)]) (fun _=>[B3 a n c d]) ?_ ?_
 ·refine n8 ?_;refine o9 (ι:=Int) (fun j=>x<=j/\j<y) (fun j=>[(0,.slice a n c),(1,iI x),(10,iI i),(11,iI j)]) (fun _=>[B3 a n c d]) (fun j=>j.toNat) (y-1) qb sub i_ ?_;intro j g;by_cases e:i<=j
  ·refine u7 ?_;refine D8 [7,11] [] [B3 a n c d] 15 ?_;refine wd [0,1] ?_;refine w_ 2 rfl ((F_ rfl rfl).eq (v':=.bool true) (qn (kr e))) ?_;refine wd [3,4,5,6] ?_;(first|refine s_ 7 ?_|refine t_ 7 ?_|refine B0 7 rfl P6 (ap b) I5 rfl rfl rfl rfl rfl rfl i6 ?_);refine wd [8,9,10] ?_;(first|refine s_ 11 ?_|refine t_ 11 ?_|refine B0 11 rfl P6 (ap b) I5 rfl rfl rfl rfl rfl rfl i6 ?_);refine h_ 12 rfl i6 ?_;(first|refine u_ ?_|(refine v_ ?_;refine e_ rfl (O1 _ _) qw rfl ?_));refine E6 [13,14] ?_;refine o8 rfl ?_ ?_<;>intro h
   ·refine E5 ?_;exact l8 (i:=j) (j-1) qb qb sub i_
   ·refine u7 ?_;exact g_ j g i_
  ·refine u7 ?_;refine D8 [7,11] [] [B3 a n c d] 15 ?_;refine wd [0,1] ?_;refine w_ 2 rfl ((F_ rfl rfl).eq (v':=.bool false) (qn (jc e))) ?_;refine wd [3,4,5,6,7,8,9,10,11] ?_;refine h_ 12 rfl i6 ?_;(first|refine u_ ?_|(refine v_ ?_;fail));refine E6 [13,14] ?_;exact g_ j g i_
 intro j g;refine eI ?_ ?_<;>intro h
 ·refine u7 ?_;refine D8 [7,11] [13,15] [B3 a n c d] 16 ?_;refine wd [0,1,2,3,4,5,6] ?_;refine n9 7 rfl P6 (ap b) I5 rfl rfl rfl i6 ?_;refine wd [8,9,10] ?_;refine n9 11 rfl P6 (ap b) I5 rfl rfl rfl i6 ?_;refine wd [12] ?_;refine h_ 13 rfl i6 ?_;refine V4 b ?_;refine E6 [14] ?_;refine h_ 15 rfl i6 ?_;refine R2 b ?_;refine E6 [] ?_;refine bS ?_;exact r7 rfl rfl rfl _ ⟨j,true,_,g,k.swap (i:=j) (j:=x) (n:=n) qb qb b,rfl,rfl⟩ i_
 have e:i<=j:=by have:=zq h;omega
 refine u7 ?_;refine D8 [7,11] [13,15] [B3 a n c d] 16 ?_;refine wd [0,1,2,3,4,5,6] ?_;refine n9 7 rfl P6 (ap b) I5 rfl rfl rfl i6 ?_;refine wd [8,9,10] ?_;refine n9 11 rfl P6 (ap b) I5 rfl rfl rfl i6 ?_;refine wd [12] ?_;refine h_ 13 rfl i6 ?_;refine V4 b ?_;refine E6 [14] ?_;refine h_ 15 rfl i6 ?_;refine R2 b ?_;refine E6 [] ?_;have s:=k.swap (i:=i) (j:=j) (n:=n) qb qb b;obtain⟨J,z⟩:=o7 ((d.set i.toNat (d.getD j.toNat 0)).set j.toNat (d.getD i.toNat 0));rw[<-z] at s⊢;refine H9 6 ?_;refine n7 (ι:=Int×List Nat) (fun j=>(x<=j.1/\j.1<y)/\Sm l j.2) (fun j=>[(0,.slice a n c),(1,iI x),(11,iI j.1)]) (fun j=>[B3 a n c j.2]) ?_ ?_
 ·refine n8 ?_;refine O6 (fun(i j:Int) (m:List Nat)=>(x+2<=i/\i<=y+1)/\(i<=j+2/\j<y)/\Sm l m) (fun i j m=>[(0,.slice a n c),(1,iI x),(10,iI i),(11,iI j)]) (fun i j m=>[B3 a n c m]) (fun i j m=>(j-i+3).toNat) (i+1) (j-1) J ⟨by omega,by omega,s⟩ sub i_ ?_;rintro u o m ⟨M,O,hs⟩;have b:m.length=n:=hs.len.trans hl;refine H9 0 ?_;refine n8 ?_;refine H9 0 ?_;refine n7 (ι:=Int) (fun i=>u<=i/\i<=o+2) (fun i=>[(0,.slice a n c),(1,iI x),(10,iI i),(11,iI o)]) (fun _=>[B3 a n c m]) ?_ ?_
  ·refine n8 ?_;refine o9 (ι:=Int) (fun i=>u<=i/\i<=o+2) (fun i=>[(0,.slice a n c),(1,iI x),(10,iI i),(11,iI o)]) (fun _=>[B3 a n c m]) (fun i=>(y-i).toNat) u qb sub i_ ?_;intro i t;by_cases e:i<=o
   ·refine u7 ?_;refine D8 [7,11] [] [B3 a n c m] 14 ?_;refine wd [0,1] ?_;refine w_ 2 rfl ((F_ rfl rfl).eq (v':=.bool true) (qn (kr e))) ?_;refine wd [3,4,5,6] ?_;(first|refine s_ 7 ?_|refine t_ 7 ?_|refine B0 7 rfl P6 (ap b) I5 rfl rfl rfl rfl rfl rfl i6 ?_);refine wd [8,9,10] ?_;(first|refine s_ 11 ?_|refine t_ 11 ?_|refine B0 11 rfl P6 (ap b) I5 rfl rfl rfl rfl rfl rfl i6 ?_);refine h_ 12 rfl i6 ?_;(first|refine u_ ?_|(refine v_ ?_;refine e_ rfl (O1 _ _) qw rfl ?_));refine E6 [13] ?_;refine o8 rfl ?_ ?_<;>intro h
    ·refine E5 ?_;exact l8 (i:=i) (i+1) qb qb sub i_
    ·refine u7 ?_;exact g_ i t i_
   ·refine u7 ?_;refine D8 [7,11] [] [B3 a n c m] 14 ?_;refine wd [0,1] ?_;refine w_ 2 rfl ((F_ rfl rfl).eq (v':=.bool false) (qn (jc e))) ?_;refine wd [3,4,5,6,7,8,9,10,11] ?_;refine h_ 12 rfl i6 ?_;(first|refine u_ ?_|(refine v_ ?_;fail));refine E6 [13] ?_;exact g_ i t i_
  intro i t;refine H9 0 ?_;refine n7 (ι:=Int) (fun j=>i<=j+2/\j<=o) (fun j=>[(0,.slice a n c),(1,iI x),(10,iI i),(11,iI j)]) (fun _=>[B3 a n c m]) ?_ ?_
  ·refine n8 ?_;refine o9 (ι:=Int) (fun j=>i<=j+2/\j<=o) (fun j=>[(0,.slice a n c),(1,iI x),(10,iI i),(11,iI j)]) (fun _=>[B3 a n c m]) (fun j=>(j+2).toNat) o qb sub i_ ?_;intro j g;by_cases e:i<=j
   ·refine u7 ?_;refine D8 [7,11] [] [B3 a n c m] 15 ?_;refine wd [0,1] ?_;refine w_ 2 rfl ((F_ rfl rfl).eq (v':=.bool true) (qn (kr e))) ?_;refine wd [3,4,5,6] ?_;(first|refine s_ 7 ?_|refine t_ 7 ?_|refine B0 7 rfl P6 (ap b) I5 rfl rfl rfl rfl rfl rfl i6 ?_);refine wd [8,9,10] ?_;(first|refine s_ 11 ?_|refine t_ 11 ?_|refine B0 11 rfl P6 (ap b) I5 rfl rfl rfl rfl rfl rfl i6 ?_);refine h_ 12 rfl i6 ?_;(first|refine u_ ?_|(refine v_ ?_;refine e_ rfl (O1 _ _) qw rfl ?_));refine E6 [13,14] ?_;refine o8 rfl ?_ ?_<;>intro h
    ·refine E5 ?_;exact l8 (i:=j) (j-1) qb qb sub i_
    ·refine u7 ?_;exact g_ j g i_
   ·refine u7 ?_;refine D8 [7,11] [] [B3 a n c m] 15 ?_;refine wd [0,1] ?_;refine w_ 2 rfl ((F_ rfl rfl).eq (v':=.bool false) (qn (jc e))) ?_;refine wd [3,4,5,6,7,8,9,10,11] ?_;refine h_ 12 rfl i6 ?_;(first|refine u_ ?_|(refine v_ ?_;fail));refine E6 [13,14] ?_;exact g_ j g i_
  intro j g;refine eI ?_ ?_<;>intro h
  ·refine u7 ?_;exact g_ (j,m) ⟨by simp only;omega,hs⟩ i_
  have e:i<=j:=by have:=zq h;omega
  refine u7 ?_;refine D8 [7,11] [13,15] [B3 a n c m] 16 ?_;refine wd [0,1,2,3,4,5,6] ?_;refine n9 7 rfl P6 (ap b) I5 rfl rfl rfl i6 ?_;refine wd [8,9,10] ?_;refine n9 11 rfl P6 (ap b) I5 rfl rfl rfl i6 ?_;refine wd [12] ?_;refine h_ 13 rfl i6 ?_;refine V4 b ?_;refine E6 [14] ?_;refine h_ 15 rfl i6 ?_;refine R2 b ?_;refine E6 [] ?_;refine cG ?_;exact l8 (i:=(u,o,m)) (i+1,j-1,_) ⟨by simp only;omega,by simp only;omega,hs.swap (n:=n) qb qb b⟩ qg sub i_
 rintro⟨j,m⟩ ⟨g,hs⟩;simp only at g hs;have b:m.length=n:=hs.len.trans hl;refine u7 ?_;refine D8 [7,11] [13,15] [B3 a n c m] 16 ?_;refine wd [0,1,2,3,4,5,6] ?_;refine n9 7 rfl P6 (ap b) I5 rfl rfl rfl i6 ?_;refine wd [8,9,10] ?_;refine n9 11 rfl P6 (ap b) I5 rfl rfl rfl i6 ?_;refine wd [12] ?_;refine h_ 13 rfl i6 ?_;refine V4 b ?_;refine E6 [14] ?_;refine h_ 15 rfl i6 ?_;refine R2 b ?_;refine E6 [] ?_;refine bS ?_;exact r7 rfl rfl rfl _ ⟨j,false,_,g,hs.swap (i:=j) (j:=x) (n:=n) qb qb b,rfl,rfl⟩ i_
theorem Bb(x:Nat)(hx:x<=1000000000):Pu prog 191 [.int .u64 (x:Nat)] (fun _=>True) (.int .i64 (Lib.bitLen x:Nat)):=U0 fun w _=>by
 have:=Tryz.bits_Len (x:Nat) w qb qb
 rwa [jm] at this
theorem vW:∀(f x:Nat),0<x->2^(Lib.bitLenAux f x)<=2*x
 |0,x,h=>by simp[Lib.bitLenAux];omega
 |f+1,x,h=>by
  rw[Lib.bitLenAux];split
  ·omega
  ·rcases Qs (x/2) with a|a
   ·have:Lib.bitLenAux f (x/2)=0:=(by rw[a];cases f<;>simp[Lib.bitLenAux]);rw[this];omega
   ·have:=vW f (x/2) a;rw[Wu 1,W8];omega
theorem LO(x:Nat)(h:0<x):2^(Lib.bitLen x)<=2*x:=vW 64 x h
theorem Bc(x:Nat)(h:x<=1000000000):Lib.bitLen x<=30:=Lib.bitLen_le x 30 qb qb
theorem LP(x:Int)(c:8<=x)(hx:x<=1000000000):∃k:Nat,k<=30/\(2^k:Nat)<=2*x/\Pu prog 332 [iI x] (fun _=>True) (.int .u64 ((2^k:Nat):Int)):=by
 have a:=Bc x.toNat qb;have d:=LO x.toNat qb;refine⟨Lib.bitLen x.toNat,a,by omega,?_⟩;refine b_ 7 func332 rfl rfl rfl ?_;intro F _;refine y9 ?_;refine f_ ((z_ rfl qb).eq (v':=.int .u64 ((x.toNat:Nat):Int)) (by congr 1;omega)) ?_;refine e_ rfl (Bb x.toNat qb) qw rfl ?_;refine f_ ((zZ rfl rfl qb).eq (v':=.int .u64 ((2^(Lib.bitLen x.toNat):Nat):Int)) (by(have b:min ((Lib.bitLen x.toNat:Nat):Int).toNat IntKind.u64.bits=Lib.bitLen x.toNat:=by(simp[IntKind.bits];omega));(have e:(2:Nat)^(Lib.bitLen x.toNat)<=2^30:=Nat.pow_le_pow_right qb a);rw[b,IntKind.wrap_u64,Int.one_mul];congr 1;show((2:Nat):Int)^(Lib.bitLen x.toNat)%_=_;rw[<-Yz];generalize (2:Nat)^(Lib.bitLen x.toNat)=M at*;omega)) ?_;refine C8 ?_;exact d_ rfl rfl [] qh (fun _ h=>h)
abbrev vX(g:Nat)(r:Int):As:=.blk g (.cells #[.int .u64 r] 359)
theorem LQ(g:Nat)(r:Int)(t:0<=r/\r<18446744073709551616):Ct prog 333 [l9 g] (fun _=>True) [vX g r] (fun v A=>∃h:Int,(0<=h/\h<18446744073709551616)/\v=.int .u64 h/\A=[vX g h]):=by
 have l:∀p q:Int,0<=p->p<18446744073709551616->0<=q->q<18446744073709551616->0<=bits .xor .u64 p q/\bits .xor .u64 p q<18446744073709551616:=fun p q i n o u=>by
  obtain⟨m,rfl⟩:=Jh i;obtain⟨k,rfl⟩:=Jh o;have e:bits .xor .u64 (m:Int) (k:Int)=((m^^^k:Nat):Int):=u64_xor_nat m k qb qb;have w:m^^^k<2^64:=Nat.xor_lt_two_pow qb qb;rw[e];omega
 have j:∀p:Int,0<=IntKind.u64.wrap p/\IntKind.u64.wrap p<18446744073709551616:=fun p=>by rw[IntKind.wrap_u64];omega
 have hf:∀p:Int,0<=p->p<18446744073709551616->0<=p.fdiv (2^(min (Int.toNat 7) IntKind.u64.bits))/\p.fdiv (2^(min (Int.toNat 7) IntKind.u64.bits))<18446744073709551616:=fun p i n=>by
  have e:(2:Int)^(min (Int.toNat 7) IntKind.u64.bits)=128:=by decide
  rw[e,Jq _ qb];omega
 refine b_ 33 func333 rfl rfl rfl ?_;intro F _;refine p_ ?_;obtain⟨b,i,a⟩:∃b,b=bits .xor .u64 r (IntKind.u64.wrap (r*2^(min (Int.toNat 13) IntKind.u64.bits)))/\(0<=b/\b<18446744073709551616):=⟨_,rfl,l _ _ t.1 t.2 (j _).1 (j _).2⟩;refine u7 ?_;refine D8 [2,5] [9] [vX g r] 10 ?_;refine wd [0,1,2,3,4,5,6,7,8,9] ?_;rw[<-i];obtain⟨c,n,d⟩:∃c,c=bits .xor .u64 b (b.fdiv (2^(min (Int.toNat 7) IntKind.u64.bits)))/\(0<=c/\c<18446744073709551616):=⟨_,rfl,l _ _ a.1 a.2 (hf _ a.1 a.2).1 (hf _ a.1 a.2).2⟩;refine u7 ?_;refine D8 [2,5] [9] [vX g b] 10 ?_;refine wd [0,1,2,3,4,5,6,7,8,9] ?_;rw[<-n];obtain⟨f,o,s⟩:∃f,f=bits .xor .u64 c (IntKind.u64.wrap (c*2^(min (Int.toNat 17) IntKind.u64.bits)))/\(0<=f/\f<18446744073709551616):=⟨_,rfl,l _ _ d.1 d.2 (j _).1 (j _).2⟩;refine u7 ?_;refine D8 [2,5] [9] [vX g c] 10 ?_;refine wd [0,1,2,3,4,5,6,7,8,9] ?_;rw[<-o];refine JO ?_;exact d_ rfl rfl _ ⟨f,s,rfl,rfl⟩ i_
theorem LR(a:Option Addr)(n c:Nat)(x y:Int)(hx:0<=x)(Q:x+8<=y)(hy:y<=n)(hn:n<=1000000000):pj 445 a n c [iI x,iI y]:=by
 intro l S;obtain⟨k,hk,C,t⟩:=LP (y-x) qb qb;obtain⟨M,D⟩:=o7 (2^k);have T:1<=M:=by rw[D];exact Nat.one_le_two_pow
 rw[<-D] at C t;refine b_ 65 func445 rfl rfl rfl ?_;intro F _;refine B4 (a:=a) (n:=n) (c:=c) (sz:=1) (xs:=nV l) (te:=27) ud fun _ U b=>?_;have b:=b qb;refine au ?_;refine f_ ((I4 rfl rfl).eq (v':=.bool true) (qn qk)) ?_;refine y9 ?_;refine ce rfl rfl ?_;intro s;refine y9 ?_;refine e_ rfl t qw rfl ?_;refine wk 8 ?_;obtain⟨q,V,X,Y⟩:∃q:Int,q=(y-x)/4/\2<=q/\q*4<=y-x:=⟨_,rfl,by omega,by omega⟩;refine O6 (fun(i r:Int) (m:List Nat)=>(x+q*2-1<=i/\i<=x+q*2+2)/\(0<=r/\r<18446744073709551616)/\Sm l m) (fun i r m=>[(0,.slice a n c),(1,iI x),(6,iI (y-x)),(7,l9 s),(8,.int .u64 (M:Nat)),(9,iI i)]) (fun i r m=>[B3 a n c m,vX s r]) (fun i r m=>(x+q*2+3-i).toNat) (x+q*2-1) (y-x) l ⟨by omega,by omega,.refl _⟩ (by rw[V];exact sub) (fun w d=>x8.left tk d) ?_;rintro i r m ⟨hi,Z,hs⟩;have f:m.length=n:=hs.len.trans S;refine wk 8 ?_;refine o8 rfl ?_ ?_<;>intro h
 ·have h5:i<=x+q*2+1:=by have:=qr h;omega
  refine u7 ?_;refine n7 (ι:=Int×Int) (fun o=>(0<=o.1/\o.1<M)/\0<=o.2/\o.2<18446744073709551616) (fun o=>[(0,.slice a n c),(1,iI x),(6,iI (y-x)),(7,l9 s),(8,.int .u64 (M:Nat)),(9,iI i),(10,iI o.1)]) (fun o=>[B3 a n c m,vX s o.2]) ?_ ?_
  ·refine C6 ?_;refine c_ (LQ s r Z) qw ?_;rintro v A ⟨u,g,rfl,rfl⟩;obtain⟨o,J,O,z⟩:∃o,o=bits .and .u64 u ((M:Nat)-1:Int)/\0<=o/\o<M:=(by{refine⟨_,rfl,?_⟩;obtain⟨p,rfl⟩:=Jh g.1;(have e:bits .and .u64 (p:Int) ((M-1:Nat):Int)=((p&&&(M-1):Nat):Int):=u64_and_nat p (M-1) qb qb);rw[show((M:Nat):Int)-1=((M-1:Nat):Int) from by omega,e,D,Nat.and_two_pow_sub_one_eq_mod];have:=Nat.mod_lt p (show 0<2^k by omega);omega});refine y9 ?_;refine f_ ((kQ (.inl rfl) rfl rfl).eq (v':=.int .u64 o) (by rw[J])) ?_;refine y9 ?_;exact g_ (o,u) ⟨⟨O,z⟩,g⟩ (fun w d=>x8.left tk d)
  rintro⟨o,u⟩ ⟨J,g⟩;simp only at J g;refine E5 ?_;refine n7 (ι:=Int) (fun o=>0<=o/\o<y-x) (fun o=>[(0,.slice a n c),(1,iI x),(6,iI (y-x)),(7,l9 s),(8,.int .u64 (M:Nat)),(9,iI i),(10,iI o)]) (fun _=>[B3 a n c m,vX s u]) ?_ ?_
  ·refine o8 rfl ?_ ?_<;>intro h
   ·have h6:y-x<=o:=qr h;refine O2 ?_;exact g_ (o-(y-x)) qb (fun w d=>x8.left tk d)
   ·have h6:¬y-x<=o:=zq h;refine u7 ?_;exact g_ o qb (fun w d=>x8.left tk d)
  intro o2 z;refine u7 ?_;refine D8 [11,15] [17,19] [B3 a n c m] 20 ?_;refine wd [0,1,2,3,4,5,6,7,8,9,10] ?_;refine n9 11 rfl P6 (ap f) I5 rfl rfl rfl i6 ?_;refine wd [12,13,14] ?_;refine n9 15 rfl P6 (ap f) I5 rfl rfl rfl i6 ?_;refine wd [16] ?_;refine h_ 17 rfl i6 ?_;refine V4 f ?_;refine E6 [18] ?_;refine h_ 19 rfl i6 ?_;refine R2 f ?_;refine E6 [] ?_;refine E5 ?_;exact l8 (i:=(i,r,m)) (i+1,u,_) ⟨by simp only;omega,by simp only;omega,hs.swap (i:=i) (j:=x+o2) (n:=n) qb qb f⟩ qg sub (fun w d=>x8.left tk d)
 ·refine u7 ?_;exact m6 rfl _ ⟨rfl,m,hs,rfl⟩ (fun w d=>x8.left tk d)
end Go.Proofs.YtmcepdopookilaaGreatDoor.Rp
namespace Go.Sl
open Go Go.RowKit Go.Proofs.Tryz
section
variable{P:Program}{N:Nat}{K R:y6}{E:List (Nat×y6)}{L:G0}{F:l6}{H:List As}
theorem gz{α β γ δ ε ζ:Type}{c:Code}(b:α->β->γ->δ->ε->ζ->Prop)(d:α->β->γ->δ->ε->ζ->G0)(HI:α->β->γ->δ->ε->ζ->List As)(μ:α->β->γ->δ->ε->ζ->Nat)(e:α)(f:β)(z0:γ)(g:δ)(v0:ε)(w0:ζ)(i:b e f z0 g v0 w0)(k:fo (d e f z0 g v0 w0) L)(hH:∀w,Hp F w H->Hp F w (HI e f z0 g v0 w0))(round:∀x y z u v q,b x y z u v q->G P N c (fun a w=>∃j:α×β×γ×δ×ε×ζ,b j.1 j.2.1 j.2.2.1 j.2.2.2.1 j.2.2.2.2.1 j.2.2.2.2.2/\μ j.1 j.2.1 j.2.2.1 j.2.2.2.1 j.2.2.2.2.1 j.2.2.2.2.2<μ x y z u v q/\G4 N (d j.1 j.2.1 j.2.2.1 j.2.2.2.1 j.2.2.2.2.1 j.2.2.2.2.2) a/\Hp F w (HI j.1 j.2.1 j.2.2.1 j.2.2.2.1 j.2.2.2.2.1 j.2.2.2.2.2)) E R (d x y z u v q) F (HI x y z u v q)):G P N (.loop c) K E R L F H:=
 o9 (ι:=α×β×γ×δ×ε×ζ) (fun j=>b j.1 j.2.1 j.2.2.1 j.2.2.2.1 j.2.2.2.2.1 j.2.2.2.2.2) (fun j=>d j.1 j.2.1 j.2.2.1 j.2.2.2.1 j.2.2.2.2.1 j.2.2.2.2.2) (fun j=>HI j.1 j.2.1 j.2.2.1 j.2.2.2.1 j.2.2.2.2.1 j.2.2.2.2.2) (fun j=>μ j.1 j.2.1 j.2.2.1 j.2.2.2.1 j.2.2.2.2.1 j.2.2.2.2.2) (e,f,z0,g,v0,w0) i k hH fun j h=>round j.1 j.2.1 j.2.2.1 j.2.2.2.1 j.2.2.2.2.1 j.2.2.2.2.2 h
end
end Go.Sl
namespace Go.Proofs.YtmcepdopookilaaGreatDoor.Rp
open Go Go.Sl Go.RowKit Go.Proofs.Tryz
theorem Bd(a:Option Addr)(n c:Nat)(C:n<=1000000000):∀(b:Nat) (x y d:Int),(y-x).toNat<b->0<=x->x<=y->y<=n->0<=d->d<=1000->pj 434 a n c [iI x,iI y,iI d]
 |0,x,y,d,h,_,_,_,_,_=>by omega
 |b+1,x0,y0,lim0,hb,hx0,hxy0,hy0,hl0,hl1=>by
  have ih:=Bd a n c C b;intro l X;refine b_ 134 func434 rfl rfl rfl ?_;intro F _;refine B4 (a:=a) (n:=n) (c:=c) (sz:=1) (xs:=nV l) (te:=27) ud fun _ h4 w=>?_;refine y9 ?_;refine gz (fun(x y d:Int) (_ _:Bool) (m:List Nat)=>(x0<=x/\x<=y/\y<=y0)/\(0<=d/\d<=1000)/\Sm l m) (fun x y d f g _=>[(0,.slice a n c),(1,iI x),(2,iI y),(3,iI d),(8,.bool f),(9,.bool g)]) (fun _ _ _ _ _ m=>[B3 a n c m]) (fun x y _ _ _ _=>(y-x).toNat) x0 y0 lim0 true true l ⟨⟨Kj _,hxy0,Kj _⟩,⟨hl0,hl1⟩,.refl _⟩ sub i_ ?_;rintro x y d f g m ⟨h5,Y,hs⟩;have O:m.length=n:=hs.len.trans X;refine cG ?_;refine o8 rfl ?_ ?_<;>intro h
  ·refine E5 ?_;refine c_ (LG a n c x y qb qb qb C m O) qw ?_;rintro v A ⟨rfl,z,j,rfl⟩;refine ov ?_;exact m6 rfl _ ⟨rfl,z,hs.trans j,rfl⟩ i_
  have h2:12<y-x:=by have:=zq h;omega
  have w:=w qb;refine bD ?_ ?_<;>intro h
  ·refine E5 ?_;refine c_ (GR a n c x y qb qb qb C m O) qw ?_;rintro v A ⟨rfl,z,j,rfl⟩;refine ov ?_;exact m6 rfl _ ⟨rfl,z,hs.trans j,rfl⟩ i_
  have h0:1<=d:=by have:=zq h;omega
  refine y9 ?_;refine n7 (ι:=Int×List Nat) (fun i=>(0<=i.1/\i.1<=1000)/\Sm l i.2) (fun i=>[(0,.slice a n c),(1,iI x),(2,iI y),(3,iI i.1),(8,.bool f),(9,.bool g),(10,iI (y-x))]) (fun i=>[B3 a n c i.2]) ?_ ?_
  ·refine o8 rfl ?_ ?_<;>intro h
   ·refine E5 ?_;refine c_ (LR a n c x y qb qb qb C m O) qw ?_;rintro v A ⟨rfl,z,j,rfl⟩;refine E5 ?_;exact g_ (d-1,z) ⟨by simp only;omega,hs.trans j⟩ i_
   ·refine u7 ?_;exact g_ (d,m) ⟨Y,hs⟩ i_
  rintro⟨e,z⟩ ⟨o,j⟩;simp only at o j;have J:z.length=n:=j.len.trans X;refine E5 ?_;refine c_ (LJ a n c z J x y qb qb qb C) qw ?_;rintro v A ⟨p0,Q,h1,rfl,rfl⟩;refine wk 7 ?_;refine n7 (ι:=Int×Int×List Nat) (fun i=>(x<=i.1/\i.1<y)/\Sm l i.2.2) (fun i=>[(0,.slice a n c),(1,iI x),(2,iI y),(3,iI e),(8,.bool f),(9,.bool g),(10,iI (y-x)),(11,iI i.1),(12,iI i.2.1)]) (fun i=>[B3 a n c i.2.2]) ?_ ?_
  ·refine o8 rfl ?_ ?_<;>intro h
   ·refine E5 ?_;refine c_ (LH a n c x y qb qb qb C z J) qw ?_;rintro v A ⟨rfl,V,s,rfl⟩;refine wk 8 ?_;exact g_ (y-1-(p0-x),1,V) ⟨by simp only;omega,j.trans s⟩ i_
   ·refine u7 ?_;exact g_ (p0,Q,z) ⟨h1,j⟩ i_
  rintro⟨p,h3,V⟩ ⟨hp,s⟩;simp only at hp s;have Z:V.length=n:=s.len.trans X;refine u7 ?_;refine n7 (ι:=Bool) (fun _=>True) (fun q=>[(0,.slice a n c),(1,iI x),(2,iI y),(3,iI e),(8,.bool f),(9,.bool g),(10,iI (y-x)),(11,iI p),(68,.bool q)]) (fun _=>[B3 a n c V]) ?_ ?_
  ·cases f<;>cases g
   all_goals (
    refine wk 8 ?_)
   all_goals exact g_ _ trivial i_
  rintro q _;refine u7 ?_;refine n7 (ι:=List Nat) (fun k=>Sm l k) (fun _=>[(0,.slice a n c),(1,iI x),(2,iI y),(3,iI e),(8,.bool f),(9,.bool g),(10,iI (y-x)),(11,iI p)]) (fun k=>[B3 a n c k]) ?_ ?_
  ·refine o8 rfl ?_ ?_<;>intro h
   ·refine E5 ?_;refine c_ (LK a n c V Z x y qb qb qb C) qw ?_;rintro v A ⟨q2,D,u,rfl,rfl⟩;refine N8 ?_ ?_<;>intro h
    ·refine ov ?_;exact m6 rfl _ ⟨rfl,D,s.trans u,rfl⟩ i_
    ·refine u7 ?_;exact g_ D (s.trans u) i_
   ·refine u7 ?_;exact g_ V s i_
  intro D u;have t:D.length=n:=u.len.trans X;refine u7 ?_;refine n7 (ι:=Bool) (fun _=>True) (fun q=>[(0,.slice a n c),(1,iI x),(2,iI y),(3,iI e),(8,.bool f),(9,.bool g),(10,iI (y-x)),(11,iI p),(87,.bool q)]) (fun _=>[B3 a n c D]) ?_ ?_
  ·by_cases h6:0<x
   ·refine u7 ?_;refine D8 [7,11] [] [B3 a n c D] 15 ?_;refine wd [0] ?_;refine w_ 1 rfl ((D_ rfl rfl).eq (v':=.bool true) (qn (kr h6))) ?_;refine wd [2,3,4,5,6] ?_;(first|refine s_ 7 ?_|refine t_ 7 ?_|refine B0 7 rfl P6 (ap t) I5 rfl rfl rfl rfl rfl rfl i6 ?_);refine wd [8,9,10] ?_;(first|refine s_ 11 ?_|refine t_ 11 ?_|refine B0 11 rfl P6 (ap t) I5 rfl rfl rfl rfl rfl rfl i6 ?_);refine h_ 12 rfl i6 ?_;(first|refine u_ ?_|(refine v_ ?_;refine e_ rfl (O1 _ _) qw rfl ?_));refine E6 [13,14] ?_;exact g_ _ trivial i_
   ·refine u7 ?_;refine D8 [7,11] [] [B3 a n c D] 15 ?_;refine wd [0] ?_;refine w_ 1 rfl ((D_ rfl rfl).eq (v':=.bool false) (qn (jc h6))) ?_;refine wd [2,3,4,5,6,7,8,9,10,11] ?_;refine h_ 12 rfl i6 ?_;(first|refine u_ ?_|(refine v_ ?_;fail));refine E6 [13,14] ?_;exact g_ false trivial i_
  rintro q3 _;refine N8 ?_ ?_<;>intro h
  ·refine O2 ?_;refine c_ (LL a n c D t x y p qb qb qb hp C) qw ?_;rintro v A ⟨r,m5,hr,S,rfl,rfl⟩;refine E5 ?_;exact l8 (i:=(x,y,d,f,g,m)) (r,y,e,f,g,m5) ⟨by simp only;omega,o,u.trans S⟩ qg sub i_
  refine O2 ?_;refine c_ (LN a n c D t x y p qb qb qb hp C) qw ?_;rintro v A ⟨r,q4,m5,hr,S,rfl,rfl⟩;refine au ?_;have T:=u.trans S;have M:m5.length=n:=T.len.trans X;refine wk 16 ?_;refine o8 rfl ?_ ?_<;>intro h
  ·refine wk 8 ?_;refine c_ (ih x r e qb qb qb qb qb qb m5 M) qw ?_;rintro v A ⟨rfl,m7,U,rfl⟩;refine E5 ?_;exact l8 (i:=(x,y,d,f,g,m)) (r+1,y,e,_,q4,m7) ⟨by simp only;omega,o,T.trans U⟩ qg sub i_
  ·refine wk 9 ?_;refine c_ (ih (r+1) y e qb qb qb qb qb qb m5 M) qw ?_;rintro v A ⟨rfl,m7,U,rfl⟩;refine y9 ?_;exact l8 (i:=(x,y,d,f,g,m)) (x,r,e,_,q4,m7) ⟨by simp only;omega,o,T.trans U⟩ qg sub i_
theorem GS(a:Option Addr)(n c:Nat)(b:n<=1000000000):pj 421 a n c []:=by
 intro l e;refine b_ 11 func421 rfl rfl rfl ?_;intro F _;refine cG ?_;refine f_ ((z_ rfl qb).eq (v':=.int .u64 ((n:Nat):Int)) rfl) ?_;refine e_ rfl (Bb n b) qw rfl ?_;refine c_ (Bd a n c b (n+1) 0 n (Lib.bitLen n:Nat) qb qb qb qb qb (by have:=Bc n b;omega) l e) qw ?_;rintro v A ⟨rfl,f,d,rfl⟩;refine u7 ?_;exact m6 rfl _ ⟨rfl,f,d,rfl⟩ i_
end Go.Proofs.YtmcepdopookilaaGreatDoor.Rp
namespace Go.Sl
open Go Go.RowKit Go.Proofs.YtmcepdopookilaaGreatDoor.Rp Go.Proofs.Tryz
def muI(es:Array MapEntry)(g:Nat)(w:World):Nat:=match w.heap[g]? with
 |some (.mapIter _ _ seen _)=>(leftOf es seen).size
 |_=>0
theorem GT{e:Array MapEntry}{g cs d c0:Nat}{b:Option Nat}{a:Array Nat}{c:List KV}{w:World}(h:w.heap[g]? =some (.mapIter b d a c0))(f:bY e cs d a c0 c):muI e g w=c.length:=by
 unfold muI;rw[h,<-f.left.length_eq];simp
theorem rY{W c:World}{g:Nat}{o:Obj}{A:List As}(h:Hp (q_ W [g]) c A)(d:c.heap[g]? =some o):W.grownBy c (some g):=by
 have f:∀k,k<W.heap.size->k≠g->c.heap[k]? =W.heap[k]?:=fun k f a=>by
  have e:W.heap[k]? =some W.heap[k]:=Qr f;rw[e];exact h.keep k _ (by show E4 W [g] k=_;simp[E4,a])
 refine⟨h.os,h.tape,h.output,?_,fun k b a=>f k b (fun e=>a (by rw[e]))⟩;rcases Qp c.heap.size W.heap.size with b|i
 ·have a:c.heap.size≠g:=fun e=>by rw[<-e] at d;simp at d
  have j:=f c.heap.size b a;rw[Qr b] at j;simp at j
 ·exact i
end Go.Sl
namespace Go.Proofs.YtmcepdopookilaaGreatDoor.Rp
open Go Go.Sl Go.RowKit Go.Proofs.Tryz
theorem I0{F:l6}{w:World}{H:List As}{b o:Nat}{cs:Array Value}{te:TypeId}{fr:Nat×Nat}{v:Value}(c:Hp F w H)(d:F.heap b=some (.cells cs te fr))(hv:cs[o]? =some v):M0 (hp w) (some ⟨b,o,none⟩) [v]:=
 ⟨_,rfl,fun j q a=>by
  match j,a with
  |0,a=>
   simp at a;subst a;have e:=c.keep b _ d;have f:w.heap[b]? =some (.cells cs te fr):=e;simp[l_.cell?,hp,Addr.add,f,hv]⟩
theorem aO{P:Program}{fn:Func}{R:Ending->World->Prop}{N:Nat}{L:G0}{a:Act}{w:World}(b:fn.results=#[])(hf:G4 N L a)(h:R (.returned (.tuple #[])) w):bodyPost P fn R .normal a w/\bodyPost P fn R .ret a w:=
 ⟨⟨hf.defers,_,results_none b _ _ _,h⟩,⟨hf.defers,_,results_none b _ _ _,h⟩⟩
abbrev Pp(x:Nat):Array Value:=#[.int .u64 (x:Nat)]
abbrev Dv(x:Nat):Prop:=0<x/\x<18446744073709551616
abbrev Ps(kv:KV):Prop:=∃x:Nat,Dv x/\kv.1=.int .u64 (x:Nat)
abbrev Dw(ms:List KV)(ys:List Nat):Prop:=ys.length<=ms.length/\∀x∈ys,Dv x
theorem vY(c X cs:Nat)(u:Array MapEntry)(M:List KV)(hm:N7 (.int .u64) u cs M)(hk:∀kv∈M,Ps kv)(w0:World)(Y:w0.heap[c]? =some (.map u cs))(hB:w0.heap[X]? =some (.cells #[.map (some c)] 406 (0,0)))(n:Nat):
  SeqStopsK Fence.wide n prog 422 #[l9 X] Pp KeepsWalks (Dw M) (fun _=>True) M.length w0:=by
 intro l J Jx W hW hJ q0 hY h0;have q1:W.heap[c]? =some (.map u cs):=(hW.block c (kp.1 Y).1).trans Y;have q2:W.heap[X]? =some (.cells #[.map (some c)] 406 (0,0)):=(hW.block X (kp.1 hB).1).trans hB;refine callsIn_of_wp func422 rfl trivial ?_ rfl;refine(?_:GN none n prog 14 _ _ (ay 0 [.func (.yield l) #[] #[],l9 X]) (Z_ W) []) _ _ (T1 14 _ rfl) (ab W);have q3:(Z_ W).heap X=some (.cells #[.map (some c)] 406 (0,0)):=by rw[M2];exact q2
 have h2:(Z_ W).heap c=some (.map u cs):=by rw[M2];exact q1
 refine M6 ?_;refine I8 ?_;refine C6 ?_;refine r_ (i8 rfl (fun w S=>I0 S q3 rfl)) ?_;refine CD rfl (fun w S=>S.keep c _ h2) hm rfl ?_;intro g z;refine u7 ?_;refine O9 ?_;refine aU ?_;intro a w q4 A;have d:w.heap[g]? =some (.mapIter (some c) cs #[] cs):=A.blk ud;have C:w.heap[c]? =some (.map u cs):=A.keep c _ h2;have h3:W.heap.size<=g:=by
  rcases Qp g W.heap.size with h|h
  ·have h1:(Z_ W).heap g=some W.heap[g]:=(by rw[M2];exact Qr h);obtain⟨bs,hs,_,hf⟩:=A.own;obtain⟨b1,b2,e,⟨e1,_⟩,_⟩:=hs;have:=hf g (by rw[e,e1];simp);rw[this] at h1;cases h1
  ·exact h
 refine wpIn_loop (fun a w=>∃(p:List KV) (f:Array Nat) (c0:Nat) (j:List Nat),G4 14 [(0,.func (.yield l) #[] #[]),(5,l9 g)] a/\J j w/\w.heap[c]? =some (.map u cs)/\w.heap[g]? =some (.mapIter (some c) cs f c0)/\bY u cs cs f c0 p/\j.length+p.length<=M.length/\(∀x∈j,Dv x)/\∀kv∈p,Ps kv) (fun _ w=>muI u g w)
  ⟨M,#[],cs,[],q4.sub sub,hJ [] W w none h0 (B6 A) (fun r e=>by cases e),C,d,z,by simp,by simp,hk⟩ ?_
 rintro a w ⟨p,f,c0,j,q5,h4,C,d,z,y0,h5,h6⟩;have q6:=GT d z;have q7:c≠g:=by rintro rfl;rw[C] at d;cases d
 have T:(q_ w [g]).heap c=some (.map u cs):=by simp[q_,E4,q7,C]
 have q8:Hp (q_ w [g]) w [.blk g (.mapIter (some c) cs f c0)]:=Hp.start ⟨[g],[],rfl,⟨rfl,d⟩,rfl⟩ x6;refine(?_:GN none n prog 14 _ _ [(0,.func (.yield l) #[] #[]),(5,l9 g)] (q_ w [g]) [.blk g (.mapIter (some c) cs f c0)]) a w q5 q8;refine M6 ?_;refine I8 ?_;refine T0 ?_;refine Ft (b:=c) (H':=fun s=>[.blk g (.mapIter (some c) cs s cs)]) rfl (fun w S=>S.keep c _ T) (fun s=>.here) z hm rfl (fun h=>?_) (fun k v U o hp h7 hl=>?_)
 ·refine p_ ?_;refine O9 ?_;refine M6 ?_;refine aI rfl (fun h=>absurd h qp) (fun _=>?_);refine Ah ?_;unfold At;intro a2 Z t i;have q9:=rY i (i.blk ud);have Y:=aO (P:=prog) (fn:=Tryz.f422) (R:=fun e q=>(∃v,e=.returned v)/\((∃j,Dw M j/\J j q)\/(∃pre,True/\Jx pre q))) rfl t ⟨⟨_,rfl⟩,.inl ⟨j,⟨by omega,h5⟩,hJ _ w Z (some g) h4 q9 (fun r e=>by cases e;exact⟨h3,_,d,rfl⟩)⟩⟩;exact Y.1
 obtain⟨x,hx,ex⟩:=h6 (k,v) (hp.mem_iff.2 Qq);simp only at ex;subst ex;have x0:=hp.length_eq;rw[zy] at x0;refine p_ ?_;refine O9 ?_;refine M6 ?_;refine aI rfl (fun _=>?_) (fun h=>absurd h qp);refine eH ?_;refine O9 ?_;refine aU ?_;refine M6 ?_;refine I8 ?_;refine T0 ?_;refine r_ (Fu rfl (fun w S=>S.keep c _ T) ud hl hm) ?_;refine y9 ?_;refine O9 ?_;refine M6 ?_;refine od (pre:=List.take 2 _) (suf:=List.drop 2 _) (Qk 2 _).symm (.inl rfl) ?_;refine f_ oF ?_;refine f_ oF ?_;refine F7 ?_;unfold At;intro a1 w1 D V;have O:w1.heap[g]? =some (.mapIter (some c) cs o cs):=V.blk ud;have h8:w1.heap[c]? =some (.map u cs):=V.keep c _ T;have x1:J j w1:=hJ j w w1 (some g) h4 (rY V O) (fun r e=>by cases e;exact⟨h3,_,d,rfl⟩);have x2:=hY j x w1 x1 qb;refine vb (m:=n-1) (l:=l) (vs:=[.int .u64 (x:Nat)]) (D.eval (x:=.tmp 10) rfl) (by simp only[Qu,Jj];rw[D.eval (x:=.tmp 11) rfl];rfl) x2 rfl ?_;rintro e q (⟨rfl,x3,h9⟩|⟨rfl,k0⟩)
 ·refine⟨_,rfl,?_⟩;have k8:=h9.same g _ O rfl;have k9:=h9.same c _ h8 rfl;refine cQ (F:=Z_ q) (H:=[]) (.inl rfl) ?_ (D.put rfl _) (ab q);refine f_ oF ?_;refine F7 ?_;refine O9 ?_;refine aI rfl (fun h=>absurd h qp) (fun _=>?_);refine eH ?_;unfold At;intro a2 Z t i;have Q:Z.heap[g]? =some (.mapIter (some c) cs o cs):=i.keep g _ (by rw[M2];exact k8);refine⟨⟨U,o,cs,j++[x],t.sub sub,hJ _ q Z none x3 (B6 i) (fun r e=>by cases e),i.keep c _ (by rw[M2];exact k9),Q,h7,by rw[zz];simp only[zy,zn];omega,fun y hy=>?_,fun kv x9=>h6 kv (hp.mem_iff.2 (jj _ x9))⟩,?_⟩
  ·rcases zb.1 hy with hy|hy
   ·exact h5 y hy
   ·rw[zg.1 hy];exact hx
  ·rw[q6,GT Q h7];omega
 ·refine⟨_,rfl,?_⟩;refine cQ (F:=Z_ q) (H:=[]) (.inl rfl) ?_ (D.put rfl _) (ab q);refine f_ oF ?_;refine F7 ?_;refine O9 ?_;refine aI rfl (fun _=>?_) (fun h=>absurd h qp);refine xQ ?_;unfold At;intro a2 Z t i;have Y:=aO (P:=prog) (fn:=Tryz.f422) (R:=fun e q=>(∃v,e=.returned v)/\((∃j,Dw M j/\J j q)\/(∃pre,True/\Jx pre q))) rfl t ⟨⟨_,rfl⟩,.inr ⟨_,trivial,q0 _ q Z none k0 (B6 i) (fun r e=>by cases e)⟩⟩;exact Y.2
open Go Go.Sl Go.Proofs.Tryz
abbrev po(b:Nat)(r:RR)(x:RL):As:=.blk b (.cells #[.int .i64 r.kind,B r.tag,B r.code,B r.text,.int .u64 (r.n:Nat),.slice x.na r.nums.length x.nc,.int .u64 (r.mod:Nat),.slice x.fa r.a5U.length x.fc,B r.box,.slice x.va x.vs.length x.vc] 51)
theorem tX:∀(n:Nat) (s b:Bs) (i:Nat) (t:Bs) (m:Nat),s.length<=n->Al b i s=some (t,m)->t.length<=b.length+s.length
 |_,[],_,_,_,_,_,h=>by simp[Al] at h
 |0,c::s,_,_,_,_,hn,_=>by simp at hn
 |n+1,c::s,b,i,t,m,hn,h=>by
  simp only[zy] at hn⊢;rw[iZ] at h;split at h
  ·cases h
  split at h
  ·simp at h;rw[<-h.1];omega
  split at h
  ·split at h
   ·cases h
   ·next d t'=>
    split at h
    ·simp only[zy] at hn⊢;have:=tX n t' _ _ t m qb h;simp only[zz,zy,zn] at this;omega
    ·cases h
  split at h
  ·have:=tX n s _ _ t m qb h;simp only[zz,zy,zn] at this;omega
  ·cases h
theorem Be(s:Bs):((vg s).getD ([],0)).1.length<=s.length:=by
 cases h:vg s with
 |none=>simp
 |some q=>
  obtain⟨t,m⟩:=q
  cases s with
  |nil=>cases h
  |cons c v=>
   unfold vg at h;simp only at h;split at h
   ·have:=tX v.length v [] 1 t m (z1 _) h;simp at this⊢;omega
   ·cases h
