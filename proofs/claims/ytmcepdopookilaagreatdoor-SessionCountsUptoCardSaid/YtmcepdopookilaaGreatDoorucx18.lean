import Derived.Test.YtmcepdopookilaaGreatDoorucx17
set_option maxHeartbeats 16000000
set_option maxRecDepth 8000
set_option linter.unusedVariables false
set_option linter.unusedSimpArgs false
set_option linter.defProp false
namespace Go.Proofs.YtmcepdopookilaaGreatDoor.Rp
open Go Go.Sl Go.RowKit Go.Proofs.Tryz
theorem Iu(g:Nat)(r:RQ)(q:QL)(x:SX):Pu prog 105 [.agg (nq x).toArray,m6 g] (fun h=>h g=some (.cells (eB r q).toArray 44 (0,0))) (.bool (decide (x.node=r.node))):=by
 refine b_ 9 func105 rfl rfl rfl ?_;intro F hf;refine C6 ?_;refine m9 rfl rfl ?_;intro b;refine KW ?_;exact d_ rfl rfl [] qh (fun w a=>a.dropAll)
theorem To{F:l6}{w:World}{x k s u v:As}{T E:List As}(h:Hp F w (x::k::s::u::v::(T++E))):Hp F w (s::k::u::v::(T++([]++E))):=(h.drop.perm (.swap _ _ _))
theorem Tp{F:l6}{w:World}{x y k s u v:As}{T E:List As}(h:Hp F w (x::y::k::s::u::v::(T++E))):Hp F w (x::k::u::v::(T++([s]++E))):=by
 have a:Hp F w (x::k::s::u::v::(T++E)):=(h.perm (.swap _ _ _)).drop;have b:Hp F w ([x,k]++(s::([u,v]++T)++E)):=a;have c:Hp F w ([x,k]++(([u,v]++T)++([s]++E))):=b.perm (Zr _ (Qp (l₁:=[u,v]++T) (l₂:=E)).symm);exact c.perm y4
theorem Tq{F:l6}{w:World}{k s u v:As}{T E:List As}(h:Hp F w (k::u::v::(T++([s]++E)))):Hp F w (k::(s::u::v::T++E)):=by
 have a:Hp F w (([k,u,v]++T)++s::E):=by simpa using h
 have b:Hp F w (s::(([k,u,v]++T)++E)):=a.perm Qp;exact b.perm (.swap _ _ _)
abbrev BP(m:MM)(r:RQ)(sl:List SX)(a:Option Addr)(c:Nat):MM:={m with a5E:=sl++[⟨m.nses,0,r.node,r.life,r.tr⟩],nses:=m.nses+1,sa:=a,sc:=c}
theorem wZ{F:l6}{w:World}:∀{E T:List As},Hp F w (E++T)->Hp F w T
 |[],_,h=>h
 |_::_,_,h=>wZ (Hp.drop h)
theorem Ov{F:l6}{w:World}{k s u v x:As}{T E R:List As}(h:Hp F w (k::v::x::s::u::(T++(E++R)))):Hp F w (k::(s::v::u::T++R)):=by
 have a:Hp F w (x::s::k::v::u::(T++(E++R))):=h.perm (kj (l₁:=[k,v]) (l₂:=[x,s])|>.append_right _);have b:Hp F w (([s,k,v,u]++T)++(E++R)):=by simpa using a.drop
 have c:Hp F w (E++(([s,k,v,u]++T)++R)):=b.perm (by rw[<-zn,<-zn];exact kj.append_right R);have d:Hp F w (s::k::v::u::(T++R)):=by simpa using wZ c
 exact d.perm (.swap _ _ _)
theorem Nj(b:Nat)(m:MM)(r:RQ)(q:QL)(hm:m.a5D.length<=8)(x0:m.a5E.length<=1000)(hs:m.a5D.Pairwise fun x y=>x.node<y.node)(hr:∀x∈m.a5D,0<=x.node/\x.node<=100)(hn:m.nses<=D_):HL 56 b m r q (lV m.s r):=by
 refine x8 160 func56 rfl rfl rfl ?_;rintro F R ⟨k0,x1⟩;refine p_ ?_;refine aH ?_;intro O;refine p_ ?_;refine B8 (Z:=[.blk O (.cells (eB r q).toArray 44)]) tk fun F1 p Q=>?_;have p3:F1.heap O=some (.cells (eB r q).toArray 44 (0,0)):=I_ Q;clear Q;obtain⟨q1,h1⟩:=o7 (decide (r.node<1));obtain⟨q2,h2⟩:=o7 (decide (5<r.node));obtain⟨q3,h3⟩:=o7 (decide (r.life=0));obtain⟨q4,h4⟩:=o7 (decide (r.tr=0));have d:∀x∈m.a5C,iC x.ls F1.heap:=fun x hx=>Mn.le p.heap (k0 x hx);refine x6 [(0,m6 b),(3,m6 O),(29,.bool (q1||(q2||(q3||q4))))] (R9 b m r q B9 M8::(uS m++R)) ?_ ?_
 ·cases q1<;>cases q2<;>cases q3
  all_goals (
   refine y8 ?_;refine f_ ((E6 rfl rfl).eb h1) ?_;refine E4 ?_;(first|refine u_ ?_|(refine v_ ?_;refine f_ ((D8 rfl rfl).eb h2) ?_));refine O2 ?_;(first|refine u_ ?_|(refine v_ ?_;refine f_ ((o_ rfl rfl).eq (qn ((qz).trans h3.symm))) ?_));refine O2 ?_;(first|refine u_ ?_|(refine v_ ?_;refine f_ ((o_ rfl rfl).eq (qn ((qz).trans h4.symm))) ?_));refine p_ ?_)
  all_goals exact p8 sub i_
 refine u7 ?_;have hq:(q1||(q2||(q3||q4)))=true↔(r.node<1\/5<r.node\/r.life=0\/r.tr=0):=by
  rw[h1,h2,h3,h4];simp
 refine o8 rfl ?_ ?_<;>intro h
 ·have es:lV m.s r=(m.s,B9,1):=by unfold lV;rw[zu (hq.1 h)]
  rw[es];refine C8 ?_;exact C9 m B9 M8 rfl rfl p i_ rfl qx d (L9.zero _)
 have hc:¬(r.node<1\/5<r.node\/r.life=0\/r.tr=0):=fun k=>by rw[hq.2 k] at h;cases h
 refine C6 ?_;refine i7 rfl ?_;intro g4;refine u7 ?_;refine D9 [3,5] [6] [R9 b m r q B9 M8] 8 ?_;refine wd [0,1,2,3,4,5] ?_;refine h_ 6 rfl i6 ?_;refine e_ rfl (Lk m r.node qb) (fun h hh ⟨bs,Q⟩=>A2.rd Q ud) rfl ?_;refine E5 [7] ?_;obtain⟨u,o⟩:=o7 (((gW m.s r.node).map fun i=>m.a5D.getD i Oc).getD Oc);have es:lV m.s r=if r.life<u.life then((m.s,B9,14):AR) else if u.life=r.life/\r.tr<=u.tr then(match gr m.s r.node r.tr with
   |none=>(m.s,B9,14)
   |some i=>(m.s,{B9 with ses:=(m.a5E.getD i ⟨0,0,0,0,0⟩).ses},0)) else if 16<=(if u.life<r.life then m.a5E.filter fun x=>!decide (x.node=r.node) else m.a5E).length\/Da<=m.nses then(m.s,B9,7) else(nh {m.s with a5E:=(if u.life<r.life then m.a5E.filter fun x=>!decide (x.node=r.node) else m.a5E)++[⟨m.nses,0,r.node,r.life,r.tr⟩],nses:=m.nses+1} (gW m.s r.node) ⟨r.node,r.life,r.tr⟩,{B9 with ses:=m.nses},0):=by
  unfold lV;rw[zk hc,o];rfl
 rw[es];clear es;refine y8 ?_;refine x6 [(0,m6 b),(3,m6 O),(4,m6 g4),(5,.int .i64 (D1 (fun x=>decide (x.node=r.node)) m.a5D))] (.blk g4 (.cells (gv u).toArray 104)::R9 b m r q B9 M8::(uS m++R)) ?_ ?_
 ·refine o8 rfl ?_ ?_<;>intro h
  ·have V:¬D1 (fun x:HO=>decide (x.node=r.node)) m.a5D<0:=(by have:=qr h;omega);obtain⟨i,hi,s,ha⟩:=sO V;rw[ha] at o;replace o:u=m.a5D[i]:=(by rw[o];show m.a5D.getD i Oc=_;rw[zd,zj s];rfl);subst o;refine B4 (a:=m.ha) (n:=m.a5D.length) (c:=m.hc) (sz:=3) (xs:=Ka m.a5D) (te:=104) ud fun _ _ f=>?_;have f:=f qb;rw[hi];refine wk 7 ?_;refine r_ (w8 rfl (fun w g=>fq (g.ownN (t:=104) ud).2.2.1 O4 qp s y4) (O4 _)) ?_;refine p_ ?_;exact p8 sub i_
  ·have V:D1 (fun x:HO=>decide (x.node=r.node)) m.a5D<0:=(by have:=zq h;omega);rw[sN V] at o;replace o:u=Oc:=o;subst o;refine u7 ?_;exact p8 sub i_
 refine u7 ?_;obtain⟨q5,S⟩:=o7 (decide (r.life<u.life));refine O2 ?_;refine f_ ((D8 rfl rfl).eq (v':=.bool q5) (qn ((qz).trans S.symm))) ?_;refine u7 ?_
 cases q5
 case true=>
  rw[zu (qr S.symm)];refine C8 ?_;exact C9 m B9 M8 rfl rfl p (fun w g=>g.drop) rfl qx d (L9.zero _)
 rw[zk (zq S.symm)];obtain⟨q6,h6⟩:=o7 (decide (u.life=r.life));obtain⟨q7,h7⟩:=o7 (decide (r.tr<=u.tr));refine u7 ?_;refine x6 [(0,m6 b),(3,m6 O),(4,m6 g4),(5,.int .i64 (D1 (fun x=>decide (x.node=r.node)) m.a5D)),(63,.bool (q6&&q7))] (.blk g4 (.cells (gv u).toArray 104)::R9 b m r q B9 M8::(uS m++R)) ?_ ?_
 ·cases q6
  all_goals (
   refine O2 ?_;refine f_ ((o_ rfl rfl).eq (qn ((qz).trans h6.symm))) ?_;refine aH ?_;(first|refine u_ ?_|(refine v_ ?_;refine f_ ((I3 rfl rfl).eq (qn ((qz).trans h7.symm))) ?_));refine p_ ?_)
  all_goals exact p8 sub i_
 refine O1 ?_ ?_<;>intro h
 ·rw[zu (by rw[kx,h6,h7] at h;exact⟨qr h.1,qr h.2⟩)];refine u7 ?_;refine D9 [3,5,7] [8] [R9 b m r q B9 M8] 10 ?_;refine wd [0,1,2,3,4,5,6,7] ?_;refine h_ 8 rfl i6 ?_;refine e_ rfl (Dd m r.node r.tr qb) (fun h hh ⟨bs,Q⟩=>A2.rd Q ud) rfl ?_;refine E5 [9] ?_;refine bd ?_ ?_<;>intro h
  ·rw[wX (qr h)];refine C8 ?_;exact C9 m B9 M8 rfl rfl p (fun w g=>g.drop) rfl qx d (L9.zero _)
  obtain⟨i,hi,s,ha⟩:=wY (zq h);rw[ha,hi];have hg:(m.a5E.getD i ⟨0,0,0,0,0⟩)=m.a5E[i]:=by rw[zd,zj s];rfl
  simp only[hg];refine B4 (a:=m.sa) (n:=m.a5E.length) (c:=m.sc) (sz:=5) (xs:=JZ m.a5E) (te:=102) ud fun _ _ f=>?_;have f:=f qb;refine wk 9 ?_;refine r_ (i8 rfl (fun w g=>dO (j:=0) (g.ownN (t:=102) ud).2.2.1 X3 s rfl y4)) ?_;refine JW ?_;exact C9 m {B9 with ses:=m.a5E[i].ses} M8 rfl rfl p (fun w g=>g.drop) rfl (fun _=>rfl) d ⟨o0.nil _ _,o0.nil _ _⟩
 rw[zk (by rintro⟨k1,k2⟩;rw[h6,h7,jk k1,jk k2] at h;cases h)];refine u7 ?_;obtain⟨q5,S⟩:=o7 (decide (u.life<r.life));obtain⟨sl,J⟩:=o7 (if u.life<r.life then m.a5E.filter fun x=>!decide (x.node=r.node) else m.a5E);rw[<-J];refine wk 10 ?_;refine f_ ((E6 rfl rfl).eq (v':=.bool q5) (qn ((qz).trans S.symm))) ?_;refine u7 ?_;refine n7 (ι:=Option Addr×Nat×List As) (fun z=>z.2.2=[T0 m.sa m.a5E m.sc]\/(z.2.2=[]/\z.1=m.sa/\z.2.1=m.sc/\sl=m.a5E)) (fun z=>[(0,m6 b),(3,m6 O),(5,.int .i64 (D1 (fun x=>decide (x.node=r.node)) m.a5D)),(7,.slice z.1 sl.length z.2.1)]) (fun z=>T0 z.1 sl z.2.1::R9 b m r q B9 M8::P4 m.ha m.a5D m.hc::S_ m.ba m.a5C m.bc::(V_ m.a5C++(z.2.2++R))) ?_ ?_
 ·cases q5
  case false=>
   rw[zk (zq S.symm)] at J;subst J;refine o8 rfl qx (fun h=>?_);refine u7 ?_;exact g_ (m.sa,m.sc,[]) (.inr ⟨rfl,rfl,rfl,rfl⟩) (fun w g=>To g)
  rw[zu (qr S.symm)] at J;refine o8 rfl (fun h=>?_) qx;refine p_ ?_;refine c_ (jI (JZ m.a5E) m.sa m.a5E.length m.sc (AI _) (AJ _) qb) ?pre ?_;(case pre=>exact fun h hh ⟨bs,Q⟩=>A2.rd Q ud);rintro v A ⟨X,Y,rfl,rfl⟩;refine p_ ?_;refine c_ (oN m.a5E X Y 105 [m6 O] (fun h=>h O=some (.cells (eB r q).toArray 44 (0,0))) (fun x=>decide (x.node=r.node)) (fun x _=>Iu O r q x) qb) ?pre ?_;(case pre=>exact fun h hh Q=>hh _ _ p3);rintro v A ⟨rfl,rfl⟩;refine p_ ?_;rw[<-J];exact g_ (X,Y,[T0 m.sa m.a5E m.sc]) (.inl rfl) (fun w g=>Tp g)
 rintro⟨X,Y,E⟩ hE;have k9:sl.length<=m.a5E.length:=by
  rw[J];split
  ·exact Qb _ _
  ·exact zr _
 have T:∀w,Hp F1 w (T0 X sl Y::R9 b m r q B9 M8::P4 m.ha m.a5D m.hc::S_ m.ba m.a5C m.bc::(V_ m.a5C++(E++R)))->Hp F1 w (R9 b m r q B9 M8::(uS m++R)):=fun w g=>by
  rcases hE with rfl|⟨rfl,rfl,rfl,e⟩
  ·exact Tq g.drop
  ·rw[e] at g;exact g.perm (.swap _ _ _)
 obtain⟨q8,h8⟩:=o7 (decide (16<=sl.length));obtain⟨q9,h9⟩:=o7 (decide (Da<=m.nses));refine u7 ?_;refine x6 [(0,m6 b),(3,m6 O),(5,.int .i64 (D1 (fun x=>decide (x.node=r.node)) m.a5D)),(7,.slice X sl.length Y),(112,.bool (q8||q9))] (T0 X sl Y::R9 b m r q B9 M8::P4 m.ha m.a5D m.hc::S_ m.ba m.a5C m.bc::(V_ m.a5C++(E++R))) ?_ ?_
 ·cases q8
  all_goals (
   refine y8 ?_;refine f_ ((I3 rfl rfl).eq (qn ((qz).trans h8.symm))) ?_;refine cQ ?_;(first|refine u_ ?_|(refine v_ ?_;refine f_ ((I3 rfl rfl).eq (qn ((zh.2 (by show(4611686018427387904:Int)<=_↔4611686018427387904<=_;omega)).trans h9.symm))) ?_));refine p_ ?_)
  all_goals exact p8 sub i_
 refine O1 ?_ ?_<;>intro h
 ·rw[zu (by rw[Q7,h8,h9] at h;exact h.imp qr qr)];refine C8 ?_;exact C9 m B9 M8 rfl rfl p T rfl qx d (L9.zero _)
 have U:¬(16<=sl.length\/Da<=m.nses):=fun k=>by rw[h8,h9] at h;rcases k with k|k<;>simp[k] at h
 rw[zk U];have x2:m.nses<4611686018427387904:=Wn.1 fun k=>U (.inr k);have k8:sl.length<16:=Wn.1 fun k=>U (.inl k);refine wk 10 ?_;refine D9 [6,8,10,12] [14,15,19] [R9 b m r q {B9 with ses:=m.nses} M8] 20 ?_;refine wd [0,1,2,3,4,5,6,7,8,9,10,11,12,13] ?_;refine h_ 14 rfl i6 ?_;refine C4 nq ⟨m.nses,0,r.node,r.life,r.tr⟩ rfl ?_;intro q0 _;refine xI ?_;refine h_ 15 rfl i6 ?_;refine u6 nq (l:=sl) (m:=[⟨m.nses,0,r.node,r.life,r.tr⟩]) X3 AH (by show(sl.length+1)*40<=_;omega) ?_ rfl rfl (fun _ _=>uh) (fun w g=>(g.ownN (t:=102) ud).2.2.1) (by show sl.length+1<=9223372036854775807;omega);intro C D _;refine E5 [16,17,18,19] ?_;refine aH ?_;refine f_ ((K_ rfl rfl qb).eq (v':=.int .u64 ((m.nses+1:Nat):Int)) (by congr 1)) ?_;refine O2 ?_;by_cases V:D1 (fun x:HO=>decide (x.node=r.node)) m.a5D<0
 ·have M:=sN V;rw[M];have x3:=db (fun x:HO=>decide (x.node=r.node)) m.a5D;rw[show D1 (fun x:HO=>decide (x.node=r.node)) m.a5D= -1 from by omega];refine wk 9 ?_;refine c_ (zI b (BP m r sl C D) r q {B9 with ses:=m.nses} M8 ⟨r.node,r.life,r.tr⟩ hm hs (Nh M) hr (by show 0<=r.node/\r.node<=100;omega)) qw ?_;rintro v A ⟨rfl,a,c,rfl⟩;refine C8 ?_;exact C9 {BP m r sl C D with a5D:=dy ⟨r.node,r.life,r.tr⟩ m.a5D,ha:=a,hc:=c} {B9 with ses:=m.nses} M8 rfl rfl p (fun w g=>Ov g) rfl (fun _=>rfl) d ⟨o0.nil _ _,o0.nil _ _⟩
 ·obtain⟨i,hi,s,ha⟩:=sO V;rw[ha,hi];refine wk 9 ?_;refine c_ (zH b (BP m r sl C D) r q {B9 with ses:=m.nses} M8 i ⟨r.node,r.life,r.tr⟩ s hm) qw ?_;rintro v A ⟨rfl,a,c,rfl⟩;refine C8 ?_;exact C9 {BP m r sl C D with a5D:=m.a5D.set i ⟨r.node,r.life,r.tr⟩,ha:=a,hc:=c} {B9 with ses:=m.nses} M8 rfl rfl p (fun w g=>Ov g) rfl (fun _=>rfl) d ⟨o0.nil _ _,o0.nil _ _⟩
structure xa(r:RQ):Prop where
 num:r.num<18446744073709551616
 box:r.box.length<=ln
 a5I:r.a5I.length<=1000000
 a5R:r.a5R.length<=100000
 fl:∀f∈r.a5R,f.length<=ln
def Rj(k:Int):FuncId:=if k=1 then 56 else if k=2 then 57 else if k=3 then 58 else if k=4 then 59 else if k=5 then 60
 else if k=6 then 61 else if k=7 then 62 else if k=8 then 63 else if k=9 then 64 else 65
abbrev ig(k:FuncId):Value:=.func (.func k) #[] #[]
abbrev BQ:List Value:=[.nilFunc,ig 56,ig 57,ig 58,ig 59,ig 60,ig 61,ig 62,ig 63,ig 64,ig 65]
theorem pZ{k:Int}(a:1<=k)(b:k<=10):k=1\/k=2\/k=3\/k=4\/k=5\/k=6\/k=7\/k=8\/k=9\/k=10:=by omega
theorem Nk{k:Int}(a:1<=k)(b:k<=10):BQ[k.toNat]? =some (ig (Rj k)):=by
 rcases pZ a b with rfl|rfl|rfl|rfl|rfl|rfl|rfl|rfl|rfl|rfl<;>rfl
theorem Tr{k:Int}(a:1<=k)(b:k<=10):HF prog (Rj k):=by
 rcases pZ a b with rfl|rfl|rfl|rfl|rfl|rfl|rfl|rfl|rfl|rfl
 ·exact(inferInstance:HF prog 56)
 ·exact(inferInstance:HF prog 57)
 ·exact(inferInstance:HF prog 58)
 ·exact(inferInstance:HF prog 59)
 ·exact(inferInstance:HF prog 60)
 ·exact(inferInstance:HF prog 61)
 ·exact(inferInstance:HF prog 62)
 ·exact(inferInstance:HF prog 63)
 ·exact(inferInstance:HF prog 64)
 ·exact(inferInstance:HF prog 65)
theorem dF{m:MM}(h:U4 m.s){x:BM}(hx:x∈m.a5C):Dc x.x:=h.box _ (Zk hx)
theorem zJ{m:MM}(h:U4 m.s):m.a5C.length<=8:=by have:=h.a5C;simpa using this
theorem sP{m:MM}(h:U4 m.s){x:BM}(hx:x∈m.a5C):x.ls.length<=32:=by have:=(dF h hx).lts;simpa using this
theorem qa:∀{l:List HO} {k:Int},(l.Pairwise fun x y=>x.node<y.node)->(∀x∈l,k<=x.node/\x.node<=5)->(l.length:Int)<=max 0 (6-k)
 |[],_,_,_=>by simp;omega
 |x::t,k,h,hk=>by
  obtain⟨b,c⟩:=Qq.1 h;have d:=hk x j9;have e:=qa (k:=x.node+1) c fun y a=>⟨b y a,(hk y (jj _ a)).2⟩;rw[zy];omega
theorem xd{m:MM}(h:U4 m.s):m.a5D.length<=5:=by
 have:=qa (k:=1) h.a5D fun x a=>⟨(h.home x a).1,(h.home x a).2.1⟩;show m.s.a5D.length<=5;omega
theorem Ts(b:Nat)(m:MM)(r:RQ)(q:QL)(c:U4 m.s)(e:xa r)(j:1<=r.op)(k:r.op<=10):HL (Rj r.op) b m r q (JX m.s r):=by
 have l:=zJ c;have hs:m.a5C.Pairwise fun x y=>gV x.name y.name=true:=by
  have:=c.sorted;exact(Kg.1 this)
 have i:m.a5E.length<=16:=c.a5E;have d:∀x∈m.a5C,∀y∈x.ls,y.t.a5R.length<=16/\∀f∈y.t.a5R,f.length<=32:=fun x a y g=>(dF c a).a5R _ (Zk g);unfold JX Rj;rcases pZ j k with h|h|h|h|h|h|h|h|h|h<;>rw[h]
 ·exact Nj b m r q (by have:=xd c;omega) qb c.a5D (fun x a=>by have:=c.home x a;omega) (jd c.nses qp)
 ·exact PJ b m r q qb
 ·exact Mz b m r q
 ·exact Ew b m r q l hs c.nval e.box
 ·exact DW b m r q qb
 ·exact Ep b m r q qb (fun x a=>⟨by have:=sP c a;omega,(dF c a).next,(dF c a).high⟩) e.a5R e.fl
 ·exact Ip b m r q qb (fun x a=>⟨by have:=sP c a;omega,(dF c a).high,fun y g=>⟨by have:=(d x a y g).1;omega,fun f hf=>by have:=(d x a y g).2 f hf;exact jd this qp⟩⟩) e.a5I e.a5R e.fl
 ·exact zt b m r q qb (fun x a=>⟨by have:=sP c a;omega,(dF c a).high,fun y g=>by have:=(d x a y g).1;omega⟩) e.a5I
 ·exact Nb b m r q qb (fun x a=>⟨by have:=sP c a;omega,(dF c a).next,(dF c a).high,fun y g=>by have:=(d x a y g).1;omega⟩) e.a5I
 ·exact HN b m r q c.a5O
section
variable{P:Program}{N:Nat}{L:F_}{F:l6}{H:List As}
theorem X2{fn:Func}{d:Value->List As->Prop}{t n b t1 s i:Nat}{j te f k:TypeId}{cs c:Array Value}{H' z:List As}[ha:HA P j true][hs:HS P j n][ha1:HA P f true][hs1:HS P f s](C:fn.results=#[.cell t j,.cell t1 f])(hv:find L t=some (.pointer (some ⟨b,0,none⟩)))(l:find L t1=some (.pointer (some ⟨i,0,none⟩)))(u:M2 H (.blk b (.cells cs te (0,0))) [] H')(D:Nat.beq n cs.size=true)(J:M2 H (.blk i (.cells c k (0,0))) [] z)(m:Nat.beq s c.size=true)(A:List As)(g:d (.tuple #[.agg cs,.agg c]) A)(M:∀w,Hp F w H->Hp F w A):At N (dr P fn F d) L F H:=by
 unfold At;intro a w hf o;have O:=jr D;have p:=jr m;have e:∀cs:Array Value,sl cs 0 cs.size=cs.toList:=fun cs=>by
  simp only[sl,Kj];exact kp y4
 obtain⟨X,q,hc⟩:=Y1 (n:=cs.size) o u;injection q with q;subst q;rw[e] at hc;have v:=D4 (P:=P) hc;obtain⟨Q,r,h⟩:=Y1 (n:=c.size) o J;injection r with r;subst r;rw[e] at h;have y:=D4 (P:=P) h;have S:a.tmps.getD t undef=.pointer (some ⟨b,0,none⟩):=hf.eval (x:=.tmp t) hv;have T:a.tmps.getD t1 undef=.pointer (some ⟨i,0,none⟩):=hf.eval (x:=.tmp t1) l;subst O;subst p;refine⟨.tuple #[.agg cs,.agg c],A,?_,g,M w o,hf.defers⟩;have U:a.tmps[t]?.getD undef=.pointer (some ⟨b,0,none⟩):=by simpa using S
 have V:a.tmps[t1]?.getD undef=.pointer (some ⟨i,0,none⟩):=by simpa using T
 simp at v y;simp[results,C,U,V,asAddr,loadVar,ha.h,ha1.h,hs.h,hs1.h,v,y,Sem.run_bind]
end
def zK(e:ML×OC)(h:l9)(v:Value)(A:List As):Prop:=∃m' o y,v=.tuple #[uR m',TX o y]/\m'.s=e.1/\o=e.2/\A=[]/\iE m' h/\L9 o y h
theorem lD{F c:l6}{H R:List As}{L:F_}{g4 b:Nat}{e:ML×OC}(a:MM)(o:OC)(y:OL)(d:find L 4=some (m6 g4))(f:find L 5=some (m6 b))(hl:c.le F)(hH:∀w,Hp F w H->Hp F w (.blk g4 (.cells (iD a).toArray 62)::.blk b (.cells (tO o y).toArray 86)::R))(hs:a.s=e.1)(g:o=e.2)(h:iE a F.heap)(i:L9 o y F.heap):At 108 (CV prog Tryz.f28 c R (zK e)) L F H:=by
 refine At.weaken (H':=.blk g4 (.cells (iD a).toArray 62)::.blk b (.cells (tO o y).toArray 86)::R) ?_ (fp.refl _) hH;refine G_ (A:=[]) (v:=.tuple #[uR a,TX o y]) hl ⟨a,o,y,rfl,hs,g,rfl,h,i⟩ ?_;exact X2 rfl d f ud rfl ud rfl _ qh (fun w j=>j.drop.drop)
theorem lE{F i:l6}{H R:List As}{L:F_}{g4 h:Nat}{e:ML×OC}(a:MM)(o:OC)(y:OL)(f:find L 4=some (m6 g4))(j:find L 5=some (m6 h))(hl:i.le F)(hH:∀w,Hp F w H->Hp F w (.blk g4 (.cells (iD a).toArray 62)::.blk h (.cells (tO o y).toArray 86)::(uS a++R)))(hs:a.s=e.1)(k:o=e.2)(hf:∀b∈a.a5C,iC b.ls F.heap)(l:L9 o y F.heap):At 108 (CV prog Tryz.f28 i R (zK e)) L F H:=by
 refine At.weaken (H':=(.blk g4 (.cells (iD a).toArray 62)::.blk h (.cells (tO o y).toArray 86)::R)++uS a) ?_ (fp.refl _) (fun w m=>(hH w m).perm (List.Perm.cons _ (List.Perm.cons _ kj)));refine dJ fun n c ⟨s,g⟩=>?_;refine lD a o y f j (hl.trans c) i_ hs k ?_ (Mn.le c.heap l);obtain⟨_,t,_,p,_,u,_,q,_,v,_,r,f⟩:=g;have d:A2 n.heap (uS a) _:=⟨_,_,rfl,p,_,_,rfl,q,_,_,rfl,r,f⟩;exact⟨A2.rd d ud,A2.rd d ud,A2.rd d ud,fun b g=>⟨HK f b g,Mn.le c.heap (hf b g)⟩⟩
theorem PX{L:F_}{dst:Option Tmp}{ty:TypeId}{pos:String}{af:Array Edge}{gd:Option (Nat×Bool)}{x y:Operand}(m:MM)(r:RQ)(q:QL)(hx:ev L x=some (uR m))(a:ev L y=some (Ra r q)):E2 prog ⟨dst,.build 136 [(0,x),(1,y)].toArray,ty,pos,af,gd⟩ L (.agg (Oe m r q B9 M8).toArray):=by
 refine y7 (vs:=[(0,uR m),(1,Ra r q)]) (by simp[Ai,hx,a]) ?_
 kernel_rfl
abbrev Iv:MM:=⟨[],0,[],[],0,0,none,0,none,0,none,0⟩
theorem Tt{m:MM}(h:U4 m.s):Sz m:=by
 have d:m.a5E.length<=16:=h.a5E;have e:=xd h;have f:=zJ h;exact⟨by omega,by omega,by omega,fun b a=>by have:=sP h a;omega,fun b a x c=>by have:=((dF h a).a5R _ (Zk c)).1;omega⟩
theorem Tu{F:l6}{w:World}{x y z u v:As}{l R Z:List As}(h:Hp F w (x::y::z::(l++(u::v::(R++Z))))):Hp F w (u::v::(R++(x::y::z::(l++Z)))):=by
 have a:Hp F w (([x,y,z]++l)++(([u,v]++R)++Z)):=by simpa using h
 have b:Hp F w (([u,v]++R)++(([x,y,z]++l)++Z)):=a.perm (by rw[<-zn ([u,v]++R),<-zn ([x,y,z]++l)];exact kj.append_right Z);simpa using b
theorem a1H{F:l6}{w:World}{k u v x y z:As}{l R Z:List As}(h:Hp F w (k::u::v::(R++(x::y::z::(l++Z))))):Hp F w ((k::u::v::x::y::z::(l++R))++Z):=by
 have a:Hp F w ([k,u,v]++(R++(([x,y,z]++l)++Z))):=by simpa using h
 have b:Hp F w ([k,u,v]++((([x,y,z]++l)++R)++Z)):=a.perm (Zr _ (by rw[<-zn];exact kj.append_right Z));simpa using b
theorem Iw{F:l6}{w:World}{u v k x y z:As}{l R:List As}(h:Hp F w (k::u::v::x::y::z::(l++R))):Hp F w (v::u::(x::y::z::l++R)):=h.drop.perm (.swap _ _ _)
theorem Ex{m:MM}{n:Nat}(h:D1 (fun x:SX=>decide (x.ses=n)) m.a5E<0):rO m.s n=none:=by
 unfold D1 at h;unfold rO
 cases e:m.a5E.findIdx? fun x=>decide (x.ses=n) with
 |none=>rfl
 |some i=>rw[e] at h;simp only[Option.elim] at h;omega
theorem Ey{m:MM}{n:Nat}(h:¬D1 (fun x:SX=>decide (x.ses=n)) m.a5E<0):∃i:Nat,D1 (fun x:SX=>decide (x.ses=n)) m.a5E=(i:Nat)/\i<m.a5E.length/\rO m.s n=some i:=by
 unfold D1 at h⊢;unfold rO
 cases e:m.a5E.findIdx? fun x=>decide (x.ses=n) with
 |none=>rw[e] at h;simp only[Option.elim] at h;omega
 |some i=>exact⟨i,rfl,(kd.1 e).1,rfl⟩
theorem Nl(b:Nat)(m:MM)(r:RQ)(q:QL)(o:OC)(y:OL)(i:Nat)(x:SX):R9 b {m with a5E:=m.a5E.set i x} r q o y=R9 b m r q o y:=by
 unfold R9 Oe iD;simp only[js]
theorem Ix{m:MM}(h:U4 m.s){i:Nat}(b:i<m.a5E.length)(n:Nat)(c:n<18446744073709551616):U4 {m with a5E:=m.a5E.set i {m.a5E[i] with last:=n}:MM}.s:=by
 refine⟨h.a5C,h.box,h.sorted,h.a5D,h.home,?_,fun x a=>?_,h.nval,h.nses,h.a5O⟩
 ·show(m.a5E.set i _).length<=16;rw[js];exact h.a5E
 ·rcases jp a with a|rfl
  ·exact h.seat x a
  ·have:=h.seat m.a5E[i] (zx b);exact⟨this.1,this.2.1,c,this.2.2.2⟩
theorem kE:∀(C R:List As),x7 C (C++R) R
 |[],_=>.nil
 |_::C,R=>.cons .del (kE C R)
theorem Tv{F:l6}{w:World}{k u v x y z:As}{l R:List As}(h:Hp F w (k::u::v::x::y::z::(l++R))):Hp F w ((k::x::y::z::l)++(u::v::R)):=by
 have a:Hp F w ([k]++([u,v]++(([x,y,z]++l)++R))):=by simpa using h
 have b:Hp F w ([k]++(([x,y,z]++l)++([u,v]++R))):=a.perm (Zr _ (by rw[<-zn [u,v],<-zn ([x,y,z]++l)];exact kj.append_right R));simpa using b
theorem Ow{F:l6}{w:World}{u v k:As}{R:List As}(h:Hp F w (k::u::v::R)):Hp F w (v::u::R):=h.drop.perm (.swap _ _ _)
theorem qe(m:MM)(r:RQ)(q:QL)(hm:U4 m.s)(h8:xa r):Cm prog 28 [uR m,Ra r q] (fun h=>iE m h/\dB r q h) [] (zK (D6 m.s r)):=by
 refine x8 108 func28 rfl rfl rfl ?_;rintro F R ⟨q7,q8⟩;refine C6 ?_;refine m9 rfl rfl ?_;intro g2;refine m9 rfl rfl ?_;intro g3;refine i7 rfl ?_;intro O;refine i7 rfl ?_;intro Q;refine C6 ?_;refine f_ (zf rfl rfl) ?_;refine p_ ?_;intro g6;refine p_ ?_;refine B8 (Z:=[.blk g2 (.cells (iD m).toArray 62),.blk g3 (.cells (eB r q).toArray 44),.blk g6 (.cells BQ.toArray 133)]) tk fun F1 u U=>?_;have p2:F1.heap g2=some (.cells (iD m).toArray 62 (0,0)):=I_ U;have p3:F1.heap g3=some (.cells (eB r q).toArray 44 (0,0)):=I_ U;have p6:F1.heap g6=some (.cells BQ.toArray 133 (0,0)):=I_ U;clear U;refine u7 ?_;refine D9 [0,2] [1,4] [] 6 ?_;refine wd [0,2] ?_;refine h_ 1 rfl i6 ?_;refine R7 (tR m (Tt hm)) (Mn.le u.heap q7) ?_;rintro v A Z Fz hz ⟨d,rfl,V,rfl,h9⟩;refine I6 (H':=.blk Q (.cells (tO B9 M8).toArray 86)::.blk O (.cells (iD Iv).toArray 62)::(R++(T0 d.sa d.a5E d.sc::P4 d.ha d.a5D d.hc::S_ d.ba d.a5C d.bc::(V_ d.a5C++Z)))) (fun w g=>Tu g) ?_;refine ae ?_;refine w_ 3 rfl (PX d r q rfl rfl) ?_;refine h_ 4 rfl i6 ?_;refine m9 rfl rfl ?_;intro z;refine E5 [5] ?_;refine AL Fz hz (Rr:=R9 z d r q B9 M8::.blk Q (.cells (tO B9 M8).toArray 86)::.blk O (.cells (iD Iv).toArray 62)::T0 d.sa d.a5E d.sc::P4 d.ha d.a5D d.hc::S_ d.ba d.a5C d.bc::(V_ d.a5C++R)) (Z:=Z) (fun w g=>a1H g) fun F2 p k0=>?_;have s:∀b∈d.a5C,iC b.ls F2.heap:=fun b U=>Mn.le k0 (h9 b U);have x9:F2.heap g3=some (.cells (eB r q).toArray 44 (0,0)):=p.heap _ _ p3;have q9:F2.heap g6=some (.cells BQ.toArray 133 (0,0)):=p.heap _ _ p6;clear h9 k0 hz p2 p3 p6;obtain⟨q1,h1⟩:=o7 (decide (r.op<1));obtain⟨q2,h2⟩:=o7 (decide (11<=r.op));obtain⟨q3,h3⟩:=o7 (decide (64<r.a5I.length));have X:U4 d.s:=V▸hm;refine x6 [(3,m6 g3),(4,m6 O),(5,m6 Q),(6,m6 g6),(7,m6 z),(29,.bool (q1||(q2||q3)))] (R9 z d r q B9 M8::.blk Q (.cells (tO B9 M8).toArray 86)::.blk O (.cells (iD Iv).toArray 62)::T0 d.sa d.a5E d.sc::P4 d.ha d.a5D d.hc::S_ d.ba d.a5C d.bc::(V_ d.a5C++R)) ?_ ?_
 ·cases q1<;>cases q2
  all_goals (
   refine y8 ?_;refine f_ ((E6 rfl rfl).eb h1) ?_;refine E4 ?_;(first|refine u_ ?_|(refine v_ ?_;refine f_ ((I3 rfl rfl).eb h2) ?_));refine aH ?_;(first|refine u_ ?_|(refine v_ ?_;refine f_ ((D8 rfl rfl).eq (qn ((qz).trans h3.symm))) ?_));refine p_ ?_)
  all_goals exact p8 sub i_
 refine O1 ?_ ?_<;>intro h
 ·have D:D6 m.s r=(m.s,{B9 with code:=1}):=by
   unfold D6;refine zu ?_;rw[h1,h2,h3] at h;simpa using h
  rw[D];refine KW ?_;exact lE d {B9 with code:=1} M8 rfl rfl (u.trans p) (fun w g=>Iw g) V rfl s (L9.nil _ _ _ rfl rfl)
 have hc:¬(r.op<1\/11<=r.op\/64<r.a5I.length):=fun k=>by
  rw[h1,h2,h3] at h;simp only[Q1,Zp] at h;rcases k with k|k|k
  ·exact h.1 k
  ·exact h.2.1 k
  ·exact h.2.2 k
 have D:D6 m.s r=if r.op=1\/r.op=10 then vI (JX d.s r)
   else match rO d.s r.ses with
    |none=>(d.s,{B9 with code:=16})
    |some i=>
     if r.num<=(d.s.a5E.getD i ⟨0,0,0,0,0⟩).last then(d.s,{B9 with code:=14})
     else vI (JX {d.s with a5E:=d.s.a5E.set i {d.s.a5E.getD i ⟨0,0,0,0,0⟩ with last:=r.num}} r):=by
  rw[V];unfold D6;rw[zk hc];rfl
 clear h h1 h2 h3;obtain⟨q4,h4⟩:=o7 (decide (r.op=1));obtain⟨q5,h5⟩:=o7 (decide (r.op=10));refine u7 ?_;refine x6 [(3,m6 g3),(4,m6 O),(5,m6 Q),(6,m6 g6),(7,m6 z),(42,.bool (!q4&&!q5))] (R9 z d r q B9 M8::.blk Q (.cells (tO B9 M8).toArray 86)::.blk O (.cells (iD Iv).toArray 62)::T0 d.sa d.a5E d.sc::P4 d.ha d.a5D d.hc::S_ d.ba d.a5C d.bc::(V_ d.a5C++R)) ?_ ?_
 ·cases q4
  all_goals (
   refine y8 ?_;refine f_ ((M9 rfl rfl).eq (jw (fun x=>Value.bool (!x)) h4.symm)) ?_;refine E4 ?_;(first|refine u_ ?_|(refine v_ ?_;refine f_ ((M9 rfl rfl).eq (jw (fun x=>Value.bool (!x)) h5.symm)) ?_));refine p_ ?_)
  all_goals exact p8 sub i_
 refine u7 ?_;refine n7 (ι:=MM) (fun l=>D6 m.s r=vI (JX l.s r)/\U4 l.s/\∀b∈l.a5C,iC b.ls F2.heap) (fun l=>[(3,m6 g3),(4,m6 O),(5,m6 Q),(6,m6 g6),(7,m6 z)]) (fun l=>R9 z l r q B9 M8::.blk Q (.cells (tO B9 M8).toArray 86)::.blk O (.cells (iD Iv).toArray 62)::T0 l.sa l.a5E l.sc::P4 l.ha l.a5D l.hc::S_ l.ba l.a5C l.bc::(V_ l.a5C++R)) ?_ ?_
 ·refine o8 rfl ?_ ?_<;>intro h
  ·have hn:¬(r.op=1\/r.op=10):=by
    rw[h4,h5] at h;simp only[kx,Z6,Zp] at h;exact fun k=>k.elim h.1 h.2
   rw[zk hn] at D;refine u7 ?_;refine D9 [3,5] [6] [R9 z d r q B9 M8] 8 ?_;refine wd [0,1,2,3,4,5] ?_;refine h_ 6 rfl i6 ?_;refine e_ rfl (Lj d r.ses (by have:=X.a5E;show d.s.a5E.length<=1000;omega)) (fun h hh ⟨bs,U⟩=>A2.rd U ud) rfl ?_;refine E5 [7] ?_;refine eJ ?_ ?_<;>intro h
   ·rw[Ex (qr h)] at D;rw[D];refine KW ?_;exact lE d {B9 with code:=16} M8 rfl rfl (u.trans p) (fun w g=>Iw g) rfl rfl s (L9.nil _ _ _ rfl rfl)
   obtain⟨i,hi,S,ha⟩:=Ey (zq h);have hg:d.s.a5E.getD i ⟨0,0,0,0,0⟩=d.a5E[i]:=(by show d.a5E.getD i _=_;rw[zd,zj S];rfl);rw[ha] at D;simp only[hg] at D;rw[hi];obtain⟨q6,M⟩:=o7 (decide (r.num<=d.a5E[i].last));refine B4 (a:=d.sa) (n:=d.a5E.length) (c:=d.sc) (sz:=5) (xs:=JZ d.a5E) (te:=102) ud fun _ _ J=>?_;have J:=J qb;refine u7 ?_;refine D9 [1,6,10] [] [T0 d.sa d.a5E d.sc,R9 z d r q B9 M8] 13 ?_;refine wd [0,1,2,3,4,5,6,7,8,9] ?_;refine n8 10 rfl P5 (i8 rfl (fun w g=>dO (j:=1) (g.ownN (t:=102) ud).2.2.1 X3 S rfl y4)) I4 rfl rfl rfl i6 ?_;refine w_ 11 rfl ((G2 rfl rfl).eq (v':=.bool q6) (qn ((qz).trans M.symm))) ?_;refine wd [12] ?_
   cases q6
   case true=>
    rw[zu (qr M.symm)] at D;rw[D];refine KW ?_;exact lE d {B9 with code:=14} M8 rfl rfl (u.trans p) (fun w g=>Iw g) rfl rfl s (L9.nil _ _ _ rfl rfl)
   rw[zk (zq M.symm)] at D;refine u7 ?_;refine D9 [4,7] [10] [R9 z d r q B9 M8] 11 ?_;refine wd [0,1,2,3,4,5,6,7,8,9] ?_;refine h_ 10 rfl i6 ?_;refine A9 (C:=nq) {d.a5E[i] with last:=r.num} X3 S (j:=1) rfl ?_;refine E5 [] ?_;refine g_ {d with a5E:=d.a5E.set i {d.a5E[i] with last:=r.num}} ⟨D,Ix X S r.num h8.num,s⟩ (fun w g=>?_);rw[Nl];unfold T0;rw[js];exact g
  ·have hn:r.op=1\/r.op=10:=by
    rw[h4,h5] at h
    cases M:decide (r.op=1)
    ·rw[M] at h;right;simpa using h
    ·left;exact qr M
   rw[zu hn] at D;refine u7 ?_;exact g_ d ⟨D,X,s⟩ i_
 rintro l ⟨x0,x1,x2⟩;have Y:1<=r.op:=by omega
 have h0:r.op<=10:=by omega
 haveI:=Tr Y h0
 refine u7 ?_;refine D5 (H':=(R9 z l r q B9 M8::uS l)++(.blk Q (.cells (tO B9 M8).toArray 86)::.blk O (.cells (iD Iv).toArray 62)::R)) (fun w g=>Tv g) ?_;refine y8 ?_;refine f_ (bt (n:=r.op) rfl rfl qb) ?_;refine r_ (i8 (v:=ig (Rj r.op)) rfl (fun w g=>vk g q9 (by have:=Nk Y h0;simpa using this))) ?_;refine p_ ?_;refine rM (f:=Rj r.op) (Ts z l r q x1 h8 Y h0) ⟨x2,Mn.le (u.trans p).heap q8⟩ ?_ (hH:=kE _ _);rintro v A F3 k8 ⟨m3,o,y,rfl,rfl,h7,k9,q0,x3⟩;refine p_ ?_;obtain⟨e,he⟩:=o7 (JX l.s r);rw[x0];rw[<-he] at h7 k9⊢;obtain⟨q6,M⟩:=o7 (decide (e.2.2=0));refine p_ ?_;refine f_ ((M9 rfl rfl).eq (v':=.bool (!q6)) (jw (fun x=>Value.bool (!x)) M.symm)) ?_;refine u7 ?_
 cases q6
 ·have T:¬e.2.2=0:=zq M.symm;refine NT ?_;exact lD m3 {B9 with code:=e.2.2} M8 rfl rfl ((u.trans p).trans k8) (fun w g=>Ow g) h7 (by show _=if e.2.2=0 then _ else _;rw[zk T]) q0 (L9.nil _ _ _ rfl rfl)
 ·have T:e.2.2=0:=qr M.symm;refine u7 ?_;refine D9 [3,7] [8,9] [R9 z m3 r q o y] 10 ?_;refine wd [0,1,2,3,4,5,6,7,8,9] ?_;refine A3 ?_;exact lD m3 o y rfl rfl ((u.trans p).trans k8) (fun w g=>Ow g) h7 (by show _=if e.2.2=0 then _ else _;rw[zu T];exact k9 T) q0 x3
open Go Go.Sl Go.RowKit Go.Proofs.Tryz
def zL(k:Nat):FuncId:=if k=1 then 138 else if k=2 then 139 else if k=3 then 140 else if k=4 then 141 else if k=5 then 142 else if k=6 then 143 else if k=7 then 144 else if k=8 then 145 else if k=9 then 145 else if k=10 then 146 else if k=11 then 147 else if k=12 then 148 else if k=13 then 148 else if k=14 then 149 else if k=15 then 148 else if k=16 then 150 else if k=17 then 151 else 152
abbrev Iy(a b:Nat)(f:FuncId):List Value:=[.int .i64 (a:Nat),.int .i64 (b:Nat),ig f]
abbrev qf:List Value:=[.int .i64 0,.int .i64 0,.nilFunc,.int .i64 0,.int .i64 2,ig 138,.int .i64 0,.int .i64 2,ig 139,.int .i64 0,.int .i64 2,ig 140,.int .i64 2,.int .i64 2,ig 141,.int .i64 2,.int .i64 2,ig 142,.int .i64 1,.int .i64 2,ig 143,.int .i64 0,.int .i64 0,ig 144,.int .i64 1,.int .i64 2,ig 145,.int .i64 1,.int .i64 2,ig 145,.int .i64 1,.int .i64 2,ig 146,.int .i64 1,.int .i64 2,ig 147,.int .i64 1,.int .i64 2,ig 148,.int .i64 1,.int .i64 2,ig 148,.int .i64 1,.int .i64 2,ig 149,.int .i64 2,.int .i64 2,ig 148,.int .i64 2,.int .i64 2,ig 150,.int .i64 2,.int .i64 2,ig 151,.int .i64 2,.int .i64 2,ig 152]
theorem lF{k:Nat}(a:1<=k)(b:k<=18):k=1\/k=2\/k=3\/k=4\/k=5\/k=6\/k=7\/k=8\/k=9\/k=10\/k=11\/k=12\/k=13\/k=14\/k=15\/k=16\/k=17\/k=18:=by omega
theorem Iz{k:Nat}(a:1<=k)(b:k<=18):qf[k*3]? =some (.int .i64 ((M_ k).1:Nat))/\qf[k*3+1]? =some (.int .i64 ((M_ k).2:Nat))/\qf[k*3+2]? =some (ig (zL k)):=by
 rcases lF a b with rfl|rfl|rfl|rfl|rfl|rfl|rfl|rfl|rfl|rfl|rfl|rfl|rfl|rfl|rfl|rfl|rfl|rfl<;>exact qm
theorem PY{k:Nat}(a:1<=k)(b:k<=18):HF prog (zL k):=by
 rcases lF a b with rfl|rfl|rfl|rfl|rfl|rfl|rfl|rfl|rfl|rfl|rfl|rfl|rfl|rfl|rfl|rfl|rfl|rfl
 ·exact(inferInstance:HF prog 138)
 ·exact(inferInstance:HF prog 139)
 ·exact(inferInstance:HF prog 140)
 ·exact(inferInstance:HF prog 141)
 ·exact(inferInstance:HF prog 142)
 ·exact(inferInstance:HF prog 143)
 ·exact(inferInstance:HF prog 144)
 ·exact(inferInstance:HF prog 145)
 ·exact(inferInstance:HF prog 145)
 ·exact(inferInstance:HF prog 146)
 ·exact(inferInstance:HF prog 147)
 ·exact(inferInstance:HF prog 148)
 ·exact(inferInstance:HF prog 148)
 ·exact(inferInstance:HF prog 149)
 ·exact(inferInstance:HF prog 148)
 ·exact(inferInstance:HF prog 150)
 ·exact(inferInstance:HF prog 151)
 ·exact(inferInstance:HF prog 152)
def PZ(s:SE)(d:DD)(c:CM)(s':SE)(d':DD):Prop:=if c.kind=14 then Tf s d c s' d' else if 16<=c.kind then Ea s d c s' d' else(s',d')=Od (fun _=>[]) (s,d) c
theorem GS.cmd{f:FuncId}{b:Nat}{s:SE}{x:SL}{d:DD}{y:DL}{c:CM}{k:CL}{r:RQ}(h:GS f b s x d y c k (G1 (s,d) c r []))(hu:r.a5I=[])(hf:r.a5R=[]):bA f b s x d y c k (G1 (s,d) c r []):=fun F R w a g=>
 (h F R w a g).mono fun e n ⟨v,A,i,⟨j,l⟩,m⟩=>⟨v,A,i,by subst j l;exact mj b s x d y c k r hu hf,m⟩
section
variable(b:Nat)(s:SE)(x:SL)(d:DD)(y:DL)(c:CM)(k:CL)(hv:s.a5G.a5F.length<=100000)(hvu:∀r∈s.a5G.a5F,r.1<18446744073709551616)(hc:tM c)(hn:s.num<18446744073709551615)(hl:y.rl.length<=100000)
include hv hvu hc hn hl
theorem Qa(C:1<=c.kind)(D:c.kind<=18):DZ (zL c.kind) b s x d y c k (PZ s d c):=by
 obtain⟨i,z,j,a,l,e,f,m,n,o,g,p,r,t,u,v,h⟩:=c;simp only at C D⊢;have A:y.rl.length<=1000000:=by omega
 have w:∀{q:SD},z≠14->z<16->q=Od (fun _=>[]) (s,d) ⟨i,z,j,a,l,e,f,m,n,o,g,p,r,t,u,v,h⟩->PZ s d ⟨i,z,j,a,l,e,f,m,n,o,g,p,r,t,u,v,h⟩ q.1 q.2:=fun{q} ha M J=>by
  unfold PZ;rw[zk ha,zk (show¬16<=z by omega)];exact J
 rcases lF C D with rfl|rfl|rfl|rfl|rfl|rfl|rfl|rfl|rfl|rfl|rfl|rfl|rfl|rfl|rfl|rfl|rfl|rfl
 ·exact bA.w (rn b s x d y ⟨i,1,j,a,l,e,f,m,n,o,g,p,r,t,u,v,h⟩ k A) (w qp qp (by rfl)) (by first|rfl|(split<;>rfl))
 ·exact bA.w (LD b s x d y ⟨i,2,j,a,l,e,f,m,n,o,g,p,r,t,u,v,h⟩ k hn A) (w qp qp (by rfl)) (by first|rfl|(split<;>rfl))
 ·exact bA.w (Dv b s x d y ⟨i,3,j,a,l,e,f,m,n,o,g,p,r,t,u,v,h⟩ k hn A) (w qp qp (by rfl)) (by first|rfl|(split<;>rfl))
 ·exact bA.w (Dx b s x d y ⟨i,4,j,a,l,e,f,m,n,o,g,p,r,t,u,v,h⟩ k hn) (w qp qp (by rfl)) (by first|rfl|(split<;>rfl))
 ·exact bA.w (vV b s x d y ⟨i,5,j,a,l,e,f,m,n,o,g,p,r,t,u,v,h⟩ k hn A) (w qp qp (by rfl)) (by first|rfl|(split<;>rfl))
 ·exact bA.w (Dw b s x d y ⟨i,6,j,a,l,e,f,m,n,o,g,p,r,t,u,v,h⟩ k A) (w qp qp (by rfl)) (by first|rfl|(split<;>rfl))
 ·exact bA.w (GT b s x d y ⟨i,7,j,a,l,e,f,m,n,o,g,p,r,t,u,v,h⟩ k hn A) (w qp qp (by rfl)) (by first|rfl|(split<;>rfl))
 ·exact bA.w (pm b s x d y ⟨i,8,j,a,l,e,f,m,n,o,g,p,r,t,u,v,h⟩ k hn) (w qp qp (by rfl)) (by first|rfl|(split<;>rfl))
 ·exact bA.w (pm b s x d y ⟨i,9,j,a,l,e,f,m,n,o,g,p,r,t,u,v,h⟩ k hn) (w qp qp (by rfl)) (by first|rfl|(split<;>rfl))
 ·exact bA.w ((yD b s x d y ⟨i,10,j,a,l,e,f,m,n,o,g,p,r,t,u,v,h⟩ k hn).cmd rfl rfl) (w qp qp (by rfl)) (by first|rfl|(split<;>rfl))
 ·exact bA.w ((yE b s x d y ⟨i,11,j,a,l,e,f,m,n,o,g,p,r,t,u,v,h⟩ k hn).cmd rfl rfl) (w qp qp (by rfl)) (by first|rfl|(split<;>rfl))
 ·exact bA.w ((gz b s x d y ⟨i,12,j,a,l,e,f,m,n,o,g,p,r,t,u,v,h⟩ k hn).cmd rfl rfl) (w qp qp (by rfl)) (by first|rfl|(split<;>rfl))
 ·exact bA.w ((gz b s x d y ⟨i,13,j,a,l,e,f,m,n,o,g,p,r,t,u,v,h⟩ k hn).cmd rfl rfl) (w qp qp (by rfl)) (by first|rfl|(split<;>rfl))
 ·exact(za b s x d y ⟨i,14,j,a,l,e,f,m,n,o,g,p,r,t,u,v,h⟩ k hc hn)
 ·exact bA.w ((gz b s x d y ⟨i,15,j,a,l,e,f,m,n,o,g,p,r,t,u,v,h⟩ k hn).cmd rfl rfl) (w qp qp (by rfl)) (by first|rfl|(split<;>rfl))
 ·exact(Ec b s x d y ⟨i,16,j,a,l,e,f,m,n,o,g,p,r,t,u,v,h⟩ k hv hvu hc hn hl)
 ·exact(Ed b s x d y ⟨i,17,j,a,l,e,f,m,n,o,g,p,r,t,u,v,h⟩ k hv hvu hc hn hl)
 ·exact(Ia b s x d y ⟨i,18,j,a,l,e,f,m,n,o,g,p,r,t,u,v,h⟩ k hv hvu hc hn hl)
end
open Go Go.Sl Go.RowKit Go.Proofs.Tryz
def Ox(s:SE)(d:DD)(t:Bs)(s':SE)(d':DD):Prop:=∃c e,bC t c e/\
 (e=11/\(s',d')=V2 (s,d) (fh [42] [110,111,32,116,97,103])\/e=10/\(s',d')=V2 (s,d) (fh c.tag [110,111,32,115,117,99,104,32,99,111,109,109,97,110,100])
 \/e=4/\(s',d')=V2 (s,d) (fh c.tag [119,114,111,110,103,32,119,111,114,100,115])
 \/e=0/\((s.a5H<(M_ c.kind).1\/(M_ c.kind).2<s.a5H)/\(s',d')=V2 (s,d) (fh c.tag [110,111,116,32,110,111,119])
  \/(M_ c.kind).1<=s.a5H/\s.a5H<=(M_ c.kind).2/\PZ s d c s' d'))
theorem BR{b:Nat}{s:SE}{x:SL}{d:DD}{y:DL}{r:RR}{a:Option Addr}{f:Nat}{h:l9}{Q:SE->DD->Prop}(hq:Q s {d with a5Q:=d.a5Q++[r]})(hz:fE r L0 h)(c:iB s x d y h):HX b y Q h (.tuple #[]) (l5 x.ra s.a5G.a5F x.rc::O3 b s x d (E_ y (r,L0) a f)):=by
 refine⟨rfl,s,{d with a5Q:=d.a5Q++[r]},x,E_ y (r,L0) a f,hq,rfl,.one rfl,c.se,?_,fun m e=>?_,c.dd.req,c.dd.want⟩
 ·show d.a5Q++[r]=(y.rl++[(r,L0)]).map Prod.fst;rw[c.dd.a5Q];simp
 ·rcases zc.1 (show m∈y.rl++[(r,L0)] from e) with e|e
  ·exact c.dd.rep m e
  ·rw[zg.1 e];exact hz
theorem Tw{F:l6}{w:World}{H:List As}{b o:Nat}{cs:Array Value}{te:TypeId}{fr:Nat×Nat}{u v z:Value}(d:Hp F w H)(e:F.heap b=some (.cells cs te fr))(hu:cs[o]? =some u)(hv:cs[o+1]? =some v)(hz:cs[o+2]? =some z):L_ (hp w) (some ⟨b,o,none⟩) [u,v,z]:=
 ⟨_,rfl,fun j q a=>by
  match j,a with
  |0,a=>simp at a;subst a;have c:w.heap[b]? =some (.cells cs te fr):=d.keep b _ e;simp[l9.cell?,hp,Addr.add,c,hu]
  |1,a=>simp at a;subst a;have c:w.heap[b]? =some (.cells cs te fr):=d.keep b _ e;simp[l9.cell?,hp,Addr.add,c,hv]
  |2,a=>simp at a;subst a;have c:w.heap[b]? =some (.cells cs te fr):=d.keep b _ e;simp[l9.cell?,hp,Addr.add,c,hz]⟩
theorem Nm(b:Nat)(s:SE)(x:SL)(d:DD)(y:DL)(t:Bs)(ht:t.length<=1000000000)(hv:s.a5G.a5F.length<=100000)(Q:∀r∈s.a5G.a5F,r.1<18446744073709551616)(hn:s.num<18446744073709551615)(hl:y.rl.length<=100000):
  Cm prog 74 [m6 b,B t] (fun h=>Gl h/\iB s x d y h) (l5 x.ra s.a5G.a5F x.rc::O3 b s x d y) (HX b y (Ox s d t)):=by
 refine x8 80 func74 rfl rfl rfl ?_;rintro F R ⟨hg,S⟩;refine p_ ?_;refine c_ (sH t ht) (fun h hh _=>hg.le hh) ?_;rintro v A ⟨c,e,k,i,rfl,q⟩;refine Ax (kE A _) fun F1 j ⟨bs,M⟩=>?_;have hk:fj c k F1.heap:=q _ _ M;clear q M;refine E4 ?_;refine i7 rfl ?_;intro g4;refine y8 ?_;have g:iB s x d y F1.heap:=Mn.le j.heap S;have u:=kD ht i;refine p_ ?_;rcases u.er with rfl|rfl|rfl|rfl
 ·refine E4 ?_;refine c_ (li b s x d y [42] [110,111,32,116,97,103] qb) qw ?_;rintro v A ⟨rfl,a,z,rfl⟩;refine u7 ?_;refine G_ (A:=l5 x.ra s.a5G.a5F x.rc::O3 b s x d (E_ y (fh [42] [110,111,32,116,97,103],L0) a z)) (v:=.tuple #[]) j (BR ⟨c,11,i,.inl qh⟩ (cF rfl rfl rfl _) g) ?_;exact l_ rfl _ qh (fun w l=>C1 (A:=[_,_,_]) (J:=[_]) tk l)
 ·refine wk 7 ?_;refine c_ (li b s x d y c.tag [110,111,32,115,117,99,104,32,99,111,109,109,97,110,100] qb) qw ?_;rintro v A ⟨rfl,a,z,rfl⟩;refine u7 ?_;refine G_ (A:=l5 x.ra s.a5G.a5F x.rc::O3 b s x d (E_ y (fh c.tag [110,111,32,115,117,99,104,32,99,111,109,109,97,110,100],L0) a z)) (v:=.tuple #[]) j (BR ⟨c,10,i,.inr (.inl qh)⟩ (cF rfl rfl rfl _) g) ?_;exact l_ rfl _ qh (fun w l=>C1 (A:=[_,_,_]) (J:=[_]) tk l)
 ·refine wk 9 ?_;refine c_ (li b s x d y c.tag [119,114,111,110,103,32,119,111,114,100,115] qb) qw ?_;rintro v A ⟨rfl,a,z,rfl⟩;refine u7 ?_;refine G_ (A:=l5 x.ra s.a5G.a5F x.rc::O3 b s x d (E_ y (fh c.tag [119,114,111,110,103,32,119,111,114,100,115],L0) a z)) (v:=.tuple #[]) j (BR ⟨c,4,i,.inr (.inr (.inl qh))⟩ (cF rfl rfl rfl _) g) ?_;exact l_ rfl _ qh (fun w l=>C1 (A:=[_,_,_]) (J:=[_]) tk l)
 ·have m:=u.kind rfl;refine wk 24 ?_;refine f_ (zf rfl rfl) ?_;refine i7 rfl ?_;intro g6;refine p_ ?_;refine B8 (Z:=[.blk g6 (.cells qf.toArray 226)]) tk fun F2 o M=>?_;have p6:F2.heap g6=some (.cells qf.toArray 226 (0,0)):=I_ M;clear M;have D:=Iz m.1 m.2
  haveI:=PY m.1 m.2
  refine y8 ?_;refine f_ (bt (n:=(c.kind:Nat)) rfl rfl qb) ?_;refine r_ (w8 (cs:=Iy (M_ c.kind).1 (M_ c.kind).2 (zL c.kind)) rfl (fun w l=>Tw l p6 (by simpa using D.1) (by simpa using D.2.1) (by simpa using D.2.2)) rfl) ?_;refine i7 rfl ?_;intro T;refine p_ ?_;obtain⟨q1,U⟩:=o7 (decide (s.a5H<(M_ c.kind).1));obtain⟨q2,V⟩:=o7 (decide ((M_ c.kind).2<s.a5H));refine x6 [(0,m6 b),(4,m6 g4),(7,m6 T),(54,.bool (q1||q2))] (.blk T (.cells (Iy (M_ c.kind).1 (M_ c.kind).2 (zL c.kind)).toArray 225)::.blk g4 (.cells (lh c k).toArray 36)::E8 b s x d y::r8 y.da y.rl y.dc::l5 x.ra s.a5G.a5F x.rc::R) ?_ ?_
  ·cases q1
   all_goals (
    refine u7 ?_;refine D9 [4,6,13,15] [] [E8 b s x d y,.blk T (.cells (Iy (M_ c.kind).1 (M_ c.kind).2 (zL c.kind)).toArray 225)] 18 ?_;refine wd [0,1,2,3,4,5,6] ?_;refine w_ 7 rfl ((E6 rfl rfl).eq (qn ((qz).trans U.symm))) ?_;refine wd [8,9,10,11,12,13,14,15] ?_;(first|refine s_ 16 ?_|refine t_ 16 ?_|refine F6 16 rfl ((D8 rfl rfl).eq (qn ((qz).trans V.symm))) rfl rfl rfl rfl rfl rfl i6 ?_);refine wd [17] ?_)
   all_goals exact p8 sub (fun w l=>(tk (C:=[_,_,_,_,_])).hp l)
  refine O1 ?_ ?_<;>intro h
  ·have p:s.a5H<(M_ c.kind).1\/(M_ c.kind).2<s.a5H:=(by rw[U,V] at h;simpa using h);refine E4 ?_;refine c_ (li b s x d y c.tag [110,111,116,32,110,111,119] qb) qw ?_;rintro v A ⟨rfl,a,z,rfl⟩;refine oz ?_;refine G_ (A:=l5 x.ra s.a5G.a5F x.rc::O3 b s x d (E_ y (fh c.tag [110,111,116,32,110,111,119],L0) a z)) (v:=.tuple #[]) (j.trans o) (BR ⟨c,0,i,.inr (.inr (.inr ⟨rfl,.inl ⟨p,rfl⟩⟩))⟩ (cF rfl rfl rfl _) (Mn.le o.heap g)) ?_;exact l_ rfl _ qh (fun w l=>C1 (A:=[_,_,_]) (J:=[_,_]) tk l)
  ·have p:(M_ c.kind).1<=s.a5H/\s.a5H<=(M_ c.kind).2:=(by rw[U,V] at h;simpa using h);refine O2 ?_;refine rM (f:=zL c.kind) (Qa b s x d y c k hv Q u.le.le hn hl m.1 m.2) ⟨Mn.le o.heap g,Mn.le o.heap hk⟩ ?_;rintro v A F3 X ⟨rfl,Y,d',O,y',hq,rfl,hy,h0⟩;refine u7 ?_;refine G_ (A:=l5 O.ra Y.a5G.a5F O.rc::O3 b Y O d' y') (v:=.tuple #[]) ((j.trans o).trans X) ⟨rfl,Y,d',O,y',⟨c,0,i,.inr (.inr (.inr ⟨rfl,.inr ⟨p.1,p.2,hq⟩⟩))⟩,rfl,hy,h0⟩ ?_;exact l_ rfl _ qh (fun w l=>C1 (A:=[_,_,_]) (J:=[_,_]) tk l)
def cz(s:SE)(kind:Int)(t:Bs)(s':SE)(d':DD):Prop:=
 if kind=2 then(s',d')=V2 (s,F9) {R0 with kind:=5,text:=[103,111,32,111,110]}
 else if s.a5H=3\/s.a5M=true then(s',d')=(s,F9)
 else if kind=4 then(s',d')=Gg (s,F9) [116,111,111,32,108,111,110,103]
 else if kind=3 then∃c e,bC t c e/\(s',d')=V2 (s,F9) (fh (tJ c) [116,111,111,32,98,105,103])
 else if kind=1 then Ox s F9 t s' d' else(s',d')=(s,F9)
structure zM(s:SE):Prop where
 a5F:s.a5G.a5F.length<=100000
 a5I:s.a5I.length<=1000000
 cmd:tM s.cmd
 row:∀r∈s.a5G.a5F,r.1<18446744073709551616
 num:s.num<18446744073709551615
theorem zM.le{s:SE}(h:zM s):Sx s:=⟨by have:=h.a5F;omega,h.a5I,h.cmd⟩
def Ez(Q:SE->DD->Prop)(h:l9)(v:Value)(A:List As):Prop:=∃s' d' x' y',Q s' d'/\v=.tuple #[rP s' x',Lf d' y']/\A=[l5 x'.ra s'.a5G.a5F x'.rc,r8 y'.da y'.rl y'.dc]/\rm N0 y'/\iB s' x' d' y' h
abbrev hdA(kind:Int)(t:Bs):Value:=.agg #[.int .i64 kind,B t]
theorem No(s:SE)(x:SL)(kind:Int)(t:Bs)(hs:zM s)(ht:t.length<=1000000000):
  Cm prog 30 [rP s x,hdA kind t] (fun h=>Gl h/\o0 h x.ra (V7 s.a5G.a5F)/\U3 s x h) [] (Ez (cz s kind t)):=by
 refine x8 64 func30 rfl rfl rfl ?_;rintro F R ⟨hg,hr,X⟩;refine C6 ?_;refine m9 rfl rfl ?_;intro Y;refine m9 rfl rfl ?_;intro Z;refine i7 rfl ?_;intro S;refine i7 rfl ?_;intro T;refine p_ ?_;refine A8 (lA s x hs.le) ⟨hr,X⟩ ?_;rintro v A p D ⟨b,rfl,rfl,g⟩;refine f_ (y7 (ps:=[(0,.tmp 10)]) (vs:=[(0,rP s b)]) (cells:=(mJ s b++tN F9 N0).toArray) rfl i6) ?_;refine m9 rfl rfl ?_;intro q;refine I8 1 ?_;refine D5 (H':=E8 q s b F9 N0::r8 none [] 0::l5 b.ra s.a5G.a5F b.rc::.blk T (.cells (tN F9 N0).toArray 46)::.blk S (.cells (mJ oH rf).toArray 39)::.blk Z (.cells [.int .i64 kind,B t].toArray 41)::.blk Y (.cells (mJ s x).toArray 39)::R) (fun w f=>(f.addNil 51 10).perm (.swap _ _ _)) ?_;have o:iB s b F9 N0 p.heap:=⟨g,Db.zero _⟩;obtain⟨b2,h2⟩:=o7 (decide (kind=2));obtain⟨b3,h3⟩:=o7 (decide (s.a5H=3));obtain⟨b4,h4⟩:=o7 (decide (kind=4));obtain⟨b5,h5⟩:=o7 (decide (kind=3));obtain⟨b6,h6⟩:=o7 (decide (kind=1));refine S7 (fun(l:SE) (u:DD) (z:SL×DL) (d:l6)=>p.le d/\cz s kind t l u/\rm N0 z.2/\iB l z.1 u z.2 d.heap) (fun _ _ _ _=>[(4,m6 S),(5,m6 T),(6,m6 q)]) (fun _ _ _ d=>d)
  (fun l u z d=>E8 q l z.1 u z.2::r8 z.2.da z.2.rl z.2.dc::l5 z.1.ra l.a5G.a5F z.1.rc::.blk T (.cells (tN F9 N0).toArray 46)::.blk S (.cells (mJ oH rf).toArray 39)::R) ?_ ?_
 ·refine n9 ?_;refine y8 ?_;refine f_ ((o_ rfl rfl).eq (v':=.bool b2) (qn h2.symm)) ?_;refine p_ ?_;have i:∀(r:RR) (a:Option Addr) (n:Nat) (d:l6),p.le d->fE r L0 d.heap->iB s b {F9 with a5Q:=[r]} (E_ N0 (r,L0) a n) d.heap:=fun r a n d hl hz=>⟨Mn.le hl.heap g,rfl,(fun m hm=>by rw[zg.1 (show m∈[(r,L0)] from hm)];exact hz),⟨o0.nil _ _,o0.nil _ _⟩,o0.nil _ _⟩
  cases b2
  case true=>
   have M:kind=2:=qr h2.symm;refine p_ ?_;refine f_ (y7 (ps:=[(0,.const (.int .i64 5)),(3,.const (B [103,111,32,111,110]))]) (vs:=[(0,.int .i64 5),(3,B [103,111,32,111,110])]) (cells:=(tD {R0 with kind:=5,text:=[103,111,32,111,110]} L0).toArray) rfl i6) ?_;refine c_ (V4 q s b F9 N0 {R0 with kind:=5,text:=[103,111,32,111,110]} L0 qp) qw ?_;rintro v A ⟨rfl,a,n,rfl⟩;refine u7 ?_;exact y5 (s,{F9 with a5Q:=[{R0 with kind:=5,text:=[103,111,32,111,110]}]},(b,E_ N0 ({R0 with kind:=5,text:=[103,111,32,111,110]},L0) a n),p) ⟨l6.le_refl _,by unfold cz;rw[zu M];rfl,.one rfl,i ({R0 with kind:=5,text:=[103,111,32,111,110]}) a n p (l6.le_refl _) (cF rfl rfl rfl _)⟩ rfl (fun w f=>C1 (A:=[_,_,_,_,_]) (J:=[_,_]) tk f)
  have M:¬kind=2:=zq h2.symm;refine u7 ?_;refine x6 [(2,m6 Y),(3,m6 Z),(4,m6 S),(5,m6 T),(6,m6 q),(20,.bool (b3||s.a5M))] (E8 q s b F9 N0::r8 none [] 0::l5 b.ra s.a5G.a5F b.rc::.blk T (.cells (tN F9 N0).toArray 46)::.blk S (.cells (mJ oH rf).toArray 39)::.blk Z (.cells [.int .i64 kind,B t].toArray 41)::.blk Y (.cells (mJ s x).toArray 39)::R) ?_ ?_
  ·cases b3
   all_goals (
    refine y8 ?_;refine f_ ((o_ rfl rfl).eq (qn ((qz).trans h3.symm))) ?_;refine aH ?_)
   all_goals exact p8 sub i_
  refine O1 ?_ ?_<;>intro h
  ·have Q:s.a5H=3\/s.a5M=true:=(by rw[h3] at h;simpa using h);refine u7 ?_;exact y5 (s,F9,(b,N0),p) ⟨l6.le_refl _,by unfold cz;rw[zk M,zu Q],.refl rfl,o⟩ rfl (fun w f=>C1 (A:=[_,_,_,_,_]) (J:=[_,_]) tk f)
  have Q:¬(s.a5H=3\/s.a5M=true):=by rw[h3] at h;simpa using h
  refine y8 ?_;refine f_ ((o_ rfl rfl).eq (v':=.bool b4) (qn h4.symm)) ?_;refine p_ ?_
  cases b4
  case true=>
   have U:kind=4:=qr h4.symm;refine p_ ?_;refine c_ (tP q s b F9 N0 [116,111,111,32,108,111,110,103] qp) qw ?_;rintro v A ⟨rfl,a,n,rfl⟩;refine u7 ?_;exact y5 ({s with a5H:=3},{F9 with a5Q:=[H7 [116,111,111,32,108,111,110,103]],close:=true},(b,E_ N0 (H7 [116,111,111,32,108,111,110,103],L0) a n),p) ⟨l6.le_refl _,by unfold cz;rw[zk M,zk Q,zu U];rfl,.one rfl,⟨⟨g.a5I,g.cmd⟩,(i (H7 [116,111,111,32,108,111,110,103]) a n p (l6.le_refl _) (cF rfl rfl rfl _)).dd.a5Q,(i (H7 [116,111,111,32,108,111,110,103]) a n p (l6.le_refl _) (cF rfl rfl rfl _)).dd.rep,⟨o0.nil _ _,o0.nil _ _⟩,o0.nil _ _⟩⟩ rfl (fun w f=>C1 (A:=[_,_,_,_,_]) (J:=[_,_]) tk f)
  have U:¬kind=4:=zq h4.symm;refine y8 ?_;refine f_ ((o_ rfl rfl).eq (v':=.bool b5) (qn h5.symm)) ?_;refine p_ ?_
  cases b5
  case true=>
   have V:kind=3:=qr h5.symm;refine y8 ?_;refine c_ (sH t ht) (fun h hh _=>(hg.le D.heap).le hh) ?_;rintro v A ⟨c,e,k,h0,rfl,y⟩;refine Ax (kE A _) fun d j ⟨bs,hb⟩=>?_;have hk:fj c k d.heap:=y _ _ hb;clear y hb;refine E4 ?_;refine i7 rfl ?_;intro g7;refine O2 ?_;refine e_ rfl (Ei c k) qw rfl ?_;refine c_ (li q s b F9 N0 (tJ c) [116,111,111,32,98,105,103] qp) qw ?_;rintro v A ⟨rfl,a,n,rfl⟩;refine u7 ?_;exact y5 (s,{F9 with a5Q:=[fh (tJ c) [116,111,111,32,98,105,103]]},(b,E_ N0 (fh (tJ c) [116,111,111,32,98,105,103],L0) a n),d) ⟨j,by unfold cz;rw[zk M,zk Q,zk U,zu V];exact⟨c,e,h0,rfl⟩,.one rfl,i (fh (tJ c) [116,111,111,32,98,105,103]) a n d j (cF rfl rfl rfl _)⟩ rfl (fun w f=>C1 (A:=[_,_,_,_,_]) (J:=[_,_,_]) tk f)
  have V:¬kind=3:=zq h5.symm;refine y8 ?_;refine f_ ((o_ rfl rfl).eq (v':=.bool b6) (qn h6.symm)) ?_;refine p_ ?_
  cases b6
  case true=>
   have e6:kind=1:=qr h6.symm;refine E4 ?_;refine A8 (Nm q s b F9 N0 t ht hs.a5F hs.row hs.num qp) ⟨hg.le D.heap,o⟩ ?_;rintro v A d j ⟨rfl,l,u,O,C,hq,rfl,hy,h1⟩;refine u7 ?_;exact y5 (l,u,(O,C),d) ⟨j,by unfold cz;rw[zk M,zk Q,zk U,zk V,zu e6];exact hq,hy,h1⟩ rfl (fun w f=>C1 (A:=[_,_,_,_,_]) (J:=[_,_]) tk f)
  have e6:¬kind=1:=zq h6.symm;refine u7 ?_;exact y5 (s,F9,(b,N0),p) ⟨l6.le_refl _,by unfold cz;rw[zk M,zk Q,zk U,zk V,zk e6],.refl rfl,o⟩ rfl (fun w f=>C1 (A:=[_,_,_,_,_]) (J:=[_,_]) tk f)
 rintro l u ⟨O,C⟩ d ⟨j,hq,hn,h7⟩;refine u7 ?_;refine D9 [3,7] [8,9] [E8 q l O u C] 10 ?_;refine wd [0,1,2,3,4,5,6,7,8,9] ?_;refine A3 ?_;refine G_ (A:=[l5 O.ra l.a5G.a5F O.rc,r8 C.da C.rl C.dc]) (v:=.tuple #[rP l O,Lf u C]) (D.trans j) ⟨l,u,O,C,hq,rfl,rfl,hn,h7⟩ ?_;refine X2 rfl rfl rfl ud rfl ud rfl _ qh (fun w f=>C1 (A:=[_,_]) (J:=[_,_,_]) tk f)
theorem Np(s:SE)(x:SL)(hs:zM s):
  Cm prog 32 [rP s x] (fun h=>o0 h x.ra (V7 s.a5G.a5F)/\U3 s x h) [] (Ez (fun D M=>(D,M)=S4 s)):=by
 obtain⟨i,e,f,d,k,c,l,b,j⟩:=s;refine x8 42 func32 rfl rfl rfl ?_;rintro F R ⟨O,u⟩;refine C6 ?_;refine m9 rfl rfl ?_;intro Q;refine i7 rfl ?_;intro S;refine i7 rfl ?_;intro T;refine p_ ?_;refine A8 (lA ⟨i,e,f,d,k,c,l,b,j⟩ x hs.le) ⟨O,u⟩ ?_;rintro v A U o ⟨g,rfl,rfl,r⟩;refine f_ (y7 (ps:=[(0,.tmp 7)]) (vs:=[(0,rP ⟨i,e,f,d,k,c,l,b,j⟩ g)]) (cells:=(mJ ⟨i,e,f,d,k,c,l,b,j⟩ g++tN F9 N0).toArray) rfl i6) ?_;refine m9 rfl rfl ?_;intro p;refine p_ ?_;refine D5 (H':=E8 p ⟨i,e,f,d,k,c,l,b,j⟩ g F9 N0::r8 none [] 0::l5 g.ra d.a5F g.rc::.blk T (.cells (tN F9 N0).toArray 46)::.blk S (.cells (mJ oH rf).toArray 39)::.blk Q (.cells (mJ ⟨i,e,f,d,k,c,l,b,j⟩ x).toArray 39)::R) (fun w q=>(q.addNil 51 10).perm (.swap _ _ _)) ?_;refine E4 ?_
 cases l
 ·refine u7 ?_;refine D9 [3,7] [8,9] [E8 p ⟨i,e,f,d,k,c,false,b,j⟩ g F9 N0] 10 ?_;refine wd [0,1,2,3,4,5,6,7,8,9] ?_;refine A3 ?_;refine G_ (A:=[l5 g.ra d.a5F g.rc,r8 none [] 0]) (v:=.tuple #[rP ⟨i,e,f,d,k,c,false,b,j⟩ g,Lf F9 N0]) o ⟨_,_,g,N0,rfl,rfl,rfl,.refl rfl,r,Db.zero _⟩ ?_;exact X2 rfl rfl rfl ud rfl ud rfl _ qh (fun w q=>C1 (A:=[_,_]) (J:=[_,_,_,_]) tk q)
 refine p_ ?_;refine c_ (BG p ⟨i,e,f,d,k,c,true,b,j⟩ g F9 N0) qw ?_;rintro v A ⟨rfl,rfl⟩;refine i7 rfl ?_;intro V;refine p_ ?_;obtain⟨C,y⟩:=o7 (decide (b.kind=3));refine y8 ?_;refine f_ ((o_ rfl rfl).eq (v':=.bool C) (qn ((zh.2 (by show((b.kind:Nat):Int)=3↔b.kind=3;omega)).trans y.symm))) ?_;refine u7 ?_
 cases C
 case true=>
  have z:b.kind=3:=qr y.symm;refine E4 ?_;refine c_ (oL p (V9 ⟨i,e,f,d,k,c,true,b,j⟩) {g with cl:=G9,ua:=none,uc:=0} F9 N0 b.tag qp) qw ?_;rintro v A ⟨rfl,a,n,rfl⟩;refine u7 ?_;refine D9 [3,7] [8,9] [E8 p ⟨3,e,f,d,k,c,false,iw,[]⟩ ⟨g.ra,g.rc,none,0,G9⟩ ⟨[H7 cG,dA b.tag],false,cU,false,[],[],true⟩ ⟨a,n,cY,none,0,[(H7 cG,L0),(dA b.tag,L0)]⟩] 10 ?_;refine wd [0,1,2,3,4,5,6,7,8,9] ?_;refine A3 ?_;refine G_ (A:=[l5 g.ra d.a5F g.rc,r8 a [(H7 cG,L0),(dA b.tag,L0)] n]) (v:=.tuple #[rP ⟨3,e,f,d,k,c,false,iw,[]⟩ ⟨g.ra,g.rc,none,0,G9⟩,Lf ⟨[H7 cG,dA b.tag],false,cU,false,[],[],true⟩ ⟨a,n,cY,none,0,[(H7 cG,L0),(dA b.tag,L0)]⟩]) o ⟨_,_,⟨g.ra,g.rc,none,0,G9⟩,⟨a,n,cY,none,0,[(H7 cG,L0),(dA b.tag,L0)]⟩,by unfold S4;rw[zk y4,zu z];rfl,rfl,rfl,.two rfl,⟨o0.nil _ _,fj.zero _⟩,⟨rfl,fun m t=>by rcases ky.1 (show m∈[(H7 cG,L0),(dA b.tag,L0)] from t) with rfl|t;exact cF rfl rfl rfl _;(rw[zg.1 t];exact cF rfl rfl rfl _),⟨o0.nil _ _,o0.nil _ _⟩,o0.nil _ _⟩⟩ ?_;exact X2 rfl rfl rfl ud rfl ud rfl _ qh (fun w q=>C1 (A:=[_,_]) (J:=[_,_,_,_,_]) tk q)
 have z:¬b.kind=3:=zq y.symm;refine E4 ?_;refine c_ (Gj p (V9 ⟨i,e,f,d,k,c,true,b,j⟩) {g with cl:=G9,ua:=none,uc:=0} F9 N0 b.tag [85,78,65,86,65,73,76,65,66,76,69] [116,114,121,32,97,103,97,105,110] qp) qw ?_;rintro v A ⟨rfl,a,n,rfl⟩;refine u7 ?_;refine D9 [3,7] [8,9] [E8 p ⟨i,e,f,d,k,c,false,iw,[]⟩ ⟨g.ra,g.rc,none,0,G9⟩ ⟨[lW b.tag [85,78,65,86,65,73,76,65,66,76,69] [116,114,121,32,97,103,97,105,110]],false,cU,false,[],[],false⟩ ⟨a,n,cY,none,0,[(lW b.tag [85,78,65,86,65,73,76,65,66,76,69] [116,114,121,32,97,103,97,105,110],L0)]⟩] 10 ?_;refine wd [0,1,2,3,4,5,6,7,8,9] ?_;refine A3 ?_;refine G_ (A:=[l5 g.ra d.a5F g.rc,r8 a [(lW b.tag [85,78,65,86,65,73,76,65,66,76,69] [116,114,121,32,97,103,97,105,110],L0)] n]) (v:=.tuple #[rP ⟨i,e,f,d,k,c,false,iw,[]⟩ ⟨g.ra,g.rc,none,0,G9⟩,Lf ⟨[lW b.tag [85,78,65,86,65,73,76,65,66,76,69] [116,114,121,32,97,103,97,105,110]],false,cU,false,[],[],false⟩ ⟨a,n,cY,none,0,[(lW b.tag [85,78,65,86,65,73,76,65,66,76,69] [116,114,121,32,97,103,97,105,110],L0)]⟩]) o ⟨_,_,⟨g.ra,g.rc,none,0,G9⟩,⟨a,n,cY,none,0,[(lW b.tag [85,78,65,86,65,73,76,65,66,76,69] [116,114,121,32,97,103,97,105,110],L0)]⟩,by unfold S4;rw[zk y4,zk z];rfl,rfl,rfl,.one rfl,⟨o0.nil _ _,fj.zero _⟩,⟨rfl,fun m t=>by rw[zg.1 (show m∈[(lW b.tag [85,78,65,86,65,73,76,65,66,76,69] [116,114,121,32,97,103,97,105,110],L0)] from t)];exact cF rfl rfl rfl _,⟨o0.nil _ _,o0.nil _ _⟩,o0.nil _ _⟩⟩ ?_;exact X2 rfl rfl rfl ud rfl ud rfl _ qh (fun w q=>C1 (A:=[_,_]) (J:=[_,_,_,_,_]) tk q)
abbrev zN:RR:={R0 with kind:=1,tag:=[42],text:=[112,111,115,116,104,111,114,110]}
theorem IA:Ct prog 20 [] (fun _=>True) [] (fun v A=>∃a,v=.slice a 1 1/\A=[r8 a [(zN,L0)] 1]):=by
 refine b_ 3 func20 rfl rfl rfl ?_;intro F _;refine xJ ?_;refine f_ (y7 (ps:=[(0,.const (.int .i64 1)),(1,.const (B [42])),(3,.const (B [112,111,115,116,104,111,114,110]))]) (vs:=[(0,.int .i64 1),(1,B [42]),(3,B [112,111,115,116,104,111,114,110])]) (cells:=(tD zN L0).toArray) rfl i6) ?_;refine C4 xM (zN,L0) rfl ?_;intro b _;refine C8 ?_;exact d_ rfl rfl _ ⟨b,rfl,rfl⟩ i_
structure AN where
 b:Nat
 c:CM
 k:CL
 m:MM
 o:OC
 y:OL
 bx:BM
 us:List Nat
 ua:Option Addr
 uc:Nat
 bl:BL
 ba:Option Addr
 bc:Nat
 r:RR
 z:RL
abbrev anC(x:AN):List Value:=m6 x.b::(lh x.c x.k++iD x.m++tO x.o x.y++cZ x.bx++[.slice x.ua x.us.length x.uc,.slice x.ba x.bl.length x.bc]++tD x.r x.z)
abbrev C2(g:Nat)(x:AN):As:=.blk g (.cells (anC x).toArray 149)
abbrev uG(p:Bs×Bs):List Value:=[B p.1,B p.2]
abbrev uH(l:BL):List Value:=l.flatMap uG
theorem ap:∀x,(uG x).length=2:=fun _=>rfl
structure cI(x:AN)(h:l9):Prop where
 g:Gl h
 c:fj x.c x.k h
 m:iE x.m h
 o:L9 x.o x.y h
 bx:fJ x.bx h
 us:o0 h x.ua (nV x.us)
 bl:o0 h x.ba (uH x.bl)
instance {x:AN}:Mn (cI x):=⟨fun l k=>⟨k.g.le l,Mn.le l k.c,Mn.le l k.m,Mn.le l k.o,Mn.le l k.bx,k.us.le l,k.bl.le l⟩⟩
abbrev LM0:LM:=⟨⟨0,[],0,[],0⟩,none,0⟩
theorem IB(g u:Nat)(x:LM):Pu prog 225 [.agg (S9 x).toArray,m6 g] (aK g (.int .u64 (u:Nat)) 27) (.bool (decide (x.t.uid=u))):=by
 refine b_ 8 func225 rfl rfl rfl ?_;intro F a;refine C6 ?_;refine m9 rfl rfl ?_;intro c;refine O2 ?_;refine f_ ((o_ rfl rfl).eq (dN x.t.uid u)) ?_;refine C8 ?_;exact d_ rfl rfl [] qh (fun w b=>b.dropAll)
theorem EA(g:Nat)(u:Bs)(x:Bs×Bs):Pu prog 227 [.agg (uG x).toArray,m6 g] (aK g (B u) 9) (.bool (decide (x.1=u))):=by
 refine b_ 8 func227 rfl rfl rfl ?_;intro F a;refine C6 ?_;refine m9 rfl rfl ?_;intro c;refine O2 ?_;refine f_ ((C5 rfl rfl).eq (v':=.bool (decide (x.1=u))) rfl) ?_;refine C8 ?_;exact d_ rfl rfl [] qh (fun w b=>b.dropAll)
def Qe(x:AN)(u:Nat)(lm:LM)(ok:Bool):Prop:=(ok=true->lm∈x.bx.ls/\lm.t.uid=u)/\(ok=false->lm=LM0)
theorem eV(g:Nat)(x:AN)(u:Nat)(hl:x.bx.ls.length<=1000000):Ct prog 154 [m6 g,.int .u64 (u:Nat)] (fun h=>o0 h x.bx.a (qN x.bx.ls)) [C2 g x] (fun v A=>∃o ok,v=.tuple #[Ok o,.bool ok]/\Qe x u o ok/\A=[C2 g x]):=by
 refine b_ 25 func154 rfl rfl rfl ?_;intro F c;refine C6 ?_;refine L2 rfl rfl rfl ?_;intro d;refine i7 rfl ?_;intro D;refine p_ ?_;refine B8 (Z:=[.blk d (.cells #[.int .u64 (u:Nat)] 27)]) tk fun t a p=>?_;have hp:aK d (.int .u64 (u:Nat)) 27 t.heap:=I_ p;clear p;have k:=db (fun x:LM=>decide (x.t.uid=u)) x.bx.ls;obtain⟨i,m⟩:=o7 (D1 (fun x:LM=>decide (x.t.uid=u)) x.bx.ls);refine cQ ?_;refine e_ rfl (X9 S9 A_ x.bx.ls x.bx.a x.bx.c 225 [m6 d] (aK d (.int .u64 (u:Nat)) 27) (fun x=>decide (x.t.uid=u)) (fun x _=>IB d u x) qb) (fun h r _=>⟨(c.le a.heap).le r,r _ _ hp⟩) rfl ?_;rw[<-m];refine p_ ?_;rw[<-m] at k;refine bd ?_ ?_<;>intro h
 ·refine C6 ?_;refine f_ (y7 (ps:=[]) (vs:=[]) (cells:=(S9 LM0).toArray) rfl i6) ?_;refine L7 ?_;exact D3 a (D2 rfl rfl rfl ud rfl _ ⟨LM0,false,rfl,⟨(fun e=>by cases e),fun _=>rfl⟩,rfl⟩ (fun w f=>x7.left tk f))
 have y:0<=i:=by have:=zq h;omega
 obtain⟨j,s⟩:∃j:Nat,i=(j:Nat):=⟨i.toNat,by omega⟩;have b:j<x.bx.ls.length:=by omega
 have z:=(jO (q:=fun x:LM=>decide (x.t.uid=u)) (l:=x.bx.ls) (j:=j) (by rw[<-m,s])).2.1 b;have n:=A0 (c.le a.heap) A_ qp b;rw[s];refine cQ ?_;refine f_ (m8 rfl n rfl qb) ?_;refine r_ (w8 rfl (fun w f=>fq (C:=S9) ((c.le a.heap).le f.keep) A_ qp b y4) (A_ _)) ?_;refine L7 ?_;exact D3 a (D2 rfl rfl rfl ud rfl _ ⟨x.bx.ls[j],true,rfl,⟨fun _=>⟨zx b,qr z⟩,fun e=>by cases e⟩,rfl⟩ (fun w f=>f.drop))
theorem qi(g:Nat)(x:AN)(u:Bs)(hl:x.bl.length<=1000000):Ct prog 155 [m6 g,B u] (fun h=>o0 h x.ba (uH x.bl)) [C2 g x] (fun v A=>∃t ok,v=.tuple #[B t,.bool ok]/\(t=[]\/∃p∈x.bl,t=p.2)/\A=[C2 g x]):=by
 refine b_ 23 func155 rfl rfl rfl ?_;intro F b;refine C6 ?_;refine L2 rfl rfl rfl ?_;intro d;refine y8 ?_;refine B8 (Z:=[.blk d (.cells #[B u] 9)]) tk fun n a k=>?_;have hp:aK d (B u) 9 n.heap:=I_ k;clear k;have e:=db (fun x:Bs×Bs=>decide (x.1=u)) x.bl;obtain⟨i,l⟩:=o7 (D1 (fun x:Bs×Bs=>decide (x.1=u)) x.bl);refine aH ?_;refine e_ rfl (lk uG ap x.bl x.ba x.bc 227 [m6 d] (aK d (B u) 9) (fun x=>decide (x.1=u)) (fun x _=>EA d u x) qb) (fun h m _=>⟨(b.le a.heap).le m,m _ _ hp⟩) rfl ?_;rw[<-l];refine p_ ?_;rw[<-l] at e;refine bd ?_ ?_<;>intro h
 ·refine L7 ?_;exact D3 a (r7 rfl rfl rfl _ ⟨[],false,rfl,.inl rfl,rfl⟩ i_)
 have o:0<=i:=by have:=zq h;omega
 obtain⟨j,q⟩:∃j:Nat,i=(j:Nat):=⟨i.toNat,by omega⟩;have c:j<x.bl.length:=by omega
 have f:=A0 (b.le a.heap) ap qp c;rw[q];refine aH ?_;refine f_ (m8 rfl f rfl qb) ?_;refine p_ ?_;refine r_ (i8 rfl (fun w r=>dO (C:=uG) (j:=1) ((b.le a.heap).le r.keep) ap c rfl y4)) ?_;refine L7 ?_;exact D3 a (r7 rfl rfl rfl _ ⟨x.bl[j].2,true,rfl,.inr ⟨_,zx c,rfl⟩,rfl⟩ i_)
abbrev IC(x:AN)(lm:LM):Bool:=!x.c.a5K||decide (x.c.a5L<lm.t.mod)
theorem xe(g:Nat)(x:AN)(a:LM):Ct prog 158 [m6 g,Ok a] (fun _=>True) [C2 g x] (fun v A=>v=.bool (IC x a)/\A=[C2 g x]):=by
 obtain⟨d,b⟩:=o7 (x.c.a5K);obtain⟨h,c⟩:=o7 (decide (x.c.a5L<a.t.mod));unfold IC;rw[<-b,<-c];refine b_ 21 func158 rfl rfl rfl ?_;intro F _;refine C6 ?_;refine m9 rfl rfl ?_;intro e;refine p_ ?_
 cases d
 all_goals (
  refine u7 ?_;refine D9 [4,8,13] [] [C2 g x,.blk e (.cells (S9 a).toArray 156)] 17 ?_;refine wd [0,1,2,3] ?_;refine n8 4 rfl P5 ((E9 rfl ud (v:=.bool x.c.a5K) (by rfl)).eb b) I4 rfl rfl rfl i6 ?_;refine wd [5,6,7,8,9,10,11,12,13] ?_;(first|refine s_ 14 ?_|refine t_ 14 ?_|refine F6 14 rfl ((D8 rfl rfl).eq (qn ((qz).trans c.symm))) rfl rfl rfl rfl rfl rfl i6 ?_);refine wd [15,16] ?_)
 all_goals (refine A3 ?_;exact d_ rfl rfl _ qh (fun w f=>f.drop))
theorem eo(g:Nat)(x:AN)(code text:Bs):Ct prog 164 [m6 g,B code,B text] (fun _=>True) [C2 g x] (fun v A=>v=.tuple #[]/\A=[C2 g {x with r:=lW x.c.tag code text,z:=L0}]):=by
 refine b_ 17 func164 rfl rfl rfl ?_;intro F _;refine wk 8 ?_;refine f_ (y7 (ps:=[(0,.const (.int .i64 2)),(1,.tmp 11),(2,.tmp 12),(3,.tmp 13)]) (vs:=[(0,.int .i64 2),(1,B x.c.tag),(2,B code),(3,B text)]) (cells:=(tD (lW x.c.tag code text) L0).toArray) rfl i6) ?_;refine E4 ?_;exact l_ rfl _ qh fun w a=>a
theorem ID(g n:Nat)(x:IT):Pu prog 360 [.agg (cX x).toArray,m6 g] (aK g (.int .i64 (n:Nat)) 3) (.bool (decide (x.kind=n))):=by
 refine b_ 8 func360 rfl rfl rfl ?_;intro F a;refine C6 ?_;refine m9 rfl rfl ?_;intro c;refine O2 ?_;refine f_ ((o_ rfl rfl).eq (v':=.bool (decide (x.kind=n))) (qn qz)) ?_;refine C8 ?_;exact d_ rfl rfl [] qh (fun w b=>b.dropAll)
theorem uI(c:CM)(k:CL)(n:Nat)(hl:c.a5J.length<=1000000):Pu prog 305 [xL c k,.int .i64 (n:Nat)] (fun h=>o0 h k.ia (oK c.a5J)) (.bool (c.a5J.any fun x=>decide (x.kind=n))):=by
 refine b_ 9 func305 rfl rfl rfl ?_;intro F d;refine C6 ?_;refine m9 rfl rfl ?_;intro j;refine L2 rfl rfl rfl ?_;intro a;refine p_ ?_;refine B8 (Z:=[.blk a (.cells #[.int .i64 (n:Nat)] 3)]) tk fun g b e=>?_;have hp:aK a (.int .i64 (n:Nat)) 3 g.heap:=I_ e;clear e;refine E4 ?_;refine e_ rfl (V5 cX am c.a5J k.ia k.ic 360 [m6 a] (aK a (.int .i64 (n:Nat)) 3) (fun x=>decide (x.kind=n)) (fun x _=>ID a n x) qb) (fun h f _=>⟨(d.le b.heap).le f,f _ _ hp⟩) rfl ?_;refine C8 ?_;exact D3 b (d_ rfl rfl [] qh (fun w i=>i.dropAll))
theorem zO(kind:Nat)(e:Int):Pu prog 165 [.int .i64 (kind:Nat),.int .i64 e] (fun _=>True) (.tuple #[B (mH kind e).1,B (mH kind e).2]):=by
 obtain⟨m,j⟩:=o7 (decide (e=6));obtain⟨k,f⟩:=o7 (decide (e=12));obtain⟨r,n⟩:=o7 (decide (e=7));obtain⟨l,g⟩:=o7 (decide (e=13));obtain⟨s,o⟩:=o7 (decide (e=1));obtain⟨p,i⟩:=o7 (decide (e=21));obtain⟨t,q⟩:=o7 (decide (kind=14));obtain⟨v,b⟩:=o7 (mH kind e);rw[<-b];unfold mH at b;refine b_ 32 func165 rfl rfl rfl ?_;intro F _;refine I8 2 ?_;refine n9 ?_;refine I8 0 ?_;refine x6 [(0,.int .i64 (kind:Nat)),(1,.int .i64 e),(6,.bool (m&&t||p))] [] ?_ ?_
 ·cases m<;>cases t
  all_goals (
   refine p_ ?_;refine f_ ((o_ rfl rfl).eb j) ?_;refine y8 ?_;(first|refine u_ ?_|(refine v_ ?_;refine f_ ((o_ rfl rfl).eq (qn ((qz).trans q.symm))) ?_));refine E4 ?_;(first|refine u_ ?_|(refine v_ ?_;refine f_ ((o_ rfl rfl).eb i) ?_));refine y8 ?_)
  all_goals exact p8 sub i_
 refine O1 ?_ ?_<;>intro h
 ·have d:e=6/\kind=14\/e=21:=by rw[j,q,i] at h;simpa using h
  refine L7 ?_;exact r7 rfl rfl rfl [] ⟨by rw[b,zu d],rfl⟩ i_
 have d:¬(e=6/\kind=14\/e=21):=by rw[j,q,i] at h;simpa using h
 refine p_ ?_;refine f_ ((o_ rfl rfl).eq (v':=.bool m) (qn j.symm)) ?_;refine p_ ?_
 cases m
 case true=>
  have k6:e=6:=qr j.symm;refine L7 ?_;exact r7 rfl rfl rfl [] ⟨by rw[b,zk d,zu k6],rfl⟩ i_
 have k6:¬e=6:=zq j.symm;refine p_ ?_;refine f_ ((o_ rfl rfl).eq (v':=.bool k) (qn f.symm)) ?_;refine p_ ?_
 cases k
 case true=>
  have a:e=12:=qr f.symm;refine L7 ?_;exact r7 rfl rfl rfl [] ⟨by rw[b,zk d,zk k6,zu a],rfl⟩ i_
 have a:¬e=12:=zq f.symm;refine p_ ?_;refine f_ ((o_ rfl rfl).eq (v':=.bool r) (qn n.symm)) ?_;refine p_ ?_
 cases r
 case true=>
  have k7:e=7:=qr n.symm;refine L7 ?_;exact r7 rfl rfl rfl [] ⟨by rw[b,zk d,zk k6,zk a,zu k7],rfl⟩ i_
 have k7:¬e=7:=zq n.symm;refine p_ ?_;refine f_ ((o_ rfl rfl).eq (v':=.bool l) (qn g.symm)) ?_;refine p_ ?_
 cases l
 case true=>
  have c:e=13:=qr g.symm;refine L7 ?_;exact r7 rfl rfl rfl [] ⟨by rw[b,zk d,zk k6,zk a,zk k7,zu c],rfl⟩ i_
 have c:¬e=13:=zq g.symm;refine p_ ?_;refine f_ ((o_ rfl rfl).eq (v':=.bool s) (qn o.symm)) ?_;refine p_ ?_
 cases s
 case true=>
  have k1:e=1:=qr o.symm;refine L7 ?_;exact r7 rfl rfl rfl [] ⟨by rw[b,zk d,zk k6,zk a,zk k7,zk c,zu k1],rfl⟩ i_
 have k1:¬e=1:=zq o.symm;refine L7 ?_;exact r7 rfl rfl rfl [] ⟨by rw[b,zk d,zk k6,zk a,zk k7,zk c,zk k1],rfl⟩ i_
def uJ(i:IT)(lm:LM)(v:RV):Prop:=
 if i.kind=6 then v={V0 with kind:=6,a5R:=lm.t.a5R} else if i.kind=7 then v={V0 with kind:=7,n:=lm.t.uid}
 else if i.kind=8 then v={V0 with kind:=8,n:=lm.t.size} else if i.kind=9 then v={V0 with kind:=9,n:=lm.t.mod}
 else∃t:Bs,t.length<=1000000000/\v={V0 with kind:=i.kind,text:=t,part:=i.part,fr:=if i.part then i.fr else 0}
abbrev itA(i:IT):Value:=.agg (cX i).toArray
def a1J(g:Nat)(x:AN)(i:IT)(lm:LM)(v:Value)(A:List As):Prop:=∃(w:VM) (Z:List As),v=vmA w/\uJ i lm w.v/\A=C2 g x::Z/\∀h bs,A2 h Z bs->o0 h w.a (fV w.v.a5R)
abbrev BS(g:Nat)(w:VM):As:=.blk g (.cells (vz w).toArray 110)
theorem xf(g:Nat)(x:AN)(i:IT)(a:LM)(hf:a.t.a5R.length<=1000000)(hl:x.bl.length<=1000000)(s:∀p∈x.bl,p.2.length<=1000000000):
  Ct prog 308 [m6 g,itA i,Ok a] (fun h=>Gl h/\o0 h a.a (fV a.t.a5R)/\o0 h x.ba (uH x.bl)) [C2 g x] (a1J g x i a):=by
 obtain⟨U,y⟩:=o7 (decide (i.kind=6));obtain⟨V,z⟩:=o7 (decide (i.kind=7));obtain⟨X,D⟩:=o7 (decide (i.kind=8));obtain⟨Y,J⟩:=o7 (decide (i.kind=9));refine b_ 63 func308 rfl rfl rfl ?_;rintro F ⟨hg,M,O⟩;refine C6 ?_;refine m9 rfl rfl ?_;intro g4;refine m9 rfl rfl ?_;intro g5;refine i7 rfl ?_;intro c;refine y8 ?_;refine f_ (y7 (ps:=[(0,.tmp 11)]) (vs:=[(0,.int .i64 (i.kind:Nat))]) (cells:=(vz ⟨{V0 with kind:=i.kind},none,0⟩).toArray) rfl i6) ?_;refine i7 rfl ?_;intro d;refine p_ ?_;refine I8 2 ?_;refine n7 (ι:=VM×List As) (fun q=>uJ i a q.1.v/\∀h f,A2 h q.2 f->o0 h q.1.a (fV q.1.v.a5R)) (fun q=>[(6,m6 c),(7,m6 d)]) (fun q=>BS d q.1::BS c OY::C2 g x::q.2) ?_ ?_
 ·refine n9 ?_;refine C6 ?_;refine f_ ((o_ rfl rfl).eq (v':=.bool U) (qn ((qz).trans y.symm))) ?_;refine p_ ?_
  cases U
  case true=>
   have e:i.kind=6:=qr y.symm;refine y8 ?_;refine c_ (Y4 a.t.a5R a.a a.c hf) (fun h l _=>M.le l) ?_;rintro v A ⟨o,r,rfl,rfl⟩;refine y8 ?_;refine g_ (⟨{V0 with kind:=i.kind,a5R:=a.t.a5R},o,r⟩,[A4 o a.t.a5R r]) ⟨by unfold uJ;rw[zu e,e];rfl,fun h f hs=>A2.rd hs .del⟩ (fun w b=>?_);exact(tk (C:=[BS d ⟨{V0 with kind:=i.kind,a5R:=a.t.a5R},o,r⟩,BS c OY,C2 g x,A4 o a.t.a5R r])).hp b|>.left (A:=[_,_,_,_])
  have e:¬i.kind=6:=zq y.symm;refine C6 ?_;refine f_ ((o_ rfl rfl).eq (v':=.bool V) (qn ((qz).trans z.symm))) ?_;refine p_ ?_
  cases V
  case true=>
   have j:i.kind=7:=qr z.symm;refine O2 ?_;exact g_ (⟨{V0 with kind:=i.kind,n:=a.t.uid},none,0⟩,[]) ⟨by unfold uJ;rw[zk e,zu j,j];rfl,fun h f hs=>o0.nil _ _⟩ (fun w b=>(tk (C:=[BS d ⟨{V0 with kind:=i.kind,n:=a.t.uid},none,0⟩,BS c OY,C2 g x])).hp b|>.left (A:=[_,_,_]))
  have j:¬i.kind=7:=zq z.symm;refine C6 ?_;refine f_ ((o_ rfl rfl).eq (v':=.bool X) (qn ((qz).trans D.symm))) ?_;refine p_ ?_
  cases X
  case true=>
   have k:i.kind=8:=qr D.symm;refine O2 ?_;exact g_ (⟨{V0 with kind:=i.kind,n:=a.t.size},none,0⟩,[]) ⟨by unfold uJ;rw[zk e,zk j,zu k,k];rfl,fun h f hs=>o0.nil _ _⟩ (fun w b=>(tk (C:=[BS d ⟨{V0 with kind:=i.kind,n:=a.t.size},none,0⟩,BS c OY,C2 g x])).hp b|>.left (A:=[_,_,_]))
  have k:¬i.kind=8:=zq D.symm;refine C6 ?_;refine f_ ((o_ rfl rfl).eq (v':=.bool Y) (qn ((qz).trans J.symm))) ?_;refine p_ ?_
  cases Y
  case true=>
   have m:i.kind=9:=qr J.symm;refine O2 ?_;exact g_ (⟨{V0 with kind:=i.kind,n:=a.t.mod},none,0⟩,[]) ⟨by unfold uJ;rw[zk e,zk j,zk k,zu m,m];rfl,fun h f hs=>o0.nil _ _⟩ (fun w b=>(tk (C:=[BS d ⟨{V0 with kind:=i.kind,n:=a.t.mod},none,0⟩,BS c OY,C2 g x])).hp b|>.left (A:=[_,_,_]))
  have m:¬i.kind=9:=zq J.symm;refine E4 ?_;refine c_ (qi g x a.t.hash hl) (fun h l _=>O.le l) ?_;rintro v A ⟨t,ok,rfl,Q,rfl⟩;refine aH ?_;have S:t.length<=1000000000:=by rcases Q with rfl|⟨p,hp,rfl⟩;(simp);exact s p hp
  refine E4 ?_;refine c_ (C:=[]) (pj t i.kind S) (fun h l _=>hg.le l) ?_;rintro v A ⟨⟨u,rfl,hu⟩,rfl⟩;refine y8 ?_;obtain⟨bp,hp⟩:=o7 (i.part);refine p_ ?_;refine r_ ((E9 rfl ud (v:=.bool i.part) (by rfl)).eb hp) ?_;refine u7 ?_
  cases bp
  ·refine u7 ?_;exact g_ (⟨{V0 with kind:=i.kind,text:=u},none,0⟩,[]) ⟨by unfold uJ;rw[zk e,zk j,zk k,zk m];exact⟨u,by omega,by rw[<-hp];rfl⟩,fun h f hs=>o0.nil _ _⟩ (fun w b=>(tk (C:=[BS d ⟨{V0 with kind:=i.kind,text:=u},none,0⟩,BS c OY,C2 g x])).hp b|>.left (A:=[_,_,_]))
  ·refine u7 ?_;refine D9 [1,5,7] [3,8,10,12,14] [.blk g4 (.cells (cX i).toArray 129)] 15 ?_;refine wd [0,1,2,4,5,6,7] ?_;refine h_ 3 rfl i6 ?_;refine r_ (E9 rfl ud (v:=B u) (by rfl)) ?_;refine gn [9] ?_;refine h_ 8 rfl i6 ?_;refine c_ (C:=[]) (yC u i.fr i.count qb) qw ?_;rintro v A ⟨⟨T,rfl,h0⟩,rfl⟩;refine gn [10,11,12,13,14] ?_;exact g_ (⟨{V0 with kind:=i.kind,text:=T,part:=true,fr:=i.fr},none,0⟩,[]) ⟨by unfold uJ;rw[zk e,zk j,zk k,zk m];exact⟨T,by omega,by rw[<-hp];rfl⟩,fun h f hs=>o0.nil _ _⟩ (fun w b=>(tk (C:=[BS d ⟨{V0 with kind:=i.kind,text:=T,part:=true,fr:=i.fr},none,0⟩,BS c OY,C2 g x])).hp b|>.left (A:=[_,_,_]))
 rintro⟨q,Z⟩ ⟨hq,hz⟩;simp only at hq hz;refine L7 ?_;exact G5 rfl rfl ud rfl _ ⟨q,Z,rfl,hq,rfl,hz⟩ (fun w b=>b.drop.drop)
end Go.Proofs.YtmcepdopookilaaGreatDoor.Rp
namespace Go.Sl
open Go Go.RowKit Go.Proofs.YtmcepdopookilaaGreatDoor.Rp Go.Proofs.Tryz
def zP(l:List Bool):List Value:=l.map Value.bool
theorem Nq(l:List Bool):(zP l).length=l.length:=by simp[zP]
abbrev au(a:Option Addr)(n c:Nat)(l:List Bool):As:=.own (.slice a n c) 4 1 (zP l)
section
variable{P:Program}{N:Nat}{K R:y6}{E:List (Nat×y6)}{L:F_}{F:l6}{H:List As}{ops:Array Oper}{rest:List Oper}{ty:TypeId}{pos:String}{af:Array Edge}{dst:Option Nat}{gd:Option (Nat×Bool)}{t:TypeId}{x y:Operand}
theorem Tx{a:Option Addr}{n c:Nat}{l:List Bool}{i:Int}{H':List As}[ha:HA P t false](hl:l.length=n)(u:M2 H (au a n c l) [] H':=by exact ud)(hx:ev L x=some (.pointer (N1 a (i.toNat*1))):=by rfl)(e:0<=i/\i<n:=by omega):dt P ⟨dst,.load t x,ty,pos,af,gd⟩ L F H (.bool (l.getD i.toNat false)):=
 i8 hx fun w d=>iW d u y4 fun j v b=>by
  match j,b with
  |0,b=>
   simp at b;subst b;have h:i.toNat<l.length:=(by omega);rw[Zu,Q3,zP,Zv,zj h];simp[List.getD,h]
theorem nI{a:Option Addr}{n c:Nat}{l:List Bool}{i:Int}{v:Bool}{H':List As}[hs:HS P t 1](hl:l.length=n)(h:GL P N ops rest K E R L F H')(u:M2 H (au a n c l) [au a n c (l.set i.toNat v)] H':=by exact uh)(hx:ev L x=some (.pointer (N1 a (i.toNat*1))):=by rfl)(d:ev L y=some (.bool v):=by rfl)(f:0<=i/\i<n:=by omega):GL P N ops (⟨none,.store t x y,ty,pos,af,none⟩::rest) K E R L F H:=by
 have hp:L5 (zP l) (i.toNat*1) [.bool v]=zP (l.set i.toNat v):=by
  have e:i.toNat<l.length:=by omega
  unfold L5 zP;rw[Zu,Ku,Zc,zu (by simpa using e)];simp
 refine T_ (n:=1) (a:=a) (len:=n) (c:=c) (sz:=1) (xs:=zP l) (te:=4) hx d (H':=H') ?_ rfl qp (fun q b=>by simp[Value.cells] at b;subst b;rfl) (by rw[Nq];omega) h;show M2 H _ [.own (.slice a n c) 4 1 (L5 (zP l) (i.toNat*1) [.bool v])] H';rw[hp];exact u
end
end Go.Sl
namespace Go.Proofs.YtmcepdopookilaaGreatDoor.Rp
open Go Go.Sl Go.RowKit Go.Proofs.Tryz
theorem IE(a:Option Addr)(n c:Nat)(l:List Bool)(f:UInt8)(b:Bs)(k:Int)(hl:l.length=n)(O:n=b.length+1)(Q:b.length<=1000000000)(w:0<=k/\k<=b.length):
  Ct prog 302 [.slice a n c,TY f,B b,.int .i64 k] (fun _=>True) [au a n c l] (fun v A=>v=.tuple #[]/\∃m:List Bool,m.length=n/\A=[au a n c m]):=by
 obtain⟨y,z⟩:=o7 (decide (((f.toNat:Nat):Int)=42));obtain⟨C,D⟩:=o7 (decide (((f.toNat:Nat):Int)=37));refine b_ 52 func302 rfl rfl rfl ?_;intro F _;refine B4 (a:=a) (n:=n) (c:=c) (sz:=1) (xs:=zP l) (te:=4) ud fun _ _ d=>?_;have d:=d qb;refine I8 0 ?_;refine x6 [(0,.slice a n c),(1,TY f),(2,B b),(3,.int .i64 k),(13,.bool (!y&&!C))] [au a n c l] ?_ ?_
 ·cases y
  all_goals (
   refine p_ ?_;refine f_ ((M9 rfl rfl).eq (jw (fun x=>Value.bool (!x)) z.symm)) ?_;refine y8 ?_;(first|refine u_ ?_|(refine v_ ?_;refine f_ ((M9 rfl rfl).eq (jw (fun x=>Value.bool (!x)) D.symm)) ?_));refine p_ ?_)
  all_goals exact p8 sub i_
 refine O1 ?_ ?_<;>intro h
 ·refine I8 0 ?_;refine n7 (ι:=Bool) (fun q=>q=true->k<b.length) (fun q=>[(0,.slice a n c),(3,.int .i64 k),(24,.bool q)]) (fun _=>[au a n c l]) ?_ ?_
  ·obtain⟨r,g⟩:=o7 (decide (k<(b.length:Nat)))
   cases r
   all_goals try have o:=qr g.symm
   all_goals (
    refine E4 ?_;refine f_ ((E6 rfl rfl).eb g) ?_;refine wk 7 ?_)
   all_goals first|exact g_ _ (fun _=>qr g.symm) i_|exact g_ false (fun e=>by cases e) i_
  intro q s;refine O1 ?_ ?_<;>intro h
  ·have o:=s h;refine y8 ?_;refine f_ (p9 rfl rfl qb) ?_;refine f_ (m8 rfl d rfl qb) ?_;refine nI hl ?_;refine oz ?_;exact l_ rfl _ ⟨rfl,_,by rw[js];exact hl,rfl⟩ i_
  ·refine oz ?_;exact l_ rfl _ ⟨rfl,l,hl,rfl⟩ i_
 refine y8 ?_;refine f_ (m8 rfl d rfl qb) ?_;refine nI hl ?_;refine I8 0 ?_;refine n7 (ι:=List Bool) (fun m=>m.length=n) (fun _=>[]) (fun m=>[au a n c m]) ?_ ?_
 ·refine n9 ?_;refine o9 (ι:=Int×List Bool) (fun i=>0<=i.1/\i.1<=b.length/\i.2.length=n) (fun i=>[(0,.slice a n c),(1,TY f),(2,B b),(3,.int .i64 i.1)]) (fun i=>[au a n c i.2]) (fun i=>(b.length-i.1).toNat) (k,_) ⟨w.1,w.2,by rw[js];exact hl⟩ sub i_ ?_;rintro⟨j,m⟩ ⟨t,u,p⟩;simp only at t u p;refine I8 0 ?_;refine n7 (ι:=Bool) (fun q=>q=true->j<b.length) (fun q=>[(0,.slice a n c),(1,TY f),(2,B b),(3,.int .i64 j),(45,.bool q)]) (fun _=>[au a n c m]) ?_ ?_
  ·obtain⟨r,g⟩:=o7 (decide (j<(b.length:Nat)));obtain⟨J,M⟩:=o7 (decide (((f.toNat:Nat):Int)=42))
   cases r<;>cases J
   all_goals try have o:=qr g.symm
   all_goals (
    refine E4 ?_;refine f_ ((E6 rfl rfl).eb g) ?_;refine y8 ?_;(first|refine u_ ?_|(refine v_ ?_;refine f_ ((o_ rfl rfl).eb M) ?_));refine wk 7 ?_)
   all_goals first|exact g_ _ (fun _=>qr g.symm) i_|exact g_ false (fun e=>by cases e) i_
  intro q s;refine O1 ?_ ?_<;>intro h
  ·have o:=s h;refine y8 ?_;refine f_ (p9 rfl rfl qb) ?_;refine f_ (m8 rfl d rfl qb) ?_;refine nI p ?_;refine E4 ?_;exact l8 (i:=(j,m)) (j+1,_) ⟨by simp only;omega,by simp only;omega,by rw[js];exact p⟩ qg sub i_
  ·refine u7 ?_;exact g_ m p i_
 intro m p;refine u7 ?_;exact l_ rfl _ ⟨rfl,m,p,rfl⟩ i_
theorem BT(n:Nat):zP (List.replicate n false)=List.replicate n (Value.bool false):=by simp[zP]
theorem nJ(d b:Bs)(hp:d.length<=2000000000)(Q:b.length<=1000000):Ct prog 233 [B d,B b] (fun _=>True) [] TZ:=by
 obtain⟨n,u⟩:=o7 (b.length+1);refine b_ 48 func233 rfl rfl rfl ?_;intro F _;refine E4 ?_;refine f_ ((p9 rfl rfl qb).eq (v':=.int .i64 ((n:Nat):Int)) (by congr 1;omega)) ?_;refine nT rfl rfl rfl qb (by show(1:Int)*_<=_;omega) rfl ?_;intro s;rw[jh,<-BT];refine p_ ?_;refine B4 (a:=s) (n:=n) (c:=n) (sz:=1) (xs:=zP (List.replicate n false)) (te:=4) ud fun _ _ f=>?_;have f:=f qb;refine p_ ?_;refine f_ (m8 rfl f rfl qb) ?_;refine nI (i:=0) (l:=List.replicate n false) Ky ?_;refine u7 ?_;refine I8 3 ?_;refine n7 (ι:=Option Addr×List Bool) (fun q=>q.2.length=n) (fun q=>[(1,B b),(5,.slice q.1 n n)]) (fun q=>[au q.1 n n q.2]) ?_ ?_
 ·refine n9 ?_;refine o9 (ι:=Nat×Option Addr×List Bool) (fun i=>i.1<=d.length/\i.2.2.length=n) (fun i=>[(0,B d),(1,B b),(17,.int .i64 (d.length:Nat)),(18,.int .i64 (i.1:Nat)),(5,.slice i.2.1 n n)]) (fun i=>[au i.2.1 n n i.2.2]) (fun i=>d.length-i.1) (0,s,_) ⟨zw _,by simp⟩ sub i_ ?_;rintro⟨j,a5,g⟩ ⟨J,o⟩;simp only at J o;refine R6 ?_ ?_<;>intro h
  ·have x:j<d.length:=(by have:=qr h;omega);refine I8 0 ?_;refine n7 (ι:=Option Addr×List Bool) (fun q=>q.2.length=n) (fun q=>[(0,B d),(1,B b),(17,.int .i64 (d.length:Nat)),(18,.int .i64 (j:Nat)),(5,.slice q.1 n n)]) (fun q=>[au q.1 n n q.2]) ?_ ?_
   ·refine n9 ?_;refine O2 ?_;refine f_ ((p9 rfl rfl qb).eq (v':=.int .i64 ((n:Nat):Int)) (by congr 1;omega)) ?_;refine nT rfl rfl rfl qb (by show(1:Int)*_<=_;omega) rfl ?_;intro e;rw[jh,<-BT];refine p_ ?_;refine I8 3 ?_;refine n7 (ι:=List Bool) (fun m=>m.length=n) (fun m=>[(0,B d),(1,B b),(17,.int .i64 (d.length:Nat)),(18,.int .i64 (j:Nat)),(7,.slice e n n)]) (fun m=>[au e n n m]) ?_ ?_
    ·refine n9 ?_;refine o9 (ι:=Nat×List Bool) (fun i=>i.1<=n/\i.2.length=n) (fun i=>[(0,B d),(1,B b),(6,.int .i64 (j:Nat)),(17,.int .i64 (d.length:Nat)),(18,.int .i64 (j:Nat)),(7,.slice e n n),(25,.slice a5 n n),(26,.int .i64 (n:Nat)),(27,.int .i64 (i.1:Nat))]) (fun i=>[au e n n i.2,au a5 n n g]) (fun i=>n-i.1) (0,_) ⟨zw _,by simp⟩ sub i_ ?_;rintro⟨q,m⟩ ⟨M,r⟩;simp only at M r;refine R6 ?_ ?_<;>intro h
     ·have y:q<n:=(by have:=qr h;omega);refine B4 (a:=a5) (n:=n) (c:=n) (sz:=1) (xs:=zP g) (te:=4) ud fun _ _ k=>?_;have k:=k qb;refine I8 0 ?_;refine n7 (ι:=List Bool) (fun m=>m.length=n) (fun m=>[(0,B d),(1,B b),(6,.int .i64 (j:Nat)),(17,.int .i64 (d.length:Nat)),(18,.int .i64 (j:Nat)),(7,.slice e n n),(25,.slice a5 n n),(26,.int .i64 (n:Nat)),(27,.int .i64 (q:Nat))]) (fun m=>[au e n n m,au a5 n n g]) ?_ ?_
      ·refine n9 ?_;refine p_ ?_;refine f_ (m8 rfl k rfl qb) ?_;refine r_ (Tx (i:=(q:Nat)) o) ?_;refine eJ ?_ ?_<;>intro h
       ·refine cQ ?_;refine c_ (IE e n n m (d.getD j 0) b (q:Nat) r u qb qb) qw ?_;rintro v A ⟨rfl,z,p,rfl⟩;refine u7 ?_;exact g_ z p i_
       ·refine u7 ?_;exact g_ m r i_
      intro z p;refine y8 ?_;exact l8 (i:=(q,m)) (q+1,z) ⟨y,p⟩ qg sub i_
     ·refine u7 ?_;exact g_ m r (fun w C=>x7.left tk C)
    intro m r;refine y8 ?_;exact g_ (e,m) r i_
   rintro⟨O,D⟩ t;simp only at t;refine y8 ?_;exact l8 (i:=(j,a5,g)) (j+1,O,D) ⟨x,t⟩ qg sub i_
  ·refine u7 ?_;exact g_ (a5,g) o i_
 rintro⟨a5,g⟩ o;simp only at o;refine u7 ?_;refine B4 (a:=a5) (n:=n) (c:=n) (sz:=1) (xs:=zP g) (te:=4) ud fun _ _ k=>?_;have k:=k qb;refine E4 ?_;refine f_ (m8 rfl k rfl qb) ?_;refine r_ (Tx (i:=(b.length:Nat)) o) ?_;refine C8 ?_;exact d_ rfl rfl [] ⟨⟨_,rfl⟩,rfl⟩ (fun w C=>C.drop)
structure rx(x:AN):Prop where
 ls:x.bx.ls.length<=1000
 fl:∀lm∈x.bx.ls,lm.t.a5R.length<=1000
 bl:x.bl.length<=1000
 body:∀p∈x.bl,p.2.length<=1000000
 c:tM x.c
theorem zQ(m:KM):Pu prog 303 [Ta m] (fun _=>True) (.bool (decide (m.k.kind=10))):=by
 refine b_ 6 func303 rfl rfl rfl ?_;intro F _;refine C6 ?_;refine m9 rfl rfl ?_;intro b;refine E4 ?_;refine f_ ((o_ rfl rfl).eq (v':=.bool (decide (m.k.kind=10))) (qn qz)) ?_;refine C8 ?_;exact d_ rfl rfl [] qh (fun w a=>a.dropAll)
abbrev BU(nums:List Nat)(m:Nat):RR:={R0 with kind:=13,nums:=nums,mod:=m}
abbrev xQ(g:Nat)(r:RR)(z:RL):As:=.blk g (.cells (tD r z).toArray 51)
theorem Qf{x:AN}{a:LM}{ok:Bool}{u:Nat}(hx:rx x)(h:Qe x u a ok):a.t.a5R.length<=1000:=by
 cases ok
 ·rw[h.2 rfl];simp
 ·exact hx.fl _ (h.1 rfl).1
theorem Qi{x:AN}{a:LM}{ok:Bool}{u:Nat}{hp:l9}(hx:cI x hp)(h:Qe x u a ok):o0 hp a.a (fV a.t.a5R):=by
 cases ok
 ·rw[h.2 rfl];exact o0.nil _ _
 ·exact hx.bx.fl _ (h.1 rfl).1
theorem EB(g:Nat)(x:AN)(s:SE)(sl:SL)(d:DD)(y:DL)(hx:rx x)(hv:s.a5G.a5F.length<=100000)(hl:y.rl.length<=100000):
  Cm prog 235 [m6 g] (cI x) (C2 g x::l5 sl.ra s.a5G.a5F sl.rc::O3 x.b s sl d y) (fun h v A=>v=.tuple #[]/\∃nums m z a c,nums.length<=s.a5G.a5F.length/\fE (BU nums m) z h/\yT z/\A=C2 g x::l5 sl.ra s.a5G.a5F sl.rc::O3 x.b s sl d (E_ y (BU nums m,z) a c)):=by
 have h3:=hx.c;have q7:=hx.ls;have q8:=hx.bl;refine x8 133 func235 rfl rfl rfl ?_;rintro F R Q;obtain⟨kl,h4,h5,h9⟩:=Q.c.keys;have h6:=de h4;have q6:=h3.keys;have f:=cj bD an kl x.k.ka x.k.kc 303 [] (fun _=>True) (fun m=>decide (m.k.kind=10)) (fun m _=>zQ m) qb;rw[h6] at f;have k0:∀m∈kl,EX m.k:=fun m hm=>h3.ksets _ (by rw[<-h4];exact Zk hm);have r:=fun(u:LM) (p:PL) (t:Bs) (h1:u.t.a5R.length<=1000000) (h2:t.length<=1000000000)=>HW x.k.ka x.k.kc kl u p t qb k0 h1 h2;simp only[h6] at r;obtain⟨bm,k8⟩:=o7 (kl.any fun m=>decide (m.k.kind=10));rw[<-k8] at f;refine C6 ?_;refine f_ (y7 (ps:=[(0,.const (.int .i64 13))]) (vs:=[(0,.int .i64 13)]) (cells:=(tD (BU [] 0) L0).toArray) rfl i6) ?_;refine i7 rfl ?_;intro D;refine cQ ?_;refine e_ rfl f (fun h V _=>⟨h5.le V,trivial⟩) rfl ?_;refine wk 11 ?_;refine f_ ((y9 rfl qb).eq (v':=.int .u64 (s.a5G.a5F.length:Nat)) rfl) ?_;refine f_ (y7 (ps:=[(1,.tmp 30)]) (vs:=[(1,.int .u64 (s.a5G.a5F.length:Nat))]) (cells:=(HR ⟨0,s.a5G.a5F.length,0⟩).toArray) rfl i6) ?_;refine i7 rfl ?_;intro O;refine p_ ?_;refine I8 11 ?_;refine B4 (a:=sl.ra) (n:=s.a5G.a5F.length) (c:=sl.rc) (sz:=2) (xs:=V7 s.a5G.a5F) (te:=72) ud fun _ _ S=>?_;refine n7 (ι:=Nat) (fun _=>True) (fun k=>[(0,m6 g),(2,m6 D),(3,.bool bm),(4,m6 O)]) (fun k=>.blk O (.cells (HR ⟨0,s.a5G.a5F.length,k⟩).toArray 333)::xQ D (BU [] 0) L0::C2 g x::l5 sl.ra s.a5G.a5F sl.rc::E8 x.b s sl d y::r8 y.da y.rl y.dc::R) ?_ ?_
 ·refine n9 ?_;refine o9 (ι:=Nat×Nat) (fun i=>i.1<=s.a5G.a5F.length) (fun i=>[(0,m6 g),(2,m6 D),(3,.bool bm),(4,m6 O),(40,.slice sl.ra s.a5G.a5F.length sl.rc),(41,.int .i64 (s.a5G.a5F.length:Nat)),(42,.int .i64 (i.1:Nat))]) (fun i=>.blk O (.cells (HR ⟨0,s.a5G.a5F.length,i.2⟩).toArray 333)::xQ D (BU [] 0) L0::C2 g x::l5 sl.ra s.a5G.a5F sl.rc::E8 x.b s sl d y::r8 y.da y.rl y.dc::R) (fun i=>s.a5G.a5F.length-i.1) (0,0) (zw _) sub i_ ?_;rintro⟨j,k⟩ hj;simp only at hj;refine R6 ?_ ?_<;>intro h
  ·have T:j<s.a5G.a5F.length:=(by have:=qr h;omega);have X:=S qb;refine C6 ?_;refine f_ (m8 rfl X rfl qb) ?_;refine r_ (w8 rfl (fun w b=>fq (C:=iA) (b.ownN (t:=72) ud).2.2.1 D0 qp T y4) (D0 _)) ?_;refine i7 rfl ?_;intro g6;refine aH ?_;refine f_ ((nS rfl rfl).eq (v':=.int .u64 ((max k s.a5G.a5F[j].1:Nat):Int)) (by show Value.int .u64 (max ((k:Nat):Int) ((s.a5G.a5F[j].1:Nat):Int))=_;congr 1;omega)) ?_;refine O2 ?_;exact l8 (i:=(j,k)) (j+1,max k s.a5G.a5F[j].1) T qg sub (fun w b=>b.drop)
  ·refine u7 ?_;exact g_ k trivial i_
 intro k _;refine I8 11 ?_;refine lx (fun(nums:List Nat) (m:Nat) (o:AC) (M:Nat)=>nums.length<=s.a5G.a5F.length) (fun _ _ _ _=>[(0,m6 g),(2,m6 D)]) (fun nums m o M=>xQ D (BU nums m) ⟨o.1,o.2,none,0,none,0,[]⟩::U2 o.1 nums o.2::C2 g x::l5 sl.ra s.a5G.a5F sl.rc::E8 x.b s sl d y::r8 y.da y.rl y.dc::R) ?_ ?_
 ·refine n9 ?_;refine gC (fun(j:Nat) (nums:List Nat) (m:Nat) (o:AC) (M:Nat) (_:Unit)=>j<=s.a5G.a5F.length/\nums.length<=j) (fun j nums m o M _=>[(0,m6 g),(2,m6 D),(3,.bool bm),(4,m6 O),(61,.slice sl.ra s.a5G.a5F.length sl.rc),(62,.int .i64 (s.a5G.a5F.length:Nat)),(63,.int .i64 (j:Nat))]) (fun j nums m o M (_:Unit)=>xQ D (BU nums m) ⟨o.1,o.2,none,0,none,0,[]⟩::U2 o.1 nums o.2::.blk O (.cells (HR ⟨M,s.a5G.a5F.length,k⟩).toArray 333)::C2 g x::l5 sl.ra s.a5G.a5F sl.rc::E8 x.b s sl d y::r8 y.da y.rl y.dc::R) (fun j nums m o M _=>s.a5G.a5F.length-j) 0 [] 0 (none,0) 0 () ⟨zw _,zr _⟩ sub (fun w b=>(b.addNil 27 1).perm (List.Perm.trans (.cons _ (.swap _ _ _)) (.swap _ _ _))) ?_;rintro j nums m o M _ ⟨hj,h7⟩;refine R6 ?_ ?_<;>intro h
  ·have T:j<s.a5G.a5F.length:=(by have:=qr h;omega);have X:=S qb;refine I8 0 ?_;refine lx (fun(nums:List Nat) (m:Nat) (o:AC) (M:Nat)=>nums.length<=j+1) (fun _ _ _ _=>[(0,m6 g),(2,m6 D),(3,.bool bm),(4,m6 O),(61,.slice sl.ra s.a5G.a5F.length sl.rc),(62,.int .i64 (s.a5G.a5F.length:Nat)),(63,.int .i64 (j:Nat))]) (fun nums m o M=>xQ D (BU nums m) ⟨o.1,o.2,none,0,none,0,[]⟩::U2 o.1 nums o.2::.blk O (.cells (HR ⟨M,s.a5G.a5F.length,k⟩).toArray 333)::C2 g x::l5 sl.ra s.a5G.a5F sl.rc::E8 x.b s sl d y::r8 y.da y.rl y.dc::R) ?_ ?_
   ·refine n9 ?_;refine p_ ?_;refine f_ (m8 rfl X rfl qb) ?_;refine r_ (w8 rfl (fun w b=>fq (C:=iA) (b.ownN (t:=72) ud).2.2.1 D0 qp T y4) (D0 _)) ?_;refine i7 rfl ?_;intro g8;refine E4 ?_;refine f_ ((p9 rfl rfl qb).eq (v':=.int .i64 ((j+1:Nat):Int)) (by congr 1)) ?_;refine f_ ((y9 rfl qb).eq (v':=.int .u64 ((j+1:Nat):Int)) rfl) ?_;refine aH ?_;refine c_ (eV g x s.a5G.a5F[j].1 qb) (fun h V _=>Q.bx.ls.le V) ?_;rintro v A ⟨u,ok,rfl,h8,rfl⟩;refine E4 ?_;refine i7 rfl ?_;intro g9;refine y8 ?_;have q9:=Qf hx h8;have k9:=Qi Q h8;refine E4 ?_;refine c_ (qi g x u.t.hash qb) (fun h V _=>Q.bl.le V) ?_;rintro v A ⟨t,x0,rfl,q0,rfl⟩;refine aH ?_;have q1:t.length<=1000000000:=by rcases q0 with rfl|⟨p,hp,rfl⟩;(simp);have:=hx.body p hp;omega
    cases ok
    ·refine u7 ?_;refine D9 [7,8,9] [] [C2 g x,.blk g9 (.cells (S9 u).toArray 156),.blk O (.cells (HR ⟨j+1,s.a5G.a5F.length,k⟩).toArray 333)] 14 ?_;refine wd [0,1,2,3,4,5,6,7,8,9,10] ?_;refine h_ 11 rfl i6 ?_;(first|refine u_ ?_|(refine v_ ?_;fail));refine E5 [12,13] ?_;exact g_ (nums,m,o,j+1) qg (fun w b=>C1 (A:=[_,_,_,C2 g x,l5 sl.ra s.a5G.a5F sl.rc,E8 x.b s sl d y,r8 y.da y.rl y.dc]) (J:=[_,_]) tk b)
    refine u7 ?_;refine D9 [7,8,9] [] [C2 g x,.blk g9 (.cells (S9 u).toArray 156),.blk O (.cells (HR ⟨j+1,s.a5G.a5F.length,k⟩).toArray 333)] 14 ?_;refine wd [0,1,2,3,4,5,6,7,8,9,10] ?_;refine h_ 11 rfl i6 ?_;(first|refine u_ ?_|(refine v_ ?_;refine c_ (C:=[]) (r u ⟨j+1,s.a5G.a5F.length,k⟩ t qb q1) (fun h V _=>⟨Q.g.le V,h5.le V,fun m hm=>(h9 m hm).le V,k9.le V⟩) ?_;rintro v A ⟨⟨q,rfl⟩,rfl⟩));refine E5 [12,13] ?_;refine o8 rfl ?_ ?_<;>intro h
    ·refine u7 ?_;exact g_ (nums,m,o,j+1) qg (fun w b=>C1 (A:=[_,_,_,C2 g x,l5 sl.ra s.a5G.a5F sl.rc,E8 x.b s sl d y,r8 y.da y.rl y.dc]) (J:=[_,_]) tk b)
    refine aH ?_;refine n7 (ι:=List Nat×AC) (fun q=>q.1.length<=j+1) (fun q=>[(0,m6 g),(2,m6 D),(3,.bool bm),(4,m6 O),(9,m6 g9),(61,.slice sl.ra s.a5G.a5F.length sl.rc),(62,.int .i64 (s.a5G.a5F.length:Nat)),(63,.int .i64 (j:Nat))]) (fun q=>xQ D (BU q.1 m) ⟨q.2.1,q.2.2,none,0,none,0,[]⟩::U2 q.2.1 q.1 q.2.2::.blk g9 (.cells (S9 u).toArray 156)::.blk O (.cells (HR ⟨j+1,s.a5G.a5F.length,k⟩).toArray 333)::C2 g x::l5 sl.ra s.a5G.a5F sl.rc::E8 x.b s sl d y::r8 y.da y.rl y.dc::R) ?_ ?_
    ·refine o8 rfl ?_ ?_<;>intro h
     ·refine O2 ?_;refine gB (n:=u.t.uid) ?_;intro q2;refine jW (l:=nums) (m:=[u.t.uid]) (by show(nums.length+1)*8<=_;omega) ?_;intro Y h0;refine y8 ?_;exact g_ (nums++[u.t.uid],Y,h0) (by rw[zz];simp only[zy,z6];omega) (fun w b=>C1 (A:=[_,_,_,_,C2 g x,l5 sl.ra s.a5G.a5F sl.rc,E8 x.b s sl d y,r8 y.da y.rl y.dc]) (J:=[_,_]) tk b)
     ·refine O2 ?_;refine gB (n:=j+1) ?_;intro q2;refine jW (l:=nums) (m:=[j+1]) (by show(nums.length+1)*8<=_;omega) ?_;intro Y h0;refine y8 ?_;exact g_ (nums++[j+1],Y,h0) (by rw[zz];simp only[zy,z6];omega) (fun w b=>C1 (A:=[_,_,_,_,C2 g x,l5 sl.ra s.a5G.a5F sl.rc,E8 x.b s sl d y,r8 y.da y.rl y.dc]) (J:=[_,_]) tk b)
    rintro⟨e,o2⟩ U;simp only at U;refine R6 ?_ ?_<;>intro h
    ·refine O2 ?_;refine f_ ((nS rfl rfl).eq (v':=.int .u64 ((max m u.t.mod:Nat):Int)) (by show Value.int .u64 (max ((m:Nat):Int) ((u.t.mod:Nat):Int))=_;congr 1;omega)) ?_;refine y8 ?_;exact g_ (e,max m u.t.mod,o2,j+1) U (fun w b=>C1 (A:=[_,_,_,C2 g x,l5 sl.ra s.a5G.a5F sl.rc,E8 x.b s sl d y,r8 y.da y.rl y.dc]) (J:=[_]) tk b)
    ·refine u7 ?_;exact g_ (e,m,o2,j+1) U (fun w b=>C1 (A:=[_,_,_,C2 g x,l5 sl.ra s.a5G.a5F sl.rc,E8 x.b s sl d y,r8 y.da y.rl y.dc]) (J:=[_]) tk b)
   intro e m2 o2 q3 U;refine y8 ?_;exact l8 (i:=(j,nums,m,o,M,())) (j+1,e,m2,o2,q3,()) ⟨T,U⟩ qg sub i_
  ·refine u7 ?_;exact g_ (nums,m,o,M) qg (fun w b=>C1 (A:=[_,_]) (J:=[_]) tk b)
 intro nums m o M h7;refine u7 ?_;refine B8 (Z:=[U2 o.1 nums o.2]) tk fun F1 q4 ⟨bs,hb⟩=>?_;have q5:o0 F1.heap o.1 (nV nums):=A2.rd hb ud;clear hb;refine u7 ?_;refine D9 [3,4] [5] [C2 g x,xQ D (BU nums m) ⟨o.1,o.2,none,0,none,0,[]⟩] 6 ?_;refine wd [0,1,2,3,4] ?_;refine h_ 5 rfl i6 ?_;refine c_ (V4 x.b s sl d y (BU nums m) ⟨o.1,o.2,none,0,none,0,[]⟩ qb) qw ?_;rintro v A ⟨rfl,a,c,rfl⟩;refine E5 [] ?_;refine G_ (A:=C2 g x::l5 sl.ra s.a5G.a5F sl.rc::O3 x.b s sl d (E_ y (BU nums m,⟨o.1,o.2,none,0,none,0,[]⟩) a c)) (v:=.tuple #[]) q4 ⟨rfl,nums,m,_,a,c,h7,⟨rfl,q5,o0.nil _ _,o0.nil _ _,qy⟩,qh,rfl⟩ ?_;exact l_ rfl _ qh (fun w b=>C1 (A:=[_,_,_,_]) (J:=[_]) tk b)
