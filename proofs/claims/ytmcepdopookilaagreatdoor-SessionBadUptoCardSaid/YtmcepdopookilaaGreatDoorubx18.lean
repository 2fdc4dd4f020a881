import Derived.Test.YtmcepdopookilaaGreatDoorubx17
set_option maxHeartbeats 16000000
set_option maxRecDepth 8000
set_option linter.unusedVariables false
set_option linter.unusedSimpArgs false
set_option linter.defProp false
namespace Go.Proofs.YtmcepdopookilaaGreatDoor.Rp
open Go Go.Sl Go.RowKit Go.Proofs.Tryz
theorem Im(g:Nat)(r:RQ)(q:QL)(x:SX):Pu prog 105 [.agg (nq x).toArray,l9 g] (fun h=>h g=some (.cells (eE r q).toArray 44 (0,0))) (.bool (decide (x.node=r.node))):=by
 refine b_ 9 func105 rfl rfl rfl ?_;intro F hf;refine C7 ?_;refine m8 rfl rfl ?_;intro b;refine KR ?_;exact d_ rfl rfl [] qh (fun w a=>a.dropAll)
theorem Tr{F:l8}{w:World}{x k s u v:As}{T E:List As}(h:Hp F w (x::k::s::u::v::(T++E))):Hp F w (s::k::u::v::(T++([]++E))):=(h.drop.perm (.swap _ _ _))
theorem Ts{F:l8}{w:World}{x y k s u v:As}{T E:List As}(h:Hp F w (x::y::k::s::u::v::(T++E))):Hp F w (x::k::u::v::(T++([s]++E))):=by
 have a:Hp F w (x::k::s::u::v::(T++E)):=(h.perm (.swap _ _ _)).drop;have b:Hp F w ([x,k]++(s::([u,v]++T)++E)):=a;have c:Hp F w ([x,k]++(([u,v]++T)++([s]++E))):=b.perm (Z0 _ (Qd (l₁:=[u,v]++T) (l₂:=E)).symm);exact c.perm x4
theorem Tt{F:l8}{w:World}{k s u v:As}{T E:List As}(h:Hp F w (k::u::v::(T++([s]++E)))):Hp F w (k::(s::u::v::T++E)):=by
 have a:Hp F w (([k,u,v]++T)++s::E):=by simpa using h
 have b:Hp F w (s::(([k,u,v]++T)++E)):=a.perm Qd;exact b.perm (.swap _ _ _)
abbrev BH(m:MM)(r:RQ)(sl:List SX)(a:Option Addr)(c:Nat):MM:={m with a5L:=sl++[⟨m.nses,0,r.node,r.life,r.tr⟩],nses:=m.nses+1,sa:=a,sc:=c}
theorem wY{F:l8}{w:World}:∀{E T:List As},Hp F w (E++T)->Hp F w T
 |[],_,h=>h
 |_::_,_,h=>wY (Hp.drop h)
theorem Oo{F:l8}{w:World}{k s u v x:As}{T E R:List As}(h:Hp F w (k::v::x::s::u::(T++(E++R)))):Hp F w (k::(s::v::u::T++R)):=by
 have a:Hp F w (x::s::k::v::u::(T++(E++R))):=h.perm (kz (l₁:=[k,v]) (l₂:=[x,s])|>.append_right _);have b:Hp F w (([s,k,v,u]++T)++(E++R)):=by simpa using a.drop
 have c:Hp F w (E++(([s,k,v,u]++T)++R)):=b.perm (by rw[<-zm,<-zm];exact kz.append_right R);have d:Hp F w (s::k::v::u::(T++R)):=by simpa using wY c
 exact d.perm (.swap _ _ _)
theorem Ng(b:Nat)(m:MM)(r:RQ)(q:QL)(hm:m.a5K.length<=8)(x0:m.a5L.length<=1000)(hs:m.a5K.Pairwise fun x y=>x.node<y.node)(hr:∀x∈m.a5K,0<=x.node/\x.node<=100)(hn:m.nses<=D9):HB 56 b m r q (lX m.s r):=by
 refine y5 160 func56 rfl rfl rfl ?_;rintro F R ⟨k0,x1⟩;refine r7 ?_;refine ap ?_;intro O;refine r7 ?_;refine B9 (Z:=[.blk O (.cells (eE r q).toArray 44)]) tk fun F1 p Q=>?_;have p3:F1.heap O=some (.cells (eE r q).toArray 44 (0,0)):=J_ Q;clear Q;obtain⟨q1,h1⟩:=o8 (decide (r.node<1));obtain⟨q2,h2⟩:=o8 (decide (5<r.node));obtain⟨q3,h3⟩:=o8 (decide (r.life=0));obtain⟨q4,h4⟩:=o8 (decide (r.tr=0));have d:∀x∈m.a5J,iC x.ls F1.heap:=fun x hx=>Mn.le p.heap (k0 x hx);refine x8 [(0,l9 b),(3,l9 O),(29,.bool (q1||(q2||(q3||q4))))] (R_ b m r q B_ M9::(uO m++R)) ?_ ?_
 ·cases q1<;>cases q2<;>cases q3
  all_goals (
   refine A1 ?_;refine f_ ((F6 rfl rfl).eb h1) ?_;refine E7 ?_;(first|refine u_ ?_|(refine v_ ?_;refine f_ ((E2 rfl rfl).eb h2) ?_));refine O3 ?_;(first|refine u_ ?_|(refine v_ ?_;refine f_ ((p7 rfl rfl).eq (qn ((qz).trans h3.symm))) ?_));refine O3 ?_;(first|refine u_ ?_|(refine v_ ?_;refine f_ ((p7 rfl rfl).eq (qn ((qz).trans h4.symm))) ?_));refine r7 ?_)
  all_goals exact p9 sub i_
 refine w8 ?_;have hq:(q1||(q2||(q3||q4)))=true↔(r.node<1\/5<r.node\/r.life=0\/r.tr=0):=by
  rw[h1,h2,h3,h4];simp
 refine o9 rfl ?_ ?_<;>intro h
 ·have es:lX m.s r=(m.s,B_,1):=by unfold lX;rw[zg (hq.1 h)]
  rw[es];refine C5 ?_;exact C_ m B_ M9 rfl rfl p i_ rfl qx d (L_.zero _)
 have hc:¬(r.node<1\/5<r.node\/r.life=0\/r.tr=0):=fun k=>by rw[hq.2 k] at h;cases h
 refine C7 ?_;refine i7 rfl ?_;intro g4;refine w8 ?_;refine D2 [3,5] [6] [R_ b m r q B_ M9] 8 ?_;refine wd [0,1,2,3,4,5] ?_;refine h_ 6 rfl i6 ?_;refine c_ rfl (Lh m r.node qb) (fun h hh ⟨bs,Q⟩=>A3.rd Q ud) rfl ?_;refine E6 [7] ?_;obtain⟨u,o⟩:=o8 (((gV m.s r.node).map fun i=>m.a5K.getD i NY).getD NY);have es:lX m.s r=if r.life<u.life then((m.s,B_,14):AR) else if u.life=r.life/\r.tr<=u.tr then(match gu m.s r.node r.tr with
   |none=>(m.s,B_,14)
   |some i=>(m.s,{B_ with ses:=(m.a5L.getD i ⟨0,0,0,0,0⟩).ses},0)) else if 16<=(if u.life<r.life then m.a5L.filter fun x=>!decide (x.node=r.node) else m.a5L).length\/CW<=m.nses then(m.s,B_,7) else(ng {m.s with a5L:=(if u.life<r.life then m.a5L.filter fun x=>!decide (x.node=r.node) else m.a5L)++[⟨m.nses,0,r.node,r.life,r.tr⟩],nses:=m.nses+1} (gV m.s r.node) ⟨r.node,r.life,r.tr⟩,{B_ with ses:=m.nses},0):=by
  unfold lX;rw[zk hc,o];rfl
 rw[es];clear es;refine A1 ?_;refine x8 [(0,l9 b),(3,l9 O),(4,l9 g4),(5,.int .i64 (D3 (fun x=>decide (x.node=r.node)) m.a5K))] (.blk g4 (.cells (gw u).toArray 104)::R_ b m r q B_ M9::(uO m++R)) ?_ ?_
 ·refine o9 rfl ?_ ?_<;>intro h
  ·have V:¬D3 (fun x:HO=>decide (x.node=r.node)) m.a5K<0:=(by have:=qr h;omega);obtain⟨i,hi,s,ha⟩:=sL V;rw[ha] at o;replace o:u=m.a5K[i]:=(by rw[o];show m.a5K.getD i NY=_;rw[zd,zj s];rfl);subst o;refine B5 (a:=m.ha) (n:=m.a5K.length) (c:=m.hc) (sz:=3) (xs:=JX m.a5K) (te:=104) ud fun _ _ f=>?_;have f:=f qb;rw[hi];refine wk 7 ?_;refine r_ (p8 rfl (fun w g=>cQ (g.ownN (t:=104) ud).2.2.1 O6 qp s x4) (O6 _)) ?_;refine r7 ?_;exact p9 sub i_
  ·have V:D3 (fun x:HO=>decide (x.node=r.node)) m.a5K<0:=(by have:=zq h;omega);rw[sK V] at o;replace o:u=NY:=o;subst o;refine w8 ?_;exact p9 sub i_
 refine w8 ?_;obtain⟨q5,S⟩:=o8 (decide (r.life<u.life));refine O3 ?_;refine f_ ((E2 rfl rfl).eq (v':=.bool q5) (qn ((qz).trans S.symm))) ?_;refine w8 ?_
 cases q5
 case true=>
  rw[zg (qr S.symm)];refine C5 ?_;exact C_ m B_ M9 rfl rfl p (fun w g=>g.drop) rfl qx d (L_.zero _)
 rw[zk (zq S.symm)];obtain⟨q6,h6⟩:=o8 (decide (u.life=r.life));obtain⟨q7,h7⟩:=o8 (decide (r.tr<=u.tr));refine w8 ?_;refine x8 [(0,l9 b),(3,l9 O),(4,l9 g4),(5,.int .i64 (D3 (fun x=>decide (x.node=r.node)) m.a5K)),(63,.bool (q6&&q7))] (.blk g4 (.cells (gw u).toArray 104)::R_ b m r q B_ M9::(uO m++R)) ?_ ?_
 ·cases q6
  all_goals (
   refine O3 ?_;refine f_ ((p7 rfl rfl).eq (qn ((qz).trans h6.symm))) ?_;refine ap ?_;(first|refine u_ ?_|(refine v_ ?_;refine f_ ((I5 rfl rfl).eq (qn ((qz).trans h7.symm))) ?_));refine r7 ?_)
  all_goals exact p9 sub i_
 refine O0 ?_ ?_<;>intro h
 ·rw[zg (by rw[ky,h6,h7] at h;exact⟨qr h.1,qr h.2⟩)];refine w8 ?_;refine D2 [3,5,7] [8] [R_ b m r q B_ M9] 10 ?_;refine wd [0,1,2,3,4,5,6,7] ?_;refine h_ 8 rfl i6 ?_;refine c_ rfl (CZ m r.node r.tr qb) (fun h hh ⟨bs,Q⟩=>A3.rd Q ud) rfl ?_;refine E6 [9] ?_;refine bA ?_ ?_<;>intro h
  ·rw[wW (qr h)];refine C5 ?_;exact C_ m B_ M9 rfl rfl p (fun w g=>g.drop) rfl qx d (L_.zero _)
  obtain⟨i,hi,s,ha⟩:=wX (zq h);rw[ha,hi];have hg:(m.a5L.getD i ⟨0,0,0,0,0⟩)=m.a5L[i]:=by rw[zd,zj s];rfl
  simp only[hg];refine B5 (a:=m.sa) (n:=m.a5L.length) (c:=m.sc) (sz:=5) (xs:=JW m.a5L) (te:=102) ud fun _ _ f=>?_;have f:=f qb;refine wk 9 ?_;refine r_ (i8 rfl (fun w g=>cD (j:=0) (g.ownN (t:=102) ud).2.2.1 X3 s rfl x4)) ?_;refine JT ?_;exact C_ m {B_ with ses:=m.a5L[i].ses} M9 rfl rfl p (fun w g=>g.drop) rfl (fun _=>rfl) d ⟨n9.nil _ _,n9.nil _ _⟩
 rw[zk (by rintro⟨k1,k2⟩;rw[h6,h7,jk k1,jk k2] at h;cases h)];refine w8 ?_;obtain⟨q5,S⟩:=o8 (decide (u.life<r.life));obtain⟨sl,J⟩:=o8 (if u.life<r.life then m.a5L.filter fun x=>!decide (x.node=r.node) else m.a5L);rw[<-J];refine wk 10 ?_;refine f_ ((F6 rfl rfl).eq (v':=.bool q5) (qn ((qz).trans S.symm))) ?_;refine w8 ?_;refine n7 (ι:=Option Addr×Nat×List As) (fun z=>z.2.2=[T1 m.sa m.a5L m.sc]\/(z.2.2=[]/\z.1=m.sa/\z.2.1=m.sc/\sl=m.a5L)) (fun z=>[(0,l9 b),(3,l9 O),(5,.int .i64 (D3 (fun x=>decide (x.node=r.node)) m.a5K)),(7,.slice z.1 sl.length z.2.1)]) (fun z=>T1 z.1 sl z.2.1::R_ b m r q B_ M9::P5 m.ha m.a5K m.hc::T0 m.ba m.a5J m.bc::(V9 m.a5J++(z.2.2++R))) ?_ ?_
 ·cases q5
  case false=>
   rw[zk (zq S.symm)] at J;subst J;refine o9 rfl qx (fun h=>?_);refine w8 ?_;exact g_ (m.sa,m.sc,[]) (.inr ⟨rfl,rfl,rfl,rfl⟩) (fun w g=>Tr g)
  rw[zg (qr S.symm)] at J;refine o9 rfl (fun h=>?_) qx;refine r7 ?_;refine e_ (jI (JW m.a5L) m.sa m.a5L.length m.sc (AD _) (AE _) qb) ?pre ?_;(case pre=>exact fun h hh ⟨bs,Q⟩=>A3.rd Q ud);rintro v A ⟨X,Y,rfl,rfl⟩;refine r7 ?_;refine e_ (oM m.a5L X Y 105 [l9 O] (fun h=>h O=some (.cells (eE r q).toArray 44 (0,0))) (fun x=>decide (x.node=r.node)) (fun x _=>Im O r q x) qb) ?pre ?_;(case pre=>exact fun h hh Q=>hh _ _ p3);rintro v A ⟨rfl,rfl⟩;refine r7 ?_;rw[<-J];exact g_ (X,Y,[T1 m.sa m.a5L m.sc]) (.inl rfl) (fun w g=>Ts g)
 rintro⟨X,Y,E⟩ hE;have k9:sl.length<=m.a5L.length:=by
  rw[J];split
  ·exact Qn _ _
  ·exact zr _
 have T:∀w,Hp F1 w (T1 X sl Y::R_ b m r q B_ M9::P5 m.ha m.a5K m.hc::T0 m.ba m.a5J m.bc::(V9 m.a5J++(E++R)))->Hp F1 w (R_ b m r q B_ M9::(uO m++R)):=fun w g=>by
  rcases hE with rfl|⟨rfl,rfl,rfl,e⟩
  ·exact Tt g.drop
  ·rw[e] at g;exact g.perm (.swap _ _ _)
 obtain⟨q8,h8⟩:=o8 (decide (16<=sl.length));obtain⟨q9,h9⟩:=o8 (decide (CW<=m.nses));refine w8 ?_;refine x8 [(0,l9 b),(3,l9 O),(5,.int .i64 (D3 (fun x=>decide (x.node=r.node)) m.a5K)),(7,.slice X sl.length Y),(112,.bool (q8||q9))] (T1 X sl Y::R_ b m r q B_ M9::P5 m.ha m.a5K m.hc::T0 m.ba m.a5J m.bc::(V9 m.a5J++(E++R))) ?_ ?_
 ·cases q8
  all_goals (
   refine A1 ?_;refine f_ ((I5 rfl rfl).eq (qn ((qz).trans h8.symm))) ?_;refine aq ?_;(first|refine u_ ?_|(refine v_ ?_;refine f_ ((I5 rfl rfl).eq (qn ((zp.2 (by show(4611686018427387904:Int)<=_↔4611686018427387904<=_;omega)).trans h9.symm))) ?_));refine r7 ?_)
  all_goals exact p9 sub i_
 refine O0 ?_ ?_<;>intro h
 ·rw[zg (by rw[Zw,h8,h9] at h;exact h.imp qr qr)];refine C5 ?_;exact C_ m B_ M9 rfl rfl p T rfl qx d (L_.zero _)
 have U:¬(16<=sl.length\/CW<=m.nses):=fun k=>by rw[h8,h9] at h;rcases k with k|k<;>simp[k] at h
 rw[zk U];have x2:m.nses<4611686018427387904:=Wn.1 fun k=>U (.inr k);have k8:sl.length<16:=Wn.1 fun k=>U (.inl k);refine wk 10 ?_;refine D2 [6,8,10,12] [14,15,19] [R_ b m r q {B_ with ses:=m.nses} M9] 20 ?_;refine wd [0,1,2,3,4,5,6,7,8,9,10,11,12,13] ?_;refine h_ 14 rfl i6 ?_;refine C4 nq ⟨m.nses,0,r.node,r.life,r.tr⟩ rfl ?_;intro q0 _;refine xF ?_;refine h_ 15 rfl i6 ?_;refine w6 nq (l:=sl) (m:=[⟨m.nses,0,r.node,r.life,r.tr⟩]) X3 AB (by show(sl.length+1)*40<=_;omega) ?_ rfl rfl (fun _ _=>uh) (fun w g=>(g.ownN (t:=102) ud).2.2.1) (by show sl.length+1<=9223372036854775807;omega);intro C D _;refine E6 [16,17,18,19] ?_;refine ap ?_;refine f_ ((L2 rfl rfl qb).eq (v':=.int .u64 ((m.nses+1:Nat):Int)) (by congr 1)) ?_;refine O3 ?_;by_cases V:D3 (fun x:HO=>decide (x.node=r.node)) m.a5K<0
 ·have M:=sK V;rw[M];have x3:=cZ (fun x:HO=>decide (x.node=r.node)) m.a5K;rw[show D3 (fun x:HO=>decide (x.node=r.node)) m.a5K= -1 from by omega];refine wk 9 ?_;refine e_ (zG b (BH m r sl C D) r q {B_ with ses:=m.nses} M9 ⟨r.node,r.life,r.tr⟩ hm hs (Nd M) hr (by show 0<=r.node/\r.node<=100;omega)) qw ?_;rintro v A ⟨rfl,a,c,rfl⟩;refine C5 ?_;exact C_ {BH m r sl C D with a5K:=dy ⟨r.node,r.life,r.tr⟩ m.a5K,ha:=a,hc:=c} {B_ with ses:=m.nses} M9 rfl rfl p (fun w g=>Oo g) rfl (fun _=>rfl) d ⟨n9.nil _ _,n9.nil _ _⟩
 ·obtain⟨i,hi,s,ha⟩:=sL V;rw[ha,hi];refine wk 9 ?_;refine e_ (zF b (BH m r sl C D) r q {B_ with ses:=m.nses} M9 i ⟨r.node,r.life,r.tr⟩ s hm) qw ?_;rintro v A ⟨rfl,a,c,rfl⟩;refine C5 ?_;exact C_ {BH m r sl C D with a5K:=m.a5K.set i ⟨r.node,r.life,r.tr⟩,ha:=a,hc:=c} {B_ with ses:=m.nses} M9 rfl rfl p (fun w g=>Oo g) rfl (fun _=>rfl) d ⟨n9.nil _ _,n9.nil _ _⟩
structure wZ(r:RQ):Prop where
 num:r.num<18446744073709551616
 box:r.box.length<=lr
 a5P:r.a5P.length<=1000000
 a5Y:r.a5Y.length<=100000
 fl:∀f∈r.a5Y,f.length<=lr
def Rm(k:Int):FuncId:=if k=1 then 56 else if k=2 then 57 else if k=3 then 58 else if k=4 then 59 else if k=5 then 60
 else if k=6 then 61 else if k=7 then 62 else if k=8 then 63 else if k=9 then 64 else 65
abbrev ie(k:FuncId):Value:=.func (.func k) #[] #[]
abbrev BI:List Value:=[.nilFunc,ie 56,ie 57,ie 58,ie 59,ie 60,ie 61,ie 62,ie 63,ie 64,ie 65]
theorem pY{k:Int}(a:1<=k)(b:k<=10):k=1\/k=2\/k=3\/k=4\/k=5\/k=6\/k=7\/k=8\/k=9\/k=10:=by omega
theorem Nh{k:Int}(a:1<=k)(b:k<=10):BI[k.toNat]? =some (ie (Rm k)):=by
 rcases pY a b with rfl|rfl|rfl|rfl|rfl|rfl|rfl|rfl|rfl|rfl<;>rfl
theorem Tu{k:Int}(a:1<=k)(b:k<=10):HF prog (Rm k):=by
 rcases pY a b with rfl|rfl|rfl|rfl|rfl|rfl|rfl|rfl|rfl|rfl
 ·exact(inferInstance:HF prog 56)
 ·exact(inferInstance:HF prog 57)
 ·exact(inferInstance:HF prog 58)
 ·exact(inferInstance:HF prog 59)
 ·exact(inferInstance:HF prog 60)
 ·exact(inferInstance:HF prog 61)
 ·exact(inferInstance:HF prog 62)
 ·exact(inferInstance:HF prog 63)
 ·exact(inferInstance:HF prog 64)
 ·exact(inferInstance:HF prog 65)
theorem dF{m:MM}(h:V_ m.s){x:BM}(hx:x∈m.a5J):CY x.x:=h.box _ (Q5 hx)
theorem zH{m:MM}(h:V_ m.s):m.a5J.length<=8:=by have:=h.a5J;simpa using this
theorem sM{m:MM}(h:V_ m.s){x:BM}(hx:x∈m.a5J):x.ls.length<=32:=by have:=(dF h hx).lts;simpa using this
theorem pZ:∀{l:List HO} {k:Int},(l.Pairwise fun x y=>x.node<y.node)->(∀x∈l,k<=x.node/\x.node<=5)->(l.length:Int)<=max 0 (6-k)
 |[],_,_,_=>by simp;omega
 |x::t,k,h,hk=>by
  obtain⟨b,c⟩:=Qq.1 h;have d:=hk x j9;have e:=pZ (k:=x.node+1) c fun y a=>⟨b y a,(hk y (jw _ a)).2⟩;rw[zx];omega
theorem xa{m:MM}(h:V_ m.s):m.a5K.length<=5:=by
 have:=pZ (k:=1) h.a5K fun x a=>⟨(h.home x a).1,(h.home x a).2.1⟩;show m.s.a5K.length<=5;omega
theorem Tv(b:Nat)(m:MM)(r:RQ)(q:QL)(c:V_ m.s)(e:wZ r)(j:1<=r.op)(k:r.op<=10):HB (Rm r.op) b m r q (JU m.s r):=by
 have l:=zH c;have hs:m.a5J.Pairwise fun x y=>gU x.name y.name=true:=by
  have:=c.sorted;exact(Kg.1 this)
 have i:m.a5L.length<=16:=c.a5L;have d:∀x∈m.a5J,∀y∈x.ls,y.t.a5Y.length<=16/\∀f∈y.t.a5Y,f.length<=32:=fun x a y g=>(dF c a).a5Y _ (Q5 g);unfold JU Rm;rcases pY j k with h|h|h|h|h|h|h|h|h|h<;>rw[h]
 ·exact Ng b m r q (by have:=xa c;omega) qb c.a5K (fun x a=>by have:=c.home x a;omega) (jd c.nses qp)
 ·exact PG b m r q qb
 ·exact Mw b m r q
 ·exact Es b m r q l hs c.nval e.box
 ·exact DS b m r q qb
 ·exact El b m r q qb (fun x a=>⟨by have:=sM c a;omega,(dF c a).next,(dF c a).high⟩) e.a5Y e.fl
 ·exact Ih b m r q qb (fun x a=>⟨by have:=sM c a;omega,(dF c a).high,fun y g=>⟨by have:=(d x a y g).1;omega,fun f hf=>by have:=(d x a y g).2 f hf;exact jd this qp⟩⟩) e.a5P e.a5Y e.fl
 ·exact zl b m r q qb (fun x a=>⟨by have:=sM c a;omega,(dF c a).high,fun y g=>by have:=(d x a y g).1;omega⟩) e.a5P
 ·exact MY b m r q qb (fun x a=>⟨by have:=sM c a;omega,(dF c a).next,(dF c a).high,fun y g=>by have:=(d x a y g).1;omega⟩) e.a5P
 ·exact HC b m r q c.a5V
section
variable{P:Program}{N:Nat}{L:G0}{F:l8}{H:List As}
theorem X2{fn:Func}{d:Value->List As->Prop}{t n b t1 s i:Nat}{j te f k:TypeId}{cs c:Array Value}{H' z:List As}[ha:HA P j true][hs:HS P j n][ha1:HA P f true][hs1:HS P f s](C:fn.results=#[.cell t j,.cell t1 f])(hv:find L t=some (.pointer (some ⟨b,0,none⟩)))(l:find L t1=some (.pointer (some ⟨i,0,none⟩)))(u:M2 H (.blk b (.cells cs te (0,0))) [] H')(D:Nat.beq n cs.size=true)(J:M2 H (.blk i (.cells c k (0,0))) [] z)(m:Nat.beq s c.size=true)(A:List As)(g:d (.tuple #[.agg cs,.agg c]) A)(M:∀w,Hp F w H->Hp F w A):At N (dq P fn F d) L F H:=by
 unfold At;intro a w hf o;have O:=j6 D;have p:=j6 m;have e:∀cs:Array Value,sl cs 0 cs.size=cs.toList:=fun cs=>by
  simp only[sl,Kk];exact jq x4
 obtain⟨X,q,hc⟩:=Y1 (n:=cs.size) o u;injection q with q;subst q;rw[e] at hc;have v:=D6 (P:=P) hc;obtain⟨Q,r,h⟩:=Y1 (n:=c.size) o J;injection r with r;subst r;rw[e] at h;have y:=D6 (P:=P) h;have S:a.tmps.getD t undef=.pointer (some ⟨b,0,none⟩):=hf.eval (x:=.tmp t) hv;have T:a.tmps.getD t1 undef=.pointer (some ⟨i,0,none⟩):=hf.eval (x:=.tmp t1) l;subst O;subst p;refine⟨.tuple #[.agg cs,.agg c],A,?_,g,M w o,hf.defers⟩;have U:a.tmps[t]?.getD undef=.pointer (some ⟨b,0,none⟩):=by simpa using S
 have V:a.tmps[t1]?.getD undef=.pointer (some ⟨i,0,none⟩):=by simpa using T
 simp at v y;simp[results,C,U,V,asAddr,loadVar,ha.h,ha1.h,hs.h,hs1.h,v,y,Sem.run_bind]
end
def zI(e:ML×OC)(h:l_)(v:Value)(A:List As):Prop:=∃m' o y,v=.tuple #[uN m',Uc o y]/\m'.s=e.1/\o=e.2/\A=[]/\iE m' h/\L_ o y h
theorem lG{F c:l8}{H R:List As}{L:G0}{g4 b:Nat}{e:ML×OC}(a:MM)(o:OC)(y:OL)(d:find L 4=some (l9 g4))(f:find L 5=some (l9 b))(hl:c.le F)(hH:∀w,Hp F w H->Hp F w (.blk g4 (.cells (iD a).toArray 62)::.blk b (.cells (tI o y).toArray 86)::R))(hs:a.s=e.1)(g:o=e.2)(h:iE a F.heap)(i:L_ o y F.heap):At 108 (CR prog Tryz.f28 c R (zI e)) L F H:=by
 refine At.weaken (H':=.blk g4 (.cells (iD a).toArray 62)::.blk b (.cells (tI o y).toArray 86)::R) ?_ (fv.refl _) hH;refine H4 (A:=[]) (v:=.tuple #[uN a,Uc o y]) hl ⟨a,o,y,rfl,hs,g,rfl,h,i⟩ ?_;exact X2 rfl d f ud rfl ud rfl _ qh (fun w j=>j.drop.drop)
theorem lH{F i:l8}{H R:List As}{L:G0}{g4 h:Nat}{e:ML×OC}(a:MM)(o:OC)(y:OL)(f:find L 4=some (l9 g4))(j:find L 5=some (l9 h))(hl:i.le F)(hH:∀w,Hp F w H->Hp F w (.blk g4 (.cells (iD a).toArray 62)::.blk h (.cells (tI o y).toArray 86)::(uO a++R)))(hs:a.s=e.1)(k:o=e.2)(hf:∀b∈a.a5J,iC b.ls F.heap)(l:L_ o y F.heap):At 108 (CR prog Tryz.f28 i R (zI e)) L F H:=by
 refine At.weaken (H':=(.blk g4 (.cells (iD a).toArray 62)::.blk h (.cells (tI o y).toArray 86)::R)++uO a) ?_ (fv.refl _) (fun w m=>(hH w m).perm (List.Perm.cons _ (List.Perm.cons _ kz)));refine dJ fun n c ⟨s,g⟩=>?_;refine lG a o y f j (hl.trans c) i_ hs k ?_ (Mn.le c.heap l);obtain⟨_,t,_,p,_,u,_,q,_,v,_,r,f⟩:=g;have d:A3 n.heap (uO a) _:=⟨_,_,rfl,p,_,_,rfl,q,_,_,rfl,r,f⟩;exact⟨A3.rd d ud,A3.rd d ud,A3.rd d ud,fun b g=>⟨Hz f b g,Mn.le c.heap (hf b g)⟩⟩
theorem PU{L:G0}{dst:Option Tmp}{ty:TypeId}{pos:String}{af:Array Edge}{gd:Option (Nat×Bool)}{x y:Operand}(m:MM)(r:RQ)(q:QL)(hx:ev L x=some (uN m))(a:ev L y=some (Re r q)):D_ prog ⟨dst,.build 136 [(0,x),(1,y)].toArray,ty,pos,af,gd⟩ L (.agg (Oa m r q B_ M9).toArray):=by
 refine y8 (vs:=[(0,uN m),(1,Re r q)]) (by simp[Ae,hx,a]) ?_
 kernel_rfl
abbrev Io:MM:=⟨[],0,[],[],0,0,none,0,none,0,none,0⟩
theorem Tw{m:MM}(h:V_ m.s):SC m:=by
 have d:m.a5L.length<=16:=h.a5L;have e:=xa h;have f:=zH h;exact⟨by omega,by omega,by omega,fun b a=>by have:=sM h a;omega,fun b a x c=>by have:=((dF h a).a5Y _ (Q5 c)).1;omega⟩
theorem Tx{F:l8}{w:World}{x y z u v:As}{l R Z:List As}(h:Hp F w (x::y::z::(l++(u::v::(R++Z))))):Hp F w (u::v::(R++(x::y::z::(l++Z)))):=by
 have a:Hp F w (([x,y,z]++l)++(([u,v]++R)++Z)):=by simpa using h
 have b:Hp F w (([u,v]++R)++(([x,y,z]++l)++Z)):=a.perm (by rw[<-zm ([u,v]++R),<-zm ([x,y,z]++l)];exact kz.append_right Z);simpa using b
theorem a1K{F:l8}{w:World}{k u v x y z:As}{l R Z:List As}(h:Hp F w (k::u::v::(R++(x::y::z::(l++Z))))):Hp F w ((k::u::v::x::y::z::(l++R))++Z):=by
 have a:Hp F w ([k,u,v]++(R++(([x,y,z]++l)++Z))):=by simpa using h
 have b:Hp F w ([k,u,v]++((([x,y,z]++l)++R)++Z)):=a.perm (Z0 _ (by rw[<-zm];exact kz.append_right Z));simpa using b
theorem Ip{F:l8}{w:World}{u v k x y z:As}{l R:List As}(h:Hp F w (k::u::v::x::y::z::(l++R))):Hp F w (v::u::(x::y::z::l++R)):=h.drop.perm (.swap _ _ _)
theorem Et{m:MM}{n:Nat}(h:D3 (fun x:SX=>decide (x.ses=n)) m.a5L<0):rL m.s n=none:=by
 unfold D3 at h;unfold rL
 cases e:m.a5L.findIdx? fun x=>decide (x.ses=n) with
 |none=>rfl
 |some i=>rw[e] at h;simp only[Option.elim] at h;omega
theorem Eu{m:MM}{n:Nat}(h:¬D3 (fun x:SX=>decide (x.ses=n)) m.a5L<0):∃i:Nat,D3 (fun x:SX=>decide (x.ses=n)) m.a5L=(i:Nat)/\i<m.a5L.length/\rL m.s n=some i:=by
 unfold D3 at h⊢;unfold rL
 cases e:m.a5L.findIdx? fun x=>decide (x.ses=n) with
 |none=>rw[e] at h;simp only[Option.elim] at h;omega
 |some i=>exact⟨i,rfl,(kg.1 e).1,rfl⟩
theorem Ni(b:Nat)(m:MM)(r:RQ)(q:QL)(o:OC)(y:OL)(i:Nat)(x:SX):R_ b {m with a5L:=m.a5L.set i x} r q o y=R_ b m r q o y:=by
 unfold R_ Oa iD;simp only[jr]
theorem Iq{m:MM}(h:V_ m.s){i:Nat}(b:i<m.a5L.length)(n:Nat)(c:n<18446744073709551616):V_ {m with a5L:=m.a5L.set i {m.a5L[i] with last:=n}:MM}.s:=by
 refine⟨h.a5J,h.box,h.sorted,h.a5K,h.home,?_,fun x a=>?_,h.nval,h.nses,h.a5V⟩
 ·show(m.a5L.set i _).length<=16;rw[jr];exact h.a5L
 ·rcases jp a with a|rfl
  ·exact h.seat x a
  ·have:=h.seat m.a5L[i] (zy b);exact⟨this.1,this.2.1,c,this.2.2.2⟩
theorem kF:∀(C R:List As),y4 C (C++R) R
 |[],_=>.nil
 |_::C,R=>.cons .del (kF C R)
theorem Ty{F:l8}{w:World}{k u v x y z:As}{l R:List As}(h:Hp F w (k::u::v::x::y::z::(l++R))):Hp F w ((k::x::y::z::l)++(u::v::R)):=by
 have a:Hp F w ([k]++([u,v]++(([x,y,z]++l)++R))):=by simpa using h
 have b:Hp F w ([k]++(([x,y,z]++l)++([u,v]++R))):=a.perm (Z0 _ (by rw[<-zm [u,v],<-zm ([x,y,z]++l)];exact kz.append_right R));simpa using b
theorem Oq{F:l8}{w:World}{u v k:As}{R:List As}(h:Hp F w (k::u::v::R)):Hp F w (v::u::R):=h.drop.perm (.swap _ _ _)
theorem qa(m:MM)(r:RQ)(q:QL)(hm:V_ m.s)(h8:wZ r):Cm prog 28 [uN m,Re r q] (fun h=>iE m h/\dA r q h) [] (zI (E4 m.s r)):=by
 refine y5 108 func28 rfl rfl rfl ?_;rintro F R ⟨q7,q8⟩;refine C7 ?_;refine m8 rfl rfl ?_;intro g2;refine m8 rfl rfl ?_;intro g3;refine i7 rfl ?_;intro O;refine i7 rfl ?_;intro Q;refine C7 ?_;refine f_ (za rfl rfl) ?_;refine r7 ?_;intro g6;refine r7 ?_;refine B9 (Z:=[.blk g2 (.cells (iD m).toArray 62),.blk g3 (.cells (eE r q).toArray 44),.blk g6 (.cells BI.toArray 133)]) tk fun F1 u U=>?_;have p2:F1.heap g2=some (.cells (iD m).toArray 62 (0,0)):=J_ U;have p3:F1.heap g3=some (.cells (eE r q).toArray 44 (0,0)):=J_ U;have p6:F1.heap g6=some (.cells BI.toArray 133 (0,0)):=J_ U;clear U;refine w8 ?_;refine D2 [0,2] [1,4] [] 6 ?_;refine wd [0,2] ?_;refine h_ 1 rfl i6 ?_;refine R8 (tL m (Tw hm)) (Mn.le u.heap q7) ?_;rintro v A Z Fz hz ⟨d,rfl,V,rfl,h9⟩;refine I7 (H':=.blk Q (.cells (tI B_ M9).toArray 86)::.blk O (.cells (iD Io).toArray 62)::(R++(T1 d.sa d.a5L d.sc::P5 d.ha d.a5K d.hc::T0 d.ba d.a5J d.bc::(V9 d.a5J++Z)))) (fun w g=>Tx g) ?_;refine Y9 ?_;refine w_ 3 rfl (PU d r q rfl rfl) ?_;refine h_ 4 rfl i6 ?_;refine m8 rfl rfl ?_;intro z;refine E6 [5] ?_;refine AG Fz hz (Rr:=R_ z d r q B_ M9::.blk Q (.cells (tI B_ M9).toArray 86)::.blk O (.cells (iD Io).toArray 62)::T1 d.sa d.a5L d.sc::P5 d.ha d.a5K d.hc::T0 d.ba d.a5J d.bc::(V9 d.a5J++R)) (Z:=Z) (fun w g=>a1K g) fun F2 p k0=>?_;have s:∀b∈d.a5J,iC b.ls F2.heap:=fun b U=>Mn.le k0 (h9 b U);have x9:F2.heap g3=some (.cells (eE r q).toArray 44 (0,0)):=p.heap _ _ p3;have q9:F2.heap g6=some (.cells BI.toArray 133 (0,0)):=p.heap _ _ p6;clear h9 k0 hz p2 p3 p6;obtain⟨q1,h1⟩:=o8 (decide (r.op<1));obtain⟨q2,h2⟩:=o8 (decide (11<=r.op));obtain⟨q3,h3⟩:=o8 (decide (64<r.a5P.length));have X:V_ d.s:=V▸hm;refine x8 [(3,l9 g3),(4,l9 O),(5,l9 Q),(6,l9 g6),(7,l9 z),(29,.bool (q1||(q2||q3)))] (R_ z d r q B_ M9::.blk Q (.cells (tI B_ M9).toArray 86)::.blk O (.cells (iD Io).toArray 62)::T1 d.sa d.a5L d.sc::P5 d.ha d.a5K d.hc::T0 d.ba d.a5J d.bc::(V9 d.a5J++R)) ?_ ?_
 ·cases q1<;>cases q2
  all_goals (
   refine A1 ?_;refine f_ ((F6 rfl rfl).eb h1) ?_;refine E7 ?_;(first|refine u_ ?_|(refine v_ ?_;refine f_ ((I5 rfl rfl).eb h2) ?_));refine ap ?_;(first|refine u_ ?_|(refine v_ ?_;refine f_ ((E2 rfl rfl).eq (qn ((qz).trans h3.symm))) ?_));refine r7 ?_)
  all_goals exact p9 sub i_
 refine O0 ?_ ?_<;>intro h
 ·have D:E4 m.s r=(m.s,{B_ with code:=1}):=by
   unfold E4;refine zg ?_;rw[h1,h2,h3] at h;simpa using h
  rw[D];refine KR ?_;exact lH d {B_ with code:=1} M9 rfl rfl (u.trans p) (fun w g=>Ip g) V rfl s (L_.nil _ _ _ rfl rfl)
 have hc:¬(r.op<1\/11<=r.op\/64<r.a5P.length):=fun k=>by
  rw[h1,h2,h3] at h;simp only[Q1,Zp] at h;rcases k with k|k|k
  ·exact h.1 k
  ·exact h.2.1 k
  ·exact h.2.2 k
 have D:E4 m.s r=if r.op=1\/r.op=10 then vG (JU d.s r)
   else match rL d.s r.ses with
    |none=>(d.s,{B_ with code:=16})
    |some i=>
     if r.num<=(d.s.a5L.getD i ⟨0,0,0,0,0⟩).last then(d.s,{B_ with code:=14})
     else vG (JU {d.s with a5L:=d.s.a5L.set i {d.s.a5L.getD i ⟨0,0,0,0,0⟩ with last:=r.num}} r):=by
  rw[V];unfold E4;rw[zk hc];rfl
 clear h h1 h2 h3;obtain⟨q4,h4⟩:=o8 (decide (r.op=1));obtain⟨q5,h5⟩:=o8 (decide (r.op=10));refine w8 ?_;refine x8 [(3,l9 g3),(4,l9 O),(5,l9 Q),(6,l9 g6),(7,l9 z),(42,.bool (!q4&&!q5))] (R_ z d r q B_ M9::.blk Q (.cells (tI B_ M9).toArray 86)::.blk O (.cells (iD Io).toArray 62)::T1 d.sa d.a5L d.sc::P5 d.ha d.a5K d.hc::T0 d.ba d.a5J d.bc::(V9 d.a5J++R)) ?_ ?_
 ·cases q4
  all_goals (
   refine A1 ?_;refine f_ ((M3 rfl rfl).eq (jy (fun x=>Value.bool (!x)) h4.symm)) ?_;refine E7 ?_;(first|refine u_ ?_|(refine v_ ?_;refine f_ ((M3 rfl rfl).eq (jy (fun x=>Value.bool (!x)) h5.symm)) ?_));refine r7 ?_)
  all_goals exact p9 sub i_
 refine w8 ?_;refine n7 (ι:=MM) (fun l=>E4 m.s r=vG (JU l.s r)/\V_ l.s/\∀b∈l.a5J,iC b.ls F2.heap) (fun l=>[(3,l9 g3),(4,l9 O),(5,l9 Q),(6,l9 g6),(7,l9 z)]) (fun l=>R_ z l r q B_ M9::.blk Q (.cells (tI B_ M9).toArray 86)::.blk O (.cells (iD Io).toArray 62)::T1 l.sa l.a5L l.sc::P5 l.ha l.a5K l.hc::T0 l.ba l.a5J l.bc::(V9 l.a5J++R)) ?_ ?_
 ·refine o9 rfl ?_ ?_<;>intro h
  ·have hn:¬(r.op=1\/r.op=10):=by
    rw[h4,h5] at h;simp only[ky,Kv,Zp] at h;exact fun k=>k.elim h.1 h.2
   rw[zk hn] at D;refine w8 ?_;refine D2 [3,5] [6] [R_ z d r q B_ M9] 8 ?_;refine wd [0,1,2,3,4,5] ?_;refine h_ 6 rfl i6 ?_;refine c_ rfl (Lg d r.ses (by have:=X.a5L;show d.s.a5L.length<=1000;omega)) (fun h hh ⟨bs,U⟩=>A3.rd U ud) rfl ?_;refine E6 [7] ?_;refine eM ?_ ?_<;>intro h
   ·rw[Et (qr h)] at D;rw[D];refine KR ?_;exact lH d {B_ with code:=16} M9 rfl rfl (u.trans p) (fun w g=>Ip g) rfl rfl s (L_.nil _ _ _ rfl rfl)
   obtain⟨i,hi,S,ha⟩:=Eu (zq h);have hg:d.s.a5L.getD i ⟨0,0,0,0,0⟩=d.a5L[i]:=(by show d.a5L.getD i _=_;rw[zd,zj S];rfl);rw[ha] at D;simp only[hg] at D;rw[hi];obtain⟨q6,M⟩:=o8 (decide (r.num<=d.a5L[i].last));refine B5 (a:=d.sa) (n:=d.a5L.length) (c:=d.sc) (sz:=5) (xs:=JW d.a5L) (te:=102) ud fun _ _ J=>?_;have J:=J qb;refine w8 ?_;refine D2 [1,6,10] [] [T1 d.sa d.a5L d.sc,R_ z d r q B_ M9] 13 ?_;refine wd [0,1,2,3,4,5,6,7,8,9] ?_;refine o0 10 rfl O4 (i8 rfl (fun w g=>cD (j:=1) (g.ownN (t:=102) ud).2.2.1 X3 S rfl x4)) G2 rfl rfl rfl i6 ?_;refine w_ 11 rfl ((G4 rfl rfl).eq (v':=.bool q6) (qn ((qz).trans M.symm))) ?_;refine wd [12] ?_
   cases q6
   case true=>
    rw[zg (qr M.symm)] at D;rw[D];refine KR ?_;exact lH d {B_ with code:=14} M9 rfl rfl (u.trans p) (fun w g=>Ip g) rfl rfl s (L_.nil _ _ _ rfl rfl)
   rw[zk (zq M.symm)] at D;refine w8 ?_;refine D2 [4,7] [10] [R_ z d r q B_ M9] 11 ?_;refine wd [0,1,2,3,4,5,6,7,8,9] ?_;refine h_ 10 rfl i6 ?_;refine A_ (C:=nq) {d.a5L[i] with last:=r.num} X3 S (j:=1) rfl ?_;refine E6 [] ?_;refine g_ {d with a5L:=d.a5L.set i {d.a5L[i] with last:=r.num}} ⟨D,Iq X S r.num h8.num,s⟩ (fun w g=>?_);rw[Ni];unfold T1;rw[jr];exact g
  ·have hn:r.op=1\/r.op=10:=by
    rw[h4,h5] at h
    cases M:decide (r.op=1)
    ·rw[M] at h;right;simpa using h
    ·left;exact qr M
   rw[zg hn] at D;refine w8 ?_;exact g_ d ⟨D,X,s⟩ i_
 rintro l ⟨x0,x1,x2⟩;have Y:1<=r.op:=by omega
 have h0:r.op<=10:=by omega
 haveI:=Tu Y h0
 refine w8 ?_;refine D7 (H':=(R_ z l r q B_ M9::uO l)++(.blk Q (.cells (tI B_ M9).toArray 86)::.blk O (.cells (iD Io).toArray 62)::R)) (fun w g=>Ty g) ?_;refine A1 ?_;refine f_ (bn (n:=r.op) rfl rfl qb) ?_;refine r_ (i8 (v:=ie (Rm r.op)) rfl (fun w g=>vg g q9 (by have:=Nh Y h0;simpa using this))) ?_;refine r7 ?_;refine rJ (f:=Rm r.op) (Tv z l r q x1 h8 Y h0) ⟨x2,Mn.le (u.trans p).heap q8⟩ ?_ (hH:=kF _ _);rintro v A F3 k8 ⟨m3,o,y,rfl,rfl,h7,k9,q0,x3⟩;refine r7 ?_;obtain⟨e,he⟩:=o8 (JU l.s r);rw[x0];rw[<-he] at h7 k9⊢;obtain⟨q6,M⟩:=o8 (decide (e.2.2=0));refine r7 ?_;refine f_ ((M3 rfl rfl).eq (v':=.bool (!q6)) (jy (fun x=>Value.bool (!x)) M.symm)) ?_;refine w8 ?_
 cases q6
 ·have T:¬e.2.2=0:=zq M.symm;refine NP ?_;exact lG m3 {B_ with code:=e.2.2} M9 rfl rfl ((u.trans p).trans k8) (fun w g=>Oq g) h7 (by show _=if e.2.2=0 then _ else _;rw[zk T]) q0 (L_.nil _ _ _ rfl rfl)
 ·have T:e.2.2=0:=qr M.symm;refine w8 ?_;refine D2 [3,7] [8,9] [R_ z m3 r q o y] 10 ?_;refine wd [0,1,2,3,4,5,6,7,8,9] ?_;refine A4 ?_;exact lG m3 o y rfl rfl ((u.trans p).trans k8) (fun w g=>Oq g) h7 (by show _=if e.2.2=0 then _ else _;rw[zg T];exact k9 T) q0 x3
open Go Go.Sl Go.RowKit Go.Proofs.Tryz
def zJ(k:Nat):FuncId:=if k=1 then 138 else if k=2 then 139 else if k=3 then 140 else if k=4 then 141 else if k=5 then 142 else if k=6 then 143 else if k=7 then 144 else if k=8 then 145 else if k=9 then 145 else if k=10 then 146 else if k=11 then 147 else if k=12 then 148 else if k=13 then 148 else if k=14 then 149 else if k=15 then 148 else if k=16 then 150 else if k=17 then 151 else 152
abbrev Ir(a b:Nat)(f:FuncId):List Value:=[.int .i64 (a:Nat),.int .i64 (b:Nat),ie f]
abbrev qe:List Value:=[.int .i64 0,.int .i64 0,.nilFunc,.int .i64 0,.int .i64 2,ie 138,.int .i64 0,.int .i64 2,ie 139,.int .i64 0,.int .i64 2,ie 140,.int .i64 2,.int .i64 2,ie 141,.int .i64 2,.int .i64 2,ie 142,.int .i64 1,.int .i64 2,ie 143,.int .i64 0,.int .i64 0,ie 144,.int .i64 1,.int .i64 2,ie 145,.int .i64 1,.int .i64 2,ie 145,.int .i64 1,.int .i64 2,ie 146,.int .i64 1,.int .i64 2,ie 147,.int .i64 1,.int .i64 2,ie 148,.int .i64 1,.int .i64 2,ie 148,.int .i64 1,.int .i64 2,ie 149,.int .i64 2,.int .i64 2,ie 148,.int .i64 2,.int .i64 2,ie 150,.int .i64 2,.int .i64 2,ie 151,.int .i64 2,.int .i64 2,ie 152]
theorem lI{k:Nat}(a:1<=k)(b:k<=18):k=1\/k=2\/k=3\/k=4\/k=5\/k=6\/k=7\/k=8\/k=9\/k=10\/k=11\/k=12\/k=13\/k=14\/k=15\/k=16\/k=17\/k=18:=by omega
theorem Is{k:Nat}(a:1<=k)(b:k<=18):qe[k*3]? =some (.int .i64 ((O1 k).1:Nat))/\qe[k*3+1]? =some (.int .i64 ((O1 k).2:Nat))/\qe[k*3+2]? =some (ie (zJ k)):=by
 rcases lI a b with rfl|rfl|rfl|rfl|rfl|rfl|rfl|rfl|rfl|rfl|rfl|rfl|rfl|rfl|rfl|rfl|rfl|rfl<;>exact qm
theorem PV{k:Nat}(a:1<=k)(b:k<=18):HF prog (zJ k):=by
 rcases lI a b with rfl|rfl|rfl|rfl|rfl|rfl|rfl|rfl|rfl|rfl|rfl|rfl|rfl|rfl|rfl|rfl|rfl|rfl
 ·exact(inferInstance:HF prog 138)
 ·exact(inferInstance:HF prog 139)
 ·exact(inferInstance:HF prog 140)
 ·exact(inferInstance:HF prog 141)
 ·exact(inferInstance:HF prog 142)
 ·exact(inferInstance:HF prog 143)
 ·exact(inferInstance:HF prog 144)
 ·exact(inferInstance:HF prog 145)
 ·exact(inferInstance:HF prog 145)
 ·exact(inferInstance:HF prog 146)
 ·exact(inferInstance:HF prog 147)
 ·exact(inferInstance:HF prog 148)
 ·exact(inferInstance:HF prog 148)
 ·exact(inferInstance:HF prog 149)
 ·exact(inferInstance:HF prog 148)
 ·exact(inferInstance:HF prog 150)
 ·exact(inferInstance:HF prog 151)
 ·exact(inferInstance:HF prog 152)
def PW(s:SE)(d:DD)(c:CM)(s':SE)(d':DD):Prop:=if c.kind=14 then Ti s d c s' d' else if 16<=c.kind then DW s d c s' d' else(s',d')=NZ (fun _=>[]) (s,d) c
theorem GI.cmd{f:FuncId}{b:Nat}{s:SE}{x:SL}{d:DD}{y:DL}{c:CM}{k:CL}{r:RQ}(h:GI f b s x d y c k (G3 (s,d) c r []))(hu:r.a5P=[])(hf:r.a5Y=[]):bu f b s x d y c k (G3 (s,d) c r []):=fun F R w a g=>
 (h F R w a g).mono fun e n ⟨v,A,i,⟨j,l⟩,m⟩=>⟨v,A,i,by subst j l;exact mn b s x d y c k r hu hf,m⟩
section
variable(b:Nat)(s:SE)(x:SL)(d:DD)(y:DL)(c:CM)(k:CL)(hv:s.a5N.a5M.length<=100000)(hvu:∀r∈s.a5N.a5M,r.1<18446744073709551616)(hc:qY c)(hn:s.num<18446744073709551615)(hl:y.rl.length<=100000)
include hv hvu hc hn hl
theorem PX(C:1<=c.kind)(D:c.kind<=18):DV (zJ c.kind) b s x d y c k (PW s d c):=by
 obtain⟨i,z,j,a,l,e,f,m,n,o,g,p,r,t,u,v,h⟩:=c;simp only at C D⊢;have A:y.rl.length<=1000000:=by omega
 have w:∀{q:SD},z≠14->z<16->q=NZ (fun _=>[]) (s,d) ⟨i,z,j,a,l,e,f,m,n,o,g,p,r,t,u,v,h⟩->PW s d ⟨i,z,j,a,l,e,f,m,n,o,g,p,r,t,u,v,h⟩ q.1 q.2:=fun{q} ha M J=>by
  unfold PW;rw[zk ha,zk (show¬16<=z by omega)];exact J
 rcases lI C D with rfl|rfl|rfl|rfl|rfl|rfl|rfl|rfl|rfl|rfl|rfl|rfl|rfl|rfl|rfl|rfl|rfl|rfl
 ·exact bu.w (rj b s x d y ⟨i,1,j,a,l,e,f,m,n,o,g,p,r,t,u,v,h⟩ k A) (w qp qp (by rfl)) (by first|rfl|(split<;>rfl))
 ·exact bu.w (LA b s x d y ⟨i,2,j,a,l,e,f,m,n,o,g,p,r,t,u,v,h⟩ k hn A) (w qp qp (by rfl)) (by first|rfl|(split<;>rfl))
 ·exact bu.w (Dr b s x d y ⟨i,3,j,a,l,e,f,m,n,o,g,p,r,t,u,v,h⟩ k hn A) (w qp qp (by rfl)) (by first|rfl|(split<;>rfl))
 ·exact bu.w (Dt b s x d y ⟨i,4,j,a,l,e,f,m,n,o,g,p,r,t,u,v,h⟩ k hn) (w qp qp (by rfl)) (by first|rfl|(split<;>rfl))
 ·exact bu.w (vU b s x d y ⟨i,5,j,a,l,e,f,m,n,o,g,p,r,t,u,v,h⟩ k hn A) (w qp qp (by rfl)) (by first|rfl|(split<;>rfl))
 ·exact bu.w (Ds b s x d y ⟨i,6,j,a,l,e,f,m,n,o,g,p,r,t,u,v,h⟩ k A) (w qp qp (by rfl)) (by first|rfl|(split<;>rfl))
 ·exact bu.w (GJ b s x d y ⟨i,7,j,a,l,e,f,m,n,o,g,p,r,t,u,v,h⟩ k hn A) (w qp qp (by rfl)) (by first|rfl|(split<;>rfl))
 ·exact bu.w (pj b s x d y ⟨i,8,j,a,l,e,f,m,n,o,g,p,r,t,u,v,h⟩ k hn) (w qp qp (by rfl)) (by first|rfl|(split<;>rfl))
 ·exact bu.w (pj b s x d y ⟨i,9,j,a,l,e,f,m,n,o,g,p,r,t,u,v,h⟩ k hn) (w qp qp (by rfl)) (by first|rfl|(split<;>rfl))
 ·exact bu.w ((yB b s x d y ⟨i,10,j,a,l,e,f,m,n,o,g,p,r,t,u,v,h⟩ k hn).cmd rfl rfl) (w qp qp (by rfl)) (by first|rfl|(split<;>rfl))
 ·exact bu.w ((yC b s x d y ⟨i,11,j,a,l,e,f,m,n,o,g,p,r,t,u,v,h⟩ k hn).cmd rfl rfl) (w qp qp (by rfl)) (by first|rfl|(split<;>rfl))
 ·exact bu.w ((gB b s x d y ⟨i,12,j,a,l,e,f,m,n,o,g,p,r,t,u,v,h⟩ k hn).cmd rfl rfl) (w qp qp (by rfl)) (by first|rfl|(split<;>rfl))
 ·exact bu.w ((gB b s x d y ⟨i,13,j,a,l,e,f,m,n,o,g,p,r,t,u,v,h⟩ k hn).cmd rfl rfl) (w qp qp (by rfl)) (by first|rfl|(split<;>rfl))
 ·exact(yY b s x d y ⟨i,14,j,a,l,e,f,m,n,o,g,p,r,t,u,v,h⟩ k hc hn)
 ·exact bu.w ((gB b s x d y ⟨i,15,j,a,l,e,f,m,n,o,g,p,r,t,u,v,h⟩ k hn).cmd rfl rfl) (w qp qp (by rfl)) (by first|rfl|(split<;>rfl))
 ·exact(DY b s x d y ⟨i,16,j,a,l,e,f,m,n,o,g,p,r,t,u,v,h⟩ k hv hvu hc hn hl)
 ·exact(DZ b s x d y ⟨i,17,j,a,l,e,f,m,n,o,g,p,r,t,u,v,h⟩ k hv hvu hc hn hl)
 ·exact(HQ b s x d y ⟨i,18,j,a,l,e,f,m,n,o,g,p,r,t,u,v,h⟩ k hv hvu hc hn hl)
end
open Go Go.Sl Go.RowKit Go.Proofs.Tryz
def Ot(s:SE)(d:DD)(t:Bs)(s':SE)(d':DD):Prop:=∃c e,bw t c e/\
 (e=11/\(s',d')=V1 (s,d) (fo [42] [110,111,32,116,97,103])\/e=10/\(s',d')=V1 (s,d) (fo c.tag [110,111,32,115,117,99,104,32,99,111,109,109,97,110,100])
 \/e=4/\(s',d')=V1 (s,d) (fo c.tag [119,114,111,110,103,32,119,111,114,100,115])
 \/e=0/\((s.a5O<(O1 c.kind).1\/(O1 c.kind).2<s.a5O)/\(s',d')=V1 (s,d) (fo c.tag [110,111,116,32,110,111,119])
  \/(O1 c.kind).1<=s.a5O/\s.a5O<=(O1 c.kind).2/\PW s d c s' d'))
theorem BJ{b:Nat}{s:SE}{x:SL}{d:DD}{y:DL}{r:RR}{a:Option Addr}{f:Nat}{h:l_}{Q:SE->DD->Prop}(hq:Q s {d with a5X:=d.a5X++[r]})(hz:fG r L0 h)(c:iB s x d y h):HN b y Q h (.tuple #[]) (l5 x.ra s.a5N.a5M x.rc::O2 b s x d (F5 y (r,L0) a f)):=by
 refine⟨rfl,s,{d with a5X:=d.a5X++[r]},x,F5 y (r,L0) a f,hq,rfl,.one rfl,c.se,?_,fun m e=>?_,c.dd.req,c.dd.want⟩
 ·show d.a5X++[r]=(y.rl++[(r,L0)]).map Prod.fst;rw[c.dd.a5X];simp
 ·rcases zb.1 (show m∈y.rl++[(r,L0)] from e) with e|e
  ·exact c.dd.rep m e
  ·rw[zu.1 e];exact hz
theorem Tz{F:l8}{w:World}{H:List As}{b o:Nat}{cs:Array Value}{te:TypeId}{fr:Nat×Nat}{u v z:Value}(d:Hp F w H)(e:F.heap b=some (.cells cs te fr))(hu:cs[o]? =some u)(hv:cs[o+1]? =some v)(hz:cs[o+2]? =some z):M0 (hp w) (some ⟨b,o,none⟩) [u,v,z]:=
 ⟨_,rfl,fun j q a=>by
  match j,a with
  |0,a=>simp at a;subst a;have c:w.heap[b]? =some (.cells cs te fr):=d.keep b _ e;simp[l_.cell?,hp,Addr.add,c,hu]
  |1,a=>simp at a;subst a;have c:w.heap[b]? =some (.cells cs te fr):=d.keep b _ e;simp[l_.cell?,hp,Addr.add,c,hv]
  |2,a=>simp at a;subst a;have c:w.heap[b]? =some (.cells cs te fr):=d.keep b _ e;simp[l_.cell?,hp,Addr.add,c,hz]⟩
theorem Nj(b:Nat)(s:SE)(x:SL)(d:DD)(y:DL)(t:Bs)(ht:t.length<=1000000000)(hv:s.a5N.a5M.length<=100000)(Q:∀r∈s.a5N.a5M,r.1<18446744073709551616)(hn:s.num<18446744073709551615)(hl:y.rl.length<=100000):
  Cm prog 74 [l9 b,B t] (fun h=>Gl h/\iB s x d y h) (l5 x.ra s.a5N.a5M x.rc::O2 b s x d y) (HN b y (Ot s d t)):=by
 refine y5 80 func74 rfl rfl rfl ?_;rintro F R ⟨hg,S⟩;refine r7 ?_;refine e_ (sE t ht) (fun h hh _=>hg.le hh) ?_;rintro v A ⟨c,e,k,i,rfl,q⟩;refine Aq (kF A _) fun F1 j ⟨bs,M⟩=>?_;have hk:dW c k F1.heap:=q _ _ M;clear q M;refine E7 ?_;refine i7 rfl ?_;intro g4;refine A1 ?_;have g:iB s x d y F1.heap:=Mn.le j.heap S;have u:=kE ht i;refine r7 ?_;rcases u.er with rfl|rfl|rfl|rfl
 ·refine E7 ?_;refine e_ (ll b s x d y [42] [110,111,32,116,97,103] qb) qw ?_;rintro v A ⟨rfl,a,z,rfl⟩;refine w8 ?_;refine H4 (A:=l5 x.ra s.a5N.a5M x.rc::O2 b s x d (F5 y (fo [42] [110,111,32,116,97,103],L0) a z)) (v:=.tuple #[]) j (BJ ⟨c,11,i,.inl qh⟩ (cH rfl rfl rfl _) g) ?_;exact m6 rfl _ qh (fun w l=>C6 (A:=[_,_,_]) (J:=[_]) tk l)
 ·refine wk 7 ?_;refine e_ (ll b s x d y c.tag [110,111,32,115,117,99,104,32,99,111,109,109,97,110,100] qb) qw ?_;rintro v A ⟨rfl,a,z,rfl⟩;refine w8 ?_;refine H4 (A:=l5 x.ra s.a5N.a5M x.rc::O2 b s x d (F5 y (fo c.tag [110,111,32,115,117,99,104,32,99,111,109,109,97,110,100],L0) a z)) (v:=.tuple #[]) j (BJ ⟨c,10,i,.inr (.inl qh)⟩ (cH rfl rfl rfl _) g) ?_;exact m6 rfl _ qh (fun w l=>C6 (A:=[_,_,_]) (J:=[_]) tk l)
 ·refine wk 9 ?_;refine e_ (ll b s x d y c.tag [119,114,111,110,103,32,119,111,114,100,115] qb) qw ?_;rintro v A ⟨rfl,a,z,rfl⟩;refine w8 ?_;refine H4 (A:=l5 x.ra s.a5N.a5M x.rc::O2 b s x d (F5 y (fo c.tag [119,114,111,110,103,32,119,111,114,100,115],L0) a z)) (v:=.tuple #[]) j (BJ ⟨c,4,i,.inr (.inr (.inl qh))⟩ (cH rfl rfl rfl _) g) ?_;exact m6 rfl _ qh (fun w l=>C6 (A:=[_,_,_]) (J:=[_]) tk l)
 ·have m:=u.kind rfl;refine wk 24 ?_;refine f_ (za rfl rfl) ?_;refine i7 rfl ?_;intro g6;refine r7 ?_;refine B9 (Z:=[.blk g6 (.cells qe.toArray 226)]) tk fun F2 o M=>?_;have p6:F2.heap g6=some (.cells qe.toArray 226 (0,0)):=J_ M;clear M;have D:=Is m.1 m.2
  haveI:=PV m.1 m.2
  refine A1 ?_;refine f_ (bn (n:=(c.kind:Nat)) rfl rfl qb) ?_;refine r_ (p8 (cs:=Ir (O1 c.kind).1 (O1 c.kind).2 (zJ c.kind)) rfl (fun w l=>Tz l p6 (by simpa using D.1) (by simpa using D.2.1) (by simpa using D.2.2)) rfl) ?_;refine i7 rfl ?_;intro T;refine r7 ?_;obtain⟨q1,U⟩:=o8 (decide (s.a5O<(O1 c.kind).1));obtain⟨q2,V⟩:=o8 (decide ((O1 c.kind).2<s.a5O));refine x8 [(0,l9 b),(4,l9 g4),(7,l9 T),(54,.bool (q1||q2))] (.blk T (.cells (Ir (O1 c.kind).1 (O1 c.kind).2 (zJ c.kind)).toArray 225)::.blk g4 (.cells (iA c k).toArray 36)::E9 b s x d y::u7 y.da y.rl y.dc::l5 x.ra s.a5N.a5M x.rc::R) ?_ ?_
  ·cases q1
   all_goals (
    refine w8 ?_;refine D2 [4,6,13,15] [] [E9 b s x d y,.blk T (.cells (Ir (O1 c.kind).1 (O1 c.kind).2 (zJ c.kind)).toArray 225)] 18 ?_;refine wd [0,1,2,3,4,5,6] ?_;refine w_ 7 rfl ((F6 rfl rfl).eq (qn ((qz).trans U.symm))) ?_;refine wd [8,9,10,11,12,13,14,15] ?_;(first|refine s_ 16 ?_|refine t_ 16 ?_|refine E1 16 rfl ((E2 rfl rfl).eq (qn ((qz).trans V.symm))) rfl rfl rfl rfl rfl rfl i6 ?_);refine wd [17] ?_)
   all_goals exact p9 sub (fun w l=>(tk (C:=[_,_,_,_,_])).hp l)
  refine O0 ?_ ?_<;>intro h
  ·have p:s.a5O<(O1 c.kind).1\/(O1 c.kind).2<s.a5O:=(by rw[U,V] at h;simpa using h);refine E7 ?_;refine e_ (ll b s x d y c.tag [110,111,116,32,110,111,119] qb) qw ?_;rintro v A ⟨rfl,a,z,rfl⟩;refine ox ?_;refine H4 (A:=l5 x.ra s.a5N.a5M x.rc::O2 b s x d (F5 y (fo c.tag [110,111,116,32,110,111,119],L0) a z)) (v:=.tuple #[]) (j.trans o) (BJ ⟨c,0,i,.inr (.inr (.inr ⟨rfl,.inl ⟨p,rfl⟩⟩))⟩ (cH rfl rfl rfl _) (Mn.le o.heap g)) ?_;exact m6 rfl _ qh (fun w l=>C6 (A:=[_,_,_]) (J:=[_,_]) tk l)
  ·have p:(O1 c.kind).1<=s.a5O/\s.a5O<=(O1 c.kind).2:=(by rw[U,V] at h;simpa using h);refine O3 ?_;refine rJ (f:=zJ c.kind) (PX b s x d y c k hv Q u.le.le hn hl m.1 m.2) ⟨Mn.le o.heap g,Mn.le o.heap hk⟩ ?_;rintro v A F3 X ⟨rfl,Y,d',O,y',hq,rfl,hy,h0⟩;refine w8 ?_;refine H4 (A:=l5 O.ra Y.a5N.a5M O.rc::O2 b Y O d' y') (v:=.tuple #[]) ((j.trans o).trans X) ⟨rfl,Y,d',O,y',⟨c,0,i,.inr (.inr (.inr ⟨rfl,.inr ⟨p.1,p.2,hq⟩⟩))⟩,rfl,hy,h0⟩ ?_;exact m6 rfl _ qh (fun w l=>C6 (A:=[_,_,_]) (J:=[_,_]) tk l)
def cz(s:SE)(kind:Int)(t:Bs)(s':SE)(d':DD):Prop:=
 if kind=2 then(s',d')=V1 (s,F_) {R0 with kind:=5,text:=[103,111,32,111,110]}
 else if s.a5O=3\/s.a5T=true then(s',d')=(s,F_)
 else if kind=4 then(s',d')=FY (s,F_) [116,111,111,32,108,111,110,103]
 else if kind=3 then∃c e,bw t c e/\(s',d')=V1 (s,F_) (fo (tF c) [116,111,111,32,98,105,103])
 else if kind=1 then Ot s F_ t s' d' else(s',d')=(s,F_)
structure zK(s:SE):Prop where
 a5M:s.a5N.a5M.length<=100000
 a5P:s.a5P.length<=1000000
 cmd:qY s.cmd
 row:∀r∈s.a5N.a5M,r.1<18446744073709551616
 num:s.num<18446744073709551615
theorem zK.le{s:SE}(h:zK s):FZ s:=⟨by have:=h.a5M;omega,h.a5P,h.cmd⟩
def Ev(Q:SE->DD->Prop)(h:l_)(v:Value)(A:List As):Prop:=∃s' d' x' y',Q s' d'/\v=.tuple #[qJ s' x',Lc d' y']/\A=[l5 x'.ra s'.a5N.a5M x'.rc,u7 y'.da y'.rl y'.dc]/\ri M_ y'/\iB s' x' d' y' h
abbrev hdA(kind:Int)(t:Bs):Value:=.agg #[.int .i64 kind,B t]
theorem Nk(s:SE)(x:SL)(kind:Int)(t:Bs)(hs:zK s)(ht:t.length<=1000000000):
  Cm prog 30 [qJ s x,hdA kind t] (fun h=>Gl h/\n9 h x.ra (T8 s.a5N.a5M)/\S5 s x h) [] (Ev (cz s kind t)):=by
 refine y5 64 func30 rfl rfl rfl ?_;rintro F R ⟨hg,hr,X⟩;refine C7 ?_;refine m8 rfl rfl ?_;intro Y;refine m8 rfl rfl ?_;intro Z;refine i7 rfl ?_;intro S;refine i7 rfl ?_;intro T;refine r7 ?_;refine A9 (lD s x hs.le) ⟨hr,X⟩ ?_;rintro v A p D ⟨b,rfl,rfl,g⟩;refine f_ (y8 (ps:=[(0,.tmp 10)]) (vs:=[(0,qJ s b)]) (cells:=(gR s b++kS F_ M_).toArray) rfl i6) ?_;refine m8 rfl rfl ?_;intro q;refine I8 1 ?_;refine D7 (H':=E9 q s b F_ M_::u7 none [] 0::l5 b.ra s.a5N.a5M b.rc::.blk T (.cells (kS F_ M_).toArray 46)::.blk S (.cells (gR oG qZ).toArray 39)::.blk Z (.cells [.int .i64 kind,B t].toArray 41)::.blk Y (.cells (gR s x).toArray 39)::R) (fun w f=>(f.addNil 51 10).perm (.swap _ _ _)) ?_;have o:iB s b F_ M_ p.heap:=⟨g,CX.zero _⟩;obtain⟨b2,h2⟩:=o8 (decide (kind=2));obtain⟨b3,h3⟩:=o8 (decide (s.a5O=3));obtain⟨b4,h4⟩:=o8 (decide (kind=4));obtain⟨b5,h5⟩:=o8 (decide (kind=3));obtain⟨b6,h6⟩:=o8 (decide (kind=1));refine S8 (fun(l:SE) (u:DD) (z:SL×DL) (d:l8)=>p.le d/\cz s kind t l u/\ri M_ z.2/\iB l z.1 u z.2 d.heap) (fun _ _ _ _=>[(4,l9 S),(5,l9 T),(6,l9 q)]) (fun _ _ _ d=>d)
  (fun l u z d=>E9 q l z.1 u z.2::u7 z.2.da z.2.rl z.2.dc::l5 z.1.ra l.a5N.a5M z.1.rc::.blk T (.cells (kS F_ M_).toArray 46)::.blk S (.cells (gR oG qZ).toArray 39)::R) ?_ ?_
 ·refine n8 ?_;refine A1 ?_;refine f_ ((p7 rfl rfl).eq (v':=.bool b2) (qn h2.symm)) ?_;refine r7 ?_;have i:∀(r:RR) (a:Option Addr) (n:Nat) (d:l8),p.le d->fG r L0 d.heap->iB s b {F_ with a5X:=[r]} (F5 M_ (r,L0) a n) d.heap:=fun r a n d hl hz=>⟨Mn.le hl.heap g,rfl,(fun m hm=>by rw[zu.1 (show m∈[(r,L0)] from hm)];exact hz),⟨n9.nil _ _,n9.nil _ _⟩,n9.nil _ _⟩
  cases b2
  case true=>
   have M:kind=2:=qr h2.symm;refine r7 ?_;refine f_ (y8 (ps:=[(0,.const (.int .i64 5)),(3,.const (B [103,111,32,111,110]))]) (vs:=[(0,.int .i64 5),(3,B [103,111,32,111,110])]) (cells:=(tv {R0 with kind:=5,text:=[103,111,32,111,110]} L0).toArray) rfl i6) ?_;refine e_ (V3 q s b F_ M_ {R0 with kind:=5,text:=[103,111,32,111,110]} L0 qp) qw ?_;rintro v A ⟨rfl,a,n,rfl⟩;refine w8 ?_;exact y6 (s,{F_ with a5X:=[{R0 with kind:=5,text:=[103,111,32,111,110]}]},(b,F5 M_ ({R0 with kind:=5,text:=[103,111,32,111,110]},L0) a n),p) ⟨l8.le_refl _,by unfold cz;rw[zg M];rfl,.one rfl,i ({R0 with kind:=5,text:=[103,111,32,111,110]}) a n p (l8.le_refl _) (cH rfl rfl rfl _)⟩ rfl (fun w f=>C6 (A:=[_,_,_,_,_]) (J:=[_,_]) tk f)
  have M:¬kind=2:=zq h2.symm;refine w8 ?_;refine x8 [(2,l9 Y),(3,l9 Z),(4,l9 S),(5,l9 T),(6,l9 q),(20,.bool (b3||s.a5T))] (E9 q s b F_ M_::u7 none [] 0::l5 b.ra s.a5N.a5M b.rc::.blk T (.cells (kS F_ M_).toArray 46)::.blk S (.cells (gR oG qZ).toArray 39)::.blk Z (.cells [.int .i64 kind,B t].toArray 41)::.blk Y (.cells (gR s x).toArray 39)::R) ?_ ?_
  ·cases b3
   all_goals (
    refine A1 ?_;refine f_ ((p7 rfl rfl).eq (qn ((qz).trans h3.symm))) ?_;refine ap ?_)
   all_goals exact p9 sub i_
  refine O0 ?_ ?_<;>intro h
  ·have Q:s.a5O=3\/s.a5T=true:=(by rw[h3] at h;simpa using h);refine w8 ?_;exact y6 (s,F_,(b,M_),p) ⟨l8.le_refl _,by unfold cz;rw[zk M,zg Q],.refl rfl,o⟩ rfl (fun w f=>C6 (A:=[_,_,_,_,_]) (J:=[_,_]) tk f)
  have Q:¬(s.a5O=3\/s.a5T=true):=by rw[h3] at h;simpa using h
  refine A1 ?_;refine f_ ((p7 rfl rfl).eq (v':=.bool b4) (qn h4.symm)) ?_;refine r7 ?_
  cases b4
  case true=>
   have U:kind=4:=qr h4.symm;refine r7 ?_;refine e_ (tJ q s b F_ M_ [116,111,111,32,108,111,110,103] qp) qw ?_;rintro v A ⟨rfl,a,n,rfl⟩;refine w8 ?_;exact y6 ({s with a5O:=3},{F_ with a5X:=[I3 [116,111,111,32,108,111,110,103]],close:=true},(b,F5 M_ (I3 [116,111,111,32,108,111,110,103],L0) a n),p) ⟨l8.le_refl _,by unfold cz;rw[zk M,zk Q,zg U];rfl,.one rfl,⟨⟨g.a5P,g.cmd⟩,(i (I3 [116,111,111,32,108,111,110,103]) a n p (l8.le_refl _) (cH rfl rfl rfl _)).dd.a5X,(i (I3 [116,111,111,32,108,111,110,103]) a n p (l8.le_refl _) (cH rfl rfl rfl _)).dd.rep,⟨n9.nil _ _,n9.nil _ _⟩,n9.nil _ _⟩⟩ rfl (fun w f=>C6 (A:=[_,_,_,_,_]) (J:=[_,_]) tk f)
  have U:¬kind=4:=zq h4.symm;refine A1 ?_;refine f_ ((p7 rfl rfl).eq (v':=.bool b5) (qn h5.symm)) ?_;refine r7 ?_
  cases b5
  case true=>
   have V:kind=3:=qr h5.symm;refine A1 ?_;refine e_ (sE t ht) (fun h hh _=>(hg.le D.heap).le hh) ?_;rintro v A ⟨c,e,k,h0,rfl,y⟩;refine Aq (kF A _) fun d j ⟨bs,hb⟩=>?_;have hk:dW c k d.heap:=y _ _ hb;clear y hb;refine E7 ?_;refine i7 rfl ?_;intro g7;refine O3 ?_;refine c_ rfl (Ee c k) qw rfl ?_;refine e_ (ll q s b F_ M_ (tF c) [116,111,111,32,98,105,103] qp) qw ?_;rintro v A ⟨rfl,a,n,rfl⟩;refine w8 ?_;exact y6 (s,{F_ with a5X:=[fo (tF c) [116,111,111,32,98,105,103]]},(b,F5 M_ (fo (tF c) [116,111,111,32,98,105,103],L0) a n),d) ⟨j,by unfold cz;rw[zk M,zk Q,zk U,zg V];exact⟨c,e,h0,rfl⟩,.one rfl,i (fo (tF c) [116,111,111,32,98,105,103]) a n d j (cH rfl rfl rfl _)⟩ rfl (fun w f=>C6 (A:=[_,_,_,_,_]) (J:=[_,_,_]) tk f)
  have V:¬kind=3:=zq h5.symm;refine A1 ?_;refine f_ ((p7 rfl rfl).eq (v':=.bool b6) (qn h6.symm)) ?_;refine r7 ?_
  cases b6
  case true=>
   have e6:kind=1:=qr h6.symm;refine E7 ?_;refine A9 (Nj q s b F_ M_ t ht hs.a5M hs.row hs.num qp) ⟨hg.le D.heap,o⟩ ?_;rintro v A d j ⟨rfl,l,u,O,C,hq,rfl,hy,h1⟩;refine w8 ?_;exact y6 (l,u,(O,C),d) ⟨j,by unfold cz;rw[zk M,zk Q,zk U,zk V,zg e6];exact hq,hy,h1⟩ rfl (fun w f=>C6 (A:=[_,_,_,_,_]) (J:=[_,_]) tk f)
  have e6:¬kind=1:=zq h6.symm;refine w8 ?_;exact y6 (s,F_,(b,M_),p) ⟨l8.le_refl _,by unfold cz;rw[zk M,zk Q,zk U,zk V,zk e6],.refl rfl,o⟩ rfl (fun w f=>C6 (A:=[_,_,_,_,_]) (J:=[_,_]) tk f)
 rintro l u ⟨O,C⟩ d ⟨j,hq,hn,h7⟩;refine w8 ?_;refine D2 [3,7] [8,9] [E9 q l O u C] 10 ?_;refine wd [0,1,2,3,4,5,6,7,8,9] ?_;refine A4 ?_;refine H4 (A:=[l5 O.ra l.a5N.a5M O.rc,u7 C.da C.rl C.dc]) (v:=.tuple #[qJ l O,Lc u C]) (D.trans j) ⟨l,u,O,C,hq,rfl,rfl,hn,h7⟩ ?_;refine X2 rfl rfl rfl ud rfl ud rfl _ qh (fun w f=>C6 (A:=[_,_]) (J:=[_,_,_]) tk f)
theorem Nl(s:SE)(x:SL)(hs:zK s):
  Cm prog 32 [qJ s x] (fun h=>n9 h x.ra (T8 s.a5N.a5M)/\S5 s x h) [] (Ev (fun D M=>(D,M)=am s)):=by
 obtain⟨i,e,f,d,k,c,l,b,j⟩:=s;refine y5 42 func32 rfl rfl rfl ?_;rintro F R ⟨O,u⟩;refine C7 ?_;refine m8 rfl rfl ?_;intro Q;refine i7 rfl ?_;intro S;refine i7 rfl ?_;intro T;refine r7 ?_;refine A9 (lD ⟨i,e,f,d,k,c,l,b,j⟩ x hs.le) ⟨O,u⟩ ?_;rintro v A U o ⟨g,rfl,rfl,r⟩;refine f_ (y8 (ps:=[(0,.tmp 7)]) (vs:=[(0,qJ ⟨i,e,f,d,k,c,l,b,j⟩ g)]) (cells:=(gR ⟨i,e,f,d,k,c,l,b,j⟩ g++kS F_ M_).toArray) rfl i6) ?_;refine m8 rfl rfl ?_;intro p;refine r7 ?_;refine D7 (H':=E9 p ⟨i,e,f,d,k,c,l,b,j⟩ g F_ M_::u7 none [] 0::l5 g.ra d.a5M g.rc::.blk T (.cells (kS F_ M_).toArray 46)::.blk S (.cells (gR oG qZ).toArray 39)::.blk Q (.cells (gR ⟨i,e,f,d,k,c,l,b,j⟩ x).toArray 39)::R) (fun w q=>(q.addNil 51 10).perm (.swap _ _ _)) ?_;refine E7 ?_
 cases l
 ·refine w8 ?_;refine D2 [3,7] [8,9] [E9 p ⟨i,e,f,d,k,c,false,b,j⟩ g F_ M_] 10 ?_;refine wd [0,1,2,3,4,5,6,7,8,9] ?_;refine A4 ?_;refine H4 (A:=[l5 g.ra d.a5M g.rc,u7 none [] 0]) (v:=.tuple #[qJ ⟨i,e,f,d,k,c,false,b,j⟩ g,Lc F_ M_]) o ⟨_,_,g,M_,rfl,rfl,rfl,.refl rfl,r,CX.zero _⟩ ?_;exact X2 rfl rfl rfl ud rfl ud rfl _ qh (fun w q=>C6 (A:=[_,_]) (J:=[_,_,_,_]) tk q)
 refine r7 ?_;refine e_ (BA p ⟨i,e,f,d,k,c,true,b,j⟩ g F_ M_) qw ?_;rintro v A ⟨rfl,rfl⟩;refine i7 rfl ?_;intro V;refine r7 ?_;obtain⟨C,y⟩:=o8 (decide (b.kind=3));refine A1 ?_;refine f_ ((p7 rfl rfl).eq (v':=.bool C) (qn ((zp.2 (by show((b.kind:Nat):Int)=3↔b.kind=3;omega)).trans y.symm))) ?_;refine w8 ?_
 cases C
 case true=>
  have z:b.kind=3:=qr y.symm;refine E7 ?_;refine e_ (oK p (V8 ⟨i,e,f,d,k,c,true,b,j⟩) {g with cl:=H3,ua:=none,uc:=0} F_ M_ b.tag qp) qw ?_;rintro v A ⟨rfl,a,n,rfl⟩;refine w8 ?_;refine D2 [3,7] [8,9] [E9 p ⟨3,e,f,d,k,c,false,iw,[]⟩ ⟨g.ra,g.rc,none,0,H3⟩ ⟨[I3 dD,dU b.tag],false,cU,false,[],[],true⟩ ⟨a,n,cX,none,0,[(I3 dD,L0),(dU b.tag,L0)]⟩] 10 ?_;refine wd [0,1,2,3,4,5,6,7,8,9] ?_;refine A4 ?_;refine H4 (A:=[l5 g.ra d.a5M g.rc,u7 a [(I3 dD,L0),(dU b.tag,L0)] n]) (v:=.tuple #[qJ ⟨3,e,f,d,k,c,false,iw,[]⟩ ⟨g.ra,g.rc,none,0,H3⟩,Lc ⟨[I3 dD,dU b.tag],false,cU,false,[],[],true⟩ ⟨a,n,cX,none,0,[(I3 dD,L0),(dU b.tag,L0)]⟩]) o ⟨_,_,⟨g.ra,g.rc,none,0,H3⟩,⟨a,n,cX,none,0,[(I3 dD,L0),(dU b.tag,L0)]⟩,by unfold am;rw[zk x4,zg z];rfl,rfl,rfl,.two rfl,⟨n9.nil _ _,dW.zero _⟩,⟨rfl,fun m t=>by rcases kw.1 (show m∈[(I3 dD,L0),(dU b.tag,L0)] from t) with rfl|t;exact cH rfl rfl rfl _;(rw[zu.1 t];exact cH rfl rfl rfl _),⟨n9.nil _ _,n9.nil _ _⟩,n9.nil _ _⟩⟩ ?_;exact X2 rfl rfl rfl ud rfl ud rfl _ qh (fun w q=>C6 (A:=[_,_]) (J:=[_,_,_,_,_]) tk q)
 have z:¬b.kind=3:=zq y.symm;refine E7 ?_;refine e_ (Gb p (V8 ⟨i,e,f,d,k,c,true,b,j⟩) {g with cl:=H3,ua:=none,uc:=0} F_ M_ b.tag [85,78,65,86,65,73,76,65,66,76,69] [116,114,121,32,97,103,97,105,110] qp) qw ?_;rintro v A ⟨rfl,a,n,rfl⟩;refine w8 ?_;refine D2 [3,7] [8,9] [E9 p ⟨i,e,f,d,k,c,false,iw,[]⟩ ⟨g.ra,g.rc,none,0,H3⟩ ⟨[nh b.tag [85,78,65,86,65,73,76,65,66,76,69] [116,114,121,32,97,103,97,105,110]],false,cU,false,[],[],false⟩ ⟨a,n,cX,none,0,[(nh b.tag [85,78,65,86,65,73,76,65,66,76,69] [116,114,121,32,97,103,97,105,110],L0)]⟩] 10 ?_;refine wd [0,1,2,3,4,5,6,7,8,9] ?_;refine A4 ?_;refine H4 (A:=[l5 g.ra d.a5M g.rc,u7 a [(nh b.tag [85,78,65,86,65,73,76,65,66,76,69] [116,114,121,32,97,103,97,105,110],L0)] n]) (v:=.tuple #[qJ ⟨i,e,f,d,k,c,false,iw,[]⟩ ⟨g.ra,g.rc,none,0,H3⟩,Lc ⟨[nh b.tag [85,78,65,86,65,73,76,65,66,76,69] [116,114,121,32,97,103,97,105,110]],false,cU,false,[],[],false⟩ ⟨a,n,cX,none,0,[(nh b.tag [85,78,65,86,65,73,76,65,66,76,69] [116,114,121,32,97,103,97,105,110],L0)]⟩]) o ⟨_,_,⟨g.ra,g.rc,none,0,H3⟩,⟨a,n,cX,none,0,[(nh b.tag [85,78,65,86,65,73,76,65,66,76,69] [116,114,121,32,97,103,97,105,110],L0)]⟩,by unfold am;rw[zk x4,zk z];rfl,rfl,rfl,.one rfl,⟨n9.nil _ _,dW.zero _⟩,⟨rfl,fun m t=>by rw[zu.1 (show m∈[(nh b.tag [85,78,65,86,65,73,76,65,66,76,69] [116,114,121,32,97,103,97,105,110],L0)] from t)];exact cH rfl rfl rfl _,⟨n9.nil _ _,n9.nil _ _⟩,n9.nil _ _⟩⟩ ?_;exact X2 rfl rfl rfl ud rfl ud rfl _ qh (fun w q=>C6 (A:=[_,_]) (J:=[_,_,_,_,_]) tk q)
abbrev zL:RR:={R0 with kind:=1,tag:=[42],text:=[112,111,115,116,104,111,114,110]}
theorem It:Ct prog 20 [] (fun _=>True) [] (fun v A=>∃a,v=.slice a 1 1/\A=[u7 a [(zL,L0)] 1]):=by
 refine b_ 3 func20 rfl rfl rfl ?_;intro F _;refine xG ?_;refine f_ (y8 (ps:=[(0,.const (.int .i64 1)),(1,.const (B [42])),(3,.const (B [112,111,115,116,104,111,114,110]))]) (vs:=[(0,.int .i64 1),(1,B [42]),(3,B [112,111,115,116,104,111,114,110])]) (cells:=(tv zL L0).toArray) rfl i6) ?_;refine C4 yh (zL,L0) rfl ?_;intro b _;refine C5 ?_;exact d_ rfl rfl _ ⟨b,rfl,rfl⟩ i_
structure AN where
 b:Nat
 c:CM
 k:CL
 m:MM
 o:OC
 y:OL
 bx:BM
 us:List Nat
 ua:Option Addr
 uc:Nat
 bl:BL
 ba:Option Addr
 bc:Nat
 r:RR
 z:RL
abbrev anC(x:AN):List Value:=l9 x.b::(iA x.c x.k++iD x.m++tI x.o x.y++cY x.bx++[.slice x.ua x.us.length x.uc,.slice x.ba x.bl.length x.bc]++tv x.r x.z)
abbrev C2(g:Nat)(x:AN):As:=.blk g (.cells (anC x).toArray 149)
abbrev uB(p:Bs×Bs):List Value:=[B p.1,B p.2]
abbrev uC(l:BL):List Value:=l.flatMap uB
theorem ao:∀x,(uB x).length=2:=fun _=>rfl
structure cJ(x:AN)(h:l_):Prop where
 g:Gl h
 c:dW x.c x.k h
 m:iE x.m h
 o:L_ x.o x.y h
 bx:fL x.bx h
 us:n9 h x.ua (nV x.us)
 bl:n9 h x.ba (uC x.bl)
instance {x:AN}:Mn (cJ x):=⟨fun l k=>⟨k.g.le l,Mn.le l k.c,Mn.le l k.m,Mn.le l k.o,Mn.le l k.bx,k.us.le l,k.bl.le l⟩⟩
abbrev LM0:LM:=⟨⟨0,[],0,[],0⟩,none,0⟩
theorem Iu(g u:Nat)(x:LM):Pu prog 225 [.agg (S_ x).toArray,l9 g] (aM g (.int .u64 (u:Nat)) 27) (.bool (decide (x.t.uid=u))):=by
 refine b_ 8 func225 rfl rfl rfl ?_;intro F a;refine C7 ?_;refine m8 rfl rfl ?_;intro c;refine O3 ?_;refine f_ ((p7 rfl rfl).eq (dN x.t.uid u)) ?_;refine C5 ?_;exact d_ rfl rfl [] qh (fun w b=>b.dropAll)
theorem Ew(g:Nat)(u:Bs)(x:Bs×Bs):Pu prog 227 [.agg (uB x).toArray,l9 g] (aM g (B u) 9) (.bool (decide (x.1=u))):=by
 refine b_ 8 func227 rfl rfl rfl ?_;intro F a;refine C7 ?_;refine m8 rfl rfl ?_;intro c;refine O3 ?_;refine f_ ((C8 rfl rfl).eq (v':=.bool (decide (x.1=u))) rfl) ?_;refine C5 ?_;exact d_ rfl rfl [] qh (fun w b=>b.dropAll)
def PY(x:AN)(u:Nat)(lm:LM)(ok:Bool):Prop:=(ok=true->lm∈x.bx.ls/\lm.t.uid=u)/\(ok=false->lm=LM0)
theorem eY(g:Nat)(x:AN)(u:Nat)(hl:x.bx.ls.length<=1000000):Ct prog 154 [l9 g,.int .u64 (u:Nat)] (fun h=>n9 h x.bx.a (qK x.bx.ls)) [C2 g x] (fun v A=>∃o ok,v=.tuple #[Og o,.bool ok]/\PY x u o ok/\A=[C2 g x]):=by
 refine b_ 25 func154 rfl rfl rfl ?_;intro F c;refine C7 ?_;refine L5 rfl rfl rfl ?_;intro d;refine i7 rfl ?_;intro D;refine r7 ?_;refine B9 (Z:=[.blk d (.cells #[.int .u64 (u:Nat)] 27)]) tk fun t a p=>?_;have hp:aM d (.int .u64 (u:Nat)) 27 t.heap:=J_ p;clear p;have k:=cZ (fun x:LM=>decide (x.t.uid=u)) x.bx.ls;obtain⟨i,m⟩:=o8 (D3 (fun x:LM=>decide (x.t.uid=u)) x.bx.ls);refine aq ?_;refine c_ rfl (X9 S_ B0 x.bx.ls x.bx.a x.bx.c 225 [l9 d] (aM d (.int .u64 (u:Nat)) 27) (fun x=>decide (x.t.uid=u)) (fun x _=>Iu d u x) qb) (fun h r _=>⟨(c.le a.heap).le r,r _ _ hp⟩) rfl ?_;rw[<-m];refine r7 ?_;rw[<-m] at k;refine bA ?_ ?_<;>intro h
 ·refine C7 ?_;refine f_ (y8 (ps:=[]) (vs:=[]) (cells:=(S_ LM0).toArray) rfl i6) ?_;refine L7 ?_;exact D5 a (D4 rfl rfl rfl ud rfl _ ⟨LM0,false,rfl,⟨(fun e=>by cases e),fun _=>rfl⟩,rfl⟩ (fun w f=>y4.left tk f))
 have y:0<=i:=by have:=zq h;omega
 obtain⟨j,s⟩:∃j:Nat,i=(j:Nat):=⟨i.toNat,by omega⟩;have b:j<x.bx.ls.length:=by omega
 have z:=(jO (q:=fun x:LM=>decide (x.t.uid=u)) (l:=x.bx.ls) (j:=j) (by rw[<-m,s])).2.1 b;have n:=q_ (c.le a.heap) B0 qp b;rw[s];refine aq ?_;refine f_ (m9 rfl n rfl qb) ?_;refine r_ (p8 rfl (fun w f=>cQ (C:=S_) ((c.le a.heap).le f.keep) B0 qp b x4) (B0 _)) ?_;refine L7 ?_;exact D5 a (D4 rfl rfl rfl ud rfl _ ⟨x.bx.ls[j],true,rfl,⟨fun _=>⟨zy b,qr z⟩,fun e=>by cases e⟩,rfl⟩ (fun w f=>f.drop))
theorem qf(g:Nat)(x:AN)(u:Bs)(hl:x.bl.length<=1000000):Ct prog 155 [l9 g,B u] (fun h=>n9 h x.ba (uC x.bl)) [C2 g x] (fun v A=>∃t ok,v=.tuple #[B t,.bool ok]/\(t=[]\/∃p∈x.bl,t=p.2)/\A=[C2 g x]):=by
 refine b_ 23 func155 rfl rfl rfl ?_;intro F b;refine C7 ?_;refine L5 rfl rfl rfl ?_;intro d;refine A1 ?_;refine B9 (Z:=[.blk d (.cells #[B u] 9)]) tk fun n a k=>?_;have hp:aM d (B u) 9 n.heap:=J_ k;clear k;have e:=cZ (fun x:Bs×Bs=>decide (x.1=u)) x.bl;obtain⟨i,l⟩:=o8 (D3 (fun x:Bs×Bs=>decide (x.1=u)) x.bl);refine ap ?_;refine c_ rfl (lp uB ao x.bl x.ba x.bc 227 [l9 d] (aM d (B u) 9) (fun x=>decide (x.1=u)) (fun x _=>Ew d u x) qb) (fun h m _=>⟨(b.le a.heap).le m,m _ _ hp⟩) rfl ?_;rw[<-l];refine r7 ?_;rw[<-l] at e;refine bA ?_ ?_<;>intro h
 ·refine L7 ?_;exact D5 a (u6 rfl rfl rfl _ ⟨[],false,rfl,.inl rfl,rfl⟩ i_)
 have o:0<=i:=by have:=zq h;omega
 obtain⟨j,q⟩:∃j:Nat,i=(j:Nat):=⟨i.toNat,by omega⟩;have c:j<x.bl.length:=by omega
 have f:=q_ (b.le a.heap) ao qp c;rw[q];refine ap ?_;refine f_ (m9 rfl f rfl qb) ?_;refine r7 ?_;refine r_ (i8 rfl (fun w r=>cD (C:=uB) (j:=1) ((b.le a.heap).le r.keep) ao c rfl x4)) ?_;refine L7 ?_;exact D5 a (u6 rfl rfl rfl _ ⟨x.bl[j].2,true,rfl,.inr ⟨_,zy c,rfl⟩,rfl⟩ i_)
abbrev Iv(x:AN)(lm:LM):Bool:=!x.c.a5R||decide (x.c.a5S<lm.t.mod)
theorem xd(g:Nat)(x:AN)(a:LM):Ct prog 158 [l9 g,Og a] (fun _=>True) [C2 g x] (fun v A=>v=.bool (Iv x a)/\A=[C2 g x]):=by
 obtain⟨d,b⟩:=o8 (x.c.a5R);obtain⟨h,c⟩:=o8 (decide (x.c.a5S<a.t.mod));unfold Iv;rw[<-b,<-c];refine b_ 21 func158 rfl rfl rfl ?_;intro F _;refine C7 ?_;refine m8 rfl rfl ?_;intro e;refine r7 ?_
 cases d
 all_goals (
  refine w8 ?_;refine D2 [4,8,13] [] [C2 g x,.blk e (.cells (S_ a).toArray 156)] 17 ?_;refine wd [0,1,2,3] ?_;refine o0 4 rfl O4 ((E_ rfl ud (v:=.bool x.c.a5R) (by rfl)).eb b) G2 rfl rfl rfl i6 ?_;refine wd [5,6,7,8,9,10,11,12,13] ?_;(first|refine s_ 14 ?_|refine t_ 14 ?_|refine E1 14 rfl ((E2 rfl rfl).eq (qn ((qz).trans c.symm))) rfl rfl rfl rfl rfl rfl i6 ?_);refine wd [15,16] ?_)
 all_goals (refine A4 ?_;exact d_ rfl rfl _ qh (fun w f=>f.drop))
theorem eu(g:Nat)(x:AN)(code text:Bs):Ct prog 164 [l9 g,B code,B text] (fun _=>True) [C2 g x] (fun v A=>v=.tuple #[]/\A=[C2 g {x with r:=nh x.c.tag code text,z:=L0}]):=by
 refine b_ 17 func164 rfl rfl rfl ?_;intro F _;refine wk 8 ?_;refine f_ (y8 (ps:=[(0,.const (.int .i64 2)),(1,.tmp 11),(2,.tmp 12),(3,.tmp 13)]) (vs:=[(0,.int .i64 2),(1,B x.c.tag),(2,B code),(3,B text)]) (cells:=(tv (nh x.c.tag code text) L0).toArray) rfl i6) ?_;refine E7 ?_;exact m6 rfl _ qh fun w a=>a
theorem Iw(g n:Nat)(x:IT):Pu prog 360 [.agg (bR x).toArray,l9 g] (aM g (.int .i64 (n:Nat)) 3) (.bool (decide (x.kind=n))):=by
 refine b_ 8 func360 rfl rfl rfl ?_;intro F a;refine C7 ?_;refine m8 rfl rfl ?_;intro c;refine O3 ?_;refine f_ ((p7 rfl rfl).eq (v':=.bool (decide (x.kind=n))) (qn qz)) ?_;refine C5 ?_;exact d_ rfl rfl [] qh (fun w b=>b.dropAll)
theorem uD(c:CM)(k:CL)(n:Nat)(hl:c.a5Q.length<=1000000):Pu prog 305 [uM c k,.int .i64 (n:Nat)] (fun h=>n9 h k.ia (oJ c.a5Q)) (.bool (c.a5Q.any fun x=>decide (x.kind=n))):=by
 refine b_ 9 func305 rfl rfl rfl ?_;intro F d;refine C7 ?_;refine m8 rfl rfl ?_;intro j;refine L5 rfl rfl rfl ?_;intro a;refine r7 ?_;refine B9 (Z:=[.blk a (.cells #[.int .i64 (n:Nat)] 3)]) tk fun g b e=>?_;have hp:aM a (.int .i64 (n:Nat)) 3 g.heap:=J_ e;clear e;refine E7 ?_;refine c_ rfl (V4 bR Q_ c.a5Q k.ia k.ic 360 [l9 a] (aM a (.int .i64 (n:Nat)) 3) (fun x=>decide (x.kind=n)) (fun x _=>Iw a n x) qb) (fun h f _=>⟨(d.le b.heap).le f,f _ _ hp⟩) rfl ?_;refine C5 ?_;exact D5 b (d_ rfl rfl [] qh (fun w i=>i.dropAll))
theorem zM(kind:Nat)(e:Int):Pu prog 165 [.int .i64 (kind:Nat),.int .i64 e] (fun _=>True) (.tuple #[B (mI kind e).1,B (mI kind e).2]):=by
 obtain⟨m,j⟩:=o8 (decide (e=6));obtain⟨k,f⟩:=o8 (decide (e=12));obtain⟨r,n⟩:=o8 (decide (e=7));obtain⟨l,g⟩:=o8 (decide (e=13));obtain⟨s,o⟩:=o8 (decide (e=1));obtain⟨p,i⟩:=o8 (decide (e=21));obtain⟨t,q⟩:=o8 (decide (kind=14));obtain⟨v,b⟩:=o8 (mI kind e);rw[<-b];unfold mI at b;refine b_ 32 func165 rfl rfl rfl ?_;intro F _;refine I8 2 ?_;refine n8 ?_;refine I8 0 ?_;refine x8 [(0,.int .i64 (kind:Nat)),(1,.int .i64 e),(6,.bool (m&&t||p))] [] ?_ ?_
 ·cases m<;>cases t
  all_goals (
   refine r7 ?_;refine f_ ((p7 rfl rfl).eb j) ?_;refine A1 ?_;(first|refine u_ ?_|(refine v_ ?_;refine f_ ((p7 rfl rfl).eq (qn ((qz).trans q.symm))) ?_));refine E7 ?_;(first|refine u_ ?_|(refine v_ ?_;refine f_ ((p7 rfl rfl).eb i) ?_));refine A1 ?_)
  all_goals exact p9 sub i_
 refine O0 ?_ ?_<;>intro h
 ·have d:e=6/\kind=14\/e=21:=by rw[j,q,i] at h;simpa using h
  refine L7 ?_;exact u6 rfl rfl rfl [] ⟨by rw[b,zg d],rfl⟩ i_
 have d:¬(e=6/\kind=14\/e=21):=by rw[j,q,i] at h;simpa using h
 refine r7 ?_;refine f_ ((p7 rfl rfl).eq (v':=.bool m) (qn j.symm)) ?_;refine r7 ?_
 cases m
 case true=>
  have k6:e=6:=qr j.symm;refine L7 ?_;exact u6 rfl rfl rfl [] ⟨by rw[b,zk d,zg k6],rfl⟩ i_
 have k6:¬e=6:=zq j.symm;refine r7 ?_;refine f_ ((p7 rfl rfl).eq (v':=.bool k) (qn f.symm)) ?_;refine r7 ?_
 cases k
 case true=>
  have a:e=12:=qr f.symm;refine L7 ?_;exact u6 rfl rfl rfl [] ⟨by rw[b,zk d,zk k6,zg a],rfl⟩ i_
 have a:¬e=12:=zq f.symm;refine r7 ?_;refine f_ ((p7 rfl rfl).eq (v':=.bool r) (qn n.symm)) ?_;refine r7 ?_
 cases r
 case true=>
  have k7:e=7:=qr n.symm;refine L7 ?_;exact u6 rfl rfl rfl [] ⟨by rw[b,zk d,zk k6,zk a,zg k7],rfl⟩ i_
 have k7:¬e=7:=zq n.symm;refine r7 ?_;refine f_ ((p7 rfl rfl).eq (v':=.bool l) (qn g.symm)) ?_;refine r7 ?_
 cases l
 case true=>
  have c:e=13:=qr g.symm;refine L7 ?_;exact u6 rfl rfl rfl [] ⟨by rw[b,zk d,zk k6,zk a,zk k7,zg c],rfl⟩ i_
 have c:¬e=13:=zq g.symm;refine r7 ?_;refine f_ ((p7 rfl rfl).eq (v':=.bool s) (qn o.symm)) ?_;refine r7 ?_
 cases s
 case true=>
  have k1:e=1:=qr o.symm;refine L7 ?_;exact u6 rfl rfl rfl [] ⟨by rw[b,zk d,zk k6,zk a,zk k7,zk c,zg k1],rfl⟩ i_
 have k1:¬e=1:=zq o.symm;refine L7 ?_;exact u6 rfl rfl rfl [] ⟨by rw[b,zk d,zk k6,zk a,zk k7,zk c,zk k1],rfl⟩ i_
def uE(i:IT)(lm:LM)(v:RV):Prop:=
 if i.kind=6 then v={V0 with kind:=6,a5Y:=lm.t.a5Y} else if i.kind=7 then v={V0 with kind:=7,n:=lm.t.uid}
 else if i.kind=8 then v={V0 with kind:=8,n:=lm.t.size} else if i.kind=9 then v={V0 with kind:=9,n:=lm.t.mod}
 else∃t:Bs,t.length<=1000000000/\v={V0 with kind:=i.kind,text:=t,part:=i.part,fr:=if i.part then i.fr else 0}
abbrev itA(i:IT):Value:=.agg (bR i).toArray
def a1M(g:Nat)(x:AN)(i:IT)(lm:LM)(v:Value)(A:List As):Prop:=∃(w:VM) (Z:List As),v=vmA w/\uE i lm w.v/\A=C2 g x::Z/\∀h bs,A3 h Z bs->n9 h w.a (fV w.v.a5Y)
abbrev BK(g:Nat)(w:VM):As:=.blk g (.cells (vx w).toArray 110)
theorem xe(g:Nat)(x:AN)(i:IT)(a:LM)(hf:a.t.a5Y.length<=1000000)(hl:x.bl.length<=1000000)(s:∀p∈x.bl,p.2.length<=1000000000):
  Ct prog 308 [l9 g,itA i,Og a] (fun h=>Gl h/\n9 h a.a (fV a.t.a5Y)/\n9 h x.ba (uC x.bl)) [C2 g x] (a1M g x i a):=by
 obtain⟨U,y⟩:=o8 (decide (i.kind=6));obtain⟨V,z⟩:=o8 (decide (i.kind=7));obtain⟨X,D⟩:=o8 (decide (i.kind=8));obtain⟨Y,J⟩:=o8 (decide (i.kind=9));refine b_ 63 func308 rfl rfl rfl ?_;rintro F ⟨hg,M,O⟩;refine C7 ?_;refine m8 rfl rfl ?_;intro g4;refine m8 rfl rfl ?_;intro g5;refine i7 rfl ?_;intro c;refine A1 ?_;refine f_ (y8 (ps:=[(0,.tmp 11)]) (vs:=[(0,.int .i64 (i.kind:Nat))]) (cells:=(vx ⟨{V0 with kind:=i.kind},none,0⟩).toArray) rfl i6) ?_;refine i7 rfl ?_;intro d;refine r7 ?_;refine I8 2 ?_;refine n7 (ι:=VM×List As) (fun q=>uE i a q.1.v/\∀h f,A3 h q.2 f->n9 h q.1.a (fV q.1.v.a5Y)) (fun q=>[(6,l9 c),(7,l9 d)]) (fun q=>BK d q.1::BK c OV::C2 g x::q.2) ?_ ?_
 ·refine n8 ?_;refine C7 ?_;refine f_ ((p7 rfl rfl).eq (v':=.bool U) (qn ((qz).trans y.symm))) ?_;refine r7 ?_
  cases U
  case true=>
   have e:i.kind=6:=qr y.symm;refine A1 ?_;refine e_ (Y4 a.t.a5Y a.a a.c hf) (fun h l _=>M.le l) ?_;rintro v A ⟨o,r,rfl,rfl⟩;refine A1 ?_;refine g_ (⟨{V0 with kind:=i.kind,a5Y:=a.t.a5Y},o,r⟩,[A5 o a.t.a5Y r]) ⟨by unfold uE;rw[zg e,e];rfl,fun h f hs=>A3.rd hs .del⟩ (fun w b=>?_);exact(tk (C:=[BK d ⟨{V0 with kind:=i.kind,a5Y:=a.t.a5Y},o,r⟩,BK c OV,C2 g x,A5 o a.t.a5Y r])).hp b|>.left (A:=[_,_,_,_])
  have e:¬i.kind=6:=zq y.symm;refine C7 ?_;refine f_ ((p7 rfl rfl).eq (v':=.bool V) (qn ((qz).trans z.symm))) ?_;refine r7 ?_
  cases V
  case true=>
   have j:i.kind=7:=qr z.symm;refine O3 ?_;exact g_ (⟨{V0 with kind:=i.kind,n:=a.t.uid},none,0⟩,[]) ⟨by unfold uE;rw[zk e,zg j,j];rfl,fun h f hs=>n9.nil _ _⟩ (fun w b=>(tk (C:=[BK d ⟨{V0 with kind:=i.kind,n:=a.t.uid},none,0⟩,BK c OV,C2 g x])).hp b|>.left (A:=[_,_,_]))
  have j:¬i.kind=7:=zq z.symm;refine C7 ?_;refine f_ ((p7 rfl rfl).eq (v':=.bool X) (qn ((qz).trans D.symm))) ?_;refine r7 ?_
  cases X
  case true=>
   have k:i.kind=8:=qr D.symm;refine O3 ?_;exact g_ (⟨{V0 with kind:=i.kind,n:=a.t.size},none,0⟩,[]) ⟨by unfold uE;rw[zk e,zk j,zg k,k];rfl,fun h f hs=>n9.nil _ _⟩ (fun w b=>(tk (C:=[BK d ⟨{V0 with kind:=i.kind,n:=a.t.size},none,0⟩,BK c OV,C2 g x])).hp b|>.left (A:=[_,_,_]))
  have k:¬i.kind=8:=zq D.symm;refine C7 ?_;refine f_ ((p7 rfl rfl).eq (v':=.bool Y) (qn ((qz).trans J.symm))) ?_;refine r7 ?_
  cases Y
  case true=>
   have m:i.kind=9:=qr J.symm;refine O3 ?_;exact g_ (⟨{V0 with kind:=i.kind,n:=a.t.mod},none,0⟩,[]) ⟨by unfold uE;rw[zk e,zk j,zk k,zg m,m];rfl,fun h f hs=>n9.nil _ _⟩ (fun w b=>(tk (C:=[BK d ⟨{V0 with kind:=i.kind,n:=a.t.mod},none,0⟩,BK c OV,C2 g x])).hp b|>.left (A:=[_,_,_]))
  have m:¬i.kind=9:=zq J.symm;refine E7 ?_;refine e_ (qf g x a.t.hash hl) (fun h l _=>O.le l) ?_;rintro v A ⟨t,ok,rfl,Q,rfl⟩;refine ap ?_;have S:t.length<=1000000000:=by rcases Q with rfl|⟨p,hp,rfl⟩;(simp);exact s p hp
  refine E7 ?_;refine e_ (C:=[]) (pi t i.kind S) (fun h l _=>hg.le l) ?_;rintro v A ⟨⟨u,rfl,hu⟩,rfl⟩;refine A1 ?_;obtain⟨bp,hp⟩:=o8 (i.part);refine r7 ?_;refine r_ ((E_ rfl ud (v:=.bool i.part) (by rfl)).eb hp) ?_;refine w8 ?_
  cases bp
  ·refine w8 ?_;exact g_ (⟨{V0 with kind:=i.kind,text:=u},none,0⟩,[]) ⟨by unfold uE;rw[zk e,zk j,zk k,zk m];exact⟨u,by omega,by rw[<-hp];rfl⟩,fun h f hs=>n9.nil _ _⟩ (fun w b=>(tk (C:=[BK d ⟨{V0 with kind:=i.kind,text:=u},none,0⟩,BK c OV,C2 g x])).hp b|>.left (A:=[_,_,_]))
  ·refine w8 ?_;refine D2 [1,5,7] [3,8,10,12,14] [.blk g4 (.cells (bR i).toArray 129)] 15 ?_;refine wd [0,1,2,4,5,6,7] ?_;refine h_ 3 rfl i6 ?_;refine r_ (E_ rfl ud (v:=B u) (by rfl)) ?_;refine fg [9] ?_;refine h_ 8 rfl i6 ?_;refine e_ (C:=[]) (yA u i.fr i.count qb) qw ?_;rintro v A ⟨⟨T,rfl,h0⟩,rfl⟩;refine fg [10,11,12,13,14] ?_;exact g_ (⟨{V0 with kind:=i.kind,text:=T,part:=true,fr:=i.fr},none,0⟩,[]) ⟨by unfold uE;rw[zk e,zk j,zk k,zk m];exact⟨T,by omega,by rw[<-hp];rfl⟩,fun h f hs=>n9.nil _ _⟩ (fun w b=>(tk (C:=[BK d ⟨{V0 with kind:=i.kind,text:=T,part:=true,fr:=i.fr},none,0⟩,BK c OV,C2 g x])).hp b|>.left (A:=[_,_,_]))
 rintro⟨q,Z⟩ ⟨hq,hz⟩;simp only at hq hz;refine L7 ?_;exact G7 rfl rfl ud rfl _ ⟨q,Z,rfl,hq,rfl,hz⟩ (fun w b=>b.drop.drop)
end Go.Proofs.YtmcepdopookilaaGreatDoor.Rp
namespace Go.Sl
open Go Go.RowKit Go.Proofs.YtmcepdopookilaaGreatDoor.Rp Go.Proofs.Tryz
def zN(l:List Bool):List Value:=l.map Value.bool
theorem Nm(l:List Bool):(zN l).length=l.length:=by simp[zN]
abbrev av(a:Option Addr)(n c:Nat)(l:List Bool):As:=.own (.slice a n c) 4 1 (zN l)
section
variable{P:Program}{N:Nat}{K R:y7}{E:List (Nat×y7)}{L:G0}{F:l8}{H:List As}{ops:Array Oper}{rest:List Oper}{ty:TypeId}{pos:String}{af:Array Edge}{dst:Option Nat}{gd:Option (Nat×Bool)}{t:TypeId}{x y:Operand}
theorem TA{a:Option Addr}{n c:Nat}{l:List Bool}{i:Int}{H':List As}[ha:HA P t false](hl:l.length=n)(u:M2 H (av a n c l) [] H':=by exact ud)(hx:ev L x=some (.pointer (N0 a (i.toNat*1))):=by rfl)(e:0<=i/\i<n:=by omega):dr P ⟨dst,.load t x,ty,pos,af,gd⟩ L F H (.bool (l.getD i.toNat false)):=
 i8 hx fun w d=>iX d u x4 fun j v b=>by
  match j,b with
  |0,b=>
   simp at b;subst b;have h:i.toNat<l.length:=(by omega);rw[Zu,Q3,zN,Zj,zj h];simp[List.getD,h]
theorem nH{a:Option Addr}{n c:Nat}{l:List Bool}{i:Int}{v:Bool}{H':List As}[hs:HS P t 1](hl:l.length=n)(h:GL P N ops rest K E R L F H')(u:M2 H (av a n c l) [av a n c (l.set i.toNat v)] H':=by exact uh)(hx:ev L x=some (.pointer (N0 a (i.toNat*1))):=by rfl)(d:ev L y=some (.bool v):=by rfl)(f:0<=i/\i<n:=by omega):GL P N ops (⟨none,.store t x y,ty,pos,af,none⟩::rest) K E R L F H:=by
 have hp:L6 (zN l) (i.toNat*1) [.bool v]=zN (l.set i.toNat v):=by
  have e:i.toNat<l.length:=by omega
  unfold L6 zN;rw[Zu,Ku,Zc,zg (by simpa using e)];simp
 refine U0 (n:=1) (a:=a) (len:=n) (c:=c) (sz:=1) (xs:=zN l) (te:=4) hx d (H':=H') ?_ rfl qp (fun q b=>by simp[Value.cells] at b;subst b;rfl) (by rw[Nm];omega) h;show M2 H _ [.own (.slice a n c) 4 1 (L6 (zN l) (i.toNat*1) [.bool v])] H';rw[hp];exact u
end
end Go.Sl
namespace Go.Proofs.YtmcepdopookilaaGreatDoor.Rp
open Go Go.Sl Go.RowKit Go.Proofs.Tryz
theorem Ix(a:Option Addr)(n c:Nat)(l:List Bool)(f:UInt8)(b:Bs)(k:Int)(hl:l.length=n)(O:n=b.length+1)(Q:b.length<=1000000000)(w:0<=k/\k<=b.length):
  Ct prog 302 [.slice a n c,Ud f,B b,.int .i64 k] (fun _=>True) [av a n c l] (fun v A=>v=.tuple #[]/\∃m:List Bool,m.length=n/\A=[av a n c m]):=by
 obtain⟨y,z⟩:=o8 (decide (((f.toNat:Nat):Int)=42));obtain⟨C,D⟩:=o8 (decide (((f.toNat:Nat):Int)=37));refine b_ 52 func302 rfl rfl rfl ?_;intro F _;refine B5 (a:=a) (n:=n) (c:=c) (sz:=1) (xs:=zN l) (te:=4) ud fun _ _ d=>?_;have d:=d qb;refine I8 0 ?_;refine x8 [(0,.slice a n c),(1,Ud f),(2,B b),(3,.int .i64 k),(13,.bool (!y&&!C))] [av a n c l] ?_ ?_
 ·cases y
  all_goals (
   refine r7 ?_;refine f_ ((M3 rfl rfl).eq (jy (fun x=>Value.bool (!x)) z.symm)) ?_;refine A1 ?_;(first|refine u_ ?_|(refine v_ ?_;refine f_ ((M3 rfl rfl).eq (jy (fun x=>Value.bool (!x)) D.symm)) ?_));refine r7 ?_)
  all_goals exact p9 sub i_
 refine O0 ?_ ?_<;>intro h
 ·refine I8 0 ?_;refine n7 (ι:=Bool) (fun q=>q=true->k<b.length) (fun q=>[(0,.slice a n c),(3,.int .i64 k),(24,.bool q)]) (fun _=>[av a n c l]) ?_ ?_
  ·obtain⟨r,g⟩:=o8 (decide (k<(b.length:Nat)))
   cases r
   all_goals try have o:=qr g.symm
   all_goals (
    refine E7 ?_;refine f_ ((F6 rfl rfl).eb g) ?_;refine wk 7 ?_)
   all_goals first|exact g_ _ (fun _=>qr g.symm) i_|exact g_ false (fun e=>by cases e) i_
  intro q s;refine O0 ?_ ?_<;>intro h
  ·have o:=s h;refine A1 ?_;refine f_ (p_ rfl rfl qb) ?_;refine f_ (m9 rfl d rfl qb) ?_;refine nH hl ?_;refine ox ?_;exact m6 rfl _ ⟨rfl,_,by rw[jr];exact hl,rfl⟩ i_
  ·refine ox ?_;exact m6 rfl _ ⟨rfl,l,hl,rfl⟩ i_
 refine A1 ?_;refine f_ (m9 rfl d rfl qb) ?_;refine nH hl ?_;refine I8 0 ?_;refine n7 (ι:=List Bool) (fun m=>m.length=n) (fun _=>[]) (fun m=>[av a n c m]) ?_ ?_
 ·refine n8 ?_;refine o7 (ι:=Int×List Bool) (fun i=>0<=i.1/\i.1<=b.length/\i.2.length=n) (fun i=>[(0,.slice a n c),(1,Ud f),(2,B b),(3,.int .i64 i.1)]) (fun i=>[av a n c i.2]) (fun i=>(b.length-i.1).toNat) (k,_) ⟨w.1,w.2,by rw[jr];exact hl⟩ sub i_ ?_;rintro⟨j,m⟩ ⟨t,u,p⟩;simp only at t u p;refine I8 0 ?_;refine n7 (ι:=Bool) (fun q=>q=true->j<b.length) (fun q=>[(0,.slice a n c),(1,Ud f),(2,B b),(3,.int .i64 j),(45,.bool q)]) (fun _=>[av a n c m]) ?_ ?_
  ·obtain⟨r,g⟩:=o8 (decide (j<(b.length:Nat)));obtain⟨J,M⟩:=o8 (decide (((f.toNat:Nat):Int)=42))
   cases r<;>cases J
   all_goals try have o:=qr g.symm
   all_goals (
    refine E7 ?_;refine f_ ((F6 rfl rfl).eb g) ?_;refine A1 ?_;(first|refine u_ ?_|(refine v_ ?_;refine f_ ((p7 rfl rfl).eb M) ?_));refine wk 7 ?_)
   all_goals first|exact g_ _ (fun _=>qr g.symm) i_|exact g_ false (fun e=>by cases e) i_
  intro q s;refine O0 ?_ ?_<;>intro h
  ·have o:=s h;refine A1 ?_;refine f_ (p_ rfl rfl qb) ?_;refine f_ (m9 rfl d rfl qb) ?_;refine nH p ?_;refine E7 ?_;exact l6 (i:=(j,m)) (j+1,_) ⟨by simp only;omega,by simp only;omega,by rw[jr];exact p⟩ qg sub i_
  ·refine w8 ?_;exact g_ m p i_
 intro m p;refine w8 ?_;exact m6 rfl _ ⟨rfl,m,p,rfl⟩ i_
theorem BN(n:Nat):zN (List.replicate n false)=List.replicate n (Value.bool false):=by simp[zN]
theorem nI(d b:Bs)(hp:d.length<=2000000000)(Q:b.length<=1000000):Ct prog 233 [B d,B b] (fun _=>True) [] Ue:=by
 obtain⟨n,u⟩:=o8 (b.length+1);refine b_ 48 func233 rfl rfl rfl ?_;intro F _;refine E7 ?_;refine f_ ((p_ rfl rfl qb).eq (v':=.int .i64 ((n:Nat):Int)) (by congr 1;omega)) ?_;refine nS rfl rfl rfl qb (by show(1:Int)*_<=_;omega) rfl ?_;intro s;rw[jh,<-BN];refine r7 ?_;refine B5 (a:=s) (n:=n) (c:=n) (sz:=1) (xs:=zN (List.replicate n false)) (te:=4) ud fun _ _ f=>?_;have f:=f qb;refine r7 ?_;refine f_ (m9 rfl f rfl qb) ?_;refine nH (i:=0) (l:=List.replicate n false) Kw ?_;refine w8 ?_;refine I8 3 ?_;refine n7 (ι:=Option Addr×List Bool) (fun q=>q.2.length=n) (fun q=>[(1,B b),(5,.slice q.1 n n)]) (fun q=>[av q.1 n n q.2]) ?_ ?_
 ·refine n8 ?_;refine o7 (ι:=Nat×Option Addr×List Bool) (fun i=>i.1<=d.length/\i.2.2.length=n) (fun i=>[(0,B d),(1,B b),(17,.int .i64 (d.length:Nat)),(18,.int .i64 (i.1:Nat)),(5,.slice i.2.1 n n)]) (fun i=>[av i.2.1 n n i.2.2]) (fun i=>d.length-i.1) (0,s,_) ⟨zw _,by simp⟩ sub i_ ?_;rintro⟨j,a5,g⟩ ⟨J,o⟩;simp only at J o;refine R7 ?_ ?_<;>intro h
  ·have x:j<d.length:=(by have:=qr h;omega);refine I8 0 ?_;refine n7 (ι:=Option Addr×List Bool) (fun q=>q.2.length=n) (fun q=>[(0,B d),(1,B b),(17,.int .i64 (d.length:Nat)),(18,.int .i64 (j:Nat)),(5,.slice q.1 n n)]) (fun q=>[av q.1 n n q.2]) ?_ ?_
   ·refine n8 ?_;refine O3 ?_;refine f_ ((p_ rfl rfl qb).eq (v':=.int .i64 ((n:Nat):Int)) (by congr 1;omega)) ?_;refine nS rfl rfl rfl qb (by show(1:Int)*_<=_;omega) rfl ?_;intro e;rw[jh,<-BN];refine r7 ?_;refine I8 3 ?_;refine n7 (ι:=List Bool) (fun m=>m.length=n) (fun m=>[(0,B d),(1,B b),(17,.int .i64 (d.length:Nat)),(18,.int .i64 (j:Nat)),(7,.slice e n n)]) (fun m=>[av e n n m]) ?_ ?_
    ·refine n8 ?_;refine o7 (ι:=Nat×List Bool) (fun i=>i.1<=n/\i.2.length=n) (fun i=>[(0,B d),(1,B b),(6,.int .i64 (j:Nat)),(17,.int .i64 (d.length:Nat)),(18,.int .i64 (j:Nat)),(7,.slice e n n),(25,.slice a5 n n),(26,.int .i64 (n:Nat)),(27,.int .i64 (i.1:Nat))]) (fun i=>[av e n n i.2,av a5 n n g]) (fun i=>n-i.1) (0,_) ⟨zw _,by simp⟩ sub i_ ?_;rintro⟨q,m⟩ ⟨M,r⟩;simp only at M r;refine R7 ?_ ?_<;>intro h
     ·have y:q<n:=(by have:=qr h;omega);refine B5 (a:=a5) (n:=n) (c:=n) (sz:=1) (xs:=zN g) (te:=4) ud fun _ _ k=>?_;have k:=k qb;refine I8 0 ?_;refine n7 (ι:=List Bool) (fun m=>m.length=n) (fun m=>[(0,B d),(1,B b),(6,.int .i64 (j:Nat)),(17,.int .i64 (d.length:Nat)),(18,.int .i64 (j:Nat)),(7,.slice e n n),(25,.slice a5 n n),(26,.int .i64 (n:Nat)),(27,.int .i64 (q:Nat))]) (fun m=>[av e n n m,av a5 n n g]) ?_ ?_
      ·refine n8 ?_;refine r7 ?_;refine f_ (m9 rfl k rfl qb) ?_;refine r_ (TA (i:=(q:Nat)) o) ?_;refine eM ?_ ?_<;>intro h
       ·refine aq ?_;refine e_ (Ix e n n m (d.getD j 0) b (q:Nat) r u qb qb) qw ?_;rintro v A ⟨rfl,z,p,rfl⟩;refine w8 ?_;exact g_ z p i_
       ·refine w8 ?_;exact g_ m r i_
      intro z p;refine A1 ?_;exact l6 (i:=(q,m)) (q+1,z) ⟨y,p⟩ qg sub i_
     ·refine w8 ?_;exact g_ m r (fun w C=>y4.left tk C)
    intro m r;refine A1 ?_;exact g_ (e,m) r i_
   rintro⟨O,D⟩ t;simp only at t;refine A1 ?_;exact l6 (i:=(j,a5,g)) (j+1,O,D) ⟨x,t⟩ qg sub i_
  ·refine w8 ?_;exact g_ (a5,g) o i_
 rintro⟨a5,g⟩ o;simp only at o;refine w8 ?_;refine B5 (a:=a5) (n:=n) (c:=n) (sz:=1) (xs:=zN g) (te:=4) ud fun _ _ k=>?_;have k:=k qb;refine E7 ?_;refine f_ (m9 rfl k rfl qb) ?_;refine r_ (TA (i:=(b.length:Nat)) o) ?_;refine C5 ?_;exact d_ rfl rfl [] ⟨⟨_,rfl⟩,rfl⟩ (fun w C=>C.drop)
structure rt(x:AN):Prop where
 ls:x.bx.ls.length<=1000
 fl:∀lm∈x.bx.ls,lm.t.a5Y.length<=1000
 bl:x.bl.length<=1000
 body:∀p∈x.bl,p.2.length<=1000000
 c:qY x.c
theorem zO(m:KM):Pu prog 303 [Td m] (fun _=>True) (.bool (decide (m.k.kind=10))):=by
 refine b_ 6 func303 rfl rfl rfl ?_;intro F _;refine C7 ?_;refine m8 rfl rfl ?_;intro b;refine E7 ?_;refine f_ ((p7 rfl rfl).eq (v':=.bool (decide (m.k.kind=10))) (qn qz)) ?_;refine C5 ?_;exact d_ rfl rfl [] qh (fun w a=>a.dropAll)
abbrev BO(nums:List Nat)(m:Nat):RR:={R0 with kind:=13,nums:=nums,mod:=m}
abbrev xK(g:Nat)(r:RR)(z:RL):As:=.blk g (.cells (tv r z).toArray 51)
theorem PZ{x:AN}{a:LM}{ok:Bool}{u:Nat}(hx:rt x)(h:PY x u a ok):a.t.a5Y.length<=1000:=by
 cases ok
 ·rw[h.2 rfl];simp
 ·exact hx.fl _ (h.1 rfl).1
theorem Qa{x:AN}{a:LM}{ok:Bool}{u:Nat}{hp:l_}(hx:cJ x hp)(h:PY x u a ok):n9 hp a.a (fV a.t.a5Y):=by
 cases ok
 ·rw[h.2 rfl];exact n9.nil _ _
 ·exact hx.bx.fl _ (h.1 rfl).1
theorem Ex(g:Nat)(x:AN)(s:SE)(sl:SL)(d:DD)(y:DL)(hx:rt x)(hv:s.a5N.a5M.length<=100000)(hl:y.rl.length<=100000):
  Cm prog 235 [l9 g] (cJ x) (C2 g x::l5 sl.ra s.a5N.a5M sl.rc::O2 x.b s sl d y) (fun h v A=>v=.tuple #[]/\∃nums m z a c,nums.length<=s.a5N.a5M.length/\fG (BO nums m) z h/\yR z/\A=C2 g x::l5 sl.ra s.a5N.a5M sl.rc::O2 x.b s sl d (F5 y (BO nums m,z) a c)):=by
 have h3:=hx.c;have q7:=hx.ls;have q8:=hx.bl;refine y5 133 func235 rfl rfl rfl ?_;rintro F R Q;obtain⟨kl,h4,h5,h9⟩:=Q.c.keys;have h6:=db h4;have q6:=h3.keys;have f:=cj aJ R1 kl x.k.ka x.k.kc 303 [] (fun _=>True) (fun m=>decide (m.k.kind=10)) (fun m _=>zO m) qb;rw[h6] at f;have k0:∀m∈kl,EQ m.k:=fun m hm=>h3.ksets _ (by rw[<-h4];exact Q5 hm);have r:=fun(u:LM) (p:PL) (t:Bs) (h1:u.t.a5Y.length<=1000000) (h2:t.length<=1000000000)=>HL x.k.ka x.k.kc kl u p t qb k0 h1 h2;simp only[h6] at r;obtain⟨bm,k8⟩:=o8 (kl.any fun m=>decide (m.k.kind=10));rw[<-k8] at f;refine C7 ?_;refine f_ (y8 (ps:=[(0,.const (.int .i64 13))]) (vs:=[(0,.int .i64 13)]) (cells:=(tv (BO [] 0) L0).toArray) rfl i6) ?_;refine i7 rfl ?_;intro D;refine aq ?_;refine c_ rfl f (fun h V _=>⟨h5.le V,trivial⟩) rfl ?_;refine wk 11 ?_;refine f_ ((y9 rfl qb).eq (v':=.int .u64 (s.a5N.a5M.length:Nat)) rfl) ?_;refine f_ (y8 (ps:=[(1,.tmp 30)]) (vs:=[(1,.int .u64 (s.a5N.a5M.length:Nat))]) (cells:=(HH ⟨0,s.a5N.a5M.length,0⟩).toArray) rfl i6) ?_;refine i7 rfl ?_;intro O;refine r7 ?_;refine I8 11 ?_;refine B5 (a:=sl.ra) (n:=s.a5N.a5M.length) (c:=sl.rc) (sz:=2) (xs:=T8 s.a5N.a5M) (te:=72) ud fun _ _ S=>?_;refine n7 (ι:=Nat) (fun _=>True) (fun k=>[(0,l9 g),(2,l9 D),(3,.bool bm),(4,l9 O)]) (fun k=>.blk O (.cells (HH ⟨0,s.a5N.a5M.length,k⟩).toArray 333)::xK D (BO [] 0) L0::C2 g x::l5 sl.ra s.a5N.a5M sl.rc::E9 x.b s sl d y::u7 y.da y.rl y.dc::R) ?_ ?_
 ·refine n8 ?_;refine o7 (ι:=Nat×Nat) (fun i=>i.1<=s.a5N.a5M.length) (fun i=>[(0,l9 g),(2,l9 D),(3,.bool bm),(4,l9 O),(40,.slice sl.ra s.a5N.a5M.length sl.rc),(41,.int .i64 (s.a5N.a5M.length:Nat)),(42,.int .i64 (i.1:Nat))]) (fun i=>.blk O (.cells (HH ⟨0,s.a5N.a5M.length,i.2⟩).toArray 333)::xK D (BO [] 0) L0::C2 g x::l5 sl.ra s.a5N.a5M sl.rc::E9 x.b s sl d y::u7 y.da y.rl y.dc::R) (fun i=>s.a5N.a5M.length-i.1) (0,0) (zw _) sub i_ ?_;rintro⟨j,k⟩ hj;simp only at hj;refine R7 ?_ ?_<;>intro h
  ·have T:j<s.a5N.a5M.length:=(by have:=qr h;omega);have X:=S qb;refine C7 ?_;refine f_ (m9 rfl X rfl qb) ?_;refine r_ (p8 rfl (fun w b=>cQ (C:=dV) (b.ownN (t:=72) ud).2.2.1 B4 qp T x4) (B4 _)) ?_;refine i7 rfl ?_;intro g6;refine ap ?_;refine f_ ((nR rfl rfl).eq (v':=.int .u64 ((max k s.a5N.a5M[j].1:Nat):Int)) (by show Value.int .u64 (max ((k:Nat):Int) ((s.a5N.a5M[j].1:Nat):Int))=_;congr 1;omega)) ?_;refine O3 ?_;exact l6 (i:=(j,k)) (j+1,max k s.a5N.a5M[j].1) T qg sub (fun w b=>b.drop)
  ·refine w8 ?_;exact g_ k trivial i_
 intro k _;refine I8 11 ?_;refine lA (fun(nums:List Nat) (m:Nat) (o:AC) (M:Nat)=>nums.length<=s.a5N.a5M.length) (fun _ _ _ _=>[(0,l9 g),(2,l9 D)]) (fun nums m o M=>xK D (BO nums m) ⟨o.1,o.2,none,0,none,0,[]⟩::U3 o.1 nums o.2::C2 g x::l5 sl.ra s.a5N.a5M sl.rc::E9 x.b s sl d y::u7 y.da y.rl y.dc::R) ?_ ?_
 ·refine n8 ?_;refine gD (fun(j:Nat) (nums:List Nat) (m:Nat) (o:AC) (M:Nat) (_:Unit)=>j<=s.a5N.a5M.length/\nums.length<=j) (fun j nums m o M _=>[(0,l9 g),(2,l9 D),(3,.bool bm),(4,l9 O),(61,.slice sl.ra s.a5N.a5M.length sl.rc),(62,.int .i64 (s.a5N.a5M.length:Nat)),(63,.int .i64 (j:Nat))]) (fun j nums m o M (_:Unit)=>xK D (BO nums m) ⟨o.1,o.2,none,0,none,0,[]⟩::U3 o.1 nums o.2::.blk O (.cells (HH ⟨M,s.a5N.a5M.length,k⟩).toArray 333)::C2 g x::l5 sl.ra s.a5N.a5M sl.rc::E9 x.b s sl d y::u7 y.da y.rl y.dc::R) (fun j nums m o M _=>s.a5N.a5M.length-j) 0 [] 0 (none,0) 0 () ⟨zw _,zr _⟩ sub (fun w b=>(b.addNil 27 1).perm (List.Perm.trans (.cons _ (.swap _ _ _)) (.swap _ _ _))) ?_;rintro j nums m o M _ ⟨hj,h7⟩;refine R7 ?_ ?_<;>intro h
  ·have T:j<s.a5N.a5M.length:=(by have:=qr h;omega);have X:=S qb;refine I8 0 ?_;refine lA (fun(nums:List Nat) (m:Nat) (o:AC) (M:Nat)=>nums.length<=j+1) (fun _ _ _ _=>[(0,l9 g),(2,l9 D),(3,.bool bm),(4,l9 O),(61,.slice sl.ra s.a5N.a5M.length sl.rc),(62,.int .i64 (s.a5N.a5M.length:Nat)),(63,.int .i64 (j:Nat))]) (fun nums m o M=>xK D (BO nums m) ⟨o.1,o.2,none,0,none,0,[]⟩::U3 o.1 nums o.2::.blk O (.cells (HH ⟨M,s.a5N.a5M.length,k⟩).toArray 333)::C2 g x::l5 sl.ra s.a5N.a5M sl.rc::E9 x.b s sl d y::u7 y.da y.rl y.dc::R) ?_ ?_
   ·refine n8 ?_;refine r7 ?_;refine f_ (m9 rfl X rfl qb) ?_;refine r_ (p8 rfl (fun w b=>cQ (C:=dV) (b.ownN (t:=72) ud).2.2.1 B4 qp T x4) (B4 _)) ?_;refine i7 rfl ?_;intro g8;refine E7 ?_;refine f_ ((p_ rfl rfl qb).eq (v':=.int .i64 ((j+1:Nat):Int)) (by congr 1)) ?_;refine f_ ((y9 rfl qb).eq (v':=.int .u64 ((j+1:Nat):Int)) rfl) ?_;refine ap ?_;refine e_ (eY g x s.a5N.a5M[j].1 qb) (fun h V _=>Q.bx.ls.le V) ?_;rintro v A ⟨u,ok,rfl,h8,rfl⟩;refine E7 ?_;refine i7 rfl ?_;intro g9;refine A1 ?_;have q9:=PZ hx h8;have k9:=Qa Q h8;refine E7 ?_;refine e_ (qf g x u.t.hash qb) (fun h V _=>Q.bl.le V) ?_;rintro v A ⟨t,x0,rfl,q0,rfl⟩;refine ap ?_;have q1:t.length<=1000000000:=by rcases q0 with rfl|⟨p,hp,rfl⟩;(simp);have:=hx.body p hp;omega
    cases ok
    ·refine w8 ?_;refine D2 [7,8,9] [] [C2 g x,.blk g9 (.cells (S_ u).toArray 156),.blk O (.cells (HH ⟨j+1,s.a5N.a5M.length,k⟩).toArray 333)] 14 ?_;refine wd [0,1,2,3,4,5,6,7,8,9,10] ?_;refine h_ 11 rfl i6 ?_;(first|refine u_ ?_|(refine v_ ?_;fail));refine E6 [12,13] ?_;exact g_ (nums,m,o,j+1) qg (fun w b=>C6 (A:=[_,_,_,C2 g x,l5 sl.ra s.a5N.a5M sl.rc,E9 x.b s sl d y,u7 y.da y.rl y.dc]) (J:=[_,_]) tk b)
    refine w8 ?_;refine D2 [7,8,9] [] [C2 g x,.blk g9 (.cells (S_ u).toArray 156),.blk O (.cells (HH ⟨j+1,s.a5N.a5M.length,k⟩).toArray 333)] 14 ?_;refine wd [0,1,2,3,4,5,6,7,8,9,10] ?_;refine h_ 11 rfl i6 ?_;(first|refine u_ ?_|(refine v_ ?_;refine e_ (C:=[]) (r u ⟨j+1,s.a5N.a5M.length,k⟩ t qb q1) (fun h V _=>⟨Q.g.le V,h5.le V,fun m hm=>(h9 m hm).le V,k9.le V⟩) ?_;rintro v A ⟨⟨q,rfl⟩,rfl⟩));refine E6 [12,13] ?_;refine o9 rfl ?_ ?_<;>intro h
    ·refine w8 ?_;exact g_ (nums,m,o,j+1) qg (fun w b=>C6 (A:=[_,_,_,C2 g x,l5 sl.ra s.a5N.a5M sl.rc,E9 x.b s sl d y,u7 y.da y.rl y.dc]) (J:=[_,_]) tk b)
    refine ap ?_;refine n7 (ι:=List Nat×AC) (fun q=>q.1.length<=j+1) (fun q=>[(0,l9 g),(2,l9 D),(3,.bool bm),(4,l9 O),(9,l9 g9),(61,.slice sl.ra s.a5N.a5M.length sl.rc),(62,.int .i64 (s.a5N.a5M.length:Nat)),(63,.int .i64 (j:Nat))]) (fun q=>xK D (BO q.1 m) ⟨q.2.1,q.2.2,none,0,none,0,[]⟩::U3 q.2.1 q.1 q.2.2::.blk g9 (.cells (S_ u).toArray 156)::.blk O (.cells (HH ⟨j+1,s.a5N.a5M.length,k⟩).toArray 333)::C2 g x::l5 sl.ra s.a5N.a5M sl.rc::E9 x.b s sl d y::u7 y.da y.rl y.dc::R) ?_ ?_
    ·refine o9 rfl ?_ ?_<;>intro h
     ·refine O3 ?_;refine gC (n:=u.t.uid) ?_;intro q2;refine jW (l:=nums) (m:=[u.t.uid]) (by show(nums.length+1)*8<=_;omega) ?_;intro Y h0;refine A1 ?_;exact g_ (nums++[u.t.uid],Y,h0) (by rw[zz];simp only[zx,zn];omega) (fun w b=>C6 (A:=[_,_,_,_,C2 g x,l5 sl.ra s.a5N.a5M sl.rc,E9 x.b s sl d y,u7 y.da y.rl y.dc]) (J:=[_,_]) tk b)
     ·refine O3 ?_;refine gC (n:=j+1) ?_;intro q2;refine jW (l:=nums) (m:=[j+1]) (by show(nums.length+1)*8<=_;omega) ?_;intro Y h0;refine A1 ?_;exact g_ (nums++[j+1],Y,h0) (by rw[zz];simp only[zx,zn];omega) (fun w b=>C6 (A:=[_,_,_,_,C2 g x,l5 sl.ra s.a5N.a5M sl.rc,E9 x.b s sl d y,u7 y.da y.rl y.dc]) (J:=[_,_]) tk b)
    rintro⟨e,o2⟩ U;simp only at U;refine R7 ?_ ?_<;>intro h
    ·refine O3 ?_;refine f_ ((nR rfl rfl).eq (v':=.int .u64 ((max m u.t.mod:Nat):Int)) (by show Value.int .u64 (max ((m:Nat):Int) ((u.t.mod:Nat):Int))=_;congr 1;omega)) ?_;refine A1 ?_;exact g_ (e,max m u.t.mod,o2,j+1) U (fun w b=>C6 (A:=[_,_,_,C2 g x,l5 sl.ra s.a5N.a5M sl.rc,E9 x.b s sl d y,u7 y.da y.rl y.dc]) (J:=[_]) tk b)
    ·refine w8 ?_;exact g_ (e,m,o2,j+1) U (fun w b=>C6 (A:=[_,_,_,C2 g x,l5 sl.ra s.a5N.a5M sl.rc,E9 x.b s sl d y,u7 y.da y.rl y.dc]) (J:=[_]) tk b)
   intro e m2 o2 q3 U;refine A1 ?_;exact l6 (i:=(j,nums,m,o,M,())) (j+1,e,m2,o2,q3,()) ⟨T,U⟩ qg sub i_
  ·refine w8 ?_;exact g_ (nums,m,o,M) qg (fun w b=>C6 (A:=[_,_]) (J:=[_]) tk b)
 intro nums m o M h7;refine w8 ?_;refine B9 (Z:=[U3 o.1 nums o.2]) tk fun F1 q4 ⟨bs,hb⟩=>?_;have q5:n9 F1.heap o.1 (nV nums):=A3.rd hb ud;clear hb;refine w8 ?_;refine D2 [3,4] [5] [C2 g x,xK D (BO nums m) ⟨o.1,o.2,none,0,none,0,[]⟩] 6 ?_;refine wd [0,1,2,3,4] ?_;refine h_ 5 rfl i6 ?_;refine e_ (V3 x.b s sl d y (BO nums m) ⟨o.1,o.2,none,0,none,0,[]⟩ qb) qw ?_;rintro v A ⟨rfl,a,c,rfl⟩;refine E6 [] ?_;refine H4 (A:=C2 g x::l5 sl.ra s.a5N.a5M sl.rc::O2 x.b s sl d (F5 y (BO nums m,⟨o.1,o.2,none,0,none,0,[]⟩) a c)) (v:=.tuple #[]) q4 ⟨rfl,nums,m,_,a,c,h7,⟨rfl,q5,n9.nil _ _,n9.nil _ _,qy⟩,qh,rfl⟩ ?_;exact m6 rfl _ qh (fun w b=>C6 (A:=[_,_,_,_]) (J:=[_]) tk b)
