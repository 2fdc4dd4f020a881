import Derived.Test.YtmcepdopookilaaGreatDoorutx17
set_option maxHeartbeats 16000000
set_option maxRecDepth 8000
set_option linter.unusedVariables false
set_option linter.unusedSimpArgs false
set_option linter.defProp false
namespace Go.Proofs.YtmcepdopookilaaGreatDoor.Rp
open Go Go.Sl Go.RowKit Go.Proofs.Tryz
theorem Il(g:Nat)(r:RQ)(q:QL)(x:SX):Pu prog 105 [.agg (nj x).toArray,l9 g] (fun h=>h g=some (.cells (eA r q).toArray 44 (0,0))) (.bool (decide (x.node=r.node))):=by
 refine b_ 9 func105 rfl rfl rfl ?_;intro F hf;refine C6 ?_;refine m9 rfl rfl ?_;intro b;refine KN ?_;exact d_ rfl rfl [] qh (fun w a=>a.dropAll)
theorem Tn{F:l6}{w:World}{x k s u v:As}{T E:List As}(h:Hp F w (x::k::s::u::v::(T++E))):Hp F w (s::k::u::v::(T++([]++E))):=(h.drop.perm (.swap _ _ _))
theorem To{F:l6}{w:World}{x y k s u v:As}{T E:List As}(h:Hp F w (x::y::k::s::u::v::(T++E))):Hp F w (x::k::u::v::(T++([s]++E))):=by
 have a:Hp F w (x::k::s::u::v::(T++E)):=(h.perm (.swap _ _ _)).drop;have b:Hp F w ([x,k]++(s::([u,v]++T)++E)):=a;have c:Hp F w ([x,k]++(([u,v]++T)++([s]++E))):=b.perm (Z5 _ (Qd (l₁:=[u,v]++T) (l₂:=E)).symm);exact c.perm x6
theorem Tp{F:l6}{w:World}{k s u v:As}{T E:List As}(h:Hp F w (k::u::v::(T++([s]++E)))):Hp F w (k::(s::u::v::T++E)):=by
 have a:Hp F w (([k,u,v]++T)++s::E):=by simpa using h
 have b:Hp F w (s::(([k,u,v]++T)++E)):=a.perm Qd;exact b.perm (.swap _ _ _)
abbrev BF(m:MM)(r:RQ)(sl:List SX)(a:Option Addr)(c:Nat):MM:={m with a5H:=sl++[⟨m.nses,0,r.node,r.life,r.tr⟩],nses:=m.nses+1,sa:=a,sc:=c}
theorem wT{F:l6}{w:World}:∀{E T:List As},Hp F w (E++T)->Hp F w T
 |[],_,h=>h
 |_::_,_,h=>wT (Hp.drop h)
theorem On{F:l6}{w:World}{k s u v x:As}{T E R:List As}(h:Hp F w (k::v::x::s::u::(T++(E++R)))):Hp F w (k::(s::v::u::T++R)):=by
 have a:Hp F w (x::s::k::v::u::(T++(E++R))):=h.perm (kz (l₁:=[k,v]) (l₂:=[x,s])|>.append_right _);have b:Hp F w (([s,k,v,u]++T)++(E++R)):=by simpa using a.drop
 have c:Hp F w (E++(([s,k,v,u]++T)++R)):=b.perm (by rw[<-zh,<-zh];exact kz.append_right R);have d:Hp F w (s::k::v::u::(T++R)):=by simpa using wT c
 exact d.perm (.swap _ _ _)
theorem Nb(b:Nat)(m:MM)(r:RQ)(q:QL)(hm:m.a5G.length<=8)(x0:m.a5H.length<=1000)(hs:m.a5G.Pairwise fun x y=>x.node<y.node)(hr:∀x∈m.a5G,0<=x.node/\x.node<=100)(hn:m.nses<=D9):HB 56 b m r q (lU m.s r):=by
 refine y4 160 func56 rfl rfl rfl ?_;rintro F R ⟨k0,x1⟩;refine p_ ?_;refine au ?_;intro O;refine p_ ?_;refine B8 (Z:=[.blk O (.cells (eA r q).toArray 44)]) tk fun F1 p Q=>?_;have p3:F1.heap O=some (.cells (eA r q).toArray 44 (0,0)):=I_ Q;clear Q;obtain⟨q1,h1⟩:=o7 (decide (r.node<1));obtain⟨q2,h2⟩:=o7 (decide (5<r.node));obtain⟨q3,h3⟩:=o7 (decide (r.life=0));obtain⟨q4,h4⟩:=o7 (decide (r.tr=0));have d:∀x∈m.a5F,iz x.ls F1.heap:=fun x hx=>Mn.le p.heap (k0 x hx);refine w6 [(0,l9 b),(3,l9 O),(29,.bool (q1||(q2||(q3||q4))))] (R9 b m r q B9 M9::(uL m++R)) ?_ ?_
 ·cases q1<;>cases q2<;>cases q3
  all_goals (
   refine y9 ?_;refine f_ ((E_ rfl rfl).eb h1) ?_;refine E5 ?_;(first|refine u_ ?_|(refine v_ ?_;refine f_ ((D_ rfl rfl).eb h2) ?_));refine O2 ?_;(first|refine u_ ?_|(refine v_ ?_;refine f_ ((p8 rfl rfl).eq (qn ((qz).trans h3.symm))) ?_));refine O2 ?_;(first|refine u_ ?_|(refine v_ ?_;refine f_ ((p8 rfl rfl).eq (qn ((qz).trans h4.symm))) ?_));refine p_ ?_)
  all_goals exact o_ sub i_
 refine u7 ?_;have hq:(q1||(q2||(q3||q4)))=true↔(r.node<1\/5<r.node\/r.life=0\/r.tr=0):=by
  rw[h1,h2,h3,h4];simp
 refine o8 rfl ?_ ?_<;>intro h
 ·have es:lU m.s r=(m.s,B9,1):=by unfold lU;rw[zu (hq.1 h)]
  rw[es];refine C8 ?_;exact C9 m B9 M9 rfl rfl p i_ rfl qx d (L_.zero _)
 have hc:¬(r.node<1\/5<r.node\/r.life=0\/r.tr=0):=fun k=>by rw[hq.2 k] at h;cases h
 refine C6 ?_;refine i7 rfl ?_;intro g4;refine u7 ?_;refine D8 [3,5] [6] [R9 b m r q B9 M9] 8 ?_;refine wd [0,1,2,3,4,5] ?_;refine h_ 6 rfl i6 ?_;refine e_ rfl (Ld m r.node qb) (fun h hh ⟨bs,Q⟩=>A3.rd Q ud) rfl ?_;refine E6 [7] ?_;obtain⟨u,o⟩:=o7 (((gS m.s r.node).map fun i=>m.a5G.getD i NV).getD NV);have es:lU m.s r=if r.life<u.life then((m.s,B9,14):AR) else if u.life=r.life/\r.tr<=u.tr then(match gn m.s r.node r.tr with
   |none=>(m.s,B9,14)
   |some i=>(m.s,{B9 with ses:=(m.a5H.getD i ⟨0,0,0,0,0⟩).ses},0)) else if 16<=(if u.life<r.life then m.a5H.filter fun x=>!decide (x.node=r.node) else m.a5H).length\/CU<=m.nses then(m.s,B9,7) else(mZ {m.s with a5H:=(if u.life<r.life then m.a5H.filter fun x=>!decide (x.node=r.node) else m.a5H)++[⟨m.nses,0,r.node,r.life,r.tr⟩],nses:=m.nses+1} (gS m.s r.node) ⟨r.node,r.life,r.tr⟩,{B9 with ses:=m.nses},0):=by
  unfold lU;rw[zk hc,o];rfl
 rw[es];clear es;refine y9 ?_;refine w6 [(0,l9 b),(3,l9 O),(4,l9 g4),(5,.int .i64 (D1 (fun x=>decide (x.node=r.node)) m.a5G))] (.blk g4 (.cells (gr u).toArray 104)::R9 b m r q B9 M9::(uL m++R)) ?_ ?_
 ·refine o8 rfl ?_ ?_<;>intro h
  ·have V:¬D1 (fun x:HO=>decide (x.node=r.node)) m.a5G<0:=(by have:=qr h;omega);obtain⟨i,hi,s,ha⟩:=sH V;rw[ha] at o;replace o:u=m.a5G[i]:=(by rw[o];show m.a5G.getD i NV=_;rw[zd,zj s];rfl);subst o;refine B4 (a:=m.ha) (n:=m.a5G.length) (c:=m.hc) (sz:=3) (xs:=JT m.a5G) (te:=104) ud fun _ _ f=>?_;have f:=f qb;rw[hi];refine wk 7 ?_;refine r_ (w8 rfl (fun w g=>fe (g.ownN (t:=104) ud).2.2.1 O5 qp s x6) (O5 _)) ?_;refine p_ ?_;exact o_ sub i_
  ·have V:D1 (fun x:HO=>decide (x.node=r.node)) m.a5G<0:=(by have:=zq h;omega);rw[sG V] at o;replace o:u=NV:=o;subst o;refine u7 ?_;exact o_ sub i_
 refine u7 ?_;obtain⟨q5,S⟩:=o7 (decide (r.life<u.life));refine O2 ?_;refine f_ ((D_ rfl rfl).eq (v':=.bool q5) (qn ((qz).trans S.symm))) ?_;refine u7 ?_
 cases q5
 case true=>
  rw[zu (qr S.symm)];refine C8 ?_;exact C9 m B9 M9 rfl rfl p (fun w g=>g.drop) rfl qx d (L_.zero _)
 rw[zk (zq S.symm)];obtain⟨q6,h6⟩:=o7 (decide (u.life=r.life));obtain⟨q7,h7⟩:=o7 (decide (r.tr<=u.tr));refine u7 ?_;refine w6 [(0,l9 b),(3,l9 O),(4,l9 g4),(5,.int .i64 (D1 (fun x=>decide (x.node=r.node)) m.a5G)),(63,.bool (q6&&q7))] (.blk g4 (.cells (gr u).toArray 104)::R9 b m r q B9 M9::(uL m++R)) ?_ ?_
 ·cases q6
  all_goals (
   refine O2 ?_;refine f_ ((p8 rfl rfl).eq (qn ((qz).trans h6.symm))) ?_;refine au ?_;(first|refine u_ ?_|(refine v_ ?_;refine f_ ((I4 rfl rfl).eq (qn ((qz).trans h7.symm))) ?_));refine p_ ?_)
  all_goals exact o_ sub i_
 refine N8 ?_ ?_<;>intro h
 ·rw[zu (by rw[kw,h6,h7] at h;exact⟨qr h.1,qr h.2⟩)];refine u7 ?_;refine D8 [3,5,7] [8] [R9 b m r q B9 M9] 10 ?_;refine wd [0,1,2,3,4,5,6,7] ?_;refine h_ 8 rfl i6 ?_;refine e_ rfl (CX m r.node r.tr qb) (fun h hh ⟨bs,Q⟩=>A3.rd Q ud) rfl ?_;refine E6 [9] ?_;refine bD ?_ ?_<;>intro h
  ·rw[wR (qr h)];refine C8 ?_;exact C9 m B9 M9 rfl rfl p (fun w g=>g.drop) rfl qx d (L_.zero _)
  obtain⟨i,hi,s,ha⟩:=wS (zq h);rw[ha,hi];have hg:(m.a5H.getD i ⟨0,0,0,0,0⟩)=m.a5H[i]:=by rw[zd,zj s];rfl
  simp only[hg];refine B4 (a:=m.sa) (n:=m.a5H.length) (c:=m.sc) (sz:=5) (xs:=JS m.a5H) (te:=102) ud fun _ _ f=>?_;have f:=f qb;refine wk 9 ?_;refine r_ (i8 rfl (fun w g=>cH (j:=0) (g.ownN (t:=102) ud).2.2.1 X4 s rfl x6)) ?_;refine JP ?_;exact C9 m {B9 with ses:=m.a5H[i].ses} M9 rfl rfl p (fun w g=>g.drop) rfl (fun _=>rfl) d ⟨o0.nil _ _,o0.nil _ _⟩
 rw[zk (by rintro⟨k1,k2⟩;rw[h6,h7,kr k1,kr k2] at h;cases h)];refine u7 ?_;obtain⟨q5,S⟩:=o7 (decide (u.life<r.life));obtain⟨sl,J⟩:=o7 (if u.life<r.life then m.a5H.filter fun x=>!decide (x.node=r.node) else m.a5H);rw[<-J];refine wk 10 ?_;refine f_ ((E_ rfl rfl).eq (v':=.bool q5) (qn ((qz).trans S.symm))) ?_;refine u7 ?_;refine n7 (ι:=Option Addr×Nat×List As) (fun z=>z.2.2=[S_ m.sa m.a5H m.sc]\/(z.2.2=[]/\z.1=m.sa/\z.2.1=m.sc/\sl=m.a5H)) (fun z=>[(0,l9 b),(3,l9 O),(5,.int .i64 (D1 (fun x=>decide (x.node=r.node)) m.a5G)),(7,.slice z.1 sl.length z.2.1)]) (fun z=>S_ z.1 sl z.2.1::R9 b m r q B9 M9::P5 m.ha m.a5G m.hc::S9 m.ba m.a5F m.bc::(V9 m.a5F++(z.2.2++R))) ?_ ?_
 ·cases q5
  case false=>
   rw[zk (zq S.symm)] at J;subst J;refine o8 rfl qx (fun h=>?_);refine u7 ?_;exact g_ (m.sa,m.sc,[]) (.inr ⟨rfl,rfl,rfl,rfl⟩) (fun w g=>Tn g)
  rw[zu (qr S.symm)] at J;refine o8 rfl (fun h=>?_) qx;refine p_ ?_;refine c_ (jG (JS m.a5H) m.sa m.a5H.length m.sc (Az _) (AA _) qb) ?pre ?_;(case pre=>exact fun h hh ⟨bs,Q⟩=>A3.rd Q ud);rintro v A ⟨X,Y,rfl,rfl⟩;refine p_ ?_;refine c_ (oK m.a5H X Y 105 [l9 O] (fun h=>h O=some (.cells (eA r q).toArray 44 (0,0))) (fun x=>decide (x.node=r.node)) (fun x _=>Il O r q x) qb) ?pre ?_;(case pre=>exact fun h hh Q=>hh _ _ p3);rintro v A ⟨rfl,rfl⟩;refine p_ ?_;rw[<-J];exact g_ (X,Y,[S_ m.sa m.a5H m.sc]) (.inl rfl) (fun w g=>To g)
 rintro⟨X,Y,E⟩ hE;have k9:sl.length<=m.a5H.length:=by
  rw[J];split
  ·exact Qn _ _
  ·exact z1 _
 have T:∀w,Hp F1 w (S_ X sl Y::R9 b m r q B9 M9::P5 m.ha m.a5G m.hc::S9 m.ba m.a5F m.bc::(V9 m.a5F++(E++R)))->Hp F1 w (R9 b m r q B9 M9::(uL m++R)):=fun w g=>by
  rcases hE with rfl|⟨rfl,rfl,rfl,e⟩
  ·exact Tp g.drop
  ·rw[e] at g;exact g.perm (.swap _ _ _)
 obtain⟨q8,h8⟩:=o7 (decide (16<=sl.length));obtain⟨q9,h9⟩:=o7 (decide (CU<=m.nses));refine u7 ?_;refine w6 [(0,l9 b),(3,l9 O),(5,.int .i64 (D1 (fun x=>decide (x.node=r.node)) m.a5G)),(7,.slice X sl.length Y),(112,.bool (q8||q9))] (S_ X sl Y::R9 b m r q B9 M9::P5 m.ha m.a5G m.hc::S9 m.ba m.a5F m.bc::(V9 m.a5F++(E++R))) ?_ ?_
 ·cases q8
  all_goals (
   refine y9 ?_;refine f_ ((I4 rfl rfl).eq (qn ((qz).trans h8.symm))) ?_;refine cG ?_;(first|refine u_ ?_|(refine v_ ?_;refine f_ ((I4 rfl rfl).eq (qn ((zp.2 (by show(4611686018427387904:Int)<=_↔4611686018427387904<=_;omega)).trans h9.symm))) ?_));refine p_ ?_)
  all_goals exact o_ sub i_
 refine N8 ?_ ?_<;>intro h
 ·rw[zu (by rw[Zk,h8,h9] at h;exact h.imp qr qr)];refine C8 ?_;exact C9 m B9 M9 rfl rfl p T rfl qx d (L_.zero _)
 have U:¬(16<=sl.length\/CU<=m.nses):=fun k=>by rw[h8,h9] at h;rcases k with k|k<;>simp[k] at h
 rw[zk U];have x2:m.nses<4611686018427387904:=Wn.1 fun k=>U (.inr k);have k8:sl.length<16:=Wn.1 fun k=>U (.inl k);refine wk 10 ?_;refine D8 [6,8,10,12] [14,15,19] [R9 b m r q {B9 with ses:=m.nses} M9] 20 ?_;refine wd [0,1,2,3,4,5,6,7,8,9,10,11,12,13] ?_;refine h_ 14 rfl i6 ?_;refine C4 nj ⟨m.nses,0,r.node,r.life,r.tr⟩ rfl ?_;intro q0 _;refine xB ?_;refine h_ 15 rfl i6 ?_;refine u6 nj (l:=sl) (m:=[⟨m.nses,0,r.node,r.life,r.tr⟩]) X4 Ay (by show(sl.length+1)*40<=_;omega) ?_ rfl rfl (fun _ _=>uh) (fun w g=>(g.ownN (t:=102) ud).2.2.1) (by show sl.length+1<=9223372036854775807;omega);intro C D _;refine E6 [16,17,18,19] ?_;refine au ?_;refine f_ ((K_ rfl rfl qb).eq (v':=.int .u64 ((m.nses+1:Nat):Int)) (by congr 1)) ?_;refine O2 ?_;by_cases V:D1 (fun x:HO=>decide (x.node=r.node)) m.a5G<0
 ·have M:=sG V;rw[M];have x3:=df (fun x:HO=>decide (x.node=r.node)) m.a5G;rw[show D1 (fun x:HO=>decide (x.node=r.node)) m.a5G= -1 from by omega];refine wk 9 ?_;refine c_ (zB b (BF m r sl C D) r q {B9 with ses:=m.nses} M9 ⟨r.node,r.life,r.tr⟩ hm hs (MZ M) hr (by show 0<=r.node/\r.node<=100;omega)) qw ?_;rintro v A ⟨rfl,a,c,rfl⟩;refine C8 ?_;exact C9 {BF m r sl C D with a5G:=dA ⟨r.node,r.life,r.tr⟩ m.a5G,ha:=a,hc:=c} {B9 with ses:=m.nses} M9 rfl rfl p (fun w g=>On g) rfl (fun _=>rfl) d ⟨o0.nil _ _,o0.nil _ _⟩
 ·obtain⟨i,hi,s,ha⟩:=sH V;rw[ha,hi];refine wk 9 ?_;refine c_ (zA b (BF m r sl C D) r q {B9 with ses:=m.nses} M9 i ⟨r.node,r.life,r.tr⟩ s hm) qw ?_;rintro v A ⟨rfl,a,c,rfl⟩;refine C8 ?_;exact C9 {BF m r sl C D with a5G:=m.a5G.set i ⟨r.node,r.life,r.tr⟩,ha:=a,hc:=c} {B9 with ses:=m.nses} M9 rfl rfl p (fun w g=>On g) rfl (fun _=>rfl) d ⟨o0.nil _ _,o0.nil _ _⟩
structure wU(r:RQ):Prop where
 num:r.num<18446744073709551616
 box:r.box.length<=lp
 a5L:r.a5L.length<=1000000
 a5U:r.a5U.length<=100000
 fl:∀f∈r.a5U,f.length<=lp
def Rg(k:Int):FuncId:=if k=1 then 56 else if k=2 then 57 else if k=3 then 58 else if k=4 then 59 else if k=5 then 60
 else if k=6 then 61 else if k=7 then 62 else if k=8 then 63 else if k=9 then 64 else 65
abbrev gY(k:FuncId):Value:=.func (.func k) #[] #[]
abbrev BG:List Value:=[.nilFunc,gY 56,gY 57,gY 58,gY 59,gY 60,gY 61,gY 62,gY 63,gY 64,gY 65]
theorem pW{k:Int}(a:1<=k)(b:k<=10):k=1\/k=2\/k=3\/k=4\/k=5\/k=6\/k=7\/k=8\/k=9\/k=10:=by omega
theorem Nc{k:Int}(a:1<=k)(b:k<=10):BG[k.toNat]? =some (gY (Rg k)):=by
 rcases pW a b with rfl|rfl|rfl|rfl|rfl|rfl|rfl|rfl|rfl|rfl<;>rfl
theorem Tq{k:Int}(a:1<=k)(b:k<=10):HF prog (Rg k):=by
 rcases pW a b with rfl|rfl|rfl|rfl|rfl|rfl|rfl|rfl|rfl|rfl
 ·exact(inferInstance:HF prog 56)
 ·exact(inferInstance:HF prog 57)
 ·exact(inferInstance:HF prog 58)
 ·exact(inferInstance:HF prog 59)
 ·exact(inferInstance:HF prog 60)
 ·exact(inferInstance:HF prog 61)
 ·exact(inferInstance:HF prog 62)
 ·exact(inferInstance:HF prog 63)
 ·exact(inferInstance:HF prog 64)
 ·exact(inferInstance:HF prog 65)
theorem dG{m:MM}(h:V_ m.s){x:BM}(hx:x∈m.a5F):CW x.x:=h.box _ (Zz hx)
theorem zC{m:MM}(h:V_ m.s):m.a5F.length<=8:=by have:=h.a5F;simpa using this
theorem sI{m:MM}(h:V_ m.s){x:BM}(hx:x∈m.a5F):x.ls.length<=32:=by have:=(dG h hx).lts;simpa using this
theorem pX:∀{l:List HO} {k:Int},(l.Pairwise fun x y=>x.node<y.node)->(∀x∈l,k<=x.node/\x.node<=5)->(l.length:Int)<=max 0 (6-k)
 |[],_,_,_=>by simp;omega
 |x::t,k,h,hk=>by
  obtain⟨b,c⟩:=Qz.1 h;have d:=hk x Qq;have e:=pX (k:=x.node+1) c fun y a=>⟨b y a,(hk y (jj _ a)).2⟩;rw[zy];omega
theorem wV{m:MM}(h:V_ m.s):m.a5G.length<=5:=by
 have:=pX (k:=1) h.a5G fun x a=>⟨(h.home x a).1,(h.home x a).2.1⟩;show m.s.a5G.length<=5;omega
theorem Tr(b:Nat)(m:MM)(r:RQ)(q:QL)(c:V_ m.s)(e:wU r)(j:1<=r.op)(k:r.op<=10):HB (Rg r.op) b m r q (JQ m.s r):=by
 have l:=zC c;have hs:m.a5F.Pairwise fun x y=>gR x.name y.name=true:=by
  have:=c.sorted;exact(Kd.1 this)
 have i:m.a5H.length<=16:=c.a5H;have d:∀x∈m.a5F,∀y∈x.ls,y.t.a5U.length<=16/\∀f∈y.t.a5U,f.length<=32:=fun x a y g=>(dG c a).a5U _ (Zz g);unfold JQ Rg;rcases pW j k with h|h|h|h|h|h|h|h|h|h<;>rw[h]
 ·exact Nb b m r q (by have:=wV c;omega) qb c.a5G (fun x a=>by have:=c.home x a;omega) (ju c.nses qp)
 ·exact PF b m r q qb
 ·exact Ms b m r q
 ·exact Ep b m r q l hs c.nval e.box
 ·exact DQ b m r q qb
 ·exact Ej b m r q qb (fun x a=>⟨by have:=sI c a;omega,(dG c a).next,(dG c a).high⟩) e.a5U e.fl
 ·exact Ig b m r q qb (fun x a=>⟨by have:=sI c a;omega,(dG c a).high,fun y g=>⟨by have:=(d x a y g).1;omega,fun f hf=>by have:=(d x a y g).2 f hf;exact ju this qp⟩⟩) e.a5L e.a5U e.fl
 ·exact yZ b m r q qb (fun x a=>⟨by have:=sI c a;omega,(dG c a).high,fun y g=>by have:=(d x a y g).1;omega⟩) e.a5L
 ·exact MU b m r q qb (fun x a=>⟨by have:=sI c a;omega,(dG c a).next,(dG c a).high,fun y g=>by have:=(d x a y g).1;omega⟩) e.a5L
 ·exact HC b m r q c.a5R
section
variable{P:Program}{N:Nat}{L:G0}{F:l6}{H:List As}
theorem X2{fn:Func}{d:Value->List As->Prop}{t n b t1 s i:Nat}{j te f k:TypeId}{cs c:Array Value}{H' z:List As}[ha:HA P j true][hs:HS P j n][ha1:HA P f true][hs1:HS P f s](C:fn.results=#[.cell t j,.cell t1 f])(hv:find L t=some (.pointer (some ⟨b,0,none⟩)))(l:find L t1=some (.pointer (some ⟨i,0,none⟩)))(u:M3 H (.blk b (.cells cs te (0,0))) [] H')(D:Nat.beq n cs.size=true)(J:M3 H (.blk i (.cells c k (0,0))) [] z)(m:Nat.beq s c.size=true)(A:List As)(g:d (.tuple #[.agg cs,.agg c]) A)(M:∀w,Hp F w H->Hp F w A):At N (du P fn F d) L F H:=by
 unfold At;intro a w hf o;have O:=jr D;have p:=jr m;have e:∀cs:Array Value,sl cs 0 cs.size=cs.toList:=fun cs=>by
  simp only[sl,Ky];exact jq x6
 obtain⟨X,q,hc⟩:=Y2 (n:=cs.size) o u;injection q with q;subst q;rw[e] at hc;have v:=D4 (P:=P) hc;obtain⟨Q,r,h⟩:=Y2 (n:=c.size) o J;injection r with r;subst r;rw[e] at h;have y:=D4 (P:=P) h;have S:a.tmps.getD t undef=.pointer (some ⟨b,0,none⟩):=hf.eval (x:=.tmp t) hv;have T:a.tmps.getD t1 undef=.pointer (some ⟨i,0,none⟩):=hf.eval (x:=.tmp t1) l;subst O;subst p;refine⟨.tuple #[.agg cs,.agg c],A,?_,g,M w o,hf.defers⟩;have U:a.tmps[t]?.getD undef=.pointer (some ⟨b,0,none⟩):=by simpa using S
 have V:a.tmps[t1]?.getD undef=.pointer (some ⟨i,0,none⟩):=by simpa using T
 simp at v y;simp[results,C,U,V,asAddr,loadVar,ha.h,ha1.h,hs.h,hs1.h,v,y,Sem.run_bind]
end
def zD(e:ML×OC)(h:l_)(v:Value)(A:List As):Prop:=∃m' o y,v=.tuple #[uK m',TZ o y]/\m'.s=e.1/\o=e.2/\A=[]/\iB m' h/\L_ o y h
theorem lE{F c:l6}{H R:List As}{L:G0}{g4 b:Nat}{e:ML×OC}(a:MM)(o:OC)(y:OL)(d:find L 4=some (l9 g4))(f:find L 5=some (l9 b))(hl:c.le F)(hH:∀w,Hp F w H->Hp F w (.blk g4 (.cells (iA a).toArray 62)::.blk b (.cells (tH o y).toArray 86)::R))(hs:a.s=e.1)(g:o=e.2)(h:iB a F.heap)(i:L_ o y F.heap):At 108 (CP prog Tryz.f28 c R (zD e)) L F H:=by
 refine At.weaken (H':=.blk g4 (.cells (iA a).toArray 62)::.blk b (.cells (tH o y).toArray 86)::R) ?_ (fo.refl _) hH;refine H3 (A:=[]) (v:=.tuple #[uK a,TZ o y]) hl ⟨a,o,y,rfl,hs,g,rfl,h,i⟩ ?_;exact X2 rfl d f ud rfl ud rfl _ qh (fun w j=>j.drop.drop)
theorem lF{F i:l6}{H R:List As}{L:G0}{g4 h:Nat}{e:ML×OC}(a:MM)(o:OC)(y:OL)(f:find L 4=some (l9 g4))(j:find L 5=some (l9 h))(hl:i.le F)(hH:∀w,Hp F w H->Hp F w (.blk g4 (.cells (iA a).toArray 62)::.blk h (.cells (tH o y).toArray 86)::(uL a++R)))(hs:a.s=e.1)(k:o=e.2)(hf:∀b∈a.a5F,iz b.ls F.heap)(l:L_ o y F.heap):At 108 (CP prog Tryz.f28 i R (zD e)) L F H:=by
 refine At.weaken (H':=(.blk g4 (.cells (iA a).toArray 62)::.blk h (.cells (tH o y).toArray 86)::R)++uL a) ?_ (fo.refl _) (fun w m=>(hH w m).perm (List.Perm.cons _ (List.Perm.cons _ kz)));refine dL fun n c ⟨s,g⟩=>?_;refine lE a o y f j (hl.trans c) i_ hs k ?_ (Mn.le c.heap l);obtain⟨_,t,_,p,_,u,_,q,_,v,_,r,f⟩:=g;have d:A3 n.heap (uL a) _:=⟨_,_,rfl,p,_,_,rfl,q,_,_,rfl,r,f⟩;exact⟨A3.rd d ud,A3.rd d ud,A3.rd d ud,fun b g=>⟨Hz f b g,Mn.le c.heap (hf b g)⟩⟩
theorem PU{L:G0}{dst:Option Tmp}{ty:TypeId}{pos:String}{af:Array Edge}{gd:Option (Nat×Bool)}{x y:Operand}(m:MM)(r:RQ)(q:QL)(hx:ev L x=some (uK m))(a:ev L y=some (QX r q)):E2 prog ⟨dst,.build 136 [(0,x),(1,y)].toArray,ty,pos,af,gd⟩ L (.agg (NZ m r q B9 M9).toArray):=by
 refine y8 (vs:=[(0,uK m),(1,QX r q)]) (by simp[Aa,hx,a]) ?_
 kernel_rfl
abbrev Im:MM:=⟨[],0,[],[],0,0,none,0,none,0,none,0⟩
theorem Ts{m:MM}(h:V_ m.s):Sy m:=by
 have d:m.a5H.length<=16:=h.a5H;have e:=wV h;have f:=zC h;exact⟨by omega,by omega,by omega,fun b a=>by have:=sI h a;omega,fun b a x c=>by have:=((dG h a).a5U _ (Zz c)).1;omega⟩
theorem Tt{F:l6}{w:World}{x y z u v:As}{l R Z:List As}(h:Hp F w (x::y::z::(l++(u::v::(R++Z))))):Hp F w (u::v::(R++(x::y::z::(l++Z)))):=by
 have a:Hp F w (([x,y,z]++l)++(([u,v]++R)++Z)):=by simpa using h
 have b:Hp F w (([u,v]++R)++(([x,y,z]++l)++Z)):=a.perm (by rw[<-zh ([u,v]++R),<-zh ([x,y,z]++l)];exact kz.append_right Z);simpa using b
theorem a1I{F:l6}{w:World}{k u v x y z:As}{l R Z:List As}(h:Hp F w (k::u::v::(R++(x::y::z::(l++Z))))):Hp F w ((k::u::v::x::y::z::(l++R))++Z):=by
 have a:Hp F w ([k,u,v]++(R++(([x,y,z]++l)++Z))):=by simpa using h
 have b:Hp F w ([k,u,v]++((([x,y,z]++l)++R)++Z)):=a.perm (Z5 _ (by rw[<-zh];exact kz.append_right Z));simpa using b
theorem Io{F:l6}{w:World}{u v k x y z:As}{l R:List As}(h:Hp F w (k::u::v::x::y::z::(l++R))):Hp F w (v::u::(x::y::z::l++R)):=h.drop.perm (.swap _ _ _)
theorem Er{m:MM}{n:Nat}(h:D1 (fun x:SX=>decide (x.ses=n)) m.a5H<0):rG m.s n=none:=by
 unfold D1 at h;unfold rG
 cases e:m.a5H.findIdx? fun x=>decide (x.ses=n) with
 |none=>rfl
 |some i=>rw[e] at h;simp only[Option.elim] at h;omega
theorem Es{m:MM}{n:Nat}(h:¬D1 (fun x:SX=>decide (x.ses=n)) m.a5H<0):∃i:Nat,D1 (fun x:SX=>decide (x.ses=n)) m.a5H=(i:Nat)/\i<m.a5H.length/\rG m.s n=some i:=by
 unfold D1 at h⊢;unfold rG
 cases e:m.a5H.findIdx? fun x=>decide (x.ses=n) with
 |none=>rw[e] at h;simp only[Option.elim] at h;omega
 |some i=>exact⟨i,rfl,(kg.1 e).1,rfl⟩
theorem Nd(b:Nat)(m:MM)(r:RQ)(q:QL)(o:OC)(y:OL)(i:Nat)(x:SX):R9 b {m with a5H:=m.a5H.set i x} r q o y=R9 b m r q o y:=by
 unfold R9 NZ iA;simp only[js]
theorem Ip{m:MM}(h:V_ m.s){i:Nat}(b:i<m.a5H.length)(n:Nat)(c:n<18446744073709551616):V_ {m with a5H:=m.a5H.set i {m.a5H[i] with last:=n}:MM}.s:=by
 refine⟨h.a5F,h.box,h.sorted,h.a5G,h.home,?_,fun x a=>?_,h.nval,h.nses,h.a5R⟩
 ·show(m.a5H.set i _).length<=16;rw[js];exact h.a5H
 ·rcases jd a with a|rfl
  ·exact h.seat x a
  ·have:=h.seat m.a5H[i] (zx b);exact⟨this.1,this.2.1,c,this.2.2.2⟩
theorem kC:∀(C R:List As),x8 C (C++R) R
 |[],_=>.nil
 |_::C,R=>.cons .del (kC C R)
theorem Tu{F:l6}{w:World}{k u v x y z:As}{l R:List As}(h:Hp F w (k::u::v::x::y::z::(l++R))):Hp F w ((k::x::y::z::l)++(u::v::R)):=by
 have a:Hp F w ([k]++([u,v]++(([x,y,z]++l)++R))):=by simpa using h
 have b:Hp F w ([k]++(([x,y,z]++l)++([u,v]++R))):=a.perm (Z5 _ (by rw[<-zh [u,v],<-zh ([x,y,z]++l)];exact kz.append_right R));simpa using b
theorem Oo{F:l6}{w:World}{u v k:As}{R:List As}(h:Hp F w (k::u::v::R)):Hp F w (v::u::R):=h.drop.perm (.swap _ _ _)
theorem pY(m:MM)(r:RQ)(q:QL)(hm:V_ m.s)(h8:wU r):Cm prog 28 [uK m,QX r q] (fun h=>iB m h/\dC r q h) [] (zD (D6 m.s r)):=by
 refine y4 108 func28 rfl rfl rfl ?_;rintro F R ⟨q7,q8⟩;refine C6 ?_;refine m9 rfl rfl ?_;intro g2;refine m9 rfl rfl ?_;intro g3;refine i7 rfl ?_;intro O;refine i7 rfl ?_;intro Q;refine C6 ?_;refine f_ (yV rfl rfl) ?_;refine p_ ?_;intro g6;refine p_ ?_;refine B8 (Z:=[.blk g2 (.cells (iA m).toArray 62),.blk g3 (.cells (eA r q).toArray 44),.blk g6 (.cells BG.toArray 133)]) tk fun F1 u U=>?_;have p2:F1.heap g2=some (.cells (iA m).toArray 62 (0,0)):=I_ U;have p3:F1.heap g3=some (.cells (eA r q).toArray 44 (0,0)):=I_ U;have p6:F1.heap g6=some (.cells BG.toArray 133 (0,0)):=I_ U;clear U;refine u7 ?_;refine D8 [0,2] [1,4] [] 6 ?_;refine wd [0,2] ?_;refine h_ 1 rfl i6 ?_;refine R7 (tK m (Ts hm)) (Mn.le u.heap q7) ?_;rintro v A Z Fz hz ⟨d,rfl,V,rfl,h9⟩;refine I7 (H':=.blk Q (.cells (tH B9 M9).toArray 86)::.blk O (.cells (iA Im).toArray 62)::(R++(S_ d.sa d.a5H d.sc::P5 d.ha d.a5G d.hc::S9 d.ba d.a5F d.bc::(V9 d.a5F++Z)))) (fun w g=>Tt g) ?_;refine ah ?_;refine w_ 3 rfl (PU d r q rfl rfl) ?_;refine h_ 4 rfl i6 ?_;refine m9 rfl rfl ?_;intro z;refine E6 [5] ?_;refine AD Fz hz (Rr:=R9 z d r q B9 M9::.blk Q (.cells (tH B9 M9).toArray 86)::.blk O (.cells (iA Im).toArray 62)::S_ d.sa d.a5H d.sc::P5 d.ha d.a5G d.hc::S9 d.ba d.a5F d.bc::(V9 d.a5F++R)) (Z:=Z) (fun w g=>a1I g) fun F2 p k0=>?_;have s:∀b∈d.a5F,iz b.ls F2.heap:=fun b U=>Mn.le k0 (h9 b U);have x9:F2.heap g3=some (.cells (eA r q).toArray 44 (0,0)):=p.heap _ _ p3;have q9:F2.heap g6=some (.cells BG.toArray 133 (0,0)):=p.heap _ _ p6;clear h9 k0 hz p2 p3 p6;obtain⟨q1,h1⟩:=o7 (decide (r.op<1));obtain⟨q2,h2⟩:=o7 (decide (11<=r.op));obtain⟨q3,h3⟩:=o7 (decide (64<r.a5L.length));have X:V_ d.s:=V▸hm;refine w6 [(3,l9 g3),(4,l9 O),(5,l9 Q),(6,l9 g6),(7,l9 z),(29,.bool (q1||(q2||q3)))] (R9 z d r q B9 M9::.blk Q (.cells (tH B9 M9).toArray 86)::.blk O (.cells (iA Im).toArray 62)::S_ d.sa d.a5H d.sc::P5 d.ha d.a5G d.hc::S9 d.ba d.a5F d.bc::(V9 d.a5F++R)) ?_ ?_
 ·cases q1<;>cases q2
  all_goals (
   refine y9 ?_;refine f_ ((E_ rfl rfl).eb h1) ?_;refine E5 ?_;(first|refine u_ ?_|(refine v_ ?_;refine f_ ((I4 rfl rfl).eb h2) ?_));refine au ?_;(first|refine u_ ?_|(refine v_ ?_;refine f_ ((D_ rfl rfl).eq (qn ((qz).trans h3.symm))) ?_));refine p_ ?_)
  all_goals exact o_ sub i_
 refine N8 ?_ ?_<;>intro h
 ·have D:D6 m.s r=(m.s,{B9 with code:=1}):=by
   unfold D6;refine zu ?_;rw[h1,h2,h3] at h;simpa using h
  rw[D];refine KN ?_;exact lF d {B9 with code:=1} M9 rfl rfl (u.trans p) (fun w g=>Io g) V rfl s (L_.nil _ _ _ rfl rfl)
 have hc:¬(r.op<1\/11<=r.op\/64<r.a5L.length):=fun k=>by
  rw[h1,h2,h3] at h;simp only[Q1,Zw] at h;rcases k with k|k|k
  ·exact h.1 k
  ·exact h.2.1 k
  ·exact h.2.2 k
 have D:D6 m.s r=if r.op=1\/r.op=10 then vC (JQ d.s r)
   else match rG d.s r.ses with
    |none=>(d.s,{B9 with code:=16})
    |some i=>
     if r.num<=(d.s.a5H.getD i ⟨0,0,0,0,0⟩).last then(d.s,{B9 with code:=14})
     else vC (JQ {d.s with a5H:=d.s.a5H.set i {d.s.a5H.getD i ⟨0,0,0,0,0⟩ with last:=r.num}} r):=by
  rw[V];unfold D6;rw[zk hc];rfl
 clear h h1 h2 h3;obtain⟨q4,h4⟩:=o7 (decide (r.op=1));obtain⟨q5,h5⟩:=o7 (decide (r.op=10));refine u7 ?_;refine w6 [(3,l9 g3),(4,l9 O),(5,l9 Q),(6,l9 g6),(7,l9 z),(42,.bool (!q4&&!q5))] (R9 z d r q B9 M9::.blk Q (.cells (tH B9 M9).toArray 86)::.blk O (.cells (iA Im).toArray 62)::S_ d.sa d.a5H d.sc::P5 d.ha d.a5G d.hc::S9 d.ba d.a5F d.bc::(V9 d.a5F++R)) ?_ ?_
 ·cases q4
  all_goals (
   refine y9 ?_;refine f_ ((M1 rfl rfl).eq (jk (fun x=>Value.bool (!x)) h4.symm)) ?_;refine E5 ?_;(first|refine u_ ?_|(refine v_ ?_;refine f_ ((M1 rfl rfl).eq (jk (fun x=>Value.bool (!x)) h5.symm)) ?_));refine p_ ?_)
  all_goals exact o_ sub i_
 refine u7 ?_;refine n7 (ι:=MM) (fun l=>D6 m.s r=vC (JQ l.s r)/\V_ l.s/\∀b∈l.a5F,iz b.ls F2.heap) (fun l=>[(3,l9 g3),(4,l9 O),(5,l9 Q),(6,l9 g6),(7,l9 z)]) (fun l=>R9 z l r q B9 M9::.blk Q (.cells (tH B9 M9).toArray 86)::.blk O (.cells (iA Im).toArray 62)::S_ l.sa l.a5H l.sc::P5 l.ha l.a5G l.hc::S9 l.ba l.a5F l.bc::(V9 l.a5F++R)) ?_ ?_
 ·refine o8 rfl ?_ ?_<;>intro h
  ·have hn:¬(r.op=1\/r.op=10):=by
    rw[h4,h5] at h;simp only[kw,Zn,Zw] at h;exact fun k=>k.elim h.1 h.2
   rw[zk hn] at D;refine u7 ?_;refine D8 [3,5] [6] [R9 z d r q B9 M9] 8 ?_;refine wd [0,1,2,3,4,5] ?_;refine h_ 6 rfl i6 ?_;refine e_ rfl (Lc d r.ses (by have:=X.a5H;show d.s.a5H.length<=1000;omega)) (fun h hh ⟨bs,U⟩=>A3.rd U ud) rfl ?_;refine E6 [7] ?_;refine eI ?_ ?_<;>intro h
   ·rw[Er (qr h)] at D;rw[D];refine KN ?_;exact lF d {B9 with code:=16} M9 rfl rfl (u.trans p) (fun w g=>Io g) rfl rfl s (L_.nil _ _ _ rfl rfl)
   obtain⟨i,hi,S,ha⟩:=Es (zq h);have hg:d.s.a5H.getD i ⟨0,0,0,0,0⟩=d.a5H[i]:=(by show d.a5H.getD i _=_;rw[zd,zj S];rfl);rw[ha] at D;simp only[hg] at D;rw[hi];obtain⟨q6,M⟩:=o7 (decide (r.num<=d.a5H[i].last));refine B4 (a:=d.sa) (n:=d.a5H.length) (c:=d.sc) (sz:=5) (xs:=JS d.a5H) (te:=102) ud fun _ _ J=>?_;have J:=J qb;refine u7 ?_;refine D8 [1,6,10] [] [S_ d.sa d.a5H d.sc,R9 z d r q B9 M9] 13 ?_;refine wd [0,1,2,3,4,5,6,7,8,9] ?_;refine n9 10 rfl P6 (i8 rfl (fun w g=>cH (j:=1) (g.ownN (t:=102) ud).2.2.1 X4 S rfl x6)) I5 rfl rfl rfl i6 ?_;refine w_ 11 rfl ((F_ rfl rfl).eq (v':=.bool q6) (qn ((qz).trans M.symm))) ?_;refine wd [12] ?_
   cases q6
   case true=>
    rw[zu (qr M.symm)] at D;rw[D];refine KN ?_;exact lF d {B9 with code:=14} M9 rfl rfl (u.trans p) (fun w g=>Io g) rfl rfl s (L_.nil _ _ _ rfl rfl)
   rw[zk (zq M.symm)] at D;refine u7 ?_;refine D8 [4,7] [10] [R9 z d r q B9 M9] 11 ?_;refine wd [0,1,2,3,4,5,6,7,8,9] ?_;refine h_ 10 rfl i6 ?_;refine A9 (C:=nj) {d.a5H[i] with last:=r.num} X4 S (j:=1) rfl ?_;refine E6 [] ?_;refine g_ {d with a5H:=d.a5H.set i {d.a5H[i] with last:=r.num}} ⟨D,Ip X S r.num h8.num,s⟩ (fun w g=>?_);rw[Nd];unfold S_;rw[js];exact g
  ·have hn:r.op=1\/r.op=10:=by
    rw[h4,h5] at h
    cases M:decide (r.op=1)
    ·rw[M] at h;right;simpa using h
    ·left;exact qr M
   rw[zu hn] at D;refine u7 ?_;exact g_ d ⟨D,X,s⟩ i_
 rintro l ⟨x0,x1,x2⟩;have Y:1<=r.op:=by omega
 have h0:r.op<=10:=by omega
 haveI:=Tq Y h0
 refine u7 ?_;refine D5 (H':=(R9 z l r q B9 M9::uL l)++(.blk Q (.cells (tH B9 M9).toArray 86)::.blk O (.cells (iA Im).toArray 62)::R)) (fun w g=>Tu g) ?_;refine y9 ?_;refine f_ (bt (n:=r.op) rfl rfl qb) ?_;refine r_ (i8 (v:=gY (Rg r.op)) rfl (fun w g=>vd g q9 (by have:=Nc Y h0;simpa using this))) ?_;refine p_ ?_;refine rE (f:=Rg r.op) (Tr z l r q x1 h8 Y h0) ⟨x2,Mn.le (u.trans p).heap q8⟩ ?_ (hH:=kC _ _);rintro v A F3 k8 ⟨m3,o,y,rfl,rfl,h7,k9,q0,x3⟩;refine p_ ?_;obtain⟨e,he⟩:=o7 (JQ l.s r);rw[x0];rw[<-he] at h7 k9⊢;obtain⟨q6,M⟩:=o7 (decide (e.2.2=0));refine p_ ?_;refine f_ ((M1 rfl rfl).eq (v':=.bool (!q6)) (jk (fun x=>Value.bool (!x)) M.symm)) ?_;refine u7 ?_
 cases q6
 ·have T:¬e.2.2=0:=zq M.symm;refine NN ?_;exact lE m3 {B9 with code:=e.2.2} M9 rfl rfl ((u.trans p).trans k8) (fun w g=>Oo g) h7 (by show _=if e.2.2=0 then _ else _;rw[zk T]) q0 (L_.nil _ _ _ rfl rfl)
 ·have T:e.2.2=0:=qr M.symm;refine u7 ?_;refine D8 [3,7] [8,9] [R9 z m3 r q o y] 10 ?_;refine wd [0,1,2,3,4,5,6,7,8,9] ?_;refine A2 ?_;exact lE m3 o y rfl rfl ((u.trans p).trans k8) (fun w g=>Oo g) h7 (by show _=if e.2.2=0 then _ else _;rw[zu T];exact k9 T) q0 x3
open Go Go.Sl Go.RowKit Go.Proofs.Tryz
def zE(k:Nat):FuncId:=if k=1 then 138 else if k=2 then 139 else if k=3 then 140 else if k=4 then 141 else if k=5 then 142 else if k=6 then 143 else if k=7 then 144 else if k=8 then 145 else if k=9 then 145 else if k=10 then 146 else if k=11 then 147 else if k=12 then 148 else if k=13 then 148 else if k=14 then 149 else if k=15 then 148 else if k=16 then 150 else if k=17 then 151 else 152
abbrev Iq(a b:Nat)(f:FuncId):List Value:=[.int .i64 (a:Nat),.int .i64 (b:Nat),gY f]
abbrev pZ:List Value:=[.int .i64 0,.int .i64 0,.nilFunc,.int .i64 0,.int .i64 2,gY 138,.int .i64 0,.int .i64 2,gY 139,.int .i64 0,.int .i64 2,gY 140,.int .i64 2,.int .i64 2,gY 141,.int .i64 2,.int .i64 2,gY 142,.int .i64 1,.int .i64 2,gY 143,.int .i64 0,.int .i64 0,gY 144,.int .i64 1,.int .i64 2,gY 145,.int .i64 1,.int .i64 2,gY 145,.int .i64 1,.int .i64 2,gY 146,.int .i64 1,.int .i64 2,gY 147,.int .i64 1,.int .i64 2,gY 148,.int .i64 1,.int .i64 2,gY 148,.int .i64 1,.int .i64 2,gY 149,.int .i64 2,.int .i64 2,gY 148,.int .i64 2,.int .i64 2,gY 150,.int .i64 2,.int .i64 2,gY 151,.int .i64 2,.int .i64 2,gY 152]
theorem lG{k:Nat}(a:1<=k)(b:k<=18):k=1\/k=2\/k=3\/k=4\/k=5\/k=6\/k=7\/k=8\/k=9\/k=10\/k=11\/k=12\/k=13\/k=14\/k=15\/k=16\/k=17\/k=18:=by omega
theorem Ir{k:Nat}(a:1<=k)(b:k<=18):pZ[k*3]? =some (.int .i64 ((O3 k).1:Nat))/\pZ[k*3+1]? =some (.int .i64 ((O3 k).2:Nat))/\pZ[k*3+2]? =some (gY (zE k)):=by
 rcases lG a b with rfl|rfl|rfl|rfl|rfl|rfl|rfl|rfl|rfl|rfl|rfl|rfl|rfl|rfl|rfl|rfl|rfl|rfl<;>exact qm
theorem PV{k:Nat}(a:1<=k)(b:k<=18):HF prog (zE k):=by
 rcases lG a b with rfl|rfl|rfl|rfl|rfl|rfl|rfl|rfl|rfl|rfl|rfl|rfl|rfl|rfl|rfl|rfl|rfl|rfl
 ·exact(inferInstance:HF prog 138)
 ·exact(inferInstance:HF prog 139)
 ·exact(inferInstance:HF prog 140)
 ·exact(inferInstance:HF prog 141)
 ·exact(inferInstance:HF prog 142)
 ·exact(inferInstance:HF prog 143)
 ·exact(inferInstance:HF prog 144)
 ·exact(inferInstance:HF prog 145)
 ·exact(inferInstance:HF prog 145)
 ·exact(inferInstance:HF prog 146)
 ·exact(inferInstance:HF prog 147)
 ·exact(inferInstance:HF prog 148)
 ·exact(inferInstance:HF prog 148)
 ·exact(inferInstance:HF prog 149)
 ·exact(inferInstance:HF prog 148)
 ·exact(inferInstance:HF prog 150)
 ·exact(inferInstance:HF prog 151)
 ·exact(inferInstance:HF prog 152)
def PW(s:SE)(d:DD)(c:CM)(s':SE)(d':DD):Prop:=if c.kind=14 then Te s d c s' d' else if 16<=c.kind then DU s d c s' d' else(s',d')=NX (fun _=>[]) (s,d) c
theorem GI.cmd{f:FuncId}{b:Nat}{s:SE}{x:SL}{d:DD}{y:DL}{c:CM}{k:CL}{r:RQ}(h:GI f b s x d y c k (G3 (s,d) c r []))(hu:r.a5L=[])(hf:r.a5U=[]):bA f b s x d y c k (G3 (s,d) c r []):=fun F R w a g=>
 (h F R w a g).mono fun e n ⟨v,A,i,⟨j,l⟩,m⟩=>⟨v,A,i,by subst j l;exact mh b s x d y c k r hu hf,m⟩
section
variable(b:Nat)(s:SE)(x:SL)(d:DD)(y:DL)(c:CM)(k:CL)(hv:s.a5J.a5I.length<=100000)(hvu:∀r∈s.a5J.a5I,r.1<18446744073709551616)(hc:tF c)(hn:s.num<18446744073709551615)(hl:y.rl.length<=100000)
include hv hvu hc hn hl
theorem PX(C:1<=c.kind)(D:c.kind<=18):DT (zE c.kind) b s x d y c k (PW s d c):=by
 obtain⟨i,z,j,a,l,e,f,m,n,o,g,p,r,t,u,v,h⟩:=c;simp only at C D⊢;have A:y.rl.length<=1000000:=by omega
 have w:∀{q:SD},z≠14->z<16->q=NX (fun _=>[]) (s,d) ⟨i,z,j,a,l,e,f,m,n,o,g,p,r,t,u,v,h⟩->PW s d ⟨i,z,j,a,l,e,f,m,n,o,g,p,r,t,u,v,h⟩ q.1 q.2:=fun{q} ha M J=>by
  unfold PW;rw[zk ha,zk (show¬16<=z by omega)];exact J
 rcases lG C D with rfl|rfl|rfl|rfl|rfl|rfl|rfl|rfl|rfl|rfl|rfl|rfl|rfl|rfl|rfl|rfl|rfl|rfl
 ·exact bA.w (rf b s x d y ⟨i,1,j,a,l,e,f,m,n,o,g,p,r,t,u,v,h⟩ k A) (w qp qp (by rfl)) (by first|rfl|(split<;>rfl))
 ·exact bA.w (Lw b s x d y ⟨i,2,j,a,l,e,f,m,n,o,g,p,r,t,u,v,h⟩ k hn A) (w qp qp (by rfl)) (by first|rfl|(split<;>rfl))
 ·exact bA.w (Dp b s x d y ⟨i,3,j,a,l,e,f,m,n,o,g,p,r,t,u,v,h⟩ k hn A) (w qp qp (by rfl)) (by first|rfl|(split<;>rfl))
 ·exact bA.w (Dr b s x d y ⟨i,4,j,a,l,e,f,m,n,o,g,p,r,t,u,v,h⟩ k hn) (w qp qp (by rfl)) (by first|rfl|(split<;>rfl))
 ·exact bA.w (vP b s x d y ⟨i,5,j,a,l,e,f,m,n,o,g,p,r,t,u,v,h⟩ k hn A) (w qp qp (by rfl)) (by first|rfl|(split<;>rfl))
 ·exact bA.w (Dq b s x d y ⟨i,6,j,a,l,e,f,m,n,o,g,p,r,t,u,v,h⟩ k A) (w qp qp (by rfl)) (by first|rfl|(split<;>rfl))
 ·exact bA.w (GJ b s x d y ⟨i,7,j,a,l,e,f,m,n,o,g,p,r,t,u,v,h⟩ k hn A) (w qp qp (by rfl)) (by first|rfl|(split<;>rfl))
 ·exact bA.w (ph b s x d y ⟨i,8,j,a,l,e,f,m,n,o,g,p,r,t,u,v,h⟩ k hn) (w qp qp (by rfl)) (by first|rfl|(split<;>rfl))
 ·exact bA.w (ph b s x d y ⟨i,9,j,a,l,e,f,m,n,o,g,p,r,t,u,v,h⟩ k hn) (w qp qp (by rfl)) (by first|rfl|(split<;>rfl))
 ·exact bA.w ((yw b s x d y ⟨i,10,j,a,l,e,f,m,n,o,g,p,r,t,u,v,h⟩ k hn).cmd rfl rfl) (w qp qp (by rfl)) (by first|rfl|(split<;>rfl))
 ·exact bA.w ((yx b s x d y ⟨i,11,j,a,l,e,f,m,n,o,g,p,r,t,u,v,h⟩ k hn).cmd rfl rfl) (w qp qp (by rfl)) (by first|rfl|(split<;>rfl))
 ·exact bA.w ((gw b s x d y ⟨i,12,j,a,l,e,f,m,n,o,g,p,r,t,u,v,h⟩ k hn).cmd rfl rfl) (w qp qp (by rfl)) (by first|rfl|(split<;>rfl))
 ·exact bA.w ((gw b s x d y ⟨i,13,j,a,l,e,f,m,n,o,g,p,r,t,u,v,h⟩ k hn).cmd rfl rfl) (w qp qp (by rfl)) (by first|rfl|(split<;>rfl))
 ·exact(yT b s x d y ⟨i,14,j,a,l,e,f,m,n,o,g,p,r,t,u,v,h⟩ k hc hn)
 ·exact bA.w ((gw b s x d y ⟨i,15,j,a,l,e,f,m,n,o,g,p,r,t,u,v,h⟩ k hn).cmd rfl rfl) (w qp qp (by rfl)) (by first|rfl|(split<;>rfl))
 ·exact(DW b s x d y ⟨i,16,j,a,l,e,f,m,n,o,g,p,r,t,u,v,h⟩ k hv hvu hc hn hl)
 ·exact(DX b s x d y ⟨i,17,j,a,l,e,f,m,n,o,g,p,r,t,u,v,h⟩ k hv hvu hc hn hl)
 ·exact(HP b s x d y ⟨i,18,j,a,l,e,f,m,n,o,g,p,r,t,u,v,h⟩ k hv hvu hc hn hl)
end
open Go Go.Sl Go.RowKit Go.Proofs.Tryz
def Oq(s:SE)(d:DD)(t:Bs)(s':SE)(d':DD):Prop:=∃c e,bC t c e/\
 (e=11/\(s',d')=U_ (s,d) (eL [42] [110,111,32,116,97,103])\/e=10/\(s',d')=U_ (s,d) (eL c.tag [110,111,32,115,117,99,104,32,99,111,109,109,97,110,100])
 \/e=4/\(s',d')=U_ (s,d) (eL c.tag [119,114,111,110,103,32,119,111,114,100,115])
 \/e=0/\((s.a5K<(O3 c.kind).1\/(O3 c.kind).2<s.a5K)/\(s',d')=U_ (s,d) (eL c.tag [110,111,116,32,110,111,119])
  \/(O3 c.kind).1<=s.a5K/\s.a5K<=(O3 c.kind).2/\PW s d c s' d'))
theorem BH{b:Nat}{s:SE}{x:SL}{d:DD}{y:DL}{r:RR}{a:Option Addr}{f:Nat}{h:l_}{Q:SE->DD->Prop}(hq:Q s {d with a5T:=d.a5T++[r]})(hz:fC r L0 h)(c:iy s x d y h):HL b y Q h (.tuple #[]) (l5 x.ra s.a5J.a5I x.rc::O4 b s x d (E9 y (r,L0) a f)):=by
 refine⟨rfl,s,{d with a5T:=d.a5T++[r]},x,E9 y (r,L0) a f,hq,rfl,.one rfl,c.se,?_,fun m e=>?_,c.dd.req,c.dd.want⟩
 ·show d.a5T++[r]=(y.rl++[(r,L0)]).map Prod.fst;rw[c.dd.a5T];simp
 ·rcases zb.1 (show m∈y.rl++[(r,L0)] from e) with e|e
  ·exact c.dd.rep m e
  ·rw[zg.1 e];exact hz
theorem Tv{F:l6}{w:World}{H:List As}{b o:Nat}{cs:Array Value}{te:TypeId}{fr:Nat×Nat}{u v z:Value}(d:Hp F w H)(e:F.heap b=some (.cells cs te fr))(hu:cs[o]? =some u)(hv:cs[o+1]? =some v)(hz:cs[o+2]? =some z):M0 (hp w) (some ⟨b,o,none⟩) [u,v,z]:=
 ⟨_,rfl,fun j q a=>by
  match j,a with
  |0,a=>simp at a;subst a;have c:w.heap[b]? =some (.cells cs te fr):=d.keep b _ e;simp[l_.cell?,hp,Addr.add,c,hu]
  |1,a=>simp at a;subst a;have c:w.heap[b]? =some (.cells cs te fr):=d.keep b _ e;simp[l_.cell?,hp,Addr.add,c,hv]
  |2,a=>simp at a;subst a;have c:w.heap[b]? =some (.cells cs te fr):=d.keep b _ e;simp[l_.cell?,hp,Addr.add,c,hz]⟩
theorem Nf(b:Nat)(s:SE)(x:SL)(d:DD)(y:DL)(t:Bs)(ht:t.length<=1000000000)(hv:s.a5J.a5I.length<=100000)(Q:∀r∈s.a5J.a5I,r.1<18446744073709551616)(hn:s.num<18446744073709551615)(hl:y.rl.length<=100000):
  Cm prog 74 [l9 b,B t] (fun h=>Gl h/\iy s x d y h) (l5 x.ra s.a5J.a5I x.rc::O4 b s x d y) (HL b y (Oq s d t)):=by
 refine y4 80 func74 rfl rfl rfl ?_;rintro F R ⟨hg,S⟩;refine p_ ?_;refine c_ (sy t ht) (fun h hh _=>hg.le hh) ?_;rintro v A ⟨c,e,k,i,rfl,q⟩;refine An (kC A _) fun F1 j ⟨bs,M⟩=>?_;have hk:fh c k F1.heap:=q _ _ M;clear q M;refine E5 ?_;refine i7 rfl ?_;intro g4;refine y9 ?_;have g:iy s x d y F1.heap:=Mn.le j.heap S;have u:=kB ht i;refine p_ ?_;rcases u.er with rfl|rfl|rfl|rfl
 ·refine E5 ?_;refine c_ (lj b s x d y [42] [110,111,32,116,97,103] qb) qw ?_;rintro v A ⟨rfl,a,z,rfl⟩;refine u7 ?_;refine H3 (A:=l5 x.ra s.a5J.a5I x.rc::O4 b s x d (E9 y (eL [42] [110,111,32,116,97,103],L0) a z)) (v:=.tuple #[]) j (BH ⟨c,11,i,.inl qh⟩ (cK rfl rfl rfl _) g) ?_;exact m6 rfl _ qh (fun w l=>C5 (A:=[_,_,_]) (J:=[_]) tk l)
 ·refine wk 7 ?_;refine c_ (lj b s x d y c.tag [110,111,32,115,117,99,104,32,99,111,109,109,97,110,100] qb) qw ?_;rintro v A ⟨rfl,a,z,rfl⟩;refine u7 ?_;refine H3 (A:=l5 x.ra s.a5J.a5I x.rc::O4 b s x d (E9 y (eL c.tag [110,111,32,115,117,99,104,32,99,111,109,109,97,110,100],L0) a z)) (v:=.tuple #[]) j (BH ⟨c,10,i,.inr (.inl qh)⟩ (cK rfl rfl rfl _) g) ?_;exact m6 rfl _ qh (fun w l=>C5 (A:=[_,_,_]) (J:=[_]) tk l)
 ·refine wk 9 ?_;refine c_ (lj b s x d y c.tag [119,114,111,110,103,32,119,111,114,100,115] qb) qw ?_;rintro v A ⟨rfl,a,z,rfl⟩;refine u7 ?_;refine H3 (A:=l5 x.ra s.a5J.a5I x.rc::O4 b s x d (E9 y (eL c.tag [119,114,111,110,103,32,119,111,114,100,115],L0) a z)) (v:=.tuple #[]) j (BH ⟨c,4,i,.inr (.inr (.inl qh))⟩ (cK rfl rfl rfl _) g) ?_;exact m6 rfl _ qh (fun w l=>C5 (A:=[_,_,_]) (J:=[_]) tk l)
 ·have m:=u.kind rfl;refine wk 24 ?_;refine f_ (yV rfl rfl) ?_;refine i7 rfl ?_;intro g6;refine p_ ?_;refine B8 (Z:=[.blk g6 (.cells pZ.toArray 226)]) tk fun F2 o M=>?_;have p6:F2.heap g6=some (.cells pZ.toArray 226 (0,0)):=I_ M;clear M;have D:=Ir m.1 m.2
  haveI:=PV m.1 m.2
  refine y9 ?_;refine f_ (bt (n:=(c.kind:Nat)) rfl rfl qb) ?_;refine r_ (w8 (cs:=Iq (O3 c.kind).1 (O3 c.kind).2 (zE c.kind)) rfl (fun w l=>Tv l p6 (by simpa using D.1) (by simpa using D.2.1) (by simpa using D.2.2)) rfl) ?_;refine i7 rfl ?_;intro T;refine p_ ?_;obtain⟨q1,U⟩:=o7 (decide (s.a5K<(O3 c.kind).1));obtain⟨q2,V⟩:=o7 (decide ((O3 c.kind).2<s.a5K));refine w6 [(0,l9 b),(4,l9 g4),(7,l9 T),(54,.bool (q1||q2))] (.blk T (.cells (Iq (O3 c.kind).1 (O3 c.kind).2 (zE c.kind)).toArray 225)::.blk g4 (.cells (li c k).toArray 36)::E7 b s x d y::r8 y.da y.rl y.dc::l5 x.ra s.a5J.a5I x.rc::R) ?_ ?_
  ·cases q1
   all_goals (
    refine u7 ?_;refine D8 [4,6,13,15] [] [E7 b s x d y,.blk T (.cells (Iq (O3 c.kind).1 (O3 c.kind).2 (zE c.kind)).toArray 225)] 18 ?_;refine wd [0,1,2,3,4,5,6] ?_;refine w_ 7 rfl ((E_ rfl rfl).eq (qn ((qz).trans U.symm))) ?_;refine wd [8,9,10,11,12,13,14,15] ?_;(first|refine s_ 16 ?_|refine t_ 16 ?_|refine F6 16 rfl ((D_ rfl rfl).eq (qn ((qz).trans V.symm))) rfl rfl rfl rfl rfl rfl i6 ?_);refine wd [17] ?_)
   all_goals exact o_ sub (fun w l=>(tk (C:=[_,_,_,_,_])).hp l)
  refine N8 ?_ ?_<;>intro h
  ·have p:s.a5K<(O3 c.kind).1\/(O3 c.kind).2<s.a5K:=(by rw[U,V] at h;simpa using h);refine E5 ?_;refine c_ (lj b s x d y c.tag [110,111,116,32,110,111,119] qb) qw ?_;rintro v A ⟨rfl,a,z,rfl⟩;refine ov ?_;refine H3 (A:=l5 x.ra s.a5J.a5I x.rc::O4 b s x d (E9 y (eL c.tag [110,111,116,32,110,111,119],L0) a z)) (v:=.tuple #[]) (j.trans o) (BH ⟨c,0,i,.inr (.inr (.inr ⟨rfl,.inl ⟨p,rfl⟩⟩))⟩ (cK rfl rfl rfl _) (Mn.le o.heap g)) ?_;exact m6 rfl _ qh (fun w l=>C5 (A:=[_,_,_]) (J:=[_,_]) tk l)
  ·have p:(O3 c.kind).1<=s.a5K/\s.a5K<=(O3 c.kind).2:=(by rw[U,V] at h;simpa using h);refine O2 ?_;refine rE (f:=zE c.kind) (PX b s x d y c k hv Q u.le.le hn hl m.1 m.2) ⟨Mn.le o.heap g,Mn.le o.heap hk⟩ ?_;rintro v A F3 X ⟨rfl,Y,d',O,y',hq,rfl,hy,h0⟩;refine u7 ?_;refine H3 (A:=l5 O.ra Y.a5J.a5I O.rc::O4 b Y O d' y') (v:=.tuple #[]) ((j.trans o).trans X) ⟨rfl,Y,d',O,y',⟨c,0,i,.inr (.inr (.inr ⟨rfl,.inr ⟨p.1,p.2,hq⟩⟩))⟩,rfl,hy,h0⟩ ?_;exact m6 rfl _ qh (fun w l=>C5 (A:=[_,_,_]) (J:=[_,_]) tk l)
def cB(s:SE)(kind:Int)(t:Bs)(s':SE)(d':DD):Prop:=
 if kind=2 then(s',d')=U_ (s,F8) {R0 with kind:=5,text:=[103,111,32,111,110]}
 else if s.a5K=3\/s.a5P=true then(s',d')=(s,F8)
 else if kind=4 then(s',d')=FY (s,F8) [116,111,111,32,108,111,110,103]
 else if kind=3 then∃c e,bC t c e/\(s',d')=U_ (s,F8) (eL (tC c) [116,111,111,32,98,105,103])
 else if kind=1 then Oq s F8 t s' d' else(s',d')=(s,F8)
structure zF(s:SE):Prop where
 a5I:s.a5J.a5I.length<=100000
 a5L:s.a5L.length<=1000000
 cmd:tF s.cmd
 row:∀r∈s.a5J.a5I,r.1<18446744073709551616
 num:s.num<18446744073709551615
theorem zF.le{s:SE}(h:zF s):Sw s:=⟨by have:=h.a5I;omega,h.a5L,h.cmd⟩
def Et(Q:SE->DD->Prop)(h:l_)(v:Value)(A:List As):Prop:=∃s' d' x' y',Q s' d'/\v=.tuple #[rH s' x',KX d' y']/\A=[l5 x'.ra s'.a5J.a5I x'.rc,r8 y'.da y'.rl y'.dc]/\re M_ y'/\iy s' x' d' y' h
abbrev hdA(kind:Int)(t:Bs):Value:=.agg #[.int .i64 kind,B t]
theorem Ng(s:SE)(x:SL)(kind:Int)(t:Bs)(hs:zF s)(ht:t.length<=1000000000):
  Cm prog 30 [rH s x,hdA kind t] (fun h=>Gl h/\o0 h x.ra (V5 s.a5J.a5I)/\U2 s x h) [] (Et (cB s kind t)):=by
 refine y4 64 func30 rfl rfl rfl ?_;rintro F R ⟨hg,hr,X⟩;refine C6 ?_;refine m9 rfl rfl ?_;intro Y;refine m9 rfl rfl ?_;intro Z;refine i7 rfl ?_;intro S;refine i7 rfl ?_;intro T;refine p_ ?_;refine A8 (lB s x hs.le) ⟨hr,X⟩ ?_;rintro v A p D ⟨b,rfl,rfl,g⟩;refine f_ (y8 (ps:=[(0,.tmp 10)]) (vs:=[(0,rH s b)]) (cells:=(mH s b++tG F8 M_).toArray) rfl i6) ?_;refine m9 rfl rfl ?_;intro q;refine H9 1 ?_;refine D5 (H':=E7 q s b F8 M_::r8 none [] 0::l5 b.ra s.a5J.a5I b.rc::.blk T (.cells (tG F8 M_).toArray 46)::.blk S (.cells (mH oD qV).toArray 39)::.blk Z (.cells [.int .i64 kind,B t].toArray 41)::.blk Y (.cells (mH s x).toArray 39)::R) (fun w f=>(f.addNil 51 10).perm (.swap _ _ _)) ?_;have o:iy s b F8 M_ p.heap:=⟨g,CV.zero _⟩;obtain⟨b2,h2⟩:=o7 (decide (kind=2));obtain⟨b3,h3⟩:=o7 (decide (s.a5K=3));obtain⟨b4,h4⟩:=o7 (decide (kind=4));obtain⟨b5,h5⟩:=o7 (decide (kind=3));obtain⟨b6,h6⟩:=o7 (decide (kind=1));refine S6 (fun(l:SE) (u:DD) (z:SL×DL) (d:l6)=>p.le d/\cB s kind t l u/\re M_ z.2/\iy l z.1 u z.2 d.heap) (fun _ _ _ _=>[(4,l9 S),(5,l9 T),(6,l9 q)]) (fun _ _ _ d=>d)
  (fun l u z d=>E7 q l z.1 u z.2::r8 z.2.da z.2.rl z.2.dc::l5 z.1.ra l.a5J.a5I z.1.rc::.blk T (.cells (tG F8 M_).toArray 46)::.blk S (.cells (mH oD qV).toArray 39)::R) ?_ ?_
 ·refine n8 ?_;refine y9 ?_;refine f_ ((p8 rfl rfl).eq (v':=.bool b2) (qn h2.symm)) ?_;refine p_ ?_;have i:∀(r:RR) (a:Option Addr) (n:Nat) (d:l6),p.le d->fC r L0 d.heap->iy s b {F8 with a5T:=[r]} (E9 M_ (r,L0) a n) d.heap:=fun r a n d hl hz=>⟨Mn.le hl.heap g,rfl,(fun m hm=>by rw[zg.1 (show m∈[(r,L0)] from hm)];exact hz),⟨o0.nil _ _,o0.nil _ _⟩,o0.nil _ _⟩
  cases b2
  case true=>
   have M:kind=2:=qr h2.symm;refine p_ ?_;refine f_ (y8 (ps:=[(0,.const (.int .i64 5)),(3,.const (B [103,111,32,111,110]))]) (vs:=[(0,.int .i64 5),(3,B [103,111,32,111,110])]) (cells:=(tp {R0 with kind:=5,text:=[103,111,32,111,110]} L0).toArray) rfl i6) ?_;refine c_ (V2 q s b F8 M_ {R0 with kind:=5,text:=[103,111,32,111,110]} L0 qp) qw ?_;rintro v A ⟨rfl,a,n,rfl⟩;refine u7 ?_;exact y5 (s,{F8 with a5T:=[{R0 with kind:=5,text:=[103,111,32,111,110]}]},(b,E9 M_ ({R0 with kind:=5,text:=[103,111,32,111,110]},L0) a n),p) ⟨l6.le_refl _,by unfold cB;rw[zu M];rfl,.one rfl,i ({R0 with kind:=5,text:=[103,111,32,111,110]}) a n p (l6.le_refl _) (cK rfl rfl rfl _)⟩ rfl (fun w f=>C5 (A:=[_,_,_,_,_]) (J:=[_,_]) tk f)
  have M:¬kind=2:=zq h2.symm;refine u7 ?_;refine w6 [(2,l9 Y),(3,l9 Z),(4,l9 S),(5,l9 T),(6,l9 q),(20,.bool (b3||s.a5P))] (E7 q s b F8 M_::r8 none [] 0::l5 b.ra s.a5J.a5I b.rc::.blk T (.cells (tG F8 M_).toArray 46)::.blk S (.cells (mH oD qV).toArray 39)::.blk Z (.cells [.int .i64 kind,B t].toArray 41)::.blk Y (.cells (mH s x).toArray 39)::R) ?_ ?_
  ·cases b3
   all_goals (
    refine y9 ?_;refine f_ ((p8 rfl rfl).eq (qn ((qz).trans h3.symm))) ?_;refine au ?_)
   all_goals exact o_ sub i_
  refine N8 ?_ ?_<;>intro h
  ·have Q:s.a5K=3\/s.a5P=true:=(by rw[h3] at h;simpa using h);refine u7 ?_;exact y5 (s,F8,(b,M_),p) ⟨l6.le_refl _,by unfold cB;rw[zk M,zu Q],.refl rfl,o⟩ rfl (fun w f=>C5 (A:=[_,_,_,_,_]) (J:=[_,_]) tk f)
  have Q:¬(s.a5K=3\/s.a5P=true):=by rw[h3] at h;simpa using h
  refine y9 ?_;refine f_ ((p8 rfl rfl).eq (v':=.bool b4) (qn h4.symm)) ?_;refine p_ ?_
  cases b4
  case true=>
   have U:kind=4:=qr h4.symm;refine p_ ?_;refine c_ (tI q s b F8 M_ [116,111,111,32,108,111,110,103] qp) qw ?_;rintro v A ⟨rfl,a,n,rfl⟩;refine u7 ?_;exact y5 ({s with a5K:=3},{F8 with a5T:=[G2 [116,111,111,32,108,111,110,103]],close:=true},(b,E9 M_ (G2 [116,111,111,32,108,111,110,103],L0) a n),p) ⟨l6.le_refl _,by unfold cB;rw[zk M,zk Q,zu U];rfl,.one rfl,⟨⟨g.a5L,g.cmd⟩,(i (G2 [116,111,111,32,108,111,110,103]) a n p (l6.le_refl _) (cK rfl rfl rfl _)).dd.a5T,(i (G2 [116,111,111,32,108,111,110,103]) a n p (l6.le_refl _) (cK rfl rfl rfl _)).dd.rep,⟨o0.nil _ _,o0.nil _ _⟩,o0.nil _ _⟩⟩ rfl (fun w f=>C5 (A:=[_,_,_,_,_]) (J:=[_,_]) tk f)
  have U:¬kind=4:=zq h4.symm;refine y9 ?_;refine f_ ((p8 rfl rfl).eq (v':=.bool b5) (qn h5.symm)) ?_;refine p_ ?_
  cases b5
  case true=>
   have V:kind=3:=qr h5.symm;refine y9 ?_;refine c_ (sy t ht) (fun h hh _=>(hg.le D.heap).le hh) ?_;rintro v A ⟨c,e,k,h0,rfl,y⟩;refine An (kC A _) fun d j ⟨bs,hb⟩=>?_;have hk:fh c k d.heap:=y _ _ hb;clear y hb;refine E5 ?_;refine i7 rfl ?_;intro g7;refine O2 ?_;refine e_ rfl (Ec c k) qw rfl ?_;refine c_ (lj q s b F8 M_ (tC c) [116,111,111,32,98,105,103] qp) qw ?_;rintro v A ⟨rfl,a,n,rfl⟩;refine u7 ?_;exact y5 (s,{F8 with a5T:=[eL (tC c) [116,111,111,32,98,105,103]]},(b,E9 M_ (eL (tC c) [116,111,111,32,98,105,103],L0) a n),d) ⟨j,by unfold cB;rw[zk M,zk Q,zk U,zu V];exact⟨c,e,h0,rfl⟩,.one rfl,i (eL (tC c) [116,111,111,32,98,105,103]) a n d j (cK rfl rfl rfl _)⟩ rfl (fun w f=>C5 (A:=[_,_,_,_,_]) (J:=[_,_,_]) tk f)
  have V:¬kind=3:=zq h5.symm;refine y9 ?_;refine f_ ((p8 rfl rfl).eq (v':=.bool b6) (qn h6.symm)) ?_;refine p_ ?_
  cases b6
  case true=>
   have e6:kind=1:=qr h6.symm;refine E5 ?_;refine A8 (Nf q s b F8 M_ t ht hs.a5I hs.row hs.num qp) ⟨hg.le D.heap,o⟩ ?_;rintro v A d j ⟨rfl,l,u,O,C,hq,rfl,hy,h1⟩;refine u7 ?_;exact y5 (l,u,(O,C),d) ⟨j,by unfold cB;rw[zk M,zk Q,zk U,zk V,zu e6];exact hq,hy,h1⟩ rfl (fun w f=>C5 (A:=[_,_,_,_,_]) (J:=[_,_]) tk f)
  have e6:¬kind=1:=zq h6.symm;refine u7 ?_;exact y5 (s,F8,(b,M_),p) ⟨l6.le_refl _,by unfold cB;rw[zk M,zk Q,zk U,zk V,zk e6],.refl rfl,o⟩ rfl (fun w f=>C5 (A:=[_,_,_,_,_]) (J:=[_,_]) tk f)
 rintro l u ⟨O,C⟩ d ⟨j,hq,hn,h7⟩;refine u7 ?_;refine D8 [3,7] [8,9] [E7 q l O u C] 10 ?_;refine wd [0,1,2,3,4,5,6,7,8,9] ?_;refine A2 ?_;refine H3 (A:=[l5 O.ra l.a5J.a5I O.rc,r8 C.da C.rl C.dc]) (v:=.tuple #[rH l O,KX u C]) (D.trans j) ⟨l,u,O,C,hq,rfl,rfl,hn,h7⟩ ?_;refine X2 rfl rfl rfl ud rfl ud rfl _ qh (fun w f=>C5 (A:=[_,_]) (J:=[_,_,_]) tk f)
theorem Nh(s:SE)(x:SL)(hs:zF s):
  Cm prog 32 [rH s x] (fun h=>o0 h x.ra (V5 s.a5J.a5I)/\U2 s x h) [] (Et (fun D M=>(D,M)=T6 s)):=by
 obtain⟨i,e,f,d,k,c,l,b,j⟩:=s;refine y4 42 func32 rfl rfl rfl ?_;rintro F R ⟨O,u⟩;refine C6 ?_;refine m9 rfl rfl ?_;intro Q;refine i7 rfl ?_;intro S;refine i7 rfl ?_;intro T;refine p_ ?_;refine A8 (lB ⟨i,e,f,d,k,c,l,b,j⟩ x hs.le) ⟨O,u⟩ ?_;rintro v A U o ⟨g,rfl,rfl,r⟩;refine f_ (y8 (ps:=[(0,.tmp 7)]) (vs:=[(0,rH ⟨i,e,f,d,k,c,l,b,j⟩ g)]) (cells:=(mH ⟨i,e,f,d,k,c,l,b,j⟩ g++tG F8 M_).toArray) rfl i6) ?_;refine m9 rfl rfl ?_;intro p;refine p_ ?_;refine D5 (H':=E7 p ⟨i,e,f,d,k,c,l,b,j⟩ g F8 M_::r8 none [] 0::l5 g.ra d.a5I g.rc::.blk T (.cells (tG F8 M_).toArray 46)::.blk S (.cells (mH oD qV).toArray 39)::.blk Q (.cells (mH ⟨i,e,f,d,k,c,l,b,j⟩ x).toArray 39)::R) (fun w q=>(q.addNil 51 10).perm (.swap _ _ _)) ?_;refine E5 ?_
 cases l
 ·refine u7 ?_;refine D8 [3,7] [8,9] [E7 p ⟨i,e,f,d,k,c,false,b,j⟩ g F8 M_] 10 ?_;refine wd [0,1,2,3,4,5,6,7,8,9] ?_;refine A2 ?_;refine H3 (A:=[l5 g.ra d.a5I g.rc,r8 none [] 0]) (v:=.tuple #[rH ⟨i,e,f,d,k,c,false,b,j⟩ g,KX F8 M_]) o ⟨_,_,g,M_,rfl,rfl,rfl,.refl rfl,r,CV.zero _⟩ ?_;exact X2 rfl rfl rfl ud rfl ud rfl _ qh (fun w q=>C5 (A:=[_,_]) (J:=[_,_,_,_]) tk q)
 refine p_ ?_;refine c_ (By p ⟨i,e,f,d,k,c,true,b,j⟩ g F8 M_) qw ?_;rintro v A ⟨rfl,rfl⟩;refine i7 rfl ?_;intro V;refine p_ ?_;obtain⟨C,y⟩:=o7 (decide (b.kind=3));refine y9 ?_;refine f_ ((p8 rfl rfl).eq (v':=.bool C) (qn ((zp.2 (by show((b.kind:Nat):Int)=3↔b.kind=3;omega)).trans y.symm))) ?_;refine u7 ?_
 cases C
 case true=>
  have z:b.kind=3:=qr y.symm;refine E5 ?_;refine c_ (oI p (V8 ⟨i,e,f,d,k,c,true,b,j⟩) {g with cl:=G_,ua:=none,uc:=0} F8 M_ b.tag qp) qw ?_;rintro v A ⟨rfl,a,n,rfl⟩;refine u7 ?_;refine D8 [3,7] [8,9] [E7 p ⟨3,e,f,d,k,c,false,ir,[]⟩ ⟨g.ra,g.rc,none,0,G_⟩ ⟨[G2 bg,bT b.tag],false,cW,false,[],[],true⟩ ⟨a,n,db,none,0,[(G2 bg,L0),(bT b.tag,L0)]⟩] 10 ?_;refine wd [0,1,2,3,4,5,6,7,8,9] ?_;refine A2 ?_;refine H3 (A:=[l5 g.ra d.a5I g.rc,r8 a [(G2 bg,L0),(bT b.tag,L0)] n]) (v:=.tuple #[rH ⟨3,e,f,d,k,c,false,ir,[]⟩ ⟨g.ra,g.rc,none,0,G_⟩,KX ⟨[G2 bg,bT b.tag],false,cW,false,[],[],true⟩ ⟨a,n,db,none,0,[(G2 bg,L0),(bT b.tag,L0)]⟩]) o ⟨_,_,⟨g.ra,g.rc,none,0,G_⟩,⟨a,n,db,none,0,[(G2 bg,L0),(bT b.tag,L0)]⟩,by unfold T6;rw[zk x6,zu z];rfl,rfl,rfl,.two rfl,⟨o0.nil _ _,fh.zero _⟩,⟨rfl,fun m t=>by rcases ky.1 (show m∈[(G2 bg,L0),(bT b.tag,L0)] from t) with rfl|t;exact cK rfl rfl rfl _;(rw[zg.1 t];exact cK rfl rfl rfl _),⟨o0.nil _ _,o0.nil _ _⟩,o0.nil _ _⟩⟩ ?_;exact X2 rfl rfl rfl ud rfl ud rfl _ qh (fun w q=>C5 (A:=[_,_]) (J:=[_,_,_,_,_]) tk q)
 have z:¬b.kind=3:=zq y.symm;refine E5 ?_;refine c_ (Gb p (V8 ⟨i,e,f,d,k,c,true,b,j⟩) {g with cl:=G_,ua:=none,uc:=0} F8 M_ b.tag [85,78,65,86,65,73,76,65,66,76,69] [116,114,121,32,97,103,97,105,110] qp) qw ?_;rintro v A ⟨rfl,a,n,rfl⟩;refine u7 ?_;refine D8 [3,7] [8,9] [E7 p ⟨i,e,f,d,k,c,false,ir,[]⟩ ⟨g.ra,g.rc,none,0,G_⟩ ⟨[kP b.tag [85,78,65,86,65,73,76,65,66,76,69] [116,114,121,32,97,103,97,105,110]],false,cW,false,[],[],false⟩ ⟨a,n,db,none,0,[(kP b.tag [85,78,65,86,65,73,76,65,66,76,69] [116,114,121,32,97,103,97,105,110],L0)]⟩] 10 ?_;refine wd [0,1,2,3,4,5,6,7,8,9] ?_;refine A2 ?_;refine H3 (A:=[l5 g.ra d.a5I g.rc,r8 a [(kP b.tag [85,78,65,86,65,73,76,65,66,76,69] [116,114,121,32,97,103,97,105,110],L0)] n]) (v:=.tuple #[rH ⟨i,e,f,d,k,c,false,ir,[]⟩ ⟨g.ra,g.rc,none,0,G_⟩,KX ⟨[kP b.tag [85,78,65,86,65,73,76,65,66,76,69] [116,114,121,32,97,103,97,105,110]],false,cW,false,[],[],false⟩ ⟨a,n,db,none,0,[(kP b.tag [85,78,65,86,65,73,76,65,66,76,69] [116,114,121,32,97,103,97,105,110],L0)]⟩]) o ⟨_,_,⟨g.ra,g.rc,none,0,G_⟩,⟨a,n,db,none,0,[(kP b.tag [85,78,65,86,65,73,76,65,66,76,69] [116,114,121,32,97,103,97,105,110],L0)]⟩,by unfold T6;rw[zk x6,zk z];rfl,rfl,rfl,.one rfl,⟨o0.nil _ _,fh.zero _⟩,⟨rfl,fun m t=>by rw[zg.1 (show m∈[(kP b.tag [85,78,65,86,65,73,76,65,66,76,69] [116,114,121,32,97,103,97,105,110],L0)] from t)];exact cK rfl rfl rfl _,⟨o0.nil _ _,o0.nil _ _⟩,o0.nil _ _⟩⟩ ?_;exact X2 rfl rfl rfl ud rfl ud rfl _ qh (fun w q=>C5 (A:=[_,_]) (J:=[_,_,_,_,_]) tk q)
abbrev zG:RR:={R0 with kind:=1,tag:=[42],text:=[112,111,115,116,104,111,114,110]}
theorem Is:Ct prog 20 [] (fun _=>True) [] (fun v A=>∃a,v=.slice a 1 1/\A=[r8 a [(zG,L0)] 1]):=by
 refine b_ 3 func20 rfl rfl rfl ?_;intro F _;refine xC ?_;refine f_ (y8 (ps:=[(0,.const (.int .i64 1)),(1,.const (B [42])),(3,.const (B [112,111,115,116,104,111,114,110]))]) (vs:=[(0,.int .i64 1),(1,B [42]),(3,B [112,111,115,116,104,111,114,110])]) (cells:=(tp zG L0).toArray) rfl i6) ?_;refine C4 qW (zG,L0) rfl ?_;intro b _;refine C8 ?_;exact d_ rfl rfl _ ⟨b,rfl,rfl⟩ i_
structure AN where
 b:Nat
 c:CM
 k:CL
 m:MM
 o:OC
 y:OL
 bx:BM
 us:List Nat
 ua:Option Addr
 uc:Nat
 bl:BL
 ba:Option Addr
 bc:Nat
 r:RR
 z:RL
abbrev anC(x:AN):List Value:=l9 x.b::(li x.c x.k++iA x.m++tH x.o x.y++de x.bx++[.slice x.ua x.us.length x.uc,.slice x.ba x.bl.length x.bc]++tp x.r x.z)
abbrev C2(g:Nat)(x:AN):As:=.blk g (.cells (anC x).toArray 149)
abbrev uz(p:Bs×Bs):List Value:=[B p.1,B p.2]
abbrev uA(l:BL):List Value:=l.flatMap uz
theorem aq:∀x,(uz x).length=2:=fun _=>rfl
structure cM(x:AN)(h:l_):Prop where
 g:Gl h
 c:fh x.c x.k h
 m:iB x.m h
 o:L_ x.o x.y h
 bx:fH x.bx h
 us:o0 h x.ua (nV x.us)
 bl:o0 h x.ba (uA x.bl)
instance {x:AN}:Mn (cM x):=⟨fun l k=>⟨k.g.le l,Mn.le l k.c,Mn.le l k.m,Mn.le l k.o,Mn.le l k.bx,k.us.le l,k.bl.le l⟩⟩
abbrev LM0:LM:=⟨⟨0,[],0,[],0⟩,none,0⟩
theorem It(g u:Nat)(x:LM):Pu prog 225 [.agg (S8 x).toArray,l9 g] (aK g (.int .u64 (u:Nat)) 27) (.bool (decide (x.t.uid=u))):=by
 refine b_ 8 func225 rfl rfl rfl ?_;intro F a;refine C6 ?_;refine m9 rfl rfl ?_;intro c;refine O2 ?_;refine f_ ((p8 rfl rfl).eq (dN x.t.uid u)) ?_;refine C8 ?_;exact d_ rfl rfl [] qh (fun w b=>b.dropAll)
theorem Eu(g:Nat)(u:Bs)(x:Bs×Bs):Pu prog 227 [.agg (uz x).toArray,l9 g] (aK g (B u) 9) (.bool (decide (x.1=u))):=by
 refine b_ 8 func227 rfl rfl rfl ?_;intro F a;refine C6 ?_;refine m9 rfl rfl ?_;intro c;refine O2 ?_;refine f_ ((B_ rfl rfl).eq (v':=.bool (decide (x.1=u))) rfl) ?_;refine C8 ?_;exact d_ rfl rfl [] qh (fun w b=>b.dropAll)
def PY(x:AN)(u:Nat)(lm:LM)(ok:Bool):Prop:=(ok=true->lm∈x.bx.ls/\lm.t.uid=u)/\(ok=false->lm=LM0)
theorem eV(g:Nat)(x:AN)(u:Nat)(hl:x.bx.ls.length<=1000000):Ct prog 154 [l9 g,.int .u64 (u:Nat)] (fun h=>o0 h x.bx.a (qH x.bx.ls)) [C2 g x] (fun v A=>∃o ok,v=.tuple #[Of o,.bool ok]/\PY x u o ok/\A=[C2 g x]):=by
 refine b_ 25 func154 rfl rfl rfl ?_;intro F c;refine C6 ?_;refine L2 rfl rfl rfl ?_;intro d;refine i7 rfl ?_;intro D;refine p_ ?_;refine B8 (Z:=[.blk d (.cells #[.int .u64 (u:Nat)] 27)]) tk fun t a p=>?_;have hp:aK d (.int .u64 (u:Nat)) 27 t.heap:=I_ p;clear p;have k:=df (fun x:LM=>decide (x.t.uid=u)) x.bx.ls;obtain⟨i,m⟩:=o7 (D1 (fun x:LM=>decide (x.t.uid=u)) x.bx.ls);refine cG ?_;refine e_ rfl (X_ S8 A_ x.bx.ls x.bx.a x.bx.c 225 [l9 d] (aK d (.int .u64 (u:Nat)) 27) (fun x=>decide (x.t.uid=u)) (fun x _=>It d u x) qb) (fun h r _=>⟨(c.le a.heap).le r,r _ _ hp⟩) rfl ?_;rw[<-m];refine p_ ?_;rw[<-m] at k;refine bD ?_ ?_<;>intro h
 ·refine C6 ?_;refine f_ (y8 (ps:=[]) (vs:=[]) (cells:=(S8 LM0).toArray) rfl i6) ?_;refine L7 ?_;exact D3 a (D2 rfl rfl rfl ud rfl _ ⟨LM0,false,rfl,⟨(fun e=>by cases e),fun _=>rfl⟩,rfl⟩ (fun w f=>x8.left tk f))
 have y:0<=i:=by have:=zq h;omega
 obtain⟨j,s⟩:∃j:Nat,i=(j:Nat):=⟨i.toNat,by omega⟩;have b:j<x.bx.ls.length:=by omega
 have z:=(jM (q:=fun x:LM=>decide (x.t.uid=u)) (l:=x.bx.ls) (j:=j) (by rw[<-m,s])).2.1 b;have n:=y7 (c.le a.heap) A_ qp b;rw[s];refine cG ?_;refine f_ (m8 rfl n rfl qb) ?_;refine r_ (w8 rfl (fun w f=>fe (C:=S8) ((c.le a.heap).le f.keep) A_ qp b x6) (A_ _)) ?_;refine L7 ?_;exact D3 a (D2 rfl rfl rfl ud rfl _ ⟨x.bx.ls[j],true,rfl,⟨fun _=>⟨zx b,qr z⟩,fun e=>by cases e⟩,rfl⟩ (fun w f=>f.drop))
theorem qa(g:Nat)(x:AN)(u:Bs)(hl:x.bl.length<=1000000):Ct prog 155 [l9 g,B u] (fun h=>o0 h x.ba (uA x.bl)) [C2 g x] (fun v A=>∃t ok,v=.tuple #[B t,.bool ok]/\(t=[]\/∃p∈x.bl,t=p.2)/\A=[C2 g x]):=by
 refine b_ 23 func155 rfl rfl rfl ?_;intro F b;refine C6 ?_;refine L2 rfl rfl rfl ?_;intro d;refine y9 ?_;refine B8 (Z:=[.blk d (.cells #[B u] 9)]) tk fun n a k=>?_;have hp:aK d (B u) 9 n.heap:=I_ k;clear k;have e:=df (fun x:Bs×Bs=>decide (x.1=u)) x.bl;obtain⟨i,l⟩:=o7 (D1 (fun x:Bs×Bs=>decide (x.1=u)) x.bl);refine au ?_;refine e_ rfl (ll uz aq x.bl x.ba x.bc 227 [l9 d] (aK d (B u) 9) (fun x=>decide (x.1=u)) (fun x _=>Eu d u x) qb) (fun h m _=>⟨(b.le a.heap).le m,m _ _ hp⟩) rfl ?_;rw[<-l];refine p_ ?_;rw[<-l] at e;refine bD ?_ ?_<;>intro h
 ·refine L7 ?_;exact D3 a (r7 rfl rfl rfl _ ⟨[],false,rfl,.inl rfl,rfl⟩ i_)
 have o:0<=i:=by have:=zq h;omega
 obtain⟨j,q⟩:∃j:Nat,i=(j:Nat):=⟨i.toNat,by omega⟩;have c:j<x.bl.length:=by omega
 have f:=y7 (b.le a.heap) aq qp c;rw[q];refine au ?_;refine f_ (m8 rfl f rfl qb) ?_;refine p_ ?_;refine r_ (i8 rfl (fun w r=>cH (C:=uz) (j:=1) ((b.le a.heap).le r.keep) aq c rfl x6)) ?_;refine L7 ?_;exact D3 a (r7 rfl rfl rfl _ ⟨x.bl[j].2,true,rfl,.inr ⟨_,zx c,rfl⟩,rfl⟩ i_)
abbrev Iu(x:AN)(lm:LM):Bool:=!x.c.a5N||decide (x.c.a5O<lm.t.mod)
theorem wW(g:Nat)(x:AN)(a:LM):Ct prog 158 [l9 g,Of a] (fun _=>True) [C2 g x] (fun v A=>v=.bool (Iu x a)/\A=[C2 g x]):=by
 obtain⟨d,b⟩:=o7 (x.c.a5N);obtain⟨h,c⟩:=o7 (decide (x.c.a5O<a.t.mod));unfold Iu;rw[<-b,<-c];refine b_ 21 func158 rfl rfl rfl ?_;intro F _;refine C6 ?_;refine m9 rfl rfl ?_;intro e;refine p_ ?_
 cases d
 all_goals (
  refine u7 ?_;refine D8 [4,8,13] [] [C2 g x,.blk e (.cells (S8 a).toArray 156)] 17 ?_;refine wd [0,1,2,3] ?_;refine n9 4 rfl P6 ((E8 rfl ud (v:=.bool x.c.a5N) (by rfl)).eb b) I5 rfl rfl rfl i6 ?_;refine wd [5,6,7,8,9,10,11,12,13] ?_;(first|refine s_ 14 ?_|refine t_ 14 ?_|refine F6 14 rfl ((D_ rfl rfl).eq (qn ((qz).trans c.symm))) rfl rfl rfl rfl rfl rfl i6 ?_);refine wd [15,16] ?_)
 all_goals (refine A2 ?_;exact d_ rfl rfl _ qh (fun w f=>f.drop))
theorem ep(g:Nat)(x:AN)(code text:Bs):Ct prog 164 [l9 g,B code,B text] (fun _=>True) [C2 g x] (fun v A=>v=.tuple #[]/\A=[C2 g {x with r:=kP x.c.tag code text,z:=L0}]):=by
 refine b_ 17 func164 rfl rfl rfl ?_;intro F _;refine wk 8 ?_;refine f_ (y8 (ps:=[(0,.const (.int .i64 2)),(1,.tmp 11),(2,.tmp 12),(3,.tmp 13)]) (vs:=[(0,.int .i64 2),(1,B x.c.tag),(2,B code),(3,B text)]) (cells:=(tp (kP x.c.tag code text) L0).toArray) rfl i6) ?_;refine E5 ?_;exact m6 rfl _ qh fun w a=>a
theorem Iv(g n:Nat)(x:IT):Pu prog 360 [.agg (cZ x).toArray,l9 g] (aK g (.int .i64 (n:Nat)) 3) (.bool (decide (x.kind=n))):=by
 refine b_ 8 func360 rfl rfl rfl ?_;intro F a;refine C6 ?_;refine m9 rfl rfl ?_;intro c;refine O2 ?_;refine f_ ((p8 rfl rfl).eq (v':=.bool (decide (x.kind=n))) (qn qz)) ?_;refine C8 ?_;exact d_ rfl rfl [] qh (fun w b=>b.dropAll)
theorem uB(c:CM)(k:CL)(n:Nat)(hl:c.a5M.length<=1000000):Pu prog 305 [xE c k,.int .i64 (n:Nat)] (fun h=>o0 h k.ia (oH c.a5M)) (.bool (c.a5M.any fun x=>decide (x.kind=n))):=by
 refine b_ 9 func305 rfl rfl rfl ?_;intro F d;refine C6 ?_;refine m9 rfl rfl ?_;intro j;refine L2 rfl rfl rfl ?_;intro a;refine p_ ?_;refine B8 (Z:=[.blk a (.cells #[.int .i64 (n:Nat)] 3)]) tk fun g b e=>?_;have hp:aK a (.int .i64 (n:Nat)) 3 g.heap:=I_ e;clear e;refine E5 ?_;refine e_ rfl (V3 cZ an c.a5M k.ia k.ic 360 [l9 a] (aK a (.int .i64 (n:Nat)) 3) (fun x=>decide (x.kind=n)) (fun x _=>Iv a n x) qb) (fun h f _=>⟨(d.le b.heap).le f,f _ _ hp⟩) rfl ?_;refine C8 ?_;exact D3 b (d_ rfl rfl [] qh (fun w i=>i.dropAll))
theorem zH(kind:Nat)(e:Int):Pu prog 165 [.int .i64 (kind:Nat),.int .i64 e] (fun _=>True) (.tuple #[B (mF kind e).1,B (mF kind e).2]):=by
 obtain⟨m,j⟩:=o7 (decide (e=6));obtain⟨k,f⟩:=o7 (decide (e=12));obtain⟨r,n⟩:=o7 (decide (e=7));obtain⟨l,g⟩:=o7 (decide (e=13));obtain⟨s,o⟩:=o7 (decide (e=1));obtain⟨p,i⟩:=o7 (decide (e=21));obtain⟨t,q⟩:=o7 (decide (kind=14));obtain⟨v,b⟩:=o7 (mF kind e);rw[<-b];unfold mF at b;refine b_ 32 func165 rfl rfl rfl ?_;intro F _;refine H9 2 ?_;refine n8 ?_;refine H9 0 ?_;refine w6 [(0,.int .i64 (kind:Nat)),(1,.int .i64 e),(6,.bool (m&&t||p))] [] ?_ ?_
 ·cases m<;>cases t
  all_goals (
   refine p_ ?_;refine f_ ((p8 rfl rfl).eb j) ?_;refine y9 ?_;(first|refine u_ ?_|(refine v_ ?_;refine f_ ((p8 rfl rfl).eq (qn ((qz).trans q.symm))) ?_));refine E5 ?_;(first|refine u_ ?_|(refine v_ ?_;refine f_ ((p8 rfl rfl).eb i) ?_));refine y9 ?_)
  all_goals exact o_ sub i_
 refine N8 ?_ ?_<;>intro h
 ·have d:e=6/\kind=14\/e=21:=by rw[j,q,i] at h;simpa using h
  refine L7 ?_;exact r7 rfl rfl rfl [] ⟨by rw[b,zu d],rfl⟩ i_
 have d:¬(e=6/\kind=14\/e=21):=by rw[j,q,i] at h;simpa using h
 refine p_ ?_;refine f_ ((p8 rfl rfl).eq (v':=.bool m) (qn j.symm)) ?_;refine p_ ?_
 cases m
 case true=>
  have k6:e=6:=qr j.symm;refine L7 ?_;exact r7 rfl rfl rfl [] ⟨by rw[b,zk d,zu k6],rfl⟩ i_
 have k6:¬e=6:=zq j.symm;refine p_ ?_;refine f_ ((p8 rfl rfl).eq (v':=.bool k) (qn f.symm)) ?_;refine p_ ?_
 cases k
 case true=>
  have a:e=12:=qr f.symm;refine L7 ?_;exact r7 rfl rfl rfl [] ⟨by rw[b,zk d,zk k6,zu a],rfl⟩ i_
 have a:¬e=12:=zq f.symm;refine p_ ?_;refine f_ ((p8 rfl rfl).eq (v':=.bool r) (qn n.symm)) ?_;refine p_ ?_
 cases r
 case true=>
  have k7:e=7:=qr n.symm;refine L7 ?_;exact r7 rfl rfl rfl [] ⟨by rw[b,zk d,zk k6,zk a,zu k7],rfl⟩ i_
 have k7:¬e=7:=zq n.symm;refine p_ ?_;refine f_ ((p8 rfl rfl).eq (v':=.bool l) (qn g.symm)) ?_;refine p_ ?_
 cases l
 case true=>
  have c:e=13:=qr g.symm;refine L7 ?_;exact r7 rfl rfl rfl [] ⟨by rw[b,zk d,zk k6,zk a,zk k7,zu c],rfl⟩ i_
 have c:¬e=13:=zq g.symm;refine p_ ?_;refine f_ ((p8 rfl rfl).eq (v':=.bool s) (qn o.symm)) ?_;refine p_ ?_
 cases s
 case true=>
  have k1:e=1:=qr o.symm;refine L7 ?_;exact r7 rfl rfl rfl [] ⟨by rw[b,zk d,zk k6,zk a,zk k7,zk c,zu k1],rfl⟩ i_
 have k1:¬e=1:=zq o.symm;refine L7 ?_;exact r7 rfl rfl rfl [] ⟨by rw[b,zk d,zk k6,zk a,zk k7,zk c,zk k1],rfl⟩ i_
def uC(i:IT)(lm:LM)(v:RV):Prop:=
 if i.kind=6 then v={V0 with kind:=6,a5U:=lm.t.a5U} else if i.kind=7 then v={V0 with kind:=7,n:=lm.t.uid}
 else if i.kind=8 then v={V0 with kind:=8,n:=lm.t.size} else if i.kind=9 then v={V0 with kind:=9,n:=lm.t.mod}
 else∃t:Bs,t.length<=1000000000/\v={V0 with kind:=i.kind,text:=t,part:=i.part,fr:=if i.part then i.fr else 0}
abbrev itA(i:IT):Value:=.agg (cZ i).toArray
def a1K(g:Nat)(x:AN)(i:IT)(lm:LM)(v:Value)(A:List As):Prop:=∃(w:VM) (Z:List As),v=vmA w/\uC i lm w.v/\A=C2 g x::Z/\∀h bs,A3 h Z bs->o0 h w.a (fV w.v.a5U)
abbrev BI(g:Nat)(w:VM):As:=.blk g (.cells (vp w).toArray 110)
theorem wX(g:Nat)(x:AN)(i:IT)(a:LM)(hf:a.t.a5U.length<=1000000)(hl:x.bl.length<=1000000)(s:∀p∈x.bl,p.2.length<=1000000000):
  Ct prog 308 [l9 g,itA i,Of a] (fun h=>Gl h/\o0 h a.a (fV a.t.a5U)/\o0 h x.ba (uA x.bl)) [C2 g x] (a1K g x i a):=by
 obtain⟨U,y⟩:=o7 (decide (i.kind=6));obtain⟨V,z⟩:=o7 (decide (i.kind=7));obtain⟨X,D⟩:=o7 (decide (i.kind=8));obtain⟨Y,J⟩:=o7 (decide (i.kind=9));refine b_ 63 func308 rfl rfl rfl ?_;rintro F ⟨hg,M,O⟩;refine C6 ?_;refine m9 rfl rfl ?_;intro g4;refine m9 rfl rfl ?_;intro g5;refine i7 rfl ?_;intro c;refine y9 ?_;refine f_ (y8 (ps:=[(0,.tmp 11)]) (vs:=[(0,.int .i64 (i.kind:Nat))]) (cells:=(vp ⟨{V0 with kind:=i.kind},none,0⟩).toArray) rfl i6) ?_;refine i7 rfl ?_;intro d;refine p_ ?_;refine H9 2 ?_;refine n7 (ι:=VM×List As) (fun q=>uC i a q.1.v/\∀h f,A3 h q.2 f->o0 h q.1.a (fV q.1.v.a5U)) (fun q=>[(6,l9 c),(7,l9 d)]) (fun q=>BI d q.1::BI c OU::C2 g x::q.2) ?_ ?_
 ·refine n8 ?_;refine C6 ?_;refine f_ ((p8 rfl rfl).eq (v':=.bool U) (qn ((qz).trans y.symm))) ?_;refine p_ ?_
  cases U
  case true=>
   have e:i.kind=6:=qr y.symm;refine y9 ?_;refine c_ (Y5 a.t.a5U a.a a.c hf) (fun h l _=>M.le l) ?_;rintro v A ⟨o,r,rfl,rfl⟩;refine y9 ?_;refine g_ (⟨{V0 with kind:=i.kind,a5U:=a.t.a5U},o,r⟩,[A4 o a.t.a5U r]) ⟨by unfold uC;rw[zu e,e];rfl,fun h f hs=>A3.rd hs .del⟩ (fun w b=>?_);exact(tk (C:=[BI d ⟨{V0 with kind:=i.kind,a5U:=a.t.a5U},o,r⟩,BI c OU,C2 g x,A4 o a.t.a5U r])).hp b|>.left (A:=[_,_,_,_])
  have e:¬i.kind=6:=zq y.symm;refine C6 ?_;refine f_ ((p8 rfl rfl).eq (v':=.bool V) (qn ((qz).trans z.symm))) ?_;refine p_ ?_
  cases V
  case true=>
   have j:i.kind=7:=qr z.symm;refine O2 ?_;exact g_ (⟨{V0 with kind:=i.kind,n:=a.t.uid},none,0⟩,[]) ⟨by unfold uC;rw[zk e,zu j,j];rfl,fun h f hs=>o0.nil _ _⟩ (fun w b=>(tk (C:=[BI d ⟨{V0 with kind:=i.kind,n:=a.t.uid},none,0⟩,BI c OU,C2 g x])).hp b|>.left (A:=[_,_,_]))
  have j:¬i.kind=7:=zq z.symm;refine C6 ?_;refine f_ ((p8 rfl rfl).eq (v':=.bool X) (qn ((qz).trans D.symm))) ?_;refine p_ ?_
  cases X
  case true=>
   have k:i.kind=8:=qr D.symm;refine O2 ?_;exact g_ (⟨{V0 with kind:=i.kind,n:=a.t.size},none,0⟩,[]) ⟨by unfold uC;rw[zk e,zk j,zu k,k];rfl,fun h f hs=>o0.nil _ _⟩ (fun w b=>(tk (C:=[BI d ⟨{V0 with kind:=i.kind,n:=a.t.size},none,0⟩,BI c OU,C2 g x])).hp b|>.left (A:=[_,_,_]))
  have k:¬i.kind=8:=zq D.symm;refine C6 ?_;refine f_ ((p8 rfl rfl).eq (v':=.bool Y) (qn ((qz).trans J.symm))) ?_;refine p_ ?_
  cases Y
  case true=>
   have m:i.kind=9:=qr J.symm;refine O2 ?_;exact g_ (⟨{V0 with kind:=i.kind,n:=a.t.mod},none,0⟩,[]) ⟨by unfold uC;rw[zk e,zk j,zk k,zu m,m];rfl,fun h f hs=>o0.nil _ _⟩ (fun w b=>(tk (C:=[BI d ⟨{V0 with kind:=i.kind,n:=a.t.mod},none,0⟩,BI c OU,C2 g x])).hp b|>.left (A:=[_,_,_]))
  have m:¬i.kind=9:=zq J.symm;refine E5 ?_;refine c_ (qa g x a.t.hash hl) (fun h l _=>O.le l) ?_;rintro v A ⟨t,ok,rfl,Q,rfl⟩;refine au ?_;have S:t.length<=1000000000:=by rcases Q with rfl|⟨p,hp,rfl⟩;(simp);exact s p hp
  refine E5 ?_;refine c_ (C:=[]) (pg t i.kind S) (fun h l _=>hg.le l) ?_;rintro v A ⟨⟨u,rfl,hu⟩,rfl⟩;refine y9 ?_;obtain⟨bp,hp⟩:=o7 (i.part);refine p_ ?_;refine r_ ((E8 rfl ud (v:=.bool i.part) (by rfl)).eb hp) ?_;refine u7 ?_
  cases bp
  ·refine u7 ?_;exact g_ (⟨{V0 with kind:=i.kind,text:=u},none,0⟩,[]) ⟨by unfold uC;rw[zk e,zk j,zk k,zk m];exact⟨u,by omega,by rw[<-hp];rfl⟩,fun h f hs=>o0.nil _ _⟩ (fun w b=>(tk (C:=[BI d ⟨{V0 with kind:=i.kind,text:=u},none,0⟩,BI c OU,C2 g x])).hp b|>.left (A:=[_,_,_]))
  ·refine u7 ?_;refine D8 [1,5,7] [3,8,10,12,14] [.blk g4 (.cells (cZ i).toArray 129)] 15 ?_;refine wd [0,1,2,4,5,6,7] ?_;refine h_ 3 rfl i6 ?_;refine r_ (E8 rfl ud (v:=B u) (by rfl)) ?_;refine gj [9] ?_;refine h_ 8 rfl i6 ?_;refine c_ (C:=[]) (yu u i.fr i.count qb) qw ?_;rintro v A ⟨⟨T,rfl,h0⟩,rfl⟩;refine gj [10,11,12,13,14] ?_;exact g_ (⟨{V0 with kind:=i.kind,text:=T,part:=true,fr:=i.fr},none,0⟩,[]) ⟨by unfold uC;rw[zk e,zk j,zk k,zk m];exact⟨T,by omega,by rw[<-hp];rfl⟩,fun h f hs=>o0.nil _ _⟩ (fun w b=>(tk (C:=[BI d ⟨{V0 with kind:=i.kind,text:=T,part:=true,fr:=i.fr},none,0⟩,BI c OU,C2 g x])).hp b|>.left (A:=[_,_,_]))
 rintro⟨q,Z⟩ ⟨hq,hz⟩;simp only at hq hz;refine L7 ?_;exact G6 rfl rfl ud rfl _ ⟨q,Z,rfl,hq,rfl,hz⟩ (fun w b=>b.drop.drop)
end Go.Proofs.YtmcepdopookilaaGreatDoor.Rp
namespace Go.Sl
open Go Go.RowKit Go.Proofs.YtmcepdopookilaaGreatDoor.Rp Go.Proofs.Tryz
def zI(l:List Bool):List Value:=l.map Value.bool
theorem Ni(l:List Bool):(zI l).length=l.length:=by simp[zI]
abbrev aw(a:Option Addr)(n c:Nat)(l:List Bool):As:=.own (.slice a n c) 4 1 (zI l)
section
variable{P:Program}{N:Nat}{K R:y6}{E:List (Nat×y6)}{L:G0}{F:l6}{H:List As}{ops:Array Oper}{rest:List Oper}{ty:TypeId}{pos:String}{af:Array Edge}{dst:Option Nat}{gd:Option (Nat×Bool)}{t:TypeId}{x y:Operand}
theorem Tw{a:Option Addr}{n c:Nat}{l:List Bool}{i:Int}{H':List As}[ha:HA P t false](hl:l.length=n)(u:M3 H (aw a n c l) [] H':=by exact ud)(hx:ev L x=some (.pointer (N0 a (i.toNat*1))):=by rfl)(e:0<=i/\i<n:=by omega):dv P ⟨dst,.load t x,ty,pos,af,gd⟩ L F H (.bool (l.getD i.toNat false)):=
 i8 hx fun w d=>iU d u x6 fun j v b=>by
  match j,b with
  |0,b=>
   simp at b;subst b;have h:i.toNat<l.length:=(by omega);rw[Zd,Q3,zI,Zb,zj h];simp[List.getD,h]
theorem nE{a:Option Addr}{n c:Nat}{l:List Bool}{i:Int}{v:Bool}{H':List As}[hs:HS P t 1](hl:l.length=n)(h:GL P N ops rest K E R L F H')(u:M3 H (aw a n c l) [aw a n c (l.set i.toNat v)] H':=by exact uh)(hx:ev L x=some (.pointer (N0 a (i.toNat*1))):=by rfl)(d:ev L y=some (.bool v):=by rfl)(f:0<=i/\i<n:=by omega):GL P N ops (⟨none,.store t x y,ty,pos,af,none⟩::rest) K E R L F H:=by
 have hp:L5 (zI l) (i.toNat*1) [.bool v]=zI (l.set i.toNat v):=by
  have e:i.toNat<l.length:=by omega
  unfold L5 zI;rw[Zd,Kb,Zm,zu (by simpa using e)];simp
 refine T9 (n:=1) (a:=a) (len:=n) (c:=c) (sz:=1) (xs:=zI l) (te:=4) hx d (H':=H') ?_ rfl qp (fun q b=>by simp[Value.cells] at b;subst b;rfl) (by rw[Ni];omega) h;show M3 H _ [.own (.slice a n c) 4 1 (L5 (zI l) (i.toNat*1) [.bool v])] H';rw[hp];exact u
end
end Go.Sl
namespace Go.Proofs.YtmcepdopookilaaGreatDoor.Rp
open Go Go.Sl Go.RowKit Go.Proofs.Tryz
theorem Iw(a:Option Addr)(n c:Nat)(l:List Bool)(f:UInt8)(b:Bs)(k:Int)(hl:l.length=n)(O:n=b.length+1)(Q:b.length<=1000000000)(w:0<=k/\k<=b.length):
  Ct prog 302 [.slice a n c,Ua f,B b,.int .i64 k] (fun _=>True) [aw a n c l] (fun v A=>v=.tuple #[]/\∃m:List Bool,m.length=n/\A=[aw a n c m]):=by
 obtain⟨y,z⟩:=o7 (decide (((f.toNat:Nat):Int)=42));obtain⟨C,D⟩:=o7 (decide (((f.toNat:Nat):Int)=37));refine b_ 52 func302 rfl rfl rfl ?_;intro F _;refine B4 (a:=a) (n:=n) (c:=c) (sz:=1) (xs:=zI l) (te:=4) ud fun _ _ d=>?_;have d:=d qb;refine H9 0 ?_;refine w6 [(0,.slice a n c),(1,Ua f),(2,B b),(3,.int .i64 k),(13,.bool (!y&&!C))] [aw a n c l] ?_ ?_
 ·cases y
  all_goals (
   refine p_ ?_;refine f_ ((M1 rfl rfl).eq (jk (fun x=>Value.bool (!x)) z.symm)) ?_;refine y9 ?_;(first|refine u_ ?_|(refine v_ ?_;refine f_ ((M1 rfl rfl).eq (jk (fun x=>Value.bool (!x)) D.symm)) ?_));refine p_ ?_)
  all_goals exact o_ sub i_
 refine N8 ?_ ?_<;>intro h
 ·refine H9 0 ?_;refine n7 (ι:=Bool) (fun q=>q=true->k<b.length) (fun q=>[(0,.slice a n c),(3,.int .i64 k),(24,.bool q)]) (fun _=>[aw a n c l]) ?_ ?_
  ·obtain⟨r,g⟩:=o7 (decide (k<(b.length:Nat)))
   cases r
   all_goals try have o:=qr g.symm
   all_goals (
    refine E5 ?_;refine f_ ((E_ rfl rfl).eb g) ?_;refine wk 7 ?_)
   all_goals first|exact g_ _ (fun _=>qr g.symm) i_|exact g_ false (fun e=>by cases e) i_
  intro q s;refine N8 ?_ ?_<;>intro h
  ·have o:=s h;refine y9 ?_;refine f_ (p9 rfl rfl qb) ?_;refine f_ (m8 rfl d rfl qb) ?_;refine nE hl ?_;refine ov ?_;exact m6 rfl _ ⟨rfl,_,by rw[js];exact hl,rfl⟩ i_
  ·refine ov ?_;exact m6 rfl _ ⟨rfl,l,hl,rfl⟩ i_
 refine y9 ?_;refine f_ (m8 rfl d rfl qb) ?_;refine nE hl ?_;refine H9 0 ?_;refine n7 (ι:=List Bool) (fun m=>m.length=n) (fun _=>[]) (fun m=>[aw a n c m]) ?_ ?_
 ·refine n8 ?_;refine o9 (ι:=Int×List Bool) (fun i=>0<=i.1/\i.1<=b.length/\i.2.length=n) (fun i=>[(0,.slice a n c),(1,Ua f),(2,B b),(3,.int .i64 i.1)]) (fun i=>[aw a n c i.2]) (fun i=>(b.length-i.1).toNat) (k,_) ⟨w.1,w.2,by rw[js];exact hl⟩ sub i_ ?_;rintro⟨j,m⟩ ⟨t,u,p⟩;simp only at t u p;refine H9 0 ?_;refine n7 (ι:=Bool) (fun q=>q=true->j<b.length) (fun q=>[(0,.slice a n c),(1,Ua f),(2,B b),(3,.int .i64 j),(45,.bool q)]) (fun _=>[aw a n c m]) ?_ ?_
  ·obtain⟨r,g⟩:=o7 (decide (j<(b.length:Nat)));obtain⟨J,M⟩:=o7 (decide (((f.toNat:Nat):Int)=42))
   cases r<;>cases J
   all_goals try have o:=qr g.symm
   all_goals (
    refine E5 ?_;refine f_ ((E_ rfl rfl).eb g) ?_;refine y9 ?_;(first|refine u_ ?_|(refine v_ ?_;refine f_ ((p8 rfl rfl).eb M) ?_));refine wk 7 ?_)
   all_goals first|exact g_ _ (fun _=>qr g.symm) i_|exact g_ false (fun e=>by cases e) i_
  intro q s;refine N8 ?_ ?_<;>intro h
  ·have o:=s h;refine y9 ?_;refine f_ (p9 rfl rfl qb) ?_;refine f_ (m8 rfl d rfl qb) ?_;refine nE p ?_;refine E5 ?_;exact l8 (i:=(j,m)) (j+1,_) ⟨by simp only;omega,by simp only;omega,by rw[js];exact p⟩ qg sub i_
  ·refine u7 ?_;exact g_ m p i_
 intro m p;refine u7 ?_;exact m6 rfl _ ⟨rfl,m,p,rfl⟩ i_
theorem BJ(n:Nat):zI (List.replicate n false)=List.replicate n (Value.bool false):=by simp[zI]
theorem nF(d b:Bs)(hp:d.length<=2000000000)(Q:b.length<=1000000):Ct prog 233 [B d,B b] (fun _=>True) [] Ub:=by
 obtain⟨n,u⟩:=o7 (b.length+1);refine b_ 48 func233 rfl rfl rfl ?_;intro F _;refine E5 ?_;refine f_ ((p9 rfl rfl qb).eq (v':=.int .i64 ((n:Nat):Int)) (by congr 1;omega)) ?_;refine nQ rfl rfl rfl qb (by show(1:Int)*_<=_;omega) rfl ?_;intro s;rw[jm,<-BJ];refine p_ ?_;refine B4 (a:=s) (n:=n) (c:=n) (sz:=1) (xs:=zI (List.replicate n false)) (te:=4) ud fun _ _ f=>?_;have f:=f qb;refine p_ ?_;refine f_ (m8 rfl f rfl qb) ?_;refine nE (i:=0) (l:=List.replicate n false) Kv ?_;refine u7 ?_;refine H9 3 ?_;refine n7 (ι:=Option Addr×List Bool) (fun q=>q.2.length=n) (fun q=>[(1,B b),(5,.slice q.1 n n)]) (fun q=>[aw q.1 n n q.2]) ?_ ?_
 ·refine n8 ?_;refine o9 (ι:=Nat×Option Addr×List Bool) (fun i=>i.1<=d.length/\i.2.2.length=n) (fun i=>[(0,B d),(1,B b),(17,.int .i64 (d.length:Nat)),(18,.int .i64 (i.1:Nat)),(5,.slice i.2.1 n n)]) (fun i=>[aw i.2.1 n n i.2.2]) (fun i=>d.length-i.1) (0,s,_) ⟨zw _,by simp⟩ sub i_ ?_;rintro⟨j,a5,g⟩ ⟨J,o⟩;simp only at J o;refine R6 ?_ ?_<;>intro h
  ·have x:j<d.length:=(by have:=qr h;omega);refine H9 0 ?_;refine n7 (ι:=Option Addr×List Bool) (fun q=>q.2.length=n) (fun q=>[(0,B d),(1,B b),(17,.int .i64 (d.length:Nat)),(18,.int .i64 (j:Nat)),(5,.slice q.1 n n)]) (fun q=>[aw q.1 n n q.2]) ?_ ?_
   ·refine n8 ?_;refine O2 ?_;refine f_ ((p9 rfl rfl qb).eq (v':=.int .i64 ((n:Nat):Int)) (by congr 1;omega)) ?_;refine nQ rfl rfl rfl qb (by show(1:Int)*_<=_;omega) rfl ?_;intro e;rw[jm,<-BJ];refine p_ ?_;refine H9 3 ?_;refine n7 (ι:=List Bool) (fun m=>m.length=n) (fun m=>[(0,B d),(1,B b),(17,.int .i64 (d.length:Nat)),(18,.int .i64 (j:Nat)),(7,.slice e n n)]) (fun m=>[aw e n n m]) ?_ ?_
    ·refine n8 ?_;refine o9 (ι:=Nat×List Bool) (fun i=>i.1<=n/\i.2.length=n) (fun i=>[(0,B d),(1,B b),(6,.int .i64 (j:Nat)),(17,.int .i64 (d.length:Nat)),(18,.int .i64 (j:Nat)),(7,.slice e n n),(25,.slice a5 n n),(26,.int .i64 (n:Nat)),(27,.int .i64 (i.1:Nat))]) (fun i=>[aw e n n i.2,aw a5 n n g]) (fun i=>n-i.1) (0,_) ⟨zw _,by simp⟩ sub i_ ?_;rintro⟨q,m⟩ ⟨M,r⟩;simp only at M r;refine R6 ?_ ?_<;>intro h
     ·have y:q<n:=(by have:=qr h;omega);refine B4 (a:=a5) (n:=n) (c:=n) (sz:=1) (xs:=zI g) (te:=4) ud fun _ _ k=>?_;have k:=k qb;refine H9 0 ?_;refine n7 (ι:=List Bool) (fun m=>m.length=n) (fun m=>[(0,B d),(1,B b),(6,.int .i64 (j:Nat)),(17,.int .i64 (d.length:Nat)),(18,.int .i64 (j:Nat)),(7,.slice e n n),(25,.slice a5 n n),(26,.int .i64 (n:Nat)),(27,.int .i64 (q:Nat))]) (fun m=>[aw e n n m,aw a5 n n g]) ?_ ?_
      ·refine n8 ?_;refine p_ ?_;refine f_ (m8 rfl k rfl qb) ?_;refine r_ (Tw (i:=(q:Nat)) o) ?_;refine eI ?_ ?_<;>intro h
       ·refine cG ?_;refine c_ (Iw e n n m (d.getD j 0) b (q:Nat) r u qb qb) qw ?_;rintro v A ⟨rfl,z,p,rfl⟩;refine u7 ?_;exact g_ z p i_
       ·refine u7 ?_;exact g_ m r i_
      intro z p;refine y9 ?_;exact l8 (i:=(q,m)) (q+1,z) ⟨y,p⟩ qg sub i_
     ·refine u7 ?_;exact g_ m r (fun w C=>x8.left tk C)
    intro m r;refine y9 ?_;exact g_ (e,m) r i_
   rintro⟨O,D⟩ t;simp only at t;refine y9 ?_;exact l8 (i:=(j,a5,g)) (j+1,O,D) ⟨x,t⟩ qg sub i_
  ·refine u7 ?_;exact g_ (a5,g) o i_
 rintro⟨a5,g⟩ o;simp only at o;refine u7 ?_;refine B4 (a:=a5) (n:=n) (c:=n) (sz:=1) (xs:=zI g) (te:=4) ud fun _ _ k=>?_;have k:=k qb;refine E5 ?_;refine f_ (m8 rfl k rfl qb) ?_;refine r_ (Tw (i:=(b.length:Nat)) o) ?_;refine C8 ?_;exact d_ rfl rfl [] ⟨⟨_,rfl⟩,rfl⟩ (fun w C=>C.drop)
structure rm(x:AN):Prop where
 ls:x.bx.ls.length<=1000
 fl:∀lm∈x.bx.ls,lm.t.a5U.length<=1000
 bl:x.bl.length<=1000
 body:∀p∈x.bl,p.2.length<=1000000
 c:tF x.c
theorem zJ(m:KM):Pu prog 303 [SZ m] (fun _=>True) (.bool (decide (m.k.kind=10))):=by
 refine b_ 6 func303 rfl rfl rfl ?_;intro F _;refine C6 ?_;refine m9 rfl rfl ?_;intro b;refine E5 ?_;refine f_ ((p8 rfl rfl).eq (v':=.bool (decide (m.k.kind=10))) (qn qz)) ?_;refine C8 ?_;exact d_ rfl rfl [] qh (fun w a=>a.dropAll)
abbrev BK(nums:List Nat)(m:Nat):RR:={R0 with kind:=13,nums:=nums,mod:=m}
abbrev xI(g:Nat)(r:RR)(z:RL):As:=.blk g (.cells (tp r z).toArray 51)
theorem PZ{x:AN}{a:LM}{ok:Bool}{u:Nat}(hx:rm x)(h:PY x u a ok):a.t.a5U.length<=1000:=by
 cases ok
 ·rw[h.2 rfl];simp
 ·exact hx.fl _ (h.1 rfl).1
theorem Qa{x:AN}{a:LM}{ok:Bool}{u:Nat}{hp:l_}(hx:cM x hp)(h:PY x u a ok):o0 hp a.a (fV a.t.a5U):=by
 cases ok
 ·rw[h.2 rfl];exact o0.nil _ _
 ·exact hx.bx.fl _ (h.1 rfl).1
theorem Ev(g:Nat)(x:AN)(s:SE)(sl:SL)(d:DD)(y:DL)(hx:rm x)(hv:s.a5J.a5I.length<=100000)(hl:y.rl.length<=100000):
  Cm prog 235 [l9 g] (cM x) (C2 g x::l5 sl.ra s.a5J.a5I sl.rc::O4 x.b s sl d y) (fun h v A=>v=.tuple #[]/\∃nums m z a c,nums.length<=s.a5J.a5I.length/\fC (BK nums m) z h/\yM z/\A=C2 g x::l5 sl.ra s.a5J.a5I sl.rc::O4 x.b s sl d (E9 y (BK nums m,z) a c)):=by
 have h3:=hx.c;have q7:=hx.ls;have q8:=hx.bl;refine y4 133 func235 rfl rfl rfl ?_;rintro F R Q;obtain⟨kl,h4,h5,h9⟩:=Q.c.keys;have h6:=dg h4;have q6:=h3.keys;have f:=cn bE ao kl x.k.ka x.k.kc 303 [] (fun _=>True) (fun m=>decide (m.k.kind=10)) (fun m _=>zJ m) qb;rw[h6] at f;have k0:∀m∈kl,EQ m.k:=fun m hm=>h3.ksets _ (by rw[<-h4];exact Zz hm);have r:=fun(u:LM) (p:PL) (t:Bs) (h1:u.t.a5U.length<=1000000) (h2:t.length<=1000000000)=>HK x.k.ka x.k.kc kl u p t qb k0 h1 h2;simp only[h6] at r;obtain⟨bm,k8⟩:=o7 (kl.any fun m=>decide (m.k.kind=10));rw[<-k8] at f;refine C6 ?_;refine f_ (y8 (ps:=[(0,.const (.int .i64 13))]) (vs:=[(0,.int .i64 13)]) (cells:=(tp (BK [] 0) L0).toArray) rfl i6) ?_;refine i7 rfl ?_;intro D;refine cG ?_;refine e_ rfl f (fun h V _=>⟨h5.le V,trivial⟩) rfl ?_;refine wk 11 ?_;refine f_ ((z_ rfl qb).eq (v':=.int .u64 (s.a5J.a5I.length:Nat)) rfl) ?_;refine f_ (y8 (ps:=[(1,.tmp 30)]) (vs:=[(1,.int .u64 (s.a5J.a5I.length:Nat))]) (cells:=(HG ⟨0,s.a5J.a5I.length,0⟩).toArray) rfl i6) ?_;refine i7 rfl ?_;intro O;refine p_ ?_;refine H9 11 ?_;refine B4 (a:=sl.ra) (n:=s.a5J.a5I.length) (c:=sl.rc) (sz:=2) (xs:=V5 s.a5J.a5I) (te:=72) ud fun _ _ S=>?_;refine n7 (ι:=Nat) (fun _=>True) (fun k=>[(0,l9 g),(2,l9 D),(3,.bool bm),(4,l9 O)]) (fun k=>.blk O (.cells (HG ⟨0,s.a5J.a5I.length,k⟩).toArray 333)::xI D (BK [] 0) L0::C2 g x::l5 sl.ra s.a5J.a5I sl.rc::E7 x.b s sl d y::r8 y.da y.rl y.dc::R) ?_ ?_
 ·refine n8 ?_;refine o9 (ι:=Nat×Nat) (fun i=>i.1<=s.a5J.a5I.length) (fun i=>[(0,l9 g),(2,l9 D),(3,.bool bm),(4,l9 O),(40,.slice sl.ra s.a5J.a5I.length sl.rc),(41,.int .i64 (s.a5J.a5I.length:Nat)),(42,.int .i64 (i.1:Nat))]) (fun i=>.blk O (.cells (HG ⟨0,s.a5J.a5I.length,i.2⟩).toArray 333)::xI D (BK [] 0) L0::C2 g x::l5 sl.ra s.a5J.a5I sl.rc::E7 x.b s sl d y::r8 y.da y.rl y.dc::R) (fun i=>s.a5J.a5I.length-i.1) (0,0) (zw _) sub i_ ?_;rintro⟨j,k⟩ hj;simp only at hj;refine R6 ?_ ?_<;>intro h
  ·have T:j<s.a5J.a5I.length:=(by have:=qr h;omega);have X:=S qb;refine C6 ?_;refine f_ (m8 rfl X rfl qb) ?_;refine r_ (w8 rfl (fun w b=>fe (C:=ix) (b.ownN (t:=72) ud).2.2.1 D0 qp T x6) (D0 _)) ?_;refine i7 rfl ?_;intro g6;refine au ?_;refine f_ ((nP rfl rfl).eq (v':=.int .u64 ((max k s.a5J.a5I[j].1:Nat):Int)) (by show Value.int .u64 (max ((k:Nat):Int) ((s.a5J.a5I[j].1:Nat):Int))=_;congr 1;omega)) ?_;refine O2 ?_;exact l8 (i:=(j,k)) (j+1,max k s.a5J.a5I[j].1) T qg sub (fun w b=>b.drop)
  ·refine u7 ?_;exact g_ k trivial i_
 intro k _;refine H9 11 ?_;refine ly (fun(nums:List Nat) (m:Nat) (o:AC) (M:Nat)=>nums.length<=s.a5J.a5I.length) (fun _ _ _ _=>[(0,l9 g),(2,l9 D)]) (fun nums m o M=>xI D (BK nums m) ⟨o.1,o.2,none,0,none,0,[]⟩::U1 o.1 nums o.2::C2 g x::l5 sl.ra s.a5J.a5I sl.rc::E7 x.b s sl d y::r8 y.da y.rl y.dc::R) ?_ ?_
 ·refine n8 ?_;refine gz (fun(j:Nat) (nums:List Nat) (m:Nat) (o:AC) (M:Nat) (_:Unit)=>j<=s.a5J.a5I.length/\nums.length<=j) (fun j nums m o M _=>[(0,l9 g),(2,l9 D),(3,.bool bm),(4,l9 O),(61,.slice sl.ra s.a5J.a5I.length sl.rc),(62,.int .i64 (s.a5J.a5I.length:Nat)),(63,.int .i64 (j:Nat))]) (fun j nums m o M (_:Unit)=>xI D (BK nums m) ⟨o.1,o.2,none,0,none,0,[]⟩::U1 o.1 nums o.2::.blk O (.cells (HG ⟨M,s.a5J.a5I.length,k⟩).toArray 333)::C2 g x::l5 sl.ra s.a5J.a5I sl.rc::E7 x.b s sl d y::r8 y.da y.rl y.dc::R) (fun j nums m o M _=>s.a5J.a5I.length-j) 0 [] 0 (none,0) 0 () ⟨zw _,z1 _⟩ sub (fun w b=>(b.addNil 27 1).perm (List.Perm.trans (.cons _ (.swap _ _ _)) (.swap _ _ _))) ?_;rintro j nums m o M _ ⟨hj,h7⟩;refine R6 ?_ ?_<;>intro h
  ·have T:j<s.a5J.a5I.length:=(by have:=qr h;omega);have X:=S qb;refine H9 0 ?_;refine ly (fun(nums:List Nat) (m:Nat) (o:AC) (M:Nat)=>nums.length<=j+1) (fun _ _ _ _=>[(0,l9 g),(2,l9 D),(3,.bool bm),(4,l9 O),(61,.slice sl.ra s.a5J.a5I.length sl.rc),(62,.int .i64 (s.a5J.a5I.length:Nat)),(63,.int .i64 (j:Nat))]) (fun nums m o M=>xI D (BK nums m) ⟨o.1,o.2,none,0,none,0,[]⟩::U1 o.1 nums o.2::.blk O (.cells (HG ⟨M,s.a5J.a5I.length,k⟩).toArray 333)::C2 g x::l5 sl.ra s.a5J.a5I sl.rc::E7 x.b s sl d y::r8 y.da y.rl y.dc::R) ?_ ?_
   ·refine n8 ?_;refine p_ ?_;refine f_ (m8 rfl X rfl qb) ?_;refine r_ (w8 rfl (fun w b=>fe (C:=ix) (b.ownN (t:=72) ud).2.2.1 D0 qp T x6) (D0 _)) ?_;refine i7 rfl ?_;intro g8;refine E5 ?_;refine f_ ((p9 rfl rfl qb).eq (v':=.int .i64 ((j+1:Nat):Int)) (by congr 1)) ?_;refine f_ ((z_ rfl qb).eq (v':=.int .u64 ((j+1:Nat):Int)) rfl) ?_;refine au ?_;refine c_ (eV g x s.a5J.a5I[j].1 qb) (fun h V _=>Q.bx.ls.le V) ?_;rintro v A ⟨u,ok,rfl,h8,rfl⟩;refine E5 ?_;refine i7 rfl ?_;intro g9;refine y9 ?_;have q9:=PZ hx h8;have k9:=Qa Q h8;refine E5 ?_;refine c_ (qa g x u.t.hash qb) (fun h V _=>Q.bl.le V) ?_;rintro v A ⟨t,x0,rfl,q0,rfl⟩;refine au ?_;have q1:t.length<=1000000000:=by rcases q0 with rfl|⟨p,hp,rfl⟩;(simp);have:=hx.body p hp;omega
    cases ok
    ·refine u7 ?_;refine D8 [7,8,9] [] [C2 g x,.blk g9 (.cells (S8 u).toArray 156),.blk O (.cells (HG ⟨j+1,s.a5J.a5I.length,k⟩).toArray 333)] 14 ?_;refine wd [0,1,2,3,4,5,6,7,8,9,10] ?_;refine h_ 11 rfl i6 ?_;(first|refine u_ ?_|(refine v_ ?_;fail));refine E6 [12,13] ?_;exact g_ (nums,m,o,j+1) qg (fun w b=>C5 (A:=[_,_,_,C2 g x,l5 sl.ra s.a5J.a5I sl.rc,E7 x.b s sl d y,r8 y.da y.rl y.dc]) (J:=[_,_]) tk b)
    refine u7 ?_;refine D8 [7,8,9] [] [C2 g x,.blk g9 (.cells (S8 u).toArray 156),.blk O (.cells (HG ⟨j+1,s.a5J.a5I.length,k⟩).toArray 333)] 14 ?_;refine wd [0,1,2,3,4,5,6,7,8,9,10] ?_;refine h_ 11 rfl i6 ?_;(first|refine u_ ?_|(refine v_ ?_;refine c_ (C:=[]) (r u ⟨j+1,s.a5J.a5I.length,k⟩ t qb q1) (fun h V _=>⟨Q.g.le V,h5.le V,fun m hm=>(h9 m hm).le V,k9.le V⟩) ?_;rintro v A ⟨⟨q,rfl⟩,rfl⟩));refine E6 [12,13] ?_;refine o8 rfl ?_ ?_<;>intro h
    ·refine u7 ?_;exact g_ (nums,m,o,j+1) qg (fun w b=>C5 (A:=[_,_,_,C2 g x,l5 sl.ra s.a5J.a5I sl.rc,E7 x.b s sl d y,r8 y.da y.rl y.dc]) (J:=[_,_]) tk b)
    refine au ?_;refine n7 (ι:=List Nat×AC) (fun q=>q.1.length<=j+1) (fun q=>[(0,l9 g),(2,l9 D),(3,.bool bm),(4,l9 O),(9,l9 g9),(61,.slice sl.ra s.a5J.a5I.length sl.rc),(62,.int .i64 (s.a5J.a5I.length:Nat)),(63,.int .i64 (j:Nat))]) (fun q=>xI D (BK q.1 m) ⟨q.2.1,q.2.2,none,0,none,0,[]⟩::U1 q.2.1 q.1 q.2.2::.blk g9 (.cells (S8 u).toArray 156)::.blk O (.cells (HG ⟨j+1,s.a5J.a5I.length,k⟩).toArray 333)::C2 g x::l5 sl.ra s.a5J.a5I sl.rc::E7 x.b s sl d y::r8 y.da y.rl y.dc::R) ?_ ?_
    ·refine o8 rfl ?_ ?_<;>intro h
     ·refine O2 ?_;refine gy (n:=u.t.uid) ?_;intro q2;refine jU (l:=nums) (m:=[u.t.uid]) (by show(nums.length+1)*8<=_;omega) ?_;intro Y h0;refine y9 ?_;exact g_ (nums++[u.t.uid],Y,h0) (by rw[zz];simp only[zy,zn];omega) (fun w b=>C5 (A:=[_,_,_,_,C2 g x,l5 sl.ra s.a5J.a5I sl.rc,E7 x.b s sl d y,r8 y.da y.rl y.dc]) (J:=[_,_]) tk b)
     ·refine O2 ?_;refine gy (n:=j+1) ?_;intro q2;refine jU (l:=nums) (m:=[j+1]) (by show(nums.length+1)*8<=_;omega) ?_;intro Y h0;refine y9 ?_;exact g_ (nums++[j+1],Y,h0) (by rw[zz];simp only[zy,zn];omega) (fun w b=>C5 (A:=[_,_,_,_,C2 g x,l5 sl.ra s.a5J.a5I sl.rc,E7 x.b s sl d y,r8 y.da y.rl y.dc]) (J:=[_,_]) tk b)
    rintro⟨e,o2⟩ U;simp only at U;refine R6 ?_ ?_<;>intro h
    ·refine O2 ?_;refine f_ ((nP rfl rfl).eq (v':=.int .u64 ((max m u.t.mod:Nat):Int)) (by show Value.int .u64 (max ((m:Nat):Int) ((u.t.mod:Nat):Int))=_;congr 1;omega)) ?_;refine y9 ?_;exact g_ (e,max m u.t.mod,o2,j+1) U (fun w b=>C5 (A:=[_,_,_,C2 g x,l5 sl.ra s.a5J.a5I sl.rc,E7 x.b s sl d y,r8 y.da y.rl y.dc]) (J:=[_]) tk b)
    ·refine u7 ?_;exact g_ (e,m,o2,j+1) U (fun w b=>C5 (A:=[_,_,_,C2 g x,l5 sl.ra s.a5J.a5I sl.rc,E7 x.b s sl d y,r8 y.da y.rl y.dc]) (J:=[_]) tk b)
   intro e m2 o2 q3 U;refine y9 ?_;exact l8 (i:=(j,nums,m,o,M,())) (j+1,e,m2,o2,q3,()) ⟨T,U⟩ qg sub i_
  ·refine u7 ?_;exact g_ (nums,m,o,M) qg (fun w b=>C5 (A:=[_,_]) (J:=[_]) tk b)
 intro nums m o M h7;refine u7 ?_;refine B8 (Z:=[U1 o.1 nums o.2]) tk fun F1 q4 ⟨bs,hb⟩=>?_;have q5:o0 F1.heap o.1 (nV nums):=A3.rd hb ud;clear hb;refine u7 ?_;refine D8 [3,4] [5] [C2 g x,xI D (BK nums m) ⟨o.1,o.2,none,0,none,0,[]⟩] 6 ?_;refine wd [0,1,2,3,4] ?_;refine h_ 5 rfl i6 ?_;refine c_ (V2 x.b s sl d y (BK nums m) ⟨o.1,o.2,none,0,none,0,[]⟩ qb) qw ?_;rintro v A ⟨rfl,a,c,rfl⟩;refine E6 [] ?_;refine H3 (A:=C2 g x::l5 sl.ra s.a5J.a5I sl.rc::O4 x.b s sl d (E9 y (BK nums m,⟨o.1,o.2,none,0,none,0,[]⟩) a c)) (v:=.tuple #[]) q4 ⟨rfl,nums,m,_,a,c,h7,⟨rfl,q5,o0.nil _ _,o0.nil _ _,qy⟩,qh,rfl⟩ ?_;exact m6 rfl _ qh (fun w b=>C5 (A:=[_,_,_,_]) (J:=[_]) tk b)
