import Derived.Test.YtmcepdopookilaaGreatDoorukx17
set_option maxHeartbeats 16000000
set_option maxRecDepth 8000
set_option linter.unusedVariables false
set_option linter.unusedSimpArgs false
set_option linter.defProp false
namespace Go.Proofs.YtmcepdopookilaaGreatDoor.Rp
open Go Go.Sl Go.RowKit Go.Proofs.Tryz
def IK(g:Nat)(r:RQ)(q:QL)(x:SX):Pu prog 105 [.agg (ji x).toArray,i8 g] (fun h=>h g=some (.cells (eN r q).toArray 44 (0,0))) (.bool (decide (x.node=r.node))):=by
 refine b_ 9 func105 rfl rfl rfl ?_;intro F hf;refine D1 ?_;refine m8 rfl rfl ?_;intro b;refine Lq ?_;exact d_ rfl rfl [] qh (fun w a=>a.dropAll)
def TU{F:l9}{w:World}{x k s u v:As}{T E:List As}(h:Hp F w (x::k::s::u::v::(T++E))):Hp F w (s::k::u::v::(T++([]++E))):=(h.drop.perm (.swap _ _ _))
def TV{F:l9}{w:World}{x y k s u v:As}{T E:List As}(h:Hp F w (x::y::k::s::u::v::(T++E))):Hp F w (x::k::u::v::(T++([s]++E))):=by
 have a:Hp F w (x::k::s::u::v::(T++E)):=(h.perm (.swap _ _ _)).drop;have b:Hp F w ([x,k]++(s::([u,v]++T)++E)):=a;have c:Hp F w ([x,k]++(([u,v]++T)++([s]++E))):=b.perm (Kw _ (Qm (l₁:=[u,v]++T) (l₂:=E)).symm);exact c.perm x7
def TW{F:l9}{w:World}{k s u v:As}{T E:List As}(h:Hp F w (k::u::v::(T++([s]++E)))):Hp F w (k::(s::u::v::T++E)):=by
 have a:Hp F w (([k,u,v]++T)++s::E):=by simpa using h
 have b:Hp F w (s::(([k,u,v]++T)++E)):=a.perm Qm;exact b.perm (.swap _ _ _)
abbrev Cg(m:MM)(r:RQ)(sl:List SX)(a:qr)(c:Nat):MM:={m with a6w:=sl++[⟨m.nses,0,r.node,r.life,r.tr⟩],nses:=m.nses+1,sa:=a,sc:=c}
def xG{F:l9}{w:World}:∀{E T:List As},Hp F w (E++T)->Hp F w T
 |[],_,h=>h
 |_::_,_,h=>xG (Hp.drop h)
def OS{F:l9}{w:World}{k s u v x:As}{T E R:List As}(h:Hp F w (k::v::x::s::u::(T++(E++R)))):Hp F w (k::(s::v::u::T++R)):=by
 have a:Hp F w (x::s::k::v::u::(T++(E++R))):=h.perm (jj (l₁:=[k,v]) (l₂:=[x,s])|>.append_right _);have b:Hp F w (([s,k,v,u]++T)++(E++R)):=by simpa using a.drop
 have c:Hp F w (E++(([s,k,v,u]++T)++R)):=b.perm (by rw[<-ky,<-ky];exact jj.append_right R);have d:Hp F w (s::k::v::u::(T++R)):=by simpa using xG c
 exact d.perm (.swap _ _ _)
def NC(b:Nat)(m:MM)(r:RQ)(q:QL)(hm:m.a6v.length<=8)(x0:m.a6w.length<=1000)(hs:m.a6v.Pairwise fun x y=>x.node<y.node)(hr:∀x∈m.a6v,0<=x.node/\x.node<=100)(hn:m.nses<=E6):Ih 56 b m r q (mi m.s r):=by
 refine A0 160 func56 rfl rfl rfl ?_;rintro F R ⟨k0,x1⟩;refine u6 ?_;refine al ?_;intro O;refine u6 ?_;refine C6 (Z:=[.blk O (.cells (eN r q).toArray 44)]) tk fun F1 p Q=>?_;have p3:F1.heap O=some (.cells (eN r q).toArray 44 (0,0)):=L6 Q;clear Q;obtain⟨q1,h1⟩:=o9 (decide (r.node<1));obtain⟨q2,h2⟩:=o9 (decide (5<r.node));obtain⟨q3,h3⟩:=o9 (decide (r.life=0));obtain⟨q4,h4⟩:=o9 (decide (r.tr=0));have d:∀x∈m.a6u,iP x.ls F1.heap:=fun x hx=>Mn.le p.heap (k0 x hx);refine x8 [(0,i8 b),(3,i8 O),(29,.bool (q1||(q2||(q3||q4))))] (T3 b m r q C3 N8::(vp m++R)) ?_ ?_
 ·cases q1<;>cases q2<;>cases q3
  all_goals (
   refine A5 ?_;refine f_ ((F8 rfl rfl).eb h1) ?_;refine E8 ?_;(first|refine u_ ?_|(refine v_ ?_;refine f_ ((E9 rfl rfl).eb h2) ?_));refine P1 ?_;(first|refine u_ ?_|(refine v_ ?_;refine f_ ((q_ rfl rfl).eq (qn ((qz).trans h3.symm))) ?_));refine P1 ?_;(first|refine u_ ?_|(refine v_ ?_;refine f_ ((q_ rfl rfl).eq (qn ((qz).trans h4.symm))) ?_));refine u6 ?_)
  all_goals exact p_ sub i_
 refine x6 ?_;have hq:(q1||(q2||(q3||q4)))=true↔(r.node<1\/5<r.node\/r.life=0\/r.tr=0):=by
  rw[h1,h2,h3,h4];simp
 refine p7 rfl ?_ ?_<;>intro h
 ·have es:mi m.s r=(m.s,C3,1):=by unfold mi;rw[zr (hq.1 h)]
  rw[es];refine D0 ?_;exact D5 m C3 N8 rfl rfl p i_ rfl qx d (M8.zero _)
 have hc:¬(r.node<1\/5<r.node\/r.life=0\/r.tr=0):=fun k=>by rw[hq.2 k] at h;cases h
 refine D1 ?_;refine i7 rfl ?_;intro g4;refine x6 ?_;refine D8 [3,5] [6] [T3 b m r q C3 N8] 8 ?_;refine wd [0,1,2,3,4,5] ?_;refine h_ 6 rfl i6 ?_;refine c_ rfl (LD m r.node qb) (fun h hh ⟨bs,Q⟩=>A_.rd Q ud) rfl ?_;refine D7 [7] ?_;obtain⟨u,o⟩:=o9 (((iq m.s r.node).map fun i=>m.a6v.getD i OB).getD OB);have es:mi m.s r=if r.life<u.life then((m.s,C3,14):AR) else if u.life=r.life/\r.tr<=u.tr then(match gI m.s r.node r.tr with
   |none=>(m.s,C3,14)
   |some i=>(m.s,{C3 with ses:=(m.a6w.getD i ⟨0,0,0,0,0⟩).ses},0)) else if 16<=(if u.life<r.life then m.a6w.filter fun x=>!decide (x.node=r.node) else m.a6w).length\/Du<=m.nses then(m.s,C3,7) else(nA {m.s with a6w:=(if u.life<r.life then m.a6w.filter fun x=>!decide (x.node=r.node) else m.a6w)++[⟨m.nses,0,r.node,r.life,r.tr⟩],nses:=m.nses+1} (iq m.s r.node) ⟨r.node,r.life,r.tr⟩,{C3 with ses:=m.nses},0):=by
  unfold mi;rw[zb hc,o];rfl
 rw[es];clear es;refine A5 ?_;refine x8 [(0,i8 b),(3,i8 O),(4,i8 g4),(5,.int .i64 (D9 (fun x=>decide (x.node=r.node)) m.a6v))] (.blk g4 (.cells (eO u).toArray 104)::T3 b m r q C3 N8::(vp m++R)) ?_ ?_
 ·refine p7 rfl ?_ ?_<;>intro h
  ·have V:¬D9 (fun x:HO=>decide (x.node=r.node)) m.a6v<0:=(by have:=zy h;omega);obtain⟨i,hi,s,ha⟩:=sW V;rw[ha] at o;replace o:u=m.a6v[i]:=(by rw[o];show m.a6v.getD i OB=_;rw[z8,zd s];rfl);subst o;refine B7 (a:=m.ha) (n:=m.a6v.length) (c:=m.hc) (sz:=3) (xs:=KO m.a6v) (te:=104) ud fun _ _ f=>?_;have f:=f qb;rw[hi];refine wk 7 ?_;refine r_ (p9 rfl (fun w g=>bK (g.ownN (t:=104) ud).2.2.1 L_ qp s x7) (L_ _)) ?_;refine u6 ?_;exact p_ sub i_
  ·have V:D9 (fun x:HO=>decide (x.node=r.node)) m.a6v<0:=(by have:=zu h;omega);rw[sV V] at o;replace o:u=OB:=o;subst o;refine x6 ?_;exact p_ sub i_
 refine x6 ?_;obtain⟨q5,S⟩:=o9 (decide (r.life<u.life));refine P1 ?_;refine f_ ((E9 rfl rfl).eq (v':=.bool q5) (qn ((qz).trans S.symm))) ?_;refine x6 ?_
 cases q5
 case true=>
  rw[zr (zy S.symm)];refine D0 ?_;exact D5 m C3 N8 rfl rfl p (fun w g=>g.drop) rfl qx d (M8.zero _)
 rw[zb (zu S.symm)];obtain⟨q6,h6⟩:=o9 (decide (u.life=r.life));obtain⟨q7,h7⟩:=o9 (decide (r.tr<=u.tr));refine x6 ?_;refine x8 [(0,i8 b),(3,i8 O),(4,i8 g4),(5,.int .i64 (D9 (fun x=>decide (x.node=r.node)) m.a6v)),(63,.bool (q6&&q7))] (.blk g4 (.cells (eO u).toArray 104)::T3 b m r q C3 N8::(vp m++R)) ?_ ?_
 ·cases q6
  all_goals (
   refine P1 ?_;refine f_ ((q_ rfl rfl).eq (qn ((qz).trans h6.symm))) ?_;refine al ?_;(first|refine u_ ?_|(refine v_ ?_;refine f_ ((K_ rfl rfl).eq (qn ((qz).trans h7.symm))) ?_));refine u6 ?_)
  all_goals exact p_ sub i_
 refine O_ ?_ ?_<;>intro h
 ·rw[zr (by rw[jw,h6,h7] at h;exact⟨zy h.1,zy h.2⟩)];refine x6 ?_;refine D8 [3,5,7] [8] [T3 b m r q C3 N8] 10 ?_;refine wd [0,1,2,3,4,5,6,7] ?_;refine h_ 8 rfl i6 ?_;refine c_ rfl (Dx m r.node r.tr qb) (fun h hh ⟨bs,Q⟩=>A_.rd Q ud) rfl ?_;refine D7 [9] ?_;refine bQ ?_ ?_<;>intro h
  ·rw[xE (zy h)];refine D0 ?_;exact D5 m C3 N8 rfl rfl p (fun w g=>g.drop) rfl qx d (M8.zero _)
  obtain⟨i,hi,s,ha⟩:=xF (zu h);rw[ha,hi];have hg:(m.a6w.getD i ⟨0,0,0,0,0⟩)=m.a6w[i]:=by rw[z8,zd s];rfl
  simp only[hg];refine B7 (a:=m.sa) (n:=m.a6w.length) (c:=m.sc) (sz:=5) (xs:=KN m.a6w) (te:=102) ud fun _ _ f=>?_;have f:=f qb;refine wk 9 ?_;refine r_ (l5 rfl (fun w g=>cT (j:=0) (g.ownN (t:=102) ud).2.2.1 P6 s rfl x7)) ?_;refine KI ?_;exact D5 m {C3 with ses:=m.a6w[i].ses} N8 rfl rfl p (fun w g=>g.drop) rfl (fun _=>rfl) d ⟨n9.nil _ _,n9.nil _ _⟩
 rw[zb (by rintro⟨k1,k2⟩;rw[h6,h7,ju k1,ju k2] at h;cases h)];refine x6 ?_;obtain⟨q5,S⟩:=o9 (decide (u.life<r.life));obtain⟨sl,J⟩:=o9 (if u.life<r.life then m.a6w.filter fun x=>!decide (x.node=r.node) else m.a6w);rw[<-J];refine wk 10 ?_;refine f_ ((F8 rfl rfl).eq (v':=.bool q5) (qn ((qz).trans S.symm))) ?_;refine x6 ?_;refine n8 (ι:=qr×Nat×List As) (fun z=>z.2.2=[U1 m.sa m.a6w m.sc]\/(z.2.2=[]/\z.1=m.sa/\z.2.1=m.sc/\sl=m.a6w)) (fun z=>[(0,i8 b),(3,i8 O),(5,.int .i64 (D9 (fun x=>decide (x.node=r.node)) m.a6v)),(7,.slice z.1 sl.length z.2.1)]) (fun z=>U1 z.1 sl z.2.1::T3 b m r q C3 N8::R5 m.ha m.a6v m.hc::U0 m.ba m.a6u m.bc::(X7 m.a6u++(z.2.2++R))) ?_ ?_
 ·cases q5
  case false=>
   rw[zb (zu S.symm)] at J;subst J;refine p7 rfl qx (fun h=>?_);refine x6 ?_;exact g_ (m.sa,m.sc,[]) (.inr ⟨rfl,rfl,rfl,rfl⟩) (fun w g=>TU g)
  rw[zr (zy S.symm)] at J;refine p7 rfl (fun h=>?_) qx;refine u6 ?_;refine e_ (jU (KN m.a6w) m.sa m.a6w.length m.sc (Bb _) (Bc _) qb) ?pre ?_;(case pre=>exact fun h hh ⟨bs,Q⟩=>A_.rd Q ud);rintro v A ⟨X,Y,rfl,rfl⟩;refine u6 ?_;refine e_ (oZ m.a6w X Y 105 [i8 O] (fun h=>h O=some (.cells (eN r q).toArray 44 (0,0))) (fun x=>decide (x.node=r.node)) (fun x _=>IK O r q x) qb) ?pre ?_;(case pre=>exact fun h hh Q=>hh _ _ p3);rintro v A ⟨rfl,rfl⟩;refine u6 ?_;rw[<-J];exact g_ (X,Y,[U1 m.sa m.a6w m.sc]) (.inl rfl) (fun w g=>TV g)
 rintro⟨X,Y,E⟩ hE;have k9:sl.length<=m.a6w.length:=by
  rw[J];split
  ·exact Q9 _ _
  ·exact kp _
 have T:∀w,Hp F1 w (U1 X sl Y::T3 b m r q C3 N8::R5 m.ha m.a6v m.hc::U0 m.ba m.a6u m.bc::(X7 m.a6u++(E++R)))->Hp F1 w (T3 b m r q C3 N8::(vp m++R)):=fun w g=>by
  rcases hE with rfl|⟨rfl,rfl,rfl,e⟩
  ·exact TW g.drop
  ·rw[e] at g;exact g.perm (.swap _ _ _)
 obtain⟨q8,h8⟩:=o9 (decide (16<=sl.length));obtain⟨q9,h9⟩:=o9 (decide (Du<=m.nses));refine x6 ?_;refine x8 [(0,i8 b),(3,i8 O),(5,.int .i64 (D9 (fun x=>decide (x.node=r.node)) m.a6v)),(7,.slice X sl.length Y),(112,.bool (q8||q9))] (U1 X sl Y::T3 b m r q C3 N8::R5 m.ha m.a6v m.hc::U0 m.ba m.a6u m.bc::(X7 m.a6u++(E++R))) ?_ ?_
 ·cases q8
  all_goals (
   refine A5 ?_;refine f_ ((K_ rfl rfl).eq (qn ((qz).trans h8.symm))) ?_;refine Y1 ?_;(first|refine u_ ?_|(refine v_ ?_;refine f_ ((K_ rfl rfl).eq (qn ((kz.2 (by show(4611686018427387904:Int)<=_↔4611686018427387904<=_;omega)).trans h9.symm))) ?_));refine u6 ?_)
  all_goals exact p_ sub i_
 refine O_ ?_ ?_<;>intro h
 ·rw[zr (by rw[Zh,h8,h9] at h;exact h.imp zy zy)];refine D0 ?_;exact D5 m C3 N8 rfl rfl p T rfl qx d (M8.zero _)
 have U:¬(16<=sl.length\/Du<=m.nses):=fun k=>by rw[h8,h9] at h;rcases k with k|k<;>simp[k] at h
 rw[zb U];have x2:m.nses<4611686018427387904:=W4.1 fun k=>U (.inr k);have k8:sl.length<16:=W4.1 fun k=>U (.inl k);refine wk 10 ?_;refine D8 [6,8,10,12] [14,15,19] [T3 b m r q {C3 with ses:=m.nses} N8] 20 ?_;refine wd [0,1,2,3,4,5,6,7,8,9,10,11,12,13] ?_;refine h_ 14 rfl i6 ?_;refine D2 ji ⟨m.nses,0,r.node,r.life,r.tr⟩ rfl ?_;intro q0 _;refine rR ?_;refine h_ 15 rfl i6 ?_;refine u7 ji (l:=sl) (m:=[⟨m.nses,0,r.node,r.life,r.tr⟩]) P6 Ba (by show(sl.length+1)*40<=_;omega) ?_ rfl rfl (fun _ _=>uh) (fun w g=>(g.ownN (t:=102) ud).2.2.1) (by show sl.length+1<=9223372036854775807;omega);intro C D _;refine D7 [16,17,18,19] ?_;refine al ?_;refine f_ ((L9 rfl rfl qb).eq (v':=.int .u64 ((m.nses+1:Nat):Int)) (by congr 1)) ?_;refine P1 ?_;by_cases V:D9 (fun x:HO=>decide (x.node=r.node)) m.a6v<0
 ·have M:=sV V;rw[M];have x3:=dv (fun x:HO=>decide (x.node=r.node)) m.a6v;rw[show D9 (fun x:HO=>decide (x.node=r.node)) m.a6v= -1 from by omega];refine wk 9 ?_;refine e_ (zZ b (Cg m r sl C D) r q {C3 with ses:=m.nses} N8 ⟨r.node,r.life,r.tr⟩ hm hs (NA M) hr (by show 0<=r.node/\r.node<=100;omega)) qw ?_;rintro v A ⟨rfl,a,c,rfl⟩;refine D0 ?_;exact D5 {Cg m r sl C D with a6v:=dJ ⟨r.node,r.life,r.tr⟩ m.a6v,ha:=a,hc:=c} {C3 with ses:=m.nses} N8 rfl rfl p (fun w g=>OS g) rfl (fun _=>rfl) d ⟨n9.nil _ _,n9.nil _ _⟩
 ·obtain⟨i,hi,s,ha⟩:=sW V;rw[ha,hi];refine wk 9 ?_;refine e_ (zY b (Cg m r sl C D) r q {C3 with ses:=m.nses} N8 i ⟨r.node,r.life,r.tr⟩ s hm) qw ?_;rintro v A ⟨rfl,a,c,rfl⟩;refine D0 ?_;exact D5 {Cg m r sl C D with a6v:=m.a6v.set i ⟨r.node,r.life,r.tr⟩,ha:=a,hc:=c} {C3 with ses:=m.nses} N8 rfl rfl p (fun w g=>OS g) rfl (fun _=>rfl) d ⟨n9.nil _ _,n9.nil _ _⟩
structure xH(r:RQ):Prop where
 num:r.num<18446744073709551616
 box:r.box.length<=lD
 a6A:r.a6A.length<=1000000
 a6J:r.a6J.length<=100000
 fl:∀f∈r.a6J,f.length<=lD
def RW(k:Int):FuncId:=if k=1 then 56 else if k=2 then 57 else if k=3 then 58 else if k=4 then 59 else if k=5 then 60
 else if k=6 then 61 else if k=7 then 62 else if k=8 then 63 else if k=9 then 64 else 65
abbrev iy(k:FuncId):Value:=.func (.func k) #[] #[]
abbrev Ch:zq:=[.nilFunc,iy 56,iy 57,iy 58,iy 59,iy 60,iy 61,iy 62,iy 63,iy 64,iy 65]
def qE{k:Int}(a:1<=k)(b:k<=10):k=1\/k=2\/k=3\/k=4\/k=5\/k=6\/k=7\/k=8\/k=9\/k=10:=by omega
def ND{k:Int}(a:1<=k)(b:k<=10):Ch[k.toNat]? =some (iy (RW k)):=by
 rcases qE a b with rfl|rfl|rfl|rfl|rfl|rfl|rfl|rfl|rfl|rfl<;>rfl
theorem TX{k:Int}(a:1<=k)(b:k<=10):HF prog (RW k):=by
 rcases qE a b with rfl|rfl|rfl|rfl|rfl|rfl|rfl|rfl|rfl|rfl
 ·exact(inferInstance:HF prog 56)
 ·exact(inferInstance:HF prog 57)
 ·exact(inferInstance:HF prog 58)
 ·exact(inferInstance:HF prog 59)
 ·exact(inferInstance:HF prog 60)
 ·exact(inferInstance:HF prog 61)
 ·exact(inferInstance:HF prog 62)
 ·exact(inferInstance:HF prog 63)
 ·exact(inferInstance:HF prog 64)
 ·exact(inferInstance:HF prog 65)
def dS{m:MM}(h:V5 m.s){x:BM}(hx:x∈m.a6u):Dw x.x:=h.box _ (Q5 hx)
def Aa{m:MM}(h:V5 m.s):m.a6u.length<=8:=by have:=h.a6u;simpa using this
def sX{m:MM}(h:V5 m.s){x:BM}(hx:x∈m.a6u):x.ls.length<=32:=by have:=(dS h hx).lts;simpa using this
def qF:∀{l:List HO} {k:Int},(l.Pairwise fun x y=>x.node<y.node)->(∀x∈l,k<=x.node/\x.node<=5)->(l.length:Int)<=max 0 (6-k)
 |[],_,_,_=>by simp;omega
 |x::t,k,h,hk=>by
  obtain⟨b,c⟩:=Qd.1 h;have d:=hk x Qb;have e:=qF (k:=x.node+1) c fun y a=>⟨b y a,(hk y (jn _ a)).2⟩;rw[z1];omega
def qG{m:MM}(h:V5 m.s):m.a6v.length<=5:=by
 have:=qF (k:=1) h.a6v fun x a=>⟨(h.home x a).1,(h.home x a).2.1⟩;show m.s.a6v.length<=5;omega
def TY(b:Nat)(m:MM)(r:RQ)(q:QL)(c:V5 m.s)(e:xH r)(j:1<=r.op)(k:r.op<=10):Ih (RW r.op) b m r q (KJ m.s r):=by
 have l:=Aa c;have hs:m.a6u.Pairwise fun x y=>ip x.name y.name=true:=by
  have:=c.sorted;exact(K1.1 this)
 have i:m.a6w.length<=16:=c.a6w;have d:∀x∈m.a6u,∀y∈x.ls,y.t.a6J.length<=16/\∀f∈y.t.a6J,f.length<=32:=fun x a y g=>(dS c a).a6J _ (Q5 g);unfold KJ RW;rcases qE j k with h|h|h|h|h|h|h|h|h|h<;>rw[h]
 ·exact NC b m r q (by have:=qG c;omega) qb c.a6v (fun x a=>by have:=c.home x a;omega) (j9 c.nses qp)
 ·exact QB b m r q qb
 ·exact MV b m r q
 ·exact EP b m r q l hs c.nval e.box
 ·exact Ep b m r q qb
 ·exact EJ b m r q qb (fun x a=>⟨by have:=sX c a;omega,(dS c a).next,(dS c a).high⟩) e.a6J e.fl
 ·exact IF b m r q qb (fun x a=>⟨by have:=sX c a;omega,(dS c a).high,fun y g=>⟨by have:=(d x a y g).1;omega,fun f hf=>by have:=(d x a y g).2 f hf;exact j9 this qp⟩⟩) e.a6A e.a6J e.fl
 ·exact zQ b m r q qb (fun x a=>⟨by have:=sX c a;omega,(dS c a).high,fun y g=>by have:=(d x a y g).1;omega⟩) e.a6A
 ·exact Nv b m r q qb (fun x a=>⟨by have:=sX c a;omega,(dS c a).next,(dS c a).high,fun y g=>by have:=(d x a y g).1;omega⟩) e.a6A
 ·exact Ii b m r q c.a6G
section
variable{P:zj}{N:Nat}{L:G9}{F:l9}{H:List As}
def Y0{fn:Func}{d:Value->List As->Prop}{t n b t1 s i:Nat}{j te f k:zk}{cs c:Array Value}{H' z:List As}[ha:HA P j true][hs:HS P j n][ha1:HA P f true][hs1:HS P f s](C:fn.results=#[.cell t j,.cell t1 f])(hv:find L t=some (.pointer (some ⟨b,0,none⟩)))(l:find L t1=some (.pointer (some ⟨i,0,none⟩)))(u:N1 H (.blk b (.cells cs te (0,0))) [] H')(D:Nat.beq n cs.size=true)(J:N1 H (.blk i (.cells c k (0,0))) [] z)(m:Nat.beq s c.size=true)(A:List As)(g:d (.tuple #[.agg cs,.agg c]) A)(M:∀w,Hp F w H->Hp F w A):At N (dE P fn F d) L F H:=by
 unfold At;intro a w hf o;have O:=Qu D;have p:=Qu m;have e:∀cs:Array Value,sl cs 0 cs.size=cs.toList:=fun cs=>by
  simp only[sl,Kh];exact jm x7
 obtain⟨X,q,hc⟩:=Y9 (n:=cs.size) o u;injection q with q;subst q;rw[e] at hc;have v:=E2 (P:=P) hc;obtain⟨Q,r,h⟩:=Y9 (n:=c.size) o J;injection r with r;subst r;rw[e] at h;have y:=E2 (P:=P) h;have S:a.tmps.getD t undef=.pointer (some ⟨b,0,none⟩):=hf.eval (x:=.tmp t) hv;have T:a.tmps.getD t1 undef=.pointer (some ⟨i,0,none⟩):=hf.eval (x:=.tmp t1) l;subst O;subst p;refine⟨.tuple #[.agg cs,.agg c],A,?_,g,M w o,hf.defers⟩;have U:a.tmps[t]?.getD undef=.pointer (some ⟨b,0,none⟩):=by simpa using S
 have V:a.tmps[t1]?.getD undef=.pointer (some ⟨i,0,none⟩):=by simpa using T
 simp at v y;simp[results,C,U,V,asAddr,loadVar,ha.h,ha1.h,hs.h,hs1.h,v,y,Sem.run_bind]
end
def Ab(e:ML×OC)(h:l_)(v:Value)(A:List As):Prop:=∃m' o y,v=.tuple #[rW m',UH o y]/\m'.s=e.1/\o=e.2/\A=[]/\ew m' h/\M8 o y h
def lQ{F c:l9}{H R:List As}{L:G9}{g4 b:Nat}{e:ML×OC}(a:MM)(o:OC)(y:OL)(d:find L 4=some (i8 g4))(f:find L 5=some (i8 b))(hl:c.le F)(hH:∀w,Hp F w H->Hp F w (.blk g4 (.cells (iQ a).toArray 62)::.blk b (.cells (tX o y).toArray 86)::R))(hs:a.s=e.1)(g:o=e.2)(h:ew a F.heap)(i:M8 o y F.heap):At 108 (Dp prog Tryz.f28 c R (Ab e)) L F H:=by
 refine At.weaken (H':=.blk g4 (.cells (iQ a).toArray 62)::.blk b (.cells (tX o y).toArray 86)::R) ?_ (fE.refl _) hH;refine I4 (A:=[]) (v:=.tuple #[rW a,UH o y]) hl ⟨a,o,y,rfl,hs,g,rfl,h,i⟩ ?_;exact Y0 rfl d f ud rfl ud rfl _ qh (fun w j=>j.drop.drop)
def lR{F i:l9}{H R:List As}{L:G9}{g4 h:Nat}{e:ML×OC}(a:MM)(o:OC)(y:OL)(f:find L 4=some (i8 g4))(j:find L 5=some (i8 h))(hl:i.le F)(hH:∀w,Hp F w H->Hp F w (.blk g4 (.cells (iQ a).toArray 62)::.blk h (.cells (tX o y).toArray 86)::(vp a++R)))(hs:a.s=e.1)(k:o=e.2)(hf:∀b∈a.a6u,iP b.ls F.heap)(l:M8 o y F.heap):At 108 (Dp prog Tryz.f28 i R (Ab e)) L F H:=by
 refine At.weaken (H':=(.blk g4 (.cells (iQ a).toArray 62)::.blk h (.cells (tX o y).toArray 86)::R)++vp a) ?_ (fE.refl _) (fun w m=>(hH w m).perm (List.Perm.cons _ (List.Perm.cons _ jj)));refine dW fun n c ⟨s,g⟩=>?_;refine lQ a o y f j (hl.trans c) i_ hs k ?_ (Mn.le c.heap l);obtain⟨_,t,_,p,_,u,_,q,_,v,_,r,f⟩:=g;have d:A_ n.heap (vp a) _:=⟨_,_,rfl,p,_,_,rfl,q,_,_,rfl,r,f⟩;exact⟨A_.rd d ud,A_.rd d ud,A_.rd d ud,fun b g=>⟨Ig f b g,Mn.le c.heap (hf b g)⟩⟩
def QP{L:G9}{dst:Option Tmp}{ty:zk}{pos:String}{af:Array Edge}{gd:Option (Nat×Bool)}{x y:zw}(m:MM)(r:RQ)(q:QL)(hx:ev L x=some (rW m))(a:ev L y=some (RH r q)):E5 prog ⟨dst,.build 136 [(0,x),(1,y)].toArray,ty,pos,af,gd⟩ L (.agg (OD m r q C3 N8).toArray):=by
 refine A2 (vs:=[(0,rW m),(1,RH r q)]) (by simp[AA,hx,a]) ?_
 kernel_rfl
abbrev IL:MM:=⟨[],0,[],[],0,0,none,0,none,0,none,0⟩
def TZ{m:MM}(h:V5 m.s):Tk m:=by
 have d:m.a6w.length<=16:=h.a6w;have e:=qG h;have f:=Aa h;exact⟨by omega,by omega,by omega,fun b a=>by have:=sX h a;omega,fun b a x c=>by have:=((dS h a).a6J _ (Q5 c)).1;omega⟩
def Ua{F:l9}{w:World}{x y z u v:As}{l R Z:List As}(h:Hp F w (x::y::z::(l++(u::v::(R++Z))))):Hp F w (u::v::(R++(x::y::z::(l++Z)))):=by
 have a:Hp F w (([x,y,z]++l)++(([u,v]++R)++Z)):=by simpa using h
 have b:Hp F w (([u,v]++R)++(([x,y,z]++l)++Z)):=a.perm (by rw[<-ky ([u,v]++R),<-ky ([x,y,z]++l)];exact jj.append_right Z);simpa using b
def a2t{F:l9}{w:World}{k u v x y z:As}{l R Z:List As}(h:Hp F w (k::u::v::(R++(x::y::z::(l++Z))))):Hp F w ((k::u::v::x::y::z::(l++R))++Z):=by
 have a:Hp F w ([k,u,v]++(R++(([x,y,z]++l)++Z))):=by simpa using h
 have b:Hp F w ([k,u,v]++((([x,y,z]++l)++R)++Z)):=a.perm (Kw _ (by rw[<-ky];exact jj.append_right Z));simpa using b
def IM{F:l9}{w:World}{u v k x y z:As}{l R:List As}(h:Hp F w (k::u::v::x::y::z::(l++R))):Hp F w (v::u::(x::y::z::l++R)):=h.drop.perm (.swap _ _ _)
def EQ{m:MM}{n:Nat}(h:D9 (fun x:SX=>decide (x.ses=n)) m.a6w<0):rV m.s n=none:=by
 unfold D9 at h;unfold rV
 cases e:m.a6w.findIdx? fun x=>decide (x.ses=n) with
 |none=>rfl
 |some i=>rw[e] at h;simp only[Option.elim] at h;omega
def ER{m:MM}{n:Nat}(h:¬D9 (fun x:SX=>decide (x.ses=n)) m.a6w<0):∃i:Nat,D9 (fun x:SX=>decide (x.ses=n)) m.a6w=(i:Nat)/\i<m.a6w.length/\rV m.s n=some i:=by
 unfold D9 at h⊢;unfold rV
 cases e:m.a6w.findIdx? fun x=>decide (x.ses=n) with
 |none=>rw[e] at h;simp only[Option.elim] at h;omega
 |some i=>exact⟨i,rfl,(jg.1 e).1,rfl⟩
def NE(b:Nat)(m:MM)(r:RQ)(q:QL)(o:OC)(y:OL)(i:Nat)(x:SX):T3 b {m with a6w:=m.a6w.set i x} r q o y=T3 b m r q o y:=by
 unfold T3 OD iQ;simp only[Qw]
def IN{m:MM}(h:V5 m.s){i:Nat}(b:i<m.a6w.length)(n:Nat)(c:n<18446744073709551616):V5 {m with a6w:=m.a6w.set i {m.a6w[i] with last:=n}:MM}.s:=by
 refine⟨h.a6u,h.box,h.sorted,h.a6v,h.home,?_,fun x a=>?_,h.nval,h.nses,h.a6G⟩
 ·show(m.a6w.set i _).length<=16;rw[Qw];exact h.a6w
 ·rcases Qj a with a|rfl
  ·exact h.seat x a
  ·have:=h.seat m.a6w[i] (zm b);exact⟨this.1,this.2.1,c,this.2.2.2⟩
def kR:∀(C R:List As),y9 C (C++R) R
 |[],_=>.nil
 |_::C,R=>.cons .del (kR C R)
def Ub{F:l9}{w:World}{k u v x y z:As}{l R:List As}(h:Hp F w (k::u::v::x::y::z::(l++R))):Hp F w ((k::x::y::z::l)++(u::v::R)):=by
 have a:Hp F w ([k]++([u,v]++(([x,y,z]++l)++R))):=by simpa using h
 have b:Hp F w ([k]++(([x,y,z]++l)++([u,v]++R))):=a.perm (Kw _ (by rw[<-ky [u,v],<-ky ([x,y,z]++l)];exact jj.append_right R));simpa using b
def OT{F:l9}{w:World}{u v k:As}{R:List As}(h:Hp F w (k::u::v::R)):Hp F w (v::u::R):=h.drop.perm (.swap _ _ _)
def qH(m:MM)(r:RQ)(q:QL)(hm:V5 m.s)(h8:xH r):Cm prog 28 [rW m,RH r q] (fun h=>ew m h/\dM r q h) [] (Ab (E3 m.s r)):=by
 refine A0 108 func28 rfl rfl rfl ?_;rintro F R ⟨q7,q8⟩;refine D1 ?_;refine m8 rfl rfl ?_;intro g2;refine m8 rfl rfl ?_;intro g3;refine i7 rfl ?_;intro O;refine i7 rfl ?_;intro Q;refine D1 ?_;refine f_ (zM rfl rfl) ?_;refine u6 ?_;intro g6;refine u6 ?_;refine C6 (Z:=[.blk g2 (.cells (iQ m).toArray 62),.blk g3 (.cells (eN r q).toArray 44),.blk g6 (.cells Ch.toArray 133)]) tk fun F1 u U=>?_;have p2:F1.heap g2=some (.cells (iQ m).toArray 62 (0,0)):=L6 U;have p3:F1.heap g3=some (.cells (eN r q).toArray 44 (0,0)):=L6 U;have p6:F1.heap g6=some (.cells Ch.toArray 133 (0,0)):=L6 U;clear U;refine x6 ?_;refine D8 [0,2] [1,4] [] 6 ?_;refine wd [0,2] ?_;refine h_ 1 rfl i6 ?_;refine G6 (ub m (TZ hm)) (Mn.le u.heap q7) ?_;rintro v A Z Fz hz ⟨d,rfl,V,rfl,h9⟩;refine z_ (H':=.blk Q (.cells (tX C3 N8).toArray 86)::.blk O (.cells (iQ IL).toArray 62)::(R++(U1 d.sa d.a6w d.sc::R5 d.ha d.a6v d.hc::U0 d.ba d.a6u d.bc::(X7 d.a6u++Z)))) (fun w g=>Ua g) ?_;refine V2 ?_;refine w_ 3 rfl (QP d r q rfl rfl) ?_;refine h_ 4 rfl i6 ?_;refine m8 rfl rfl ?_;intro z;refine D7 [5] ?_;refine Be Fz hz (Rr:=T3 z d r q C3 N8::.blk Q (.cells (tX C3 N8).toArray 86)::.blk O (.cells (iQ IL).toArray 62)::U1 d.sa d.a6w d.sc::R5 d.ha d.a6v d.hc::U0 d.ba d.a6u d.bc::(X7 d.a6u++R)) (Z:=Z) (fun w g=>a2t g) fun F2 p k0=>?_;have s:∀b∈d.a6u,iP b.ls F2.heap:=fun b U=>Mn.le k0 (h9 b U);have x5:F2.heap g3=some (.cells (eN r q).toArray 44 (0,0)):=p.heap _ _ p3;have q9:F2.heap g6=some (.cells Ch.toArray 133 (0,0)):=p.heap _ _ p6;clear h9 k0 hz p2 p3 p6;obtain⟨q1,h1⟩:=o9 (decide (r.op<1));obtain⟨q2,h2⟩:=o9 (decide (11<=r.op));obtain⟨q3,h3⟩:=o9 (decide (64<r.a6A.length));have X:V5 d.s:=V▸hm;refine x8 [(3,i8 g3),(4,i8 O),(5,i8 Q),(6,i8 g6),(7,i8 z),(29,.bool (q1||(q2||q3)))] (T3 z d r q C3 N8::.blk Q (.cells (tX C3 N8).toArray 86)::.blk O (.cells (iQ IL).toArray 62)::U1 d.sa d.a6w d.sc::R5 d.ha d.a6v d.hc::U0 d.ba d.a6u d.bc::(X7 d.a6u++R)) ?_ ?_
 ·cases q1<;>cases q2
  all_goals (
   refine A5 ?_;refine f_ ((F8 rfl rfl).eb h1) ?_;refine E8 ?_;(first|refine u_ ?_|(refine v_ ?_;refine f_ ((K_ rfl rfl).eb h2) ?_));refine al ?_;(first|refine u_ ?_|(refine v_ ?_;refine f_ ((E9 rfl rfl).eq (qn ((qz).trans h3.symm))) ?_));refine u6 ?_)
  all_goals exact p_ sub i_
 refine O_ ?_ ?_<;>intro h
 ·have D:E3 m.s r=(m.s,{C3 with code:=1}):=by
   unfold E3;refine zr ?_;rw[h1,h2,h3] at h;simpa using h
  rw[D];refine Lq ?_;exact lR d {C3 with code:=1} N8 rfl rfl (u.trans p) (fun w g=>IM g) V rfl s (M8.nil _ _ _ rfl rfl)
 have hc:¬(r.op<1\/11<=r.op\/64<r.a6A.length):=fun k=>by
  rw[h1,h2,h3] at h;simp only[Zw,Z7] at h;rcases k with k|k|k
  ·exact h.1 k
  ·exact h.2.1 k
  ·exact h.2.2 k
 have D:E3 m.s r=if r.op=1\/r.op=10 then wj (KJ d.s r)
   else match rV d.s r.ses with
    |none=>(d.s,{C3 with code:=16})
    |some i=>
     if r.num<=(d.s.a6w.getD i ⟨0,0,0,0,0⟩).last then(d.s,{C3 with code:=14})
     else wj (KJ {d.s with a6w:=d.s.a6w.set i {d.s.a6w.getD i ⟨0,0,0,0,0⟩ with last:=r.num}} r):=by
  rw[V];unfold E3;rw[zb hc];rfl
 clear h h1 h2 h3;obtain⟨q4,h4⟩:=o9 (decide (r.op=1));obtain⟨q5,h5⟩:=o9 (decide (r.op=10));refine x6 ?_;refine x8 [(3,i8 g3),(4,i8 O),(5,i8 Q),(6,i8 g6),(7,i8 z),(42,.bool (!q4&&!q5))] (T3 z d r q C3 N8::.blk Q (.cells (tX C3 N8).toArray 86)::.blk O (.cells (iQ IL).toArray 62)::U1 d.sa d.a6w d.sc::R5 d.ha d.a6v d.hc::U0 d.ba d.a6u d.bc::(X7 d.a6u++R)) ?_ ?_
 ·cases q4
  all_goals (
   refine A5 ?_;refine f_ ((M2 rfl rfl).eq (jh (fun x=>Value.bool (!x)) h4.symm)) ?_;refine E8 ?_;(first|refine u_ ?_|(refine v_ ?_;refine f_ ((M2 rfl rfl).eq (jh (fun x=>Value.bool (!x)) h5.symm)) ?_));refine u6 ?_)
  all_goals exact p_ sub i_
 refine x6 ?_;refine n8 (ι:=MM) (fun l=>E3 m.s r=wj (KJ l.s r)/\V5 l.s/\∀b∈l.a6u,iP b.ls F2.heap) (fun l=>[(3,i8 g3),(4,i8 O),(5,i8 Q),(6,i8 g6),(7,i8 z)]) (fun l=>T3 z l r q C3 N8::.blk Q (.cells (tX C3 N8).toArray 86)::.blk O (.cells (iQ IL).toArray 62)::U1 l.sa l.a6w l.sc::R5 l.ha l.a6v l.hc::U0 l.ba l.a6u l.bc::(X7 l.a6u++R)) ?_ ?_
 ·refine p7 rfl ?_ ?_<;>intro h
  ·have hn:¬(r.op=1\/r.op=10):=by
    rw[h4,h5] at h;simp only[jw,Kr,Z7] at h;exact fun k=>k.elim h.1 h.2
   rw[zb hn] at D;refine x6 ?_;refine D8 [3,5] [6] [T3 z d r q C3 N8] 8 ?_;refine wd [0,1,2,3,4,5] ?_;refine h_ 6 rfl i6 ?_;refine c_ rfl (LC d r.ses (by have:=X.a6w;show d.s.a6w.length<=1000;omega)) (fun h hh ⟨bs,U⟩=>A_.rd U ud) rfl ?_;refine D7 [7] ?_;refine eV ?_ ?_<;>intro h
   ·rw[EQ (zy h)] at D;rw[D];refine Lq ?_;exact lR d {C3 with code:=16} N8 rfl rfl (u.trans p) (fun w g=>IM g) rfl rfl s (M8.nil _ _ _ rfl rfl)
   obtain⟨i,hi,S,ha⟩:=ER (zu h);have hg:d.s.a6w.getD i ⟨0,0,0,0,0⟩=d.a6w[i]:=(by show d.a6w.getD i _=_;rw[z8,zd S];rfl);rw[ha] at D;simp only[hg] at D;rw[hi];obtain⟨q6,M⟩:=o9 (decide (r.num<=d.a6w[i].last));refine B7 (a:=d.sa) (n:=d.a6w.length) (c:=d.sc) (sz:=5) (xs:=KN d.a6w) (te:=102) ud fun _ _ J=>?_;have J:=J qb;refine x6 ?_;refine D8 [1,6,10] [] [U1 d.sa d.a6w d.sc,T3 z d r q C3 N8] 13 ?_;refine wd [0,1,2,3,4,5,6,7,8,9] ?_;refine o7 10 rfl R6 (l5 rfl (fun w g=>cT (j:=1) (g.ownN (t:=102) ud).2.2.1 P6 S rfl x7)) G3 rfl rfl rfl i6 ?_;refine w_ 11 rfl ((H4 rfl rfl).eq (v':=.bool q6) (qn ((qz).trans M.symm))) ?_;refine wd [12] ?_
   cases q6
   case true=>
    rw[zr (zy M.symm)] at D;rw[D];refine Lq ?_;exact lR d {C3 with code:=14} N8 rfl rfl (u.trans p) (fun w g=>IM g) rfl rfl s (M8.nil _ _ _ rfl rfl)
   rw[zb (zu M.symm)] at D;refine x6 ?_;refine D8 [4,7] [10] [T3 z d r q C3 N8] 11 ?_;refine wd [0,1,2,3,4,5,6,7,8,9] ?_;refine h_ 10 rfl i6 ?_;refine A6 (C:=ji) {d.a6w[i] with last:=r.num} P6 S (j:=1) rfl ?_;refine D7 [] ?_;refine g_ {d with a6w:=d.a6w.set i {d.a6w[i] with last:=r.num}} ⟨D,IN X S r.num h8.num,s⟩ (fun w g=>?_);rw[NE];unfold U1;rw[Qw];exact g
  ·have hn:r.op=1\/r.op=10:=by
    rw[h4,h5] at h
    cases M:decide (r.op=1)
    ·rw[M] at h;right;simpa using h
    ·left;exact zy M
   rw[zr hn] at D;refine x6 ?_;exact g_ d ⟨D,X,s⟩ i_
 rintro l ⟨x0,x1,x2⟩;have Y:1<=r.op:=by omega
 have h0:r.op<=10:=by omega
 haveI:=TX Y h0
 refine x6 ?_;refine C5 (H':=(T3 z l r q C3 N8::vp l)++(.blk Q (.cells (tX C3 N8).toArray 86)::.blk O (.cells (iQ IL).toArray 62)::R)) (fun w g=>Ub g) ?_;refine A5 ?_;refine f_ (bL (n:=r.op) rfl rfl qb) ?_;refine r_ (l5 (v:=iy (RW r.op)) rfl (fun w g=>vK g q9 (by have:=ND Y h0;simpa using this))) ?_;refine u6 ?_;refine rT (f:=RW r.op) (TY z l r q x1 h8 Y h0) ⟨x2,Mn.le (u.trans p).heap q8⟩ ?_ (hH:=kR _ _);rintro v A F3 k8 ⟨m3,o,y,rfl,rfl,h7,k9,q0,x3⟩;refine u6 ?_;obtain⟨e,he⟩:=o9 (KJ l.s r);rw[x0];rw[<-he] at h7 k9⊢;obtain⟨q6,M⟩:=o9 (decide (e.2.2=0));refine u6 ?_;refine f_ ((M2 rfl rfl).eq (v':=.bool (!q6)) (jh (fun x=>Value.bool (!x)) M.symm)) ?_;refine x6 ?_
 cases q6
 ·have T:¬e.2.2=0:=zu M.symm;refine Ot ?_;exact lQ m3 {C3 with code:=e.2.2} N8 rfl rfl ((u.trans p).trans k8) (fun w g=>OT g) h7 (by show _=if e.2.2=0 then _ else _;rw[zb T]) q0 (M8.nil _ _ _ rfl rfl)
 ·have T:e.2.2=0:=zy M.symm;refine x6 ?_;refine D8 [3,7] [8,9] [T3 z m3 r q o y] 10 ?_;refine wd [0,1,2,3,4,5,6,7,8,9] ?_;refine B4 ?_;exact lQ m3 o y rfl rfl ((u.trans p).trans k8) (fun w g=>OT g) h7 (by show _=if e.2.2=0 then _ else _;rw[zr T];exact k9 T) q0 x3
open Go Go.Sl Go.RowKit Go.Proofs.Tryz
def Ac(k:Nat):FuncId:=if k=1 then 138 else if k=2 then 139 else if k=3 then 140 else if k=4 then 141 else if k=5 then 142 else if k=6 then 143 else if k=7 then 144 else if k=8 then 145 else if k=9 then 145 else if k=10 then 146 else if k=11 then 147 else if k=12 then 148 else if k=13 then 148 else if k=14 then 149 else if k=15 then 148 else if k=16 then 150 else if k=17 then 151 else 152
abbrev IP(a b:Nat)(f:FuncId):zq:=[.int .i64 (a:Nat),.int .i64 (b:Nat),iy f]
abbrev qI:zq:=[.int .i64 0,.int .i64 0,.nilFunc,.int .i64 0,.int .i64 2,iy 138,.int .i64 0,.int .i64 2,iy 139,.int .i64 0,.int .i64 2,iy 140,.int .i64 2,.int .i64 2,iy 141,.int .i64 2,.int .i64 2,iy 142,.int .i64 1,.int .i64 2,iy 143,.int .i64 0,.int .i64 0,iy 144,.int .i64 1,.int .i64 2,iy 145,.int .i64 1,.int .i64 2,iy 145,.int .i64 1,.int .i64 2,iy 146,.int .i64 1,.int .i64 2,iy 147,.int .i64 1,.int .i64 2,iy 148,.int .i64 1,.int .i64 2,iy 148,.int .i64 1,.int .i64 2,iy 149,.int .i64 2,.int .i64 2,iy 148,.int .i64 2,.int .i64 2,iy 150,.int .i64 2,.int .i64 2,iy 151,.int .i64 2,.int .i64 2,iy 152]
def lS{k:Nat}(a:1<=k)(b:k<=18):k=1\/k=2\/k=3\/k=4\/k=5\/k=6\/k=7\/k=8\/k=9\/k=10\/k=11\/k=12\/k=13\/k=14\/k=15\/k=16\/k=17\/k=18:=by omega
def IQ{k:Nat}(a:1<=k)(b:k<=18):qI[k*3]? =some (.int .i64 ((M_ k).1:Nat))/\qI[k*3+1]? =some (.int .i64 ((M_ k).2:Nat))/\qI[k*3+2]? =some (iy (Ac k)):=by
 rcases lS a b with rfl|rfl|rfl|rfl|rfl|rfl|rfl|rfl|rfl|rfl|rfl|rfl|rfl|rfl|rfl|rfl|rfl|rfl<;>exact qm
theorem QQ{k:Nat}(a:1<=k)(b:k<=18):HF prog (Ac k):=by
 rcases lS a b with rfl|rfl|rfl|rfl|rfl|rfl|rfl|rfl|rfl|rfl|rfl|rfl|rfl|rfl|rfl|rfl|rfl|rfl
 ·exact(inferInstance:HF prog 138)
 ·exact(inferInstance:HF prog 139)
 ·exact(inferInstance:HF prog 140)
 ·exact(inferInstance:HF prog 141)
 ·exact(inferInstance:HF prog 142)
 ·exact(inferInstance:HF prog 143)
 ·exact(inferInstance:HF prog 144)
 ·exact(inferInstance:HF prog 145)
 ·exact(inferInstance:HF prog 145)
 ·exact(inferInstance:HF prog 146)
 ·exact(inferInstance:HF prog 147)
 ·exact(inferInstance:HF prog 148)
 ·exact(inferInstance:HF prog 148)
 ·exact(inferInstance:HF prog 149)
 ·exact(inferInstance:HF prog 148)
 ·exact(inferInstance:HF prog 150)
 ·exact(inferInstance:HF prog 151)
 ·exact(inferInstance:HF prog 152)
def NF(s:SE)(d:DD)(c:CM)(s':SE)(d':DD):Prop:=if c.kind=14 then TK s d c s' d' else if 16<=c.kind then Eu s d c s' d' else(s',d')=KK (fun _=>[]) (s,d) c
def Hh.cmd{f:FuncId}{b:Nat}{s:SE}{x:SL}{d:DD}{y:DL}{c:CM}{k:CL}{r:RQ}(h:Hh f b s x d y c k (H3 (s,d) c r []))(hu:r.a6A=[])(hf:r.a6J=[]):bO f b s x d y c k (H3 (s,d) c r []):=fun F R w a g=>
 (h F R w a g).mono fun e n ⟨v,A,i,⟨j,l⟩,m⟩=>⟨v,A,i,by subst j l;exact mD b s x d y c k r hu hf,m⟩
section
variable(b:Nat)(s:SE)(x:SL)(d:DD)(y:DL)(c:CM)(k:CL)(hv:s.a6y.a6x.length<=100000)(hvu:∀r∈s.a6y.a6x,r.1<18446744073709551616)(hc:rr c)(hn:s.num<18446744073709551615)(hl:y.rl.length<=100000)
include hv hvu hc hn hl
def QR(C:1<=c.kind)(D:c.kind<=18):Et (Ac c.kind) b s x d y c k (NF s d c):=by
 obtain⟨i,z,j,a,l,e,f,m,n,o,g,p,r,t,u,v,h⟩:=c;simp only at C D⊢;have A:y.rl.length<=1000000:=by omega
 have w:∀{q:SD},z≠14->z<16->q=KK (fun _=>[]) (s,d) ⟨i,z,j,a,l,e,f,m,n,o,g,p,r,t,u,v,h⟩->NF s d ⟨i,z,j,a,l,e,f,m,n,o,g,p,r,t,u,v,h⟩ q.1 q.2:=fun{q} ha M J=>by
  unfold NF;rw[zb ha,zb (show¬16<=z by omega)];exact J
 rcases lS C D with rfl|rfl|rfl|rfl|rfl|rfl|rfl|rfl|rfl|rfl|rfl|rfl|rfl|rfl|rfl|rfl|rfl|rfl
 ·exact bO.w (rA b s x d y ⟨i,1,j,a,l,e,f,m,n,o,g,p,r,t,u,v,h⟩ k A) (w qp qp (by rfl)) (by first|rfl|(split<;>rfl))
 ·exact bO.w (Mb b s x d y ⟨i,2,j,a,l,e,f,m,n,o,g,p,r,t,u,v,h⟩ k hn A) (w qp qp (by rfl)) (by first|rfl|(split<;>rfl))
 ·exact bO.w (DQ b s x d y ⟨i,3,j,a,l,e,f,m,n,o,g,p,r,t,u,v,h⟩ k hn A) (w qp qp (by rfl)) (by first|rfl|(split<;>rfl))
 ·exact bO.w (DS b s x d y ⟨i,4,j,a,l,e,f,m,n,o,g,p,r,t,u,v,h⟩ k hn) (w qp qp (by rfl)) (by first|rfl|(split<;>rfl))
 ·exact bO.w (wC b s x d y ⟨i,5,j,a,l,e,f,m,n,o,g,p,r,t,u,v,h⟩ k hn A) (w qp qp (by rfl)) (by first|rfl|(split<;>rfl))
 ·exact bO.w (DR b s x d y ⟨i,6,j,a,l,e,f,m,n,o,g,p,r,t,u,v,h⟩ k A) (w qp qp (by rfl)) (by first|rfl|(split<;>rfl))
 ·exact bO.w (Hi b s x d y ⟨i,7,j,a,l,e,f,m,n,o,g,p,r,t,u,v,h⟩ k hn A) (w qp qp (by rfl)) (by first|rfl|(split<;>rfl))
 ·exact bO.w (pA b s x d y ⟨i,8,j,a,l,e,f,m,n,o,g,p,r,t,u,v,h⟩ k hn) (w qp qp (by rfl)) (by first|rfl|(split<;>rfl))
 ·exact bO.w (pA b s x d y ⟨i,9,j,a,l,e,f,m,n,o,g,p,r,t,u,v,h⟩ k hn) (w qp qp (by rfl)) (by first|rfl|(split<;>rfl))
 ·exact bO.w ((yS b s x d y ⟨i,10,j,a,l,e,f,m,n,o,g,p,r,t,u,v,h⟩ k hn).cmd rfl rfl) (w qp qp (by rfl)) (by first|rfl|(split<;>rfl))
 ·exact bO.w ((yT b s x d y ⟨i,11,j,a,l,e,f,m,n,o,g,p,r,t,u,v,h⟩ k hn).cmd rfl rfl) (w qp qp (by rfl)) (by first|rfl|(split<;>rfl))
 ·exact bO.w ((gM b s x d y ⟨i,12,j,a,l,e,f,m,n,o,g,p,r,t,u,v,h⟩ k hn).cmd rfl rfl) (w qp qp (by rfl)) (by first|rfl|(split<;>rfl))
 ·exact bO.w ((gM b s x d y ⟨i,13,j,a,l,e,f,m,n,o,g,p,r,t,u,v,h⟩ k hn).cmd rfl rfl) (w qp qp (by rfl)) (by first|rfl|(split<;>rfl))
 ·exact(zK b s x d y ⟨i,14,j,a,l,e,f,m,n,o,g,p,r,t,u,v,h⟩ k hc hn)
 ·exact bO.w ((gM b s x d y ⟨i,15,j,a,l,e,f,m,n,o,g,p,r,t,u,v,h⟩ k hn).cmd rfl rfl) (w qp qp (by rfl)) (by first|rfl|(split<;>rfl))
 ·exact(Ew b s x d y ⟨i,16,j,a,l,e,f,m,n,o,g,p,r,t,u,v,h⟩ k hv hvu hc hn hl)
 ·exact(Ex b s x d y ⟨i,17,j,a,l,e,f,m,n,o,g,p,r,t,u,v,h⟩ k hv hvu hc hn hl)
 ·exact(Is b s x d y ⟨i,18,j,a,l,e,f,m,n,o,g,p,r,t,u,v,h⟩ k hv hvu hc hn hl)
end
open Go Go.Sl Go.RowKit Go.Proofs.Tryz
def OU(s:SE)(d:DD)(t:Bs)(s':SE)(d':DD):Prop:=∃c e,aE t c e/\
 (e=11/\(s',d')=X0 (s,d) (fA [42] [110,111,32,116,97,103])\/e=10/\(s',d')=X0 (s,d) (fA c.tag [110,111,32,115,117,99,104,32,99,111,109,109,97,110,100])
 \/e=4/\(s',d')=X0 (s,d) (fA c.tag [119,114,111,110,103,32,119,111,114,100,115])
 \/e=0/\((s.a6z<(M_ c.kind).1\/(M_ c.kind).2<s.a6z)/\(s',d')=X0 (s,d) (fA c.tag [110,111,116,32,110,111,119])
  \/(M_ c.kind).1<=s.a6z/\s.a6z<=(M_ c.kind).2/\NF s d c s' d'))
def Ci{b:Nat}{s:SE}{x:SL}{d:DD}{y:DL}{r:RR}{a:qr}{f:Nat}{h:l_}{Q:SE->DD->Prop}(hq:Q s {d with a6I:=d.a6I++[r]})(hz:fQ r L0 h)(c:iO s x d y h):Iq b y Q h (.tuple #[]) (l6 x.ra s.a6y.a6x x.rc::P3 b s x d (G1 y (r,L0) a f)):=by
 refine⟨rfl,s,{d with a6I:=d.a6I++[r]},x,G1 y (r,L0) a f,hq,rfl,.one rfl,c.se,?_,fun m e=>?_,c.dd.req,c.dd.want⟩
 ·show d.a6I++[r]=(y.rl++[(r,L0)]).map Prod.fst;rw[c.dd.a6I];simp
 ·rcases kw.1 (show m∈y.rl++[(r,L0)] from e) with e|e
  ·exact c.dd.rep m e
  ·rw[z7.1 e];exact hz
def Uc{F:l9}{w:World}{H:List As}{b o:Nat}{cs:Array Value}{te:zk}{fr:Nat×Nat}{u v z:Value}(d:Hp F w H)(e:F.heap b=some (.cells cs te fr))(hu:cs[o]? =some u)(hv:cs[o+1]? =some v)(hz:cs[o+2]? =some z):M9 (hp w) (some ⟨b,o,none⟩) [u,v,z]:=
 ⟨_,rfl,fun j q a=>by
  match j,a with
  |0,a=>simp at a;subst a;have c:w.heap[b]? =some (.cells cs te fr):=d.keep b _ e;simp[l_.cell?,hp,Addr.add,c,hu]
  |1,a=>simp at a;subst a;have c:w.heap[b]? =some (.cells cs te fr):=d.keep b _ e;simp[l_.cell?,hp,Addr.add,c,hv]
  |2,a=>simp at a;subst a;have c:w.heap[b]? =some (.cells cs te fr):=d.keep b _ e;simp[l_.cell?,hp,Addr.add,c,hz]⟩
def NG(b:Nat)(s:SE)(x:SL)(d:DD)(y:DL)(t:Bs)(ht:t.length<=1000000000)(hv:s.a6y.a6x.length<=100000)(Q:∀r∈s.a6y.a6x,r.1<18446744073709551616)(hn:s.num<18446744073709551615)(hl:y.rl.length<=100000):
  Cm prog 74 [i8 b,B t] (fun h=>Gl h/\iO s x d y h) (l6 x.ra s.a6y.a6x x.rc::P3 b s x d y) (Iq b y (OU s d t)):=by
 refine A0 80 func74 rfl rfl rfl ?_;rintro F R ⟨hg,S⟩;refine u6 ?_;refine e_ (sP t ht) (fun h hh _=>hg.le hh) ?_;rintro v A ⟨c,e,k,i,rfl,q⟩;refine AP (kR A _) fun F1 j ⟨bs,M⟩=>?_;have hk:eu c k F1.heap:=q _ _ M;clear q M;refine E8 ?_;refine i7 rfl ?_;intro g4;refine A5 ?_;have g:iO s x d y F1.heap:=Mn.le j.heap S;have u:=kQ ht i;refine u6 ?_;rcases u.er with rfl|rfl|rfl|rfl
 ·refine E8 ?_;refine e_ (lz b s x d y [42] [110,111,32,116,97,103] qb) qw ?_;rintro v A ⟨rfl,a,z,rfl⟩;refine x6 ?_;refine I4 (A:=l6 x.ra s.a6y.a6x x.rc::P3 b s x d (G1 y (fA [42] [110,111,32,116,97,103],L0) a z)) (v:=.tuple #[]) j (Ci ⟨c,11,i,.inl qh⟩ (cX rfl rfl rfl _) g) ?_;exact m6 rfl _ qh (fun w l=>D3 (A:=[_,_,_]) (J:=[_]) tk l)
 ·refine wk 7 ?_;refine e_ (lz b s x d y c.tag [110,111,32,115,117,99,104,32,99,111,109,109,97,110,100] qb) qw ?_;rintro v A ⟨rfl,a,z,rfl⟩;refine x6 ?_;refine I4 (A:=l6 x.ra s.a6y.a6x x.rc::P3 b s x d (G1 y (fA c.tag [110,111,32,115,117,99,104,32,99,111,109,109,97,110,100],L0) a z)) (v:=.tuple #[]) j (Ci ⟨c,10,i,.inr (.inl qh)⟩ (cX rfl rfl rfl _) g) ?_;exact m6 rfl _ qh (fun w l=>D3 (A:=[_,_,_]) (J:=[_]) tk l)
 ·refine wk 9 ?_;refine e_ (lz b s x d y c.tag [119,114,111,110,103,32,119,111,114,100,115] qb) qw ?_;rintro v A ⟨rfl,a,z,rfl⟩;refine x6 ?_;refine I4 (A:=l6 x.ra s.a6y.a6x x.rc::P3 b s x d (G1 y (fA c.tag [119,114,111,110,103,32,119,111,114,100,115],L0) a z)) (v:=.tuple #[]) j (Ci ⟨c,4,i,.inr (.inr (.inl qh))⟩ (cX rfl rfl rfl _) g) ?_;exact m6 rfl _ qh (fun w l=>D3 (A:=[_,_,_]) (J:=[_]) tk l)
 ·have m:=u.kind rfl;refine wk 24 ?_;refine f_ (zM rfl rfl) ?_;refine i7 rfl ?_;intro g6;refine u6 ?_;refine C6 (Z:=[.blk g6 (.cells qI.toArray 226)]) tk fun F2 o M=>?_;have p6:F2.heap g6=some (.cells qI.toArray 226 (0,0)):=L6 M;clear M;have D:=IQ m.1 m.2
  haveI:=QQ m.1 m.2
  refine A5 ?_;refine f_ (bL (n:=(c.kind:Nat)) rfl rfl qb) ?_;refine r_ (p9 (cs:=IP (M_ c.kind).1 (M_ c.kind).2 (Ac c.kind)) rfl (fun w l=>Uc l p6 (by simpa using D.1) (by simpa using D.2.1) (by simpa using D.2.2)) rfl) ?_;refine i7 rfl ?_;intro T;refine u6 ?_;obtain⟨q1,U⟩:=o9 (decide (s.a6z<(M_ c.kind).1));obtain⟨q2,V⟩:=o9 (decide ((M_ c.kind).2<s.a6z));refine x8 [(0,i8 b),(4,i8 g4),(7,i8 T),(54,.bool (q1||q2))] (.blk T (.cells (IP (M_ c.kind).1 (M_ c.kind).2 (Ac c.kind)).toArray 225)::.blk g4 (.cells (lg c k).toArray 36)::F9 b s x d y::x4 y.da y.rl y.dc::l6 x.ra s.a6y.a6x x.rc::R) ?_ ?_
  ·cases q1
   all_goals (
    refine x6 ?_;refine D8 [4,6,13,15] [] [F9 b s x d y,.blk T (.cells (IP (M_ c.kind).1 (M_ c.kind).2 (Ac c.kind)).toArray 225)] 18 ?_;refine wd [0,1,2,3,4,5,6] ?_;refine w_ 7 rfl ((F8 rfl rfl).eq (qn ((qz).trans U.symm))) ?_;refine wd [8,9,10,11,12,13,14,15] ?_;(first|refine s_ 16 ?_|refine t_ 16 ?_|refine G4 16 rfl ((E9 rfl rfl).eq (qn ((qz).trans V.symm))) rfl rfl rfl rfl rfl rfl i6 ?_);refine wd [17] ?_)
   all_goals exact p_ sub (fun w l=>(tk (C:=[_,_,_,_,_])).hp l)
  refine O_ ?_ ?_<;>intro h
  ·have p:s.a6z<(M_ c.kind).1\/(M_ c.kind).2<s.a6z:=(by rw[U,V] at h;simpa using h);refine E8 ?_;refine e_ (lz b s x d y c.tag [110,111,116,32,110,111,119] qb) qw ?_;rintro v A ⟨rfl,a,z,rfl⟩;refine oK ?_;refine I4 (A:=l6 x.ra s.a6y.a6x x.rc::P3 b s x d (G1 y (fA c.tag [110,111,116,32,110,111,119],L0) a z)) (v:=.tuple #[]) (j.trans o) (Ci ⟨c,0,i,.inr (.inr (.inr ⟨rfl,.inl ⟨p,rfl⟩⟩))⟩ (cX rfl rfl rfl _) (Mn.le o.heap g)) ?_;exact m6 rfl _ qh (fun w l=>D3 (A:=[_,_,_]) (J:=[_,_]) tk l)
  ·have p:(M_ c.kind).1<=s.a6z/\s.a6z<=(M_ c.kind).2:=(by rw[U,V] at h;simpa using h);refine P1 ?_;refine rT (f:=Ac c.kind) (QR b s x d y c k hv Q u.le.le hn hl m.1 m.2) ⟨Mn.le o.heap g,Mn.le o.heap hk⟩ ?_;rintro v A F3 X ⟨rfl,Y,d',O,y',hq,rfl,hy,h0⟩;refine x6 ?_;refine I4 (A:=l6 O.ra Y.a6y.a6x O.rc::P3 b Y O d' y') (v:=.tuple #[]) ((j.trans o).trans X) ⟨rfl,Y,d',O,y',⟨c,0,i,.inr (.inr (.inr ⟨rfl,.inr ⟨p.1,p.2,hq⟩⟩))⟩,rfl,hy,h0⟩ ?_;exact m6 rfl _ qh (fun w l=>D3 (A:=[_,_,_]) (J:=[_,_]) tk l)
def bJ(s:SE)(kind:Int)(t:Bs)(s':SE)(d':DD):Prop:=
 if kind=2 then(s',d')=X0 (s,G7) {R0 with kind:=5,text:=[103,111,32,111,110]}
 else if s.a6z=3\/s.a6E=true then(s',d')=(s,G7)
 else if kind=4 then(s',d')=Gy (s,G7) [116,111,111,32,108,111,110,103]
 else if kind=3 then∃c e,aE t c e/\(s',d')=X0 (s,G7) (fA (tT c) [116,111,111,32,98,105,103])
 else if kind=1 then OU s G7 t s' d' else(s',d')=(s,G7)
structure Ad(s:SE):Prop where
 a6x:s.a6y.a6x.length<=100000
 a6A:s.a6A.length<=1000000
 cmd:rr s.cmd
 row:∀r∈s.a6y.a6x,r.1<18446744073709551616
 num:s.num<18446744073709551615
def Ad.le{s:SE}(h:Ad s):PK s:=⟨by have:=h.a6x;omega,h.a6A,h.cmd⟩
def ES(Q:SE->DD->Prop)(h:l_)(v:Value)(A:List As):Prop:=∃s' d' x' y',Q s' d'/\v=.tuple #[mq s' x',Ly d' y']/\A=[l6 x'.ra s'.a6y.a6x x'.rc,x4 y'.da y'.rl y'.dc]/\rz N9 y'/\iO s' x' d' y' h
abbrev hdA(kind:Int)(t:Bs):Value:=.agg #[.int .i64 kind,B t]
def NH(s:SE)(x:SL)(kind:Int)(t:Bs)(hs:Ad s)(ht:t.length<=1000000000):
  Cm prog 30 [mq s x,hdA kind t] (fun h=>Gl h/\n9 h x.ra (S_ s.a6y.a6x)/\P4 s x h) [] (ES (bJ s kind t)):=by
 refine A0 64 func30 rfl rfl rfl ?_;rintro F R ⟨hg,hr,X⟩;refine D1 ?_;refine m8 rfl rfl ?_;intro Y;refine m8 rfl rfl ?_;intro Z;refine i7 rfl ?_;intro S;refine i7 rfl ?_;intro T;refine u6 ?_;refine B_ (lN s x hs.le) ⟨hr,X⟩ ?_;rintro v A p D ⟨b,rfl,rfl,g⟩;refine f_ (A2 (ps:=[(0,.tmp 10)]) (vs:=[(0,mq s b)]) (cells:=(mn s b++tW G7 N9).toArray) rfl i6) ?_;refine m8 rfl rfl ?_;intro q;refine I6 1 ?_;refine C5 (H':=F9 q s b G7 N9::x4 none [] 0::l6 b.ra s.a6y.a6x b.rc::.blk T (.cells (tW G7 N9).toArray 46)::.blk S (.cells (mn oT rt).toArray 39)::.blk Z (.cells [.int .i64 kind,B t].toArray 41)::.blk Y (.cells (mn s x).toArray 39)::R) (fun w f=>(f.addNil 51 10).perm (.swap _ _ _)) ?_;have o:iO s b G7 N9 p.heap:=⟨g,Dv.zero _⟩;obtain⟨b2,h2⟩:=o9 (decide (kind=2));obtain⟨b3,h3⟩:=o9 (decide (s.a6z=3));obtain⟨b4,h4⟩:=o9 (decide (kind=4));obtain⟨b5,h5⟩:=o9 (decide (kind=3));obtain⟨b6,h6⟩:=o9 (decide (kind=1));refine V7 (fun(l:SE) (u:DD) (z:SL×DL) (d:l9)=>p.le d/\bJ s kind t l u/\rz N9 z.2/\iO l z.1 u z.2 d.heap) (fun _ _ _ _=>[(4,i8 S),(5,i8 T),(6,i8 q)]) (fun _ _ _ d=>d)
  (fun l u z d=>F9 q l z.1 u z.2::x4 z.2.da z.2.rl z.2.dc::l6 z.1.ra l.a6y.a6x z.1.rc::.blk T (.cells (tW G7 N9).toArray 46)::.blk S (.cells (mn oT rt).toArray 39)::R) ?_ ?_
 ·refine o0 ?_;refine A5 ?_;refine f_ ((q_ rfl rfl).eq (v':=.bool b2) (qn h2.symm)) ?_;refine u6 ?_;have i:∀(r:RR) (a:qr) (n:Nat) (d:l9),p.le d->fQ r L0 d.heap->iO s b {G7 with a6I:=[r]} (G1 N9 (r,L0) a n) d.heap:=fun r a n d hl hz=>⟨Mn.le hl.heap g,rfl,(fun m hm=>by rw[z7.1 (show m∈[(r,L0)] from hm)];exact hz),⟨n9.nil _ _,n9.nil _ _⟩,n9.nil _ _⟩
  cases b2
  case true=>
   have M:kind=2:=zy h2.symm;refine u6 ?_;refine f_ (A2 (ps:=[(0,.const (.int .i64 5)),(3,.const (B [103,111,32,111,110]))]) (vs:=[(0,.int .i64 5),(3,B [103,111,32,111,110])]) (cells:=(tM {R0 with kind:=5,text:=[103,111,32,111,110]} L0).toArray) rfl i6) ?_;refine e_ (X2 q s b G7 N9 {R0 with kind:=5,text:=[103,111,32,111,110]} L0 qp) qw ?_;rintro v A ⟨rfl,a,n,rfl⟩;refine x6 ?_;exact y7 (s,{G7 with a6I:=[{R0 with kind:=5,text:=[103,111,32,111,110]}]},(b,G1 N9 ({R0 with kind:=5,text:=[103,111,32,111,110]},L0) a n),p) ⟨l9.le_refl _,by unfold bJ;rw[zr M];rfl,.one rfl,i ({R0 with kind:=5,text:=[103,111,32,111,110]}) a n p (l9.le_refl _) (cX rfl rfl rfl _)⟩ rfl (fun w f=>D3 (A:=[_,_,_,_,_]) (J:=[_,_]) tk f)
  have M:¬kind=2:=zu h2.symm;refine x6 ?_;refine x8 [(2,i8 Y),(3,i8 Z),(4,i8 S),(5,i8 T),(6,i8 q),(20,.bool (b3||s.a6E))] (F9 q s b G7 N9::x4 none [] 0::l6 b.ra s.a6y.a6x b.rc::.blk T (.cells (tW G7 N9).toArray 46)::.blk S (.cells (mn oT rt).toArray 39)::.blk Z (.cells [.int .i64 kind,B t].toArray 41)::.blk Y (.cells (mn s x).toArray 39)::R) ?_ ?_
  ·cases b3
   all_goals (
    refine A5 ?_;refine f_ ((q_ rfl rfl).eq (qn ((qz).trans h3.symm))) ?_;refine al ?_)
   all_goals exact p_ sub i_
  refine O_ ?_ ?_<;>intro h
  ·have Q:s.a6z=3\/s.a6E=true:=(by rw[h3] at h;simpa using h);refine x6 ?_;exact y7 (s,G7,(b,N9),p) ⟨l9.le_refl _,by unfold bJ;rw[zb M,zr Q],.refl rfl,o⟩ rfl (fun w f=>D3 (A:=[_,_,_,_,_]) (J:=[_,_]) tk f)
  have Q:¬(s.a6z=3\/s.a6E=true):=by rw[h3] at h;simpa using h
  refine A5 ?_;refine f_ ((q_ rfl rfl).eq (v':=.bool b4) (qn h4.symm)) ?_;refine u6 ?_
  cases b4
  case true=>
   have U:kind=4:=zy h4.symm;refine u6 ?_;refine e_ (tY q s b G7 N9 [116,111,111,32,108,111,110,103] qp) qw ?_;rintro v A ⟨rfl,a,n,rfl⟩;refine x6 ?_;exact y7 ({s with a6z:=3},{G7 with a6I:=[L2 [116,111,111,32,108,111,110,103]],close:=true},(b,G1 N9 (L2 [116,111,111,32,108,111,110,103],L0) a n),p) ⟨l9.le_refl _,by unfold bJ;rw[zb M,zb Q,zr U];rfl,.one rfl,⟨⟨g.a6A,g.cmd⟩,(i (L2 [116,111,111,32,108,111,110,103]) a n p (l9.le_refl _) (cX rfl rfl rfl _)).dd.a6I,(i (L2 [116,111,111,32,108,111,110,103]) a n p (l9.le_refl _) (cX rfl rfl rfl _)).dd.rep,⟨n9.nil _ _,n9.nil _ _⟩,n9.nil _ _⟩⟩ rfl (fun w f=>D3 (A:=[_,_,_,_,_]) (J:=[_,_]) tk f)
  have U:¬kind=4:=zu h4.symm;refine A5 ?_;refine f_ ((q_ rfl rfl).eq (v':=.bool b5) (qn h5.symm)) ?_;refine u6 ?_
  cases b5
  case true=>
   have V:kind=3:=zy h5.symm;refine A5 ?_;refine e_ (sP t ht) (fun h hh _=>(hg.le D.heap).le hh) ?_;rintro v A ⟨c,e,k,h0,rfl,y⟩;refine AP (kR A _) fun d j ⟨bs,hb⟩=>?_;have hk:eu c k d.heap:=y _ _ hb;clear y hb;refine E8 ?_;refine i7 rfl ?_;intro g7;refine P1 ?_;refine c_ rfl (EC c k) qw rfl ?_;refine e_ (lz q s b G7 N9 (tT c) [116,111,111,32,98,105,103] qp) qw ?_;rintro v A ⟨rfl,a,n,rfl⟩;refine x6 ?_;exact y7 (s,{G7 with a6I:=[fA (tT c) [116,111,111,32,98,105,103]]},(b,G1 N9 (fA (tT c) [116,111,111,32,98,105,103],L0) a n),d) ⟨j,by unfold bJ;rw[zb M,zb Q,zb U,zr V];exact⟨c,e,h0,rfl⟩,.one rfl,i (fA (tT c) [116,111,111,32,98,105,103]) a n d j (cX rfl rfl rfl _)⟩ rfl (fun w f=>D3 (A:=[_,_,_,_,_]) (J:=[_,_,_]) tk f)
  have V:¬kind=3:=zu h5.symm;refine A5 ?_;refine f_ ((q_ rfl rfl).eq (v':=.bool b6) (qn h6.symm)) ?_;refine u6 ?_
  cases b6
  case true=>
   have e6:kind=1:=zy h6.symm;refine E8 ?_;refine B_ (NG q s b G7 N9 t ht hs.a6x hs.row hs.num qp) ⟨hg.le D.heap,o⟩ ?_;rintro v A d j ⟨rfl,l,u,O,C,hq,rfl,hy,h1⟩;refine x6 ?_;exact y7 (l,u,(O,C),d) ⟨j,by unfold bJ;rw[zb M,zb Q,zb U,zb V,zr e6];exact hq,hy,h1⟩ rfl (fun w f=>D3 (A:=[_,_,_,_,_]) (J:=[_,_]) tk f)
  have e6:¬kind=1:=zu h6.symm;refine x6 ?_;exact y7 (s,G7,(b,N9),p) ⟨l9.le_refl _,by unfold bJ;rw[zb M,zb Q,zb U,zb V,zb e6],.refl rfl,o⟩ rfl (fun w f=>D3 (A:=[_,_,_,_,_]) (J:=[_,_]) tk f)
 rintro l u ⟨O,C⟩ d ⟨j,hq,hn,h7⟩;refine x6 ?_;refine D8 [3,7] [8,9] [F9 q l O u C] 10 ?_;refine wd [0,1,2,3,4,5,6,7,8,9] ?_;refine B4 ?_;refine I4 (A:=[l6 O.ra l.a6y.a6x O.rc,x4 C.da C.rl C.dc]) (v:=.tuple #[mq l O,Ly u C]) (D.trans j) ⟨l,u,O,C,hq,rfl,rfl,hn,h7⟩ ?_;refine Y0 rfl rfl rfl ud rfl ud rfl _ qh (fun w f=>D3 (A:=[_,_]) (J:=[_,_,_]) tk f)
def NI(s:SE)(x:SL)(hs:Ad s):
  Cm prog 32 [mq s x] (fun h=>n9 h x.ra (S_ s.a6y.a6x)/\P4 s x h) [] (ES (fun D M=>(D,M)=aH s)):=by
 obtain⟨i,e,f,d,k,c,l,b,j⟩:=s;refine A0 42 func32 rfl rfl rfl ?_;rintro F R ⟨O,u⟩;refine D1 ?_;refine m8 rfl rfl ?_;intro Q;refine i7 rfl ?_;intro S;refine i7 rfl ?_;intro T;refine u6 ?_;refine B_ (lN ⟨i,e,f,d,k,c,l,b,j⟩ x hs.le) ⟨O,u⟩ ?_;rintro v A U o ⟨g,rfl,rfl,r⟩;refine f_ (A2 (ps:=[(0,.tmp 7)]) (vs:=[(0,mq ⟨i,e,f,d,k,c,l,b,j⟩ g)]) (cells:=(mn ⟨i,e,f,d,k,c,l,b,j⟩ g++tW G7 N9).toArray) rfl i6) ?_;refine m8 rfl rfl ?_;intro p;refine u6 ?_;refine C5 (H':=F9 p ⟨i,e,f,d,k,c,l,b,j⟩ g G7 N9::x4 none [] 0::l6 g.ra d.a6x g.rc::.blk T (.cells (tW G7 N9).toArray 46)::.blk S (.cells (mn oT rt).toArray 39)::.blk Q (.cells (mn ⟨i,e,f,d,k,c,l,b,j⟩ x).toArray 39)::R) (fun w q=>(q.addNil 51 10).perm (.swap _ _ _)) ?_;refine E8 ?_
 cases l
 ·refine x6 ?_;refine D8 [3,7] [8,9] [F9 p ⟨i,e,f,d,k,c,false,b,j⟩ g G7 N9] 10 ?_;refine wd [0,1,2,3,4,5,6,7,8,9] ?_;refine B4 ?_;refine I4 (A:=[l6 g.ra d.a6x g.rc,x4 none [] 0]) (v:=.tuple #[mq ⟨i,e,f,d,k,c,false,b,j⟩ g,Ly G7 N9]) o ⟨_,_,g,N9,rfl,rfl,rfl,.refl rfl,r,Dv.zero _⟩ ?_;exact Y0 rfl rfl rfl ud rfl ud rfl _ qh (fun w q=>D3 (A:=[_,_]) (J:=[_,_,_,_]) tk q)
 refine u6 ?_;refine e_ (BY p ⟨i,e,f,d,k,c,true,b,j⟩ g G7 N9) qw ?_;rintro v A ⟨rfl,rfl⟩;refine i7 rfl ?_;intro V;refine u6 ?_;obtain⟨C,y⟩:=o9 (decide (b.kind=3));refine A5 ?_;refine f_ ((q_ rfl rfl).eq (v':=.bool C) (qn ((kz.2 (by show((b.kind:Nat):Int)=3↔b.kind=3;omega)).trans y.symm))) ?_;refine x6 ?_
 cases C
 case true=>
  have z:b.kind=3:=zy y.symm;refine E8 ?_;refine e_ (oX p (X6 ⟨i,e,f,d,k,c,true,b,j⟩) {g with cl:=I0,ua:=none,uc:=0} G7 N9 b.tag qp) qw ?_;rintro v A ⟨rfl,a,n,rfl⟩;refine x6 ?_;refine D8 [3,7] [8,9] [F9 p ⟨3,e,f,d,k,c,false,iK,[]⟩ ⟨g.ra,g.rc,none,0,I0⟩ ⟨[L2 dQ,ep b.tag],false,dq,false,[],[],true⟩ ⟨a,n,du,none,0,[(L2 dQ,L0),(ep b.tag,L0)]⟩] 10 ?_;refine wd [0,1,2,3,4,5,6,7,8,9] ?_;refine B4 ?_;refine I4 (A:=[l6 g.ra d.a6x g.rc,x4 a [(L2 dQ,L0),(ep b.tag,L0)] n]) (v:=.tuple #[mq ⟨3,e,f,d,k,c,false,iK,[]⟩ ⟨g.ra,g.rc,none,0,I0⟩,Ly ⟨[L2 dQ,ep b.tag],false,dq,false,[],[],true⟩ ⟨a,n,du,none,0,[(L2 dQ,L0),(ep b.tag,L0)]⟩]) o ⟨_,_,⟨g.ra,g.rc,none,0,I0⟩,⟨a,n,du,none,0,[(L2 dQ,L0),(ep b.tag,L0)]⟩,by unfold aH;rw[zb x7,zr z];rfl,rfl,rfl,.two rfl,⟨n9.nil _ _,eu.zero _⟩,⟨rfl,fun m t=>by rcases jv.1 (show m∈[(L2 dQ,L0),(ep b.tag,L0)] from t) with rfl|t;exact cX rfl rfl rfl _;(rw[z7.1 t];exact cX rfl rfl rfl _),⟨n9.nil _ _,n9.nil _ _⟩,n9.nil _ _⟩⟩ ?_;exact Y0 rfl rfl rfl ud rfl ud rfl _ qh (fun w q=>D3 (A:=[_,_]) (J:=[_,_,_,_,_]) tk q)
 have z:¬b.kind=3:=zu y.symm;refine E8 ?_;refine e_ (GB p (X6 ⟨i,e,f,d,k,c,true,b,j⟩) {g with cl:=I0,ua:=none,uc:=0} G7 N9 b.tag [85,78,65,86,65,73,76,65,66,76,69] [116,114,121,32,97,103,97,105,110] qp) qw ?_;rintro v A ⟨rfl,a,n,rfl⟩;refine x6 ?_;refine D8 [3,7] [8,9] [F9 p ⟨i,e,f,d,k,c,false,iK,[]⟩ ⟨g.ra,g.rc,none,0,I0⟩ ⟨[nB b.tag [85,78,65,86,65,73,76,65,66,76,69] [116,114,121,32,97,103,97,105,110]],false,dq,false,[],[],false⟩ ⟨a,n,du,none,0,[(nB b.tag [85,78,65,86,65,73,76,65,66,76,69] [116,114,121,32,97,103,97,105,110],L0)]⟩] 10 ?_;refine wd [0,1,2,3,4,5,6,7,8,9] ?_;refine B4 ?_;refine I4 (A:=[l6 g.ra d.a6x g.rc,x4 a [(nB b.tag [85,78,65,86,65,73,76,65,66,76,69] [116,114,121,32,97,103,97,105,110],L0)] n]) (v:=.tuple #[mq ⟨i,e,f,d,k,c,false,iK,[]⟩ ⟨g.ra,g.rc,none,0,I0⟩,Ly ⟨[nB b.tag [85,78,65,86,65,73,76,65,66,76,69] [116,114,121,32,97,103,97,105,110]],false,dq,false,[],[],false⟩ ⟨a,n,du,none,0,[(nB b.tag [85,78,65,86,65,73,76,65,66,76,69] [116,114,121,32,97,103,97,105,110],L0)]⟩]) o ⟨_,_,⟨g.ra,g.rc,none,0,I0⟩,⟨a,n,du,none,0,[(nB b.tag [85,78,65,86,65,73,76,65,66,76,69] [116,114,121,32,97,103,97,105,110],L0)]⟩,by unfold aH;rw[zb x7,zb z];rfl,rfl,rfl,.one rfl,⟨n9.nil _ _,eu.zero _⟩,⟨rfl,fun m t=>by rw[z7.1 (show m∈[(nB b.tag [85,78,65,86,65,73,76,65,66,76,69] [116,114,121,32,97,103,97,105,110],L0)] from t)];exact cX rfl rfl rfl _,⟨n9.nil _ _,n9.nil _ _⟩,n9.nil _ _⟩⟩ ?_;exact Y0 rfl rfl rfl ud rfl ud rfl _ qh (fun w q=>D3 (A:=[_,_]) (J:=[_,_,_,_,_]) tk q)
abbrev Ae:RR:={R0 with kind:=1,tag:=[42],text:=[112,111,115,116,104,111,114,110]}
def IR:Ct prog 20 [] (fun _=>True) [] (fun v A=>∃a,v=.slice a 1 1/\A=[x4 a [(Ae,L0)] 1]):=by
 refine b_ 3 func20 rfl rfl rfl ?_;intro F _;refine yu ?_;refine f_ (A2 (ps:=[(0,.const (.int .i64 1)),(1,.const (B [42])),(3,.const (B [112,111,115,116,104,111,114,110]))]) (vs:=[(0,.int .i64 1),(1,B [42]),(3,B [112,111,115,116,104,111,114,110])]) (cells:=(tM Ae L0).toArray) rfl i6) ?_;refine D2 wm (Ae,L0) rfl ?_;intro b _;refine D0 ?_;exact d_ rfl rfl _ ⟨b,rfl,rfl⟩ i_
structure AN where
 b:Nat
 c:CM
 k:CL
 m:MM
 o:OC
 y:OL
 bx:BM
 us:zz
 ua:qr
 uc:Nat
 bl:BL
 ba:qr
 bc:Nat
 r:RR
 z:RL
abbrev anC(x:AN):zq:=i8 x.b::(lg x.c x.k++iQ x.m++tX x.o x.y++bR x.bx++[.slice x.ua x.us.length x.uc,.slice x.ba x.bl.length x.bc]++tM x.r x.z)
abbrev C8(g:Nat)(x:AN):As:=.blk g (.cells (anC x).toArray 149)
abbrev uT(p:Bs×Bs):zq:=[B p.1,B p.2]
abbrev uU(l:BL):zq:=l.flatMap uT
def aF:∀x,(uT x).length=2:=fun _=>rfl
structure cZ(x:AN)(h:l_):Prop where
 g:Gl h
 c:eu x.c x.k h
 m:ew x.m h
 o:M8 x.o x.y h
 bx:eZ x.bx h
 us:n9 h x.ua (nV x.us)
 bl:n9 h x.ba (uU x.bl)
instance {x:AN}:Mn (cZ x):=⟨fun l k=>⟨k.g.le l,Mn.le l k.c,Mn.le l k.m,Mn.le l k.o,Mn.le l k.bx,k.us.le l,k.bl.le l⟩⟩
abbrev LM0:LM:=⟨⟨0,[],0,[],0⟩,none,0⟩
def IU(g u:Nat)(x:LM):Pu prog 225 [.agg (R7 x).toArray,i8 g] (aY g (.int .u64 (u:Nat)) 27) (.bool (decide (x.t.uid=u))):=by
 refine b_ 8 func225 rfl rfl rfl ?_;intro F a;refine D1 ?_;refine m8 rfl rfl ?_;intro c;refine P1 ?_;refine f_ ((q_ rfl rfl).eq (dN x.t.uid u)) ?_;refine D0 ?_;exact d_ rfl rfl [] qh (fun w b=>b.dropAll)
def ET(g:Nat)(u:Bs)(x:Bs×Bs):Pu prog 227 [.agg (uT x).toArray,i8 g] (aY g (B u) 9) (.bool (decide (x.1=u))):=by
 refine b_ 8 func227 rfl rfl rfl ?_;intro F a;refine D1 ?_;refine m8 rfl rfl ?_;intro c;refine P1 ?_;refine f_ ((C9 rfl rfl).eq (v':=.bool (decide (x.1=u))) rfl) ?_;refine D0 ?_;exact d_ rfl rfl [] qh (fun w b=>b.dropAll)
def QS(x:AN)(u:Nat)(lm:LM)(ok:Bool):Prop:=(ok=true->lm∈x.bx.ls/\lm.t.uid=u)/\(ok=false->lm=LM0)
def fo(g:Nat)(x:AN)(u:Nat)(hl:x.bx.ls.length<=1000000):Ct prog 154 [i8 g,.int .u64 (u:Nat)] (fun h=>n9 h x.bx.a (qW x.bx.ls)) [C8 g x] (fun v A=>∃o ok,v=.tuple #[OJ o,.bool ok]/\QS x u o ok/\A=[C8 g x]):=by
 refine b_ 25 func154 rfl rfl rfl ?_;intro F c;refine D1 ?_;refine M1 rfl rfl rfl ?_;intro d;refine i7 rfl ?_;intro D;refine u6 ?_;refine C6 (Z:=[.blk d (.cells #[.int .u64 (u:Nat)] 27)]) tk fun t a p=>?_;have hp:aY d (.int .u64 (u:Nat)) 27 t.heap:=L6 p;clear p;have k:=dv (fun x:LM=>decide (x.t.uid=u)) x.bx.ls;obtain⟨i,m⟩:=o9 (D9 (fun x:LM=>decide (x.t.uid=u)) x.bx.ls);refine Y1 ?_;refine c_ rfl (Y6 R7 A8 x.bx.ls x.bx.a x.bx.c 225 [i8 d] (aY d (.int .u64 (u:Nat)) 27) (fun x=>decide (x.t.uid=u)) (fun x _=>IU d u x) qb) (fun h r _=>⟨(c.le a.heap).le r,r _ _ hp⟩) rfl ?_;rw[<-m];refine u6 ?_;rw[<-m] at k;refine bQ ?_ ?_<;>intro h
 ·refine D1 ?_;refine f_ (A2 (ps:=[]) (vs:=[]) (cells:=(R7 LM0).toArray) rfl i6) ?_;refine M4 ?_;exact E0 a (D_ rfl rfl rfl ud rfl _ ⟨LM0,false,rfl,⟨(fun e=>by cases e),fun _=>rfl⟩,rfl⟩ (fun w f=>y9.left tk f))
 have y:0<=i:=by have:=zu h;omega
 obtain⟨j,s⟩:∃j:Nat,i=(j:Nat):=⟨i.toNat,by omega⟩;have b:j<x.bx.ls.length:=by omega
 have z:=(ki (q:=fun x:LM=>decide (x.t.uid=u)) (l:=x.bx.ls) (j:=j) (by rw[<-m,s])).2.1 b;have n:=p8 (c.le a.heap) A8 qp b;rw[s];refine Y1 ?_;refine f_ (n5 rfl n rfl qb) ?_;refine r_ (p9 rfl (fun w f=>bK (C:=R7) ((c.le a.heap).le f.keep) A8 qp b x7) (A8 _)) ?_;refine M4 ?_;exact E0 a (D_ rfl rfl rfl ud rfl _ ⟨x.bx.ls[j],true,rfl,⟨fun _=>⟨zm b,zy z⟩,fun e=>by cases e⟩,rfl⟩ (fun w f=>f.drop))
def qJ(g:Nat)(x:AN)(u:Bs)(hl:x.bl.length<=1000000):Ct prog 155 [i8 g,B u] (fun h=>n9 h x.ba (uU x.bl)) [C8 g x] (fun v A=>∃t ok,v=.tuple #[B t,.bool ok]/\(t=[]\/∃p∈x.bl,t=p.2)/\A=[C8 g x]):=by
 refine b_ 23 func155 rfl rfl rfl ?_;intro F b;refine D1 ?_;refine M1 rfl rfl rfl ?_;intro d;refine A5 ?_;refine C6 (Z:=[.blk d (.cells #[B u] 9)]) tk fun n a k=>?_;have hp:aY d (B u) 9 n.heap:=L6 k;clear k;have e:=dv (fun x:Bs×Bs=>decide (x.1=u)) x.bl;obtain⟨i,l⟩:=o9 (D9 (fun x:Bs×Bs=>decide (x.1=u)) x.bl);refine al ?_;refine c_ rfl (lB uT aF x.bl x.ba x.bc 227 [i8 d] (aY d (B u) 9) (fun x=>decide (x.1=u)) (fun x _=>ET d u x) qb) (fun h m _=>⟨(b.le a.heap).le m,m _ _ hp⟩) rfl ?_;rw[<-l];refine u6 ?_;rw[<-l] at e;refine bQ ?_ ?_<;>intro h
 ·refine M4 ?_;exact E0 a (w8 rfl rfl rfl _ ⟨[],false,rfl,.inl rfl,rfl⟩ i_)
 have o:0<=i:=by have:=zu h;omega
 obtain⟨j,q⟩:∃j:Nat,i=(j:Nat):=⟨i.toNat,by omega⟩;have c:j<x.bl.length:=by omega
 have f:=p8 (b.le a.heap) aF qp c;rw[q];refine al ?_;refine f_ (n5 rfl f rfl qb) ?_;refine u6 ?_;refine r_ (l5 rfl (fun w r=>cT (C:=uT) (j:=1) ((b.le a.heap).le r.keep) aF c rfl x7)) ?_;refine M4 ?_;exact E0 a (w8 rfl rfl rfl _ ⟨x.bl[j].2,true,rfl,.inr ⟨_,zm c,rfl⟩,rfl⟩ i_)
abbrev IV(x:AN)(lm:LM):Bool:=!x.c.a6C||decide (x.c.a6D<lm.t.mod)
def xI(g:Nat)(x:AN)(a:LM):Ct prog 158 [i8 g,OJ a] (fun _=>True) [C8 g x] (fun v A=>v=.bool (IV x a)/\A=[C8 g x]):=by
 obtain⟨d,b⟩:=o9 (x.c.a6C);obtain⟨h,c⟩:=o9 (decide (x.c.a6D<a.t.mod));unfold IV;rw[<-b,<-c];refine b_ 21 func158 rfl rfl rfl ?_;intro F _;refine D1 ?_;refine m8 rfl rfl ?_;intro e;refine u6 ?_
 cases d
 all_goals (
  refine x6 ?_;refine D8 [4,8,13] [] [C8 g x,.blk e (.cells (R7 a).toArray 156)] 17 ?_;refine wd [0,1,2,3] ?_;refine o7 4 rfl R6 ((G0 rfl ud (v:=.bool x.c.a6C) (by rfl)).eb b) G3 rfl rfl rfl i6 ?_;refine wd [5,6,7,8,9,10,11,12,13] ?_;(first|refine s_ 14 ?_|refine t_ 14 ?_|refine G4 14 rfl ((E9 rfl rfl).eq (qn ((qz).trans c.symm))) rfl rfl rfl rfl rfl rfl i6 ?_);refine wd [15,16] ?_)
 all_goals (refine B4 ?_;exact d_ rfl rfl _ qh (fun w f=>f.drop))
def eI(g:Nat)(x:AN)(code text:Bs):Ct prog 164 [i8 g,B code,B text] (fun _=>True) [C8 g x] (fun v A=>v=.tuple #[]/\A=[C8 g {x with r:=nB x.c.tag code text,z:=L0}]):=by
 refine b_ 17 func164 rfl rfl rfl ?_;intro F _;refine wk 8 ?_;refine f_ (A2 (ps:=[(0,.const (.int .i64 2)),(1,.tmp 11),(2,.tmp 12),(3,.tmp 13)]) (vs:=[(0,.int .i64 2),(1,B x.c.tag),(2,B code),(3,B text)]) (cells:=(tM (nB x.c.tag code text) L0).toArray) rfl i6) ?_;refine E8 ?_;exact m6 rfl _ qh fun w a=>a
def IW(g n:Nat)(x:IT):Pu prog 360 [.agg (co x).toArray,i8 g] (aY g (.int .i64 (n:Nat)) 3) (.bool (decide (x.kind=n))):=by
 refine b_ 8 func360 rfl rfl rfl ?_;intro F a;refine D1 ?_;refine m8 rfl rfl ?_;intro c;refine P1 ?_;refine f_ ((q_ rfl rfl).eq (v':=.bool (decide (x.kind=n))) (qn qz)) ?_;refine D0 ?_;exact d_ rfl rfl [] qh (fun w b=>b.dropAll)
def uV(c:CM)(k:CL)(n:Nat)(hl:c.a6B.length<=1000000):Pu prog 305 [vo c k,.int .i64 (n:Nat)] (fun h=>n9 h k.ia (oW c.a6B)) (.bool (c.a6B.any fun x=>decide (x.kind=n))):=by
 refine b_ 9 func305 rfl rfl rfl ?_;intro F d;refine D1 ?_;refine m8 rfl rfl ?_;intro j;refine M1 rfl rfl rfl ?_;intro a;refine u6 ?_;refine C6 (Z:=[.blk a (.cells #[.int .i64 (n:Nat)] 3)]) tk fun g b e=>?_;have hp:aY a (.int .i64 (n:Nat)) 3 g.heap:=L6 e;clear e;refine E8 ?_;refine c_ rfl (X3 co S6 c.a6B k.ia k.ic 360 [i8 a] (aY a (.int .i64 (n:Nat)) 3) (fun x=>decide (x.kind=n)) (fun x _=>IW a n x) qb) (fun h f _=>⟨(d.le b.heap).le f,f _ _ hp⟩) rfl ?_;refine D0 ?_;exact E0 b (d_ rfl rfl [] qh (fun w i=>i.dropAll))
def Af(kind:Nat)(e:Int):Pu prog 165 [.int .i64 (kind:Nat),.int .i64 e] (fun _=>True) (.tuple #[B (mT kind e).1,B (mT kind e).2]):=by
 obtain⟨m,j⟩:=o9 (decide (e=6));obtain⟨k,f⟩:=o9 (decide (e=12));obtain⟨r,n⟩:=o9 (decide (e=7));obtain⟨l,g⟩:=o9 (decide (e=13));obtain⟨s,o⟩:=o9 (decide (e=1));obtain⟨p,i⟩:=o9 (decide (e=21));obtain⟨t,q⟩:=o9 (decide (kind=14));obtain⟨v,b⟩:=o9 (mT kind e);rw[<-b];unfold mT at b;refine b_ 32 func165 rfl rfl rfl ?_;intro F _;refine I6 2 ?_;refine o0 ?_;refine I6 0 ?_;refine x8 [(0,r7 kind),(1,.int .i64 e),(6,.bool (m&&t||p))] [] ?_ ?_
 ·cases m<;>cases t
  all_goals (
   refine u6 ?_;refine f_ ((q_ rfl rfl).eb j) ?_;refine A5 ?_;(first|refine u_ ?_|(refine v_ ?_;refine f_ ((q_ rfl rfl).eq (qn ((qz).trans q.symm))) ?_));refine E8 ?_;(first|refine u_ ?_|(refine v_ ?_;refine f_ ((q_ rfl rfl).eb i) ?_));refine A5 ?_)
  all_goals exact p_ sub i_
 refine O_ ?_ ?_<;>intro h
 ·have d:e=6/\kind=14\/e=21:=by rw[j,q,i] at h;simpa using h
  refine M4 ?_;exact w8 rfl rfl rfl [] ⟨by rw[b,zr d],rfl⟩ i_
 have d:¬(e=6/\kind=14\/e=21):=by rw[j,q,i] at h;simpa using h
 refine u6 ?_;refine f_ ((q_ rfl rfl).eq (v':=.bool m) (qn j.symm)) ?_;refine u6 ?_
 cases m
 case true=>
  have k6:e=6:=zy j.symm;refine M4 ?_;exact w8 rfl rfl rfl [] ⟨by rw[b,zb d,zr k6],rfl⟩ i_
 have k6:¬e=6:=zu j.symm;refine u6 ?_;refine f_ ((q_ rfl rfl).eq (v':=.bool k) (qn f.symm)) ?_;refine u6 ?_
 cases k
 case true=>
  have a:e=12:=zy f.symm;refine M4 ?_;exact w8 rfl rfl rfl [] ⟨by rw[b,zb d,zb k6,zr a],rfl⟩ i_
 have a:¬e=12:=zu f.symm;refine u6 ?_;refine f_ ((q_ rfl rfl).eq (v':=.bool r) (qn n.symm)) ?_;refine u6 ?_
 cases r
 case true=>
  have k7:e=7:=zy n.symm;refine M4 ?_;exact w8 rfl rfl rfl [] ⟨by rw[b,zb d,zb k6,zb a,zr k7],rfl⟩ i_
 have k7:¬e=7:=zu n.symm;refine u6 ?_;refine f_ ((q_ rfl rfl).eq (v':=.bool l) (qn g.symm)) ?_;refine u6 ?_
 cases l
 case true=>
  have c:e=13:=zy g.symm;refine M4 ?_;exact w8 rfl rfl rfl [] ⟨by rw[b,zb d,zb k6,zb a,zb k7,zr c],rfl⟩ i_
 have c:¬e=13:=zu g.symm;refine u6 ?_;refine f_ ((q_ rfl rfl).eq (v':=.bool s) (qn o.symm)) ?_;refine u6 ?_
 cases s
 case true=>
  have k1:e=1:=zy o.symm;refine M4 ?_;exact w8 rfl rfl rfl [] ⟨by rw[b,zb d,zb k6,zb a,zb k7,zb c,zr k1],rfl⟩ i_
 have k1:¬e=1:=zu o.symm;refine M4 ?_;exact w8 rfl rfl rfl [] ⟨by rw[b,zb d,zb k6,zb a,zb k7,zb c,zb k1],rfl⟩ i_
def uW(i:IT)(lm:LM)(v:RV):Prop:=
 if i.kind=6 then v={V0 with kind:=6,a6J:=lm.t.a6J} else if i.kind=7 then v={V0 with kind:=7,n:=lm.t.uid}
 else if i.kind=8 then v={V0 with kind:=8,n:=lm.t.size} else if i.kind=9 then v={V0 with kind:=9,n:=lm.t.mod}
 else∃t:Bs,t.length<=1000000000/\v={V0 with kind:=i.kind,text:=t,part:=i.part,fr:=if i.part then i.fr else 0}
abbrev itA(i:IT):Value:=.agg (co i).toArray
def a2v(g:Nat)(x:AN)(i:IT)(lm:LM)(v:Value)(A:List As):Prop:=∃(w:VM) (Z:List As),v=vmA w/\uW i lm w.v/\A=C8 g x::Z/\∀h bs,A_ h Z bs->n9 h w.a (fV w.v.a6J)
abbrev Cj(g:Nat)(w:VM):As:=.blk g (.cells (vV w).toArray 110)
def xJ(g:Nat)(x:AN)(i:IT)(a:LM)(hf:a.t.a6J.length<=1000000)(hl:x.bl.length<=1000000)(s:∀p∈x.bl,p.2.length<=1000000000):
  Ct prog 308 [i8 g,itA i,OJ a] (fun h=>Gl h/\n9 h a.a (fV a.t.a6J)/\n9 h x.ba (uU x.bl)) [C8 g x] (a2v g x i a):=by
 obtain⟨U,y⟩:=o9 (decide (i.kind=6));obtain⟨V,z⟩:=o9 (decide (i.kind=7));obtain⟨X,D⟩:=o9 (decide (i.kind=8));obtain⟨Y,J⟩:=o9 (decide (i.kind=9));refine b_ 63 func308 rfl rfl rfl ?_;rintro F ⟨hg,M,O⟩;refine D1 ?_;refine m8 rfl rfl ?_;intro g4;refine m8 rfl rfl ?_;intro g5;refine i7 rfl ?_;intro c;refine A5 ?_;refine f_ (A2 (ps:=[(0,.tmp 11)]) (vs:=[(0,r7 i.kind)]) (cells:=(vV ⟨{V0 with kind:=i.kind},none,0⟩).toArray) rfl i6) ?_;refine i7 rfl ?_;intro d;refine u6 ?_;refine I6 2 ?_;refine n8 (ι:=VM×List As) (fun q=>uW i a q.1.v/\∀h f,A_ h q.2 f->n9 h q.1.a (fV q.1.v.a6J)) (fun q=>[(6,i8 c),(7,i8 d)]) (fun q=>Cj d q.1::Cj c Py::C8 g x::q.2) ?_ ?_
 ·refine o0 ?_;refine D1 ?_;refine f_ ((q_ rfl rfl).eq (v':=.bool U) (qn ((qz).trans y.symm))) ?_;refine u6 ?_
  cases U
  case true=>
   have e:i.kind=6:=zy y.symm;refine A5 ?_;refine e_ (ab a.t.a6J a.a a.c hf) (fun h l _=>M.le l) ?_;rintro v A ⟨o,r,rfl,rfl⟩;refine A5 ?_;refine g_ (⟨{V0 with kind:=i.kind,a6J:=a.t.a6J},o,r⟩,[B0 o a.t.a6J r]) ⟨by unfold uW;rw[zr e,e];rfl,fun h f hs=>A_.rd hs .del⟩ (fun w b=>?_);exact(tk (C:=[Cj d ⟨{V0 with kind:=i.kind,a6J:=a.t.a6J},o,r⟩,Cj c Py,C8 g x,B0 o a.t.a6J r])).hp b|>.left (A:=[_,_,_,_])
  have e:¬i.kind=6:=zu y.symm;refine D1 ?_;refine f_ ((q_ rfl rfl).eq (v':=.bool V) (qn ((qz).trans z.symm))) ?_;refine u6 ?_
  cases V
  case true=>
   have j:i.kind=7:=zy z.symm;refine P1 ?_;exact g_ (⟨{V0 with kind:=i.kind,n:=a.t.uid},none,0⟩,[]) ⟨by unfold uW;rw[zb e,zr j,j];rfl,fun h f hs=>n9.nil _ _⟩ (fun w b=>(tk (C:=[Cj d ⟨{V0 with kind:=i.kind,n:=a.t.uid},none,0⟩,Cj c Py,C8 g x])).hp b|>.left (A:=[_,_,_]))
  have j:¬i.kind=7:=zu z.symm;refine D1 ?_;refine f_ ((q_ rfl rfl).eq (v':=.bool X) (qn ((qz).trans D.symm))) ?_;refine u6 ?_
  cases X
  case true=>
   have k:i.kind=8:=zy D.symm;refine P1 ?_;exact g_ (⟨{V0 with kind:=i.kind,n:=a.t.size},none,0⟩,[]) ⟨by unfold uW;rw[zb e,zb j,zr k,k];rfl,fun h f hs=>n9.nil _ _⟩ (fun w b=>(tk (C:=[Cj d ⟨{V0 with kind:=i.kind,n:=a.t.size},none,0⟩,Cj c Py,C8 g x])).hp b|>.left (A:=[_,_,_]))
  have k:¬i.kind=8:=zu D.symm;refine D1 ?_;refine f_ ((q_ rfl rfl).eq (v':=.bool Y) (qn ((qz).trans J.symm))) ?_;refine u6 ?_
  cases Y
  case true=>
   have m:i.kind=9:=zy J.symm;refine P1 ?_;exact g_ (⟨{V0 with kind:=i.kind,n:=a.t.mod},none,0⟩,[]) ⟨by unfold uW;rw[zb e,zb j,zb k,zr m,m];rfl,fun h f hs=>n9.nil _ _⟩ (fun w b=>(tk (C:=[Cj d ⟨{V0 with kind:=i.kind,n:=a.t.mod},none,0⟩,Cj c Py,C8 g x])).hp b|>.left (A:=[_,_,_]))
  have m:¬i.kind=9:=zu J.symm;refine E8 ?_;refine e_ (qJ g x a.t.hash hl) (fun h l _=>O.le l) ?_;rintro v A ⟨t,ok,rfl,Q,rfl⟩;refine al ?_;have S:t.length<=1000000000:=by rcases Q with rfl|⟨p,hp,rfl⟩;(simp);exact s p hp
  refine E8 ?_;refine e_ (C:=[]) (pz t i.kind S) (fun h l _=>hg.le l) ?_;rintro v A ⟨⟨u,rfl,hu⟩,rfl⟩;refine A5 ?_;obtain⟨bp,hp⟩:=o9 (i.part);refine u6 ?_;refine r_ ((G0 rfl ud (v:=.bool i.part) (by rfl)).eb hp) ?_;refine x6 ?_
  cases bp
  ·refine x6 ?_;exact g_ (⟨{V0 with kind:=i.kind,text:=u},none,0⟩,[]) ⟨by unfold uW;rw[zb e,zb j,zb k,zb m];exact⟨u,by omega,by rw[<-hp];rfl⟩,fun h f hs=>n9.nil _ _⟩ (fun w b=>(tk (C:=[Cj d ⟨{V0 with kind:=i.kind,text:=u},none,0⟩,Cj c Py,C8 g x])).hp b|>.left (A:=[_,_,_]))
  ·refine x6 ?_;refine D8 [1,5,7] [3,8,10,12,14] [.blk g4 (.cells (co i).toArray 129)] 15 ?_;refine wd [0,1,2,4,5,6,7] ?_;refine h_ 3 rfl i6 ?_;refine r_ (G0 rfl ud (v:=B u) (by rfl)) ?_;refine fy [9] ?_;refine h_ 8 rfl i6 ?_;refine e_ (C:=[]) (yR u i.fr i.count qb) qw ?_;rintro v A ⟨⟨T,rfl,h0⟩,rfl⟩;refine fy [10,11,12,13,14] ?_;exact g_ (⟨{V0 with kind:=i.kind,text:=T,part:=true,fr:=i.fr},none,0⟩,[]) ⟨by unfold uW;rw[zb e,zb j,zb k,zb m];exact⟨T,by omega,by rw[<-hp];rfl⟩,fun h f hs=>n9.nil _ _⟩ (fun w b=>(tk (C:=[Cj d ⟨{V0 with kind:=i.kind,text:=T,part:=true,fr:=i.fr},none,0⟩,Cj c Py,C8 g x])).hp b|>.left (A:=[_,_,_]))
 rintro⟨q,Z⟩ ⟨hq,hz⟩;simp only at hq hz;refine M4 ?_;exact H7 rfl rfl ud rfl _ ⟨q,Z,rfl,hq,rfl,hz⟩ (fun w b=>b.drop.drop)
end Go.Proofs.YtmcepdopookilaaGreatDoor.Rp
namespace Go.Sl
open Go Go.RowKit Go.Proofs.YtmcepdopookilaaGreatDoor.Rp Go.Proofs.Tryz
def Ag(l:List Bool):zq:=l.map Value.bool
def NJ(l:List Bool):(Ag l).length=l.length:=by simp[Ag]
abbrev aJ(a:qr)(n c:Nat)(l:List Bool):As:=.own (.slice a n c) 4 1 (Ag l)
section
variable{P:zj}{N:Nat}{K R:A1}{E:List (Nat×A1)}{L:G9}{F:l9}{H:List As}{ops:Array Oper}{rest:List Oper}{ty:zk}{pos:String}{af:Array Edge}{dst:Option Nat}{gd:Option (Nat×Bool)}{t:zk}{x y:zw}
def Ud{a:qr}{n c:Nat}{l:List Bool}{i:Int}{H':List As}[ha:HA P t false](hl:l.length=n)(u:N1 H (aJ a n c l) [] H':=by exact ud)(hx:ev L x=some (.pointer (N_ a (i.toNat*1))):=by rfl)(e:0<=i/\i<n:=by omega):dF P ⟨dst,.load t x,ty,pos,af,gd⟩ L F H (.bool (l.getD i.toNat false)):=
 l5 hx fun w d=>jB d u x7 fun j v b=>by
  match j,b with
  |0,b=>
   simp at b;subst b;have h:i.toNat<l.length:=(by omega);rw[Z0,Zk,Ag,Q3,zd h];simp[List.getD,h]
def nU{a:qr}{n c:Nat}{l:List Bool}{i:Int}{v:Bool}{H':List As}[hs:HS P t 1](hl:l.length=n)(h:GL P N ops rest K E R L F H')(u:N1 H (aJ a n c l) [aJ a n c (l.set i.toNat v)] H':=by exact uh)(hx:ev L x=some (.pointer (N_ a (i.toNat*1))):=by rfl)(d:ev L y=some (.bool v):=by rfl)(f:0<=i/\i<n:=by omega):GL P N ops (⟨none,.store t x y,ty,pos,af,none⟩::rest) K E R L F H:=by
 have hp:M3 (Ag l) (i.toNat*1) [.bool v]=Ag (l.set i.toNat v):=by
  have e:i.toNat<l.length:=by omega
  unfold M3 Ag;rw[Z0,K0,Z8,zr (by simpa using e)];simp
 refine U_ (n:=1) (a:=a) (len:=n) (c:=c) (sz:=1) (xs:=Ag l) (te:=4) hx d (H':=H') ?_ rfl qp (fun q b=>by simp[Value.cells] at b;subst b;rfl) (by rw[NJ];omega) h;show N1 H _ [.own (.slice a n c) 4 1 (M3 (Ag l) (i.toNat*1) [.bool v])] H';rw[hp];exact u
end
end Go.Sl
namespace Go.Proofs.YtmcepdopookilaaGreatDoor.Rp
open Go Go.Sl Go.RowKit Go.Proofs.Tryz
def IX(a:qr)(n c:Nat)(l:List Bool)(f:UInt8)(b:Bs)(k:Int)(hl:l.length=n)(O:n=b.length+1)(Q:b.length<=1000000000)(w:0<=k/\k<=b.length):
  Ct prog 302 [.slice a n c,UI f,B b,.int .i64 k] (fun _=>True) [aJ a n c l] (fun v A=>v=.tuple #[]/\∃m:List Bool,m.length=n/\A=[aJ a n c m]):=by
 obtain⟨y,z⟩:=o9 (decide (((f.toNat:Nat):Int)=42));obtain⟨C,D⟩:=o9 (decide (((f.toNat:Nat):Int)=37));refine b_ 52 func302 rfl rfl rfl ?_;intro F _;refine B7 (a:=a) (n:=n) (c:=c) (sz:=1) (xs:=Ag l) (te:=4) ud fun _ _ d=>?_;have d:=d qb;refine I6 0 ?_;refine x8 [(0,.slice a n c),(1,UI f),(2,B b),(3,.int .i64 k),(13,.bool (!y&&!C))] [aJ a n c l] ?_ ?_
 ·cases y
  all_goals (
   refine u6 ?_;refine f_ ((M2 rfl rfl).eq (jh (fun x=>Value.bool (!x)) z.symm)) ?_;refine A5 ?_;(first|refine u_ ?_|(refine v_ ?_;refine f_ ((M2 rfl rfl).eq (jh (fun x=>Value.bool (!x)) D.symm)) ?_));refine u6 ?_)
  all_goals exact p_ sub i_
 refine O_ ?_ ?_<;>intro h
 ·refine I6 0 ?_;refine n8 (ι:=Bool) (fun q=>q=true->k<b.length) (fun q=>[(0,.slice a n c),(3,.int .i64 k),(24,.bool q)]) (fun _=>[aJ a n c l]) ?_ ?_
  ·obtain⟨r,g⟩:=o9 (decide (k<(b.length:Nat)))
   cases r
   all_goals try have o:=zy g.symm
   all_goals (
    refine E8 ?_;refine f_ ((F8 rfl rfl).eb g) ?_;refine wk 7 ?_)
   all_goals first|exact g_ _ (fun _=>zy g.symm) i_|exact g_ false (fun e=>by cases e) i_
  intro q s;refine O_ ?_ ?_<;>intro h
  ·have o:=s h;refine A5 ?_;refine f_ (r8 rfl rfl qb) ?_;refine f_ (n5 rfl d rfl qb) ?_;refine nU hl ?_;refine oK ?_;exact m6 rfl _ ⟨rfl,_,by rw[Qw];exact hl,rfl⟩ i_
  ·refine oK ?_;exact m6 rfl _ ⟨rfl,l,hl,rfl⟩ i_
 refine A5 ?_;refine f_ (n5 rfl d rfl qb) ?_;refine nU hl ?_;refine I6 0 ?_;refine n8 (ι:=List Bool) (fun m=>m.length=n) (fun _=>[]) (fun m=>[aJ a n c m]) ?_ ?_
 ·refine o0 ?_;refine o8 (ι:=Int×List Bool) (fun i=>0<=i.1/\i.1<=b.length/\i.2.length=n) (fun i=>[(0,.slice a n c),(1,UI f),(2,B b),(3,.int .i64 i.1)]) (fun i=>[aJ a n c i.2]) (fun i=>(b.length-i.1).toNat) (k,_) ⟨w.1,w.2,by rw[Qw];exact hl⟩ sub i_ ?_;rintro⟨j,m⟩ ⟨t,u,p⟩;simp only at t u p;refine I6 0 ?_;refine n8 (ι:=Bool) (fun q=>q=true->j<b.length) (fun q=>[(0,.slice a n c),(1,UI f),(2,B b),(3,.int .i64 j),(45,.bool q)]) (fun _=>[aJ a n c m]) ?_ ?_
  ·obtain⟨r,g⟩:=o9 (decide (j<(b.length:Nat)));obtain⟨J,M⟩:=o9 (decide (((f.toNat:Nat):Int)=42))
   cases r<;>cases J
   all_goals try have o:=zy g.symm
   all_goals (
    refine E8 ?_;refine f_ ((F8 rfl rfl).eb g) ?_;refine A5 ?_;(first|refine u_ ?_|(refine v_ ?_;refine f_ ((q_ rfl rfl).eb M) ?_));refine wk 7 ?_)
   all_goals first|exact g_ _ (fun _=>zy g.symm) i_|exact g_ false (fun e=>by cases e) i_
  intro q s;refine O_ ?_ ?_<;>intro h
  ·have o:=s h;refine A5 ?_;refine f_ (r8 rfl rfl qb) ?_;refine f_ (n5 rfl d rfl qb) ?_;refine nU p ?_;refine E8 ?_;exact l8 (i:=(j,m)) (j+1,_) ⟨by simp only;omega,by simp only;omega,by rw[Qw];exact p⟩ qg sub i_
  ·refine x6 ?_;exact g_ m p i_
 intro m p;refine x6 ?_;exact m6 rfl _ ⟨rfl,m,p,rfl⟩ i_
def Ck(n:Nat):Ag (List.replicate n false)=List.replicate n (Value.bool false):=by simp[Ag]
def nW(d b:Bs)(hp:d.length<=2000000000)(Q:b.length<=1000000):Ct prog 233 [B d,B b] (fun _=>True) [] UJ:=by
 obtain⟨n,u⟩:=o9 (b.length+1);refine b_ 48 func233 rfl rfl rfl ?_;intro F _;refine E8 ?_;refine f_ ((r8 rfl rfl qb).eq (v':=.int .i64 ((n:Nat):Int)) (by congr 1;omega)) ?_;refine om rfl rfl rfl qb (by show(1:Int)*_<=_;omega) rfl ?_;intro s;rw[Qy,<-Ck];refine u6 ?_;refine B7 (a:=s) (n:=n) (c:=n) (sz:=1) (xs:=Ag (List.replicate n false)) (te:=4) ud fun _ _ f=>?_;have f:=f qb;refine u6 ?_;refine f_ (n5 rfl f rfl qb) ?_;refine nU (i:=0) (l:=List.replicate n false) Zm ?_;refine x6 ?_;refine I6 3 ?_;refine n8 (ι:=qr×List Bool) (fun q=>q.2.length=n) (fun q=>[(1,B b),(5,.slice q.1 n n)]) (fun q=>[aJ q.1 n n q.2]) ?_ ?_
 ·refine o0 ?_;refine o8 (ι:=Nat×qr×List Bool) (fun i=>i.1<=d.length/\i.2.2.length=n) (fun i=>[(0,B d),(1,B b),(17,r7 d.length),(18,r7 i.1),(5,.slice i.2.1 n n)]) (fun i=>[aJ i.2.1 n n i.2.2]) (fun i=>d.length-i.1) (0,s,_) ⟨zp _,by simp⟩ sub i_ ?_;rintro⟨j,a5,g⟩ ⟨J,o⟩;simp only at J o;refine T2 ?_ ?_<;>intro h
  ·have x:j<d.length:=(by have:=zy h;omega);refine I6 0 ?_;refine n8 (ι:=qr×List Bool) (fun q=>q.2.length=n) (fun q=>[(0,B d),(1,B b),(17,r7 d.length),(18,r7 j),(5,.slice q.1 n n)]) (fun q=>[aJ q.1 n n q.2]) ?_ ?_
   ·refine o0 ?_;refine P1 ?_;refine f_ ((r8 rfl rfl qb).eq (v':=.int .i64 ((n:Nat):Int)) (by congr 1;omega)) ?_;refine om rfl rfl rfl qb (by show(1:Int)*_<=_;omega) rfl ?_;intro e;rw[Qy,<-Ck];refine u6 ?_;refine I6 3 ?_;refine n8 (ι:=List Bool) (fun m=>m.length=n) (fun m=>[(0,B d),(1,B b),(17,r7 d.length),(18,r7 j),(7,.slice e n n)]) (fun m=>[aJ e n n m]) ?_ ?_
    ·refine o0 ?_;refine o8 (ι:=Nat×List Bool) (fun i=>i.1<=n/\i.2.length=n) (fun i=>[(0,B d),(1,B b),(6,r7 j),(17,r7 d.length),(18,r7 j),(7,.slice e n n),(25,.slice a5 n n),(26,r7 n),(27,r7 i.1)]) (fun i=>[aJ e n n i.2,aJ a5 n n g]) (fun i=>n-i.1) (0,_) ⟨zp _,by simp⟩ sub i_ ?_;rintro⟨q,m⟩ ⟨M,r⟩;simp only at M r;refine T2 ?_ ?_<;>intro h
     ·have y:q<n:=(by have:=zy h;omega);refine B7 (a:=a5) (n:=n) (c:=n) (sz:=1) (xs:=Ag g) (te:=4) ud fun _ _ k=>?_;have k:=k qb;refine I6 0 ?_;refine n8 (ι:=List Bool) (fun m=>m.length=n) (fun m=>[(0,B d),(1,B b),(6,r7 j),(17,r7 d.length),(18,r7 j),(7,.slice e n n),(25,.slice a5 n n),(26,r7 n),(27,r7 q)]) (fun m=>[aJ e n n m,aJ a5 n n g]) ?_ ?_
      ·refine o0 ?_;refine u6 ?_;refine f_ (n5 rfl k rfl qb) ?_;refine r_ (Ud (i:=(q:Nat)) o) ?_;refine eV ?_ ?_<;>intro h
       ·refine Y1 ?_;refine e_ (IX e n n m (d.getD j 0) b (q:Nat) r u qb qb) qw ?_;rintro v A ⟨rfl,z,p,rfl⟩;refine x6 ?_;exact g_ z p i_
       ·refine x6 ?_;exact g_ m r i_
      intro z p;refine A5 ?_;exact l8 (i:=(q,m)) (q+1,z) ⟨y,p⟩ qg sub i_
     ·refine x6 ?_;exact g_ m r (fun w C=>y9.left tk C)
    intro m r;refine A5 ?_;exact g_ (e,m) r i_
   rintro⟨O,D⟩ t;simp only at t;refine A5 ?_;exact l8 (i:=(j,a5,g)) (j+1,O,D) ⟨x,t⟩ qg sub i_
  ·refine x6 ?_;exact g_ (a5,g) o i_
 rintro⟨a5,g⟩ o;simp only at o;refine x6 ?_;refine B7 (a:=a5) (n:=n) (c:=n) (sz:=1) (xs:=Ag g) (te:=4) ud fun _ _ k=>?_;have k:=k qb;refine E8 ?_;refine f_ (n5 rfl k rfl qb) ?_;refine r_ (Ud (i:=(b.length:Nat)) o) ?_;refine D0 ?_;exact d_ rfl rfl [] ⟨⟨_,rfl⟩,rfl⟩ (fun w C=>C.drop)
structure rE(x:AN):Prop where
 ls:x.bx.ls.length<=1000
 fl:∀lm∈x.bx.ls,lm.t.a6J.length<=1000
 bl:x.bl.length<=1000
 body:∀p∈x.bl,p.2.length<=1000000
 c:rr x.c
def Ah(m:KM):Pu prog 303 [TF m] (fun _=>True) (.bool (decide (m.k.kind=10))):=by
 refine b_ 6 func303 rfl rfl rfl ?_;intro F _;refine D1 ?_;refine m8 rfl rfl ?_;intro b;refine E8 ?_;refine f_ ((q_ rfl rfl).eq (v':=.bool (decide (m.k.kind=10))) (qn qz)) ?_;refine D0 ?_;exact d_ rfl rfl [] qh (fun w a=>a.dropAll)
abbrev Cl(nums:zz)(m:Nat):RR:={R0 with kind:=13,nums:=nums,mod:=m}
abbrev yf(g:Nat)(r:RR)(z:RL):As:=.blk g (.cells (tM r z).toArray 51)
def QT{x:AN}{a:LM}{ok:Bool}{u:Nat}(hx:rE x)(h:QS x u a ok):a.t.a6J.length<=1000:=by
 cases ok
 ·rw[h.2 rfl];simp
 ·exact hx.fl _ (h.1 rfl).1
def QU{x:AN}{a:LM}{ok:Bool}{u:Nat}{hp:l_}(hx:cZ x hp)(h:QS x u a ok):n9 hp a.a (fV a.t.a6J):=by
 cases ok
 ·rw[h.2 rfl];exact n9.nil _ _
 ·exact hx.bx.fl _ (h.1 rfl).1
def EU(g:Nat)(x:AN)(s:SE)(sl:SL)(d:DD)(y:DL)(hx:rE x)(hv:s.a6y.a6x.length<=100000)(hl:y.rl.length<=100000):
  Cm prog 235 [i8 g] (cZ x) (C8 g x::l6 sl.ra s.a6y.a6x sl.rc::P3 x.b s sl d y) (fun h v A=>v=.tuple #[]/\∃nums m z a c,nums.length<=s.a6y.a6x.length/\fQ (Cl nums m) z h/\zD z/\A=C8 g x::l6 sl.ra s.a6y.a6x sl.rc::P3 x.b s sl d (G1 y (Cl nums m,z) a c)):=by
 have h3:=hx.c;have q7:=hx.ls;have q8:=hx.bl;refine A0 133 func235 rfl rfl rfl ?_;rintro F R Q;obtain⟨kl,h4,h5,h9⟩:=Q.c.keys;have h6:=dw h4;have q6:=h3.keys;have f:=cE aX S7 kl x.k.ka x.k.kc 303 [] (fun _=>True) (fun m=>decide (m.k.kind=10)) (fun m _=>Ah m) qb;rw[h6] at f;have k0:∀m∈kl,Fr m.k:=fun m hm=>h3.ksets _ (by rw[<-h4];exact Q5 hm);have r:=fun(u:LM) (p:PL) (t:Bs) (h1:u.t.a6J.length<=1000000) (h2:t.length<=1000000000)=>Ip x.k.ka x.k.kc kl u p t qb k0 h1 h2;simp only[h6] at r;obtain⟨bm,k8⟩:=o9 (kl.any fun m=>decide (m.k.kind=10));rw[<-k8] at f;refine D1 ?_;refine f_ (A2 (ps:=[(0,.const (.int .i64 13))]) (vs:=[(0,.int .i64 13)]) (cells:=(tM (Cl [] 0) L0).toArray) rfl i6) ?_;refine i7 rfl ?_;intro D;refine Y1 ?_;refine c_ rfl f (fun h V _=>⟨h5.le V,trivial⟩) rfl ?_;refine wk 11 ?_;refine f_ ((A3 rfl qb).eq (v':=.int .u64 (s.a6y.a6x.length:Nat)) rfl) ?_;refine f_ (A2 (ps:=[(1,.tmp 30)]) (vs:=[(1,.int .u64 (s.a6y.a6x.length:Nat))]) (cells:=(Il ⟨0,s.a6y.a6x.length,0⟩).toArray) rfl i6) ?_;refine i7 rfl ?_;intro O;refine u6 ?_;refine I6 11 ?_;refine B7 (a:=sl.ra) (n:=s.a6y.a6x.length) (c:=sl.rc) (sz:=2) (xs:=S_ s.a6y.a6x) (te:=72) ud fun _ _ S=>?_;refine n8 (ι:=Nat) (fun _=>True) (fun k=>[(0,i8 g),(2,i8 D),(3,.bool bm),(4,i8 O)]) (fun k=>.blk O (.cells (Il ⟨0,s.a6y.a6x.length,k⟩).toArray 333)::yf D (Cl [] 0) L0::C8 g x::l6 sl.ra s.a6y.a6x sl.rc::F9 x.b s sl d y::x4 y.da y.rl y.dc::R) ?_ ?_
 ·refine o0 ?_;refine o8 (ι:=Nat×Nat) (fun i=>i.1<=s.a6y.a6x.length) (fun i=>[(0,i8 g),(2,i8 D),(3,.bool bm),(4,i8 O),(40,.slice sl.ra s.a6y.a6x.length sl.rc),(41,r7 s.a6y.a6x.length),(42,r7 i.1)]) (fun i=>.blk O (.cells (Il ⟨0,s.a6y.a6x.length,i.2⟩).toArray 333)::yf D (Cl [] 0) L0::C8 g x::l6 sl.ra s.a6y.a6x sl.rc::F9 x.b s sl d y::x4 y.da y.rl y.dc::R) (fun i=>s.a6y.a6x.length-i.1) (0,0) (zp _) sub i_ ?_;rintro⟨j,k⟩ hj;simp only at hj;refine T2 ?_ ?_<;>intro h
  ·have T:j<s.a6y.a6x.length:=(by have:=zy h;omega);have X:=S qb;refine D1 ?_;refine f_ (n5 rfl X rfl qb) ?_;refine r_ (p9 rfl (fun w b=>bK (C:=dL) (b.ownN (t:=72) ud).2.2.1 B6 qp T x7) (B6 _)) ?_;refine i7 rfl ?_;intro g6;refine al ?_;refine f_ ((ol rfl rfl).eq (v':=.int .u64 ((max k s.a6y.a6x[j].1:Nat):Int)) (by show Value.int .u64 (max ((k:Nat):Int) ((s.a6y.a6x[j].1:Nat):Int))=_;congr 1;omega)) ?_;refine P1 ?_;exact l8 (i:=(j,k)) (j+1,max k s.a6y.a6x[j].1) T qg sub (fun w b=>b.drop)
  ·refine x6 ?_;exact g_ k trivial i_
 intro k _;refine I6 11 ?_;refine lK (fun(nums:zz) (m:Nat) (o:AC) (M:Nat)=>nums.length<=s.a6y.a6x.length) (fun _ _ _ _=>[(0,i8 g),(2,i8 D)]) (fun nums m o M=>yf D (Cl nums m) ⟨o.1,o.2,none,0,none,0,[]⟩::V4 o.1 nums o.2::C8 g x::l6 sl.ra s.a6y.a6x sl.rc::F9 x.b s sl d y::x4 y.da y.rl y.dc::R) ?_ ?_
 ·refine o0 ?_;refine gP (fun(j:Nat) (nums:zz) (m:Nat) (o:AC) (M:Nat) (_:Unit)=>j<=s.a6y.a6x.length/\nums.length<=j) (fun j nums m o M _=>[(0,i8 g),(2,i8 D),(3,.bool bm),(4,i8 O),(61,.slice sl.ra s.a6y.a6x.length sl.rc),(62,r7 s.a6y.a6x.length),(63,r7 j)]) (fun j nums m o M (_:Unit)=>yf D (Cl nums m) ⟨o.1,o.2,none,0,none,0,[]⟩::V4 o.1 nums o.2::.blk O (.cells (Il ⟨M,s.a6y.a6x.length,k⟩).toArray 333)::C8 g x::l6 sl.ra s.a6y.a6x sl.rc::F9 x.b s sl d y::x4 y.da y.rl y.dc::R) (fun j nums m o M _=>s.a6y.a6x.length-j) 0 [] 0 (none,0) 0 () ⟨zp _,kp _⟩ sub (fun w b=>(b.addNil 27 1).perm (List.Perm.trans (.cons _ (.swap _ _ _)) (.swap _ _ _))) ?_;rintro j nums m o M _ ⟨hj,h7⟩;refine T2 ?_ ?_<;>intro h
  ·have T:j<s.a6y.a6x.length:=(by have:=zy h;omega);have X:=S qb;refine I6 0 ?_;refine lK (fun(nums:zz) (m:Nat) (o:AC) (M:Nat)=>nums.length<=j+1) (fun _ _ _ _=>[(0,i8 g),(2,i8 D),(3,.bool bm),(4,i8 O),(61,.slice sl.ra s.a6y.a6x.length sl.rc),(62,r7 s.a6y.a6x.length),(63,r7 j)]) (fun nums m o M=>yf D (Cl nums m) ⟨o.1,o.2,none,0,none,0,[]⟩::V4 o.1 nums o.2::.blk O (.cells (Il ⟨M,s.a6y.a6x.length,k⟩).toArray 333)::C8 g x::l6 sl.ra s.a6y.a6x sl.rc::F9 x.b s sl d y::x4 y.da y.rl y.dc::R) ?_ ?_
   ·refine o0 ?_;refine u6 ?_;refine f_ (n5 rfl X rfl qb) ?_;refine r_ (p9 rfl (fun w b=>bK (C:=dL) (b.ownN (t:=72) ud).2.2.1 B6 qp T x7) (B6 _)) ?_;refine i7 rfl ?_;intro g8;refine E8 ?_;refine f_ ((r8 rfl rfl qb).eq (v':=.int .i64 ((j+1:Nat):Int)) (by congr 1)) ?_;refine f_ ((A3 rfl qb).eq (v':=.int .u64 ((j+1:Nat):Int)) rfl) ?_;refine al ?_;refine e_ (fo g x s.a6y.a6x[j].1 qb) (fun h V _=>Q.bx.ls.le V) ?_;rintro v A ⟨u,ok,rfl,h8,rfl⟩;refine E8 ?_;refine i7 rfl ?_;intro g9;refine A5 ?_;have q9:=QT hx h8;have k9:=QU Q h8;refine E8 ?_;refine e_ (qJ g x u.t.hash qb) (fun h V _=>Q.bl.le V) ?_;rintro v A ⟨t,x0,rfl,q0,rfl⟩;refine al ?_;have q1:t.length<=1000000000:=by rcases q0 with rfl|⟨p,hp,rfl⟩;(simp);have:=hx.body p hp;omega
    cases ok
    ·refine x6 ?_;refine D8 [7,8,9] [] [C8 g x,.blk g9 (.cells (R7 u).toArray 156),.blk O (.cells (Il ⟨j+1,s.a6y.a6x.length,k⟩).toArray 333)] 14 ?_;refine wd [0,1,2,3,4,5,6,7,8,9,10] ?_;refine h_ 11 rfl i6 ?_;(first|refine u_ ?_|(refine v_ ?_;fail));refine D7 [12,13] ?_;exact g_ (nums,m,o,j+1) qg (fun w b=>D3 (A:=[_,_,_,C8 g x,l6 sl.ra s.a6y.a6x sl.rc,F9 x.b s sl d y,x4 y.da y.rl y.dc]) (J:=[_,_]) tk b)
    refine x6 ?_;refine D8 [7,8,9] [] [C8 g x,.blk g9 (.cells (R7 u).toArray 156),.blk O (.cells (Il ⟨j+1,s.a6y.a6x.length,k⟩).toArray 333)] 14 ?_;refine wd [0,1,2,3,4,5,6,7,8,9,10] ?_;refine h_ 11 rfl i6 ?_;(first|refine u_ ?_|(refine v_ ?_;refine e_ (C:=[]) (r u ⟨j+1,s.a6y.a6x.length,k⟩ t qb q1) (fun h V _=>⟨Q.g.le V,h5.le V,fun m hm=>(h9 m hm).le V,k9.le V⟩) ?_;rintro v A ⟨⟨q,rfl⟩,rfl⟩));refine D7 [12,13] ?_;refine p7 rfl ?_ ?_<;>intro h
    ·refine x6 ?_;exact g_ (nums,m,o,j+1) qg (fun w b=>D3 (A:=[_,_,_,C8 g x,l6 sl.ra s.a6y.a6x sl.rc,F9 x.b s sl d y,x4 y.da y.rl y.dc]) (J:=[_,_]) tk b)
    refine al ?_;refine n8 (ι:=zz×AC) (fun q=>q.1.length<=j+1) (fun q=>[(0,i8 g),(2,i8 D),(3,.bool bm),(4,i8 O),(9,i8 g9),(61,.slice sl.ra s.a6y.a6x.length sl.rc),(62,r7 s.a6y.a6x.length),(63,r7 j)]) (fun q=>yf D (Cl q.1 m) ⟨q.2.1,q.2.2,none,0,none,0,[]⟩::V4 q.2.1 q.1 q.2.2::.blk g9 (.cells (R7 u).toArray 156)::.blk O (.cells (Il ⟨j+1,s.a6y.a6x.length,k⟩).toArray 333)::C8 g x::l6 sl.ra s.a6y.a6x sl.rc::F9 x.b s sl d y::x4 y.da y.rl y.dc::R) ?_ ?_
    ·refine p7 rfl ?_ ?_<;>intro h
     ·refine P1 ?_;refine gN (n:=u.t.uid) ?_;intro q2;refine kG (l:=nums) (m:=[u.t.uid]) (by show(nums.length+1)*8<=_;omega) ?_;intro Y h0;refine A5 ?_;exact g_ (nums++[u.t.uid],Y,h0) (by rw[zg];simp only[z1,kx];omega) (fun w b=>D3 (A:=[_,_,_,_,C8 g x,l6 sl.ra s.a6y.a6x sl.rc,F9 x.b s sl d y,x4 y.da y.rl y.dc]) (J:=[_,_]) tk b)
     ·refine P1 ?_;refine gN (n:=j+1) ?_;intro q2;refine kG (l:=nums) (m:=[j+1]) (by show(nums.length+1)*8<=_;omega) ?_;intro Y h0;refine A5 ?_;exact g_ (nums++[j+1],Y,h0) (by rw[zg];simp only[z1,kx];omega) (fun w b=>D3 (A:=[_,_,_,_,C8 g x,l6 sl.ra s.a6y.a6x sl.rc,F9 x.b s sl d y,x4 y.da y.rl y.dc]) (J:=[_,_]) tk b)
    rintro⟨e,o2⟩ U;simp only at U;refine T2 ?_ ?_<;>intro h
    ·refine P1 ?_;refine f_ ((ol rfl rfl).eq (v':=.int .u64 ((max m u.t.mod:Nat):Int)) (by show Value.int .u64 (max ((m:Nat):Int) ((u.t.mod:Nat):Int))=_;congr 1;omega)) ?_;refine A5 ?_;exact g_ (e,max m u.t.mod,o2,j+1) U (fun w b=>D3 (A:=[_,_,_,C8 g x,l6 sl.ra s.a6y.a6x sl.rc,F9 x.b s sl d y,x4 y.da y.rl y.dc]) (J:=[_]) tk b)
    ·refine x6 ?_;exact g_ (e,m,o2,j+1) U (fun w b=>D3 (A:=[_,_,_,C8 g x,l6 sl.ra s.a6y.a6x sl.rc,F9 x.b s sl d y,x4 y.da y.rl y.dc]) (J:=[_]) tk b)
   intro e m2 o2 q3 U;refine A5 ?_;exact l8 (i:=(j,nums,m,o,M,())) (j+1,e,m2,o2,q3,()) ⟨T,U⟩ qg sub i_
  ·refine x6 ?_;exact g_ (nums,m,o,M) qg (fun w b=>D3 (A:=[_,_]) (J:=[_]) tk b)
 intro nums m o M h7;refine x6 ?_;refine C6 (Z:=[V4 o.1 nums o.2]) tk fun F1 q4 ⟨bs,hb⟩=>?_;have q5:n9 F1.heap o.1 (nV nums):=A_.rd hb ud;clear hb;refine x6 ?_;refine D8 [3,4] [5] [C8 g x,yf D (Cl nums m) ⟨o.1,o.2,none,0,none,0,[]⟩] 6 ?_;refine wd [0,1,2,3,4] ?_;refine h_ 5 rfl i6 ?_;refine e_ (X2 x.b s sl d y (Cl nums m) ⟨o.1,o.2,none,0,none,0,[]⟩ qb) qw ?_;rintro v A ⟨rfl,a,c,rfl⟩;refine D7 [] ?_;refine I4 (A:=C8 g x::l6 sl.ra s.a6y.a6x sl.rc::P3 x.b s sl d (G1 y (Cl nums m,⟨o.1,o.2,none,0,none,0,[]⟩) a c)) (v:=.tuple #[]) q4 ⟨rfl,nums,m,_,a,c,h7,⟨rfl,q5,n9.nil _ _,n9.nil _ _,qy⟩,qh,rfl⟩ ?_;exact m6 rfl _ qh (fun w b=>D3 (A:=[_,_,_,_]) (J:=[_]) tk b)
