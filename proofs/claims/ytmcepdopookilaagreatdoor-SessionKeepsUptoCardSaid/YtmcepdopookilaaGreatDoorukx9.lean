import Derived.Test.YtmcepdopookilaaGreatDoorukx8
import Derived.Lib.AppendZeros
set_option linter.unusedVariables false
set_option linter.unusedSimpArgs false
set_option linter.defProp false
namespace Go.Proofs.YtmcepdopookilaaGreatDoor.Rp
open Go Go.Sl Go.RowKit Go.Proofs.Tryz
abbrev dL(r:Nat×Nat):zq:=[.int .u64 (r.1:Nat),.int .u64 (r.2:Nat)]
abbrev S_(l:List (Nat×Nat)):zq:=l.flatMap dL
def B6:∀x,(dL x).length=2:=fun _=>rfl
def jS:∀x,∀q∈dL x,q.oneCell'=true:=fun x q a=>by simp at a;rcases a with rfl|rfl<;>rfl
def cd(l:List (Nat×Nat)):(S_ l).length=l.length*2:=N5 (C:=dL) B6 l
def eY(l:List (Nat×Nat)):∀q∈S_ l,q.oneCell'=true:=dh (C:=dL) jS l
def oV(a b:List (Nat×Nat)):S_ (a++b)=S_ a++S_ b:=Kg
abbrev X1(a:qr)(l:List (Nat×Nat))(c:Nat):As:=.own (.slice a l.length c) 178 2 (S_ l)
abbrev l6(a:qr)(l:List (Nat×Nat))(c:Nat):As:=.own (.slice a l.length c) 72 2 (S_ l)
abbrev V4(a:qr)(l:zz)(c:Nat):As:=.own (.slice a l.length c) 27 1 (nV l)
abbrev co(i:IT):zq:=[.int .i64 (i.kind:Nat),.bool i.peek,.bool i.part,.int .u64 (i.fr:Nat),.int .u64 (i.count:Nat)]
abbrev oW(l:List IT):zq:=l.flatMap co
def S6:∀x,(co x).length=5:=fun _=>rfl
def gJ:∀x,∀q∈co x,q.oneCell'=true:=fun x q a=>by simp at a;rcases a with rfl|rfl|rfl|rfl|rfl<;>rfl
def tU(l:List IT):(oW l).length=l.length*5:=N5 (C:=co) S6 l
def nC(l:List IT):∀q∈oW l,q.oneCell'=true:=dh (C:=co) gJ l
abbrev ce(a:qr)(l:List IT)(c:Nat):As:=.own (.slice a l.length c) 129 5 (oW l)
structure KM where
 k:KY
 a:qr
 c:Nat
abbrev aX(x:KM):zq:=[.int .i64 (x.k.kind:Nat),.int .i64 (x.k.kids:Nat),B x.k.field,B x.k.text,.int .u64 (x.k.n:Nat),.slice x.a x.k.set.length x.c]
abbrev qV(l:List KM):zq:=l.flatMap aX
def S7:∀x,(aX x).length=6:=fun _=>rfl
def AU:∀x,∀q∈aX x,q.oneCell'=true:=fun x q a=>by simp at a;rcases a with rfl|rfl|rfl|rfl|rfl|rfl<;>rfl
def tV(l:List KM):(qV l).length=l.length*6:=N5 (C:=aX) S7 l
def Lx(l:List KM):∀q∈qV l,q.oneCell'=true:=dh (C:=aX) AU l
abbrev a2f(a:qr)(l:List KM)(c:Nat):As:=.own (.slice a l.length c) 127 6 (qV l)
structure CL where
 sa:qr
 sc:Nat
 ia:qr
 ic:Nat
 ka:qr
 kc:Nat
 fa:qr
 fc:Nat
abbrev I0:CL:=⟨none,0,none,0,none,0,none,0⟩
abbrev lg(c:CM)(x:CL):zq:=[B c.tag,.int .i64 (c.kind:Nat),.bool c.uid,.bool c.cond,B c.box,B c.user,B c.pass,B c.a6F,.slice x.sa c.set.length x.sc,.slice x.ia c.a6B.length x.ic,.slice x.ka c.keys.length x.kc,.int .i64 (c.how:Nat),.bool c.a6H,.bool c.a6C,.int .u64 (c.a6D:Nat),.slice x.fa c.a6J.length x.fc,B c.data]
abbrev vo(c:CM)(x:CL):Value:=.agg (lg c x).toArray
structure eu(c:CM)(x:CL)(h:l_):Prop where
 set:n9 h x.sa (S_ c.set)
 a6B:n9 h x.ia (oW c.a6B)
 keys:∃kl:List KM,kl.map KM.k=c.keys/\n9 h x.ka (qV kl)/\∀m∈kl,n9 h m.a (S_ m.k.set)
 a6J:n9 h x.fa (fV c.a6J)
instance {c:CM} {x:CL}:Mn (eu c x):=⟨fun l k=>⟨k.set.le l,k.a6B.le l,by obtain⟨kl,h1,h2,h3⟩:=k.keys;exact⟨kl,h1,h2.le l,fun m hm=>(h3 m hm).le l⟩,k.a6J.le l⟩⟩
def eu.zero(h:l_):eu iK I0 h:=⟨n9.nil _ _,n9.nil _ _,⟨[],rfl,n9.nil _ _,qy⟩,n9.nil _ _⟩
abbrev Fr(k:KY):Prop:=k.set.length<=64/\k.text.length<=2000000000/\k.field.length<=2000000000/\k.kids<=2000000000
structure rr(c:CM):Prop where
 set:c.set.length<=64
 a6B:c.a6B.length<=8
 keys:c.keys.length<=32
 ksets:∀k∈c.keys,Fr k
 a6J:c.a6J.length<=16
 data:c.data.length<=4096
 pat:c.a6F.length<=2000000000
structure SL where
 ra:qr
 rc:Nat
 ua:qr
 uc:Nat
 cl:CL
abbrev rt:SL:=⟨none,0,none,0,I0⟩
abbrev wl(v:VW)(a:qr)(c:Nat):zq:=[B v.box,.int .u64 (v.val:Nat),.slice a v.a6x.length c]
abbrev mn(s:SE)(x:SL):zq:=[.int .i64 (s.a6z:Nat),.int .u64 (s.ses:Nat),.int .u64 (s.num:Nat),B s.a6y.box,.int .u64 (s.a6y.val:Nat),.slice x.ra s.a6y.a6x.length x.rc,.bool s.ro,.bool s.cond,.bool s.a6E,
 B s.cmd.tag,.int .i64 (s.cmd.kind:Nat),.bool s.cmd.uid,.bool s.cmd.cond,B s.cmd.box,B s.cmd.user,B s.cmd.pass,B s.cmd.a6F,.slice x.cl.sa s.cmd.set.length x.cl.sc,.slice x.cl.ia s.cmd.a6B.length x.cl.ic,.slice x.cl.ka s.cmd.keys.length x.cl.kc,.int .i64 (s.cmd.how:Nat),.bool s.cmd.a6H,.bool s.cmd.a6C,.int .u64 (s.cmd.a6D:Nat),.slice x.cl.fa s.cmd.a6J.length x.cl.fc,B s.cmd.data,
 .slice x.ua s.a6A.length x.uc]
abbrev mq(s:SE)(x:SL):Value:=.agg (mn s x).toArray
structure P4(s:SE)(x:SL)(h:l_):Prop where
 a6A:n9 h x.ua (nV s.a6A)
 cmd:eu s.cmd x.cl h
instance {s:SE} {x:SL}:Mn (P4 s x):=⟨fun l k=>⟨k.a6A.le l,Mn.le l k.cmd⟩⟩
structure PK(s:SE):Prop where
 a6x:s.a6y.a6x.length<=1000000
 a6A:s.a6A.length<=1000000
 cmd:rr s.cmd
structure QL where
 ua:qr
 uc:Nat
 fa:qr
 fc:Nat
abbrev du:QL:=⟨none,0,none,0⟩
abbrev eN(r:RQ)(x:QL):zq:=[.int .i64 r.op,.int .u64 (r.ses:Nat),.int .u64 (r.num:Nat),.int .i64 r.node,.int .u64 (r.life:Nat),.int .u64 (r.tr:Nat),B r.box,B r.tz,.int .u64 (r.val:Nat),.slice x.ua r.a6A.length x.uc,.slice x.fa r.a6J.length x.fc,.int .i64 r.how,.bool r.hasS,.int .u64 (r.a6D:Nat),B r.hash,.int .u64 (r.size:Nat),.int .u64 (r.a6G:Nat)]
abbrev RH(r:RQ)(x:QL):Value:=.agg (eN r x).toArray
structure dM(r:RQ)(x:QL)(h:l_):Prop where
 a6A:n9 h x.ua (S_ r.a6A)
 a6J:n9 h x.fa (fV r.a6J)
instance {r:RQ} {x:QL}:Mn (dM r x):=⟨fun l k=>⟨k.a6A.le l,k.a6J.le l⟩⟩
abbrev RM:=RR×RL
abbrev wm(m:RM):zq:=tM m.1 m.2
def aB:∀x,(wm x).length=10:=fun _=>rfl
def jT:∀x,∀q∈wm x,q.oneCell'=true:=fun x q a=>by simp at a;rcases a with rfl|rfl|rfl|rfl|rfl|rfl|rfl|rfl|rfl|rfl<;>rfl
abbrev RI(l:List RM):zq:=l.flatMap wm
abbrev x4(a:qr)(l:List RM)(c:Nat):As:=.own (.slice a l.length c) 51 10 (RI l)
structure DL where
 da:qr
 dc:Nat
 ql:QL
 wa:qr
 wc:Nat
 rl:List RM
abbrev N9:DL:=⟨none,0,du,none,0,[]⟩
abbrev tW(d:DD)(y:DL):zq:=[.slice y.da y.rl.length y.dc,.bool d.ask,
 .int .i64 d.req.op,.int .u64 (d.req.ses:Nat),.int .u64 (d.req.num:Nat),.int .i64 d.req.node,.int .u64 (d.req.life:Nat),.int .u64 (d.req.tr:Nat),B d.req.box,B d.req.tz,.int .u64 (d.req.val:Nat),.slice y.ql.ua d.req.a6A.length y.ql.uc,.slice y.ql.fa d.req.a6J.length y.ql.fc,.int .i64 d.req.how,.bool d.req.hasS,.int .u64 (d.req.a6D:Nat),B d.req.hash,.int .u64 (d.req.size:Nat),.int .u64 (d.req.a6G:Nat),
 .bool d.store,B d.body,.slice y.wa d.want.length y.wc,.bool d.close]
abbrev Ly(d:DD)(y:DL):Value:=.agg (tW d y).toArray
structure Dv(d:DD)(y:DL)(h:l_):Prop where
 a6I:d.a6I=y.rl.map Prod.fst
 rep:∀m∈y.rl,fQ m.1 m.2 h
 req:dM d.req y.ql h
 want:n9 h y.wa (fV d.want)
instance {r:RR} {x:RL}:Mn (fQ r x):=⟨fun l k=>k.le l⟩
instance {d:DD} {y:DL}:Mn (Dv d y):=⟨fun l k=>⟨k.a6I,fun m hm=>(k.rep m hm).le l,Mn.le l k.req,k.want.le l⟩⟩
def Dv.zero(h:l_):Dv G7 N9 h:=⟨rfl,qy,⟨n9.nil _ _,n9.nil _ _⟩,n9.nil _ _⟩
abbrev F9(b:Nat)(s:SE)(x:SL)(d:DD)(y:DL):As:=.blk b (.cells (mn s x++tW d y).toArray 141)
structure iO(s:SE)(x:SL)(d:DD)(y:DL)(h:l_):Prop where
 se:P4 s x h
 dd:Dv d y h
instance {s:SE} {x:SL} {d:DD} {y:DL}:Mn (iO s x d y):=⟨fun l k=>⟨Mn.le l k.se,Mn.le l k.dd⟩⟩
structure LM where
 t:LT
 a:qr
 c:Nat
abbrev R7(x:LM):zq:=[.int .u64 (x.t.uid:Nat),.slice x.a x.t.a6J.length x.c,.int .u64 (x.t.mod:Nat),B x.t.hash,.int .u64 (x.t.size:Nat)]
abbrev qW(l:List LM):zq:=l.flatMap R7
def A8:∀x,(R7 x).length=5:=fun _=>rfl
def nD:∀x,∀q∈R7 x,q.oneCell'=true:=fun x q a=>by simp at a;rcases a with rfl|rfl|rfl|rfl|rfl<;>rfl
def AV(l:List LM):(qW l).length=l.length*5:=N5 (C:=R7) A8 l
def AW(l:List LM):∀q∈qW l,q.oneCell'=true:=dh (C:=R7) nD l
abbrev O7(a:qr)(l:List LM)(c:Nat):As:=.own (.slice a l.length c) 156 5 (qW l)
def iP(l:List LM)(h:l_):Prop:=∀m∈l,n9 h m.a (fV m.t.a6J)
instance {l:List LM}:Mn (iP l):=⟨fun le k m hm=>(k m hm).le le⟩
structure BM where
 name:Bs
 val:Nat
 next:Nat
 high:Nat
 ls:List LM
 a:qr
 c:Nat
abbrev Gz:BM:=⟨[],0,0,0,[],none,0⟩
abbrev BM.x(b:BM):BX:=⟨b.name,b.val,b.next,b.high,b.ls.map LM.t⟩
abbrev bR(b:BM):zq:=[B b.name,.int .u64 (b.val:Nat),.int .u64 (b.next:Nat),.int .u64 (b.high:Nat),.slice b.a b.ls.length b.c]
abbrev KL(b:BM):Value:=.agg (bR b).toArray
abbrev fv(l:List BM):zq:=l.flatMap bR
def o_:∀x,(bR x).length=5:=fun _=>rfl
def AY:∀x,∀q∈bR x,q.oneCell'=true:=fun x q a=>by simp at a;rcases a with rfl|rfl|rfl|rfl|rfl<;>rfl
def nE(l:List BM):(fv l).length=l.length*5:=N5 (C:=bR) o_ l
def AZ(l:List BM):∀q∈fv l,q.oneCell'=true:=dh (C:=bR) AY l
abbrev U0(a:qr)(l:List BM)(c:Nat):As:=.own (.slice a l.length c) 100 5 (fv l)
structure eZ(b:BM)(h:l_):Prop where
 ls:n9 h b.a (qW b.ls)
 fl:iP b.ls h
instance {b:BM}:Mn (eZ b):=⟨fun l k=>⟨k.ls.le l,Mn.le l k.fl⟩⟩
def eZ.zero(h:l_):eZ Gz h:=⟨n9.nil _ _,fun _ h=>by cases h⟩
abbrev ji(s:SX):zq:=[.int .u64 (s.ses:Nat),.int .u64 (s.last:Nat),.int .i64 s.node,.int .u64 (s.life:Nat),.int .u64 (s.tr:Nat)]
abbrev KN(l:List SX):zq:=l.flatMap ji
def P6:∀x,(ji x).length=5:=fun _=>rfl
def Ba:∀x,∀q∈ji x,q.oneCell'=true:=fun x q a=>by simp at a;rcases a with rfl|rfl|rfl|rfl|rfl<;>rfl
def Bb(l:List SX):(KN l).length=l.length*5:=N5 (C:=ji) P6 l
def Bc(l:List SX):∀q∈KN l,q.oneCell'=true:=dh (C:=ji) Ba l
abbrev U1(a:qr)(l:List SX)(c:Nat):As:=.own (.slice a l.length c) 102 5 (KN l)
abbrev eO(s:HO):zq:=[.int .i64 s.node,.int .u64 (s.life:Nat),.int .u64 (s.tr:Nat)]
abbrev KO(l:List HO):zq:=l.flatMap eO
def L_:∀x,(eO x).length=3:=fun _=>rfl
def Bd:∀x,∀q∈eO x,q.oneCell'=true:=fun x q a=>by simp at a;rcases a with rfl|rfl|rfl<;>rfl
def Lz(l:List HO):(KO l).length=l.length*3:=N5 (C:=eO) L_ l
def LA(l:List HO):∀q∈KO l,q.oneCell'=true:=dh (C:=eO) Bd l
abbrev R5(a:qr)(l:List HO)(c:Nat):As:=.own (.slice a l.length c) 104 3 (KO l)
structure MM where
 a6u:List BM
 nval:Nat
 a6v:List HO
 a6w:List SX
 nses:Nat
 a6G:Nat
 ba:qr
 bc:Nat
 ha:qr
 hc:Nat
 sa:qr
 sc:Nat
abbrev MM.s(m:MM):ML:=⟨m.a6u.map BM.x,m.nval,m.a6v,m.a6w,m.nses,m.a6G⟩
abbrev iQ(m:MM):zq:=[.slice m.ba m.a6u.length m.bc,.int .u64 (m.nval:Nat),.slice m.ha m.a6v.length m.hc,.slice m.sa m.a6w.length m.sc,.int .u64 (m.nses:Nat),.int .u64 (m.a6G:Nat)]
abbrev rW(m:MM):Value:=.agg (iQ m).toArray
structure ew(m:MM)(h:l_):Prop where
 a6u:n9 h m.ba (fv m.a6u)
 a6v:n9 h m.ha (KO m.a6v)
 a6w:n9 h m.sa (KN m.a6w)
 box:∀b∈m.a6u,eZ b h
instance {m:MM}:Mn (ew m):=⟨fun l k=>⟨k.a6u.le l,k.a6v.le l,k.a6w.le l,fun b hb=>Mn.le l (k.box b hb)⟩⟩
structure OL where
 ua:qr
 uc:Nat
 ma:qr
 mc:Nat
abbrev N8:OL:=⟨none,0,none,0⟩
abbrev tX(o:OC)(y:OL):zq:=[.int .i64 o.code,.int .u64 (o.ses:Nat),.int .u64 (o.val:Nat),.slice y.ua o.a6A.length y.uc,.slice y.ma o.mods.length y.mc]
abbrev UH(o:OC)(y:OL):Value:=.agg (tX o y).toArray
structure M8(o:OC)(y:OL)(h:l_):Prop where
 a6A:n9 h y.ua (nV o.a6A)
 mods:n9 h y.ma (nV o.mods)
instance {o:OC} {y:OL}:Mn (M8 o y):=⟨fun l k=>⟨k.a6A.le l,k.mods.le l⟩⟩
def M8.zero(h:l_):M8 C3 N8 h:=⟨n9.nil _ _,n9.nil _ _⟩
def M8.nil(h:l_)(o:OC)(y:OL)(hu:o.a6A=[])(a:o.mods=[]):M8 o y h:=⟨by rw[hu];exact n9.nil _ _,by rw[a];exact n9.nil _ _⟩
abbrev OD(m:MM)(r:RQ)(q:QL)(o:OC)(y:OL):zq:=iQ m++eN r q++tX o y
abbrev T3(b:Nat)(m:MM)(r:RQ)(q:QL)(o:OC)(y:OL):As:=.blk b (.cells (OD m r q o y).toArray 136)
def X7(l:List BM):List As:=l.map fun b=>O7 b.a b.ls b.c
def LB(a b:List BM):X7 (a++b)=X7 a++X7 b:=by simp[X7]
abbrev vp(m:MM):List As:=U1 m.sa m.a6w m.sc::R5 m.ha m.a6v m.hc::U0 m.ba m.a6u m.bc::X7 m.a6u
structure Dw(b:BX):Prop where
 name:b.name.length<=64
 val:b.val<=4294967296
 next:b.next<=4294967296
 high:b.high<=E6
 lts:b.lts.length<=32
 uid:∀x∈b.lts,x.uid<b.next
 a6J:∀x∈b.lts,x.a6J.length<=16/\∀f∈x.a6J,f.length<=32
 mod:∀x∈b.lts,x.mod<=E6
 size:∀x∈b.lts,x.size<=4096
 hash:∀x∈b.lts,x.hash.length=32
structure V5(s:ML):Prop where
 a6u:s.a6u.length<=8
 box:∀b∈s.a6u,Dw b
 sorted:s.a6u.Pairwise fun x y=>ip x.name y.name=true
 a6v:s.a6v.Pairwise fun x y=>x.node<y.node
 home:∀h∈s.a6v,1<=h.node/\h.node<=5/\h.life<18446744073709551616/\h.tr<18446744073709551616
 a6w:s.a6w.length<=16
 seat:∀x∈s.a6w,1<=x.ses/\x.ses<s.nses/\x.last<18446744073709551616/\x.life<18446744073709551616/\x.tr<18446744073709551616
 nval:s.nval<=4294967296
 nses:s.nses<=Du
 a6G:s.a6G<=E6
abbrev P3(b:Nat)(s:SE)(x:SL)(d:DD)(y:DL):List As:=[F9 b s x d y,x4 y.da y.rl y.dc]
abbrev G1(y:DL)(m:RM)(a:qr)(c:Nat):DL:={y with da:=a,dc:=c,rl:=y.rl++[m]}
def X2(b:Nat)(s:SE)(x:SL)(d:DD)(y:DL)(r:RR)(z:RL)(hl:y.rl.length<=100000000):Ct prog 69 [i8 b,Ls r z] (fun _=>True) (P3 b s x d y) (fun v A=>v=.tuple #[]/\∃a c,A=P3 b s x d (G1 y (r,z) a c)):=by
 refine b_ 16 func69 rfl rfl rfl ?_;intro F _;refine u6 ?_;intro j;refine x6 ?_;refine vM [5,6] [7,8,12] 13 ?_;refine wd [0,1,2,3,4,5,6] ?_;refine h_ 7 rfl i6 ?_;refine D2 wm (r,z) rfl ?_;intro h g;refine V2 ?_;refine h_ 8 rfl i6 ?_;refine u7 wm (l:=y.rl) (m:=[(r,z)]) aB jT (by show(y.rl.length+1)*160<=_;omega) ?_;intro e f _;refine D7 [9,10,11,12] ?_;exact m6 rfl _ ⟨rfl,e,f,rfl⟩ fun w i=>y9.left tk i
def lz(b:Nat)(s:SE)(x:SL)(d:DD)(y:DL)(tag text:Bs)(hl:y.rl.length<=100000000):Ct prog 72 [i8 b,B tag,B text] (fun _=>True) (P3 b s x d y) (fun v A=>v=.tuple #[]/\∃a c,A=P3 b s x d (G1 y (fA tag text,L0) a c)):=by
 refine b_ 11 func72 rfl rfl rfl ?_;intro F _;refine P1 ?_;refine e_ (X2 b s x d y (fA tag text) L0 hl) qw ?_;rintro v A ⟨rfl,a,c,rfl⟩;refine x6 ?_;exact m6 rfl _ ⟨rfl,a,c,rfl⟩ fun w e=>y9.left tk e
def GB(b:Nat)(s:SE)(x:SL)(d:DD)(y:DL)(tag code text:Bs)(hl:y.rl.length<=100000000):Ct prog 80 [i8 b,B tag,B code,B text] (fun _=>True) (P3 b s x d y) (fun v A=>v=.tuple #[]/\∃a c,A=P3 b s x d (G1 y (nB tag code text,L0) a c)):=by
 refine b_ 14 func80 rfl rfl rfl ?_;intro F _;refine al ?_;refine e_ (X2 b s x d y (nB tag code text) L0 hl) qw ?_;rintro v A ⟨rfl,a,c,rfl⟩;refine x6 ?_;exact m6 rfl _ ⟨rfl,a,c,rfl⟩ fun w e=>y9.left tk e
def nF(b:Nat)(s:SE)(x:SL)(d:DD)(y:DL)(tag:Bs)(hl:y.rl.length<=100000000):Ct prog 167 [i8 b,B tag] (fun _=>True) (P3 b s x d y) (fun v A=>v=.tuple #[]/\∃a c,A=P3 b s x d (G1 y (ep tag,L0) a c)):=by
 refine b_ 8 func167 rfl rfl rfl ?_;intro F _;refine E8 ?_;refine e_ (X2 b s x d y (ep tag) L0 hl) qw ?_;rintro v A ⟨rfl,a,c,rfl⟩;refine x6 ?_;exact m6 rfl _ ⟨rfl,a,c,rfl⟩ fun w e=>y9.left tk e
def tY(b:Nat)(s:SE)(x:SL)(d:DD)(y:DL)(text:Bs)(hl:y.rl.length<=100000000):Ct prog 70 [i8 b,B text] (fun _=>True) (P3 b s x d y) (fun v A=>v=.tuple #[]/\∃a c,A=P3 b {s with a6z:=3} x {d with close:=true} (G1 y (L2 text,L0) a c)):=by
 refine b_ 16 func70 rfl rfl rfl ?_;intro F _;refine E8 ?_;refine e_ (X2 b s x d y (L2 text) L0 hl) qw ?_;rintro v A ⟨rfl,a,c,rfl⟩;refine wk 10 ?_;exact m6 rfl _ ⟨rfl,a,c,rfl⟩ fun w e=>y9.left tk e
def oX(b:Nat)(s:SE)(x:SL)(d:DD)(y:DL)(tag:Bs)(hl:y.rl.length<=10000000):Ct prog 79 [i8 b,B tag] (fun _=>True) (P3 b s x d y) (fun v A=>v=.tuple #[]/\∃a c,A=P3 b {s with a6z:=3} x {d with close:=true} {y with da:=a,dc:=c,rl:=y.rl++[(L2 [108,111,103,103,105,110,103,32,111,117,116],L0),(ep tag,L0)]}):=by
 refine b_ 9 func79 rfl rfl rfl ?_;intro F _;refine u6 ?_;refine e_ (tY b s x d y _ qb) qw ?_;rintro v A ⟨rfl,a,c,rfl⟩;refine A5 ?_;refine e_ (nF b {s with a6z:=3} x {d with close:=true} (G1 y (L2 [108,111,103,103,105,110,103,32,111,117,116],L0) a c) tag (by simp;omega)) qw ?_;rintro v A ⟨rfl,f,g,rfl⟩;refine x6 ?_;exact m6 rfl _ ⟨rfl,f,g,rfl⟩ fun w e=>by simp only[G1,ky,Zu,Qv] at e;exact y9.left tk e
def dO(t:zk)(sz n:Nat)(xs:zq)(v:Value)(A:List As):Prop:=∃a c,v=.slice a n c/\A=[.own (.slice a n c) t sz xs]
def D9{α:Type}(q:α->Bool)(l:List α):Int:=(l.findIdx? q).elim (-1) fun i=>(i:Nat)
def O2{α:Type}{q:α->Bool}{l:List α}(h:∀i (a:i<l.length),q l[i]=false):D9 q l= -1:=by
 unfold D9;rw[Zx.2 fun x b=>by obtain⟨i,a,rfl⟩:=Zp b;exact h i a];rfl
def O3{α:Type}{q:α->Bool}{l:List α}{j:Nat}(b:j<l.length)(hq:q l[j]=true)(h:∀i (a:i<l.length),i<j->q l[i]=false):D9 q l=(j:Nat):=by
 unfold D9;rw[jg.2 ⟨b,hq,fun i a=>by simp[h i qb a]⟩];rfl
def dv{α:Type}(q:α->Bool)(l:List α): -1<=D9 q l/\D9 q l<l.length:=by
 unfold D9
 cases h:l.findIdx? q with
 |none=>simp only[Option.elim];omega
 |some i=>have:=(jg.1 h).1;simp only[Option.elim];omega
def fW{α:Type}(q:α->Bool)(l:List α):decide (D9 q l≥0)=l.any q:=by
 unfold D9
 cases h:l.findIdx? q with
 |none=>
  rw[Zx] at h;have:l.any q=false:=W6.2 fun x a=>by simp[h x a]
  rw[this];simp
 |some i=>
  obtain⟨b,c,_⟩:=jg.1 h;have:l.any q=true:=Jd.2 ⟨_,zm b,c⟩;rw[this];simp
def T8{α:Type}{C:α->zq}{n:Nat}{h:l_}{a:qr}{l:List α}{q i:Nat}(r:n9 h a (l.flatMap C))(d:∀x,(C x).length=n)(b:0<n)(c:i<l.length)(hq:q=i*n):M9 h (N_ a q) (C l[i]):=by
 have:=tI r d b l[i] (q:=q) (i:=i) (by rw[hq,Yk]) c
 rwa [show l.getD i l[i]=l[i] from by simp[List.getD,c]] at this
def p8{α:Type}{C:α->zq}{n:Nat}{h:l_}{a:qr}{l:List α}{i:Nat}(r:n9 h a (l.flatMap C))(c:∀x,(C x).length=n)(b:0<n)(d:i<l.length):∃e,a=some e:=vL r c b d
def jU(xs:zq)(a:qr)(n c:Nat)(hx:xs.length=n*5)(j:∀q∈xs,q.oneCell'=true)(hl:n<=1000000000000):Ct prog 104 [.slice a n c] (fun h=>n9 h a xs) [] (dO 102 5 n xs):=by
 refine b_ 8 func104 rfl rfl rfl ?_;intro F d;refine eV ?_ ?_<;>intro h
 ·have ha:a=none:=by simpa using h
  have k:n=0:=by
   rcases Zq n with f|f
   ·exact f
   ·obtain⟨l,e,_⟩:=d (by intro e;rw[e] at hx;simp at hx<;>omega);rw[ha] at e;cases e
  subst k;have:xs=[]:=Zy.1 (by rw[hx,Kx]);subst this;refine D0 ?_;exact d_ rfl rfl [.own (.slice none 0 0) 102 5 []] ⟨none,0,rfl,rfl⟩ (fun w b=>b.addNil _ _)
 ·refine x6 ?_;refine u6 ?_;intro a5;refine u6 ?_;refine C4 rfl rfl (fun m o=>.here) (fun w b=>n9.le d b.keep) hx rfl rfl j (by show(0+n)*40<=_;omega) qb rfl ?_;intro g i _;refine D0 ?_;exact d_ rfl rfl [.own (.slice g n i) 102 5 xs] ⟨g,i,by rw[j6],rfl⟩ (fun w b=>by rw[j6,Qv] at b;exact b)
def tZ(xs:zq)(a:qr)(n c:Nat)(hx:xs.length=n*3)(j:∀q∈xs,q.oneCell'=true)(hl:n<=1000000000000):Ct prog 123 [.slice a n c] (fun h=>n9 h a xs) [] (dO 104 3 n xs):=by
 refine b_ 8 func123 rfl rfl rfl ?_;intro F d;refine eV ?_ ?_<;>intro h
 ·have ha:a=none:=by simpa using h
  have k:n=0:=by
   rcases Zq n with f|f
   ·exact f
   ·obtain⟨l,e,_⟩:=d (by intro e;rw[e] at hx;simp at hx<;>omega);rw[ha] at e;cases e
  subst k;have:xs=[]:=Zy.1 (by rw[hx,Kx]);subst this;refine D0 ?_;exact d_ rfl rfl [.own (.slice none 0 0) 104 3 []] ⟨none,0,rfl,rfl⟩ (fun w b=>b.addNil _ _)
 ·refine x6 ?_;refine u6 ?_;intro a5;refine u6 ?_;refine C4 rfl rfl (fun m o=>.here) (fun w b=>n9.le d b.keep) hx rfl rfl j (by show(0+n)*24<=_;omega) qb rfl ?_;intro g i _;refine D0 ?_;exact d_ rfl rfl [.own (.slice g n i) 104 3 xs] ⟨g,i,by rw[j6],rfl⟩ (fun w b=>by rw[j6,Qv] at b;exact b)
def wo(xs:zq)(a:qr)(n c:Nat)(hx:xs.length=n*5)(j:∀q∈xs,q.oneCell'=true)(hl:n<=1000000000000):Ct prog 124 [.slice a n c] (fun h=>n9 h a xs) [] (dO 100 5 n xs):=by
 refine b_ 8 func124 rfl rfl rfl ?_;intro F d;refine eV ?_ ?_<;>intro h
 ·have ha:a=none:=by simpa using h
  have k:n=0:=by
   rcases Zq n with f|f
   ·exact f
   ·obtain⟨l,e,_⟩:=d (by intro e;rw[e] at hx;simp at hx<;>omega);rw[ha] at e;cases e
  subst k;have:xs=[]:=Zy.1 (by rw[hx,Kx]);subst this;refine D0 ?_;exact d_ rfl rfl [.own (.slice none 0 0) 100 5 []] ⟨none,0,rfl,rfl⟩ (fun w b=>b.addNil _ _)
 ·refine x6 ?_;refine u6 ?_;intro a5;refine u6 ?_;refine C4 rfl rfl (fun m o=>.here) (fun w b=>n9.le d b.keep) hx rfl rfl j (by show(0+n)*64<=_;omega) qb rfl ?_;intro g i _;refine D0 ?_;exact d_ rfl rfl [.own (.slice g n i) 100 5 xs] ⟨g,i,by rw[j6],rfl⟩ (fun w b=>by rw[j6,Qv] at b;exact b)
def fX(xs:zq)(a:qr)(n c:Nat)(hx:xs.length=n*5)(j:∀q∈xs,q.oneCell'=true)(hl:n<=1000000000000):Ct prog 117 [.slice a n c] (fun h=>n9 h a xs) [] (dO 156 5 n xs):=by
 refine b_ 8 func117 rfl rfl rfl ?_;intro F d;refine eV ?_ ?_<;>intro h
 ·have ha:a=none:=by simpa using h
  have k:n=0:=by
   rcases Zq n with f|f
   ·exact f
   ·obtain⟨l,e,_⟩:=d (by intro e;rw[e] at hx;simp at hx<;>omega);rw[ha] at e;cases e
  subst k;have:xs=[]:=Zy.1 (by rw[hx,Kx]);subst this;refine D0 ?_;exact d_ rfl rfl [.own (.slice none 0 0) 156 5 []] ⟨none,0,rfl,rfl⟩ (fun w b=>b.addNil _ _)
 ·refine x6 ?_;refine u6 ?_;intro a5;refine u6 ?_;refine C4 rfl rfl (fun m o=>.here) (fun w b=>n9.le d b.keep) hx rfl rfl j (by show(0+n)*64<=_;omega) qb rfl ?_;intro g i _;refine D0 ?_;exact d_ rfl rfl [.own (.slice g n i) 156 5 xs] ⟨g,i,by rw[j6],rfl⟩ (fun w b=>by rw[j6,Qv] at b;exact b)
def fY(xs:zq)(a:qr)(n c:Nat)(hx:xs.length=n*2)(j:∀q∈xs,q.oneCell'=true)(hl:n<=1000000000000):Ct prog 128 [.slice a n c] (fun h=>n9 h a xs) [] (dO 72 2 n xs):=by
 refine b_ 8 func128 rfl rfl rfl ?_;intro F d;refine eV ?_ ?_<;>intro h
 ·have ha:a=none:=by simpa using h
  have k:n=0:=by
   rcases Zq n with f|f
   ·exact f
   ·obtain⟨l,e,_⟩:=d (by intro e;rw[e] at hx;simp at hx<;>omega);rw[ha] at e;cases e
  subst k;have:xs=[]:=Zy.1 (by rw[hx,Kx]);subst this;refine D0 ?_;exact d_ rfl rfl [.own (.slice none 0 0) 72 2 []] ⟨none,0,rfl,rfl⟩ (fun w b=>b.addNil _ _)
 ·refine x6 ?_;refine u6 ?_;intro a5;refine u6 ?_;refine C4 rfl rfl (fun m o=>.here) (fun w b=>n9.le d b.keep) hx rfl rfl j (by show(0+n)*16<=_;omega) qb rfl ?_;intro g i _;refine D0 ?_;exact d_ rfl rfl [.own (.slice g n i) 72 2 xs] ⟨g,i,by rw[j6],rfl⟩ (fun w b=>by rw[j6,Qv] at b;exact b)
def iu(xs:zq)(a:qr)(n c:Nat)(hx:xs.length=n*2)(j:∀q∈xs,q.oneCell'=true)(hl:n<=1000000000000):Ct prog 202 [.slice a n c] (fun h=>n9 h a xs) [] (dO 178 2 n xs):=by
 refine b_ 8 func202 rfl rfl rfl ?_;intro F d;refine eV ?_ ?_<;>intro h
 ·have ha:a=none:=by simpa using h
  have k:n=0:=by
   rcases Zq n with f|f
   ·exact f
   ·obtain⟨l,e,_⟩:=d (by intro e;rw[e] at hx;simp at hx<;>omega);rw[ha] at e;cases e
  subst k;have:xs=[]:=Zy.1 (by rw[hx,Kx]);subst this;refine D0 ?_;exact d_ rfl rfl [.own (.slice none 0 0) 178 2 []] ⟨none,0,rfl,rfl⟩ (fun w b=>b.addNil _ _)
 ·refine x6 ?_;refine u6 ?_;intro a5;refine u6 ?_;refine C4 rfl rfl (fun m o=>.here) (fun w b=>n9.le d b.keep) hx rfl rfl j (by show(0+n)*16<=_;omega) qb rfl ?_;intro g i _;refine D0 ?_;exact d_ rfl rfl [.own (.slice g n i) 178 2 xs] ⟨g,i,by rw[j6],rfl⟩ (fun w b=>by rw[j6,Qv] at b;exact b)
def jV(xs:zq)(a:qr)(n c:Nat)(hx:xs.length=n*5)(j:∀q∈xs,q.oneCell'=true)(hl:n<=1000000000000):Ct prog 203 [.slice a n c] (fun h=>n9 h a xs) [] (dO 129 5 n xs):=by
 refine b_ 8 func203 rfl rfl rfl ?_;intro F d;refine eV ?_ ?_<;>intro h
 ·have ha:a=none:=by simpa using h
  have k:n=0:=by
   rcases Zq n with f|f
   ·exact f
   ·obtain⟨l,e,_⟩:=d (by intro e;rw[e] at hx;simp at hx<;>omega);rw[ha] at e;cases e
  subst k;have:xs=[]:=Zy.1 (by rw[hx,Kx]);subst this;refine D0 ?_;exact d_ rfl rfl [.own (.slice none 0 0) 129 5 []] ⟨none,0,rfl,rfl⟩ (fun w b=>b.addNil _ _)
 ·refine x6 ?_;refine u6 ?_;intro a5;refine u6 ?_;refine C4 rfl rfl (fun m o=>.here) (fun w b=>n9.le d b.keep) hx rfl rfl j (by show(0+n)*32<=_;omega) qb rfl ?_;intro g i _;refine D0 ?_;exact d_ rfl rfl [.own (.slice g n i) 129 5 xs] ⟨g,i,by rw[j6],rfl⟩ (fun w b=>by rw[j6,Qv] at b;exact b)
def wq(xs:zq)(a:qr)(n c:Nat)(hx:xs.length=n*6)(j:∀q∈xs,q.oneCell'=true)(hl:n<=1000000000000):Ct prog 204 [.slice a n c] (fun h=>n9 h a xs) [] (dO 127 6 n xs):=by
 refine b_ 8 func204 rfl rfl rfl ?_;intro F d;refine eV ?_ ?_<;>intro h
 ·have ha:a=none:=by simpa using h
  have k:n=0:=by
   rcases Zq n with f|f
   ·exact f
   ·obtain⟨l,e,_⟩:=d (by intro e;rw[e] at hx;simp at hx<;>omega);rw[ha] at e;cases e
  subst k;have:xs=[]:=Zy.1 (by rw[hx,Kx]);subst this;refine D0 ?_;exact d_ rfl rfl [.own (.slice none 0 0) 127 6 []] ⟨none,0,rfl,rfl⟩ (fun w b=>b.addNil _ _)
 ·refine x6 ?_;refine u6 ?_;intro a5;refine u6 ?_;refine C4 rfl rfl (fun m o=>.here) (fun w b=>n9.le d b.keep) hx rfl rfl j (by show(0+n)*80<=_;omega) qb rfl ?_;intro g i _;refine D0 ?_;exact d_ rfl rfl [.own (.slice g n i) 127 6 xs] ⟨g,i,by rw[j6],rfl⟩ (fun w b=>by rw[j6,Qv] at b;exact b)
def wr(xs:zq)(a:qr)(n c:Nat)(hx:xs.length=n*1)(j:∀q∈xs,q.oneCell'=true)(hl:n<=1000000000000):Ct prog 129 [.slice a n c] (fun h=>n9 h a xs) [] (dO 27 1 n xs):=by
 refine b_ 8 func129 rfl rfl rfl ?_;intro F d;refine eV ?_ ?_<;>intro h
 ·have ha:a=none:=by simpa using h
  have k:n=0:=by
   rcases Zq n with f|f
   ·exact f
   ·obtain⟨l,e,_⟩:=d (by intro e;rw[e] at hx;simp at hx<;>omega);rw[ha] at e;cases e
  subst k;have:xs=[]:=Zy.1 (by rw[hx,Kx]);subst this;refine D0 ?_;exact d_ rfl rfl [.own (.slice none 0 0) 27 1 []] ⟨none,0,rfl,rfl⟩ (fun w b=>b.addNil _ _)
 ·refine x6 ?_;refine u6 ?_;intro a5;refine u6 ?_;refine C4 rfl rfl (fun m o=>.here) (fun w b=>n9.le d b.keep) hx rfl rfl j (by show(0+n)*8<=_;omega) qb rfl ?_;intro g i _;refine D0 ?_;exact d_ rfl rfl [.own (.slice g n i) 27 1 xs] ⟨g,i,by rw[j6],rfl⟩ (fun w b=>by rw[j6,Qv] at b;exact b)
def aS{α:Type}(C:α->zq)(n:∀x,(C x).length=5)(l:List α)(a:qr)(c:Nat)(f:FuncId)[HF prog f](qs:zq)(d:l_->Prop)[Mn d](q:α->Bool)(r:∀x∈l,Pu prog f (.agg (C x).toArray::qs) d (.bool (q x)))(hl:l.length<=1000000000000):Pu prog 126 [.slice a l.length c,.func (.func f) #[] qs.toArray] (fun h=>n9 h a (l.flatMap C)/\d h) (.int .i64 (D9 q l)):=by
 refine b_ 19 func126 rfl rfl rfl ?_;rintro F ⟨g,k⟩;refine P1 ?_;refine o8 (ι:=Nat) (fun j=>j<=l.length/\∀i (m:i<l.length),i<j->q l[i]=false) (fun j=>[(0,.slice a l.length c),(1,.func (.func f) #[] qs.toArray),(7,r7 l.length),(8,r7 j)]) (fun _=>[]) (fun j=>l.length-j) 0 ⟨zp _,fun i _ h=>by omega⟩ sub i_ ?_;rintro j ⟨y,e⟩;refine T2 ?_ ?_<;>intro h
 ·have b:j<l.length:=by have:=zy h;omega
  have o:=p8 g n qp b;refine Y1 ?_;refine r_ (p9 rfl (fun w s=>T8 (g.le s.keep) n qp b x7) (n _)) ?_;refine A4 (ps:=[]) _ rfl rfl rfl (r _ (zm b)) i_ (fun h t _=>Mn.le t k) rfl ?_;rintro v A ⟨rfl,rfl⟩;refine O_ ?_ ?_<;>intro p
  ·refine M4 ?_;exact d_ rfl rfl [] ⟨by rw[O3 b p e],rfl⟩ i_
  ·refine A5 ?_;refine l8 (j+1) ⟨b,fun i m h=>?_⟩ qb sub i_;rcases jd.1 h with u|rfl
   ·exact e i m u
   ·exact p
 ·have b:j=l.length:=by have:=zu h;omega
  refine D0 ?_;exact d_ rfl rfl [] ⟨by rw[O2 fun i m=>e i m qb],rfl⟩ i_
def lA{α:Type}(C:α->zq)(n:∀x,(C x).length=3)(l:List α)(a:qr)(c:Nat)(f:FuncId)[HF prog f](qs:zq)(d:l_->Prop)[Mn d](q:α->Bool)(r:∀x∈l,Pu prog f (.agg (C x).toArray::qs) d (.bool (q x)))(hl:l.length<=1000000000000):Pu prog 182 [.slice a l.length c,.func (.func f) #[] qs.toArray] (fun h=>n9 h a (l.flatMap C)/\d h) (.int .i64 (D9 q l)):=by
 refine b_ 19 func182 rfl rfl rfl ?_;rintro F ⟨g,k⟩;refine P1 ?_;refine o8 (ι:=Nat) (fun j=>j<=l.length/\∀i (m:i<l.length),i<j->q l[i]=false) (fun j=>[(0,.slice a l.length c),(1,.func (.func f) #[] qs.toArray),(7,r7 l.length),(8,r7 j)]) (fun _=>[]) (fun j=>l.length-j) 0 ⟨zp _,fun i _ h=>by omega⟩ sub i_ ?_;rintro j ⟨y,e⟩;refine T2 ?_ ?_<;>intro h
 ·have b:j<l.length:=by have:=zy h;omega
  have o:=p8 g n qp b;refine Y1 ?_;refine r_ (p9 rfl (fun w s=>T8 (g.le s.keep) n qp b x7) (n _)) ?_;refine A4 (ps:=[]) _ rfl rfl rfl (r _ (zm b)) i_ (fun h t _=>Mn.le t k) rfl ?_;rintro v A ⟨rfl,rfl⟩;refine O_ ?_ ?_<;>intro p
  ·refine M4 ?_;exact d_ rfl rfl [] ⟨by rw[O3 b p e],rfl⟩ i_
  ·refine A5 ?_;refine l8 (j+1) ⟨b,fun i m h=>?_⟩ qb sub i_;rcases jd.1 h with u|rfl
   ·exact e i m u
   ·exact p
 ·have b:j=l.length:=by have:=zu h;omega
  refine D0 ?_;exact d_ rfl rfl [] ⟨by rw[O2 fun i m=>e i m qb],rfl⟩ i_
def mV{α:Type}(C:α->zq)(n:∀x,(C x).length=5)(l:List α)(a:qr)(c:Nat)(f:FuncId)[HF prog f](qs:zq)(d:l_->Prop)[Mn d](q:α->Bool)(r:∀x∈l,Pu prog f (.agg (C x).toArray::qs) d (.bool (q x)))(hl:l.length<=1000000000000):Pu prog 188 [.slice a l.length c,.func (.func f) #[] qs.toArray] (fun h=>n9 h a (l.flatMap C)/\d h) (.int .i64 (D9 q l)):=by
 refine b_ 19 func188 rfl rfl rfl ?_;rintro F ⟨g,k⟩;refine P1 ?_;refine o8 (ι:=Nat) (fun j=>j<=l.length/\∀i (m:i<l.length),i<j->q l[i]=false) (fun j=>[(0,.slice a l.length c),(1,.func (.func f) #[] qs.toArray),(7,r7 l.length),(8,r7 j)]) (fun _=>[]) (fun j=>l.length-j) 0 ⟨zp _,fun i _ h=>by omega⟩ sub i_ ?_;rintro j ⟨y,e⟩;refine T2 ?_ ?_<;>intro h
 ·have b:j<l.length:=by have:=zy h;omega
  have o:=p8 g n qp b;refine Y1 ?_;refine r_ (p9 rfl (fun w s=>T8 (g.le s.keep) n qp b x7) (n _)) ?_;refine A4 (ps:=[]) _ rfl rfl rfl (r _ (zm b)) i_ (fun h t _=>Mn.le t k) rfl ?_;rintro v A ⟨rfl,rfl⟩;refine O_ ?_ ?_<;>intro p
  ·refine M4 ?_;exact d_ rfl rfl [] ⟨by rw[O3 b p e],rfl⟩ i_
  ·refine A5 ?_;refine l8 (j+1) ⟨b,fun i m h=>?_⟩ qb sub i_;rcases jd.1 h with u|rfl
   ·exact e i m u
   ·exact p
 ·have b:j=l.length:=by have:=zu h;omega
  refine D0 ?_;exact d_ rfl rfl [] ⟨by rw[O2 fun i m=>e i m qb],rfl⟩ i_
def Y6{α:Type}(C:α->zq)(n:∀x,(C x).length=5)(l:List α)(a:qr)(c:Nat)(f:FuncId)[HF prog f](qs:zq)(d:l_->Prop)[Mn d](q:α->Bool)(r:∀x∈l,Pu prog f (.agg (C x).toArray::qs) d (.bool (q x)))(hl:l.length<=1000000000000):Pu prog 201 [.slice a l.length c,.func (.func f) #[] qs.toArray] (fun h=>n9 h a (l.flatMap C)/\d h) (.int .i64 (D9 q l)):=by
 refine b_ 19 func201 rfl rfl rfl ?_;rintro F ⟨g,k⟩;refine P1 ?_;refine o8 (ι:=Nat) (fun j=>j<=l.length/\∀i (m:i<l.length),i<j->q l[i]=false) (fun j=>[(0,.slice a l.length c),(1,.func (.func f) #[] qs.toArray),(7,r7 l.length),(8,r7 j)]) (fun _=>[]) (fun j=>l.length-j) 0 ⟨zp _,fun i _ h=>by omega⟩ sub i_ ?_;rintro j ⟨y,e⟩;refine T2 ?_ ?_<;>intro h
 ·have b:j<l.length:=by have:=zy h;omega
  have o:=p8 g n qp b;refine Y1 ?_;refine r_ (p9 rfl (fun w s=>T8 (g.le s.keep) n qp b x7) (n _)) ?_;refine A4 (ps:=[]) _ rfl rfl rfl (r _ (zm b)) i_ (fun h t _=>Mn.le t k) rfl ?_;rintro v A ⟨rfl,rfl⟩;refine O_ ?_ ?_<;>intro p
  ·refine M4 ?_;exact d_ rfl rfl [] ⟨by rw[O3 b p e],rfl⟩ i_
  ·refine A5 ?_;refine l8 (j+1) ⟨b,fun i m h=>?_⟩ qb sub i_;rcases jd.1 h with u|rfl
   ·exact e i m u
   ·exact p
 ·have b:j=l.length:=by have:=zu h;omega
  refine D0 ?_;exact d_ rfl rfl [] ⟨by rw[O2 fun i m=>e i m qb],rfl⟩ i_
def lB{α:Type}(C:α->zq)(n:∀x,(C x).length=2)(l:List α)(a:qr)(c:Nat)(f:FuncId)[HF prog f](qs:zq)(d:l_->Prop)[Mn d](q:α->Bool)(r:∀x∈l,Pu prog f (.agg (C x).toArray::qs) d (.bool (q x)))(hl:l.length<=1000000000000):Pu prog 226 [.slice a l.length c,.func (.func f) #[] qs.toArray] (fun h=>n9 h a (l.flatMap C)/\d h) (.int .i64 (D9 q l)):=by
 refine b_ 19 func226 rfl rfl rfl ?_;rintro F ⟨g,k⟩;refine P1 ?_;refine o8 (ι:=Nat) (fun j=>j<=l.length/\∀i (m:i<l.length),i<j->q l[i]=false) (fun j=>[(0,.slice a l.length c),(1,.func (.func f) #[] qs.toArray),(7,r7 l.length),(8,r7 j)]) (fun _=>[]) (fun j=>l.length-j) 0 ⟨zp _,fun i _ h=>by omega⟩ sub i_ ?_;rintro j ⟨y,e⟩;refine T2 ?_ ?_<;>intro h
 ·have b:j<l.length:=by have:=zy h;omega
  have o:=p8 g n qp b;refine Y1 ?_;refine r_ (p9 rfl (fun w s=>T8 (g.le s.keep) n qp b x7) (n _)) ?_;refine A4 (ps:=[]) _ rfl rfl rfl (r _ (zm b)) i_ (fun h t _=>Mn.le t k) rfl ?_;rintro v A ⟨rfl,rfl⟩;refine O_ ?_ ?_<;>intro p
  ·refine M4 ?_;exact d_ rfl rfl [] ⟨by rw[O3 b p e],rfl⟩ i_
  ·refine A5 ?_;refine l8 (j+1) ⟨b,fun i m h=>?_⟩ qb sub i_;rcases jd.1 h with u|rfl
   ·exact e i m u
   ·exact p
 ·have b:j=l.length:=by have:=zu h;omega
  refine D0 ?_;exact d_ rfl rfl [] ⟨by rw[O2 fun i m=>e i m qb],rfl⟩ i_
def lC{α:Type}(C:α->zq)(n:∀x,(C x).length=5)(l:List α)(a:qr)(c:Nat)(f:FuncId)[HF prog f](qs:zq)(d:l_->Prop)[Mn d](q:α->Bool)(r:∀x∈l,Pu prog f (.agg (C x).toArray::qs) d (.bool (q x)))(hl:l.length<=1000000000000):Pu prog 228 [.slice a l.length c,.func (.func f) #[] qs.toArray] (fun h=>n9 h a (l.flatMap C)/\d h) (.int .i64 (D9 q l)):=by
 refine b_ 19 func228 rfl rfl rfl ?_;rintro F ⟨g,k⟩;refine P1 ?_;refine o8 (ι:=Nat) (fun j=>j<=l.length/\∀i (m:i<l.length),i<j->q l[i]=false) (fun j=>[(0,.slice a l.length c),(1,.func (.func f) #[] qs.toArray),(7,r7 l.length),(8,r7 j)]) (fun _=>[]) (fun j=>l.length-j) 0 ⟨zp _,fun i _ h=>by omega⟩ sub i_ ?_;rintro j ⟨y,e⟩;refine T2 ?_ ?_<;>intro h
 ·have b:j<l.length:=by have:=zy h;omega
  have o:=p8 g n qp b;refine Y1 ?_;refine r_ (p9 rfl (fun w s=>T8 (g.le s.keep) n qp b x7) (n _)) ?_;refine A4 (ps:=[]) _ rfl rfl rfl (r _ (zm b)) i_ (fun h t _=>Mn.le t k) rfl ?_;rintro v A ⟨rfl,rfl⟩;refine O_ ?_ ?_<;>intro p
  ·refine M4 ?_;exact d_ rfl rfl [] ⟨by rw[O3 b p e],rfl⟩ i_
  ·refine A5 ?_;refine l8 (j+1) ⟨b,fun i m h=>?_⟩ qb sub i_;rcases jd.1 h with u|rfl
   ·exact e i m u
   ·exact p
 ·have b:j=l.length:=by have:=zu h;omega
  refine D0 ?_;exact d_ rfl rfl [] ⟨by rw[O2 fun i m=>e i m qb],rfl⟩ i_
def mW{α:Type}(C:α->zq)(n:∀x,(C x).length=6)(l:List α)(a:qr)(c:Nat)(f:FuncId)[HF prog f](qs:zq)(d:l_->Prop)[Mn d](q:α->Bool)(r:∀x∈l,Pu prog f (.agg (C x).toArray::qs) d (.bool (q x)))(hl:l.length<=1000000000000):Pu prog 291 [.slice a l.length c,.func (.func f) #[] qs.toArray] (fun h=>n9 h a (l.flatMap C)/\d h) (.int .i64 (D9 q l)):=by
 refine b_ 19 func291 rfl rfl rfl ?_;rintro F ⟨g,k⟩;refine P1 ?_;refine o8 (ι:=Nat) (fun j=>j<=l.length/\∀i (m:i<l.length),i<j->q l[i]=false) (fun j=>[(0,.slice a l.length c),(1,.func (.func f) #[] qs.toArray),(7,r7 l.length),(8,r7 j)]) (fun _=>[]) (fun j=>l.length-j) 0 ⟨zp _,fun i _ h=>by omega⟩ sub i_ ?_;rintro j ⟨y,e⟩;refine T2 ?_ ?_<;>intro h
 ·have b:j<l.length:=by have:=zy h;omega
  have o:=p8 g n qp b;refine Y1 ?_;refine r_ (p9 rfl (fun w s=>T8 (g.le s.keep) n qp b x7) (n _)) ?_;refine A4 (ps:=[]) _ rfl rfl rfl (r _ (zm b)) i_ (fun h t _=>Mn.le t k) rfl ?_;rintro v A ⟨rfl,rfl⟩;refine O_ ?_ ?_<;>intro p
  ·refine M4 ?_;exact d_ rfl rfl [] ⟨by rw[O3 b p e],rfl⟩ i_
  ·refine A5 ?_;refine l8 (j+1) ⟨b,fun i m h=>?_⟩ qb sub i_;rcases jd.1 h with u|rfl
   ·exact e i m u
   ·exact p
 ·have b:j=l.length:=by have:=zu h;omega
  refine D0 ?_;exact d_ rfl rfl [] ⟨by rw[O2 fun i m=>e i m qb],rfl⟩ i_
def jW{α:Type}(C:α->zq)(n:∀x,(C x).length=2)(l:List α)(a:qr)(c:Nat)(f:FuncId)[HF prog f](qs:zq)(d:l_->Prop)[Mn d](q:α->Bool)(r:∀x∈l,Pu prog f (.agg (C x).toArray::qs) d (.bool (q x)))(hl:l.length<=1000000000000):Pu prog 338 [.slice a l.length c,.func (.func f) #[] qs.toArray] (fun h=>n9 h a (l.flatMap C)/\d h) (.int .i64 (D9 q l)):=by
 refine b_ 19 func338 rfl rfl rfl ?_;rintro F ⟨g,k⟩;refine P1 ?_;refine o8 (ι:=Nat) (fun j=>j<=l.length/\∀i (m:i<l.length),i<j->q l[i]=false) (fun j=>[(0,.slice a l.length c),(1,.func (.func f) #[] qs.toArray),(7,r7 l.length),(8,r7 j)]) (fun _=>[]) (fun j=>l.length-j) 0 ⟨zp _,fun i _ h=>by omega⟩ sub i_ ?_;rintro j ⟨y,e⟩;refine T2 ?_ ?_<;>intro h
 ·have b:j<l.length:=by have:=zy h;omega
  have o:=p8 g n qp b;refine Y1 ?_;refine r_ (p9 rfl (fun w s=>T8 (g.le s.keep) n qp b x7) (n _)) ?_;refine A4 (ps:=[]) _ rfl rfl rfl (r _ (zm b)) i_ (fun h t _=>Mn.le t k) rfl ?_;rintro v A ⟨rfl,rfl⟩;refine O_ ?_ ?_<;>intro p
  ·refine M4 ?_;exact d_ rfl rfl [] ⟨by rw[O3 b p e],rfl⟩ i_
  ·refine A5 ?_;refine l8 (j+1) ⟨b,fun i m h=>?_⟩ qb sub i_;rcases jd.1 h with u|rfl
   ·exact e i m u
   ·exact p
 ·have b:j=l.length:=by have:=zu h;omega
  refine D0 ?_;exact d_ rfl rfl [] ⟨by rw[O2 fun i m=>e i m qb],rfl⟩ i_
def mX{α:Type}(C:α->zq)(n:∀x,(C x).length=2)(l:List α)(a:qr)(c:Nat)(f:FuncId)[HF prog f](qs:zq)(d:l_->Prop)[Mn d](q:α->Bool)(r:∀x∈l,Pu prog f (.agg (C x).toArray::qs) d (.bool (q x)))(hl:l.length<=1000000000000):Pu prog 396 [.slice a l.length c,.func (.func f) #[] qs.toArray] (fun h=>n9 h a (l.flatMap C)/\d h) (.int .i64 (D9 q l)):=by
 refine b_ 19 func396 rfl rfl rfl ?_;rintro F ⟨g,k⟩;refine P1 ?_;refine o8 (ι:=Nat) (fun j=>j<=l.length/\∀i (m:i<l.length),i<j->q l[i]=false) (fun j=>[(0,.slice a l.length c),(1,.func (.func f) #[] qs.toArray),(7,r7 l.length),(8,r7 j)]) (fun _=>[]) (fun j=>l.length-j) 0 ⟨zp _,fun i _ h=>by omega⟩ sub i_ ?_;rintro j ⟨y,e⟩;refine T2 ?_ ?_<;>intro h
 ·have b:j<l.length:=by have:=zy h;omega
  have o:=p8 g n qp b;refine Y1 ?_;refine r_ (p9 rfl (fun w s=>T8 (g.le s.keep) n qp b x7) (n _)) ?_;refine A4 (ps:=[]) _ rfl rfl rfl (r _ (zm b)) i_ (fun h t _=>Mn.le t k) rfl ?_;rintro v A ⟨rfl,rfl⟩;refine O_ ?_ ?_<;>intro p
  ·refine M4 ?_;exact d_ rfl rfl [] ⟨by rw[O3 b p e],rfl⟩ i_
  ·refine A5 ?_;refine l8 (j+1) ⟨b,fun i m h=>?_⟩ qb sub i_;rcases jd.1 h with u|rfl
   ·exact e i m u
   ·exact p
 ·have b:j=l.length:=by have:=zu h;omega
  refine D0 ?_;exact d_ rfl rfl [] ⟨by rw[O2 fun i m=>e i m qb],rfl⟩ i_
def X3{α:Type}(C:α->zq)(i:∀x,(C x).length=5)(l:List α)(a:qr)(c:Nat)(f:FuncId)[HF prog f](qs:zq)(b:l_->Prop)[Mn b](q:α->Bool)(j:∀x∈l,Pu prog f (.agg (C x).toArray::qs) b (.bool (q x)))(hl:l.length<=1000000000000):Pu prog 156 [.slice a l.length c,.func (.func f) #[] qs.toArray] (fun h=>n9 h a (l.flatMap C)/\b h) (.bool (l.any q)):=by
 refine b_ 9 func156 rfl rfl rfl ?_;rintro F ⟨e,d⟩;refine E8 ?_;refine c_ rfl (lC C i l a c f qs b q j hl) (fun h g _=>⟨e.le g,Mn.le g d⟩) rfl ?_;refine f_ ((K_ rfl rfl).eq (qn (fW q l))) ?_;refine D0 ?_;exact d_ rfl rfl [] qh i_
def cE{α:Type}(C:α->zq)(i:∀x,(C x).length=6)(l:List α)(a:qr)(c:Nat)(f:FuncId)[HF prog f](qs:zq)(b:l_->Prop)[Mn b](q:α->Bool)(j:∀x∈l,Pu prog f (.agg (C x).toArray::qs) b (.bool (q x)))(hl:l.length<=1000000000000):Pu prog 229 [.slice a l.length c,.func (.func f) #[] qs.toArray] (fun h=>n9 h a (l.flatMap C)/\b h) (.bool (l.any q)):=by
 refine b_ 9 func229 rfl rfl rfl ?_;rintro F ⟨e,d⟩;refine E8 ?_;refine c_ rfl (mW C i l a c f qs b q j hl) (fun h g _=>⟨e.le g,Mn.le g d⟩) rfl ?_;refine f_ ((K_ rfl rfl).eq (qn (fW q l))) ?_;refine D0 ?_;exact d_ rfl rfl [] qh i_
def bF{α:Type}(C:α->zq)(i:∀x,(C x).length=2)(l:List α)(a:qr)(c:Nat)(f:FuncId)[HF prog f](qs:zq)(b:l_->Prop)[Mn b](q:α->Bool)(j:∀x∈l,Pu prog f (.agg (C x).toArray::qs) b (.bool (q x)))(hl:l.length<=1000000000000):Pu prog 268 [.slice a l.length c,.func (.func f) #[] qs.toArray] (fun h=>n9 h a (l.flatMap C)/\b h) (.bool (l.any q)):=by
 refine b_ 9 func268 rfl rfl rfl ?_;rintro F ⟨e,d⟩;refine E8 ?_;refine c_ rfl (jW C i l a c f qs b q j hl) (fun h g _=>⟨e.le g,Mn.le g d⟩) rfl ?_;refine f_ ((K_ rfl rfl).eq (qn (fW q l))) ?_;refine D0 ?_;exact d_ rfl rfl [] qh i_
def ab(l:List Bs)(a:qr)(c:Nat)(hl:l.length<=1000000):Ct prog 115 [.slice a l.length c] (fun h=>n9 h a (fV l)) [] (dO 9 1 l.length (fV l)):=by
 refine b_ 8 func115 rfl rfl rfl ?_;intro F d;refine eV ?_ ?_<;>intro h
 ·have ha:a=none:=by simpa using h
  have i:l=[]:=by
   cases l with
   |nil=>rfl
   |cons y t=>obtain⟨j,e,_⟩:=d (by simp[fV]);rw[ha] at e;cases e
  subst i;refine D0 ?_;exact d_ rfl rfl [B0 none [] 0] ⟨none,0,rfl,rfl⟩ (fun w b=>b.addNil _ _)
 ·refine x6 ?_;refine u6 ?_;intro a5;refine u6 ?_;refine C4 rfl rfl (fun k m=>.here) (fun w b=>n9.le d b.keep) (by rw[M6,Z0]) rfl rfl (lu _) (by show(0+l.length)*16<=_;omega) qb rfl ?_;intro f g _;refine D0 ?_;exact d_ rfl rfl [B0 f l g] ⟨f,g,by rw[j6],rfl⟩ (fun w b=>by rw[j6,Qv] at b;exact b)
def dw{a:List KM}{c:CM}(h:a.map KM.k=c.keys):a.length=c.keys.length:=by rw[<-h,kg]
def a2g{a:List KM}{j:Nat}(b:j<a.length)(m:KM)(c:m.k=a[j].k):(a.set j m).map KM.k=a.map KM.k:=by
 rw[K0,c,<-Wj KM.k (h:=by simpa using b)];exact Kj _
abbrev yB(a:qr)(n c:Nat)(l:List KM):As:=.own (.slice a n c) 127 6 (qV l)
set_option maxHeartbeats 1000000 in
def mY(c:CM)(x:CL)(hc:rr c):Cm prog 130 [vo c x] (eu c x) [] (fun h v A=>A=[]/\∃x',v=vo c x'/\eu c x' h):=by
 refine A0 40 func130 rfl rfl rfl ?_;intro F R k;obtain⟨kl,y,h0,r⟩:=k.keys;have h1:=dw y;have h9:=hc.keys;have k0:=hc.set;have k8:=hc.a6B;have k9:=hc.a6J;refine u6 ?_;intro T;refine u6 ?_;intro g2;refine x6 ?_;refine D8 [1,4,7,10] [2,5,8,11,13,15,17,19] [.blk T (.cells (lg c x).toArray 36)] 20 ?_;refine wd [0,1,3,4,6,7,9,10] ?_;refine h_ 2 rfl i6 ?_;refine e_ (iu (S_ c.set) x.sa c.set.length x.sc (cd _) (eY _) qb) (fun h l _=>k.set.le l) ?_;rintro v A ⟨z,U,rfl,rfl⟩;refine fy [12] ?_;refine h_ 5 rfl i6 ?_;refine e_ (jV (oW c.a6B) x.ia c.a6B.length x.ic (tU _) (nC _) qb) (fun h l _=>k.a6B.le l) ?_;rintro v A ⟨D,V,rfl,rfl⟩;refine V2 ?_;refine h_ 8 rfl i6 ?_;refine e_ (ab c.a6J x.fa x.fc qb) (fun h l _=>k.a6J.le l) ?_;rintro v A ⟨J,X,rfl,rfl⟩;refine V2 ?_;refine h_ 11 rfl i6 ?_;refine e_ (wq (qV kl) x.ka c.keys.length x.kc (by rw[tV,h1]) (Lx _) qb) (fun h l _=>h0.le l) ?_;rintro v A ⟨q,s,rfl,rfl⟩;refine D7 [13,14,15,16,17,18,19] ?_;refine C6 (Z:=[X1 z c.set U,ce D c.a6B V,B0 J c.a6J X]) tk fun M O ⟨bs,o⟩=>?_;have h2:n9 M.heap z (S_ c.set):=A_.rd o ud;have h3:n9 M.heap D (oW c.a6B):=A_.rd o ud;have h4:n9 M.heap J (fV c.a6J):=A_.rd o ud;clear o;refine P1 ?_;refine bV (ι:=Nat×l9×List KM) (fun i=>i.1<=c.keys.length/\M.le i.2.1/\i.2.2.map KM.k=c.keys/\∀m∈i.2.2,n9 i.2.1.heap m.a (S_ m.k.set)) (fun i=>[(1,i8 T),(2,i8 g2),(22,r7 c.keys.length),(23,r7 i.1)]) (fun i=>i.2.1)
  (fun i=>.blk T (.cells (lg c ⟨z,U,D,V,q,s,J,X⟩).toArray 36)::yB q c.keys.length s i.2.2::.blk g2 (.cells (lg iK I0).toArray 36)::R) (fun i=>c.keys.length-i.1) (0,M,kl) ⟨zp _,l9.le_refl _,y,fun m Q=>(r m Q).le O.heap⟩ sub rfl ?_ ?_
 ·intro w u;exact(tk (C:=[_,_,_])).hp u
 rintro⟨j,F2,k2⟩ ⟨hj,d,e,p⟩;simp only at hj d e p;have h7:k2.length=c.keys.length:=dw e;refine T2 ?_ ?_<;>intro h
 ·have f:j<k2.length:=by have:=zy h;omega
  have h8:k2[j].k.set.length<=64:=(hc.ksets _ (by rw[<-e];exact jr.2 ⟨_,zm f,rfl⟩)).1;refine B7 (a:=q) (n:=c.keys.length) (c:=s) (sz:=6) (xs:=qV k2) (te:=127) ud fun _ _ g=>?_;have g:=g qb;refine A5 ?_;refine D8 [1,4,8] [9,12] [yB q c.keys.length s k2,.blk T (.cells (lg c ⟨z,U,D,V,q,s,J,X⟩).toArray 36)] 13 ?_;refine wd [0,1,2,3,4,5,6,7] ?_;refine o7 8 rfl R6 (l5 rfl (fun w u=>cT (j:=5) (u.ownN (t:=127) ud).2.2.1 S7 f rfl x7)) G3 rfl rfl rfl i6 ?_;refine h_ 9 rfl i6 ?_;refine e_ (iu (S_ k2[j].k.set) k2[j].a k2[j].k.set.length k2[j].c (cd _) (eY _) qb) (fun h l _=>(p _ (zm f)).le l) ?_;rintro v A ⟨S,Y,rfl,rfl⟩;refine fy [10,11] ?_;refine h_ 12 rfl i6 ?_;refine A6 (C:=aX) ⟨k2[j].k,S,Y⟩ S7 f (j:=5) rfl ?_;refine D7 [] ?_;refine C6 (Z:=[X1 S k2[j].k.set Y]) tk fun F3 b ⟨bs,o⟩=>?_;have h6:n9 F3.heap S (S_ k2[j].k.set):=A_.rd o ud;clear o;refine A5 ?_;refine Q_ (j+1,F3,k2.set j ⟨k2[j].k,S,Y⟩) ⟨by simp only;omega,d.trans b,(a2g f ⟨k2[j].k,S,Y⟩ rfl).trans e,fun m Q=>?_⟩ qg sub rfl (fun w u=>(tk (C:=[_,_,_])).hp u);rcases Qj Q with h5|rfl
  ·exact(p m h5).le b.heap
  ·exact h6
 ·refine x6 ?_;refine C6 (Z:=[yB q c.keys.length s k2]) tk fun F3 b ⟨bs,o⟩=>?_;have r:n9 F3.heap q (qV k2):=A_.rd o ud;refine M4 ?_;refine I4 (A:=[]) (v:=vo c ⟨z,U,D,V,q,s,J,X⟩) ((O.trans d).trans b) ⟨rfl,_,rfl,h2.le (d.trans b).heap,h3.le (d.trans b).heap,⟨k2,e,r,fun m Q=>(p m Q).le b.heap⟩,h4.le (d.trans b).heap⟩ ?_;exact H7 rfl rfl ud rfl _ qh (fun w u=>Ou.hp sfx u)
def L6{h:l_}{Z a:List As}{g:Nat}{cs:Array Value}{te:zk}(hz:∃bs,A_ h Z bs)(u:N1 Z (.blk g (.cells cs te (0,0))) [] a:=by exact ud):h g=some (.cells cs te (0,0)):=by
 obtain⟨bs,b⟩:=hz;obtain⟨d,c⟩:=A_.get b u;exact c.2
instance {g:Nat} {o:Obj}:Mn (fun h=>h g=some o):=⟨fun l k=>l _ _ k⟩
abbrev aY(g:Nat)(v:Value)(t:zk)(h:l_):Prop:=h g=some (.cells #[v] t (0,0))
def dN(m n:Nat):Value.bool (decide (((m:Nat):Int)=((n:Nat):Int)))=.bool (decide (m=n)):=qn (kz.2 Jn)
def PM(g:Nat)(a:Bs)(b:BM):Pu prog 189 [KL b,i8 g] (aY g (B a) 9) (.bool (decide (b.name=a))):=by
 refine b_ 8 func189 rfl rfl rfl ?_;intro F c;refine u6 ?_;intro e;refine Oq ?_;exact d_ rfl rfl [] qh (fun w d=>d.dropAll)
def GC(g:Nat)(n:Nat)(x:SX):Pu prog 127 [.agg (ji x).toArray,i8 g] (aY g (.int .u64 (n:Nat)) 27) (.bool (decide (x.ses=n))):=by
 refine b_ 8 func127 rfl rfl rfl ?_;intro F a;refine u6 ?_;intro c;refine P1 ?_;refine f_ ((q_ rfl rfl).eq (dN x.ses n)) ?_;refine D0 ?_;exact d_ rfl rfl [] qh (fun w b=>b.dropAll)
def GD(g:Nat)(n:Int)(x:HO):Pu prog 183 [.agg (eO x).toArray,i8 g] (aY g (.int .i64 n) 3) (.bool (decide (x.node=n))):=by
 refine b_ 8 func183 rfl rfl rfl ?_;intro F a;refine u6 ?_;intro c;refine Oq ?_;exact d_ rfl rfl [] qh (fun w b=>b.dropAll)
def yC(g k:Nat)(n:Int)(t:Nat)(x:SX):Pu prog 184 [.agg (ji x).toArray,i8 g,i8 k] (fun h=>aY g (.int .i64 n) 3 h/\aY k (.int .u64 (t:Nat)) 27 h) (.bool (decide (x.node=n/\x.tr=t))):=by
 obtain⟨a,b⟩:=o9 (decide (x.node=n));obtain⟨e,c⟩:=o9 (decide (x.tr=t));rw[show decide (x.node=n/\x.tr=t)=(a&&e) from by rw[b,c,Bool.decide_and]];refine b_ 15 func184 rfl rfl rfl ?_;rintro F ⟨f,d⟩
 cases a
 all_goals (
  refine u6 ?_;intro j;refine P1 ?_;refine f_ ((q_ rfl rfl).eb b) ?_;refine P1 ?_;(first|refine u_ ?_|(refine v_ ?_;refine f_ ((q_ rfl rfl).eq ((dN x.tr t).trans (qn c.symm))) ?_));refine A5 ?_)
 all_goals (refine B4 ?_;exact d_ rfl rfl [] qh (fun w i=>i.dropAll))
def oY(m:MM)(a:Bs)(l:m.a6u.length<=1000):Pu prog 109 [rW m,B a] (fun h=>n9 h m.ba (fv m.a6u)) (.int .i64 (D9 (fun b=>decide (b.name=a)) m.a6u)):=by
 refine b_ 9 func109 rfl rfl rfl ?_;intro F e;refine D1 ?_;refine m8 rfl rfl ?_;intro n;refine M1 rfl rfl rfl ?_;intro c;refine u6 ?_;refine C6 (Z:=[.blk c (.cells #[B a] 9)]) tk fun g d i=>?_;have j:aY c (B a) 9 g.heap:=L6 i;refine E8 ?_;refine c_ rfl (mV bR o_ m.a6u m.ba m.bc 189 [i8 c] (aY c (B a) 9) (fun b=>decide (b.name=a)) (fun b _=>PM c a b) qb) (fun h f _=>⟨(e.le d.heap).le f,f _ _ j⟩) rfl ?_;refine D0 ?_;exact E0 d (d_ rfl rfl [] qh (fun w k=>k.dropAll))
def LC(m:MM)(n:Nat)(j:m.a6w.length<=1000):Pu prog 67 [rW m,.int .u64 (n:Nat)] (fun h=>n9 h m.sa (KN m.a6w)) (.int .i64 (D9 (fun x=>decide (x.ses=n)) m.a6w)):=by
 refine b_ 9 func67 rfl rfl rfl ?_;intro F c;refine D1 ?_;refine m8 rfl rfl ?_;intro k;refine M1 rfl rfl rfl ?_;intro a;refine u6 ?_;refine C6 (Z:=[.blk a (.cells #[.int .u64 (n:Nat)] 27)]) tk fun e b f=>?_;have g:aY a (.int .u64 (n:Nat)) 27 e.heap:=L6 f;refine E8 ?_;refine c_ rfl (aS ji P6 m.a6w m.sa m.sc 127 [i8 a] (aY a (.int .u64 (n:Nat)) 27) (fun x=>decide (x.ses=n)) (fun x _=>GC a n x) qb) (fun h d _=>⟨(c.le b.heap).le d,d _ _ g⟩) rfl ?_;refine D0 ?_;exact E0 b (d_ rfl rfl [] qh (fun w i=>i.dropAll))
def LD(m:MM)(n:Int)(j:m.a6v.length<=1000):Pu prog 101 [rW m,.int .i64 n] (fun h=>n9 h m.ha (KO m.a6v)) (.int .i64 (D9 (fun x=>decide (x.node=n)) m.a6v)):=by
 refine b_ 9 func101 rfl rfl rfl ?_;intro F c;refine D1 ?_;refine m8 rfl rfl ?_;intro k;refine M1 rfl rfl rfl ?_;intro a;refine u6 ?_;refine C6 (Z:=[.blk a (.cells #[.int .i64 n] 3)]) tk fun e b f=>?_;have g:aY a (.int .i64 n) 3 e.heap:=L6 f;refine E8 ?_;refine c_ rfl (lA eO L_ m.a6v m.ha m.hc 183 [i8 a] (aY a (.int .i64 n) 3) (fun x=>decide (x.node=n)) (fun x _=>GD a n x) qb) (fun h d _=>⟨(c.le b.heap).le d,d _ _ g⟩) rfl ?_;refine D0 ?_;exact E0 b (d_ rfl rfl [] qh (fun w i=>i.dropAll))
def Dx(m:MM)(n:Int)(t:Nat)(l:m.a6w.length<=1000):Pu prog 102 [rW m,.int .i64 n,.int .u64 (t:Nat)] (fun h=>n9 h m.sa (KN m.a6w)) (.int .i64 (D9 (fun x=>decide (x.node=n/\x.tr=t)) m.a6w)):=by
 refine b_ 11 func102 rfl rfl rfl ?_;intro F d;refine D1 ?_;refine m8 rfl rfl ?_;intro o;refine M1 rfl rfl rfl ?_;intro a;refine M1 rfl rfl rfl ?_;intro b;refine u6 ?_;refine C6 (Z:=[.blk a (.cells #[.int .i64 n] 3),.blk b (.cells #[.int .u64 (t:Nat)] 27)]) tk fun f c g=>?_;have i:aY a (.int .i64 n) 3 f.heap:=L6 g;have j:aY b (.int .u64 (t:Nat)) 27 f.heap:=L6 g;refine E8 ?_;refine c_ rfl (aS ji P6 m.a6w m.sa m.sc 184 [i8 a,i8 b] (fun h=>aY a (.int .i64 n) 3 h/\aY b (.int .u64 (t:Nat)) 27 h) (fun x=>decide (x.node=n/\x.tr=t)) (fun x _=>yC a b n t x) qb) (fun h e _=>⟨(d.le c.heap).le e,e _ _ i,e _ _ j⟩) rfl ?_;refine D0 ?_;exact E0 c (d_ rfl rfl [] qh (fun w k=>k.dropAll))
end Go.Proofs.YtmcepdopookilaaGreatDoor.Rp
namespace Go.Sl
open Go Go.RowKit Go.Proofs.Tryz
def sat_blks{h:l_}(g:Nat->Obj):∀(l:zz),(∀b∈l,h b=some (g b))->A_ h (l.map fun b=>.blk b (g b)) l
 |[],_=>rfl
 |b::t,hb=>⟨[b],t,rfl,⟨rfl,hb b x7⟩,sat_blks g t fun c hc=>hb c (by simp[hc])⟩
def jX{h:l_}(g:Nat->Obj):∀(l:zz) (bs:zz),A_ h (l.map fun b=>.blk b (g b)) bs->∀b∈l,h b=some (g b)
 |[],_,_,b,a=>by cases a
 |c::t,bs,⟨b1,b2,_,h1,h2⟩,b,a=>by
  rcases jv.1 a with rfl|a
  ·exact h1.2
  ·exact jX g t _ h2 b a
def Hp.thaw{F d:l9}{w:World}{H:List As}(hl:F.le d)(f:Hp d w H):∃Z,Hp F w (H++Z)/\∀h bs,l_.le F.heap h->A_ h Z bs->l_.le d.heap h:=by
 let l:=(List.range w.heap.size).filter fun b=>(d.heap b).isSome&&(F.heap b).isNone
 let g:Nat->Obj:=fun b=>(d.heap b).getD (.cells #[] 0)
 have hg:∀b∈l,d.heap b=some (g b)/\F.heap b=none:=fun b c=>by
  have j:=(Q0.1 c).2;simp only[jw,Option.isNone_iff_eq_none] at j;obtain⟨o,i⟩:=Z4.1 j.1;exact⟨by show _=some ((d.heap b).getD _);rw[i];rfl,j.2⟩
 obtain⟨bs,hs,r,hf⟩:=f.own;refine⟨l.map fun b=>.blk b (g b),⟨f.os.trans hl.os,f.tape.trans hl.tape,f.output.trans hl.output,l_.le_trans hl.heap f.keep,bs++l,A_.append hs (sat_blks g l fun b c=>f.keep _ _ (hg b c).1),?_,?_⟩,?_⟩
 ·refine Qg.2 ⟨r,List.Pairwise.filter _ List.nodup_range,fun a ha b c e=>?_⟩;subst e;have:=hf a ha;rw[(hg a c).1] at this
  cases this
 ·intro b c;rcases kw.1 c with c|c
  ·cases e:F.heap b with
   |none=>rfl
   |some o=>have:=hl.heap b o e;rw[hf b c] at this;cases this
  ·exact(hg b c).2
 ·intro h s k m b o i;by_cases hm:b∈l
  ·have j:=jX g l s m b hm;have p:=(hg b hm).1;rw[i] at p;rw[j];exact p.symm
  ·have n:b<w.heap.size:=by
    have t:w.heap[b]? =some o:=f.keep b o i;exact(jp.1 t).1
   cases e:F.heap b with
   |some o'=>
    have q:=hl.heap b o' e;rw[i] at q;rw[k b o' e];exact q.symm
   |none=>exact absurd (Q0.2 ⟨List.mem_range.2 n,by simp[i,e]⟩) hm
section
variable{P:zj}{N:Nat}{K R:A1}{E:List (Nat×A1)}{L:G9}{F:l9}{H:List As}{ops:Array Oper}{rest:List Oper}{ty:zk}{pos:String}{af:Array Edge}{dst:Option Nat}{gd:Option (Nat×Bool)}{x:zw}
def G6{d:Nat}{f:FuncId}{args:List zw}{i:Array zk}{vs:zq}{b:l_->Prop}{C Rr:List As}{Q:l_->Value->List As->Prop}[HF P f](hc:Cm P f vs b C Q)(c:b F.heap)(k:∀v A Z g,(∀h bs,l_.le F.heap h->A_ h Z bs->l_.le g h)->Q g v A->GL P N ops rest K E R ((d,v)::L) F (A++(Rr++Z)))(hx:rI L args=some vs:=by rfl)(hH:y9 C H Rr:=by exact tk)(l:Nat.blt d N=true:=by rfl):
  GL P N ops (⟨some d,.call ⟨.value (.func f),args.toArray,i⟩,ty,pos,af,none⟩::rest) K E R L F H:=by
 unfold GL at k⊢;intro a w hf m;refine wpList_plain rfl fun s n=>?_;unfold Oper.wp;rw[bu hx hf.agr w,Oper.upon_enter];refine(hc F Rr w (hH.hp m) c).mono ?_;rintro e t ⟨v,A,g,rfl,o,p,j⟩;obtain⟨Z,q,r⟩:=j.thaw o;exact n _ _ (k v A Z g.heap r p _ _ (hf.put l v) (by rw[<-ky];exact q))
def Tj{Rr Z:List As}(b:l_)(hz:∀h bs,l_.le F.heap h->A_ h Z bs->l_.le b h)(hH:∀w,Hp F w H->Hp F w (Rr++Z))(k:∀a,F.le a->l_.le b a.heap->GL P N ops rest K E R L a Rr):GL P N ops rest K E R L F H:=
 z_ hH (rL fun a c ⟨bs,d⟩=>k a c (hz _ bs c.heap d))
def Be{c:Code}{Rr Z:List As}(b:l_)(hz:∀h bs,l_.le F.heap h->A_ h Z bs->l_.le b h)(hH:∀w,Hp F w H->Hp F w (Rr++Z))(k:∀a,F.le a->l_.le b a.heap->G P N c K E R L a Rr):G P N c K E R L F H:=
 C5 hH (cy fun a d ⟨bs,e⟩=>k a d (hz _ bs d.heap e))
end
end Go.Sl
namespace Go.Proofs.YtmcepdopookilaaGreatDoor.Rp
open Go Go.Sl Go.RowKit Go.Proofs.Tryz
def jY{α β:Type}{f:α->β}{l:List α}{j:Nat}(a:j<l.length)(m:α)(b:f m=f l[j]):(l.set j m).map f=l.map f:=by
 rw[K0,b,<-Wj f (h:=by simpa using a)];exact Kj _
def PN(b:BM)(h:l_)(v:Value)(A:List As):Prop:=∃b':BM,v=KL b'/\b'.x=b.x/\A=[O7 b'.a b'.ls b'.c]/\iP b'.ls h
def mr(b:BM)(hl:b.ls.length<=1000)(hf:∀x∈b.ls,x.t.a6J.length<=1000):Cm prog 125 [KL b] (eZ b) [] (PN b):=by
 refine A0 28 func125 rfl rfl rfl ?_;intro F R p;refine D1 ?_;refine m8 rfl rfl ?_;intro u;refine i7 rfl ?_;intro D;refine A5 ?_;refine e_ (fX (qW b.ls) b.a b.ls.length b.c (AV _) (AW _) qb) (fun h J _=>p.ls.le J) ?_;rintro v A ⟨a,c,rfl,rfl⟩;refine Y1 ?_;refine bV (ι:=Nat×l9×List LM) (fun i=>i.1<=b.ls.length/\F.le i.2.1/\i.2.2.map LM.t=b.ls.map LM.t/\iP i.2.2 i.2.1.heap) (fun i=>[(1,i8 u),(2,i8 D),(10,r7 b.ls.length),(11,r7 i.1)]) (fun i=>i.2.1)
  (fun i=>.blk u (.cells #[B b.name,.int .u64 (b.val:Nat),.int .u64 (b.next:Nat),.int .u64 (b.high:Nat),.slice a b.ls.length c] 100)::.own (.slice a b.ls.length c) 156 5 (qW i.2.2)::.blk D (.cells (bR Gz).toArray 100)::R) (fun i=>b.ls.length-i.1) (0,F,b.ls) ⟨zp _,l9.le_refl _,rfl,p.fl⟩ sub rfl ?_ ?_
 ·intro w l;exact(tk (C:=[_,_,_])).hp l
 rintro⟨j,F2,k2⟩ ⟨S,o,d,k⟩;simp only at S o d k;have q:k2.length=b.ls.length:=by have:=jh List.length d;simpa using this
 refine T2 ?_ ?_<;>intro h
 ·have f:j<k2.length:=by have:=zy h;omega
  have T:k2[j].t.a6J.length<=1000:=by
   have e:k2[j].t∈b.ls.map LM.t:=(by rw[<-d];exact jr.2 ⟨_,zm f,rfl⟩);obtain⟨y,U,V⟩:=jr.1 e;rw[<-V];exact hf y U
  refine B7 (a:=a) (n:=b.ls.length) (c:=c) (sz:=5) (xs:=qW k2) (te:=156) ud fun _ _ g=>?_;have g:=g qb;refine A5 ?_;refine D8 [1,4,8] [9,12] [.own (.slice a b.ls.length c) 156 5 (qW k2),.blk u (.cells #[B b.name,.int .u64 (b.val:Nat),.int .u64 (b.next:Nat),.int .u64 (b.high:Nat),.slice a b.ls.length c] 100)] 13 ?_;refine wd [0,1,2,3,4,5,6,7] ?_;refine o7 8 rfl R6 (l5 rfl (fun w l=>cT (j:=1) (l.ownN (t:=156) ud).2.2.1 A8 f rfl x7)) G3 rfl rfl rfl i6 ?_;refine h_ 9 rfl i6 ?_;refine e_ (ab k2[j].t.a6J k2[j].a k2[j].c qb) (fun h J _=>(k _ (zm f)).le J) ?_;rintro v A ⟨r,z,rfl,rfl⟩;refine fy [10,11] ?_;refine h_ 12 rfl i6 ?_;refine A6 (C:=R7) ⟨k2[j].t,r,z⟩ A8 f (j:=1) rfl ?_;refine D7 [] ?_;refine C6 (Z:=[B0 r k2[j].t.a6J z]) tk fun O s ⟨bs,Q⟩=>?_;have M:n9 O.heap r (fV k2[j].t.a6J):=A_.rd Q ud;clear Q;refine A5 ?_;refine Q_ (j+1,O,k2.set j ⟨k2[j].t,r,z⟩) ⟨by simp only;omega,o.trans s,(jY f ⟨k2[j].t,r,z⟩ rfl).trans d,fun m X=>?_⟩ qg sub rfl (fun w l=>(tk (C:=[_,_,_])).hp l);rcases Qj X with Y|rfl
  ·exact(k m Y).le s.heap
  ·exact M
 ·refine M4 ?_;refine I4 (A:=[O7 a k2 c]) (v:=KL ⟨b.name,b.val,b.next,b.high,k2,a,c⟩) o ⟨_,rfl,by simp only[BM.x,d],rfl,k⟩ ?_;rw[<-q];exact H7 rfl rfl ud rfl _ qh (fun w l=>(tk (C:=[.blk u _,.blk D _,O7 a k2 c])).hp l|>.drop.drop)
def PO(m:MM)(h:l_)(v:Value)(A:List As):Prop:=∃m':MM,v=rW m'/\m'.s=m.s/\A=vp m'/\∀b∈m'.a6u,iP b.ls h
structure Tk(m:MM):Prop where
 a6w:m.a6w.length<=1000
 a6v:m.a6v.length<=1000
 a6u:m.a6u.length<=1000
 ls:∀b∈m.a6u,b.ls.length<=1000
 fl:∀b∈m.a6u,∀x∈b.ls,x.t.a6J.length<=1000
def ey{α:Type}{l:List α}{j:Nat}(a:j<l.length)(b:α):(l.set j b).take (j+1)=l.take j++[b]:=by
 rw[jy (by simpa using a),List.take_set_of_le (kp _)];simp
def GE{l:List BM}{j:Nat}(c:j<l.length)(b:BM)(Z:List As):(O7 b.a b.ls b.c::(X7 (l.take j)++Z)).Perm (X7 ((l.set j b).take (j+1))++Z):=by
 rw[ey c,LB];show(O7 b.a b.ls b.c::(X7 (l.take j)++Z)).Perm ((X7 (l.take j)++[O7 b.a b.ls b.c])++Z);rw[ky];exact(Qm (l₁:=X7 (l.take j)) (a:=O7 b.a b.ls b.c) (l₂:=Z)).symm
def ub(m:MM)(M:Tk m):Cm prog 66 [rW m] (ew m) [] (PO m):=by
 refine A0 34 func66 rfl rfl rfl ?_;intro F R l;have h7:=M.a6w;have h8:=M.a6v;have h9:=M.a6u;refine D1 ?_;refine m8 rfl rfl ?_;intro O;refine i7 rfl ?_;intro V;refine A5 ?_;refine e_ (jU (KN m.a6w) m.sa m.a6w.length m.sc (Bb _) (Bc _) qb) (fun h Q _=>l.a6w.le Q) ?_;rintro v A ⟨p,q,rfl,rfl⟩;refine P1 ?_;refine e_ (tZ (KO m.a6v) m.ha m.a6v.length m.hc (Lz _) (LA _) qb) (fun h Q _=>l.a6v.le Q) ?_;rintro v A ⟨ha,hc,rfl,rfl⟩;refine P1 ?_;refine e_ (wo (fv m.a6u) m.ba m.a6u.length m.bc (nE _) (AZ _) qb) (fun h Q _=>l.a6u.le Q) ?_;rintro v A ⟨g,k,rfl,rfl⟩;refine Y1 ?_;refine bV (ι:=Nat×l9×List BM) (fun i=>i.1<=m.a6u.length/\F.le i.2.1/\i.2.2.map BM.x=m.a6u.map BM.x/\(∀b∈i.2.2.take i.1,iP b.ls i.2.1.heap)/\∀b∈i.2.2.drop i.1,eZ b i.2.1.heap) (fun i=>[(1,i8 O),(2,i8 V),(18,r7 m.a6u.length),(19,r7 i.1)]) (fun i=>i.2.1)
  (fun i=>.blk O (.cells #[.slice g m.a6u.length k,.int .u64 (m.nval:Nat),.slice ha m.a6v.length hc,.slice p m.a6w.length q,.int .u64 (m.nses:Nat),.int .u64 (m.a6G:Nat)] 62)::.own (.slice g m.a6u.length k) 100 5 (fv i.2.2)::R5 ha m.a6v hc::U1 p m.a6w q::.blk V (.cells #[.slice none 0 0,.int .u64 0,.slice none 0 0,.slice none 0 0,.int .u64 0,.int .u64 0] 62)::(X7 (i.2.2.take i.1)++R)) (fun i=>m.a6u.length-i.1) (0,F,m.a6u) ⟨zp _,l9.le_refl _,rfl,fun b e=>by simp at e,fun b e=>l.box b (List.mem_of_mem_drop e)⟩ sub rfl ?_ ?_
 ·intro w s;exact(tk (C:=[_,_,_,_,_])).hp s
 rintro⟨j,F2,k2⟩ ⟨hj,u,S,o,D⟩;simp only at hj u S o D;have T:k2.length=m.a6u.length:=by have:=jh List.length S;simpa using this
 refine T2 ?_ ?_<;>intro h
 ·have d:j<k2.length:=by have:=zy h;omega
  have X:k2[j].x∈m.a6u.map BM.x:=by rw[<-S];exact jr.2 ⟨_,zm d,rfl⟩
  obtain⟨y,hy,e2⟩:=jr.1 X;have U:k2[j].ls.map LM.t=y.ls.map LM.t:=(jh BX.lts e2).symm;have Y:k2[j].ls.length<=1000:=by have:=jh List.length U;have h5:=M.ls y hy;simp at this;omega
  have h0:∀x∈k2[j].ls,x.t.a6J.length<=1000:=fun x hx=>by
   have e3:x.t∈y.ls.map LM.t:=(by rw[<-U];exact jr.2 ⟨x,hx,rfl⟩);obtain⟨z,hz,e4⟩:=jr.1 e3;rw[<-e4];exact M.fl y hy z hz
  have h1:eZ k2[j] F2.heap:=D _ (by rw[Qc d];exact Qb);refine B7 (a:=g) (n:=m.a6u.length) (c:=k) (sz:=5) (xs:=fv k2) (te:=100) ud fun _ _ f=>?_;have f:=f qb;refine A5 ?_;refine D8 [1,4,7] [8,10] [.own (.slice g m.a6u.length k) 100 5 (fv k2),.blk O (.cells #[.slice g m.a6u.length k,.int .u64 (m.nval:Nat),.slice ha m.a6v.length hc,.slice p m.a6w.length q,.int .u64 (m.nses:Nat),.int .u64 (m.a6G:Nat)] 62)] 11 ?_;refine wd [0,1,2,3,4,5,6] ?_;refine o7 7 rfl R6 (p9 rfl (fun w s=>bK (s.ownN (t:=100) ud).2.2.1 o_ qp d x7) (o_ _)) G3 rfl rfl rfl i6 ?_;refine h_ 8 rfl i6 ?_;refine G6 (mr k2[j] Y h0) h1 ?_;rintro v A Z Fz hz ⟨r,rfl,h2,rfl,h3⟩;refine fy [9] ?_;refine h_ 10 rfl i6 ?_;refine A6 (C:=bR) r o_ d (j:=0) rfl ?_;refine D7 [] ?_;refine Be Fz hz (Rr:=O7 r.a r.ls r.c::.blk O (.cells #[.slice g m.a6u.length k,.int .u64 (m.nval:Nat),.slice ha m.a6v.length hc,.slice p m.a6w.length q,.int .u64 (m.nses:Nat),.int .u64 (m.a6G:Nat)] 62)::.own (.slice g m.a6u.length k) 100 5 (fv (k2.set j r))::R5 ha m.a6v hc::U1 p m.a6w q::.blk V (.cells #[.slice none 0 0,.int .u64 0,.slice none 0 0,.slice none 0 0,.int .u64 0,.int .u64 0] 62)::(X7 (k2.take j)++R)) (Z:=Z) i_ fun F3 J h4=>?_;refine A5 ?_;refine Q_ (j+1,F3,k2.set j r) ⟨by simp only;omega,u.trans J,(jY d r h2).trans S,fun b e=>?_,fun b e=>?_⟩ qg sub rfl (fun w s=>?_)
  ·rw[ey d] at e;rcases kw.1 e with e|e
   ·exact Mn.le J.heap (o b e)
   ·obtain rfl:=z7.1 e;exact Mn.le h4 h3
  ·simp only at e;rw[K5 qb] at e;exact Mn.le J.heap (D b (by rw[Qc d];exact jn _ e))
  ·exact s.perm (((jj (l₁:=[_]) (l₂:=[_,_,_,_,_])).append_right (X7 (k2.take j)++R)).trans ((GE d r R).append_left [_,_,_,_,_]))
 ·refine M4 ?_;have k0:j=m.a6u.length:=by have:=zu h;omega
  have h6:k2.take j=k2:=jm qb;rw[h6] at o⊢;refine I4 (A:=vp ⟨k2,m.nval,m.a6v,m.a6w,m.nses,m.a6G,g,k,ha,hc,p,q⟩) (v:=rW ⟨k2,m.nval,m.a6v,m.a6w,m.nses,m.a6G,g,k,ha,hc,p,q⟩) u ⟨_,rfl,by simp only[MM.s,S],rfl,o⟩ ?_;rw[<-T];exact H7 rfl rfl ud rfl _ qh (fun w s=>(tk (C:=[.blk O _,.blk V _,U1 p m.a6w q,R5 ha m.a6v hc,U0 g k2 k])).hp s|>.drop.drop)
end Go.Proofs.YtmcepdopookilaaGreatDoor.Rp
namespace Go.Sl
open Go Go.RowKit Go.Proofs.Tryz
section
variable{P:zj}{N:Nat}{K R:A1}{E:List (Nat×A1)}{L:G9}{F:l9}{H:List As}{ops:Array Oper}{rest:List Oper}{ty:zk}{pos:String}{af:Array Edge}{t:zk}{x:zw}
def ru{z:Array Value}{n:Nat}(h:∀q∈z.toList,q.oneCell'=true):∀q∈(Builtin.zeroCells z n).toList,q.oneCell'=true:=fun q a=>by
 unfold Builtin.zeroCells at a;rw[Array.mem_toList_iff,Array.mem_map] at a;obtain⟨i,d,rfl⟩:=a;have b:i<n*z.size:=by simpa using d
 have hp:0<z.size:=by
  rcases Zq z.size with c|c
  ·rw[c] at b;omega
  ·exact c
 have e:=Nat.mod_lt i hp;rw[getElem!_pos z _ e];exact h _ x7
def jZ{a:qr}{n c sz lo k:Nat}{xs:zq}{te:zk}{z:Value}{H':zq->List As}[hu:HU P t (.slice te)][hz:HZ P te z](hx:ev L x=some (.slice (ak a c lo sz) k (c-lo)))(hk:k=n-lo)(h6:lo<=n)(y:z.cells.size=sz)(A:(z.cells.toList.all fun q=>q.oneCell')=true)(u:∀s,N1 H (.own (.slice a n c) te sz xs) [.own (.slice a n c) te sz s] (H' s))(h:∀s,s.length=xs.length->s.take (lo*sz)=xs.take (lo*sz)->GL P N ops rest K E R L F (H' s)):GL P N ops (⟨none,.call ⟨.builtin .clear,#[x],#[t]⟩,ty,pos,af,none⟩::rest) K E R L F H:=
 Lb rfl rfl fun w0 w hf U=>by
  subst hk;have d:∀C,(Builtin.clear_ #[t] ty #[.slice (ak a c lo sz) (n-lo) (c-lo)]).run P w=.ok (.tuple #[]) C->(execOp w0.eval ⟨none,.call ⟨.builtin .clear,#[x],#[t]⟩,ty,pos,af,none⟩).run P w=.ok (.value (.tuple #[])) C:=fun C hr=>by
   simp[execOp,resolve,invoke,builtin,hf.eval hx,hr]
  obtain⟨V,i,_,h7,kk⟩:=U.focus (u xs);by_cases h0:n-lo=0
  ·refine⟨_,w,H' xs,d w ?_,?_,h xs rfl rfl⟩
   ·rw[h0]
    cases ak a c lo sz<;>simp[Builtin.clear_,run_underlying hu.h]
   ·exact kk w V rfl rfl rfl (fun _ _ _=>rfl) ⟨V,[],by simp,i,rfl⟩ (by assumption) (fun _ hb=>.inl hb)
  ·rcases i with⟨j,rfl,rfl⟩|⟨g,rfl,⟨o,n',h8,pre,b,X,j,hg,v,hl,D,J,l⟩⟩
   ·injection j with e1 e2 e3;omega
   ·injection j with e1 e2 e3;subst e1 e2 e3;have M:ak (some ⟨g,o,none⟩) c lo sz=some ⟨g,o+lo*sz,none⟩:=by
     unfold ak;rw[zb qb];simp[Addr.add_lit]
    have Y:lo*sz+(n-lo)*sz=n*sz:=(by rw[<-Zj];congr 1;omega);have m:(Builtin.zeroCells z.cells (n-lo)).toList.length=(n-lo)*sz:=(by simp[size_zeroCells,y]);have e:=H6 (P:=P) g (o+lo*sz) te X (Builtin.zeroCells z.cells (n-lo)).toList 0 (pre++xs++b).toArray w hg (by simpa using l) (by rw[m];simp[v];omega) (ru (fun q O=>Q1.1 A q O));simp only[Zk,<-v] at e;have hm:=fG pre xs b (Builtin.zeroCells z.cells (n-lo)).toList (lo*sz) (by rw[m];omega);rw[hm] at e;have f:(M3 xs (lo*sz) (Builtin.zeroCells z.cells (n-lo)).toList).length=xs.length:=by
     simp only[M3,zg,kr,jz,m];omega
    refine⟨_,_,H' (M3 xs (lo*sz) (Builtin.zeroCells z.cells (n-lo)).toList),d (w.setRow g (pre++M3 xs (lo*sz) (Builtin.zeroCells z.cells (n-lo)).toList++b).toArray) ?_,?_,h _ f ?_⟩
    ·rw[M]
     cases O:n-lo with
     |zero=>omega
     |succ q=>
      rw[O] at e;rw[v] at e;simp[Builtin.clear_,run_underlying hu.h,hz.h,e]
    ·obtain⟨b3,p,_,_,Q⟩:=U.focus (u (M3 xs (lo*sz) (Builtin.zeroCells z.cells (n-lo)).toList));rcases p with⟨r,_,_⟩|⟨g3,rfl,h3⟩
     ·cases r
     ·obtain⟨o3,n3,Z,h1,S,h9,r,k0,k8,k9,h2,h4,h5⟩:=h3;injection r with e1 e2 e3;injection e1 with e1;injection e1 with e1 e4;subst e1;refine Q _ [g] rfl rfl rfl (fun c hc T=>setRow_other w g c _ (by simpa using T)) ⟨[g],[],rfl,.inr ⟨g,rfl,⟨o,n,c,pre,b,X,rfl,setRow_heap w g _ _ te _ hg,v,by rw[f];exact hl,?_,J,?_⟩⟩,rfl⟩ x7 (fun c hc=>.inl hc)
      ·simp only[zg,f];simpa using D
      ·simp only[zg,f] at l⊢;exact l
    ·unfold M3;rw[ky,Kv (by simp;omega),List.take_take,Nat.min_self]
def ue{d:Nat}{s x:zw}{a b:qr}{n c k m S sz:Nat}{xs news:zq}{e:zk}{H':List As}[hu:HU P t (.slice e)][hs:HS P e sz](T:ev L s=some (.slice a k c))(U:ev L x=some (.slice b m S))(u0:N1 H (.own (.slice a n c) e sz xs) [.own (.slice a n c) e sz xs] H)(u:N1 H (.own (.slice a n c) e sz xs) [.own (.slice a n c) e sz (M3 xs (k*sz) news)] H')(hsrc:∀w,Hp F w H->KX (hp w) b news)(hl:news.length=m*sz)(V:0<sz)(h1:∀q∈news,q.oneCell'=true)(hk:k+m<=n)(hd:Nat.blt d N=true)(h:GL P N ops rest K E R ((d,.slice a (k+m) c)::L) F H'):
  GL P N ops (⟨some d,.call ⟨.builtin .append,#[s,x],#[t,t]⟩,ty,pos,af,none⟩::rest) K E R L F H:=
 T4 rfl rfl hd fun w0 w hf hw=>by
  have l:∀X Y,(Builtin.append_ #[t,t] ty #[.slice a k c,.slice b m S]).run P w=.ok X Y->
    (execOp w0.eval ⟨some d,.call ⟨.builtin .append,#[s,x],#[t,t]⟩,ty,pos,af,none⟩).run P w=.ok (.value X) Y:=fun X Y M=>by
   simp[execOp,resolve,invoke,builtin,hf.eval T,hf.eval U,M]
  obtain⟨b2,p,Z,h8,kk⟩:=hw.focus u;by_cases hm0:m=0
  ·subst hm0;have O:news=[]:=js (by simpa using hl);subst O;have y:k<=c:=by
    rcases p with⟨i,_,_⟩|⟨g,_,⟨o,n',h0,pre,f,fr,i,_,_,_,_,y,_⟩⟩
    ·injection i with e1 e2 e3;omega
    ·injection i with e1 e2 e3;omega
   refine⟨.slice a (k+0) c,w,H',l _ _ ?_,?_,h⟩
   ·have h2:(Builtin.firstCells sz 0 (.slice b 0 S)).run P w=.ok #[] w:=by cases b<;>simp[Builtin.firstCells,loadCells,loadCellsFrom]
    cases a<;>simp[Builtin.append_,run_underlying hu.h,hs.h,Builtin.lenOf,y,h2,storeCells]
   ·refine kk w b2 rfl rfl rfl (fun _ _ _=>rfl) ⟨b2,[],by simp,?_,rfl⟩ Z (fun _ hb=>.inl hb);have:M3 xs (k*sz) []=xs:=(by simp[M3]);rw[this];exact p
  ·have h3:news≠[]:=by
    rintro rfl;have:0<m*sz:=Jv qb V;simp at hl;omega
   obtain⟨ad,rfl,z⟩:=hsrc w hw h3;have r:∀j u,news[j]? =some u->w.cell? (ad.add j)=some u:=z;rcases p with⟨i,rfl,rfl⟩|⟨g,rfl,⟨o,n',h0,pre,f,fr,i,hg,ho,h4,h5,y,C⟩⟩
   ·injection i with e1 e2 e3;omega
   ·injection i with e1 e2 e3;subst e1 e2 e3;have D:k+m<=c:=(by omega);have Q:(⟨g,o,none⟩:Addr).add (k*sz)=⟨g,o+k*sz,none⟩:=Addr.add_lit _ _ _;have h6:k*sz+news.length<=xs.length:=by
     have:(k+m)*sz<=n*sz:=Qr _ hk;rw[Zj] at this;omega
    have v:=H6 (P:=P) g (o+k*sz) e fr news 0 (pre++xs++f).toArray w hg (by simpa using C) (by simp;omega) h1;have A:=run_firstCells_some (P:=P) w sz m ad m S news hl r;simp only[Zk,<-ho] at v;rw[fG pre xs f news (k*sz) h6] at v;have J:(M3 xs (k*sz) news).length=xs.length:=by
     simp only[M3,zg,kr,jz];omega
    refine⟨.slice (some ⟨g,o,none⟩) (k+m) c,w.setRow g (pre++M3 xs (k*sz) news++f).toArray,H',l _ _ ?_,?_,h⟩
    ·rw[ho] at v;simp[Builtin.append_,run_underlying hu.h,hs.h,Builtin.lenOf,D,A,Q];simp at v;simp[v]
    ·refine kk _ [g] rfl rfl rfl (fun q hq h7=>setRow_other w g q _ (by simpa using h7)) ⟨[g],[],rfl,.inr ⟨g,rfl,⟨o,n,c,pre,f,fr,rfl,setRow_heap w g _ _ e _ hg,ho,by rw[J];exact h4,?_,y,?_⟩⟩,rfl⟩ x7 (fun q hq=>.inl hq)
     ·simp only[zg,J];simpa using h5
     ·simp only[zg,J] at C⊢;exact C
def fZ{dst:Option Nat}{gd:Option (Nat×Bool)}{a:qr}{n c e sz:Nat}{lo:Option zw}{d f:zw}{q r:IntKind}{i j m:Int}[hu:HU P t (.slice e)][hs:HS P e sz](hx:ev L x=some (.slice a n c))(b:CV L lo 0=some i)(g:ev L d=some (.int q j))(h:ev L f=some (.int r m))(k:0<=i/\i<=j/\j<=m/\m<=c):
  E5 P ⟨dst,.slice t x lo (some d) (some f),ty,pos,af,gd⟩ L (.slice (ak a m.toNat i.toNat sz) (j.toNat-i.toNat) (m.toNat-i.toNat)):=
 by
  unfold E5;intro ρ w hf;have s:=hf _ _ g;have v:=hf _ _ h;have l:(Instr.sliceBounds true n c (lo.map ρ) (some (ρ d)) (some (ρ f))).run P w=.ok (i.toNat,j.toNat,m.toNat) w:=by
   rw[s,v]
   cases lo with
   |none=>
    simp only[CV,Q8] at b;subst b;have o:¬max m 0<j:=(by omega);simp[Instr.sliceBounds,Instr.sliceBound,asIntOf,k.2.2.2,show 0<=m from by omega,show 0<=j from by omega,o]
   |some o2=>
    have y:∃kk,ρ o2=.int kk i:=by
     simp only[CV] at b
     cases e:ev L o2 with
     |none=>rw[e] at b;cases b
     |some u=>rw[e] at b;cases u<;>simp at b;subst b;exact⟨_,hf _ _ e⟩
    obtain⟨z,p⟩:=y;have A:i<=max j 0:=(by omega);have o:j<=max m 0:=(by omega);simp[Instr.sliceBounds,Instr.sliceBound,p,asIntOf,k.1,k.2.2.2,show 0<=m from by omega,show 0<=j from by omega,A,o]
  have C:(Instr.slice t (.slice a n c) (lo.map ρ) (some (ρ d)) (some (ρ f))).run P w=.ok (.slice (ak a m.toNat i.toNat sz) (j.toNat-i.toNat) (m.toNat-i.toNat)) w:=by
   simp only[Instr.slice,Sem.run_bind,run_underlying hu.h,Result.andThen_ok,l,hs.h,Sem.run_pure,ak]
  have D:(Instr.sliceAt t (.slice a n c) (lo.map ρ) (some (ρ d)) (some (ρ f))).run P w=.ok (.slice (ak a m.toNat i.toNat sz) (j.toNat-i.toNat) (m.toNat-i.toNat)) w:=by
   simp only[Instr.sliceAt,Sem.run_bind,run_underlying hu.h,Result.andThen_ok,C]
  simp only[execOp,hf _ _ hx];rw[show(some d:Option zw).map ρ=some (ρ d) from rfl,show(some f:Option zw).map ρ=some (ρ f) from rfl,Sem.run_bind,D];rfl
def P7{α β γ:Type}{c:Code}(b:α->β->γ->Prop)(d:α->β->γ->G9)(HI:α->β->γ->List As)(μ:α->β->γ->Nat)(e:α)(f:β)(z0:γ)(g:b e f z0)(i:fE (d e f z0) L)(hH:∀w,Hp F w H->Hp F w (HI e f z0))(round:∀x y z,b x y z->G P N c (fun a w=>∃j:α×β×γ,b j.1 j.2.1 j.2.2/\μ j.1 j.2.1 j.2.2<μ x y z/\H5 N (d j.1 j.2.1 j.2.2) a/\Hp F w (HI j.1 j.2.1 j.2.2)) E R (d x y z) F (HI x y z)):G P N (.loop c) K E R L F H:=
 o8 (ι:=α×β×γ) (fun j=>b j.1 j.2.1 j.2.2) (fun j=>d j.1 j.2.1 j.2.2) (fun j=>HI j.1 j.2.1 j.2.2) (fun j=>μ j.1 j.2.1 j.2.2) (e,f,z0) g i hH fun j h=>round j.1 j.2.1 j.2.2 h
def wt{α β γ:Type}{c:Code}(b:α->β->γ->Prop)(f:α->β->γ->G9)(g:α->β->γ->l9)(HI:α->β->γ->List As)(μ:α->β->γ->Nat)(d:α)(e:β)(z0:γ)(i:b d e z0)(k:fE (f d e z0) L)(l:g d e z0=F)(hH:∀w,Hp F w H->Hp F w (HI d e z0))(round:∀x y z,b x y z->G P N c (fun a w=>∃j:α×β×γ,b j.1 j.2.1 j.2.2/\μ j.1 j.2.1 j.2.2<μ x y z/\H5 N (f j.1 j.2.1 j.2.2) a/\Hp (g j.1 j.2.1 j.2.2) w (HI j.1 j.2.1 j.2.2)) E R (f x y z) (g x y z) (HI x y z)):G P N (.loop c) K E R L F H:=
 bV (ι:=α×β×γ) (fun j=>b j.1 j.2.1 j.2.2) (fun j=>f j.1 j.2.1 j.2.2) (fun j=>g j.1 j.2.1 j.2.2) (fun j=>HI j.1 j.2.1 j.2.2) (fun j=>μ j.1 j.2.1 j.2.2) (d,e,z0) i k l hH fun j h=>round j.1 j.2.1 j.2.2 h
end
def n8{P:zj}{N:Nat}{K R:A1}{E:List (Nat×A1)}{L:G9}{F:l9}{H:List As}{c:Code}{ι:Type}(d:ι->Prop)(L':ι->G9)(H':ι->List As)(f:G P N c (fun a w=>∃i,d i/\H5 N (L' i) a/\Hp F w (H' i)) E R L F H)(g:∀i,d i->At N K (L' i) F (H' i)):G P N c K E R L F H:=by
 unfold G At at*;intro a w hf b;refine Code.wp_mono (fun e a w q=>?_) (f a w hf b)
 cases e with
 |normal=>obtain⟨i,hp,hf,b⟩:=q;exact g i hp a w hf b
 |_=>exact q
def g_{N:Nat}{L:G9}{F:l9}{H:List As}{ι:Type}{b:ι->Prop}{L':ι->G9}{H':ι->List As}(i:ι)(hp:b i)(hH:∀w,Hp F w H->Hp F w (H' i))(hs:fE (L' i) L:=by exact sub):At N (fun a w=>∃i,b i/\H5 N (L' i) a/\Hp F w (H' i)) L F H:=by
 unfold At;exact fun a w hf c=>⟨i,hp,hf.sub hs,hH w c⟩
end Go.Sl
namespace Go.Proofs.YtmcepdopookilaaGreatDoor.Rp
open Go Go.Sl Go.RowKit Go.Proofs.Tryz
abbrev mZ(f:Bs):zq:=[B f]
def V6:∀x,(mZ x).length=1:=fun _=>rfl
def ke(l:List Bs):fV l=l.flatMap mZ:=by induction l with
 |nil=>rfl
 |cons x t ih=>rw[Q4,<-ih];rfl
def ez(a:qr)(c sz:Nat):ak a c 0 sz=a:=by
 unfold ak;split
 ·rfl
 ·cases a with
  |none=>rfl
  |some ad=>obtain⟨b,o,w⟩:=ad;simp[Addr.add]
def L7{α:Type}(q:α->Bool){l:List α}{j:Nat}(a:j<l.length):(l.take (j+1)).filter q=(l.take j).filter q++if q l[j] then[l[j]] else[]:=by
 rw[jy a,W1];congr 1;simp[List.filter];split<;>simp_all
def ki{α:Type}{q:α->Bool}{l:List α}{j:Nat}(h:D9 q l=(j:Nat)):j<l.length/\(∀(g:j<l.length),q l[j]=true)/\(l.take j).filter (fun x=>!q x)=l.take j:=by
 unfold D9 at h
 cases h1:l.findIdx? q with
 |none=>rw[h1] at h;simp only[Option.elim] at h;omega
 |some i=>
  rw[h1] at h;simp only[Option.elim] at h;have:i=j:=by omega
  subst this;obtain⟨c,d,a⟩:=jg.1 h1;refine⟨c,fun _=>d,Wd.2 fun x e=>?_⟩;obtain⟨k,f,rfl⟩:=Zp e;have b:k<i:=by simp at f;omega
  rw[Jj];simpa using a k b
def gK{α:Type}{q:α->Bool}{l:List α}(h:D9 q l= -1):l.filter (fun x=>!q x)=l:=by
 unfold D9 at h
 cases h1:l.findIdx? q with
 |none=>
  rw[Zx] at h1;exact Wd.2 fun x a=>by simpa using h1 x a
 |some i=>rw[h1] at h;simp only[Option.elim] at h;omega
def nf(l:List Bs)(a:qr)(c:Nat)(f:FuncId)[HF prog f](qs:zq)(d:l_->Prop)[Mn d](q:Bs->Bool)(p:∀x∈l,Pu prog f (B x::qs) d (.bool (q x)))(hl:l.length<=1000000000000):Pu prog 340 [.slice a l.length c,.func (.func f) #[] qs.toArray] (fun h=>n9 h a (l.flatMap mZ)/\d h) (.int .i64 (D9 q l)):=by
 refine b_ 19 func340 rfl rfl rfl ?_;rintro F ⟨g,k⟩;refine P1 ?_;refine o8 (ι:=Nat) (fun j=>j<=l.length/\∀i (m:i<l.length),i<j->q l[i]=false) (fun j=>[(0,.slice a l.length c),(1,.func (.func f) #[] qs.toArray),(7,r7 l.length),(8,r7 j)]) (fun _=>[]) (fun j=>l.length-j) 0 ⟨zp _,fun i _ h=>by omega⟩ sub i_ ?_;rintro j ⟨u,e⟩;refine T2 ?_ ?_<;>intro h
 ·have b:j<l.length:=by have:=zy h;omega
  have n:=p8 g V6 qp b;refine Y1 ?_;refine r_ (l5 rfl (fun w r=>T8 (g.le r.keep) V6 qp b x7)) ?_;refine A4 (ps:=[]) _ rfl rfl rfl (p _ (zm b)) i_ (fun h s _=>Mn.le s k) rfl ?_;rintro v A ⟨rfl,rfl⟩;refine O_ ?_ ?_<;>intro o
  ·refine M4 ?_;exact d_ rfl rfl [] ⟨by rw[O3 b o e],rfl⟩ i_
  ·refine A5 ?_;refine l8 (j+1) ⟨b,fun i m h=>?_⟩ qb sub i_;rcases jd.1 h with t|rfl
   ·exact e i m t
   ·exact o
 ·have b:j=l.length:=by have:=zu h;omega
  refine D0 ?_;exact d_ rfl rfl [] ⟨by rw[O2 fun i m=>e i m qb],rfl⟩ i_
def oZ(l:List SX)(a:qr)(c:Nat)(f:FuncId)[HF prog f](qs:zq)(o:l_->Prop)[Mn o](q:SX->Bool)(hm:∀x∈l,Pu prog f (.agg (ji x).toArray::qs) o (.bool (q x)))(hl:l.length<=1000000000):Ct prog 103 [.slice a l.length c,.func (.func f) #[] qs.toArray] o [.own (.slice a l.length c) 102 5 (l.flatMap ji)] (fun v A=>v=.slice a (l.filter fun x=>!q x).length c/\A=[.own (.slice a (l.filter fun x=>!q x).length c) 102 5 ((l.filter fun x=>!q x).flatMap ji)]):=by
 refine b_ 42 func103 rfl rfl rfl ?_;intro F s;refine B7 (a:=a) (n:=l.length) (c:=c) (sz:=5) (xs:=l.flatMap ji) (te:=102) ud fun _ h7 d=>?_;refine E8 ?_;refine c_ rfl (aS ji P6 l a c f qs o q hm qb) (fun h Z ⟨bs,hb⟩=>⟨A_.rd hb ud,Mn.le Z s⟩) rfl ?_;refine eV ?_ ?_<;>intro h
 ·have hi:D9 q l= -1:=zy h;refine M4 ?_;exact d_ rfl rfl _ ⟨by rw[gK hi],rfl⟩ (fun w p=>by rw[gK hi];exact p)
 have h8:=dv q l;obtain⟨X,O⟩:∃X:Nat,D9 q l=(X:Nat):=⟨(D9 q l).toNat,by have:=zu h;omega⟩;obtain⟨D,h0,h5⟩:=ki O;rw[O];refine E8 ?_;refine P7 (fun i j m=>i<j/\j<=l.length/\m.length=l.length/\m.take i=(l.take j).filter (fun x=>!q x)/\m.drop j=l.drop j) (fun i j m=>[(0,.slice a l.length c),(1,.func (.func f) #[] qs.toArray),(5,r7 i),(6,r7 j)]) (fun i j m=>[.own (.slice a l.length c) 102 5 (m.flatMap ji)]) (fun i j m=>l.length-j) X (X+1) l ⟨Yz _,D,rfl,?_,rfl⟩ sub i_ ?_
 ·rw[L7 _ D,h5];have:=h0 D;simp[this]
 rintro i j m ⟨h9,hj,Q,g,S⟩;refine AO ?_ ?_<;>intro h
 ·have b:j<l.length:=by have:=zy h;omega
  have T:j<m.length:=by omega
  have U:i<m.length:=by omega
  have r:m[j]=l[j]:=by
   have Y:=jh (fun z=>z[0]?) S;simp only[Zc,Zk] at Y;rw[zd T,zd b] at Y;exact Qz Y
  have d:=d qb;refine E8 ?_;refine r_ (p9 rfl (fun w p=>bK (p.ownN (t:=102) ud).2.2.1 P6 qp T x7) (P6 _)) ?_;refine i7 rfl ?_;intro g7;refine E8 ?_;refine A4 (ps:=[]) _ rfl rfl rfl (hm _ (r▸zm b)) i_ (fun h Z _=>Mn.le Z s) rfl ?_;rintro v A ⟨rfl,rfl⟩;refine u6 ?_;have k:∀(V:Nat) (J:List SX),V<=j->J.length=l.length->J.take V=(l.take (j+1)).filter (fun x=>!q x)->J.drop (j+1)=l.drop (j+1)->V<j+1/\j+1<=l.length/\J.length=l.length/\J.take V=(l.take (j+1)).filter (fun x=>!q x)/\J.drop (j+1)=l.drop (j+1):=fun V J Y M h3 h4=>⟨by omega,b,M,h3,h4⟩;have u:m.drop (j+1)=l.drop (j+1):=by
   have:=jh (List.drop 1) S;simpa[K6,Wm] using this
  refine p7 rfl ?_ ?_<;>intro M
  ·have hq:q l[j]=false:=(by rw[r] at M;simpa using M);refine P1 ?_;refine A6 (C:=ji) m[j] P6 U (j:=0) rfl ?_;refine Y1 ?_;refine l8 (i:=(i,j,m)) (i+1,j+1,m.set i m[j]) (k (i+1) (m.set i m[j]) qb (by simpa using Q) ?_ ?_) qg sub (fun w p=>(tk (C:=[_])).hp p|>.left)
   ·rw[ey U,L7 _ b,g,r];simp[hq]
   ·rw[K5 qb];exact u
  ·have hq:q l[j]=true:=(by rw[r] at M;simpa using M);refine E8 ?_;refine l8 (i:=(i,j,m)) (i,j+1,m) (k i m qb Q ?_ u) qg sub (fun w p=>(tk (C:=[_])).hp p|>.left);rw[L7 _ b,g];simp[hq]
 ·have b:j=l.length:=by have:=zu h;omega
  subst b;rw[Qn] at g;have y:i=(l.filter fun x=>!q x).length:=by have:=jh List.length g;rw[kr] at this;omega
  refine A5 ?_;refine f_ (C0 rfl rfl rfl qb) ?_;refine jZ (a:=a) (n:=l.length) (c:=c) (sz:=5) (lo:=i) (xs:=m.flatMap ji) (te:=102) rfl qb qb rfl rfl (fun ys=>uh) ?_;intro ys k0 h6;refine A5 ?_;refine f_ ((C0 rfl rfl rfl qb).eq (v':=.slice a i c) (by simp[ez])) ?_;refine D0 ?_;have e:ys.take (i*5)=(l.filter fun x=>!q x).flatMap ji:=by rw[h6,aP P6,g]
  exact d_ rfl rfl _ ⟨by rw[y],rfl⟩ (fun w p=>by rw[<-y,<-e];exact p.cutOwn uh qb)
def uf(l:List LM)(a:qr)(c:Nat)(f:FuncId)[HF prog f](qs:zq)(o:l_->Prop)[Mn o](q:LM->Bool)(hm:∀x∈l,Pu prog f (.agg (R7 x).toArray::qs) o (.bool (q x)))(hl:l.length<=1000000000):Ct prog 122 [.slice a l.length c,.func (.func f) #[] qs.toArray] o [.own (.slice a l.length c) 156 5 (l.flatMap R7)] (fun v A=>v=.slice a (l.filter fun x=>!q x).length c/\A=[.own (.slice a (l.filter fun x=>!q x).length c) 156 5 ((l.filter fun x=>!q x).flatMap R7)]):=by
 refine b_ 42 func122 rfl rfl rfl ?_;intro F s;refine B7 (a:=a) (n:=l.length) (c:=c) (sz:=5) (xs:=l.flatMap R7) (te:=156) ud fun _ h7 d=>?_;refine E8 ?_;refine c_ rfl (Y6 R7 A8 l a c f qs o q hm qb) (fun h Z ⟨bs,hb⟩=>⟨A_.rd hb ud,Mn.le Z s⟩) rfl ?_;refine eV ?_ ?_<;>intro h
 ·have hi:D9 q l= -1:=zy h;refine M4 ?_;exact d_ rfl rfl _ ⟨by rw[gK hi],rfl⟩ (fun w p=>by rw[gK hi];exact p)
 have h8:=dv q l;obtain⟨X,O⟩:∃X:Nat,D9 q l=(X:Nat):=⟨(D9 q l).toNat,by have:=zu h;omega⟩;obtain⟨D,h0,h5⟩:=ki O;rw[O];refine E8 ?_;refine P7 (fun i j m=>i<j/\j<=l.length/\m.length=l.length/\m.take i=(l.take j).filter (fun x=>!q x)/\m.drop j=l.drop j) (fun i j m=>[(0,.slice a l.length c),(1,.func (.func f) #[] qs.toArray),(5,r7 i),(6,r7 j)]) (fun i j m=>[.own (.slice a l.length c) 156 5 (m.flatMap R7)]) (fun i j m=>l.length-j) X (X+1) l ⟨Yz _,D,rfl,?_,rfl⟩ sub i_ ?_
 ·rw[L7 _ D,h5];have:=h0 D;simp[this]
 rintro i j m ⟨h9,hj,Q,g,S⟩;refine AO ?_ ?_<;>intro h
 ·have b:j<l.length:=by have:=zy h;omega
  have T:j<m.length:=by omega
  have U:i<m.length:=by omega
  have r:m[j]=l[j]:=by
   have Y:=jh (fun z=>z[0]?) S;simp only[Zc,Zk] at Y;rw[zd T,zd b] at Y;exact Qz Y
  have d:=d qb;refine E8 ?_;refine r_ (p9 rfl (fun w p=>bK (p.ownN (t:=156) ud).2.2.1 A8 qp T x7) (A8 _)) ?_;refine i7 rfl ?_;intro g7;refine E8 ?_;refine A4 (ps:=[]) _ rfl rfl rfl (hm _ (r▸zm b)) i_ (fun h Z _=>Mn.le Z s) rfl ?_;rintro v A ⟨rfl,rfl⟩;refine u6 ?_;have k:∀(V:Nat) (J:List LM),V<=j->J.length=l.length->J.take V=(l.take (j+1)).filter (fun x=>!q x)->J.drop (j+1)=l.drop (j+1)->V<j+1/\j+1<=l.length/\J.length=l.length/\J.take V=(l.take (j+1)).filter (fun x=>!q x)/\J.drop (j+1)=l.drop (j+1):=fun V J Y M h3 h4=>⟨by omega,b,M,h3,h4⟩;have u:m.drop (j+1)=l.drop (j+1):=by
   have:=jh (List.drop 1) S;simpa[K6,Wm] using this
  refine p7 rfl ?_ ?_<;>intro M
  ·have hq:q l[j]=false:=(by rw[r] at M;simpa using M);refine P1 ?_;refine A6 (C:=R7) m[j] A8 U (j:=0) rfl ?_;refine Y1 ?_;refine l8 (i:=(i,j,m)) (i+1,j+1,m.set i m[j]) (k (i+1) (m.set i m[j]) qb (by simpa using Q) ?_ ?_) qg sub (fun w p=>(tk (C:=[_])).hp p|>.left)
   ·rw[ey U,L7 _ b,g,r];simp[hq]
   ·rw[K5 qb];exact u
  ·have hq:q l[j]=true:=(by rw[r] at M;simpa using M);refine E8 ?_;refine l8 (i:=(i,j,m)) (i,j+1,m) (k i m qb Q ?_ u) qg sub (fun w p=>(tk (C:=[_])).hp p|>.left);rw[L7 _ b,g];simp[hq]
 ·have b:j=l.length:=by have:=zu h;omega
  subst b;rw[Qn] at g;have y:i=(l.filter fun x=>!q x).length:=by have:=jh List.length g;rw[kr] at this;omega
  refine A5 ?_;refine f_ (C0 rfl rfl rfl qb) ?_;refine jZ (a:=a) (n:=l.length) (c:=c) (sz:=5) (lo:=i) (xs:=m.flatMap R7) (te:=156) rfl qb qb rfl rfl (fun ys=>uh) ?_;intro ys k0 h6;refine A5 ?_;refine f_ ((C0 rfl rfl rfl qb).eq (v':=.slice a i c) (by simp[ez])) ?_;refine D0 ?_;have e:ys.take (i*5)=(l.filter fun x=>!q x).flatMap R7:=by rw[h6,aP A8,g]
  exact d_ rfl rfl _ ⟨by rw[y],rfl⟩ (fun w p=>by rw[<-y,<-e];exact p.cutOwn uh qb)
def Dy(l:List Bs)(a:qr)(c:Nat)(f:FuncId)[HF prog f](qs:zq)(o:l_->Prop)[Mn o](q:Bs->Bool)(hm:∀x∈l,Pu prog f (B x::qs) o (.bool (q x)))(hl:l.length<=1000000000):Ct prog 271 [.slice a l.length c,.func (.func f) #[] qs.toArray] o [.own (.slice a l.length c) 9 1 (l.flatMap mZ)] (fun v A=>v=.slice a (l.filter fun x=>!q x).length c/\A=[.own (.slice a (l.filter fun x=>!q x).length c) 9 1 ((l.filter fun x=>!q x).flatMap mZ)]):=by
 refine b_ 42 func271 rfl rfl rfl ?_;intro F s;refine B7 (a:=a) (n:=l.length) (c:=c) (sz:=1) (xs:=l.flatMap mZ) (te:=9) ud fun _ h7 d=>?_;refine E8 ?_;refine c_ rfl (nf l a c f qs o q hm qb) (fun h Z ⟨bs,hb⟩=>⟨A_.rd hb ud,Mn.le Z s⟩) rfl ?_;refine eV ?_ ?_<;>intro h
 ·have hi:D9 q l= -1:=zy h;refine M4 ?_;exact d_ rfl rfl _ ⟨by rw[gK hi],rfl⟩ (fun w p=>by rw[gK hi];exact p)
 have h8:=dv q l;obtain⟨X,O⟩:∃X:Nat,D9 q l=(X:Nat):=⟨(D9 q l).toNat,by have:=zu h;omega⟩;obtain⟨D,h0,h5⟩:=ki O;rw[O];refine E8 ?_;refine P7 (fun i j m=>i<j/\j<=l.length/\m.length=l.length/\m.take i=(l.take j).filter (fun x=>!q x)/\m.drop j=l.drop j) (fun i j m=>[(0,.slice a l.length c),(1,.func (.func f) #[] qs.toArray),(5,r7 i),(6,r7 j)]) (fun i j m=>[.own (.slice a l.length c) 9 1 (m.flatMap mZ)]) (fun i j m=>l.length-j) X (X+1) l ⟨Yz _,D,rfl,?_,rfl⟩ sub i_ ?_
 ·rw[L7 _ D,h5];have:=h0 D;simp[this]
 rintro i j m ⟨h9,hj,Q,g,S⟩;refine AO ?_ ?_<;>intro h
 ·have b:j<l.length:=by have:=zy h;omega
  have T:j<m.length:=by omega
  have U:i<m.length:=by omega
  have r:m[j]=l[j]:=by
   have Y:=jh (fun z=>z[0]?) S;simp only[Zc,Zk] at Y;rw[zd T,zd b] at Y;exact Qz Y
  have d:=d qb;refine E8 ?_;refine r_ (l5 rfl (fun w p=>cT (j:=0) (p.ownN (t:=9) ud).2.2.1 V6 T rfl x7)) ?_;refine a_ ?_;refine A5 ?_;refine A4 (ps:=[]) _ rfl rfl rfl (hm _ (r▸zm b)) i_ (fun h Z _=>Mn.le Z s) rfl ?_;rintro v A ⟨rfl,rfl⟩;refine u6 ?_;have k:∀(V:Nat) (J:List Bs),V<=j->J.length=l.length->J.take V=(l.take (j+1)).filter (fun x=>!q x)->J.drop (j+1)=l.drop (j+1)->V<j+1/\j+1<=l.length/\J.length=l.length/\J.take V=(l.take (j+1)).filter (fun x=>!q x)/\J.drop (j+1)=l.drop (j+1):=fun V J Y M h3 h4=>⟨by omega,b,M,h3,h4⟩;have u:m.drop (j+1)=l.drop (j+1):=by
   have:=jh (List.drop 1) S;simpa[K6,Wm] using this
  refine p7 rfl ?_ ?_<;>intro M
  ·have hq:q l[j]=false:=(by rw[r] at M;simpa using M);refine P1 ?_;refine A6 (C:=mZ) m[j] V6 U (j:=0) rfl ?_;refine Y1 ?_;refine l8 (i:=(i,j,m)) (i+1,j+1,m.set i m[j]) (k (i+1) (m.set i m[j]) qb (by simpa using Q) ?_ ?_) qg sub (fun w p=>(tk (C:=[_])).hp p|>.left)
   ·rw[ey U,L7 _ b,g,r];simp[hq]
   ·rw[K5 qb];exact u
  ·have hq:q l[j]=true:=(by rw[r] at M;simpa using M);refine E8 ?_;refine l8 (i:=(i,j,m)) (i,j+1,m) (k i m qb Q ?_ u) qg sub (fun w p=>(tk (C:=[_])).hp p|>.left);rw[L7 _ b,g];simp[hq]
 ·have b:j=l.length:=by have:=zu h;omega
  subst b;rw[Qn] at g;have y:i=(l.filter fun x=>!q x).length:=by have:=jh List.length g;rw[kr] at this;omega
  refine A5 ?_;refine f_ (C0 rfl rfl rfl qb) ?_;refine jZ (a:=a) (n:=l.length) (c:=c) (sz:=1) (lo:=i) (xs:=m.flatMap mZ) (te:=9) rfl qb qb rfl rfl (fun ys=>uh) ?_;intro ys k0 h6;refine A5 ?_;refine f_ ((C0 rfl rfl rfl qb).eq (v':=.slice a i c) (by simp[ez])) ?_;refine D0 ?_;have e:ys.take (i*1)=(l.filter fun x=>!q x).flatMap mZ:=by rw[h6,aP V6,g]
  exact d_ rfl rfl _ ⟨by rw[y],rfl⟩ (fun w p=>by rw[<-y,<-e];exact p.cutOwn uh qb)
end Go.Proofs.YtmcepdopookilaaGreatDoor.Rp
namespace Go.Sl
open Go Go.RowKit Go.Proofs.Tryz
section
variable{P:zj}{N:Nat}{K R:A1}{E:List (Nat×A1)}{L:G9}{F:l9}{H:List As}{ops:Array Oper}{rest:List Oper}{ty:zk}{pos:String}{af:Array Edge}{t tn:zk}{s x:zw}
def pb{d n sz:Nat}{r k:IntKind}{e:zk}{z:Value}{i:TypeInfo}[hu:HU P t (.slice e)][hn:HU P tn (.int r)][hz:HZ P e z][hi:HI P e i][hs:HS P e sz](m:ev L s=some (.slice none 0 0))(o:ev L x=some (.int k (n:Nat)))(u:0<n)(p:0<sz)(b:z.cells.size=sz)(l:n*i.bytes<=140737488355328)(h63:n<=9223372036854775807)(v:Nat.blt d N=true)(h:∀g c,n<=c->GL P N ops rest K E R ((d,.slice (some ⟨g,0,none⟩) n c)::L) F (.own (.slice (some ⟨g,0,none⟩) n c) e sz (Builtin.zeroCells z.cells n).toList::H)):
  GL P N ops (⟨some d,.call ⟨.builtin .append,#[s,x],#[t,tn]⟩,ty,pos,af,none⟩::rest) K E R L F H:=
 T4 rfl rfl v fun C w hf y=>by
  have f:i.size=sz:=by
   have a:=hs.h w;simp[sizeOf,typeInfo,hi.h] at a;exact a
  have q:i.zero=some z:=by
   have a:=hz.h w;simp only[zeroValue,Sem.run_bind,typeInfo] at a
   cases hq:i.zero with
   |none=>simp[hi.h,hq] at a
   |some z'=>simp[hi.h,hq] at a;rw[a]
  have A:=Go.Lib.run_append_nil_zeros (P:=P) w t tn ty e i z k r hu.h hn.h hi.h q n u (by rw[f];exact p) qb qb;have j:=grownCap_ge w n 0 e;refine⟨.slice (some ⟨w.heap.size,0,none⟩) n (grownCap w n 0 e),w.drew.alloc (.cells (Builtin.zeroCells z.cells n++Builtin.zeroCells z.cells (grownCap w n 0 e-n)) e),_,?_,?_,h w.heap.size (grownCap w n 0 e) j⟩
  ·simp[execOp,resolve,invoke,builtin,hf.eval m,hf.eval o,A]
  ·refine P9 (w:=w.drew) (post:=(Builtin.zeroCells z.cells (grownCap w n 0 e-n)).toList) (fr:=(0,0)) y.drew' ?_ ?_ j (.inl (kp _)) ?_
   ·simp[size_zeroCells,b]
   ·simp only[zg,Z9,size_zeroCells,b,<-Zj];congr 1;omega
   ·congr 2;apply Zv.1;simp
end
