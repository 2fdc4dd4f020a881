import Derived.Test.YtmcepdopookilaaGreatDoorFx8
import Derived.Lib.AppendZeros
set_option linter.unusedVariables false
set_option linter.unusedSimpArgs false
set_option linter.defProp false
namespace Go.Proofs.YtmcepdopookilaaGreatDoor.Rp
open Go Go.Sl Go.RowKit Go.Proofs.Tryz
abbrev iv(r:Nat×Nat):List Value:=[.int .u64 (r.1:Nat),.int .u64 (r.2:Nat)]
abbrev V2(l:List (Nat×Nat)):List Value:=l.flatMap iv
theorem D1:∀x,(iv x).length=2:=fun _=>rfl
theorem mV:∀x,∀q∈iv x,q.oneCell'=true:=fun x q a=>by simp at a;rcases a with rfl|rfl<;>rfl
theorem bI(l:List (Nat×Nat)):(V2 l).length=l.length*2:=M6 (C:=iv) D1 l
theorem eI(l:List (Nat×Nat)):∀q∈V2 l,q.oneCell'=true:=cF (C:=iv) mV l
theorem oz(a b:List (Nat×Nat)):V2 (a++b)=V2 a++V2 b:=Z6
abbrev U7(a:Option Addr)(l:List (Nat×Nat))(c:Nat):As:=.own (.slice a l.length c) 178 2 (V2 l)
abbrev l5(a:Option Addr)(l:List (Nat×Nat))(c:Nat):As:=.own (.slice a l.length c) 72 2 (V2 l)
abbrev U1(a:Option Addr)(l:List Nat)(c:Nat):As:=.own (.slice a l.length c) 27 1 (nV l)
abbrev cO(i:IT):List Value:=[.int .i64 (i.kind:Nat),.bool i.peek,.bool i.part,.int .u64 (i.fr:Nat),.int .u64 (i.count:Nat)]
abbrev oA(l:List IT):List Value:=l.flatMap cO
theorem aj:∀x,(cO x).length=5:=fun _=>rfl
theorem gq:∀x,∀q∈cO x,q.oneCell'=true:=fun x q a=>by simp at a;rcases a with rfl|rfl|rfl|rfl|rfl<;>rfl
theorem tl(l:List IT):(oA l).length=l.length*5:=M6 (C:=cO) aj l
theorem mW(l:List IT):∀q∈oA l,q.oneCell'=true:=cF (C:=cO) gq l
abbrev bJ(a:Option Addr)(l:List IT)(c:Nat):As:=.own (.slice a l.length c) 129 5 (oA l)
structure KM where
 k:KY
 a:Option Addr
 c:Nat
abbrev bu(x:KM):List Value:=[.int .i64 (x.k.kind:Nat),.int .i64 (x.k.kids:Nat),B x.k.field,B x.k.text,.int .u64 (x.k.n:Nat),.slice x.a x.k.set.length x.c]
abbrev qB(l:List KM):List Value:=l.flatMap bu
theorem ak:∀x,(bu x).length=6:=fun _=>rfl
theorem Ag:∀x,∀q∈bu x,q.oneCell'=true:=fun x q a=>by simp at a;rcases a with rfl|rfl|rfl|rfl|rfl|rfl<;>rfl
theorem tp(l:List KM):(qB l).length=l.length*6:=M6 (C:=bu) ak l
theorem KD(l:List KM):∀q∈qB l,q.oneCell'=true:=cF (C:=bu) Ag l
abbrev a0R(a:Option Addr)(l:List KM)(c:Nat):As:=.own (.slice a l.length c) 127 6 (qB l)
structure CL where
 sa:Option Addr
 sc:Nat
 ia:Option Addr
 ic:Nat
 ka:Option Addr
 kc:Nat
 fa:Option Addr
 fc:Nat
abbrev G8:CL:=⟨none,0,none,0,none,0,none,0⟩
abbrev kK(c:CM)(x:CL):List Value:=[B c.tag,.int .i64 (c.kind:Nat),.bool c.uid,.bool c.cond,B c.box,B c.user,B c.pass,B c.a4Y,.slice x.sa c.set.length x.sc,.slice x.ia c.a4U.length x.ic,.slice x.ka c.keys.length x.kc,.int .i64 (c.how:Nat),.bool c.a5a,.bool c.a4V,.int .u64 (c.a4W:Nat),.slice x.fa c.a5c.length x.fc,B c.data]
abbrev xt(c:CM)(x:CL):Value:=.agg (kK c x).toArray
structure fd(c:CM)(x:CL)(h:l9):Prop where
 set:n9 h x.sa (V2 c.set)
 a4U:n9 h x.ia (oA c.a4U)
 keys:∃kl:List KM,kl.map KM.k=c.keys/\n9 h x.ka (qB kl)/\∀m∈kl,n9 h m.a (V2 m.k.set)
 a5c:n9 h x.fa (fV c.a5c)
instance {c:CM} {x:CL}:Mn (fd c x):=⟨fun l k=>⟨k.set.le l,k.a4U.le l,by obtain⟨kl,h1,h2,h3⟩:=k.keys;exact⟨kl,h1,h2.le l,fun m hm=>(h3 m hm).le l⟩,k.a5c.le l⟩⟩
theorem fd.zero(h:l9):fd ip G8 h:=⟨n9.nil _ _,n9.nil _ _,⟨[],rfl,n9.nil _ _,qy⟩,n9.nil _ _⟩
abbrev EJ(k:KY):Prop:=k.set.length<=64/\k.text.length<=2000000000/\k.field.length<=2000000000/\k.kids<=2000000000
structure tq(c:CM):Prop where
 set:c.set.length<=64
 a4U:c.a4U.length<=8
 keys:c.keys.length<=32
 ksets:∀k∈c.keys,EJ k
 a5c:c.a5c.length<=16
 data:c.data.length<=4096
 pat:c.a4Y.length<=2000000000
structure SL where
 ra:Option Addr
 rc:Nat
 ua:Option Addr
 uc:Nat
 cl:CL
abbrev qR:SL:=⟨none,0,none,0,G8⟩
abbrev FP(v:VW)(a:Option Addr)(c:Nat):List Value:=[B v.box,.int .u64 (v.val:Nat),.slice a v.a4Q.length c]
abbrev mB(s:SE)(x:SL):List Value:=[.int .i64 (s.a4S:Nat),.int .u64 (s.ses:Nat),.int .u64 (s.num:Nat),B s.a4R.box,.int .u64 (s.a4R.val:Nat),.slice x.ra s.a4R.a4Q.length x.rc,.bool s.ro,.bool s.cond,.bool s.a4X,
 B s.cmd.tag,.int .i64 (s.cmd.kind:Nat),.bool s.cmd.uid,.bool s.cmd.cond,B s.cmd.box,B s.cmd.user,B s.cmd.pass,B s.cmd.a4Y,.slice x.cl.sa s.cmd.set.length x.cl.sc,.slice x.cl.ia s.cmd.a4U.length x.cl.ic,.slice x.cl.ka s.cmd.keys.length x.cl.kc,.int .i64 (s.cmd.how:Nat),.bool s.cmd.a5a,.bool s.cmd.a4V,.int .u64 (s.cmd.a4W:Nat),.slice x.cl.fa s.cmd.a5c.length x.cl.fc,B s.cmd.data,
 .slice x.ua s.a4T.length x.uc]
abbrev rB(s:SE)(x:SL):Value:=.agg (mB s x).toArray
structure U2(s:SE)(x:SL)(h:l9):Prop where
 a4T:n9 h x.ua (nV s.a4T)
 cmd:fd s.cmd x.cl h
instance {s:SE} {x:SL}:Mn (U2 s x):=⟨fun l k=>⟨k.a4T.le l,Mn.le l k.cmd⟩⟩
structure RI(s:SE):Prop where
 a4Q:s.a4R.a4Q.length<=1000000
 a4T:s.a4T.length<=1000000
 cmd:tq s.cmd
structure QL where
 ua:Option Addr
 uc:Nat
 fa:Option Addr
 fc:Nat
abbrev cP:QL:=⟨none,0,none,0⟩
abbrev cQ(r:RQ)(x:QL):List Value:=[.int .i64 r.op,.int .u64 (r.ses:Nat),.int .u64 (r.num:Nat),.int .i64 r.node,.int .u64 (r.life:Nat),.int .u64 (r.tr:Nat),B r.box,B r.tz,.int .u64 (r.val:Nat),.slice x.ua r.a4T.length x.uc,.slice x.fa r.a5c.length x.fc,.int .i64 r.how,.bool r.hasS,.int .u64 (r.a4W:Nat),B r.hash,.int .u64 (r.size:Nat),.int .u64 (r.a4Z:Nat)]
abbrev PZ(r:RQ)(x:QL):Value:=.agg (cQ r x).toArray
structure dv(r:RQ)(x:QL)(h:l9):Prop where
 a4T:n9 h x.ua (V2 r.a4T)
 a5c:n9 h x.fa (fV r.a5c)
instance {r:RQ} {x:QL}:Mn (dv r x):=⟨fun l k=>⟨k.a4T.le l,k.a5c.le l⟩⟩
abbrev RM:=RR×RL
abbrev Ah(m:RM):List Value:=sV m.1 m.2
theorem cR:∀x,(Ah x).length=10:=fun _=>rfl
theorem jB:∀x,∀q∈Ah x,q.oneCell'=true:=fun x q a=>by simp at a;rcases a with rfl|rfl|rfl|rfl|rfl|rfl|rfl|rfl|rfl|rfl<;>rfl
abbrev Tn(l:List RM):List Value:=l.flatMap Ah
abbrev r7(a:Option Addr)(l:List RM)(c:Nat):As:=.own (.slice a l.length c) 51 10 (Tn l)
structure DL where
 da:Option Addr
 dc:Nat
 ql:QL
 wa:Option Addr
 wc:Nat
 rl:List RM
abbrev M_:DL:=⟨none,0,cP,none,0,[]⟩
abbrev tu(d:DD)(y:DL):List Value:=[.slice y.da y.rl.length y.dc,.bool d.ask,
 .int .i64 d.req.op,.int .u64 (d.req.ses:Nat),.int .u64 (d.req.num:Nat),.int .i64 d.req.node,.int .u64 (d.req.life:Nat),.int .u64 (d.req.tr:Nat),B d.req.box,B d.req.tz,.int .u64 (d.req.val:Nat),.slice y.ql.ua d.req.a4T.length y.ql.uc,.slice y.ql.fa d.req.a5c.length y.ql.fc,.int .i64 d.req.how,.bool d.req.hasS,.int .u64 (d.req.a4W:Nat),B d.req.hash,.int .u64 (d.req.size:Nat),.int .u64 (d.req.a4Z:Nat),
 .bool d.store,B d.body,.slice y.wa d.want.length y.wc,.bool d.close]
abbrev KE(d:DD)(y:DL):Value:=.agg (tu d y).toArray
structure CK(d:DD)(y:DL)(h:l9):Prop where
 a5b:d.a5b=y.rl.map Prod.fst
 rep:∀m∈y.rl,fB m.1 m.2 h
 req:dv d.req y.ql h
 want:n9 h y.wa (fV d.want)
instance {r:RR} {x:RL}:Mn (fB r x):=⟨fun l k=>k.le l⟩
instance {d:DD} {y:DL}:Mn (CK d y):=⟨fun l k=>⟨k.a5b,fun m hm=>(k.rep m hm).le l,Mn.le l k.req,k.want.le l⟩⟩
theorem CK.zero(h:l9):CK G0 M_ h:=⟨rfl,qy,⟨n9.nil _ _,n9.nil _ _⟩,n9.nil _ _⟩
abbrev E8(b:Nat)(s:SE)(x:SL)(d:DD)(y:DL):As:=.blk b (.cells (mB s x++tu d y).toArray 141)
structure iw(s:SE)(x:SL)(d:DD)(y:DL)(h:l9):Prop where
 se:U2 s x h
 dd:CK d y h
instance {s:SE} {x:SL} {d:DD} {y:DL}:Mn (iw s x d y):=⟨fun l k=>⟨Mn.le l k.se,Mn.le l k.dd⟩⟩
structure LM where
 t:LT
 a:Option Addr
 c:Nat
abbrev S9(x:LM):List Value:=[.int .u64 (x.t.uid:Nat),.slice x.a x.t.a5c.length x.c,.int .u64 (x.t.mod:Nat),B x.t.hash,.int .u64 (x.t.size:Nat)]
abbrev qC(l:List LM):List Value:=l.flatMap S9
theorem A_:∀x,(S9 x).length=5:=fun _=>rfl
theorem mX:∀x,∀q∈S9 x,q.oneCell'=true:=fun x q a=>by simp at a;rcases a with rfl|rfl|rfl|rfl|rfl<;>rfl
theorem Ai(l:List LM):(qC l).length=l.length*5:=M6 (C:=S9) A_ l
theorem Aj(l:List LM):∀q∈qC l,q.oneCell'=true:=cF (C:=S9) mX l
abbrev N9(a:Option Addr)(l:List LM)(c:Nat):As:=.own (.slice a l.length c) 156 5 (qC l)
def ix(l:List LM)(h:l9):Prop:=∀m∈l,n9 h m.a (fV m.t.a5c)
instance {l:List LM}:Mn (ix l):=⟨fun le k m hm=>(k m hm).le le⟩
structure BM where
 name:Bs
 val:Nat
 next:Nat
 high:Nat
 ls:List LM
 a:Option Addr
 c:Nat
abbrev FQ:BM:=⟨[],0,0,0,[],none,0⟩
abbrev BM.x(b:BM):BX:=⟨b.name,b.val,b.next,b.high,b.ls.map LM.t⟩
abbrev cS(b:BM):List Value:=[B b.name,.int .u64 (b.val:Nat),.int .u64 (b.next:Nat),.int .u64 (b.high:Nat),.slice b.a b.ls.length b.c]
abbrev JA(b:BM):Value:=.agg (cS b).toArray
abbrev eX(l:List BM):List Value:=l.flatMap cS
theorem o_:∀x,(cS x).length=5:=fun _=>rfl
theorem Ak:∀x,∀q∈cS x,q.oneCell'=true:=fun x q a=>by simp at a;rcases a with rfl|rfl|rfl|rfl|rfl<;>rfl
theorem mY(l:List BM):(eX l).length=l.length*5:=M6 (C:=cS) o_ l
theorem Al(l:List BM):∀q∈eX l,q.oneCell'=true:=cF (C:=cS) Ak l
abbrev S_(a:Option Addr)(l:List BM)(c:Nat):As:=.own (.slice a l.length c) 100 5 (eX l)
structure fH(b:BM)(h:l9):Prop where
 ls:n9 h b.a (qC b.ls)
 fl:ix b.ls h
instance {b:BM}:Mn (fH b):=⟨fun l k=>⟨k.ls.le l,Mn.le l k.fl⟩⟩
theorem fH.zero(h:l9):fH FQ h:=⟨n9.nil _ _,fun _ h=>by cases h⟩
abbrev mZ(s:SX):List Value:=[.int .u64 (s.ses:Nat),.int .u64 (s.last:Nat),.int .i64 s.node,.int .u64 (s.life:Nat),.int .u64 (s.tr:Nat)]
abbrev JB(l:List SX):List Value:=l.flatMap mZ
theorem V_:∀x,(mZ x).length=5:=fun _=>rfl
theorem Am:∀x,∀q∈mZ x,q.oneCell'=true:=fun x q a=>by simp at a;rcases a with rfl|rfl|rfl|rfl|rfl<;>rfl
theorem An(l:List SX):(JB l).length=l.length*5:=M6 (C:=mZ) V_ l
theorem Ao(l:List SX):∀q∈JB l,q.oneCell'=true:=cF (C:=mZ) Am l
abbrev T0(a:Option Addr)(l:List SX)(c:Nat):As:=.own (.slice a l.length c) 102 5 (JB l)
abbrev gr(s:HO):List Value:=[.int .i64 s.node,.int .u64 (s.life:Nat),.int .u64 (s.tr:Nat)]
abbrev JC(l:List HO):List Value:=l.flatMap gr
theorem O5:∀x,(gr x).length=3:=fun _=>rfl
theorem Ap:∀x,∀q∈gr x,q.oneCell'=true:=fun x q a=>by simp at a;rcases a with rfl|rfl|rfl<;>rfl
theorem KF(l:List HO):(JC l).length=l.length*3:=M6 (C:=gr) O5 l
theorem KG(l:List HO):∀q∈JC l,q.oneCell'=true:=cF (C:=gr) Ap l
abbrev P5(a:Option Addr)(l:List HO)(c:Nat):As:=.own (.slice a l.length c) 104 3 (JC l)
structure MM where
 a4N:List BM
 nval:Nat
 a4O:List HO
 a4P:List SX
 nses:Nat
 a4Z:Nat
 ba:Option Addr
 bc:Nat
 ha:Option Addr
 hc:Nat
 sa:Option Addr
 sc:Nat
abbrev MM.s(m:MM):ML:=⟨m.a4N.map BM.x,m.nval,m.a4O,m.a4P,m.nses,m.a4Z⟩
abbrev iy(m:MM):List Value:=[.slice m.ba m.a4N.length m.bc,.int .u64 (m.nval:Nat),.slice m.ha m.a4O.length m.hc,.slice m.sa m.a4P.length m.sc,.int .u64 (m.nses:Nat),.int .u64 (m.a4Z:Nat)]
abbrev uD(m:MM):Value:=.agg (iy m).toArray
structure iz(m:MM)(h:l9):Prop where
 a4N:n9 h m.ba (eX m.a4N)
 a4O:n9 h m.ha (JC m.a4O)
 a4P:n9 h m.sa (JB m.a4P)
 box:∀b∈m.a4N,fH b h
instance {m:MM}:Mn (iz m):=⟨fun l k=>⟨k.a4N.le l,k.a4O.le l,k.a4P.le l,fun b hb=>Mn.le l (k.box b hb)⟩⟩
structure OL where
 ua:Option Addr
 uc:Nat
 ma:Option Addr
 mc:Nat
abbrev M9:OL:=⟨none,0,none,0⟩
abbrev tv(o:OC)(y:OL):List Value:=[.int .i64 o.code,.int .u64 (o.ses:Nat),.int .u64 (o.val:Nat),.slice y.ua o.a4T.length y.uc,.slice y.ma o.mods.length y.mc]
abbrev To(o:OC)(y:OL):Value:=.agg (tv o y).toArray
structure L9(o:OC)(y:OL)(h:l9):Prop where
 a4T:n9 h y.ua (nV o.a4T)
 mods:n9 h y.ma (nV o.mods)
instance {o:OC} {y:OL}:Mn (L9 o y):=⟨fun l k=>⟨k.a4T.le l,k.mods.le l⟩⟩
theorem L9.zero(h:l9):L9 B9 M9 h:=⟨n9.nil _ _,n9.nil _ _⟩
theorem L9.nil(h:l9)(o:OC)(y:OL)(hu:o.a4T=[])(a:o.mods=[]):L9 o y h:=⟨by rw[hu];exact n9.nil _ _,by rw[a];exact n9.nil _ _⟩
abbrev Ny(m:MM)(r:RQ)(q:QL)(o:OC)(y:OL):List Value:=iy m++cQ r q++tv o y
abbrev R9(b:Nat)(m:MM)(r:RQ)(q:QL)(o:OC)(y:OL):As:=.blk b (.cells (Ny m r q o y).toArray 136)
def V5(l:List BM):List As:=l.map fun b=>N9 b.a b.ls b.c
theorem KH(a b:List BM):V5 (a++b)=V5 a++V5 b:=by simp[V5]
abbrev uE(m:MM):List As:=T0 m.sa m.a4P m.sc::P5 m.ha m.a4O m.hc::S_ m.ba m.a4N m.bc::V5 m.a4N
structure CN(b:BX):Prop where
 name:b.name.length<=64
 val:b.val<=4294967296
 next:b.next<=4294967296
 high:b.high<=D9
 lts:b.lts.length<=32
 uid:∀x∈b.lts,x.uid<b.next
 a5c:∀x∈b.lts,x.a5c.length<=16/\∀f∈x.a5c,f.length<=32
 mod:∀x∈b.lts,x.mod<=D9
 size:∀x∈b.lts,x.size<=4096
 hash:∀x∈b.lts,x.hash.length=32
structure Y4(s:ML):Prop where
 a4N:s.a4N.length<=8
 box:∀b∈s.a4N,CN b
 sorted:s.a4N.Pairwise fun x y=>gR x.name y.name=true
 a4O:s.a4O.Pairwise fun x y=>x.node<y.node
 home:∀h∈s.a4O,1<=h.node/\h.node<=5/\h.life<18446744073709551616/\h.tr<18446744073709551616
 a4P:s.a4P.length<=16
 seat:∀x∈s.a4P,1<=x.ses/\x.ses<s.nses/\x.last<18446744073709551616/\x.life<18446744073709551616/\x.tr<18446744073709551616
 nval:s.nval<=4294967296
 nses:s.nses<=CJ
 a4Z:s.a4Z<=D9
abbrev O4(b:Nat)(s:SE)(x:SL)(d:DD)(y:DL):List As:=[E8 b s x d y,r7 y.da y.rl y.dc]
abbrev E_(y:DL)(m:RM)(a:Option Addr)(c:Nat):DL:={y with da:=a,dc:=c,rl:=y.rl++[m]}
theorem U9(b:Nat)(s:SE)(x:SL)(d:DD)(y:DL)(r:RR)(z:RL)(hl:y.rl.length<=100000000):Ct prog 69 [m6 b,Ki r z] (fun _=>True) (O4 b s x d y) (fun v A=>v=.tuple #[]/\∃a c,A=O4 b s x d (E_ y (r,z) a c)):=by
 refine b_ 16 func69 rfl rfl rfl ?_;intro F _;refine p9 ?_;intro j;refine u7 ?_;refine zY [5,6] [7,8,12] 13 ?_;refine wd [0,1,2,3,4,5,6] ?_;refine h_ 7 rfl i6 ?_;refine C4 Ah (r,z) rfl ?_;intro h g;refine Y5 ?_;refine h_ 8 rfl i6 ?_;refine r8 Ah (l:=y.rl) (m:=[(r,z)]) cR jB (by show(y.rl.length+1)*160<=_;omega) ?_;intro e f _;refine E5 [9,10,11,12] ?_;exact l_ rfl _ ⟨rfl,e,f,rfl⟩ fun w i=>x6.left tk i
theorem kZ(b:Nat)(s:SE)(x:SL)(d:DD)(y:DL)(tag text:Bs)(hl:y.rl.length<=100000000):Ct prog 72 [m6 b,B tag,B text] (fun _=>True) (O4 b s x d y) (fun v A=>v=.tuple #[]/\∃a c,A=O4 b s x d (E_ y (gN tag text,L0) a c)):=by
 refine b_ 11 func72 rfl rfl rfl ?_;intro F _;refine O2 ?_;refine c_ (U9 b s x d y (gN tag text) L0 hl) qw ?_;rintro v A ⟨rfl,a,c,rfl⟩;refine u7 ?_;exact l_ rfl _ ⟨rfl,a,c,rfl⟩ fun w e=>x6.left tk e
theorem FR(b:Nat)(s:SE)(x:SL)(d:DD)(y:DL)(tag code text:Bs)(hl:y.rl.length<=100000000):Ct prog 80 [m6 b,B tag,B code,B text] (fun _=>True) (O4 b s x d y) (fun v A=>v=.tuple #[]/\∃a c,A=O4 b s x d (E_ y (ow tag code text,L0) a c)):=by
 refine b_ 14 func80 rfl rfl rfl ?_;intro F _;refine aF ?_;refine c_ (U9 b s x d y (ow tag code text) L0 hl) qw ?_;rintro v A ⟨rfl,a,c,rfl⟩;refine u7 ?_;exact l_ rfl _ ⟨rfl,a,c,rfl⟩ fun w e=>x6.left tk e
theorem nf(b:Nat)(s:SE)(x:SL)(d:DD)(y:DL)(tag:Bs)(hl:y.rl.length<=100000000):Ct prog 167 [m6 b,B tag] (fun _=>True) (O4 b s x d y) (fun v A=>v=.tuple #[]/\∃a c,A=O4 b s x d (E_ y (fb tag,L0) a c)):=by
 refine b_ 8 func167 rfl rfl rfl ?_;intro F _;refine E6 ?_;refine c_ (U9 b s x d y (fb tag) L0 hl) qw ?_;rintro v A ⟨rfl,a,c,rfl⟩;refine u7 ?_;exact l_ rfl _ ⟨rfl,a,c,rfl⟩ fun w e=>x6.left tk e
theorem tx(b:Nat)(s:SE)(x:SL)(d:DD)(y:DL)(text:Bs)(hl:y.rl.length<=100000000):Ct prog 70 [m6 b,B text] (fun _=>True) (O4 b s x d y) (fun v A=>v=.tuple #[]/\∃a c,A=O4 b {s with a4S:=3} x {d with close:=true} (E_ y (L2 text,L0) a c)):=by
 refine b_ 16 func70 rfl rfl rfl ?_;intro F _;refine E6 ?_;refine c_ (U9 b s x d y (L2 text) L0 hl) qw ?_;rintro v A ⟨rfl,a,c,rfl⟩;refine wk 10 ?_;exact l_ rfl _ ⟨rfl,a,c,rfl⟩ fun w e=>x6.left tk e
theorem oB(b:Nat)(s:SE)(x:SL)(d:DD)(y:DL)(tag:Bs)(hl:y.rl.length<=10000000):Ct prog 79 [m6 b,B tag] (fun _=>True) (O4 b s x d y) (fun v A=>v=.tuple #[]/\∃a c,A=O4 b {s with a4S:=3} x {d with close:=true} {y with da:=a,dc:=c,rl:=y.rl++[(L2 [108,111,103,103,105,110,103,32,111,117,116],L0),(fb tag,L0)]}):=by
 refine b_ 9 func79 rfl rfl rfl ?_;intro F _;refine p9 ?_;refine c_ (tx b s x d y _ qb) qw ?_;rintro v A ⟨rfl,a,c,rfl⟩;refine z_ ?_;refine c_ (nf b {s with a4S:=3} x {d with close:=true} (E_ y (L2 [108,111,103,103,105,110,103,32,111,117,116],L0) a c) tag (by simp;omega)) qw ?_;rintro v A ⟨rfl,f,g,rfl⟩;refine u7 ?_;exact l_ rfl _ ⟨rfl,f,g,rfl⟩ fun w e=>by simp only[E_,zh,Qh,j6] at e;exact x6.left tk e
def dw(t:TypeId)(sz n:Nat)(xs:List Value)(v:Value)(A:List As):Prop:=∃a c,v=.slice a n c/\A=[.own (.slice a n c) t sz xs]
def D2{α:Type}(q:α->Bool)(l:List α):Int:=(l.findIdx? q).elim (-1) fun i=>(i:Nat)
theorem N3{α:Type}{q:α->Bool}{l:List α}(h:∀i (a:i<l.length),q l[i]=false):D2 q l= -1:=by
 unfold D2;rw[Q4.2 fun x b=>by obtain⟨i,a,rfl⟩:=Q9 b;exact h i a];rfl
theorem N4{α:Type}{q:α->Bool}{l:List α}{j:Nat}(b:j<l.length)(hq:q l[j]=true)(h:∀i (a:i<l.length),i<j->q l[i]=false):D2 q l=(j:Nat):=by
 unfold D2;rw[kg.2 ⟨b,hq,fun i a=>by simp[h i qb a]⟩];rfl
theorem cT{α:Type}(q:α->Bool)(l:List α): -1<=D2 q l/\D2 q l<l.length:=by
 unfold D2
 cases h:l.findIdx? q with
 |none=>simp only[Option.elim];omega
 |some i=>have:=(kg.1 h).1;simp only[Option.elim];omega
theorem fI{α:Type}(q:α->Bool)(l:List α):decide (D2 q l≥0)=l.any q:=by
 unfold D2
 cases h:l.findIdx? q with
 |none=>
  rw[Q4] at h;have:l.any q=false:=Wn.2 fun x a=>by simp[h x a]
  rw[this];simp
 |some i=>
  obtain⟨b,c,_⟩:=kg.1 h;have:l.any q=true:=K8.2 ⟨_,zy b,c⟩;rw[this];simp
theorem S4{α:Type}{C:α->List Value}{n:Nat}{h:l9}{a:Option Addr}{l:List α}{q i:Nat}(r:n9 h a (l.flatMap C))(d:∀x,(C x).length=n)(b:0<n)(c:i<l.length)(hq:q=i*n):L4 h (M8 a q) (C l[i]):=by
 have:=sR r d b l[i] (q:=q) (i:=i) (by rw[hq,W4]) c
 rwa [show l.getD i l[i]=l[i] from by simp[List.getD,c]] at this
theorem A2{α:Type}{C:α->List Value}{n:Nat}{h:l9}{a:Option Addr}{l:List α}{i:Nat}(r:n9 h a (l.flatMap C))(c:∀x,(C x).length=n)(b:0<n)(d:i<l.length):∃e,a=some e:=uU r c b d
theorem jC(xs:List Value)(a:Option Addr)(n c:Nat)(hx:xs.length=n*5)(j:∀q∈xs,q.oneCell'=true)(hl:n<=1000000000000):Ct prog 104 [.slice a n c] (fun h=>n9 h a xs) [] (dw 102 5 n xs):=by
 refine b_ 8 func104 rfl rfl rfl ?_;intro F d;refine eE ?_ ?_<;>intro h
 ·have ha:a=none:=by simpa using h
  have k:n=0:=by
   rcases Qn n with f|f
   ·exact f
   ·obtain⟨l,e,_⟩:=d (by intro e;rw[e] at hx;simp at hx<;>omega);rw[ha] at e;cases e
  subst k;have:xs=[]:=Q3.1 (by rw[hx,Z0]);subst this;refine C8 ?_;exact d_ rfl rfl [.own (.slice none 0 0) 102 5 []] ⟨none,0,rfl,rfl⟩ (fun w b=>b.addNil _ _)
 ·refine u7 ?_;refine p9 ?_;intro a5;refine p9 ?_;refine B_ rfl rfl (fun m o=>.here) (fun w b=>n9.le d b.keep) hx rfl rfl j (by show(0+n)*40<=_;omega) qb rfl ?_;intro g i _;refine C8 ?_;exact d_ rfl rfl [.own (.slice g n i) 102 5 xs] ⟨g,i,by rw[ju],rfl⟩ (fun w b=>by rw[ju,j6] at b;exact b)
theorem tA(xs:List Value)(a:Option Addr)(n c:Nat)(hx:xs.length=n*3)(j:∀q∈xs,q.oneCell'=true)(hl:n<=1000000000000):Ct prog 123 [.slice a n c] (fun h=>n9 h a xs) [] (dw 104 3 n xs):=by
 refine b_ 8 func123 rfl rfl rfl ?_;intro F d;refine eE ?_ ?_<;>intro h
 ·have ha:a=none:=by simpa using h
  have k:n=0:=by
   rcases Qn n with f|f
   ·exact f
   ·obtain⟨l,e,_⟩:=d (by intro e;rw[e] at hx;simp at hx<;>omega);rw[ha] at e;cases e
  subst k;have:xs=[]:=Q3.1 (by rw[hx,Z0]);subst this;refine C8 ?_;exact d_ rfl rfl [.own (.slice none 0 0) 104 3 []] ⟨none,0,rfl,rfl⟩ (fun w b=>b.addNil _ _)
 ·refine u7 ?_;refine p9 ?_;intro a5;refine p9 ?_;refine B_ rfl rfl (fun m o=>.here) (fun w b=>n9.le d b.keep) hx rfl rfl j (by show(0+n)*24<=_;omega) qb rfl ?_;intro g i _;refine C8 ?_;exact d_ rfl rfl [.own (.slice g n i) 104 3 xs] ⟨g,i,by rw[ju],rfl⟩ (fun w b=>by rw[ju,j6] at b;exact b)
theorem vr(xs:List Value)(a:Option Addr)(n c:Nat)(hx:xs.length=n*5)(j:∀q∈xs,q.oneCell'=true)(hl:n<=1000000000000):Ct prog 124 [.slice a n c] (fun h=>n9 h a xs) [] (dw 100 5 n xs):=by
 refine b_ 8 func124 rfl rfl rfl ?_;intro F d;refine eE ?_ ?_<;>intro h
 ·have ha:a=none:=by simpa using h
  have k:n=0:=by
   rcases Qn n with f|f
   ·exact f
   ·obtain⟨l,e,_⟩:=d (by intro e;rw[e] at hx;simp at hx<;>omega);rw[ha] at e;cases e
  subst k;have:xs=[]:=Q3.1 (by rw[hx,Z0]);subst this;refine C8 ?_;exact d_ rfl rfl [.own (.slice none 0 0) 100 5 []] ⟨none,0,rfl,rfl⟩ (fun w b=>b.addNil _ _)
 ·refine u7 ?_;refine p9 ?_;intro a5;refine p9 ?_;refine B_ rfl rfl (fun m o=>.here) (fun w b=>n9.le d b.keep) hx rfl rfl j (by show(0+n)*64<=_;omega) qb rfl ?_;intro g i _;refine C8 ?_;exact d_ rfl rfl [.own (.slice g n i) 100 5 xs] ⟨g,i,by rw[ju],rfl⟩ (fun w b=>by rw[ju,j6] at b;exact b)
theorem fJ(xs:List Value)(a:Option Addr)(n c:Nat)(hx:xs.length=n*5)(j:∀q∈xs,q.oneCell'=true)(hl:n<=1000000000000):Ct prog 117 [.slice a n c] (fun h=>n9 h a xs) [] (dw 156 5 n xs):=by
 refine b_ 8 func117 rfl rfl rfl ?_;intro F d;refine eE ?_ ?_<;>intro h
 ·have ha:a=none:=by simpa using h
  have k:n=0:=by
   rcases Qn n with f|f
   ·exact f
   ·obtain⟨l,e,_⟩:=d (by intro e;rw[e] at hx;simp at hx<;>omega);rw[ha] at e;cases e
  subst k;have:xs=[]:=Q3.1 (by rw[hx,Z0]);subst this;refine C8 ?_;exact d_ rfl rfl [.own (.slice none 0 0) 156 5 []] ⟨none,0,rfl,rfl⟩ (fun w b=>b.addNil _ _)
 ·refine u7 ?_;refine p9 ?_;intro a5;refine p9 ?_;refine B_ rfl rfl (fun m o=>.here) (fun w b=>n9.le d b.keep) hx rfl rfl j (by show(0+n)*64<=_;omega) qb rfl ?_;intro g i _;refine C8 ?_;exact d_ rfl rfl [.own (.slice g n i) 156 5 xs] ⟨g,i,by rw[ju],rfl⟩ (fun w b=>by rw[ju,j6] at b;exact b)
theorem fK(xs:List Value)(a:Option Addr)(n c:Nat)(hx:xs.length=n*2)(j:∀q∈xs,q.oneCell'=true)(hl:n<=1000000000000):Ct prog 128 [.slice a n c] (fun h=>n9 h a xs) [] (dw 72 2 n xs):=by
 refine b_ 8 func128 rfl rfl rfl ?_;intro F d;refine eE ?_ ?_<;>intro h
 ·have ha:a=none:=by simpa using h
  have k:n=0:=by
   rcases Qn n with f|f
   ·exact f
   ·obtain⟨l,e,_⟩:=d (by intro e;rw[e] at hx;simp at hx<;>omega);rw[ha] at e;cases e
  subst k;have:xs=[]:=Q3.1 (by rw[hx,Z0]);subst this;refine C8 ?_;exact d_ rfl rfl [.own (.slice none 0 0) 72 2 []] ⟨none,0,rfl,rfl⟩ (fun w b=>b.addNil _ _)
 ·refine u7 ?_;refine p9 ?_;intro a5;refine p9 ?_;refine B_ rfl rfl (fun m o=>.here) (fun w b=>n9.le d b.keep) hx rfl rfl j (by show(0+n)*16<=_;omega) qb rfl ?_;intro g i _;refine C8 ?_;exact d_ rfl rfl [.own (.slice g n i) 72 2 xs] ⟨g,i,by rw[ju],rfl⟩ (fun w b=>by rw[ju,j6] at b;exact b)
theorem gT(xs:List Value)(a:Option Addr)(n c:Nat)(hx:xs.length=n*2)(j:∀q∈xs,q.oneCell'=true)(hl:n<=1000000000000):Ct prog 202 [.slice a n c] (fun h=>n9 h a xs) [] (dw 178 2 n xs):=by
 refine b_ 8 func202 rfl rfl rfl ?_;intro F d;refine eE ?_ ?_<;>intro h
 ·have ha:a=none:=by simpa using h
  have k:n=0:=by
   rcases Qn n with f|f
   ·exact f
   ·obtain⟨l,e,_⟩:=d (by intro e;rw[e] at hx;simp at hx<;>omega);rw[ha] at e;cases e
  subst k;have:xs=[]:=Q3.1 (by rw[hx,Z0]);subst this;refine C8 ?_;exact d_ rfl rfl [.own (.slice none 0 0) 178 2 []] ⟨none,0,rfl,rfl⟩ (fun w b=>b.addNil _ _)
 ·refine u7 ?_;refine p9 ?_;intro a5;refine p9 ?_;refine B_ rfl rfl (fun m o=>.here) (fun w b=>n9.le d b.keep) hx rfl rfl j (by show(0+n)*16<=_;omega) qb rfl ?_;intro g i _;refine C8 ?_;exact d_ rfl rfl [.own (.slice g n i) 178 2 xs] ⟨g,i,by rw[ju],rfl⟩ (fun w b=>by rw[ju,j6] at b;exact b)
theorem jD(xs:List Value)(a:Option Addr)(n c:Nat)(hx:xs.length=n*5)(j:∀q∈xs,q.oneCell'=true)(hl:n<=1000000000000):Ct prog 203 [.slice a n c] (fun h=>n9 h a xs) [] (dw 129 5 n xs):=by
 refine b_ 8 func203 rfl rfl rfl ?_;intro F d;refine eE ?_ ?_<;>intro h
 ·have ha:a=none:=by simpa using h
  have k:n=0:=by
   rcases Qn n with f|f
   ·exact f
   ·obtain⟨l,e,_⟩:=d (by intro e;rw[e] at hx;simp at hx<;>omega);rw[ha] at e;cases e
  subst k;have:xs=[]:=Q3.1 (by rw[hx,Z0]);subst this;refine C8 ?_;exact d_ rfl rfl [.own (.slice none 0 0) 129 5 []] ⟨none,0,rfl,rfl⟩ (fun w b=>b.addNil _ _)
 ·refine u7 ?_;refine p9 ?_;intro a5;refine p9 ?_;refine B_ rfl rfl (fun m o=>.here) (fun w b=>n9.le d b.keep) hx rfl rfl j (by show(0+n)*32<=_;omega) qb rfl ?_;intro g i _;refine C8 ?_;exact d_ rfl rfl [.own (.slice g n i) 129 5 xs] ⟨g,i,by rw[ju],rfl⟩ (fun w b=>by rw[ju,j6] at b;exact b)
theorem vt(xs:List Value)(a:Option Addr)(n c:Nat)(hx:xs.length=n*6)(j:∀q∈xs,q.oneCell'=true)(hl:n<=1000000000000):Ct prog 204 [.slice a n c] (fun h=>n9 h a xs) [] (dw 127 6 n xs):=by
 refine b_ 8 func204 rfl rfl rfl ?_;intro F d;refine eE ?_ ?_<;>intro h
 ·have ha:a=none:=by simpa using h
  have k:n=0:=by
   rcases Qn n with f|f
   ·exact f
   ·obtain⟨l,e,_⟩:=d (by intro e;rw[e] at hx;simp at hx<;>omega);rw[ha] at e;cases e
  subst k;have:xs=[]:=Q3.1 (by rw[hx,Z0]);subst this;refine C8 ?_;exact d_ rfl rfl [.own (.slice none 0 0) 127 6 []] ⟨none,0,rfl,rfl⟩ (fun w b=>b.addNil _ _)
 ·refine u7 ?_;refine p9 ?_;intro a5;refine p9 ?_;refine B_ rfl rfl (fun m o=>.here) (fun w b=>n9.le d b.keep) hx rfl rfl j (by show(0+n)*80<=_;omega) qb rfl ?_;intro g i _;refine C8 ?_;exact d_ rfl rfl [.own (.slice g n i) 127 6 xs] ⟨g,i,by rw[ju],rfl⟩ (fun w b=>by rw[ju,j6] at b;exact b)
theorem vu(xs:List Value)(a:Option Addr)(n c:Nat)(hx:xs.length=n*1)(j:∀q∈xs,q.oneCell'=true)(hl:n<=1000000000000):Ct prog 129 [.slice a n c] (fun h=>n9 h a xs) [] (dw 27 1 n xs):=by
 refine b_ 8 func129 rfl rfl rfl ?_;intro F d;refine eE ?_ ?_<;>intro h
 ·have ha:a=none:=by simpa using h
  have k:n=0:=by
   rcases Qn n with f|f
   ·exact f
   ·obtain⟨l,e,_⟩:=d (by intro e;rw[e] at hx;simp at hx<;>omega);rw[ha] at e;cases e
  subst k;have:xs=[]:=Q3.1 (by rw[hx,Z0]);subst this;refine C8 ?_;exact d_ rfl rfl [.own (.slice none 0 0) 27 1 []] ⟨none,0,rfl,rfl⟩ (fun w b=>b.addNil _ _)
 ·refine u7 ?_;refine p9 ?_;intro a5;refine p9 ?_;refine B_ rfl rfl (fun m o=>.here) (fun w b=>n9.le d b.keep) hx rfl rfl j (by show(0+n)*8<=_;omega) qb rfl ?_;intro g i _;refine C8 ?_;exact d_ rfl rfl [.own (.slice g n i) 27 1 xs] ⟨g,i,by rw[ju],rfl⟩ (fun w b=>by rw[ju,j6] at b;exact b)
theorem aA{α:Type}(C:α->List Value)(n:∀x,(C x).length=5)(l:List α)(a:Option Addr)(c:Nat)(f:FuncId)[HF prog f](qs:List Value)(d:l9->Prop)[Mn d](q:α->Bool)(r:∀x∈l,Pu prog f (.agg (C x).toArray::qs) d (.bool (q x)))(hl:l.length<=1000000000000):Pu prog 126 [.slice a l.length c,.func (.func f) #[] qs.toArray] (fun h=>n9 h a (l.flatMap C)/\d h) (.int .i64 (D2 q l)):=by
 refine b_ 19 func126 rfl rfl rfl ?_;rintro F ⟨g,k⟩;refine O2 ?_;refine o9 (ι:=Nat) (fun j=>j<=l.length/\∀i (m:i<l.length),i<j->q l[i]=false) (fun j=>[(0,.slice a l.length c),(1,.func (.func f) #[] qs.toArray),(7,.int .i64 (l.length:Nat)),(8,.int .i64 (j:Nat))]) (fun _=>[]) (fun j=>l.length-j) 0 ⟨zw _,fun i _ h=>by omega⟩ sub i_ ?_;rintro j ⟨y,e⟩;refine R6 ?_ ?_<;>intro h
 ·have b:j<l.length:=by have:=qr h;omega
  have o:=A2 g n qp b;refine cH ?_;refine r_ (w8 rfl (fun w s=>S4 (g.le s.keep) n qp b x8) (n _)) ?_;refine y9 (ps:=[]) _ rfl rfl rfl (r _ (zy b)) i_ (fun h t _=>Mn.le t k) rfl ?_;rintro v A ⟨rfl,rfl⟩;refine O1 ?_ ?_<;>intro p
  ·refine L6 ?_;exact d_ rfl rfl [] ⟨by rw[N4 b p e],rfl⟩ i_
  ·refine z_ ?_;refine l8 (j+1) ⟨b,fun i m h=>?_⟩ qb sub i_;rcases kd.1 h with u|rfl
   ·exact e i m u
   ·exact p
 ·have b:j=l.length:=by have:=zq h;omega
  refine C8 ?_;exact d_ rfl rfl [] ⟨by rw[N3 fun i m=>e i m qb],rfl⟩ i_
theorem ld{α:Type}(C:α->List Value)(n:∀x,(C x).length=3)(l:List α)(a:Option Addr)(c:Nat)(f:FuncId)[HF prog f](qs:List Value)(d:l9->Prop)[Mn d](q:α->Bool)(r:∀x∈l,Pu prog f (.agg (C x).toArray::qs) d (.bool (q x)))(hl:l.length<=1000000000000):Pu prog 182 [.slice a l.length c,.func (.func f) #[] qs.toArray] (fun h=>n9 h a (l.flatMap C)/\d h) (.int .i64 (D2 q l)):=by
 refine b_ 19 func182 rfl rfl rfl ?_;rintro F ⟨g,k⟩;refine O2 ?_;refine o9 (ι:=Nat) (fun j=>j<=l.length/\∀i (m:i<l.length),i<j->q l[i]=false) (fun j=>[(0,.slice a l.length c),(1,.func (.func f) #[] qs.toArray),(7,.int .i64 (l.length:Nat)),(8,.int .i64 (j:Nat))]) (fun _=>[]) (fun j=>l.length-j) 0 ⟨zw _,fun i _ h=>by omega⟩ sub i_ ?_;rintro j ⟨y,e⟩;refine R6 ?_ ?_<;>intro h
 ·have b:j<l.length:=by have:=qr h;omega
  have o:=A2 g n qp b;refine cH ?_;refine r_ (w8 rfl (fun w s=>S4 (g.le s.keep) n qp b x8) (n _)) ?_;refine y9 (ps:=[]) _ rfl rfl rfl (r _ (zy b)) i_ (fun h t _=>Mn.le t k) rfl ?_;rintro v A ⟨rfl,rfl⟩;refine O1 ?_ ?_<;>intro p
  ·refine L6 ?_;exact d_ rfl rfl [] ⟨by rw[N4 b p e],rfl⟩ i_
  ·refine z_ ?_;refine l8 (j+1) ⟨b,fun i m h=>?_⟩ qb sub i_;rcases kd.1 h with u|rfl
   ·exact e i m u
   ·exact p
 ·have b:j=l.length:=by have:=zq h;omega
  refine C8 ?_;exact d_ rfl rfl [] ⟨by rw[N3 fun i m=>e i m qb],rfl⟩ i_
theorem mC{α:Type}(C:α->List Value)(n:∀x,(C x).length=5)(l:List α)(a:Option Addr)(c:Nat)(f:FuncId)[HF prog f](qs:List Value)(d:l9->Prop)[Mn d](q:α->Bool)(r:∀x∈l,Pu prog f (.agg (C x).toArray::qs) d (.bool (q x)))(hl:l.length<=1000000000000):Pu prog 188 [.slice a l.length c,.func (.func f) #[] qs.toArray] (fun h=>n9 h a (l.flatMap C)/\d h) (.int .i64 (D2 q l)):=by
 refine b_ 19 func188 rfl rfl rfl ?_;rintro F ⟨g,k⟩;refine O2 ?_;refine o9 (ι:=Nat) (fun j=>j<=l.length/\∀i (m:i<l.length),i<j->q l[i]=false) (fun j=>[(0,.slice a l.length c),(1,.func (.func f) #[] qs.toArray),(7,.int .i64 (l.length:Nat)),(8,.int .i64 (j:Nat))]) (fun _=>[]) (fun j=>l.length-j) 0 ⟨zw _,fun i _ h=>by omega⟩ sub i_ ?_;rintro j ⟨y,e⟩;refine R6 ?_ ?_<;>intro h
 ·have b:j<l.length:=by have:=qr h;omega
  have o:=A2 g n qp b;refine cH ?_;refine r_ (w8 rfl (fun w s=>S4 (g.le s.keep) n qp b x8) (n _)) ?_;refine y9 (ps:=[]) _ rfl rfl rfl (r _ (zy b)) i_ (fun h t _=>Mn.le t k) rfl ?_;rintro v A ⟨rfl,rfl⟩;refine O1 ?_ ?_<;>intro p
  ·refine L6 ?_;exact d_ rfl rfl [] ⟨by rw[N4 b p e],rfl⟩ i_
  ·refine z_ ?_;refine l8 (j+1) ⟨b,fun i m h=>?_⟩ qb sub i_;rcases kd.1 h with u|rfl
   ·exact e i m u
   ·exact p
 ·have b:j=l.length:=by have:=zq h;omega
  refine C8 ?_;exact d_ rfl rfl [] ⟨by rw[N3 fun i m=>e i m qb],rfl⟩ i_
theorem X3{α:Type}(C:α->List Value)(n:∀x,(C x).length=5)(l:List α)(a:Option Addr)(c:Nat)(f:FuncId)[HF prog f](qs:List Value)(d:l9->Prop)[Mn d](q:α->Bool)(r:∀x∈l,Pu prog f (.agg (C x).toArray::qs) d (.bool (q x)))(hl:l.length<=1000000000000):Pu prog 201 [.slice a l.length c,.func (.func f) #[] qs.toArray] (fun h=>n9 h a (l.flatMap C)/\d h) (.int .i64 (D2 q l)):=by
 refine b_ 19 func201 rfl rfl rfl ?_;rintro F ⟨g,k⟩;refine O2 ?_;refine o9 (ι:=Nat) (fun j=>j<=l.length/\∀i (m:i<l.length),i<j->q l[i]=false) (fun j=>[(0,.slice a l.length c),(1,.func (.func f) #[] qs.toArray),(7,.int .i64 (l.length:Nat)),(8,.int .i64 (j:Nat))]) (fun _=>[]) (fun j=>l.length-j) 0 ⟨zw _,fun i _ h=>by omega⟩ sub i_ ?_;rintro j ⟨y,e⟩;refine R6 ?_ ?_<;>intro h
 ·have b:j<l.length:=by have:=qr h;omega
  have o:=A2 g n qp b;refine cH ?_;refine r_ (w8 rfl (fun w s=>S4 (g.le s.keep) n qp b x8) (n _)) ?_;refine y9 (ps:=[]) _ rfl rfl rfl (r _ (zy b)) i_ (fun h t _=>Mn.le t k) rfl ?_;rintro v A ⟨rfl,rfl⟩;refine O1 ?_ ?_<;>intro p
  ·refine L6 ?_;exact d_ rfl rfl [] ⟨by rw[N4 b p e],rfl⟩ i_
  ·refine z_ ?_;refine l8 (j+1) ⟨b,fun i m h=>?_⟩ qb sub i_;rcases kd.1 h with u|rfl
   ·exact e i m u
   ·exact p
 ·have b:j=l.length:=by have:=zq h;omega
  refine C8 ?_;exact d_ rfl rfl [] ⟨by rw[N3 fun i m=>e i m qb],rfl⟩ i_
theorem lf{α:Type}(C:α->List Value)(n:∀x,(C x).length=2)(l:List α)(a:Option Addr)(c:Nat)(f:FuncId)[HF prog f](qs:List Value)(d:l9->Prop)[Mn d](q:α->Bool)(r:∀x∈l,Pu prog f (.agg (C x).toArray::qs) d (.bool (q x)))(hl:l.length<=1000000000000):Pu prog 226 [.slice a l.length c,.func (.func f) #[] qs.toArray] (fun h=>n9 h a (l.flatMap C)/\d h) (.int .i64 (D2 q l)):=by
 refine b_ 19 func226 rfl rfl rfl ?_;rintro F ⟨g,k⟩;refine O2 ?_;refine o9 (ι:=Nat) (fun j=>j<=l.length/\∀i (m:i<l.length),i<j->q l[i]=false) (fun j=>[(0,.slice a l.length c),(1,.func (.func f) #[] qs.toArray),(7,.int .i64 (l.length:Nat)),(8,.int .i64 (j:Nat))]) (fun _=>[]) (fun j=>l.length-j) 0 ⟨zw _,fun i _ h=>by omega⟩ sub i_ ?_;rintro j ⟨y,e⟩;refine R6 ?_ ?_<;>intro h
 ·have b:j<l.length:=by have:=qr h;omega
  have o:=A2 g n qp b;refine cH ?_;refine r_ (w8 rfl (fun w s=>S4 (g.le s.keep) n qp b x8) (n _)) ?_;refine y9 (ps:=[]) _ rfl rfl rfl (r _ (zy b)) i_ (fun h t _=>Mn.le t k) rfl ?_;rintro v A ⟨rfl,rfl⟩;refine O1 ?_ ?_<;>intro p
  ·refine L6 ?_;exact d_ rfl rfl [] ⟨by rw[N4 b p e],rfl⟩ i_
  ·refine z_ ?_;refine l8 (j+1) ⟨b,fun i m h=>?_⟩ qb sub i_;rcases kd.1 h with u|rfl
   ·exact e i m u
   ·exact p
 ·have b:j=l.length:=by have:=zq h;omega
  refine C8 ?_;exact d_ rfl rfl [] ⟨by rw[N3 fun i m=>e i m qb],rfl⟩ i_
theorem lg{α:Type}(C:α->List Value)(n:∀x,(C x).length=5)(l:List α)(a:Option Addr)(c:Nat)(f:FuncId)[HF prog f](qs:List Value)(d:l9->Prop)[Mn d](q:α->Bool)(r:∀x∈l,Pu prog f (.agg (C x).toArray::qs) d (.bool (q x)))(hl:l.length<=1000000000000):Pu prog 228 [.slice a l.length c,.func (.func f) #[] qs.toArray] (fun h=>n9 h a (l.flatMap C)/\d h) (.int .i64 (D2 q l)):=by
 refine b_ 19 func228 rfl rfl rfl ?_;rintro F ⟨g,k⟩;refine O2 ?_;refine o9 (ι:=Nat) (fun j=>j<=l.length/\∀i (m:i<l.length),i<j->q l[i]=false) (fun j=>[(0,.slice a l.length c),(1,.func (.func f) #[] qs.toArray),(7,.int .i64 (l.length:Nat)),(8,.int .i64 (j:Nat))]) (fun _=>[]) (fun j=>l.length-j) 0 ⟨zw _,fun i _ h=>by omega⟩ sub i_ ?_;rintro j ⟨y,e⟩;refine R6 ?_ ?_<;>intro h
 ·have b:j<l.length:=by have:=qr h;omega
  have o:=A2 g n qp b;refine cH ?_;refine r_ (w8 rfl (fun w s=>S4 (g.le s.keep) n qp b x8) (n _)) ?_;refine y9 (ps:=[]) _ rfl rfl rfl (r _ (zy b)) i_ (fun h t _=>Mn.le t k) rfl ?_;rintro v A ⟨rfl,rfl⟩;refine O1 ?_ ?_<;>intro p
  ·refine L6 ?_;exact d_ rfl rfl [] ⟨by rw[N4 b p e],rfl⟩ i_
  ·refine z_ ?_;refine l8 (j+1) ⟨b,fun i m h=>?_⟩ qb sub i_;rcases kd.1 h with u|rfl
   ·exact e i m u
   ·exact p
 ·have b:j=l.length:=by have:=zq h;omega
  refine C8 ?_;exact d_ rfl rfl [] ⟨by rw[N3 fun i m=>e i m qb],rfl⟩ i_
theorem mD{α:Type}(C:α->List Value)(n:∀x,(C x).length=6)(l:List α)(a:Option Addr)(c:Nat)(f:FuncId)[HF prog f](qs:List Value)(d:l9->Prop)[Mn d](q:α->Bool)(r:∀x∈l,Pu prog f (.agg (C x).toArray::qs) d (.bool (q x)))(hl:l.length<=1000000000000):Pu prog 291 [.slice a l.length c,.func (.func f) #[] qs.toArray] (fun h=>n9 h a (l.flatMap C)/\d h) (.int .i64 (D2 q l)):=by
 refine b_ 19 func291 rfl rfl rfl ?_;rintro F ⟨g,k⟩;refine O2 ?_;refine o9 (ι:=Nat) (fun j=>j<=l.length/\∀i (m:i<l.length),i<j->q l[i]=false) (fun j=>[(0,.slice a l.length c),(1,.func (.func f) #[] qs.toArray),(7,.int .i64 (l.length:Nat)),(8,.int .i64 (j:Nat))]) (fun _=>[]) (fun j=>l.length-j) 0 ⟨zw _,fun i _ h=>by omega⟩ sub i_ ?_;rintro j ⟨y,e⟩;refine R6 ?_ ?_<;>intro h
 ·have b:j<l.length:=by have:=qr h;omega
  have o:=A2 g n qp b;refine cH ?_;refine r_ (w8 rfl (fun w s=>S4 (g.le s.keep) n qp b x8) (n _)) ?_;refine y9 (ps:=[]) _ rfl rfl rfl (r _ (zy b)) i_ (fun h t _=>Mn.le t k) rfl ?_;rintro v A ⟨rfl,rfl⟩;refine O1 ?_ ?_<;>intro p
  ·refine L6 ?_;exact d_ rfl rfl [] ⟨by rw[N4 b p e],rfl⟩ i_
  ·refine z_ ?_;refine l8 (j+1) ⟨b,fun i m h=>?_⟩ qb sub i_;rcases kd.1 h with u|rfl
   ·exact e i m u
   ·exact p
 ·have b:j=l.length:=by have:=zq h;omega
  refine C8 ?_;exact d_ rfl rfl [] ⟨by rw[N3 fun i m=>e i m qb],rfl⟩ i_
theorem jE{α:Type}(C:α->List Value)(n:∀x,(C x).length=2)(l:List α)(a:Option Addr)(c:Nat)(f:FuncId)[HF prog f](qs:List Value)(d:l9->Prop)[Mn d](q:α->Bool)(r:∀x∈l,Pu prog f (.agg (C x).toArray::qs) d (.bool (q x)))(hl:l.length<=1000000000000):Pu prog 338 [.slice a l.length c,.func (.func f) #[] qs.toArray] (fun h=>n9 h a (l.flatMap C)/\d h) (.int .i64 (D2 q l)):=by
 refine b_ 19 func338 rfl rfl rfl ?_;rintro F ⟨g,k⟩;refine O2 ?_;refine o9 (ι:=Nat) (fun j=>j<=l.length/\∀i (m:i<l.length),i<j->q l[i]=false) (fun j=>[(0,.slice a l.length c),(1,.func (.func f) #[] qs.toArray),(7,.int .i64 (l.length:Nat)),(8,.int .i64 (j:Nat))]) (fun _=>[]) (fun j=>l.length-j) 0 ⟨zw _,fun i _ h=>by omega⟩ sub i_ ?_;rintro j ⟨y,e⟩;refine R6 ?_ ?_<;>intro h
 ·have b:j<l.length:=by have:=qr h;omega
  have o:=A2 g n qp b;refine cH ?_;refine r_ (w8 rfl (fun w s=>S4 (g.le s.keep) n qp b x8) (n _)) ?_;refine y9 (ps:=[]) _ rfl rfl rfl (r _ (zy b)) i_ (fun h t _=>Mn.le t k) rfl ?_;rintro v A ⟨rfl,rfl⟩;refine O1 ?_ ?_<;>intro p
  ·refine L6 ?_;exact d_ rfl rfl [] ⟨by rw[N4 b p e],rfl⟩ i_
  ·refine z_ ?_;refine l8 (j+1) ⟨b,fun i m h=>?_⟩ qb sub i_;rcases kd.1 h with u|rfl
   ·exact e i m u
   ·exact p
 ·have b:j=l.length:=by have:=zq h;omega
  refine C8 ?_;exact d_ rfl rfl [] ⟨by rw[N3 fun i m=>e i m qb],rfl⟩ i_
theorem mE{α:Type}(C:α->List Value)(n:∀x,(C x).length=2)(l:List α)(a:Option Addr)(c:Nat)(f:FuncId)[HF prog f](qs:List Value)(d:l9->Prop)[Mn d](q:α->Bool)(r:∀x∈l,Pu prog f (.agg (C x).toArray::qs) d (.bool (q x)))(hl:l.length<=1000000000000):Pu prog 396 [.slice a l.length c,.func (.func f) #[] qs.toArray] (fun h=>n9 h a (l.flatMap C)/\d h) (.int .i64 (D2 q l)):=by
 refine b_ 19 func396 rfl rfl rfl ?_;rintro F ⟨g,k⟩;refine O2 ?_;refine o9 (ι:=Nat) (fun j=>j<=l.length/\∀i (m:i<l.length),i<j->q l[i]=false) (fun j=>[(0,.slice a l.length c),(1,.func (.func f) #[] qs.toArray),(7,.int .i64 (l.length:Nat)),(8,.int .i64 (j:Nat))]) (fun _=>[]) (fun j=>l.length-j) 0 ⟨zw _,fun i _ h=>by omega⟩ sub i_ ?_;rintro j ⟨y,e⟩;refine R6 ?_ ?_<;>intro h
 ·have b:j<l.length:=by have:=qr h;omega
  have o:=A2 g n qp b;refine cH ?_;refine r_ (w8 rfl (fun w s=>S4 (g.le s.keep) n qp b x8) (n _)) ?_;refine y9 (ps:=[]) _ rfl rfl rfl (r _ (zy b)) i_ (fun h t _=>Mn.le t k) rfl ?_;rintro v A ⟨rfl,rfl⟩;refine O1 ?_ ?_<;>intro p
  ·refine L6 ?_;exact d_ rfl rfl [] ⟨by rw[N4 b p e],rfl⟩ i_
  ·refine z_ ?_;refine l8 (j+1) ⟨b,fun i m h=>?_⟩ qb sub i_;rcases kd.1 h with u|rfl
   ·exact e i m u
   ·exact p
 ·have b:j=l.length:=by have:=zq h;omega
  refine C8 ?_;exact d_ rfl rfl [] ⟨by rw[N3 fun i m=>e i m qb],rfl⟩ i_
theorem U_{α:Type}(C:α->List Value)(i:∀x,(C x).length=5)(l:List α)(a:Option Addr)(c:Nat)(f:FuncId)[HF prog f](qs:List Value)(b:l9->Prop)[Mn b](q:α->Bool)(j:∀x∈l,Pu prog f (.agg (C x).toArray::qs) b (.bool (q x)))(hl:l.length<=1000000000000):Pu prog 156 [.slice a l.length c,.func (.func f) #[] qs.toArray] (fun h=>n9 h a (l.flatMap C)/\b h) (.bool (l.any q)):=by
 refine b_ 9 func156 rfl rfl rfl ?_;rintro F ⟨e,d⟩;refine E6 ?_;refine e_ rfl (lg C i l a c f qs b q j hl) (fun h g _=>⟨e.le g,Mn.le g d⟩) rfl ?_;refine f_ ((I3 rfl rfl).eq (qn (fI q l))) ?_;refine C8 ?_;exact d_ rfl rfl [] qh i_
theorem bZ{α:Type}(C:α->List Value)(i:∀x,(C x).length=6)(l:List α)(a:Option Addr)(c:Nat)(f:FuncId)[HF prog f](qs:List Value)(b:l9->Prop)[Mn b](q:α->Bool)(j:∀x∈l,Pu prog f (.agg (C x).toArray::qs) b (.bool (q x)))(hl:l.length<=1000000000000):Pu prog 229 [.slice a l.length c,.func (.func f) #[] qs.toArray] (fun h=>n9 h a (l.flatMap C)/\b h) (.bool (l.any q)):=by
 refine b_ 9 func229 rfl rfl rfl ?_;rintro F ⟨e,d⟩;refine E6 ?_;refine e_ rfl (mD C i l a c f qs b q j hl) (fun h g _=>⟨e.le g,Mn.le g d⟩) rfl ?_;refine f_ ((I3 rfl rfl).eq (qn (fI q l))) ?_;refine C8 ?_;exact d_ rfl rfl [] qh i_
theorem aY{α:Type}(C:α->List Value)(i:∀x,(C x).length=2)(l:List α)(a:Option Addr)(c:Nat)(f:FuncId)[HF prog f](qs:List Value)(b:l9->Prop)[Mn b](q:α->Bool)(j:∀x∈l,Pu prog f (.agg (C x).toArray::qs) b (.bool (q x)))(hl:l.length<=1000000000000):Pu prog 268 [.slice a l.length c,.func (.func f) #[] qs.toArray] (fun h=>n9 h a (l.flatMap C)/\b h) (.bool (l.any q)):=by
 refine b_ 9 func268 rfl rfl rfl ?_;rintro F ⟨e,d⟩;refine E6 ?_;refine e_ rfl (jE C i l a c f qs b q j hl) (fun h g _=>⟨e.le g,Mn.le g d⟩) rfl ?_;refine f_ ((I3 rfl rfl).eq (qn (fI q l))) ?_;refine C8 ?_;exact d_ rfl rfl [] qh i_
theorem X_(l:List Bs)(a:Option Addr)(c:Nat)(hl:l.length<=1000000):Ct prog 115 [.slice a l.length c] (fun h=>n9 h a (fV l)) [] (dw 9 1 l.length (fV l)):=by
 refine b_ 8 func115 rfl rfl rfl ?_;intro F d;refine eE ?_ ?_<;>intro h
 ·have ha:a=none:=by simpa using h
  have i:l=[]:=by
   cases l with
   |nil=>rfl
   |cons y t=>obtain⟨j,e,_⟩:=d (by simp[fV]);rw[ha] at e;cases e
  subst i;refine C8 ?_;exact d_ rfl rfl [A4 none [] 0] ⟨none,0,rfl,rfl⟩ (fun w b=>b.addNil _ _)
 ·refine u7 ?_;refine p9 ?_;intro a5;refine p9 ?_;refine B_ rfl rfl (fun k m=>.here) (fun w b=>n9.le d b.keep) (by rw[L7,Zv]) rfl rfl (kU _) (by show(0+l.length)*16<=_;omega) qb rfl ?_;intro f g _;refine C8 ?_;exact d_ rfl rfl [A4 f l g] ⟨f,g,by rw[ju],rfl⟩ (fun w b=>by rw[ju,j6] at b;exact b)
theorem cU{a:List KM}{c:CM}(h:a.map KM.k=c.keys):a.length=c.keys.length:=by rw[<-h,zm]
theorem a0S{a:List KM}{j:Nat}(b:j<a.length)(m:KM)(c:m.k=a[j].k):(a.set j m).map KM.k=a.map KM.k:=by
 rw[Ku,c,<-J3 KM.k (h:=by simpa using b)];exact Zn _
abbrev xS(a:Option Addr)(n c:Nat)(l:List KM):As:=.own (.slice a n c) 127 6 (qB l)
set_option maxHeartbeats 1000000 in
theorem mF(c:CM)(x:CL)(hc:tq c):Cm prog 130 [xt c x] (fd c x) [] (fun h v A=>A=[]/\∃x',v=xt c x'/\fd c x' h):=by
 refine x7 40 func130 rfl rfl rfl ?_;intro F R k;obtain⟨kl,y,h0,r⟩:=k.keys;have h1:=cU y;have h9:=hc.keys;have k0:=hc.set;have k8:=hc.a4U;have k9:=hc.a5c;refine p9 ?_;intro T;refine p9 ?_;intro g2;refine u7 ?_;refine D7 [1,4,7,10] [2,5,8,11,13,15,17,19] [.blk T (.cells (kK c x).toArray 36)] 20 ?_;refine wd [0,1,3,4,6,7,9,10] ?_;refine h_ 2 rfl i6 ?_;refine c_ (gT (V2 c.set) x.sa c.set.length x.sc (bI _) (eI _) qb) (fun h l _=>k.set.le l) ?_;rintro v A ⟨z,U,rfl,rfl⟩;refine gk [12] ?_;refine h_ 5 rfl i6 ?_;refine c_ (jD (oA c.a4U) x.ia c.a4U.length x.ic (tl _) (mW _) qb) (fun h l _=>k.a4U.le l) ?_;rintro v A ⟨D,V,rfl,rfl⟩;refine Y5 ?_;refine h_ 8 rfl i6 ?_;refine c_ (X_ c.a5c x.fa x.fc qb) (fun h l _=>k.a5c.le l) ?_;rintro v A ⟨J,X,rfl,rfl⟩;refine Y5 ?_;refine h_ 11 rfl i6 ?_;refine c_ (vt (qB kl) x.ka c.keys.length x.kc (by rw[tp,h1]) (KD _) qb) (fun h l _=>h0.le l) ?_;rintro v A ⟨q,s,rfl,rfl⟩;refine E5 [13,14,15,16,17,18,19] ?_;refine B8 (Z:=[U7 z c.set U,bJ D c.a4U V,A4 J c.a5c X]) tk fun M O ⟨bs,o⟩=>?_;have h2:n9 M.heap z (V2 c.set):=A1.rd o ud;have h3:n9 M.heap D (oA c.a4U):=A1.rd o ud;have h4:n9 M.heap J (fV c.a5c):=A1.rd o ud;clear o;refine O2 ?_;refine bD (ι:=Nat×l6×List KM) (fun i=>i.1<=c.keys.length/\M.le i.2.1/\i.2.2.map KM.k=c.keys/\∀m∈i.2.2,n9 i.2.1.heap m.a (V2 m.k.set)) (fun i=>[(1,m6 T),(2,m6 g2),(22,.int .i64 (c.keys.length:Nat)),(23,.int .i64 (i.1:Nat))]) (fun i=>i.2.1)
  (fun i=>.blk T (.cells (kK c ⟨z,U,D,V,q,s,J,X⟩).toArray 36)::xS q c.keys.length s i.2.2::.blk g2 (.cells (kK ip G8).toArray 36)::R) (fun i=>c.keys.length-i.1) (0,M,kl) ⟨zw _,l6.le_refl _,y,fun m Q=>(r m Q).le O.heap⟩ sub rfl ?_ ?_
 ·intro w u;exact(tk (C:=[_,_,_])).hp u
 rintro⟨j,F2,k2⟩ ⟨hj,d,e,p⟩;simp only at hj d e p;have h7:k2.length=c.keys.length:=cU e;refine R6 ?_ ?_<;>intro h
 ·have f:j<k2.length:=by have:=qr h;omega
  have h8:k2[j].k.set.length<=64:=(hc.ksets _ (by rw[<-e];exact jw.2 ⟨_,zy f,rfl⟩)).1;refine B4 (a:=q) (n:=c.keys.length) (c:=s) (sz:=6) (xs:=qB k2) (te:=127) ud fun _ _ g=>?_;have g:=g qb;refine z_ ?_;refine D7 [1,4,8] [9,12] [xS q c.keys.length s k2,.blk T (.cells (kK c ⟨z,U,D,V,q,s,J,X⟩).toArray 36)] 13 ?_;refine wd [0,1,2,3,4,5,6,7] ?_;refine n8 8 rfl P6 (i8 rfl (fun w u=>dH (j:=5) (u.ownN (t:=127) ud).2.2.1 ak f rfl x8)) I4 rfl rfl rfl i6 ?_;refine h_ 9 rfl i6 ?_;refine c_ (gT (V2 k2[j].k.set) k2[j].a k2[j].k.set.length k2[j].c (bI _) (eI _) qb) (fun h l _=>(p _ (zy f)).le l) ?_;rintro v A ⟨S,Y,rfl,rfl⟩;refine gk [10,11] ?_;refine h_ 12 rfl i6 ?_;refine A9 (C:=bu) ⟨k2[j].k,S,Y⟩ ak f (j:=5) rfl ?_;refine E5 [] ?_;refine B8 (Z:=[U7 S k2[j].k.set Y]) tk fun F3 b ⟨bs,o⟩=>?_;have h6:n9 F3.heap S (V2 k2[j].k.set):=A1.rd o ud;clear o;refine z_ ?_;refine O_ (j+1,F3,k2.set j ⟨k2[j].k,S,Y⟩) ⟨by simp only;omega,d.trans b,(a0S f ⟨k2[j].k,S,Y⟩ rfl).trans e,fun m Q=>?_⟩ qg sub rfl (fun w u=>(tk (C:=[_,_,_])).hp u);rcases jd Q with h5|rfl
  ·exact(p m h5).le b.heap
  ·exact h6
 ·refine u7 ?_;refine B8 (Z:=[xS q c.keys.length s k2]) tk fun F3 b ⟨bs,o⟩=>?_;have r:n9 F3.heap q (qB k2):=A1.rd o ud;refine L6 ?_;refine G9 (A:=[]) (v:=xt c ⟨z,U,D,V,q,s,J,X⟩) ((O.trans d).trans b) ⟨rfl,_,rfl,h2.le (d.trans b).heap,h3.le (d.trans b).heap,⟨k2,e,r,fun m Q=>(p m Q).le b.heap⟩,h4.le (d.trans b).heap⟩ ?_;exact G4 rfl rfl ud rfl _ qh (fun w u=>Nr.hp sfx u)
theorem I9{h:l9}{Z a:List As}{g:Nat}{cs:Array Value}{te:TypeId}(hz:∃bs,A1 h Z bs)(u:M1 Z (.blk g (.cells cs te (0,0))) [] a:=by exact ud):h g=some (.cells cs te (0,0)):=by
 obtain⟨bs,b⟩:=hz;obtain⟨d,c⟩:=A1.get b u;exact c.2
instance {g:Nat} {o:Obj}:Mn (fun h=>h g=some o):=⟨fun l k=>l _ _ k⟩
abbrev aH(g:Nat)(v:Value)(t:TypeId)(h:l9):Prop:=h g=some (.cells #[v] t (0,0))
theorem dN(m n:Nat):Value.bool (decide (((m:Nat):Int)=((n:Nat):Int)))=.bool (decide (m=n)):=qn (zc.2 Jj)
theorem OB(g:Nat)(a:Bs)(b:BM):Pu prog 189 [JA b,m6 g] (aH g (B a) 9) (.bool (decide (b.name=a))):=by
 refine b_ 8 func189 rfl rfl rfl ?_;intro F c;refine p9 ?_;intro e;refine Np ?_;exact d_ rfl rfl [] qh (fun w d=>d.dropAll)
theorem FS(g:Nat)(n:Nat)(x:SX):Pu prog 127 [.agg (mZ x).toArray,m6 g] (aH g (.int .u64 (n:Nat)) 27) (.bool (decide (x.ses=n))):=by
 refine b_ 8 func127 rfl rfl rfl ?_;intro F a;refine p9 ?_;intro c;refine O2 ?_;refine f_ ((p7 rfl rfl).eq (dN x.ses n)) ?_;refine C8 ?_;exact d_ rfl rfl [] qh (fun w b=>b.dropAll)
theorem FT(g:Nat)(n:Int)(x:HO):Pu prog 183 [.agg (gr x).toArray,m6 g] (aH g (.int .i64 n) 3) (.bool (decide (x.node=n))):=by
 refine b_ 8 func183 rfl rfl rfl ?_;intro F a;refine p9 ?_;intro c;refine Np ?_;exact d_ rfl rfl [] qh (fun w b=>b.dropAll)
theorem xT(g k:Nat)(n:Int)(t:Nat)(x:SX):Pu prog 184 [.agg (mZ x).toArray,m6 g,m6 k] (fun h=>aH g (.int .i64 n) 3 h/\aH k (.int .u64 (t:Nat)) 27 h) (.bool (decide (x.node=n/\x.tr=t))):=by
 obtain⟨a,b⟩:=o7 (decide (x.node=n));obtain⟨e,c⟩:=o7 (decide (x.tr=t));rw[show decide (x.node=n/\x.tr=t)=(a&&e) from by rw[b,c,Bool.decide_and]];refine b_ 15 func184 rfl rfl rfl ?_;rintro F ⟨f,d⟩
 cases a
 all_goals (
  refine p9 ?_;intro j;refine O2 ?_;refine f_ ((p7 rfl rfl).eb b) ?_;refine O2 ?_;(first|refine u_ ?_|(refine v_ ?_;refine f_ ((p7 rfl rfl).eq ((dN x.tr t).trans (qn c.symm))) ?_));refine z_ ?_)
 all_goals (refine A3 ?_;exact d_ rfl rfl [] qh (fun w i=>i.dropAll))
theorem oC(m:MM)(a:Bs)(l:m.a4N.length<=1000):Pu prog 109 [uD m,B a] (fun h=>n9 h m.ba (eX m.a4N)) (.int .i64 (D2 (fun b=>decide (b.name=a)) m.a4N)):=by
 refine b_ 9 func109 rfl rfl rfl ?_;intro F e;refine C6 ?_;refine m9 rfl rfl ?_;intro n;refine L1 rfl rfl rfl ?_;intro c;refine p9 ?_;refine B8 (Z:=[.blk c (.cells #[B a] 9)]) tk fun g d i=>?_;have j:aH c (B a) 9 g.heap:=I9 i;refine E6 ?_;refine e_ rfl (mC cS o_ m.a4N m.ba m.bc 189 [m6 c] (aH c (B a) 9) (fun b=>decide (b.name=a)) (fun b _=>OB c a b) qb) (fun h f _=>⟨(e.le d.heap).le f,f _ _ j⟩) rfl ?_;refine C8 ?_;exact D4 d (d_ rfl rfl [] qh (fun w k=>k.dropAll))
theorem KI(m:MM)(n:Nat)(j:m.a4P.length<=1000):Pu prog 67 [uD m,.int .u64 (n:Nat)] (fun h=>n9 h m.sa (JB m.a4P)) (.int .i64 (D2 (fun x=>decide (x.ses=n)) m.a4P)):=by
 refine b_ 9 func67 rfl rfl rfl ?_;intro F c;refine C6 ?_;refine m9 rfl rfl ?_;intro k;refine L1 rfl rfl rfl ?_;intro a;refine p9 ?_;refine B8 (Z:=[.blk a (.cells #[.int .u64 (n:Nat)] 27)]) tk fun e b f=>?_;have g:aH a (.int .u64 (n:Nat)) 27 e.heap:=I9 f;refine E6 ?_;refine e_ rfl (aA mZ V_ m.a4P m.sa m.sc 127 [m6 a] (aH a (.int .u64 (n:Nat)) 27) (fun x=>decide (x.ses=n)) (fun x _=>FS a n x) qb) (fun h d _=>⟨(c.le b.heap).le d,d _ _ g⟩) rfl ?_;refine C8 ?_;exact D4 b (d_ rfl rfl [] qh (fun w i=>i.dropAll))
theorem KJ(m:MM)(n:Int)(j:m.a4O.length<=1000):Pu prog 101 [uD m,.int .i64 n] (fun h=>n9 h m.ha (JC m.a4O)) (.int .i64 (D2 (fun x=>decide (x.node=n)) m.a4O)):=by
 refine b_ 9 func101 rfl rfl rfl ?_;intro F c;refine C6 ?_;refine m9 rfl rfl ?_;intro k;refine L1 rfl rfl rfl ?_;intro a;refine p9 ?_;refine B8 (Z:=[.blk a (.cells #[.int .i64 n] 3)]) tk fun e b f=>?_;have g:aH a (.int .i64 n) 3 e.heap:=I9 f;refine E6 ?_;refine e_ rfl (ld gr O5 m.a4O m.ha m.hc 183 [m6 a] (aH a (.int .i64 n) 3) (fun x=>decide (x.node=n)) (fun x _=>FT a n x) qb) (fun h d _=>⟨(c.le b.heap).le d,d _ _ g⟩) rfl ?_;refine C8 ?_;exact D4 b (d_ rfl rfl [] qh (fun w i=>i.dropAll))
theorem CO(m:MM)(n:Int)(t:Nat)(l:m.a4P.length<=1000):Pu prog 102 [uD m,.int .i64 n,.int .u64 (t:Nat)] (fun h=>n9 h m.sa (JB m.a4P)) (.int .i64 (D2 (fun x=>decide (x.node=n/\x.tr=t)) m.a4P)):=by
 refine b_ 11 func102 rfl rfl rfl ?_;intro F d;refine C6 ?_;refine m9 rfl rfl ?_;intro o;refine L1 rfl rfl rfl ?_;intro a;refine L1 rfl rfl rfl ?_;intro b;refine p9 ?_;refine B8 (Z:=[.blk a (.cells #[.int .i64 n] 3),.blk b (.cells #[.int .u64 (t:Nat)] 27)]) tk fun f c g=>?_;have i:aH a (.int .i64 n) 3 f.heap:=I9 g;have j:aH b (.int .u64 (t:Nat)) 27 f.heap:=I9 g;refine E6 ?_;refine e_ rfl (aA mZ V_ m.a4P m.sa m.sc 184 [m6 a,m6 b] (fun h=>aH a (.int .i64 n) 3 h/\aH b (.int .u64 (t:Nat)) 27 h) (fun x=>decide (x.node=n/\x.tr=t)) (fun x _=>xT a b n t x) qb) (fun h e _=>⟨(d.le c.heap).le e,e _ _ i,e _ _ j⟩) rfl ?_;refine C8 ?_;exact D4 c (d_ rfl rfl [] qh (fun w k=>k.dropAll))
end Go.Proofs.YtmcepdopookilaaGreatDoor.Rp
namespace Go.Sl
open Go Go.RowKit Go.Proofs.Tryz
theorem sat_blks{h:l9}(g:Nat->Obj):∀(l:List Nat),(∀b∈l,h b=some (g b))->A1 h (l.map fun b=>.blk b (g b)) l
 |[],_=>rfl
 |b::t,hb=>⟨[b],t,rfl,⟨rfl,hb b x8⟩,sat_blks g t fun c hc=>hb c (by simp[hc])⟩
theorem jF{h:l9}(g:Nat->Obj):∀(l:List Nat) (bs:List Nat),A1 h (l.map fun b=>.blk b (g b)) bs->∀b∈l,h b=some (g b)
 |[],_,_,b,a=>by cases a
 |c::t,bs,⟨b1,b2,_,h1,h2⟩,b,a=>by
  rcases kx.1 a with rfl|a
  ·exact h1.2
  ·exact jF g t _ h2 b a
theorem Hp.thaw{F d:l6}{w:World}{H:List As}(hl:F.le d)(f:Hp d w H):∃Z,Hp F w (H++Z)/\∀h bs,l9.le F.heap h->A1 h Z bs->l9.le d.heap h:=by
 let l:=(List.range w.heap.size).filter fun b=>(d.heap b).isSome&&(F.heap b).isNone
 let g:Nat->Obj:=fun b=>(d.heap b).getD (.cells #[] 0)
 have hg:∀b∈l,d.heap b=some (g b)/\F.heap b=none:=fun b c=>by
  have j:=(Qy.1 c).2;simp only[kw,Option.isNone_iff_eq_none] at j;obtain⟨o,i⟩:=Zg.1 j.1;exact⟨by show _=some ((d.heap b).getD _);rw[i];rfl,j.2⟩
 obtain⟨bs,hs,r,hf⟩:=f.own;refine⟨l.map fun b=>.blk b (g b),⟨f.os.trans hl.os,f.tape.trans hl.tape,f.output.trans hl.output,l9.le_trans hl.heap f.keep,bs++l,A1.append hs (sat_blks g l fun b c=>f.keep _ _ (hg b c).1),?_,?_⟩,?_⟩
 ·refine jr.2 ⟨r,List.Pairwise.filter _ List.nodup_range,fun a ha b c e=>?_⟩;subst e;have:=hf a ha;rw[(hg a c).1] at this
  cases this
 ·intro b c;rcases zp.1 c with c|c
  ·cases e:F.heap b with
   |none=>rfl
   |some o=>have:=hl.heap b o e;rw[hf b c] at this;cases this
  ·exact(hg b c).2
 ·intro h s k m b o i;by_cases hm:b∈l
  ·have j:=jF g l s m b hm;have p:=(hg b hm).1;rw[i] at p;rw[j];exact p.symm
  ·have n:b<w.heap.size:=by
    have t:w.heap[b]? =some o:=f.keep b o i;exact(kp.1 t).1
   cases e:F.heap b with
   |some o'=>
    have q:=hl.heap b o' e;rw[i] at q;rw[k b o' e];exact q.symm
   |none=>exact absurd (Qy.2 ⟨List.mem_range.2 n,by simp[i,e]⟩) hm
section
variable{P:Program}{N:Nat}{K R:y5}{E:List (Nat×y5)}{L:F_}{F:l6}{H:List As}{ops:Array Oper}{rest:List Oper}{ty:TypeId}{pos:String}{af:Array Edge}{dst:Option Nat}{gd:Option (Nat×Bool)}{x:Operand}
theorem R7{d:Nat}{f:FuncId}{args:List Operand}{i:Array TypeId}{vs:List Value}{b:l9->Prop}{C Rr:List As}{Q:l9->Value->List As->Prop}[HF P f](hc:Cm P f vs b C Q)(c:b F.heap)(k:∀v A Z g,(∀h bs,l9.le F.heap h->A1 h Z bs->l9.le g h)->Q g v A->GL P N ops rest K E R ((d,v)::L) F (A++(Rr++Z)))(hx:ri L args=some vs:=by rfl)(hH:x6 C H Rr:=by exact tk)(l:Nat.blt d N=true:=by rfl):
  GL P N ops (⟨some d,.call ⟨.value (.func f),args.toArray,i⟩,ty,pos,af,none⟩::rest) K E R L F H:=by
 unfold GL at k⊢;intro a w hf m;refine wpList_plain rfl fun s n=>?_;unfold Oper.wp;rw[aQ hx hf.agr w,Oper.upon_enter];refine(hc F Rr w (hH.hp m) c).mono ?_;rintro e t ⟨v,A,g,rfl,o,p,j⟩;obtain⟨Z,q,r⟩:=j.thaw o;exact n _ _ (k v A Z g.heap r p _ _ (hf.put l v) (by rw[<-zh];exact q))
theorem RJ{Rr Z:List As}(b:l9)(hz:∀h bs,l9.le F.heap h->A1 h Z bs->l9.le b h)(hH:∀w,Hp F w H->Hp F w (Rr++Z))(k:∀a,F.le a->l9.le b a.heap->GL P N ops rest K E R L a Rr):GL P N ops rest K E R L F H:=
 I6 hH (rm fun a c ⟨bs,d⟩=>k a c (hz _ bs c.heap d))
theorem Aq{c:Code}{Rr Z:List As}(b:l9)(hz:∀h bs,l9.le F.heap h->A1 h Z bs->l9.le b h)(hH:∀w,Hp F w H->Hp F w (Rr++Z))(k:∀a,F.le a->l9.le b a.heap->G P N c K E R L a Rr):G P N c K E R L F H:=
 D6 hH (bS fun a d ⟨bs,e⟩=>k a d (hz _ bs d.heap e))
end
end Go.Sl
namespace Go.Proofs.YtmcepdopookilaaGreatDoor.Rp
open Go Go.Sl Go.RowKit Go.Proofs.Tryz
theorem jG{α β:Type}{f:α->β}{l:List α}{j:Nat}(a:j<l.length)(m:α)(b:f m=f l[j]):(l.set j m).map f=l.map f:=by
 rw[Ku,b,<-J3 f (h:=by simpa using a)];exact Zn _
def OD(b:BM)(h:l9)(v:Value)(A:List As):Prop:=∃b':BM,v=JA b'/\b'.x=b.x/\A=[N9 b'.a b'.ls b'.c]/\ix b'.ls h
theorem lQ(b:BM)(hl:b.ls.length<=1000)(hf:∀x∈b.ls,x.t.a5c.length<=1000):Cm prog 125 [JA b] (fH b) [] (OD b):=by
 refine x7 28 func125 rfl rfl rfl ?_;intro F R p;refine C6 ?_;refine m9 rfl rfl ?_;intro u;refine i7 rfl ?_;intro D;refine z_ ?_;refine c_ (fJ (qC b.ls) b.a b.ls.length b.c (Ai _) (Aj _) qb) (fun h J _=>p.ls.le J) ?_;rintro v A ⟨a,c,rfl,rfl⟩;refine cH ?_;refine bD (ι:=Nat×l6×List LM) (fun i=>i.1<=b.ls.length/\F.le i.2.1/\i.2.2.map LM.t=b.ls.map LM.t/\ix i.2.2 i.2.1.heap) (fun i=>[(1,m6 u),(2,m6 D),(10,.int .i64 (b.ls.length:Nat)),(11,.int .i64 (i.1:Nat))]) (fun i=>i.2.1)
  (fun i=>.blk u (.cells #[B b.name,.int .u64 (b.val:Nat),.int .u64 (b.next:Nat),.int .u64 (b.high:Nat),.slice a b.ls.length c] 100)::.own (.slice a b.ls.length c) 156 5 (qC i.2.2)::.blk D (.cells (cS FQ).toArray 100)::R) (fun i=>b.ls.length-i.1) (0,F,b.ls) ⟨zw _,l6.le_refl _,rfl,p.fl⟩ sub rfl ?_ ?_
 ·intro w l;exact(tk (C:=[_,_,_])).hp l
 rintro⟨j,F2,k2⟩ ⟨S,o,d,k⟩;simp only at S o d k;have q:k2.length=b.ls.length:=by have:=jk List.length d;simpa using this
 refine R6 ?_ ?_<;>intro h
 ·have f:j<k2.length:=by have:=qr h;omega
  have T:k2[j].t.a5c.length<=1000:=by
   have e:k2[j].t∈b.ls.map LM.t:=(by rw[<-d];exact jw.2 ⟨_,zy f,rfl⟩);obtain⟨y,U,V⟩:=jw.1 e;rw[<-V];exact hf y U
  refine B4 (a:=a) (n:=b.ls.length) (c:=c) (sz:=5) (xs:=qC k2) (te:=156) ud fun _ _ g=>?_;have g:=g qb;refine z_ ?_;refine D7 [1,4,8] [9,12] [.own (.slice a b.ls.length c) 156 5 (qC k2),.blk u (.cells #[B b.name,.int .u64 (b.val:Nat),.int .u64 (b.next:Nat),.int .u64 (b.high:Nat),.slice a b.ls.length c] 100)] 13 ?_;refine wd [0,1,2,3,4,5,6,7] ?_;refine n8 8 rfl P6 (i8 rfl (fun w l=>dH (j:=1) (l.ownN (t:=156) ud).2.2.1 A_ f rfl x8)) I4 rfl rfl rfl i6 ?_;refine h_ 9 rfl i6 ?_;refine c_ (X_ k2[j].t.a5c k2[j].a k2[j].c qb) (fun h J _=>(k _ (zy f)).le J) ?_;rintro v A ⟨r,z,rfl,rfl⟩;refine gk [10,11] ?_;refine h_ 12 rfl i6 ?_;refine A9 (C:=S9) ⟨k2[j].t,r,z⟩ A_ f (j:=1) rfl ?_;refine E5 [] ?_;refine B8 (Z:=[A4 r k2[j].t.a5c z]) tk fun O s ⟨bs,Q⟩=>?_;have M:n9 O.heap r (fV k2[j].t.a5c):=A1.rd Q ud;clear Q;refine z_ ?_;refine O_ (j+1,O,k2.set j ⟨k2[j].t,r,z⟩) ⟨by simp only;omega,o.trans s,(jG f ⟨k2[j].t,r,z⟩ rfl).trans d,fun m X=>?_⟩ qg sub rfl (fun w l=>(tk (C:=[_,_,_])).hp l);rcases jd X with Y|rfl
  ·exact(k m Y).le s.heap
  ·exact M
 ·refine L6 ?_;refine G9 (A:=[N9 a k2 c]) (v:=JA ⟨b.name,b.val,b.next,b.high,k2,a,c⟩) o ⟨_,rfl,by simp only[BM.x,d],rfl,k⟩ ?_;rw[<-q];exact G4 rfl rfl ud rfl _ qh (fun w l=>(tk (C:=[.blk u _,.blk D _,N9 a k2 c])).hp l|>.drop.drop)
def OE(m:MM)(h:l9)(v:Value)(A:List As):Prop:=∃m':MM,v=uD m'/\m'.s=m.s/\A=uE m'/\∀b∈m'.a4N,ix b.ls h
structure RK(m:MM):Prop where
 a4P:m.a4P.length<=1000
 a4O:m.a4O.length<=1000
 a4N:m.a4N.length<=1000
 ls:∀b∈m.a4N,b.ls.length<=1000
 fl:∀b∈m.a4N,∀x∈b.ls,x.t.a5c.length<=1000
theorem dP{α:Type}{l:List α}{j:Nat}(a:j<l.length)(b:α):(l.set j b).take (j+1)=l.take j++[b]:=by
 rw[kj (by simpa using a),List.take_set_of_le (z1 _)];simp
theorem FU{l:List BM}{j:Nat}(c:j<l.length)(b:BM)(Z:List As):(N9 b.a b.ls b.c::(V5 (l.take j)++Z)).Perm (V5 ((l.set j b).take (j+1))++Z):=by
 rw[dP c,KH];show(N9 b.a b.ls b.c::(V5 (l.take j)++Z)).Perm ((V5 (l.take j)++[N9 b.a b.ls b.c])++Z);rw[zh];exact(Qd (l₁:=V5 (l.take j)) (a:=N9 b.a b.ls b.c) (l₂:=Z)).symm
theorem tB(m:MM)(M:RK m):Cm prog 66 [uD m] (iz m) [] (OE m):=by
 refine x7 34 func66 rfl rfl rfl ?_;intro F R l;have h7:=M.a4P;have h8:=M.a4O;have h9:=M.a4N;refine C6 ?_;refine m9 rfl rfl ?_;intro O;refine i7 rfl ?_;intro V;refine z_ ?_;refine c_ (jC (JB m.a4P) m.sa m.a4P.length m.sc (An _) (Ao _) qb) (fun h Q _=>l.a4P.le Q) ?_;rintro v A ⟨p,q,rfl,rfl⟩;refine O2 ?_;refine c_ (tA (JC m.a4O) m.ha m.a4O.length m.hc (KF _) (KG _) qb) (fun h Q _=>l.a4O.le Q) ?_;rintro v A ⟨ha,hc,rfl,rfl⟩;refine O2 ?_;refine c_ (vr (eX m.a4N) m.ba m.a4N.length m.bc (mY _) (Al _) qb) (fun h Q _=>l.a4N.le Q) ?_;rintro v A ⟨g,k,rfl,rfl⟩;refine cH ?_;refine bD (ι:=Nat×l6×List BM) (fun i=>i.1<=m.a4N.length/\F.le i.2.1/\i.2.2.map BM.x=m.a4N.map BM.x/\(∀b∈i.2.2.take i.1,ix b.ls i.2.1.heap)/\∀b∈i.2.2.drop i.1,fH b i.2.1.heap) (fun i=>[(1,m6 O),(2,m6 V),(18,.int .i64 (m.a4N.length:Nat)),(19,.int .i64 (i.1:Nat))]) (fun i=>i.2.1)
  (fun i=>.blk O (.cells #[.slice g m.a4N.length k,.int .u64 (m.nval:Nat),.slice ha m.a4O.length hc,.slice p m.a4P.length q,.int .u64 (m.nses:Nat),.int .u64 (m.a4Z:Nat)] 62)::.own (.slice g m.a4N.length k) 100 5 (eX i.2.2)::P5 ha m.a4O hc::T0 p m.a4P q::.blk V (.cells #[.slice none 0 0,.int .u64 0,.slice none 0 0,.slice none 0 0,.int .u64 0,.int .u64 0] 62)::(V5 (i.2.2.take i.1)++R)) (fun i=>m.a4N.length-i.1) (0,F,m.a4N) ⟨zw _,l6.le_refl _,rfl,fun b e=>by simp at e,fun b e=>l.box b (List.mem_of_mem_drop e)⟩ sub rfl ?_ ?_
 ·intro w s;exact(tk (C:=[_,_,_,_,_])).hp s
 rintro⟨j,F2,k2⟩ ⟨hj,u,S,o,D⟩;simp only at hj u S o D;have T:k2.length=m.a4N.length:=by have:=jk List.length S;simpa using this
 refine R6 ?_ ?_<;>intro h
 ·have d:j<k2.length:=by have:=qr h;omega
  have X:k2[j].x∈m.a4N.map BM.x:=by rw[<-S];exact jw.2 ⟨_,zy d,rfl⟩
  obtain⟨y,hy,e2⟩:=jw.1 X;have U:k2[j].ls.map LM.t=y.ls.map LM.t:=(jk BX.lts e2).symm;have Y:k2[j].ls.length<=1000:=by have:=jk List.length U;have h5:=M.ls y hy;simp at this;omega
  have h0:∀x∈k2[j].ls,x.t.a5c.length<=1000:=fun x hx=>by
   have e3:x.t∈y.ls.map LM.t:=(by rw[<-U];exact jw.2 ⟨x,hx,rfl⟩);obtain⟨z,hz,e4⟩:=jw.1 e3;rw[<-e4];exact M.fl y hy z hz
  have h1:fH k2[j] F2.heap:=D _ (by rw[Qu d];exact j8);refine B4 (a:=g) (n:=m.a4N.length) (c:=k) (sz:=5) (xs:=eX k2) (te:=100) ud fun _ _ f=>?_;have f:=f qb;refine z_ ?_;refine D7 [1,4,7] [8,10] [.own (.slice g m.a4N.length k) 100 5 (eX k2),.blk O (.cells #[.slice g m.a4N.length k,.int .u64 (m.nval:Nat),.slice ha m.a4O.length hc,.slice p m.a4P.length q,.int .u64 (m.nses:Nat),.int .u64 (m.a4Z:Nat)] 62)] 11 ?_;refine wd [0,1,2,3,4,5,6] ?_;refine n8 7 rfl P6 (w8 rfl (fun w s=>fm (s.ownN (t:=100) ud).2.2.1 o_ qp d x8) (o_ _)) I4 rfl rfl rfl i6 ?_;refine h_ 8 rfl i6 ?_;refine R7 (lQ k2[j] Y h0) h1 ?_;rintro v A Z Fz hz ⟨r,rfl,h2,rfl,h3⟩;refine gk [9] ?_;refine h_ 10 rfl i6 ?_;refine A9 (C:=cS) r o_ d (j:=0) rfl ?_;refine E5 [] ?_;refine Aq Fz hz (Rr:=N9 r.a r.ls r.c::.blk O (.cells #[.slice g m.a4N.length k,.int .u64 (m.nval:Nat),.slice ha m.a4O.length hc,.slice p m.a4P.length q,.int .u64 (m.nses:Nat),.int .u64 (m.a4Z:Nat)] 62)::.own (.slice g m.a4N.length k) 100 5 (eX (k2.set j r))::P5 ha m.a4O hc::T0 p m.a4P q::.blk V (.cells #[.slice none 0 0,.int .u64 0,.slice none 0 0,.slice none 0 0,.int .u64 0,.int .u64 0] 62)::(V5 (k2.take j)++R)) (Z:=Z) i_ fun F3 J h4=>?_;refine z_ ?_;refine O_ (j+1,F3,k2.set j r) ⟨by simp only;omega,u.trans J,(jG d r h2).trans S,fun b e=>?_,fun b e=>?_⟩ qg sub rfl (fun w s=>?_)
  ·rw[dP d] at e;rcases zp.1 e with e|e
   ·exact Mn.le J.heap (o b e)
   ·obtain rfl:=zg.1 e;exact Mn.le h4 h3
  ·simp only at e;rw[Kh qb] at e;exact Mn.le J.heap (D b (by rw[Qu d];exact jj _ e))
  ·exact s.perm (((kz (l₁:=[_]) (l₂:=[_,_,_,_,_])).append_right (V5 (k2.take j)++R)).trans ((FU d r R).append_left [_,_,_,_,_]))
 ·refine L6 ?_;have k0:j=m.a4N.length:=by have:=zq h;omega
  have h6:k2.take j=k2:=kr qb;rw[h6] at o⊢;refine G9 (A:=uE ⟨k2,m.nval,m.a4O,m.a4P,m.nses,m.a4Z,g,k,ha,hc,p,q⟩) (v:=uD ⟨k2,m.nval,m.a4O,m.a4P,m.nses,m.a4Z,g,k,ha,hc,p,q⟩) u ⟨_,rfl,by simp only[MM.s,S],rfl,o⟩ ?_;rw[<-T];exact G4 rfl rfl ud rfl _ qh (fun w s=>(tk (C:=[.blk O _,.blk V _,T0 p m.a4P q,P5 ha m.a4O hc,S_ g k2 k])).hp s|>.drop.drop)
end Go.Proofs.YtmcepdopookilaaGreatDoor.Rp
namespace Go.Sl
open Go Go.RowKit Go.Proofs.Tryz
section
variable{P:Program}{N:Nat}{K R:y5}{E:List (Nat×y5)}{L:F_}{F:l6}{H:List As}{ops:Array Oper}{rest:List Oper}{ty:TypeId}{pos:String}{af:Array Edge}{t:TypeId}{x:Operand}
theorem qS{z:Array Value}{n:Nat}(h:∀q∈z.toList,q.oneCell'=true):∀q∈(Builtin.zeroCells z n).toList,q.oneCell'=true:=fun q a=>by
 unfold Builtin.zeroCells at a;rw[Array.mem_toList_iff,Array.mem_map] at a;obtain⟨i,d,rfl⟩:=a;have b:i<n*z.size:=by simpa using d
 have hp:0<z.size:=by
  rcases Qn z.size with c|c
  ·rw[c] at b;omega
  ·exact c
 have e:=Nat.mod_lt i hp;rw[getElem!_pos z _ e];exact h _ x8
theorem jH{a:Option Addr}{n c sz lo k:Nat}{xs:List Value}{te:TypeId}{z:Value}{H':List Value->List As}[hu:HU P t (.slice te)][hz:HZ P te z](hx:ev L x=some (.slice (Y3 a c lo sz) k (c-lo)))(hk:k=n-lo)(h6:lo<=n)(y:z.cells.size=sz)(A:(z.cells.toList.all fun q=>q.oneCell')=true)(u:∀s,M1 H (.own (.slice a n c) te sz xs) [.own (.slice a n c) te sz s] (H' s))(h:∀s,s.length=xs.length->s.take (lo*sz)=xs.take (lo*sz)->GL P N ops rest K E R L F (H' s)):GL P N ops (⟨none,.call ⟨.builtin .clear,#[x],#[t]⟩,ty,pos,af,none⟩::rest) K E R L F H:=
 JM rfl rfl fun w0 w hf U=>by
  subst hk;have d:∀C,(Builtin.clear_ #[t] ty #[.slice (Y3 a c lo sz) (n-lo) (c-lo)]).run P w=.ok (.tuple #[]) C->(execOp w0.eval ⟨none,.call ⟨.builtin .clear,#[x],#[t]⟩,ty,pos,af,none⟩).run P w=.ok (.value (.tuple #[])) C:=fun C hr=>by
   simp[execOp,resolve,invoke,builtin,hf.eval hx,hr]
  obtain⟨V,i,_,h7,kk⟩:=U.focus (u xs);by_cases h0:n-lo=0
  ·refine⟨_,w,H' xs,d w ?_,?_,h xs rfl rfl⟩
   ·rw[h0]
    cases Y3 a c lo sz<;>simp[Builtin.clear_,run_underlying hu.h]
   ·exact kk w V rfl rfl rfl (fun _ _ _=>rfl) ⟨V,[],by simp,i,rfl⟩ (by assumption) (fun _ hb=>.inl hb)
  ·rcases i with⟨j,rfl,rfl⟩|⟨g,rfl,⟨o,n',h8,pre,b,X,j,hg,v,hl,D,J,l⟩⟩
   ·injection j with e1 e2 e3;omega
   ·injection j with e1 e2 e3;subst e1 e2 e3;have M:Y3 (some ⟨g,o,none⟩) c lo sz=some ⟨g,o+lo*sz,none⟩:=by
     unfold Y3;rw[zk qb];simp[Addr.add_lit]
    have Y:lo*sz+(n-lo)*sz=n*sz:=(by rw[<-Qr];congr 1;omega);have m:(Builtin.zeroCells z.cells (n-lo)).toList.length=(n-lo)*sz:=(by simp[size_zeroCells,y]);have e:=G3 (P:=P) g (o+lo*sz) te X (Builtin.zeroCells z.cells (n-lo)).toList 0 (pre++xs++b).toArray w hg (by simpa using l) (by rw[m];simp[v];omega) (qS (fun q O=>Qx.1 A q O));simp only[Q2,<-v] at e;have hm:=fp pre xs b (Builtin.zeroCells z.cells (n-lo)).toList (lo*sz) (by rw[m];omega);rw[hm] at e;have f:(L5 xs (lo*sz) (Builtin.zeroCells z.cells (n-lo)).toList).length=xs.length:=by
     simp only[L5,zz,zn,z8,m];omega
    refine⟨_,_,H' (L5 xs (lo*sz) (Builtin.zeroCells z.cells (n-lo)).toList),d (w.setRow g (pre++L5 xs (lo*sz) (Builtin.zeroCells z.cells (n-lo)).toList++b).toArray) ?_,?_,h _ f ?_⟩
    ·rw[M]
     cases O:n-lo with
     |zero=>omega
     |succ q=>
      rw[O] at e;rw[v] at e;simp[Builtin.clear_,run_underlying hu.h,hz.h,e]
    ·obtain⟨b3,p,_,_,Q⟩:=U.focus (u (L5 xs (lo*sz) (Builtin.zeroCells z.cells (n-lo)).toList));rcases p with⟨r,_,_⟩|⟨g3,rfl,h3⟩
     ·cases r
     ·obtain⟨o3,n3,Z,h1,S,h9,r,k0,k8,k9,h2,h4,h5⟩:=h3;injection r with e1 e2 e3;injection e1 with e1;injection e1 with e1 e4;subst e1;refine Q _ [g] rfl rfl rfl (fun c hc T=>setRow_other w g c _ (by simpa using T)) ⟨[g],[],rfl,.inr ⟨g,rfl,⟨o,n,c,pre,b,X,rfl,setRow_heap w g _ _ te _ hg,v,by rw[f];exact hl,?_,J,?_⟩⟩,rfl⟩ x8 (fun c hc=>.inl hc)
      ·simp only[zz,f];simpa using D
      ·simp only[zz,f] at l⊢;exact l
    ·unfold L5;rw[zh,Z1 (by simp;omega),List.take_take,Nat.min_self]
theorem tC{d:Nat}{s x:Operand}{a b:Option Addr}{n c k m S sz:Nat}{xs news:List Value}{e:TypeId}{H':List As}[hu:HU P t (.slice e)][hs:HS P e sz](T:ev L s=some (.slice a k c))(U:ev L x=some (.slice b m S))(u0:M1 H (.own (.slice a n c) e sz xs) [.own (.slice a n c) e sz xs] H)(u:M1 H (.own (.slice a n c) e sz xs) [.own (.slice a n c) e sz (L5 xs (k*sz) news)] H')(hsrc:∀w,Hp F w H->JJ (hp w) b news)(hl:news.length=m*sz)(V:0<sz)(h1:∀q∈news,q.oneCell'=true)(hk:k+m<=n)(hd:Nat.blt d N=true)(h:GL P N ops rest K E R ((d,.slice a (k+m) c)::L) F H'):
  GL P N ops (⟨some d,.call ⟨.builtin .append,#[s,x],#[t,t]⟩,ty,pos,af,none⟩::rest) K E R L F H:=
 R_ rfl rfl hd fun w0 w hf hw=>by
  have l:∀X Y,(Builtin.append_ #[t,t] ty #[.slice a k c,.slice b m S]).run P w=.ok X Y->
    (execOp w0.eval ⟨some d,.call ⟨.builtin .append,#[s,x],#[t,t]⟩,ty,pos,af,none⟩).run P w=.ok (.value X) Y:=fun X Y M=>by
   simp[execOp,resolve,invoke,builtin,hf.eval T,hf.eval U,M]
  obtain⟨b2,p,Z,h8,kk⟩:=hw.focus u;by_cases hm0:m=0
  ·subst hm0;have O:news=[]:=jy (by simpa using hl);subst O;have y:k<=c:=by
    rcases p with⟨i,_,_⟩|⟨g,_,⟨o,n',h0,pre,f,fr,i,_,_,_,_,y,_⟩⟩
    ·injection i with e1 e2 e3;omega
    ·injection i with e1 e2 e3;omega
   refine⟨.slice a (k+0) c,w,H',l _ _ ?_,?_,h⟩
   ·have h2:(Builtin.firstCells sz 0 (.slice b 0 S)).run P w=.ok #[] w:=by cases b<;>simp[Builtin.firstCells,loadCells,loadCellsFrom]
    cases a<;>simp[Builtin.append_,run_underlying hu.h,hs.h,Builtin.lenOf,y,h2,storeCells]
   ·refine kk w b2 rfl rfl rfl (fun _ _ _=>rfl) ⟨b2,[],by simp,?_,rfl⟩ Z (fun _ hb=>.inl hb);have:L5 xs (k*sz) []=xs:=(by simp[L5]);rw[this];exact p
  ·have h3:news≠[]:=by
    rintro rfl;have:0<m*sz:=K4 qb V;simp at hl;omega
   obtain⟨ad,rfl,z⟩:=hsrc w hw h3;have r:∀j u,news[j]? =some u->w.cell? (ad.add j)=some u:=z;rcases p with⟨i,rfl,rfl⟩|⟨g,rfl,⟨o,n',h0,pre,f,fr,i,hg,ho,h4,h5,y,C⟩⟩
   ·injection i with e1 e2 e3;omega
   ·injection i with e1 e2 e3;subst e1 e2 e3;have D:k+m<=c:=(by omega);have Q:(⟨g,o,none⟩:Addr).add (k*sz)=⟨g,o+k*sz,none⟩:=Addr.add_lit _ _ _;have h6:k*sz+news.length<=xs.length:=by
     have:(k+m)*sz<=n*sz:=Qw _ hk;rw[Qr] at this;omega
    have v:=G3 (P:=P) g (o+k*sz) e fr news 0 (pre++xs++f).toArray w hg (by simpa using C) (by simp;omega) h1;have A:=run_firstCells_some (P:=P) w sz m ad m S news hl r;simp only[Q2,<-ho] at v;rw[fp pre xs f news (k*sz) h6] at v;have J:(L5 xs (k*sz) news).length=xs.length:=by
     simp only[L5,zz,zn,z8];omega
    refine⟨.slice (some ⟨g,o,none⟩) (k+m) c,w.setRow g (pre++L5 xs (k*sz) news++f).toArray,H',l _ _ ?_,?_,h⟩
    ·rw[ho] at v;simp[Builtin.append_,run_underlying hu.h,hs.h,Builtin.lenOf,D,A,Q];simp at v;simp[v]
    ·refine kk _ [g] rfl rfl rfl (fun q hq h7=>setRow_other w g q _ (by simpa using h7)) ⟨[g],[],rfl,.inr ⟨g,rfl,⟨o,n,c,pre,f,fr,rfl,setRow_heap w g _ _ e _ hg,ho,by rw[J];exact h4,?_,y,?_⟩⟩,rfl⟩ x8 (fun q hq=>.inl hq)
     ·simp only[zz,J];simpa using h5
     ·simp only[zz,J] at C⊢;exact C
theorem fL{dst:Option Nat}{gd:Option (Nat×Bool)}{a:Option Addr}{n c e sz:Nat}{lo:Option Operand}{d f:Operand}{q r:IntKind}{i j m:Int}[hu:HU P t (.slice e)][hs:HS P e sz](hx:ev L x=some (.slice a n c))(b:Ci L lo 0=some i)(g:ev L d=some (.int q j))(h:ev L f=some (.int r m))(k:0<=i/\i<=j/\j<=m/\m<=c):
  E3 P ⟨dst,.slice t x lo (some d) (some f),ty,pos,af,gd⟩ L (.slice (Y3 a m.toNat i.toNat sz) (j.toNat-i.toNat) (m.toNat-i.toNat)):=
 by
  unfold E3;intro ρ w hf;have s:=hf _ _ g;have v:=hf _ _ h;have l:(Instr.sliceBounds true n c (lo.map ρ) (some (ρ d)) (some (ρ f))).run P w=.ok (i.toNat,j.toNat,m.toNat) w:=by
   rw[s,v]
   cases lo with
   |none=>
    simp only[Ci,Qg] at b;subst b;have o:¬max m 0<j:=(by omega);simp[Instr.sliceBounds,Instr.sliceBound,asIntOf,k.2.2.2,show 0<=m from by omega,show 0<=j from by omega,o]
   |some o2=>
    have y:∃kk,ρ o2=.int kk i:=by
     simp only[Ci] at b
     cases e:ev L o2 with
     |none=>rw[e] at b;cases b
     |some u=>rw[e] at b;cases u<;>simp at b;subst b;exact⟨_,hf _ _ e⟩
    obtain⟨z,p⟩:=y;have A:i<=max j 0:=(by omega);have o:j<=max m 0:=(by omega);simp[Instr.sliceBounds,Instr.sliceBound,p,asIntOf,k.1,k.2.2.2,show 0<=m from by omega,show 0<=j from by omega,A,o]
  have C:(Instr.slice t (.slice a n c) (lo.map ρ) (some (ρ d)) (some (ρ f))).run P w=.ok (.slice (Y3 a m.toNat i.toNat sz) (j.toNat-i.toNat) (m.toNat-i.toNat)) w:=by
   simp only[Instr.slice,Sem.run_bind,run_underlying hu.h,Result.andThen_ok,l,hs.h,Sem.run_pure,Y3]
  have D:(Instr.sliceAt t (.slice a n c) (lo.map ρ) (some (ρ d)) (some (ρ f))).run P w=.ok (.slice (Y3 a m.toNat i.toNat sz) (j.toNat-i.toNat) (m.toNat-i.toNat)) w:=by
   simp only[Instr.sliceAt,Sem.run_bind,run_underlying hu.h,Result.andThen_ok,C]
  simp only[execOp,hf _ _ hx];rw[show(some d:Option Operand).map ρ=some (ρ d) from rfl,show(some f:Option Operand).map ρ=some (ρ f) from rfl,Sem.run_bind,D];rfl
theorem O6{α β γ:Type}{c:Code}(b:α->β->γ->Prop)(d:α->β->γ->F_)(HI:α->β->γ->List As)(μ:α->β->γ->Nat)(e:α)(f:β)(z0:γ)(g:b e f z0)(i:fk (d e f z0) L)(hH:∀w,Hp F w H->Hp F w (HI e f z0))(round:∀x y z,b x y z->G P N c (fun a w=>∃j:α×β×γ,b j.1 j.2.1 j.2.2/\μ j.1 j.2.1 j.2.2<μ x y z/\G2 N (d j.1 j.2.1 j.2.2) a/\Hp F w (HI j.1 j.2.1 j.2.2)) E R (d x y z) F (HI x y z)):G P N (.loop c) K E R L F H:=
 o9 (ι:=α×β×γ) (fun j=>b j.1 j.2.1 j.2.2) (fun j=>d j.1 j.2.1 j.2.2) (fun j=>HI j.1 j.2.1 j.2.2) (fun j=>μ j.1 j.2.1 j.2.2) (e,f,z0) g i hH fun j h=>round j.1 j.2.1 j.2.2 h
theorem vx{α β γ:Type}{c:Code}(b:α->β->γ->Prop)(f:α->β->γ->F_)(g:α->β->γ->l6)(HI:α->β->γ->List As)(μ:α->β->γ->Nat)(d:α)(e:β)(z0:γ)(i:b d e z0)(k:fk (f d e z0) L)(l:g d e z0=F)(hH:∀w,Hp F w H->Hp F w (HI d e z0))(round:∀x y z,b x y z->G P N c (fun a w=>∃j:α×β×γ,b j.1 j.2.1 j.2.2/\μ j.1 j.2.1 j.2.2<μ x y z/\G2 N (f j.1 j.2.1 j.2.2) a/\Hp (g j.1 j.2.1 j.2.2) w (HI j.1 j.2.1 j.2.2)) E R (f x y z) (g x y z) (HI x y z)):G P N (.loop c) K E R L F H:=
 bD (ι:=α×β×γ) (fun j=>b j.1 j.2.1 j.2.2) (fun j=>f j.1 j.2.1 j.2.2) (fun j=>g j.1 j.2.1 j.2.2) (fun j=>HI j.1 j.2.1 j.2.2) (fun j=>μ j.1 j.2.1 j.2.2) (d,e,z0) i k l hH fun j h=>round j.1 j.2.1 j.2.2 h
end
theorem n7{P:Program}{N:Nat}{K R:y5}{E:List (Nat×y5)}{L:F_}{F:l6}{H:List As}{c:Code}{ι:Type}(d:ι->Prop)(L':ι->F_)(H':ι->List As)(f:G P N c (fun a w=>∃i,d i/\G2 N (L' i) a/\Hp F w (H' i)) E R L F H)(g:∀i,d i->At N K (L' i) F (H' i)):G P N c K E R L F H:=by
 unfold G At at*;intro a w hf b;refine Code.wp_mono (fun e a w q=>?_) (f a w hf b)
 cases e with
 |normal=>obtain⟨i,hp,hf,b⟩:=q;exact g i hp a w hf b
 |_=>exact q
theorem g_{N:Nat}{L:F_}{F:l6}{H:List As}{ι:Type}{b:ι->Prop}{L':ι->F_}{H':ι->List As}(i:ι)(hp:b i)(hH:∀w,Hp F w H->Hp F w (H' i))(hs:fk (L' i) L:=by exact sub):At N (fun a w=>∃i,b i/\G2 N (L' i) a/\Hp F w (H' i)) L F H:=by
 unfold At;exact fun a w hf c=>⟨i,hp,hf.sub hs,hH w c⟩
end Go.Sl
namespace Go.Proofs.YtmcepdopookilaaGreatDoor.Rp
open Go Go.Sl Go.RowKit Go.Proofs.Tryz
abbrev xu(f:Bs):List Value:=[B f]
theorem cV:∀x,(xu x).length=1:=fun _=>rfl
theorem Ar(l:List Bs):fV l=l.flatMap xu:=by induction l with
 |nil=>rfl
 |cons x t ih=>rw[Q1,<-ih];rfl
theorem dQ(a:Option Addr)(c sz:Nat):Y3 a c 0 sz=a:=by
 unfold Y3;split
 ·rfl
 ·cases a with
  |none=>rfl
  |some ad=>obtain⟨b,o,w⟩:=ad;simp[Addr.add]
theorem I_{α:Type}(q:α->Bool){l:List α}{j:Nat}(a:j<l.length):(l.take (j+1)).filter q=(l.take j).filter q++if q l[j] then[l[j]] else[]:=by
 rw[kj a,Wd];congr 1;simp[List.filter];split<;>simp_all
theorem jI{α:Type}{q:α->Bool}{l:List α}{j:Nat}(h:D2 q l=(j:Nat)):j<l.length/\(∀(g:j<l.length),q l[j]=true)/\(l.take j).filter (fun x=>!q x)=l.take j:=by
 unfold D2 at h
 cases h1:l.findIdx? q with
 |none=>rw[h1] at h;simp only[Option.elim] at h;omega
 |some i=>
  rw[h1] at h;simp only[Option.elim] at h;have:i=j:=by omega
  subst this;obtain⟨c,d,a⟩:=kg.1 h1;refine⟨c,fun _=>d,Wk.2 fun x e=>?_⟩;obtain⟨k,f,rfl⟩:=Q9 e;have b:k<i:=by simp at f;omega
  rw[K1];simpa using a k b
theorem gu{α:Type}{q:α->Bool}{l:List α}(h:D2 q l= -1):l.filter (fun x=>!q x)=l:=by
 unfold D2 at h
 cases h1:l.findIdx? q with
 |none=>
  rw[Q4] at h1;exact Wk.2 fun x a=>by simpa using h1 x a
 |some i=>rw[h1] at h;simp only[Option.elim] at h;omega
theorem mG(l:List Bs)(a:Option Addr)(c:Nat)(f:FuncId)[HF prog f](qs:List Value)(d:l9->Prop)[Mn d](q:Bs->Bool)(p:∀x∈l,Pu prog f (B x::qs) d (.bool (q x)))(hl:l.length<=1000000000000):Pu prog 340 [.slice a l.length c,.func (.func f) #[] qs.toArray] (fun h=>n9 h a (l.flatMap xu)/\d h) (.int .i64 (D2 q l)):=by
 refine b_ 19 func340 rfl rfl rfl ?_;rintro F ⟨g,k⟩;refine O2 ?_;refine o9 (ι:=Nat) (fun j=>j<=l.length/\∀i (m:i<l.length),i<j->q l[i]=false) (fun j=>[(0,.slice a l.length c),(1,.func (.func f) #[] qs.toArray),(7,.int .i64 (l.length:Nat)),(8,.int .i64 (j:Nat))]) (fun _=>[]) (fun j=>l.length-j) 0 ⟨zw _,fun i _ h=>by omega⟩ sub i_ ?_;rintro j ⟨u,e⟩;refine R6 ?_ ?_<;>intro h
 ·have b:j<l.length:=by have:=qr h;omega
  have n:=A2 g cV qp b;refine cH ?_;refine r_ (i8 rfl (fun w r=>S4 (g.le r.keep) cV qp b x8)) ?_;refine y9 (ps:=[]) _ rfl rfl rfl (p _ (zy b)) i_ (fun h s _=>Mn.le s k) rfl ?_;rintro v A ⟨rfl,rfl⟩;refine O1 ?_ ?_<;>intro o
  ·refine L6 ?_;exact d_ rfl rfl [] ⟨by rw[N4 b o e],rfl⟩ i_
  ·refine z_ ?_;refine l8 (j+1) ⟨b,fun i m h=>?_⟩ qb sub i_;rcases kd.1 h with t|rfl
   ·exact e i m t
   ·exact o
 ·have b:j=l.length:=by have:=zq h;omega
  refine C8 ?_;exact d_ rfl rfl [] ⟨by rw[N3 fun i m=>e i m qb],rfl⟩ i_
theorem oD(l:List SX)(a:Option Addr)(c:Nat)(f:FuncId)[HF prog f](qs:List Value)(o:l9->Prop)[Mn o](q:SX->Bool)(hm:∀x∈l,Pu prog f (.agg (mZ x).toArray::qs) o (.bool (q x)))(hl:l.length<=1000000000):Ct prog 103 [.slice a l.length c,.func (.func f) #[] qs.toArray] o [.own (.slice a l.length c) 102 5 (l.flatMap mZ)] (fun v A=>v=.slice a (l.filter fun x=>!q x).length c/\A=[.own (.slice a (l.filter fun x=>!q x).length c) 102 5 ((l.filter fun x=>!q x).flatMap mZ)]):=by
 refine b_ 42 func103 rfl rfl rfl ?_;intro F s;refine B4 (a:=a) (n:=l.length) (c:=c) (sz:=5) (xs:=l.flatMap mZ) (te:=102) ud fun _ h7 d=>?_;refine E6 ?_;refine e_ rfl (aA mZ V_ l a c f qs o q hm qb) (fun h Z ⟨bs,hb⟩=>⟨A1.rd hb ud,Mn.le Z s⟩) rfl ?_;refine eE ?_ ?_<;>intro h
 ·have hi:D2 q l= -1:=qr h;refine L6 ?_;exact d_ rfl rfl _ ⟨by rw[gu hi],rfl⟩ (fun w p=>by rw[gu hi];exact p)
 have h8:=cT q l;obtain⟨X,O⟩:∃X:Nat,D2 q l=(X:Nat):=⟨(D2 q l).toNat,by have:=zq h;omega⟩;obtain⟨D,h0,h5⟩:=jI O;rw[O];refine E6 ?_;refine O6 (fun i j m=>i<j/\j<=l.length/\m.length=l.length/\m.take i=(l.take j).filter (fun x=>!q x)/\m.drop j=l.drop j) (fun i j m=>[(0,.slice a l.length c),(1,.func (.func f) #[] qs.toArray),(5,.int .i64 (i:Nat)),(6,.int .i64 (j:Nat))]) (fun i j m=>[.own (.slice a l.length c) 102 5 (m.flatMap mZ)]) (fun i j m=>l.length-j) X (X+1) l ⟨W2 _,D,rfl,?_,rfl⟩ sub i_ ?_
 ·rw[I_ _ D,h5];have:=h0 D;simp[this]
 rintro i j m ⟨h9,hj,Q,g,S⟩;refine EH ?_ ?_<;>intro h
 ·have b:j<l.length:=by have:=qr h;omega
  have T:j<m.length:=by omega
  have U:i<m.length:=by omega
  have r:m[j]=l[j]:=by
   have Y:=jk (fun z=>z[0]?) S;simp only[Zz,Q2] at Y;rw[zj T,zj b] at Y;exact j7 Y
  have d:=d qb;refine E6 ?_;refine r_ (w8 rfl (fun w p=>fm (p.ownN (t:=102) ud).2.2.1 V_ qp T x8) (V_ _)) ?_;refine i7 rfl ?_;intro g7;refine E6 ?_;refine y9 (ps:=[]) _ rfl rfl rfl (hm _ (r▸zy b)) i_ (fun h Z _=>Mn.le Z s) rfl ?_;rintro v A ⟨rfl,rfl⟩;refine p9 ?_;have k:∀(V:Nat) (J:List SX),V<=j->J.length=l.length->J.take V=(l.take (j+1)).filter (fun x=>!q x)->J.drop (j+1)=l.drop (j+1)->V<j+1/\j+1<=l.length/\J.length=l.length/\J.take V=(l.take (j+1)).filter (fun x=>!q x)/\J.drop (j+1)=l.drop (j+1):=fun V J Y M h3 h4=>⟨by omega,b,M,h3,h4⟩;have u:m.drop (j+1)=l.drop (j+1):=by
   have:=jk (List.drop 1) S;simpa[Km,Wx] using this
  refine o8 rfl ?_ ?_<;>intro M
  ·have hq:q l[j]=false:=(by rw[r] at M;simpa using M);refine O2 ?_;refine A9 (C:=mZ) m[j] V_ U (j:=0) rfl ?_;refine cH ?_;refine l8 (i:=(i,j,m)) (i+1,j+1,m.set i m[j]) (k (i+1) (m.set i m[j]) qb (by simpa using Q) ?_ ?_) qg sub (fun w p=>(tk (C:=[_])).hp p|>.left)
   ·rw[dP U,I_ _ b,g,r];simp[hq]
   ·rw[Kh qb];exact u
  ·have hq:q l[j]=true:=(by rw[r] at M;simpa using M);refine E6 ?_;refine l8 (i:=(i,j,m)) (i,j+1,m) (k i m qb Q ?_ u) qg sub (fun w p=>(tk (C:=[_])).hp p|>.left);rw[I_ _ b,g];simp[hq]
 ·have b:j=l.length:=by have:=zq h;omega
  subst b;rw[Qj] at g;have y:i=(l.filter fun x=>!q x).length:=by have:=jk List.length g;rw[zn] at this;omega
  refine z_ ?_;refine f_ (B5 rfl rfl rfl qb) ?_;refine jH (a:=a) (n:=l.length) (c:=c) (sz:=5) (lo:=i) (xs:=m.flatMap mZ) (te:=102) rfl qb qb rfl rfl (fun ys=>uh) ?_;intro ys k0 h6;refine z_ ?_;refine f_ ((B5 rfl rfl rfl qb).eq (v':=.slice a i c) (by simp[dQ])) ?_;refine C8 ?_;have e:ys.take (i*5)=(l.filter fun x=>!q x).flatMap mZ:=by rw[h6,aw V_,g]
  exact d_ rfl rfl _ ⟨by rw[y],rfl⟩ (fun w p=>by rw[<-y,<-e];exact p.cutOwn uh qb)
theorem tD(l:List LM)(a:Option Addr)(c:Nat)(f:FuncId)[HF prog f](qs:List Value)(o:l9->Prop)[Mn o](q:LM->Bool)(hm:∀x∈l,Pu prog f (.agg (S9 x).toArray::qs) o (.bool (q x)))(hl:l.length<=1000000000):Ct prog 122 [.slice a l.length c,.func (.func f) #[] qs.toArray] o [.own (.slice a l.length c) 156 5 (l.flatMap S9)] (fun v A=>v=.slice a (l.filter fun x=>!q x).length c/\A=[.own (.slice a (l.filter fun x=>!q x).length c) 156 5 ((l.filter fun x=>!q x).flatMap S9)]):=by
 refine b_ 42 func122 rfl rfl rfl ?_;intro F s;refine B4 (a:=a) (n:=l.length) (c:=c) (sz:=5) (xs:=l.flatMap S9) (te:=156) ud fun _ h7 d=>?_;refine E6 ?_;refine e_ rfl (X3 S9 A_ l a c f qs o q hm qb) (fun h Z ⟨bs,hb⟩=>⟨A1.rd hb ud,Mn.le Z s⟩) rfl ?_;refine eE ?_ ?_<;>intro h
 ·have hi:D2 q l= -1:=qr h;refine L6 ?_;exact d_ rfl rfl _ ⟨by rw[gu hi],rfl⟩ (fun w p=>by rw[gu hi];exact p)
 have h8:=cT q l;obtain⟨X,O⟩:∃X:Nat,D2 q l=(X:Nat):=⟨(D2 q l).toNat,by have:=zq h;omega⟩;obtain⟨D,h0,h5⟩:=jI O;rw[O];refine E6 ?_;refine O6 (fun i j m=>i<j/\j<=l.length/\m.length=l.length/\m.take i=(l.take j).filter (fun x=>!q x)/\m.drop j=l.drop j) (fun i j m=>[(0,.slice a l.length c),(1,.func (.func f) #[] qs.toArray),(5,.int .i64 (i:Nat)),(6,.int .i64 (j:Nat))]) (fun i j m=>[.own (.slice a l.length c) 156 5 (m.flatMap S9)]) (fun i j m=>l.length-j) X (X+1) l ⟨W2 _,D,rfl,?_,rfl⟩ sub i_ ?_
 ·rw[I_ _ D,h5];have:=h0 D;simp[this]
 rintro i j m ⟨h9,hj,Q,g,S⟩;refine EH ?_ ?_<;>intro h
 ·have b:j<l.length:=by have:=qr h;omega
  have T:j<m.length:=by omega
  have U:i<m.length:=by omega
  have r:m[j]=l[j]:=by
   have Y:=jk (fun z=>z[0]?) S;simp only[Zz,Q2] at Y;rw[zj T,zj b] at Y;exact j7 Y
  have d:=d qb;refine E6 ?_;refine r_ (w8 rfl (fun w p=>fm (p.ownN (t:=156) ud).2.2.1 A_ qp T x8) (A_ _)) ?_;refine i7 rfl ?_;intro g7;refine E6 ?_;refine y9 (ps:=[]) _ rfl rfl rfl (hm _ (r▸zy b)) i_ (fun h Z _=>Mn.le Z s) rfl ?_;rintro v A ⟨rfl,rfl⟩;refine p9 ?_;have k:∀(V:Nat) (J:List LM),V<=j->J.length=l.length->J.take V=(l.take (j+1)).filter (fun x=>!q x)->J.drop (j+1)=l.drop (j+1)->V<j+1/\j+1<=l.length/\J.length=l.length/\J.take V=(l.take (j+1)).filter (fun x=>!q x)/\J.drop (j+1)=l.drop (j+1):=fun V J Y M h3 h4=>⟨by omega,b,M,h3,h4⟩;have u:m.drop (j+1)=l.drop (j+1):=by
   have:=jk (List.drop 1) S;simpa[Km,Wx] using this
  refine o8 rfl ?_ ?_<;>intro M
  ·have hq:q l[j]=false:=(by rw[r] at M;simpa using M);refine O2 ?_;refine A9 (C:=S9) m[j] A_ U (j:=0) rfl ?_;refine cH ?_;refine l8 (i:=(i,j,m)) (i+1,j+1,m.set i m[j]) (k (i+1) (m.set i m[j]) qb (by simpa using Q) ?_ ?_) qg sub (fun w p=>(tk (C:=[_])).hp p|>.left)
   ·rw[dP U,I_ _ b,g,r];simp[hq]
   ·rw[Kh qb];exact u
  ·have hq:q l[j]=true:=(by rw[r] at M;simpa using M);refine E6 ?_;refine l8 (i:=(i,j,m)) (i,j+1,m) (k i m qb Q ?_ u) qg sub (fun w p=>(tk (C:=[_])).hp p|>.left);rw[I_ _ b,g];simp[hq]
 ·have b:j=l.length:=by have:=zq h;omega
  subst b;rw[Qj] at g;have y:i=(l.filter fun x=>!q x).length:=by have:=jk List.length g;rw[zn] at this;omega
  refine z_ ?_;refine f_ (B5 rfl rfl rfl qb) ?_;refine jH (a:=a) (n:=l.length) (c:=c) (sz:=5) (lo:=i) (xs:=m.flatMap S9) (te:=156) rfl qb qb rfl rfl (fun ys=>uh) ?_;intro ys k0 h6;refine z_ ?_;refine f_ ((B5 rfl rfl rfl qb).eq (v':=.slice a i c) (by simp[dQ])) ?_;refine C8 ?_;have e:ys.take (i*5)=(l.filter fun x=>!q x).flatMap S9:=by rw[h6,aw A_,g]
  exact d_ rfl rfl _ ⟨by rw[y],rfl⟩ (fun w p=>by rw[<-y,<-e];exact p.cutOwn uh qb)
theorem CP(l:List Bs)(a:Option Addr)(c:Nat)(f:FuncId)[HF prog f](qs:List Value)(o:l9->Prop)[Mn o](q:Bs->Bool)(hm:∀x∈l,Pu prog f (B x::qs) o (.bool (q x)))(hl:l.length<=1000000000):Ct prog 271 [.slice a l.length c,.func (.func f) #[] qs.toArray] o [.own (.slice a l.length c) 9 1 (l.flatMap xu)] (fun v A=>v=.slice a (l.filter fun x=>!q x).length c/\A=[.own (.slice a (l.filter fun x=>!q x).length c) 9 1 ((l.filter fun x=>!q x).flatMap xu)]):=by
 refine b_ 42 func271 rfl rfl rfl ?_;intro F s;refine B4 (a:=a) (n:=l.length) (c:=c) (sz:=1) (xs:=l.flatMap xu) (te:=9) ud fun _ h7 d=>?_;refine E6 ?_;refine e_ rfl (mG l a c f qs o q hm qb) (fun h Z ⟨bs,hb⟩=>⟨A1.rd hb ud,Mn.le Z s⟩) rfl ?_;refine eE ?_ ?_<;>intro h
 ·have hi:D2 q l= -1:=qr h;refine L6 ?_;exact d_ rfl rfl _ ⟨by rw[gu hi],rfl⟩ (fun w p=>by rw[gu hi];exact p)
 have h8:=cT q l;obtain⟨X,O⟩:∃X:Nat,D2 q l=(X:Nat):=⟨(D2 q l).toNat,by have:=zq h;omega⟩;obtain⟨D,h0,h5⟩:=jI O;rw[O];refine E6 ?_;refine O6 (fun i j m=>i<j/\j<=l.length/\m.length=l.length/\m.take i=(l.take j).filter (fun x=>!q x)/\m.drop j=l.drop j) (fun i j m=>[(0,.slice a l.length c),(1,.func (.func f) #[] qs.toArray),(5,.int .i64 (i:Nat)),(6,.int .i64 (j:Nat))]) (fun i j m=>[.own (.slice a l.length c) 9 1 (m.flatMap xu)]) (fun i j m=>l.length-j) X (X+1) l ⟨W2 _,D,rfl,?_,rfl⟩ sub i_ ?_
 ·rw[I_ _ D,h5];have:=h0 D;simp[this]
 rintro i j m ⟨h9,hj,Q,g,S⟩;refine EH ?_ ?_<;>intro h
 ·have b:j<l.length:=by have:=qr h;omega
  have T:j<m.length:=by omega
  have U:i<m.length:=by omega
  have r:m[j]=l[j]:=by
   have Y:=jk (fun z=>z[0]?) S;simp only[Zz,Q2] at Y;rw[zj T,zj b] at Y;exact j7 Y
  have d:=d qb;refine E6 ?_;refine r_ (i8 rfl (fun w p=>dH (j:=0) (p.ownN (t:=9) ud).2.2.1 cV T rfl x8)) ?_;refine a_ ?_;refine z_ ?_;refine y9 (ps:=[]) _ rfl rfl rfl (hm _ (r▸zy b)) i_ (fun h Z _=>Mn.le Z s) rfl ?_;rintro v A ⟨rfl,rfl⟩;refine p9 ?_;have k:∀(V:Nat) (J:List Bs),V<=j->J.length=l.length->J.take V=(l.take (j+1)).filter (fun x=>!q x)->J.drop (j+1)=l.drop (j+1)->V<j+1/\j+1<=l.length/\J.length=l.length/\J.take V=(l.take (j+1)).filter (fun x=>!q x)/\J.drop (j+1)=l.drop (j+1):=fun V J Y M h3 h4=>⟨by omega,b,M,h3,h4⟩;have u:m.drop (j+1)=l.drop (j+1):=by
   have:=jk (List.drop 1) S;simpa[Km,Wx] using this
  refine o8 rfl ?_ ?_<;>intro M
  ·have hq:q l[j]=false:=(by rw[r] at M;simpa using M);refine O2 ?_;refine A9 (C:=xu) m[j] cV U (j:=0) rfl ?_;refine cH ?_;refine l8 (i:=(i,j,m)) (i+1,j+1,m.set i m[j]) (k (i+1) (m.set i m[j]) qb (by simpa using Q) ?_ ?_) qg sub (fun w p=>(tk (C:=[_])).hp p|>.left)
   ·rw[dP U,I_ _ b,g,r];simp[hq]
   ·rw[Kh qb];exact u
  ·have hq:q l[j]=true:=(by rw[r] at M;simpa using M);refine E6 ?_;refine l8 (i:=(i,j,m)) (i,j+1,m) (k i m qb Q ?_ u) qg sub (fun w p=>(tk (C:=[_])).hp p|>.left);rw[I_ _ b,g];simp[hq]
 ·have b:j=l.length:=by have:=zq h;omega
  subst b;rw[Qj] at g;have y:i=(l.filter fun x=>!q x).length:=by have:=jk List.length g;rw[zn] at this;omega
  refine z_ ?_;refine f_ (B5 rfl rfl rfl qb) ?_;refine jH (a:=a) (n:=l.length) (c:=c) (sz:=1) (lo:=i) (xs:=m.flatMap xu) (te:=9) rfl qb qb rfl rfl (fun ys=>uh) ?_;intro ys k0 h6;refine z_ ?_;refine f_ ((B5 rfl rfl rfl qb).eq (v':=.slice a i c) (by simp[dQ])) ?_;refine C8 ?_;have e:ys.take (i*1)=(l.filter fun x=>!q x).flatMap xu:=by rw[h6,aw cV,g]
  exact d_ rfl rfl _ ⟨by rw[y],rfl⟩ (fun w p=>by rw[<-y,<-e];exact p.cutOwn uh qb)
end Go.Proofs.YtmcepdopookilaaGreatDoor.Rp
namespace Go.Sl
open Go Go.RowKit Go.Proofs.Tryz
section
variable{P:Program}{N:Nat}{K R:y5}{E:List (Nat×y5)}{L:F_}{F:l6}{H:List As}{ops:Array Oper}{rest:List Oper}{ty:TypeId}{pos:String}{af:Array Edge}{t tn:TypeId}{s x:Operand}
theorem oE{d n sz:Nat}{r k:IntKind}{e:TypeId}{z:Value}{i:TypeInfo}[hu:HU P t (.slice e)][hn:HU P tn (.int r)][hz:HZ P e z][hi:HI P e i][hs:HS P e sz](m:ev L s=some (.slice none 0 0))(o:ev L x=some (.int k (n:Nat)))(u:0<n)(p:0<sz)(b:z.cells.size=sz)(l:n*i.bytes<=140737488355328)(h63:n<=9223372036854775807)(v:Nat.blt d N=true)(h:∀g c,n<=c->GL P N ops rest K E R ((d,.slice (some ⟨g,0,none⟩) n c)::L) F (.own (.slice (some ⟨g,0,none⟩) n c) e sz (Builtin.zeroCells z.cells n).toList::H)):
  GL P N ops (⟨some d,.call ⟨.builtin .append,#[s,x],#[t,tn]⟩,ty,pos,af,none⟩::rest) K E R L F H:=
 R_ rfl rfl v fun C w hf y=>by
  have f:i.size=sz:=by
   have a:=hs.h w;simp[sizeOf,typeInfo,hi.h] at a;exact a
  have q:i.zero=some z:=by
   have a:=hz.h w;simp only[zeroValue,Sem.run_bind,typeInfo] at a
   cases hq:i.zero with
   |none=>simp[hi.h,hq] at a
   |some z'=>simp[hi.h,hq] at a;rw[a]
  have A:=Go.Lib.run_append_nil_zeros (P:=P) w t tn ty e i z k r hu.h hn.h hi.h q n u (by rw[f];exact p) qb qb;have j:=grownCap_ge w n 0 e;refine⟨.slice (some ⟨w.heap.size,0,none⟩) n (grownCap w n 0 e),w.drew.alloc (.cells (Builtin.zeroCells z.cells n++Builtin.zeroCells z.cells (grownCap w n 0 e-n)) e),_,?_,?_,h w.heap.size (grownCap w n 0 e) j⟩
  ·simp[execOp,resolve,invoke,builtin,hf.eval m,hf.eval o,A]
  ·refine O8 (w:=w.drew) (post:=(Builtin.zeroCells z.cells (grownCap w n 0 e-n)).toList) (fr:=(0,0)) y.drew' ?_ ?_ j (.inl (z1 _)) ?_
   ·simp[size_zeroCells,b]
   ·simp only[zz,Zc,size_zeroCells,b,<-Qr];congr 1;omega
   ·congr 2;apply Q5.1;simp
end
