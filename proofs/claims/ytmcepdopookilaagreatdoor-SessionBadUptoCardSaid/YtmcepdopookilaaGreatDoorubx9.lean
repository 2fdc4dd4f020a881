import Derived.Test.YtmcepdopookilaaGreatDoorubx8
import Derived.Lib.AppendZeros
set_option linter.unusedVariables false
set_option linter.unusedSimpArgs false
set_option linter.defProp false
namespace Go.Proofs.YtmcepdopookilaaGreatDoor.Rp
open Go Go.Sl Go.RowKit Go.Proofs.Tryz
abbrev dV(r:Nat×Nat):List Value:=[.int .u64 (r.1:Nat),.int .u64 (r.2:Nat)]
abbrev T8(l:List (Nat×Nat)):List Value:=l.flatMap dV
theorem B4:∀x,(dV x).length=2:=fun _=>rfl
theorem ni:∀x,∀q∈dV x,q.oneCell'=true:=fun x q a=>by simp at a;rcases a with rfl|rfl<;>rfl
theorem bL(l:List (Nat×Nat)):(T8 l).length=l.length*2:=M6 (C:=dV) B4 l
theorem eP(l:List (Nat×Nat)):∀q∈T8 l,q.oneCell'=true:=cO (C:=dV) ni l
theorem oI(a b:List (Nat×Nat)):T8 (a++b)=T8 a++T8 b:=Z7
abbrev V2(a:Option Addr)(l:List (Nat×Nat))(c:Nat):As:=.own (.slice a l.length c) 178 2 (T8 l)
abbrev l5(a:Option Addr)(l:List (Nat×Nat))(c:Nat):As:=.own (.slice a l.length c) 72 2 (T8 l)
abbrev U3(a:Option Addr)(l:List Nat)(c:Nat):As:=.own (.slice a l.length c) 27 1 (nV l)
abbrev bR(i:IT):List Value:=[.int .i64 (i.kind:Nat),.bool i.peek,.bool i.part,.int .u64 (i.fr:Nat),.int .u64 (i.count:Nat)]
abbrev oJ(l:List IT):List Value:=l.flatMap bR
theorem Q_:∀x,(bR x).length=5:=fun _=>rfl
theorem gv:∀x,∀q∈bR x,q.oneCell'=true:=fun x q a=>by simp at a;rcases a with rfl|rfl|rfl|rfl|rfl<;>rfl
theorem tG(l:List IT):(oJ l).length=l.length*5:=M6 (C:=bR) Q_ l
theorem nj(l:List IT):∀q∈oJ l,q.oneCell'=true:=cO (C:=bR) gv l
abbrev bM(a:Option Addr)(l:List IT)(c:Nat):As:=.own (.slice a l.length c) 129 5 (oJ l)
structure KM where
 k:KY
 a:Option Addr
 c:Nat
abbrev aJ(x:KM):List Value:=[.int .i64 (x.k.kind:Nat),.int .i64 (x.k.kids:Nat),B x.k.field,B x.k.text,.int .u64 (x.k.n:Nat),.slice x.a x.k.set.length x.c]
abbrev qI(l:List KM):List Value:=l.flatMap aJ
theorem R1:∀x,(aJ x).length=6:=fun _=>rfl
theorem Aw:∀x,∀q∈aJ x,q.oneCell'=true:=fun x q a=>by simp at a;rcases a with rfl|rfl|rfl|rfl|rfl|rfl<;>rfl
theorem tH(l:List KM):(qI l).length=l.length*6:=M6 (C:=aJ) R1 l
theorem Lb(l:List KM):∀q∈qI l,q.oneCell'=true:=cO (C:=aJ) Aw l
abbrev a1w(a:Option Addr)(l:List KM)(c:Nat):As:=.own (.slice a l.length c) 127 6 (qI l)
structure CL where
 sa:Option Addr
 sc:Nat
 ia:Option Addr
 ic:Nat
 ka:Option Addr
 kc:Nat
 fa:Option Addr
 fc:Nat
abbrev H3:CL:=⟨none,0,none,0,none,0,none,0⟩
abbrev iA(c:CM)(x:CL):List Value:=[B c.tag,.int .i64 (c.kind:Nat),.bool c.uid,.bool c.cond,B c.box,B c.user,B c.pass,B c.a5U,.slice x.sa c.set.length x.sc,.slice x.ia c.a5Q.length x.ic,.slice x.ka c.keys.length x.kc,.int .i64 (c.how:Nat),.bool c.a5W,.bool c.a5R,.int .u64 (c.a5S:Nat),.slice x.fa c.a5Y.length x.fc,B c.data]
abbrev uM(c:CM)(x:CL):Value:=.agg (iA c x).toArray
structure dW(c:CM)(x:CL)(h:l_):Prop where
 set:n9 h x.sa (T8 c.set)
 a5Q:n9 h x.ia (oJ c.a5Q)
 keys:∃kl:List KM,kl.map KM.k=c.keys/\n9 h x.ka (qI kl)/\∀m∈kl,n9 h m.a (T8 m.k.set)
 a5Y:n9 h x.fa (fV c.a5Y)
instance {c:CM} {x:CL}:Mn (dW c x):=⟨fun l k=>⟨k.set.le l,k.a5Q.le l,by obtain⟨kl,h1,h2,h3⟩:=k.keys;exact⟨kl,h1,h2.le l,fun m hm=>(h3 m hm).le l⟩,k.a5Y.le l⟩⟩
theorem dW.zero(h:l_):dW iw H3 h:=⟨n9.nil _ _,n9.nil _ _,⟨[],rfl,n9.nil _ _,qy⟩,n9.nil _ _⟩
abbrev EQ(k:KY):Prop:=k.set.length<=64/\k.text.length<=2000000000/\k.field.length<=2000000000/\k.kids<=2000000000
structure qY(c:CM):Prop where
 set:c.set.length<=64
 a5Q:c.a5Q.length<=8
 keys:c.keys.length<=32
 ksets:∀k∈c.keys,EQ k
 a5Y:c.a5Y.length<=16
 data:c.data.length<=4096
 pat:c.a5U.length<=2000000000
structure SL where
 ra:Option Addr
 rc:Nat
 ua:Option Addr
 uc:Nat
 cl:CL
abbrev qZ:SL:=⟨none,0,none,0,H3⟩
abbrev vH(v:VW)(a:Option Addr)(c:Nat):List Value:=[B v.box,.int .u64 (v.val:Nat),.slice a v.a5M.length c]
abbrev gR(s:SE)(x:SL):List Value:=[.int .i64 (s.a5O:Nat),.int .u64 (s.ses:Nat),.int .u64 (s.num:Nat),B s.a5N.box,.int .u64 (s.a5N.val:Nat),.slice x.ra s.a5N.a5M.length x.rc,.bool s.ro,.bool s.cond,.bool s.a5T,
 B s.cmd.tag,.int .i64 (s.cmd.kind:Nat),.bool s.cmd.uid,.bool s.cmd.cond,B s.cmd.box,B s.cmd.user,B s.cmd.pass,B s.cmd.a5U,.slice x.cl.sa s.cmd.set.length x.cl.sc,.slice x.cl.ia s.cmd.a5Q.length x.cl.ic,.slice x.cl.ka s.cmd.keys.length x.cl.kc,.int .i64 (s.cmd.how:Nat),.bool s.cmd.a5W,.bool s.cmd.a5R,.int .u64 (s.cmd.a5S:Nat),.slice x.cl.fa s.cmd.a5Y.length x.cl.fc,B s.cmd.data,
 .slice x.ua s.a5P.length x.uc]
abbrev qJ(s:SE)(x:SL):Value:=.agg (gR s x).toArray
structure S5(s:SE)(x:SL)(h:l_):Prop where
 a5P:n9 h x.ua (nV s.a5P)
 cmd:dW s.cmd x.cl h
instance {s:SE} {x:SL}:Mn (S5 s x):=⟨fun l k=>⟨k.a5P.le l,Mn.le l k.cmd⟩⟩
structure FZ(s:SE):Prop where
 a5M:s.a5N.a5M.length<=1000000
 a5P:s.a5P.length<=1000000
 cmd:qY s.cmd
structure QL where
 ua:Option Addr
 uc:Nat
 fa:Option Addr
 fc:Nat
abbrev cX:QL:=⟨none,0,none,0⟩
abbrev eE(r:RQ)(x:QL):List Value:=[.int .i64 r.op,.int .u64 (r.ses:Nat),.int .u64 (r.num:Nat),.int .i64 r.node,.int .u64 (r.life:Nat),.int .u64 (r.tr:Nat),B r.box,B r.tz,.int .u64 (r.val:Nat),.slice x.ua r.a5P.length x.uc,.slice x.fa r.a5Y.length x.fc,.int .i64 r.how,.bool r.hasS,.int .u64 (r.a5S:Nat),B r.hash,.int .u64 (r.size:Nat),.int .u64 (r.a5V:Nat)]
abbrev Re(r:RQ)(x:QL):Value:=.agg (eE r x).toArray
structure dA(r:RQ)(x:QL)(h:l_):Prop where
 a5P:n9 h x.ua (T8 r.a5P)
 a5Y:n9 h x.fa (fV r.a5Y)
instance {r:RQ} {x:QL}:Mn (dA r x):=⟨fun l k=>⟨k.a5P.le l,k.a5Y.le l⟩⟩
abbrev RM:=RR×RL
abbrev yh(m:RM):List Value:=tv m.1 m.2
theorem aK:∀x,(yh x).length=10:=fun _=>rfl
theorem jH:∀x,∀q∈yh x,q.oneCell'=true:=fun x q a=>by simp at a;rcases a with rfl|rfl|rfl|rfl|rfl|rfl|rfl|rfl|rfl|rfl<;>rfl
abbrev Ub(l:List RM):List Value:=l.flatMap yh
abbrev u7(a:Option Addr)(l:List RM)(c:Nat):As:=.own (.slice a l.length c) 51 10 (Ub l)
structure DL where
 da:Option Addr
 dc:Nat
 ql:QL
 wa:Option Addr
 wc:Nat
 rl:List RM
abbrev M_:DL:=⟨none,0,cX,none,0,[]⟩
abbrev kS(d:DD)(y:DL):List Value:=[.slice y.da y.rl.length y.dc,.bool d.ask,
 .int .i64 d.req.op,.int .u64 (d.req.ses:Nat),.int .u64 (d.req.num:Nat),.int .i64 d.req.node,.int .u64 (d.req.life:Nat),.int .u64 (d.req.tr:Nat),B d.req.box,B d.req.tz,.int .u64 (d.req.val:Nat),.slice y.ql.ua d.req.a5P.length y.ql.uc,.slice y.ql.fa d.req.a5Y.length y.ql.fc,.int .i64 d.req.how,.bool d.req.hasS,.int .u64 (d.req.a5S:Nat),B d.req.hash,.int .u64 (d.req.size:Nat),.int .u64 (d.req.a5V:Nat),
 .bool d.store,B d.body,.slice y.wa d.want.length y.wc,.bool d.close]
abbrev Lc(d:DD)(y:DL):Value:=.agg (kS d y).toArray
structure CX(d:DD)(y:DL)(h:l_):Prop where
 a5X:d.a5X=y.rl.map Prod.fst
 rep:∀m∈y.rl,fG m.1 m.2 h
 req:dA d.req y.ql h
 want:n9 h y.wa (fV d.want)
instance {r:RR} {x:RL}:Mn (fG r x):=⟨fun l k=>k.le l⟩
instance {d:DD} {y:DL}:Mn (CX d y):=⟨fun l k=>⟨k.a5X,fun m hm=>(k.rep m hm).le l,Mn.le l k.req,k.want.le l⟩⟩
theorem CX.zero(h:l_):CX F_ M_ h:=⟨rfl,qy,⟨n9.nil _ _,n9.nil _ _⟩,n9.nil _ _⟩
abbrev E9(b:Nat)(s:SE)(x:SL)(d:DD)(y:DL):As:=.blk b (.cells (gR s x++kS d y).toArray 141)
structure iB(s:SE)(x:SL)(d:DD)(y:DL)(h:l_):Prop where
 se:S5 s x h
 dd:CX d y h
instance {s:SE} {x:SL} {d:DD} {y:DL}:Mn (iB s x d y):=⟨fun l k=>⟨Mn.le l k.se,Mn.le l k.dd⟩⟩
structure LM where
 t:LT
 a:Option Addr
 c:Nat
abbrev S_(x:LM):List Value:=[.int .u64 (x.t.uid:Nat),.slice x.a x.t.a5Y.length x.c,.int .u64 (x.t.mod:Nat),B x.t.hash,.int .u64 (x.t.size:Nat)]
abbrev qK(l:List LM):List Value:=l.flatMap S_
theorem B0:∀x,(S_ x).length=5:=fun _=>rfl
theorem nk:∀x,∀q∈S_ x,q.oneCell'=true:=fun x q a=>by simp at a;rcases a with rfl|rfl|rfl|rfl|rfl<;>rfl
theorem Ax(l:List LM):(qK l).length=l.length*5:=M6 (C:=S_) B0 l
theorem Ay(l:List LM):∀q∈qK l,q.oneCell'=true:=cO (C:=S_) nk l
abbrev N9(a:Option Addr)(l:List LM)(c:Nat):As:=.own (.slice a l.length c) 156 5 (qK l)
def iC(l:List LM)(h:l_):Prop:=∀m∈l,n9 h m.a (fV m.t.a5Y)
instance {l:List LM}:Mn (iC l):=⟨fun le k m hm=>(k m hm).le le⟩
structure BM where
 name:Bs
 val:Nat
 next:Nat
 high:Nat
 ls:List LM
 a:Option Addr
 c:Nat
abbrev Ga:BM:=⟨[],0,0,0,[],none,0⟩
abbrev BM.x(b:BM):BX:=⟨b.name,b.val,b.next,b.high,b.ls.map LM.t⟩
abbrev cY(b:BM):List Value:=[B b.name,.int .u64 (b.val:Nat),.int .u64 (b.next:Nat),.int .u64 (b.high:Nat),.slice b.a b.ls.length b.c]
abbrev JV(b:BM):Value:=.agg (cY b).toArray
abbrev fh(l:List BM):List Value:=l.flatMap cY
theorem o_:∀x,(cY x).length=5:=fun _=>rfl
theorem Az:∀x,∀q∈cY x,q.oneCell'=true:=fun x q a=>by simp at a;rcases a with rfl|rfl|rfl|rfl|rfl<;>rfl
theorem np(l:List BM):(fh l).length=l.length*5:=M6 (C:=cY) o_ l
theorem AA(l:List BM):∀q∈fh l,q.oneCell'=true:=cO (C:=cY) Az l
abbrev T0(a:Option Addr)(l:List BM)(c:Nat):As:=.own (.slice a l.length c) 100 5 (fh l)
structure fL(b:BM)(h:l_):Prop where
 ls:n9 h b.a (qK b.ls)
 fl:iC b.ls h
instance {b:BM}:Mn (fL b):=⟨fun l k=>⟨k.ls.le l,Mn.le l k.fl⟩⟩
theorem fL.zero(h:l_):fL Ga h:=⟨n9.nil _ _,fun _ h=>by cases h⟩
abbrev nq(s:SX):List Value:=[.int .u64 (s.ses:Nat),.int .u64 (s.last:Nat),.int .i64 s.node,.int .u64 (s.life:Nat),.int .u64 (s.tr:Nat)]
abbrev JW(l:List SX):List Value:=l.flatMap nq
theorem X3:∀x,(nq x).length=5:=fun _=>rfl
theorem AB:∀x,∀q∈nq x,q.oneCell'=true:=fun x q a=>by simp at a;rcases a with rfl|rfl|rfl|rfl|rfl<;>rfl
theorem AD(l:List SX):(JW l).length=l.length*5:=M6 (C:=nq) X3 l
theorem AE(l:List SX):∀q∈JW l,q.oneCell'=true:=cO (C:=nq) AB l
abbrev T1(a:Option Addr)(l:List SX)(c:Nat):As:=.own (.slice a l.length c) 102 5 (JW l)
abbrev gw(s:HO):List Value:=[.int .i64 s.node,.int .u64 (s.life:Nat),.int .u64 (s.tr:Nat)]
abbrev JX(l:List HO):List Value:=l.flatMap gw
theorem O6:∀x,(gw x).length=3:=fun _=>rfl
theorem AF:∀x,∀q∈gw x,q.oneCell'=true:=fun x q a=>by simp at a;rcases a with rfl|rfl|rfl<;>rfl
theorem Ld(l:List HO):(JX l).length=l.length*3:=M6 (C:=gw) O6 l
theorem Le(l:List HO):∀q∈JX l,q.oneCell'=true:=cO (C:=gw) AF l
abbrev P5(a:Option Addr)(l:List HO)(c:Nat):As:=.own (.slice a l.length c) 104 3 (JX l)
structure MM where
 a5J:List BM
 nval:Nat
 a5K:List HO
 a5L:List SX
 nses:Nat
 a5V:Nat
 ba:Option Addr
 bc:Nat
 ha:Option Addr
 hc:Nat
 sa:Option Addr
 sc:Nat
abbrev MM.s(m:MM):ML:=⟨m.a5J.map BM.x,m.nval,m.a5K,m.a5L,m.nses,m.a5V⟩
abbrev iD(m:MM):List Value:=[.slice m.ba m.a5J.length m.bc,.int .u64 (m.nval:Nat),.slice m.ha m.a5K.length m.hc,.slice m.sa m.a5L.length m.sc,.int .u64 (m.nses:Nat),.int .u64 (m.a5V:Nat)]
abbrev uN(m:MM):Value:=.agg (iD m).toArray
structure iE(m:MM)(h:l_):Prop where
 a5J:n9 h m.ba (fh m.a5J)
 a5K:n9 h m.ha (JX m.a5K)
 a5L:n9 h m.sa (JW m.a5L)
 box:∀b∈m.a5J,fL b h
instance {m:MM}:Mn (iE m):=⟨fun l k=>⟨k.a5J.le l,k.a5K.le l,k.a5L.le l,fun b hb=>Mn.le l (k.box b hb)⟩⟩
structure OL where
 ua:Option Addr
 uc:Nat
 ma:Option Addr
 mc:Nat
abbrev M9:OL:=⟨none,0,none,0⟩
abbrev tI(o:OC)(y:OL):List Value:=[.int .i64 o.code,.int .u64 (o.ses:Nat),.int .u64 (o.val:Nat),.slice y.ua o.a5P.length y.uc,.slice y.ma o.mods.length y.mc]
abbrev Uc(o:OC)(y:OL):Value:=.agg (tI o y).toArray
structure L_(o:OC)(y:OL)(h:l_):Prop where
 a5P:n9 h y.ua (nV o.a5P)
 mods:n9 h y.ma (nV o.mods)
instance {o:OC} {y:OL}:Mn (L_ o y):=⟨fun l k=>⟨k.a5P.le l,k.mods.le l⟩⟩
theorem L_.zero(h:l_):L_ B_ M9 h:=⟨n9.nil _ _,n9.nil _ _⟩
theorem L_.nil(h:l_)(o:OC)(y:OL)(hu:o.a5P=[])(a:o.mods=[]):L_ o y h:=⟨by rw[hu];exact n9.nil _ _,by rw[a];exact n9.nil _ _⟩
abbrev Oa(m:MM)(r:RQ)(q:QL)(o:OC)(y:OL):List Value:=iD m++eE r q++tI o y
abbrev R_(b:Nat)(m:MM)(r:RQ)(q:QL)(o:OC)(y:OL):As:=.blk b (.cells (Oa m r q o y).toArray 136)
def V9(l:List BM):List As:=l.map fun b=>N9 b.a b.ls b.c
theorem Lf(a b:List BM):V9 (a++b)=V9 a++V9 b:=by simp[V9]
abbrev uO(m:MM):List As:=T1 m.sa m.a5L m.sc::P5 m.ha m.a5K m.hc::T0 m.ba m.a5J m.bc::V9 m.a5J
structure CY(b:BX):Prop where
 name:b.name.length<=64
 val:b.val<=4294967296
 next:b.next<=4294967296
 high:b.high<=D9
 lts:b.lts.length<=32
 uid:∀x∈b.lts,x.uid<b.next
 a5Y:∀x∈b.lts,x.a5Y.length<=16/\∀f∈x.a5Y,f.length<=32
 mod:∀x∈b.lts,x.mod<=D9
 size:∀x∈b.lts,x.size<=4096
 hash:∀x∈b.lts,x.hash.length=32
structure V_(s:ML):Prop where
 a5J:s.a5J.length<=8
 box:∀b∈s.a5J,CY b
 sorted:s.a5J.Pairwise fun x y=>gU x.name y.name=true
 a5K:s.a5K.Pairwise fun x y=>x.node<y.node
 home:∀h∈s.a5K,1<=h.node/\h.node<=5/\h.life<18446744073709551616/\h.tr<18446744073709551616
 a5L:s.a5L.length<=16
 seat:∀x∈s.a5L,1<=x.ses/\x.ses<s.nses/\x.last<18446744073709551616/\x.life<18446744073709551616/\x.tr<18446744073709551616
 nval:s.nval<=4294967296
 nses:s.nses<=CW
 a5V:s.a5V<=D9
abbrev O2(b:Nat)(s:SE)(x:SL)(d:DD)(y:DL):List As:=[E9 b s x d y,u7 y.da y.rl y.dc]
abbrev F5(y:DL)(m:RM)(a:Option Addr)(c:Nat):DL:={y with da:=a,dc:=c,rl:=y.rl++[m]}
theorem V3(b:Nat)(s:SE)(x:SL)(d:DD)(y:DL)(r:RR)(z:RL)(hl:y.rl.length<=100000000):Ct prog 69 [l9 b,KU r z] (fun _=>True) (O2 b s x d y) (fun v A=>v=.tuple #[]/\∃a c,A=O2 b s x d (F5 y (r,z) a c)):=by
 refine b_ 16 func69 rfl rfl rfl ?_;intro F _;refine r7 ?_;intro j;refine w8 ?_;refine vi [5,6] [7,8,12] 13 ?_;refine wd [0,1,2,3,4,5,6] ?_;refine h_ 7 rfl i6 ?_;refine C4 yh (r,z) rfl ?_;intro h g;refine Y9 ?_;refine h_ 8 rfl i6 ?_;refine w6 yh (l:=y.rl) (m:=[(r,z)]) aK jH (by show(y.rl.length+1)*160<=_;omega) ?_;intro e f _;refine E6 [9,10,11,12] ?_;exact m6 rfl _ ⟨rfl,e,f,rfl⟩ fun w i=>y4.left tk i
theorem ll(b:Nat)(s:SE)(x:SL)(d:DD)(y:DL)(tag text:Bs)(hl:y.rl.length<=100000000):Ct prog 72 [l9 b,B tag,B text] (fun _=>True) (O2 b s x d y) (fun v A=>v=.tuple #[]/\∃a c,A=O2 b s x d (F5 y (fo tag text,L0) a c)):=by
 refine b_ 11 func72 rfl rfl rfl ?_;intro F _;refine O3 ?_;refine e_ (V3 b s x d y (fo tag text) L0 hl) qw ?_;rintro v A ⟨rfl,a,c,rfl⟩;refine w8 ?_;exact m6 rfl _ ⟨rfl,a,c,rfl⟩ fun w e=>y4.left tk e
theorem Gb(b:Nat)(s:SE)(x:SL)(d:DD)(y:DL)(tag code text:Bs)(hl:y.rl.length<=100000000):Ct prog 80 [l9 b,B tag,B code,B text] (fun _=>True) (O2 b s x d y) (fun v A=>v=.tuple #[]/\∃a c,A=O2 b s x d (F5 y (nh tag code text,L0) a c)):=by
 refine b_ 14 func80 rfl rfl rfl ?_;intro F _;refine ap ?_;refine e_ (V3 b s x d y (nh tag code text) L0 hl) qw ?_;rintro v A ⟨rfl,a,c,rfl⟩;refine w8 ?_;exact m6 rfl _ ⟨rfl,a,c,rfl⟩ fun w e=>y4.left tk e
theorem nr(b:Nat)(s:SE)(x:SL)(d:DD)(y:DL)(tag:Bs)(hl:y.rl.length<=100000000):Ct prog 167 [l9 b,B tag] (fun _=>True) (O2 b s x d y) (fun v A=>v=.tuple #[]/\∃a c,A=O2 b s x d (F5 y (dU tag,L0) a c)):=by
 refine b_ 8 func167 rfl rfl rfl ?_;intro F _;refine E7 ?_;refine e_ (V3 b s x d y (dU tag) L0 hl) qw ?_;rintro v A ⟨rfl,a,c,rfl⟩;refine w8 ?_;exact m6 rfl _ ⟨rfl,a,c,rfl⟩ fun w e=>y4.left tk e
theorem tJ(b:Nat)(s:SE)(x:SL)(d:DD)(y:DL)(text:Bs)(hl:y.rl.length<=100000000):Ct prog 70 [l9 b,B text] (fun _=>True) (O2 b s x d y) (fun v A=>v=.tuple #[]/\∃a c,A=O2 b {s with a5O:=3} x {d with close:=true} (F5 y (I3 text,L0) a c)):=by
 refine b_ 16 func70 rfl rfl rfl ?_;intro F _;refine E7 ?_;refine e_ (V3 b s x d y (I3 text) L0 hl) qw ?_;rintro v A ⟨rfl,a,c,rfl⟩;refine wk 10 ?_;exact m6 rfl _ ⟨rfl,a,c,rfl⟩ fun w e=>y4.left tk e
theorem oK(b:Nat)(s:SE)(x:SL)(d:DD)(y:DL)(tag:Bs)(hl:y.rl.length<=10000000):Ct prog 79 [l9 b,B tag] (fun _=>True) (O2 b s x d y) (fun v A=>v=.tuple #[]/\∃a c,A=O2 b {s with a5O:=3} x {d with close:=true} {y with da:=a,dc:=c,rl:=y.rl++[(I3 [108,111,103,103,105,110,103,32,111,117,116],L0),(dU tag,L0)]}):=by
 refine b_ 9 func79 rfl rfl rfl ?_;intro F _;refine r7 ?_;refine e_ (tJ b s x d y _ qb) qw ?_;rintro v A ⟨rfl,a,c,rfl⟩;refine A1 ?_;refine e_ (nr b {s with a5O:=3} x {d with close:=true} (F5 y (I3 [108,111,103,103,105,110,103,32,111,117,116],L0) a c) tag (by simp;omega)) qw ?_;rintro v A ⟨rfl,f,g,rfl⟩;refine w8 ?_;exact m6 rfl _ ⟨rfl,f,g,rfl⟩ fun w e=>by simp only[F5,zm,Q8,j8] at e;exact y4.left tk e
def dB(t:TypeId)(sz n:Nat)(xs:List Value)(v:Value)(A:List As):Prop:=∃a c,v=.slice a n c/\A=[.own (.slice a n c) t sz xs]
def D3{α:Type}(q:α->Bool)(l:List α):Int:=(l.findIdx? q).elim (-1) fun i=>(i:Nat)
theorem N4{α:Type}{q:α->Bool}{l:List α}(h:∀i (a:i<l.length),q l[i]=false):D3 q l= -1:=by
 unfold D3;rw[Q6.2 fun x b=>by obtain⟨i,a,rfl⟩:=Zk b;exact h i a];rfl
theorem N5{α:Type}{q:α->Bool}{l:List α}{j:Nat}(b:j<l.length)(hq:q l[j]=true)(h:∀i (a:i<l.length),i<j->q l[i]=false):D3 q l=(j:Nat):=by
 unfold D3;rw[kg.2 ⟨b,hq,fun i a=>by simp[h i qb a]⟩];rfl
theorem cZ{α:Type}(q:α->Bool)(l:List α): -1<=D3 q l/\D3 q l<l.length:=by
 unfold D3
 cases h:l.findIdx? q with
 |none=>simp only[Option.elim];omega
 |some i=>have:=(kg.1 h).1;simp only[Option.elim];omega
theorem fM{α:Type}(q:α->Bool)(l:List α):decide (D3 q l≥0)=l.any q:=by
 unfold D3
 cases h:l.findIdx? q with
 |none=>
  rw[Q6] at h;have:l.any q=false:=Jh.2 fun x a=>by simp[h x a]
  rw[this];simp
 |some i=>
  obtain⟨b,c,_⟩:=kg.1 h;have:l.any q=true:=Jq.2 ⟨_,zy b,c⟩;rw[this];simp
theorem S6{α:Type}{C:α->List Value}{n:Nat}{h:l_}{a:Option Addr}{l:List α}{q i:Nat}(r:n9 h a (l.flatMap C))(d:∀x,(C x).length=n)(b:0<n)(c:i<l.length)(hq:q=i*n):M0 h (N0 a q) (C l[i]):=by
 have:=tl r d b l[i] (q:=q) (i:=i) (by rw[hq,W5]) c
 rwa [show l.getD i l[i]=l[i] from by simp[List.getD,c]] at this
theorem q_{α:Type}{C:α->List Value}{n:Nat}{h:l_}{a:Option Addr}{l:List α}{i:Nat}(r:n9 h a (l.flatMap C))(c:∀x,(C x).length=n)(b:0<n)(d:i<l.length):∃e,a=some e:=vh r c b d
theorem jI(xs:List Value)(a:Option Addr)(n c:Nat)(hx:xs.length=n*5)(j:∀q∈xs,q.oneCell'=true)(hl:n<=1000000000000):Ct prog 104 [.slice a n c] (fun h=>n9 h a xs) [] (dB 102 5 n xs):=by
 refine b_ 8 func104 rfl rfl rfl ?_;intro F d;refine eM ?_ ?_<;>intro h
 ·have ha:a=none:=by simpa using h
  have k:n=0:=by
   rcases Qs n with f|f
   ·exact f
   ·obtain⟨l,e,_⟩:=d (by intro e;rw[e] at hx;simp at hx<;>omega);rw[ha] at e;cases e
  subst k;have:xs=[]:=Q4.1 (by rw[hx,Z4]);subst this;refine C5 ?_;exact d_ rfl rfl [.own (.slice none 0 0) 102 5 []] ⟨none,0,rfl,rfl⟩ (fun w b=>b.addNil _ _)
 ·refine w8 ?_;refine r7 ?_;intro a5;refine r7 ?_;refine C0 rfl rfl (fun m o=>.here) (fun w b=>n9.le d b.keep) hx rfl rfl j (by show(0+n)*40<=_;omega) qb rfl ?_;intro g i _;refine C5 ?_;exact d_ rfl rfl [.own (.slice g n i) 102 5 xs] ⟨g,i,by rw[ju],rfl⟩ (fun w b=>by rw[ju,j8] at b;exact b)
theorem tK(xs:List Value)(a:Option Addr)(n c:Nat)(hx:xs.length=n*3)(j:∀q∈xs,q.oneCell'=true)(hl:n<=1000000000000):Ct prog 123 [.slice a n c] (fun h=>n9 h a xs) [] (dB 104 3 n xs):=by
 refine b_ 8 func123 rfl rfl rfl ?_;intro F d;refine eM ?_ ?_<;>intro h
 ·have ha:a=none:=by simpa using h
  have k:n=0:=by
   rcases Qs n with f|f
   ·exact f
   ·obtain⟨l,e,_⟩:=d (by intro e;rw[e] at hx;simp at hx<;>omega);rw[ha] at e;cases e
  subst k;have:xs=[]:=Q4.1 (by rw[hx,Z4]);subst this;refine C5 ?_;exact d_ rfl rfl [.own (.slice none 0 0) 104 3 []] ⟨none,0,rfl,rfl⟩ (fun w b=>b.addNil _ _)
 ·refine w8 ?_;refine r7 ?_;intro a5;refine r7 ?_;refine C0 rfl rfl (fun m o=>.here) (fun w b=>n9.le d b.keep) hx rfl rfl j (by show(0+n)*24<=_;omega) qb rfl ?_;intro g i _;refine C5 ?_;exact d_ rfl rfl [.own (.slice g n i) 104 3 xs] ⟨g,i,by rw[ju],rfl⟩ (fun w b=>by rw[ju,j8] at b;exact b)
theorem vI(xs:List Value)(a:Option Addr)(n c:Nat)(hx:xs.length=n*5)(j:∀q∈xs,q.oneCell'=true)(hl:n<=1000000000000):Ct prog 124 [.slice a n c] (fun h=>n9 h a xs) [] (dB 100 5 n xs):=by
 refine b_ 8 func124 rfl rfl rfl ?_;intro F d;refine eM ?_ ?_<;>intro h
 ·have ha:a=none:=by simpa using h
  have k:n=0:=by
   rcases Qs n with f|f
   ·exact f
   ·obtain⟨l,e,_⟩:=d (by intro e;rw[e] at hx;simp at hx<;>omega);rw[ha] at e;cases e
  subst k;have:xs=[]:=Q4.1 (by rw[hx,Z4]);subst this;refine C5 ?_;exact d_ rfl rfl [.own (.slice none 0 0) 100 5 []] ⟨none,0,rfl,rfl⟩ (fun w b=>b.addNil _ _)
 ·refine w8 ?_;refine r7 ?_;intro a5;refine r7 ?_;refine C0 rfl rfl (fun m o=>.here) (fun w b=>n9.le d b.keep) hx rfl rfl j (by show(0+n)*64<=_;omega) qb rfl ?_;intro g i _;refine C5 ?_;exact d_ rfl rfl [.own (.slice g n i) 100 5 xs] ⟨g,i,by rw[ju],rfl⟩ (fun w b=>by rw[ju,j8] at b;exact b)
theorem fN(xs:List Value)(a:Option Addr)(n c:Nat)(hx:xs.length=n*5)(j:∀q∈xs,q.oneCell'=true)(hl:n<=1000000000000):Ct prog 117 [.slice a n c] (fun h=>n9 h a xs) [] (dB 156 5 n xs):=by
 refine b_ 8 func117 rfl rfl rfl ?_;intro F d;refine eM ?_ ?_<;>intro h
 ·have ha:a=none:=by simpa using h
  have k:n=0:=by
   rcases Qs n with f|f
   ·exact f
   ·obtain⟨l,e,_⟩:=d (by intro e;rw[e] at hx;simp at hx<;>omega);rw[ha] at e;cases e
  subst k;have:xs=[]:=Q4.1 (by rw[hx,Z4]);subst this;refine C5 ?_;exact d_ rfl rfl [.own (.slice none 0 0) 156 5 []] ⟨none,0,rfl,rfl⟩ (fun w b=>b.addNil _ _)
 ·refine w8 ?_;refine r7 ?_;intro a5;refine r7 ?_;refine C0 rfl rfl (fun m o=>.here) (fun w b=>n9.le d b.keep) hx rfl rfl j (by show(0+n)*64<=_;omega) qb rfl ?_;intro g i _;refine C5 ?_;exact d_ rfl rfl [.own (.slice g n i) 156 5 xs] ⟨g,i,by rw[ju],rfl⟩ (fun w b=>by rw[ju,j8] at b;exact b)
theorem fO(xs:List Value)(a:Option Addr)(n c:Nat)(hx:xs.length=n*2)(j:∀q∈xs,q.oneCell'=true)(hl:n<=1000000000000):Ct prog 128 [.slice a n c] (fun h=>n9 h a xs) [] (dB 72 2 n xs):=by
 refine b_ 8 func128 rfl rfl rfl ?_;intro F d;refine eM ?_ ?_<;>intro h
 ·have ha:a=none:=by simpa using h
  have k:n=0:=by
   rcases Qs n with f|f
   ·exact f
   ·obtain⟨l,e,_⟩:=d (by intro e;rw[e] at hx;simp at hx<;>omega);rw[ha] at e;cases e
  subst k;have:xs=[]:=Q4.1 (by rw[hx,Z4]);subst this;refine C5 ?_;exact d_ rfl rfl [.own (.slice none 0 0) 72 2 []] ⟨none,0,rfl,rfl⟩ (fun w b=>b.addNil _ _)
 ·refine w8 ?_;refine r7 ?_;intro a5;refine r7 ?_;refine C0 rfl rfl (fun m o=>.here) (fun w b=>n9.le d b.keep) hx rfl rfl j (by show(0+n)*16<=_;omega) qb rfl ?_;intro g i _;refine C5 ?_;exact d_ rfl rfl [.own (.slice g n i) 72 2 xs] ⟨g,i,by rw[ju],rfl⟩ (fun w b=>by rw[ju,j8] at b;exact b)
theorem gX(xs:List Value)(a:Option Addr)(n c:Nat)(hx:xs.length=n*2)(j:∀q∈xs,q.oneCell'=true)(hl:n<=1000000000000):Ct prog 202 [.slice a n c] (fun h=>n9 h a xs) [] (dB 178 2 n xs):=by
 refine b_ 8 func202 rfl rfl rfl ?_;intro F d;refine eM ?_ ?_<;>intro h
 ·have ha:a=none:=by simpa using h
  have k:n=0:=by
   rcases Qs n with f|f
   ·exact f
   ·obtain⟨l,e,_⟩:=d (by intro e;rw[e] at hx;simp at hx<;>omega);rw[ha] at e;cases e
  subst k;have:xs=[]:=Q4.1 (by rw[hx,Z4]);subst this;refine C5 ?_;exact d_ rfl rfl [.own (.slice none 0 0) 178 2 []] ⟨none,0,rfl,rfl⟩ (fun w b=>b.addNil _ _)
 ·refine w8 ?_;refine r7 ?_;intro a5;refine r7 ?_;refine C0 rfl rfl (fun m o=>.here) (fun w b=>n9.le d b.keep) hx rfl rfl j (by show(0+n)*16<=_;omega) qb rfl ?_;intro g i _;refine C5 ?_;exact d_ rfl rfl [.own (.slice g n i) 178 2 xs] ⟨g,i,by rw[ju],rfl⟩ (fun w b=>by rw[ju,j8] at b;exact b)
theorem jJ(xs:List Value)(a:Option Addr)(n c:Nat)(hx:xs.length=n*5)(j:∀q∈xs,q.oneCell'=true)(hl:n<=1000000000000):Ct prog 203 [.slice a n c] (fun h=>n9 h a xs) [] (dB 129 5 n xs):=by
 refine b_ 8 func203 rfl rfl rfl ?_;intro F d;refine eM ?_ ?_<;>intro h
 ·have ha:a=none:=by simpa using h
  have k:n=0:=by
   rcases Qs n with f|f
   ·exact f
   ·obtain⟨l,e,_⟩:=d (by intro e;rw[e] at hx;simp at hx<;>omega);rw[ha] at e;cases e
  subst k;have:xs=[]:=Q4.1 (by rw[hx,Z4]);subst this;refine C5 ?_;exact d_ rfl rfl [.own (.slice none 0 0) 129 5 []] ⟨none,0,rfl,rfl⟩ (fun w b=>b.addNil _ _)
 ·refine w8 ?_;refine r7 ?_;intro a5;refine r7 ?_;refine C0 rfl rfl (fun m o=>.here) (fun w b=>n9.le d b.keep) hx rfl rfl j (by show(0+n)*32<=_;omega) qb rfl ?_;intro g i _;refine C5 ?_;exact d_ rfl rfl [.own (.slice g n i) 129 5 xs] ⟨g,i,by rw[ju],rfl⟩ (fun w b=>by rw[ju,j8] at b;exact b)
theorem vJ(xs:List Value)(a:Option Addr)(n c:Nat)(hx:xs.length=n*6)(j:∀q∈xs,q.oneCell'=true)(hl:n<=1000000000000):Ct prog 204 [.slice a n c] (fun h=>n9 h a xs) [] (dB 127 6 n xs):=by
 refine b_ 8 func204 rfl rfl rfl ?_;intro F d;refine eM ?_ ?_<;>intro h
 ·have ha:a=none:=by simpa using h
  have k:n=0:=by
   rcases Qs n with f|f
   ·exact f
   ·obtain⟨l,e,_⟩:=d (by intro e;rw[e] at hx;simp at hx<;>omega);rw[ha] at e;cases e
  subst k;have:xs=[]:=Q4.1 (by rw[hx,Z4]);subst this;refine C5 ?_;exact d_ rfl rfl [.own (.slice none 0 0) 127 6 []] ⟨none,0,rfl,rfl⟩ (fun w b=>b.addNil _ _)
 ·refine w8 ?_;refine r7 ?_;intro a5;refine r7 ?_;refine C0 rfl rfl (fun m o=>.here) (fun w b=>n9.le d b.keep) hx rfl rfl j (by show(0+n)*80<=_;omega) qb rfl ?_;intro g i _;refine C5 ?_;exact d_ rfl rfl [.own (.slice g n i) 127 6 xs] ⟨g,i,by rw[ju],rfl⟩ (fun w b=>by rw[ju,j8] at b;exact b)
theorem vK(xs:List Value)(a:Option Addr)(n c:Nat)(hx:xs.length=n*1)(j:∀q∈xs,q.oneCell'=true)(hl:n<=1000000000000):Ct prog 129 [.slice a n c] (fun h=>n9 h a xs) [] (dB 27 1 n xs):=by
 refine b_ 8 func129 rfl rfl rfl ?_;intro F d;refine eM ?_ ?_<;>intro h
 ·have ha:a=none:=by simpa using h
  have k:n=0:=by
   rcases Qs n with f|f
   ·exact f
   ·obtain⟨l,e,_⟩:=d (by intro e;rw[e] at hx;simp at hx<;>omega);rw[ha] at e;cases e
  subst k;have:xs=[]:=Q4.1 (by rw[hx,Z4]);subst this;refine C5 ?_;exact d_ rfl rfl [.own (.slice none 0 0) 27 1 []] ⟨none,0,rfl,rfl⟩ (fun w b=>b.addNil _ _)
 ·refine w8 ?_;refine r7 ?_;intro a5;refine r7 ?_;refine C0 rfl rfl (fun m o=>.here) (fun w b=>n9.le d b.keep) hx rfl rfl j (by show(0+n)*8<=_;omega) qb rfl ?_;intro g i _;refine C5 ?_;exact d_ rfl rfl [.own (.slice g n i) 27 1 xs] ⟨g,i,by rw[ju],rfl⟩ (fun w b=>by rw[ju,j8] at b;exact b)
theorem aE{α:Type}(C:α->List Value)(n:∀x,(C x).length=5)(l:List α)(a:Option Addr)(c:Nat)(f:FuncId)[HF prog f](qs:List Value)(d:l_->Prop)[Mn d](q:α->Bool)(r:∀x∈l,Pu prog f (.agg (C x).toArray::qs) d (.bool (q x)))(hl:l.length<=1000000000000):Pu prog 126 [.slice a l.length c,.func (.func f) #[] qs.toArray] (fun h=>n9 h a (l.flatMap C)/\d h) (.int .i64 (D3 q l)):=by
 refine b_ 19 func126 rfl rfl rfl ?_;rintro F ⟨g,k⟩;refine O3 ?_;refine o7 (ι:=Nat) (fun j=>j<=l.length/\∀i (m:i<l.length),i<j->q l[i]=false) (fun j=>[(0,.slice a l.length c),(1,.func (.func f) #[] qs.toArray),(7,.int .i64 (l.length:Nat)),(8,.int .i64 (j:Nat))]) (fun _=>[]) (fun j=>l.length-j) 0 ⟨zw _,fun i _ h=>by omega⟩ sub i_ ?_;rintro j ⟨y,e⟩;refine R7 ?_ ?_<;>intro h
 ·have b:j<l.length:=by have:=qr h;omega
  have o:=q_ g n qp b;refine aq ?_;refine r_ (p8 rfl (fun w s=>S6 (g.le s.keep) n qp b x4) (n _)) ?_;refine z_ (ps:=[]) _ rfl rfl rfl (r _ (zy b)) i_ (fun h t _=>Mn.le t k) rfl ?_;rintro v A ⟨rfl,rfl⟩;refine O0 ?_ ?_<;>intro p
  ·refine L7 ?_;exact d_ rfl rfl [] ⟨by rw[N5 b p e],rfl⟩ i_
  ·refine A1 ?_;refine l6 (j+1) ⟨b,fun i m h=>?_⟩ qb sub i_;rcases kp.1 h with u|rfl
   ·exact e i m u
   ·exact p
 ·have b:j=l.length:=by have:=zq h;omega
  refine C5 ?_;exact d_ rfl rfl [] ⟨by rw[N4 fun i m=>e i m qb],rfl⟩ i_
theorem ln{α:Type}(C:α->List Value)(n:∀x,(C x).length=3)(l:List α)(a:Option Addr)(c:Nat)(f:FuncId)[HF prog f](qs:List Value)(d:l_->Prop)[Mn d](q:α->Bool)(r:∀x∈l,Pu prog f (.agg (C x).toArray::qs) d (.bool (q x)))(hl:l.length<=1000000000000):Pu prog 182 [.slice a l.length c,.func (.func f) #[] qs.toArray] (fun h=>n9 h a (l.flatMap C)/\d h) (.int .i64 (D3 q l)):=by
 refine b_ 19 func182 rfl rfl rfl ?_;rintro F ⟨g,k⟩;refine O3 ?_;refine o7 (ι:=Nat) (fun j=>j<=l.length/\∀i (m:i<l.length),i<j->q l[i]=false) (fun j=>[(0,.slice a l.length c),(1,.func (.func f) #[] qs.toArray),(7,.int .i64 (l.length:Nat)),(8,.int .i64 (j:Nat))]) (fun _=>[]) (fun j=>l.length-j) 0 ⟨zw _,fun i _ h=>by omega⟩ sub i_ ?_;rintro j ⟨y,e⟩;refine R7 ?_ ?_<;>intro h
 ·have b:j<l.length:=by have:=qr h;omega
  have o:=q_ g n qp b;refine aq ?_;refine r_ (p8 rfl (fun w s=>S6 (g.le s.keep) n qp b x4) (n _)) ?_;refine z_ (ps:=[]) _ rfl rfl rfl (r _ (zy b)) i_ (fun h t _=>Mn.le t k) rfl ?_;rintro v A ⟨rfl,rfl⟩;refine O0 ?_ ?_<;>intro p
  ·refine L7 ?_;exact d_ rfl rfl [] ⟨by rw[N5 b p e],rfl⟩ i_
  ·refine A1 ?_;refine l6 (j+1) ⟨b,fun i m h=>?_⟩ qb sub i_;rcases kp.1 h with u|rfl
   ·exact e i m u
   ·exact p
 ·have b:j=l.length:=by have:=zq h;omega
  refine C5 ?_;exact d_ rfl rfl [] ⟨by rw[N4 fun i m=>e i m qb],rfl⟩ i_
theorem mK{α:Type}(C:α->List Value)(n:∀x,(C x).length=5)(l:List α)(a:Option Addr)(c:Nat)(f:FuncId)[HF prog f](qs:List Value)(d:l_->Prop)[Mn d](q:α->Bool)(r:∀x∈l,Pu prog f (.agg (C x).toArray::qs) d (.bool (q x)))(hl:l.length<=1000000000000):Pu prog 188 [.slice a l.length c,.func (.func f) #[] qs.toArray] (fun h=>n9 h a (l.flatMap C)/\d h) (.int .i64 (D3 q l)):=by
 refine b_ 19 func188 rfl rfl rfl ?_;rintro F ⟨g,k⟩;refine O3 ?_;refine o7 (ι:=Nat) (fun j=>j<=l.length/\∀i (m:i<l.length),i<j->q l[i]=false) (fun j=>[(0,.slice a l.length c),(1,.func (.func f) #[] qs.toArray),(7,.int .i64 (l.length:Nat)),(8,.int .i64 (j:Nat))]) (fun _=>[]) (fun j=>l.length-j) 0 ⟨zw _,fun i _ h=>by omega⟩ sub i_ ?_;rintro j ⟨y,e⟩;refine R7 ?_ ?_<;>intro h
 ·have b:j<l.length:=by have:=qr h;omega
  have o:=q_ g n qp b;refine aq ?_;refine r_ (p8 rfl (fun w s=>S6 (g.le s.keep) n qp b x4) (n _)) ?_;refine z_ (ps:=[]) _ rfl rfl rfl (r _ (zy b)) i_ (fun h t _=>Mn.le t k) rfl ?_;rintro v A ⟨rfl,rfl⟩;refine O0 ?_ ?_<;>intro p
  ·refine L7 ?_;exact d_ rfl rfl [] ⟨by rw[N5 b p e],rfl⟩ i_
  ·refine A1 ?_;refine l6 (j+1) ⟨b,fun i m h=>?_⟩ qb sub i_;rcases kp.1 h with u|rfl
   ·exact e i m u
   ·exact p
 ·have b:j=l.length:=by have:=zq h;omega
  refine C5 ?_;exact d_ rfl rfl [] ⟨by rw[N4 fun i m=>e i m qb],rfl⟩ i_
theorem X9{α:Type}(C:α->List Value)(n:∀x,(C x).length=5)(l:List α)(a:Option Addr)(c:Nat)(f:FuncId)[HF prog f](qs:List Value)(d:l_->Prop)[Mn d](q:α->Bool)(r:∀x∈l,Pu prog f (.agg (C x).toArray::qs) d (.bool (q x)))(hl:l.length<=1000000000000):Pu prog 201 [.slice a l.length c,.func (.func f) #[] qs.toArray] (fun h=>n9 h a (l.flatMap C)/\d h) (.int .i64 (D3 q l)):=by
 refine b_ 19 func201 rfl rfl rfl ?_;rintro F ⟨g,k⟩;refine O3 ?_;refine o7 (ι:=Nat) (fun j=>j<=l.length/\∀i (m:i<l.length),i<j->q l[i]=false) (fun j=>[(0,.slice a l.length c),(1,.func (.func f) #[] qs.toArray),(7,.int .i64 (l.length:Nat)),(8,.int .i64 (j:Nat))]) (fun _=>[]) (fun j=>l.length-j) 0 ⟨zw _,fun i _ h=>by omega⟩ sub i_ ?_;rintro j ⟨y,e⟩;refine R7 ?_ ?_<;>intro h
 ·have b:j<l.length:=by have:=qr h;omega
  have o:=q_ g n qp b;refine aq ?_;refine r_ (p8 rfl (fun w s=>S6 (g.le s.keep) n qp b x4) (n _)) ?_;refine z_ (ps:=[]) _ rfl rfl rfl (r _ (zy b)) i_ (fun h t _=>Mn.le t k) rfl ?_;rintro v A ⟨rfl,rfl⟩;refine O0 ?_ ?_<;>intro p
  ·refine L7 ?_;exact d_ rfl rfl [] ⟨by rw[N5 b p e],rfl⟩ i_
  ·refine A1 ?_;refine l6 (j+1) ⟨b,fun i m h=>?_⟩ qb sub i_;rcases kp.1 h with u|rfl
   ·exact e i m u
   ·exact p
 ·have b:j=l.length:=by have:=zq h;omega
  refine C5 ?_;exact d_ rfl rfl [] ⟨by rw[N4 fun i m=>e i m qb],rfl⟩ i_
theorem lp{α:Type}(C:α->List Value)(n:∀x,(C x).length=2)(l:List α)(a:Option Addr)(c:Nat)(f:FuncId)[HF prog f](qs:List Value)(d:l_->Prop)[Mn d](q:α->Bool)(r:∀x∈l,Pu prog f (.agg (C x).toArray::qs) d (.bool (q x)))(hl:l.length<=1000000000000):Pu prog 226 [.slice a l.length c,.func (.func f) #[] qs.toArray] (fun h=>n9 h a (l.flatMap C)/\d h) (.int .i64 (D3 q l)):=by
 refine b_ 19 func226 rfl rfl rfl ?_;rintro F ⟨g,k⟩;refine O3 ?_;refine o7 (ι:=Nat) (fun j=>j<=l.length/\∀i (m:i<l.length),i<j->q l[i]=false) (fun j=>[(0,.slice a l.length c),(1,.func (.func f) #[] qs.toArray),(7,.int .i64 (l.length:Nat)),(8,.int .i64 (j:Nat))]) (fun _=>[]) (fun j=>l.length-j) 0 ⟨zw _,fun i _ h=>by omega⟩ sub i_ ?_;rintro j ⟨y,e⟩;refine R7 ?_ ?_<;>intro h
 ·have b:j<l.length:=by have:=qr h;omega
  have o:=q_ g n qp b;refine aq ?_;refine r_ (p8 rfl (fun w s=>S6 (g.le s.keep) n qp b x4) (n _)) ?_;refine z_ (ps:=[]) _ rfl rfl rfl (r _ (zy b)) i_ (fun h t _=>Mn.le t k) rfl ?_;rintro v A ⟨rfl,rfl⟩;refine O0 ?_ ?_<;>intro p
  ·refine L7 ?_;exact d_ rfl rfl [] ⟨by rw[N5 b p e],rfl⟩ i_
  ·refine A1 ?_;refine l6 (j+1) ⟨b,fun i m h=>?_⟩ qb sub i_;rcases kp.1 h with u|rfl
   ·exact e i m u
   ·exact p
 ·have b:j=l.length:=by have:=zq h;omega
  refine C5 ?_;exact d_ rfl rfl [] ⟨by rw[N4 fun i m=>e i m qb],rfl⟩ i_
theorem lq{α:Type}(C:α->List Value)(n:∀x,(C x).length=5)(l:List α)(a:Option Addr)(c:Nat)(f:FuncId)[HF prog f](qs:List Value)(d:l_->Prop)[Mn d](q:α->Bool)(r:∀x∈l,Pu prog f (.agg (C x).toArray::qs) d (.bool (q x)))(hl:l.length<=1000000000000):Pu prog 228 [.slice a l.length c,.func (.func f) #[] qs.toArray] (fun h=>n9 h a (l.flatMap C)/\d h) (.int .i64 (D3 q l)):=by
 refine b_ 19 func228 rfl rfl rfl ?_;rintro F ⟨g,k⟩;refine O3 ?_;refine o7 (ι:=Nat) (fun j=>j<=l.length/\∀i (m:i<l.length),i<j->q l[i]=false) (fun j=>[(0,.slice a l.length c),(1,.func (.func f) #[] qs.toArray),(7,.int .i64 (l.length:Nat)),(8,.int .i64 (j:Nat))]) (fun _=>[]) (fun j=>l.length-j) 0 ⟨zw _,fun i _ h=>by omega⟩ sub i_ ?_;rintro j ⟨y,e⟩;refine R7 ?_ ?_<;>intro h
 ·have b:j<l.length:=by have:=qr h;omega
  have o:=q_ g n qp b;refine aq ?_;refine r_ (p8 rfl (fun w s=>S6 (g.le s.keep) n qp b x4) (n _)) ?_;refine z_ (ps:=[]) _ rfl rfl rfl (r _ (zy b)) i_ (fun h t _=>Mn.le t k) rfl ?_;rintro v A ⟨rfl,rfl⟩;refine O0 ?_ ?_<;>intro p
  ·refine L7 ?_;exact d_ rfl rfl [] ⟨by rw[N5 b p e],rfl⟩ i_
  ·refine A1 ?_;refine l6 (j+1) ⟨b,fun i m h=>?_⟩ qb sub i_;rcases kp.1 h with u|rfl
   ·exact e i m u
   ·exact p
 ·have b:j=l.length:=by have:=zq h;omega
  refine C5 ?_;exact d_ rfl rfl [] ⟨by rw[N4 fun i m=>e i m qb],rfl⟩ i_
theorem mL{α:Type}(C:α->List Value)(n:∀x,(C x).length=6)(l:List α)(a:Option Addr)(c:Nat)(f:FuncId)[HF prog f](qs:List Value)(d:l_->Prop)[Mn d](q:α->Bool)(r:∀x∈l,Pu prog f (.agg (C x).toArray::qs) d (.bool (q x)))(hl:l.length<=1000000000000):Pu prog 291 [.slice a l.length c,.func (.func f) #[] qs.toArray] (fun h=>n9 h a (l.flatMap C)/\d h) (.int .i64 (D3 q l)):=by
 refine b_ 19 func291 rfl rfl rfl ?_;rintro F ⟨g,k⟩;refine O3 ?_;refine o7 (ι:=Nat) (fun j=>j<=l.length/\∀i (m:i<l.length),i<j->q l[i]=false) (fun j=>[(0,.slice a l.length c),(1,.func (.func f) #[] qs.toArray),(7,.int .i64 (l.length:Nat)),(8,.int .i64 (j:Nat))]) (fun _=>[]) (fun j=>l.length-j) 0 ⟨zw _,fun i _ h=>by omega⟩ sub i_ ?_;rintro j ⟨y,e⟩;refine R7 ?_ ?_<;>intro h
 ·have b:j<l.length:=by have:=qr h;omega
  have o:=q_ g n qp b;refine aq ?_;refine r_ (p8 rfl (fun w s=>S6 (g.le s.keep) n qp b x4) (n _)) ?_;refine z_ (ps:=[]) _ rfl rfl rfl (r _ (zy b)) i_ (fun h t _=>Mn.le t k) rfl ?_;rintro v A ⟨rfl,rfl⟩;refine O0 ?_ ?_<;>intro p
  ·refine L7 ?_;exact d_ rfl rfl [] ⟨by rw[N5 b p e],rfl⟩ i_
  ·refine A1 ?_;refine l6 (j+1) ⟨b,fun i m h=>?_⟩ qb sub i_;rcases kp.1 h with u|rfl
   ·exact e i m u
   ·exact p
 ·have b:j=l.length:=by have:=zq h;omega
  refine C5 ?_;exact d_ rfl rfl [] ⟨by rw[N4 fun i m=>e i m qb],rfl⟩ i_
theorem jK{α:Type}(C:α->List Value)(n:∀x,(C x).length=2)(l:List α)(a:Option Addr)(c:Nat)(f:FuncId)[HF prog f](qs:List Value)(d:l_->Prop)[Mn d](q:α->Bool)(r:∀x∈l,Pu prog f (.agg (C x).toArray::qs) d (.bool (q x)))(hl:l.length<=1000000000000):Pu prog 338 [.slice a l.length c,.func (.func f) #[] qs.toArray] (fun h=>n9 h a (l.flatMap C)/\d h) (.int .i64 (D3 q l)):=by
 refine b_ 19 func338 rfl rfl rfl ?_;rintro F ⟨g,k⟩;refine O3 ?_;refine o7 (ι:=Nat) (fun j=>j<=l.length/\∀i (m:i<l.length),i<j->q l[i]=false) (fun j=>[(0,.slice a l.length c),(1,.func (.func f) #[] qs.toArray),(7,.int .i64 (l.length:Nat)),(8,.int .i64 (j:Nat))]) (fun _=>[]) (fun j=>l.length-j) 0 ⟨zw _,fun i _ h=>by omega⟩ sub i_ ?_;rintro j ⟨y,e⟩;refine R7 ?_ ?_<;>intro h
 ·have b:j<l.length:=by have:=qr h;omega
  have o:=q_ g n qp b;refine aq ?_;refine r_ (p8 rfl (fun w s=>S6 (g.le s.keep) n qp b x4) (n _)) ?_;refine z_ (ps:=[]) _ rfl rfl rfl (r _ (zy b)) i_ (fun h t _=>Mn.le t k) rfl ?_;rintro v A ⟨rfl,rfl⟩;refine O0 ?_ ?_<;>intro p
  ·refine L7 ?_;exact d_ rfl rfl [] ⟨by rw[N5 b p e],rfl⟩ i_
  ·refine A1 ?_;refine l6 (j+1) ⟨b,fun i m h=>?_⟩ qb sub i_;rcases kp.1 h with u|rfl
   ·exact e i m u
   ·exact p
 ·have b:j=l.length:=by have:=zq h;omega
  refine C5 ?_;exact d_ rfl rfl [] ⟨by rw[N4 fun i m=>e i m qb],rfl⟩ i_
theorem mM{α:Type}(C:α->List Value)(n:∀x,(C x).length=2)(l:List α)(a:Option Addr)(c:Nat)(f:FuncId)[HF prog f](qs:List Value)(d:l_->Prop)[Mn d](q:α->Bool)(r:∀x∈l,Pu prog f (.agg (C x).toArray::qs) d (.bool (q x)))(hl:l.length<=1000000000000):Pu prog 396 [.slice a l.length c,.func (.func f) #[] qs.toArray] (fun h=>n9 h a (l.flatMap C)/\d h) (.int .i64 (D3 q l)):=by
 refine b_ 19 func396 rfl rfl rfl ?_;rintro F ⟨g,k⟩;refine O3 ?_;refine o7 (ι:=Nat) (fun j=>j<=l.length/\∀i (m:i<l.length),i<j->q l[i]=false) (fun j=>[(0,.slice a l.length c),(1,.func (.func f) #[] qs.toArray),(7,.int .i64 (l.length:Nat)),(8,.int .i64 (j:Nat))]) (fun _=>[]) (fun j=>l.length-j) 0 ⟨zw _,fun i _ h=>by omega⟩ sub i_ ?_;rintro j ⟨y,e⟩;refine R7 ?_ ?_<;>intro h
 ·have b:j<l.length:=by have:=qr h;omega
  have o:=q_ g n qp b;refine aq ?_;refine r_ (p8 rfl (fun w s=>S6 (g.le s.keep) n qp b x4) (n _)) ?_;refine z_ (ps:=[]) _ rfl rfl rfl (r _ (zy b)) i_ (fun h t _=>Mn.le t k) rfl ?_;rintro v A ⟨rfl,rfl⟩;refine O0 ?_ ?_<;>intro p
  ·refine L7 ?_;exact d_ rfl rfl [] ⟨by rw[N5 b p e],rfl⟩ i_
  ·refine A1 ?_;refine l6 (j+1) ⟨b,fun i m h=>?_⟩ qb sub i_;rcases kp.1 h with u|rfl
   ·exact e i m u
   ·exact p
 ·have b:j=l.length:=by have:=zq h;omega
  refine C5 ?_;exact d_ rfl rfl [] ⟨by rw[N4 fun i m=>e i m qb],rfl⟩ i_
theorem V4{α:Type}(C:α->List Value)(i:∀x,(C x).length=5)(l:List α)(a:Option Addr)(c:Nat)(f:FuncId)[HF prog f](qs:List Value)(b:l_->Prop)[Mn b](q:α->Bool)(j:∀x∈l,Pu prog f (.agg (C x).toArray::qs) b (.bool (q x)))(hl:l.length<=1000000000000):Pu prog 156 [.slice a l.length c,.func (.func f) #[] qs.toArray] (fun h=>n9 h a (l.flatMap C)/\b h) (.bool (l.any q)):=by
 refine b_ 9 func156 rfl rfl rfl ?_;rintro F ⟨e,d⟩;refine E7 ?_;refine c_ rfl (lq C i l a c f qs b q j hl) (fun h g _=>⟨e.le g,Mn.le g d⟩) rfl ?_;refine f_ ((I5 rfl rfl).eq (qn (fM q l))) ?_;refine C5 ?_;exact d_ rfl rfl [] qh i_
theorem cj{α:Type}(C:α->List Value)(i:∀x,(C x).length=6)(l:List α)(a:Option Addr)(c:Nat)(f:FuncId)[HF prog f](qs:List Value)(b:l_->Prop)[Mn b](q:α->Bool)(j:∀x∈l,Pu prog f (.agg (C x).toArray::qs) b (.bool (q x)))(hl:l.length<=1000000000000):Pu prog 229 [.slice a l.length c,.func (.func f) #[] qs.toArray] (fun h=>n9 h a (l.flatMap C)/\b h) (.bool (l.any q)):=by
 refine b_ 9 func229 rfl rfl rfl ?_;rintro F ⟨e,d⟩;refine E7 ?_;refine c_ rfl (mL C i l a c f qs b q j hl) (fun h g _=>⟨e.le g,Mn.le g d⟩) rfl ?_;refine f_ ((I5 rfl rfl).eq (qn (fM q l))) ?_;refine C5 ?_;exact d_ rfl rfl [] qh i_
theorem bf{α:Type}(C:α->List Value)(i:∀x,(C x).length=2)(l:List α)(a:Option Addr)(c:Nat)(f:FuncId)[HF prog f](qs:List Value)(b:l_->Prop)[Mn b](q:α->Bool)(j:∀x∈l,Pu prog f (.agg (C x).toArray::qs) b (.bool (q x)))(hl:l.length<=1000000000000):Pu prog 268 [.slice a l.length c,.func (.func f) #[] qs.toArray] (fun h=>n9 h a (l.flatMap C)/\b h) (.bool (l.any q)):=by
 refine b_ 9 func268 rfl rfl rfl ?_;rintro F ⟨e,d⟩;refine E7 ?_;refine c_ rfl (jK C i l a c f qs b q j hl) (fun h g _=>⟨e.le g,Mn.le g d⟩) rfl ?_;refine f_ ((I5 rfl rfl).eq (qn (fM q l))) ?_;refine C5 ?_;exact d_ rfl rfl [] qh i_
theorem Y4(l:List Bs)(a:Option Addr)(c:Nat)(hl:l.length<=1000000):Ct prog 115 [.slice a l.length c] (fun h=>n9 h a (fV l)) [] (dB 9 1 l.length (fV l)):=by
 refine b_ 8 func115 rfl rfl rfl ?_;intro F d;refine eM ?_ ?_<;>intro h
 ·have ha:a=none:=by simpa using h
  have i:l=[]:=by
   cases l with
   |nil=>rfl
   |cons y t=>obtain⟨j,e,_⟩:=d (by simp[fV]);rw[ha] at e;cases e
  subst i;refine C5 ?_;exact d_ rfl rfl [A5 none [] 0] ⟨none,0,rfl,rfl⟩ (fun w b=>b.addNil _ _)
 ·refine w8 ?_;refine r7 ?_;intro a5;refine r7 ?_;refine C0 rfl rfl (fun k m=>.here) (fun w b=>n9.le d b.keep) (by rw[L8,Zu]) rfl rfl (lg _) (by show(0+l.length)*16<=_;omega) qb rfl ?_;intro f g _;refine C5 ?_;exact d_ rfl rfl [A5 f l g] ⟨f,g,by rw[ju],rfl⟩ (fun w b=>by rw[ju,j8] at b;exact b)
theorem db{a:List KM}{c:CM}(h:a.map KM.k=c.keys):a.length=c.keys.length:=by rw[<-h,zh]
theorem a1x{a:List KM}{j:Nat}(b:j<a.length)(m:KM)(c:m.k=a[j].k):(a.set j m).map KM.k=a.map KM.k:=by
 rw[Ku,c,<-J6 KM.k (h:=by simpa using b)];exact Zr _
abbrev yi(a:Option Addr)(n c:Nat)(l:List KM):As:=.own (.slice a n c) 127 6 (qI l)
set_option maxHeartbeats 1000000 in
theorem mN(c:CM)(x:CL)(hc:qY c):Cm prog 130 [uM c x] (dW c x) [] (fun h v A=>A=[]/\∃x',v=uM c x'/\dW c x' h):=by
 refine y5 40 func130 rfl rfl rfl ?_;intro F R k;obtain⟨kl,y,h0,r⟩:=k.keys;have h1:=db y;have h9:=hc.keys;have k0:=hc.set;have k8:=hc.a5Q;have k9:=hc.a5Y;refine r7 ?_;intro T;refine r7 ?_;intro g2;refine w8 ?_;refine D2 [1,4,7,10] [2,5,8,11,13,15,17,19] [.blk T (.cells (iA c x).toArray 36)] 20 ?_;refine wd [0,1,3,4,6,7,9,10] ?_;refine h_ 2 rfl i6 ?_;refine e_ (gX (T8 c.set) x.sa c.set.length x.sc (bL _) (eP _) qb) (fun h l _=>k.set.le l) ?_;rintro v A ⟨z,U,rfl,rfl⟩;refine fg [12] ?_;refine h_ 5 rfl i6 ?_;refine e_ (jJ (oJ c.a5Q) x.ia c.a5Q.length x.ic (tG _) (nj _) qb) (fun h l _=>k.a5Q.le l) ?_;rintro v A ⟨D,V,rfl,rfl⟩;refine Y9 ?_;refine h_ 8 rfl i6 ?_;refine e_ (Y4 c.a5Y x.fa x.fc qb) (fun h l _=>k.a5Y.le l) ?_;rintro v A ⟨J,X,rfl,rfl⟩;refine Y9 ?_;refine h_ 11 rfl i6 ?_;refine e_ (vJ (qI kl) x.ka c.keys.length x.kc (by rw[tH,h1]) (Lb _) qb) (fun h l _=>h0.le l) ?_;rintro v A ⟨q,s,rfl,rfl⟩;refine E6 [13,14,15,16,17,18,19] ?_;refine B9 (Z:=[V2 z c.set U,bM D c.a5Q V,A5 J c.a5Y X]) tk fun M O ⟨bs,o⟩=>?_;have h2:n9 M.heap z (T8 c.set):=A3.rd o ud;have h3:n9 M.heap D (oJ c.a5Q):=A3.rd o ud;have h4:n9 M.heap J (fV c.a5Y):=A3.rd o ud;clear o;refine O3 ?_;refine bG (ι:=Nat×l8×List KM) (fun i=>i.1<=c.keys.length/\M.le i.2.1/\i.2.2.map KM.k=c.keys/\∀m∈i.2.2,n9 i.2.1.heap m.a (T8 m.k.set)) (fun i=>[(1,l9 T),(2,l9 g2),(22,.int .i64 (c.keys.length:Nat)),(23,.int .i64 (i.1:Nat))]) (fun i=>i.2.1)
  (fun i=>.blk T (.cells (iA c ⟨z,U,D,V,q,s,J,X⟩).toArray 36)::yi q c.keys.length s i.2.2::.blk g2 (.cells (iA iw H3).toArray 36)::R) (fun i=>c.keys.length-i.1) (0,M,kl) ⟨zw _,l8.le_refl _,y,fun m Q=>(r m Q).le O.heap⟩ sub rfl ?_ ?_
 ·intro w u;exact(tk (C:=[_,_,_])).hp u
 rintro⟨j,F2,k2⟩ ⟨hj,d,e,p⟩;simp only at hj d e p;have h7:k2.length=c.keys.length:=db e;refine R7 ?_ ?_<;>intro h
 ·have f:j<k2.length:=by have:=qr h;omega
  have h8:k2[j].k.set.length<=64:=(hc.ksets _ (by rw[<-e];exact jv.2 ⟨_,zy f,rfl⟩)).1;refine B5 (a:=q) (n:=c.keys.length) (c:=s) (sz:=6) (xs:=qI k2) (te:=127) ud fun _ _ g=>?_;have g:=g qb;refine A1 ?_;refine D2 [1,4,8] [9,12] [yi q c.keys.length s k2,.blk T (.cells (iA c ⟨z,U,D,V,q,s,J,X⟩).toArray 36)] 13 ?_;refine wd [0,1,2,3,4,5,6,7] ?_;refine o0 8 rfl O4 (i8 rfl (fun w u=>cD (j:=5) (u.ownN (t:=127) ud).2.2.1 R1 f rfl x4)) G2 rfl rfl rfl i6 ?_;refine h_ 9 rfl i6 ?_;refine e_ (gX (T8 k2[j].k.set) k2[j].a k2[j].k.set.length k2[j].c (bL _) (eP _) qb) (fun h l _=>(p _ (zy f)).le l) ?_;rintro v A ⟨S,Y,rfl,rfl⟩;refine fg [10,11] ?_;refine h_ 12 rfl i6 ?_;refine A_ (C:=aJ) ⟨k2[j].k,S,Y⟩ R1 f (j:=5) rfl ?_;refine E6 [] ?_;refine B9 (Z:=[V2 S k2[j].k.set Y]) tk fun F3 b ⟨bs,o⟩=>?_;have h6:n9 F3.heap S (T8 k2[j].k.set):=A3.rd o ud;clear o;refine A1 ?_;refine P0 (j+1,F3,k2.set j ⟨k2[j].k,S,Y⟩) ⟨by simp only;omega,d.trans b,(a1x f ⟨k2[j].k,S,Y⟩ rfl).trans e,fun m Q=>?_⟩ qg sub rfl (fun w u=>(tk (C:=[_,_,_])).hp u);rcases jp Q with h5|rfl
  ·exact(p m h5).le b.heap
  ·exact h6
 ·refine w8 ?_;refine B9 (Z:=[yi q c.keys.length s k2]) tk fun F3 b ⟨bs,o⟩=>?_;have r:n9 F3.heap q (qI k2):=A3.rd o ud;refine L7 ?_;refine H4 (A:=[]) (v:=uM c ⟨z,U,D,V,q,s,J,X⟩) ((O.trans d).trans b) ⟨rfl,_,rfl,h2.le (d.trans b).heap,h3.le (d.trans b).heap,⟨k2,e,r,fun m Q=>(p m Q).le b.heap⟩,h4.le (d.trans b).heap⟩ ?_;exact G7 rfl rfl ud rfl _ qh (fun w u=>NQ.hp sfx u)
theorem J_{h:l_}{Z a:List As}{g:Nat}{cs:Array Value}{te:TypeId}(hz:∃bs,A3 h Z bs)(u:M2 Z (.blk g (.cells cs te (0,0))) [] a:=by exact ud):h g=some (.cells cs te (0,0)):=by
 obtain⟨bs,b⟩:=hz;obtain⟨d,c⟩:=A3.get b u;exact c.2
instance {g:Nat} {o:Obj}:Mn (fun h=>h g=some o):=⟨fun l k=>l _ _ k⟩
abbrev aM(g:Nat)(v:Value)(t:TypeId)(h:l_):Prop:=h g=some (.cells #[v] t (0,0))
theorem dN(m n:Nat):Value.bool (decide (((m:Nat):Int)=((n:Nat):Int)))=.bool (decide (m=n)):=qn (zp.2 Jv)
theorem Pg(g:Nat)(a:Bs)(b:BM):Pu prog 189 [JV b,l9 g] (aM g (B a) 9) (.bool (decide (b.name=a))):=by
 refine b_ 8 func189 rfl rfl rfl ?_;intro F c;refine r7 ?_;intro e;refine NO ?_;exact d_ rfl rfl [] qh (fun w d=>d.dropAll)
theorem Gc(g:Nat)(n:Nat)(x:SX):Pu prog 127 [.agg (nq x).toArray,l9 g] (aM g (.int .u64 (n:Nat)) 27) (.bool (decide (x.ses=n))):=by
 refine b_ 8 func127 rfl rfl rfl ?_;intro F a;refine r7 ?_;intro c;refine O3 ?_;refine f_ ((p7 rfl rfl).eq (dN x.ses n)) ?_;refine C5 ?_;exact d_ rfl rfl [] qh (fun w b=>b.dropAll)
theorem Gd(g:Nat)(n:Int)(x:HO):Pu prog 183 [.agg (gw x).toArray,l9 g] (aM g (.int .i64 n) 3) (.bool (decide (x.node=n))):=by
 refine b_ 8 func183 rfl rfl rfl ?_;intro F a;refine r7 ?_;intro c;refine NO ?_;exact d_ rfl rfl [] qh (fun w b=>b.dropAll)
theorem yj(g k:Nat)(n:Int)(t:Nat)(x:SX):Pu prog 184 [.agg (nq x).toArray,l9 g,l9 k] (fun h=>aM g (.int .i64 n) 3 h/\aM k (.int .u64 (t:Nat)) 27 h) (.bool (decide (x.node=n/\x.tr=t))):=by
 obtain⟨a,b⟩:=o8 (decide (x.node=n));obtain⟨e,c⟩:=o8 (decide (x.tr=t));rw[show decide (x.node=n/\x.tr=t)=(a&&e) from by rw[b,c,Bool.decide_and]];refine b_ 15 func184 rfl rfl rfl ?_;rintro F ⟨f,d⟩
 cases a
 all_goals (
  refine r7 ?_;intro j;refine O3 ?_;refine f_ ((p7 rfl rfl).eb b) ?_;refine O3 ?_;(first|refine u_ ?_|(refine v_ ?_;refine f_ ((p7 rfl rfl).eq ((dN x.tr t).trans (qn c.symm))) ?_));refine A1 ?_)
 all_goals (refine A4 ?_;exact d_ rfl rfl [] qh (fun w i=>i.dropAll))
theorem oL(m:MM)(a:Bs)(l:m.a5J.length<=1000):Pu prog 109 [uN m,B a] (fun h=>n9 h m.ba (fh m.a5J)) (.int .i64 (D3 (fun b=>decide (b.name=a)) m.a5J)):=by
 refine b_ 9 func109 rfl rfl rfl ?_;intro F e;refine C7 ?_;refine m8 rfl rfl ?_;intro n;refine L5 rfl rfl rfl ?_;intro c;refine r7 ?_;refine B9 (Z:=[.blk c (.cells #[B a] 9)]) tk fun g d i=>?_;have j:aM c (B a) 9 g.heap:=J_ i;refine E7 ?_;refine c_ rfl (mK cY o_ m.a5J m.ba m.bc 189 [l9 c] (aM c (B a) 9) (fun b=>decide (b.name=a)) (fun b _=>Pg c a b) qb) (fun h f _=>⟨(e.le d.heap).le f,f _ _ j⟩) rfl ?_;refine C5 ?_;exact D5 d (d_ rfl rfl [] qh (fun w k=>k.dropAll))
theorem Lg(m:MM)(n:Nat)(j:m.a5L.length<=1000):Pu prog 67 [uN m,.int .u64 (n:Nat)] (fun h=>n9 h m.sa (JW m.a5L)) (.int .i64 (D3 (fun x=>decide (x.ses=n)) m.a5L)):=by
 refine b_ 9 func67 rfl rfl rfl ?_;intro F c;refine C7 ?_;refine m8 rfl rfl ?_;intro k;refine L5 rfl rfl rfl ?_;intro a;refine r7 ?_;refine B9 (Z:=[.blk a (.cells #[.int .u64 (n:Nat)] 27)]) tk fun e b f=>?_;have g:aM a (.int .u64 (n:Nat)) 27 e.heap:=J_ f;refine E7 ?_;refine c_ rfl (aE nq X3 m.a5L m.sa m.sc 127 [l9 a] (aM a (.int .u64 (n:Nat)) 27) (fun x=>decide (x.ses=n)) (fun x _=>Gc a n x) qb) (fun h d _=>⟨(c.le b.heap).le d,d _ _ g⟩) rfl ?_;refine C5 ?_;exact D5 b (d_ rfl rfl [] qh (fun w i=>i.dropAll))
theorem Lh(m:MM)(n:Int)(j:m.a5K.length<=1000):Pu prog 101 [uN m,.int .i64 n] (fun h=>n9 h m.ha (JX m.a5K)) (.int .i64 (D3 (fun x=>decide (x.node=n)) m.a5K)):=by
 refine b_ 9 func101 rfl rfl rfl ?_;intro F c;refine C7 ?_;refine m8 rfl rfl ?_;intro k;refine L5 rfl rfl rfl ?_;intro a;refine r7 ?_;refine B9 (Z:=[.blk a (.cells #[.int .i64 n] 3)]) tk fun e b f=>?_;have g:aM a (.int .i64 n) 3 e.heap:=J_ f;refine E7 ?_;refine c_ rfl (ln gw O6 m.a5K m.ha m.hc 183 [l9 a] (aM a (.int .i64 n) 3) (fun x=>decide (x.node=n)) (fun x _=>Gd a n x) qb) (fun h d _=>⟨(c.le b.heap).le d,d _ _ g⟩) rfl ?_;refine C5 ?_;exact D5 b (d_ rfl rfl [] qh (fun w i=>i.dropAll))
theorem CZ(m:MM)(n:Int)(t:Nat)(l:m.a5L.length<=1000):Pu prog 102 [uN m,.int .i64 n,.int .u64 (t:Nat)] (fun h=>n9 h m.sa (JW m.a5L)) (.int .i64 (D3 (fun x=>decide (x.node=n/\x.tr=t)) m.a5L)):=by
 refine b_ 11 func102 rfl rfl rfl ?_;intro F d;refine C7 ?_;refine m8 rfl rfl ?_;intro o;refine L5 rfl rfl rfl ?_;intro a;refine L5 rfl rfl rfl ?_;intro b;refine r7 ?_;refine B9 (Z:=[.blk a (.cells #[.int .i64 n] 3),.blk b (.cells #[.int .u64 (t:Nat)] 27)]) tk fun f c g=>?_;have i:aM a (.int .i64 n) 3 f.heap:=J_ g;have j:aM b (.int .u64 (t:Nat)) 27 f.heap:=J_ g;refine E7 ?_;refine c_ rfl (aE nq X3 m.a5L m.sa m.sc 184 [l9 a,l9 b] (fun h=>aM a (.int .i64 n) 3 h/\aM b (.int .u64 (t:Nat)) 27 h) (fun x=>decide (x.node=n/\x.tr=t)) (fun x _=>yj a b n t x) qb) (fun h e _=>⟨(d.le c.heap).le e,e _ _ i,e _ _ j⟩) rfl ?_;refine C5 ?_;exact D5 c (d_ rfl rfl [] qh (fun w k=>k.dropAll))
end Go.Proofs.YtmcepdopookilaaGreatDoor.Rp
namespace Go.Sl
open Go Go.RowKit Go.Proofs.Tryz
theorem sat_blks{h:l_}(g:Nat->Obj):∀(l:List Nat),(∀b∈l,h b=some (g b))->A3 h (l.map fun b=>.blk b (g b)) l
 |[],_=>rfl
 |b::t,hb=>⟨[b],t,rfl,⟨rfl,hb b x4⟩,sat_blks g t fun c hc=>hb c (by simp[hc])⟩
theorem jL{h:l_}(g:Nat->Obj):∀(l:List Nat) (bs:List Nat),A3 h (l.map fun b=>.blk b (g b)) bs->∀b∈l,h b=some (g b)
 |[],_,_,b,a=>by cases a
 |c::t,bs,⟨b1,b2,_,h1,h2⟩,b,a=>by
  rcases kw.1 a with rfl|a
  ·exact h1.2
  ·exact jL g t _ h2 b a
theorem Hp.thaw{F d:l8}{w:World}{H:List As}(hl:F.le d)(f:Hp d w H):∃Z,Hp F w (H++Z)/\∀h bs,l_.le F.heap h->A3 h Z bs->l_.le d.heap h:=by
 let l:=(List.range w.heap.size).filter fun b=>(d.heap b).isSome&&(F.heap b).isNone
 let g:Nat->Obj:=fun b=>(d.heap b).getD (.cells #[] 0)
 have hg:∀b∈l,d.heap b=some (g b)/\F.heap b=none:=fun b c=>by
  have j:=(Qx.1 c).2;simp only[ky,Option.isNone_iff_eq_none] at j;obtain⟨o,i⟩:=Zb.1 j.1;exact⟨by show _=some ((d.heap b).getD _);rw[i];rfl,j.2⟩
 obtain⟨bs,hs,r,hf⟩:=f.own;refine⟨l.map fun b=>.blk b (g b),⟨f.os.trans hl.os,f.tape.trans hl.tape,f.output.trans hl.output,l_.le_trans hl.heap f.keep,bs++l,A3.append hs (sat_blks g l fun b c=>f.keep _ _ (hg b c).1),?_,?_⟩,?_⟩
 ·refine j7.2 ⟨r,List.Pairwise.filter _ List.nodup_range,fun a ha b c e=>?_⟩;subst e;have:=hf a ha;rw[(hg a c).1] at this
  cases this
 ·intro b c;rcases zb.1 c with c|c
  ·cases e:F.heap b with
   |none=>rfl
   |some o=>have:=hl.heap b o e;rw[hf b c] at this;cases this
  ·exact(hg b c).2
 ·intro h s k m b o i;by_cases hm:b∈l
  ·have j:=jL g l s m b hm;have p:=(hg b hm).1;rw[i] at p;rw[j];exact p.symm
  ·have n:b<w.heap.size:=by
    have t:w.heap[b]? =some o:=f.keep b o i;exact(kr.1 t).1
   cases e:F.heap b with
   |some o'=>
    have q:=hl.heap b o' e;rw[i] at q;rw[k b o' e];exact q.symm
   |none=>exact absurd (Qx.2 ⟨List.mem_range.2 n,by simp[i,e]⟩) hm
section
variable{P:Program}{N:Nat}{K R:y7}{E:List (Nat×y7)}{L:G0}{F:l8}{H:List As}{ops:Array Oper}{rest:List Oper}{ty:TypeId}{pos:String}{af:Array Edge}{dst:Option Nat}{gd:Option (Nat×Bool)}{x:Operand}
theorem R8{d:Nat}{f:FuncId}{args:List Operand}{i:Array TypeId}{vs:List Value}{b:l_->Prop}{C Rr:List As}{Q:l_->Value->List As->Prop}[HF P f](hc:Cm P f vs b C Q)(c:b F.heap)(k:∀v A Z g,(∀h bs,l_.le F.heap h->A3 h Z bs->l_.le g h)->Q g v A->GL P N ops rest K E R ((d,v)::L) F (A++(Rr++Z)))(hx:rz L args=some vs:=by rfl)(hH:y4 C H Rr:=by exact tk)(l:Nat.blt d N=true:=by rfl):
  GL P N ops (⟨some d,.call ⟨.value (.func f),args.toArray,i⟩,ty,pos,af,none⟩::rest) K E R L F H:=by
 unfold GL at k⊢;intro a w hf m;refine wpList_plain rfl fun s n=>?_;unfold Oper.wp;rw[aU hx hf.agr w,Oper.upon_enter];refine(hc F Rr w (hH.hp m) c).mono ?_;rintro e t ⟨v,A,g,rfl,o,p,j⟩;obtain⟨Z,q,r⟩:=j.thaw o;exact n _ _ (k v A Z g.heap r p _ _ (hf.put l v) (by rw[<-zm];exact q))
theorem SB{Rr Z:List As}(b:l_)(hz:∀h bs,l_.le F.heap h->A3 h Z bs->l_.le b h)(hH:∀w,Hp F w H->Hp F w (Rr++Z))(k:∀a,F.le a->l_.le b a.heap->GL P N ops rest K E R L a Rr):GL P N ops rest K E R L F H:=
 I7 hH (rC fun a c ⟨bs,d⟩=>k a c (hz _ bs c.heap d))
theorem AG{c:Code}{Rr Z:List As}(b:l_)(hz:∀h bs,l_.le F.heap h->A3 h Z bs->l_.le b h)(hH:∀w,Hp F w H->Hp F w (Rr++Z))(k:∀a,F.le a->l_.le b a.heap->G P N c K E R L a Rr):G P N c K E R L F H:=
 D7 hH (bY fun a d ⟨bs,e⟩=>k a d (hz _ bs d.heap e))
end
end Go.Sl
namespace Go.Proofs.YtmcepdopookilaaGreatDoor.Rp
open Go Go.Sl Go.RowKit Go.Proofs.Tryz
theorem jM{α β:Type}{f:α->β}{l:List α}{j:Nat}(a:j<l.length)(m:α)(b:f m=f l[j]):(l.set j m).map f=l.map f:=by
 rw[Ku,b,<-J6 f (h:=by simpa using a)];exact Zr _
def Ph(b:BM)(h:l_)(v:Value)(A:List As):Prop:=∃b':BM,v=JV b'/\b'.x=b.x/\A=[N9 b'.a b'.ls b'.c]/\iC b'.ls h
theorem lZ(b:BM)(hl:b.ls.length<=1000)(hf:∀x∈b.ls,x.t.a5Y.length<=1000):Cm prog 125 [JV b] (fL b) [] (Ph b):=by
 refine y5 28 func125 rfl rfl rfl ?_;intro F R p;refine C7 ?_;refine m8 rfl rfl ?_;intro u;refine i7 rfl ?_;intro D;refine A1 ?_;refine e_ (fN (qK b.ls) b.a b.ls.length b.c (Ax _) (Ay _) qb) (fun h J _=>p.ls.le J) ?_;rintro v A ⟨a,c,rfl,rfl⟩;refine aq ?_;refine bG (ι:=Nat×l8×List LM) (fun i=>i.1<=b.ls.length/\F.le i.2.1/\i.2.2.map LM.t=b.ls.map LM.t/\iC i.2.2 i.2.1.heap) (fun i=>[(1,l9 u),(2,l9 D),(10,.int .i64 (b.ls.length:Nat)),(11,.int .i64 (i.1:Nat))]) (fun i=>i.2.1)
  (fun i=>.blk u (.cells #[B b.name,.int .u64 (b.val:Nat),.int .u64 (b.next:Nat),.int .u64 (b.high:Nat),.slice a b.ls.length c] 100)::.own (.slice a b.ls.length c) 156 5 (qK i.2.2)::.blk D (.cells (cY Ga).toArray 100)::R) (fun i=>b.ls.length-i.1) (0,F,b.ls) ⟨zw _,l8.le_refl _,rfl,p.fl⟩ sub rfl ?_ ?_
 ·intro w l;exact(tk (C:=[_,_,_])).hp l
 rintro⟨j,F2,k2⟩ ⟨S,o,d,k⟩;simp only at S o d k;have q:k2.length=b.ls.length:=by have:=jy List.length d;simpa using this
 refine R7 ?_ ?_<;>intro h
 ·have f:j<k2.length:=by have:=qr h;omega
  have T:k2[j].t.a5Y.length<=1000:=by
   have e:k2[j].t∈b.ls.map LM.t:=(by rw[<-d];exact jv.2 ⟨_,zy f,rfl⟩);obtain⟨y,U,V⟩:=jv.1 e;rw[<-V];exact hf y U
  refine B5 (a:=a) (n:=b.ls.length) (c:=c) (sz:=5) (xs:=qK k2) (te:=156) ud fun _ _ g=>?_;have g:=g qb;refine A1 ?_;refine D2 [1,4,8] [9,12] [.own (.slice a b.ls.length c) 156 5 (qK k2),.blk u (.cells #[B b.name,.int .u64 (b.val:Nat),.int .u64 (b.next:Nat),.int .u64 (b.high:Nat),.slice a b.ls.length c] 100)] 13 ?_;refine wd [0,1,2,3,4,5,6,7] ?_;refine o0 8 rfl O4 (i8 rfl (fun w l=>cD (j:=1) (l.ownN (t:=156) ud).2.2.1 B0 f rfl x4)) G2 rfl rfl rfl i6 ?_;refine h_ 9 rfl i6 ?_;refine e_ (Y4 k2[j].t.a5Y k2[j].a k2[j].c qb) (fun h J _=>(k _ (zy f)).le J) ?_;rintro v A ⟨r,z,rfl,rfl⟩;refine fg [10,11] ?_;refine h_ 12 rfl i6 ?_;refine A_ (C:=S_) ⟨k2[j].t,r,z⟩ B0 f (j:=1) rfl ?_;refine E6 [] ?_;refine B9 (Z:=[A5 r k2[j].t.a5Y z]) tk fun O s ⟨bs,Q⟩=>?_;have M:n9 O.heap r (fV k2[j].t.a5Y):=A3.rd Q ud;clear Q;refine A1 ?_;refine P0 (j+1,O,k2.set j ⟨k2[j].t,r,z⟩) ⟨by simp only;omega,o.trans s,(jM f ⟨k2[j].t,r,z⟩ rfl).trans d,fun m X=>?_⟩ qg sub rfl (fun w l=>(tk (C:=[_,_,_])).hp l);rcases jp X with Y|rfl
  ·exact(k m Y).le s.heap
  ·exact M
 ·refine L7 ?_;refine H4 (A:=[N9 a k2 c]) (v:=JV ⟨b.name,b.val,b.next,b.high,k2,a,c⟩) o ⟨_,rfl,by simp only[BM.x,d],rfl,k⟩ ?_;rw[<-q];exact G7 rfl rfl ud rfl _ qh (fun w l=>(tk (C:=[.blk u _,.blk D _,N9 a k2 c])).hp l|>.drop.drop)
def Pi(m:MM)(h:l_)(v:Value)(A:List As):Prop:=∃m':MM,v=uN m'/\m'.s=m.s/\A=uO m'/\∀b∈m'.a5J,iC b.ls h
structure SC(m:MM):Prop where
 a5L:m.a5L.length<=1000
 a5K:m.a5K.length<=1000
 a5J:m.a5J.length<=1000
 ls:∀b∈m.a5J,b.ls.length<=1000
 fl:∀b∈m.a5J,∀x∈b.ls,x.t.a5Y.length<=1000
theorem dX{α:Type}{l:List α}{j:Nat}(a:j<l.length)(b:α):(l.set j b).take (j+1)=l.take j++[b]:=by
 rw[kj (by simpa using a),List.take_set_of_le (zr _)];simp
theorem Ge{l:List BM}{j:Nat}(c:j<l.length)(b:BM)(Z:List As):(N9 b.a b.ls b.c::(V9 (l.take j)++Z)).Perm (V9 ((l.set j b).take (j+1))++Z):=by
 rw[dX c,Lf];show(N9 b.a b.ls b.c::(V9 (l.take j)++Z)).Perm ((V9 (l.take j)++[N9 b.a b.ls b.c])++Z);rw[zm];exact(Qd (l₁:=V9 (l.take j)) (a:=N9 b.a b.ls b.c) (l₂:=Z)).symm
theorem tL(m:MM)(M:SC m):Cm prog 66 [uN m] (iE m) [] (Pi m):=by
 refine y5 34 func66 rfl rfl rfl ?_;intro F R l;have h7:=M.a5L;have h8:=M.a5K;have h9:=M.a5J;refine C7 ?_;refine m8 rfl rfl ?_;intro O;refine i7 rfl ?_;intro V;refine A1 ?_;refine e_ (jI (JW m.a5L) m.sa m.a5L.length m.sc (AD _) (AE _) qb) (fun h Q _=>l.a5L.le Q) ?_;rintro v A ⟨p,q,rfl,rfl⟩;refine O3 ?_;refine e_ (tK (JX m.a5K) m.ha m.a5K.length m.hc (Ld _) (Le _) qb) (fun h Q _=>l.a5K.le Q) ?_;rintro v A ⟨ha,hc,rfl,rfl⟩;refine O3 ?_;refine e_ (vI (fh m.a5J) m.ba m.a5J.length m.bc (np _) (AA _) qb) (fun h Q _=>l.a5J.le Q) ?_;rintro v A ⟨g,k,rfl,rfl⟩;refine aq ?_;refine bG (ι:=Nat×l8×List BM) (fun i=>i.1<=m.a5J.length/\F.le i.2.1/\i.2.2.map BM.x=m.a5J.map BM.x/\(∀b∈i.2.2.take i.1,iC b.ls i.2.1.heap)/\∀b∈i.2.2.drop i.1,fL b i.2.1.heap) (fun i=>[(1,l9 O),(2,l9 V),(18,.int .i64 (m.a5J.length:Nat)),(19,.int .i64 (i.1:Nat))]) (fun i=>i.2.1)
  (fun i=>.blk O (.cells #[.slice g m.a5J.length k,.int .u64 (m.nval:Nat),.slice ha m.a5K.length hc,.slice p m.a5L.length q,.int .u64 (m.nses:Nat),.int .u64 (m.a5V:Nat)] 62)::.own (.slice g m.a5J.length k) 100 5 (fh i.2.2)::P5 ha m.a5K hc::T1 p m.a5L q::.blk V (.cells #[.slice none 0 0,.int .u64 0,.slice none 0 0,.slice none 0 0,.int .u64 0,.int .u64 0] 62)::(V9 (i.2.2.take i.1)++R)) (fun i=>m.a5J.length-i.1) (0,F,m.a5J) ⟨zw _,l8.le_refl _,rfl,fun b e=>by simp at e,fun b e=>l.box b (List.mem_of_mem_drop e)⟩ sub rfl ?_ ?_
 ·intro w s;exact(tk (C:=[_,_,_,_,_])).hp s
 rintro⟨j,F2,k2⟩ ⟨hj,u,S,o,D⟩;simp only at hj u S o D;have T:k2.length=m.a5J.length:=by have:=jy List.length S;simpa using this
 refine R7 ?_ ?_<;>intro h
 ·have d:j<k2.length:=by have:=qr h;omega
  have X:k2[j].x∈m.a5J.map BM.x:=by rw[<-S];exact jv.2 ⟨_,zy d,rfl⟩
  obtain⟨y,hy,e2⟩:=jv.1 X;have U:k2[j].ls.map LM.t=y.ls.map LM.t:=(jy BX.lts e2).symm;have Y:k2[j].ls.length<=1000:=by have:=jy List.length U;have h5:=M.ls y hy;simp at this;omega
  have h0:∀x∈k2[j].ls,x.t.a5Y.length<=1000:=fun x hx=>by
   have e3:x.t∈y.ls.map LM.t:=(by rw[<-U];exact jv.2 ⟨x,hx,rfl⟩);obtain⟨z,hz,e4⟩:=jv.1 e3;rw[<-e4];exact M.fl y hy z hz
  have h1:fL k2[j] F2.heap:=D _ (by rw[Qg d];exact j9);refine B5 (a:=g) (n:=m.a5J.length) (c:=k) (sz:=5) (xs:=fh k2) (te:=100) ud fun _ _ f=>?_;have f:=f qb;refine A1 ?_;refine D2 [1,4,7] [8,10] [.own (.slice g m.a5J.length k) 100 5 (fh k2),.blk O (.cells #[.slice g m.a5J.length k,.int .u64 (m.nval:Nat),.slice ha m.a5K.length hc,.slice p m.a5L.length q,.int .u64 (m.nses:Nat),.int .u64 (m.a5V:Nat)] 62)] 11 ?_;refine wd [0,1,2,3,4,5,6] ?_;refine o0 7 rfl O4 (p8 rfl (fun w s=>cQ (s.ownN (t:=100) ud).2.2.1 o_ qp d x4) (o_ _)) G2 rfl rfl rfl i6 ?_;refine h_ 8 rfl i6 ?_;refine R8 (lZ k2[j] Y h0) h1 ?_;rintro v A Z Fz hz ⟨r,rfl,h2,rfl,h3⟩;refine fg [9] ?_;refine h_ 10 rfl i6 ?_;refine A_ (C:=cY) r o_ d (j:=0) rfl ?_;refine E6 [] ?_;refine AG Fz hz (Rr:=N9 r.a r.ls r.c::.blk O (.cells #[.slice g m.a5J.length k,.int .u64 (m.nval:Nat),.slice ha m.a5K.length hc,.slice p m.a5L.length q,.int .u64 (m.nses:Nat),.int .u64 (m.a5V:Nat)] 62)::.own (.slice g m.a5J.length k) 100 5 (fh (k2.set j r))::P5 ha m.a5K hc::T1 p m.a5L q::.blk V (.cells #[.slice none 0 0,.int .u64 0,.slice none 0 0,.slice none 0 0,.int .u64 0,.int .u64 0] 62)::(V9 (k2.take j)++R)) (Z:=Z) i_ fun F3 J h4=>?_;refine A1 ?_;refine P0 (j+1,F3,k2.set j r) ⟨by simp only;omega,u.trans J,(jM d r h2).trans S,fun b e=>?_,fun b e=>?_⟩ qg sub rfl (fun w s=>?_)
  ·rw[dX d] at e;rcases zb.1 e with e|e
   ·exact Mn.le J.heap (o b e)
   ·obtain rfl:=zu.1 e;exact Mn.le h4 h3
  ·simp only at e;rw[Km qb] at e;exact Mn.le J.heap (D b (by rw[Qg d];exact jw _ e))
  ·exact s.perm (((kz (l₁:=[_]) (l₂:=[_,_,_,_,_])).append_right (V9 (k2.take j)++R)).trans ((Ge d r R).append_left [_,_,_,_,_]))
 ·refine L7 ?_;have k0:j=m.a5J.length:=by have:=zq h;omega
  have h6:k2.take j=k2:=jq qb;rw[h6] at o⊢;refine H4 (A:=uO ⟨k2,m.nval,m.a5K,m.a5L,m.nses,m.a5V,g,k,ha,hc,p,q⟩) (v:=uN ⟨k2,m.nval,m.a5K,m.a5L,m.nses,m.a5V,g,k,ha,hc,p,q⟩) u ⟨_,rfl,by simp only[MM.s,S],rfl,o⟩ ?_;rw[<-T];exact G7 rfl rfl ud rfl _ qh (fun w s=>(tk (C:=[.blk O _,.blk V _,T1 p m.a5L q,P5 ha m.a5K hc,T0 g k2 k])).hp s|>.drop.drop)
end Go.Proofs.YtmcepdopookilaaGreatDoor.Rp
namespace Go.Sl
open Go Go.RowKit Go.Proofs.Tryz
section
variable{P:Program}{N:Nat}{K R:y7}{E:List (Nat×y7)}{L:G0}{F:l8}{H:List As}{ops:Array Oper}{rest:List Oper}{ty:TypeId}{pos:String}{af:Array Edge}{t:TypeId}{x:Operand}
theorem rb{z:Array Value}{n:Nat}(h:∀q∈z.toList,q.oneCell'=true):∀q∈(Builtin.zeroCells z n).toList,q.oneCell'=true:=fun q a=>by
 unfold Builtin.zeroCells at a;rw[Array.mem_toList_iff,Array.mem_map] at a;obtain⟨i,d,rfl⟩:=a;have b:i<n*z.size:=by simpa using d
 have hp:0<z.size:=by
  rcases Qs z.size with c|c
  ·rw[c] at b;omega
  ·exact c
 have e:=Nat.mod_lt i hp;rw[getElem!_pos z _ e];exact h _ x4
theorem jN{a:Option Addr}{n c sz lo k:Nat}{xs:List Value}{te:TypeId}{z:Value}{H':List Value->List As}[hu:HU P t (.slice te)][hz:HZ P te z](hx:ev L x=some (.slice (Y8 a c lo sz) k (c-lo)))(hk:k=n-lo)(h6:lo<=n)(y:z.cells.size=sz)(A:(z.cells.toList.all fun q=>q.oneCell')=true)(u:∀s,M2 H (.own (.slice a n c) te sz xs) [.own (.slice a n c) te sz s] (H' s))(h:∀s,s.length=xs.length->s.take (lo*sz)=xs.take (lo*sz)->GL P N ops rest K E R L F (H' s)):GL P N ops (⟨none,.call ⟨.builtin .clear,#[x],#[t]⟩,ty,pos,af,none⟩::rest) K E R L F H:=
 KB rfl rfl fun w0 w hf U=>by
  subst hk;have d:∀C,(Builtin.clear_ #[t] ty #[.slice (Y8 a c lo sz) (n-lo) (c-lo)]).run P w=.ok (.tuple #[]) C->(execOp w0.eval ⟨none,.call ⟨.builtin .clear,#[x],#[t]⟩,ty,pos,af,none⟩).run P w=.ok (.value (.tuple #[])) C:=fun C hr=>by
   simp[execOp,resolve,invoke,builtin,hf.eval hx,hr]
  obtain⟨V,i,_,h7,kk⟩:=U.focus (u xs);by_cases h0:n-lo=0
  ·refine⟨_,w,H' xs,d w ?_,?_,h xs rfl rfl⟩
   ·rw[h0]
    cases Y8 a c lo sz<;>simp[Builtin.clear_,run_underlying hu.h]
   ·exact kk w V rfl rfl rfl (fun _ _ _=>rfl) ⟨V,[],by simp,i,rfl⟩ (by assumption) (fun _ hb=>.inl hb)
  ·rcases i with⟨j,rfl,rfl⟩|⟨g,rfl,⟨o,n',h8,pre,b,X,j,hg,v,hl,D,J,l⟩⟩
   ·injection j with e1 e2 e3;omega
   ·injection j with e1 e2 e3;subst e1 e2 e3;have M:Y8 (some ⟨g,o,none⟩) c lo sz=some ⟨g,o+lo*sz,none⟩:=by
     unfold Y8;rw[zk qb];simp[Addr.add_lit]
    have Y:lo*sz+(n-lo)*sz=n*sz:=(by rw[<-Q0];congr 1;omega);have m:(Builtin.zeroCells z.cells (n-lo)).toList.length=(n-lo)*sz:=(by simp[size_zeroCells,y]);have e:=G6 (P:=P) g (o+lo*sz) te X (Builtin.zeroCells z.cells (n-lo)).toList 0 (pre++xs++b).toArray w hg (by simpa using l) (by rw[m];simp[v];omega) (rb (fun q O=>Qv.1 A q O));simp only[Q3,<-v] at e;have hm:=fx pre xs b (Builtin.zeroCells z.cells (n-lo)).toList (lo*sz) (by rw[m];omega);rw[hm] at e;have f:(L6 xs (lo*sz) (Builtin.zeroCells z.cells (n-lo)).toList).length=xs.length:=by
     simp only[L6,zz,z1,z8,m];omega
    refine⟨_,_,H' (L6 xs (lo*sz) (Builtin.zeroCells z.cells (n-lo)).toList),d (w.setRow g (pre++L6 xs (lo*sz) (Builtin.zeroCells z.cells (n-lo)).toList++b).toArray) ?_,?_,h _ f ?_⟩
    ·rw[M]
     cases O:n-lo with
     |zero=>omega
     |succ q=>
      rw[O] at e;rw[v] at e;simp[Builtin.clear_,run_underlying hu.h,hz.h,e]
    ·obtain⟨b3,p,_,_,Q⟩:=U.focus (u (L6 xs (lo*sz) (Builtin.zeroCells z.cells (n-lo)).toList));rcases p with⟨r,_,_⟩|⟨g3,rfl,h3⟩
     ·cases r
     ·obtain⟨o3,n3,Z,h1,S,h9,r,k0,k8,k9,h2,h4,h5⟩:=h3;injection r with e1 e2 e3;injection e1 with e1;injection e1 with e1 e4;subst e1;refine Q _ [g] rfl rfl rfl (fun c hc T=>setRow_other w g c _ (by simpa using T)) ⟨[g],[],rfl,.inr ⟨g,rfl,⟨o,n,c,pre,b,X,rfl,setRow_heap w g _ _ te _ hg,v,by rw[f];exact hl,?_,J,?_⟩⟩,rfl⟩ x4 (fun c hc=>.inl hc)
      ·simp only[zz,f];simpa using D
      ·simp only[zz,f] at l⊢;exact l
    ·unfold L6;rw[zm,Z5 (by simp;omega),List.take_take,Nat.min_self]
theorem tM{d:Nat}{s x:Operand}{a b:Option Addr}{n c k m S sz:Nat}{xs news:List Value}{e:TypeId}{H':List As}[hu:HU P t (.slice e)][hs:HS P e sz](T:ev L s=some (.slice a k c))(U:ev L x=some (.slice b m S))(u0:M2 H (.own (.slice a n c) e sz xs) [.own (.slice a n c) e sz xs] H)(u:M2 H (.own (.slice a n c) e sz xs) [.own (.slice a n c) e sz (L6 xs (k*sz) news)] H')(hsrc:∀w,Hp F w H->Kl (hp w) b news)(hl:news.length=m*sz)(V:0<sz)(h1:∀q∈news,q.oneCell'=true)(hk:k+m<=n)(hd:Nat.blt d N=true)(h:GL P N ops rest K E R ((d,.slice a (k+m) c)::L) F H'):
  GL P N ops (⟨some d,.call ⟨.builtin .append,#[s,x],#[t,t]⟩,ty,pos,af,none⟩::rest) K E R L F H:=
 S3 rfl rfl hd fun w0 w hf hw=>by
  have l:∀X Y,(Builtin.append_ #[t,t] ty #[.slice a k c,.slice b m S]).run P w=.ok X Y->
    (execOp w0.eval ⟨some d,.call ⟨.builtin .append,#[s,x],#[t,t]⟩,ty,pos,af,none⟩).run P w=.ok (.value X) Y:=fun X Y M=>by
   simp[execOp,resolve,invoke,builtin,hf.eval T,hf.eval U,M]
  obtain⟨b2,p,Z,h8,kk⟩:=hw.focus u;by_cases hm0:m=0
  ·subst hm0;have O:news=[]:=jx (by simpa using hl);subst O;have y:k<=c:=by
    rcases p with⟨i,_,_⟩|⟨g,_,⟨o,n',h0,pre,f,fr,i,_,_,_,_,y,_⟩⟩
    ·injection i with e1 e2 e3;omega
    ·injection i with e1 e2 e3;omega
   refine⟨.slice a (k+0) c,w,H',l _ _ ?_,?_,h⟩
   ·have h2:(Builtin.firstCells sz 0 (.slice b 0 S)).run P w=.ok #[] w:=by cases b<;>simp[Builtin.firstCells,loadCells,loadCellsFrom]
    cases a<;>simp[Builtin.append_,run_underlying hu.h,hs.h,Builtin.lenOf,y,h2,storeCells]
   ·refine kk w b2 rfl rfl rfl (fun _ _ _=>rfl) ⟨b2,[],by simp,?_,rfl⟩ Z (fun _ hb=>.inl hb);have:L6 xs (k*sz) []=xs:=(by simp[L6]);rw[this];exact p
  ·have h3:news≠[]:=by
    rintro rfl;have:0<m*sz:=K6 qb V;simp at hl;omega
   obtain⟨ad,rfl,z⟩:=hsrc w hw h3;have r:∀j u,news[j]? =some u->w.cell? (ad.add j)=some u:=z;rcases p with⟨i,rfl,rfl⟩|⟨g,rfl,⟨o,n',h0,pre,f,fr,i,hg,ho,h4,h5,y,C⟩⟩
   ·injection i with e1 e2 e3;omega
   ·injection i with e1 e2 e3;subst e1 e2 e3;have D:k+m<=c:=(by omega);have Q:(⟨g,o,none⟩:Addr).add (k*sz)=⟨g,o+k*sz,none⟩:=Addr.add_lit _ _ _;have h6:k*sz+news.length<=xs.length:=by
     have:(k+m)*sz<=n*sz:=Qy _ hk;rw[Q0] at this;omega
    have v:=G6 (P:=P) g (o+k*sz) e fr news 0 (pre++xs++f).toArray w hg (by simpa using C) (by simp;omega) h1;have A:=run_firstCells_some (P:=P) w sz m ad m S news hl r;simp only[Q3,<-ho] at v;rw[fx pre xs f news (k*sz) h6] at v;have J:(L6 xs (k*sz) news).length=xs.length:=by
     simp only[L6,zz,z1,z8];omega
    refine⟨.slice (some ⟨g,o,none⟩) (k+m) c,w.setRow g (pre++L6 xs (k*sz) news++f).toArray,H',l _ _ ?_,?_,h⟩
    ·rw[ho] at v;simp[Builtin.append_,run_underlying hu.h,hs.h,Builtin.lenOf,D,A,Q];simp at v;simp[v]
    ·refine kk _ [g] rfl rfl rfl (fun q hq h7=>setRow_other w g q _ (by simpa using h7)) ⟨[g],[],rfl,.inr ⟨g,rfl,⟨o,n,c,pre,f,fr,rfl,setRow_heap w g _ _ e _ hg,ho,by rw[J];exact h4,?_,y,?_⟩⟩,rfl⟩ x4 (fun q hq=>.inl hq)
     ·simp only[zz,J];simpa using h5
     ·simp only[zz,J] at C⊢;exact C
theorem fP{dst:Option Nat}{gd:Option (Nat×Bool)}{a:Option Addr}{n c e sz:Nat}{lo:Option Operand}{d f:Operand}{q r:IntKind}{i j m:Int}[hu:HU P t (.slice e)][hs:HS P e sz](hx:ev L x=some (.slice a n c))(b:Cv L lo 0=some i)(g:ev L d=some (.int q j))(h:ev L f=some (.int r m))(k:0<=i/\i<=j/\j<=m/\m<=c):
  D_ P ⟨dst,.slice t x lo (some d) (some f),ty,pos,af,gd⟩ L (.slice (Y8 a m.toNat i.toNat sz) (j.toNat-i.toNat) (m.toNat-i.toNat)):=
 by
  unfold D_;intro ρ w hf;have s:=hf _ _ g;have v:=hf _ _ h;have l:(Instr.sliceBounds true n c (lo.map ρ) (some (ρ d)) (some (ρ f))).run P w=.ok (i.toNat,j.toNat,m.toNat) w:=by
   rw[s,v]
   cases lo with
   |none=>
    simp only[Cv,Qh] at b;subst b;have o:¬max m 0<j:=(by omega);simp[Instr.sliceBounds,Instr.sliceBound,asIntOf,k.2.2.2,show 0<=m from by omega,show 0<=j from by omega,o]
   |some o2=>
    have y:∃kk,ρ o2=.int kk i:=by
     simp only[Cv] at b
     cases e:ev L o2 with
     |none=>rw[e] at b;cases b
     |some u=>rw[e] at b;cases u<;>simp at b;subst b;exact⟨_,hf _ _ e⟩
    obtain⟨z,p⟩:=y;have A:i<=max j 0:=(by omega);have o:j<=max m 0:=(by omega);simp[Instr.sliceBounds,Instr.sliceBound,p,asIntOf,k.1,k.2.2.2,show 0<=m from by omega,show 0<=j from by omega,A,o]
  have C:(Instr.slice t (.slice a n c) (lo.map ρ) (some (ρ d)) (some (ρ f))).run P w=.ok (.slice (Y8 a m.toNat i.toNat sz) (j.toNat-i.toNat) (m.toNat-i.toNat)) w:=by
   simp only[Instr.slice,Sem.run_bind,run_underlying hu.h,Result.andThen_ok,l,hs.h,Sem.run_pure,Y8]
  have D:(Instr.sliceAt t (.slice a n c) (lo.map ρ) (some (ρ d)) (some (ρ f))).run P w=.ok (.slice (Y8 a m.toNat i.toNat sz) (j.toNat-i.toNat) (m.toNat-i.toNat)) w:=by
   simp only[Instr.sliceAt,Sem.run_bind,run_underlying hu.h,Result.andThen_ok,C]
  simp only[execOp,hf _ _ hx];rw[show(some d:Option Operand).map ρ=some (ρ d) from rfl,show(some f:Option Operand).map ρ=some (ρ f) from rfl,Sem.run_bind,D];rfl
theorem O7{α β γ:Type}{c:Code}(b:α->β->γ->Prop)(d:α->β->γ->G0)(HI:α->β->γ->List As)(μ:α->β->γ->Nat)(e:α)(f:β)(z0:γ)(g:b e f z0)(i:fv (d e f z0) L)(hH:∀w,Hp F w H->Hp F w (HI e f z0))(round:∀x y z,b x y z->G P N c (fun a w=>∃j:α×β×γ,b j.1 j.2.1 j.2.2/\μ j.1 j.2.1 j.2.2<μ x y z/\G5 N (d j.1 j.2.1 j.2.2) a/\Hp F w (HI j.1 j.2.1 j.2.2)) E R (d x y z) F (HI x y z)):G P N (.loop c) K E R L F H:=
 o7 (ι:=α×β×γ) (fun j=>b j.1 j.2.1 j.2.2) (fun j=>d j.1 j.2.1 j.2.2) (fun j=>HI j.1 j.2.1 j.2.2) (fun j=>μ j.1 j.2.1 j.2.2) (e,f,z0) g i hH fun j h=>round j.1 j.2.1 j.2.2 h
theorem vL{α β γ:Type}{c:Code}(b:α->β->γ->Prop)(f:α->β->γ->G0)(g:α->β->γ->l8)(HI:α->β->γ->List As)(μ:α->β->γ->Nat)(d:α)(e:β)(z0:γ)(i:b d e z0)(k:fv (f d e z0) L)(l:g d e z0=F)(hH:∀w,Hp F w H->Hp F w (HI d e z0))(round:∀x y z,b x y z->G P N c (fun a w=>∃j:α×β×γ,b j.1 j.2.1 j.2.2/\μ j.1 j.2.1 j.2.2<μ x y z/\G5 N (f j.1 j.2.1 j.2.2) a/\Hp (g j.1 j.2.1 j.2.2) w (HI j.1 j.2.1 j.2.2)) E R (f x y z) (g x y z) (HI x y z)):G P N (.loop c) K E R L F H:=
 bG (ι:=α×β×γ) (fun j=>b j.1 j.2.1 j.2.2) (fun j=>f j.1 j.2.1 j.2.2) (fun j=>g j.1 j.2.1 j.2.2) (fun j=>HI j.1 j.2.1 j.2.2) (fun j=>μ j.1 j.2.1 j.2.2) (d,e,z0) i k l hH fun j h=>round j.1 j.2.1 j.2.2 h
end
theorem n7{P:Program}{N:Nat}{K R:y7}{E:List (Nat×y7)}{L:G0}{F:l8}{H:List As}{c:Code}{ι:Type}(d:ι->Prop)(L':ι->G0)(H':ι->List As)(f:G P N c (fun a w=>∃i,d i/\G5 N (L' i) a/\Hp F w (H' i)) E R L F H)(g:∀i,d i->At N K (L' i) F (H' i)):G P N c K E R L F H:=by
 unfold G At at*;intro a w hf b;refine Code.wp_mono (fun e a w q=>?_) (f a w hf b)
 cases e with
 |normal=>obtain⟨i,hp,hf,b⟩:=q;exact g i hp a w hf b
 |_=>exact q
theorem g_{N:Nat}{L:G0}{F:l8}{H:List As}{ι:Type}{b:ι->Prop}{L':ι->G0}{H':ι->List As}(i:ι)(hp:b i)(hH:∀w,Hp F w H->Hp F w (H' i))(hs:fv (L' i) L:=by exact sub):At N (fun a w=>∃i,b i/\G5 N (L' i) a/\Hp F w (H' i)) L F H:=by
 unfold At;exact fun a w hf c=>⟨i,hp,hf.sub hs,hH w c⟩
end Go.Sl
namespace Go.Proofs.YtmcepdopookilaaGreatDoor.Rp
open Go Go.Sl Go.RowKit Go.Proofs.Tryz
abbrev rM(f:Bs):List Value:=[B f]
theorem X4:∀x,(rM x).length=1:=fun _=>rfl
theorem tN(l:List Bs):fV l=l.flatMap rM:=by induction l with
 |nil=>rfl
 |cons x t ih=>rw[Qm,<-ih];rfl
theorem dY(a:Option Addr)(c sz:Nat):Y8 a c 0 sz=a:=by
 unfold Y8;split
 ·rfl
 ·cases a with
  |none=>rfl
  |some ad=>obtain⟨b,o,w⟩:=ad;simp[Addr.add]
theorem K_{α:Type}(q:α->Bool){l:List α}{j:Nat}(a:j<l.length):(l.take (j+1)).filter q=(l.take j).filter q++if q l[j] then[l[j]] else[]:=by
 rw[kj a,Wc];congr 1;simp[List.filter];split<;>simp_all
theorem jO{α:Type}{q:α->Bool}{l:List α}{j:Nat}(h:D3 q l=(j:Nat)):j<l.length/\(∀(g:j<l.length),q l[j]=true)/\(l.take j).filter (fun x=>!q x)=l.take j:=by
 unfold D3 at h
 cases h1:l.findIdx? q with
 |none=>rw[h1] at h;simp only[Option.elim] at h;omega
 |some i=>
  rw[h1] at h;simp only[Option.elim] at h;have:i=j:=by omega
  subst this;obtain⟨c,d,a⟩:=kg.1 h1;refine⟨c,fun _=>d,Ww.2 fun x e=>?_⟩;obtain⟨k,f,rfl⟩:=Zk e;have b:k<i:=by simp at f;omega
  rw[K3];simpa using a k b
theorem gy{α:Type}{q:α->Bool}{l:List α}(h:D3 q l= -1):l.filter (fun x=>!q x)=l:=by
 unfold D3 at h
 cases h1:l.findIdx? q with
 |none=>
  rw[Q6] at h1;exact Ww.2 fun x a=>by simpa using h1 x a
 |some i=>rw[h1] at h;simp only[Option.elim] at h;omega
theorem mO(l:List Bs)(a:Option Addr)(c:Nat)(f:FuncId)[HF prog f](qs:List Value)(d:l_->Prop)[Mn d](q:Bs->Bool)(p:∀x∈l,Pu prog f (B x::qs) d (.bool (q x)))(hl:l.length<=1000000000000):Pu prog 340 [.slice a l.length c,.func (.func f) #[] qs.toArray] (fun h=>n9 h a (l.flatMap rM)/\d h) (.int .i64 (D3 q l)):=by
 refine b_ 19 func340 rfl rfl rfl ?_;rintro F ⟨g,k⟩;refine O3 ?_;refine o7 (ι:=Nat) (fun j=>j<=l.length/\∀i (m:i<l.length),i<j->q l[i]=false) (fun j=>[(0,.slice a l.length c),(1,.func (.func f) #[] qs.toArray),(7,.int .i64 (l.length:Nat)),(8,.int .i64 (j:Nat))]) (fun _=>[]) (fun j=>l.length-j) 0 ⟨zw _,fun i _ h=>by omega⟩ sub i_ ?_;rintro j ⟨u,e⟩;refine R7 ?_ ?_<;>intro h
 ·have b:j<l.length:=by have:=qr h;omega
  have n:=q_ g X4 qp b;refine aq ?_;refine r_ (i8 rfl (fun w r=>S6 (g.le r.keep) X4 qp b x4)) ?_;refine z_ (ps:=[]) _ rfl rfl rfl (p _ (zy b)) i_ (fun h s _=>Mn.le s k) rfl ?_;rintro v A ⟨rfl,rfl⟩;refine O0 ?_ ?_<;>intro o
  ·refine L7 ?_;exact d_ rfl rfl [] ⟨by rw[N5 b o e],rfl⟩ i_
  ·refine A1 ?_;refine l6 (j+1) ⟨b,fun i m h=>?_⟩ qb sub i_;rcases kp.1 h with t|rfl
   ·exact e i m t
   ·exact o
 ·have b:j=l.length:=by have:=zq h;omega
  refine C5 ?_;exact d_ rfl rfl [] ⟨by rw[N4 fun i m=>e i m qb],rfl⟩ i_
theorem oM(l:List SX)(a:Option Addr)(c:Nat)(f:FuncId)[HF prog f](qs:List Value)(o:l_->Prop)[Mn o](q:SX->Bool)(hm:∀x∈l,Pu prog f (.agg (nq x).toArray::qs) o (.bool (q x)))(hl:l.length<=1000000000):Ct prog 103 [.slice a l.length c,.func (.func f) #[] qs.toArray] o [.own (.slice a l.length c) 102 5 (l.flatMap nq)] (fun v A=>v=.slice a (l.filter fun x=>!q x).length c/\A=[.own (.slice a (l.filter fun x=>!q x).length c) 102 5 ((l.filter fun x=>!q x).flatMap nq)]):=by
 refine b_ 42 func103 rfl rfl rfl ?_;intro F s;refine B5 (a:=a) (n:=l.length) (c:=c) (sz:=5) (xs:=l.flatMap nq) (te:=102) ud fun _ h7 d=>?_;refine E7 ?_;refine c_ rfl (aE nq X3 l a c f qs o q hm qb) (fun h Z ⟨bs,hb⟩=>⟨A3.rd hb ud,Mn.le Z s⟩) rfl ?_;refine eM ?_ ?_<;>intro h
 ·have hi:D3 q l= -1:=qr h;refine L7 ?_;exact d_ rfl rfl _ ⟨by rw[gy hi],rfl⟩ (fun w p=>by rw[gy hi];exact p)
 have h8:=cZ q l;obtain⟨X,O⟩:∃X:Nat,D3 q l=(X:Nat):=⟨(D3 q l).toNat,by have:=zq h;omega⟩;obtain⟨D,h0,h5⟩:=jO O;rw[O];refine E7 ?_;refine O7 (fun i j m=>i<j/\j<=l.length/\m.length=l.length/\m.take i=(l.take j).filter (fun x=>!q x)/\m.drop j=l.drop j) (fun i j m=>[(0,.slice a l.length c),(1,.func (.func f) #[] qs.toArray),(5,.int .i64 (i:Nat)),(6,.int .i64 (j:Nat))]) (fun i j m=>[.own (.slice a l.length c) 102 5 (m.flatMap nq)]) (fun i j m=>l.length-j) X (X+1) l ⟨W3 _,D,rfl,?_,rfl⟩ sub i_ ?_
 ·rw[K_ _ D,h5];have:=h0 D;simp[this]
 rintro i j m ⟨h9,hj,Q,g,S⟩;refine xZ ?_ ?_<;>intro h
 ·have b:j<l.length:=by have:=qr h;omega
  have T:j<m.length:=by omega
  have U:i<m.length:=by omega
  have r:m[j]=l[j]:=by
   have Y:=jy (fun z=>z[0]?) S;simp only[Q2,Q3] at Y;rw[zj T,zj b] at Y;exact js Y
  have d:=d qb;refine E7 ?_;refine r_ (p8 rfl (fun w p=>cQ (p.ownN (t:=102) ud).2.2.1 X3 qp T x4) (X3 _)) ?_;refine i7 rfl ?_;intro g7;refine E7 ?_;refine z_ (ps:=[]) _ rfl rfl rfl (hm _ (r▸zy b)) i_ (fun h Z _=>Mn.le Z s) rfl ?_;rintro v A ⟨rfl,rfl⟩;refine r7 ?_;have k:∀(V:Nat) (J:List SX),V<=j->J.length=l.length->J.take V=(l.take (j+1)).filter (fun x=>!q x)->J.drop (j+1)=l.drop (j+1)->V<j+1/\j+1<=l.length/\J.length=l.length/\J.take V=(l.take (j+1)).filter (fun x=>!q x)/\J.drop (j+1)=l.drop (j+1):=fun V J Y M h3 h4=>⟨by omega,b,M,h3,h4⟩;have u:m.drop (j+1)=l.drop (j+1):=by
   have:=jy (List.drop 1) S;simpa[Kn,Wu] using this
  refine o9 rfl ?_ ?_<;>intro M
  ·have hq:q l[j]=false:=(by rw[r] at M;simpa using M);refine O3 ?_;refine A_ (C:=nq) m[j] X3 U (j:=0) rfl ?_;refine aq ?_;refine l6 (i:=(i,j,m)) (i+1,j+1,m.set i m[j]) (k (i+1) (m.set i m[j]) qb (by simpa using Q) ?_ ?_) qg sub (fun w p=>(tk (C:=[_])).hp p|>.left)
   ·rw[dX U,K_ _ b,g,r];simp[hq]
   ·rw[Km qb];exact u
  ·have hq:q l[j]=true:=(by rw[r] at M;simpa using M);refine E7 ?_;refine l6 (i:=(i,j,m)) (i,j+1,m) (k i m qb Q ?_ u) qg sub (fun w p=>(tk (C:=[_])).hp p|>.left);rw[K_ _ b,g];simp[hq]
 ·have b:j=l.length:=by have:=zq h;omega
  subst b;rw[Qj] at g;have y:i=(l.filter fun x=>!q x).length:=by have:=jy List.length g;rw[z1] at this;omega
  refine A1 ?_;refine f_ (B6 rfl rfl rfl qb) ?_;refine jN (a:=a) (n:=l.length) (c:=c) (sz:=5) (lo:=i) (xs:=m.flatMap nq) (te:=102) rfl qb qb rfl rfl (fun ys=>uh) ?_;intro ys k0 h6;refine A1 ?_;refine f_ ((B6 rfl rfl rfl qb).eq (v':=.slice a i c) (by simp[dY])) ?_;refine C5 ?_;have e:ys.take (i*5)=(l.filter fun x=>!q x).flatMap nq:=by rw[h6,aA X3,g]
  exact d_ rfl rfl _ ⟨by rw[y],rfl⟩ (fun w p=>by rw[<-y,<-e];exact p.cutOwn uh qb)
theorem tO(l:List LM)(a:Option Addr)(c:Nat)(f:FuncId)[HF prog f](qs:List Value)(o:l_->Prop)[Mn o](q:LM->Bool)(hm:∀x∈l,Pu prog f (.agg (S_ x).toArray::qs) o (.bool (q x)))(hl:l.length<=1000000000):Ct prog 122 [.slice a l.length c,.func (.func f) #[] qs.toArray] o [.own (.slice a l.length c) 156 5 (l.flatMap S_)] (fun v A=>v=.slice a (l.filter fun x=>!q x).length c/\A=[.own (.slice a (l.filter fun x=>!q x).length c) 156 5 ((l.filter fun x=>!q x).flatMap S_)]):=by
 refine b_ 42 func122 rfl rfl rfl ?_;intro F s;refine B5 (a:=a) (n:=l.length) (c:=c) (sz:=5) (xs:=l.flatMap S_) (te:=156) ud fun _ h7 d=>?_;refine E7 ?_;refine c_ rfl (X9 S_ B0 l a c f qs o q hm qb) (fun h Z ⟨bs,hb⟩=>⟨A3.rd hb ud,Mn.le Z s⟩) rfl ?_;refine eM ?_ ?_<;>intro h
 ·have hi:D3 q l= -1:=qr h;refine L7 ?_;exact d_ rfl rfl _ ⟨by rw[gy hi],rfl⟩ (fun w p=>by rw[gy hi];exact p)
 have h8:=cZ q l;obtain⟨X,O⟩:∃X:Nat,D3 q l=(X:Nat):=⟨(D3 q l).toNat,by have:=zq h;omega⟩;obtain⟨D,h0,h5⟩:=jO O;rw[O];refine E7 ?_;refine O7 (fun i j m=>i<j/\j<=l.length/\m.length=l.length/\m.take i=(l.take j).filter (fun x=>!q x)/\m.drop j=l.drop j) (fun i j m=>[(0,.slice a l.length c),(1,.func (.func f) #[] qs.toArray),(5,.int .i64 (i:Nat)),(6,.int .i64 (j:Nat))]) (fun i j m=>[.own (.slice a l.length c) 156 5 (m.flatMap S_)]) (fun i j m=>l.length-j) X (X+1) l ⟨W3 _,D,rfl,?_,rfl⟩ sub i_ ?_
 ·rw[K_ _ D,h5];have:=h0 D;simp[this]
 rintro i j m ⟨h9,hj,Q,g,S⟩;refine xZ ?_ ?_<;>intro h
 ·have b:j<l.length:=by have:=qr h;omega
  have T:j<m.length:=by omega
  have U:i<m.length:=by omega
  have r:m[j]=l[j]:=by
   have Y:=jy (fun z=>z[0]?) S;simp only[Q2,Q3] at Y;rw[zj T,zj b] at Y;exact js Y
  have d:=d qb;refine E7 ?_;refine r_ (p8 rfl (fun w p=>cQ (p.ownN (t:=156) ud).2.2.1 B0 qp T x4) (B0 _)) ?_;refine i7 rfl ?_;intro g7;refine E7 ?_;refine z_ (ps:=[]) _ rfl rfl rfl (hm _ (r▸zy b)) i_ (fun h Z _=>Mn.le Z s) rfl ?_;rintro v A ⟨rfl,rfl⟩;refine r7 ?_;have k:∀(V:Nat) (J:List LM),V<=j->J.length=l.length->J.take V=(l.take (j+1)).filter (fun x=>!q x)->J.drop (j+1)=l.drop (j+1)->V<j+1/\j+1<=l.length/\J.length=l.length/\J.take V=(l.take (j+1)).filter (fun x=>!q x)/\J.drop (j+1)=l.drop (j+1):=fun V J Y M h3 h4=>⟨by omega,b,M,h3,h4⟩;have u:m.drop (j+1)=l.drop (j+1):=by
   have:=jy (List.drop 1) S;simpa[Kn,Wu] using this
  refine o9 rfl ?_ ?_<;>intro M
  ·have hq:q l[j]=false:=(by rw[r] at M;simpa using M);refine O3 ?_;refine A_ (C:=S_) m[j] B0 U (j:=0) rfl ?_;refine aq ?_;refine l6 (i:=(i,j,m)) (i+1,j+1,m.set i m[j]) (k (i+1) (m.set i m[j]) qb (by simpa using Q) ?_ ?_) qg sub (fun w p=>(tk (C:=[_])).hp p|>.left)
   ·rw[dX U,K_ _ b,g,r];simp[hq]
   ·rw[Km qb];exact u
  ·have hq:q l[j]=true:=(by rw[r] at M;simpa using M);refine E7 ?_;refine l6 (i:=(i,j,m)) (i,j+1,m) (k i m qb Q ?_ u) qg sub (fun w p=>(tk (C:=[_])).hp p|>.left);rw[K_ _ b,g];simp[hq]
 ·have b:j=l.length:=by have:=zq h;omega
  subst b;rw[Qj] at g;have y:i=(l.filter fun x=>!q x).length:=by have:=jy List.length g;rw[z1] at this;omega
  refine A1 ?_;refine f_ (B6 rfl rfl rfl qb) ?_;refine jN (a:=a) (n:=l.length) (c:=c) (sz:=5) (lo:=i) (xs:=m.flatMap S_) (te:=156) rfl qb qb rfl rfl (fun ys=>uh) ?_;intro ys k0 h6;refine A1 ?_;refine f_ ((B6 rfl rfl rfl qb).eq (v':=.slice a i c) (by simp[dY])) ?_;refine C5 ?_;have e:ys.take (i*5)=(l.filter fun x=>!q x).flatMap S_:=by rw[h6,aA B0,g]
  exact d_ rfl rfl _ ⟨by rw[y],rfl⟩ (fun w p=>by rw[<-y,<-e];exact p.cutOwn uh qb)
theorem Da(l:List Bs)(a:Option Addr)(c:Nat)(f:FuncId)[HF prog f](qs:List Value)(o:l_->Prop)[Mn o](q:Bs->Bool)(hm:∀x∈l,Pu prog f (B x::qs) o (.bool (q x)))(hl:l.length<=1000000000):Ct prog 271 [.slice a l.length c,.func (.func f) #[] qs.toArray] o [.own (.slice a l.length c) 9 1 (l.flatMap rM)] (fun v A=>v=.slice a (l.filter fun x=>!q x).length c/\A=[.own (.slice a (l.filter fun x=>!q x).length c) 9 1 ((l.filter fun x=>!q x).flatMap rM)]):=by
 refine b_ 42 func271 rfl rfl rfl ?_;intro F s;refine B5 (a:=a) (n:=l.length) (c:=c) (sz:=1) (xs:=l.flatMap rM) (te:=9) ud fun _ h7 d=>?_;refine E7 ?_;refine c_ rfl (mO l a c f qs o q hm qb) (fun h Z ⟨bs,hb⟩=>⟨A3.rd hb ud,Mn.le Z s⟩) rfl ?_;refine eM ?_ ?_<;>intro h
 ·have hi:D3 q l= -1:=qr h;refine L7 ?_;exact d_ rfl rfl _ ⟨by rw[gy hi],rfl⟩ (fun w p=>by rw[gy hi];exact p)
 have h8:=cZ q l;obtain⟨X,O⟩:∃X:Nat,D3 q l=(X:Nat):=⟨(D3 q l).toNat,by have:=zq h;omega⟩;obtain⟨D,h0,h5⟩:=jO O;rw[O];refine E7 ?_;refine O7 (fun i j m=>i<j/\j<=l.length/\m.length=l.length/\m.take i=(l.take j).filter (fun x=>!q x)/\m.drop j=l.drop j) (fun i j m=>[(0,.slice a l.length c),(1,.func (.func f) #[] qs.toArray),(5,.int .i64 (i:Nat)),(6,.int .i64 (j:Nat))]) (fun i j m=>[.own (.slice a l.length c) 9 1 (m.flatMap rM)]) (fun i j m=>l.length-j) X (X+1) l ⟨W3 _,D,rfl,?_,rfl⟩ sub i_ ?_
 ·rw[K_ _ D,h5];have:=h0 D;simp[this]
 rintro i j m ⟨h9,hj,Q,g,S⟩;refine xZ ?_ ?_<;>intro h
 ·have b:j<l.length:=by have:=qr h;omega
  have T:j<m.length:=by omega
  have U:i<m.length:=by omega
  have r:m[j]=l[j]:=by
   have Y:=jy (fun z=>z[0]?) S;simp only[Q2,Q3] at Y;rw[zj T,zj b] at Y;exact js Y
  have d:=d qb;refine E7 ?_;refine r_ (i8 rfl (fun w p=>cD (j:=0) (p.ownN (t:=9) ud).2.2.1 X4 T rfl x4)) ?_;refine a_ ?_;refine A1 ?_;refine z_ (ps:=[]) _ rfl rfl rfl (hm _ (r▸zy b)) i_ (fun h Z _=>Mn.le Z s) rfl ?_;rintro v A ⟨rfl,rfl⟩;refine r7 ?_;have k:∀(V:Nat) (J:List Bs),V<=j->J.length=l.length->J.take V=(l.take (j+1)).filter (fun x=>!q x)->J.drop (j+1)=l.drop (j+1)->V<j+1/\j+1<=l.length/\J.length=l.length/\J.take V=(l.take (j+1)).filter (fun x=>!q x)/\J.drop (j+1)=l.drop (j+1):=fun V J Y M h3 h4=>⟨by omega,b,M,h3,h4⟩;have u:m.drop (j+1)=l.drop (j+1):=by
   have:=jy (List.drop 1) S;simpa[Kn,Wu] using this
  refine o9 rfl ?_ ?_<;>intro M
  ·have hq:q l[j]=false:=(by rw[r] at M;simpa using M);refine O3 ?_;refine A_ (C:=rM) m[j] X4 U (j:=0) rfl ?_;refine aq ?_;refine l6 (i:=(i,j,m)) (i+1,j+1,m.set i m[j]) (k (i+1) (m.set i m[j]) qb (by simpa using Q) ?_ ?_) qg sub (fun w p=>(tk (C:=[_])).hp p|>.left)
   ·rw[dX U,K_ _ b,g,r];simp[hq]
   ·rw[Km qb];exact u
  ·have hq:q l[j]=true:=(by rw[r] at M;simpa using M);refine E7 ?_;refine l6 (i:=(i,j,m)) (i,j+1,m) (k i m qb Q ?_ u) qg sub (fun w p=>(tk (C:=[_])).hp p|>.left);rw[K_ _ b,g];simp[hq]
 ·have b:j=l.length:=by have:=zq h;omega
  subst b;rw[Qj] at g;have y:i=(l.filter fun x=>!q x).length:=by have:=jy List.length g;rw[z1] at this;omega
  refine A1 ?_;refine f_ (B6 rfl rfl rfl qb) ?_;refine jN (a:=a) (n:=l.length) (c:=c) (sz:=1) (lo:=i) (xs:=m.flatMap rM) (te:=9) rfl qb qb rfl rfl (fun ys=>uh) ?_;intro ys k0 h6;refine A1 ?_;refine f_ ((B6 rfl rfl rfl qb).eq (v':=.slice a i c) (by simp[dY])) ?_;refine C5 ?_;have e:ys.take (i*1)=(l.filter fun x=>!q x).flatMap rM:=by rw[h6,aA X4,g]
  exact d_ rfl rfl _ ⟨by rw[y],rfl⟩ (fun w p=>by rw[<-y,<-e];exact p.cutOwn uh qb)
end Go.Proofs.YtmcepdopookilaaGreatDoor.Rp
namespace Go.Sl
open Go Go.RowKit Go.Proofs.Tryz
section
variable{P:Program}{N:Nat}{K R:y7}{E:List (Nat×y7)}{L:G0}{F:l8}{H:List As}{ops:Array Oper}{rest:List Oper}{ty:TypeId}{pos:String}{af:Array Edge}{t tn:TypeId}{s x:Operand}
theorem oN{d n sz:Nat}{r k:IntKind}{e:TypeId}{z:Value}{i:TypeInfo}[hu:HU P t (.slice e)][hn:HU P tn (.int r)][hz:HZ P e z][hi:HI P e i][hs:HS P e sz](m:ev L s=some (.slice none 0 0))(o:ev L x=some (.int k (n:Nat)))(u:0<n)(p:0<sz)(b:z.cells.size=sz)(l:n*i.bytes<=140737488355328)(h63:n<=9223372036854775807)(v:Nat.blt d N=true)(h:∀g c,n<=c->GL P N ops rest K E R ((d,.slice (some ⟨g,0,none⟩) n c)::L) F (.own (.slice (some ⟨g,0,none⟩) n c) e sz (Builtin.zeroCells z.cells n).toList::H)):
  GL P N ops (⟨some d,.call ⟨.builtin .append,#[s,x],#[t,tn]⟩,ty,pos,af,none⟩::rest) K E R L F H:=
 S3 rfl rfl v fun C w hf y=>by
  have f:i.size=sz:=by
   have a:=hs.h w;simp[sizeOf,typeInfo,hi.h] at a;exact a
  have q:i.zero=some z:=by
   have a:=hz.h w;simp only[zeroValue,Sem.run_bind,typeInfo] at a
   cases hq:i.zero with
   |none=>simp[hi.h,hq] at a
   |some z'=>simp[hi.h,hq] at a;rw[a]
  have A:=Go.Lib.run_append_nil_zeros (P:=P) w t tn ty e i z k r hu.h hn.h hi.h q n u (by rw[f];exact p) qb qb;have j:=grownCap_ge w n 0 e;refine⟨.slice (some ⟨w.heap.size,0,none⟩) n (grownCap w n 0 e),w.drew.alloc (.cells (Builtin.zeroCells z.cells n++Builtin.zeroCells z.cells (grownCap w n 0 e-n)) e),_,?_,?_,h w.heap.size (grownCap w n 0 e) j⟩
  ·simp[execOp,resolve,invoke,builtin,hf.eval m,hf.eval o,A]
  ·refine O9 (w:=w.drew) (post:=(Builtin.zeroCells z.cells (grownCap w n 0 e-n)).toList) (fr:=(0,0)) y.drew' ?_ ?_ j (.inl (zr _)) ?_
   ·simp[size_zeroCells,b]
   ·simp only[zz,Zh,size_zeroCells,b,<-Q0];congr 1;omega
   ·congr 2;apply Q7.1;simp
end
