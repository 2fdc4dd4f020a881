import Derived.Test.YtmcepdopookilaaGreatDoorutx8
import Derived.Lib.AppendZeros
set_option linter.unusedVariables false
set_option linter.unusedSimpArgs false
set_option linter.defProp false
namespace Go.Proofs.YtmcepdopookilaaGreatDoor.Rp
open Go Go.Sl Go.RowKit Go.Proofs.Tryz
abbrev ix(r:Nat×Nat):List Value:=[.int .u64 (r.1:Nat),.int .u64 (r.2:Nat)]
abbrev V5(l:List (Nat×Nat)):List Value:=l.flatMap ix
theorem D0:∀x,(ix x).length=2:=fun _=>rfl
theorem nf:∀x,∀q∈ix x,q.oneCell'=true:=fun x q a=>by simp at a;rcases a with rfl|rfl<;>rfl
theorem bO(l:List (Nat×Nat)):(V5 l).length=l.length*2:=M7 (C:=ix) D0 l
theorem eM(l:List (Nat×Nat)):∀q∈V5 l,q.oneCell'=true:=cR (C:=ix) nf l
theorem oG(a b:List (Nat×Nat)):V5 (a++b)=V5 a++V5 b:=Kk
abbrev V1(a:Option Addr)(l:List (Nat×Nat))(c:Nat):As:=.own (.slice a l.length c) 178 2 (V5 l)
abbrev l5(a:Option Addr)(l:List (Nat×Nat))(c:Nat):As:=.own (.slice a l.length c) 72 2 (V5 l)
abbrev U1(a:Option Addr)(l:List Nat)(c:Nat):As:=.own (.slice a l.length c) 27 1 (nV l)
abbrev cZ(i:IT):List Value:=[.int .i64 (i.kind:Nat),.bool i.peek,.bool i.part,.int .u64 (i.fr:Nat),.int .u64 (i.count:Nat)]
abbrev oH(l:List IT):List Value:=l.flatMap cZ
theorem an:∀x,(cZ x).length=5:=fun _=>rfl
theorem gq:∀x,∀q∈cZ x,q.oneCell'=true:=fun x q a=>by simp at a;rcases a with rfl|rfl|rfl|rfl|rfl<;>rfl
theorem tD(l:List IT):(oH l).length=l.length*5:=M7 (C:=cZ) an l
theorem ng(l:List IT):∀q∈oH l,q.oneCell'=true:=cR (C:=cZ) gq l
abbrev bP(a:Option Addr)(l:List IT)(c:Nat):As:=.own (.slice a l.length c) 129 5 (oH l)
structure KM where
 k:KY
 a:Option Addr
 c:Nat
abbrev bE(x:KM):List Value:=[.int .i64 (x.k.kind:Nat),.int .i64 (x.k.kids:Nat),B x.k.field,B x.k.text,.int .u64 (x.k.n:Nat),.slice x.a x.k.set.length x.c]
abbrev qG(l:List KM):List Value:=l.flatMap bE
theorem ao:∀x,(bE x).length=6:=fun _=>rfl
theorem Ar:∀x,∀q∈bE x,q.oneCell'=true:=fun x q a=>by simp at a;rcases a with rfl|rfl|rfl|rfl|rfl|rfl<;>rfl
theorem tE(l:List KM):(qG l).length=l.length*6:=M7 (C:=bE) ao l
theorem KW(l:List KM):∀q∈qG l,q.oneCell'=true:=cR (C:=bE) Ar l
abbrev a1u(a:Option Addr)(l:List KM)(c:Nat):As:=.own (.slice a l.length c) 127 6 (qG l)
structure CL where
 sa:Option Addr
 sc:Nat
 ia:Option Addr
 ic:Nat
 ka:Option Addr
 kc:Nat
 fa:Option Addr
 fc:Nat
abbrev G_:CL:=⟨none,0,none,0,none,0,none,0⟩
abbrev li(c:CM)(x:CL):List Value:=[B c.tag,.int .i64 (c.kind:Nat),.bool c.uid,.bool c.cond,B c.box,B c.user,B c.pass,B c.a5Q,.slice x.sa c.set.length x.sc,.slice x.ia c.a5M.length x.ic,.slice x.ka c.keys.length x.kc,.int .i64 (c.how:Nat),.bool c.a5S,.bool c.a5N,.int .u64 (c.a5O:Nat),.slice x.fa c.a5U.length x.fc,B c.data]
abbrev xE(c:CM)(x:CL):Value:=.agg (li c x).toArray
structure fh(c:CM)(x:CL)(h:l_):Prop where
 set:o0 h x.sa (V5 c.set)
 a5M:o0 h x.ia (oH c.a5M)
 keys:∃kl:List KM,kl.map KM.k=c.keys/\o0 h x.ka (qG kl)/\∀m∈kl,o0 h m.a (V5 m.k.set)
 a5U:o0 h x.fa (fV c.a5U)
instance {c:CM} {x:CL}:Mn (fh c x):=⟨fun l k=>⟨k.set.le l,k.a5M.le l,by obtain⟨kl,h1,h2,h3⟩:=k.keys;exact⟨kl,h1,h2.le l,fun m hm=>(h3 m hm).le l⟩,k.a5U.le l⟩⟩
theorem fh.zero(h:l_):fh ir G_ h:=⟨o0.nil _ _,o0.nil _ _,⟨[],rfl,o0.nil _ _,qy⟩,o0.nil _ _⟩
abbrev EQ(k:KY):Prop:=k.set.length<=64/\k.text.length<=2000000000/\k.field.length<=2000000000/\k.kids<=2000000000
structure tF(c:CM):Prop where
 set:c.set.length<=64
 a5M:c.a5M.length<=8
 keys:c.keys.length<=32
 ksets:∀k∈c.keys,EQ k
 a5U:c.a5U.length<=16
 data:c.data.length<=4096
 pat:c.a5Q.length<=2000000000
structure SL where
 ra:Option Addr
 rc:Nat
 ua:Option Addr
 uc:Nat
 cl:CL
abbrev qV:SL:=⟨none,0,none,0,G_⟩
abbrev FZ(v:VW)(a:Option Addr)(c:Nat):List Value:=[B v.box,.int .u64 (v.val:Nat),.slice a v.a5I.length c]
abbrev mH(s:SE)(x:SL):List Value:=[.int .i64 (s.a5K:Nat),.int .u64 (s.ses:Nat),.int .u64 (s.num:Nat),B s.a5J.box,.int .u64 (s.a5J.val:Nat),.slice x.ra s.a5J.a5I.length x.rc,.bool s.ro,.bool s.cond,.bool s.a5P,
 B s.cmd.tag,.int .i64 (s.cmd.kind:Nat),.bool s.cmd.uid,.bool s.cmd.cond,B s.cmd.box,B s.cmd.user,B s.cmd.pass,B s.cmd.a5Q,.slice x.cl.sa s.cmd.set.length x.cl.sc,.slice x.cl.ia s.cmd.a5M.length x.cl.ic,.slice x.cl.ka s.cmd.keys.length x.cl.kc,.int .i64 (s.cmd.how:Nat),.bool s.cmd.a5S,.bool s.cmd.a5N,.int .u64 (s.cmd.a5O:Nat),.slice x.cl.fa s.cmd.a5U.length x.cl.fc,B s.cmd.data,
 .slice x.ua s.a5L.length x.uc]
abbrev rH(s:SE)(x:SL):Value:=.agg (mH s x).toArray
structure U2(s:SE)(x:SL)(h:l_):Prop where
 a5L:o0 h x.ua (nV s.a5L)
 cmd:fh s.cmd x.cl h
instance {s:SE} {x:SL}:Mn (U2 s x):=⟨fun l k=>⟨k.a5L.le l,Mn.le l k.cmd⟩⟩
structure Sw(s:SE):Prop where
 a5I:s.a5J.a5I.length<=1000000
 a5L:s.a5L.length<=1000000
 cmd:tF s.cmd
structure QL where
 ua:Option Addr
 uc:Nat
 fa:Option Addr
 fc:Nat
abbrev db:QL:=⟨none,0,none,0⟩
abbrev eA(r:RQ)(x:QL):List Value:=[.int .i64 r.op,.int .u64 (r.ses:Nat),.int .u64 (r.num:Nat),.int .i64 r.node,.int .u64 (r.life:Nat),.int .u64 (r.tr:Nat),B r.box,B r.tz,.int .u64 (r.val:Nat),.slice x.ua r.a5L.length x.uc,.slice x.fa r.a5U.length x.fc,.int .i64 r.how,.bool r.hasS,.int .u64 (r.a5O:Nat),B r.hash,.int .u64 (r.size:Nat),.int .u64 (r.a5R:Nat)]
abbrev QX(r:RQ)(x:QL):Value:=.agg (eA r x).toArray
structure dC(r:RQ)(x:QL)(h:l_):Prop where
 a5L:o0 h x.ua (V5 r.a5L)
 a5U:o0 h x.fa (fV r.a5U)
instance {r:RQ} {x:QL}:Mn (dC r x):=⟨fun l k=>⟨k.a5L.le l,k.a5U.le l⟩⟩
abbrev RM:=RR×RL
abbrev qW(m:RM):List Value:=tp m.1 m.2
theorem N_:∀x,(qW x).length=10:=fun _=>rfl
theorem jF:∀x,∀q∈qW x,q.oneCell'=true:=fun x q a=>by simp at a;rcases a with rfl|rfl|rfl|rfl|rfl|rfl|rfl|rfl|rfl|rfl<;>rfl
abbrev NY(l:List RM):List Value:=l.flatMap qW
abbrev r8(a:Option Addr)(l:List RM)(c:Nat):As:=.own (.slice a l.length c) 51 10 (NY l)
structure DL where
 da:Option Addr
 dc:Nat
 ql:QL
 wa:Option Addr
 wc:Nat
 rl:List RM
abbrev M_:DL:=⟨none,0,db,none,0,[]⟩
abbrev tG(d:DD)(y:DL):List Value:=[.slice y.da y.rl.length y.dc,.bool d.ask,
 .int .i64 d.req.op,.int .u64 (d.req.ses:Nat),.int .u64 (d.req.num:Nat),.int .i64 d.req.node,.int .u64 (d.req.life:Nat),.int .u64 (d.req.tr:Nat),B d.req.box,B d.req.tz,.int .u64 (d.req.val:Nat),.slice y.ql.ua d.req.a5L.length y.ql.uc,.slice y.ql.fa d.req.a5U.length y.ql.fc,.int .i64 d.req.how,.bool d.req.hasS,.int .u64 (d.req.a5O:Nat),B d.req.hash,.int .u64 (d.req.size:Nat),.int .u64 (d.req.a5R:Nat),
 .bool d.store,B d.body,.slice y.wa d.want.length y.wc,.bool d.close]
abbrev KX(d:DD)(y:DL):Value:=.agg (tG d y).toArray
structure CV(d:DD)(y:DL)(h:l_):Prop where
 a5T:d.a5T=y.rl.map Prod.fst
 rep:∀m∈y.rl,fC m.1 m.2 h
 req:dC d.req y.ql h
 want:o0 h y.wa (fV d.want)
instance {r:RR} {x:RL}:Mn (fC r x):=⟨fun l k=>k.le l⟩
instance {d:DD} {y:DL}:Mn (CV d y):=⟨fun l k=>⟨k.a5T,fun m hm=>(k.rep m hm).le l,Mn.le l k.req,k.want.le l⟩⟩
theorem CV.zero(h:l_):CV F8 M_ h:=⟨rfl,qy,⟨o0.nil _ _,o0.nil _ _⟩,o0.nil _ _⟩
abbrev E7(b:Nat)(s:SE)(x:SL)(d:DD)(y:DL):As:=.blk b (.cells (mH s x++tG d y).toArray 141)
structure iy(s:SE)(x:SL)(d:DD)(y:DL)(h:l_):Prop where
 se:U2 s x h
 dd:CV d y h
instance {s:SE} {x:SL} {d:DD} {y:DL}:Mn (iy s x d y):=⟨fun l k=>⟨Mn.le l k.se,Mn.le l k.dd⟩⟩
structure LM where
 t:LT
 a:Option Addr
 c:Nat
abbrev S8(x:LM):List Value:=[.int .u64 (x.t.uid:Nat),.slice x.a x.t.a5U.length x.c,.int .u64 (x.t.mod:Nat),B x.t.hash,.int .u64 (x.t.size:Nat)]
abbrev qH(l:List LM):List Value:=l.flatMap S8
theorem A_:∀x,(S8 x).length=5:=fun _=>rfl
theorem nh:∀x,∀q∈S8 x,q.oneCell'=true:=fun x q a=>by simp at a;rcases a with rfl|rfl|rfl|rfl|rfl<;>rfl
theorem Au(l:List LM):(qH l).length=l.length*5:=M7 (C:=S8) A_ l
theorem Av(l:List LM):∀q∈qH l,q.oneCell'=true:=cR (C:=S8) nh l
abbrev O0(a:Option Addr)(l:List LM)(c:Nat):As:=.own (.slice a l.length c) 156 5 (qH l)
def iz(l:List LM)(h:l_):Prop:=∀m∈l,o0 h m.a (fV m.t.a5U)
instance {l:List LM}:Mn (iz l):=⟨fun le k m hm=>(k m hm).le le⟩
structure BM where
 name:Bs
 val:Nat
 next:Nat
 high:Nat
 ls:List LM
 a:Option Addr
 c:Nat
abbrev Ga:BM:=⟨[],0,0,0,[],none,0⟩
abbrev BM.x(b:BM):BX:=⟨b.name,b.val,b.next,b.high,b.ls.map LM.t⟩
abbrev de(b:BM):List Value:=[B b.name,.int .u64 (b.val:Nat),.int .u64 (b.next:Nat),.int .u64 (b.high:Nat),.slice b.a b.ls.length b.c]
abbrev JR(b:BM):Value:=.agg (de b).toArray
abbrev fb(l:List BM):List Value:=l.flatMap de
theorem p7:∀x,(de x).length=5:=fun _=>rfl
theorem Aw:∀x,∀q∈de x,q.oneCell'=true:=fun x q a=>by simp at a;rcases a with rfl|rfl|rfl|rfl|rfl<;>rfl
theorem ni(l:List BM):(fb l).length=l.length*5:=M7 (C:=de) p7 l
theorem Ax(l:List BM):∀q∈fb l,q.oneCell'=true:=cR (C:=de) Aw l
abbrev S9(a:Option Addr)(l:List BM)(c:Nat):As:=.own (.slice a l.length c) 100 5 (fb l)
structure fH(b:BM)(h:l_):Prop where
 ls:o0 h b.a (qH b.ls)
 fl:iz b.ls h
instance {b:BM}:Mn (fH b):=⟨fun l k=>⟨k.ls.le l,Mn.le l k.fl⟩⟩
theorem fH.zero(h:l_):fH Ga h:=⟨o0.nil _ _,fun _ h=>by cases h⟩
abbrev nj(s:SX):List Value:=[.int .u64 (s.ses:Nat),.int .u64 (s.last:Nat),.int .i64 s.node,.int .u64 (s.life:Nat),.int .u64 (s.tr:Nat)]
abbrev JS(l:List SX):List Value:=l.flatMap nj
theorem X4:∀x,(nj x).length=5:=fun _=>rfl
theorem Ay:∀x,∀q∈nj x,q.oneCell'=true:=fun x q a=>by simp at a;rcases a with rfl|rfl|rfl|rfl|rfl<;>rfl
theorem Az(l:List SX):(JS l).length=l.length*5:=M7 (C:=nj) X4 l
theorem AA(l:List SX):∀q∈JS l,q.oneCell'=true:=cR (C:=nj) Ay l
abbrev S_(a:Option Addr)(l:List SX)(c:Nat):As:=.own (.slice a l.length c) 102 5 (JS l)
abbrev gr(s:HO):List Value:=[.int .i64 s.node,.int .u64 (s.life:Nat),.int .u64 (s.tr:Nat)]
abbrev JT(l:List HO):List Value:=l.flatMap gr
theorem O5:∀x,(gr x).length=3:=fun _=>rfl
theorem AB:∀x,∀q∈gr x,q.oneCell'=true:=fun x q a=>by simp at a;rcases a with rfl|rfl|rfl<;>rfl
theorem KZ(l:List HO):(JT l).length=l.length*3:=M7 (C:=gr) O5 l
theorem La(l:List HO):∀q∈JT l,q.oneCell'=true:=cR (C:=gr) AB l
abbrev P5(a:Option Addr)(l:List HO)(c:Nat):As:=.own (.slice a l.length c) 104 3 (JT l)
structure MM where
 a5F:List BM
 nval:Nat
 a5G:List HO
 a5H:List SX
 nses:Nat
 a5R:Nat
 ba:Option Addr
 bc:Nat
 ha:Option Addr
 hc:Nat
 sa:Option Addr
 sc:Nat
abbrev MM.s(m:MM):ML:=⟨m.a5F.map BM.x,m.nval,m.a5G,m.a5H,m.nses,m.a5R⟩
abbrev iA(m:MM):List Value:=[.slice m.ba m.a5F.length m.bc,.int .u64 (m.nval:Nat),.slice m.ha m.a5G.length m.hc,.slice m.sa m.a5H.length m.sc,.int .u64 (m.nses:Nat),.int .u64 (m.a5R:Nat)]
abbrev uK(m:MM):Value:=.agg (iA m).toArray
structure iB(m:MM)(h:l_):Prop where
 a5F:o0 h m.ba (fb m.a5F)
 a5G:o0 h m.ha (JT m.a5G)
 a5H:o0 h m.sa (JS m.a5H)
 box:∀b∈m.a5F,fH b h
instance {m:MM}:Mn (iB m):=⟨fun l k=>⟨k.a5F.le l,k.a5G.le l,k.a5H.le l,fun b hb=>Mn.le l (k.box b hb)⟩⟩
structure OL where
 ua:Option Addr
 uc:Nat
 ma:Option Addr
 mc:Nat
abbrev M9:OL:=⟨none,0,none,0⟩
abbrev tH(o:OC)(y:OL):List Value:=[.int .i64 o.code,.int .u64 (o.ses:Nat),.int .u64 (o.val:Nat),.slice y.ua o.a5L.length y.uc,.slice y.ma o.mods.length y.mc]
abbrev TZ(o:OC)(y:OL):Value:=.agg (tH o y).toArray
structure L_(o:OC)(y:OL)(h:l_):Prop where
 a5L:o0 h y.ua (nV o.a5L)
 mods:o0 h y.ma (nV o.mods)
instance {o:OC} {y:OL}:Mn (L_ o y):=⟨fun l k=>⟨k.a5L.le l,k.mods.le l⟩⟩
theorem L_.zero(h:l_):L_ B9 M9 h:=⟨o0.nil _ _,o0.nil _ _⟩
theorem L_.nil(h:l_)(o:OC)(y:OL)(hu:o.a5L=[])(a:o.mods=[]):L_ o y h:=⟨by rw[hu];exact o0.nil _ _,by rw[a];exact o0.nil _ _⟩
abbrev NZ(m:MM)(r:RQ)(q:QL)(o:OC)(y:OL):List Value:=iA m++eA r q++tH o y
abbrev R9(b:Nat)(m:MM)(r:RQ)(q:QL)(o:OC)(y:OL):As:=.blk b (.cells (NZ m r q o y).toArray 136)
def V9(l:List BM):List As:=l.map fun b=>O0 b.a b.ls b.c
theorem Lb(a b:List BM):V9 (a++b)=V9 a++V9 b:=by simp[V9]
abbrev uL(m:MM):List As:=S_ m.sa m.a5H m.sc::P5 m.ha m.a5G m.hc::S9 m.ba m.a5F m.bc::V9 m.a5F
structure CW(b:BX):Prop where
 name:b.name.length<=64
 val:b.val<=4294967296
 next:b.next<=4294967296
 high:b.high<=D9
 lts:b.lts.length<=32
 uid:∀x∈b.lts,x.uid<b.next
 a5U:∀x∈b.lts,x.a5U.length<=16/\∀f∈x.a5U,f.length<=32
 mod:∀x∈b.lts,x.mod<=D9
 size:∀x∈b.lts,x.size<=4096
 hash:∀x∈b.lts,x.hash.length=32
structure V_(s:ML):Prop where
 a5F:s.a5F.length<=8
 box:∀b∈s.a5F,CW b
 sorted:s.a5F.Pairwise fun x y=>gR x.name y.name=true
 a5G:s.a5G.Pairwise fun x y=>x.node<y.node
 home:∀h∈s.a5G,1<=h.node/\h.node<=5/\h.life<18446744073709551616/\h.tr<18446744073709551616
 a5H:s.a5H.length<=16
 seat:∀x∈s.a5H,1<=x.ses/\x.ses<s.nses/\x.last<18446744073709551616/\x.life<18446744073709551616/\x.tr<18446744073709551616
 nval:s.nval<=4294967296
 nses:s.nses<=CU
 a5R:s.a5R<=D9
abbrev O4(b:Nat)(s:SE)(x:SL)(d:DD)(y:DL):List As:=[E7 b s x d y,r8 y.da y.rl y.dc]
abbrev E9(y:DL)(m:RM)(a:Option Addr)(c:Nat):DL:={y with da:=a,dc:=c,rl:=y.rl++[m]}
theorem V2(b:Nat)(s:SE)(x:SL)(d:DD)(y:DL)(r:RR)(z:RL)(hl:y.rl.length<=100000000):Ct prog 69 [l9 b,KP r z] (fun _=>True) (O4 b s x d y) (fun v A=>v=.tuple #[]/\∃a c,A=O4 b s x d (E9 y (r,z) a c)):=by
 refine b_ 16 func69 rfl rfl rfl ?_;intro F _;refine p_ ?_;intro j;refine u7 ?_;refine Aj [5,6] [7,8,12] 13 ?_;refine wd [0,1,2,3,4,5,6] ?_;refine h_ 7 rfl i6 ?_;refine C4 qW (r,z) rfl ?_;intro h g;refine ah ?_;refine h_ 8 rfl i6 ?_;refine u6 qW (l:=y.rl) (m:=[(r,z)]) N_ jF (by show(y.rl.length+1)*160<=_;omega) ?_;intro e f _;refine E6 [9,10,11,12] ?_;exact m6 rfl _ ⟨rfl,e,f,rfl⟩ fun w i=>x8.left tk i
theorem lj(b:Nat)(s:SE)(x:SL)(d:DD)(y:DL)(tag text:Bs)(hl:y.rl.length<=100000000):Ct prog 72 [l9 b,B tag,B text] (fun _=>True) (O4 b s x d y) (fun v A=>v=.tuple #[]/\∃a c,A=O4 b s x d (E9 y (eL tag text,L0) a c)):=by
 refine b_ 11 func72 rfl rfl rfl ?_;intro F _;refine O2 ?_;refine c_ (V2 b s x d y (eL tag text) L0 hl) qw ?_;rintro v A ⟨rfl,a,c,rfl⟩;refine u7 ?_;exact m6 rfl _ ⟨rfl,a,c,rfl⟩ fun w e=>x8.left tk e
theorem Gb(b:Nat)(s:SE)(x:SL)(d:DD)(y:DL)(tag code text:Bs)(hl:y.rl.length<=100000000):Ct prog 80 [l9 b,B tag,B code,B text] (fun _=>True) (O4 b s x d y) (fun v A=>v=.tuple #[]/\∃a c,A=O4 b s x d (E9 y (kP tag code text,L0) a c)):=by
 refine b_ 14 func80 rfl rfl rfl ?_;intro F _;refine au ?_;refine c_ (V2 b s x d y (kP tag code text) L0 hl) qw ?_;rintro v A ⟨rfl,a,c,rfl⟩;refine u7 ?_;exact m6 rfl _ ⟨rfl,a,c,rfl⟩ fun w e=>x8.left tk e
theorem nk(b:Nat)(s:SE)(x:SL)(d:DD)(y:DL)(tag:Bs)(hl:y.rl.length<=100000000):Ct prog 167 [l9 b,B tag] (fun _=>True) (O4 b s x d y) (fun v A=>v=.tuple #[]/\∃a c,A=O4 b s x d (E9 y (bT tag,L0) a c)):=by
 refine b_ 8 func167 rfl rfl rfl ?_;intro F _;refine E5 ?_;refine c_ (V2 b s x d y (bT tag) L0 hl) qw ?_;rintro v A ⟨rfl,a,c,rfl⟩;refine u7 ?_;exact m6 rfl _ ⟨rfl,a,c,rfl⟩ fun w e=>x8.left tk e
theorem tI(b:Nat)(s:SE)(x:SL)(d:DD)(y:DL)(text:Bs)(hl:y.rl.length<=100000000):Ct prog 70 [l9 b,B text] (fun _=>True) (O4 b s x d y) (fun v A=>v=.tuple #[]/\∃a c,A=O4 b {s with a5K:=3} x {d with close:=true} (E9 y (G2 text,L0) a c)):=by
 refine b_ 16 func70 rfl rfl rfl ?_;intro F _;refine E5 ?_;refine c_ (V2 b s x d y (G2 text) L0 hl) qw ?_;rintro v A ⟨rfl,a,c,rfl⟩;refine wk 10 ?_;exact m6 rfl _ ⟨rfl,a,c,rfl⟩ fun w e=>x8.left tk e
theorem oI(b:Nat)(s:SE)(x:SL)(d:DD)(y:DL)(tag:Bs)(hl:y.rl.length<=10000000):Ct prog 79 [l9 b,B tag] (fun _=>True) (O4 b s x d y) (fun v A=>v=.tuple #[]/\∃a c,A=O4 b {s with a5K:=3} x {d with close:=true} {y with da:=a,dc:=c,rl:=y.rl++[(G2 [108,111,103,103,105,110,103,32,111,117,116],L0),(bT tag,L0)]}):=by
 refine b_ 9 func79 rfl rfl rfl ?_;intro F _;refine p_ ?_;refine c_ (tI b s x d y _ qb) qw ?_;rintro v A ⟨rfl,a,c,rfl⟩;refine y9 ?_;refine c_ (nk b {s with a5K:=3} x {d with close:=true} (E9 y (G2 [108,111,103,103,105,110,103,32,111,117,116],L0) a c) tag (by simp;omega)) qw ?_;rintro v A ⟨rfl,f,g,rfl⟩;refine u7 ?_;exact m6 rfl _ ⟨rfl,f,g,rfl⟩ fun w e=>by simp only[E9,zh,Q7,j7] at e;exact x8.left tk e
def dD(t:TypeId)(sz n:Nat)(xs:List Value)(v:Value)(A:List As):Prop:=∃a c,v=.slice a n c/\A=[.own (.slice a n c) t sz xs]
def D1{α:Type}(q:α->Bool)(l:List α):Int:=(l.findIdx? q).elim (-1) fun i=>(i:Nat)
theorem N4{α:Type}{q:α->Bool}{l:List α}(h:∀i (a:i<l.length),q l[i]=false):D1 q l= -1:=by
 unfold D1;rw[Q5.2 fun x b=>by obtain⟨i,a,rfl⟩:=Zq b;exact h i a];rfl
theorem N5{α:Type}{q:α->Bool}{l:List α}{j:Nat}(b:j<l.length)(hq:q l[j]=true)(h:∀i (a:i<l.length),i<j->q l[i]=false):D1 q l=(j:Nat):=by
 unfold D1;rw[kg.2 ⟨b,hq,fun i a=>by simp[h i qb a]⟩];rfl
theorem df{α:Type}(q:α->Bool)(l:List α): -1<=D1 q l/\D1 q l<l.length:=by
 unfold D1
 cases h:l.findIdx? q with
 |none=>simp only[Option.elim];omega
 |some i=>have:=(kg.1 h).1;simp only[Option.elim];omega
theorem fI{α:Type}(q:α->Bool)(l:List α):decide (D1 q l≥0)=l.any q:=by
 unfold D1
 cases h:l.findIdx? q with
 |none=>
  rw[Q5] at h;have:l.any q=false:=Wr.2 fun x a=>by simp[h x a]
  rw[this];simp
 |some i=>
  obtain⟨b,c,_⟩:=kg.1 h;have:l.any q=true:=Jk.2 ⟨_,zx b,c⟩;rw[this];simp
theorem S4{α:Type}{C:α->List Value}{n:Nat}{h:l_}{a:Option Addr}{l:List α}{q i:Nat}(r:o0 h a (l.flatMap C))(d:∀x,(C x).length=n)(b:0<n)(c:i<l.length)(hq:q=i*n):M0 h (N0 a q) (C l[i]):=by
 have:=tf r d b l[i] (q:=q) (i:=i) (by rw[hq,W7]) c
 rwa [show l.getD i l[i]=l[i] from by simp[List.getD,c]] at this
theorem y7{α:Type}{C:α->List Value}{n:Nat}{h:l_}{a:Option Addr}{l:List α}{i:Nat}(r:o0 h a (l.flatMap C))(c:∀x,(C x).length=n)(b:0<n)(d:i<l.length):∃e,a=some e:=ve r c b d
theorem jG(xs:List Value)(a:Option Addr)(n c:Nat)(hx:xs.length=n*5)(j:∀q∈xs,q.oneCell'=true)(hl:n<=1000000000000):Ct prog 104 [.slice a n c] (fun h=>o0 h a xs) [] (dD 102 5 n xs):=by
 refine b_ 8 func104 rfl rfl rfl ?_;intro F d;refine eI ?_ ?_<;>intro h
 ·have ha:a=none:=by simpa using h
  have k:n=0:=by
   rcases Qs n with f|f
   ·exact f
   ·obtain⟨l,e,_⟩:=d (by intro e;rw[e] at hx;simp at hx<;>omega);rw[ha] at e;cases e
  subst k;have:xs=[]:=Qm.1 (by rw[hx,Z7]);subst this;refine C8 ?_;exact d_ rfl rfl [.own (.slice none 0 0) 102 5 []] ⟨none,0,rfl,rfl⟩ (fun w b=>b.addNil _ _)
 ·refine u7 ?_;refine p_ ?_;intro a5;refine p_ ?_;refine C0 rfl rfl (fun m o=>.here) (fun w b=>o0.le d b.keep) hx rfl rfl j (by show(0+n)*40<=_;omega) qb rfl ?_;intro g i _;refine C8 ?_;exact d_ rfl rfl [.own (.slice g n i) 102 5 xs] ⟨g,i,by rw[jv],rfl⟩ (fun w b=>by rw[jv,j7] at b;exact b)
theorem tJ(xs:List Value)(a:Option Addr)(n c:Nat)(hx:xs.length=n*3)(j:∀q∈xs,q.oneCell'=true)(hl:n<=1000000000000):Ct prog 123 [.slice a n c] (fun h=>o0 h a xs) [] (dD 104 3 n xs):=by
 refine b_ 8 func123 rfl rfl rfl ?_;intro F d;refine eI ?_ ?_<;>intro h
 ·have ha:a=none:=by simpa using h
  have k:n=0:=by
   rcases Qs n with f|f
   ·exact f
   ·obtain⟨l,e,_⟩:=d (by intro e;rw[e] at hx;simp at hx<;>omega);rw[ha] at e;cases e
  subst k;have:xs=[]:=Qm.1 (by rw[hx,Z7]);subst this;refine C8 ?_;exact d_ rfl rfl [.own (.slice none 0 0) 104 3 []] ⟨none,0,rfl,rfl⟩ (fun w b=>b.addNil _ _)
 ·refine u7 ?_;refine p_ ?_;intro a5;refine p_ ?_;refine C0 rfl rfl (fun m o=>.here) (fun w b=>o0.le d b.keep) hx rfl rfl j (by show(0+n)*24<=_;omega) qb rfl ?_;intro g i _;refine C8 ?_;exact d_ rfl rfl [.own (.slice g n i) 104 3 xs] ⟨g,i,by rw[jv],rfl⟩ (fun w b=>by rw[jv,j7] at b;exact b)
theorem vD(xs:List Value)(a:Option Addr)(n c:Nat)(hx:xs.length=n*5)(j:∀q∈xs,q.oneCell'=true)(hl:n<=1000000000000):Ct prog 124 [.slice a n c] (fun h=>o0 h a xs) [] (dD 100 5 n xs):=by
 refine b_ 8 func124 rfl rfl rfl ?_;intro F d;refine eI ?_ ?_<;>intro h
 ·have ha:a=none:=by simpa using h
  have k:n=0:=by
   rcases Qs n with f|f
   ·exact f
   ·obtain⟨l,e,_⟩:=d (by intro e;rw[e] at hx;simp at hx<;>omega);rw[ha] at e;cases e
  subst k;have:xs=[]:=Qm.1 (by rw[hx,Z7]);subst this;refine C8 ?_;exact d_ rfl rfl [.own (.slice none 0 0) 100 5 []] ⟨none,0,rfl,rfl⟩ (fun w b=>b.addNil _ _)
 ·refine u7 ?_;refine p_ ?_;intro a5;refine p_ ?_;refine C0 rfl rfl (fun m o=>.here) (fun w b=>o0.le d b.keep) hx rfl rfl j (by show(0+n)*64<=_;omega) qb rfl ?_;intro g i _;refine C8 ?_;exact d_ rfl rfl [.own (.slice g n i) 100 5 xs] ⟨g,i,by rw[jv],rfl⟩ (fun w b=>by rw[jv,j7] at b;exact b)
theorem fJ(xs:List Value)(a:Option Addr)(n c:Nat)(hx:xs.length=n*5)(j:∀q∈xs,q.oneCell'=true)(hl:n<=1000000000000):Ct prog 117 [.slice a n c] (fun h=>o0 h a xs) [] (dD 156 5 n xs):=by
 refine b_ 8 func117 rfl rfl rfl ?_;intro F d;refine eI ?_ ?_<;>intro h
 ·have ha:a=none:=by simpa using h
  have k:n=0:=by
   rcases Qs n with f|f
   ·exact f
   ·obtain⟨l,e,_⟩:=d (by intro e;rw[e] at hx;simp at hx<;>omega);rw[ha] at e;cases e
  subst k;have:xs=[]:=Qm.1 (by rw[hx,Z7]);subst this;refine C8 ?_;exact d_ rfl rfl [.own (.slice none 0 0) 156 5 []] ⟨none,0,rfl,rfl⟩ (fun w b=>b.addNil _ _)
 ·refine u7 ?_;refine p_ ?_;intro a5;refine p_ ?_;refine C0 rfl rfl (fun m o=>.here) (fun w b=>o0.le d b.keep) hx rfl rfl j (by show(0+n)*64<=_;omega) qb rfl ?_;intro g i _;refine C8 ?_;exact d_ rfl rfl [.own (.slice g n i) 156 5 xs] ⟨g,i,by rw[jv],rfl⟩ (fun w b=>by rw[jv,j7] at b;exact b)
theorem fK(xs:List Value)(a:Option Addr)(n c:Nat)(hx:xs.length=n*2)(j:∀q∈xs,q.oneCell'=true)(hl:n<=1000000000000):Ct prog 128 [.slice a n c] (fun h=>o0 h a xs) [] (dD 72 2 n xs):=by
 refine b_ 8 func128 rfl rfl rfl ?_;intro F d;refine eI ?_ ?_<;>intro h
 ·have ha:a=none:=by simpa using h
  have k:n=0:=by
   rcases Qs n with f|f
   ·exact f
   ·obtain⟨l,e,_⟩:=d (by intro e;rw[e] at hx;simp at hx<;>omega);rw[ha] at e;cases e
  subst k;have:xs=[]:=Qm.1 (by rw[hx,Z7]);subst this;refine C8 ?_;exact d_ rfl rfl [.own (.slice none 0 0) 72 2 []] ⟨none,0,rfl,rfl⟩ (fun w b=>b.addNil _ _)
 ·refine u7 ?_;refine p_ ?_;intro a5;refine p_ ?_;refine C0 rfl rfl (fun m o=>.here) (fun w b=>o0.le d b.keep) hx rfl rfl j (by show(0+n)*16<=_;omega) qb rfl ?_;intro g i _;refine C8 ?_;exact d_ rfl rfl [.own (.slice g n i) 72 2 xs] ⟨g,i,by rw[jv],rfl⟩ (fun w b=>by rw[jv,j7] at b;exact b)
theorem gU(xs:List Value)(a:Option Addr)(n c:Nat)(hx:xs.length=n*2)(j:∀q∈xs,q.oneCell'=true)(hl:n<=1000000000000):Ct prog 202 [.slice a n c] (fun h=>o0 h a xs) [] (dD 178 2 n xs):=by
 refine b_ 8 func202 rfl rfl rfl ?_;intro F d;refine eI ?_ ?_<;>intro h
 ·have ha:a=none:=by simpa using h
  have k:n=0:=by
   rcases Qs n with f|f
   ·exact f
   ·obtain⟨l,e,_⟩:=d (by intro e;rw[e] at hx;simp at hx<;>omega);rw[ha] at e;cases e
  subst k;have:xs=[]:=Qm.1 (by rw[hx,Z7]);subst this;refine C8 ?_;exact d_ rfl rfl [.own (.slice none 0 0) 178 2 []] ⟨none,0,rfl,rfl⟩ (fun w b=>b.addNil _ _)
 ·refine u7 ?_;refine p_ ?_;intro a5;refine p_ ?_;refine C0 rfl rfl (fun m o=>.here) (fun w b=>o0.le d b.keep) hx rfl rfl j (by show(0+n)*16<=_;omega) qb rfl ?_;intro g i _;refine C8 ?_;exact d_ rfl rfl [.own (.slice g n i) 178 2 xs] ⟨g,i,by rw[jv],rfl⟩ (fun w b=>by rw[jv,j7] at b;exact b)
theorem jH(xs:List Value)(a:Option Addr)(n c:Nat)(hx:xs.length=n*5)(j:∀q∈xs,q.oneCell'=true)(hl:n<=1000000000000):Ct prog 203 [.slice a n c] (fun h=>o0 h a xs) [] (dD 129 5 n xs):=by
 refine b_ 8 func203 rfl rfl rfl ?_;intro F d;refine eI ?_ ?_<;>intro h
 ·have ha:a=none:=by simpa using h
  have k:n=0:=by
   rcases Qs n with f|f
   ·exact f
   ·obtain⟨l,e,_⟩:=d (by intro e;rw[e] at hx;simp at hx<;>omega);rw[ha] at e;cases e
  subst k;have:xs=[]:=Qm.1 (by rw[hx,Z7]);subst this;refine C8 ?_;exact d_ rfl rfl [.own (.slice none 0 0) 129 5 []] ⟨none,0,rfl,rfl⟩ (fun w b=>b.addNil _ _)
 ·refine u7 ?_;refine p_ ?_;intro a5;refine p_ ?_;refine C0 rfl rfl (fun m o=>.here) (fun w b=>o0.le d b.keep) hx rfl rfl j (by show(0+n)*32<=_;omega) qb rfl ?_;intro g i _;refine C8 ?_;exact d_ rfl rfl [.own (.slice g n i) 129 5 xs] ⟨g,i,by rw[jv],rfl⟩ (fun w b=>by rw[jv,j7] at b;exact b)
theorem vE(xs:List Value)(a:Option Addr)(n c:Nat)(hx:xs.length=n*6)(j:∀q∈xs,q.oneCell'=true)(hl:n<=1000000000000):Ct prog 204 [.slice a n c] (fun h=>o0 h a xs) [] (dD 127 6 n xs):=by
 refine b_ 8 func204 rfl rfl rfl ?_;intro F d;refine eI ?_ ?_<;>intro h
 ·have ha:a=none:=by simpa using h
  have k:n=0:=by
   rcases Qs n with f|f
   ·exact f
   ·obtain⟨l,e,_⟩:=d (by intro e;rw[e] at hx;simp at hx<;>omega);rw[ha] at e;cases e
  subst k;have:xs=[]:=Qm.1 (by rw[hx,Z7]);subst this;refine C8 ?_;exact d_ rfl rfl [.own (.slice none 0 0) 127 6 []] ⟨none,0,rfl,rfl⟩ (fun w b=>b.addNil _ _)
 ·refine u7 ?_;refine p_ ?_;intro a5;refine p_ ?_;refine C0 rfl rfl (fun m o=>.here) (fun w b=>o0.le d b.keep) hx rfl rfl j (by show(0+n)*80<=_;omega) qb rfl ?_;intro g i _;refine C8 ?_;exact d_ rfl rfl [.own (.slice g n i) 127 6 xs] ⟨g,i,by rw[jv],rfl⟩ (fun w b=>by rw[jv,j7] at b;exact b)
theorem vF(xs:List Value)(a:Option Addr)(n c:Nat)(hx:xs.length=n*1)(j:∀q∈xs,q.oneCell'=true)(hl:n<=1000000000000):Ct prog 129 [.slice a n c] (fun h=>o0 h a xs) [] (dD 27 1 n xs):=by
 refine b_ 8 func129 rfl rfl rfl ?_;intro F d;refine eI ?_ ?_<;>intro h
 ·have ha:a=none:=by simpa using h
  have k:n=0:=by
   rcases Qs n with f|f
   ·exact f
   ·obtain⟨l,e,_⟩:=d (by intro e;rw[e] at hx;simp at hx<;>omega);rw[ha] at e;cases e
  subst k;have:xs=[]:=Qm.1 (by rw[hx,Z7]);subst this;refine C8 ?_;exact d_ rfl rfl [.own (.slice none 0 0) 27 1 []] ⟨none,0,rfl,rfl⟩ (fun w b=>b.addNil _ _)
 ·refine u7 ?_;refine p_ ?_;intro a5;refine p_ ?_;refine C0 rfl rfl (fun m o=>.here) (fun w b=>o0.le d b.keep) hx rfl rfl j (by show(0+n)*8<=_;omega) qb rfl ?_;intro g i _;refine C8 ?_;exact d_ rfl rfl [.own (.slice g n i) 27 1 xs] ⟨g,i,by rw[jv],rfl⟩ (fun w b=>by rw[jv,j7] at b;exact b)
theorem aE{α:Type}(C:α->List Value)(n:∀x,(C x).length=5)(l:List α)(a:Option Addr)(c:Nat)(f:FuncId)[HF prog f](qs:List Value)(d:l_->Prop)[Mn d](q:α->Bool)(r:∀x∈l,Pu prog f (.agg (C x).toArray::qs) d (.bool (q x)))(hl:l.length<=1000000000000):Pu prog 126 [.slice a l.length c,.func (.func f) #[] qs.toArray] (fun h=>o0 h a (l.flatMap C)/\d h) (.int .i64 (D1 q l)):=by
 refine b_ 19 func126 rfl rfl rfl ?_;rintro F ⟨g,k⟩;refine O2 ?_;refine o9 (ι:=Nat) (fun j=>j<=l.length/\∀i (m:i<l.length),i<j->q l[i]=false) (fun j=>[(0,.slice a l.length c),(1,.func (.func f) #[] qs.toArray),(7,.int .i64 (l.length:Nat)),(8,.int .i64 (j:Nat))]) (fun _=>[]) (fun j=>l.length-j) 0 ⟨zw _,fun i _ h=>by omega⟩ sub i_ ?_;rintro j ⟨y,e⟩;refine R6 ?_ ?_<;>intro h
 ·have b:j<l.length:=by have:=qr h;omega
  have o:=y7 g n qp b;refine cG ?_;refine r_ (w8 rfl (fun w s=>S4 (g.le s.keep) n qp b x6) (n _)) ?_;refine A0 (ps:=[]) _ rfl rfl rfl (r _ (zx b)) i_ (fun h t _=>Mn.le t k) rfl ?_;rintro v A ⟨rfl,rfl⟩;refine N8 ?_ ?_<;>intro p
  ·refine L7 ?_;exact d_ rfl rfl [] ⟨by rw[N5 b p e],rfl⟩ i_
  ·refine y9 ?_;refine l8 (j+1) ⟨b,fun i m h=>?_⟩ qb sub i_;rcases kd.1 h with u|rfl
   ·exact e i m u
   ·exact p
 ·have b:j=l.length:=by have:=zq h;omega
  refine C8 ?_;exact d_ rfl rfl [] ⟨by rw[N4 fun i m=>e i m qb],rfl⟩ i_
theorem lk{α:Type}(C:α->List Value)(n:∀x,(C x).length=3)(l:List α)(a:Option Addr)(c:Nat)(f:FuncId)[HF prog f](qs:List Value)(d:l_->Prop)[Mn d](q:α->Bool)(r:∀x∈l,Pu prog f (.agg (C x).toArray::qs) d (.bool (q x)))(hl:l.length<=1000000000000):Pu prog 182 [.slice a l.length c,.func (.func f) #[] qs.toArray] (fun h=>o0 h a (l.flatMap C)/\d h) (.int .i64 (D1 q l)):=by
 refine b_ 19 func182 rfl rfl rfl ?_;rintro F ⟨g,k⟩;refine O2 ?_;refine o9 (ι:=Nat) (fun j=>j<=l.length/\∀i (m:i<l.length),i<j->q l[i]=false) (fun j=>[(0,.slice a l.length c),(1,.func (.func f) #[] qs.toArray),(7,.int .i64 (l.length:Nat)),(8,.int .i64 (j:Nat))]) (fun _=>[]) (fun j=>l.length-j) 0 ⟨zw _,fun i _ h=>by omega⟩ sub i_ ?_;rintro j ⟨y,e⟩;refine R6 ?_ ?_<;>intro h
 ·have b:j<l.length:=by have:=qr h;omega
  have o:=y7 g n qp b;refine cG ?_;refine r_ (w8 rfl (fun w s=>S4 (g.le s.keep) n qp b x6) (n _)) ?_;refine A0 (ps:=[]) _ rfl rfl rfl (r _ (zx b)) i_ (fun h t _=>Mn.le t k) rfl ?_;rintro v A ⟨rfl,rfl⟩;refine N8 ?_ ?_<;>intro p
  ·refine L7 ?_;exact d_ rfl rfl [] ⟨by rw[N5 b p e],rfl⟩ i_
  ·refine y9 ?_;refine l8 (j+1) ⟨b,fun i m h=>?_⟩ qb sub i_;rcases kd.1 h with u|rfl
   ·exact e i m u
   ·exact p
 ·have b:j=l.length:=by have:=zq h;omega
  refine C8 ?_;exact d_ rfl rfl [] ⟨by rw[N4 fun i m=>e i m qb],rfl⟩ i_
theorem mI{α:Type}(C:α->List Value)(n:∀x,(C x).length=5)(l:List α)(a:Option Addr)(c:Nat)(f:FuncId)[HF prog f](qs:List Value)(d:l_->Prop)[Mn d](q:α->Bool)(r:∀x∈l,Pu prog f (.agg (C x).toArray::qs) d (.bool (q x)))(hl:l.length<=1000000000000):Pu prog 188 [.slice a l.length c,.func (.func f) #[] qs.toArray] (fun h=>o0 h a (l.flatMap C)/\d h) (.int .i64 (D1 q l)):=by
 refine b_ 19 func188 rfl rfl rfl ?_;rintro F ⟨g,k⟩;refine O2 ?_;refine o9 (ι:=Nat) (fun j=>j<=l.length/\∀i (m:i<l.length),i<j->q l[i]=false) (fun j=>[(0,.slice a l.length c),(1,.func (.func f) #[] qs.toArray),(7,.int .i64 (l.length:Nat)),(8,.int .i64 (j:Nat))]) (fun _=>[]) (fun j=>l.length-j) 0 ⟨zw _,fun i _ h=>by omega⟩ sub i_ ?_;rintro j ⟨y,e⟩;refine R6 ?_ ?_<;>intro h
 ·have b:j<l.length:=by have:=qr h;omega
  have o:=y7 g n qp b;refine cG ?_;refine r_ (w8 rfl (fun w s=>S4 (g.le s.keep) n qp b x6) (n _)) ?_;refine A0 (ps:=[]) _ rfl rfl rfl (r _ (zx b)) i_ (fun h t _=>Mn.le t k) rfl ?_;rintro v A ⟨rfl,rfl⟩;refine N8 ?_ ?_<;>intro p
  ·refine L7 ?_;exact d_ rfl rfl [] ⟨by rw[N5 b p e],rfl⟩ i_
  ·refine y9 ?_;refine l8 (j+1) ⟨b,fun i m h=>?_⟩ qb sub i_;rcases kd.1 h with u|rfl
   ·exact e i m u
   ·exact p
 ·have b:j=l.length:=by have:=zq h;omega
  refine C8 ?_;exact d_ rfl rfl [] ⟨by rw[N4 fun i m=>e i m qb],rfl⟩ i_
theorem X_{α:Type}(C:α->List Value)(n:∀x,(C x).length=5)(l:List α)(a:Option Addr)(c:Nat)(f:FuncId)[HF prog f](qs:List Value)(d:l_->Prop)[Mn d](q:α->Bool)(r:∀x∈l,Pu prog f (.agg (C x).toArray::qs) d (.bool (q x)))(hl:l.length<=1000000000000):Pu prog 201 [.slice a l.length c,.func (.func f) #[] qs.toArray] (fun h=>o0 h a (l.flatMap C)/\d h) (.int .i64 (D1 q l)):=by
 refine b_ 19 func201 rfl rfl rfl ?_;rintro F ⟨g,k⟩;refine O2 ?_;refine o9 (ι:=Nat) (fun j=>j<=l.length/\∀i (m:i<l.length),i<j->q l[i]=false) (fun j=>[(0,.slice a l.length c),(1,.func (.func f) #[] qs.toArray),(7,.int .i64 (l.length:Nat)),(8,.int .i64 (j:Nat))]) (fun _=>[]) (fun j=>l.length-j) 0 ⟨zw _,fun i _ h=>by omega⟩ sub i_ ?_;rintro j ⟨y,e⟩;refine R6 ?_ ?_<;>intro h
 ·have b:j<l.length:=by have:=qr h;omega
  have o:=y7 g n qp b;refine cG ?_;refine r_ (w8 rfl (fun w s=>S4 (g.le s.keep) n qp b x6) (n _)) ?_;refine A0 (ps:=[]) _ rfl rfl rfl (r _ (zx b)) i_ (fun h t _=>Mn.le t k) rfl ?_;rintro v A ⟨rfl,rfl⟩;refine N8 ?_ ?_<;>intro p
  ·refine L7 ?_;exact d_ rfl rfl [] ⟨by rw[N5 b p e],rfl⟩ i_
  ·refine y9 ?_;refine l8 (j+1) ⟨b,fun i m h=>?_⟩ qb sub i_;rcases kd.1 h with u|rfl
   ·exact e i m u
   ·exact p
 ·have b:j=l.length:=by have:=zq h;omega
  refine C8 ?_;exact d_ rfl rfl [] ⟨by rw[N4 fun i m=>e i m qb],rfl⟩ i_
theorem ll{α:Type}(C:α->List Value)(n:∀x,(C x).length=2)(l:List α)(a:Option Addr)(c:Nat)(f:FuncId)[HF prog f](qs:List Value)(d:l_->Prop)[Mn d](q:α->Bool)(r:∀x∈l,Pu prog f (.agg (C x).toArray::qs) d (.bool (q x)))(hl:l.length<=1000000000000):Pu prog 226 [.slice a l.length c,.func (.func f) #[] qs.toArray] (fun h=>o0 h a (l.flatMap C)/\d h) (.int .i64 (D1 q l)):=by
 refine b_ 19 func226 rfl rfl rfl ?_;rintro F ⟨g,k⟩;refine O2 ?_;refine o9 (ι:=Nat) (fun j=>j<=l.length/\∀i (m:i<l.length),i<j->q l[i]=false) (fun j=>[(0,.slice a l.length c),(1,.func (.func f) #[] qs.toArray),(7,.int .i64 (l.length:Nat)),(8,.int .i64 (j:Nat))]) (fun _=>[]) (fun j=>l.length-j) 0 ⟨zw _,fun i _ h=>by omega⟩ sub i_ ?_;rintro j ⟨y,e⟩;refine R6 ?_ ?_<;>intro h
 ·have b:j<l.length:=by have:=qr h;omega
  have o:=y7 g n qp b;refine cG ?_;refine r_ (w8 rfl (fun w s=>S4 (g.le s.keep) n qp b x6) (n _)) ?_;refine A0 (ps:=[]) _ rfl rfl rfl (r _ (zx b)) i_ (fun h t _=>Mn.le t k) rfl ?_;rintro v A ⟨rfl,rfl⟩;refine N8 ?_ ?_<;>intro p
  ·refine L7 ?_;exact d_ rfl rfl [] ⟨by rw[N5 b p e],rfl⟩ i_
  ·refine y9 ?_;refine l8 (j+1) ⟨b,fun i m h=>?_⟩ qb sub i_;rcases kd.1 h with u|rfl
   ·exact e i m u
   ·exact p
 ·have b:j=l.length:=by have:=zq h;omega
  refine C8 ?_;exact d_ rfl rfl [] ⟨by rw[N4 fun i m=>e i m qb],rfl⟩ i_
theorem ln{α:Type}(C:α->List Value)(n:∀x,(C x).length=5)(l:List α)(a:Option Addr)(c:Nat)(f:FuncId)[HF prog f](qs:List Value)(d:l_->Prop)[Mn d](q:α->Bool)(r:∀x∈l,Pu prog f (.agg (C x).toArray::qs) d (.bool (q x)))(hl:l.length<=1000000000000):Pu prog 228 [.slice a l.length c,.func (.func f) #[] qs.toArray] (fun h=>o0 h a (l.flatMap C)/\d h) (.int .i64 (D1 q l)):=by
 refine b_ 19 func228 rfl rfl rfl ?_;rintro F ⟨g,k⟩;refine O2 ?_;refine o9 (ι:=Nat) (fun j=>j<=l.length/\∀i (m:i<l.length),i<j->q l[i]=false) (fun j=>[(0,.slice a l.length c),(1,.func (.func f) #[] qs.toArray),(7,.int .i64 (l.length:Nat)),(8,.int .i64 (j:Nat))]) (fun _=>[]) (fun j=>l.length-j) 0 ⟨zw _,fun i _ h=>by omega⟩ sub i_ ?_;rintro j ⟨y,e⟩;refine R6 ?_ ?_<;>intro h
 ·have b:j<l.length:=by have:=qr h;omega
  have o:=y7 g n qp b;refine cG ?_;refine r_ (w8 rfl (fun w s=>S4 (g.le s.keep) n qp b x6) (n _)) ?_;refine A0 (ps:=[]) _ rfl rfl rfl (r _ (zx b)) i_ (fun h t _=>Mn.le t k) rfl ?_;rintro v A ⟨rfl,rfl⟩;refine N8 ?_ ?_<;>intro p
  ·refine L7 ?_;exact d_ rfl rfl [] ⟨by rw[N5 b p e],rfl⟩ i_
  ·refine y9 ?_;refine l8 (j+1) ⟨b,fun i m h=>?_⟩ qb sub i_;rcases kd.1 h with u|rfl
   ·exact e i m u
   ·exact p
 ·have b:j=l.length:=by have:=zq h;omega
  refine C8 ?_;exact d_ rfl rfl [] ⟨by rw[N4 fun i m=>e i m qb],rfl⟩ i_
theorem mJ{α:Type}(C:α->List Value)(n:∀x,(C x).length=6)(l:List α)(a:Option Addr)(c:Nat)(f:FuncId)[HF prog f](qs:List Value)(d:l_->Prop)[Mn d](q:α->Bool)(r:∀x∈l,Pu prog f (.agg (C x).toArray::qs) d (.bool (q x)))(hl:l.length<=1000000000000):Pu prog 291 [.slice a l.length c,.func (.func f) #[] qs.toArray] (fun h=>o0 h a (l.flatMap C)/\d h) (.int .i64 (D1 q l)):=by
 refine b_ 19 func291 rfl rfl rfl ?_;rintro F ⟨g,k⟩;refine O2 ?_;refine o9 (ι:=Nat) (fun j=>j<=l.length/\∀i (m:i<l.length),i<j->q l[i]=false) (fun j=>[(0,.slice a l.length c),(1,.func (.func f) #[] qs.toArray),(7,.int .i64 (l.length:Nat)),(8,.int .i64 (j:Nat))]) (fun _=>[]) (fun j=>l.length-j) 0 ⟨zw _,fun i _ h=>by omega⟩ sub i_ ?_;rintro j ⟨y,e⟩;refine R6 ?_ ?_<;>intro h
 ·have b:j<l.length:=by have:=qr h;omega
  have o:=y7 g n qp b;refine cG ?_;refine r_ (w8 rfl (fun w s=>S4 (g.le s.keep) n qp b x6) (n _)) ?_;refine A0 (ps:=[]) _ rfl rfl rfl (r _ (zx b)) i_ (fun h t _=>Mn.le t k) rfl ?_;rintro v A ⟨rfl,rfl⟩;refine N8 ?_ ?_<;>intro p
  ·refine L7 ?_;exact d_ rfl rfl [] ⟨by rw[N5 b p e],rfl⟩ i_
  ·refine y9 ?_;refine l8 (j+1) ⟨b,fun i m h=>?_⟩ qb sub i_;rcases kd.1 h with u|rfl
   ·exact e i m u
   ·exact p
 ·have b:j=l.length:=by have:=zq h;omega
  refine C8 ?_;exact d_ rfl rfl [] ⟨by rw[N4 fun i m=>e i m qb],rfl⟩ i_
theorem jI{α:Type}(C:α->List Value)(n:∀x,(C x).length=2)(l:List α)(a:Option Addr)(c:Nat)(f:FuncId)[HF prog f](qs:List Value)(d:l_->Prop)[Mn d](q:α->Bool)(r:∀x∈l,Pu prog f (.agg (C x).toArray::qs) d (.bool (q x)))(hl:l.length<=1000000000000):Pu prog 338 [.slice a l.length c,.func (.func f) #[] qs.toArray] (fun h=>o0 h a (l.flatMap C)/\d h) (.int .i64 (D1 q l)):=by
 refine b_ 19 func338 rfl rfl rfl ?_;rintro F ⟨g,k⟩;refine O2 ?_;refine o9 (ι:=Nat) (fun j=>j<=l.length/\∀i (m:i<l.length),i<j->q l[i]=false) (fun j=>[(0,.slice a l.length c),(1,.func (.func f) #[] qs.toArray),(7,.int .i64 (l.length:Nat)),(8,.int .i64 (j:Nat))]) (fun _=>[]) (fun j=>l.length-j) 0 ⟨zw _,fun i _ h=>by omega⟩ sub i_ ?_;rintro j ⟨y,e⟩;refine R6 ?_ ?_<;>intro h
 ·have b:j<l.length:=by have:=qr h;omega
  have o:=y7 g n qp b;refine cG ?_;refine r_ (w8 rfl (fun w s=>S4 (g.le s.keep) n qp b x6) (n _)) ?_;refine A0 (ps:=[]) _ rfl rfl rfl (r _ (zx b)) i_ (fun h t _=>Mn.le t k) rfl ?_;rintro v A ⟨rfl,rfl⟩;refine N8 ?_ ?_<;>intro p
  ·refine L7 ?_;exact d_ rfl rfl [] ⟨by rw[N5 b p e],rfl⟩ i_
  ·refine y9 ?_;refine l8 (j+1) ⟨b,fun i m h=>?_⟩ qb sub i_;rcases kd.1 h with u|rfl
   ·exact e i m u
   ·exact p
 ·have b:j=l.length:=by have:=zq h;omega
  refine C8 ?_;exact d_ rfl rfl [] ⟨by rw[N4 fun i m=>e i m qb],rfl⟩ i_
theorem mK{α:Type}(C:α->List Value)(n:∀x,(C x).length=2)(l:List α)(a:Option Addr)(c:Nat)(f:FuncId)[HF prog f](qs:List Value)(d:l_->Prop)[Mn d](q:α->Bool)(r:∀x∈l,Pu prog f (.agg (C x).toArray::qs) d (.bool (q x)))(hl:l.length<=1000000000000):Pu prog 396 [.slice a l.length c,.func (.func f) #[] qs.toArray] (fun h=>o0 h a (l.flatMap C)/\d h) (.int .i64 (D1 q l)):=by
 refine b_ 19 func396 rfl rfl rfl ?_;rintro F ⟨g,k⟩;refine O2 ?_;refine o9 (ι:=Nat) (fun j=>j<=l.length/\∀i (m:i<l.length),i<j->q l[i]=false) (fun j=>[(0,.slice a l.length c),(1,.func (.func f) #[] qs.toArray),(7,.int .i64 (l.length:Nat)),(8,.int .i64 (j:Nat))]) (fun _=>[]) (fun j=>l.length-j) 0 ⟨zw _,fun i _ h=>by omega⟩ sub i_ ?_;rintro j ⟨y,e⟩;refine R6 ?_ ?_<;>intro h
 ·have b:j<l.length:=by have:=qr h;omega
  have o:=y7 g n qp b;refine cG ?_;refine r_ (w8 rfl (fun w s=>S4 (g.le s.keep) n qp b x6) (n _)) ?_;refine A0 (ps:=[]) _ rfl rfl rfl (r _ (zx b)) i_ (fun h t _=>Mn.le t k) rfl ?_;rintro v A ⟨rfl,rfl⟩;refine N8 ?_ ?_<;>intro p
  ·refine L7 ?_;exact d_ rfl rfl [] ⟨by rw[N5 b p e],rfl⟩ i_
  ·refine y9 ?_;refine l8 (j+1) ⟨b,fun i m h=>?_⟩ qb sub i_;rcases kd.1 h with u|rfl
   ·exact e i m u
   ·exact p
 ·have b:j=l.length:=by have:=zq h;omega
  refine C8 ?_;exact d_ rfl rfl [] ⟨by rw[N4 fun i m=>e i m qb],rfl⟩ i_
theorem V3{α:Type}(C:α->List Value)(i:∀x,(C x).length=5)(l:List α)(a:Option Addr)(c:Nat)(f:FuncId)[HF prog f](qs:List Value)(b:l_->Prop)[Mn b](q:α->Bool)(j:∀x∈l,Pu prog f (.agg (C x).toArray::qs) b (.bool (q x)))(hl:l.length<=1000000000000):Pu prog 156 [.slice a l.length c,.func (.func f) #[] qs.toArray] (fun h=>o0 h a (l.flatMap C)/\b h) (.bool (l.any q)):=by
 refine b_ 9 func156 rfl rfl rfl ?_;rintro F ⟨e,d⟩;refine E5 ?_;refine e_ rfl (ln C i l a c f qs b q j hl) (fun h g _=>⟨e.le g,Mn.le g d⟩) rfl ?_;refine f_ ((I4 rfl rfl).eq (qn (fI q l))) ?_;refine C8 ?_;exact d_ rfl rfl [] qh i_
theorem cn{α:Type}(C:α->List Value)(i:∀x,(C x).length=6)(l:List α)(a:Option Addr)(c:Nat)(f:FuncId)[HF prog f](qs:List Value)(b:l_->Prop)[Mn b](q:α->Bool)(j:∀x∈l,Pu prog f (.agg (C x).toArray::qs) b (.bool (q x)))(hl:l.length<=1000000000000):Pu prog 229 [.slice a l.length c,.func (.func f) #[] qs.toArray] (fun h=>o0 h a (l.flatMap C)/\b h) (.bool (l.any q)):=by
 refine b_ 9 func229 rfl rfl rfl ?_;rintro F ⟨e,d⟩;refine E5 ?_;refine e_ rfl (mJ C i l a c f qs b q j hl) (fun h g _=>⟨e.le g,Mn.le g d⟩) rfl ?_;refine f_ ((I4 rfl rfl).eq (qn (fI q l))) ?_;refine C8 ?_;exact d_ rfl rfl [] qh i_
theorem bf{α:Type}(C:α->List Value)(i:∀x,(C x).length=2)(l:List α)(a:Option Addr)(c:Nat)(f:FuncId)[HF prog f](qs:List Value)(b:l_->Prop)[Mn b](q:α->Bool)(j:∀x∈l,Pu prog f (.agg (C x).toArray::qs) b (.bool (q x)))(hl:l.length<=1000000000000):Pu prog 268 [.slice a l.length c,.func (.func f) #[] qs.toArray] (fun h=>o0 h a (l.flatMap C)/\b h) (.bool (l.any q)):=by
 refine b_ 9 func268 rfl rfl rfl ?_;rintro F ⟨e,d⟩;refine E5 ?_;refine e_ rfl (jI C i l a c f qs b q j hl) (fun h g _=>⟨e.le g,Mn.le g d⟩) rfl ?_;refine f_ ((I4 rfl rfl).eq (qn (fI q l))) ?_;refine C8 ?_;exact d_ rfl rfl [] qh i_
theorem Y5(l:List Bs)(a:Option Addr)(c:Nat)(hl:l.length<=1000000):Ct prog 115 [.slice a l.length c] (fun h=>o0 h a (fV l)) [] (dD 9 1 l.length (fV l)):=by
 refine b_ 8 func115 rfl rfl rfl ?_;intro F d;refine eI ?_ ?_<;>intro h
 ·have ha:a=none:=by simpa using h
  have i:l=[]:=by
   cases l with
   |nil=>rfl
   |cons y t=>obtain⟨j,e,_⟩:=d (by simp[fV]);rw[ha] at e;cases e
  subst i;refine C8 ?_;exact d_ rfl rfl [A4 none [] 0] ⟨none,0,rfl,rfl⟩ (fun w b=>b.addNil _ _)
 ·refine u7 ?_;refine p_ ?_;intro a5;refine p_ ?_;refine C0 rfl rfl (fun k m=>.here) (fun w b=>o0.le d b.keep) (by rw[L8,Zd]) rfl rfl (kZ _) (by show(0+l.length)*16<=_;omega) qb rfl ?_;intro f g _;refine C8 ?_;exact d_ rfl rfl [A4 f l g] ⟨f,g,by rw[jv],rfl⟩ (fun w b=>by rw[jv,j7] at b;exact b)
theorem dg{a:List KM}{c:CM}(h:a.map KM.k=c.keys):a.length=c.keys.length:=by rw[<-h,zr]
theorem a1v{a:List KM}{j:Nat}(b:j<a.length)(m:KM)(c:m.k=a[j].k):(a.set j m).map KM.k=a.map KM.k:=by
 rw[Kb,c,<-J6 KM.k (h:=by simpa using b)];exact Z4 _
abbrev yd(a:Option Addr)(n c:Nat)(l:List KM):As:=.own (.slice a n c) 127 6 (qG l)
set_option maxHeartbeats 1000000 in
theorem mL(c:CM)(x:CL)(hc:tF c):Cm prog 130 [xE c x] (fh c x) [] (fun h v A=>A=[]/\∃x',v=xE c x'/\fh c x' h):=by
 refine y4 40 func130 rfl rfl rfl ?_;intro F R k;obtain⟨kl,y,h0,r⟩:=k.keys;have h1:=dg y;have h9:=hc.keys;have k0:=hc.set;have k8:=hc.a5M;have k9:=hc.a5U;refine p_ ?_;intro T;refine p_ ?_;intro g2;refine u7 ?_;refine D8 [1,4,7,10] [2,5,8,11,13,15,17,19] [.blk T (.cells (li c x).toArray 36)] 20 ?_;refine wd [0,1,3,4,6,7,9,10] ?_;refine h_ 2 rfl i6 ?_;refine c_ (gU (V5 c.set) x.sa c.set.length x.sc (bO _) (eM _) qb) (fun h l _=>k.set.le l) ?_;rintro v A ⟨z,U,rfl,rfl⟩;refine gj [12] ?_;refine h_ 5 rfl i6 ?_;refine c_ (jH (oH c.a5M) x.ia c.a5M.length x.ic (tD _) (ng _) qb) (fun h l _=>k.a5M.le l) ?_;rintro v A ⟨D,V,rfl,rfl⟩;refine ah ?_;refine h_ 8 rfl i6 ?_;refine c_ (Y5 c.a5U x.fa x.fc qb) (fun h l _=>k.a5U.le l) ?_;rintro v A ⟨J,X,rfl,rfl⟩;refine ah ?_;refine h_ 11 rfl i6 ?_;refine c_ (vE (qG kl) x.ka c.keys.length x.kc (by rw[tE,h1]) (KW _) qb) (fun h l _=>h0.le l) ?_;rintro v A ⟨q,s,rfl,rfl⟩;refine E6 [13,14,15,16,17,18,19] ?_;refine B8 (Z:=[V1 z c.set U,bP D c.a5M V,A4 J c.a5U X]) tk fun M O ⟨bs,o⟩=>?_;have h2:o0 M.heap z (V5 c.set):=A3.rd o ud;have h3:o0 M.heap D (oH c.a5M):=A3.rd o ud;have h4:o0 M.heap J (fV c.a5U):=A3.rd o ud;clear o;refine O2 ?_;refine bJ (ι:=Nat×l6×List KM) (fun i=>i.1<=c.keys.length/\M.le i.2.1/\i.2.2.map KM.k=c.keys/\∀m∈i.2.2,o0 i.2.1.heap m.a (V5 m.k.set)) (fun i=>[(1,l9 T),(2,l9 g2),(22,.int .i64 (c.keys.length:Nat)),(23,.int .i64 (i.1:Nat))]) (fun i=>i.2.1)
  (fun i=>.blk T (.cells (li c ⟨z,U,D,V,q,s,J,X⟩).toArray 36)::yd q c.keys.length s i.2.2::.blk g2 (.cells (li ir G_).toArray 36)::R) (fun i=>c.keys.length-i.1) (0,M,kl) ⟨zw _,l6.le_refl _,y,fun m Q=>(r m Q).le O.heap⟩ sub rfl ?_ ?_
 ·intro w u;exact(tk (C:=[_,_,_])).hp u
 rintro⟨j,F2,k2⟩ ⟨hj,d,e,p⟩;simp only at hj d e p;have h7:k2.length=c.keys.length:=dg e;refine R6 ?_ ?_<;>intro h
 ·have f:j<k2.length:=by have:=qr h;omega
  have h8:k2[j].k.set.length<=64:=(hc.ksets _ (by rw[<-e];exact jx.2 ⟨_,zx f,rfl⟩)).1;refine B4 (a:=q) (n:=c.keys.length) (c:=s) (sz:=6) (xs:=qG k2) (te:=127) ud fun _ _ g=>?_;have g:=g qb;refine y9 ?_;refine D8 [1,4,8] [9,12] [yd q c.keys.length s k2,.blk T (.cells (li c ⟨z,U,D,V,q,s,J,X⟩).toArray 36)] 13 ?_;refine wd [0,1,2,3,4,5,6,7] ?_;refine n9 8 rfl P6 (i8 rfl (fun w u=>cH (j:=5) (u.ownN (t:=127) ud).2.2.1 ao f rfl x6)) I5 rfl rfl rfl i6 ?_;refine h_ 9 rfl i6 ?_;refine c_ (gU (V5 k2[j].k.set) k2[j].a k2[j].k.set.length k2[j].c (bO _) (eM _) qb) (fun h l _=>(p _ (zx f)).le l) ?_;rintro v A ⟨S,Y,rfl,rfl⟩;refine gj [10,11] ?_;refine h_ 12 rfl i6 ?_;refine A9 (C:=bE) ⟨k2[j].k,S,Y⟩ ao f (j:=5) rfl ?_;refine E6 [] ?_;refine B8 (Z:=[V1 S k2[j].k.set Y]) tk fun F3 b ⟨bs,o⟩=>?_;have h6:o0 F3.heap S (V5 k2[j].k.set):=A3.rd o ud;clear o;refine y9 ?_;refine O_ (j+1,F3,k2.set j ⟨k2[j].k,S,Y⟩) ⟨by simp only;omega,d.trans b,(a1v f ⟨k2[j].k,S,Y⟩ rfl).trans e,fun m Q=>?_⟩ qg sub rfl (fun w u=>(tk (C:=[_,_,_])).hp u);rcases jd Q with h5|rfl
  ·exact(p m h5).le b.heap
  ·exact h6
 ·refine u7 ?_;refine B8 (Z:=[yd q c.keys.length s k2]) tk fun F3 b ⟨bs,o⟩=>?_;have r:o0 F3.heap q (qG k2):=A3.rd o ud;refine L7 ?_;refine H3 (A:=[]) (v:=xE c ⟨z,U,D,V,q,s,J,X⟩) ((O.trans d).trans b) ⟨rfl,_,rfl,h2.le (d.trans b).heap,h3.le (d.trans b).heap,⟨k2,e,r,fun m Q=>(p m Q).le b.heap⟩,h4.le (d.trans b).heap⟩ ?_;exact G6 rfl rfl ud rfl _ qh (fun w u=>NO.hp sfx u)
theorem I_{h:l_}{Z a:List As}{g:Nat}{cs:Array Value}{te:TypeId}(hz:∃bs,A3 h Z bs)(u:M3 Z (.blk g (.cells cs te (0,0))) [] a:=by exact ud):h g=some (.cells cs te (0,0)):=by
 obtain⟨bs,b⟩:=hz;obtain⟨d,c⟩:=A3.get b u;exact c.2
instance {g:Nat} {o:Obj}:Mn (fun h=>h g=some o):=⟨fun l k=>l _ _ k⟩
abbrev aK(g:Nat)(v:Value)(t:TypeId)(h:l_):Prop:=h g=some (.cells #[v] t (0,0))
theorem dN(m n:Nat):Value.bool (decide (((m:Nat):Int)=((n:Nat):Int)))=.bool (decide (m=n)):=qn (zp.2 Ju)
theorem Pf(g:Nat)(a:Bs)(b:BM):Pu prog 189 [JR b,l9 g] (aK g (B a) 9) (.bool (decide (b.name=a))):=by
 refine b_ 8 func189 rfl rfl rfl ?_;intro F c;refine p_ ?_;intro e;refine NM ?_;exact d_ rfl rfl [] qh (fun w d=>d.dropAll)
theorem Gc(g:Nat)(n:Nat)(x:SX):Pu prog 127 [.agg (nj x).toArray,l9 g] (aK g (.int .u64 (n:Nat)) 27) (.bool (decide (x.ses=n))):=by
 refine b_ 8 func127 rfl rfl rfl ?_;intro F a;refine p_ ?_;intro c;refine O2 ?_;refine f_ ((p8 rfl rfl).eq (dN x.ses n)) ?_;refine C8 ?_;exact d_ rfl rfl [] qh (fun w b=>b.dropAll)
theorem Gd(g:Nat)(n:Int)(x:HO):Pu prog 183 [.agg (gr x).toArray,l9 g] (aK g (.int .i64 n) 3) (.bool (decide (x.node=n))):=by
 refine b_ 8 func183 rfl rfl rfl ?_;intro F a;refine p_ ?_;intro c;refine NM ?_;exact d_ rfl rfl [] qh (fun w b=>b.dropAll)
theorem ye(g k:Nat)(n:Int)(t:Nat)(x:SX):Pu prog 184 [.agg (nj x).toArray,l9 g,l9 k] (fun h=>aK g (.int .i64 n) 3 h/\aK k (.int .u64 (t:Nat)) 27 h) (.bool (decide (x.node=n/\x.tr=t))):=by
 obtain⟨a,b⟩:=o7 (decide (x.node=n));obtain⟨e,c⟩:=o7 (decide (x.tr=t));rw[show decide (x.node=n/\x.tr=t)=(a&&e) from by rw[b,c,Bool.decide_and]];refine b_ 15 func184 rfl rfl rfl ?_;rintro F ⟨f,d⟩
 cases a
 all_goals (
  refine p_ ?_;intro j;refine O2 ?_;refine f_ ((p8 rfl rfl).eb b) ?_;refine O2 ?_;(first|refine u_ ?_|(refine v_ ?_;refine f_ ((p8 rfl rfl).eq ((dN x.tr t).trans (qn c.symm))) ?_));refine y9 ?_)
 all_goals (refine A2 ?_;exact d_ rfl rfl [] qh (fun w i=>i.dropAll))
theorem oJ(m:MM)(a:Bs)(l:m.a5F.length<=1000):Pu prog 109 [uK m,B a] (fun h=>o0 h m.ba (fb m.a5F)) (.int .i64 (D1 (fun b=>decide (b.name=a)) m.a5F)):=by
 refine b_ 9 func109 rfl rfl rfl ?_;intro F e;refine C6 ?_;refine m9 rfl rfl ?_;intro n;refine L2 rfl rfl rfl ?_;intro c;refine p_ ?_;refine B8 (Z:=[.blk c (.cells #[B a] 9)]) tk fun g d i=>?_;have j:aK c (B a) 9 g.heap:=I_ i;refine E5 ?_;refine e_ rfl (mI de p7 m.a5F m.ba m.bc 189 [l9 c] (aK c (B a) 9) (fun b=>decide (b.name=a)) (fun b _=>Pf c a b) qb) (fun h f _=>⟨(e.le d.heap).le f,f _ _ j⟩) rfl ?_;refine C8 ?_;exact D3 d (d_ rfl rfl [] qh (fun w k=>k.dropAll))
theorem Lc(m:MM)(n:Nat)(j:m.a5H.length<=1000):Pu prog 67 [uK m,.int .u64 (n:Nat)] (fun h=>o0 h m.sa (JS m.a5H)) (.int .i64 (D1 (fun x=>decide (x.ses=n)) m.a5H)):=by
 refine b_ 9 func67 rfl rfl rfl ?_;intro F c;refine C6 ?_;refine m9 rfl rfl ?_;intro k;refine L2 rfl rfl rfl ?_;intro a;refine p_ ?_;refine B8 (Z:=[.blk a (.cells #[.int .u64 (n:Nat)] 27)]) tk fun e b f=>?_;have g:aK a (.int .u64 (n:Nat)) 27 e.heap:=I_ f;refine E5 ?_;refine e_ rfl (aE nj X4 m.a5H m.sa m.sc 127 [l9 a] (aK a (.int .u64 (n:Nat)) 27) (fun x=>decide (x.ses=n)) (fun x _=>Gc a n x) qb) (fun h d _=>⟨(c.le b.heap).le d,d _ _ g⟩) rfl ?_;refine C8 ?_;exact D3 b (d_ rfl rfl [] qh (fun w i=>i.dropAll))
theorem Ld(m:MM)(n:Int)(j:m.a5G.length<=1000):Pu prog 101 [uK m,.int .i64 n] (fun h=>o0 h m.ha (JT m.a5G)) (.int .i64 (D1 (fun x=>decide (x.node=n)) m.a5G)):=by
 refine b_ 9 func101 rfl rfl rfl ?_;intro F c;refine C6 ?_;refine m9 rfl rfl ?_;intro k;refine L2 rfl rfl rfl ?_;intro a;refine p_ ?_;refine B8 (Z:=[.blk a (.cells #[.int .i64 n] 3)]) tk fun e b f=>?_;have g:aK a (.int .i64 n) 3 e.heap:=I_ f;refine E5 ?_;refine e_ rfl (lk gr O5 m.a5G m.ha m.hc 183 [l9 a] (aK a (.int .i64 n) 3) (fun x=>decide (x.node=n)) (fun x _=>Gd a n x) qb) (fun h d _=>⟨(c.le b.heap).le d,d _ _ g⟩) rfl ?_;refine C8 ?_;exact D3 b (d_ rfl rfl [] qh (fun w i=>i.dropAll))
theorem CX(m:MM)(n:Int)(t:Nat)(l:m.a5H.length<=1000):Pu prog 102 [uK m,.int .i64 n,.int .u64 (t:Nat)] (fun h=>o0 h m.sa (JS m.a5H)) (.int .i64 (D1 (fun x=>decide (x.node=n/\x.tr=t)) m.a5H)):=by
 refine b_ 11 func102 rfl rfl rfl ?_;intro F d;refine C6 ?_;refine m9 rfl rfl ?_;intro o;refine L2 rfl rfl rfl ?_;intro a;refine L2 rfl rfl rfl ?_;intro b;refine p_ ?_;refine B8 (Z:=[.blk a (.cells #[.int .i64 n] 3),.blk b (.cells #[.int .u64 (t:Nat)] 27)]) tk fun f c g=>?_;have i:aK a (.int .i64 n) 3 f.heap:=I_ g;have j:aK b (.int .u64 (t:Nat)) 27 f.heap:=I_ g;refine E5 ?_;refine e_ rfl (aE nj X4 m.a5H m.sa m.sc 184 [l9 a,l9 b] (fun h=>aK a (.int .i64 n) 3 h/\aK b (.int .u64 (t:Nat)) 27 h) (fun x=>decide (x.node=n/\x.tr=t)) (fun x _=>ye a b n t x) qb) (fun h e _=>⟨(d.le c.heap).le e,e _ _ i,e _ _ j⟩) rfl ?_;refine C8 ?_;exact D3 c (d_ rfl rfl [] qh (fun w k=>k.dropAll))
end Go.Proofs.YtmcepdopookilaaGreatDoor.Rp
namespace Go.Sl
open Go Go.RowKit Go.Proofs.Tryz
theorem sat_blks{h:l_}(g:Nat->Obj):∀(l:List Nat),(∀b∈l,h b=some (g b))->A3 h (l.map fun b=>.blk b (g b)) l
 |[],_=>rfl
 |b::t,hb=>⟨[b],t,rfl,⟨rfl,hb b x6⟩,sat_blks g t fun c hc=>hb c (by simp[hc])⟩
theorem jJ{h:l_}(g:Nat->Obj):∀(l:List Nat) (bs:List Nat),A3 h (l.map fun b=>.blk b (g b)) bs->∀b∈l,h b=some (g b)
 |[],_,_,b,a=>by cases a
 |c::t,bs,⟨b1,b2,_,h1,h2⟩,b,a=>by
  rcases ky.1 a with rfl|a
  ·exact h1.2
  ·exact jJ g t _ h2 b a
theorem Hp.thaw{F d:l6}{w:World}{H:List As}(hl:F.le d)(f:Hp d w H):∃Z,Hp F w (H++Z)/\∀h bs,l_.le F.heap h->A3 h Z bs->l_.le d.heap h:=by
 let l:=(List.range w.heap.size).filter fun b=>(d.heap b).isSome&&(F.heap b).isNone
 let g:Nat->Obj:=fun b=>(d.heap b).getD (.cells #[] 0)
 have hg:∀b∈l,d.heap b=some (g b)/\F.heap b=none:=fun b c=>by
  have j:=(Qx.1 c).2;simp only[kw,Option.isNone_iff_eq_none] at j;obtain⟨o,i⟩:=Zc.1 j.1;exact⟨by show _=some ((d.heap b).getD _);rw[i];rfl,j.2⟩
 obtain⟨bs,hs,r,hf⟩:=f.own;refine⟨l.map fun b=>.blk b (g b),⟨f.os.trans hl.os,f.tape.trans hl.tape,f.output.trans hl.output,l_.le_trans hl.heap f.keep,bs++l,A3.append hs (sat_blks g l fun b c=>f.keep _ _ (hg b c).1),?_,?_⟩,?_⟩
 ·refine j6.2 ⟨r,List.Pairwise.filter _ List.nodup_range,fun a ha b c e=>?_⟩;subst e;have:=hf a ha;rw[(hg a c).1] at this
  cases this
 ·intro b c;rcases zb.1 c with c|c
  ·cases e:F.heap b with
   |none=>rfl
   |some o=>have:=hl.heap b o e;rw[hf b c] at this;cases this
  ·exact(hg b c).2
 ·intro h s k m b o i;by_cases hm:b∈l
  ·have j:=jJ g l s m b hm;have p:=(hg b hm).1;rw[i] at p;rw[j];exact p.symm
  ·have n:b<w.heap.size:=by
    have t:w.heap[b]? =some o:=f.keep b o i;exact(kp.1 t).1
   cases e:F.heap b with
   |some o'=>
    have q:=hl.heap b o' e;rw[i] at q;rw[k b o' e];exact q.symm
   |none=>exact absurd (Qx.2 ⟨List.mem_range.2 n,by simp[i,e]⟩) hm
section
variable{P:Program}{N:Nat}{K R:y6}{E:List (Nat×y6)}{L:G0}{F:l6}{H:List As}{ops:Array Oper}{rest:List Oper}{ty:TypeId}{pos:String}{af:Array Edge}{dst:Option Nat}{gd:Option (Nat×Bool)}{x:Operand}
theorem R7{d:Nat}{f:FuncId}{args:List Operand}{i:Array TypeId}{vs:List Value}{b:l_->Prop}{C Rr:List As}{Q:l_->Value->List As->Prop}[HF P f](hc:Cm P f vs b C Q)(c:b F.heap)(k:∀v A Z g,(∀h bs,l_.le F.heap h->A3 h Z bs->l_.le g h)->Q g v A->GL P N ops rest K E R ((d,v)::L) F (A++(Rr++Z)))(hx:rt L args=some vs:=by rfl)(hH:x8 C H Rr:=by exact tk)(l:Nat.blt d N=true:=by rfl):
  GL P N ops (⟨some d,.call ⟨.value (.func f),args.toArray,i⟩,ty,pos,af,none⟩::rest) K E R L F H:=by
 unfold GL at k⊢;intro a w hf m;refine wpList_plain rfl fun s n=>?_;unfold Oper.wp;rw[aT hx hf.agr w,Oper.upon_enter];refine(hc F Rr w (hH.hp m) c).mono ?_;rintro e t ⟨v,A,g,rfl,o,p,j⟩;obtain⟨Z,q,r⟩:=j.thaw o;exact n _ _ (k v A Z g.heap r p _ _ (hf.put l v) (by rw[<-zh];exact q))
theorem Sx{Rr Z:List As}(b:l_)(hz:∀h bs,l_.le F.heap h->A3 h Z bs->l_.le b h)(hH:∀w,Hp F w H->Hp F w (Rr++Z))(k:∀a,F.le a->l_.le b a.heap->GL P N ops rest K E R L a Rr):GL P N ops rest K E R L F H:=
 I7 hH (rx fun a c ⟨bs,d⟩=>k a c (hz _ bs c.heap d))
theorem AD{c:Code}{Rr Z:List As}(b:l_)(hz:∀h bs,l_.le F.heap h->A3 h Z bs->l_.le b h)(hH:∀w,Hp F w H->Hp F w (Rr++Z))(k:∀a,F.le a->l_.le b a.heap->G P N c K E R L a Rr):G P N c K E R L F H:=
 D5 hH (bZ fun a d ⟨bs,e⟩=>k a d (hz _ bs d.heap e))
end
end Go.Sl
namespace Go.Proofs.YtmcepdopookilaaGreatDoor.Rp
open Go Go.Sl Go.RowKit Go.Proofs.Tryz
theorem jK{α β:Type}{f:α->β}{l:List α}{j:Nat}(a:j<l.length)(m:α)(b:f m=f l[j]):(l.set j m).map f=l.map f:=by
 rw[Kb,b,<-J6 f (h:=by simpa using a)];exact Z4 _
def Pg(b:BM)(h:l_)(v:Value)(A:List As):Prop:=∃b':BM,v=JR b'/\b'.x=b.x/\A=[O0 b'.a b'.ls b'.c]/\iz b'.ls h
theorem lW(b:BM)(hl:b.ls.length<=1000)(hf:∀x∈b.ls,x.t.a5U.length<=1000):Cm prog 125 [JR b] (fH b) [] (Pg b):=by
 refine y4 28 func125 rfl rfl rfl ?_;intro F R p;refine C6 ?_;refine m9 rfl rfl ?_;intro u;refine i7 rfl ?_;intro D;refine y9 ?_;refine c_ (fJ (qH b.ls) b.a b.ls.length b.c (Au _) (Av _) qb) (fun h J _=>p.ls.le J) ?_;rintro v A ⟨a,c,rfl,rfl⟩;refine cG ?_;refine bJ (ι:=Nat×l6×List LM) (fun i=>i.1<=b.ls.length/\F.le i.2.1/\i.2.2.map LM.t=b.ls.map LM.t/\iz i.2.2 i.2.1.heap) (fun i=>[(1,l9 u),(2,l9 D),(10,.int .i64 (b.ls.length:Nat)),(11,.int .i64 (i.1:Nat))]) (fun i=>i.2.1)
  (fun i=>.blk u (.cells #[B b.name,.int .u64 (b.val:Nat),.int .u64 (b.next:Nat),.int .u64 (b.high:Nat),.slice a b.ls.length c] 100)::.own (.slice a b.ls.length c) 156 5 (qH i.2.2)::.blk D (.cells (de Ga).toArray 100)::R) (fun i=>b.ls.length-i.1) (0,F,b.ls) ⟨zw _,l6.le_refl _,rfl,p.fl⟩ sub rfl ?_ ?_
 ·intro w l;exact(tk (C:=[_,_,_])).hp l
 rintro⟨j,F2,k2⟩ ⟨S,o,d,k⟩;simp only at S o d k;have q:k2.length=b.ls.length:=by have:=jk List.length d;simpa using this
 refine R6 ?_ ?_<;>intro h
 ·have f:j<k2.length:=by have:=qr h;omega
  have T:k2[j].t.a5U.length<=1000:=by
   have e:k2[j].t∈b.ls.map LM.t:=(by rw[<-d];exact jx.2 ⟨_,zx f,rfl⟩);obtain⟨y,U,V⟩:=jx.1 e;rw[<-V];exact hf y U
  refine B4 (a:=a) (n:=b.ls.length) (c:=c) (sz:=5) (xs:=qH k2) (te:=156) ud fun _ _ g=>?_;have g:=g qb;refine y9 ?_;refine D8 [1,4,8] [9,12] [.own (.slice a b.ls.length c) 156 5 (qH k2),.blk u (.cells #[B b.name,.int .u64 (b.val:Nat),.int .u64 (b.next:Nat),.int .u64 (b.high:Nat),.slice a b.ls.length c] 100)] 13 ?_;refine wd [0,1,2,3,4,5,6,7] ?_;refine n9 8 rfl P6 (i8 rfl (fun w l=>cH (j:=1) (l.ownN (t:=156) ud).2.2.1 A_ f rfl x6)) I5 rfl rfl rfl i6 ?_;refine h_ 9 rfl i6 ?_;refine c_ (Y5 k2[j].t.a5U k2[j].a k2[j].c qb) (fun h J _=>(k _ (zx f)).le J) ?_;rintro v A ⟨r,z,rfl,rfl⟩;refine gj [10,11] ?_;refine h_ 12 rfl i6 ?_;refine A9 (C:=S8) ⟨k2[j].t,r,z⟩ A_ f (j:=1) rfl ?_;refine E6 [] ?_;refine B8 (Z:=[A4 r k2[j].t.a5U z]) tk fun O s ⟨bs,Q⟩=>?_;have M:o0 O.heap r (fV k2[j].t.a5U):=A3.rd Q ud;clear Q;refine y9 ?_;refine O_ (j+1,O,k2.set j ⟨k2[j].t,r,z⟩) ⟨by simp only;omega,o.trans s,(jK f ⟨k2[j].t,r,z⟩ rfl).trans d,fun m X=>?_⟩ qg sub rfl (fun w l=>(tk (C:=[_,_,_])).hp l);rcases jd X with Y|rfl
  ·exact(k m Y).le s.heap
  ·exact M
 ·refine L7 ?_;refine H3 (A:=[O0 a k2 c]) (v:=JR ⟨b.name,b.val,b.next,b.high,k2,a,c⟩) o ⟨_,rfl,by simp only[BM.x,d],rfl,k⟩ ?_;rw[<-q];exact G6 rfl rfl ud rfl _ qh (fun w l=>(tk (C:=[.blk u _,.blk D _,O0 a k2 c])).hp l|>.drop.drop)
def Ph(m:MM)(h:l_)(v:Value)(A:List As):Prop:=∃m':MM,v=uK m'/\m'.s=m.s/\A=uL m'/\∀b∈m'.a5F,iz b.ls h
structure Sy(m:MM):Prop where
 a5H:m.a5H.length<=1000
 a5G:m.a5G.length<=1000
 a5F:m.a5F.length<=1000
 ls:∀b∈m.a5F,b.ls.length<=1000
 fl:∀b∈m.a5F,∀x∈b.ls,x.t.a5U.length<=1000
theorem dV{α:Type}{l:List α}{j:Nat}(a:j<l.length)(b:α):(l.set j b).take (j+1)=l.take j++[b]:=by
 rw[kj (by simpa using a),List.take_set_of_le (z1 _)];simp
theorem Ge{l:List BM}{j:Nat}(c:j<l.length)(b:BM)(Z:List As):(O0 b.a b.ls b.c::(V9 (l.take j)++Z)).Perm (V9 ((l.set j b).take (j+1))++Z):=by
 rw[dV c,Lb];show(O0 b.a b.ls b.c::(V9 (l.take j)++Z)).Perm ((V9 (l.take j)++[O0 b.a b.ls b.c])++Z);rw[zh];exact(Qd (l₁:=V9 (l.take j)) (a:=O0 b.a b.ls b.c) (l₂:=Z)).symm
theorem tK(m:MM)(M:Sy m):Cm prog 66 [uK m] (iB m) [] (Ph m):=by
 refine y4 34 func66 rfl rfl rfl ?_;intro F R l;have h7:=M.a5H;have h8:=M.a5G;have h9:=M.a5F;refine C6 ?_;refine m9 rfl rfl ?_;intro O;refine i7 rfl ?_;intro V;refine y9 ?_;refine c_ (jG (JS m.a5H) m.sa m.a5H.length m.sc (Az _) (AA _) qb) (fun h Q _=>l.a5H.le Q) ?_;rintro v A ⟨p,q,rfl,rfl⟩;refine O2 ?_;refine c_ (tJ (JT m.a5G) m.ha m.a5G.length m.hc (KZ _) (La _) qb) (fun h Q _=>l.a5G.le Q) ?_;rintro v A ⟨ha,hc,rfl,rfl⟩;refine O2 ?_;refine c_ (vD (fb m.a5F) m.ba m.a5F.length m.bc (ni _) (Ax _) qb) (fun h Q _=>l.a5F.le Q) ?_;rintro v A ⟨g,k,rfl,rfl⟩;refine cG ?_;refine bJ (ι:=Nat×l6×List BM) (fun i=>i.1<=m.a5F.length/\F.le i.2.1/\i.2.2.map BM.x=m.a5F.map BM.x/\(∀b∈i.2.2.take i.1,iz b.ls i.2.1.heap)/\∀b∈i.2.2.drop i.1,fH b i.2.1.heap) (fun i=>[(1,l9 O),(2,l9 V),(18,.int .i64 (m.a5F.length:Nat)),(19,.int .i64 (i.1:Nat))]) (fun i=>i.2.1)
  (fun i=>.blk O (.cells #[.slice g m.a5F.length k,.int .u64 (m.nval:Nat),.slice ha m.a5G.length hc,.slice p m.a5H.length q,.int .u64 (m.nses:Nat),.int .u64 (m.a5R:Nat)] 62)::.own (.slice g m.a5F.length k) 100 5 (fb i.2.2)::P5 ha m.a5G hc::S_ p m.a5H q::.blk V (.cells #[.slice none 0 0,.int .u64 0,.slice none 0 0,.slice none 0 0,.int .u64 0,.int .u64 0] 62)::(V9 (i.2.2.take i.1)++R)) (fun i=>m.a5F.length-i.1) (0,F,m.a5F) ⟨zw _,l6.le_refl _,rfl,fun b e=>by simp at e,fun b e=>l.box b (List.mem_of_mem_drop e)⟩ sub rfl ?_ ?_
 ·intro w s;exact(tk (C:=[_,_,_,_,_])).hp s
 rintro⟨j,F2,k2⟩ ⟨hj,u,S,o,D⟩;simp only at hj u S o D;have T:k2.length=m.a5F.length:=by have:=jk List.length S;simpa using this
 refine R6 ?_ ?_<;>intro h
 ·have d:j<k2.length:=by have:=qr h;omega
  have X:k2[j].x∈m.a5F.map BM.x:=by rw[<-S];exact jx.2 ⟨_,zx d,rfl⟩
  obtain⟨y,hy,e2⟩:=jx.1 X;have U:k2[j].ls.map LM.t=y.ls.map LM.t:=(jk BX.lts e2).symm;have Y:k2[j].ls.length<=1000:=by have:=jk List.length U;have h5:=M.ls y hy;simp at this;omega
  have h0:∀x∈k2[j].ls,x.t.a5U.length<=1000:=fun x hx=>by
   have e3:x.t∈y.ls.map LM.t:=(by rw[<-U];exact jx.2 ⟨x,hx,rfl⟩);obtain⟨z,hz,e4⟩:=jx.1 e3;rw[<-e4];exact M.fl y hy z hz
  have h1:fH k2[j] F2.heap:=D _ (by rw[Qg d];exact Qq);refine B4 (a:=g) (n:=m.a5F.length) (c:=k) (sz:=5) (xs:=fb k2) (te:=100) ud fun _ _ f=>?_;have f:=f qb;refine y9 ?_;refine D8 [1,4,7] [8,10] [.own (.slice g m.a5F.length k) 100 5 (fb k2),.blk O (.cells #[.slice g m.a5F.length k,.int .u64 (m.nval:Nat),.slice ha m.a5G.length hc,.slice p m.a5H.length q,.int .u64 (m.nses:Nat),.int .u64 (m.a5R:Nat)] 62)] 11 ?_;refine wd [0,1,2,3,4,5,6] ?_;refine n9 7 rfl P6 (w8 rfl (fun w s=>fe (s.ownN (t:=100) ud).2.2.1 p7 qp d x6) (p7 _)) I5 rfl rfl rfl i6 ?_;refine h_ 8 rfl i6 ?_;refine R7 (lW k2[j] Y h0) h1 ?_;rintro v A Z Fz hz ⟨r,rfl,h2,rfl,h3⟩;refine gj [9] ?_;refine h_ 10 rfl i6 ?_;refine A9 (C:=de) r p7 d (j:=0) rfl ?_;refine E6 [] ?_;refine AD Fz hz (Rr:=O0 r.a r.ls r.c::.blk O (.cells #[.slice g m.a5F.length k,.int .u64 (m.nval:Nat),.slice ha m.a5G.length hc,.slice p m.a5H.length q,.int .u64 (m.nses:Nat),.int .u64 (m.a5R:Nat)] 62)::.own (.slice g m.a5F.length k) 100 5 (fb (k2.set j r))::P5 ha m.a5G hc::S_ p m.a5H q::.blk V (.cells #[.slice none 0 0,.int .u64 0,.slice none 0 0,.slice none 0 0,.int .u64 0,.int .u64 0] 62)::(V9 (k2.take j)++R)) (Z:=Z) i_ fun F3 J h4=>?_;refine y9 ?_;refine O_ (j+1,F3,k2.set j r) ⟨by simp only;omega,u.trans J,(jK d r h2).trans S,fun b e=>?_,fun b e=>?_⟩ qg sub rfl (fun w s=>?_)
  ·rw[dV d] at e;rcases zb.1 e with e|e
   ·exact Mn.le J.heap (o b e)
   ·obtain rfl:=zg.1 e;exact Mn.le h4 h3
  ·simp only at e;rw[Ks qb] at e;exact Mn.le J.heap (D b (by rw[Qg d];exact jj _ e))
  ·exact s.perm (((kz (l₁:=[_]) (l₂:=[_,_,_,_,_])).append_right (V9 (k2.take j)++R)).trans ((Ge d r R).append_left [_,_,_,_,_]))
 ·refine L7 ?_;have k0:j=m.a5F.length:=by have:=zq h;omega
  have h6:k2.take j=k2:=jq qb;rw[h6] at o⊢;refine H3 (A:=uL ⟨k2,m.nval,m.a5G,m.a5H,m.nses,m.a5R,g,k,ha,hc,p,q⟩) (v:=uK ⟨k2,m.nval,m.a5G,m.a5H,m.nses,m.a5R,g,k,ha,hc,p,q⟩) u ⟨_,rfl,by simp only[MM.s,S],rfl,o⟩ ?_;rw[<-T];exact G6 rfl rfl ud rfl _ qh (fun w s=>(tk (C:=[.blk O _,.blk V _,S_ p m.a5H q,P5 ha m.a5G hc,S9 g k2 k])).hp s|>.drop.drop)
end Go.Proofs.YtmcepdopookilaaGreatDoor.Rp
namespace Go.Sl
open Go Go.RowKit Go.Proofs.Tryz
section
variable{P:Program}{N:Nat}{K R:y6}{E:List (Nat×y6)}{L:G0}{F:l6}{H:List As}{ops:Array Oper}{rest:List Oper}{ty:TypeId}{pos:String}{af:Array Edge}{t:TypeId}{x:Operand}
theorem qX{z:Array Value}{n:Nat}(h:∀q∈z.toList,q.oneCell'=true):∀q∈(Builtin.zeroCells z n).toList,q.oneCell'=true:=fun q a=>by
 unfold Builtin.zeroCells at a;rw[Array.mem_toList_iff,Array.mem_map] at a;obtain⟨i,d,rfl⟩:=a;have b:i<n*z.size:=by simpa using d
 have hp:0<z.size:=by
  rcases Qs z.size with c|c
  ·rw[c] at b;omega
  ·exact c
 have e:=Nat.mod_lt i hp;rw[getElem!_pos z _ e];exact h _ x6
theorem jL{a:Option Addr}{n c sz lo k:Nat}{xs:List Value}{te:TypeId}{z:Value}{H':List Value->List As}[hu:HU P t (.slice te)][hz:HZ P te z](hx:ev L x=some (.slice (Y9 a c lo sz) k (c-lo)))(hk:k=n-lo)(h6:lo<=n)(y:z.cells.size=sz)(A:(z.cells.toList.all fun q=>q.oneCell')=true)(u:∀s,M3 H (.own (.slice a n c) te sz xs) [.own (.slice a n c) te sz s] (H' s))(h:∀s,s.length=xs.length->s.take (lo*sz)=xs.take (lo*sz)->GL P N ops rest K E R L F (H' s)):GL P N ops (⟨none,.call ⟨.builtin .clear,#[x],#[t]⟩,ty,pos,af,none⟩::rest) K E R L F H:=
 Ki rfl rfl fun w0 w hf U=>by
  subst hk;have d:∀C,(Builtin.clear_ #[t] ty #[.slice (Y9 a c lo sz) (n-lo) (c-lo)]).run P w=.ok (.tuple #[]) C->(execOp w0.eval ⟨none,.call ⟨.builtin .clear,#[x],#[t]⟩,ty,pos,af,none⟩).run P w=.ok (.value (.tuple #[])) C:=fun C hr=>by
   simp[execOp,resolve,invoke,builtin,hf.eval hx,hr]
  obtain⟨V,i,_,h7,kk⟩:=U.focus (u xs);by_cases h0:n-lo=0
  ·refine⟨_,w,H' xs,d w ?_,?_,h xs rfl rfl⟩
   ·rw[h0]
    cases Y9 a c lo sz<;>simp[Builtin.clear_,run_underlying hu.h]
   ·exact kk w V rfl rfl rfl (fun _ _ _=>rfl) ⟨V,[],by simp,i,rfl⟩ (by assumption) (fun _ hb=>.inl hb)
  ·rcases i with⟨j,rfl,rfl⟩|⟨g,rfl,⟨o,n',h8,pre,b,X,j,hg,v,hl,D,J,l⟩⟩
   ·injection j with e1 e2 e3;omega
   ·injection j with e1 e2 e3;subst e1 e2 e3;have M:Y9 (some ⟨g,o,none⟩) c lo sz=some ⟨g,o+lo*sz,none⟩:=by
     unfold Y9;rw[zk qb];simp[Addr.add_lit]
    have Y:lo*sz+(n-lo)*sz=n*sz:=(by rw[<-Q0];congr 1;omega);have m:(Builtin.zeroCells z.cells (n-lo)).toList.length=(n-lo)*sz:=(by simp[size_zeroCells,y]);have e:=G5 (P:=P) g (o+lo*sz) te X (Builtin.zeroCells z.cells (n-lo)).toList 0 (pre++xs++b).toArray w hg (by simpa using l) (by rw[m];simp[v];omega) (qX (fun q O=>Qv.1 A q O));simp only[Q3,<-v] at e;have hm:=fq pre xs b (Builtin.zeroCells z.cells (n-lo)).toList (lo*sz) (by rw[m];omega);rw[hm] at e;have f:(L5 xs (lo*sz) (Builtin.zeroCells z.cells (n-lo)).toList).length=xs.length:=by
     simp only[L5,zz,zm,z8,m];omega
    refine⟨_,_,H' (L5 xs (lo*sz) (Builtin.zeroCells z.cells (n-lo)).toList),d (w.setRow g (pre++L5 xs (lo*sz) (Builtin.zeroCells z.cells (n-lo)).toList++b).toArray) ?_,?_,h _ f ?_⟩
    ·rw[M]
     cases O:n-lo with
     |zero=>omega
     |succ q=>
      rw[O] at e;rw[v] at e;simp[Builtin.clear_,run_underlying hu.h,hz.h,e]
    ·obtain⟨b3,p,_,_,Q⟩:=U.focus (u (L5 xs (lo*sz) (Builtin.zeroCells z.cells (n-lo)).toList));rcases p with⟨r,_,_⟩|⟨g3,rfl,h3⟩
     ·cases r
     ·obtain⟨o3,n3,Z,h1,S,h9,r,k0,k8,k9,h2,h4,h5⟩:=h3;injection r with e1 e2 e3;injection e1 with e1;injection e1 with e1 e4;subst e1;refine Q _ [g] rfl rfl rfl (fun c hc T=>setRow_other w g c _ (by simpa using T)) ⟨[g],[],rfl,.inr ⟨g,rfl,⟨o,n,c,pre,b,X,rfl,setRow_heap w g _ _ te _ hg,v,by rw[f];exact hl,?_,J,?_⟩⟩,rfl⟩ x6 (fun c hc=>.inl hc)
      ·simp only[zz,f];simpa using D
      ·simp only[zz,f] at l⊢;exact l
    ·unfold L5;rw[zh,Z8 (by simp;omega),List.take_take,Nat.min_self]
theorem tL{d:Nat}{s x:Operand}{a b:Option Addr}{n c k m S sz:Nat}{xs news:List Value}{e:TypeId}{H':List As}[hu:HU P t (.slice e)][hs:HS P e sz](T:ev L s=some (.slice a k c))(U:ev L x=some (.slice b m S))(u0:M3 H (.own (.slice a n c) e sz xs) [.own (.slice a n c) e sz xs] H)(u:M3 H (.own (.slice a n c) e sz xs) [.own (.slice a n c) e sz (L5 xs (k*sz) news)] H')(hsrc:∀w,Hp F w H->Ka (hp w) b news)(hl:news.length=m*sz)(V:0<sz)(h1:∀q∈news,q.oneCell'=true)(hk:k+m<=n)(hd:Nat.blt d N=true)(h:GL P N ops rest K E R ((d,.slice a (k+m) c)::L) F H'):
  GL P N ops (⟨some d,.call ⟨.builtin .append,#[s,x],#[t,t]⟩,ty,pos,af,none⟩::rest) K E R L F H:=
 R_ rfl rfl hd fun w0 w hf hw=>by
  have l:∀X Y,(Builtin.append_ #[t,t] ty #[.slice a k c,.slice b m S]).run P w=.ok X Y->
    (execOp w0.eval ⟨some d,.call ⟨.builtin .append,#[s,x],#[t,t]⟩,ty,pos,af,none⟩).run P w=.ok (.value X) Y:=fun X Y M=>by
   simp[execOp,resolve,invoke,builtin,hf.eval T,hf.eval U,M]
  obtain⟨b2,p,Z,h8,kk⟩:=hw.focus u;by_cases hm0:m=0
  ·subst hm0;have O:news=[]:=jy (by simpa using hl);subst O;have y:k<=c:=by
    rcases p with⟨i,_,_⟩|⟨g,_,⟨o,n',h0,pre,f,fr,i,_,_,_,_,y,_⟩⟩
    ·injection i with e1 e2 e3;omega
    ·injection i with e1 e2 e3;omega
   refine⟨.slice a (k+0) c,w,H',l _ _ ?_,?_,h⟩
   ·have h2:(Builtin.firstCells sz 0 (.slice b 0 S)).run P w=.ok #[] w:=by cases b<;>simp[Builtin.firstCells,loadCells,loadCellsFrom]
    cases a<;>simp[Builtin.append_,run_underlying hu.h,hs.h,Builtin.lenOf,y,h2,storeCells]
   ·refine kk w b2 rfl rfl rfl (fun _ _ _=>rfl) ⟨b2,[],by simp,?_,rfl⟩ Z (fun _ hb=>.inl hb);have:L5 xs (k*sz) []=xs:=(by simp[L5]);rw[this];exact p
  ·have h3:news≠[]:=by
    rintro rfl;have:0<m*sz:=K8 qb V;simp at hl;omega
   obtain⟨ad,rfl,z⟩:=hsrc w hw h3;have r:∀j u,news[j]? =some u->w.cell? (ad.add j)=some u:=z;rcases p with⟨i,rfl,rfl⟩|⟨g,rfl,⟨o,n',h0,pre,f,fr,i,hg,ho,h4,h5,y,C⟩⟩
   ·injection i with e1 e2 e3;omega
   ·injection i with e1 e2 e3;subst e1 e2 e3;have D:k+m<=c:=(by omega);have Q:(⟨g,o,none⟩:Addr).add (k*sz)=⟨g,o+k*sz,none⟩:=Addr.add_lit _ _ _;have h6:k*sz+news.length<=xs.length:=by
     have:(k+m)*sz<=n*sz:=Qy _ hk;rw[Q0] at this;omega
    have v:=G5 (P:=P) g (o+k*sz) e fr news 0 (pre++xs++f).toArray w hg (by simpa using C) (by simp;omega) h1;have A:=run_firstCells_some (P:=P) w sz m ad m S news hl r;simp only[Q3,<-ho] at v;rw[fq pre xs f news (k*sz) h6] at v;have J:(L5 xs (k*sz) news).length=xs.length:=by
     simp only[L5,zz,zm,z8];omega
    refine⟨.slice (some ⟨g,o,none⟩) (k+m) c,w.setRow g (pre++L5 xs (k*sz) news++f).toArray,H',l _ _ ?_,?_,h⟩
    ·rw[ho] at v;simp[Builtin.append_,run_underlying hu.h,hs.h,Builtin.lenOf,D,A,Q];simp at v;simp[v]
    ·refine kk _ [g] rfl rfl rfl (fun q hq h7=>setRow_other w g q _ (by simpa using h7)) ⟨[g],[],rfl,.inr ⟨g,rfl,⟨o,n,c,pre,f,fr,rfl,setRow_heap w g _ _ e _ hg,ho,by rw[J];exact h4,?_,y,?_⟩⟩,rfl⟩ x6 (fun q hq=>.inl hq)
     ·simp only[zz,J];simpa using h5
     ·simp only[zz,J] at C⊢;exact C
theorem fL{dst:Option Nat}{gd:Option (Nat×Bool)}{a:Option Addr}{n c e sz:Nat}{lo:Option Operand}{d f:Operand}{q r:IntKind}{i j m:Int}[hu:HU P t (.slice e)][hs:HS P e sz](hx:ev L x=some (.slice a n c))(b:Cr L lo 0=some i)(g:ev L d=some (.int q j))(h:ev L f=some (.int r m))(k:0<=i/\i<=j/\j<=m/\m<=c):
  E2 P ⟨dst,.slice t x lo (some d) (some f),ty,pos,af,gd⟩ L (.slice (Y9 a m.toNat i.toNat sz) (j.toNat-i.toNat) (m.toNat-i.toNat)):=
 by
  unfold E2;intro ρ w hf;have s:=hf _ _ g;have v:=hf _ _ h;have l:(Instr.sliceBounds true n c (lo.map ρ) (some (ρ d)) (some (ρ f))).run P w=.ok (i.toNat,j.toNat,m.toNat) w:=by
   rw[s,v]
   cases lo with
   |none=>
    simp only[Cr,Qh] at b;subst b;have o:¬max m 0<j:=(by omega);simp[Instr.sliceBounds,Instr.sliceBound,asIntOf,k.2.2.2,show 0<=m from by omega,show 0<=j from by omega,o]
   |some o2=>
    have y:∃kk,ρ o2=.int kk i:=by
     simp only[Cr] at b
     cases e:ev L o2 with
     |none=>rw[e] at b;cases b
     |some u=>rw[e] at b;cases u<;>simp at b;subst b;exact⟨_,hf _ _ e⟩
    obtain⟨z,p⟩:=y;have A:i<=max j 0:=(by omega);have o:j<=max m 0:=(by omega);simp[Instr.sliceBounds,Instr.sliceBound,p,asIntOf,k.1,k.2.2.2,show 0<=m from by omega,show 0<=j from by omega,A,o]
  have C:(Instr.slice t (.slice a n c) (lo.map ρ) (some (ρ d)) (some (ρ f))).run P w=.ok (.slice (Y9 a m.toNat i.toNat sz) (j.toNat-i.toNat) (m.toNat-i.toNat)) w:=by
   simp only[Instr.slice,Sem.run_bind,run_underlying hu.h,Result.andThen_ok,l,hs.h,Sem.run_pure,Y9]
  have D:(Instr.sliceAt t (.slice a n c) (lo.map ρ) (some (ρ d)) (some (ρ f))).run P w=.ok (.slice (Y9 a m.toNat i.toNat sz) (j.toNat-i.toNat) (m.toNat-i.toNat)) w:=by
   simp only[Instr.sliceAt,Sem.run_bind,run_underlying hu.h,Result.andThen_ok,C]
  simp only[execOp,hf _ _ hx];rw[show(some d:Option Operand).map ρ=some (ρ d) from rfl,show(some f:Option Operand).map ρ=some (ρ f) from rfl,Sem.run_bind,D];rfl
theorem O6{α β γ:Type}{c:Code}(b:α->β->γ->Prop)(d:α->β->γ->G0)(HI:α->β->γ->List As)(μ:α->β->γ->Nat)(e:α)(f:β)(z0:γ)(g:b e f z0)(i:fo (d e f z0) L)(hH:∀w,Hp F w H->Hp F w (HI e f z0))(round:∀x y z,b x y z->G P N c (fun a w=>∃j:α×β×γ,b j.1 j.2.1 j.2.2/\μ j.1 j.2.1 j.2.2<μ x y z/\G4 N (d j.1 j.2.1 j.2.2) a/\Hp F w (HI j.1 j.2.1 j.2.2)) E R (d x y z) F (HI x y z)):G P N (.loop c) K E R L F H:=
 o9 (ι:=α×β×γ) (fun j=>b j.1 j.2.1 j.2.2) (fun j=>d j.1 j.2.1 j.2.2) (fun j=>HI j.1 j.2.1 j.2.2) (fun j=>μ j.1 j.2.1 j.2.2) (e,f,z0) g i hH fun j h=>round j.1 j.2.1 j.2.2 h
theorem vG{α β γ:Type}{c:Code}(b:α->β->γ->Prop)(f:α->β->γ->G0)(g:α->β->γ->l6)(HI:α->β->γ->List As)(μ:α->β->γ->Nat)(d:α)(e:β)(z0:γ)(i:b d e z0)(k:fo (f d e z0) L)(l:g d e z0=F)(hH:∀w,Hp F w H->Hp F w (HI d e z0))(round:∀x y z,b x y z->G P N c (fun a w=>∃j:α×β×γ,b j.1 j.2.1 j.2.2/\μ j.1 j.2.1 j.2.2<μ x y z/\G4 N (f j.1 j.2.1 j.2.2) a/\Hp (g j.1 j.2.1 j.2.2) w (HI j.1 j.2.1 j.2.2)) E R (f x y z) (g x y z) (HI x y z)):G P N (.loop c) K E R L F H:=
 bJ (ι:=α×β×γ) (fun j=>b j.1 j.2.1 j.2.2) (fun j=>f j.1 j.2.1 j.2.2) (fun j=>g j.1 j.2.1 j.2.2) (fun j=>HI j.1 j.2.1 j.2.2) (fun j=>μ j.1 j.2.1 j.2.2) (d,e,z0) i k l hH fun j h=>round j.1 j.2.1 j.2.2 h
end
theorem n7{P:Program}{N:Nat}{K R:y6}{E:List (Nat×y6)}{L:G0}{F:l6}{H:List As}{c:Code}{ι:Type}(d:ι->Prop)(L':ι->G0)(H':ι->List As)(f:G P N c (fun a w=>∃i,d i/\G4 N (L' i) a/\Hp F w (H' i)) E R L F H)(g:∀i,d i->At N K (L' i) F (H' i)):G P N c K E R L F H:=by
 unfold G At at*;intro a w hf b;refine Code.wp_mono (fun e a w q=>?_) (f a w hf b)
 cases e with
 |normal=>obtain⟨i,hp,hf,b⟩:=q;exact g i hp a w hf b
 |_=>exact q
theorem g_{N:Nat}{L:G0}{F:l6}{H:List As}{ι:Type}{b:ι->Prop}{L':ι->G0}{H':ι->List As}(i:ι)(hp:b i)(hH:∀w,Hp F w H->Hp F w (H' i))(hs:fo (L' i) L:=by exact sub):At N (fun a w=>∃i,b i/\G4 N (L' i) a/\Hp F w (H' i)) L F H:=by
 unfold At;exact fun a w hf c=>⟨i,hp,hf.sub hs,hH w c⟩
end Go.Sl
namespace Go.Proofs.YtmcepdopookilaaGreatDoor.Rp
open Go Go.Sl Go.RowKit Go.Proofs.Tryz
abbrev xF(f:Bs):List Value:=[B f]
theorem dh:∀x,(xF x).length=1:=fun _=>rfl
theorem AE(l:List Bs):fV l=l.flatMap xF:=by induction l with
 |nil=>rfl
 |cons x t ih=>rw[Q2,<-ih];rfl
theorem dW(a:Option Addr)(c sz:Nat):Y9 a c 0 sz=a:=by
 unfold Y9;split
 ·rfl
 ·cases a with
  |none=>rfl
  |some ad=>obtain⟨b,o,w⟩:=ad;simp[Addr.add]
theorem J_{α:Type}(q:α->Bool){l:List α}{j:Nat}(a:j<l.length):(l.take (j+1)).filter q=(l.take j).filter q++if q l[j] then[l[j]] else[]:=by
 rw[kj a,Wc];congr 1;simp[List.filter];split<;>simp_all
theorem jM{α:Type}{q:α->Bool}{l:List α}{j:Nat}(h:D1 q l=(j:Nat)):j<l.length/\(∀(g:j<l.length),q l[j]=true)/\(l.take j).filter (fun x=>!q x)=l.take j:=by
 unfold D1 at h
 cases h1:l.findIdx? q with
 |none=>rw[h1] at h;simp only[Option.elim] at h;omega
 |some i=>
  rw[h1] at h;simp only[Option.elim] at h;have:i=j:=by omega
  subst this;obtain⟨c,d,a⟩:=kg.1 h1;refine⟨c,fun _=>d,Ww.2 fun x e=>?_⟩;obtain⟨k,f,rfl⟩:=Zq e;have b:k<i:=by simp at f;omega
  rw[K5];simpa using a k b
theorem gu{α:Type}{q:α->Bool}{l:List α}(h:D1 q l= -1):l.filter (fun x=>!q x)=l:=by
 unfold D1 at h
 cases h1:l.findIdx? q with
 |none=>
  rw[Q5] at h1;exact Ww.2 fun x a=>by simpa using h1 x a
 |some i=>rw[h1] at h;simp only[Option.elim] at h;omega
theorem mM(l:List Bs)(a:Option Addr)(c:Nat)(f:FuncId)[HF prog f](qs:List Value)(d:l_->Prop)[Mn d](q:Bs->Bool)(p:∀x∈l,Pu prog f (B x::qs) d (.bool (q x)))(hl:l.length<=1000000000000):Pu prog 340 [.slice a l.length c,.func (.func f) #[] qs.toArray] (fun h=>o0 h a (l.flatMap xF)/\d h) (.int .i64 (D1 q l)):=by
 refine b_ 19 func340 rfl rfl rfl ?_;rintro F ⟨g,k⟩;refine O2 ?_;refine o9 (ι:=Nat) (fun j=>j<=l.length/\∀i (m:i<l.length),i<j->q l[i]=false) (fun j=>[(0,.slice a l.length c),(1,.func (.func f) #[] qs.toArray),(7,.int .i64 (l.length:Nat)),(8,.int .i64 (j:Nat))]) (fun _=>[]) (fun j=>l.length-j) 0 ⟨zw _,fun i _ h=>by omega⟩ sub i_ ?_;rintro j ⟨u,e⟩;refine R6 ?_ ?_<;>intro h
 ·have b:j<l.length:=by have:=qr h;omega
  have n:=y7 g dh qp b;refine cG ?_;refine r_ (i8 rfl (fun w r=>S4 (g.le r.keep) dh qp b x6)) ?_;refine A0 (ps:=[]) _ rfl rfl rfl (p _ (zx b)) i_ (fun h s _=>Mn.le s k) rfl ?_;rintro v A ⟨rfl,rfl⟩;refine N8 ?_ ?_<;>intro o
  ·refine L7 ?_;exact d_ rfl rfl [] ⟨by rw[N5 b o e],rfl⟩ i_
  ·refine y9 ?_;refine l8 (j+1) ⟨b,fun i m h=>?_⟩ qb sub i_;rcases kd.1 h with t|rfl
   ·exact e i m t
   ·exact o
 ·have b:j=l.length:=by have:=zq h;omega
  refine C8 ?_;exact d_ rfl rfl [] ⟨by rw[N4 fun i m=>e i m qb],rfl⟩ i_
theorem oK(l:List SX)(a:Option Addr)(c:Nat)(f:FuncId)[HF prog f](qs:List Value)(o:l_->Prop)[Mn o](q:SX->Bool)(hm:∀x∈l,Pu prog f (.agg (nj x).toArray::qs) o (.bool (q x)))(hl:l.length<=1000000000):Ct prog 103 [.slice a l.length c,.func (.func f) #[] qs.toArray] o [.own (.slice a l.length c) 102 5 (l.flatMap nj)] (fun v A=>v=.slice a (l.filter fun x=>!q x).length c/\A=[.own (.slice a (l.filter fun x=>!q x).length c) 102 5 ((l.filter fun x=>!q x).flatMap nj)]):=by
 refine b_ 42 func103 rfl rfl rfl ?_;intro F s;refine B4 (a:=a) (n:=l.length) (c:=c) (sz:=5) (xs:=l.flatMap nj) (te:=102) ud fun _ h7 d=>?_;refine E5 ?_;refine e_ rfl (aE nj X4 l a c f qs o q hm qb) (fun h Z ⟨bs,hb⟩=>⟨A3.rd hb ud,Mn.le Z s⟩) rfl ?_;refine eI ?_ ?_<;>intro h
 ·have hi:D1 q l= -1:=qr h;refine L7 ?_;exact d_ rfl rfl _ ⟨by rw[gu hi],rfl⟩ (fun w p=>by rw[gu hi];exact p)
 have h8:=df q l;obtain⟨X,O⟩:∃X:Nat,D1 q l=(X:Nat):=⟨(D1 q l).toNat,by have:=zq h;omega⟩;obtain⟨D,h0,h5⟩:=jM O;rw[O];refine E5 ?_;refine O6 (fun i j m=>i<j/\j<=l.length/\m.length=l.length/\m.take i=(l.take j).filter (fun x=>!q x)/\m.drop j=l.drop j) (fun i j m=>[(0,.slice a l.length c),(1,.func (.func f) #[] qs.toArray),(5,.int .i64 (i:Nat)),(6,.int .i64 (j:Nat))]) (fun i j m=>[.own (.slice a l.length c) 102 5 (m.flatMap nj)]) (fun i j m=>l.length-j) X (X+1) l ⟨W4 _,D,rfl,?_,rfl⟩ sub i_ ?_
 ·rw[J_ _ D,h5];have:=h0 D;simp[this]
 rintro i j m ⟨h9,hj,Q,g,S⟩;refine CO ?_ ?_<;>intro h
 ·have b:j<l.length:=by have:=qr h;omega
  have T:j<m.length:=by omega
  have U:i<m.length:=by omega
  have r:m[j]=l[j]:=by
   have Y:=jk (fun z=>z[0]?) S;simp only[Zu,Q3] at Y;rw[zj T,zj b] at Y;exact j8 Y
  have d:=d qb;refine E5 ?_;refine r_ (w8 rfl (fun w p=>fe (p.ownN (t:=102) ud).2.2.1 X4 qp T x6) (X4 _)) ?_;refine i7 rfl ?_;intro g7;refine E5 ?_;refine A0 (ps:=[]) _ rfl rfl rfl (hm _ (r▸zx b)) i_ (fun h Z _=>Mn.le Z s) rfl ?_;rintro v A ⟨rfl,rfl⟩;refine p_ ?_;have k:∀(V:Nat) (J:List SX),V<=j->J.length=l.length->J.take V=(l.take (j+1)).filter (fun x=>!q x)->J.drop (j+1)=l.drop (j+1)->V<j+1/\j+1<=l.length/\J.length=l.length/\J.take V=(l.take (j+1)).filter (fun x=>!q x)/\J.drop (j+1)=l.drop (j+1):=fun V J Y M h3 h4=>⟨by omega,b,M,h3,h4⟩;have u:m.drop (j+1)=l.drop (j+1):=by
   have:=jk (List.drop 1) S;simpa[Kr,Wu] using this
  refine o8 rfl ?_ ?_<;>intro M
  ·have hq:q l[j]=false:=(by rw[r] at M;simpa using M);refine O2 ?_;refine A9 (C:=nj) m[j] X4 U (j:=0) rfl ?_;refine cG ?_;refine l8 (i:=(i,j,m)) (i+1,j+1,m.set i m[j]) (k (i+1) (m.set i m[j]) qb (by simpa using Q) ?_ ?_) qg sub (fun w p=>(tk (C:=[_])).hp p|>.left)
   ·rw[dV U,J_ _ b,g,r];simp[hq]
   ·rw[Ks qb];exact u
  ·have hq:q l[j]=true:=(by rw[r] at M;simpa using M);refine E5 ?_;refine l8 (i:=(i,j,m)) (i,j+1,m) (k i m qb Q ?_ u) qg sub (fun w p=>(tk (C:=[_])).hp p|>.left);rw[J_ _ b,g];simp[hq]
 ·have b:j=l.length:=by have:=zq h;omega
  subst b;rw[j9] at g;have y:i=(l.filter fun x=>!q x).length:=by have:=jk List.length g;rw[zm] at this;omega
  refine y9 ?_;refine f_ (B5 rfl rfl rfl qb) ?_;refine jL (a:=a) (n:=l.length) (c:=c) (sz:=5) (lo:=i) (xs:=m.flatMap nj) (te:=102) rfl qb qb rfl rfl (fun ys=>uh) ?_;intro ys k0 h6;refine y9 ?_;refine f_ ((B5 rfl rfl rfl qb).eq (v':=.slice a i c) (by simp[dW])) ?_;refine C8 ?_;have e:ys.take (i*5)=(l.filter fun x=>!q x).flatMap nj:=by rw[h6,aA X4,g]
  exact d_ rfl rfl _ ⟨by rw[y],rfl⟩ (fun w p=>by rw[<-y,<-e];exact p.cutOwn uh qb)
theorem tM(l:List LM)(a:Option Addr)(c:Nat)(f:FuncId)[HF prog f](qs:List Value)(o:l_->Prop)[Mn o](q:LM->Bool)(hm:∀x∈l,Pu prog f (.agg (S8 x).toArray::qs) o (.bool (q x)))(hl:l.length<=1000000000):Ct prog 122 [.slice a l.length c,.func (.func f) #[] qs.toArray] o [.own (.slice a l.length c) 156 5 (l.flatMap S8)] (fun v A=>v=.slice a (l.filter fun x=>!q x).length c/\A=[.own (.slice a (l.filter fun x=>!q x).length c) 156 5 ((l.filter fun x=>!q x).flatMap S8)]):=by
 refine b_ 42 func122 rfl rfl rfl ?_;intro F s;refine B4 (a:=a) (n:=l.length) (c:=c) (sz:=5) (xs:=l.flatMap S8) (te:=156) ud fun _ h7 d=>?_;refine E5 ?_;refine e_ rfl (X_ S8 A_ l a c f qs o q hm qb) (fun h Z ⟨bs,hb⟩=>⟨A3.rd hb ud,Mn.le Z s⟩) rfl ?_;refine eI ?_ ?_<;>intro h
 ·have hi:D1 q l= -1:=qr h;refine L7 ?_;exact d_ rfl rfl _ ⟨by rw[gu hi],rfl⟩ (fun w p=>by rw[gu hi];exact p)
 have h8:=df q l;obtain⟨X,O⟩:∃X:Nat,D1 q l=(X:Nat):=⟨(D1 q l).toNat,by have:=zq h;omega⟩;obtain⟨D,h0,h5⟩:=jM O;rw[O];refine E5 ?_;refine O6 (fun i j m=>i<j/\j<=l.length/\m.length=l.length/\m.take i=(l.take j).filter (fun x=>!q x)/\m.drop j=l.drop j) (fun i j m=>[(0,.slice a l.length c),(1,.func (.func f) #[] qs.toArray),(5,.int .i64 (i:Nat)),(6,.int .i64 (j:Nat))]) (fun i j m=>[.own (.slice a l.length c) 156 5 (m.flatMap S8)]) (fun i j m=>l.length-j) X (X+1) l ⟨W4 _,D,rfl,?_,rfl⟩ sub i_ ?_
 ·rw[J_ _ D,h5];have:=h0 D;simp[this]
 rintro i j m ⟨h9,hj,Q,g,S⟩;refine CO ?_ ?_<;>intro h
 ·have b:j<l.length:=by have:=qr h;omega
  have T:j<m.length:=by omega
  have U:i<m.length:=by omega
  have r:m[j]=l[j]:=by
   have Y:=jk (fun z=>z[0]?) S;simp only[Zu,Q3] at Y;rw[zj T,zj b] at Y;exact j8 Y
  have d:=d qb;refine E5 ?_;refine r_ (w8 rfl (fun w p=>fe (p.ownN (t:=156) ud).2.2.1 A_ qp T x6) (A_ _)) ?_;refine i7 rfl ?_;intro g7;refine E5 ?_;refine A0 (ps:=[]) _ rfl rfl rfl (hm _ (r▸zx b)) i_ (fun h Z _=>Mn.le Z s) rfl ?_;rintro v A ⟨rfl,rfl⟩;refine p_ ?_;have k:∀(V:Nat) (J:List LM),V<=j->J.length=l.length->J.take V=(l.take (j+1)).filter (fun x=>!q x)->J.drop (j+1)=l.drop (j+1)->V<j+1/\j+1<=l.length/\J.length=l.length/\J.take V=(l.take (j+1)).filter (fun x=>!q x)/\J.drop (j+1)=l.drop (j+1):=fun V J Y M h3 h4=>⟨by omega,b,M,h3,h4⟩;have u:m.drop (j+1)=l.drop (j+1):=by
   have:=jk (List.drop 1) S;simpa[Kr,Wu] using this
  refine o8 rfl ?_ ?_<;>intro M
  ·have hq:q l[j]=false:=(by rw[r] at M;simpa using M);refine O2 ?_;refine A9 (C:=S8) m[j] A_ U (j:=0) rfl ?_;refine cG ?_;refine l8 (i:=(i,j,m)) (i+1,j+1,m.set i m[j]) (k (i+1) (m.set i m[j]) qb (by simpa using Q) ?_ ?_) qg sub (fun w p=>(tk (C:=[_])).hp p|>.left)
   ·rw[dV U,J_ _ b,g,r];simp[hq]
   ·rw[Ks qb];exact u
  ·have hq:q l[j]=true:=(by rw[r] at M;simpa using M);refine E5 ?_;refine l8 (i:=(i,j,m)) (i,j+1,m) (k i m qb Q ?_ u) qg sub (fun w p=>(tk (C:=[_])).hp p|>.left);rw[J_ _ b,g];simp[hq]
 ·have b:j=l.length:=by have:=zq h;omega
  subst b;rw[j9] at g;have y:i=(l.filter fun x=>!q x).length:=by have:=jk List.length g;rw[zm] at this;omega
  refine y9 ?_;refine f_ (B5 rfl rfl rfl qb) ?_;refine jL (a:=a) (n:=l.length) (c:=c) (sz:=5) (lo:=i) (xs:=m.flatMap S8) (te:=156) rfl qb qb rfl rfl (fun ys=>uh) ?_;intro ys k0 h6;refine y9 ?_;refine f_ ((B5 rfl rfl rfl qb).eq (v':=.slice a i c) (by simp[dW])) ?_;refine C8 ?_;have e:ys.take (i*5)=(l.filter fun x=>!q x).flatMap S8:=by rw[h6,aA A_,g]
  exact d_ rfl rfl _ ⟨by rw[y],rfl⟩ (fun w p=>by rw[<-y,<-e];exact p.cutOwn uh qb)
theorem CY(l:List Bs)(a:Option Addr)(c:Nat)(f:FuncId)[HF prog f](qs:List Value)(o:l_->Prop)[Mn o](q:Bs->Bool)(hm:∀x∈l,Pu prog f (B x::qs) o (.bool (q x)))(hl:l.length<=1000000000):Ct prog 271 [.slice a l.length c,.func (.func f) #[] qs.toArray] o [.own (.slice a l.length c) 9 1 (l.flatMap xF)] (fun v A=>v=.slice a (l.filter fun x=>!q x).length c/\A=[.own (.slice a (l.filter fun x=>!q x).length c) 9 1 ((l.filter fun x=>!q x).flatMap xF)]):=by
 refine b_ 42 func271 rfl rfl rfl ?_;intro F s;refine B4 (a:=a) (n:=l.length) (c:=c) (sz:=1) (xs:=l.flatMap xF) (te:=9) ud fun _ h7 d=>?_;refine E5 ?_;refine e_ rfl (mM l a c f qs o q hm qb) (fun h Z ⟨bs,hb⟩=>⟨A3.rd hb ud,Mn.le Z s⟩) rfl ?_;refine eI ?_ ?_<;>intro h
 ·have hi:D1 q l= -1:=qr h;refine L7 ?_;exact d_ rfl rfl _ ⟨by rw[gu hi],rfl⟩ (fun w p=>by rw[gu hi];exact p)
 have h8:=df q l;obtain⟨X,O⟩:∃X:Nat,D1 q l=(X:Nat):=⟨(D1 q l).toNat,by have:=zq h;omega⟩;obtain⟨D,h0,h5⟩:=jM O;rw[O];refine E5 ?_;refine O6 (fun i j m=>i<j/\j<=l.length/\m.length=l.length/\m.take i=(l.take j).filter (fun x=>!q x)/\m.drop j=l.drop j) (fun i j m=>[(0,.slice a l.length c),(1,.func (.func f) #[] qs.toArray),(5,.int .i64 (i:Nat)),(6,.int .i64 (j:Nat))]) (fun i j m=>[.own (.slice a l.length c) 9 1 (m.flatMap xF)]) (fun i j m=>l.length-j) X (X+1) l ⟨W4 _,D,rfl,?_,rfl⟩ sub i_ ?_
 ·rw[J_ _ D,h5];have:=h0 D;simp[this]
 rintro i j m ⟨h9,hj,Q,g,S⟩;refine CO ?_ ?_<;>intro h
 ·have b:j<l.length:=by have:=qr h;omega
  have T:j<m.length:=by omega
  have U:i<m.length:=by omega
  have r:m[j]=l[j]:=by
   have Y:=jk (fun z=>z[0]?) S;simp only[Zu,Q3] at Y;rw[zj T,zj b] at Y;exact j8 Y
  have d:=d qb;refine E5 ?_;refine r_ (i8 rfl (fun w p=>cH (j:=0) (p.ownN (t:=9) ud).2.2.1 dh T rfl x6)) ?_;refine a_ ?_;refine y9 ?_;refine A0 (ps:=[]) _ rfl rfl rfl (hm _ (r▸zx b)) i_ (fun h Z _=>Mn.le Z s) rfl ?_;rintro v A ⟨rfl,rfl⟩;refine p_ ?_;have k:∀(V:Nat) (J:List Bs),V<=j->J.length=l.length->J.take V=(l.take (j+1)).filter (fun x=>!q x)->J.drop (j+1)=l.drop (j+1)->V<j+1/\j+1<=l.length/\J.length=l.length/\J.take V=(l.take (j+1)).filter (fun x=>!q x)/\J.drop (j+1)=l.drop (j+1):=fun V J Y M h3 h4=>⟨by omega,b,M,h3,h4⟩;have u:m.drop (j+1)=l.drop (j+1):=by
   have:=jk (List.drop 1) S;simpa[Kr,Wu] using this
  refine o8 rfl ?_ ?_<;>intro M
  ·have hq:q l[j]=false:=(by rw[r] at M;simpa using M);refine O2 ?_;refine A9 (C:=xF) m[j] dh U (j:=0) rfl ?_;refine cG ?_;refine l8 (i:=(i,j,m)) (i+1,j+1,m.set i m[j]) (k (i+1) (m.set i m[j]) qb (by simpa using Q) ?_ ?_) qg sub (fun w p=>(tk (C:=[_])).hp p|>.left)
   ·rw[dV U,J_ _ b,g,r];simp[hq]
   ·rw[Ks qb];exact u
  ·have hq:q l[j]=true:=(by rw[r] at M;simpa using M);refine E5 ?_;refine l8 (i:=(i,j,m)) (i,j+1,m) (k i m qb Q ?_ u) qg sub (fun w p=>(tk (C:=[_])).hp p|>.left);rw[J_ _ b,g];simp[hq]
 ·have b:j=l.length:=by have:=zq h;omega
  subst b;rw[j9] at g;have y:i=(l.filter fun x=>!q x).length:=by have:=jk List.length g;rw[zm] at this;omega
  refine y9 ?_;refine f_ (B5 rfl rfl rfl qb) ?_;refine jL (a:=a) (n:=l.length) (c:=c) (sz:=1) (lo:=i) (xs:=m.flatMap xF) (te:=9) rfl qb qb rfl rfl (fun ys=>uh) ?_;intro ys k0 h6;refine y9 ?_;refine f_ ((B5 rfl rfl rfl qb).eq (v':=.slice a i c) (by simp[dW])) ?_;refine C8 ?_;have e:ys.take (i*1)=(l.filter fun x=>!q x).flatMap xF:=by rw[h6,aA dh,g]
  exact d_ rfl rfl _ ⟨by rw[y],rfl⟩ (fun w p=>by rw[<-y,<-e];exact p.cutOwn uh qb)
end Go.Proofs.YtmcepdopookilaaGreatDoor.Rp
namespace Go.Sl
open Go Go.RowKit Go.Proofs.Tryz
section
variable{P:Program}{N:Nat}{K R:y6}{E:List (Nat×y6)}{L:G0}{F:l6}{H:List As}{ops:Array Oper}{rest:List Oper}{ty:TypeId}{pos:String}{af:Array Edge}{t tn:TypeId}{s x:Operand}
theorem oL{d n sz:Nat}{r k:IntKind}{e:TypeId}{z:Value}{i:TypeInfo}[hu:HU P t (.slice e)][hn:HU P tn (.int r)][hz:HZ P e z][hi:HI P e i][hs:HS P e sz](m:ev L s=some (.slice none 0 0))(o:ev L x=some (.int k (n:Nat)))(u:0<n)(p:0<sz)(b:z.cells.size=sz)(l:n*i.bytes<=140737488355328)(h63:n<=9223372036854775807)(v:Nat.blt d N=true)(h:∀g c,n<=c->GL P N ops rest K E R ((d,.slice (some ⟨g,0,none⟩) n c)::L) F (.own (.slice (some ⟨g,0,none⟩) n c) e sz (Builtin.zeroCells z.cells n).toList::H)):
  GL P N ops (⟨some d,.call ⟨.builtin .append,#[s,x],#[t,tn]⟩,ty,pos,af,none⟩::rest) K E R L F H:=
 R_ rfl rfl v fun C w hf y=>by
  have f:i.size=sz:=by
   have a:=hs.h w;simp[sizeOf,typeInfo,hi.h] at a;exact a
  have q:i.zero=some z:=by
   have a:=hz.h w;simp only[zeroValue,Sem.run_bind,typeInfo] at a
   cases hq:i.zero with
   |none=>simp[hi.h,hq] at a
   |some z'=>simp[hi.h,hq] at a;rw[a]
  have A:=Go.Lib.run_append_nil_zeros (P:=P) w t tn ty e i z k r hu.h hn.h hi.h q n u (by rw[f];exact p) qb qb;have j:=grownCap_ge w n 0 e;refine⟨.slice (some ⟨w.heap.size,0,none⟩) n (grownCap w n 0 e),w.drew.alloc (.cells (Builtin.zeroCells z.cells n++Builtin.zeroCells z.cells (grownCap w n 0 e-n)) e),_,?_,?_,h w.heap.size (grownCap w n 0 e) j⟩
  ·simp[execOp,resolve,invoke,builtin,hf.eval m,hf.eval o,A]
  ·refine O8 (w:=w.drew) (post:=(Builtin.zeroCells z.cells (grownCap w n 0 e-n)).toList) (fr:=(0,0)) y.drew' ?_ ?_ j (.inl (z1 _)) ?_
   ·simp[size_zeroCells,b]
   ·simp only[zz,Zs,size_zeroCells,b,<-Q0];congr 1;omega
   ·congr 2;apply Q6.1;simp
end
