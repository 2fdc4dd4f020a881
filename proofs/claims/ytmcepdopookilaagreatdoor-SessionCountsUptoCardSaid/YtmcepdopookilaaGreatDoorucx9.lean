import Derived.Test.YtmcepdopookilaaGreatDoorucx8
import Derived.Lib.AppendZeros
set_option linter.unusedVariables false
set_option linter.unusedSimpArgs false
set_option linter.defProp false
namespace Go.Proofs.YtmcepdopookilaaGreatDoor.Rp
open Go Go.Sl Go.RowKit Go.Proofs.Tryz
abbrev iA(r:Nat×Nat):List Value:=[.int .u64 (r.1:Nat),.int .u64 (r.2:Nat)]
abbrev V7(l:List (Nat×Nat)):List Value:=l.flatMap iA
theorem D0:∀x,(iA x).length=2:=fun _=>rfl
theorem ni:∀x,∀q∈iA x,q.oneCell'=true:=fun x q a=>by simp at a;rcases a with rfl|rfl<;>rfl
theorem bO(l:List (Nat×Nat)):(V7 l).length=l.length*2:=M6 (C:=iA) D0 l
theorem eM(l:List (Nat×Nat)):∀q∈V7 l,q.oneCell'=true:=cO (C:=iA) ni l
theorem oJ(a b:List (Nat×Nat)):V7 (a++b)=V7 a++V7 b:=Z8
abbrev V3(a:Option Addr)(l:List (Nat×Nat))(c:Nat):As:=.own (.slice a l.length c) 178 2 (V7 l)
abbrev l5(a:Option Addr)(l:List (Nat×Nat))(c:Nat):As:=.own (.slice a l.length c) 72 2 (V7 l)
abbrev U2(a:Option Addr)(l:List Nat)(c:Nat):As:=.own (.slice a l.length c) 27 1 (nV l)
abbrev cX(i:IT):List Value:=[.int .i64 (i.kind:Nat),.bool i.peek,.bool i.part,.int .u64 (i.fr:Nat),.int .u64 (i.count:Nat)]
abbrev oK(l:List IT):List Value:=l.flatMap cX
theorem am:∀x,(cX x).length=5:=fun _=>rfl
theorem gu:∀x,∀q∈cX x,q.oneCell'=true:=fun x q a=>by simp at a;rcases a with rfl|rfl|rfl|rfl|rfl<;>rfl
theorem tK(l:List IT):(oK l).length=l.length*5:=M6 (C:=cX) am l
theorem nj(l:List IT):∀q∈oK l,q.oneCell'=true:=cO (C:=cX) gu l
abbrev bP(a:Option Addr)(l:List IT)(c:Nat):As:=.own (.slice a l.length c) 129 5 (oK l)
structure KM where
 k:KY
 a:Option Addr
 c:Nat
abbrev bD(x:KM):List Value:=[.int .i64 (x.k.kind:Nat),.int .i64 (x.k.kids:Nat),B x.k.field,B x.k.text,.int .u64 (x.k.n:Nat),.slice x.a x.k.set.length x.c]
abbrev qM(l:List KM):List Value:=l.flatMap bD
theorem an:∀x,(bD x).length=6:=fun _=>rfl
theorem AB:∀x,∀q∈bD x,q.oneCell'=true:=fun x q a=>by simp at a;rcases a with rfl|rfl|rfl|rfl|rfl|rfl<;>rfl
theorem tL(l:List KM):(qM l).length=l.length*6:=M6 (C:=bD) an l
theorem Le(l:List KM):∀q∈qM l,q.oneCell'=true:=cO (C:=bD) AB l
abbrev a1t(a:Option Addr)(l:List KM)(c:Nat):As:=.own (.slice a l.length c) 127 6 (qM l)
structure CL where
 sa:Option Addr
 sc:Nat
 ia:Option Addr
 ic:Nat
 ka:Option Addr
 kc:Nat
 fa:Option Addr
 fc:Nat
abbrev G9:CL:=⟨none,0,none,0,none,0,none,0⟩
abbrev lh(c:CM)(x:CL):List Value:=[B c.tag,.int .i64 (c.kind:Nat),.bool c.uid,.bool c.cond,B c.box,B c.user,B c.pass,B c.a5N,.slice x.sa c.set.length x.sc,.slice x.ia c.a5J.length x.ic,.slice x.ka c.keys.length x.kc,.int .i64 (c.how:Nat),.bool c.a5P,.bool c.a5K,.int .u64 (c.a5L:Nat),.slice x.fa c.a5R.length x.fc,B c.data]
abbrev xL(c:CM)(x:CL):Value:=.agg (lh c x).toArray
structure fj(c:CM)(x:CL)(h:l9):Prop where
 set:o0 h x.sa (V7 c.set)
 a5J:o0 h x.ia (oK c.a5J)
 keys:∃kl:List KM,kl.map KM.k=c.keys/\o0 h x.ka (qM kl)/\∀m∈kl,o0 h m.a (V7 m.k.set)
 a5R:o0 h x.fa (fV c.a5R)
instance {c:CM} {x:CL}:Mn (fj c x):=⟨fun l k=>⟨k.set.le l,k.a5J.le l,by obtain⟨kl,h1,h2,h3⟩:=k.keys;exact⟨kl,h1,h2.le l,fun m hm=>(h3 m hm).le l⟩,k.a5R.le l⟩⟩
theorem fj.zero(h:l9):fj iw G9 h:=⟨o0.nil _ _,o0.nil _ _,⟨[],rfl,o0.nil _ _,qy⟩,o0.nil _ _⟩
abbrev EX(k:KY):Prop:=k.set.length<=64/\k.text.length<=2000000000/\k.field.length<=2000000000/\k.kids<=2000000000
structure tM(c:CM):Prop where
 set:c.set.length<=64
 a5J:c.a5J.length<=8
 keys:c.keys.length<=32
 ksets:∀k∈c.keys,EX k
 a5R:c.a5R.length<=16
 data:c.data.length<=4096
 pat:c.a5N.length<=2000000000
structure SL where
 ra:Option Addr
 rc:Nat
 ua:Option Addr
 uc:Nat
 cl:CL
abbrev rf:SL:=⟨none,0,none,0,G9⟩
abbrev Gh(v:VW)(a:Option Addr)(c:Nat):List Value:=[B v.box,.int .u64 (v.val:Nat),.slice a v.a5F.length c]
abbrev mJ(s:SE)(x:SL):List Value:=[.int .i64 (s.a5H:Nat),.int .u64 (s.ses:Nat),.int .u64 (s.num:Nat),B s.a5G.box,.int .u64 (s.a5G.val:Nat),.slice x.ra s.a5G.a5F.length x.rc,.bool s.ro,.bool s.cond,.bool s.a5M,
 B s.cmd.tag,.int .i64 (s.cmd.kind:Nat),.bool s.cmd.uid,.bool s.cmd.cond,B s.cmd.box,B s.cmd.user,B s.cmd.pass,B s.cmd.a5N,.slice x.cl.sa s.cmd.set.length x.cl.sc,.slice x.cl.ia s.cmd.a5J.length x.cl.ic,.slice x.cl.ka s.cmd.keys.length x.cl.kc,.int .i64 (s.cmd.how:Nat),.bool s.cmd.a5P,.bool s.cmd.a5K,.int .u64 (s.cmd.a5L:Nat),.slice x.cl.fa s.cmd.a5R.length x.cl.fc,B s.cmd.data,
 .slice x.ua s.a5I.length x.uc]
abbrev rP(s:SE)(x:SL):Value:=.agg (mJ s x).toArray
structure U3(s:SE)(x:SL)(h:l9):Prop where
 a5I:o0 h x.ua (nV s.a5I)
 cmd:fj s.cmd x.cl h
instance {s:SE} {x:SL}:Mn (U3 s x):=⟨fun l k=>⟨k.a5I.le l,Mn.le l k.cmd⟩⟩
structure Sx(s:SE):Prop where
 a5F:s.a5G.a5F.length<=1000000
 a5I:s.a5I.length<=1000000
 cmd:tM s.cmd
structure QL where
 ua:Option Addr
 uc:Nat
 fa:Option Addr
 fc:Nat
abbrev cY:QL:=⟨none,0,none,0⟩
abbrev eB(r:RQ)(x:QL):List Value:=[.int .i64 r.op,.int .u64 (r.ses:Nat),.int .u64 (r.num:Nat),.int .i64 r.node,.int .u64 (r.life:Nat),.int .u64 (r.tr:Nat),B r.box,B r.tz,.int .u64 (r.val:Nat),.slice x.ua r.a5I.length x.uc,.slice x.fa r.a5R.length x.fc,.int .i64 r.how,.bool r.hasS,.int .u64 (r.a5L:Nat),B r.hash,.int .u64 (r.size:Nat),.int .u64 (r.a5O:Nat)]
abbrev Ra(r:RQ)(x:QL):Value:=.agg (eB r x).toArray
structure dB(r:RQ)(x:QL)(h:l9):Prop where
 a5I:o0 h x.ua (V7 r.a5I)
 a5R:o0 h x.fa (fV r.a5R)
instance {r:RQ} {x:QL}:Mn (dB r x):=⟨fun l k=>⟨k.a5I.le l,k.a5R.le l⟩⟩
abbrev RM:=RR×RL
abbrev xM(m:RM):List Value:=tD m.1 m.2
theorem aJ:∀x,(xM x).length=10:=fun _=>rfl
theorem jH:∀x,∀q∈xM x,q.oneCell'=true:=fun x q a=>by simp at a;rcases a with rfl|rfl|rfl|rfl|rfl|rfl|rfl|rfl|rfl|rfl<;>rfl
abbrev TW(l:List RM):List Value:=l.flatMap xM
abbrev r8(a:Option Addr)(l:List RM)(c:Nat):As:=.own (.slice a l.length c) 51 10 (TW l)
structure DL where
 da:Option Addr
 dc:Nat
 ql:QL
 wa:Option Addr
 wc:Nat
 rl:List RM
abbrev N0:DL:=⟨none,0,cY,none,0,[]⟩
abbrev tN(d:DD)(y:DL):List Value:=[.slice y.da y.rl.length y.dc,.bool d.ask,
 .int .i64 d.req.op,.int .u64 (d.req.ses:Nat),.int .u64 (d.req.num:Nat),.int .i64 d.req.node,.int .u64 (d.req.life:Nat),.int .u64 (d.req.tr:Nat),B d.req.box,B d.req.tz,.int .u64 (d.req.val:Nat),.slice y.ql.ua d.req.a5I.length y.ql.uc,.slice y.ql.fa d.req.a5R.length y.ql.fc,.int .i64 d.req.how,.bool d.req.hasS,.int .u64 (d.req.a5L:Nat),B d.req.hash,.int .u64 (d.req.size:Nat),.int .u64 (d.req.a5O:Nat),
 .bool d.store,B d.body,.slice y.wa d.want.length y.wc,.bool d.close]
abbrev Lf(d:DD)(y:DL):Value:=.agg (tN d y).toArray
structure Db(d:DD)(y:DL)(h:l9):Prop where
 a5Q:d.a5Q=y.rl.map Prod.fst
 rep:∀m∈y.rl,fE m.1 m.2 h
 req:dB d.req y.ql h
 want:o0 h y.wa (fV d.want)
instance {r:RR} {x:RL}:Mn (fE r x):=⟨fun l k=>k.le l⟩
instance {d:DD} {y:DL}:Mn (Db d y):=⟨fun l k=>⟨k.a5Q,fun m hm=>(k.rep m hm).le l,Mn.le l k.req,k.want.le l⟩⟩
theorem Db.zero(h:l9):Db F9 N0 h:=⟨rfl,qy,⟨o0.nil _ _,o0.nil _ _⟩,o0.nil _ _⟩
abbrev E8(b:Nat)(s:SE)(x:SL)(d:DD)(y:DL):As:=.blk b (.cells (mJ s x++tN d y).toArray 141)
structure iB(s:SE)(x:SL)(d:DD)(y:DL)(h:l9):Prop where
 se:U3 s x h
 dd:Db d y h
instance {s:SE} {x:SL} {d:DD} {y:DL}:Mn (iB s x d y):=⟨fun l k=>⟨Mn.le l k.se,Mn.le l k.dd⟩⟩
structure LM where
 t:LT
 a:Option Addr
 c:Nat
abbrev S9(x:LM):List Value:=[.int .u64 (x.t.uid:Nat),.slice x.a x.t.a5R.length x.c,.int .u64 (x.t.mod:Nat),B x.t.hash,.int .u64 (x.t.size:Nat)]
abbrev qN(l:List LM):List Value:=l.flatMap S9
theorem A_:∀x,(S9 x).length=5:=fun _=>rfl
theorem nk:∀x,∀q∈S9 x,q.oneCell'=true:=fun x q a=>by simp at a;rcases a with rfl|rfl|rfl|rfl|rfl<;>rfl
theorem AD(l:List LM):(qN l).length=l.length*5:=M6 (C:=S9) A_ l
theorem AE(l:List LM):∀q∈qN l,q.oneCell'=true:=cO (C:=S9) nk l
abbrev N_(a:Option Addr)(l:List LM)(c:Nat):As:=.own (.slice a l.length c) 156 5 (qN l)
def iC(l:List LM)(h:l9):Prop:=∀m∈l,o0 h m.a (fV m.t.a5R)
instance {l:List LM}:Mn (iC l):=⟨fun le k m hm=>(k m hm).le le⟩
structure BM where
 name:Bs
 val:Nat
 next:Nat
 high:Nat
 ls:List LM
 a:Option Addr
 c:Nat
abbrev Gi:BM:=⟨[],0,0,0,[],none,0⟩
abbrev BM.x(b:BM):BX:=⟨b.name,b.val,b.next,b.high,b.ls.map LM.t⟩
abbrev cZ(b:BM):List Value:=[B b.name,.int .u64 (b.val:Nat),.int .u64 (b.next:Nat),.int .u64 (b.high:Nat),.slice b.a b.ls.length b.c]
abbrev JY(b:BM):Value:=.agg (cZ b).toArray
abbrev fb(l:List BM):List Value:=l.flatMap cZ
theorem p7:∀x,(cZ x).length=5:=fun _=>rfl
theorem AF:∀x,∀q∈cZ x,q.oneCell'=true:=fun x q a=>by simp at a;rcases a with rfl|rfl|rfl|rfl|rfl<;>rfl
theorem np(l:List BM):(fb l).length=l.length*5:=M6 (C:=cZ) p7 l
theorem AG(l:List BM):∀q∈fb l,q.oneCell'=true:=cO (C:=cZ) AF l
abbrev S_(a:Option Addr)(l:List BM)(c:Nat):As:=.own (.slice a l.length c) 100 5 (fb l)
structure fJ(b:BM)(h:l9):Prop where
 ls:o0 h b.a (qN b.ls)
 fl:iC b.ls h
instance {b:BM}:Mn (fJ b):=⟨fun l k=>⟨k.ls.le l,Mn.le l k.fl⟩⟩
theorem fJ.zero(h:l9):fJ Gi h:=⟨o0.nil _ _,fun _ h=>by cases h⟩
abbrev nq(s:SX):List Value:=[.int .u64 (s.ses:Nat),.int .u64 (s.last:Nat),.int .i64 s.node,.int .u64 (s.life:Nat),.int .u64 (s.tr:Nat)]
abbrev JZ(l:List SX):List Value:=l.flatMap nq
theorem X3:∀x,(nq x).length=5:=fun _=>rfl
theorem AH:∀x,∀q∈nq x,q.oneCell'=true:=fun x q a=>by simp at a;rcases a with rfl|rfl|rfl|rfl|rfl<;>rfl
theorem AI(l:List SX):(JZ l).length=l.length*5:=M6 (C:=nq) X3 l
theorem AJ(l:List SX):∀q∈JZ l,q.oneCell'=true:=cO (C:=nq) AH l
abbrev T0(a:Option Addr)(l:List SX)(c:Nat):As:=.own (.slice a l.length c) 102 5 (JZ l)
abbrev gv(s:HO):List Value:=[.int .i64 s.node,.int .u64 (s.life:Nat),.int .u64 (s.tr:Nat)]
abbrev Ka(l:List HO):List Value:=l.flatMap gv
theorem O4:∀x,(gv x).length=3:=fun _=>rfl
theorem AK:∀x,∀q∈gv x,q.oneCell'=true:=fun x q a=>by simp at a;rcases a with rfl|rfl|rfl<;>rfl
theorem Lg(l:List HO):(Ka l).length=l.length*3:=M6 (C:=gv) O4 l
theorem Lh(l:List HO):∀q∈Ka l,q.oneCell'=true:=cO (C:=gv) AK l
abbrev P4(a:Option Addr)(l:List HO)(c:Nat):As:=.own (.slice a l.length c) 104 3 (Ka l)
structure MM where
 a5C:List BM
 nval:Nat
 a5D:List HO
 a5E:List SX
 nses:Nat
 a5O:Nat
 ba:Option Addr
 bc:Nat
 ha:Option Addr
 hc:Nat
 sa:Option Addr
 sc:Nat
abbrev MM.s(m:MM):ML:=⟨m.a5C.map BM.x,m.nval,m.a5D,m.a5E,m.nses,m.a5O⟩
abbrev iD(m:MM):List Value:=[.slice m.ba m.a5C.length m.bc,.int .u64 (m.nval:Nat),.slice m.ha m.a5D.length m.hc,.slice m.sa m.a5E.length m.sc,.int .u64 (m.nses:Nat),.int .u64 (m.a5O:Nat)]
abbrev uR(m:MM):Value:=.agg (iD m).toArray
structure iE(m:MM)(h:l9):Prop where
 a5C:o0 h m.ba (fb m.a5C)
 a5D:o0 h m.ha (Ka m.a5D)
 a5E:o0 h m.sa (JZ m.a5E)
 box:∀b∈m.a5C,fJ b h
instance {m:MM}:Mn (iE m):=⟨fun l k=>⟨k.a5C.le l,k.a5D.le l,k.a5E.le l,fun b hb=>Mn.le l (k.box b hb)⟩⟩
structure OL where
 ua:Option Addr
 uc:Nat
 ma:Option Addr
 mc:Nat
abbrev M8:OL:=⟨none,0,none,0⟩
abbrev tO(o:OC)(y:OL):List Value:=[.int .i64 o.code,.int .u64 (o.ses:Nat),.int .u64 (o.val:Nat),.slice y.ua o.a5I.length y.uc,.slice y.ma o.mods.length y.mc]
abbrev TX(o:OC)(y:OL):Value:=.agg (tO o y).toArray
structure L9(o:OC)(y:OL)(h:l9):Prop where
 a5I:o0 h y.ua (nV o.a5I)
 mods:o0 h y.ma (nV o.mods)
instance {o:OC} {y:OL}:Mn (L9 o y):=⟨fun l k=>⟨k.a5I.le l,k.mods.le l⟩⟩
theorem L9.zero(h:l9):L9 B9 M8 h:=⟨o0.nil _ _,o0.nil _ _⟩
theorem L9.nil(h:l9)(o:OC)(y:OL)(hu:o.a5I=[])(a:o.mods=[]):L9 o y h:=⟨by rw[hu];exact o0.nil _ _,by rw[a];exact o0.nil _ _⟩
abbrev Oe(m:MM)(r:RQ)(q:QL)(o:OC)(y:OL):List Value:=iD m++eB r q++tO o y
abbrev R9(b:Nat)(m:MM)(r:RQ)(q:QL)(o:OC)(y:OL):As:=.blk b (.cells (Oe m r q o y).toArray 136)
def V_(l:List BM):List As:=l.map fun b=>N_ b.a b.ls b.c
theorem Li(a b:List BM):V_ (a++b)=V_ a++V_ b:=by simp[V_]
abbrev uS(m:MM):List As:=T0 m.sa m.a5E m.sc::P4 m.ha m.a5D m.hc::S_ m.ba m.a5C m.bc::V_ m.a5C
structure Dc(b:BX):Prop where
 name:b.name.length<=64
 val:b.val<=4294967296
 next:b.next<=4294967296
 high:b.high<=D_
 lts:b.lts.length<=32
 uid:∀x∈b.lts,x.uid<b.next
 a5R:∀x∈b.lts,x.a5R.length<=16/\∀f∈x.a5R,f.length<=32
 mod:∀x∈b.lts,x.mod<=D_
 size:∀x∈b.lts,x.size<=4096
 hash:∀x∈b.lts,x.hash.length=32
structure U4(s:ML):Prop where
 a5C:s.a5C.length<=8
 box:∀b∈s.a5C,Dc b
 sorted:s.a5C.Pairwise fun x y=>gV x.name y.name=true
 a5D:s.a5D.Pairwise fun x y=>x.node<y.node
 home:∀h∈s.a5D,1<=h.node/\h.node<=5/\h.life<18446744073709551616/\h.tr<18446744073709551616
 a5E:s.a5E.length<=16
 seat:∀x∈s.a5E,1<=x.ses/\x.ses<s.nses/\x.last<18446744073709551616/\x.life<18446744073709551616/\x.tr<18446744073709551616
 nval:s.nval<=4294967296
 nses:s.nses<=Da
 a5O:s.a5O<=D_
abbrev O3(b:Nat)(s:SE)(x:SL)(d:DD)(y:DL):List As:=[E8 b s x d y,r8 y.da y.rl y.dc]
abbrev E_(y:DL)(m:RM)(a:Option Addr)(c:Nat):DL:={y with da:=a,dc:=c,rl:=y.rl++[m]}
theorem V4(b:Nat)(s:SE)(x:SL)(d:DD)(y:DL)(r:RR)(z:RL)(hl:y.rl.length<=100000000):Ct prog 69 [m6 b,KZ r z] (fun _=>True) (O3 b s x d y) (fun v A=>v=.tuple #[]/\∃a c,A=O3 b s x d (E_ y (r,z) a c)):=by
 refine b_ 16 func69 rfl rfl rfl ?_;intro F _;refine p_ ?_;intro j;refine u7 ?_;refine Ar [5,6] [7,8,12] 13 ?_;refine wd [0,1,2,3,4,5,6] ?_;refine h_ 7 rfl i6 ?_;refine C4 xM (r,z) rfl ?_;intro h g;refine ae ?_;refine h_ 8 rfl i6 ?_;refine u6 xM (l:=y.rl) (m:=[(r,z)]) aJ jH (by show(y.rl.length+1)*160<=_;omega) ?_;intro e f _;refine E5 [9,10,11,12] ?_;exact l_ rfl _ ⟨rfl,e,f,rfl⟩ fun w i=>x7.left tk i
theorem li(b:Nat)(s:SE)(x:SL)(d:DD)(y:DL)(tag text:Bs)(hl:y.rl.length<=100000000):Ct prog 72 [m6 b,B tag,B text] (fun _=>True) (O3 b s x d y) (fun v A=>v=.tuple #[]/\∃a c,A=O3 b s x d (E_ y (fh tag text,L0) a c)):=by
 refine b_ 11 func72 rfl rfl rfl ?_;intro F _;refine O2 ?_;refine c_ (V4 b s x d y (fh tag text) L0 hl) qw ?_;rintro v A ⟨rfl,a,c,rfl⟩;refine u7 ?_;exact l_ rfl _ ⟨rfl,a,c,rfl⟩ fun w e=>x7.left tk e
theorem Gj(b:Nat)(s:SE)(x:SL)(d:DD)(y:DL)(tag code text:Bs)(hl:y.rl.length<=100000000):Ct prog 80 [m6 b,B tag,B code,B text] (fun _=>True) (O3 b s x d y) (fun v A=>v=.tuple #[]/\∃a c,A=O3 b s x d (E_ y (lW tag code text,L0) a c)):=by
 refine b_ 14 func80 rfl rfl rfl ?_;intro F _;refine aH ?_;refine c_ (V4 b s x d y (lW tag code text) L0 hl) qw ?_;rintro v A ⟨rfl,a,c,rfl⟩;refine u7 ?_;exact l_ rfl _ ⟨rfl,a,c,rfl⟩ fun w e=>x7.left tk e
theorem nr(b:Nat)(s:SE)(x:SL)(d:DD)(y:DL)(tag:Bs)(hl:y.rl.length<=100000000):Ct prog 167 [m6 b,B tag] (fun _=>True) (O3 b s x d y) (fun v A=>v=.tuple #[]/\∃a c,A=O3 b s x d (E_ y (dA tag,L0) a c)):=by
 refine b_ 8 func167 rfl rfl rfl ?_;intro F _;refine E4 ?_;refine c_ (V4 b s x d y (dA tag) L0 hl) qw ?_;rintro v A ⟨rfl,a,c,rfl⟩;refine u7 ?_;exact l_ rfl _ ⟨rfl,a,c,rfl⟩ fun w e=>x7.left tk e
theorem tP(b:Nat)(s:SE)(x:SL)(d:DD)(y:DL)(text:Bs)(hl:y.rl.length<=100000000):Ct prog 70 [m6 b,B text] (fun _=>True) (O3 b s x d y) (fun v A=>v=.tuple #[]/\∃a c,A=O3 b {s with a5H:=3} x {d with close:=true} (E_ y (H7 text,L0) a c)):=by
 refine b_ 16 func70 rfl rfl rfl ?_;intro F _;refine E4 ?_;refine c_ (V4 b s x d y (H7 text) L0 hl) qw ?_;rintro v A ⟨rfl,a,c,rfl⟩;refine wk 10 ?_;exact l_ rfl _ ⟨rfl,a,c,rfl⟩ fun w e=>x7.left tk e
theorem oL(b:Nat)(s:SE)(x:SL)(d:DD)(y:DL)(tag:Bs)(hl:y.rl.length<=10000000):Ct prog 79 [m6 b,B tag] (fun _=>True) (O3 b s x d y) (fun v A=>v=.tuple #[]/\∃a c,A=O3 b {s with a5H:=3} x {d with close:=true} {y with da:=a,dc:=c,rl:=y.rl++[(H7 [108,111,103,103,105,110,103,32,111,117,116],L0),(dA tag,L0)]}):=by
 refine b_ 9 func79 rfl rfl rfl ?_;intro F _;refine p_ ?_;refine c_ (tP b s x d y _ qb) qw ?_;rintro v A ⟨rfl,a,c,rfl⟩;refine y8 ?_;refine c_ (nr b {s with a5H:=3} x {d with close:=true} (E_ y (H7 [108,111,103,103,105,110,103,32,111,117,116],L0) a c) tag (by simp;omega)) qw ?_;rintro v A ⟨rfl,f,g,rfl⟩;refine u7 ?_;exact l_ rfl _ ⟨rfl,f,g,rfl⟩ fun w e=>by simp only[E_,zn,Qc,j7] at e;exact x7.left tk e
def dC(t:TypeId)(sz n:Nat)(xs:List Value)(v:Value)(A:List As):Prop:=∃a c,v=.slice a n c/\A=[.own (.slice a n c) t sz xs]
def D1{α:Type}(q:α->Bool)(l:List α):Int:=(l.findIdx? q).elim (-1) fun i=>(i:Nat)
theorem N5{α:Type}{q:α->Bool}{l:List α}(h:∀i (a:i<l.length),q l[i]=false):D1 q l= -1:=by
 unfold D1;rw[Q5.2 fun x b=>by obtain⟨i,a,rfl⟩:=Zz b;exact h i a];rfl
theorem N6{α:Type}{q:α->Bool}{l:List α}{j:Nat}(b:j<l.length)(hq:q l[j]=true)(h:∀i (a:i<l.length),i<j->q l[i]=false):D1 q l=(j:Nat):=by
 unfold D1;rw[kd.2 ⟨b,hq,fun i a=>by simp[h i qb a]⟩];rfl
theorem db{α:Type}(q:α->Bool)(l:List α): -1<=D1 q l/\D1 q l<l.length:=by
 unfold D1
 cases h:l.findIdx? q with
 |none=>simp only[Option.elim];omega
 |some i=>have:=(kd.1 h).1;simp only[Option.elim];omega
theorem fK{α:Type}(q:α->Bool)(l:List α):decide (D1 q l≥0)=l.any q:=by
 unfold D1
 cases h:l.findIdx? q with
 |none=>
  rw[Q5] at h;have:l.any q=false:=W0.2 fun x a=>by simp[h x a]
  rw[this];simp
 |some i=>
  obtain⟨b,c,_⟩:=kd.1 h;have:l.any q=true:=Jz.2 ⟨_,zx b,c⟩;rw[this];simp
theorem S5{α:Type}{C:α->List Value}{n:Nat}{h:l9}{a:Option Addr}{l:List α}{q i:Nat}(r:o0 h a (l.flatMap C))(d:∀x,(C x).length=n)(b:0<n)(c:i<l.length)(hq:q=i*n):L_ h (N1 a q) (C l[i]):=by
 have:=tx r d b l[i] (q:=q) (i:=i) (by rw[hq,W7]) c
 rwa [show l.getD i l[i]=l[i] from by simp[List.getD,c]] at this
theorem A0{α:Type}{C:α->List Value}{n:Nat}{h:l9}{a:Option Addr}{l:List α}{i:Nat}(r:o0 h a (l.flatMap C))(c:∀x,(C x).length=n)(b:0<n)(d:i<l.length):∃e,a=some e:=vn r c b d
theorem jI(xs:List Value)(a:Option Addr)(n c:Nat)(hx:xs.length=n*5)(j:∀q∈xs,q.oneCell'=true)(hl:n<=1000000000000):Ct prog 104 [.slice a n c] (fun h=>o0 h a xs) [] (dC 102 5 n xs):=by
 refine b_ 8 func104 rfl rfl rfl ?_;intro F d;refine eJ ?_ ?_<;>intro h
 ·have ha:a=none:=by simpa using h
  have k:n=0:=by
   rcases Qs n with f|f
   ·exact f
   ·obtain⟨l,e,_⟩:=d (by intro e;rw[e] at hx;simp at hx<;>omega);rw[ha] at e;cases e
  subst k;have:xs=[]:=Q4.1 (by rw[hx,Z1]);subst this;refine C8 ?_;exact d_ rfl rfl [.own (.slice none 0 0) 102 5 []] ⟨none,0,rfl,rfl⟩ (fun w b=>b.addNil _ _)
 ·refine u7 ?_;refine p_ ?_;intro a5;refine p_ ?_;refine B_ rfl rfl (fun m o=>.here) (fun w b=>o0.le d b.keep) hx rfl rfl j (by show(0+n)*40<=_;omega) qb rfl ?_;intro g i _;refine C8 ?_;exact d_ rfl rfl [.own (.slice g n i) 102 5 xs] ⟨g,i,by rw[ju],rfl⟩ (fun w b=>by rw[ju,j7] at b;exact b)
theorem tQ(xs:List Value)(a:Option Addr)(n c:Nat)(hx:xs.length=n*3)(j:∀q∈xs,q.oneCell'=true)(hl:n<=1000000000000):Ct prog 123 [.slice a n c] (fun h=>o0 h a xs) [] (dC 104 3 n xs):=by
 refine b_ 8 func123 rfl rfl rfl ?_;intro F d;refine eJ ?_ ?_<;>intro h
 ·have ha:a=none:=by simpa using h
  have k:n=0:=by
   rcases Qs n with f|f
   ·exact f
   ·obtain⟨l,e,_⟩:=d (by intro e;rw[e] at hx;simp at hx<;>omega);rw[ha] at e;cases e
  subst k;have:xs=[]:=Q4.1 (by rw[hx,Z1]);subst this;refine C8 ?_;exact d_ rfl rfl [.own (.slice none 0 0) 104 3 []] ⟨none,0,rfl,rfl⟩ (fun w b=>b.addNil _ _)
 ·refine u7 ?_;refine p_ ?_;intro a5;refine p_ ?_;refine B_ rfl rfl (fun m o=>.here) (fun w b=>o0.le d b.keep) hx rfl rfl j (by show(0+n)*24<=_;omega) qb rfl ?_;intro g i _;refine C8 ?_;exact d_ rfl rfl [.own (.slice g n i) 104 3 xs] ⟨g,i,by rw[ju],rfl⟩ (fun w b=>by rw[ju,j7] at b;exact b)
theorem vJ(xs:List Value)(a:Option Addr)(n c:Nat)(hx:xs.length=n*5)(j:∀q∈xs,q.oneCell'=true)(hl:n<=1000000000000):Ct prog 124 [.slice a n c] (fun h=>o0 h a xs) [] (dC 100 5 n xs):=by
 refine b_ 8 func124 rfl rfl rfl ?_;intro F d;refine eJ ?_ ?_<;>intro h
 ·have ha:a=none:=by simpa using h
  have k:n=0:=by
   rcases Qs n with f|f
   ·exact f
   ·obtain⟨l,e,_⟩:=d (by intro e;rw[e] at hx;simp at hx<;>omega);rw[ha] at e;cases e
  subst k;have:xs=[]:=Q4.1 (by rw[hx,Z1]);subst this;refine C8 ?_;exact d_ rfl rfl [.own (.slice none 0 0) 100 5 []] ⟨none,0,rfl,rfl⟩ (fun w b=>b.addNil _ _)
 ·refine u7 ?_;refine p_ ?_;intro a5;refine p_ ?_;refine B_ rfl rfl (fun m o=>.here) (fun w b=>o0.le d b.keep) hx rfl rfl j (by show(0+n)*64<=_;omega) qb rfl ?_;intro g i _;refine C8 ?_;exact d_ rfl rfl [.own (.slice g n i) 100 5 xs] ⟨g,i,by rw[ju],rfl⟩ (fun w b=>by rw[ju,j7] at b;exact b)
theorem fL(xs:List Value)(a:Option Addr)(n c:Nat)(hx:xs.length=n*5)(j:∀q∈xs,q.oneCell'=true)(hl:n<=1000000000000):Ct prog 117 [.slice a n c] (fun h=>o0 h a xs) [] (dC 156 5 n xs):=by
 refine b_ 8 func117 rfl rfl rfl ?_;intro F d;refine eJ ?_ ?_<;>intro h
 ·have ha:a=none:=by simpa using h
  have k:n=0:=by
   rcases Qs n with f|f
   ·exact f
   ·obtain⟨l,e,_⟩:=d (by intro e;rw[e] at hx;simp at hx<;>omega);rw[ha] at e;cases e
  subst k;have:xs=[]:=Q4.1 (by rw[hx,Z1]);subst this;refine C8 ?_;exact d_ rfl rfl [.own (.slice none 0 0) 156 5 []] ⟨none,0,rfl,rfl⟩ (fun w b=>b.addNil _ _)
 ·refine u7 ?_;refine p_ ?_;intro a5;refine p_ ?_;refine B_ rfl rfl (fun m o=>.here) (fun w b=>o0.le d b.keep) hx rfl rfl j (by show(0+n)*64<=_;omega) qb rfl ?_;intro g i _;refine C8 ?_;exact d_ rfl rfl [.own (.slice g n i) 156 5 xs] ⟨g,i,by rw[ju],rfl⟩ (fun w b=>by rw[ju,j7] at b;exact b)
theorem fM(xs:List Value)(a:Option Addr)(n c:Nat)(hx:xs.length=n*2)(j:∀q∈xs,q.oneCell'=true)(hl:n<=1000000000000):Ct prog 128 [.slice a n c] (fun h=>o0 h a xs) [] (dC 72 2 n xs):=by
 refine b_ 8 func128 rfl rfl rfl ?_;intro F d;refine eJ ?_ ?_<;>intro h
 ·have ha:a=none:=by simpa using h
  have k:n=0:=by
   rcases Qs n with f|f
   ·exact f
   ·obtain⟨l,e,_⟩:=d (by intro e;rw[e] at hx;simp at hx<;>omega);rw[ha] at e;cases e
  subst k;have:xs=[]:=Q4.1 (by rw[hx,Z1]);subst this;refine C8 ?_;exact d_ rfl rfl [.own (.slice none 0 0) 72 2 []] ⟨none,0,rfl,rfl⟩ (fun w b=>b.addNil _ _)
 ·refine u7 ?_;refine p_ ?_;intro a5;refine p_ ?_;refine B_ rfl rfl (fun m o=>.here) (fun w b=>o0.le d b.keep) hx rfl rfl j (by show(0+n)*16<=_;omega) qb rfl ?_;intro g i _;refine C8 ?_;exact d_ rfl rfl [.own (.slice g n i) 72 2 xs] ⟨g,i,by rw[ju],rfl⟩ (fun w b=>by rw[ju,j7] at b;exact b)
theorem gY(xs:List Value)(a:Option Addr)(n c:Nat)(hx:xs.length=n*2)(j:∀q∈xs,q.oneCell'=true)(hl:n<=1000000000000):Ct prog 202 [.slice a n c] (fun h=>o0 h a xs) [] (dC 178 2 n xs):=by
 refine b_ 8 func202 rfl rfl rfl ?_;intro F d;refine eJ ?_ ?_<;>intro h
 ·have ha:a=none:=by simpa using h
  have k:n=0:=by
   rcases Qs n with f|f
   ·exact f
   ·obtain⟨l,e,_⟩:=d (by intro e;rw[e] at hx;simp at hx<;>omega);rw[ha] at e;cases e
  subst k;have:xs=[]:=Q4.1 (by rw[hx,Z1]);subst this;refine C8 ?_;exact d_ rfl rfl [.own (.slice none 0 0) 178 2 []] ⟨none,0,rfl,rfl⟩ (fun w b=>b.addNil _ _)
 ·refine u7 ?_;refine p_ ?_;intro a5;refine p_ ?_;refine B_ rfl rfl (fun m o=>.here) (fun w b=>o0.le d b.keep) hx rfl rfl j (by show(0+n)*16<=_;omega) qb rfl ?_;intro g i _;refine C8 ?_;exact d_ rfl rfl [.own (.slice g n i) 178 2 xs] ⟨g,i,by rw[ju],rfl⟩ (fun w b=>by rw[ju,j7] at b;exact b)
theorem jJ(xs:List Value)(a:Option Addr)(n c:Nat)(hx:xs.length=n*5)(j:∀q∈xs,q.oneCell'=true)(hl:n<=1000000000000):Ct prog 203 [.slice a n c] (fun h=>o0 h a xs) [] (dC 129 5 n xs):=by
 refine b_ 8 func203 rfl rfl rfl ?_;intro F d;refine eJ ?_ ?_<;>intro h
 ·have ha:a=none:=by simpa using h
  have k:n=0:=by
   rcases Qs n with f|f
   ·exact f
   ·obtain⟨l,e,_⟩:=d (by intro e;rw[e] at hx;simp at hx<;>omega);rw[ha] at e;cases e
  subst k;have:xs=[]:=Q4.1 (by rw[hx,Z1]);subst this;refine C8 ?_;exact d_ rfl rfl [.own (.slice none 0 0) 129 5 []] ⟨none,0,rfl,rfl⟩ (fun w b=>b.addNil _ _)
 ·refine u7 ?_;refine p_ ?_;intro a5;refine p_ ?_;refine B_ rfl rfl (fun m o=>.here) (fun w b=>o0.le d b.keep) hx rfl rfl j (by show(0+n)*32<=_;omega) qb rfl ?_;intro g i _;refine C8 ?_;exact d_ rfl rfl [.own (.slice g n i) 129 5 xs] ⟨g,i,by rw[ju],rfl⟩ (fun w b=>by rw[ju,j7] at b;exact b)
theorem vK(xs:List Value)(a:Option Addr)(n c:Nat)(hx:xs.length=n*6)(j:∀q∈xs,q.oneCell'=true)(hl:n<=1000000000000):Ct prog 204 [.slice a n c] (fun h=>o0 h a xs) [] (dC 127 6 n xs):=by
 refine b_ 8 func204 rfl rfl rfl ?_;intro F d;refine eJ ?_ ?_<;>intro h
 ·have ha:a=none:=by simpa using h
  have k:n=0:=by
   rcases Qs n with f|f
   ·exact f
   ·obtain⟨l,e,_⟩:=d (by intro e;rw[e] at hx;simp at hx<;>omega);rw[ha] at e;cases e
  subst k;have:xs=[]:=Q4.1 (by rw[hx,Z1]);subst this;refine C8 ?_;exact d_ rfl rfl [.own (.slice none 0 0) 127 6 []] ⟨none,0,rfl,rfl⟩ (fun w b=>b.addNil _ _)
 ·refine u7 ?_;refine p_ ?_;intro a5;refine p_ ?_;refine B_ rfl rfl (fun m o=>.here) (fun w b=>o0.le d b.keep) hx rfl rfl j (by show(0+n)*80<=_;omega) qb rfl ?_;intro g i _;refine C8 ?_;exact d_ rfl rfl [.own (.slice g n i) 127 6 xs] ⟨g,i,by rw[ju],rfl⟩ (fun w b=>by rw[ju,j7] at b;exact b)
theorem vL(xs:List Value)(a:Option Addr)(n c:Nat)(hx:xs.length=n*1)(j:∀q∈xs,q.oneCell'=true)(hl:n<=1000000000000):Ct prog 129 [.slice a n c] (fun h=>o0 h a xs) [] (dC 27 1 n xs):=by
 refine b_ 8 func129 rfl rfl rfl ?_;intro F d;refine eJ ?_ ?_<;>intro h
 ·have ha:a=none:=by simpa using h
  have k:n=0:=by
   rcases Qs n with f|f
   ·exact f
   ·obtain⟨l,e,_⟩:=d (by intro e;rw[e] at hx;simp at hx<;>omega);rw[ha] at e;cases e
  subst k;have:xs=[]:=Q4.1 (by rw[hx,Z1]);subst this;refine C8 ?_;exact d_ rfl rfl [.own (.slice none 0 0) 27 1 []] ⟨none,0,rfl,rfl⟩ (fun w b=>b.addNil _ _)
 ·refine u7 ?_;refine p_ ?_;intro a5;refine p_ ?_;refine B_ rfl rfl (fun m o=>.here) (fun w b=>o0.le d b.keep) hx rfl rfl j (by show(0+n)*8<=_;omega) qb rfl ?_;intro g i _;refine C8 ?_;exact d_ rfl rfl [.own (.slice g n i) 27 1 xs] ⟨g,i,by rw[ju],rfl⟩ (fun w b=>by rw[ju,j7] at b;exact b)
theorem aB{α:Type}(C:α->List Value)(n:∀x,(C x).length=5)(l:List α)(a:Option Addr)(c:Nat)(f:FuncId)[HF prog f](qs:List Value)(d:l9->Prop)[Mn d](q:α->Bool)(r:∀x∈l,Pu prog f (.agg (C x).toArray::qs) d (.bool (q x)))(hl:l.length<=1000000000000):Pu prog 126 [.slice a l.length c,.func (.func f) #[] qs.toArray] (fun h=>o0 h a (l.flatMap C)/\d h) (.int .i64 (D1 q l)):=by
 refine b_ 19 func126 rfl rfl rfl ?_;rintro F ⟨g,k⟩;refine O2 ?_;refine o9 (ι:=Nat) (fun j=>j<=l.length/\∀i (m:i<l.length),i<j->q l[i]=false) (fun j=>[(0,.slice a l.length c),(1,.func (.func f) #[] qs.toArray),(7,.int .i64 (l.length:Nat)),(8,.int .i64 (j:Nat))]) (fun _=>[]) (fun j=>l.length-j) 0 ⟨zw _,fun i _ h=>by omega⟩ sub i_ ?_;rintro j ⟨y,e⟩;refine R6 ?_ ?_<;>intro h
 ·have b:j<l.length:=by have:=qr h;omega
  have o:=A0 g n qp b;refine cQ ?_;refine r_ (w8 rfl (fun w s=>S5 (g.le s.keep) n qp b y4) (n _)) ?_;refine z_ (ps:=[]) _ rfl rfl rfl (r _ (zx b)) i_ (fun h t _=>Mn.le t k) rfl ?_;rintro v A ⟨rfl,rfl⟩;refine O1 ?_ ?_<;>intro p
  ·refine L7 ?_;exact d_ rfl rfl [] ⟨by rw[N6 b p e],rfl⟩ i_
  ·refine y8 ?_;refine l8 (j+1) ⟨b,fun i m h=>?_⟩ qb sub i_;rcases kr.1 h with u|rfl
   ·exact e i m u
   ·exact p
 ·have b:j=l.length:=by have:=zq h;omega
  refine C8 ?_;exact d_ rfl rfl [] ⟨by rw[N5 fun i m=>e i m qb],rfl⟩ i_
theorem lj{α:Type}(C:α->List Value)(n:∀x,(C x).length=3)(l:List α)(a:Option Addr)(c:Nat)(f:FuncId)[HF prog f](qs:List Value)(d:l9->Prop)[Mn d](q:α->Bool)(r:∀x∈l,Pu prog f (.agg (C x).toArray::qs) d (.bool (q x)))(hl:l.length<=1000000000000):Pu prog 182 [.slice a l.length c,.func (.func f) #[] qs.toArray] (fun h=>o0 h a (l.flatMap C)/\d h) (.int .i64 (D1 q l)):=by
 refine b_ 19 func182 rfl rfl rfl ?_;rintro F ⟨g,k⟩;refine O2 ?_;refine o9 (ι:=Nat) (fun j=>j<=l.length/\∀i (m:i<l.length),i<j->q l[i]=false) (fun j=>[(0,.slice a l.length c),(1,.func (.func f) #[] qs.toArray),(7,.int .i64 (l.length:Nat)),(8,.int .i64 (j:Nat))]) (fun _=>[]) (fun j=>l.length-j) 0 ⟨zw _,fun i _ h=>by omega⟩ sub i_ ?_;rintro j ⟨y,e⟩;refine R6 ?_ ?_<;>intro h
 ·have b:j<l.length:=by have:=qr h;omega
  have o:=A0 g n qp b;refine cQ ?_;refine r_ (w8 rfl (fun w s=>S5 (g.le s.keep) n qp b y4) (n _)) ?_;refine z_ (ps:=[]) _ rfl rfl rfl (r _ (zx b)) i_ (fun h t _=>Mn.le t k) rfl ?_;rintro v A ⟨rfl,rfl⟩;refine O1 ?_ ?_<;>intro p
  ·refine L7 ?_;exact d_ rfl rfl [] ⟨by rw[N6 b p e],rfl⟩ i_
  ·refine y8 ?_;refine l8 (j+1) ⟨b,fun i m h=>?_⟩ qb sub i_;rcases kr.1 h with u|rfl
   ·exact e i m u
   ·exact p
 ·have b:j=l.length:=by have:=zq h;omega
  refine C8 ?_;exact d_ rfl rfl [] ⟨by rw[N5 fun i m=>e i m qb],rfl⟩ i_
theorem mK{α:Type}(C:α->List Value)(n:∀x,(C x).length=5)(l:List α)(a:Option Addr)(c:Nat)(f:FuncId)[HF prog f](qs:List Value)(d:l9->Prop)[Mn d](q:α->Bool)(r:∀x∈l,Pu prog f (.agg (C x).toArray::qs) d (.bool (q x)))(hl:l.length<=1000000000000):Pu prog 188 [.slice a l.length c,.func (.func f) #[] qs.toArray] (fun h=>o0 h a (l.flatMap C)/\d h) (.int .i64 (D1 q l)):=by
 refine b_ 19 func188 rfl rfl rfl ?_;rintro F ⟨g,k⟩;refine O2 ?_;refine o9 (ι:=Nat) (fun j=>j<=l.length/\∀i (m:i<l.length),i<j->q l[i]=false) (fun j=>[(0,.slice a l.length c),(1,.func (.func f) #[] qs.toArray),(7,.int .i64 (l.length:Nat)),(8,.int .i64 (j:Nat))]) (fun _=>[]) (fun j=>l.length-j) 0 ⟨zw _,fun i _ h=>by omega⟩ sub i_ ?_;rintro j ⟨y,e⟩;refine R6 ?_ ?_<;>intro h
 ·have b:j<l.length:=by have:=qr h;omega
  have o:=A0 g n qp b;refine cQ ?_;refine r_ (w8 rfl (fun w s=>S5 (g.le s.keep) n qp b y4) (n _)) ?_;refine z_ (ps:=[]) _ rfl rfl rfl (r _ (zx b)) i_ (fun h t _=>Mn.le t k) rfl ?_;rintro v A ⟨rfl,rfl⟩;refine O1 ?_ ?_<;>intro p
  ·refine L7 ?_;exact d_ rfl rfl [] ⟨by rw[N6 b p e],rfl⟩ i_
  ·refine y8 ?_;refine l8 (j+1) ⟨b,fun i m h=>?_⟩ qb sub i_;rcases kr.1 h with u|rfl
   ·exact e i m u
   ·exact p
 ·have b:j=l.length:=by have:=zq h;omega
  refine C8 ?_;exact d_ rfl rfl [] ⟨by rw[N5 fun i m=>e i m qb],rfl⟩ i_
theorem X9{α:Type}(C:α->List Value)(n:∀x,(C x).length=5)(l:List α)(a:Option Addr)(c:Nat)(f:FuncId)[HF prog f](qs:List Value)(d:l9->Prop)[Mn d](q:α->Bool)(r:∀x∈l,Pu prog f (.agg (C x).toArray::qs) d (.bool (q x)))(hl:l.length<=1000000000000):Pu prog 201 [.slice a l.length c,.func (.func f) #[] qs.toArray] (fun h=>o0 h a (l.flatMap C)/\d h) (.int .i64 (D1 q l)):=by
 refine b_ 19 func201 rfl rfl rfl ?_;rintro F ⟨g,k⟩;refine O2 ?_;refine o9 (ι:=Nat) (fun j=>j<=l.length/\∀i (m:i<l.length),i<j->q l[i]=false) (fun j=>[(0,.slice a l.length c),(1,.func (.func f) #[] qs.toArray),(7,.int .i64 (l.length:Nat)),(8,.int .i64 (j:Nat))]) (fun _=>[]) (fun j=>l.length-j) 0 ⟨zw _,fun i _ h=>by omega⟩ sub i_ ?_;rintro j ⟨y,e⟩;refine R6 ?_ ?_<;>intro h
 ·have b:j<l.length:=by have:=qr h;omega
  have o:=A0 g n qp b;refine cQ ?_;refine r_ (w8 rfl (fun w s=>S5 (g.le s.keep) n qp b y4) (n _)) ?_;refine z_ (ps:=[]) _ rfl rfl rfl (r _ (zx b)) i_ (fun h t _=>Mn.le t k) rfl ?_;rintro v A ⟨rfl,rfl⟩;refine O1 ?_ ?_<;>intro p
  ·refine L7 ?_;exact d_ rfl rfl [] ⟨by rw[N6 b p e],rfl⟩ i_
  ·refine y8 ?_;refine l8 (j+1) ⟨b,fun i m h=>?_⟩ qb sub i_;rcases kr.1 h with u|rfl
   ·exact e i m u
   ·exact p
 ·have b:j=l.length:=by have:=zq h;omega
  refine C8 ?_;exact d_ rfl rfl [] ⟨by rw[N5 fun i m=>e i m qb],rfl⟩ i_
theorem lk{α:Type}(C:α->List Value)(n:∀x,(C x).length=2)(l:List α)(a:Option Addr)(c:Nat)(f:FuncId)[HF prog f](qs:List Value)(d:l9->Prop)[Mn d](q:α->Bool)(r:∀x∈l,Pu prog f (.agg (C x).toArray::qs) d (.bool (q x)))(hl:l.length<=1000000000000):Pu prog 226 [.slice a l.length c,.func (.func f) #[] qs.toArray] (fun h=>o0 h a (l.flatMap C)/\d h) (.int .i64 (D1 q l)):=by
 refine b_ 19 func226 rfl rfl rfl ?_;rintro F ⟨g,k⟩;refine O2 ?_;refine o9 (ι:=Nat) (fun j=>j<=l.length/\∀i (m:i<l.length),i<j->q l[i]=false) (fun j=>[(0,.slice a l.length c),(1,.func (.func f) #[] qs.toArray),(7,.int .i64 (l.length:Nat)),(8,.int .i64 (j:Nat))]) (fun _=>[]) (fun j=>l.length-j) 0 ⟨zw _,fun i _ h=>by omega⟩ sub i_ ?_;rintro j ⟨y,e⟩;refine R6 ?_ ?_<;>intro h
 ·have b:j<l.length:=by have:=qr h;omega
  have o:=A0 g n qp b;refine cQ ?_;refine r_ (w8 rfl (fun w s=>S5 (g.le s.keep) n qp b y4) (n _)) ?_;refine z_ (ps:=[]) _ rfl rfl rfl (r _ (zx b)) i_ (fun h t _=>Mn.le t k) rfl ?_;rintro v A ⟨rfl,rfl⟩;refine O1 ?_ ?_<;>intro p
  ·refine L7 ?_;exact d_ rfl rfl [] ⟨by rw[N6 b p e],rfl⟩ i_
  ·refine y8 ?_;refine l8 (j+1) ⟨b,fun i m h=>?_⟩ qb sub i_;rcases kr.1 h with u|rfl
   ·exact e i m u
   ·exact p
 ·have b:j=l.length:=by have:=zq h;omega
  refine C8 ?_;exact d_ rfl rfl [] ⟨by rw[N5 fun i m=>e i m qb],rfl⟩ i_
theorem ll{α:Type}(C:α->List Value)(n:∀x,(C x).length=5)(l:List α)(a:Option Addr)(c:Nat)(f:FuncId)[HF prog f](qs:List Value)(d:l9->Prop)[Mn d](q:α->Bool)(r:∀x∈l,Pu prog f (.agg (C x).toArray::qs) d (.bool (q x)))(hl:l.length<=1000000000000):Pu prog 228 [.slice a l.length c,.func (.func f) #[] qs.toArray] (fun h=>o0 h a (l.flatMap C)/\d h) (.int .i64 (D1 q l)):=by
 refine b_ 19 func228 rfl rfl rfl ?_;rintro F ⟨g,k⟩;refine O2 ?_;refine o9 (ι:=Nat) (fun j=>j<=l.length/\∀i (m:i<l.length),i<j->q l[i]=false) (fun j=>[(0,.slice a l.length c),(1,.func (.func f) #[] qs.toArray),(7,.int .i64 (l.length:Nat)),(8,.int .i64 (j:Nat))]) (fun _=>[]) (fun j=>l.length-j) 0 ⟨zw _,fun i _ h=>by omega⟩ sub i_ ?_;rintro j ⟨y,e⟩;refine R6 ?_ ?_<;>intro h
 ·have b:j<l.length:=by have:=qr h;omega
  have o:=A0 g n qp b;refine cQ ?_;refine r_ (w8 rfl (fun w s=>S5 (g.le s.keep) n qp b y4) (n _)) ?_;refine z_ (ps:=[]) _ rfl rfl rfl (r _ (zx b)) i_ (fun h t _=>Mn.le t k) rfl ?_;rintro v A ⟨rfl,rfl⟩;refine O1 ?_ ?_<;>intro p
  ·refine L7 ?_;exact d_ rfl rfl [] ⟨by rw[N6 b p e],rfl⟩ i_
  ·refine y8 ?_;refine l8 (j+1) ⟨b,fun i m h=>?_⟩ qb sub i_;rcases kr.1 h with u|rfl
   ·exact e i m u
   ·exact p
 ·have b:j=l.length:=by have:=zq h;omega
  refine C8 ?_;exact d_ rfl rfl [] ⟨by rw[N5 fun i m=>e i m qb],rfl⟩ i_
theorem mL{α:Type}(C:α->List Value)(n:∀x,(C x).length=6)(l:List α)(a:Option Addr)(c:Nat)(f:FuncId)[HF prog f](qs:List Value)(d:l9->Prop)[Mn d](q:α->Bool)(r:∀x∈l,Pu prog f (.agg (C x).toArray::qs) d (.bool (q x)))(hl:l.length<=1000000000000):Pu prog 291 [.slice a l.length c,.func (.func f) #[] qs.toArray] (fun h=>o0 h a (l.flatMap C)/\d h) (.int .i64 (D1 q l)):=by
 refine b_ 19 func291 rfl rfl rfl ?_;rintro F ⟨g,k⟩;refine O2 ?_;refine o9 (ι:=Nat) (fun j=>j<=l.length/\∀i (m:i<l.length),i<j->q l[i]=false) (fun j=>[(0,.slice a l.length c),(1,.func (.func f) #[] qs.toArray),(7,.int .i64 (l.length:Nat)),(8,.int .i64 (j:Nat))]) (fun _=>[]) (fun j=>l.length-j) 0 ⟨zw _,fun i _ h=>by omega⟩ sub i_ ?_;rintro j ⟨y,e⟩;refine R6 ?_ ?_<;>intro h
 ·have b:j<l.length:=by have:=qr h;omega
  have o:=A0 g n qp b;refine cQ ?_;refine r_ (w8 rfl (fun w s=>S5 (g.le s.keep) n qp b y4) (n _)) ?_;refine z_ (ps:=[]) _ rfl rfl rfl (r _ (zx b)) i_ (fun h t _=>Mn.le t k) rfl ?_;rintro v A ⟨rfl,rfl⟩;refine O1 ?_ ?_<;>intro p
  ·refine L7 ?_;exact d_ rfl rfl [] ⟨by rw[N6 b p e],rfl⟩ i_
  ·refine y8 ?_;refine l8 (j+1) ⟨b,fun i m h=>?_⟩ qb sub i_;rcases kr.1 h with u|rfl
   ·exact e i m u
   ·exact p
 ·have b:j=l.length:=by have:=zq h;omega
  refine C8 ?_;exact d_ rfl rfl [] ⟨by rw[N5 fun i m=>e i m qb],rfl⟩ i_
theorem jK{α:Type}(C:α->List Value)(n:∀x,(C x).length=2)(l:List α)(a:Option Addr)(c:Nat)(f:FuncId)[HF prog f](qs:List Value)(d:l9->Prop)[Mn d](q:α->Bool)(r:∀x∈l,Pu prog f (.agg (C x).toArray::qs) d (.bool (q x)))(hl:l.length<=1000000000000):Pu prog 338 [.slice a l.length c,.func (.func f) #[] qs.toArray] (fun h=>o0 h a (l.flatMap C)/\d h) (.int .i64 (D1 q l)):=by
 refine b_ 19 func338 rfl rfl rfl ?_;rintro F ⟨g,k⟩;refine O2 ?_;refine o9 (ι:=Nat) (fun j=>j<=l.length/\∀i (m:i<l.length),i<j->q l[i]=false) (fun j=>[(0,.slice a l.length c),(1,.func (.func f) #[] qs.toArray),(7,.int .i64 (l.length:Nat)),(8,.int .i64 (j:Nat))]) (fun _=>[]) (fun j=>l.length-j) 0 ⟨zw _,fun i _ h=>by omega⟩ sub i_ ?_;rintro j ⟨y,e⟩;refine R6 ?_ ?_<;>intro h
 ·have b:j<l.length:=by have:=qr h;omega
  have o:=A0 g n qp b;refine cQ ?_;refine r_ (w8 rfl (fun w s=>S5 (g.le s.keep) n qp b y4) (n _)) ?_;refine z_ (ps:=[]) _ rfl rfl rfl (r _ (zx b)) i_ (fun h t _=>Mn.le t k) rfl ?_;rintro v A ⟨rfl,rfl⟩;refine O1 ?_ ?_<;>intro p
  ·refine L7 ?_;exact d_ rfl rfl [] ⟨by rw[N6 b p e],rfl⟩ i_
  ·refine y8 ?_;refine l8 (j+1) ⟨b,fun i m h=>?_⟩ qb sub i_;rcases kr.1 h with u|rfl
   ·exact e i m u
   ·exact p
 ·have b:j=l.length:=by have:=zq h;omega
  refine C8 ?_;exact d_ rfl rfl [] ⟨by rw[N5 fun i m=>e i m qb],rfl⟩ i_
theorem mM{α:Type}(C:α->List Value)(n:∀x,(C x).length=2)(l:List α)(a:Option Addr)(c:Nat)(f:FuncId)[HF prog f](qs:List Value)(d:l9->Prop)[Mn d](q:α->Bool)(r:∀x∈l,Pu prog f (.agg (C x).toArray::qs) d (.bool (q x)))(hl:l.length<=1000000000000):Pu prog 396 [.slice a l.length c,.func (.func f) #[] qs.toArray] (fun h=>o0 h a (l.flatMap C)/\d h) (.int .i64 (D1 q l)):=by
 refine b_ 19 func396 rfl rfl rfl ?_;rintro F ⟨g,k⟩;refine O2 ?_;refine o9 (ι:=Nat) (fun j=>j<=l.length/\∀i (m:i<l.length),i<j->q l[i]=false) (fun j=>[(0,.slice a l.length c),(1,.func (.func f) #[] qs.toArray),(7,.int .i64 (l.length:Nat)),(8,.int .i64 (j:Nat))]) (fun _=>[]) (fun j=>l.length-j) 0 ⟨zw _,fun i _ h=>by omega⟩ sub i_ ?_;rintro j ⟨y,e⟩;refine R6 ?_ ?_<;>intro h
 ·have b:j<l.length:=by have:=qr h;omega
  have o:=A0 g n qp b;refine cQ ?_;refine r_ (w8 rfl (fun w s=>S5 (g.le s.keep) n qp b y4) (n _)) ?_;refine z_ (ps:=[]) _ rfl rfl rfl (r _ (zx b)) i_ (fun h t _=>Mn.le t k) rfl ?_;rintro v A ⟨rfl,rfl⟩;refine O1 ?_ ?_<;>intro p
  ·refine L7 ?_;exact d_ rfl rfl [] ⟨by rw[N6 b p e],rfl⟩ i_
  ·refine y8 ?_;refine l8 (j+1) ⟨b,fun i m h=>?_⟩ qb sub i_;rcases kr.1 h with u|rfl
   ·exact e i m u
   ·exact p
 ·have b:j=l.length:=by have:=zq h;omega
  refine C8 ?_;exact d_ rfl rfl [] ⟨by rw[N5 fun i m=>e i m qb],rfl⟩ i_
theorem V5{α:Type}(C:α->List Value)(i:∀x,(C x).length=5)(l:List α)(a:Option Addr)(c:Nat)(f:FuncId)[HF prog f](qs:List Value)(b:l9->Prop)[Mn b](q:α->Bool)(j:∀x∈l,Pu prog f (.agg (C x).toArray::qs) b (.bool (q x)))(hl:l.length<=1000000000000):Pu prog 156 [.slice a l.length c,.func (.func f) #[] qs.toArray] (fun h=>o0 h a (l.flatMap C)/\b h) (.bool (l.any q)):=by
 refine b_ 9 func156 rfl rfl rfl ?_;rintro F ⟨e,d⟩;refine E4 ?_;refine e_ rfl (ll C i l a c f qs b q j hl) (fun h g _=>⟨e.le g,Mn.le g d⟩) rfl ?_;refine f_ ((I3 rfl rfl).eq (qn (fK q l))) ?_;refine C8 ?_;exact d_ rfl rfl [] qh i_
theorem cj{α:Type}(C:α->List Value)(i:∀x,(C x).length=6)(l:List α)(a:Option Addr)(c:Nat)(f:FuncId)[HF prog f](qs:List Value)(b:l9->Prop)[Mn b](q:α->Bool)(j:∀x∈l,Pu prog f (.agg (C x).toArray::qs) b (.bool (q x)))(hl:l.length<=1000000000000):Pu prog 229 [.slice a l.length c,.func (.func f) #[] qs.toArray] (fun h=>o0 h a (l.flatMap C)/\b h) (.bool (l.any q)):=by
 refine b_ 9 func229 rfl rfl rfl ?_;rintro F ⟨e,d⟩;refine E4 ?_;refine e_ rfl (mL C i l a c f qs b q j hl) (fun h g _=>⟨e.le g,Mn.le g d⟩) rfl ?_;refine f_ ((I3 rfl rfl).eq (qn (fK q l))) ?_;refine C8 ?_;exact d_ rfl rfl [] qh i_
theorem bg{α:Type}(C:α->List Value)(i:∀x,(C x).length=2)(l:List α)(a:Option Addr)(c:Nat)(f:FuncId)[HF prog f](qs:List Value)(b:l9->Prop)[Mn b](q:α->Bool)(j:∀x∈l,Pu prog f (.agg (C x).toArray::qs) b (.bool (q x)))(hl:l.length<=1000000000000):Pu prog 268 [.slice a l.length c,.func (.func f) #[] qs.toArray] (fun h=>o0 h a (l.flatMap C)/\b h) (.bool (l.any q)):=by
 refine b_ 9 func268 rfl rfl rfl ?_;rintro F ⟨e,d⟩;refine E4 ?_;refine e_ rfl (jK C i l a c f qs b q j hl) (fun h g _=>⟨e.le g,Mn.le g d⟩) rfl ?_;refine f_ ((I3 rfl rfl).eq (qn (fK q l))) ?_;refine C8 ?_;exact d_ rfl rfl [] qh i_
theorem Y4(l:List Bs)(a:Option Addr)(c:Nat)(hl:l.length<=1000000):Ct prog 115 [.slice a l.length c] (fun h=>o0 h a (fV l)) [] (dC 9 1 l.length (fV l)):=by
 refine b_ 8 func115 rfl rfl rfl ?_;intro F d;refine eJ ?_ ?_<;>intro h
 ·have ha:a=none:=by simpa using h
  have i:l=[]:=by
   cases l with
   |nil=>rfl
   |cons y t=>obtain⟨j,e,_⟩:=d (by simp[fV]);rw[ha] at e;cases e
  subst i;refine C8 ?_;exact d_ rfl rfl [A4 none [] 0] ⟨none,0,rfl,rfl⟩ (fun w b=>b.addNil _ _)
 ·refine u7 ?_;refine p_ ?_;intro a5;refine p_ ?_;refine B_ rfl rfl (fun k m=>.here) (fun w b=>o0.le d b.keep) (by rw[L8,Zu]) rfl rfl (kY _) (by show(0+l.length)*16<=_;omega) qb rfl ?_;intro f g _;refine C8 ?_;exact d_ rfl rfl [A4 f l g] ⟨f,g,by rw[ju],rfl⟩ (fun w b=>by rw[ju,j7] at b;exact b)
theorem de{a:List KM}{c:CM}(h:a.map KM.k=c.keys):a.length=c.keys.length:=by rw[<-h,zm]
theorem a1u{a:List KM}{j:Nat}(b:j<a.length)(m:KM)(c:m.k=a[j].k):(a.set j m).map KM.k=a.map KM.k:=by
 rw[Ku,c,<-Jj KM.k (h:=by simpa using b)];exact Zs _
abbrev yk(a:Option Addr)(n c:Nat)(l:List KM):As:=.own (.slice a n c) 127 6 (qM l)
set_option maxHeartbeats 1000000 in
theorem mN(c:CM)(x:CL)(hc:tM c):Cm prog 130 [xL c x] (fj c x) [] (fun h v A=>A=[]/\∃x',v=xL c x'/\fj c x' h):=by
 refine x8 40 func130 rfl rfl rfl ?_;intro F R k;obtain⟨kl,y,h0,r⟩:=k.keys;have h1:=de y;have h9:=hc.keys;have k0:=hc.set;have k8:=hc.a5J;have k9:=hc.a5R;refine p_ ?_;intro T;refine p_ ?_;intro g2;refine u7 ?_;refine D9 [1,4,7,10] [2,5,8,11,13,15,17,19] [.blk T (.cells (lh c x).toArray 36)] 20 ?_;refine wd [0,1,3,4,6,7,9,10] ?_;refine h_ 2 rfl i6 ?_;refine c_ (gY (V7 c.set) x.sa c.set.length x.sc (bO _) (eM _) qb) (fun h l _=>k.set.le l) ?_;rintro v A ⟨z,U,rfl,rfl⟩;refine gn [12] ?_;refine h_ 5 rfl i6 ?_;refine c_ (jJ (oK c.a5J) x.ia c.a5J.length x.ic (tK _) (nj _) qb) (fun h l _=>k.a5J.le l) ?_;rintro v A ⟨D,V,rfl,rfl⟩;refine ae ?_;refine h_ 8 rfl i6 ?_;refine c_ (Y4 c.a5R x.fa x.fc qb) (fun h l _=>k.a5R.le l) ?_;rintro v A ⟨J,X,rfl,rfl⟩;refine ae ?_;refine h_ 11 rfl i6 ?_;refine c_ (vK (qM kl) x.ka c.keys.length x.kc (by rw[tL,h1]) (Le _) qb) (fun h l _=>h0.le l) ?_;rintro v A ⟨q,s,rfl,rfl⟩;refine E5 [13,14,15,16,17,18,19] ?_;refine B8 (Z:=[V3 z c.set U,bP D c.a5J V,A4 J c.a5R X]) tk fun M O ⟨bs,o⟩=>?_;have h2:o0 M.heap z (V7 c.set):=A2.rd o ud;have h3:o0 M.heap D (oK c.a5J):=A2.rd o ud;have h4:o0 M.heap J (fV c.a5R):=A2.rd o ud;clear o;refine O2 ?_;refine bJ (ι:=Nat×l6×List KM) (fun i=>i.1<=c.keys.length/\M.le i.2.1/\i.2.2.map KM.k=c.keys/\∀m∈i.2.2,o0 i.2.1.heap m.a (V7 m.k.set)) (fun i=>[(1,m6 T),(2,m6 g2),(22,.int .i64 (c.keys.length:Nat)),(23,.int .i64 (i.1:Nat))]) (fun i=>i.2.1)
  (fun i=>.blk T (.cells (lh c ⟨z,U,D,V,q,s,J,X⟩).toArray 36)::yk q c.keys.length s i.2.2::.blk g2 (.cells (lh iw G9).toArray 36)::R) (fun i=>c.keys.length-i.1) (0,M,kl) ⟨zw _,l6.le_refl _,y,fun m Q=>(r m Q).le O.heap⟩ sub rfl ?_ ?_
 ·intro w u;exact(tk (C:=[_,_,_])).hp u
 rintro⟨j,F2,k2⟩ ⟨hj,d,e,p⟩;simp only at hj d e p;have h7:k2.length=c.keys.length:=de e;refine R6 ?_ ?_<;>intro h
 ·have f:j<k2.length:=by have:=qr h;omega
  have h8:k2[j].k.set.length<=64:=(hc.ksets _ (by rw[<-e];exact jv.2 ⟨_,zx f,rfl⟩)).1;refine B4 (a:=q) (n:=c.keys.length) (c:=s) (sz:=6) (xs:=qM k2) (te:=127) ud fun _ _ g=>?_;have g:=g qb;refine y8 ?_;refine D9 [1,4,8] [9,12] [yk q c.keys.length s k2,.blk T (.cells (lh c ⟨z,U,D,V,q,s,J,X⟩).toArray 36)] 13 ?_;refine wd [0,1,2,3,4,5,6,7] ?_;refine n8 8 rfl P5 (i8 rfl (fun w u=>dO (j:=5) (u.ownN (t:=127) ud).2.2.1 an f rfl y4)) I4 rfl rfl rfl i6 ?_;refine h_ 9 rfl i6 ?_;refine c_ (gY (V7 k2[j].k.set) k2[j].a k2[j].k.set.length k2[j].c (bO _) (eM _) qb) (fun h l _=>(p _ (zx f)).le l) ?_;rintro v A ⟨S,Y,rfl,rfl⟩;refine gn [10,11] ?_;refine h_ 12 rfl i6 ?_;refine A9 (C:=bD) ⟨k2[j].k,S,Y⟩ an f (j:=5) rfl ?_;refine E5 [] ?_;refine B8 (Z:=[V3 S k2[j].k.set Y]) tk fun F3 b ⟨bs,o⟩=>?_;have h6:o0 F3.heap S (V7 k2[j].k.set):=A2.rd o ud;clear o;refine y8 ?_;refine O9 (j+1,F3,k2.set j ⟨k2[j].k,S,Y⟩) ⟨by simp only;omega,d.trans b,(a1u f ⟨k2[j].k,S,Y⟩ rfl).trans e,fun m Q=>?_⟩ qg sub rfl (fun w u=>(tk (C:=[_,_,_])).hp u);rcases jp Q with h5|rfl
  ·exact(p m h5).le b.heap
  ·exact h6
 ·refine u7 ?_;refine B8 (Z:=[yk q c.keys.length s k2]) tk fun F3 b ⟨bs,o⟩=>?_;have r:o0 F3.heap q (qM k2):=A2.rd o ud;refine L7 ?_;refine G_ (A:=[]) (v:=xL c ⟨z,U,D,V,q,s,J,X⟩) ((O.trans d).trans b) ⟨rfl,_,rfl,h2.le (d.trans b).heap,h3.le (d.trans b).heap,⟨k2,e,r,fun m Q=>(p m Q).le b.heap⟩,h4.le (d.trans b).heap⟩ ?_;exact G5 rfl rfl ud rfl _ qh (fun w u=>NU.hp sfx u)
theorem I_{h:l9}{Z a:List As}{g:Nat}{cs:Array Value}{te:TypeId}(hz:∃bs,A2 h Z bs)(u:M2 Z (.blk g (.cells cs te (0,0))) [] a:=by exact ud):h g=some (.cells cs te (0,0)):=by
 obtain⟨bs,b⟩:=hz;obtain⟨d,c⟩:=A2.get b u;exact c.2
instance {g:Nat} {o:Obj}:Mn (fun h=>h g=some o):=⟨fun l k=>l _ _ k⟩
abbrev aK(g:Nat)(v:Value)(t:TypeId)(h:l9):Prop:=h g=some (.cells #[v] t (0,0))
theorem dN(m n:Nat):Value.bool (decide (((m:Nat):Int)=((n:Nat):Int)))=.bool (decide (m=n)):=qn (zh.2 Ju)
theorem Pj(g:Nat)(a:Bs)(b:BM):Pu prog 189 [JY b,m6 g] (aK g (B a) 9) (.bool (decide (b.name=a))):=by
 refine b_ 8 func189 rfl rfl rfl ?_;intro F c;refine p_ ?_;intro e;refine NS ?_;exact d_ rfl rfl [] qh (fun w d=>d.dropAll)
theorem Gk(g:Nat)(n:Nat)(x:SX):Pu prog 127 [.agg (nq x).toArray,m6 g] (aK g (.int .u64 (n:Nat)) 27) (.bool (decide (x.ses=n))):=by
 refine b_ 8 func127 rfl rfl rfl ?_;intro F a;refine p_ ?_;intro c;refine O2 ?_;refine f_ ((o_ rfl rfl).eq (dN x.ses n)) ?_;refine C8 ?_;exact d_ rfl rfl [] qh (fun w b=>b.dropAll)
theorem Gm(g:Nat)(n:Int)(x:HO):Pu prog 183 [.agg (gv x).toArray,m6 g] (aK g (.int .i64 n) 3) (.bool (decide (x.node=n))):=by
 refine b_ 8 func183 rfl rfl rfl ?_;intro F a;refine p_ ?_;intro c;refine NS ?_;exact d_ rfl rfl [] qh (fun w b=>b.dropAll)
theorem yl(g k:Nat)(n:Int)(t:Nat)(x:SX):Pu prog 184 [.agg (nq x).toArray,m6 g,m6 k] (fun h=>aK g (.int .i64 n) 3 h/\aK k (.int .u64 (t:Nat)) 27 h) (.bool (decide (x.node=n/\x.tr=t))):=by
 obtain⟨a,b⟩:=o7 (decide (x.node=n));obtain⟨e,c⟩:=o7 (decide (x.tr=t));rw[show decide (x.node=n/\x.tr=t)=(a&&e) from by rw[b,c,Bool.decide_and]];refine b_ 15 func184 rfl rfl rfl ?_;rintro F ⟨f,d⟩
 cases a
 all_goals (
  refine p_ ?_;intro j;refine O2 ?_;refine f_ ((o_ rfl rfl).eb b) ?_;refine O2 ?_;(first|refine u_ ?_|(refine v_ ?_;refine f_ ((o_ rfl rfl).eq ((dN x.tr t).trans (qn c.symm))) ?_));refine y8 ?_)
 all_goals (refine A3 ?_;exact d_ rfl rfl [] qh (fun w i=>i.dropAll))
theorem oM(m:MM)(a:Bs)(l:m.a5C.length<=1000):Pu prog 109 [uR m,B a] (fun h=>o0 h m.ba (fb m.a5C)) (.int .i64 (D1 (fun b=>decide (b.name=a)) m.a5C)):=by
 refine b_ 9 func109 rfl rfl rfl ?_;intro F e;refine C6 ?_;refine m9 rfl rfl ?_;intro n;refine L2 rfl rfl rfl ?_;intro c;refine p_ ?_;refine B8 (Z:=[.blk c (.cells #[B a] 9)]) tk fun g d i=>?_;have j:aK c (B a) 9 g.heap:=I_ i;refine E4 ?_;refine e_ rfl (mK cZ p7 m.a5C m.ba m.bc 189 [m6 c] (aK c (B a) 9) (fun b=>decide (b.name=a)) (fun b _=>Pj c a b) qb) (fun h f _=>⟨(e.le d.heap).le f,f _ _ j⟩) rfl ?_;refine C8 ?_;exact D3 d (d_ rfl rfl [] qh (fun w k=>k.dropAll))
theorem Lj(m:MM)(n:Nat)(j:m.a5E.length<=1000):Pu prog 67 [uR m,.int .u64 (n:Nat)] (fun h=>o0 h m.sa (JZ m.a5E)) (.int .i64 (D1 (fun x=>decide (x.ses=n)) m.a5E)):=by
 refine b_ 9 func67 rfl rfl rfl ?_;intro F c;refine C6 ?_;refine m9 rfl rfl ?_;intro k;refine L2 rfl rfl rfl ?_;intro a;refine p_ ?_;refine B8 (Z:=[.blk a (.cells #[.int .u64 (n:Nat)] 27)]) tk fun e b f=>?_;have g:aK a (.int .u64 (n:Nat)) 27 e.heap:=I_ f;refine E4 ?_;refine e_ rfl (aB nq X3 m.a5E m.sa m.sc 127 [m6 a] (aK a (.int .u64 (n:Nat)) 27) (fun x=>decide (x.ses=n)) (fun x _=>Gk a n x) qb) (fun h d _=>⟨(c.le b.heap).le d,d _ _ g⟩) rfl ?_;refine C8 ?_;exact D3 b (d_ rfl rfl [] qh (fun w i=>i.dropAll))
theorem Lk(m:MM)(n:Int)(j:m.a5D.length<=1000):Pu prog 101 [uR m,.int .i64 n] (fun h=>o0 h m.ha (Ka m.a5D)) (.int .i64 (D1 (fun x=>decide (x.node=n)) m.a5D)):=by
 refine b_ 9 func101 rfl rfl rfl ?_;intro F c;refine C6 ?_;refine m9 rfl rfl ?_;intro k;refine L2 rfl rfl rfl ?_;intro a;refine p_ ?_;refine B8 (Z:=[.blk a (.cells #[.int .i64 n] 3)]) tk fun e b f=>?_;have g:aK a (.int .i64 n) 3 e.heap:=I_ f;refine E4 ?_;refine e_ rfl (lj gv O4 m.a5D m.ha m.hc 183 [m6 a] (aK a (.int .i64 n) 3) (fun x=>decide (x.node=n)) (fun x _=>Gm a n x) qb) (fun h d _=>⟨(c.le b.heap).le d,d _ _ g⟩) rfl ?_;refine C8 ?_;exact D3 b (d_ rfl rfl [] qh (fun w i=>i.dropAll))
theorem Dd(m:MM)(n:Int)(t:Nat)(l:m.a5E.length<=1000):Pu prog 102 [uR m,.int .i64 n,.int .u64 (t:Nat)] (fun h=>o0 h m.sa (JZ m.a5E)) (.int .i64 (D1 (fun x=>decide (x.node=n/\x.tr=t)) m.a5E)):=by
 refine b_ 11 func102 rfl rfl rfl ?_;intro F d;refine C6 ?_;refine m9 rfl rfl ?_;intro o;refine L2 rfl rfl rfl ?_;intro a;refine L2 rfl rfl rfl ?_;intro b;refine p_ ?_;refine B8 (Z:=[.blk a (.cells #[.int .i64 n] 3),.blk b (.cells #[.int .u64 (t:Nat)] 27)]) tk fun f c g=>?_;have i:aK a (.int .i64 n) 3 f.heap:=I_ g;have j:aK b (.int .u64 (t:Nat)) 27 f.heap:=I_ g;refine E4 ?_;refine e_ rfl (aB nq X3 m.a5E m.sa m.sc 184 [m6 a,m6 b] (fun h=>aK a (.int .i64 n) 3 h/\aK b (.int .u64 (t:Nat)) 27 h) (fun x=>decide (x.node=n/\x.tr=t)) (fun x _=>yl a b n t x) qb) (fun h e _=>⟨(d.le c.heap).le e,e _ _ i,e _ _ j⟩) rfl ?_;refine C8 ?_;exact D3 c (d_ rfl rfl [] qh (fun w k=>k.dropAll))
end Go.Proofs.YtmcepdopookilaaGreatDoor.Rp
namespace Go.Sl
open Go Go.RowKit Go.Proofs.Tryz
theorem sat_blks{h:l9}(g:Nat->Obj):∀(l:List Nat),(∀b∈l,h b=some (g b))->A2 h (l.map fun b=>.blk b (g b)) l
 |[],_=>rfl
 |b::t,hb=>⟨[b],t,rfl,⟨rfl,hb b y4⟩,sat_blks g t fun c hc=>hb c (by simp[hc])⟩
theorem jL{h:l9}(g:Nat->Obj):∀(l:List Nat) (bs:List Nat),A2 h (l.map fun b=>.blk b (g b)) bs->∀b∈l,h b=some (g b)
 |[],_,_,b,a=>by cases a
 |c::t,bs,⟨b1,b2,_,h1,h2⟩,b,a=>by
  rcases ky.1 a with rfl|a
  ·exact h1.2
  ·exact jL g t _ h2 b a
theorem Hp.thaw{F d:l6}{w:World}{H:List As}(hl:F.le d)(f:Hp d w H):∃Z,Hp F w (H++Z)/\∀h bs,l9.le F.heap h->A2 h Z bs->l9.le d.heap h:=by
 let l:=(List.range w.heap.size).filter fun b=>(d.heap b).isSome&&(F.heap b).isNone
 let g:Nat->Obj:=fun b=>(d.heap b).getD (.cells #[] 0)
 have hg:∀b∈l,d.heap b=some (g b)/\F.heap b=none:=fun b c=>by
  have j:=(Qx.1 c).2;simp only[kx,Option.isNone_iff_eq_none] at j;obtain⟨o,i⟩:=Zb.1 j.1;exact⟨by show _=some ((d.heap b).getD _);rw[i];rfl,j.2⟩
 obtain⟨bs,hs,r,hf⟩:=f.own;refine⟨l.map fun b=>.blk b (g b),⟨f.os.trans hl.os,f.tape.trans hl.tape,f.output.trans hl.output,l9.le_trans hl.heap f.keep,bs++l,A2.append hs (sat_blks g l fun b c=>f.keep _ _ (hg b c).1),?_,?_⟩,?_⟩
 ·refine j6.2 ⟨r,List.Pairwise.filter _ List.nodup_range,fun a ha b c e=>?_⟩;subst e;have:=hf a ha;rw[(hg a c).1] at this
  cases this
 ·intro b c;rcases zc.1 c with c|c
  ·cases e:F.heap b with
   |none=>rfl
   |some o=>have:=hl.heap b o e;rw[hf b c] at this;cases this
  ·exact(hg b c).2
 ·intro h s k m b o i;by_cases hm:b∈l
  ·have j:=jL g l s m b hm;have p:=(hg b hm).1;rw[i] at p;rw[j];exact p.symm
  ·have n:b<w.heap.size:=by
    have t:w.heap[b]? =some o:=f.keep b o i;exact(jq.1 t).1
   cases e:F.heap b with
   |some o'=>
    have q:=hl.heap b o' e;rw[i] at q;rw[k b o' e];exact q.symm
   |none=>exact absurd (Qx.2 ⟨List.mem_range.2 n,by simp[i,e]⟩) hm
section
variable{P:Program}{N:Nat}{K R:y6}{E:List (Nat×y6)}{L:F_}{F:l6}{H:List As}{ops:Array Oper}{rest:List Oper}{ty:TypeId}{pos:String}{af:Array Edge}{dst:Option Nat}{gd:Option (Nat×Bool)}{x:Operand}
theorem R7{d:Nat}{f:FuncId}{args:List Operand}{i:Array TypeId}{vs:List Value}{b:l9->Prop}{C Rr:List As}{Q:l9->Value->List As->Prop}[HF P f](hc:Cm P f vs b C Q)(c:b F.heap)(k:∀v A Z g,(∀h bs,l9.le F.heap h->A2 h Z bs->l9.le g h)->Q g v A->GL P N ops rest K E R ((d,v)::L) F (A++(Rr++Z)))(hx:rC L args=some vs:=by rfl)(hH:x7 C H Rr:=by exact tk)(l:Nat.blt d N=true:=by rfl):
  GL P N ops (⟨some d,.call ⟨.value (.func f),args.toArray,i⟩,ty,pos,af,none⟩::rest) K E R L F H:=by
 unfold GL at k⊢;intro a w hf m;refine wpList_plain rfl fun s n=>?_;unfold Oper.wp;rw[aU hx hf.agr w,Oper.upon_enter];refine(hc F Rr w (hH.hp m) c).mono ?_;rintro e t ⟨v,A,g,rfl,o,p,j⟩;obtain⟨Z,q,r⟩:=j.thaw o;exact n _ _ (k v A Z g.heap r p _ _ (hf.put l v) (by rw[<-zn];exact q))
theorem Sy{Rr Z:List As}(b:l9)(hz:∀h bs,l9.le F.heap h->A2 h Z bs->l9.le b h)(hH:∀w,Hp F w H->Hp F w (Rr++Z))(k:∀a,F.le a->l9.le b a.heap->GL P N ops rest K E R L a Rr):GL P N ops rest K E R L F H:=
 I6 hH (rF fun a c ⟨bs,d⟩=>k a c (hz _ bs c.heap d))
theorem AL{c:Code}{Rr Z:List As}(b:l9)(hz:∀h bs,l9.le F.heap h->A2 h Z bs->l9.le b h)(hH:∀w,Hp F w H->Hp F w (Rr++Z))(k:∀a,F.le a->l9.le b a.heap->G P N c K E R L a Rr):G P N c K E R L F H:=
 D5 hH (bY fun a d ⟨bs,e⟩=>k a d (hz _ bs d.heap e))
end
end Go.Sl
namespace Go.Proofs.YtmcepdopookilaaGreatDoor.Rp
open Go Go.Sl Go.RowKit Go.Proofs.Tryz
theorem jM{α β:Type}{f:α->β}{l:List α}{j:Nat}(a:j<l.length)(m:α)(b:f m=f l[j]):(l.set j m).map f=l.map f:=by
 rw[Ku,b,<-Jj f (h:=by simpa using a)];exact Zs _
def Pk(b:BM)(h:l9)(v:Value)(A:List As):Prop:=∃b':BM,v=JY b'/\b'.x=b.x/\A=[N_ b'.a b'.ls b'.c]/\iC b'.ls h
theorem lY(b:BM)(hl:b.ls.length<=1000)(hf:∀x∈b.ls,x.t.a5R.length<=1000):Cm prog 125 [JY b] (fJ b) [] (Pk b):=by
 refine x8 28 func125 rfl rfl rfl ?_;intro F R p;refine C6 ?_;refine m9 rfl rfl ?_;intro u;refine i7 rfl ?_;intro D;refine y8 ?_;refine c_ (fL (qN b.ls) b.a b.ls.length b.c (AD _) (AE _) qb) (fun h J _=>p.ls.le J) ?_;rintro v A ⟨a,c,rfl,rfl⟩;refine cQ ?_;refine bJ (ι:=Nat×l6×List LM) (fun i=>i.1<=b.ls.length/\F.le i.2.1/\i.2.2.map LM.t=b.ls.map LM.t/\iC i.2.2 i.2.1.heap) (fun i=>[(1,m6 u),(2,m6 D),(10,.int .i64 (b.ls.length:Nat)),(11,.int .i64 (i.1:Nat))]) (fun i=>i.2.1)
  (fun i=>.blk u (.cells #[B b.name,.int .u64 (b.val:Nat),.int .u64 (b.next:Nat),.int .u64 (b.high:Nat),.slice a b.ls.length c] 100)::.own (.slice a b.ls.length c) 156 5 (qN i.2.2)::.blk D (.cells (cZ Gi).toArray 100)::R) (fun i=>b.ls.length-i.1) (0,F,b.ls) ⟨zw _,l6.le_refl _,rfl,p.fl⟩ sub rfl ?_ ?_
 ·intro w l;exact(tk (C:=[_,_,_])).hp l
 rintro⟨j,F2,k2⟩ ⟨S,o,d,k⟩;simp only at S o d k;have q:k2.length=b.ls.length:=by have:=jw List.length d;simpa using this
 refine R6 ?_ ?_<;>intro h
 ·have f:j<k2.length:=by have:=qr h;omega
  have T:k2[j].t.a5R.length<=1000:=by
   have e:k2[j].t∈b.ls.map LM.t:=(by rw[<-d];exact jv.2 ⟨_,zx f,rfl⟩);obtain⟨y,U,V⟩:=jv.1 e;rw[<-V];exact hf y U
  refine B4 (a:=a) (n:=b.ls.length) (c:=c) (sz:=5) (xs:=qN k2) (te:=156) ud fun _ _ g=>?_;have g:=g qb;refine y8 ?_;refine D9 [1,4,8] [9,12] [.own (.slice a b.ls.length c) 156 5 (qN k2),.blk u (.cells #[B b.name,.int .u64 (b.val:Nat),.int .u64 (b.next:Nat),.int .u64 (b.high:Nat),.slice a b.ls.length c] 100)] 13 ?_;refine wd [0,1,2,3,4,5,6,7] ?_;refine n8 8 rfl P5 (i8 rfl (fun w l=>dO (j:=1) (l.ownN (t:=156) ud).2.2.1 A_ f rfl y4)) I4 rfl rfl rfl i6 ?_;refine h_ 9 rfl i6 ?_;refine c_ (Y4 k2[j].t.a5R k2[j].a k2[j].c qb) (fun h J _=>(k _ (zx f)).le J) ?_;rintro v A ⟨r,z,rfl,rfl⟩;refine gn [10,11] ?_;refine h_ 12 rfl i6 ?_;refine A9 (C:=S9) ⟨k2[j].t,r,z⟩ A_ f (j:=1) rfl ?_;refine E5 [] ?_;refine B8 (Z:=[A4 r k2[j].t.a5R z]) tk fun O s ⟨bs,Q⟩=>?_;have M:o0 O.heap r (fV k2[j].t.a5R):=A2.rd Q ud;clear Q;refine y8 ?_;refine O9 (j+1,O,k2.set j ⟨k2[j].t,r,z⟩) ⟨by simp only;omega,o.trans s,(jM f ⟨k2[j].t,r,z⟩ rfl).trans d,fun m X=>?_⟩ qg sub rfl (fun w l=>(tk (C:=[_,_,_])).hp l);rcases jp X with Y|rfl
  ·exact(k m Y).le s.heap
  ·exact M
 ·refine L7 ?_;refine G_ (A:=[N_ a k2 c]) (v:=JY ⟨b.name,b.val,b.next,b.high,k2,a,c⟩) o ⟨_,rfl,by simp only[BM.x,d],rfl,k⟩ ?_;rw[<-q];exact G5 rfl rfl ud rfl _ qh (fun w l=>(tk (C:=[.blk u _,.blk D _,N_ a k2 c])).hp l|>.drop.drop)
def Pl(m:MM)(h:l9)(v:Value)(A:List As):Prop:=∃m':MM,v=uR m'/\m'.s=m.s/\A=uS m'/\∀b∈m'.a5C,iC b.ls h
structure Sz(m:MM):Prop where
 a5E:m.a5E.length<=1000
 a5D:m.a5D.length<=1000
 a5C:m.a5C.length<=1000
 ls:∀b∈m.a5C,b.ls.length<=1000
 fl:∀b∈m.a5C,∀x∈b.ls,x.t.a5R.length<=1000
theorem dV{α:Type}{l:List α}{j:Nat}(a:j<l.length)(b:α):(l.set j b).take (j+1)=l.take j++[b]:=by
 rw[kw (by simpa using a),List.take_set_of_le (zr _)];simp
theorem Gn{l:List BM}{j:Nat}(c:j<l.length)(b:BM)(Z:List As):(N_ b.a b.ls b.c::(V_ (l.take j)++Z)).Perm (V_ ((l.set j b).take (j+1))++Z):=by
 rw[dV c,Li];show(N_ b.a b.ls b.c::(V_ (l.take j)++Z)).Perm ((V_ (l.take j)++[N_ b.a b.ls b.c])++Z);rw[zn];exact(Qp (l₁:=V_ (l.take j)) (a:=N_ b.a b.ls b.c) (l₂:=Z)).symm
theorem tR(m:MM)(M:Sz m):Cm prog 66 [uR m] (iE m) [] (Pl m):=by
 refine x8 34 func66 rfl rfl rfl ?_;intro F R l;have h7:=M.a5E;have h8:=M.a5D;have h9:=M.a5C;refine C6 ?_;refine m9 rfl rfl ?_;intro O;refine i7 rfl ?_;intro V;refine y8 ?_;refine c_ (jI (JZ m.a5E) m.sa m.a5E.length m.sc (AI _) (AJ _) qb) (fun h Q _=>l.a5E.le Q) ?_;rintro v A ⟨p,q,rfl,rfl⟩;refine O2 ?_;refine c_ (tQ (Ka m.a5D) m.ha m.a5D.length m.hc (Lg _) (Lh _) qb) (fun h Q _=>l.a5D.le Q) ?_;rintro v A ⟨ha,hc,rfl,rfl⟩;refine O2 ?_;refine c_ (vJ (fb m.a5C) m.ba m.a5C.length m.bc (np _) (AG _) qb) (fun h Q _=>l.a5C.le Q) ?_;rintro v A ⟨g,k,rfl,rfl⟩;refine cQ ?_;refine bJ (ι:=Nat×l6×List BM) (fun i=>i.1<=m.a5C.length/\F.le i.2.1/\i.2.2.map BM.x=m.a5C.map BM.x/\(∀b∈i.2.2.take i.1,iC b.ls i.2.1.heap)/\∀b∈i.2.2.drop i.1,fJ b i.2.1.heap) (fun i=>[(1,m6 O),(2,m6 V),(18,.int .i64 (m.a5C.length:Nat)),(19,.int .i64 (i.1:Nat))]) (fun i=>i.2.1)
  (fun i=>.blk O (.cells #[.slice g m.a5C.length k,.int .u64 (m.nval:Nat),.slice ha m.a5D.length hc,.slice p m.a5E.length q,.int .u64 (m.nses:Nat),.int .u64 (m.a5O:Nat)] 62)::.own (.slice g m.a5C.length k) 100 5 (fb i.2.2)::P4 ha m.a5D hc::T0 p m.a5E q::.blk V (.cells #[.slice none 0 0,.int .u64 0,.slice none 0 0,.slice none 0 0,.int .u64 0,.int .u64 0] 62)::(V_ (i.2.2.take i.1)++R)) (fun i=>m.a5C.length-i.1) (0,F,m.a5C) ⟨zw _,l6.le_refl _,rfl,fun b e=>by simp at e,fun b e=>l.box b (List.mem_of_mem_drop e)⟩ sub rfl ?_ ?_
 ·intro w s;exact(tk (C:=[_,_,_,_,_])).hp s
 rintro⟨j,F2,k2⟩ ⟨hj,u,S,o,D⟩;simp only at hj u S o D;have T:k2.length=m.a5C.length:=by have:=jw List.length S;simpa using this
 refine R6 ?_ ?_<;>intro h
 ·have d:j<k2.length:=by have:=qr h;omega
  have X:k2[j].x∈m.a5C.map BM.x:=by rw[<-S];exact jv.2 ⟨_,zx d,rfl⟩
  obtain⟨y,hy,e2⟩:=jv.1 X;have U:k2[j].ls.map LM.t=y.ls.map LM.t:=(jw BX.lts e2).symm;have Y:k2[j].ls.length<=1000:=by have:=jw List.length U;have h5:=M.ls y hy;simp at this;omega
  have h0:∀x∈k2[j].ls,x.t.a5R.length<=1000:=fun x hx=>by
   have e3:x.t∈y.ls.map LM.t:=(by rw[<-U];exact jv.2 ⟨x,hx,rfl⟩);obtain⟨z,hz,e4⟩:=jv.1 e3;rw[<-e4];exact M.fl y hy z hz
  have h1:fJ k2[j] F2.heap:=D _ (by rw[Qg d];exact j9);refine B4 (a:=g) (n:=m.a5C.length) (c:=k) (sz:=5) (xs:=fb k2) (te:=100) ud fun _ _ f=>?_;have f:=f qb;refine y8 ?_;refine D9 [1,4,7] [8,10] [.own (.slice g m.a5C.length k) 100 5 (fb k2),.blk O (.cells #[.slice g m.a5C.length k,.int .u64 (m.nval:Nat),.slice ha m.a5D.length hc,.slice p m.a5E.length q,.int .u64 (m.nses:Nat),.int .u64 (m.a5O:Nat)] 62)] 11 ?_;refine wd [0,1,2,3,4,5,6] ?_;refine n8 7 rfl P5 (w8 rfl (fun w s=>fq (s.ownN (t:=100) ud).2.2.1 p7 qp d y4) (p7 _)) I4 rfl rfl rfl i6 ?_;refine h_ 8 rfl i6 ?_;refine R7 (lY k2[j] Y h0) h1 ?_;rintro v A Z Fz hz ⟨r,rfl,h2,rfl,h3⟩;refine gn [9] ?_;refine h_ 10 rfl i6 ?_;refine A9 (C:=cZ) r p7 d (j:=0) rfl ?_;refine E5 [] ?_;refine AL Fz hz (Rr:=N_ r.a r.ls r.c::.blk O (.cells #[.slice g m.a5C.length k,.int .u64 (m.nval:Nat),.slice ha m.a5D.length hc,.slice p m.a5E.length q,.int .u64 (m.nses:Nat),.int .u64 (m.a5O:Nat)] 62)::.own (.slice g m.a5C.length k) 100 5 (fb (k2.set j r))::P4 ha m.a5D hc::T0 p m.a5E q::.blk V (.cells #[.slice none 0 0,.int .u64 0,.slice none 0 0,.slice none 0 0,.int .u64 0,.int .u64 0] 62)::(V_ (k2.take j)++R)) (Z:=Z) i_ fun F3 J h4=>?_;refine y8 ?_;refine O9 (j+1,F3,k2.set j r) ⟨by simp only;omega,u.trans J,(jM d r h2).trans S,fun b e=>?_,fun b e=>?_⟩ qg sub rfl (fun w s=>?_)
  ·rw[dV d] at e;rcases zc.1 e with e|e
   ·exact Mn.le J.heap (o b e)
   ·obtain rfl:=zg.1 e;exact Mn.le h4 h3
  ·simp only at e;rw[Km qb] at e;exact Mn.le J.heap (D b (by rw[Qg d];exact jj _ e))
  ·exact s.perm (((kj (l₁:=[_]) (l₂:=[_,_,_,_,_])).append_right (V_ (k2.take j)++R)).trans ((Gn d r R).append_left [_,_,_,_,_]))
 ·refine L7 ?_;have k0:j=m.a5C.length:=by have:=zq h;omega
  have h6:k2.take j=k2:=kp qb;rw[h6] at o⊢;refine G_ (A:=uS ⟨k2,m.nval,m.a5D,m.a5E,m.nses,m.a5O,g,k,ha,hc,p,q⟩) (v:=uR ⟨k2,m.nval,m.a5D,m.a5E,m.nses,m.a5O,g,k,ha,hc,p,q⟩) u ⟨_,rfl,by simp only[MM.s,S],rfl,o⟩ ?_;rw[<-T];exact G5 rfl rfl ud rfl _ qh (fun w s=>(tk (C:=[.blk O _,.blk V _,T0 p m.a5E q,P4 ha m.a5D hc,S_ g k2 k])).hp s|>.drop.drop)
end Go.Proofs.YtmcepdopookilaaGreatDoor.Rp
namespace Go.Sl
open Go Go.RowKit Go.Proofs.Tryz
section
variable{P:Program}{N:Nat}{K R:y6}{E:List (Nat×y6)}{L:F_}{F:l6}{H:List As}{ops:Array Oper}{rest:List Oper}{ty:TypeId}{pos:String}{af:Array Edge}{t:TypeId}{x:Operand}
theorem rh{z:Array Value}{n:Nat}(h:∀q∈z.toList,q.oneCell'=true):∀q∈(Builtin.zeroCells z n).toList,q.oneCell'=true:=fun q a=>by
 unfold Builtin.zeroCells at a;rw[Array.mem_toList_iff,Array.mem_map] at a;obtain⟨i,d,rfl⟩:=a;have b:i<n*z.size:=by simpa using d
 have hp:0<z.size:=by
  rcases Qs z.size with c|c
  ·rw[c] at b;omega
  ·exact c
 have e:=Nat.mod_lt i hp;rw[getElem!_pos z _ e];exact h _ y4
theorem jN{a:Option Addr}{n c sz lo k:Nat}{xs:List Value}{te:TypeId}{z:Value}{H':List Value->List As}[hu:HU P t (.slice te)][hz:HZ P te z](hx:ev L x=some (.slice (Y8 a c lo sz) k (c-lo)))(hk:k=n-lo)(h6:lo<=n)(y:z.cells.size=sz)(A:(z.cells.toList.all fun q=>q.oneCell')=true)(u:∀s,M2 H (.own (.slice a n c) te sz xs) [.own (.slice a n c) te sz s] (H' s))(h:∀s,s.length=xs.length->s.take (lo*sz)=xs.take (lo*sz)->GL P N ops rest K E R L F (H' s)):GL P N ops (⟨none,.call ⟨.builtin .clear,#[x],#[t]⟩,ty,pos,af,none⟩::rest) K E R L F H:=
 KE rfl rfl fun w0 w hf U=>by
  subst hk;have d:∀C,(Builtin.clear_ #[t] ty #[.slice (Y8 a c lo sz) (n-lo) (c-lo)]).run P w=.ok (.tuple #[]) C->(execOp w0.eval ⟨none,.call ⟨.builtin .clear,#[x],#[t]⟩,ty,pos,af,none⟩).run P w=.ok (.value (.tuple #[])) C:=fun C hr=>by
   simp[execOp,resolve,invoke,builtin,hf.eval hx,hr]
  obtain⟨V,i,_,h7,kk⟩:=U.focus (u xs);by_cases h0:n-lo=0
  ·refine⟨_,w,H' xs,d w ?_,?_,h xs rfl rfl⟩
   ·rw[h0]
    cases Y8 a c lo sz<;>simp[Builtin.clear_,run_underlying hu.h]
   ·exact kk w V rfl rfl rfl (fun _ _ _=>rfl) ⟨V,[],by simp,i,rfl⟩ (by assumption) (fun _ hb=>.inl hb)
  ·rcases i with⟨j,rfl,rfl⟩|⟨g,rfl,⟨o,n',h8,pre,b,X,j,hg,v,hl,D,J,l⟩⟩
   ·injection j with e1 e2 e3;omega
   ·injection j with e1 e2 e3;subst e1 e2 e3;have M:Y8 (some ⟨g,o,none⟩) c lo sz=some ⟨g,o+lo*sz,none⟩:=by
     unfold Y8;rw[zk qb];simp[Addr.add_lit]
    have Y:lo*sz+(n-lo)*sz=n*sz:=(by rw[<-Q0];congr 1;omega);have m:(Builtin.zeroCells z.cells (n-lo)).toList.length=(n-lo)*sz:=(by simp[size_zeroCells,y]);have e:=G4 (P:=P) g (o+lo*sz) te X (Builtin.zeroCells z.cells (n-lo)).toList 0 (pre++xs++b).toArray w hg (by simpa using l) (by rw[m];simp[v];omega) (rh (fun q O=>Qv.1 A q O));simp only[Q3,<-v] at e;have hm:=fv pre xs b (Builtin.zeroCells z.cells (n-lo)).toList (lo*sz) (by rw[m];omega);rw[hm] at e;have f:(L5 xs (lo*sz) (Builtin.zeroCells z.cells (n-lo)).toList).length=xs.length:=by
     simp only[L5,zz,z7,kz,m];omega
    refine⟨_,_,H' (L5 xs (lo*sz) (Builtin.zeroCells z.cells (n-lo)).toList),d (w.setRow g (pre++L5 xs (lo*sz) (Builtin.zeroCells z.cells (n-lo)).toList++b).toArray) ?_,?_,h _ f ?_⟩
    ·rw[M]
     cases O:n-lo with
     |zero=>omega
     |succ q=>
      rw[O] at e;rw[v] at e;simp[Builtin.clear_,run_underlying hu.h,hz.h,e]
    ·obtain⟨b3,p,_,_,Q⟩:=U.focus (u (L5 xs (lo*sz) (Builtin.zeroCells z.cells (n-lo)).toList));rcases p with⟨r,_,_⟩|⟨g3,rfl,h3⟩
     ·cases r
     ·obtain⟨o3,n3,Z,h1,S,h9,r,k0,k8,k9,h2,h4,h5⟩:=h3;injection r with e1 e2 e3;injection e1 with e1;injection e1 with e1 e4;subst e1;refine Q _ [g] rfl rfl rfl (fun c hc T=>setRow_other w g c _ (by simpa using T)) ⟨[g],[],rfl,.inr ⟨g,rfl,⟨o,n,c,pre,b,X,rfl,setRow_heap w g _ _ te _ hg,v,by rw[f];exact hl,?_,J,?_⟩⟩,rfl⟩ y4 (fun c hc=>.inl hc)
      ·simp only[zz,f];simpa using D
      ·simp only[zz,f] at l⊢;exact l
    ·unfold L5;rw[zn,Z4 (by simp;omega),List.take_take,Nat.min_self]
theorem tS{d:Nat}{s x:Operand}{a b:Option Addr}{n c k m S sz:Nat}{xs news:List Value}{e:TypeId}{H':List As}[hu:HU P t (.slice e)][hs:HS P e sz](T:ev L s=some (.slice a k c))(U:ev L x=some (.slice b m S))(u0:M2 H (.own (.slice a n c) e sz xs) [.own (.slice a n c) e sz xs] H)(u:M2 H (.own (.slice a n c) e sz xs) [.own (.slice a n c) e sz (L5 xs (k*sz) news)] H')(hsrc:∀w,Hp F w H->KB (hp w) b news)(hl:news.length=m*sz)(V:0<sz)(h1:∀q∈news,q.oneCell'=true)(hk:k+m<=n)(hd:Nat.blt d N=true)(h:GL P N ops rest K E R ((d,.slice a (k+m) c)::L) F H'):
  GL P N ops (⟨some d,.call ⟨.builtin .append,#[s,x],#[t,t]⟩,ty,pos,af,none⟩::rest) K E R L F H:=
 R_ rfl rfl hd fun w0 w hf hw=>by
  have l:∀X Y,(Builtin.append_ #[t,t] ty #[.slice a k c,.slice b m S]).run P w=.ok X Y->
    (execOp w0.eval ⟨some d,.call ⟨.builtin .append,#[s,x],#[t,t]⟩,ty,pos,af,none⟩).run P w=.ok (.value X) Y:=fun X Y M=>by
   simp[execOp,resolve,invoke,builtin,hf.eval T,hf.eval U,M]
  obtain⟨b2,p,Z,h8,kk⟩:=hw.focus u;by_cases hm0:m=0
  ·subst hm0;have O:news=[]:=jx (by simpa using hl);subst O;have y:k<=c:=by
    rcases p with⟨i,_,_⟩|⟨g,_,⟨o,n',h0,pre,f,fr,i,_,_,_,_,y,_⟩⟩
    ·injection i with e1 e2 e3;omega
    ·injection i with e1 e2 e3;omega
   refine⟨.slice a (k+0) c,w,H',l _ _ ?_,?_,h⟩
   ·have h2:(Builtin.firstCells sz 0 (.slice b 0 S)).run P w=.ok #[] w:=by cases b<;>simp[Builtin.firstCells,loadCells,loadCellsFrom]
    cases a<;>simp[Builtin.append_,run_underlying hu.h,hs.h,Builtin.lenOf,y,h2,storeCells]
   ·refine kk w b2 rfl rfl rfl (fun _ _ _=>rfl) ⟨b2,[],by simp,?_,rfl⟩ Z (fun _ hb=>.inl hb);have:L5 xs (k*sz) []=xs:=(by simp[L5]);rw[this];exact p
  ·have h3:news≠[]:=by
    rintro rfl;have:0<m*sz:=K7 qb V;simp at hl;omega
   obtain⟨ad,rfl,z⟩:=hsrc w hw h3;have r:∀j u,news[j]? =some u->w.cell? (ad.add j)=some u:=z;rcases p with⟨i,rfl,rfl⟩|⟨g,rfl,⟨o,n',h0,pre,f,fr,i,hg,ho,h4,h5,y,C⟩⟩
   ·injection i with e1 e2 e3;omega
   ·injection i with e1 e2 e3;subst e1 e2 e3;have D:k+m<=c:=(by omega);have Q:(⟨g,o,none⟩:Addr).add (k*sz)=⟨g,o+k*sz,none⟩:=Addr.add_lit _ _ _;have h6:k*sz+news.length<=xs.length:=by
     have:(k+m)*sz<=n*sz:=Qy _ hk;rw[Q0] at this;omega
    have v:=G4 (P:=P) g (o+k*sz) e fr news 0 (pre++xs++f).toArray w hg (by simpa using C) (by simp;omega) h1;have A:=run_firstCells_some (P:=P) w sz m ad m S news hl r;simp only[Q3,<-ho] at v;rw[fv pre xs f news (k*sz) h6] at v;have J:(L5 xs (k*sz) news).length=xs.length:=by
     simp only[L5,zz,z7,kz];omega
    refine⟨.slice (some ⟨g,o,none⟩) (k+m) c,w.setRow g (pre++L5 xs (k*sz) news++f).toArray,H',l _ _ ?_,?_,h⟩
    ·rw[ho] at v;simp[Builtin.append_,run_underlying hu.h,hs.h,Builtin.lenOf,D,A,Q];simp at v;simp[v]
    ·refine kk _ [g] rfl rfl rfl (fun q hq h7=>setRow_other w g q _ (by simpa using h7)) ⟨[g],[],rfl,.inr ⟨g,rfl,⟨o,n,c,pre,f,fr,rfl,setRow_heap w g _ _ e _ hg,ho,by rw[J];exact h4,?_,y,?_⟩⟩,rfl⟩ y4 (fun q hq=>.inl hq)
     ·simp only[zz,J];simpa using h5
     ·simp only[zz,J] at C⊢;exact C
theorem fN{dst:Option Nat}{gd:Option (Nat×Bool)}{a:Option Addr}{n c e sz:Nat}{lo:Option Operand}{d f:Operand}{q r:IntKind}{i j m:Int}[hu:HU P t (.slice e)][hs:HS P e sz](hx:ev L x=some (.slice a n c))(b:CA L lo 0=some i)(g:ev L d=some (.int q j))(h:ev L f=some (.int r m))(k:0<=i/\i<=j/\j<=m/\m<=c):
  E2 P ⟨dst,.slice t x lo (some d) (some f),ty,pos,af,gd⟩ L (.slice (Y8 a m.toNat i.toNat sz) (j.toNat-i.toNat) (m.toNat-i.toNat)):=
 by
  unfold E2;intro ρ w hf;have s:=hf _ _ g;have v:=hf _ _ h;have l:(Instr.sliceBounds true n c (lo.map ρ) (some (ρ d)) (some (ρ f))).run P w=.ok (i.toNat,j.toNat,m.toNat) w:=by
   rw[s,v]
   cases lo with
   |none=>
    simp only[CA,Qn] at b;subst b;have o:¬max m 0<j:=(by omega);simp[Instr.sliceBounds,Instr.sliceBound,asIntOf,k.2.2.2,show 0<=m from by omega,show 0<=j from by omega,o]
   |some o2=>
    have y:∃kk,ρ o2=.int kk i:=by
     simp only[CA] at b
     cases e:ev L o2 with
     |none=>rw[e] at b;cases b
     |some u=>rw[e] at b;cases u<;>simp at b;subst b;exact⟨_,hf _ _ e⟩
    obtain⟨z,p⟩:=y;have A:i<=max j 0:=(by omega);have o:j<=max m 0:=(by omega);simp[Instr.sliceBounds,Instr.sliceBound,p,asIntOf,k.1,k.2.2.2,show 0<=m from by omega,show 0<=j from by omega,A,o]
  have C:(Instr.slice t (.slice a n c) (lo.map ρ) (some (ρ d)) (some (ρ f))).run P w=.ok (.slice (Y8 a m.toNat i.toNat sz) (j.toNat-i.toNat) (m.toNat-i.toNat)) w:=by
   simp only[Instr.slice,Sem.run_bind,run_underlying hu.h,Result.andThen_ok,l,hs.h,Sem.run_pure,Y8]
  have D:(Instr.sliceAt t (.slice a n c) (lo.map ρ) (some (ρ d)) (some (ρ f))).run P w=.ok (.slice (Y8 a m.toNat i.toNat sz) (j.toNat-i.toNat) (m.toNat-i.toNat)) w:=by
   simp only[Instr.sliceAt,Sem.run_bind,run_underlying hu.h,Result.andThen_ok,C]
  simp only[execOp,hf _ _ hx];rw[show(some d:Option Operand).map ρ=some (ρ d) from rfl,show(some f:Option Operand).map ρ=some (ρ f) from rfl,Sem.run_bind,D];rfl
theorem O5{α β γ:Type}{c:Code}(b:α->β->γ->Prop)(d:α->β->γ->F_)(HI:α->β->γ->List As)(μ:α->β->γ->Nat)(e:α)(f:β)(z0:γ)(g:b e f z0)(i:fp (d e f z0) L)(hH:∀w,Hp F w H->Hp F w (HI e f z0))(round:∀x y z,b x y z->G P N c (fun a w=>∃j:α×β×γ,b j.1 j.2.1 j.2.2/\μ j.1 j.2.1 j.2.2<μ x y z/\G3 N (d j.1 j.2.1 j.2.2) a/\Hp F w (HI j.1 j.2.1 j.2.2)) E R (d x y z) F (HI x y z)):G P N (.loop c) K E R L F H:=
 o9 (ι:=α×β×γ) (fun j=>b j.1 j.2.1 j.2.2) (fun j=>d j.1 j.2.1 j.2.2) (fun j=>HI j.1 j.2.1 j.2.2) (fun j=>μ j.1 j.2.1 j.2.2) (e,f,z0) g i hH fun j h=>round j.1 j.2.1 j.2.2 h
theorem vM{α β γ:Type}{c:Code}(b:α->β->γ->Prop)(f:α->β->γ->F_)(g:α->β->γ->l6)(HI:α->β->γ->List As)(μ:α->β->γ->Nat)(d:α)(e:β)(z0:γ)(i:b d e z0)(k:fp (f d e z0) L)(l:g d e z0=F)(hH:∀w,Hp F w H->Hp F w (HI d e z0))(round:∀x y z,b x y z->G P N c (fun a w=>∃j:α×β×γ,b j.1 j.2.1 j.2.2/\μ j.1 j.2.1 j.2.2<μ x y z/\G3 N (f j.1 j.2.1 j.2.2) a/\Hp (g j.1 j.2.1 j.2.2) w (HI j.1 j.2.1 j.2.2)) E R (f x y z) (g x y z) (HI x y z)):G P N (.loop c) K E R L F H:=
 bJ (ι:=α×β×γ) (fun j=>b j.1 j.2.1 j.2.2) (fun j=>f j.1 j.2.1 j.2.2) (fun j=>g j.1 j.2.1 j.2.2) (fun j=>HI j.1 j.2.1 j.2.2) (fun j=>μ j.1 j.2.1 j.2.2) (d,e,z0) i k l hH fun j h=>round j.1 j.2.1 j.2.2 h
end
theorem n7{P:Program}{N:Nat}{K R:y6}{E:List (Nat×y6)}{L:F_}{F:l6}{H:List As}{c:Code}{ι:Type}(d:ι->Prop)(L':ι->F_)(H':ι->List As)(f:G P N c (fun a w=>∃i,d i/\G3 N (L' i) a/\Hp F w (H' i)) E R L F H)(g:∀i,d i->At N K (L' i) F (H' i)):G P N c K E R L F H:=by
 unfold G At at*;intro a w hf b;refine Code.wp_mono (fun e a w q=>?_) (f a w hf b)
 cases e with
 |normal=>obtain⟨i,hp,hf,b⟩:=q;exact g i hp a w hf b
 |_=>exact q
theorem g_{N:Nat}{L:F_}{F:l6}{H:List As}{ι:Type}{b:ι->Prop}{L':ι->F_}{H':ι->List As}(i:ι)(hp:b i)(hH:∀w,Hp F w H->Hp F w (H' i))(hs:fp (L' i) L:=by exact sub):At N (fun a w=>∃i,b i/\G3 N (L' i) a/\Hp F w (H' i)) L F H:=by
 unfold At;exact fun a w hf c=>⟨i,hp,hf.sub hs,hH w c⟩
end Go.Sl
namespace Go.Proofs.YtmcepdopookilaaGreatDoor.Rp
open Go Go.Sl Go.RowKit Go.Proofs.Tryz
abbrev xN(f:Bs):List Value:=[B f]
theorem df:∀x,(xN x).length=1:=fun _=>rfl
theorem AM(l:List Bs):fV l=l.flatMap xN:=by induction l with
 |nil=>rfl
 |cons x t ih=>rw[Q2,<-ih];rfl
theorem dW(a:Option Addr)(c sz:Nat):Y8 a c 0 sz=a:=by
 unfold Y8;split
 ·rfl
 ·cases a with
  |none=>rfl
  |some ad=>obtain⟨b,o,w⟩:=ad;simp[Addr.add]
theorem J_{α:Type}(q:α->Bool){l:List α}{j:Nat}(a:j<l.length):(l.take (j+1)).filter q=(l.take j).filter q++if q l[j] then[l[j]] else[]:=by
 rw[kw a,Wc];congr 1;simp[List.filter];split<;>simp_all
theorem jO{α:Type}{q:α->Bool}{l:List α}{j:Nat}(h:D1 q l=(j:Nat)):j<l.length/\(∀(g:j<l.length),q l[j]=true)/\(l.take j).filter (fun x=>!q x)=l.take j:=by
 unfold D1 at h
 cases h1:l.findIdx? q with
 |none=>rw[h1] at h;simp only[Option.elim] at h;omega
 |some i=>
  rw[h1] at h;simp only[Option.elim] at h;have:i=j:=by omega
  subst this;obtain⟨c,d,a⟩:=kd.1 h1;refine⟨c,fun _=>d,Ww.2 fun x e=>?_⟩;obtain⟨k,f,rfl⟩:=Zz e;have b:k<i:=by simp at f;omega
  rw[K4];simpa using a k b
theorem gw{α:Type}{q:α->Bool}{l:List α}(h:D1 q l= -1):l.filter (fun x=>!q x)=l:=by
 unfold D1 at h
 cases h1:l.findIdx? q with
 |none=>
  rw[Q5] at h1;exact Ww.2 fun x a=>by simpa using h1 x a
 |some i=>rw[h1] at h;simp only[Option.elim] at h;omega
theorem mO(l:List Bs)(a:Option Addr)(c:Nat)(f:FuncId)[HF prog f](qs:List Value)(d:l9->Prop)[Mn d](q:Bs->Bool)(p:∀x∈l,Pu prog f (B x::qs) d (.bool (q x)))(hl:l.length<=1000000000000):Pu prog 340 [.slice a l.length c,.func (.func f) #[] qs.toArray] (fun h=>o0 h a (l.flatMap xN)/\d h) (.int .i64 (D1 q l)):=by
 refine b_ 19 func340 rfl rfl rfl ?_;rintro F ⟨g,k⟩;refine O2 ?_;refine o9 (ι:=Nat) (fun j=>j<=l.length/\∀i (m:i<l.length),i<j->q l[i]=false) (fun j=>[(0,.slice a l.length c),(1,.func (.func f) #[] qs.toArray),(7,.int .i64 (l.length:Nat)),(8,.int .i64 (j:Nat))]) (fun _=>[]) (fun j=>l.length-j) 0 ⟨zw _,fun i _ h=>by omega⟩ sub i_ ?_;rintro j ⟨u,e⟩;refine R6 ?_ ?_<;>intro h
 ·have b:j<l.length:=by have:=qr h;omega
  have n:=A0 g df qp b;refine cQ ?_;refine r_ (i8 rfl (fun w r=>S5 (g.le r.keep) df qp b y4)) ?_;refine z_ (ps:=[]) _ rfl rfl rfl (p _ (zx b)) i_ (fun h s _=>Mn.le s k) rfl ?_;rintro v A ⟨rfl,rfl⟩;refine O1 ?_ ?_<;>intro o
  ·refine L7 ?_;exact d_ rfl rfl [] ⟨by rw[N6 b o e],rfl⟩ i_
  ·refine y8 ?_;refine l8 (j+1) ⟨b,fun i m h=>?_⟩ qb sub i_;rcases kr.1 h with t|rfl
   ·exact e i m t
   ·exact o
 ·have b:j=l.length:=by have:=zq h;omega
  refine C8 ?_;exact d_ rfl rfl [] ⟨by rw[N5 fun i m=>e i m qb],rfl⟩ i_
theorem oN(l:List SX)(a:Option Addr)(c:Nat)(f:FuncId)[HF prog f](qs:List Value)(o:l9->Prop)[Mn o](q:SX->Bool)(hm:∀x∈l,Pu prog f (.agg (nq x).toArray::qs) o (.bool (q x)))(hl:l.length<=1000000000):Ct prog 103 [.slice a l.length c,.func (.func f) #[] qs.toArray] o [.own (.slice a l.length c) 102 5 (l.flatMap nq)] (fun v A=>v=.slice a (l.filter fun x=>!q x).length c/\A=[.own (.slice a (l.filter fun x=>!q x).length c) 102 5 ((l.filter fun x=>!q x).flatMap nq)]):=by
 refine b_ 42 func103 rfl rfl rfl ?_;intro F s;refine B4 (a:=a) (n:=l.length) (c:=c) (sz:=5) (xs:=l.flatMap nq) (te:=102) ud fun _ h7 d=>?_;refine E4 ?_;refine e_ rfl (aB nq X3 l a c f qs o q hm qb) (fun h Z ⟨bs,hb⟩=>⟨A2.rd hb ud,Mn.le Z s⟩) rfl ?_;refine eJ ?_ ?_<;>intro h
 ·have hi:D1 q l= -1:=qr h;refine L7 ?_;exact d_ rfl rfl _ ⟨by rw[gw hi],rfl⟩ (fun w p=>by rw[gw hi];exact p)
 have h8:=db q l;obtain⟨X,O⟩:∃X:Nat,D1 q l=(X:Nat):=⟨(D1 q l).toNat,by have:=zq h;omega⟩;obtain⟨D,h0,h5⟩:=jO O;rw[O];refine E4 ?_;refine O5 (fun i j m=>i<j/\j<=l.length/\m.length=l.length/\m.take i=(l.take j).filter (fun x=>!q x)/\m.drop j=l.drop j) (fun i j m=>[(0,.slice a l.length c),(1,.func (.func f) #[] qs.toArray),(5,.int .i64 (i:Nat)),(6,.int .i64 (j:Nat))]) (fun i j m=>[.own (.slice a l.length c) 102 5 (m.flatMap nq)]) (fun i j m=>l.length-j) X (X+1) l ⟨W5 _,D,rfl,?_,rfl⟩ sub i_ ?_
 ·rw[J_ _ D,h5];have:=h0 D;simp[this]
 rintro i j m ⟨h9,hj,Q,g,S⟩;refine EW ?_ ?_<;>intro h
 ·have b:j<l.length:=by have:=qr h;omega
  have T:j<m.length:=by omega
  have U:i<m.length:=by omega
  have r:m[j]=l[j]:=by
   have Y:=jw (fun z=>z[0]?) S;simp only[Zy,Q3] at Y;rw[zj T,zj b] at Y;exact j8 Y
  have d:=d qb;refine E4 ?_;refine r_ (w8 rfl (fun w p=>fq (p.ownN (t:=102) ud).2.2.1 X3 qp T y4) (X3 _)) ?_;refine i7 rfl ?_;intro g7;refine E4 ?_;refine z_ (ps:=[]) _ rfl rfl rfl (hm _ (r▸zx b)) i_ (fun h Z _=>Mn.le Z s) rfl ?_;rintro v A ⟨rfl,rfl⟩;refine p_ ?_;have k:∀(V:Nat) (J:List SX),V<=j->J.length=l.length->J.take V=(l.take (j+1)).filter (fun x=>!q x)->J.drop (j+1)=l.drop (j+1)->V<j+1/\j+1<=l.length/\J.length=l.length/\J.take V=(l.take (j+1)).filter (fun x=>!q x)/\J.drop (j+1)=l.drop (j+1):=fun V J Y M h3 h4=>⟨by omega,b,M,h3,h4⟩;have u:m.drop (j+1)=l.drop (j+1):=by
   have:=jw (List.drop 1) S;simpa[Kn,Wu] using this
  refine o8 rfl ?_ ?_<;>intro M
  ·have hq:q l[j]=false:=(by rw[r] at M;simpa using M);refine O2 ?_;refine A9 (C:=nq) m[j] X3 U (j:=0) rfl ?_;refine cQ ?_;refine l8 (i:=(i,j,m)) (i+1,j+1,m.set i m[j]) (k (i+1) (m.set i m[j]) qb (by simpa using Q) ?_ ?_) qg sub (fun w p=>(tk (C:=[_])).hp p|>.left)
   ·rw[dV U,J_ _ b,g,r];simp[hq]
   ·rw[Km qb];exact u
  ·have hq:q l[j]=true:=(by rw[r] at M;simpa using M);refine E4 ?_;refine l8 (i:=(i,j,m)) (i,j+1,m) (k i m qb Q ?_ u) qg sub (fun w p=>(tk (C:=[_])).hp p|>.left);rw[J_ _ b,g];simp[hq]
 ·have b:j=l.length:=by have:=zq h;omega
  subst b;rw[Qj] at g;have y:i=(l.filter fun x=>!q x).length:=by have:=jw List.length g;rw[z7] at this;omega
  refine y8 ?_;refine f_ (B5 rfl rfl rfl qb) ?_;refine jN (a:=a) (n:=l.length) (c:=c) (sz:=5) (lo:=i) (xs:=m.flatMap nq) (te:=102) rfl qb qb rfl rfl (fun ys=>uh) ?_;intro ys k0 h6;refine y8 ?_;refine f_ ((B5 rfl rfl rfl qb).eq (v':=.slice a i c) (by simp[dW])) ?_;refine C8 ?_;have e:ys.take (i*5)=(l.filter fun x=>!q x).flatMap nq:=by rw[h6,ay X3,g]
  exact d_ rfl rfl _ ⟨by rw[y],rfl⟩ (fun w p=>by rw[<-y,<-e];exact p.cutOwn uh qb)
theorem tT(l:List LM)(a:Option Addr)(c:Nat)(f:FuncId)[HF prog f](qs:List Value)(o:l9->Prop)[Mn o](q:LM->Bool)(hm:∀x∈l,Pu prog f (.agg (S9 x).toArray::qs) o (.bool (q x)))(hl:l.length<=1000000000):Ct prog 122 [.slice a l.length c,.func (.func f) #[] qs.toArray] o [.own (.slice a l.length c) 156 5 (l.flatMap S9)] (fun v A=>v=.slice a (l.filter fun x=>!q x).length c/\A=[.own (.slice a (l.filter fun x=>!q x).length c) 156 5 ((l.filter fun x=>!q x).flatMap S9)]):=by
 refine b_ 42 func122 rfl rfl rfl ?_;intro F s;refine B4 (a:=a) (n:=l.length) (c:=c) (sz:=5) (xs:=l.flatMap S9) (te:=156) ud fun _ h7 d=>?_;refine E4 ?_;refine e_ rfl (X9 S9 A_ l a c f qs o q hm qb) (fun h Z ⟨bs,hb⟩=>⟨A2.rd hb ud,Mn.le Z s⟩) rfl ?_;refine eJ ?_ ?_<;>intro h
 ·have hi:D1 q l= -1:=qr h;refine L7 ?_;exact d_ rfl rfl _ ⟨by rw[gw hi],rfl⟩ (fun w p=>by rw[gw hi];exact p)
 have h8:=db q l;obtain⟨X,O⟩:∃X:Nat,D1 q l=(X:Nat):=⟨(D1 q l).toNat,by have:=zq h;omega⟩;obtain⟨D,h0,h5⟩:=jO O;rw[O];refine E4 ?_;refine O5 (fun i j m=>i<j/\j<=l.length/\m.length=l.length/\m.take i=(l.take j).filter (fun x=>!q x)/\m.drop j=l.drop j) (fun i j m=>[(0,.slice a l.length c),(1,.func (.func f) #[] qs.toArray),(5,.int .i64 (i:Nat)),(6,.int .i64 (j:Nat))]) (fun i j m=>[.own (.slice a l.length c) 156 5 (m.flatMap S9)]) (fun i j m=>l.length-j) X (X+1) l ⟨W5 _,D,rfl,?_,rfl⟩ sub i_ ?_
 ·rw[J_ _ D,h5];have:=h0 D;simp[this]
 rintro i j m ⟨h9,hj,Q,g,S⟩;refine EW ?_ ?_<;>intro h
 ·have b:j<l.length:=by have:=qr h;omega
  have T:j<m.length:=by omega
  have U:i<m.length:=by omega
  have r:m[j]=l[j]:=by
   have Y:=jw (fun z=>z[0]?) S;simp only[Zy,Q3] at Y;rw[zj T,zj b] at Y;exact j8 Y
  have d:=d qb;refine E4 ?_;refine r_ (w8 rfl (fun w p=>fq (p.ownN (t:=156) ud).2.2.1 A_ qp T y4) (A_ _)) ?_;refine i7 rfl ?_;intro g7;refine E4 ?_;refine z_ (ps:=[]) _ rfl rfl rfl (hm _ (r▸zx b)) i_ (fun h Z _=>Mn.le Z s) rfl ?_;rintro v A ⟨rfl,rfl⟩;refine p_ ?_;have k:∀(V:Nat) (J:List LM),V<=j->J.length=l.length->J.take V=(l.take (j+1)).filter (fun x=>!q x)->J.drop (j+1)=l.drop (j+1)->V<j+1/\j+1<=l.length/\J.length=l.length/\J.take V=(l.take (j+1)).filter (fun x=>!q x)/\J.drop (j+1)=l.drop (j+1):=fun V J Y M h3 h4=>⟨by omega,b,M,h3,h4⟩;have u:m.drop (j+1)=l.drop (j+1):=by
   have:=jw (List.drop 1) S;simpa[Kn,Wu] using this
  refine o8 rfl ?_ ?_<;>intro M
  ·have hq:q l[j]=false:=(by rw[r] at M;simpa using M);refine O2 ?_;refine A9 (C:=S9) m[j] A_ U (j:=0) rfl ?_;refine cQ ?_;refine l8 (i:=(i,j,m)) (i+1,j+1,m.set i m[j]) (k (i+1) (m.set i m[j]) qb (by simpa using Q) ?_ ?_) qg sub (fun w p=>(tk (C:=[_])).hp p|>.left)
   ·rw[dV U,J_ _ b,g,r];simp[hq]
   ·rw[Km qb];exact u
  ·have hq:q l[j]=true:=(by rw[r] at M;simpa using M);refine E4 ?_;refine l8 (i:=(i,j,m)) (i,j+1,m) (k i m qb Q ?_ u) qg sub (fun w p=>(tk (C:=[_])).hp p|>.left);rw[J_ _ b,g];simp[hq]
 ·have b:j=l.length:=by have:=zq h;omega
  subst b;rw[Qj] at g;have y:i=(l.filter fun x=>!q x).length:=by have:=jw List.length g;rw[z7] at this;omega
  refine y8 ?_;refine f_ (B5 rfl rfl rfl qb) ?_;refine jN (a:=a) (n:=l.length) (c:=c) (sz:=5) (lo:=i) (xs:=m.flatMap S9) (te:=156) rfl qb qb rfl rfl (fun ys=>uh) ?_;intro ys k0 h6;refine y8 ?_;refine f_ ((B5 rfl rfl rfl qb).eq (v':=.slice a i c) (by simp[dW])) ?_;refine C8 ?_;have e:ys.take (i*5)=(l.filter fun x=>!q x).flatMap S9:=by rw[h6,ay A_,g]
  exact d_ rfl rfl _ ⟨by rw[y],rfl⟩ (fun w p=>by rw[<-y,<-e];exact p.cutOwn uh qb)
theorem De(l:List Bs)(a:Option Addr)(c:Nat)(f:FuncId)[HF prog f](qs:List Value)(o:l9->Prop)[Mn o](q:Bs->Bool)(hm:∀x∈l,Pu prog f (B x::qs) o (.bool (q x)))(hl:l.length<=1000000000):Ct prog 271 [.slice a l.length c,.func (.func f) #[] qs.toArray] o [.own (.slice a l.length c) 9 1 (l.flatMap xN)] (fun v A=>v=.slice a (l.filter fun x=>!q x).length c/\A=[.own (.slice a (l.filter fun x=>!q x).length c) 9 1 ((l.filter fun x=>!q x).flatMap xN)]):=by
 refine b_ 42 func271 rfl rfl rfl ?_;intro F s;refine B4 (a:=a) (n:=l.length) (c:=c) (sz:=1) (xs:=l.flatMap xN) (te:=9) ud fun _ h7 d=>?_;refine E4 ?_;refine e_ rfl (mO l a c f qs o q hm qb) (fun h Z ⟨bs,hb⟩=>⟨A2.rd hb ud,Mn.le Z s⟩) rfl ?_;refine eJ ?_ ?_<;>intro h
 ·have hi:D1 q l= -1:=qr h;refine L7 ?_;exact d_ rfl rfl _ ⟨by rw[gw hi],rfl⟩ (fun w p=>by rw[gw hi];exact p)
 have h8:=db q l;obtain⟨X,O⟩:∃X:Nat,D1 q l=(X:Nat):=⟨(D1 q l).toNat,by have:=zq h;omega⟩;obtain⟨D,h0,h5⟩:=jO O;rw[O];refine E4 ?_;refine O5 (fun i j m=>i<j/\j<=l.length/\m.length=l.length/\m.take i=(l.take j).filter (fun x=>!q x)/\m.drop j=l.drop j) (fun i j m=>[(0,.slice a l.length c),(1,.func (.func f) #[] qs.toArray),(5,.int .i64 (i:Nat)),(6,.int .i64 (j:Nat))]) (fun i j m=>[.own (.slice a l.length c) 9 1 (m.flatMap xN)]) (fun i j m=>l.length-j) X (X+1) l ⟨W5 _,D,rfl,?_,rfl⟩ sub i_ ?_
 ·rw[J_ _ D,h5];have:=h0 D;simp[this]
 rintro i j m ⟨h9,hj,Q,g,S⟩;refine EW ?_ ?_<;>intro h
 ·have b:j<l.length:=by have:=qr h;omega
  have T:j<m.length:=by omega
  have U:i<m.length:=by omega
  have r:m[j]=l[j]:=by
   have Y:=jw (fun z=>z[0]?) S;simp only[Zy,Q3] at Y;rw[zj T,zj b] at Y;exact j8 Y
  have d:=d qb;refine E4 ?_;refine r_ (i8 rfl (fun w p=>dO (j:=0) (p.ownN (t:=9) ud).2.2.1 df T rfl y4)) ?_;refine a_ ?_;refine y8 ?_;refine z_ (ps:=[]) _ rfl rfl rfl (hm _ (r▸zx b)) i_ (fun h Z _=>Mn.le Z s) rfl ?_;rintro v A ⟨rfl,rfl⟩;refine p_ ?_;have k:∀(V:Nat) (J:List Bs),V<=j->J.length=l.length->J.take V=(l.take (j+1)).filter (fun x=>!q x)->J.drop (j+1)=l.drop (j+1)->V<j+1/\j+1<=l.length/\J.length=l.length/\J.take V=(l.take (j+1)).filter (fun x=>!q x)/\J.drop (j+1)=l.drop (j+1):=fun V J Y M h3 h4=>⟨by omega,b,M,h3,h4⟩;have u:m.drop (j+1)=l.drop (j+1):=by
   have:=jw (List.drop 1) S;simpa[Kn,Wu] using this
  refine o8 rfl ?_ ?_<;>intro M
  ·have hq:q l[j]=false:=(by rw[r] at M;simpa using M);refine O2 ?_;refine A9 (C:=xN) m[j] df U (j:=0) rfl ?_;refine cQ ?_;refine l8 (i:=(i,j,m)) (i+1,j+1,m.set i m[j]) (k (i+1) (m.set i m[j]) qb (by simpa using Q) ?_ ?_) qg sub (fun w p=>(tk (C:=[_])).hp p|>.left)
   ·rw[dV U,J_ _ b,g,r];simp[hq]
   ·rw[Km qb];exact u
  ·have hq:q l[j]=true:=(by rw[r] at M;simpa using M);refine E4 ?_;refine l8 (i:=(i,j,m)) (i,j+1,m) (k i m qb Q ?_ u) qg sub (fun w p=>(tk (C:=[_])).hp p|>.left);rw[J_ _ b,g];simp[hq]
 ·have b:j=l.length:=by have:=zq h;omega
  subst b;rw[Qj] at g;have y:i=(l.filter fun x=>!q x).length:=by have:=jw List.length g;rw[z7] at this;omega
  refine y8 ?_;refine f_ (B5 rfl rfl rfl qb) ?_;refine jN (a:=a) (n:=l.length) (c:=c) (sz:=1) (lo:=i) (xs:=m.flatMap xN) (te:=9) rfl qb qb rfl rfl (fun ys=>uh) ?_;intro ys k0 h6;refine y8 ?_;refine f_ ((B5 rfl rfl rfl qb).eq (v':=.slice a i c) (by simp[dW])) ?_;refine C8 ?_;have e:ys.take (i*1)=(l.filter fun x=>!q x).flatMap xN:=by rw[h6,ay df,g]
  exact d_ rfl rfl _ ⟨by rw[y],rfl⟩ (fun w p=>by rw[<-y,<-e];exact p.cutOwn uh qb)
end Go.Proofs.YtmcepdopookilaaGreatDoor.Rp
namespace Go.Sl
open Go Go.RowKit Go.Proofs.Tryz
section
variable{P:Program}{N:Nat}{K R:y6}{E:List (Nat×y6)}{L:F_}{F:l6}{H:List As}{ops:Array Oper}{rest:List Oper}{ty:TypeId}{pos:String}{af:Array Edge}{t tn:TypeId}{s x:Operand}
theorem oO{d n sz:Nat}{r k:IntKind}{e:TypeId}{z:Value}{i:TypeInfo}[hu:HU P t (.slice e)][hn:HU P tn (.int r)][hz:HZ P e z][hi:HI P e i][hs:HS P e sz](m:ev L s=some (.slice none 0 0))(o:ev L x=some (.int k (n:Nat)))(u:0<n)(p:0<sz)(b:z.cells.size=sz)(l:n*i.bytes<=140737488355328)(h63:n<=9223372036854775807)(v:Nat.blt d N=true)(h:∀g c,n<=c->GL P N ops rest K E R ((d,.slice (some ⟨g,0,none⟩) n c)::L) F (.own (.slice (some ⟨g,0,none⟩) n c) e sz (Builtin.zeroCells z.cells n).toList::H)):
  GL P N ops (⟨some d,.call ⟨.builtin .append,#[s,x],#[t,tn]⟩,ty,pos,af,none⟩::rest) K E R L F H:=
 R_ rfl rfl v fun C w hf y=>by
  have f:i.size=sz:=by
   have a:=hs.h w;simp[sizeOf,typeInfo,hi.h] at a;exact a
  have q:i.zero=some z:=by
   have a:=hz.h w;simp only[zeroValue,Sem.run_bind,typeInfo] at a
   cases hq:i.zero with
   |none=>simp[hi.h,hq] at a
   |some z'=>simp[hi.h,hq] at a;rw[a]
  have A:=Go.Lib.run_append_nil_zeros (P:=P) w t tn ty e i z k r hu.h hn.h hi.h q n u (by rw[f];exact p) qb qb;have j:=grownCap_ge w n 0 e;refine⟨.slice (some ⟨w.heap.size,0,none⟩) n (grownCap w n 0 e),w.drew.alloc (.cells (Builtin.zeroCells z.cells n++Builtin.zeroCells z.cells (grownCap w n 0 e-n)) e),_,?_,?_,h w.heap.size (grownCap w n 0 e) j⟩
  ·simp[execOp,resolve,invoke,builtin,hf.eval m,hf.eval o,A]
  ·refine O7 (w:=w.drew) (post:=(Builtin.zeroCells z.cells (grownCap w n 0 e-n)).toList) (fr:=(0,0)) y.drew' ?_ ?_ j (.inl (zr _)) ?_
   ·simp[size_zeroCells,b]
   ·simp only[zz,Zh,size_zeroCells,b,<-Q0];congr 1;omega
   ·congr 2;apply Q6.1;simp
end
