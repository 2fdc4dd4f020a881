import Derived.Test.YtmcepdopookilaaGreatDoorubx21
import Derived.Laws.Tables
set_option maxHeartbeats 16000000
set_option maxRecDepth 8000
set_option linter.unusedVariables false
set_option linter.unusedSimpArgs false
set_option linter.defProp false
namespace Go.Proofs.YtmcepdopookilaaGreatDoor.Rp
open Go Go.Sl Go.RowKit Go.WideShapes Go.ChangeShapes Go.Proofs.Tryz
theorem aS{P:Program}{t:TypeId}(e:P.underlying t=some (.int .u64)):xv P t (fun n:Nat=>[.int .u64 (n:Nat)]) (fun _ n=>n<=18446744073709551615) (fun _=>1):=⟨fun d w a f b c g x h=>by
 obtain⟨n,i,j,k⟩:=(gP e).h d w a f b c g x h;have l:=QM j;refine⟨n.toNat,?_,by omega,k⟩;rw[i,Int.toNat_of_nonneg l.1]⟩
theorem QN(l:List Bs):(l.flatMap fun f=>[B f])=fV l:=by
 induction l with
 |nil=>rfl
 |cons x r ih=>rw[Qm,ih];rfl
theorem TJ:xv prog 178 (fun m:Nat×Nat=>dV m) (fun _ _=>True) (fun _=>0):=
 (fb underlying178 i6
  (C3 (k:=1) (off':=1) (aS i6) rfl i6 rfl
  (C3 (k:=1) (off':=2) (aS i6) rfl i6 rfl kQ))).map
  (fun y=>((y.1,y.2.1):Nat×Nat)) (fun y=>rfl) (fun h y o=>trivial) (fun y=>zw _)
structure RqT(h:l_)(p:RQ×QL):Prop where
 rd:dA p.1 p.2 h
 num:p.1.num<18446744073709551616
 life:p.1.life<18446744073709551616
 tr:p.1.tr<18446744073709551616
theorem QO:xv prog 44 (fun p:RQ×QL=>eE p.1 p.2) (fun h p=>RqT h p) (fun _=>0):=
 (fb underlying44 i6
  (C3 (k:=1) (off':=1) (gP (k:=.i64) i6) rfl i6 rfl
  (C3 (k:=1) (off':=2) (aS i6) rfl i6 rfl
  (C3 (k:=1) (off':=3) (aS i6) rfl i6 rfl
  (C3 (k:=1) (off':=4) (gP (k:=.i64) i6) rfl i6 rfl
  (C3 (k:=1) (off':=5) (aS i6) rfl i6 rfl
  (C3 (k:=1) (off':=6) (aS i6) rfl i6 rfl
  (C3 (k:=1) (off':=7) (cC i6) rfl i6 rfl
  (C3 (k:=1) (off':=8) (cC i6) rfl i6 rfl
  (C3 (k:=1) (off':=9) (aS i6) rfl i6 rfl
  (C3 (k:=1) (off':=10) (sU (e:=178) i6 TJ (n:=2) i6 (fun _=>rfl) qp) rfl i6 rfl
  (C3 (k:=1) (off':=11) (sU (e:=9) i6 (cC i6) (n:=1) i6 (fun _=>rfl) qp) rfl i6 rfl
  (C3 (k:=1) (off':=12) (gP (k:=.i64) i6) rfl i6 rfl
  (C3 (k:=1) (off':=13) (xw i6) rfl i6 rfl
  (C3 (k:=1) (off':=14) (aS i6) rfl i6 rfl
  (C3 (k:=1) (off':=15) (cC i6) rfl i6 rfl
  (C3 (k:=1) (off':=16) (aS i6) rfl i6 rfl
  (C3 (k:=1) (off':=17) (aS i6) rfl i6 rfl kQ)))))))))))))))))).map
  (fun y=>(⟨⟨y.1,y.2.1,y.2.2.1,y.2.2.2.1,y.2.2.2.2.1,y.2.2.2.2.2.1,y.2.2.2.2.2.2.1,y.2.2.2.2.2.2.2.1,y.2.2.2.2.2.2.2.2.1,y.2.2.2.2.2.2.2.2.2.1.2.1,y.2.2.2.2.2.2.2.2.2.2.1.2.1,y.2.2.2.2.2.2.2.2.2.2.2.1,y.2.2.2.2.2.2.2.2.2.2.2.2.1,y.2.2.2.2.2.2.2.2.2.2.2.2.2.1,y.2.2.2.2.2.2.2.2.2.2.2.2.2.2.1,y.2.2.2.2.2.2.2.2.2.2.2.2.2.2.2.1,y.2.2.2.2.2.2.2.2.2.2.2.2.2.2.2.2.1⟩,
   ⟨y.2.2.2.2.2.2.2.2.2.1.1,y.2.2.2.2.2.2.2.2.2.1.2.2,y.2.2.2.2.2.2.2.2.2.2.1.1,y.2.2.2.2.2.2.2.2.2.2.1.2.2⟩⟩:RQ×QL)) (fun y=>rfl)
  (fun h y o=>by
   obtain⟨_,_,d,_,f,g,_,_,_,a,b,_⟩:=o;have i:=a.rd;have c:=b.rd;rw[QN] at c;exact⟨⟨i,c⟩,W0 d,W0 f,W0 g⟩)
  (fun y=>zw _)
theorem JB:xv prog 41 (fun p:Int×Bs=>[.int .i64 p.1,B p.2]) (fun _ _=>True) (fun _=>0):=
 (fb underlying41 i6
  (C3 (k:=1) (off':=1) (gP (k:=.i64) i6) rfl i6 rfl
  (C3 (k:=1) (off':=2) (cC i6) rfl i6 rfl kQ))).map
  (fun y=>((y.1,y.2.1):Int×Bs)) (fun y=>rfl) (fun h y o=>trivial) (fun y=>zw _)
structure AcT(h:l_)(p:lL):Prop where
 rd:dA p.1.other p.2 h
 num:p.1.other.num<18446744073709551616
 life:p.1.other.life<18446744073709551616
 tr:p.1.other.tr<18446744073709551616
theorem shpAct:xv prog 70 (fun p:lL=>Ke p) (fun h p=>AcT h p) (fun _=>0):=
 (fb underlying70 i6
  (C3 (k:=1) (off':=1) (gP (k:=.i64) i6) rfl i6 rfl
  (C3 (k:=2) (off':=3) JB rfl i6 rfl
  (C3 (k:=1) (off':=4) (xw i6) rfl i6 rfl
  (C3 (k:=17) (off':=21) QO rfl i6 rfl kQ))))).map
  (fun y=>(⟨⟨y.1,y.2.1.1,y.2.1.2,y.2.2.1,y.2.2.2.1.1⟩,y.2.2.2.1.2⟩:lL)) (fun y=>rfl)
  (fun h y o=>by
   obtain⟨_,_,_,a,_⟩:=o;exact⟨a.rd,a.num,a.life,a.tr⟩)
  (fun y=>zw _)
theorem pu_of_cm{P:Program}{f:FuncId}{args:List Value}{a:l_->Prop}{u:Value}(h:Cm P f args a [] (fun h v A=>v=u/\A=[])):Pu P f args a u:=by
 intro w m hs n hp;have p:=h (r8 w m) [] w (by simpa using Hp.start hs n) hp;refine p.mono ?_;rintro e q ⟨v,A,r,rfl,c,⟨rfl,rfl⟩,d⟩;refine⟨_,[],rfl,qh,d.os.trans c.os,d.tape.trans c.tape,d.output.trans c.output,(fun b o g=>d.keep b o (c.heap b o g)),?_⟩;obtain⟨i,j,k,l⟩:=d.own;refine⟨i,j,k,fun b g=>?_⟩;have:=l b g
 cases he:(r8 w m).heap b with
 |none=>rfl
 |some o=>rw[c.heap _ _ he] at this;cases this
theorem acts_rd{h:l_}{a:Option Addr}{l:List lL}{c:Nat}(hg:Gl h)(s:JA Ke AcT h a l c):Jl l a h:=⟨hg,s.rd,fun p hp=>(s.each p hp).rd⟩
theorem acts_ty{h:l_}{a:Option Addr}{l:List lL}{c:Nat}(s:JA Ke AcT h a l c):zX l:=fun p hp=>⟨(s.each p hp).num,(s.each p hp).life,(s.each p hp).tr⟩
open Go Go.Sl Go.RowKit Go.Proofs.Tryz
def rx(g:Bs):Prop:=∃s,dT s=true/\g=cF s
abbrev goR:RR:={R0 with kind:=5,text:=[103,111,32,111,110]}
abbrev TK:Bs:=[116,111,111,32,108,111,110,103]
abbrev OD:List Bs:=[[110,111,32,116,97,103],[110,111,32,115,117,99,104,32,99,111,109,109,97,110,100],[119,114,111,110,103,32,119,111,114,100,115],[110,111,116,32,110,111,119],[116,111,111,32,98,105,103],[110,111,32,115,117,99,104,32,109,101,115,115,97,103,101]]
abbrev a1U:List (Bs×Bs):=[([82,69,65,68,45,79,78,76,89],[105,116,32,109,97,121,32,110,111,116,32,98,101]),([65,85,84,72,69,78,84,73,67,65,84,73,79,78,70,65,73,76,69,68],[119,114,111,110,103,32,112,97,115,115,119,111,114,100])]
def QP(l:List RR):Prop:=∃g,rx g/\(l=[dU g]\/l=[{R0 with kind:=6},dU g]\/l=[{R0 with kind:=7},dU g]\/l=[I3 dD,dU g]\/∃q∈a1U,l=[nh g q.1 q.2])
def a1V(l:List RR):Prop:=∃g t,(rx g\/g=[42])/\t∈OD/\l=[fo g t]
def EK(k:Int)(s s':SE)(d':DD):Prop:=
 (d'.a5X=[]/\(s.a5O=3\/s.a5T=true\/(k≠1/\k≠3)))\/
 ((d'.a5X=[goR]\/d'.a5X=[I3 TK])/\k≠1/\k≠3)\/
 ((k=1\/k=3)/\s.a5O≠3/\s.a5T=false/\(QP d'.a5X\/a1V d'.a5X/\s'=s/\d'={F_ with a5X:=d'.a5X}))
theorem xA{s f:SE}{a:DD}{k:Int}{t:Bs}(T:t.length<=1000000000)(h:cz s k t f a):(a.ask=true/\a.a5X=[]/\rx f.cmd.tag)\/(a.ask=false/\EK k s f a):=by
 have J:∀{q:SE} {w:DD} {c:CM} {r:RQ} {l:List Nat},(f,a)=G3 (q,w) c r l->w.a5X=[]->rx c.tag->(a.ask=true/\a.a5X=[]/\rx f.cmd.tag):=fun{q w c r l} h O hg=>by
  unfold G3 at h;split at h<;>(injection h with e1 e2;subst e1 e2;exact⟨rfl,O,hg⟩)
 have d:∀{g x:Bs},(f,a)=V1 (s,F_) (fo g x)->(rx g\/g=[42])->x∈OD->(k=1\/k=3)->s.a5O≠3->s.a5T=false->a.ask=false/\EK k s f a:=fun{g x} h hg U y Q p=>by
  injection h with A n;subst A n;exact⟨rfl,.inr (.inr ⟨y,Q,p,.inr ⟨⟨g,x,hg,U,rfl⟩,rfl,rfl⟩⟩)⟩
 have M:∀{q:SE} {l:List RR} {b:Bool},(f,a)=(q,{F_ with a5X:=l,close:=b})->QP l->(k=1\/k=3)->s.a5O≠3->s.a5T=false->a.ask=false/\EK k s f a:=fun{q l b} h S y Q p=>by
  injection h with A n;rw[n];exact⟨rfl,.inr (.inr ⟨y,Q,p,.inl S⟩)⟩
 unfold cz at h;split at h
 ·injection h with A n;rw[n];exact .inr ⟨rfl,.inr (.inl ⟨.inl rfl,by omega,by omega⟩)⟩
 split at h
 ·rename_i v;injection h with A n;rw[n];exact .inr ⟨rfl,.inl ⟨rfl,v.imp id .inl⟩⟩
 rename_i v;have i:s.a5O≠3:=fun e=>v (.inl e);have p:s.a5T=false:=by cases e:s.a5T;rfl;exact absurd (.inr e) v
 split at h
 ·unfold FY at h;injection h with A n;rw[n];exact .inr ⟨rfl,.inr (.inl ⟨.inr rfl,by omega,by omega⟩)⟩
 split at h
 ·rename_i y;obtain⟨c,e,hp,h⟩:=h;have j:=kE T hp;refine .inr (d h ?_ qp (.inr y) i p);unfold tF;split
  ·exact .inr rfl
  ·rename_i hc;by_cases u:e=11
   ·rw[j.no u] at hc;exact absurd rfl hc
   ·exact .inl ⟨t,(j.tag u).2,(j.tag u).1⟩
 split at h
 ·rename_i y;have m:k=1\/k=3:=.inl y;obtain⟨c,e,hp,h⟩:=h;have j:=kE T hp;have C:e≠11->rx c.tag:=fun h=>⟨t,(j.tag h).2,(j.tag h).1⟩;rcases h with⟨_,h⟩|⟨u,h⟩|⟨u,h⟩|⟨u,h⟩
  ·exact .inr (d h (.inr rfl) qp m i p)
  ·exact .inr (d h (.inl (C (by rw[u];decide))) qp m i p)
  ·exact .inr (d h (.inl (C (by rw[u];decide))) qp m i p)
  have hg:rx c.tag:=C (by rw[u];decide);rcases h with⟨_,h⟩|⟨A,n,h⟩
  ·exact .inr (d h (.inl hg) qp m i p)
  have o:∀{q:SE} {w:DD} {r:RQ} {l:List Nat},(f,a)=G3 (q,w) c r l->w.a5X=[]->(a.ask=true/\a.a5X=[]/\rx f.cmd.tag)\/(a.ask=false/\EK k s f a):=fun{q w r l} h O=>.inl (J h O hg);have D:∀{q:SE} {l:List RR} {b:Bool},(f,a)=(q,{F_ with a5X:=l,close:=b})->QP l->(a.ask=true/\a.a5X=[]/\rx f.cmd.tag)\/(a.ask=false/\EK k s f a):=fun{q l b} h S=>.inr (M h S m i p);unfold PW at h;split at h
  ·exact o h rfl
  split at h
  ·rcases h with⟨r,V,h⟩|⟨l,r,_,_,h⟩
   ·rcases V with rfl|rfl
    ·exact D (b:=false) h ⟨c.tag,hg,.inr (.inr (.inr (.inr ⟨_,.head _,rfl⟩)))⟩
    ·exact .inr (d h (.inl hg) qp m i p)
   ·exact o h rfl
  ·unfold NZ at h;by_cases k1:c.kind=1
   ·rw[zg k1] at h;exact D (b:=false) h ⟨c.tag,hg,.inr (.inl rfl)⟩
   rw[zk k1] at h;by_cases k2:c.kind=2
   ·rw[zg k2] at h;by_cases z:s.a5O=0
    ·rw[zg z] at h;exact D (b:=false) h ⟨c.tag,hg,.inl rfl⟩
    ·rw[zk z] at h;exact o h rfl
   rw[zk k2] at h;by_cases k3:c.kind=3
   ·rw[zg k3] at h;by_cases z:s.a5O=0
    ·rw[zg z] at h;exact D (b:=true) h ⟨c.tag,hg,.inr (.inr (.inr (.inl rfl)))⟩
    ·rw[zk z] at h;exact o h rfl
   rw[zk k3] at h;by_cases k4:c.kind=4
   ·rw[zg k4] at h;by_cases z:s.ro=true
    ·rw[zg z] at h;exact o h rfl
    ·rw[zk z] at h;exact o h rfl
   rw[zk k4] at h;by_cases k5:c.kind=5
   ·rw[zg k5] at h;by_cases z:s.ro=true
    ·rw[zg z] at h;exact D (b:=false) h ⟨c.tag,hg,.inr (.inr (.inr (.inr ⟨_,.head _,rfl⟩)))⟩
    ·rw[zk z] at h;exact o h rfl
   rw[zk k5] at h;by_cases k6:c.kind=6
   ·rw[zg k6] at h;exact D (b:=false) h ⟨c.tag,hg,.inr (.inr (.inl rfl))⟩
   rw[zk k6] at h;by_cases k7:c.kind=7
   ·rw[zg k7] at h;by_cases z:c.pass=[104,111,114,110]
    ·rw[zg z] at h;exact o h rfl
    ·rw[zk z] at h;exact D (b:=false) h ⟨c.tag,hg,.inr (.inr (.inr (.inr ⟨_,.tail _ (.head _),rfl⟩)))⟩
   rw[zk k7] at h;by_cases k9:c.kind<=9
   ·rw[zg k9] at h;exact o h rfl
   rw[zk k9] at h;by_cases k10:c.kind=10
   ·rw[zg k10] at h;exact o h rfl
   rw[zk k10] at h;by_cases k11:c.kind=11
   ·rw[zg k11] at h;exact o h rfl
   rw[zk k11] at h;by_cases k13:c.kind<=13\/c.kind=15
   ·rw[zg k13] at h;exact o h rfl
   ·exfalso;have:=j.kind u;omega
 ·rename_i m X Y Z;injection h with A n;rw[n];exact .inr ⟨rfl,.inl ⟨rfl,.inr (.inr ⟨by assumption,by assumption⟩)⟩⟩
theorem JC{x:AN}{s d:SE}{r:RR}{l:List RR}(h:M8 x s r d l):l.length<=100000:=by
 have a:([]:List RR).length<=100000:=zw _;unfold M8 at h;split at h
 ·rw[h.2.2];exact a
 split at h
 ·rw[h.2.2];exact a
 split at h
 ·rcases h with⟨_,_,_,e⟩|⟨b,_,_,_,e⟩<;>rw[e]
  ·exact a
  ·show 5<=100000;decide
 split at h
 ·have:=h.2.2.1;omega
 split at h
 ·rcases h with⟨_,⟨_,e⟩|⟨_,g,f,e,_⟩⟩<;>rw[e]
  ·exact a
  ·show 1<=100000;decide
 split at h
 ·obtain⟨_,_,c,m,e⟩:=h;rw[e];show 1<=100000;decide
 split at h
 ·exact h.1
 split at h
 ·exact h.1
 ·rw[h.2.2];exact a
theorem NE{x:AN}{s i:SE}{g:DD}(h:fq x s i g)(j:V_ x.m.s)(k:s.a5N.a5M.length<=50000):g.a5X.length<=300000:=by
 unfold fq at h;split at h
 ·rw[h.2];show 1<=300000;decide
 split at h
 ·rw[h.2];show 2<=300000;decide
 obtain⟨r,s1,c,l,d,a,e,f⟩:=h;have b:(BV x s).a5N.a5M.length<=50000:=by unfold BV;split;exact zw _;exact k
 have k1:c.length<=100000/\s1.a5N.a5M.length<=50000:=by
  split at a
  ·exact⟨JC a,sP a j b⟩
  ·rw[a.1,a.2.1];exact⟨zw _,b⟩
 have k2:d.length<=100001:=by
  split at e
  ·have:=sQ s1.a5N x.bx.x (!ii x) s1.cond;rw[e.2];omega
  ·rw[e.2];exact zw _
 split at f
 ·rw[f.2];show(c++d++[r,I3 bE]).length<=_;simp only[zz,zx,zn];omega
 ·rw[f.2];show(c++d++[r]).length<=_;simp only[zz,zx,zn];omega
theorem Cf{s c:SE}{st:ML}{o:OC}{bl:BL}{b:DD}(d:V_ st)(f:s.a5N.a5M.length<=50000)(h:ez s st o bl c b):b.a5X.length<=300000:=by
 unfold ez at h;split at h
 ·rw[h.2];exact zw _
 rcases h with⟨w,_,_,_,e⟩|⟨x,_,a,_,_,_,_,h⟩
 ·rw[e];exact zw _
 ·exact NE h (by rw[a];exact d) f
theorem NF{k:Int}{s b:SE}{a:DD}(h:EK k s b a):a.a5X.length<=2:=by
 rcases h with⟨e,_⟩|⟨e|e,_⟩|⟨_,_,_,⟨g,_,e|e|e|e|⟨q,_,e⟩⟩|⟨⟨g,t,_,_,e⟩,_⟩⟩<;>rw[e]<;>simp only[zx,zn]<;>omega
theorem JD(s:SE):(am s).2.a5X.length<=2:=by
 unfold am;split
 ·exact zw _
 split
 ·show 2<=2;decide
 ·show 1<=2;decide
theorem JE{n:Nat}{w w':WM}{a:AX}{t:TN}(d:IW n w)(k:n<=800)(ha:iR a)(hs:kN w a w' t):t.d.a5X.length<=300000:=by
 rcases hs with⟨_,_,_,rfl⟩|⟨l,c,b,_,_,_⟩
 ·exact zw _
 have g:w.s.a5N.a5M.length<=50000:=by have:=d.se.a5M;omega
 have i:=(fZ d.ml w.q d.q.ok.num d.q.op).1.ok;unfold cA at b;split at b
 ·rcases xA ha.text b.1 with⟨_,e,_⟩|⟨_,h⟩
  ·rw[e];exact zw _
  ·have:=NF h;omega
 split at b
 ·obtain⟨_,⟨s1,m,j,f⟩,_⟩:=b;split at f
  ·rw[f.2];exact Cf i g j
  ·exact Cf i g f
 split at b
 ·have e:t.d=(am w.s).2:=by rw[<-b.1]
  have:=JD w.s;rw[e];omega
 ·rw[b.2.1];exact zw _
theorem EL{w0 w:WM}{l:List AX}{c:List TN}(h:bj w0 l c w)(e:IW 0 w0)(ha:∀a∈l,iR a)(hl:l.length<=800):∀t∈c,t.d.a5X.length<=300000:=by
 induction h with
 |nil=>exact fun _ h=>(by cases h)
 |snoc hp hs ih=>
  rename_i l c w g a t;have f:l.length+1<=800:=by simpa using hl
  have d:=(qE hp e (fun a h=>ha a (Kb _ h)) qb).1;intro q b;rcases zb.1 b with b|b
  ·exact ih (fun a h=>ha a (Kb _ h)) qb q b
  ·rw[zu.1 b];exact JE d qb (ha _ (K1 _ (zu.2 rfl))) hs
def NG(r:RR):Prop:=3<r.kind\/r.tag=[42]/\r.kind=1
theorem JF(v:VW)(b:BX)(e c:Bool):∀q∈(U9 v b e c).2,3<q.kind:=by
 have d:∀(k:Nat) (a:List (Nat×Nat)),∀q∈(V7 b k a).2,3<q.kind:=fun k=>by
  induction k with
  |zero=>intro a q h;cases h
  |succ k ih=>
   intro a q h;unfold V7 at h;split at h
   ·exact ih a q h
   ·rcases kw.1 h with rfl|h
    ·show(3:Int)<9;decide
    ·exact ih _ q h
 unfold U9;split
 ·intro q h;cases h
 ·simp only;generalize hq:(if e=true then V7 b v.a5M.length v.a5M else(v.a5M,[]))=z;have hz:∀q∈z.2,3<q.kind:=by
   rw[<-hq];split
   ·exact d _ _
   ·exact fun _ h=>by cases h
  intro q h;rcases zb.1 h with h|h
  ·rcases zb.1 h with h|h
   ·exact hz q h
   ·split at h
    ·cases h
    ·rw[zu.1 h];show(3:Int)<8;decide
  ·obtain⟨z,_,hz⟩:=List.mem_filterMap.1 h;obtain⟨x,_,rfl⟩:=kx.1 hz;show(3:Int)<14;decide
theorem JG{x:AN}{s g:SE}{r:RR}{l:List RR}(h:M8 (xM x) s r g l):(∀q∈l,NG q)/\(r.kind=1\/r.kind=2)/\r.tag=x.c.tag:=by
 have a:∀q∈([]:List RR),NG q:=fun _ h=>by cases h
 have i:∀j,ru (xM x) s j r g l->(∀q∈l,NG q)/\(r.kind=1\/r.kind=2)/\r.tag=x.c.tag:=fun j h=>by
  obtain⟨_,_,d,n⟩:=h;refine⟨fun q e=>?_,?_⟩
  ·obtain⟨u,_,o,rfl,_⟩:=n q e;exact .inl (by show(3:Int)<14;decide)
  ·rcases d with⟨c,rfl⟩|rfl
   ·exact⟨.inl rfl,rfl⟩
   ·exact⟨.inr rfl,rfl⟩
 unfold M8 at h;split at h
 ·rw[h.2.1,h.2.2];exact⟨a,.inl rfl,rfl⟩
 split at h
 ·rw[h.2.1,h.2.2];exact⟨a,.inl rfl,rfl⟩
 split at h
 ·rcases h with⟨_,_,f,d⟩|⟨b,_,_,f,d⟩
  ·rw[f,d];exact⟨a,.inr rfl,rfl⟩
  ·rw[f,d];refine⟨fun q e=>?_,.inl rfl,rfl⟩;unfold Ow at e;simp only[kw,Jk,Yz] at e;rcases e with rfl|rfl|rfl|rfl|rfl
   ·exact .inl (by show(3:Int)<10;decide)
   ·exact .inl (by show(3:Int)<8;decide)
   ·exact .inr qh
   ·exact .inr qh
   ·exact .inr qh
 split at h
 ·rw[h.2.1];refine⟨fun q e=>?_,.inl rfl,rfl⟩;obtain⟨b,_,rfl⟩:=h.2.2.2 q e;exact .inl (by show(3:Int)<11;decide)
 split at h
 ·rcases h with⟨_,⟨f,d⟩|⟨f,o,p,d,_⟩⟩
  ·rw[f,d];exact⟨a,.inr rfl,rfl⟩
  ·rw[f,d];refine⟨fun q e=>?_,.inl rfl,rfl⟩;rw[zu.1 e];exact .inl (by show(3:Int)<12;decide)
 split at h
 ·obtain⟨_,f,k,m,d⟩:=h;rw[f,d];refine⟨fun q e=>?_,.inl rfl,rfl⟩;rw[zu.1 e];exact .inl (by show(3:Int)<13;decide)
 split at h
 ·exact i _ h
 split at h
 ·exact i _ h
 ·rw[h.2.1,h.2.2];exact⟨a,.inl rfl,rfl⟩
def lM(r:RR):Bool:=decide (r.kind=3)
theorem JH{l:List RR}(h:∀q∈l,q.kind≠3):l.any lM=false:=by
 rw[Jh];intro q a;unfold lM;rw[Qz (h q a)];decide
theorem QQ{r:RR}(h:NG r):r.kind≠3:=by
 rcases h with h|⟨_,h⟩<;>omega
theorem NH{x:AN}{s j:SE}{g:DD}(h:fq x s j g):g.a5X.any lM=false:=by
 unfold fq at h;split at h
 ·rw[h.2];rfl
 split at h
 ·rw[h.2];rfl
 obtain⟨r,s1,b,n,c,d,e,f⟩:=h;have k1:(∀q∈b,q.kind≠3)/\r.kind≠3:=by
  split at d
  ·have i:=JG d;exact⟨fun q a=>QQ (i.1 q a),by have:=i.2.1;omega⟩
  ·obtain⟨o,k,m⟩:=d;rw[k,m];exact⟨fun _ h=>(by cases h),by show(2:Int)≠3;decide⟩
 have k2:∀q∈c,q.kind≠3:=by
  split at e
  ·rw[e.2];intro q a;have:=JF _ _ _ _ q a;omega
  ·rw[e.2];exact fun _ h=>(by cases h)
 split at f
 ·rw[f.2];refine JH (l:=b++c++[r,I3 bE]) fun q a=>?_;simp only[zb,kw,Jk,Yz] at a;rcases a with(a|a)|rfl|rfl
  ·exact k1.1 q a
  ·exact k2 q a
  ·exact k1.2
  ·show(4:Int)≠3;decide
 ·rw[f.2];refine JH (l:=b++c++[r]) fun q a=>?_;simp only[zb,kw,Jk,Yz] at a;rcases a with(a|a)|rfl
  ·exact k1.1 q a
  ·exact k2 q a
  ·exact k1.2
theorem Cg{s b:SE}{st:ML}{o:OC}{bl:BL}{a:DD}(h:ez s st o bl b a):a.a5X.any lM=false:=by
 unfold ez at h;split at h
 ·rw[h.2];rfl
 rcases h with⟨w,_,_,_,e⟩|⟨x,_,_,_,_,_,_,h⟩
 ·rw[e];rfl
 ·exact NH h
structure TL(t:TN):Prop where
 le:FZ t.a
 bad:t.d.a5X.any lM=true->t.b=t.a/\t.d.ask=false/\t.d.store=false/\t.d.close=false/\t.d.a5X.length=1
theorem JI{n:Nat}{w w':WM}{a:AX}{t:TN}(m:IW n w)(r:n<=800)(ha:iR a)(hs:kN w a w' t):TL t:=by
 have d:FZ w.s:=(m.se.ok qb).le;rcases hs with⟨_,_,_,rfl⟩|⟨s,c,b,k,_,_⟩
 ·exact⟨d,fun h=>by cases h⟩
 refine⟨by rw[k.1];exact d,fun h=>?_⟩;unfold cA at b;split at b
 ·rcases xA ha.text b.1 with⟨_,e,_⟩|⟨l,f⟩
  ·rw[e] at h;cases h
  ·rcases f with⟨e,_⟩|⟨e|e,_⟩|⟨_,_,_,⟨g,_,e|e|e|e|⟨q,_,e⟩⟩|⟨⟨g,x,_,_,e⟩,o,i⟩⟩
   ·rw[e] at h;cases h
   ·rw[e] at h;cases h
   ·rw[e] at h;cases h
   ·rw[e] at h;cases h
   ·rw[e] at h;cases h
   ·rw[e] at h;cases h
   ·rw[e] at h;cases h
   ·rw[e] at h;cases h
   ·exact⟨o.trans k.1.symm,by rw[i],by rw[i],by rw[i],by rw[e];rfl⟩
 split at b
 ·obtain⟨_,⟨s1,u,p,j⟩,_⟩:=b;split at j
  ·rw[j.2,Cg p] at h;cases h
  ·rw[Cg j] at h;cases h
 split at b
 ·have e:t.d=(am w.s).2:=by rw[<-b.1]
  rw[e] at h;unfold am at h;split at h
  ·cases h
  split at h<;>cases h
 ·rw[b.2.1] at h;cases h
theorem JJ{w0 w:WM}{l:List AX}{c:List TN}(h:bj w0 l c w)(e:IW 0 w0)(ha:∀a∈l,iR a)(hl:l.length<=800):∀t∈c,TL t:=by
 induction h with
 |nil=>exact fun _ h=>(by cases h)
 |snoc hp hs ih=>
  rename_i l c w g a t;have f:l.length+1<=800:=by simpa using hl
  have d:=(qE hp e (fun a h=>ha a (Kb _ h)) qb).1;intro q b;rcases zb.1 b with b|b
  ·exact ih (fun a h=>ha a (Kb _ h)) qb q b
  ·rw[zu.1 b];exact JI d qb (ha _ (K1 _ (zu.2 rfl))) hs
section
variable{P:Program}{L:G0}{dst:Option Nat}{ty:TypeId}{pos:String}{af:Array Edge}{gd:Option (Nat×Bool)}{x y:Operand}{t t':TypeId}
theorem dp{k:IntKind}{m:Int}(hx:ev L x=some (.int k m))(a:ev L y=some (.int k m)):D_ P ⟨dst,.binOp .neq t x y t',ty,pos,af,gd⟩ L (.bool false):=(M3 hx a).eq x4
theorem JK{k:IntKind}{m:Int}(hx:ev L x=some (.int k m))(a:ev L y=some (.int k m)):D_ P ⟨dst,.binOp .eql t x y t',ty,pos,af,gd⟩ L (.bool true):=(p7 hx a).eq x4
theorem im{l:List UInt8}(hx:ev L x=some (B l))(a:ev L y=some (B l)):D_ P ⟨dst,.binOp .neq t x y t',ty,pos,af,gd⟩ L (.bool false):=(E8 hx a).eq x4
theorem uK[hu:HU P t .bool]{q:Bool}(hx:ev L x=some (.bool q))(a:ev L y=some (.bool q)):D_ P ⟨dst,.binOp .neq t x y t',ty,pos,af,gd⟩ L (.bool false):=(nO hx a).eq x4
theorem zZ[hu:HU P t .bool]{q:Bool}(hx:ev L x=some (.bool q))(a:ev L y=some (.bool q)):D_ P ⟨dst,.binOp .eql t x y t',ty,pos,af,gd⟩ L (.bool true):=(io hx a).eq x4
end
abbrev Rq(n:Nat):List Value:=[.int .u64 (n:Nat)]
theorem nM:∀x,(Rq x).length=1:=fun _=>rfl
theorem NI(l:List Nat):nV l=l.flatMap Rq:=by
 induction l with
 |nil=>rfl
 |cons x r ih=>rw[Qm,<-ih];rfl
theorem QR(l:List Nat)(a b:Option Addr)(c d:Nat)(hl:l.length<=1000000):Pu prog 27 [.slice a l.length c,.slice b l.length d] (fun h=>n9 h a (l.flatMap Rq)/\n9 h b (l.flatMap Rq)) (.bool true):=by
 refine b_ 26 func27 rfl rfl rfl ?_;rintro F ⟨f,g⟩;refine ap ?_;refine f_ (dp rfl rfl) ?_;refine r7 ?_;refine o7 (ι:=Nat) (fun k=>k<=l.length) (fun k=>[(0,.slice a l.length c),(1,.slice b l.length d),(5,.int .i64 (k:Nat))]) (fun k=>[]) (fun k=>l.length-k) 0 (zw _) sub i_ ?_;intro k e;refine xZ ?_ ?_<;>intro h
 ·have e:k<l.length:=by have:=qr h;omega
  have m:=q_ f nM qp e;have n:=q_ g nM qp e;refine w8 ?_;refine vi [3,7] [] 9 ?_;refine wd [0,1,2] ?_;refine D1 3 rfl (i8 rfl (fun w i=>cD (C:=Rq) (j:=0) (f.le i.keep) nM e rfl x4)) G2 rfl rfl rfl i6 ?_;refine wd [4,5,6] ?_;refine D1 7 rfl (i8 rfl (fun w i=>cD (C:=Rq) (j:=0) (g.le i.keep) nM e rfl x4)) G2 rfl rfl rfl i6 ?_;refine w_ 8 rfl (dp rfl rfl) ?_;refine wd [] ?_;refine E7 ?_;exact l6 (k+1) e qb sub i_
 ·refine C5 ?_;exact d_ rfl rfl [] qh (fun _ h=>h)
theorem JL(l:List (Nat×Nat))(a b:Option Addr)(c d:Nat)(hl:l.length<=1000000):Pu prog 55 [.slice a l.length c,.slice b l.length d] (fun h=>n9 h a (l.flatMap dV)/\n9 h b (l.flatMap dV)) (.bool true):=by
 refine b_ 26 func55 rfl rfl rfl ?_;rintro F ⟨f,g⟩;refine ap ?_;refine f_ (dp rfl rfl) ?_;refine r7 ?_;refine o7 (ι:=Nat) (fun k=>k<=l.length) (fun k=>[(0,.slice a l.length c),(1,.slice b l.length d),(5,.int .i64 (k:Nat))]) (fun k=>[]) (fun k=>l.length-k) 0 (zw _) sub i_ ?_;intro k e;refine xZ ?_ ?_<;>intro h
 ·have e:k<l.length:=by have:=qr h;omega
  have j:=q_ f B4 qp e;have m:=q_ g B4 qp e;refine w8 ?_;refine vi [3,7] [] 9 ?_;refine wd [0,1,2] ?_;refine D1 3 rfl (p8 (cs:=dV l[k]) rfl (fun w i=>cQ (C:=dV) (f.le i.keep) B4 qp e x4) rfl) G2 rfl rfl rfl i6 ?_;refine wd [4,5,6] ?_;refine D1 7 rfl (p8 (cs:=dV l[k]) rfl (fun w i=>cQ (C:=dV) (g.le i.keep) B4 qp e x4) rfl) G2 rfl rfl rfl i6 ?_;refine w_ 8 rfl ((eK rfl rfl (by exact qH.int qp rfl rfl (qH.int qp rfl rfl qH.nil))).eq (v':=.bool false) x4) ?_;refine wd [] ?_;refine E7 ?_;exact l6 (k+1) e qb sub i_
 ·refine C5 ?_;exact d_ rfl rfl [] qh (fun _ h=>h)
theorem QS(l:List Bs)(a b:Option Addr)(c d:Nat)(hl:l.length<=1000000):Pu prog 54 [.slice a l.length c,.slice b l.length d] (fun h=>n9 h a (l.flatMap rM)/\n9 h b (l.flatMap rM)) (.bool true):=by
 refine b_ 26 func54 rfl rfl rfl ?_;rintro F ⟨f,g⟩;refine ap ?_;refine f_ (dp rfl rfl) ?_;refine r7 ?_;refine o7 (ι:=Nat) (fun k=>k<=l.length) (fun k=>[(0,.slice a l.length c),(1,.slice b l.length d),(5,.int .i64 (k:Nat))]) (fun k=>[]) (fun k=>l.length-k) 0 (zw _) sub i_ ?_;intro k e;refine xZ ?_ ?_<;>intro h
 ·have e:k<l.length:=by have:=qr h;omega
  have m:=q_ f X4 qp e;have n:=q_ g X4 qp e;refine w8 ?_;refine vi [3,7] [] 9 ?_;refine wd [0,1,2] ?_;refine D1 3 rfl (i8 rfl (fun w i=>cD (C:=rM) (j:=0) (f.le i.keep) X4 e rfl x4)) G2 rfl rfl rfl i6 ?_;refine wd [4,5,6] ?_;refine D1 7 rfl (i8 rfl (fun w i=>cD (C:=rM) (j:=0) (g.le i.keep) X4 e rfl x4)) G2 rfl rfl rfl i6 ?_;refine w_ 8 rfl (im rfl rfl) ?_;refine wd [] ?_;refine E7 ?_;exact l6 (k+1) e qb sub i_
 ·refine C5 ?_;exact d_ rfl rfl [] qh (fun _ h=>h)
theorem QT(v:VW)(a b:Option Addr)(c d:Nat)(hl:v.a5M.length<=1000000):Pu prog 25 [.agg (vH v a c).toArray,.agg (vH v b d).toArray] (fun h=>n9 h a (T8 v.a5M)/\n9 h b (T8 v.a5M)) (.bool true):=by
 refine b_ 45 func25 rfl rfl rfl ?_;rintro F ⟨f,g⟩;refine C7 ?_;refine m8 rfl rfl ?_;intro j;refine m8 rfl rfl ?_;intro l;refine ap ?_;refine f_ (im rfl rfl) ?_;refine ap ?_;(first|refine u_ ?_|(refine v_ ?_;refine f_ (dp rfl rfl) ?_));refine wk 8 ?_;(first|refine u_ ?_|(refine v_ ?_;refine f_ (dp rfl rfl) ?_));refine A1 ?_;refine o7 (ι:=Nat) (fun k=>k<=v.a5M.length) (fun k=>[(2,l9 j),(3,l9 l),(5,.int .i64 (k:Nat))]) (fun k=>[.blk l (.cells (vH v b d).toArray 30),.blk j (.cells (vH v a c).toArray 30)]) (fun k=>v.a5M.length-k) 0 (zw _) sub i_ ?_;intro k e;refine OT ?_ ?_<;>intro h
 ·have e:k<v.a5M.length:=by have:=qr h;omega
  have m:=q_ f B4 qp e;have n:=q_ g B4 qp e;refine w8 ?_;refine D2 [1,4,6,9] [] [.blk l (.cells (vH v b d).toArray 30),.blk j (.cells (vH v a c).toArray 30)] 11 ?_;refine wd [0,1,2,3] ?_;refine D1 4 rfl (p8 (cs:=dV v.a5M[k]) rfl (fun w i=>cQ (C:=dV) (f.le i.keep) B4 qp e x4) rfl) G2 rfl rfl rfl i6 ?_;refine wd [5,6,7,8] ?_;refine D1 9 rfl (p8 (cs:=dV v.a5M[k]) rfl (fun w i=>cQ (C:=dV) (g.le i.keep) B4 qp e x4) rfl) G2 rfl rfl rfl i6 ?_;refine w_ 10 rfl ((eK rfl rfl (by exact qH.int qp rfl rfl (qH.int qp rfl rfl qH.nil))).eq (v':=.bool false) x4) ?_;refine wd [] ?_;refine E7 ?_;exact l6 (k+1) e qb sub i_
 ·refine C5 ?_;exact d_ rfl rfl [] qh (fun w i=>i.dropAll)
abbrev kR(g:Nat)(c:CM)(x:CL):As:=.blk g (.cells (iA c x).toArray 36)
theorem QU(q:CM)(x y:CL)(hc:qY q):Pu prog 26 [uM q x,uM q y] (fun h=>dW q x h/\dW q y h) (.bool true):=by
 have h3:=hc.set;have h4:=hc.a5Q;have h5:=hc.keys;have h6:=hc.a5Y;refine b_ 206 func26 rfl rfl rfl ?_;rintro F ⟨o,p⟩;obtain⟨r,j,s,Q⟩:=o.keys;obtain⟨t,z,A,S⟩:=p.keys;have h7:r.length=q.keys.length:=by rw[<-j,zh]
 have h8:t.length=q.keys.length:=by rw[<-z,zh]
 have T:=o.set;have U:=p.set;have D:=o.a5Y;have J:=p.a5Y;rw[tN] at D J;refine C7 ?_;refine m8 rfl rfl ?_;intro a;refine m8 rfl rfl ?_;intro b;refine ap ?_;refine f_ (im rfl rfl) ?_;refine ap ?_;(first|refine u_ ?_|(refine v_ ?_;refine f_ (dp rfl rfl) ?_));refine aq ?_;(first|refine u_ ?_|(refine v_ ?_;refine f_ (uK rfl rfl) ?_));refine aq ?_;(first|refine u_ ?_|(refine v_ ?_;refine f_ (im rfl rfl) ?_));refine aq ?_;(first|refine u_ ?_|(refine v_ ?_;refine f_ (im rfl rfl) ?_));refine aq ?_;(first|refine u_ ?_|(refine v_ ?_;refine f_ (im rfl rfl) ?_));refine aq ?_;(first|refine u_ ?_|(refine v_ ?_;refine f_ (im rfl rfl) ?_));refine aq ?_;(first|refine u_ ?_|(refine v_ ?_;refine f_ (uK rfl rfl) ?_));refine aq ?_;(first|refine u_ ?_|(refine v_ ?_;refine f_ (dp rfl rfl) ?_));refine aq ?_;(first|refine u_ ?_|(refine v_ ?_;refine f_ (uK rfl rfl) ?_));refine aq ?_;(first|refine u_ ?_|(refine v_ ?_;refine f_ (dp rfl rfl) ?_));refine aq ?_;(first|refine u_ ?_|(refine v_ ?_;refine f_ (uK rfl rfl) ?_));refine aq ?_;(first|refine u_ ?_|(refine v_ ?_;refine f_ (im rfl rfl) ?_));refine wk 7 ?_;refine f_ (dp rfl rfl) ?_;refine wk 7 ?_;(first|refine u_ ?_|(refine v_ ?_;refine f_ (dp rfl rfl) ?_));refine aq ?_;(first|refine u_ ?_|(refine v_ ?_;refine c_ rfl (QS q.a5Y x.fa y.fa x.fc y.fc qb) (fun h i _=>⟨D.le i,J.le i⟩) rfl ?_));refine wk 7 ?_;(first|refine u_ ?_|(refine v_ ?_;refine c_ rfl (JL q.set x.sa y.sa x.sc y.sc qb) (fun h i _=>⟨T.le i,U.le i⟩) rfl ?_));refine A1 ?_;refine I8 1 ?_;refine x8 [(2,l9 a),(3,l9 b)] [kR b q y,kR a q x] ?_ ?_
 ·refine n8 ?_;refine o7 (ι:=Nat) (fun k=>k<=q.keys.length) (fun k=>[(2,l9 a),(3,l9 b),(5,.int .i64 (k:Nat))]) (fun k=>[kR b q y,kR a q x]) (fun k=>q.keys.length-k) 0 (zw _) sub i_ ?_;intro k d;refine OT ?_ ?_<;>intro h
  ·have d:k<q.keys.length:=(by have:=qr h;omega);have f:k<r.length:=(by omega);have g:k<t.length:=(by omega);have V:=q_ s R1 qp f;have X:=q_ A R1 qp g;obtain⟨u,hu⟩:=o8 (r[k]);obtain⟨v,Y⟩:=o8 (t[k]);have M:u∈r:=(by rw[hu];exact zy f);have Z:v∈t:=(by rw[Y];exact zy g);have l:v.k=u.k:=by
    have e:(r.map KM.k)[k]? =(t.map KM.k)[k]?:=(by rw[j,z]);rw[Zj,Zj,zj f,zj g] at e;rw[hu,Y];exact(js e).symm
   have O:=Q u M;have m:=S v Z;rw[l] at m;have h0:u.k.set.length<=64:=(hc.ksets u.k (by rw[<-j];exact Q5 M)).1;obtain⟨⟨kk,kd,kf,kt,kn,n⟩,ua,uc⟩:=u;obtain⟨vk,va,vc⟩:=v;simp only at l O m h0;subst l;refine I8 0 ?_;refine x8 [(2,l9 a),(3,l9 b),(5,.int .i64 (k:Nat))] [kR b q y,kR a q x] ?_ ?_
   ·refine n8 ?_;refine w8 ?_;refine D2 [1,4,6,9] [10,11,12,13] [kR b q y,kR a q x] 14 ?_;refine wd [0,1,2,3] ?_;refine D1 4 rfl (p8 (cs:=aJ ⟨⟨kk,kd,kf,kt,kn,n⟩,ua,uc⟩) rfl (fun w c=>by rw[hu];exact cQ (C:=aJ) (s.le c.keep) R1 qp f x4) rfl) G2 rfl rfl rfl i6 ?_;refine wd [5,6,7,8] ?_;refine D1 9 rfl (p8 (cs:=aJ ⟨⟨kk,kd,kf,kt,kn,n⟩,va,vc⟩) rfl (fun w c=>by rw[Y];exact cQ (C:=aJ) (A.le c.keep) R1 qp g x4) rfl) G2 rfl rfl rfl i6 ?_;refine az 10 11 rfl rfl i6 ?_ ?_;refine i7 rfl ?_;intro g6;refine Y9 ?_;refine h_ 11 rfl i6 ?_;refine i7 rfl ?_;intro g7;refine fg [12,13] ?_
    rotate_left 1
    refine i7 rfl ?_;intro g7;refine Y9 ?_;refine h_ 10 rfl i6 ?_;refine i7 rfl ?_;intro g6;refine fg [12,13] ?_
    rotate_left 1
    all_goals (refine w8 ?_)
    all_goals (
     refine O3 ?_;refine f_ (dp rfl rfl) ?_;refine ap ?_;(first|refine u_ ?_|(refine v_ ?_;refine f_ (dp rfl rfl) ?_));refine aq ?_;(first|refine u_ ?_|(refine v_ ?_;refine f_ (im rfl rfl) ?_));refine aq ?_;(first|refine u_ ?_|(refine v_ ?_;refine f_ (im rfl rfl) ?_));refine aq ?_;(first|refine u_ ?_|(refine v_ ?_;refine f_ (dp rfl rfl) ?_));refine aq ?_;(first|refine u_ ?_|(refine v_ ?_;refine c_ rfl (JL n ua va uc vc qb) (fun h i _=>⟨O.le i,m.le i⟩) rfl ?_));refine A1 ?_)
    all_goals (refine w8 ?_)
    all_goals exact p9 sub (fun w c=>c.drop.drop)
   refine E7 ?_;exact l6 (k+1) d qb sub i_
  ·refine w8 ?_;exact p9 sub i_
 refine w8 ?_;refine I8 1 ?_;refine x8 [(2,l9 a),(3,l9 b)] [kR b q y,kR a q x] ?_ ?_
 ·refine n8 ?_;refine o7 (ι:=Nat) (fun k=>k<=q.a5Q.length) (fun k=>[(2,l9 a),(3,l9 b),(8,.int .i64 (k:Nat))]) (fun k=>[kR b q y,kR a q x]) (fun k=>q.a5Q.length-k) 0 (zw _) sub i_ ?_;intro k d;refine OT ?_ ?_<;>intro h
  ·have d:k<q.a5Q.length:=(by have:=qr h;omega);have V:=q_ o.a5Q Q_ qp d;have X:=q_ p.a5Q Q_ qp d;have h1:=o.a5Q;have h2:=p.a5Q;refine w8 ?_;refine D2 [1,4,6,9] [] [kR b q y,kR a q x] 11 ?_;refine wd [0,1,2,3] ?_;refine D1 4 rfl (p8 (cs:=bR q.a5Q[k]) rfl (fun w c=>cQ (C:=bR) (h1.le c.keep) Q_ qp d x4) rfl) G2 rfl rfl rfl i6 ?_;refine wd [5,6,7,8] ?_;refine D1 9 rfl (p8 (cs:=bR q.a5Q[k]) rfl (fun w c=>cQ (C:=bR) (h2.le c.keep) Q_ qp d x4) rfl) G2 rfl rfl rfl i6 ?_;refine w_ 10 rfl ((eK rfl rfl (by exact qH.int qp rfl rfl (qH.bool qp rfl rfl (qH.bool qp rfl rfl (qH.int qp rfl rfl (qH.int qp rfl rfl qH.nil)))))).eq (v':=.bool false) x4) ?_;refine wd [] ?_;refine E7 ?_;exact l6 (k+1) d qb sub i_
  ·refine w8 ?_;exact p9 sub i_
 refine C5 ?_;exact d_ rfl rfl [] qh (fun w c=>c.dropAll)
theorem QV(s:SE)(x y:SL)(hs:FZ s):Pu prog 15 [qJ s x,qJ s y] (fun h=>(S5 s x h/\n9 h x.ra (T8 s.a5N.a5M))/\S5 s y h/\n9 h y.ra (T8 s.a5N.a5M)) (.bool true):=by
 refine b_ 66 func15 rfl rfl rfl ?_;rintro F ⟨⟨f,d⟩,g,e⟩;have b:=f.a5P;have c:=g.a5P;rw[NI] at b c;refine C7 ?_;refine m8 rfl rfl ?_;intro j;refine m8 rfl rfl ?_;intro k;refine ap ?_;refine f_ (JK rfl rfl) ?_;refine ap ?_;(first|refine u_ ?_|(refine v_ ?_;refine f_ (JK rfl rfl) ?_));refine aq ?_;(first|refine u_ ?_|(refine v_ ?_;refine f_ (JK rfl rfl) ?_));refine aq ?_;(first|refine u_ ?_|(refine v_ ?_;refine c_ rfl (QT s.a5N x.ra y.ra x.rc y.rc hs.a5M) (fun h a _=>⟨d.le a,e.le a⟩) rfl ?_));refine aq ?_;(first|refine u_ ?_|(refine v_ ?_;refine f_ (zZ rfl rfl) ?_));refine aq ?_;(first|refine u_ ?_|(refine v_ ?_;refine f_ (zZ rfl rfl) ?_));refine aq ?_;(first|refine u_ ?_|(refine v_ ?_;refine f_ (zZ rfl rfl) ?_));refine aq ?_;(first|refine u_ ?_|(refine v_ ?_;refine c_ rfl (QU s.cmd x.cl y.cl hs.cmd) (fun h a _=>⟨Mn.le a f.cmd,Mn.le a g.cmd⟩) rfl ?_));refine aq ?_;(first|refine u_ ?_|(refine v_ ?_;refine c_ rfl (QR s.a5P x.ua y.ua x.uc y.uc hs.a5P) (fun h a _=>⟨b.le a,c.le a⟩) rfl ?_));refine L7 ?_;exact d_ rfl rfl [] qh (fun w i=>i.dropAll)
open Go Go.Sl Go.RowKit Go.Proofs.Tryz
def TM(w:WM)(a:AX)(ts:List TN)(h:l_)(v:Value)(A:List As):Prop:=∃w' t o,v=.tuple #[EW w',.slice (Prod.fst o) (ts++[t]).length (Prod.snd o)]/\A=[]/\n9 h (Prod.fst o) ((ts++[t]).flatMap fk)/\kN w a w' t/\lK w' h/\rv t h
theorem Ch(w:WM)(a:AX)(z:QL)(b:List TN)(U:Option Addr)(V:Nat)(X:BZ w a)(Y:b.length<=1000):
  Cm prog 19 [EW w,.slice U b.length V,acA a z] (fun h=>lK w h/\dA a.other z h/\n9 h U (b.flatMap fk)) [] (TM w a b):=by
 refine y5 22 func19 rfl rfl rfl ?_;rintro F R ⟨n,y,C⟩;refine C7 ?_;refine m8 rfl rfl ?_;intro x;refine m8 rfl rfl ?_;intro g5;refine i7 rfl ?_;intro D;refine r7 ?_;refine D7 (H':=ij x w::.blk g5 (.cells (EY a z).toArray 70)::.blk D (.cells Ka.toArray 65)::R) (fun v d=>C6 (A:=[_,_,_]) (J:=[]) tk d) ?_;refine A1 ?_;refine A9 (IK w a z X) ⟨n,y⟩ ?_;rintro v A F1 M ⟨o,t,c,rfl,rfl,hf⟩;refine I7 (H':=_::_::_::(fu c t++R)) (fun v d=>d.perm (Qb (fu c t) [_,_,_] R)) ?_;refine E7 ?_;refine i7 rfl ?_;intro O;refine A1 ?_;refine D7 (H':=(qv O t::ij x o::.blk D (.cells Ka.toArray 65)::R)++fu c t) (fun v d=>?_) (bY fun F2 p j=>?_)
 ·have h9:Hp F1 v (qv O t::ij x o::.blk D (.cells Ka.toArray 65)::(fu c t++R)):=C6 (A:=[_,_,_]) (J:=[_]) tk d;exact h9.perm (((kz.cons _).cons _).cons _)
 obtain⟨bs,j⟩:=j;have f:=M.trans p;obtain⟨Q,S⟩:=Je (Mn.le f.heap n) hf p.heap j;clear j;have g:=C.le f.heap;refine w8 ?_;refine D2 [0,4] [1,3,5,6,7] [ij x o,qv O t] 9 ?_;refine wd [0,2,4] ?_;refine az 1 5 rfl rfl i6 ?_ ?_;refine M4 rfl ?_;intro T;refine Y9 ?_;refine az 3 5 rfl rfl i6 ?_ ?_;refine w6 fk (l:=[]) (m:=b) U5 eZ (by show(0+b.length)*1216<=_;omega) ?_ (hsrc:=fun v d=>g.le d.keep) (h63:=by simp only[zn];omega);intro q r _;refine Y9 ?_;refine h_ 5 rfl i6 ?_;refine C4 fk t rfl ?_;intro s _;refine Y9 ?_;refine h_ 6 rfl i6 ?_;refine w6 fk (l:=b) (m:=[t]) U5 eZ (by show(b.length+1)*1216<=_;omega) ?_;intro e i _;refine fg [7,8] ?_
 rotate_left 1
 refine C4 fk t rfl ?_;intro s _;refine Y9 ?_;refine h_ 3 rfl i6 ?_;refine w6 fk (l:=[]) (m:=b) U5 eZ (by show(0+b.length)*1216<=_;omega) ?_ (hsrc:=fun v d=>g.le d.keep) (h63:=by simp only[zn];omega);intro q r _;refine Y9 ?_;refine h_ 6 rfl i6 ?_;refine w6 fk (l:=b) (m:=[t]) U5 eZ (by show(b.length+1)*1216<=_;omega) ?_;intro e i _;refine fg [7,8] ?_
 rotate_left 1
 refine C4 fk t rfl ?_;intro s _;refine Y9 ?_;refine h_ 1 rfl i6 ?_;refine M4 rfl ?_;intro T;refine Y9 ?_;refine h_ 3 rfl i6 ?_;refine w6 fk (l:=[]) (m:=b) U5 eZ (by show(0+b.length)*1216<=_;omega) ?_ (hsrc:=fun v d=>g.le d.keep) (h63:=by simp only[zn];omega);intro q r _;refine Y9 ?_;refine h_ 6 rfl i6 ?_;refine w6 fk (l:=b) (m:=[t]) U5 eZ (by show(b.length+1)*1216<=_;omega) ?_;intro e i _;refine fg [7,8] ?_
 rotate_left 1
 all_goals (refine w8 ?_)
 all_goals
  refine B9 (Z:=[.own (.slice e (b++[t]).length i) 48 99 ((b++[t]).flatMap fk)]) tk fun F3 k ⟨bs,j⟩=>?_;have u:n9 F3.heap e ((b++[t]).flatMap fk):=A3.rd j ud;clear j;refine A4 ?_;refine H4 (A:=[]) (v:=.tuple #[EW o,.slice e (b++[t]).length i]) (f.trans k) ⟨o,t,(e,i),rfl,rfl,u,hf.step,Mn.le k.heap Q,Mn.le k.heap S⟩ ?_;exact D4 rfl rfl rfl ud rfl _ qh (fun v d=>C6 (A:=[]) (J:=[_,_,_,_]) tk d)
abbrev mU:Bs:=[97,32,76,79,71,73,78,32,120,32,104,111,114,110]
abbrev lN:Bs:=[98,32,83,69,76,69,67,84,32,73,78,66,79,88]
abbrev EM:Bs:=[99,32,76,79,71,79,85,84]
abbrev aL(s:Bs):AX:=⟨0,1,s,false,cU⟩
abbrev aC:AX:=⟨1,0,[],false,cU⟩
def gb(s:Bs):CM:=((T7 (cy s) s (behind s)).map Prod.fst).getD iw
def sV(s:Bs):Bool:=dT s&&!decide (H7 (R9 (P8 s))=0\/qX s=true/\H7 (R9 (P8 s))<15)&&decide ((cy s).kind≠15)&&decide ((T7 (cy s) s (behind s)).map Prod.snd=some s.length)
theorem JM{s:Bs}{c:CM}{e:Int}(hl:sV s=true)(h:bw s c e):c=gb s/\e=0:=by
 unfold sV at hl;simp only[ky,Kv,Zp,jg] at hl;obtain⟨⟨⟨j,k⟩,l⟩,m⟩:=hl;obtain⟨⟨C,n⟩,g,b⟩:=kx.1 m;have b:n=s.length:=b;subst b;have d:gb s=C:=by unfold gb;rw[g];rfl
 unfold bw at h;rw[zk (by rw[j];simp),zk k] at h;rw[d];have a:∀r,bB s (cy s) (behind s) r->r=some (C,s.length):=fun r f=>by
  unfold bB at f;rw[zk l,g] at f;exact f
 rcases h with⟨h,o⟩|⟨h|⟨q,h,i⟩,_⟩
 ·have:=a _ h;injection this with this;injection this with this;exact⟨this,o⟩
 ·cases a _ h
 ·have:=a _ h;injection this with this;rw[this] at i;exact absurd rfl i
theorem TO:sV mU=true:=by kernel_rfl
theorem TP:sV lN=true:=by kernel_rfl
theorem TQ:sV EM=true:=by kernel_rfl
theorem lO{w w':WM}{s:Bs}{t:TN}(h:kN w (aL s) w' t)(hl:sV s=true)(i:w.s.a5T=false)(j:w.s.a5O≠3)(hf:(O1 (gb s).kind).1<=w.s.a5O/\w.s.a5O<=(O1 (gb s).kind).2)(m:(gb s).kind<14):
  (t.b,t.d)=NZ (fun _=>[]) (w.s,F_) (gb s)/\∃a:WM,a.m.s=w.m.s/\a.bl=w.bl/\a.q=w.q/\a.tr=w.tr/\sS a t w':=by
 rcases h with⟨h,_⟩|⟨a,c,d,_,g,f⟩
 ·cases h
 ·unfold cA at d;rw[zg rfl] at d;obtain⟨b,k,l,_⟩:=d;refine⟨?_,a,k,l,g.1,g.2,f⟩;unfold cz at b;rw[zk (by show¬(1:Int)=2;decide),zk (by rw[i];simp[j]),zk (by show¬(1:Int)=4;decide),zk (by show¬(1:Int)=3;decide),zg rfl] at b;obtain⟨c,e,hp,b⟩:=b;obtain⟨rfl,rfl⟩:=JM hl hp;rcases b with⟨h,_⟩|⟨h,_⟩|⟨h,_⟩|⟨_,⟨h,_⟩|⟨_,_,h⟩⟩
  ·cases h
  ·cases h
  ·cases h
  ·omega
  ·unfold PW at h;rw[zk qb,zk qb] at h;exact h
theorem lP{w w':WM}{t:TN}(h:kN w aC w' t)(m:w.s.a5T=true)(n:w.s.cmd.kind≠16/\w.s.cmd.kind≠15):
  (∃x:AN,x.c=w.s.cmd/\x.m.s=(E4 w.m.s w.q).1/\x.o=(E4 w.m.s w.q).2/\fq x (V8 w.s) t.b t.d)/\∃a:WM,a.m.s=(E4 w.m.s w.q).1/\a.bl=w.bl/\a.q=w.q/\a.tr=w.tr/\sS a t w':=by
 rcases h with⟨_,h,_⟩|⟨a,c,j,_,o,k⟩
 ·rw[m] at h;cases h
 ·unfold cA at j;rw[zk qp,zg rfl] at j;obtain⟨_,⟨s1,u,q,l⟩,r,s,_⟩:=j;refine⟨?_,a,r,s,o.1,o.2,k⟩;have g:∀{p:SE} {d':DD} {bl:BL},ez w.s (E4 w.m.s w.q).1 (E4 w.m.s w.q).2 bl p d'->d'.want=[]/\∃x:AN,x.c=w.s.cmd/\x.m.s=(E4 w.m.s w.q).1/\x.o=(E4 w.m.s w.q).2/\fq x (V8 w.s) p d':=fun h=>by
   unfold ez at h;rw[zk (by rw[m];simp)] at h;rcases h with⟨_,_,⟨_,h|h⟩,_⟩|⟨x,b,d,f,_,_,_,i⟩
   ·exact absurd h n.1
   ·exact absurd h n.2
   ·exact⟨(eA i).2.1,x,b,d,f,i⟩
  obtain⟨e,x,b,d,f,i⟩:=g q;rw[zg e] at l;exact⟨x,b,d,f,by rw[l.1,l.2];exact i⟩
theorem eC{w0 w':WM}{L:List AX}{d:List TN}(h:bj w0 L d w'):∀l a,L=l++[a]->∃b w t,d=b++[t]/\bj w0 l b w/\kN w a w' t:=by
 cases h with
 |nil=>intro l a e;exact absurd e.symm x4
 |snoc hp hs=>
  intro l a e;obtain⟨f,c⟩:=List.append_inj' e rfl;injection c with c;subst f c;exact⟨_,_,_,rfl,hp,hs⟩
abbrev Kf:List AX:=[aL mU,aC,aL lN,aC,aL EM,aC]
def TR:SE:={oG with a5T:=true,cmd:=gb mU,a5P:=[]}
def Ui:RQ:={cU with op:=1,node:=1,life:=1,tr:=1}
def TS:ML:=(E4 xq Ui).1
def S2a:SE:={V8 TR with a5O:=1,ses:=(E4 xq Ui).2.ses,num:=0}
def EN:SD:=NZ (fun _=>[]) (S2a,F_) (gb lN)
def M4a:ML:=(E4 TS EN.2.req).1
theorem k1a:(gb mU).kind=7:=by kernel_rfl
theorem k2a:(gb lN).kind=8:=by kernel_rfl
theorem Rt:(gb EM).kind=3:=by kernel_rfl
theorem d1a:NZ (fun _=>[]) (oG,F_) (gb mU)=(TR,{F_ with ask:=true,req:={cU with op:=1}}):=by kernel_rfl
theorem c2a:(E4 xq Ui).2.code=0:=by kernel_rfl
theorem b3a:EN.1.a5T=true:=by kernel_rfl
theorem e3a:EN.1.cmd=gb lN:=by kernel_rfl
theorem a3a:EN.2.ask=true:=by kernel_rfl
theorem o3a:¬EN.2.req.op=1:=by
 have:EN.2.req.op=3:=by kernel_rfl
 rw[this];decide
theorem c4a:(E4 TS EN.2.req).2.code=0:=by kernel_rfl
theorem f4a:(ak M4a (gb lN).box).isSome=true:=by kernel_rfl
theorem Aa{m:MM}(hm:m.s=xq){ts:List TN}{w:WM}(h:bj (xN m) Kf ts w):
  ∃t1 t2 t3 t4 t5 s,ts=[t1,t2,t3,t4,t5,s]/\t2.d.a5X.length=1/\t4.d.a5X.length=6/\t4.d.a5X.getD 5 R0={dU (gb lN).tag with code:=aG 8}/\w.s.a5O=3/\s.d.close=true:=by
 obtain⟨_,w5,s,rfl,h,s6⟩:=eC h [aL mU,aC,aL lN,aC,aL EM] aC rfl;obtain⟨_,V,t5,rfl,h,s5⟩:=eC h [aL mU,aC,aL lN,aC] (aL EM) rfl;obtain⟨_,u,t4,rfl,h,s4⟩:=eC h [aL mU,aC,aL lN] aC rfl;obtain⟨_,w2,t3,rfl,h,s3⟩:=eC h [aL mU,aC] (aL lN) rfl;obtain⟨_,t,t2,rfl,h,s2⟩:=eC h [aL mU] aC rfl;obtain⟨X,w0,t1,rfl,h,s1⟩:=eC h [] (aL mU) rfl;have h0:w0=xN m/\X=[]:=by
  generalize hL:([]:List AX)=L at h
  cases h with
  |nil=>exact qh
  |snoc _ _=>exact absurd hL x4
 obtain⟨rfl,rfl⟩:=h0
 -- the first line
 obtain⟨Y,v1,Z,_,q9,v,j⟩:=lO s1 TO rfl (by show(0:Nat)≠3;decide) (by rw[k1a];exact⟨by show(O1 7).1<=0;decide,by show 0<=(O1 7).2;decide⟩) (by rw[k1a];decide);have Y:(t1.b,t1.d)=(TR,{F_ with ask:=true,req:={cU with op:=1}}):=Y.trans d1a;injection Y with e1b e1d;have k:t.s=TR:=by rw[j.s,e1b]
 have h1:t.m.s=xq:=by rw[j.m,Z];exact hm
 have h2:t.q=Ui:=by
  rw[j.q];unfold iP;rw[e1d,zg rfl,zg rfl,v];rfl
 -- what comes
 have A:t.s.cmd.kind=7:=by rw[k];exact k1a
 obtain⟨⟨x,h3,h4,c,hx⟩,v2,C,_,_,_,D⟩:=lP s2 (by rw[k];rfl) (by rw[A];decide);rw[h1,h2] at h4 c C;have l:x.c.kind=7:=by rw[h3];exact A
 have h5:BV x (V8 t.s)=V8 t.s:=by unfold BV uP;rw[l];rfl
 unfold fq at hx;rw[zk (by rw[c,c2a];decide),zk (by rw[l];decide)] at hx;obtain⟨r,x0,l1,x1,l2,d,J,g3⟩:=hx;rw[zg (by rw[c];exact c2a)] at d;unfold M8 at d;rw[zg (show(xM x).c.kind=7 from l)] at d;obtain⟨rfl,rfl,rfl⟩:=d;rw[zk (fun h=>absurd h.1 (by show¬(1:Nat)=2;decide))] at J;obtain⟨rfl,rfl⟩:=J;rw[zk (fun h=>absurd h.1 (by show¬(1:Nat)=2;decide))] at g3;obtain⟨h6,h7⟩:=g3;have e:w2.s=S2a:=by
  rw[D.s,h6,h5,k];show({V8 TR with a5O:=1,ses:=x.o.ses,num:=0}:SE)=_;rw[c];rfl
 have h8:w2.m.s=TS:=by rw[D.m,C];rfl
 -- the second line
 obtain⟨M,v3,h9,_,x2,q7,n⟩:=lO s3 TP (by rw[e];rfl) (by rw[e];show(1:Nat)≠3;decide) (by rw[k2a,e];exact⟨by decide,by decide⟩) (by rw[k2a];decide);rw[e] at M;have M:(t3.b,t3.d)=EN:=M;have k0:t3.b=EN.1:=by rw[<-M]
 have k8:t3.d=EN.2:=by rw[<-M]
 have f:u.s=EN.1:=by rw[n.s,k0]
 have k9:u.m.s=TS:=by rw[n.m,h9,h8]
 have q0:u.q=EN.2.req:=by
  rw[n.q];unfold iP;rw[k8,zg a3a,zk o3a]
 -- what comes
 have O:u.s.cmd.kind=8:=by rw[f,e3a];exact k2a
 obtain⟨⟨y,o,Q,p,hy⟩,v4,x3,_,_,_,q1⟩:=lP s4 (by rw[f];exact b3a) (by rw[O];decide);rw[k9,q0] at Q p;have a:y.c.kind=8:=by rw[o];exact O
 have q2:uP y=true:=by unfold uP;rw[a];rfl
 unfold fq at hy;rw[zk (by rw[p,c4a];decide),zk (by rw[a];decide)] at hy;obtain⟨r,x9,l3,y0,l4,d,J,g4⟩:=hy;rw[zg (by rw[p];exact c4a)] at d;unfold M8 at d;rw[zk (show¬(xM y).c.kind=7 from by show¬y.c.kind=7;rw[a];decide),zk (show¬(xM y).c.kind=14 from by show¬y.c.kind=14;rw[a];decide),zg (show(xM y).c.kind=8\/(xM y).c.kind=9 from .inl a)] at d;rw[zk (fun h=>by rw[q2] at h;cases h.2.1)] at J g4;obtain⟨rfl,rfl⟩:=J;obtain⟨q3,S⟩:=g4;rcases d with⟨T,_⟩|⟨b,hb,rfl,rfl,rfl⟩
 ·exfalso;have hf:=f4a;have T:ak y.m.s y.c.box=none:=T;rw[Q,o,f,e3a] at T;rw[show(E4 TS EN.2.req).1=M4a from rfl] at T;rw[T] at hf
  cases hf
 have g:V.s.a5T=false/\V.s.a5O=2:=by
  rw[q1.s,q3];refine⟨?_,rfl⟩;show(BV y (V8 u.s)).a5T=false;unfold BV;split<;>rfl
 -- the third line
 obtain⟨U,v5,y1,_,y2,q8,q4⟩:=lO s5 TQ g.1 (by rw[g.2];decide) (by rw[Rt,g.2];exact⟨by decide,by decide⟩) (by rw[Rt];decide);unfold NZ at U;rw[zk (by rw[Rt];decide),zk (by rw[Rt];decide),zg Rt,zk (show¬V.s.a5O=0 from by rw[g.2];decide)] at U;unfold G3 at U;rw[zk qp] at U;injection U with e5b e5d;have q:w5.s.a5T=true/\w5.s.cmd.kind=3:=by
  rw[q4.s,e5b];exact⟨rfl,Rt⟩
 obtain⟨⟨z,q5,_,_,hz⟩,v6,_,_,_,_,q6⟩:=lP s6 q.1 (by rw[q.2];decide);have i:s.b.a5O=3/\s.d.close=true:=by
  unfold fq at hz;split at hz
  ·rw[hz.1,hz.2];exact qh
  ·rw[zg (by rw[q5];exact q.2)] at hz;rw[hz.1,hz.2];exact qh
 refine⟨t1,t2,t3,t4,t5,s,rfl,?_,?_,?_,by rw[q6.s];exact i.1,i.2⟩
 ·rw[h7];rfl
 ·rw[S];rfl
 ·rw[S];show({(xM y).r with code:=aG (xM y).c.kind}:RR)=_;show({dU y.c.tag with code:=aG y.c.kind}:RR)=_;rw[a,o,f,e3a]
abbrev qL(b:Nat)(s:Bs)(p:Nat)(ok:Bool):As:=.blk b (.cells #[B s,.int .i64 (p:Nat),.bool ok] 116)
abbrev Uj(b:Nat)(s:Bs)(st:RS):As:=qL b s st.p st.ok
theorem NJ{s w:Bs}{p:Nat}{ok:Bool}(h:p<=s.length):(mF s w ⟨p,ok⟩).2.p<=s.length/\p<=(mF s w ⟨p,ok⟩).2.p:=by
 unfold mF;split
 ·next a=>
  have:=a.2;rw[Gm,z8] at this;simp only[ky,jg] at this;simp only;omega
 ·simp only;omega
theorem JN(b:Nat)(s w:Bs)(p:Nat)(ok:Bool)(hs:s.length<=1000000000000)(hp:p<=s.length)(i:w.length<=1000000000000):Ct prog 42 [l9 b,B w] (fun _=>True) [qL b s p ok] (fun v A=>v=.bool (mF s w ⟨p,ok⟩).1/\A=[Uj b s (mF s w ⟨p,ok⟩).2]):=by
 obtain⟨q,c⟩:=o8 (w.isPrefixOf (s.drop p));refine b_ 33 func42 rfl rfl rfl ?_;intro F _;refine r7 ?_;refine x8 [(0,l9 b),(1,B w),(23,.bool (!ok||!q))] [qL b s p ok] ?_ ?_
 ·cases ok
  all_goals (
   refine w8 ?_;refine vi [3,9,13] [] 19 ?_;refine wd [0,1,2,3,4,5,6,7,8,9,10,11,12,13] ?_;(first|refine s_ 14 ?_|refine t_ 14 ?_|refine E1 14 rfl ((H6 rfl rfl rfl qb).eq (v':=B (s.drop p)) (by rw[jq (by rw[z8];omega),jh])) rfl rfl rfl rfl rfl rfl i6 ?_);refine wd [15] ?_;refine h_ 16 rfl i6 ?_;(first|refine u_ ?_|(refine v_ ?_;refine c_ rfl (ah (s.drop p) w) qw rfl ?_;rw[<-c]));refine xF ?_;refine wd [17,18] ?_)
  all_goals exact p9 sub i_
 refine O0 ?_ ?_<;>intro h
 ·have e:mF s w ⟨p,ok⟩=(false,⟨p,ok⟩):=by
   unfold mF;refine zk fun d=>?_;simp only at d;rw[d.1,c,d.2] at h
   cases h
  rw[e];refine C5 ?_;exact d_ rfl rfl [qL b s p ok] qh i_
 ·rw[Q1] at h;have f:ok=true:=by simpa using h.1
  have g:q=true:=by simpa using h.2
  have e:mF s w ⟨p,ok⟩=(true,⟨p+w.length,ok⟩):=by
   unfold mF;exact zg ⟨f,c.symm.trans g⟩
  have a:=NJ (s:=s) (w:=w) (p:=p) (ok:=ok) hp;rw[e] at a⊢;simp only at a;refine aq ?_;refine f_ ((p_ rfl rfl qb).eq (v':=.int .i64 ((p+w.length:Nat):Int)) (by congr 1)) ?_;refine JS ?_;exact d_ rfl rfl [qL b s (p+w.length) ok] qh i_
theorem EO(b:Nat)(s w:Bs)(p:Nat)(ok:Bool)(hs:s.length<=1000000000000)(hp:p<=s.length)(a:w.length<=1000000000000):Ct prog 46 [l9 b,B w] (fun _=>True) [qL b s p ok] (fun v A=>v=.tuple #[]/\A=[Uj b s (FJ s w ⟨p,ok⟩)]):=by
 refine b_ 10 func46 rfl rfl rfl ?_;intro F _;refine E7 ?_;refine x6 _ rfl (JN b s w p ok hs hp a) i_ qw rfl ?_;rintro v A ⟨rfl,rfl⟩;refine E7 ?_;exact m6 rfl [Uj b s (FJ s w ⟨p,ok⟩)] qh i_
theorem JO(b:Nat)(s w:Bs)(p:Nat)(ok:Bool)(hs:s.length<=1000000000000)(hp:p<=s.length)(n:w.length<=1000000000000):Ct prog 43 [l9 b,B w] (fun _=>True) [qL b s p ok] (fun v A=>v=B (ow s w ⟨p,ok⟩).1/\A=[Uj b s (ow s w ⟨p,ok⟩).2]):=by
 refine b_ 56 func43 rfl rfl rfl ?_;intro F _
 cases ok with
 |false=>
  refine KR ?_;exact d_ rfl rfl [qL b s p false] qh i_
 |true=>
  refine wk 11 ?_;refine o7 (ι:=Nat) (fun j=>p<=j/\j<=s.length/\∀i,p<=i->i<j->(!w.contains (s.getD i 0))=true) (fun j=>[(0,l9 b),(1,B w),(5,.int .i64 (p:Nat))]) (fun j=>[qL b s j true]) (fun j=>s.length-j) p ⟨zr _,hp,fun i h t=>by omega⟩ ?_ ?_ ?_
  ·exact sub
  ·intro w n;exact n
  rintro j ⟨g,o,k⟩;obtain⟨q,a⟩:=o8 (decide ((j:Int)<(s.length:Nat)));obtain⟨u,d⟩:=o8 (!w.contains (s.getD j 0));refine w8 ?_;refine x8 [(0,l9 b),(1,B w),(5,.int .i64 (p:Nat)),(38,.bool (q&&u))] [qL b s j true] ?_ ?_
  ·cases q
   all_goals (
    refine w8 ?_;refine vi [3,7,15,19] [] 24 ?_;refine wd [0,1,2,3,4,5,6,7,8] ?_;refine w_ 9 rfl ((F6 rfl rfl).eb a) ?_;refine wd [10,11,12,13,14,15,16,17,18,19] ?_;(first|refine s_ 20 ?_|refine t_ 20 ?_|refine E1 20 rfl ((A7 rfl rfl (by have:=qr a.symm;omega)).eq (v':=U8 (s.getD j 0)) (by simp only[jh])) rfl rfl rfl rfl rfl rfl i6 ?_);refine h_ 21 rfl i6 ?_;(first|refine u_ ?_|(refine v_ ?_;refine c_ rfl (ai w (s.getD j 0)) qw rfl ?_));refine xF ?_;(first|refine s_ 22 ?_|refine t_ 22 ?_|refine E1 22 rfl ((F6 rfl rfl).eq (qn ((yq _ _).trans d.symm))) rfl rfl rfl rfl rfl rfl i6 ?_);refine wd [23] ?_)
   all_goals exact p9 sub i_
  refine O0 ?_ ?_<;>intro l
  ·simp only[ky] at l;have x:j<s.length:=(by have:=qr (a.symm.trans l.1);omega);refine O3 ?_;refine f_ ((p_ rfl rfl qb).eq (v':=.int .i64 ((j+1:Nat):Int)) (by congr 1)) ?_;refine E7 ?_;refine l6 (j+1) ⟨by omega,by omega,fun i h t=>?_⟩ qb ?_ ?_
   ·rcases kp.1 t with y|rfl
    ·exact k i h y
    ·rw[<-d];exact l.2
   ·exact sub
   ·intro w n;exact n
  ·have m:j<s.length->(!w.contains (s.getD j 0))=false:=fun C=>by
    have:q=true:=a.trans qk;rw[this,Kc] at l;rw[<-d];exact l
   obtain⟨r,z⟩:=AM (f:=fun c=>!w.contains c) g (.inl o) k m;have e:ow s w ⟨p,true⟩=((s.drop p).take (j-p),⟨j,true⟩):=by
    unfold ow FK;rw[zg rfl];simp only;rw[<-z,r]
   rw[e];refine w8 ?_;refine vi [3,8] [] 11 ?_;refine wd [0,1,2,3,4,5,6,7,8] ?_;refine w_ 9 rfl ((H6 rfl rfl rfl qb).eq (v':=B ((s.drop p).take (j-p))) (jy B (jP g))) ?_;refine wd [10] ?_;refine A4 ?_;exact d_ rfl rfl [qL b s j true] qh i_
theorem EP(s:Bs)(hs:s.length<=1000000000000):Pu prog 44 [B s] (fun _=>True) (.bool (kY s)):=by
 refine b_ 27 func44 rfl rfl rfl ?_;intro F _;refine O3 ?_;refine o7 (ι:=Nat) (fun k=>k<=s.length/\∀j,j<k->gn (s.getD j 0)=true) (fun k=>[(0,B s),(5,.int .i64 (s.length:Nat)),(6,.int .i64 (k:Nat))]) (fun _=>[]) (fun k=>s.length-k) 0 ⟨by omega,fun j h=>by omega⟩ ?_ ?_ ?_
 ·exact sub
 ·intro w i;exact i
 rintro k ⟨z,a⟩;refine R7 ?_ ?_<;>intro h
 ·have l:k<s.length:=by simp at h;omega
  obtain⟨m,b⟩:=o8 (decide (((s.getD k 0).toNat:Int)<32));obtain⟨q,c⟩:=o8 (decide ((126:Int)<((s.getD k 0).toNat:Nat)));have r:gn (s.getD k 0)=!(m||q):=by
   rw[b,c,Zm];simp only[gn,ky,Kv,Q1,jg,Zp];omega
  refine A1 ?_;refine x8 [(0,B s),(5,.int .i64 (s.length:Nat)),(6,.int .i64 (k:Nat)),(18,.bool (m||q))] [] ?_ ?_
  ·cases m
   all_goals (
    refine A1 ?_;refine f_ ((A7 rfl rfl qb).eq (v':=U8 (s.getD k 0)) (by simp only[jh])) ?_;refine f_ ((F6 rfl rfl).eb b) ?_;refine E7 ?_;(first|refine u_ ?_|(refine v_ ?_;refine f_ ((A7 rfl rfl qb).eq (v':=U8 (s.getD k 0)) (by simp only[jh])) ?_));(first|refine u_ ?_|(refine v_ ?_;refine f_ ((E2 rfl rfl).eb c) ?_));refine r7 ?_)
   all_goals exact p9 sub i_
  refine O0 ?_ ?_<;>intro g
  ·have e:kY s=false:=by
    unfold kY;rw[ym (p:=gn) l (by rw[r,g];rfl)];rfl
   rw[e];refine C5 ?_;exact d_ rfl rfl [] qh (fun _ h=>h)
  ·refine A1 ?_;refine l6 (k+1) ⟨by omega,fun j u=>?_⟩ qb ?_ ?_
   ·rcases kp.1 u with v|rfl
    ·exact a j v
    ·rw[r,g];rfl
   ·exact sub
   ·intro w i;exact i
 have n:k=s.length:=by simp at h;omega
 subst n;obtain⟨o,d⟩:=o8 (!decide (s=[]));obtain⟨t,f⟩:=o8 (decide (((s.length:Nat):Int)<=512));have e:kY s=(o&&t):=by
  unfold kY;have x:s.all gn=true:=AI a;have g:(!s.isEmpty)=o:=by rw[d];cases s<;>simp
  have y:decide (s.length<=512)=t:=by rw[f];exact zp.mpr qb
  rw[x,g,y,Kc]
 rw[e];clear e;refine w8 ?_
 cases o
 all_goals (
  refine r7 ?_;refine f_ ((E8 rfl rfl).eb d) ?_;refine E7 ?_;(first|refine u_ ?_|(refine v_ ?_;refine f_ ((G4 rfl rfl).eb f) ?_));refine A1 ?_)
 all_goals (refine A4 ?_;exact d_ rfl rfl [] qh (fun _ h=>h))
theorem sW(k:Nat)(a:k<4):Pu prog 35 [.int .i64 ((k:Int)+1)] (fun _=>True) (B (FG.getD k [])):=by
 refine b_ 7 func35 rfl rfl rfl ?_;intro F _;refine xG ?_;refine f_ (cK (v:=.agg #[B [79,75],B [78,79],B [66,65,68],B [66,89,69]]) rfl (fun w=>run_build w _ _ _ i6)) ?_;refine r7 ?_;refine f_ ((E0 rfl rfl qb).eq (v':=.int .i64 (k:Nat)) (by congr 1;omega)) ?_;refine f_ ((eH k rfl rfl rfl qb (v:=B (FG.getD k [])) (by have c:k=0\/k=1\/k=2\/k=3:=qb;rcases c with rfl|rfl|rfl|rfl<;>rfl))) ?_;refine C5 ?_;exact d_ rfl rfl [] qh (fun _ h=>h)
abbrev qM:Bs:=[98,32,79,75,32,91,82,69,65,68,45,87,82,73,84,69,93,32,100,111,110,101,13,10]
abbrev r5:RR:=⟨1,[98],[82,69,65,68,45,87,82,73,84,69],[100,111,110,101],0,[],0,[],[],[]⟩
abbrev TT(x:RL)(h:l_):Prop:=Gl h/\fG r5 x h
theorem xB(b p:Nat)(w:Bs){q:Bool}{p':Nat}(hp:Nat.ble p 24=true)(a:Nat.ble w.length 100=true)(e:mF qM w ⟨p,true⟩=(q,⟨p',true⟩)):Ct prog 42 [l9 b,B w] (fun _=>True) [qL b qM p true] (fun v A=>v=.bool q/\A=[qL b qM p' true]):=by
 have h:=JN b qM w p true qp (Zg hp) (jd (Zg a) qp);rw[e] at h;exact h
theorem uL(b p:Nat)(w:Bs){p':Nat}(hp:Nat.ble p 24=true)(a:Nat.ble w.length 100=true)(e:FJ qM w ⟨p,true⟩=⟨p',true⟩):Ct prog 46 [l9 b,B w] (fun _=>True) [qL b qM p true] (fun v A=>v=.tuple #[]/\A=[qL b qM p' true]):=by
 have h:=EO b qM w p true qp (Zg hp) (jd (Zg a) qp);rw[e] at h;exact h
theorem nN(b p:Nat)(w:Bs){t:Bs}{p':Nat}(hp:Nat.ble p 24=true)(a:Nat.ble w.length 100=true)(e:ow qM w ⟨p,true⟩=(t,⟨p',true⟩)):Ct prog 43 [l9 b,B w] (fun _=>True) [qL b qM p true] (fun v A=>v=B t/\A=[qL b qM p' true]):=by
 have h:=JO b qM w p true qp (Zg hp) (jd (Zg a) qp);rw[e] at h;exact h
theorem Ci{s:Bs}(h:kY s=true)(hs:Nat.ble s.length 100=true):Pu prog 44 [B s] (fun _=>True) (.bool true):=by
 have k:=EP s (jd (Zg hs) qp);rw[h] at k;exact k
theorem QW(b:Nat):Ct prog 49 [l9 b,B [98]] (fun _=>True) [qL b qM 2 true] (fun v A=>v=KU r5 L0/\A=[qL b qM 22 true]):=by
 refine b_ 79 func49 rfl rfl rfl ?_;intro F _;refine r7 ?_;intro a;refine w8 ?_;refine E7 ?_;intro c;refine A1 ?_;refine x6 [pq c ⟨0,[98],[],[],0,[],0,[],[],[]⟩ L0,pq a R0 L0] rfl (nN b 2 [32,13] (t:=[79,75]) (p':=4) rfl rfl i6) (fun w d=>d.perm (kz (l₁:=[_,_]) (l₂:=[_]))) qw rfl ?_;rintro v A ⟨rfl,rfl⟩;refine A1 ?_;refine o7 (ι:=Nat) (fun k=>k<=4) (fun k=>[(0,l9 b),(1,B [98]),(4,l9 a),(5,l9 c),(6,B [79,75]),(7,.int .i64 ((k:Int)+1))]) (fun k=>[qL b qM 4 true,pq c ⟨((min k 1:Nat):Int),[98],[],[],0,[],0,[],[],[]⟩ L0,pq a R0 L0]) (fun k=>4-k) 0 (zw _) sub i_ ?_;intro k l;refine bA ?_ ?_<;>intro h
 ·have e:k<4:=by have:=qr h;omega
  have j:decide (FG.getD k []=[79,75])=decide (k=0):=by
   have:k=0\/k=1\/k=2\/k=3:=(by omega);rcases this with rfl|rfl|rfl|rfl<;>rfl
  refine I8 0 ?_;refine x8 [(0,l9 b),(1,B [98]),(4,l9 a),(5,l9 c),(6,B [79,75]),(7,.int .i64 ((k:Int)+1))] [qL b qM 4 true,pq c ⟨1,[98],[],[],0,[],0,[],[],[]⟩ L0,pq a R0 L0] ?_ ?_
  ·refine n8 ?_;refine r7 ?_;refine c_ rfl (sW k e) qw rfl ?_;refine r7 ?_;refine f_ ((C8 rfl rfl).eq (qn j)) ?_;refine O0 ?_ ?_<;>intro i
   ·have f:k=0:=qr i;subst f;refine E7 ?_;exact p9 sub i_
   ·have f:min k 1=1:=(by have:=zq i;omega);rw[f];refine w8 ?_;exact p9 sub i_
  refine r7 ?_;refine f_ ((p_ rfl rfl qb).eq (v':=.int .i64 ((((k+1:Nat):Int))+1)) (by congr 1)) ?_;refine r7 ?_;exact l6 (k+1) qb qb sub (fun w d=>by rw[show min (k+1) 1=1 by omega];exact d)
 have g:k=4:=by have:=zq h;omega
 subst g;refine r7 ?_;refine x6 _ rfl (uL b 4 [32] (p':=5) rfl rfl i6) i_ qw rfl ?_;rintro v A ⟨rfl,rfl⟩;refine r7 ?_;refine x6 _ rfl (xB b 5 [91] (q:=true) (p':=6) rfl rfl i6) i_ qw rfl ?_;rintro v A ⟨rfl,rfl⟩;refine r7 ?_;refine x6 _ rfl (nN b 6 [93,13] (t:=[82,69,65,68,45,87,82,73,84,69]) (p':=16) rfl rfl i6) i_ qw rfl ?_;rintro v A ⟨rfl,rfl⟩;refine E7 ?_;refine x6 _ rfl (uL b 16 [93,32] (p':=18) rfl rfl i6) i_ qw rfl ?_;rintro v A ⟨rfl,rfl⟩;refine wk 8 ?_;(first|refine u_ ?_|(refine v_ ?_;refine c_ rfl (Ci (s:=[82,69,65,68,45,87,82,73,84,69]) i6 rfl) qw rfl ?_));refine ap ?_;refine x6 _ rfl (nN b 18 [13] (t:=[100,111,110,101]) (p':=22) rfl rfl i6) i_ qw rfl ?_;rintro v A ⟨rfl,rfl⟩;refine wk 10 ?_;(first|refine u_ ?_|(refine v_ ?_;refine f_ ((E2 rfl rfl).eq (v':=.bool true) rfl) ?_));refine O3 ?_;(first|refine u_ ?_|(refine v_ ?_;refine c_ rfl (Ci (s:=[100,111,110,101]) i6 rfl) qw rfl ?_));refine O3 ?_;(first|refine u_ ?_|(refine v_ ?_;refine f_ ((A7 rfl rfl qp).eq (v':=U8 100) rfl) ?_));(first|refine u_ ?_|(refine v_ ?_;refine f_ ((M3 rfl rfl).eq (v':=.bool true) rfl) ?_));refine O3 ?_;(first|refine u_ ?_|(refine v_ ?_;refine f_ ((M3 rfl rfl).eq (v':=.bool true) rfl) ?_));refine wk 10 ?_;refine A4 ?_;exact G7 rfl rfl ud rfl _ qh (fun w d=>d.left (A:=[_]))
theorem QX:Ct prog 23 [B qM] Gl [] (fun v A=>v=.tuple #[KU r5 L0,.int .i64 24,.int .i64 0]/\A=[]):=by
 refine b_ 85 func23 rfl rfl rfl ?_;intro F hg;refine r7 ?_;intro e;refine E7 ?_;refine f_ ((cK (v:=.agg #[B qM,.int .i64 0,.bool true]) rfl (fun w=>run_build w _ _ _ i6))) ?_;refine r7 ?_;intro a;refine r7 ?_;refine r7 ?_;intro d;refine r7 ?_;refine x6 [pq d R0 L0,pq e R0 L0] rfl (xB a 0 (FH++OO) (q:=false) (p':=0) rfl rfl i6) (fun w c=>c.perm (.swap _ _ _)) qw rfl ?_;rintro v A ⟨rfl,rfl⟩;refine A1 ?_;refine x6 _ rfl (xB a 0 (a05++OO) (q:=false) (p':=0) rfl rfl i6) i_ qw rfl ?_;rintro v A ⟨rfl,rfl⟩;refine A1 ?_;refine x6 _ rfl (xB a 0 [43,32] (q:=false) (p':=0) rfl rfl i6) i_ qw rfl ?_;rintro v A ⟨rfl,rfl⟩;refine A1 ?_;refine x6 _ rfl (xB a 0 [42,32] (q:=false) (p':=0) rfl rfl i6) i_ qw rfl ?_;rintro v A ⟨rfl,rfl⟩;refine A1 ?_;refine x6 _ rfl (nN a 0 [32,13] (t:=[98]) (p':=1) rfl rfl i6) i_ qw rfl ?_;rintro v A ⟨rfl,rfl⟩;refine A1 ?_;refine x6 _ rfl (uL a 1 [32] (p':=2) rfl rfl i6) i_ qw rfl ?_;rintro v A ⟨rfl,rfl⟩;refine w8 ?_;have b:=oV [98] qp;rw[show je [98]=true from by kernel_rfl] at b;refine wk 7 ?_;(first|refine u_ ?_|(refine v_ ?_;refine c_ rfl b (fun h f g=>trivial) rfl ?_));refine O3 ?_;(first|refine u_ ?_|(refine v_ ?_;refine f_ ((G4 rfl rfl).eq (v':=.bool true) rfl) ?_));refine E7 ?_;(first|refine u_ ?_|(refine v_ ?_;refine c_ rfl (ai [98] 43) qw rfl ?_));(first|refine u_ ?_|(refine v_ ?_;refine f_ ((F6 rfl rfl).eq (v':=.bool true) i6) ?_));refine aq ?_;refine x6 _ rfl (QW a) i_ qw rfl ?_;rintro v A ⟨rfl,rfl⟩;refine A1 ?_;refine x6 _ rfl (uL a 22 OO (p':=24) rfl rfl i6) i_ qw rfl ?_;rintro v A ⟨rfl,rfl⟩;refine ap ?_;refine D2 [0,4] [5] [qL a qM 24 true,pq d r5 L0] 8 ?_;refine wd [0,1,2,3,4,5,6,7] ?_;refine A4 ?_;exact Fi rfl rfl rfl rfl ud rfl _ qh (fun w c=>c.dropAll)
theorem QY(x:RL):Pu prog 22 [KU r5 x] (TT x) (B [98,32,79,75,32,91,82,69,65,68,45,87,82,73,84,69,93,32,100,111,110,101]):=by
 refine b_ 159 func22 rfl rfl rfl ?_;intro F c;refine r7 ?_;intro a;refine E7 ?_;refine T2 ?_;refine f_ ((p7 rfl rfl).eq (v':=.bool true) rfl) ?_;refine r7 ?_;refine D2 [1,4] [5] [pq a r5 x] 9 ?_;refine wd [0,1] ?_;refine w_ 2 rfl ((G_ rfl rfl qp).eq (v':=B [98,32]) rfl) ?_;refine wd [3,4] ?_;refine h_ 5 rfl i6 ?_;refine c_ (v:=B [79,75]) rfl (sW 0 qp) qw rfl ?_;refine Y9 ?_;refine w_ 6 rfl ((G_ rfl rfl qp).eq (v':=B [98,32,79,75]) rfl) ?_;refine w_ 7 rfl ((G_ rfl rfl qp).eq (v':=B [98,32,79,75,32]) rfl) ?_;refine wd [8] ?_;refine A1 ?_;refine f_ ((E8 rfl rfl).eq (v':=.bool true) rfl) ?_;refine E7 ?_;refine f_ ((G_ rfl rfl qp).eq (v':=B [91,82,69,65,68,45,87,82,73,84,69]) rfl) ?_;refine f_ ((G_ rfl rfl qp).eq (v':=B [91,82,69,65,68,45,87,82,73,84,69,93,32]) rfl) ?_;refine f_ ((G_ rfl rfl qp).eq (v':=B [98,32,79,75,32,91,82,69,65,68,45,87,82,73,84,69,93,32]) rfl) ?_;refine O3 ?_;refine f_ ((G_ rfl rfl qp).eq (v':=B [98,32,79,75,32,91,82,69,65,68,45,87,82,73,84,69,93,32,100,111,110,101]) rfl) ?_;refine C5 ?_;exact d_ rfl rfl [] qh (fun w b=>b.dropAll)
theorem TU(a b:Option Addr)(c d:Nat):Pu prog 51 [.slice a 0 c,.slice b 0 d] (fun _=>True) (.bool true):=by
 refine b_ 26 func51 rfl rfl rfl ?_;intro F _;refine wk 9 ?_;refine o7 (ι:=Unit) (fun _=>True) (fun _=>[(12,.int .i64 0),(13,.int .i64 0)]) (fun _=>[]) (fun _=>0) () trivial sub i_ ?_;intro _ _;refine L7 ?_;exact d_ rfl rfl [] qh (fun _ h=>h)
theorem TV(a b:Option Addr)(c d:Nat):Pu prog 52 [.slice a 0 c,.slice b 0 d] (fun _=>True) (.bool true):=by
 refine b_ 26 func52 rfl rfl rfl ?_;intro F _;refine wk 9 ?_;refine o7 (ι:=Unit) (fun _=>True) (fun _=>[(12,.int .i64 0),(13,.int .i64 0)]) (fun _=>[]) (fun _=>0) () trivial sub i_ ?_;intro _ _;refine L7 ?_;exact d_ rfl rfl [] qh (fun _ h=>h)
theorem TW(a b:Option Addr)(c d:Nat)(f:Value):Pu prog 53 [.slice a 0 c,.slice b 0 d,f] (fun _=>True) (.bool true):=by
 refine b_ 32 func53 rfl rfl rfl ?_;intro F _;refine wk 9 ?_;refine o7 (ι:=Unit) (fun _=>True) (fun _=>[(16,.int .i64 0),(17,.int .i64 0)]) (fun _=>[]) (fun _=>0) () trivial sub i_ ?_;intro _ _;refine L7 ?_;exact d_ rfl rfl [] qh (fun _ h=>h)
theorem QZ(x:RL)(hx:x.vs=[]):Pu prog 24 [KU r5 x,KU r5 L0] (fun _=>True) (.bool true):=by
 obtain⟨b,c,d,e,f,g,h⟩:=x;simp only at hx;subst hx;refine b_ 75 func24 rfl rfl rfl ?_;intro F _;refine r7 ?_;intro i;refine r7 ?_;intro j;refine aq ?_;refine f_ ((p7 rfl rfl).eq (v':=.bool true) rfl) ?_;refine ap ?_;(first|refine u_ ?_|(refine v_ ?_;refine f_ ((C8 rfl rfl).eq (v':=.bool true) rfl) ?_));refine aq ?_;(first|refine u_ ?_|(refine v_ ?_;refine f_ ((C8 rfl rfl).eq (v':=.bool true) rfl) ?_));refine aq ?_;(first|refine u_ ?_|(refine v_ ?_;refine f_ ((C8 rfl rfl).eq (v':=.bool true) rfl) ?_));refine aq ?_;(first|refine u_ ?_|(refine v_ ?_;refine f_ ((p7 rfl rfl).eq (v':=.bool true) rfl) ?_));refine aq ?_;(first|refine u_ ?_|(refine v_ ?_;refine c_ rfl (TV _ _ _ _) qw rfl ?_));refine aq ?_;(first|refine u_ ?_|(refine v_ ?_;refine c_ rfl (TU _ _ _ _) qw rfl ?_));refine aq ?_;(first|refine u_ ?_|(refine v_ ?_;refine f_ ((C8 rfl rfl).eq (v':=.bool true) rfl) ?_));refine wk 7 ?_;(first|refine u_ ?_|(refine v_ ?_;refine c_ rfl (TW _ _ _ _ _) qw rfl ?_));refine aq ?_;(first|refine u_ ?_|(refine v_ ?_;refine f_ ((p7 rfl rfl).eq (v':=.bool true) rfl) ?_));refine L7 ?_;exact d_ rfl rfl [] qh (fun w a=>a.dropAll)
theorem NK(x:RL)(hx:x.vs=[]):Pu prog 14 [KU r5 x] (TT x) (.tuple #[B qM,.int .i64 0]):=by
 refine b_ 40 func14 rfl rfl rfl ?_;intro F b;refine r7 ?_;intro c;refine O3 ?_;refine f_ ((F6 rfl rfl).eq (v':=.bool false) rfl) ?_;refine E7 ?_;(first|refine u_ ?_|(refine v_ ?_;refine f_ ((E2 rfl rfl).eq (v':=.bool false) rfl) ?_));refine A1 ?_;refine c_ rfl (QY x) (fun h a d=>⟨b.1.le a,b.2.le a⟩) rfl ?_;refine f_ ((G_ rfl rfl qp).eq (v':=B qM) rfl) ?_;refine A1 ?_;refine x6 [pq c r5 x] rfl QX i_ (fun h a d=>b.1.le a) rfl ?_;rintro v A ⟨rfl,rfl⟩;refine O3 ?_;refine i7 rfl ?_;intro f;refine O3 ?_;refine f_ ((M3 rfl rfl).eq (v':=.bool false) rfl) ?_;refine O3 ?_;(first|refine u_ ?_|(refine v_ ?_;refine f_ ((M3 rfl rfl).eq (v':=.bool false) rfl) ?_));refine O3 ?_;(first|refine u_ ?_|(refine v_ ?_;refine c_ rfl (QZ x hx) qw rfl ?_));refine JT ?_;exact u6 rfl rfl rfl [] qh (fun w e=>e.dropAll)
abbrev xC:List Bs:=[mU,lN,EM]
def r5a:RR:={dU (gb lN).tag with code:=aG 8}
theorem Ra:r5a=r5:=by kernel_rfl
theorem Cj{i:Nat}(a:i<xC.length):Kf.take (2*(i+1))=Kf.take (2*i)++[aL xC[i]]++[aC]:=by
 have:i=0\/i=1\/i=2:=by have:xC.length=3:=rfl;omega
 rcases this with rfl|rfl|rfl<;>rfl
theorem JP:∀a∈Kf,iR a:=fun a ha=>by
 have b:RqI cU:=⟨⟨by decide,by decide,by decide,by decide,qy⟩,fun e=>by cases e⟩;simp only[Kf,kw,Jk,Yz] at ha;rcases ha with rfl|rfl|rfl|rfl|rfl|rfl<;>exact⟨by decide,b⟩
theorem xD:Cm prog 9 [] Gl [] (fun h v A=>v=.bool true/\A=[]):=by
 refine y5 89 func9 rfl rfl rfl ?_;rintro F R hg;refine xG ?_;refine A9 xt trivial ?_;rintro v A F0 h6 ⟨m,rfl,rfl,hm,q9⟩;refine i7 rfl ?_;intro g1;refine xG ?_;refine M4 rfl ?_;intro a8;refine xG ?_;refine x7 rfl rfl rfl rfl rfl rfl (xs:=xC.flatMap rM) rfl rfl ?_;intro a9 x0;refine I8 2 ?_;have h7:∃ad,a9=some ad:=x0;refine B9 (Z:=[.own (.slice a9 3 3) 9 1 (xC.flatMap rM)]) tk fun F1 X ⟨bs,hb⟩=>?_;have x1:n9 F1.heap a9 (xC.flatMap rM):=A3.rd hb ud;clear hb;refine S8 (fun(e:List TN) (o:AC) (w:WM) (k:l8)=>F.le k/\bj (xN m) Kf e w/\n9 k.heap o.1 (e.flatMap fk)/\∀t∈e,rv t k.heap) (fun e o _ _=>[(1,l9 g1),(2,.slice o.1 e.length o.2)]) (fun _ _ _ k=>k) (fun e o w _=>ij g1 w::R) ?_ ?_
 ·refine n8 ?_;refine bG (ι:=Nat×List TN×AC×WM×l8) (fun i=>i.1<=3/\F1.le i.2.2.2.2/\bj (xN m) (Kf.take (2*i.1)) i.2.1 i.2.2.2.1/\lK i.2.2.2.1 i.2.2.2.2.heap/\n9 i.2.2.2.2.heap i.2.2.1.1 (i.2.1.flatMap fk)/\∀t∈i.2.1,rv t i.2.2.2.2.heap) (fun i=>[(1,l9 g1),(2,.slice i.2.2.1.1 i.2.1.length i.2.2.1.2),(9,.slice a9 3 3),(10,.int .i64 3),(11,.int .i64 (i.1:Nat))]) (fun i=>i.2.2.2.2)
   (fun i=>match i with|(_,e,o,w,_)=>ij g1 w::R) (fun i=>3-i.1) (0,[],(a8,0),xN m,F1) ⟨zw _,l8.le_refl _,.nil,⟨hg.le (h6.trans X).heap,n9.nil _ _,⟨n9.nil _ _,dW.zero _⟩,Mn.le X.heap q9,⟨n9.nil _ _,n9.nil _ _⟩,n9.nil _ _⟩,n9.nil _ _,qy⟩ sub rfl (fun v c=>C6 (A:=[_]) (J:=[_]) tk c) ?_
  rintro⟨j,e,o,w,k⟩ ⟨hj,u,n,h8,d,p⟩;simp only at hj u n h8 d p;have h9:(Kf.take (2*j)).length=2*j:=by rw[z1];show min (2*j) 6=_;omega
  have x:=qE n (xu hm) (fun a h=>JP a (K9 h)) (by rw[h9];omega);rw[h9] at x;have v1:e.length=2*j:=x.2;refine R7 ?_ ?_<;>intro h
  ·have y:j<xC.length:=(by have:=qr h;show j<3;omega);have v2:j<3:=y;obtain⟨s,hs⟩:=o8 (xC[j]);have k0:iR (aL s):=JP _ (K9 (i:=2*(j+1)) (by rw[Cj y,<-hs];simp));have x2:iR aC:=JP _ (by simp[Kf]);have x3:=Ch w (aL s) cX e o.1 o.2 (zW x.1 k0 qb) qb;refine I8 0 ?_;refine S8 (fun(f:List TN) (S:AC) (T:WM) (z:l8)=>F1.le z/\bj (xN m) (Kf.take (2*(j+1))) f T/\lK T z.heap/\n9 z.heap S.1 (f.flatMap fk)/\∀t∈f,rv t z.heap) (fun f S _ _=>[(1,l9 g1),(2,.slice S.1 f.length S.2),(9,.slice a9 3 3),(10,.int .i64 3),(11,.int .i64 (j:Nat))]) (fun _ _ _ z=>z) (fun _ _ T _=>ij g1 T::R) ?_ ?_
   ·refine n8 ?_;refine C7 ?_;refine f_ (m9 rfl h7 rfl qb) ?_;refine r_ ((i8 rfl (fun v c=>cD (C:=rM) ((x1.le u.heap).le c.keep) X4 y (j:=0) rfl x4)).eq (v':=B s) (by rw[hs])) ?_;refine O3 ?_;refine f_ (y8 (ps:=[(0,.const (.int .i64 1)),(1,.tmp 18)]) (vs:=[(0,.int .i64 1),(1,B s)]) (cells:=#[.int .i64 1,B s]) rfl i6) ?_;refine f_ (y8 (ps:=[(1,.tmp 19)]) (vs:=[(1,.agg #[.int .i64 1,B s])]) (cells:=(EY (aL s) cX).toArray) rfl i6) ?_;refine A9 x3 ⟨h8,⟨n9.nil _ _,n9.nil _ _⟩,d⟩ ?_;rintro v A z D ⟨w1,t1,o1,rfl,rfl,Y,U,k8,k9⟩;refine ap ?_;have q0:=IY x.1 k0 qb U;have x9:=Ch w1 aC cX (e++[t1]) o1.1 o1.2 (zW q0 x2 qb) (by rw[zz];simp only[zx,zn];omega);refine A1 ?_;refine f_ (y8 (ps:=[(0,.const (.int .i64 1))]) (vs:=[(0,.int .i64 1)]) (cells:=(EY aC cX).toArray) rfl i6) ?_;refine A9 x9 ⟨k8,⟨n9.nil _ _,n9.nil _ _⟩,Y⟩ ?_;rintro v A F4 h0 ⟨T,t2,S,rfl,rfl,h1,q1,q3,q5⟩;refine ap ?_;exact y6 (e++[t1]++[t2],S,T,F4) ⟨(u.trans D).trans h0,by rw[Cj y,<-hs];exact .snoc (.snoc n U) q1,q3,h1,fun q M=>by
     rcases zb.1 M with M|M
     ·rcases zb.1 M with M|M
      ·exact Mn.le (D.trans h0).heap (p q M)
      ·rw[zu.1 M];exact Mn.le h0.heap k9
     ·rw[zu.1 M];exact q5⟩ rfl (fun v c=>C6 (A:=[_]) (J:=[]) tk c)
   rintro f S T z ⟨D,y0,y1,y2,y3⟩;refine A1 ?_;exact P0 (i:=(j,e,o,w,k)) (j+1,f,S,T,z) ⟨by simp only;omega,D,y0,y1,y2,y3⟩ qg sub rfl (fun v c=>c)
  ·refine w8 ?_;have z0:j=3:=(by have:=zq h;omega);subst z0;exact y6 (e,o,w,k) ⟨(h6.trans X).trans u,n,d,p⟩ rfl (fun v c=>c)
 rintro e o w k ⟨q6,n,d,p⟩;obtain⟨t1,t2,t3,r,t5,t6,O,p1,p2,p3,p4,p5⟩:=Aa hm n;have v0:e.length=6:=by rw[O];rfl
 have Q:∃ad,o.1=some ad:=q_ (i:=0) d U5 qp qb;have q2:=p t2 (by rw[O];simp);have q4:=p r (by rw[O];simp);have n2:t2.y.rl.length=1:=by rw[<-p1,q2.a5X,zh]
 have n4:r.y.rl.length=6:=by rw[<-p2,q4.a5X,zh]
 have q7:=q_ (i:=5) q4.row aK qp qb;have h5:5<r.y.rl.length:=by omega
 have h2:(r.y.rl[5]).1=r5a:=by
  have:=p3;rw[q4.a5X,zd,Zj,zj h5] at this;exact this
 obtain⟨V,h3⟩:=o8 (r.y.rl[5]);rw[<-h3] at h2;have g:n9 k.heap o.1 ([t1,t2,t3,r,t5,t6].flatMap fk):=by rw[<-O];exact d
 have z2:∀{v:World} {H:List As},Hp k v H->M0 (hp v) (N0 o.1 158) [.slice t2.y.da t2.y.rl.length t2.y.dc]:=fun c=>cD (C:=fk) (l:=[t1,t2,t3,r,t5,t6]) (i:=1) (j:=59) (g.le c.keep) U5 (by show 1<6;decide) rfl rfl;have q8:∀{v:World} {H:List As},Hp k v H->M0 (hp v) (N0 o.1 356) [.slice r.y.da r.y.rl.length r.y.dc]:=fun c=>cD (C:=fk) (l:=[t1,t2,t3,r,t5,t6]) (i:=3) (j:=59) (g.le c.keep) U5 (by show 3<6;decide) rfl rfl;have u0:∀{v:World} {H:List As},Hp k v H->M0 (hp v) (N0 o.1 576) [.bool true]:=fun c=>by
  have:=cD (C:=fk) (l:=[t1,t2,t3,r,t5,t6]) (i:=5) (j:=81) (v:=.bool t6.d.close) (q:=576) (g.le c.keep) U5 (by show 5<6;decide) rfl rfl
  rwa [p5] at this
 have h4:=q4.rep _ (zy h5);rw[<-h3] at h4;have u1:V.2.vs=[]:=by
  have:=h4.vals;rw[h2] at this;exact List.map_eq_nil_iff.1 this.symm
 have u2:Pu prog 14 [KU V.1 V.2] (fun h=>Gl h/\fG V.1 V.2 h) (.tuple #[B qM,.int .i64 0]):=by rw[h2,Ra];exact NK V.2 u1
 have u8:=hg.le q6.heap;refine A1 ?_;refine f_ ((M3 rfl rfl).eq (v':=.bool false) (jy (fun b=>Value.bool (!b)) (jk (show((e.length:Nat):Int)=6 by omega)))) ?_;refine A1 ?_;(first|refine u_ ?_|(refine v_ ?_;refine f_ (m9 rfl Q rfl qb) ?_));refine A1 ?_;(first|refine u_ ?_|(refine v_ ?_;refine r_ (i8 rfl (fun v c=>z2 c)) ?_));refine r7 ?_;(first|refine u_ ?_|(refine v_ ?_;refine f_ ((M3 rfl rfl).eq (v':=.bool false) (jy (fun b=>Value.bool (!b)) (jk (show((t2.y.rl.length:Nat):Int)=1 by omega)))) ?_));refine E7 ?_;(first|refine u_ ?_|(refine v_ ?_;refine f_ (m9 rfl Q rfl qb) ?_));refine A1 ?_;(first|refine u_ ?_|(refine v_ ?_;refine r_ (i8 rfl (fun v c=>q8 c)) ?_));refine r7 ?_;(first|refine u_ ?_|(refine v_ ?_;refine f_ ((M3 rfl rfl).eq (v':=.bool false) (jy (fun b=>Value.bool (!b)) (jk (show((r.y.rl.length:Nat):Int)=6 by omega)))) ?_));refine ap ?_;(first|refine u_ ?_|(refine v_ ?_;refine f_ ((M3 rfl rfl).eq (v':=.bool false) (jy (fun b=>Value.bool (!b)) (jk (show((w.s.a5O:Nat):Int)=3 by omega)))) ?_));refine E7 ?_;(first|refine u_ ?_|(refine v_ ?_;refine f_ (m9 rfl Q rfl qb) ?_));refine A1 ?_;(first|refine u_ ?_|(refine v_ ?_;refine r_ (i8 rfl (fun v c=>u0 c)) ?_));refine E7 ?_;refine f_ (m9 rfl Q rfl qb) ?_;refine A1 ?_;refine r_ (i8 rfl (fun v c=>q8 c)) ?_;refine f_ (m9 rfl q7 rfl qb) ?_;refine r_ ((p8 rfl (fun v c=>cQ (C:=yh) (i:=5) (q4.row.le c.keep) aK qp h5 x4) (aK _)).eq (v':=KU V.1 V.2) (by rw[h3])) ?_;refine c_ rfl u2 (fun h hh _=>⟨u8.le hh,h4.le hh⟩) rfl ?_;refine aq ?_;refine f_ ((p7 rfl rfl).eq (v':=.bool true) rfl) ?_;refine A1 ?_;(first|refine u_ ?_|(refine v_ ?_;refine f_ ((C8 rfl rfl).eq (v':=.bool true) (qn (jk rfl))) ?_));refine A1 ?_;(first|refine u_ ?_|(refine v_ ?_;refine e_ It qw ?_;rintro v A ⟨ag,rfl,rfl⟩));refine r7 ?_;(first|refine u_ ?_|(refine v_ ?_;refine f_ ((p7 rfl rfl).eq (v':=.bool true) rfl) ?_));refine L7 ?_;refine H4 (A:=[]) (v:=.bool true) q6 qh ?_;exact d_ rfl rfl _ qh (fun v c=>C6 (A:=[]) (J:=[_,_]) tk c)
theorem TX(t:TN):∀k u,(kS t.d t.y)[k]? =some u->(fk t)[59+k]? =some u:=fun k u hu=>by
 rw[<-Q2];show(kS t.d t.y++iA t.c t.k)[k]? =_;rw[jj (jn.1 hu).1];exact hu
theorem a1Z(t:TN):∀k u,(gR t.a t.ax)[k]? =some u->(fk t)[0+k]? =some u:=fun k u hu=>by
 rw[<-Q2];show(gR t.a t.ax++(gR t.b t.bx++([.int .i64 t.hk,B t.ht,.bool t.hears,.bool t.comes,.bool t.fails]++kS t.d t.y++iA t.c t.k)))[k]? =_;rw[jj (jn.1 hu).1];exact hu
theorem a15(t:TN):∀k u,(gR t.b t.bx)[k]? =some u->(fk t)[27+k]? =some u:=fun k u hu=>by
 rw[<-Q2];show(gR t.b t.bx++([.int .i64 t.hk,B t.ht,.bool t.hears,.bool t.comes,.bool t.fails]++kS t.d t.y++iA t.c t.k))[k]? =_;rw[jj (jn.1 hu).1];exact hu
abbrev JQ(g:Nat)(d:DD)(y:DL):As:=.blk g (.cells (kS d y).toArray 46)
theorem bad_cm(l:List lL)(la:Option Addr)(lc:Nat)(h5:zX l):
  Cm prog 6 [.slice la l.length lc] (Jl l la) [] (fun h v A=>v=.bool true/\A=[]):=by
 refine y5 78 func6 rfl rfl rfl ?_;rintro F R ⟨hg,X,Y⟩;refine xG ?_;refine A9 xD hg ?_;rintro v A F0 d ⟨rfl,rfl⟩;refine E7 ?_;(first|refine u_ ?_|(refine v_ ?_;refine e_ (C:=[]) (Ji l la lc) (fun h J _=>⟨(X.le d.heap).le J,fun p hp=>Mn.le J (Mn.le d.heap (Y p hp))⟩) ?_;rintro v A ⟨rfl,b,rfl,h6⟩));refine R7 ?_ ?_<;>intro h
 ·refine C7 ?_;refine A9 xD (hg.le d.heap) ?_;rintro v A F1 M ⟨rfl,rfl⟩;refine C5 ?_;refine H4 (A:=[]) (v:=.bool true) (d.trans M) qh ?_;exact d_ rfl rfl _ qh (fun v c=>c)
 obtain⟨Z,hB⟩:=h6 h;have h0:=NC h5 hB;refine r7 ?_;refine A9 (Jf l la lc Z h0) ⟨hg.le d.heap,X.le d.heap,fun p hp=>Mn.le d.heap (Y p hp)⟩ ?_;rintro v A F1 M ⟨m,f,w,O,V,rfl,rfl,x,h7,hm,Q⟩;refine r7 ?_;have g:∀a∈l.map Prod.fst,iR a:=fun a h=>by obtain⟨p,hp,rfl⟩:=jv.1 h;exact h0 p hp
 have i:(l.map Prod.fst).length<=800:=by rw[zh];omega
 have h8:=JJ Q (xu hm) g i;have h9:=EL Q (xu hm) g i;have k9:f.length<=120:=by
  have:=(qE Q (xu hm) g i).2;rw[zh] at this;omega
 refine I8 1 ?_;refine n7 (ι:=Unit) (fun _=>True) (fun _=>[]) (fun _=>R) ?_ ?_
 ·refine n8 ?_;refine o7 (ι:=Nat) (fun j=>j<=f.length) (fun j=>[(3,.slice O f.length V),(4,.int .i64 (j:Nat))]) (fun _=>R) (fun j=>f.length-j) 0 (zw _) sub (fun v c=>c) ?_;intro j hj;refine xZ ?_ ?_<;>intro h
  ·have o:j<f.length:=(by have:=qr h;omega);have S:=q_ x U5 qp o;obtain⟨t,h1⟩:=o8 (f[j]);have n:t∈f:=(by rw[h1];exact zy o);have hT:=h8 t n;have r:=h7 t n;have q0:t.y.rl.length<=300000:=(by have:=h9 t n;rw[r.a5X,zh] at this;exact this);have T:∀{v:World} {H:List As},Hp F1 v H->M0 (hp v) (N0 O (j*99)) (fk t):=fun c=>by
    have:=cQ (C:=fk) (x.le c.keep) U5 qp o (q:=j*99) rfl
    rwa [<-h1] at this
   refine I8 0 ?_;refine n7 (ι:=Unit) (fun _=>True) (fun _=>[(3,.slice O f.length V),(4,.int .i64 (j:Nat))]) (fun _=>R) ?_ ?_
   ·refine n8 ?_;refine A1 ?_;refine f_ (m9 rfl S rfl qb) ?_;refine r7 ?_;refine r_ (p8 (cs:=kS t.d t.y) rfl (fun v c=>eB (j:=59) (T c) (TX t)) rfl) ?_;refine i7 rfl ?_;intro y;refine A1 ?_;refine I8 1 ?_;obtain⟨s,z⟩:=o8 (t.d.a5X.any lM);have U:s=t.y.rl.any fun m=>lM m.1:=(by rw[z,r.a5X,List.any_map];rfl);refine x8 [(3,.slice O f.length V),(4,.int .i64 (j:Nat)),(5,l9 y),(6,.bool s)] (JQ y t.d t.y::R) ?_ ?_
    ·refine n8 ?_;refine o7 (ι:=Nat) (fun k=>k<=t.y.rl.length) (fun k=>[(3,.slice O f.length V),(4,.int .i64 (j:Nat)),(5,l9 y),(6,.bool ((t.y.rl.take k).any fun m=>lM m.1)),(7,.int .i64 (k:Nat))]) (fun _=>JQ y t.d t.y::R) (fun k=>t.y.rl.length-k) 0 (zw _) sub (fun v c=>c) ?_;intro k hk;refine OT ?_ ?_<;>intro h
     ·have e:k<t.y.rl.length:=(by have:=qr h;omega);have h2:=q_ r.row aK qp e;obtain⟨b0,h3⟩:=o8 ((t.y.rl.take k).any fun m=>lM m.1);obtain⟨b1,h4⟩:=o8 (decide ((t.y.rl[k]).1.kind=3));have k0:((t.y.rl.take (k+1)).any fun m=>lM m.1)=(b0||b1):=by
       rw[kj e,List.any_append,<-h3,h4];simp[lM]
      rw[<-h3];refine I8 0 ?_;refine x8 [(3,.slice O f.length V),(4,.int .i64 (j:Nat)),(5,l9 y),(6,.bool ((t.y.rl.take (k+1)).any fun m=>lM m.1)),(7,.int .i64 (k:Nat))] (JQ y t.d t.y::R) ?_ ?_
      ·rw[k0];refine n8 ?_
       cases b0
       all_goals (
        refine ap ?_;(first|refine u_ ?_|(refine v_ ?_;refine f_ (m9 rfl h2 rfl qb) ?_));refine r7 ?_;(first|refine u_ ?_|(refine v_ ?_;refine r_ (i8 rfl (fun w c=>cD (C:=yh) (j:=0) (r.row.le c.keep) aK e rfl x4)) ?_));(first|refine u_ ?_|(refine v_ ?_;refine f_ ((p7 rfl rfl).eb h4) ?_));refine A1 ?_)
       all_goals exact p9 sub i_
      refine E7 ?_;exact l6 (k+1) e qb sub i_
     ·have e:k=t.y.rl.length:=(by have:=zq h;omega);subst e;have e0:s=(t.y.rl.take t.y.rl.length).any (fun m=>lM m.1):=(by rw[Qj];exact U);refine w8 ?_;rw[e0];exact p9 sub i_
    refine w8 ?_;refine I8 0 ?_;refine x8 [(3,.slice O f.length V),(4,.int .i64 (j:Nat)),(77,.bool false)] R ?_ ?_
    ·cases s with
     |false=>
      refine w8 ?_;refine D2 [6,11,16,20,24,28] [] [JQ y t.d t.y] 33 ?_;refine wd [0,1,2,3,4,5,6,7,8,9,10,11] ?_;refine h_ 12 rfl i6 ?_;(first|refine u_ ?_|(refine v_ ?_;fail));refine fg [13,14,15,16,17,18,19,20,21,22,23,24,25,26,27,28,29,30,31,32] ?_;exact p9 sub (fun w c=>c.drop)
     |true=>
      obtain⟨e1,e2,e3,e4,e5⟩:=hT.bad z.symm;have k8:∀k u,(gR t.a t.bx)[k]? =some u->(fk t)[27+k]? =some u:=(by rw[<-e1];exact a15 t);have D:S5 t.a t.bx F1.heap/\n9 F1.heap t.bx.ra (T8 t.a.a5N.a5M):=(by rw[<-e1];exact⟨r.b,r.br⟩);have e6:((t.y.rl.length:Nat):Int)=1:=(by rw[r.a5X,zh] at e5;omega);refine w8 ?_;refine D2 [6,11,16,20,24,28] [] [JQ y t.d t.y] 33 ?_;refine wd [0,1,2,3] ?_;(first|refine s_ 4 ?_|refine t_ 4 ?_|refine E1 4 rfl (m9 rfl S rfl qb) rfl rfl rfl rfl rfl rfl i6 ?_);refine wd [5] ?_;(first|refine s_ 6 ?_|refine t_ 6 ?_|refine bW 6 rfl (p8 (cs:=gR t.a t.ax) rfl (fun v c=>eB (j:=0) (T c) (a1Z t)) rfl) G2 rfl rfl rfl rfl rfl rfl i6 ?_);refine wd [7,8] ?_;(first|refine s_ 9 ?_|refine t_ 9 ?_|refine E1 9 rfl (m9 rfl S rfl qb) rfl rfl rfl rfl rfl rfl i6 ?_);refine wd [10] ?_;(first|refine s_ 11 ?_|refine t_ 11 ?_|refine bW 11 rfl (p8 (cs:=gR t.a t.bx) rfl (fun v c=>eB (j:=27) (T c) k8) rfl) G2 rfl rfl rfl rfl rfl rfl i6 ?_);refine h_ 12 rfl i6 ?_;(first|refine u_ ?_|(refine v_ ?_;refine c_ rfl (QV t.a t.ax t.bx hT.le) (fun h J _=>⟨⟨Mn.le J r.a,r.ar.le J⟩,Mn.le J D.1,D.2.le J⟩) rfl ?_));refine fg [13,14,15] ?_;(first|refine s_ 16 ?_|refine t_ 16 ?_|refine A0 16 rfl O4 ((dv (l:=kS t.d t.y) (v:=.bool t.d.ask) rfl ud rfl).eq (v':=.bool false) (by rw[e2])) G2 rfl rfl rfl rfl rfl rfl i6 ?_);refine wd [17,18,19] ?_;(first|refine s_ 20 ?_|refine t_ 20 ?_|refine A0 20 rfl O4 ((dv (l:=kS t.d t.y) (v:=.bool t.d.store) rfl ud rfl).eq (v':=.bool false) (by rw[e3])) G2 rfl rfl rfl rfl rfl rfl i6 ?_);refine wd [21,22,23] ?_;(first|refine s_ 24 ?_|refine t_ 24 ?_|refine A0 24 rfl O4 ((dv (l:=kS t.d t.y) (v:=.bool t.d.close) rfl ud rfl).eq (v':=.bool false) (by rw[e4])) G2 rfl rfl rfl rfl rfl rfl i6 ?_);refine wd [25,26,27,28,29] ?_;(first|refine s_ 30 ?_|refine t_ 30 ?_|refine E1 30 rfl ((M3 rfl rfl).eq (v':=.bool false) (jy (fun b=>Value.bool (!b)) (jk e6))) rfl rfl rfl rfl rfl rfl i6 ?_);refine wd [31,32] ?_;exact p9 sub (fun w c=>c.drop)
    refine w8 ?_;exact g_ () trivial i_
   intro _ _;refine E7 ?_;exact l6 (j+1) o qb sub (fun v c=>c)
  ·refine w8 ?_;exact g_ () trivial (fun v c=>c)
 intro _ _;refine C5 ?_;refine H4 (A:=[]) (v:=.bool true) (d.trans M) qh ?_;exact d_ rfl rfl _ qh (fun v c=>c)
