import Derived.Test.YtmcepdopookilaaGreatDoorucx21
import Derived.Laws.Tables
set_option maxHeartbeats 16000000
set_option maxRecDepth 8000
set_option linter.unusedVariables false
set_option linter.unusedSimpArgs false
set_option linter.defProp false
namespace Go.Proofs.YtmcepdopookilaaGreatDoor.Rp
open Go Go.Sl Go.RowKit Go.WideShapes Go.ChangeShapes Go.Proofs.Tryz
theorem aR{P:Program}{t:TypeId}(e:P.underlying t=some (.int .u64)):xA P t (fun n:Nat=>[.int .u64 (n:Nat)]) (fun _ n=>n<=18446744073709551615) (fun _=>1):=⟨fun d w a f b c g x h=>by
 obtain⟨n,i,j,k⟩:=(gQ e).h d w a f b c g x h;have l:=QP j;refine⟨n.toNat,?_,by omega,k⟩;rw[i,Int.toNat_of_nonneg l.1]⟩
theorem QQ(l:List Bs):(l.flatMap fun f=>[B f])=fV l:=by
 induction l with
 |nil=>rfl
 |cons x r ih=>rw[Q2,ih];rfl
theorem TG:xA prog 178 (fun m:Nat×Nat=>iA m) (fun _ _=>True) (fun _=>0):=
 (eX underlying178 i6
  (C3 (k:=1) (off':=1) (aR i6) rfl i6 rfl
  (C3 (k:=1) (off':=2) (aR i6) rfl i6 rfl kN))).map
  (fun y=>((y.1,y.2.1):Nat×Nat)) (fun y=>rfl) (fun h y o=>trivial) (fun y=>zw _)
structure RqT(h:l9)(p:RQ×QL):Prop where
 rd:dB p.1 p.2 h
 num:p.1.num<18446744073709551616
 life:p.1.life<18446744073709551616
 tr:p.1.tr<18446744073709551616
theorem QR:xA prog 44 (fun p:RQ×QL=>eB p.1 p.2) (fun h p=>RqT h p) (fun _=>0):=
 (eX underlying44 i6
  (C3 (k:=1) (off':=1) (gQ (k:=.i64) i6) rfl i6 rfl
  (C3 (k:=1) (off':=2) (aR i6) rfl i6 rfl
  (C3 (k:=1) (off':=3) (aR i6) rfl i6 rfl
  (C3 (k:=1) (off':=4) (gQ (k:=.i64) i6) rfl i6 rfl
  (C3 (k:=1) (off':=5) (aR i6) rfl i6 rfl
  (C3 (k:=1) (off':=6) (aR i6) rfl i6 rfl
  (C3 (k:=1) (off':=7) (cC i6) rfl i6 rfl
  (C3 (k:=1) (off':=8) (cC i6) rfl i6 rfl
  (C3 (k:=1) (off':=9) (aR i6) rfl i6 rfl
  (C3 (k:=1) (off':=10) (sY (e:=178) i6 TG (n:=2) i6 (fun _=>rfl) qp) rfl i6 rfl
  (C3 (k:=1) (off':=11) (sY (e:=9) i6 (cC i6) (n:=1) i6 (fun _=>rfl) qp) rfl i6 rfl
  (C3 (k:=1) (off':=12) (gQ (k:=.i64) i6) rfl i6 rfl
  (C3 (k:=1) (off':=13) (xB i6) rfl i6 rfl
  (C3 (k:=1) (off':=14) (aR i6) rfl i6 rfl
  (C3 (k:=1) (off':=15) (cC i6) rfl i6 rfl
  (C3 (k:=1) (off':=16) (aR i6) rfl i6 rfl
  (C3 (k:=1) (off':=17) (aR i6) rfl i6 rfl kN)))))))))))))))))).map
  (fun y=>(⟨⟨y.1,y.2.1,y.2.2.1,y.2.2.2.1,y.2.2.2.2.1,y.2.2.2.2.2.1,y.2.2.2.2.2.2.1,y.2.2.2.2.2.2.2.1,y.2.2.2.2.2.2.2.2.1,y.2.2.2.2.2.2.2.2.2.1.2.1,y.2.2.2.2.2.2.2.2.2.2.1.2.1,y.2.2.2.2.2.2.2.2.2.2.2.1,y.2.2.2.2.2.2.2.2.2.2.2.2.1,y.2.2.2.2.2.2.2.2.2.2.2.2.2.1,y.2.2.2.2.2.2.2.2.2.2.2.2.2.2.1,y.2.2.2.2.2.2.2.2.2.2.2.2.2.2.2.1,y.2.2.2.2.2.2.2.2.2.2.2.2.2.2.2.2.1⟩,
   ⟨y.2.2.2.2.2.2.2.2.2.1.1,y.2.2.2.2.2.2.2.2.2.1.2.2,y.2.2.2.2.2.2.2.2.2.2.1.1,y.2.2.2.2.2.2.2.2.2.2.1.2.2⟩⟩:RQ×QL)) (fun y=>rfl)
  (fun h y o=>by
   obtain⟨_,_,d,_,f,g,_,_,_,a,b,_⟩:=o;have i:=a.rd;have c:=b.rd;rw[QQ] at c;exact⟨⟨i,c⟩,W2 d,W2 f,W2 g⟩)
  (fun y=>zw _)
theorem JH:xA prog 41 (fun p:Int×Bs=>[.int .i64 p.1,B p.2]) (fun _ _=>True) (fun _=>0):=
 (eX underlying41 i6
  (C3 (k:=1) (off':=1) (gQ (k:=.i64) i6) rfl i6 rfl
  (C3 (k:=1) (off':=2) (cC i6) rfl i6 rfl kN))).map
  (fun y=>((y.1,y.2.1):Int×Bs)) (fun y=>rfl) (fun h y o=>trivial) (fun y=>zw _)
structure AcT(h:l9)(p:lJ):Prop where
 rd:dB p.1.other p.2 h
 num:p.1.other.num<18446744073709551616
 life:p.1.other.life<18446744073709551616
 tr:p.1.other.tr<18446744073709551616
theorem shpAct:xA prog 70 (fun p:lJ=>Kl p) (fun h p=>AcT h p) (fun _=>0):=
 (eX underlying70 i6
  (C3 (k:=1) (off':=1) (gQ (k:=.i64) i6) rfl i6 rfl
  (C3 (k:=2) (off':=3) JH rfl i6 rfl
  (C3 (k:=1) (off':=4) (xB i6) rfl i6 rfl
  (C3 (k:=17) (off':=21) QR rfl i6 rfl kN))))).map
  (fun y=>(⟨⟨y.1,y.2.1.1,y.2.1.2,y.2.2.1,y.2.2.2.1.1⟩,y.2.2.2.1.2⟩:lJ)) (fun y=>rfl)
  (fun h y o=>by
   obtain⟨_,_,_,a,_⟩:=o;exact⟨a.rd,a.num,a.life,a.tr⟩)
  (fun y=>zw _)
theorem pu_of_cm{P:Program}{f:FuncId}{args:List Value}{a:l9->Prop}{u:Value}(h:Cm P f args a [] (fun h v A=>v=u/\A=[])):Pu P f args a u:=by
 intro w m hs n hp;have p:=h (q_ w m) [] w (by simpa using Hp.start hs n) hp;refine p.mono ?_;rintro e q ⟨v,A,r,rfl,c,⟨rfl,rfl⟩,d⟩;refine⟨_,[],rfl,qh,d.os.trans c.os,d.tape.trans c.tape,d.output.trans c.output,(fun b o g=>d.keep b o (c.heap b o g)),?_⟩;obtain⟨i,j,k,l⟩:=d.own;refine⟨i,j,k,fun b g=>?_⟩;have:=l b g
 cases he:(q_ w m).heap b with
 |none=>rfl
 |some o=>rw[c.heap _ _ he] at this;cases this
theorem acts_rd{h:l9}{a:Option Addr}{l:List lJ}{c:Nat}(hg:Gl h)(s:JG Kl AcT h a l c):JD l a h:=⟨hg,s.rd,fun p hp=>(s.each p hp).rd⟩
theorem acts_ty{h:l9}{a:Option Addr}{l:List lJ}{c:Nat}(s:JG Kl AcT h a l c):Aa l:=fun p hp=>⟨(s.each p hp).num,(s.each p hp).life,(s.each p hp).tr⟩
open Go Go.Sl Go.RowKit Go.Proofs.Tryz
def rz(g:Bs):Prop:=∃s,dU s=true/\g=cE s
abbrev goR:RR:={R0 with kind:=5,text:=[103,111,32,111,110]}
abbrev TH:Bs:=[116,111,111,32,108,111,110,103]
abbrev OH:List Bs:=[[110,111,32,116,97,103],[110,111,32,115,117,99,104,32,99,111,109,109,97,110,100],[119,114,111,110,103,32,119,111,114,100,115],[110,111,116,32,110,111,119],[116,111,111,32,98,105,103],[110,111,32,115,117,99,104,32,109,101,115,115,97,103,101]]
abbrev a1R:List (Bs×Bs):=[([82,69,65,68,45,79,78,76,89],[105,116,32,109,97,121,32,110,111,116,32,98,101]),([65,85,84,72,69,78,84,73,67,65,84,73,79,78,70,65,73,76,69,68],[119,114,111,110,103,32,112,97,115,115,119,111,114,100])]
def QS(l:List RR):Prop:=∃g,rz g/\(l=[dA g]\/l=[{R0 with kind:=6},dA g]\/l=[{R0 with kind:=7},dA g]\/l=[H7 cG,dA g]\/∃q∈a1R,l=[lW g q.1 q.2])
def a1S(l:List RR):Prop:=∃g t,(rz g\/g=[42])/\t∈OH/\l=[fh g t]
def Ac(k:Int)(s s':SE)(d':DD):Prop:=
 (d'.a5Q=[]/\(s.a5H=3\/s.a5M=true\/(k≠1/\k≠3)))\/
 ((d'.a5Q=[goR]\/d'.a5Q=[H7 TH])/\k≠1/\k≠3)\/
 ((k=1\/k=3)/\s.a5H≠3/\s.a5M=false/\(QS d'.a5Q\/a1S d'.a5Q/\s'=s/\d'={F9 with a5Q:=d'.a5Q}))
theorem xD{s f:SE}{a:DD}{k:Int}{t:Bs}(T:t.length<=1000000000)(h:cz s k t f a):(a.ask=true/\a.a5Q=[]/\rz f.cmd.tag)\/(a.ask=false/\Ac k s f a):=by
 have J:∀{q:SE} {w:DD} {c:CM} {r:RQ} {l:List Nat},(f,a)=G1 (q,w) c r l->w.a5Q=[]->rz c.tag->(a.ask=true/\a.a5Q=[]/\rz f.cmd.tag):=fun{q w c r l} h O hg=>by
  unfold G1 at h;split at h<;>(injection h with e1 e2;subst e1 e2;exact⟨rfl,O,hg⟩)
 have d:∀{g x:Bs},(f,a)=V2 (s,F9) (fh g x)->(rz g\/g=[42])->x∈OH->(k=1\/k=3)->s.a5H≠3->s.a5M=false->a.ask=false/\Ac k s f a:=fun{g x} h hg U y Q p=>by
  injection h with A n;subst A n;exact⟨rfl,.inr (.inr ⟨y,Q,p,.inr ⟨⟨g,x,hg,U,rfl⟩,rfl,rfl⟩⟩)⟩
 have M:∀{q:SE} {l:List RR} {b:Bool},(f,a)=(q,{F9 with a5Q:=l,close:=b})->QS l->(k=1\/k=3)->s.a5H≠3->s.a5M=false->a.ask=false/\Ac k s f a:=fun{q l b} h S y Q p=>by
  injection h with A n;rw[n];exact⟨rfl,.inr (.inr ⟨y,Q,p,.inl S⟩)⟩
 unfold cz at h;split at h
 ·injection h with A n;rw[n];exact .inr ⟨rfl,.inr (.inl ⟨.inl rfl,by omega,by omega⟩)⟩
 split at h
 ·rename_i v;injection h with A n;rw[n];exact .inr ⟨rfl,.inl ⟨rfl,v.imp id .inl⟩⟩
 rename_i v;have i:s.a5H≠3:=fun e=>v (.inl e);have p:s.a5M=false:=by cases e:s.a5M;rfl;exact absurd (.inr e) v
 split at h
 ·unfold Gg at h;injection h with A n;rw[n];exact .inr ⟨rfl,.inr (.inl ⟨.inr rfl,by omega,by omega⟩)⟩
 split at h
 ·rename_i y;obtain⟨c,e,hp,h⟩:=h;have j:=kD T hp;refine .inr (d h ?_ qp (.inr y) i p);unfold tJ;split
  ·exact .inr rfl
  ·rename_i hc;by_cases u:e=11
   ·rw[j.no u] at hc;exact absurd rfl hc
   ·exact .inl ⟨t,(j.tag u).2,(j.tag u).1⟩
 split at h
 ·rename_i y;have m:k=1\/k=3:=.inl y;obtain⟨c,e,hp,h⟩:=h;have j:=kD T hp;have C:e≠11->rz c.tag:=fun h=>⟨t,(j.tag h).2,(j.tag h).1⟩;rcases h with⟨_,h⟩|⟨u,h⟩|⟨u,h⟩|⟨u,h⟩
  ·exact .inr (d h (.inr rfl) qp m i p)
  ·exact .inr (d h (.inl (C (by rw[u];decide))) qp m i p)
  ·exact .inr (d h (.inl (C (by rw[u];decide))) qp m i p)
  have hg:rz c.tag:=C (by rw[u];decide);rcases h with⟨_,h⟩|⟨A,n,h⟩
  ·exact .inr (d h (.inl hg) qp m i p)
  have o:∀{q:SE} {w:DD} {r:RQ} {l:List Nat},(f,a)=G1 (q,w) c r l->w.a5Q=[]->(a.ask=true/\a.a5Q=[]/\rz f.cmd.tag)\/(a.ask=false/\Ac k s f a):=fun{q w r l} h O=>.inl (J h O hg);have D:∀{q:SE} {l:List RR} {b:Bool},(f,a)=(q,{F9 with a5Q:=l,close:=b})->QS l->(a.ask=true/\a.a5Q=[]/\rz f.cmd.tag)\/(a.ask=false/\Ac k s f a):=fun{q l b} h S=>.inr (M h S m i p);unfold PZ at h;split at h
  ·exact o h rfl
  split at h
  ·rcases h with⟨r,V,h⟩|⟨l,r,_,_,h⟩
   ·rcases V with rfl|rfl
    ·exact D (b:=false) h ⟨c.tag,hg,.inr (.inr (.inr (.inr ⟨_,.head _,rfl⟩)))⟩
    ·exact .inr (d h (.inl hg) qp m i p)
   ·exact o h rfl
  ·unfold Od at h;by_cases k1:c.kind=1
   ·rw[zu k1] at h;exact D (b:=false) h ⟨c.tag,hg,.inr (.inl rfl)⟩
   rw[zk k1] at h;by_cases k2:c.kind=2
   ·rw[zu k2] at h;by_cases z:s.a5H=0
    ·rw[zu z] at h;exact D (b:=false) h ⟨c.tag,hg,.inl rfl⟩
    ·rw[zk z] at h;exact o h rfl
   rw[zk k2] at h;by_cases k3:c.kind=3
   ·rw[zu k3] at h;by_cases z:s.a5H=0
    ·rw[zu z] at h;exact D (b:=true) h ⟨c.tag,hg,.inr (.inr (.inr (.inl rfl)))⟩
    ·rw[zk z] at h;exact o h rfl
   rw[zk k3] at h;by_cases k4:c.kind=4
   ·rw[zu k4] at h;by_cases z:s.ro=true
    ·rw[zu z] at h;exact o h rfl
    ·rw[zk z] at h;exact o h rfl
   rw[zk k4] at h;by_cases k5:c.kind=5
   ·rw[zu k5] at h;by_cases z:s.ro=true
    ·rw[zu z] at h;exact D (b:=false) h ⟨c.tag,hg,.inr (.inr (.inr (.inr ⟨_,.head _,rfl⟩)))⟩
    ·rw[zk z] at h;exact o h rfl
   rw[zk k5] at h;by_cases k6:c.kind=6
   ·rw[zu k6] at h;exact D (b:=false) h ⟨c.tag,hg,.inr (.inr (.inl rfl))⟩
   rw[zk k6] at h;by_cases k7:c.kind=7
   ·rw[zu k7] at h;by_cases z:c.pass=[104,111,114,110]
    ·rw[zu z] at h;exact o h rfl
    ·rw[zk z] at h;exact D (b:=false) h ⟨c.tag,hg,.inr (.inr (.inr (.inr ⟨_,.tail _ (.head _),rfl⟩)))⟩
   rw[zk k7] at h;by_cases k9:c.kind<=9
   ·rw[zu k9] at h;exact o h rfl
   rw[zk k9] at h;by_cases k10:c.kind=10
   ·rw[zu k10] at h;exact o h rfl
   rw[zk k10] at h;by_cases k11:c.kind=11
   ·rw[zu k11] at h;exact o h rfl
   rw[zk k11] at h;by_cases k13:c.kind<=13\/c.kind=15
   ·rw[zu k13] at h;exact o h rfl
   ·exfalso;have:=j.kind u;omega
 ·rename_i m X Y Z;injection h with A n;rw[n];exact .inr ⟨rfl,.inl ⟨rfl,.inr (.inr ⟨by assumption,by assumption⟩)⟩⟩
theorem JI{x:AN}{s d:SE}{r:RR}{l:List RR}(h:L6 x s r d l):l.length<=100000:=by
 have a:([]:List RR).length<=100000:=zw _;unfold L6 at h;split at h
 ·rw[h.2.2];exact a
 split at h
 ·rw[h.2.2];exact a
 split at h
 ·rcases h with⟨_,_,_,e⟩|⟨b,_,_,_,e⟩<;>rw[e]
  ·exact a
  ·show 5<=100000;decide
 split at h
 ·have:=h.2.2.1;omega
 split at h
 ·rcases h with⟨_,⟨_,e⟩|⟨_,g,f,e,_⟩⟩<;>rw[e]
  ·exact a
  ·show 1<=100000;decide
 split at h
 ·obtain⟨_,_,c,m,e⟩:=h;rw[e];show 1<=100000;decide
 split at h
 ·exact h.1
 split at h
 ·exact h.1
 ·rw[h.2.2];exact a
theorem NH{x:AN}{s i:SE}{g:DD}(h:fm x s i g)(j:U4 x.m.s)(k:s.a5G.a5F.length<=50000):g.a5Q.length<=300000:=by
 unfold fm at h;split at h
 ·rw[h.2];show 1<=300000;decide
 split at h
 ·rw[h.2];show 2<=300000;decide
 obtain⟨r,s1,c,l,d,a,e,f⟩:=h;have b:(qB x s).a5G.a5F.length<=50000:=by unfold qB;split;exact zw _;exact k
 have k1:c.length<=100000/\s1.a5G.a5F.length<=50000:=by
  split at a
  ·exact⟨JI a,lG a j b⟩
  ·rw[a.1,a.2.1];exact⟨zw _,b⟩
 have k2:d.length<=100001:=by
  split at e
  ·have:=sT s1.a5G x.bx.x (!fe x) s1.cond;rw[e.2];omega
  ·rw[e.2];exact zw _
 split at f
 ·rw[f.2];show(c++d++[r,H7 bH]).length<=_;simp only[zz,zy,z6];omega
 ·rw[f.2];show(c++d++[r]).length<=_;simp only[zz,zy,z6];omega
theorem Ck{s c:SE}{st:ML}{o:OC}{bl:BL}{b:DD}(d:U4 st)(f:s.a5G.a5F.length<=50000)(h:ew s st o bl c b):b.a5Q.length<=300000:=by
 unfold ew at h;split at h
 ·rw[h.2];exact zw _
 rcases h with⟨w,_,_,_,e⟩|⟨x,_,a,_,_,_,_,h⟩
 ·rw[e];exact zw _
 ·exact NH h (by rw[a];exact d) f
theorem NI{k:Int}{s b:SE}{a:DD}(h:Ac k s b a):a.a5Q.length<=2:=by
 rcases h with⟨e,_⟩|⟨e|e,_⟩|⟨_,_,_,⟨g,_,e|e|e|e|⟨q,_,e⟩⟩|⟨⟨g,t,_,_,e⟩,_⟩⟩<;>rw[e]<;>simp only[zy,z6]<;>omega
theorem JJ(s:SE):(S4 s).2.a5Q.length<=2:=by
 unfold S4;split
 ·exact zw _
 split
 ·show 2<=2;decide
 ·show 1<=2;decide
theorem JK{n:Nat}{w w':WM}{a:AX}{t:TN}(d:Jf n w)(k:n<=800)(ha:iR a)(hs:kK w a w' t):t.d.a5Q.length<=300000:=by
 rcases hs with⟨_,_,_,rfl⟩|⟨l,c,b,_,_,_⟩
 ·exact zw _
 have g:w.s.a5G.a5F.length<=50000:=by have:=d.se.a5F;omega
 have i:=(ez d.ml w.q d.q.ok.num d.q.op).1.ok;unfold cA at b;split at b
 ·rcases xD ha.text b.1 with⟨_,e,_⟩|⟨_,h⟩
  ·rw[e];exact zw _
  ·have:=NI h;omega
 split at b
 ·obtain⟨_,⟨s1,m,j,f⟩,_⟩:=b;split at f
  ·rw[f.2];exact Ck i g j
  ·exact Ck i g f
 split at b
 ·have e:t.d=(S4 w.s).2:=by rw[<-b.1]
  have:=JJ w.s;rw[e];omega
 ·rw[b.2.1];exact zw _
theorem EO{w0 w:WM}{l:List AX}{c:List TN}(h:bn w0 l c w)(e:Jf 0 w0)(ha:∀a∈l,iR a)(hl:l.length<=800):∀t∈c,t.d.a5Q.length<=300000:=by
 induction h with
 |nil=>exact fun _ h=>(by cases h)
 |snoc hp hs ih=>
  rename_i l c w g a t;have f:l.length+1<=800:=by simpa using hl
  have d:=(qI hp e (fun a h=>ha a (Kb _ h)) qb).1;intro q b;rcases zc.1 b with b|b
  ·exact ih (fun a h=>ha a (Kb _ h)) qb q b
  ·rw[zg.1 b];exact JK d qb (ha _ (K2 _ (zg.2 rfl))) hs
def cJ(k n:Nat)(r:RR):Option Nat:=
 if r.kind=9 then(if r.n<1\/n<r.n\/k=16\/k=17\/k=15 then none else some (n-1))
 else if r.kind=8 then(if r.n<n\/1000000<r.n then none else some r.n)
 else if r.kind=14 then(if r.n<1\/n<r.n then none else some n)
 else some n
def P7(k:Nat):Nat->List RR->Option Nat
 |n,[]=>some n
 |n,r::l=>(cJ k n r).bind fun n=>P7 k n l
theorem Cl{k n m:Nat}{r:RR}(h:cJ k n r=some m)(a:n<=1000000):m<=1000000:=by
 unfold cJ at h;split at h
 ·split at h
  ·cases h
  ·injection h with h;omega
 split at h
 ·split at h
  ·cases h
  ·injection h with h;omega
 split at h
 ·split at h
  ·cases h
  ·injection h with h;omega
 ·injection h with h;omega
theorem bq(k:Nat)(a b:List RR):∀n,P7 k n (a++b)=(P7 k n a).bind fun n=>P7 k n b:=by
 induction a with
 |nil=>intro n;rfl
 |cons x xs ih=>
  intro n;simp only[Qc,P7]
  cases cJ k n x with
  |none=>rfl
  |some m=>exact ih m
theorem EP{k a n:Nat}{l:List RR}{i:Nat}(d:i<l.length)(f:P7 k a (l.take i)=some n)(b:∃e,P7 k a l=some e):∃m,cJ k n l[i]=some m/\P7 k a (l.take (i+1))=some m:=by
 obtain⟨e,b⟩:=b;have g:P7 k a (l.take (i+1))=cJ k n l[i]:=by
  rw[kw d,bq,f];simp only[zb,P7]
  cases cJ k n l[i]<;>rfl
 have c:(P7 k a (l.take (i+1))).bind (fun n=>P7 k n (l.drop (i+1)))=some e:=by rw[<-bq,jn];exact b
 rw[g] at c⊢
 cases hc:cJ k n l[i] with
 |none=>rw[hc] at c;cases c
 |some m=>exact⟨m,rfl,rfl⟩
def lK(r:RR):Prop:=r.kind≠9/\r.kind≠8/\r.kind≠14
theorem NJ{k n:Nat}{r:RR}(h:lK r):cJ k n r=some n:=by
 unfold cJ;rw[zk h.1,zk h.2.1,zk h.2.2]
theorem aS{k n:Nat}:∀{l:List RR},(∀q∈l,lK q)->P7 k n l=some n
 |[],_=>rfl
 |r::l,h=>by
  simp only[P7];rw[NJ (h r (.head _))];exact aS fun q hq=>h q (.tail _ hq)
theorem uO{k n:Nat}:∀{l:List RR},(∀q∈l,q.kind=14/\1<=q.n/\q.n<=n)->P7 k n l=some n
 |[],_=>rfl
 |r::l,h=>by
  obtain⟨a,c,d⟩:=h r (.head _);simp only[P7];have:cJ k n r=some n:=by
   unfold cJ;rw[zk qb,zk qb,zu a,zk qb]
  rw[this];exact uO fun q b=>h q (.tail _ b)
theorem qL(k:Nat)(c:¬(k=16\/k=17\/k=15))(b:BX):∀(i:Nat) (a:List (Nat×Nat)),i<=a.length->P7 k a.length (V1 b i a).2=some (V1 b i a).1.length
 |0,a,_=>rfl
 |i+1,a,h=>by
  unfold V1;split
  ·exact qL k c b i a qb
  ·have hl:(a.eraseIdx i).length=a.length-1:=(by rw[J9,zu qb]);have d:=qL k c b i (a.eraseIdx i) qb;rw[hl] at d;simp only[P7];have:cJ k a.length {R0 with kind:=9,n:=i+1}=some (a.length-1):=by
    unfold cJ;rw[zu rfl,zk];rintro(e|e|e)
    ·exact absurd e (by show¬(i+1<1);omega)
    ·exact absurd e (by show¬(a.length<i+1);omega)
    ·exact c e
   rw[this];exact d
theorem JL(k:Nat)(v:VW)(b:BX)(e c:Bool)(hv:v.a5F.length<=50000)(p:b.lts.length<=50000)(f:e=true->¬(k=16\/k=17\/k=15)):P7 k v.a5F.length (T7 v b e c).2=some (T7 v b e c).1.a5F.length:=by
 unfold T7;split
 ·rfl
 simp only;generalize hq:(if e=true then V1 b v.a5F.length v.a5F else(v.a5F,[]))=q;have g:P7 k v.a5F.length q.2=some q.1.length:=by
  rw[<-hq];split
  ·rename_i h;exact qL k (f h) b _ _ (zr _)
  ·rfl
 generalize hn:((b.lts.filter fun x=>decide (L4 q.1<x.uid)).map fun x=>(x.uid,x.mod))=new;have i:q.1.length<=v.a5F.length:=by
  rw[<-hq];split
  ·exact(fW b _ _).1
  ·exact zr _
 have j:new.length<=b.lts.length:=by rw[<-hn,zm];exact Qb _ _
 rw[bq,bq,g];simp only[zb];have l:(P7 k q.1.length (if new=[] then[] else[{R0 with kind:=8,n:=q.1.length+new.length}]))=some (q.1.length+new.length):=by
  split
  ·rename_i m;rw[m];rfl
  ·simp only[P7];have:cJ k q.1.length {R0 with kind:=8,n:=q.1.length+new.length}=some (q.1.length+new.length):=by
    unfold cJ;rw[zk (by show¬(8:Int)=9;decide),zu rfl,zk (by show¬(q.1.length+new.length<q.1.length\/1000000<q.1.length+new.length);omega)]
   rw[this];rfl
 rw[l];simp only[zb,zz,zm];refine uO fun r o=>?_;obtain⟨z,hz,a⟩:=List.mem_filterMap.1 o;obtain⟨x,_,rfl⟩:=kg.1 a;have s:z.2<q.1.length:=by
  have:=List.mem_zipIdx hz;have d:=this.2.1;simp only[zm,ju] at d;exact d
 exact⟨rfl,by show 1<=z.2+1;omega,by show z.2+1<=_;omega⟩
def kO(n:Nat)(t:TN):Nat:=if t.comes=true/\t.fails=false/\(t.c.kind=8\/t.c.kind=9\/t.c.kind=4) then 0 else n
def lL(n:Nat)(t:TN):Option Nat:=(P7 t.c.kind (kO n t) t.d.a5Q).bind fun m=>if t.b.a5H=2/\m≠t.b.a5G.a5F.length then none else some m
def gT:Nat->List TN->Option Nat
 |n,[]=>some n
 |n,t::ts=>(lL n t).bind fun n=>gT n ts
theorem sZ(a:List TN)(t:TN):∀n,gT n (a++[t])=(gT n a).bind fun n=>lL n t:=by
 induction a with
 |nil=>intro n;simp[gT]
 |cons x xs ih=>
  intro n;simp only[Qc,gT]
  cases lL n x with
  |none=>rfl
  |some l=>simp only[zb];exact ih l
theorem JM{n m:Nat}{t:TN}(h:lL n t=some m):P7 t.c.kind (kO n t) t.d.a5Q=some m/\(t.b.a5H=2->m=t.b.a5G.a5F.length):=by
 unfold lL at h;obtain⟨q,b,a⟩:=zp.1 h;split at a
 ·cases a
 ·rename_i hc;injection a with a;subst a;exact⟨b,fun e=>Wr fun c=>hc ⟨e,c⟩⟩
theorem uP{k:Nat}:∀{l:List RR} {n m:Nat},P7 k n l=some m->n<=1000000->m<=1000000
 |[],n,m,h,hn=>by injection h with h;omega
 |r::l,n,m,h,hn=>by
  simp only[P7] at h;obtain⟨q,a,b⟩:=zp.1 h;exact uP b (Cl a hn)
theorem EQ{c:List TN}{d n:Nat}{i:Nat}(j:i<c.length)(l:gT d (c.take i)=some n)(f:∃e,gT d c=some e):∃m,lL n c[i]=some m/\gT d (c.take (i+1))=some m:=by
 obtain⟨e,f⟩:=f;have h:gT d (c.take (i+1))=lL n c[i]:=by rw[kw j,sZ,l];rfl
 have o:∀(b a:List TN) (n:Nat),gT n (a++b)=(gT n a).bind fun n=>gT n b:=fun b a=>by
  induction a with
  |nil=>intro n;simp[gT]
  |cons x xs ih=>
   intro n;simp only[Qc,gT]
   cases lL n x with
   |none=>rfl
   |some k=>simp only[zb];exact ih k
 have g:=o (c.drop (i+1)) (c.take (i+1)) d;rw[jn,f,h] at g
 cases hc:lL n c[i] with
 |none=>rw[hc] at g;cases g
 |some m=>exact⟨m,rfl,by rw[h,hc]⟩
structure ER(w:WM)(n:Nat):Prop where
 a5F:w.s.a5H=2->n=w.s.a5G.a5F.length
 st:w.s.a5M=true->(w.s.cmd.kind=4\/w.s.cmd.kind=5\/15<=w.s.cmd.kind)->w.s.a5H=2
 us:w.s.a5M=true->∀u∈w.s.a5I,0<X6 w.s.a5G u
theorem NK{k:Int}{s d:SE}{b:DD}(h:Ac k s d b):∀q∈b.a5Q,lK q:=by
 have c:∀{q:RR},q.kind<=7->lK q:=fun h=>⟨by omega,by omega,by omega⟩;rcases h with⟨e,_⟩|⟨e|e,_⟩|⟨_,_,_,⟨g,_,e|e|e|e|⟨q,_,e⟩⟩|⟨⟨g,t,_,_,e⟩,_⟩⟩<;>rw[e]<;>intro q a<;>simp only[ky,Kr,Yj] at a;all_goals first
  |(subst a;exact c (Int.le_of_sub_nonneg (by show(0:Int)<=_;exact Int.natCast_nonneg _)))
  |(rcases a with rfl|rfl<;>exact c (Int.le_of_sub_nonneg (by show(0:Int)<=_;exact Int.natCast_nonneg _)))
theorem JN{x:AN}{s o:SE}{r:RR}{l:List RR}{n:Nat}(h:L6 (uT x) s r o l)(y:x.c.kind=16\/x.c.kind=17->s.a5H=2)(p:s.a5H=2->n=s.a5G.a5F.length)(D:x.c.kind=16->∀u∈x.us,0<X6 s.a5G u)(J:x.c.kind=8\/x.c.kind=9->n=0)(X:U4 x.m.s):
  lK r/\∃m,P7 x.c.kind n l=some m/\(o.a5H=2->m=o.a5G.a5F.length):=by
 have hz:lK (uT x).r:=⟨by show¬(1:Int)=9;decide,by show¬(1:Int)=8;decide,by show¬(1:Int)=14;decide⟩;have f:∀g c t,lK (lW g c t):=fun g c t=>⟨by show¬(2:Int)=9;decide,by show¬(2:Int)=8;decide,by show¬(2:Int)=14;decide⟩;have i:∀c,lK {(uT x).r with code:=c}:=fun c=>hz;have a:∃m,P7 x.c.kind n []=some m/\(s.a5H=2->m=s.a5G.a5F.length):=⟨n,rfl,p⟩;have U:∀M,s.a5H=2->(∀u∈M,0<X6 s.a5G u)->qt (uT x) s M r o l->lK r/\∃m,P7 x.c.kind n l=some m/\(o.a5H=2->m=o.a5G.a5F.length):=fun M d hu h=>by
  obtain⟨_,⟨v',rfl,Y⟩,Z,hl⟩:=h;refine⟨?_,n,uO fun q j=>?_,fun _=>?_⟩
  ·rcases Z with⟨c,rfl⟩|rfl
   ·exact i c
   ·exact f _ _ _
  ·obtain⟨u,O,vs,rfl,_⟩:=hl q j;have v:0<X6 s.a5G u:=O.elim (hu u) id;have h3:=QG s.a5G u;have h4:=p d;exact⟨rfl,by show 1<=X6 s.a5G u;omega,by show X6 s.a5G u<=n;omega⟩
  ·rw[p d];exact Y.len.symm
 unfold L6 at h;split at h
 ·rw[h.1,h.2.1,h.2.2];exact⟨hz,n,rfl,fun h=>absurd h (by show¬(1:Nat)=2;decide)⟩
 split at h
 ·rw[h.1,h.2.1,h.2.2];exact⟨i _,a⟩
 split at h
 ·rcases h with⟨_,z,A,k⟩|⟨b,Q,z,A,k⟩
  ·rw[z,A,k];exact⟨f _ _ _,a⟩
  ·rw[z,A,k];rename_i S;have h0:n=0:=J S;rw[h0];refine⟨i _,b.lts.length,?_,fun _=>?_⟩
   ·unfold OA;simp only[P7];have z:cJ x.c.kind 0 qA=some 0:=rfl;have A:cJ x.c.kind 0 (gK b.lts.length)=some b.lts.length:=by
     unfold cJ;rw[zk (by show¬(8:Int)=9;decide),zu rfl,zk (by show¬(b.lts.length<0\/1000000<b.lts.length);have:=(X.box b (aE Q)).lts;omega)]
    have k:∀w m,cJ x.c.kind b.lts.length (Fe w m)=some b.lts.length:=fun w m=>rfl;rw[z,zb,A,zb,k,zb,k,zb,k,zb]
   ·show b.lts.length=(b.lts.map fun x=>(x.uid,x.mod)).length;rw[zm]
 split at h
 ·rw[h.1,h.2.1];refine⟨hz,n,aS fun q j=>?_,p⟩;obtain⟨b,_,rfl⟩:=h.2.2.2 q j;exact⟨by show¬(11:Int)=9;decide,by show¬(11:Int)=8;decide,by show¬(11:Int)=14;decide⟩
 split at h
 ·rcases h with⟨e,⟨v,d⟩|⟨v,vs,h5,d,_⟩⟩
  ·rw[e,v,d];exact⟨f _ _ _,a⟩
  ·rw[e,v,d];refine⟨hz,n,aS fun q j=>?_,p⟩;rw[zg.1 j];exact⟨by show¬(12:Int)=9;decide,by show¬(12:Int)=8;decide,by show¬(12:Int)=14;decide⟩
 split at h
 ·obtain⟨e,v,V,m,d⟩:=h;rw[e,v,d];refine⟨hz,n,aS fun q j=>?_,p⟩;rw[zg.1 j];exact⟨by show¬(13:Int)=9;decide,by show¬(13:Int)=8;decide,by show¬(13:Int)=14;decide⟩
 split at h
 ·rename_i C;exact U _ (y (.inl C)) (D C) h
 split at h
 ·rename_i T;exact U _ (y (.inr T)) qy h
 ·rw[h.1,h.2.1,h.2.2];exact⟨hz,a⟩
theorem Ad{x:AN}{s a:SE}{r:RR}{l:List RR}(h:L6 x s r a l):a.a5M=s.a5M:=by
 have c:∀d,qt x s d r a l->a.a5M=s.a5M:=fun d h=>by
  obtain⟨_,⟨f,rfl,_⟩,_⟩:=h;rfl
 unfold L6 at h;split at h
 ·rw[h.1]
 split at h
 ·rw[h.1]
 split at h
 ·rcases h with⟨_,e,_⟩|⟨b,_,e,_⟩<;>rw[e]
 split at h
 ·rw[h.1]
 split at h
 ·rw[h.1]
 split at h
 ·rw[h.1]
 split at h
 ·exact c _ h
 split at h
 ·exact c _ h
 ·rw[h.1]
theorem NL{x:AN}{s D:SE}{d':DD}{n:Nat}(h:fm x s D d')(M:s.a5M=false)(O:(x.c.kind=4\/x.c.kind=5\/15<=x.c.kind)->s.a5H=2)(hn:s.a5H=2->n=s.a5G.a5F.length)(Q:∀u∈x.us,0<X6 s.a5G u)(hm:U4 x.m.s)(J:s.a5G.a5F.length<=50000)(S:x.bx.x.lts.length<=50000):
  (∃m,P7 x.c.kind (if x.c.kind=8\/x.c.kind=9\/x.c.kind=4 then 0 else n) d'.a5Q=some m/\(D.a5H=2->m=D.a5G.a5F.length))/\D.a5M=false:=by
 have a:∀t:Bs,lK (H7 t):=fun t=>⟨by show¬(4:Int)=9;decide,by show¬(4:Int)=8;decide,by show¬(4:Int)=14;decide⟩;have T:∀t:Bs,lK (dA t):=fun t=>⟨by show¬(1:Int)=9;decide,by show¬(1:Int)=8;decide,by show¬(1:Int)=14;decide⟩;have U:∀g c t,lK (lW g c t):=fun g c t=>⟨by show¬(2:Int)=9;decide,by show¬(2:Int)=8;decide,by show¬(2:Int)=14;decide⟩;unfold fm at h;split at h
 ·rw[h.1,h.2];exact⟨⟨_,aS fun q d=>by rw[zg.1 d];exact a _,fun h=>absurd h (by show¬(3:Nat)=2;decide)⟩,M⟩
 split at h
 ·rw[h.1,h.2];refine⟨⟨_,aS fun q d=>?_,fun h=>absurd h (by show¬(3:Nat)=2;decide)⟩,M⟩;simp only[ky,Kr,Yj] at d;rcases d with rfl|rfl
  ·exact a _
  ·exact T _
 obtain⟨r,s1,V,X,Y,j,k,l⟩:=h;obtain⟨i,f⟩:=o7 (if x.c.kind=8\/x.c.kind=9\/x.c.kind=4 then 0 else n);rw[<-f];have o:(qB x s).a5M=false:=by unfold qB;split<;>exact M
 have p:(qB x s).a5H=2->i=(qB x s).a5G.a5F.length:=fun h=>by
  unfold qB at h⊢;split at h
  ·cases h
  ·rename_i b;rw[zk b];have:¬(x.c.kind=8\/x.c.kind=9\/x.c.kind=4):=fun e=>b (by unfold sS;rcases e with e|e|e<;>rw[e]<;>rfl);rw[f,zk this];exact hn h
 have b:¬(x.c.kind=8\/x.c.kind=9\/x.c.kind=4)->qB x s=s:=fun e=>by
  unfold qB;rw[zk];unfold sS;intro h;simp only[Q7,jy] at h;exact e qb
 have v:(qB x s).a5G.a5F.length<=50000:=by unfold qB;split;exact zw _;exact J
 have k1:lK r/\(∃m,P7 x.c.kind i V=some m/\(s1.a5H=2->m=s1.a5G.a5F.length))/\s1.a5M=false/\s1.a5G.a5F.length<=50000:=by
  split at j
  ·have ht:=JN (n:=i) j (fun h=>by rw[b qb];exact O qb) p (fun h u hu=>by rw[b qb];exact Q u hu) (fun h=>by rw[f,zu qb]) hm;exact⟨ht.1,ht.2,by rw[Ad j,o],lG j hm v⟩
  ·obtain⟨e1,e2,e3⟩:=j;rw[e1,e2,e3];exact⟨U _ _ _,⟨i,rfl,p⟩,o,v⟩
 obtain⟨J,⟨m1,w,y⟩,z,Z⟩:=k1;have k2:(∃m,P7 x.c.kind m1 Y=some m/\(X.a5H=2->m=X.a5G.a5F.length))/\X.a5M=false:=by
  split at k
  ·rename_i hc;rw[k.1,k.2,y hc.1];refine⟨⟨_,JL x.c.kind s1.a5G x.bx.x (!fe x) s1.cond Z S (fun h e=>?_),fun _=>rfl⟩,z⟩;unfold fe at h;rcases e with e|e|e<;>rw[e] at h<;>cases h
  ·rw[k.1,k.2];exact⟨⟨m1,rfl,y⟩,z⟩
 obtain⟨⟨m2,A,h0⟩,C⟩:=k2;split at l
 ·rw[l.1,l.2];refine⟨⟨m2,?_,fun h=>absurd h (by show¬(3:Nat)=2;decide)⟩,C⟩;show P7 x.c.kind i (V++Y++[r,H7 bH])=_;rw[bq,bq,w,zb,A,zb];refine aS fun q d=>?_;simp only[ky,Kr,Yj] at d;rcases d with rfl|rfl
  ·exact J
  ·exact a _
 ·rw[l.1,l.2];refine⟨⟨m2,?_,h0⟩,C⟩;show P7 x.c.kind i (V++Y++[r])=_;rw[bq,bq,w,zb,A,zb];exact aS fun q d=>by rw[zg.1 d];exact J
theorem bR{n m:Nat}{t:TN}(h:P7 t.c.kind (kO n t) t.d.a5Q=some m)(a:t.b.a5H=2->m=t.b.a5G.a5F.length):lL n t=some m:=by
 unfold lL;rw[h,zb,zk];rintro⟨b,c⟩;exact c (a b)
theorem nN{n:Nat}{t:TN}(h:t.comes=false\/t.fails=true):kO n t=n:=by
 unfold kO;rw[zk];rintro⟨a,b,_⟩;rcases h with h|h
 ·rw[h] at a;cases a
 ·rw[h] at b;cases b
theorem JO{n:Nat}{w w':WM}{a:AX}{t:TN}{c0:Nat}(M:Jf n w)(h5:n<=800)(ha:iR a)(f:ER w c0)(hs:kK w a w' t):∃m,lL c0 t=some m/\ER w' m:=by
 rcases hs with⟨_,y,rfl,rfl⟩|⟨w1,c,s,ht,hv,d⟩
 ·exact⟨c0,bR (by rw[nN (.inl rfl)];rfl) f.a5F,f⟩
 obtain⟨h6,h4,_,z⟩:=ht;unfold cA at s;split at s
 ·obtain⟨u,_,_,A,j,_,_⟩:=s;have X:=xD ha.text u;have hh:=zY ha.text M.se.box u;have g:P7 t.c.kind (kO c0 t) t.d.a5Q=some c0:=by
   rw[nN (.inl j)];rcases X with⟨_,e,_⟩|⟨_,h⟩
   ·rw[e];rfl
   ·exact aS (NK h)
  rcases hh with⟨_,_,_,_,_,e|⟨e,k⟩|e⟩|⟨c,l,r,b,y⟩
  ·refine⟨c0,bR g (by rw[e];exact f.a5F),⟨by rw[d.s,e];exact f.a5F,by rw[d.s,e];exact f.st,by rw[d.s,e];exact f.us⟩⟩
  ·refine⟨c0,bR g (by rw[e];intro h;cases h),⟨(by rw[d.s,e];intro h;cases h),?_,?_⟩⟩
   ·rw[d.s,e];intro h;have h:w.s.a5M=true:=h;rw[k] at h;cases h
   ·rw[d.s,e];intro h;have h:w.s.a5M=true:=h;rw[k] at h;cases h
  ·refine⟨c0,bR g (by rw[e];exact f.a5F),⟨by rw[d.s,e];exact f.a5F,by rw[d.s,e];exact f.st,by rw[d.s,e];exact f.us⟩⟩
  ·refine⟨c0,bR g (by rw[y.s'];exact f.a5F),⟨by rw[d.s,y.s'];exact f.a5F,?_,by rw[d.s,y.s'];exact fun _=>y.us⟩⟩;rw[d.s,y.s'];intro _ V;have V:c.kind=4\/c.kind=5\/15<=c.kind:=V;have hf:=y.from_;show w.s.a5H=2;have e:M_ c.kind=(2,2):=by
    unfold M_;rw[zk qb,zu V]
   rw[e] at hf;simp only at hf;omega
 split at s
 ·obtain⟨k,⟨s1,d1,u,Y⟩,_,_,A,j,C,_⟩:=s;have O:=(ez M.ml w.q M.q.ok.num M.q.op).1.ok;have Q:∀bl,ew w.s (D6 w.m.s w.q).1 (D6 w.m.s w.q).2 bl t.b t.d->∃m,lL c0 t=some m/\ER w' m:=fun bl h=>by
   unfold ew at h;rw[zk (by rw[k];simp)] at h;rcases h with⟨v,h7,⟨_,V⟩,i,D⟩|⟨x,J,Z,_,h0,_,h3,hx⟩
   ·have e0:kO c0 t=c0:=by
     unfold kO;rw[zk];rintro⟨_,_,e⟩;rw[z] at e;omega
    exact⟨c0,bR (by rw[e0,D];rfl) (by rw[i];exact f.a5F),⟨by rw[d.s,i];exact f.a5F,by rw[d.s,i];exact f.st,by rw[d.s,i];exact f.us⟩⟩
   ·have S:=NL (n:=c0) hx rfl (by rw[J];exact f.st k) f.a5F (by rw[h0];exact f.us k) (by rw[Z];exact O) (by have:=M.se.a5F;show w.s.a5G.a5F.length<=_;omega) (by rw[h3];have:=(Je w.s O).1;omega);obtain⟨⟨m,hm,T⟩,U⟩:=S;have e0:kO c0 t=if x.c.kind=8\/x.c.kind=9\/x.c.kind=4 then 0 else c0:=by
     unfold kO;rw[z,<-J];by_cases e:x.c.kind=8\/x.c.kind=9\/x.c.kind=4
     ·rw[zu e,zu ⟨j,C,e⟩]
     ·rw[zk e,zk (fun h=>e h.2.2)]
    refine⟨m,bR (by rw[e0,z,<-J];exact hm) T,⟨by rw[d.s];exact T,fun h=>?_,fun h=>?_⟩⟩
    ·rw[d.s,U] at h;cases h
    ·rw[d.s,U] at h;cases h
  split at Y
  ·obtain⟨i,D⟩:=Y;rw[<-i,<-D] at u;exact Q _ u
  ·exact Q _ Y
 split at s
 ·obtain⟨u,_,_,A,j,C,_⟩:=s;have D:t.d=(S4 w.s).2:=by rw[<-u]
  have i:t.b=(S4 w.s).1:=by rw[<-u]
  have g:P7 t.c.kind (kO c0 t) t.d.a5Q=some c0:=by
   rw[nN (.inr C),D];refine aS fun q o=>?_;unfold S4 at o;split at o
   ·cases o
   split at o
   ·have o:q∈[H7 cG,dA w.s.cmd.tag]:=o;simp only[ky,Kr,Yj] at o;rcases o with rfl|rfl
    ·exact⟨by show¬(4:Int)=9;decide,by show¬(4:Int)=8;decide,by show¬(4:Int)=14;decide⟩
    ·exact⟨by show¬(1:Int)=9;decide,by show¬(1:Int)=8;decide,by show¬(1:Int)=14;decide⟩
   ·have o:=zg.1 o;rw[o];exact⟨by show¬(2:Int)=9;decide,by show¬(2:Int)=8;decide,by show¬(2:Int)=14;decide⟩
  have p:((S4 w.s).1.a5H=2->c0=(S4 w.s).1.a5G.a5F.length)/\(S4 w.s).1.a5M=false:=by
   unfold S4;split
   ·rename_i e;exact⟨f.a5F,e⟩
   split
   ·exact⟨fun h=>absurd h (by show¬(3:Nat)=2;decide),rfl⟩
   ·exact⟨f.a5F,rfl⟩
  refine⟨c0,bR g (by rw[i];exact p.1),⟨by rw[d.s,i];exact p.1,fun h=>?_,fun h=>?_⟩⟩
  ·rw[d.s,i,p.2] at h;cases h
  ·rw[d.s,i,p.2] at h;cases h
 ·obtain⟨i,D,_,_,A,j,_,_⟩:=s;exact⟨c0,bR (by rw[nN (.inl j),D];rfl) (by rw[i];exact f.a5F),⟨by rw[d.s,i];exact f.a5F,by rw[d.s,i];exact f.st,by rw[d.s,i];exact f.us⟩⟩
theorem JP{w0 w:WM}{l:List AX}{b:List TN}(h:bn w0 l b w)(d:Jf 0 w0)(e:ER w0 0)(ha:∀a∈l,iR a)(hl:l.length<=800):∃n,gT 0 b=some n/\ER w n:=by
 induction h with
 |nil=>exact⟨0,rfl,e⟩
 |snoc hp hs ih=>
  rename_i l b w o a t;have f:l.length+1<=800:=by simpa using hl
  obtain⟨n,g,i⟩:=ih (fun a h=>ha a (Kb _ h)) qb;have c:=(qI hp d (fun a h=>ha a (Kb _ h)) qb).1;obtain⟨m,j,k⟩:=JO c qb (ha _ (K2 _ (zg.2 rfl))) i hs;exact⟨m,by rw[sZ,g];exact j,k⟩
def TI(w:WM)(a:AX)(ts:List TN)(h:l9)(v:Value)(A:List As):Prop:=∃w' t o,v=.tuple #[Ff w',.slice (Prod.fst o) (ts++[t]).length (Prod.snd o)]/\A=[]/\o0 h (Prod.fst o) ((ts++[t]).flatMap gL)/\kK w a w' t/\lI w' h/\ry t h
theorem Cn(w:WM)(a:AX)(z:QL)(b:List TN)(U:Option Addr)(V:Nat)(X:Ce w a)(Y:b.length<=1000):
  Cm prog 19 [Ff w,.slice U b.length V,acA a z] (fun h=>lI w h/\dB a.other z h/\o0 h U (b.flatMap gL)) [] (TI w a b):=by
 refine x8 22 func19 rfl rfl rfl ?_;rintro F R ⟨n,y,C⟩;refine C6 ?_;refine m9 rfl rfl ?_;intro x;refine m9 rfl rfl ?_;intro g5;refine i7 rfl ?_;intro D;refine p_ ?_;refine D5 (H':=ij x w::.blk g5 (.cells (Fh a z).toArray 70)::.blk D (.cells Ki.toArray 65)::R) (fun v d=>C1 (A:=[_,_,_]) (J:=[]) tk d) ?_;refine y8 ?_;refine A8 (IR w a z X) ⟨n,y⟩ ?_;rintro v A F1 M ⟨o,t,c,rfl,rfl,hf⟩;refine I6 (H':=_::_::_::(fo c t++R)) (fun v d=>d.perm (Qd (fo c t) [_,_,_] R)) ?_;refine E4 ?_;refine i7 rfl ?_;intro O;refine y8 ?_;refine D5 (H':=(qD O t::ij x o::.blk D (.cells Ki.toArray 65)::R)++fo c t) (fun v d=>?_) (bY fun F2 p j=>?_)
 ·have h9:Hp F1 v (qD O t::ij x o::.blk D (.cells Ki.toArray 65)::(fo c t++R)):=C1 (A:=[_,_,_]) (J:=[_]) tk d;exact h9.perm (((kj.cons _).cons _).cons _)
 obtain⟨bs,j⟩:=j;have f:=M.trans p;obtain⟨Q,S⟩:=JA (Mn.le f.heap n) hf p.heap j;clear j;have g:=C.le f.heap;refine u7 ?_;refine D9 [0,4] [1,3,5,6,7] [ij x o,qD O t] 9 ?_;refine wd [0,2,4] ?_;refine bv 1 5 rfl rfl i6 ?_ ?_;refine M4 rfl ?_;intro T;refine ae ?_;refine bv 3 5 rfl rfl i6 ?_ ?_;refine u6 gL (l:=[]) (m:=b) U6 eW (by show(0+b.length)*1216<=_;omega) ?_ (hsrc:=fun v d=>g.le d.keep) (h63:=by simp only[z6];omega);intro q r _;refine ae ?_;refine h_ 5 rfl i6 ?_;refine C4 gL t rfl ?_;intro s _;refine ae ?_;refine h_ 6 rfl i6 ?_;refine u6 gL (l:=b) (m:=[t]) U6 eW (by show(b.length+1)*1216<=_;omega) ?_;intro e i _;refine gn [7,8] ?_
 rotate_left 1
 refine C4 gL t rfl ?_;intro s _;refine ae ?_;refine h_ 3 rfl i6 ?_;refine u6 gL (l:=[]) (m:=b) U6 eW (by show(0+b.length)*1216<=_;omega) ?_ (hsrc:=fun v d=>g.le d.keep) (h63:=by simp only[z6];omega);intro q r _;refine ae ?_;refine h_ 6 rfl i6 ?_;refine u6 gL (l:=b) (m:=[t]) U6 eW (by show(b.length+1)*1216<=_;omega) ?_;intro e i _;refine gn [7,8] ?_
 rotate_left 1
 refine C4 gL t rfl ?_;intro s _;refine ae ?_;refine h_ 1 rfl i6 ?_;refine M4 rfl ?_;intro T;refine ae ?_;refine h_ 3 rfl i6 ?_;refine u6 gL (l:=[]) (m:=b) U6 eW (by show(0+b.length)*1216<=_;omega) ?_ (hsrc:=fun v d=>g.le d.keep) (h63:=by simp only[z6];omega);intro q r _;refine ae ?_;refine h_ 6 rfl i6 ?_;refine u6 gL (l:=b) (m:=[t]) U6 eW (by show(b.length+1)*1216<=_;omega) ?_;intro e i _;refine gn [7,8] ?_
 rotate_left 1
 all_goals (refine u7 ?_)
 all_goals
  refine B8 (Z:=[.own (.slice e (b++[t]).length i) 48 99 ((b++[t]).flatMap gL)]) tk fun F3 k ⟨bs,j⟩=>?_;have u:o0 F3.heap e ((b++[t]).flatMap gL):=A2.rd j ud;clear j;refine A3 ?_;refine G_ (A:=[]) (v:=.tuple #[Ff o,.slice e (b++[t]).length i]) (f.trans k) ⟨o,t,(e,i),rfl,rfl,u,hf.step,Mn.le k.heap Q,Mn.le k.heap S⟩ ?_;exact D2 rfl rfl rfl ud rfl _ qh (fun v d=>C1 (A:=[]) (J:=[_,_,_,_]) tk d)
abbrev mV:Bs:=[97,32,76,79,71,73,78,32,120,32,104,111,114,110]
abbrev lM:Bs:=[98,32,83,69,76,69,67,84,32,73,78,66,79,88]
abbrev ES:Bs:=[99,32,76,79,71,79,85,84]
abbrev aL(s:Bs):AX:=⟨0,1,s,false,cU⟩
abbrev aC:AX:=⟨1,0,[],false,cU⟩
def fY(s:Bs):CM:=((T6 (cy s) s (behind s)).map Prod.fst).getD iw
def tf(s:Bs):Bool:=dU s&&!decide (H5 (R8 (P9 s))=0\/rb s=true/\H5 (R8 (P9 s))<15)&&decide ((cy s).kind≠15)&&decide ((T6 (cy s) s (behind s)).map Prod.snd=some s.length)
theorem JQ{s:Bs}{c:CM}{e:Int}(hl:tf s=true)(h:bC s c e):c=fY s/\e=0:=by
 unfold tf at hl;simp only[kx,Z6,Zp,jy] at hl;obtain⟨⟨⟨j,k⟩,l⟩,m⟩:=hl;obtain⟨⟨C,n⟩,g,b⟩:=kg.1 m;have b:n=s.length:=b;subst b;have d:fY s=C:=by unfold fY;rw[g];rfl
 unfold bC at h;rw[zk (by rw[j];simp),zk k] at h;rw[d];have a:∀r,bE s (cy s) (behind s) r->r=some (C,s.length):=fun r f=>by
  unfold bE at f;rw[zk l,g] at f;exact f
 rcases h with⟨h,o⟩|⟨h|⟨q,h,i⟩,_⟩
 ·have:=a _ h;injection this with this;injection this with this;exact⟨this,o⟩
 ·cases a _ h
 ·have:=a _ h;injection this with this;rw[this] at i;exact absurd rfl i
theorem TJ:tf mV=true:=by kernel_rfl
theorem TK:tf lM=true:=by kernel_rfl
theorem TL:tf ES=true:=by kernel_rfl
theorem lN{w w':WM}{s:Bs}{t:TN}(h:kK w (aL s) w' t)(hl:tf s=true)(i:w.s.a5M=false)(j:w.s.a5H≠3)(hf:(M_ (fY s).kind).1<=w.s.a5H/\w.s.a5H<=(M_ (fY s).kind).2)(m:(fY s).kind<14):
  (t.b,t.d)=Od (fun _=>[]) (w.s,F9) (fY s)/\∃a:WM,a.m.s=w.m.s/\a.bl=w.bl/\a.q=w.q/\a.tr=w.tr/\sV a t w':=by
 rcases h with⟨h,_⟩|⟨a,c,d,_,g,f⟩
 ·cases h
 ·unfold cA at d;rw[zu rfl] at d;obtain⟨b,k,l,_⟩:=d;refine⟨?_,a,k,l,g.1,g.2,f⟩;unfold cz at b;rw[zk (by show¬(1:Int)=2;decide),zk (by rw[i];simp[j]),zk (by show¬(1:Int)=4;decide),zk (by show¬(1:Int)=3;decide),zu rfl] at b;obtain⟨c,e,hp,b⟩:=b;obtain⟨rfl,rfl⟩:=JQ hl hp;rcases b with⟨h,_⟩|⟨h,_⟩|⟨h,_⟩|⟨_,⟨h,_⟩|⟨_,_,h⟩⟩
  ·cases h
  ·cases h
  ·cases h
  ·omega
  ·unfold PZ at h;rw[zk qb,zk qb] at h;exact h
theorem lO{w w':WM}{t:TN}(h:kK w aC w' t)(m:w.s.a5M=true)(n:w.s.cmd.kind≠16/\w.s.cmd.kind≠15):
  (∃x:AN,x.c=w.s.cmd/\x.m.s=(D6 w.m.s w.q).1/\x.o=(D6 w.m.s w.q).2/\fm x (V9 w.s) t.b t.d)/\∃a:WM,a.m.s=(D6 w.m.s w.q).1/\a.bl=w.bl/\a.q=w.q/\a.tr=w.tr/\sV a t w':=by
 rcases h with⟨_,h,_⟩|⟨a,c,j,_,o,k⟩
 ·rw[m] at h;cases h
 ·unfold cA at j;rw[zk qp,zu rfl] at j;obtain⟨_,⟨s1,u,q,l⟩,r,s,_⟩:=j;refine⟨?_,a,r,s,o.1,o.2,k⟩;have g:∀{p:SE} {d':DD} {bl:BL},ew w.s (D6 w.m.s w.q).1 (D6 w.m.s w.q).2 bl p d'->d'.want=[]/\∃x:AN,x.c=w.s.cmd/\x.m.s=(D6 w.m.s w.q).1/\x.o=(D6 w.m.s w.q).2/\fm x (V9 w.s) p d':=fun h=>by
   unfold ew at h;rw[zk (by rw[m];simp)] at h;rcases h with⟨_,_,⟨_,h|h⟩,_⟩|⟨x,b,d,f,_,_,_,i⟩
   ·exact absurd h n.1
   ·exact absurd h n.2
   ·exact⟨(ey i).2.1,x,b,d,f,i⟩
  obtain⟨e,x,b,d,f,i⟩:=g q;rw[zu e] at l;exact⟨x,b,d,f,by rw[l.1,l.2];exact i⟩
theorem eA{w0 w':WM}{L:List AX}{d:List TN}(h:bn w0 L d w'):∀l a,L=l++[a]->∃b w t,d=b++[t]/\bn w0 l b w/\kK w a w' t:=by
 cases h with
 |nil=>intro l a e;exact absurd e.symm y4
 |snoc hp hs=>
  intro l a e;obtain⟨f,c⟩:=List.append_inj' e rfl;injection c with c;subst f c;exact⟨_,_,_,rfl,hp,hs⟩
abbrev Ko:List AX:=[aL mV,aC,aL lM,aC,aL ES,aC]
def TM:SE:={oH with a5M:=true,cmd:=fY mV,a5I:=[]}
def Ud:RQ:={cU with op:=1,node:=1,life:=1,tr:=1}
def TO:ML:=(D6 xv Ud).1
def S2a:SE:={V9 TM with a5H:=1,ses:=(D6 xv Ud).2.ses,num:=0}
def ET:SD:=Od (fun _=>[]) (S2a,F9) (fY lM)
def M4a:ML:=(D6 TO ET.2.req).1
theorem k1a:(fY mV).kind=7:=by kernel_rfl
theorem k2a:(fY lM).kind=8:=by kernel_rfl
theorem Rm:(fY ES).kind=3:=by kernel_rfl
theorem d1a:Od (fun _=>[]) (oH,F9) (fY mV)=(TM,{F9 with ask:=true,req:={cU with op:=1}}):=by kernel_rfl
theorem c2a:(D6 xv Ud).2.code=0:=by kernel_rfl
theorem b3a:ET.1.a5M=true:=by kernel_rfl
theorem e3a:ET.1.cmd=fY lM:=by kernel_rfl
theorem a3a:ET.2.ask=true:=by kernel_rfl
theorem o3a:¬ET.2.req.op=1:=by
 have:ET.2.req.op=3:=by kernel_rfl
 rw[this];decide
theorem c4a:(D6 TO ET.2.req).2.code=0:=by kernel_rfl
theorem f4a:(ak M4a (fY lM).box).isSome=true:=by kernel_rfl
theorem Ae{m:MM}(hm:m.s=xv){ts:List TN}{w:WM}(h:bn (xu m) Ko ts w):
  ∃t1 t2 t3 t4 t5 s,ts=[t1,t2,t3,t4,t5,s]/\t2.d.a5Q.length=1/\t4.d.a5Q.length=6/\t4.d.a5Q.getD 5 R0={dA (fY lM).tag with code:=aF 8}/\w.s.a5H=3/\s.d.close=true:=by
 obtain⟨_,w5,s,rfl,h,s6⟩:=eA h [aL mV,aC,aL lM,aC,aL ES] aC rfl;obtain⟨_,V,t5,rfl,h,s5⟩:=eA h [aL mV,aC,aL lM,aC] (aL ES) rfl;obtain⟨_,u,t4,rfl,h,s4⟩:=eA h [aL mV,aC,aL lM] aC rfl;obtain⟨_,w2,t3,rfl,h,s3⟩:=eA h [aL mV,aC] (aL lM) rfl;obtain⟨_,t,t2,rfl,h,s2⟩:=eA h [aL mV] aC rfl;obtain⟨X,w0,t1,rfl,h,s1⟩:=eA h [] (aL mV) rfl;have h0:w0=xu m/\X=[]:=by
  generalize hL:([]:List AX)=L at h
  cases h with
  |nil=>exact qh
  |snoc _ _=>exact absurd hL y4
 obtain⟨rfl,rfl⟩:=h0
 -- the first line
 obtain⟨Y,v1,Z,_,q9,v,j⟩:=lN s1 TJ rfl (by show(0:Nat)≠3;decide) (by rw[k1a];exact⟨by show(M_ 7).1<=0;decide,by show 0<=(M_ 7).2;decide⟩) (by rw[k1a];decide);have Y:(t1.b,t1.d)=(TM,{F9 with ask:=true,req:={cU with op:=1}}):=Y.trans d1a;injection Y with e1b e1d;have k:t.s=TM:=by rw[j.s,e1b]
 have h1:t.m.s=xv:=by rw[j.m,Z];exact hm
 have h2:t.q=Ud:=by
  rw[j.q];unfold iP;rw[e1d,zu rfl,zu rfl,v];rfl
 -- what comes
 have A:t.s.cmd.kind=7:=by rw[k];exact k1a
 obtain⟨⟨x,h3,h4,c,hx⟩,v2,C,_,_,_,D⟩:=lO s2 (by rw[k];rfl) (by rw[A];decide);rw[h1,h2] at h4 c C;have l:x.c.kind=7:=by rw[h3];exact A
 have h5:qB x (V9 t.s)=V9 t.s:=by unfold qB sS;rw[l];rfl
 unfold fm at hx;rw[zk (by rw[c,c2a];decide),zk (by rw[l];decide)] at hx;obtain⟨r,x0,l1,x1,l2,d,J,g3⟩:=hx;rw[zu (by rw[c];exact c2a)] at d;unfold L6 at d;rw[zu (show(uT x).c.kind=7 from l)] at d;obtain⟨rfl,rfl,rfl⟩:=d;rw[zk (fun h=>absurd h.1 (by show¬(1:Nat)=2;decide))] at J;obtain⟨rfl,rfl⟩:=J;rw[zk (fun h=>absurd h.1 (by show¬(1:Nat)=2;decide))] at g3;obtain⟨h6,h7⟩:=g3;have e:w2.s=S2a:=by
  rw[D.s,h6,h5,k];show({V9 TM with a5H:=1,ses:=x.o.ses,num:=0}:SE)=_;rw[c];rfl
 have h8:w2.m.s=TO:=by rw[D.m,C];rfl
 -- the second line
 obtain⟨M,v3,h9,_,x2,q7,n⟩:=lN s3 TK (by rw[e];rfl) (by rw[e];show(1:Nat)≠3;decide) (by rw[k2a,e];exact⟨by decide,by decide⟩) (by rw[k2a];decide);rw[e] at M;have M:(t3.b,t3.d)=ET:=M;have k0:t3.b=ET.1:=by rw[<-M]
 have k8:t3.d=ET.2:=by rw[<-M]
 have f:u.s=ET.1:=by rw[n.s,k0]
 have k9:u.m.s=TO:=by rw[n.m,h9,h8]
 have q0:u.q=ET.2.req:=by
  rw[n.q];unfold iP;rw[k8,zu a3a,zk o3a]
 -- what comes
 have O:u.s.cmd.kind=8:=by rw[f,e3a];exact k2a
 obtain⟨⟨y,o,Q,p,hy⟩,v4,x3,_,_,_,q1⟩:=lO s4 (by rw[f];exact b3a) (by rw[O];decide);rw[k9,q0] at Q p;have a:y.c.kind=8:=by rw[o];exact O
 have q2:sS y=true:=by unfold sS;rw[a];rfl
 unfold fm at hy;rw[zk (by rw[p,c4a];decide),zk (by rw[a];decide)] at hy;obtain⟨r,x9,l3,y0,l4,d,J,g4⟩:=hy;rw[zu (by rw[p];exact c4a)] at d;unfold L6 at d;rw[zk (show¬(uT y).c.kind=7 from by show¬y.c.kind=7;rw[a];decide),zk (show¬(uT y).c.kind=14 from by show¬y.c.kind=14;rw[a];decide),zu (show(uT y).c.kind=8\/(uT y).c.kind=9 from .inl a)] at d;rw[zk (fun h=>by rw[q2] at h;cases h.2.1)] at J g4;obtain⟨rfl,rfl⟩:=J;obtain⟨q3,S⟩:=g4;rcases d with⟨T,_⟩|⟨b,hb,rfl,rfl,rfl⟩
 ·exfalso;have hf:=f4a;have T:ak y.m.s y.c.box=none:=T;rw[Q,o,f,e3a] at T;rw[show(D6 TO ET.2.req).1=M4a from rfl] at T;rw[T] at hf
  cases hf
 have g:V.s.a5M=false/\V.s.a5H=2:=by
  rw[q1.s,q3];refine⟨?_,rfl⟩;show(qB y (V9 u.s)).a5M=false;unfold qB;split<;>rfl
 -- the third line
 obtain⟨U,v5,y1,_,y2,q8,q4⟩:=lN s5 TL g.1 (by rw[g.2];decide) (by rw[Rm,g.2];exact⟨by decide,by decide⟩) (by rw[Rm];decide);unfold Od at U;rw[zk (by rw[Rm];decide),zk (by rw[Rm];decide),zu Rm,zk (show¬V.s.a5H=0 from by rw[g.2];decide)] at U;unfold G1 at U;rw[zk qp] at U;injection U with e5b e5d;have q:w5.s.a5M=true/\w5.s.cmd.kind=3:=by
  rw[q4.s,e5b];exact⟨rfl,Rm⟩
 obtain⟨⟨z,q5,_,_,hz⟩,v6,_,_,_,_,q6⟩:=lO s6 q.1 (by rw[q.2];decide);have i:s.b.a5H=3/\s.d.close=true:=by
  unfold fm at hz;split at hz
  ·rw[hz.1,hz.2];exact qh
  ·rw[zu (by rw[q5];exact q.2)] at hz;rw[hz.1,hz.2];exact qh
 refine⟨t1,t2,t3,t4,t5,s,rfl,?_,?_,?_,by rw[q6.s];exact i.1,i.2⟩
 ·rw[h7];rfl
 ·rw[S];rfl
 ·rw[S];show({(uT y).r with code:=aF (uT y).c.kind}:RR)=_;show({dA y.c.tag with code:=aF y.c.kind}:RR)=_;rw[a,o,f,e3a]
abbrev qO(b:Nat)(s:Bs)(p:Nat)(ok:Bool):As:=.blk b (.cells #[B s,.int .i64 (p:Nat),.bool ok] 116)
abbrev Ue(b:Nat)(s:Bs)(st:RS):As:=qO b s st.p st.ok
theorem NM{s w:Bs}{p:Nat}{ok:Bool}(h:p<=s.length):(mE s w ⟨p,ok⟩).2.p<=s.length/\p<=(mE s w ⟨p,ok⟩).2.p:=by
 unfold mE;split
 ·next a=>
  have:=a.2;rw[Gv,kz] at this;simp only[kx,jy] at this;simp only;omega
 ·simp only;omega
theorem JR(b:Nat)(s w:Bs)(p:Nat)(ok:Bool)(hs:s.length<=1000000000000)(hp:p<=s.length)(i:w.length<=1000000000000):Ct prog 42 [m6 b,B w] (fun _=>True) [qO b s p ok] (fun v A=>v=.bool (mE s w ⟨p,ok⟩).1/\A=[Ue b s (mE s w ⟨p,ok⟩).2]):=by
 obtain⟨q,c⟩:=o7 (w.isPrefixOf (s.drop p));refine b_ 33 func42 rfl rfl rfl ?_;intro F _;refine p_ ?_;refine x6 [(0,m6 b),(1,B w),(23,.bool (!ok||!q))] [qO b s p ok] ?_ ?_
 ·cases ok
  all_goals (
   refine u7 ?_;refine Ar [3,9,13] [] 19 ?_;refine wd [0,1,2,3,4,5,6,7,8,9,10,11,12,13] ?_;(first|refine s_ 14 ?_|refine t_ 14 ?_|refine F6 14 rfl ((H4 rfl rfl rfl qb).eq (v':=B (s.drop p)) (by rw[kp (by rw[kz];omega),jh])) rfl rfl rfl rfl rfl rfl i6 ?_);refine wd [15] ?_;refine h_ 16 rfl i6 ?_;(first|refine u_ ?_|(refine v_ ?_;refine e_ rfl (ah (s.drop p) w) qw rfl ?_;rw[<-c]));refine xI ?_;refine wd [17,18] ?_)
  all_goals exact p8 sub i_
 refine O1 ?_ ?_<;>intro h
 ·have e:mE s w ⟨p,ok⟩=(false,⟨p,ok⟩):=by
   unfold mE;refine zk fun d=>?_;simp only at d;rw[d.1,c,d.2] at h
   cases h
  rw[e];refine C8 ?_;exact d_ rfl rfl [qO b s p ok] qh i_
 ·rw[Q1] at h;have f:ok=true:=by simpa using h.1
  have g:q=true:=by simpa using h.2
  have e:mE s w ⟨p,ok⟩=(true,⟨p+w.length,ok⟩):=by
   unfold mE;exact zu ⟨f,c.symm.trans g⟩
  have a:=NM (s:=s) (w:=w) (p:=p) (ok:=ok) hp;rw[e] at a⊢;simp only at a;refine cQ ?_;refine f_ ((p9 rfl rfl qb).eq (v':=.int .i64 ((p+w.length:Nat):Int)) (by congr 1)) ?_;refine JV ?_;exact d_ rfl rfl [qO b s (p+w.length) ok] qh i_
theorem EU(b:Nat)(s w:Bs)(p:Nat)(ok:Bool)(hs:s.length<=1000000000000)(hp:p<=s.length)(a:w.length<=1000000000000):Ct prog 46 [m6 b,B w] (fun _=>True) [qO b s p ok] (fun v A=>v=.tuple #[]/\A=[Ue b s (FR s w ⟨p,ok⟩)]):=by
 refine b_ 10 func46 rfl rfl rfl ?_;intro F _;refine E4 ?_;refine x4 _ rfl (JR b s w p ok hs hp a) i_ qw rfl ?_;rintro v A ⟨rfl,rfl⟩;refine E4 ?_;exact l_ rfl [Ue b s (FR s w ⟨p,ok⟩)] qh i_
theorem JS(b:Nat)(s w:Bs)(p:Nat)(ok:Bool)(hs:s.length<=1000000000000)(hp:p<=s.length)(n:w.length<=1000000000000):Ct prog 43 [m6 b,B w] (fun _=>True) [qO b s p ok] (fun v A=>v=B (ox s w ⟨p,ok⟩).1/\A=[Ue b s (ox s w ⟨p,ok⟩).2]):=by
 refine b_ 56 func43 rfl rfl rfl ?_;intro F _
 cases ok with
 |false=>
  refine KW ?_;exact d_ rfl rfl [qO b s p false] qh i_
 |true=>
  refine wk 11 ?_;refine o9 (ι:=Nat) (fun j=>p<=j/\j<=s.length/\∀i,p<=i->i<j->(!w.contains (s.getD i 0))=true) (fun j=>[(0,m6 b),(1,B w),(5,.int .i64 (p:Nat))]) (fun j=>[qO b s j true]) (fun j=>s.length-j) p ⟨zr _,hp,fun i h t=>by omega⟩ ?_ ?_ ?_
  ·exact sub
  ·intro w n;exact n
  rintro j ⟨g,o,k⟩;obtain⟨q,a⟩:=o7 (decide ((j:Int)<(s.length:Nat)));obtain⟨u,d⟩:=o7 (!w.contains (s.getD j 0));refine u7 ?_;refine x6 [(0,m6 b),(1,B w),(5,.int .i64 (p:Nat)),(38,.bool (q&&u))] [qO b s j true] ?_ ?_
  ·cases q
   all_goals (
    refine u7 ?_;refine Ar [3,7,15,19] [] 24 ?_;refine wd [0,1,2,3,4,5,6,7,8] ?_;refine w_ 9 rfl ((E6 rfl rfl).eb a) ?_;refine wd [10,11,12,13,14,15,16,17,18,19] ?_;(first|refine s_ 20 ?_|refine t_ 20 ?_|refine F6 20 rfl ((A6 rfl rfl (by have:=qr a.symm;omega)).eq (v':=U8 (s.getD j 0)) (by simp only[jh])) rfl rfl rfl rfl rfl rfl i6 ?_);refine h_ 21 rfl i6 ?_;(first|refine u_ ?_|(refine v_ ?_;refine e_ rfl (ai w (s.getD j 0)) qw rfl ?_));refine xI ?_;(first|refine s_ 22 ?_|refine t_ 22 ?_|refine F6 22 rfl ((E6 rfl rfl).eq (qn ((yt _ _).trans d.symm))) rfl rfl rfl rfl rfl rfl i6 ?_);refine wd [23] ?_)
   all_goals exact p8 sub i_
  refine O1 ?_ ?_<;>intro l
  ·simp only[kx] at l;have x:j<s.length:=(by have:=qr (a.symm.trans l.1);omega);refine O2 ?_;refine f_ ((p9 rfl rfl qb).eq (v':=.int .i64 ((j+1:Nat):Int)) (by congr 1)) ?_;refine E4 ?_;refine l8 (j+1) ⟨by omega,by omega,fun i h t=>?_⟩ qb ?_ ?_
   ·rcases kr.1 t with y|rfl
    ·exact k i h y
    ·rw[<-d];exact l.2
   ·exact sub
   ·intro w n;exact n
  ·have m:j<s.length->(!w.contains (s.getD j 0))=false:=fun C=>by
    have:q=true:=a.trans qk;rw[this,Kc] at l;rw[<-d];exact l
   obtain⟨r,z⟩:=AU (f:=fun c=>!w.contains c) g (.inl o) k m;have e:ox s w ⟨p,true⟩=((s.drop p).take (j-p),⟨j,true⟩):=by
    unfold ox FS;rw[zu rfl];simp only;rw[<-z,r]
   rw[e];refine u7 ?_;refine Ar [3,8] [] 11 ?_;refine wd [0,1,2,3,4,5,6,7,8] ?_;refine w_ 9 rfl ((H4 rfl rfl rfl qb).eq (v':=B ((s.drop p).take (j-p))) (jw B (jP g))) ?_;refine wd [10] ?_;refine A3 ?_;exact d_ rfl rfl [qO b s j true] qh i_
theorem EV(s:Bs)(hs:s.length<=1000000000000):Pu prog 44 [B s] (fun _=>True) (.bool (kU s)):=by
 refine b_ 27 func44 rfl rfl rfl ?_;intro F _;refine O2 ?_;refine o9 (ι:=Nat) (fun k=>k<=s.length/\∀j,j<k->gj (s.getD j 0)=true) (fun k=>[(0,B s),(5,.int .i64 (s.length:Nat)),(6,.int .i64 (k:Nat))]) (fun _=>[]) (fun k=>s.length-k) 0 ⟨by omega,fun j h=>by omega⟩ ?_ ?_ ?_
 ·exact sub
 ·intro w i;exact i
 rintro k ⟨z,a⟩;refine R6 ?_ ?_<;>intro h
 ·have l:k<s.length:=by simp at h;omega
  obtain⟨m,b⟩:=o7 (decide (((s.getD k 0).toNat:Int)<32));obtain⟨q,c⟩:=o7 (decide ((126:Int)<((s.getD k 0).toNat:Nat)));have r:gj (s.getD k 0)=!(m||q):=by
   rw[b,c,Z7];simp only[gj,kx,Z6,Q1,jy,Zp];omega
  refine y8 ?_;refine x6 [(0,B s),(5,.int .i64 (s.length:Nat)),(6,.int .i64 (k:Nat)),(18,.bool (m||q))] [] ?_ ?_
  ·cases m
   all_goals (
    refine y8 ?_;refine f_ ((A6 rfl rfl qb).eq (v':=U8 (s.getD k 0)) (by simp only[jh])) ?_;refine f_ ((E6 rfl rfl).eb b) ?_;refine E4 ?_;(first|refine u_ ?_|(refine v_ ?_;refine f_ ((A6 rfl rfl qb).eq (v':=U8 (s.getD k 0)) (by simp only[jh])) ?_));(first|refine u_ ?_|(refine v_ ?_;refine f_ ((D8 rfl rfl).eb c) ?_));refine p_ ?_)
   all_goals exact p8 sub i_
  refine O1 ?_ ?_<;>intro g
  ·have e:kU s=false:=by
    unfold kU;rw[yo (p:=gj) l (by rw[r,g];rfl)];rfl
   rw[e];refine C8 ?_;exact d_ rfl rfl [] qh (fun _ h=>h)
  ·refine y8 ?_;refine l8 (k+1) ⟨by omega,fun j u=>?_⟩ qb ?_ ?_
   ·rcases kr.1 u with v|rfl
    ·exact a j v
    ·rw[r,g];rfl
   ·exact sub
   ·intro w i;exact i
 have n:k=s.length:=by simp at h;omega
 subst n;obtain⟨o,d⟩:=o7 (!decide (s=[]));obtain⟨t,f⟩:=o7 (decide (((s.length:Nat):Int)<=512));have e:kU s=(o&&t):=by
  unfold kU;have x:s.all gj=true:=AP a;have g:(!s.isEmpty)=o:=by rw[d];cases s<;>simp
  have y:decide (s.length<=512)=t:=by rw[f];exact zh.mpr qb
  rw[x,g,y,Kc]
 rw[e];clear e;refine u7 ?_
 cases o
 all_goals (
  refine p_ ?_;refine f_ ((E7 rfl rfl).eb d) ?_;refine E4 ?_;(first|refine u_ ?_|(refine v_ ?_;refine f_ ((G2 rfl rfl).eb f) ?_));refine y8 ?_)
 all_goals (refine A3 ?_;exact d_ rfl rfl [] qh (fun _ h=>h))
theorem ti(k:Nat)(a:k<4):Pu prog 35 [.int .i64 ((k:Int)+1)] (fun _=>True) (B (FP.getD k [])):=by
 refine b_ 7 func35 rfl rfl rfl ?_;intro F _;refine xJ ?_;refine f_ (cK (v:=.agg #[B [79,75],B [78,79],B [66,65,68],B [66,89,69]]) rfl (fun w=>run_build w _ _ _ i6)) ?_;refine p_ ?_;refine f_ ((E0 rfl rfl qb).eq (v':=.int .i64 (k:Nat)) (by congr 1;omega)) ?_;refine f_ ((eF k rfl rfl rfl qb (v:=B (FP.getD k [])) (by have c:k=0\/k=1\/k=2\/k=3:=qb;rcases c with rfl|rfl|rfl|rfl<;>rfl))) ?_;refine C8 ?_;exact d_ rfl rfl [] qh (fun _ h=>h)
abbrev qP:Bs:=[98,32,79,75,32,91,82,69,65,68,45,87,82,73,84,69,93,32,100,111,110,101,13,10]
abbrev r5:RR:=⟨1,[98],[82,69,65,68,45,87,82,73,84,69],[100,111,110,101],0,[],0,[],[],[]⟩
abbrev TP(x:RL)(h:l9):Prop:=Gl h/\fE r5 x h
theorem xE(b p:Nat)(w:Bs){q:Bool}{p':Nat}(hp:Nat.ble p 24=true)(a:Nat.ble w.length 100=true)(e:mE qP w ⟨p,true⟩=(q,⟨p',true⟩)):Ct prog 42 [m6 b,B w] (fun _=>True) [qO b qP p true] (fun v A=>v=.bool q/\A=[qO b qP p' true]):=by
 have h:=JR b qP w p true qp (Zg hp) (jd (Zg a) qp);rw[e] at h;exact h
theorem uQ(b p:Nat)(w:Bs){p':Nat}(hp:Nat.ble p 24=true)(a:Nat.ble w.length 100=true)(e:FR qP w ⟨p,true⟩=⟨p',true⟩):Ct prog 46 [m6 b,B w] (fun _=>True) [qO b qP p true] (fun v A=>v=.tuple #[]/\A=[qO b qP p' true]):=by
 have h:=EU b qP w p true qp (Zg hp) (jd (Zg a) qp);rw[e] at h;exact h
theorem nO(b p:Nat)(w:Bs){t:Bs}{p':Nat}(hp:Nat.ble p 24=true)(a:Nat.ble w.length 100=true)(e:ox qP w ⟨p,true⟩=(t,⟨p',true⟩)):Ct prog 43 [m6 b,B w] (fun _=>True) [qO b qP p true] (fun v A=>v=B t/\A=[qO b qP p' true]):=by
 have h:=JS b qP w p true qp (Zg hp) (jd (Zg a) qp);rw[e] at h;exact h
theorem Co{s:Bs}(h:kU s=true)(hs:Nat.ble s.length 100=true):Pu prog 44 [B s] (fun _=>True) (.bool true):=by
 have k:=EV s (jd (Zg hs) qp);rw[h] at k;exact k
theorem QT(b:Nat):Ct prog 49 [m6 b,B [98]] (fun _=>True) [qO b qP 2 true] (fun v A=>v=KZ r5 L0/\A=[qO b qP 22 true]):=by
 refine b_ 79 func49 rfl rfl rfl ?_;intro F _;refine p_ ?_;intro a;refine u7 ?_;refine E4 ?_;intro c;refine y8 ?_;refine x4 [pr c ⟨0,[98],[],[],0,[],0,[],[],[]⟩ L0,pr a R0 L0] rfl (nO b 2 [32,13] (t:=[79,75]) (p':=4) rfl rfl i6) (fun w d=>d.perm (kj (l₁:=[_,_]) (l₂:=[_]))) qw rfl ?_;rintro v A ⟨rfl,rfl⟩;refine y8 ?_;refine o9 (ι:=Nat) (fun k=>k<=4) (fun k=>[(0,m6 b),(1,B [98]),(4,m6 a),(5,m6 c),(6,B [79,75]),(7,.int .i64 ((k:Int)+1))]) (fun k=>[qO b qP 4 true,pr c ⟨((min k 1:Nat):Int),[98],[],[],0,[],0,[],[],[]⟩ L0,pr a R0 L0]) (fun k=>4-k) 0 (zw _) sub i_ ?_;intro k l;refine bd ?_ ?_<;>intro h
 ·have e:k<4:=by have:=qr h;omega
  have j:decide (FP.getD k []=[79,75])=decide (k=0):=by
   have:k=0\/k=1\/k=2\/k=3:=(by omega);rcases this with rfl|rfl|rfl|rfl<;>rfl
  refine I8 0 ?_;refine x6 [(0,m6 b),(1,B [98]),(4,m6 a),(5,m6 c),(6,B [79,75]),(7,.int .i64 ((k:Int)+1))] [qO b qP 4 true,pr c ⟨1,[98],[],[],0,[],0,[],[],[]⟩ L0,pr a R0 L0] ?_ ?_
  ·refine n9 ?_;refine p_ ?_;refine e_ rfl (ti k e) qw rfl ?_;refine p_ ?_;refine f_ ((C5 rfl rfl).eq (qn j)) ?_;refine O1 ?_ ?_<;>intro i
   ·have f:k=0:=qr i;subst f;refine E4 ?_;exact p8 sub i_
   ·have f:min k 1=1:=(by have:=zq i;omega);rw[f];refine u7 ?_;exact p8 sub i_
  refine p_ ?_;refine f_ ((p9 rfl rfl qb).eq (v':=.int .i64 ((((k+1:Nat):Int))+1)) (by congr 1)) ?_;refine p_ ?_;exact l8 (k+1) qb qb sub (fun w d=>by rw[show min (k+1) 1=1 by omega];exact d)
 have g:k=4:=by have:=zq h;omega
 subst g;refine p_ ?_;refine x4 _ rfl (uQ b 4 [32] (p':=5) rfl rfl i6) i_ qw rfl ?_;rintro v A ⟨rfl,rfl⟩;refine p_ ?_;refine x4 _ rfl (xE b 5 [91] (q:=true) (p':=6) rfl rfl i6) i_ qw rfl ?_;rintro v A ⟨rfl,rfl⟩;refine p_ ?_;refine x4 _ rfl (nO b 6 [93,13] (t:=[82,69,65,68,45,87,82,73,84,69]) (p':=16) rfl rfl i6) i_ qw rfl ?_;rintro v A ⟨rfl,rfl⟩;refine E4 ?_;refine x4 _ rfl (uQ b 16 [93,32] (p':=18) rfl rfl i6) i_ qw rfl ?_;rintro v A ⟨rfl,rfl⟩;refine wk 8 ?_;(first|refine u_ ?_|(refine v_ ?_;refine e_ rfl (Co (s:=[82,69,65,68,45,87,82,73,84,69]) i6 rfl) qw rfl ?_));refine aH ?_;refine x4 _ rfl (nO b 18 [13] (t:=[100,111,110,101]) (p':=22) rfl rfl i6) i_ qw rfl ?_;rintro v A ⟨rfl,rfl⟩;refine wk 10 ?_;(first|refine u_ ?_|(refine v_ ?_;refine f_ ((D8 rfl rfl).eq (v':=.bool true) rfl) ?_));refine O2 ?_;(first|refine u_ ?_|(refine v_ ?_;refine e_ rfl (Co (s:=[100,111,110,101]) i6 rfl) qw rfl ?_));refine O2 ?_;(first|refine u_ ?_|(refine v_ ?_;refine f_ ((A6 rfl rfl qp).eq (v':=U8 100) rfl) ?_));(first|refine u_ ?_|(refine v_ ?_;refine f_ ((M9 rfl rfl).eq (v':=.bool true) rfl) ?_));refine O2 ?_;(first|refine u_ ?_|(refine v_ ?_;refine f_ ((M9 rfl rfl).eq (v':=.bool true) rfl) ?_));refine wk 10 ?_;refine A3 ?_;exact G5 rfl rfl ud rfl _ qh (fun w d=>d.left (A:=[_]))
theorem QU:Ct prog 23 [B qP] Gl [] (fun v A=>v=.tuple #[KZ r5 L0,.int .i64 24,.int .i64 0]/\A=[]):=by
 refine b_ 85 func23 rfl rfl rfl ?_;intro F hg;refine p_ ?_;intro e;refine E4 ?_;refine f_ ((cK (v:=.agg #[B qP,.int .i64 0,.bool true]) rfl (fun w=>run_build w _ _ _ i6))) ?_;refine p_ ?_;intro a;refine p_ ?_;refine p_ ?_;intro d;refine p_ ?_;refine x4 [pr d R0 L0,pr e R0 L0] rfl (xE a 0 (FQ++OS) (q:=false) (p':=0) rfl rfl i6) (fun w c=>c.perm (.swap _ _ _)) qw rfl ?_;rintro v A ⟨rfl,rfl⟩;refine y8 ?_;refine x4 _ rfl (xE a 0 (a02++OS) (q:=false) (p':=0) rfl rfl i6) i_ qw rfl ?_;rintro v A ⟨rfl,rfl⟩;refine y8 ?_;refine x4 _ rfl (xE a 0 [43,32] (q:=false) (p':=0) rfl rfl i6) i_ qw rfl ?_;rintro v A ⟨rfl,rfl⟩;refine y8 ?_;refine x4 _ rfl (xE a 0 [42,32] (q:=false) (p':=0) rfl rfl i6) i_ qw rfl ?_;rintro v A ⟨rfl,rfl⟩;refine y8 ?_;refine x4 _ rfl (nO a 0 [32,13] (t:=[98]) (p':=1) rfl rfl i6) i_ qw rfl ?_;rintro v A ⟨rfl,rfl⟩;refine y8 ?_;refine x4 _ rfl (uQ a 1 [32] (p':=2) rfl rfl i6) i_ qw rfl ?_;rintro v A ⟨rfl,rfl⟩;refine u7 ?_;have b:=oW [98] qp;rw[show ja [98]=true from by kernel_rfl] at b;refine wk 7 ?_;(first|refine u_ ?_|(refine v_ ?_;refine e_ rfl b (fun h f g=>trivial) rfl ?_));refine O2 ?_;(first|refine u_ ?_|(refine v_ ?_;refine f_ ((G2 rfl rfl).eq (v':=.bool true) rfl) ?_));refine E4 ?_;(first|refine u_ ?_|(refine v_ ?_;refine e_ rfl (ai [98] 43) qw rfl ?_));(first|refine u_ ?_|(refine v_ ?_;refine f_ ((E6 rfl rfl).eq (v':=.bool true) i6) ?_));refine cQ ?_;refine x4 _ rfl (QT a) i_ qw rfl ?_;rintro v A ⟨rfl,rfl⟩;refine y8 ?_;refine x4 _ rfl (uQ a 22 OS (p':=24) rfl rfl i6) i_ qw rfl ?_;rintro v A ⟨rfl,rfl⟩;refine aH ?_;refine D9 [0,4] [5] [qO a qP 24 true,pr d r5 L0] 8 ?_;refine wd [0,1,2,3,4,5,6,7] ?_;refine A3 ?_;exact Fs rfl rfl rfl rfl ud rfl _ qh (fun w c=>c.dropAll)
theorem QV(x:RL):Pu prog 22 [KZ r5 x] (TP x) (B [98,32,79,75,32,91,82,69,65,68,45,87,82,73,84,69,93,32,100,111,110,101]):=by
 refine b_ 159 func22 rfl rfl rfl ?_;intro F c;refine p_ ?_;intro a;refine E4 ?_;refine T1 ?_;refine f_ ((o_ rfl rfl).eq (v':=.bool true) rfl) ?_;refine p_ ?_;refine D9 [1,4] [5] [pr a r5 x] 9 ?_;refine wd [0,1] ?_;refine w_ 2 rfl ((G8 rfl rfl qp).eq (v':=B [98,32]) rfl) ?_;refine wd [3,4] ?_;refine h_ 5 rfl i6 ?_;refine e_ (v:=B [79,75]) rfl (ti 0 qp) qw rfl ?_;refine ae ?_;refine w_ 6 rfl ((G8 rfl rfl qp).eq (v':=B [98,32,79,75]) rfl) ?_;refine w_ 7 rfl ((G8 rfl rfl qp).eq (v':=B [98,32,79,75,32]) rfl) ?_;refine wd [8] ?_;refine y8 ?_;refine f_ ((E7 rfl rfl).eq (v':=.bool true) rfl) ?_;refine E4 ?_;refine f_ ((G8 rfl rfl qp).eq (v':=B [91,82,69,65,68,45,87,82,73,84,69]) rfl) ?_;refine f_ ((G8 rfl rfl qp).eq (v':=B [91,82,69,65,68,45,87,82,73,84,69,93,32]) rfl) ?_;refine f_ ((G8 rfl rfl qp).eq (v':=B [98,32,79,75,32,91,82,69,65,68,45,87,82,73,84,69,93,32]) rfl) ?_;refine O2 ?_;refine f_ ((G8 rfl rfl qp).eq (v':=B [98,32,79,75,32,91,82,69,65,68,45,87,82,73,84,69,93,32,100,111,110,101]) rfl) ?_;refine C8 ?_;exact d_ rfl rfl [] qh (fun w b=>b.dropAll)
theorem TQ(a b:Option Addr)(c d:Nat):Pu prog 51 [.slice a 0 c,.slice b 0 d] (fun _=>True) (.bool true):=by
 refine b_ 26 func51 rfl rfl rfl ?_;intro F _;refine wk 9 ?_;refine o9 (ι:=Unit) (fun _=>True) (fun _=>[(12,.int .i64 0),(13,.int .i64 0)]) (fun _=>[]) (fun _=>0) () trivial sub i_ ?_;intro _ _;refine L7 ?_;exact d_ rfl rfl [] qh (fun _ h=>h)
theorem TR(a b:Option Addr)(c d:Nat):Pu prog 52 [.slice a 0 c,.slice b 0 d] (fun _=>True) (.bool true):=by
 refine b_ 26 func52 rfl rfl rfl ?_;intro F _;refine wk 9 ?_;refine o9 (ι:=Unit) (fun _=>True) (fun _=>[(12,.int .i64 0),(13,.int .i64 0)]) (fun _=>[]) (fun _=>0) () trivial sub i_ ?_;intro _ _;refine L7 ?_;exact d_ rfl rfl [] qh (fun _ h=>h)
theorem TS(a b:Option Addr)(c d:Nat)(f:Value):Pu prog 53 [.slice a 0 c,.slice b 0 d,f] (fun _=>True) (.bool true):=by
 refine b_ 32 func53 rfl rfl rfl ?_;intro F _;refine wk 9 ?_;refine o9 (ι:=Unit) (fun _=>True) (fun _=>[(16,.int .i64 0),(17,.int .i64 0)]) (fun _=>[]) (fun _=>0) () trivial sub i_ ?_;intro _ _;refine L7 ?_;exact d_ rfl rfl [] qh (fun _ h=>h)
theorem QW(x:RL)(hx:x.vs=[]):Pu prog 24 [KZ r5 x,KZ r5 L0] (fun _=>True) (.bool true):=by
 obtain⟨b,c,d,e,f,g,h⟩:=x;simp only at hx;subst hx;refine b_ 75 func24 rfl rfl rfl ?_;intro F _;refine p_ ?_;intro i;refine p_ ?_;intro j;refine cQ ?_;refine f_ ((o_ rfl rfl).eq (v':=.bool true) rfl) ?_;refine aH ?_;(first|refine u_ ?_|(refine v_ ?_;refine f_ ((C5 rfl rfl).eq (v':=.bool true) rfl) ?_));refine cQ ?_;(first|refine u_ ?_|(refine v_ ?_;refine f_ ((C5 rfl rfl).eq (v':=.bool true) rfl) ?_));refine cQ ?_;(first|refine u_ ?_|(refine v_ ?_;refine f_ ((C5 rfl rfl).eq (v':=.bool true) rfl) ?_));refine cQ ?_;(first|refine u_ ?_|(refine v_ ?_;refine f_ ((o_ rfl rfl).eq (v':=.bool true) rfl) ?_));refine cQ ?_;(first|refine u_ ?_|(refine v_ ?_;refine e_ rfl (TR _ _ _ _) qw rfl ?_));refine cQ ?_;(first|refine u_ ?_|(refine v_ ?_;refine e_ rfl (TQ _ _ _ _) qw rfl ?_));refine cQ ?_;(first|refine u_ ?_|(refine v_ ?_;refine f_ ((C5 rfl rfl).eq (v':=.bool true) rfl) ?_));refine wk 7 ?_;(first|refine u_ ?_|(refine v_ ?_;refine e_ rfl (TS _ _ _ _ _) qw rfl ?_));refine cQ ?_;(first|refine u_ ?_|(refine v_ ?_;refine f_ ((o_ rfl rfl).eq (v':=.bool true) rfl) ?_));refine L7 ?_;exact d_ rfl rfl [] qh (fun w a=>a.dropAll)
theorem NN(x:RL)(hx:x.vs=[]):Pu prog 14 [KZ r5 x] (TP x) (.tuple #[B qP,.int .i64 0]):=by
 refine b_ 40 func14 rfl rfl rfl ?_;intro F b;refine p_ ?_;intro c;refine O2 ?_;refine f_ ((E6 rfl rfl).eq (v':=.bool false) rfl) ?_;refine E4 ?_;(first|refine u_ ?_|(refine v_ ?_;refine f_ ((D8 rfl rfl).eq (v':=.bool false) rfl) ?_));refine y8 ?_;refine e_ rfl (QV x) (fun h a d=>⟨b.1.le a,b.2.le a⟩) rfl ?_;refine f_ ((G8 rfl rfl qp).eq (v':=B qP) rfl) ?_;refine y8 ?_;refine x4 [pr c r5 x] rfl QU i_ (fun h a d=>b.1.le a) rfl ?_;rintro v A ⟨rfl,rfl⟩;refine O2 ?_;refine i7 rfl ?_;intro f;refine O2 ?_;refine f_ ((M9 rfl rfl).eq (v':=.bool false) rfl) ?_;refine O2 ?_;(first|refine u_ ?_|(refine v_ ?_;refine f_ ((M9 rfl rfl).eq (v':=.bool false) rfl) ?_));refine O2 ?_;(first|refine u_ ?_|(refine v_ ?_;refine e_ rfl (QW x hx) qw rfl ?_));refine JW ?_;exact r7 rfl rfl rfl [] qh (fun w e=>e.dropAll)
abbrev xF:List Bs:=[mV,lM,ES]
def r5a:RR:={dA (fY lM).tag with code:=aF 8}
theorem QX:r5a=r5:=by kernel_rfl
theorem Cp{i:Nat}(a:i<xF.length):Ko.take (2*(i+1))=Ko.take (2*i)++[aL xF[i]]++[aC]:=by
 have:i=0\/i=1\/i=2:=by have:xF.length=3:=rfl;omega
 rcases this with rfl|rfl|rfl<;>rfl
theorem JT:∀a∈Ko,iR a:=fun a ha=>by
 have b:RqI cU:=⟨⟨by decide,by decide,by decide,by decide,qy⟩,fun e=>by cases e⟩;simp only[Ko,ky,Kr,Yj] at ha;rcases ha with rfl|rfl|rfl|rfl|rfl|rfl<;>exact⟨by decide,b⟩
theorem xG:Cm prog 9 [] Gl [] (fun h v A=>v=.bool true/\A=[]):=by
 refine x8 89 func9 rfl rfl rfl ?_;rintro F R hg;refine xJ ?_;refine A8 xw trivial ?_;rintro v A F0 h6 ⟨m,rfl,rfl,hm,q9⟩;refine i7 rfl ?_;intro g1;refine xJ ?_;refine M4 rfl ?_;intro a8;refine xJ ?_;refine x5 rfl rfl rfl rfl rfl rfl (xs:=xF.flatMap xN) rfl rfl ?_;intro a9 x0;refine I8 2 ?_;have h7:∃ad,a9=some ad:=x0;refine B8 (Z:=[.own (.slice a9 3 3) 9 1 (xF.flatMap xN)]) tk fun F1 X ⟨bs,hb⟩=>?_;have x1:o0 F1.heap a9 (xF.flatMap xN):=A2.rd hb ud;clear hb;refine S7 (fun(e:List TN) (o:AC) (w:WM) (k:l6)=>F.le k/\bn (xu m) Ko e w/\o0 k.heap o.1 (e.flatMap gL)/\∀t∈e,ry t k.heap) (fun e o _ _=>[(1,m6 g1),(2,.slice o.1 e.length o.2)]) (fun _ _ _ k=>k) (fun e o w _=>ij g1 w::R) ?_ ?_
 ·refine n9 ?_;refine bJ (ι:=Nat×List TN×AC×WM×l6) (fun i=>i.1<=3/\F1.le i.2.2.2.2/\bn (xu m) (Ko.take (2*i.1)) i.2.1 i.2.2.2.1/\lI i.2.2.2.1 i.2.2.2.2.heap/\o0 i.2.2.2.2.heap i.2.2.1.1 (i.2.1.flatMap gL)/\∀t∈i.2.1,ry t i.2.2.2.2.heap) (fun i=>[(1,m6 g1),(2,.slice i.2.2.1.1 i.2.1.length i.2.2.1.2),(9,.slice a9 3 3),(10,.int .i64 3),(11,.int .i64 (i.1:Nat))]) (fun i=>i.2.2.2.2)
   (fun i=>match i with|(_,e,o,w,_)=>ij g1 w::R) (fun i=>3-i.1) (0,[],(a8,0),xu m,F1) ⟨zw _,l6.le_refl _,.nil,⟨hg.le (h6.trans X).heap,o0.nil _ _,⟨o0.nil _ _,fj.zero _⟩,Mn.le X.heap q9,⟨o0.nil _ _,o0.nil _ _⟩,o0.nil _ _⟩,o0.nil _ _,qy⟩ sub rfl (fun v c=>C1 (A:=[_]) (J:=[_]) tk c) ?_
  rintro⟨j,e,o,w,k⟩ ⟨hj,u,n,h8,d,p⟩;simp only at hj u n h8 d p;have h9:(Ko.take (2*j)).length=2*j:=by rw[z7];show min (2*j) 6=_;omega
  have x:=qI n (xx hm) (fun a h=>JT a (Jq h)) (by rw[h9];omega);rw[h9] at x;have v0:e.length=2*j:=x.2;refine R6 ?_ ?_<;>intro h
  ·have y:j<xF.length:=(by have:=qr h;show j<3;omega);have v1:j<3:=y;obtain⟨s,hs⟩:=o7 (xF[j]);have k0:iR (aL s):=JT _ (Jq (i:=2*(j+1)) (by rw[Cp y,<-hs];simp));have x2:iR aC:=JT _ (by simp[Ko]);have x3:=Cn w (aL s) cY e o.1 o.2 (zZ x.1 k0 qb) qb;refine I8 0 ?_;refine S7 (fun(f:List TN) (S:AC) (T:WM) (z:l6)=>F1.le z/\bn (xu m) (Ko.take (2*(j+1))) f T/\lI T z.heap/\o0 z.heap S.1 (f.flatMap gL)/\∀t∈f,ry t z.heap) (fun f S _ _=>[(1,m6 g1),(2,.slice S.1 f.length S.2),(9,.slice a9 3 3),(10,.int .i64 3),(11,.int .i64 (j:Nat))]) (fun _ _ _ z=>z) (fun _ _ T _=>ij g1 T::R) ?_ ?_
   ·refine n9 ?_;refine C6 ?_;refine f_ (m8 rfl h7 rfl qb) ?_;refine r_ ((i8 rfl (fun v c=>dO (C:=xN) ((x1.le u.heap).le c.keep) df y (j:=0) rfl y4)).eq (v':=B s) (by rw[hs])) ?_;refine O2 ?_;refine f_ (y7 (ps:=[(0,.const (.int .i64 1)),(1,.tmp 18)]) (vs:=[(0,.int .i64 1),(1,B s)]) (cells:=#[.int .i64 1,B s]) rfl i6) ?_;refine f_ (y7 (ps:=[(1,.tmp 19)]) (vs:=[(1,.agg #[.int .i64 1,B s])]) (cells:=(Fh (aL s) cY).toArray) rfl i6) ?_;refine A8 x3 ⟨h8,⟨o0.nil _ _,o0.nil _ _⟩,d⟩ ?_;rintro v A z D ⟨w1,t1,o1,rfl,rfl,Y,U,k8,k9⟩;refine aH ?_;have q0:=Jl x.1 k0 qb U;have x9:=Cn w1 aC cY (e++[t1]) o1.1 o1.2 (zZ q0 x2 qb) (by rw[zz];simp only[zy,z6];omega);refine y8 ?_;refine f_ (y7 (ps:=[(0,.const (.int .i64 1))]) (vs:=[(0,.int .i64 1)]) (cells:=(Fh aC cY).toArray) rfl i6) ?_;refine A8 x9 ⟨k8,⟨o0.nil _ _,o0.nil _ _⟩,Y⟩ ?_;rintro v A F4 h0 ⟨T,t2,S,rfl,rfl,h1,q1,q3,q5⟩;refine aH ?_;exact y5 (e++[t1]++[t2],S,T,F4) ⟨(u.trans D).trans h0,by rw[Cp y,<-hs];exact .snoc (.snoc n U) q1,q3,h1,fun q M=>by
     rcases zc.1 M with M|M
     ·rcases zc.1 M with M|M
      ·exact Mn.le (D.trans h0).heap (p q M)
      ·rw[zg.1 M];exact Mn.le h0.heap k9
     ·rw[zg.1 M];exact q5⟩ rfl (fun v c=>C1 (A:=[_]) (J:=[]) tk c)
   rintro f S T z ⟨D,y0,y1,y2,y3⟩;refine y8 ?_;exact O9 (i:=(j,e,o,w,k)) (j+1,f,S,T,z) ⟨by simp only;omega,D,y0,y1,y2,y3⟩ qg sub rfl (fun v c=>c)
  ·refine u7 ?_;have z0:j=3:=(by have:=zq h;omega);subst z0;exact y5 (e,o,w,k) ⟨(h6.trans X).trans u,n,d,p⟩ rfl (fun v c=>c)
 rintro e o w k ⟨q6,n,d,p⟩;obtain⟨t1,t2,t3,r,t5,t6,O,p1,p2,p3,p4,p5⟩:=Ae hm n;have u8:e.length=6:=by rw[O];rfl
 have Q:∃ad,o.1=some ad:=A0 (i:=0) d U6 qp qb;have q2:=p t2 (by rw[O];simp);have q4:=p r (by rw[O];simp);have n2:t2.y.rl.length=1:=by rw[<-p1,q2.a5Q,zm]
 have n4:r.y.rl.length=6:=by rw[<-p2,q4.a5Q,zm]
 have q7:=A0 (i:=5) q4.row aJ qp qb;have h5:5<r.y.rl.length:=by omega
 have h2:(r.y.rl[5]).1=r5a:=by
  have:=p3;rw[q4.a5Q,zd,Zv,zj h5] at this;exact this
 obtain⟨V,h3⟩:=o7 (r.y.rl[5]);rw[<-h3] at h2;have g:o0 k.heap o.1 ([t1,t2,t3,r,t5,t6].flatMap gL):=by rw[<-O];exact d
 have z1:∀{v:World} {H:List As},Hp k v H->L_ (hp v) (N1 o.1 158) [.slice t2.y.da t2.y.rl.length t2.y.dc]:=fun c=>dO (C:=gL) (l:=[t1,t2,t3,r,t5,t6]) (i:=1) (j:=59) (g.le c.keep) U6 (by show 1<6;decide) rfl rfl;have q8:∀{v:World} {H:List As},Hp k v H->L_ (hp v) (N1 o.1 356) [.slice r.y.da r.y.rl.length r.y.dc]:=fun c=>dO (C:=gL) (l:=[t1,t2,t3,r,t5,t6]) (i:=3) (j:=59) (g.le c.keep) U6 (by show 3<6;decide) rfl rfl;have z2:∀{v:World} {H:List As},Hp k v H->L_ (hp v) (N1 o.1 576) [.bool true]:=fun c=>by
  have:=dO (C:=gL) (l:=[t1,t2,t3,r,t5,t6]) (i:=5) (j:=81) (v:=.bool t6.d.close) (q:=576) (g.le c.keep) U6 (by show 5<6;decide) rfl rfl
  rwa [p5] at this
 have h4:=q4.rep _ (zx h5);rw[<-h3] at h4;have u0:V.2.vs=[]:=by
  have:=h4.vals;rw[h2] at this;exact List.map_eq_nil_iff.1 this.symm
 have u1:Pu prog 14 [KZ V.1 V.2] (fun h=>Gl h/\fE V.1 V.2 h) (.tuple #[B qP,.int .i64 0]):=by rw[h2,QX];exact NN V.2 u0
 have u2:=hg.le q6.heap;refine y8 ?_;refine f_ ((M9 rfl rfl).eq (v':=.bool false) (jw (fun b=>Value.bool (!b)) (jk (show((e.length:Nat):Int)=6 by omega)))) ?_;refine y8 ?_;(first|refine u_ ?_|(refine v_ ?_;refine f_ (m8 rfl Q rfl qb) ?_));refine y8 ?_;(first|refine u_ ?_|(refine v_ ?_;refine r_ (i8 rfl (fun v c=>z1 c)) ?_));refine p_ ?_;(first|refine u_ ?_|(refine v_ ?_;refine f_ ((M9 rfl rfl).eq (v':=.bool false) (jw (fun b=>Value.bool (!b)) (jk (show((t2.y.rl.length:Nat):Int)=1 by omega)))) ?_));refine E4 ?_;(first|refine u_ ?_|(refine v_ ?_;refine f_ (m8 rfl Q rfl qb) ?_));refine y8 ?_;(first|refine u_ ?_|(refine v_ ?_;refine r_ (i8 rfl (fun v c=>q8 c)) ?_));refine p_ ?_;(first|refine u_ ?_|(refine v_ ?_;refine f_ ((M9 rfl rfl).eq (v':=.bool false) (jw (fun b=>Value.bool (!b)) (jk (show((r.y.rl.length:Nat):Int)=6 by omega)))) ?_));refine aH ?_;(first|refine u_ ?_|(refine v_ ?_;refine f_ ((M9 rfl rfl).eq (v':=.bool false) (jw (fun b=>Value.bool (!b)) (jk (show((w.s.a5H:Nat):Int)=3 by omega)))) ?_));refine E4 ?_;(first|refine u_ ?_|(refine v_ ?_;refine f_ (m8 rfl Q rfl qb) ?_));refine y8 ?_;(first|refine u_ ?_|(refine v_ ?_;refine r_ (i8 rfl (fun v c=>z2 c)) ?_));refine E4 ?_;refine f_ (m8 rfl Q rfl qb) ?_;refine y8 ?_;refine r_ (i8 rfl (fun v c=>q8 c)) ?_;refine f_ (m8 rfl q7 rfl qb) ?_;refine r_ ((w8 rfl (fun v c=>fq (C:=xM) (i:=5) (q4.row.le c.keep) aJ qp h5 y4) (aJ _)).eq (v':=KZ V.1 V.2) (by rw[h3])) ?_;refine e_ rfl u1 (fun h hh _=>⟨u2.le hh,h4.le hh⟩) rfl ?_;refine cQ ?_;refine f_ ((o_ rfl rfl).eq (v':=.bool true) rfl) ?_;refine y8 ?_;(first|refine u_ ?_|(refine v_ ?_;refine f_ ((C5 rfl rfl).eq (v':=.bool true) (qn (jk rfl))) ?_));refine y8 ?_;(first|refine u_ ?_|(refine v_ ?_;refine c_ IA qw ?_;rintro v A ⟨ag,rfl,rfl⟩));refine p_ ?_;(first|refine u_ ?_|(refine v_ ?_;refine f_ ((o_ rfl rfl).eq (v':=.bool true) rfl) ?_));refine L7 ?_;refine G_ (A:=[]) (v:=.bool true) q6 qh ?_;exact d_ rfl rfl _ qh (fun v c=>C1 (A:=[]) (J:=[_,_]) tk c)
theorem NO{m:MM}:ER (xu m) 0:=⟨fun h=>(by cases h),fun h=>(by cases h),fun h=>by cases h⟩
theorem counts_cm(l:List lJ)(la:Option Addr)(lc:Nat)(x0:Aa l):
  Cm prog 5 [.slice la l.length lc] (JD l la) [] (fun h v A=>v=.bool true/\A=[]):=by
 refine x8 141 func5 rfl rfl rfl ?_;rintro F R ⟨hg,h5,h6⟩;refine xJ ?_;refine A8 xG hg ?_;rintro v A F0 f ⟨rfl,rfl⟩;refine E4 ?_;(first|refine u_ ?_|(refine v_ ?_;refine c_ (C:=[]) (JC l la lc) (fun h hh _=>⟨(h5.le f.heap).le hh,fun p hp=>Mn.le hh (Mn.le f.heap (h6 p hp))⟩) ?_;rintro v A ⟨rfl,b,rfl,x1⟩));refine R6 ?_ ?_<;>intro h
 ·refine C6 ?_;refine A8 xG (hg.le f.heap) ?_;rintro v A F1 X ⟨rfl,rfl⟩;refine C8 ?_;refine G_ (A:=[]) (v:=.bool true) (f.trans X) qh ?_;exact d_ rfl rfl _ qh (fun v d=>d)
 obtain⟨h7,hB⟩:=x1 h;have h8:=NF x0 hB;refine p_ ?_;refine A8 (JB l la lc h7 h8) ⟨hg.le f.heap,h5.le f.heap,fun p hp=>Mn.le f.heap (h6 p hp)⟩ ?_;rintro v A F1 X ⟨m,o,w,J,Q,rfl,rfl,S,x2,hm,Y⟩;refine p_ ?_;have s:∀a∈l.map Prod.fst,iR a:=fun a h=>by obtain⟨p,hp,rfl⟩:=jv.1 h;exact h8 p hp
 have u:(l.map Prod.fst).length<=800:=by rw[zm];omega
 obtain⟨nE,x3,_⟩:=JP Y (xx hm) NO s u;have x9:=EO Y (xx hm) s u;have z0:o.length<=120:=by
  have:=(qI Y (xx hm) s u).2;rw[zm] at this;omega
 refine p_ ?_;refine I8 1 ?_;refine n7 (ι:=Unit) (fun _=>True) (fun _=>[]) (fun _=>R) ?_ ?_
 ·refine n9 ?_;refine o9 (ι:=Nat×Nat) (fun i=>i.1<=o.length/\gT 0 (o.take i.1)=some i.2/\i.2<=1000000) (fun i=>[(3,.slice J o.length Q),(4,.int .u64 (i.2:Nat)),(5,.int .i64 (i.1:Nat))]) (fun _=>R) (fun i=>o.length-i.1) (0,0) ⟨zw _,rfl,zw _⟩ sub (fun v d=>d) ?_;rintro⟨j,n⟩ ⟨hj,hn,y0⟩;simp only at hj hn y0;refine EW ?_ ?_<;>intro h
  ·have y:j<o.length:=(by have:=qr h;omega);have g:=A0 S U6 qp y;obtain⟨Z,h9,y1⟩:=EQ y hn ⟨_,x3⟩;obtain⟨t,h0⟩:=o7 (o[j]);rw[<-h0] at h9;obtain⟨h1,y2⟩:=JM h9;have T:t∈o:=(by rw[h0];exact zx y);have hN:=x2 t T;have z2:t.y.rl.length<=300000:=(by have:=x9 t T;rw[hN.a5Q,zm] at this;exact this);have C1:∀{v:World} {H:List As} (k:Nat) (x:Value),(gL t)[k]? =some x->Hp F1 v H->L_ (hp v) (N1 J (j*99+k)) [x]:=fun k x D d=>dO (C:=gL) (S.le d.keep) U6 y (by rw[<-h0];exact D) rfl;refine I8 0 ?_;refine n7 (ι:=Unit) (fun _=>True) (fun _=>[(3,.slice J o.length Q),(4,.int .u64 (Z:Nat)),(5,.int .i64 (j:Nat))]) (fun _=>R) ?_ ?_
   ·refine n9 ?_;obtain⟨c1,k0⟩:=o7 (t.comes);obtain⟨c2,q0⟩:=o7 (t.fails);obtain⟨k8,q1⟩:=o7 (decide (t.c.kind=8));obtain⟨k9,q3⟩:=o7 (decide (t.c.kind=9));obtain⟨k4,q4⟩:=o7 (decide (t.c.kind=4));obtain⟨n0,q5⟩:=o7 (kO n t);have M:n0=if(c1&&!c2&&(k8||k9||k4))=true then 0 else n:=by
     rw[q5];unfold kO;rw[k0,q0,q1,q3,q4];simp only[kx,Q7,jy,Z6,and_assoc,or_assoc]
    have U:n0<=1000000:=(by rw[M];split<;>omega);rw[<-q5] at h1;obtain⟨xq,h2⟩:=o7 (α:=Bool) ((c1&&!c2&&(k8||k9||k4)));rw[<-h2] at M;refine y8 ?_;refine f_ (m8 rfl g rfl qb) ?_;refine y8 ?_;refine r_ (i8 (v:=.int .i64 (t.c.kind:Nat)) rfl (fun v d=>C1 83 _ rfl d)) ?_;refine p_ ?_;refine x6 [(3,.slice J o.length Q),(4,.int .u64 (n:Nat)),(5,.int .i64 (j:Nat)),(6,.int .i64 (t.c.kind:Nat)),(54,.bool xq)] R ?_ ?_
    ·rw[h2];clear h2
     cases c1<;>cases c2<;>cases k8<;>cases k9
     all_goals (
      refine y8 ?_;refine f_ (m8 rfl g rfl qb) ?_;refine p_ ?_;refine r_ ((i8 rfl (fun v d=>C1 57 _ rfl d)).eb k0) ?_;refine E4 ?_;(first|refine u_ ?_|(refine v_ ?_;refine f_ (m8 rfl g rfl qb) ?_));refine p_ ?_;(first|refine u_ ?_|(refine v_ ?_;refine r_ ((i8 rfl (fun v d=>C1 58 _ rfl d)).eb q0) ?_));refine O2 ?_;(first|refine u_ ?_|(refine v_ ?_;refine f_ ((o_ rfl rfl).eq (qn ((qz).trans q1.symm))) ?_));refine y8 ?_;(first|refine u_ ?_|(refine v_ ?_;refine f_ ((o_ rfl rfl).eq (qn ((qz).trans q3.symm))) ?_));refine E4 ?_;(first|refine u_ ?_|(refine v_ ?_;refine f_ ((o_ rfl rfl).eq (qn ((qz).trans q4.symm))) ?_));refine y8 ?_)
     all_goals exact p8 sub i_
    refine u7 ?_;refine I8 0 ?_;refine x6 [(3,.slice J o.length Q),(4,.int .u64 (n0:Nat)),(5,.int .i64 (j:Nat)),(6,.int .i64 (t.c.kind:Nat))] R ?_ ?_
    ·refine o8 rfl ?_ ?_<;>intro h
     ·refine p_ ?_;rw[M,zu h];exact p8 sub i_
     ·rw[M,zk (by rw[h];decide)];refine u7 ?_;exact p8 sub i_
    refine I8 1 ?_;have z:P7 t.c.kind n0 (t.y.rl.map Prod.fst)=some Z:=(by rw[<-hN.a5Q];exact h1);refine x6 [(3,.slice J o.length Q),(4,.int .u64 (Z:Nat)),(5,.int .i64 (j:Nat))] R ?_ ?_
    ·refine n9 ?_;refine o9 (ι:=Nat×Nat) (fun i=>i.1<=t.y.rl.length/\P7 t.c.kind n0 ((t.y.rl.map Prod.fst).take i.1)=some i.2/\i.2<=1000000) (fun i=>[(3,.slice J o.length Q),(4,.int .u64 (i.2:Nat)),(5,.int .i64 (j:Nat)),(6,.int .i64 (t.c.kind:Nat)),(7,.int .i64 (i.1:Nat))]) (fun _=>R) (fun i=>t.y.rl.length-i.1) (0,n0) ⟨zw _,rfl,U⟩ sub (fun v d=>d) ?_;rintro⟨k,q⟩ ⟨hk,hq,q6⟩;simp only at hk hq q6;refine E4 ?_;refine f_ (m8 rfl g rfl qb) ?_;refine y8 ?_;refine r_ (i8 (v:=.slice t.y.da t.y.rl.length t.y.dc) rfl (fun v d=>C1 59 _ rfl d)) ?_;refine bd ?_ ?_<;>intro h
     ·have r:k<t.y.rl.length:=(by have:=qr h;omega);have q7:=A0 hN.row aJ qp r;obtain⟨e,q8⟩:=o7 (t.y.rl[k]);obtain⟨q2,c,y3⟩:=EP (i:=k) (by rw[zm];exact r) hq ⟨_,z⟩;rw[Jj,<-q8] at c;have q9:=Cl c q6;refine I8 0 ?_;refine x6 [(3,.slice J o.length Q),(4,.int .u64 (q2:Nat)),(5,.int .i64 (j:Nat)),(6,.int .i64 (t.c.kind:Nat)),(7,.int .i64 (k:Nat))] R ?_ ?_
      ·refine n9 ?_;refine y8 ?_;refine f_ (m8 rfl g rfl qb) ?_;refine y8 ?_;refine r_ (i8 (v:=.slice t.y.da t.y.rl.length t.y.dc) rfl (fun v d=>C1 59 _ rfl d)) ?_;refine p_ ?_;refine f_ (m8 rfl q7 rfl qb) ?_;refine r_ (w8 (cs:=xM e) rfl (fun w d=>by have:=fq (C:=xM) (hN.row.le d.keep) aJ qp r (q:=k*10) rfl;rwa [<-q8] at this) rfl) ?_;refine i7 rfl ?_;intro g8;refine aH ?_;refine o8 rfl ?_ ?_<;>intro h
       ·have e9:e.1.kind=9:=qr h;have D:¬(e.1.n<1\/q<e.1.n\/t.c.kind=16\/t.c.kind=17\/t.c.kind=15)/\q2=q-1:=by
         unfold cJ at c;rw[zu e9] at c;split at c
         ·cases c
         ·rename_i hc;injection c with c;exact⟨hc,c.symm⟩
        obtain⟨D,O⟩:=D;refine y8 ?_;refine f_ ((E6 rfl rfl).eq (v':=.bool false) (qn qj)) ?_;refine O2 ?_;(first|refine u_ ?_|(refine v_ ?_;refine f_ ((D8 rfl rfl).eq (v':=.bool false) (qn qj)) ?_));refine E4 ?_;(first|refine u_ ?_|(refine v_ ?_;refine f_ ((o_ rfl rfl).eq (v':=.bool false) (qn qj)) ?_));refine E4 ?_;(first|refine u_ ?_|(refine v_ ?_;refine f_ ((o_ rfl rfl).eq (v':=.bool false) (qn qj)) ?_));refine E4 ?_;(first|refine u_ ?_|(refine v_ ?_;refine f_ ((o_ rfl rfl).eq (v':=.bool false) (qn qj)) ?_));refine y8 ?_;refine f_ ((rA rfl rfl qb).eq (v':=.int .u64 ((q2:Nat):Int)) (by congr 1;omega)) ?_;refine p_ ?_;exact p8 sub (fun w d=>d.drop)
       ·have e9:¬e.1.kind=9:=zq h;unfold cJ at c;rw[zk e9] at c;refine bd ?_ ?_<;>intro h
        ·have e8:e.1.kind=8:=qr h;rw[zu e8] at c;have D:¬(e.1.n<q\/1000000<e.1.n)/\q2=e.1.n:=by
          split at c
          ·cases c
          ·rename_i hc;injection c with c;exact⟨hc,c.symm⟩
         obtain⟨D,O⟩:=D;refine E4 ?_;refine f_ ((E6 rfl rfl).eq (v':=.bool false) (qn qj)) ?_;refine E4 ?_;rw[O];exact p8 sub (fun w d=>d.drop)
        ·have e8:¬e.1.kind=8:=zq h;rw[zk e8] at c;refine bd ?_ ?_<;>intro h
         ·have h3:e.1.kind=14:=qr h;rw[zu h3] at c;have D:¬(e.1.n<1\/q<e.1.n)/\q2=q:=by
           split at c
           ·cases c
           ·rename_i hc;injection c with c;exact⟨hc,c.symm⟩
          obtain⟨D,O⟩:=D;refine y8 ?_;refine f_ ((E6 rfl rfl).eq (v':=.bool false) (qn qj)) ?_;refine O2 ?_;(first|refine u_ ?_|(refine v_ ?_;refine f_ ((D8 rfl rfl).eq (v':=.bool false) (qn qj)) ?_));refine p_ ?_;rw[O];exact p8 sub (fun w d=>d.drop)
         ·have h3:¬e.1.kind=14:=zq h;rw[zk h3] at c;injection c with c;refine u7 ?_;rw[<-c];exact p8 sub (fun w d=>d.drop)
      refine E4 ?_;exact l8 (i:=(k,q)) (k+1,q2) ⟨r,y3,q9⟩ qg sub i_
     ·have r:k=t.y.rl.length:=(by have:=zq h;omega);subst r;rw[kp (by rw[zm];exact zr _),z] at hq;injection hq with hq;refine u7 ?_;rw[hq];exact p8 sub i_
    have V:Z<=1000000:=uP z U;obtain⟨z1,h4⟩:=o7 (decide (t.b.a5H=2));refine u7 ?_;refine I8 0 ?_;refine x6 [(3,.slice J o.length Q),(4,.int .u64 (Z:Nat)),(5,.int .i64 (j:Nat)),(140,.bool false)] R ?_ ?_
    ·cases z1 with
     |false=>
      refine y8 ?_;refine f_ (m8 rfl g rfl qb) ?_;refine y8 ?_;refine r_ (i8 (v:=.int .i64 (t.b.a5H:Nat)) rfl (fun v d=>C1 27 _ rfl d)) ?_;refine f_ ((o_ rfl rfl).eq (v':=.bool false) (qn ((qz).trans h4.symm))) ?_;refine wk 13 ?_;exact p8 sub i_
     |true=>
      have e2:=y2 (qr h4.symm);refine y8 ?_;refine f_ (m8 rfl g rfl qb) ?_;refine y8 ?_;refine r_ (i8 (v:=.int .i64 (t.b.a5H:Nat)) rfl (fun v d=>C1 27 _ rfl d)) ?_;refine f_ ((o_ rfl rfl).eq (v':=.bool true) (qn ((qz).trans h4.symm))) ?_;refine O2 ?_;(first|refine u_ ?_|(refine v_ ?_;refine f_ (m8 rfl g rfl qb) ?_));refine E4 ?_;(first|refine u_ ?_|(refine v_ ?_;refine r_ (i8 (v:=.slice t.bx.ra t.b.a5G.a5F.length t.bx.rc) rfl (fun v d=>C1 32 _ rfl d)) ?_));refine y8 ?_;(first|refine u_ ?_|(refine v_ ?_;refine f_ ((M9 rfl rfl).eq (v':=.bool false) (jw (fun b=>Value.bool (!b)) qk)) ?_));refine p_ ?_;exact p8 sub i_
    refine u7 ?_;exact g_ () trivial i_
   intro _ _;have V:Z<=1000000:=uP h1 (by unfold kO;split<;>omega);refine E4 ?_;exact l8 (i:=(j,n)) (j+1,Z) ⟨y,y1,V⟩ qg sub (fun v d=>d)
  ·refine u7 ?_;exact g_ () trivial (fun v d=>d)
 intro _ _;refine C8 ?_;refine G_ (A:=[]) (v:=.bool true) (f.trans X) qh ?_;exact d_ rfl rfl _ qh (fun v d=>d)
