import Derived.Test.YtmcepdopookilaaGreatDoorutx21
import Derived.Laws.Tables
set_option maxHeartbeats 16000000
set_option maxRecDepth 8000
set_option linter.unusedVariables false
set_option linter.unusedSimpArgs false
set_option linter.defProp false
namespace Go.Proofs.YtmcepdopookilaaGreatDoor.Rp
open Go Go.Sl Go.RowKit Go.WideShapes Go.ChangeShapes Go.Proofs.Tryz
theorem aR{P:Program}{t:TypeId}(e:P.underlying t=some (.int .u64)):xp P t (fun n:Nat=>[.int .u64 (n:Nat)]) (fun _ n=>n<=18446744073709551615) (fun _=>1):=⟨fun d w a f b c g x h=>by
 obtain⟨n,i,j,k⟩:=(gL e).h d w a f b c g x h;have l:=QM j;refine⟨n.toNat,?_,by omega,k⟩;rw[i,Int.toNat_of_nonneg l.1]⟩
theorem QN(l:List Bs):(l.flatMap fun f=>[B f])=fV l:=by
 induction l with
 |nil=>rfl
 |cons x r ih=>rw[Q2,ih];rfl
theorem TF:xp prog 178 (fun m:Nat×Nat=>ix m) (fun _ _=>True) (fun _=>0):=
 (eX underlying178 i6
  (C3 (k:=1) (off':=1) (aR i6) rfl i6 rfl
  (C3 (k:=1) (off':=2) (aR i6) rfl i6 rfl kN))).map
  (fun y=>((y.1,y.2.1):Nat×Nat)) (fun y=>rfl) (fun h y o=>trivial) (fun y=>zw _)
structure RqT(h:l_)(p:RQ×QL):Prop where
 rd:dC p.1 p.2 h
 num:p.1.num<18446744073709551616
 life:p.1.life<18446744073709551616
 tr:p.1.tr<18446744073709551616
theorem QO:xp prog 44 (fun p:RQ×QL=>eA p.1 p.2) (fun h p=>RqT h p) (fun _=>0):=
 (eX underlying44 i6
  (C3 (k:=1) (off':=1) (gL (k:=.i64) i6) rfl i6 rfl
  (C3 (k:=1) (off':=2) (aR i6) rfl i6 rfl
  (C3 (k:=1) (off':=3) (aR i6) rfl i6 rfl
  (C3 (k:=1) (off':=4) (gL (k:=.i64) i6) rfl i6 rfl
  (C3 (k:=1) (off':=5) (aR i6) rfl i6 rfl
  (C3 (k:=1) (off':=6) (aR i6) rfl i6 rfl
  (C3 (k:=1) (off':=7) (cF i6) rfl i6 rfl
  (C3 (k:=1) (off':=8) (cF i6) rfl i6 rfl
  (C3 (k:=1) (off':=9) (aR i6) rfl i6 rfl
  (C3 (k:=1) (off':=10) (sR (e:=178) i6 TF (n:=2) i6 (fun _=>rfl) qp) rfl i6 rfl
  (C3 (k:=1) (off':=11) (sR (e:=9) i6 (cF i6) (n:=1) i6 (fun _=>rfl) qp) rfl i6 rfl
  (C3 (k:=1) (off':=12) (gL (k:=.i64) i6) rfl i6 rfl
  (C3 (k:=1) (off':=13) (xq i6) rfl i6 rfl
  (C3 (k:=1) (off':=14) (aR i6) rfl i6 rfl
  (C3 (k:=1) (off':=15) (cF i6) rfl i6 rfl
  (C3 (k:=1) (off':=16) (aR i6) rfl i6 rfl
  (C3 (k:=1) (off':=17) (aR i6) rfl i6 rfl kN)))))))))))))))))).map
  (fun y=>(⟨⟨y.1,y.2.1,y.2.2.1,y.2.2.2.1,y.2.2.2.2.1,y.2.2.2.2.2.1,y.2.2.2.2.2.2.1,y.2.2.2.2.2.2.2.1,y.2.2.2.2.2.2.2.2.1,y.2.2.2.2.2.2.2.2.2.1.2.1,y.2.2.2.2.2.2.2.2.2.2.1.2.1,y.2.2.2.2.2.2.2.2.2.2.2.1,y.2.2.2.2.2.2.2.2.2.2.2.2.1,y.2.2.2.2.2.2.2.2.2.2.2.2.2.1,y.2.2.2.2.2.2.2.2.2.2.2.2.2.2.1,y.2.2.2.2.2.2.2.2.2.2.2.2.2.2.2.1,y.2.2.2.2.2.2.2.2.2.2.2.2.2.2.2.2.1⟩,
   ⟨y.2.2.2.2.2.2.2.2.2.1.1,y.2.2.2.2.2.2.2.2.2.1.2.2,y.2.2.2.2.2.2.2.2.2.2.1.1,y.2.2.2.2.2.2.2.2.2.2.1.2.2⟩⟩:RQ×QL)) (fun y=>rfl)
  (fun h y o=>by
   obtain⟨_,_,d,_,f,g,_,_,_,a,b,_⟩:=o;have i:=a.rd;have c:=b.rd;rw[QN] at c;exact⟨⟨i,c⟩,W1 d,W1 f,W1 g⟩)
  (fun y=>zw _)
theorem JA:xp prog 41 (fun p:Int×Bs=>[.int .i64 p.1,B p.2]) (fun _ _=>True) (fun _=>0):=
 (eX underlying41 i6
  (C3 (k:=1) (off':=1) (gL (k:=.i64) i6) rfl i6 rfl
  (C3 (k:=1) (off':=2) (cF i6) rfl i6 rfl kN))).map
  (fun y=>((y.1,y.2.1):Int×Bs)) (fun y=>rfl) (fun h y o=>trivial) (fun y=>zw _)
structure AcT(h:l_)(p:lJ):Prop where
 rd:dC p.1.other p.2 h
 num:p.1.other.num<18446744073709551616
 life:p.1.other.life<18446744073709551616
 tr:p.1.other.tr<18446744073709551616
theorem shpAct:xp prog 70 (fun p:lJ=>JX p) (fun h p=>AcT h p) (fun _=>0):=
 (eX underlying70 i6
  (C3 (k:=1) (off':=1) (gL (k:=.i64) i6) rfl i6 rfl
  (C3 (k:=2) (off':=3) JA rfl i6 rfl
  (C3 (k:=1) (off':=4) (xq i6) rfl i6 rfl
  (C3 (k:=17) (off':=21) QO rfl i6 rfl kN))))).map
  (fun y=>(⟨⟨y.1,y.2.1.1,y.2.1.2,y.2.2.1,y.2.2.2.1.1⟩,y.2.2.2.1.2⟩:lJ)) (fun y=>rfl)
  (fun h y o=>by
   obtain⟨_,_,_,a,_⟩:=o;exact⟨a.rd,a.num,a.life,a.tr⟩)
  (fun y=>zw _)
theorem pu_of_cm{P:Program}{f:FuncId}{args:List Value}{a:l_->Prop}{u:Value}(h:Cm P f args a [] (fun h v A=>v=u/\A=[])):Pu P f args a u:=by
 intro w m hs n hp;have p:=h (q_ w m) [] w (by simpa using Hp.start hs n) hp;refine p.mono ?_;rintro e q ⟨v,A,r,rfl,c,⟨rfl,rfl⟩,d⟩;refine⟨_,[],rfl,qh,d.os.trans c.os,d.tape.trans c.tape,d.output.trans c.output,(fun b o g=>d.keep b o (c.heap b o g)),?_⟩;obtain⟨i,j,k,l⟩:=d.own;refine⟨i,j,k,fun b g=>?_⟩;have:=l b g
 cases he:(q_ w m).heap b with
 |none=>rfl
 |some o=>rw[c.heap _ _ he] at this;cases this
theorem acts_rd{h:l_}{a:Option Addr}{l:List lJ}{c:Nat}(hg:Gl h)(s:Jt JX AcT h a l c):Ji l a h:=⟨hg,s.rd,fun p hp=>(s.each p hp).rd⟩
theorem acts_ty{h:l_}{a:Option Addr}{l:List lJ}{c:Nat}(s:Jt JX AcT h a l c):zU l:=fun p hp=>⟨(s.each p hp).num,(s.each p hp).life,(s.each p hp).tr⟩
open Go Go.Sl Go.RowKit Go.Proofs.Tryz
def lK(g:Bs):Prop:=∃s,cj s=true/\g=aZ s
theorem lK.ne{g:Bs}(h:lK g):g≠[]/\g≠[42]/\g.length<=32:=by
 obtain⟨s,h,rfl⟩:=h;exact PS h
abbrev goR:RR:={R0 with kind:=5,text:=[103,111,32,111,110]}
abbrev TG:Bs:=[116,111,111,32,108,111,110,103]
abbrev OD:List Bs:=[[110,111,32,116,97,103],[110,111,32,115,117,99,104,32,99,111,109,109,97,110,100],[119,114,111,110,103,32,119,111,114,100,115],[110,111,116,32,110,111,119],[116,111,111,32,98,105,103],[110,111,32,115,117,99,104,32,109,101,115,115,97,103,101]]
abbrev a1S:List (Bs×Bs):=[([82,69,65,68,45,79,78,76,89],[105,116,32,109,97,121,32,110,111,116,32,98,101]),([65,85,84,72,69,78,84,73,67,65,84,73,79,78,70,65,73,76,69,68],[119,114,111,110,103,32,112,97,115,115,119,111,114,100])]
def Nz(l:List RR):Prop:=∃g,lK g/\(l=[bT g]\/l=[{R0 with kind:=6},bT g]\/l=[{R0 with kind:=7},bT g]\/l=[G2 bg,bT g]\/∃q∈a1S,l=[kP g q.1 q.2])
def TH(l:List RR):Prop:=∃g t,(lK g\/g=[42])/\t∈OD/\l=[eL g t]
def EI(k:Int)(s s':SE)(d':DD):Prop:=
 (d'.a5T=[]/\(s.a5K=3\/s.a5P=true\/(k≠1/\k≠3)))\/
 ((d'.a5T=[goR]\/d'.a5T=[G2 TG])/\k≠1/\k≠3)\/
 ((k=1\/k=3)/\s.a5K≠3/\s.a5P=false/\(Nz d'.a5T\/TH d'.a5T/\s'=s/\d'={F8 with a5T:=d'.a5T}))
theorem xu{s f:SE}{a:DD}{k:Int}{t:Bs}(T:t.length<=1000000000)(h:cB s k t f a):(a.ask=true/\a.a5T=[]/\lK f.cmd.tag)\/(a.ask=false/\EI k s f a):=by
 have J:∀{q:SE} {w:DD} {c:CM} {r:RQ} {l:List Nat},(f,a)=G3 (q,w) c r l->w.a5T=[]->lK c.tag->(a.ask=true/\a.a5T=[]/\lK f.cmd.tag):=fun{q w c r l} h O hg=>by
  unfold G3 at h;split at h<;>(injection h with e1 e2;subst e1 e2;exact⟨rfl,O,hg⟩)
 have d:∀{g x:Bs},(f,a)=U_ (s,F8) (eL g x)->(lK g\/g=[42])->x∈OD->(k=1\/k=3)->s.a5K≠3->s.a5P=false->a.ask=false/\EI k s f a:=fun{g x} h hg U y Q p=>by
  injection h with A n;subst A n;exact⟨rfl,.inr (.inr ⟨y,Q,p,.inr ⟨⟨g,x,hg,U,rfl⟩,rfl,rfl⟩⟩)⟩
 have M:∀{q:SE} {l:List RR} {b:Bool},(f,a)=(q,{F8 with a5T:=l,close:=b})->Nz l->(k=1\/k=3)->s.a5K≠3->s.a5P=false->a.ask=false/\EI k s f a:=fun{q l b} h S y Q p=>by
  injection h with A n;rw[n];exact⟨rfl,.inr (.inr ⟨y,Q,p,.inl S⟩)⟩
 unfold cB at h;split at h
 ·injection h with A n;rw[n];exact .inr ⟨rfl,.inr (.inl ⟨.inl rfl,by omega,by omega⟩)⟩
 split at h
 ·rename_i v;injection h with A n;rw[n];exact .inr ⟨rfl,.inl ⟨rfl,v.imp id .inl⟩⟩
 rename_i v;have i:s.a5K≠3:=fun e=>v (.inl e);have p:s.a5P=false:=by cases e:s.a5P;rfl;exact absurd (.inr e) v
 split at h
 ·unfold FY at h;injection h with A n;rw[n];exact .inr ⟨rfl,.inr (.inl ⟨.inr rfl,by omega,by omega⟩)⟩
 split at h
 ·rename_i y;obtain⟨c,e,hp,h⟩:=h;have j:=kB T hp;refine .inr (d h ?_ qp (.inr y) i p);unfold tC;split
  ·exact .inr rfl
  ·rename_i hc;by_cases u:e=11
   ·rw[j.no u] at hc;exact absurd rfl hc
   ·exact .inl ⟨t,(j.tag u).2,(j.tag u).1⟩
 split at h
 ·rename_i y;have m:k=1\/k=3:=.inl y;obtain⟨c,e,hp,h⟩:=h;have j:=kB T hp;have C:e≠11->lK c.tag:=fun h=>⟨t,(j.tag h).2,(j.tag h).1⟩;rcases h with⟨_,h⟩|⟨u,h⟩|⟨u,h⟩|⟨u,h⟩
  ·exact .inr (d h (.inr rfl) qp m i p)
  ·exact .inr (d h (.inl (C (by rw[u];decide))) qp m i p)
  ·exact .inr (d h (.inl (C (by rw[u];decide))) qp m i p)
  have hg:lK c.tag:=C (by rw[u];decide);rcases h with⟨_,h⟩|⟨A,n,h⟩
  ·exact .inr (d h (.inl hg) qp m i p)
  have o:∀{q:SE} {w:DD} {r:RQ} {l:List Nat},(f,a)=G3 (q,w) c r l->w.a5T=[]->(a.ask=true/\a.a5T=[]/\lK f.cmd.tag)\/(a.ask=false/\EI k s f a):=fun{q w r l} h O=>.inl (J h O hg);have D:∀{q:SE} {l:List RR} {b:Bool},(f,a)=(q,{F8 with a5T:=l,close:=b})->Nz l->(a.ask=true/\a.a5T=[]/\lK f.cmd.tag)\/(a.ask=false/\EI k s f a):=fun{q l b} h S=>.inr (M h S m i p);unfold PW at h;split at h
  ·exact o h rfl
  split at h
  ·rcases h with⟨r,V,h⟩|⟨l,r,_,_,h⟩
   ·rcases V with rfl|rfl
    ·exact D (b:=false) h ⟨c.tag,hg,.inr (.inr (.inr (.inr ⟨_,.head _,rfl⟩)))⟩
    ·exact .inr (d h (.inl hg) qp m i p)
   ·exact o h rfl
  ·unfold NX at h;by_cases k1:c.kind=1
   ·rw[zu k1] at h;exact D (b:=false) h ⟨c.tag,hg,.inr (.inl rfl)⟩
   rw[zk k1] at h;by_cases k2:c.kind=2
   ·rw[zu k2] at h;by_cases z:s.a5K=0
    ·rw[zu z] at h;exact D (b:=false) h ⟨c.tag,hg,.inl rfl⟩
    ·rw[zk z] at h;exact o h rfl
   rw[zk k2] at h;by_cases k3:c.kind=3
   ·rw[zu k3] at h;by_cases z:s.a5K=0
    ·rw[zu z] at h;exact D (b:=true) h ⟨c.tag,hg,.inr (.inr (.inr (.inl rfl)))⟩
    ·rw[zk z] at h;exact o h rfl
   rw[zk k3] at h;by_cases k4:c.kind=4
   ·rw[zu k4] at h;by_cases z:s.ro=true
    ·rw[zu z] at h;exact o h rfl
    ·rw[zk z] at h;exact o h rfl
   rw[zk k4] at h;by_cases k5:c.kind=5
   ·rw[zu k5] at h;by_cases z:s.ro=true
    ·rw[zu z] at h;exact D (b:=false) h ⟨c.tag,hg,.inr (.inr (.inr (.inr ⟨_,.head _,rfl⟩)))⟩
    ·rw[zk z] at h;exact o h rfl
   rw[zk k5] at h;by_cases k6:c.kind=6
   ·rw[zu k6] at h;exact D (b:=false) h ⟨c.tag,hg,.inr (.inr (.inl rfl))⟩
   rw[zk k6] at h;by_cases k7:c.kind=7
   ·rw[zu k7] at h;by_cases z:c.pass=[104,111,114,110]
    ·rw[zu z] at h;exact o h rfl
    ·rw[zk z] at h;exact D (b:=false) h ⟨c.tag,hg,.inr (.inr (.inr (.inr ⟨_,.tail _ (.head _),rfl⟩)))⟩
   rw[zk k7] at h;by_cases k9:c.kind<=9
   ·rw[zu k9] at h;exact o h rfl
   rw[zk k9] at h;by_cases k10:c.kind=10
   ·rw[zu k10] at h;exact o h rfl
   rw[zk k10] at h;by_cases k11:c.kind=11
   ·rw[zu k11] at h;exact o h rfl
   rw[zk k11] at h;by_cases k13:c.kind<=13\/c.kind=15
   ·rw[zu k13] at h;exact o h rfl
   ·exfalso;have:=j.kind u;omega
 ·rename_i m X Y Z;injection h with A n;rw[n];exact .inr ⟨rfl,.inl ⟨rfl,.inr (.inr ⟨by assumption,by assumption⟩)⟩⟩
theorem JB{x:AN}{s d:SE}{r:RR}{l:List RR}(h:L6 x s r d l):l.length<=100000:=by
 have a:([]:List RR).length<=100000:=zw _;unfold L6 at h;split at h
 ·rw[h.2.2];exact a
 split at h
 ·rw[h.2.2];exact a
 split at h
 ·rcases h with⟨_,_,_,e⟩|⟨b,_,_,_,e⟩<;>rw[e]
  ·exact a
  ·show 5<=100000;decide
 split at h
 ·have:=h.2.2.1;omega
 split at h
 ·rcases h with⟨_,⟨_,e⟩|⟨_,g,f,e,_⟩⟩<;>rw[e]
  ·exact a
  ·show 1<=100000;decide
 split at h
 ·obtain⟨_,_,c,m,e⟩:=h;rw[e];show 1<=100000;decide
 split at h
 ·exact h.1
 split at h
 ·exact h.1
 ·rw[h.2.2];exact a
theorem NA{x:AN}{s i:SE}{g:DD}(h:fk x s i g)(j:V_ x.m.s)(k:s.a5J.a5I.length<=50000):g.a5T.length<=300000:=by
 unfold fk at h;split at h
 ·rw[h.2];show 1<=300000;decide
 split at h
 ·rw[h.2];show 2<=300000;decide
 obtain⟨r,s1,c,l,d,a,e,f⟩:=h;have b:(xK x s).a5J.a5I.length<=50000:=by unfold xK;split;exact zw _;exact k
 have k1:c.length<=100000/\s1.a5J.a5I.length<=50000:=by
  split at a
  ·exact⟨JB a,sL a j b⟩
  ·rw[a.1,a.2.1];exact⟨zw _,b⟩
 have k2:d.length<=100001:=by
  split at e
  ·have:=sM s1.a5J x.bx.x (!ib x) s1.cond;rw[e.2];omega
  ·rw[e.2];exact zw _
 split at f
 ·rw[f.2];show(c++d++[r,G2 bn]).length<=_;simp only[zz,zy,zn];omega
 ·rw[f.2];show(c++d++[r]).length<=_;simp only[zz,zy,zn];omega
theorem Cd{s c:SE}{st:ML}{o:OC}{bl:BL}{b:DD}(d:V_ st)(f:s.a5J.a5I.length<=50000)(h:ey s st o bl c b):b.a5T.length<=300000:=by
 unfold ey at h;split at h
 ·rw[h.2];exact zw _
 rcases h with⟨w,_,_,_,e⟩|⟨x,_,a,_,_,_,_,h⟩
 ·rw[e];exact zw _
 ·exact NA h (by rw[a];exact d) f
theorem NB{k:Int}{s b:SE}{a:DD}(h:EI k s b a):a.a5T.length<=2:=by
 rcases h with⟨e,_⟩|⟨e|e,_⟩|⟨_,_,_,⟨g,_,e|e|e|e|⟨q,_,e⟩⟩|⟨⟨g,t,_,_,e⟩,_⟩⟩<;>rw[e]<;>simp only[zy,zn]<;>omega
theorem JC(s:SE):(T6 s).2.a5T.length<=2:=by
 unfold T6;split
 ·exact zw _
 split
 ·show 2<=2;decide
 ·show 1<=2;decide
theorem JD{n:Nat}{w w':WM}{a:AX}{t:TN}(d:IV n w)(k:n<=800)(ha:iP a)(hs:kK w a w' t):t.d.a5T.length<=300000:=by
 rcases hs with⟨_,_,_,rfl⟩|⟨l,c,b,_,_,_⟩
 ·exact zw _
 have g:w.s.a5J.a5I.length<=50000:=by have:=d.se.a5I;omega
 have i:=(fU d.ml w.q d.q.ok.num d.q.op).1.ok;unfold cD at b;split at b
 ·rcases xu ha.text b.1 with⟨_,e,_⟩|⟨_,h⟩
  ·rw[e];exact zw _
  ·have:=NB h;omega
 split at b
 ·obtain⟨_,⟨s1,m,j,f⟩,_⟩:=b;split at f
  ·rw[f.2];exact Cd i g j
  ·exact Cd i g f
 split at b
 ·have e:t.d=(T6 w.s).2:=by rw[<-b.1]
  have:=JC w.s;rw[e];omega
 ·rw[b.2.1];exact zw _
theorem EJ{w0 w:WM}{l:List AX}{c:List TN}(h:bq w0 l c w)(e:IV 0 w0)(ha:∀a∈l,iP a)(hl:l.length<=800):∀t∈c,t.d.a5T.length<=300000:=by
 induction h with
 |nil=>exact fun _ h=>(by cases h)
 |snoc hp hs ih=>
  rename_i l c w g a t;have f:l.length+1<=800:=by simpa using hl
  have d:=(qD hp e (fun a h=>ha a (Kc _ h)) qb).1;intro q b;rcases zb.1 b with b|b
  ·exact ih (fun a h=>ha a (Kc _ h)) qb q b
  ·rw[zg.1 b];exact JD d qb (ha _ (K3 _ (zg.2 rfl))) hs
def X3(r:RR):Bool:=decide (r.kind<=3)&&(!decide (r.tag=[42])||decide (r.kind=3))
def uI(r:RR):Prop:=3<r.kind\/r.tag=[42]/\r.kind=1
theorem NC{r:RR}(h:uI r):X3 r=false:=by
 unfold X3;rcases h with h|⟨a,b⟩
 ·rw[jc qb];rfl
 ·rw[kr a,b];rfl
theorem ND{r:RR}{g:Bs}(h:uI r)(hg:g≠[42]):aH g r=false:=by
 unfold aH;rcases h with h|⟨a,b⟩
 ·rw[jc qb];rfl
 ·rw[a,jc (show¬([42]:Bs)=g from fun e=>hg e.symm)];simp
theorem nJ{l:List RR}(h:∀q∈l,uI q):l.countP X3=0:=by
 rw[List.countP_eq_zero];intro q a;rw[NC (h q a)];decide
theorem kO{l:List RR}{g:Bs}(hg:g≠[42])(h:∀q∈l,uI q):l.countP (aH g)=0:=by
 rw[List.countP_eq_zero];intro q a;rw[ND (h q a) hg];decide
theorem gM{r:RR}{g:Bs}(hg:g≠[42])(a:r.kind=1\/r.kind=2)(b:r.tag=g):X3 r=true/\aH g r=true:=by
 unfold X3 aH;rw[b,jc hg];rcases a with e|e<;>rw[e]<;>exact⟨rfl,by simp⟩
theorem JE(v:VW)(b:BX)(e c:Bool):∀q∈(U7 v b e c).2,3<q.kind:=by
 have d:∀(k:Nat) (a:List (Nat×Nat)),∀q∈(V7 b k a).2,3<q.kind:=fun k=>by
  induction k with
  |zero=>intro a q h;cases h
  |succ k ih=>
   intro a q h;unfold V7 at h;split at h
   ·exact ih a q h
   ·rcases ky.1 h with rfl|h
    ·show(3:Int)<9;decide
    ·exact ih _ q h
 unfold U7;split
 ·intro q h;cases h
 ·simp only;generalize hq:(if e=true then V7 b v.a5I.length v.a5I else(v.a5I,[]))=z;have hz:∀q∈z.2,3<q.kind:=by
   rw[<-hq];split
   ·exact d _ _
   ·exact fun _ h=>by cases h
  intro q h;rcases zb.1 h with h|h
  ·rcases zb.1 h with h|h
   ·exact hz q h
   ·split at h
    ·cases h
    ·rw[zg.1 h];show(3:Int)<8;decide
  ·obtain⟨z,_,hz⟩:=List.mem_filterMap.1 h;obtain⟨x,_,rfl⟩:=kx.1 hz;show(3:Int)<14;decide
theorem JF{x:AN}{s g:SE}{r:RR}{l:List RR}(h:L6 (xL x) s r g l):(∀q∈l,uI q)/\(r.kind=1\/r.kind=2)/\r.tag=x.c.tag:=by
 have a:∀q∈([]:List RR),uI q:=fun _ h=>by cases h
 have i:∀j,qf (xL x) s j r g l->(∀q∈l,uI q)/\(r.kind=1\/r.kind=2)/\r.tag=x.c.tag:=fun j h=>by
  obtain⟨_,_,d,n⟩:=h;refine⟨fun q e=>?_,?_⟩
  ·obtain⟨u,_,o,rfl,_⟩:=n q e;exact .inl (by show(3:Int)<14;decide)
  ·rcases d with⟨c,rfl⟩|rfl
   ·exact⟨.inl rfl,rfl⟩
   ·exact⟨.inr rfl,rfl⟩
 unfold L6 at h;split at h
 ·rw[h.2.1,h.2.2];exact⟨a,.inl rfl,rfl⟩
 split at h
 ·rw[h.2.1,h.2.2];exact⟨a,.inl rfl,rfl⟩
 split at h
 ·rcases h with⟨_,_,f,d⟩|⟨b,_,_,f,d⟩
  ·rw[f,d];exact⟨a,.inr rfl,rfl⟩
  ·rw[f,d];refine⟨fun q e=>?_,.inl rfl,rfl⟩;unfold Ov at e;simp only[ky,W5,or_false] at e;rcases e with rfl|rfl|rfl|rfl|rfl
   ·exact .inl (by show(3:Int)<10;decide)
   ·exact .inl (by show(3:Int)<8;decide)
   ·exact .inr qh
   ·exact .inr qh
   ·exact .inr qh
 split at h
 ·rw[h.2.1];refine⟨fun q e=>?_,.inl rfl,rfl⟩;obtain⟨b,_,rfl⟩:=h.2.2.2 q e;exact .inl (by show(3:Int)<11;decide)
 split at h
 ·rcases h with⟨_,⟨f,d⟩|⟨f,o,p,d,_⟩⟩
  ·rw[f,d];exact⟨a,.inr rfl,rfl⟩
  ·rw[f,d];refine⟨fun q e=>?_,.inl rfl,rfl⟩;rw[zg.1 e];exact .inl (by show(3:Int)<12;decide)
 split at h
 ·obtain⟨_,f,k,m,d⟩:=h;rw[f,d];refine⟨fun q e=>?_,.inl rfl,rfl⟩;rw[zg.1 e];exact .inl (by show(3:Int)<13;decide)
 split at h
 ·exact i _ h
 split at h
 ·exact i _ h
 ·rw[h.2.1,h.2.2];exact⟨a,.inl rfl,rfl⟩
theorem EK{x:AN}{s a:SE}{r:RR}{l:List RR}(h:L6 x s r a l):a.a5P=s.a5P:=by
 have c:∀d,qf x s d r a l->a.a5P=s.a5P:=fun d h=>by
  obtain⟨_,⟨f,rfl,_⟩,_⟩:=h;rfl
 unfold L6 at h;split at h
 ·rw[h.1]
 split at h
 ·rw[h.1]
 split at h
 ·rcases h with⟨_,e,_⟩|⟨b,_,e,_⟩<;>rw[e]
 split at h
 ·rw[h.1]
 split at h
 ·rw[h.1]
 split at h
 ·rw[h.1]
 split at h
 ·exact c _ h
 split at h
 ·exact c _ h
 ·rw[h.1]
theorem NE{l:List RR}{r:RR}(h:r.kind=1\/r.kind=2):qt (l++[r])=false:=by
 match l with
 |[]=>show(decide (r.kind=4)&&_)=false;rw[jc qb];rfl
 |[a]=>rfl
 |a::b::l=>rfl
theorem JG{l:List RR}{r q:RR}:qt (l++[r,q])=false:=by
 match l with
 |[]=>rfl
 |[a]=>rfl
 |a::b::l=>rfl
def TI(g:Bs)(l:List RR):Prop:=(qt l=true/\l.countP X3=0)\/(qt l=false/\l.countP X3=1/\l.countP (aH g)=1)
theorem NF{x:AN}{s l:SE}{m:DD}(h:fk x s l m)(hg:x.c.tag≠[42])(i:s.a5P=false):TI x.c.tag m.a5T/\l.a5P=false:=by
 have a:∀t:Bs,X3 (G2 t)=false/\aH x.c.tag (G2 t)=false:=fun t=>qh;unfold fk at h;split at h
 ·rw[h.1,h.2];exact⟨.inl qh,i⟩
 split at h
 ·rw[h.1,h.2];have b:=gM (r:=bT x.c.tag) hg (.inl rfl) rfl;refine⟨.inr ⟨rfl,?_,?_⟩,i⟩
  ·show List.countP X3 [G2 bg,bT x.c.tag]=1;rw[Zy (by rw[(a _).1];decide),jh b.1];rfl
  ·show List.countP (aH x.c.tag) [G2 bg,bT x.c.tag]=1;rw[Zy (by rw[(a _).2];decide),jh b.2];rfl
 obtain⟨r,s1,c,n,d,j,e,f⟩:=h;have g:(xK x s).a5P=s.a5P:=by unfold xK;split<;>rfl
 have k1:(∀q∈c,uI q)/\((r.kind=1\/r.kind=2)/\r.tag=x.c.tag)/\s1.a5P=false:=by
  split at j
  ·have b:=JF j;exact⟨b.1,b.2,by rw[EK j,g,i]⟩
  ·obtain⟨o,p,u⟩:=j;rw[p,u];exact⟨fun _ h=>(by cases h),⟨.inr rfl,rfl⟩,by rw[o,g,i]⟩
 have k2:(∀q∈d,uI q)/\n.a5P=false:=by
  split at e
  ·rw[e.1,e.2];exact⟨fun q v=>.inl (JE _ _ _ _ q v),k1.2.2⟩
  ·rw[e.1,e.2];exact⟨fun _ h=>(by cases h),k1.2.2⟩
 have k:=gM hg k1.2.1.1 k1.2.1.2;split at f
 ·rw[f.1,f.2];refine⟨.inr ⟨JG,?_,?_⟩,k2.2⟩
  ·show List.countP X3 (c++d++[r,G2 bn])=1;rw[Zj,Zj,nJ k1.1,nJ k2.1,jh k.1];rfl
  ·show List.countP (aH x.c.tag) (c++d++[r,G2 bn])=1;rw[Zj,Zj,kO hg k1.1,kO hg k2.1,jh k.2];rfl
 ·rw[f.1,f.2];refine⟨.inr ⟨NE k1.2.1.1,?_,?_⟩,k2.2⟩
  ·show List.countP X3 (c++d++[r])=1;rw[Zj,Zj,nJ k1.1,nJ k2.1,jh k.1];rfl
  ·show List.countP (aH x.c.tag) (c++d++[r])=1;rw[Zj,Zj,kO hg k1.1,kO hg k2.1,jh k.2];rfl
def ij(t:TN):Nat:=if t.comes=true/\t.d.want=[]/\qt t.d.a5T=false then 1 else if t.hears=true/\(t.hk=1\/t.hk=3)/\t.a.a5K≠3/\t.a.a5P=false/\t.d.ask=false then 1 else 0
structure QP(t:TN):Prop where
 one:t.comes=true->t.d.want=[]->qt t.d.a5T=false->t.d.a5T.countP (aH t.c.tag)=1
 all:t.d.a5T.countP X3=ij t
 a5P:t.b.a5P=(t.d.ask||t.a.a5P&&!t.comes||decide (t.d.want≠[]))
def EL(w:WM):Prop:=w.s.a5P=true->lK w.s.cmd.tag
theorem TJ{l:List RR}(h:Nz l):l.countP X3=1:=by
 obtain⟨g,hg,h⟩:=h;have a:=(gM (r:=bT g) hg.ne.2.1 (.inl rfl) rfl).1;rcases h with rfl|rfl|rfl|rfl|⟨q,_,rfl⟩
 ·rw[jh a];rfl
 ·rw[Zy qp,jh a];rfl
 ·rw[Zy qp,jh a];rfl
 ·rw[Zy qp,jh a];rfl
 ·rw[jh (gM (r:=kP g q.1 q.2) hg.ne.2.1 (.inr rfl) rfl).1];rfl
theorem TK{l:List RR}(h:TH l):l.countP X3=1:=by
 obtain⟨g,t,_,_,rfl⟩:=h;have:X3 (eL g t)=true:=by
  unfold X3;show(decide ((3:Int)<=3)&&(_||decide ((3:Int)=3)))=true;simp
 rw[jh this];rfl
theorem JH{n:Nat}{w w':WM}{a:AX}{t:TN}(hw:IV n w)(ha:iP a)(D:EL w)(hs:kK w a w' t):QP t/\EL w':=by
 rcases hs with⟨_,u,rfl,rfl⟩|⟨w1,c,s,ht,hv,o⟩
 ·exact⟨⟨fun h=>(by cases h),rfl,by show w'.s.a5P=(false||w'.s.a5P&&!false||decide (([]:List Bs)≠[]));rw[u];rfl⟩,D⟩
 obtain⟨q,J,_,M⟩:=ht;unfold cD at s;split at s
 ·obtain⟨p,_,_,k,d,_,_⟩:=s;have y:=xu ha.text p;have T:=zS ha.text hw.se.box p;have U:t.d.want=[]:=by
   rcases T with⟨_,_,_,_,e,_⟩|⟨_,_,_,_,u⟩
   ·exact e
   ·exact u.want
  rcases y with⟨i,V,X⟩|⟨i,y⟩
  ·have Y:t.b.a5P=true:=by
    rcases T with⟨e,_⟩|⟨c,l,r,b,u⟩
    ·rw[i] at e;cases e
    ·rw[u.s']
   refine⟨⟨fun h=>(by rw[d] at h;cases h),?_,?_⟩,fun _=>by rw[o.s];exact X⟩
   ·rw[V];unfold ij;rw[zk (fun e=>by rw[d] at e;cases e.1),zk (fun e=>by rw[i] at e;cases e.2.2.2.2)];rfl
   ·rw[Y,i];rfl
  ·have z:t.b.a5P=w.s.a5P/\(w.s.a5P=true->t.b.cmd=w.s.cmd):=by
    rcases T with⟨_,_,_,_,_,e|⟨e,g⟩|e⟩|⟨c,l,r,b,u⟩
    ·rw[e];exact⟨rfl,fun _=>rfl⟩
    ·rw[e];exact⟨rfl,fun _=>rfl⟩
    ·rw[e];exact⟨rfl,fun _=>rfl⟩
    ·have:=u.ask;rw[i] at this;cases this
   refine⟨⟨fun h=>(by rw[d] at h;cases h),?_,?_⟩,fun h=>?_⟩
   ·unfold ij;rw[zk (fun e=>by rw[d] at e;cases e.1),q,J];rcases y with⟨m,j⟩|⟨m,j,Z⟩|⟨m,j,Z,e4⟩
    ·rw[m,zk];rfl;rintro⟨_,f1,f2,f3,_⟩;rcases j with e|e|⟨e,e'⟩
     ·exact f2 e
     ·rw[f3] at e;cases e
     ·rcases f1 with f|f
      ·exact e f
      ·exact e' f
    ·rw[zk (fun f=>by rcases f.2.1 with f|f;exact j f;exact Z f)];rcases m with e|e<;>rw[e]<;>rfl
    ·rw[zu ⟨k,m,j,Z,i⟩];rcases e4 with e|⟨e,_⟩
     ·exact TJ e
     ·exact TK e
   ·rw[i,q,d,U,z.1];simp
   ·rw[o.s] at h⊢;rw[z.1] at h;rw[z.2 h];exact D h
 split at s
 ·obtain⟨g,⟨s1,d1,p,h2⟩,_,_,k,d,_,_⟩:=s;have hg:=(D g).ne.2.1;have O:∀bl,ey w.s (D6 w.m.s w.q).1 (D6 w.m.s w.q).2 bl t.b t.d->QP t/\EL w':=fun bl h=>by
   unfold ey at h;rw[zk (by rw[g];simp)] at h;rcases h with⟨v,h0,_,m,j⟩|⟨x,Q,_,_,_,_,_,hx⟩
   ·have A:t.d.want≠[]:=(by rw[j];exact h0);refine⟨⟨fun _ h=>absurd h A,?_,?_⟩,fun h=>by rw[o.s,m];exact D g⟩
    ·unfold ij;rw[zk (fun e=>A e.2.1),zk (fun e=>by rw[k] at e;cases e.1),j];rfl
    ·rw[m,g,kr A];simp
   ·have hr:=cC hx;have ha:=NF hx (by rw[Q];exact hg) rfl;rw[Q] at ha;rw[<-M] at ha;refine⟨⟨fun _ _ h=>?_,?_,?_⟩,fun h=>by rw[o.s,ha.2] at h;cases h⟩
    ·rcases ha.1 with⟨e,_⟩|⟨_,_,e⟩
     ·rw[h] at e;cases e
     ·exact e
    ·unfold ij;rcases ha.1 with⟨e,j⟩|⟨e,j,_⟩
     ·rw[zk (fun f=>by rw[e] at f;cases f.2.2),zk (fun e=>by rw[k] at e;cases e.1),j]
     ·rw[zu ⟨d,hr.2.1,e⟩,j]
    ·rw[ha.2,hr.2.2.1,d,hr.2.1];simp
  split at h2
  ·obtain⟨m,j⟩:=h2;rw[<-m,<-j] at p;exact O _ p
  ·exact O _ h2
 split at s
 ·obtain⟨p,_,_,k,d,_,_⟩:=s;have i:=(Cb w.s).1;have j:t.d=(T6 w.s).2:=by rw[<-p]
  have m:t.b=(T6 w.s).1:=by rw[<-p]
  have C:t.d.want=[]:=by
   rw[j];unfold T6;split;rfl;split<;>rfl
  have S:t.d.ask=false:=by rw[j];exact i
  cases g:w.s.a5P with
  |false=>
   have ef:T6 w.s=(w.s,F8):=(by unfold T6;rw[zu g]);refine⟨⟨fun h=>(by rw[d,g] at h;cases h),?_,?_⟩,fun h=>?_⟩
   ·unfold ij;rw[zk (fun e=>by rw[d,g] at e;cases e.1),zk (fun e=>by rw[k] at e;cases e.1),j,ef];rfl
   ·rw[m,ef,S,q,C,g];rfl
   ·rw[o.s,m,ef,g] at h;cases h
  |true=>
   have hg:=(D g).ne.2.1;have hk:TI t.c.tag t.d.a5T/\qt t.d.a5T=false/\t.b.a5P=false:=by
    rw[m,j,M];unfold T6;rw[zk (by rw[g];simp)];split
    ·have p:=gM (r:=bT w.s.cmd.tag) hg (.inl rfl) rfl;refine⟨.inr ⟨rfl,?_,?_⟩,rfl,rfl⟩
     ·show List.countP X3 [G2 bg,bT w.s.cmd.tag]=1;rw[Zy qp,jh p.1];rfl
     ·show List.countP (aH w.s.cmd.tag) [G2 bg,bT w.s.cmd.tag]=1;rw[Zy (show¬(aH w.s.cmd.tag (G2 bg)=true) by show¬(false=true);decide),jh p.2];rfl
    ·have p:=gM (r:=kP w.s.cmd.tag [85,78,65,86,65,73,76,65,66,76,69] [116,114,121,32,97,103,97,105,110]) hg (.inr rfl) rfl;refine⟨.inr ⟨rfl,?_,?_⟩,rfl,rfl⟩
     ·show List.countP X3 [kP w.s.cmd.tag _ _]=1;rw[jh p.1];rfl
     ·show List.countP (aH w.s.cmd.tag) [kP w.s.cmd.tag _ _]=1;rw[jh p.2];rfl
   obtain⟨k1,k2,k3⟩:=hk;have k4:t.d.a5T.countP X3=1/\t.d.a5T.countP (aH t.c.tag)=1:=by
    rcases k1 with⟨e,_⟩|⟨_,e⟩
    ·rw[k2] at e;cases e
    ·exact e
   refine⟨⟨fun _ _ _=>k4.2,?_,?_⟩,fun h=>by rw[o.s,k3] at h;cases h⟩
   ·unfold ij;rw[zu ⟨by rw[d];exact g,C,k2⟩,k4.1]
   ·rw[k3,S,q,d,C,g];rfl
 ·obtain⟨m,j,_,_,k,d,_,_⟩:=s;refine⟨⟨fun h=>(by rw[d] at h;cases h),?_,?_⟩,fun h=>by rw[o.s,m] at h⊢;exact D h⟩
  ·unfold ij;rw[zk (fun e=>by rw[d] at e;cases e.1),zk (fun e=>by rw[k] at e;cases e.1),j];rfl
  ·rw[m,j,q,d];simp
theorem JI{w0 w:WM}{l:List AX}{c:List TN}(h:bq w0 l c w)(e:IV 0 w0)(f:EL w0)(ha:∀a∈l,iP a)(hl:l.length<=800):(∀t∈c,QP t)/\EL w:=by
 induction h with
 |nil=>exact⟨fun _ h=>(by cases h),f⟩
 |snoc hp hs ih=>
  rename_i l c w n a t;have g:l.length+1<=800:=by simpa using hl
  obtain⟨i,j⟩:=ih (fun a h=>ha a (Kc _ h)) qb;have d:=(qD hp e (fun a h=>ha a (Kc _ h)) qb).1;obtain⟨k,m⟩:=JH d (ha _ (K3 _ (zg.2 rfl))) j hs;refine⟨fun q b=>?_,m⟩;rcases zb.1 b with b|b
  ·exact i q b
  ·rw[zg.1 b];exact k
def TL(w:WM)(a:AX)(ts:List TN)(h:l_)(v:Value)(A:List As):Prop:=∃w' t o,v=.tuple #[EW w',.slice (Prod.fst o) (ts++[t]).length (Prod.snd o)]/\A=[]/\o0 h (Prod.fst o) ((ts++[t]).flatMap dH)/\kK w a w' t/\lI w' h/\rn t h
theorem Ce(w:WM)(a:AX)(z:QL)(b:List TN)(U:Option Addr)(V:Nat)(X:BV w a)(Y:b.length<=1000):
  Cm prog 19 [EW w,.slice U b.length V,acA a z] (fun h=>lI w h/\dC a.other z h/\o0 h U (b.flatMap dH)) [] (TL w a b):=by
 refine y4 22 func19 rfl rfl rfl ?_;rintro F R ⟨n,y,C⟩;refine C6 ?_;refine m9 rfl rfl ?_;intro x;refine m9 rfl rfl ?_;intro g5;refine i7 rfl ?_;intro D;refine p_ ?_;refine D5 (H':=ie x w::.blk g5 (.cells (EY a z).toArray 70)::.blk D (.cells JW.toArray 65)::R) (fun v d=>C5 (A:=[_,_,_]) (J:=[]) tk d) ?_;refine y9 ?_;refine A8 (IK w a z X) ⟨n,y⟩ ?_;rintro v A F1 M ⟨o,t,c,rfl,rfl,hf⟩;refine I7 (H':=_::_::_::(fm c t++R)) (fun v d=>d.perm (Qb (fm c t) [_,_,_] R)) ?_;refine E5 ?_;refine i7 rfl ?_;intro O;refine y9 ?_;refine D5 (H':=(iM O t::ie x o::.blk D (.cells JW.toArray 65)::R)++fm c t) (fun v d=>?_) (bZ fun F2 p j=>?_)
 ·have h9:Hp F1 v (iM O t::ie x o::.blk D (.cells JW.toArray 65)::(fm c t++R)):=C5 (A:=[_,_,_]) (J:=[_]) tk d;exact h9.perm (((kz.cons _).cons _).cons _)
 obtain⟨bs,j⟩:=j;have f:=M.trans p;obtain⟨Q,S⟩:=Ja (Mn.le f.heap n) hf p.heap j;clear j;have g:=C.le f.heap;refine u7 ?_;refine D8 [0,4] [1,3,5,6,7] [ie x o,iM O t] 9 ?_;refine wd [0,2,4] ?_;refine bv 1 5 rfl rfl i6 ?_ ?_;refine M5 rfl ?_;intro T;refine ah ?_;refine bv 3 5 rfl rfl i6 ?_ ?_;refine u6 dH (l:=[]) (m:=b) U4 eW (by show(0+b.length)*1216<=_;omega) ?_ (hsrc:=fun v d=>g.le d.keep) (h63:=by simp only[zn];omega);intro q r _;refine ah ?_;refine h_ 5 rfl i6 ?_;refine C4 dH t rfl ?_;intro s _;refine ah ?_;refine h_ 6 rfl i6 ?_;refine u6 dH (l:=b) (m:=[t]) U4 eW (by show(b.length+1)*1216<=_;omega) ?_;intro e i _;refine gj [7,8] ?_
 rotate_left 1
 refine C4 dH t rfl ?_;intro s _;refine ah ?_;refine h_ 3 rfl i6 ?_;refine u6 dH (l:=[]) (m:=b) U4 eW (by show(0+b.length)*1216<=_;omega) ?_ (hsrc:=fun v d=>g.le d.keep) (h63:=by simp only[zn];omega);intro q r _;refine ah ?_;refine h_ 6 rfl i6 ?_;refine u6 dH (l:=b) (m:=[t]) U4 eW (by show(b.length+1)*1216<=_;omega) ?_;intro e i _;refine gj [7,8] ?_
 rotate_left 1
 refine C4 dH t rfl ?_;intro s _;refine ah ?_;refine h_ 1 rfl i6 ?_;refine M5 rfl ?_;intro T;refine ah ?_;refine h_ 3 rfl i6 ?_;refine u6 dH (l:=[]) (m:=b) U4 eW (by show(0+b.length)*1216<=_;omega) ?_ (hsrc:=fun v d=>g.le d.keep) (h63:=by simp only[zn];omega);intro q r _;refine ah ?_;refine h_ 6 rfl i6 ?_;refine u6 dH (l:=b) (m:=[t]) U4 eW (by show(b.length+1)*1216<=_;omega) ?_;intro e i _;refine gj [7,8] ?_
 rotate_left 1
 all_goals (refine u7 ?_)
 all_goals
  refine B8 (Z:=[.own (.slice e (b++[t]).length i) 48 99 ((b++[t]).flatMap dH)]) tk fun F3 k ⟨bs,j⟩=>?_;have u:o0 F3.heap e ((b++[t]).flatMap dH):=A3.rd j ud;clear j;refine A2 ?_;refine H3 (A:=[]) (v:=.tuple #[EW o,.slice e (b++[t]).length i]) (f.trans k) ⟨o,t,(e,i),rfl,rfl,u,hf.step,Mn.le k.heap Q,Mn.le k.heap S⟩ ?_;exact D2 rfl rfl rfl ud rfl _ qh (fun v d=>C5 (A:=[]) (J:=[_,_,_,_]) tk d)
abbrev mS:Bs:=[97,32,76,79,71,73,78,32,120,32,104,111,114,110]
abbrev lL:Bs:=[98,32,83,69,76,69,67,84,32,73,78,66,79,88]
abbrev EM:Bs:=[99,32,76,79,71,79,85,84]
abbrev aL(s:Bs):AX:=⟨0,1,s,false,cW⟩
abbrev aC:AX:=⟨1,0,[],false,cW⟩
def fW(s:Bs):CM:=((T5 (cA s) s (behind s)).map Prod.fst).getD ir
def sS(s:Bs):Bool:=cj s&&!decide (H6 (R8 (P9 s))=0\/qU s=true/\H6 (R8 (P9 s))<15)&&decide ((cA s).kind≠15)&&decide ((T5 (cA s) s (behind s)).map Prod.snd=some s.length)
theorem JJ{s:Bs}{c:CM}{e:Int}(hl:sS s=true)(h:bC s c e):c=fW s/\e=0:=by
 unfold sS at hl;simp only[kw,Zn,Zw,jw] at hl;obtain⟨⟨⟨j,k⟩,l⟩,m⟩:=hl;obtain⟨⟨C,n⟩,g,b⟩:=kx.1 m;have b:n=s.length:=b;subst b;have d:fW s=C:=by unfold fW;rw[g];rfl
 unfold bC at h;rw[zk (by rw[j];simp),zk k] at h;rw[d];have a:∀r,bF s (cA s) (behind s) r->r=some (C,s.length):=fun r f=>by
  unfold bF at f;rw[zk l,g] at f;exact f
 rcases h with⟨h,o⟩|⟨h|⟨q,h,i⟩,_⟩
 ·have:=a _ h;injection this with this;injection this with this;exact⟨this,o⟩
 ·cases a _ h
 ·have:=a _ h;injection this with this;rw[this] at i;exact absurd rfl i
theorem TM:sS mS=true:=by kernel_rfl
theorem TO:sS lL=true:=by kernel_rfl
theorem TP:sS EM=true:=by kernel_rfl
theorem lM{w w':WM}{s:Bs}{t:TN}(h:kK w (aL s) w' t)(hl:sS s=true)(i:w.s.a5P=false)(j:w.s.a5K≠3)(hf:(O3 (fW s).kind).1<=w.s.a5K/\w.s.a5K<=(O3 (fW s).kind).2)(m:(fW s).kind<14):
  (t.b,t.d)=NX (fun _=>[]) (w.s,F8) (fW s)/\∃a:WM,a.m.s=w.m.s/\a.bl=w.bl/\a.q=w.q/\a.tr=w.tr/\sO a t w':=by
 rcases h with⟨h,_⟩|⟨a,c,d,_,g,f⟩
 ·cases h
 ·unfold cD at d;rw[zu rfl] at d;obtain⟨b,k,l,_⟩:=d;refine⟨?_,a,k,l,g.1,g.2,f⟩;unfold cB at b;rw[zk (by show¬(1:Int)=2;decide),zk (by rw[i];simp[j]),zk (by show¬(1:Int)=4;decide),zk (by show¬(1:Int)=3;decide),zu rfl] at b;obtain⟨c,e,hp,b⟩:=b;obtain⟨rfl,rfl⟩:=JJ hl hp;rcases b with⟨h,_⟩|⟨h,_⟩|⟨h,_⟩|⟨_,⟨h,_⟩|⟨_,_,h⟩⟩
  ·cases h
  ·cases h
  ·cases h
  ·omega
  ·unfold PW at h;rw[zk qb,zk qb] at h;exact h
theorem lN{w w':WM}{t:TN}(h:kK w aC w' t)(m:w.s.a5P=true)(n:w.s.cmd.kind≠16/\w.s.cmd.kind≠15):
  (∃x:AN,x.c=w.s.cmd/\x.m.s=(D6 w.m.s w.q).1/\x.o=(D6 w.m.s w.q).2/\fk x (V8 w.s) t.b t.d)/\∃a:WM,a.m.s=(D6 w.m.s w.q).1/\a.bl=w.bl/\a.q=w.q/\a.tr=w.tr/\sO a t w':=by
 rcases h with⟨_,h,_⟩|⟨a,c,j,_,o,k⟩
 ·rw[m] at h;cases h
 ·unfold cD at j;rw[zk qp,zu rfl] at j;obtain⟨_,⟨s1,u,q,l⟩,r,s,_⟩:=j;refine⟨?_,a,r,s,o.1,o.2,k⟩;have g:∀{p:SE} {d':DD} {bl:BL},ey w.s (D6 w.m.s w.q).1 (D6 w.m.s w.q).2 bl p d'->d'.want=[]/\∃x:AN,x.c=w.s.cmd/\x.m.s=(D6 w.m.s w.q).1/\x.o=(D6 w.m.s w.q).2/\fk x (V8 w.s) p d':=fun h=>by
   unfold ey at h;rw[zk (by rw[m];simp)] at h;rcases h with⟨_,_,⟨_,h|h⟩,_⟩|⟨x,b,d,f,_,_,_,i⟩
   ·exact absurd h n.1
   ·exact absurd h n.2
   ·exact⟨(cC i).2.1,x,b,d,f,i⟩
  obtain⟨e,x,b,d,f,i⟩:=g q;rw[zu e] at l;exact⟨x,b,d,f,by rw[l.1,l.2];exact i⟩
theorem ez{w0 w':WM}{L:List AX}{d:List TN}(h:bq w0 L d w'):∀l a,L=l++[a]->∃b w t,d=b++[t]/\bq w0 l b w/\kK w a w' t:=by
 cases h with
 |nil=>intro l a e;exact absurd e.symm x6
 |snoc hp hs=>
  intro l a e;obtain⟨f,c⟩:=List.append_inj' e rfl;injection c with c;subst f c;exact⟨_,_,_,rfl,hp,hs⟩
abbrev JY:List AX:=[aL mS,aC,aL lL,aC,aL EM,aC]
def TQ:SE:={oD with a5P:=true,cmd:=fW mS,a5L:=[]}
def Uf:RQ:={cW with op:=1,node:=1,life:=1,tr:=1}
def TR:ML:=(D6 xj Uf).1
def S2a:SE:={V8 TQ with a5K:=1,ses:=(D6 xj Uf).2.ses,num:=0}
def EN:SD:=NX (fun _=>[]) (S2a,F8) (fW lL)
def M4a:ML:=(D6 TR EN.2.req).1
theorem k1a:(fW mS).kind=7:=by kernel_rfl
theorem k2a:(fW lL).kind=8:=by kernel_rfl
theorem Rj:(fW EM).kind=3:=by kernel_rfl
theorem d1a:NX (fun _=>[]) (oD,F8) (fW mS)=(TQ,{F8 with ask:=true,req:={cW with op:=1}}):=by kernel_rfl
theorem c2a:(D6 xj Uf).2.code=0:=by kernel_rfl
theorem b3a:EN.1.a5P=true:=by kernel_rfl
theorem e3a:EN.1.cmd=fW lL:=by kernel_rfl
theorem a3a:EN.2.ask=true:=by kernel_rfl
theorem o3a:¬EN.2.req.op=1:=by
 have:EN.2.req.op=3:=by kernel_rfl
 rw[this];decide
theorem c4a:(D6 TR EN.2.req).2.code=0:=by kernel_rfl
theorem f4a:(al M4a (fW lL).box).isSome=true:=by kernel_rfl
theorem zW{m:MM}(hm:m.s=xj){ts:List TN}{w:WM}(h:bq (xi m) JY ts w):
  ∃t1 t2 t3 t4 t5 s,ts=[t1,t2,t3,t4,t5,s]/\t2.d.a5T.length=1/\t4.d.a5T.length=6/\t4.d.a5T.getD 5 R0={bT (fW lL).tag with code:=aG 8}/\w.s.a5K=3/\s.d.close=true:=by
 obtain⟨_,w5,s,rfl,h,s6⟩:=ez h [aL mS,aC,aL lL,aC,aL EM] aC rfl;obtain⟨_,V,t5,rfl,h,s5⟩:=ez h [aL mS,aC,aL lL,aC] (aL EM) rfl;obtain⟨_,u,t4,rfl,h,s4⟩:=ez h [aL mS,aC,aL lL] aC rfl;obtain⟨_,w2,t3,rfl,h,s3⟩:=ez h [aL mS,aC] (aL lL) rfl;obtain⟨_,t,t2,rfl,h,s2⟩:=ez h [aL mS] aC rfl;obtain⟨X,w0,t1,rfl,h,s1⟩:=ez h [] (aL mS) rfl;have h0:w0=xi m/\X=[]:=by
  generalize hL:([]:List AX)=L at h
  cases h with
  |nil=>exact qh
  |snoc _ _=>exact absurd hL x6
 obtain⟨rfl,rfl⟩:=h0
 -- the first line
 obtain⟨Y,v1,Z,_,q9,v,j⟩:=lM s1 TM rfl (by show(0:Nat)≠3;decide) (by rw[k1a];exact⟨by show(O3 7).1<=0;decide,by show 0<=(O3 7).2;decide⟩) (by rw[k1a];decide);have Y:(t1.b,t1.d)=(TQ,{F8 with ask:=true,req:={cW with op:=1}}):=Y.trans d1a;injection Y with e1b e1d;have k:t.s=TQ:=by rw[j.s,e1b]
 have h1:t.m.s=xj:=by rw[j.m,Z];exact hm
 have h2:t.q=Uf:=by
  rw[j.q];unfold iN;rw[e1d,zu rfl,zu rfl,v];rfl
 -- what comes
 have A:t.s.cmd.kind=7:=by rw[k];exact k1a
 obtain⟨⟨x,h3,h4,c,hx⟩,v2,C,_,_,_,D⟩:=lN s2 (by rw[k];rfl) (by rw[A];decide);rw[h1,h2] at h4 c C;have l:x.c.kind=7:=by rw[h3];exact A
 have h5:xK x (V8 t.s)=V8 t.s:=by unfold xK uM;rw[l];rfl
 unfold fk at hx;rw[zk (by rw[c,c2a];decide),zk (by rw[l];decide)] at hx;obtain⟨r,x0,l1,x1,l2,d,J,g3⟩:=hx;rw[zu (by rw[c];exact c2a)] at d;unfold L6 at d;rw[zu (show(xL x).c.kind=7 from l)] at d;obtain⟨rfl,rfl,rfl⟩:=d;rw[zk (fun h=>absurd h.1 (by show¬(1:Nat)=2;decide))] at J;obtain⟨rfl,rfl⟩:=J;rw[zk (fun h=>absurd h.1 (by show¬(1:Nat)=2;decide))] at g3;obtain⟨h6,h7⟩:=g3;have e:w2.s=S2a:=by
  rw[D.s,h6,h5,k];show({V8 TQ with a5K:=1,ses:=x.o.ses,num:=0}:SE)=_;rw[c];rfl
 have h8:w2.m.s=TR:=by rw[D.m,C];rfl
 -- the second line
 obtain⟨M,v3,h9,_,x2,q7,n⟩:=lM s3 TO (by rw[e];rfl) (by rw[e];show(1:Nat)≠3;decide) (by rw[k2a,e];exact⟨by decide,by decide⟩) (by rw[k2a];decide);rw[e] at M;have M:(t3.b,t3.d)=EN:=M;have k0:t3.b=EN.1:=by rw[<-M]
 have k8:t3.d=EN.2:=by rw[<-M]
 have f:u.s=EN.1:=by rw[n.s,k0]
 have k9:u.m.s=TR:=by rw[n.m,h9,h8]
 have q0:u.q=EN.2.req:=by
  rw[n.q];unfold iN;rw[k8,zu a3a,zk o3a]
 -- what comes
 have O:u.s.cmd.kind=8:=by rw[f,e3a];exact k2a
 obtain⟨⟨y,o,Q,p,hy⟩,v4,x3,_,_,_,q1⟩:=lN s4 (by rw[f];exact b3a) (by rw[O];decide);rw[k9,q0] at Q p;have a:y.c.kind=8:=by rw[o];exact O
 have q2:uM y=true:=by unfold uM;rw[a];rfl
 unfold fk at hy;rw[zk (by rw[p,c4a];decide),zk (by rw[a];decide)] at hy;obtain⟨r,x9,l3,y0,l4,d,J,g4⟩:=hy;rw[zu (by rw[p];exact c4a)] at d;unfold L6 at d;rw[zk (show¬(xL y).c.kind=7 from by show¬y.c.kind=7;rw[a];decide),zk (show¬(xL y).c.kind=14 from by show¬y.c.kind=14;rw[a];decide),zu (show(xL y).c.kind=8\/(xL y).c.kind=9 from .inl a)] at d;rw[zk (fun h=>by rw[q2] at h;cases h.2.1)] at J g4;obtain⟨rfl,rfl⟩:=J;obtain⟨q3,S⟩:=g4;rcases d with⟨T,_⟩|⟨b,hb,rfl,rfl,rfl⟩
 ·exfalso;have hf:=f4a;have T:al y.m.s y.c.box=none:=T;rw[Q,o,f,e3a] at T;rw[show(D6 TR EN.2.req).1=M4a from rfl] at T;rw[T] at hf
  cases hf
 have g:V.s.a5P=false/\V.s.a5K=2:=by
  rw[q1.s,q3];refine⟨?_,rfl⟩;show(xK y (V8 u.s)).a5P=false;unfold xK;split<;>rfl
 -- the third line
 obtain⟨U,v5,y1,_,y2,q8,q4⟩:=lM s5 TP g.1 (by rw[g.2];decide) (by rw[Rj,g.2];exact⟨by decide,by decide⟩) (by rw[Rj];decide);unfold NX at U;rw[zk (by rw[Rj];decide),zk (by rw[Rj];decide),zu Rj,zk (show¬V.s.a5K=0 from by rw[g.2];decide)] at U;unfold G3 at U;rw[zk qp] at U;injection U with e5b e5d;have q:w5.s.a5P=true/\w5.s.cmd.kind=3:=by
  rw[q4.s,e5b];exact⟨rfl,Rj⟩
 obtain⟨⟨z,q5,_,_,hz⟩,v6,_,_,_,_,q6⟩:=lN s6 q.1 (by rw[q.2];decide);have i:s.b.a5K=3/\s.d.close=true:=by
  unfold fk at hz;split at hz
  ·rw[hz.1,hz.2];exact qh
  ·rw[zu (by rw[q5];exact q.2)] at hz;rw[hz.1,hz.2];exact qh
 refine⟨t1,t2,t3,t4,t5,s,rfl,?_,?_,?_,by rw[q6.s];exact i.1,i.2⟩
 ·rw[h7];rfl
 ·rw[S];rfl
 ·rw[S];show({(xL y).r with code:=aG (xL y).c.kind}:RR)=_;show({bT y.c.tag with code:=aG y.c.kind}:RR)=_;rw[a,o,f,e3a]
abbrev qI(b:Nat)(s:Bs)(p:Nat)(ok:Bool):As:=.blk b (.cells #[B s,.int .i64 (p:Nat),.bool ok] 116)
abbrev Ug(b:Nat)(s:Bs)(st:RS):As:=qI b s st.p st.ok
theorem NG{s w:Bs}{p:Nat}{ok:Bool}(h:p<=s.length):(mC s w ⟨p,ok⟩).2.p<=s.length/\p<=(mC s w ⟨p,ok⟩).2.p:=by
 unfold mC;split
 ·next a=>
  have:=a.2;rw[Gm,z8] at this;simp only[kw,jw] at this;simp only;omega
 ·simp only;omega
theorem JK(b:Nat)(s w:Bs)(p:Nat)(ok:Bool)(hs:s.length<=1000000000000)(hp:p<=s.length)(i:w.length<=1000000000000):Ct prog 42 [l9 b,B w] (fun _=>True) [qI b s p ok] (fun v A=>v=.bool (mC s w ⟨p,ok⟩).1/\A=[Ug b s (mC s w ⟨p,ok⟩).2]):=by
 obtain⟨q,c⟩:=o7 (w.isPrefixOf (s.drop p));refine b_ 33 func42 rfl rfl rfl ?_;intro F _;refine p_ ?_;refine w6 [(0,l9 b),(1,B w),(23,.bool (!ok||!q))] [qI b s p ok] ?_ ?_
 ·cases ok
  all_goals (
   refine u7 ?_;refine Aj [3,9,13] [] 19 ?_;refine wd [0,1,2,3,4,5,6,7,8,9,10,11,12,13] ?_;(first|refine s_ 14 ?_|refine t_ 14 ?_|refine F6 14 rfl ((H5 rfl rfl rfl qb).eq (v':=B (s.drop p)) (by rw[jq (by rw[z8];omega),jm])) rfl rfl rfl rfl rfl rfl i6 ?_);refine wd [15] ?_;refine h_ 16 rfl i6 ?_;(first|refine u_ ?_|(refine v_ ?_;refine e_ rfl (ai (s.drop p) w) qw rfl ?_;rw[<-c]));refine xB ?_;refine wd [17,18] ?_)
  all_goals exact o_ sub i_
 refine N8 ?_ ?_<;>intro h
 ·have e:mC s w ⟨p,ok⟩=(false,⟨p,ok⟩):=by
   unfold mC;refine zk fun d=>?_;simp only at d;rw[d.1,c,d.2] at h
   cases h
  rw[e];refine C8 ?_;exact d_ rfl rfl [qI b s p ok] qh i_
 ·rw[Q1] at h;have f:ok=true:=by simpa using h.1
  have g:q=true:=by simpa using h.2
  have e:mC s w ⟨p,ok⟩=(true,⟨p+w.length,ok⟩):=by
   unfold mC;exact zu ⟨f,c.symm.trans g⟩
  have a:=NG (s:=s) (w:=w) (p:=p) (ok:=ok) hp;rw[e] at a⊢;simp only at a;refine cG ?_;refine f_ ((p9 rfl rfl qb).eq (v':=.int .i64 ((p+w.length:Nat):Int)) (by congr 1)) ?_;refine JO ?_;exact d_ rfl rfl [qI b s (p+w.length) ok] qh i_
theorem EO(b:Nat)(s w:Bs)(p:Nat)(ok:Bool)(hs:s.length<=1000000000000)(hp:p<=s.length)(a:w.length<=1000000000000):Ct prog 46 [l9 b,B w] (fun _=>True) [qI b s p ok] (fun v A=>v=.tuple #[]/\A=[Ug b s (FJ s w ⟨p,ok⟩)]):=by
 refine b_ 10 func46 rfl rfl rfl ?_;intro F _;refine E5 ?_;refine x5 _ rfl (JK b s w p ok hs hp a) i_ qw rfl ?_;rintro v A ⟨rfl,rfl⟩;refine E5 ?_;exact m6 rfl [Ug b s (FJ s w ⟨p,ok⟩)] qh i_
theorem JL(b:Nat)(s w:Bs)(p:Nat)(ok:Bool)(hs:s.length<=1000000000000)(hp:p<=s.length)(n:w.length<=1000000000000):Ct prog 43 [l9 b,B w] (fun _=>True) [qI b s p ok] (fun v A=>v=B (ou s w ⟨p,ok⟩).1/\A=[Ug b s (ou s w ⟨p,ok⟩).2]):=by
 refine b_ 56 func43 rfl rfl rfl ?_;intro F _
 cases ok with
 |false=>
  refine KN ?_;exact d_ rfl rfl [qI b s p false] qh i_
 |true=>
  refine wk 11 ?_;refine o9 (ι:=Nat) (fun j=>p<=j/\j<=s.length/\∀i,p<=i->i<j->(!w.contains (s.getD i 0))=true) (fun j=>[(0,l9 b),(1,B w),(5,.int .i64 (p:Nat))]) (fun j=>[qI b s j true]) (fun j=>s.length-j) p ⟨z1 _,hp,fun i h t=>by omega⟩ ?_ ?_ ?_
  ·exact sub
  ·intro w n;exact n
  rintro j ⟨g,o,k⟩;obtain⟨q,a⟩:=o7 (decide ((j:Int)<(s.length:Nat)));obtain⟨u,d⟩:=o7 (!w.contains (s.getD j 0));refine u7 ?_;refine w6 [(0,l9 b),(1,B w),(5,.int .i64 (p:Nat)),(38,.bool (q&&u))] [qI b s j true] ?_ ?_
  ·cases q
   all_goals (
    refine u7 ?_;refine Aj [3,7,15,19] [] 24 ?_;refine wd [0,1,2,3,4,5,6,7,8] ?_;refine w_ 9 rfl ((E_ rfl rfl).eb a) ?_;refine wd [10,11,12,13,14,15,16,17,18,19] ?_;(first|refine s_ 20 ?_|refine t_ 20 ?_|refine F6 20 rfl ((A6 rfl rfl (by have:=qr a.symm;omega)).eq (v':=U8 (s.getD j 0)) (by simp only[jm])) rfl rfl rfl rfl rfl rfl i6 ?_);refine h_ 21 rfl i6 ?_;(first|refine u_ ?_|(refine v_ ?_;refine e_ rfl (aj w (s.getD j 0)) qw rfl ?_));refine xB ?_;(first|refine s_ 22 ?_|refine t_ 22 ?_|refine F6 22 rfl ((E_ rfl rfl).eq (qn ((yl _ _).trans d.symm))) rfl rfl rfl rfl rfl rfl i6 ?_);refine wd [23] ?_)
   all_goals exact o_ sub i_
  refine N8 ?_ ?_<;>intro l
  ·simp only[kw] at l;have x:j<s.length:=(by have:=qr (a.symm.trans l.1);omega);refine O2 ?_;refine f_ ((p9 rfl rfl qb).eq (v':=.int .i64 ((j+1:Nat):Int)) (by congr 1)) ?_;refine E5 ?_;refine l8 (j+1) ⟨by omega,by omega,fun i h t=>?_⟩ qb ?_ ?_
   ·rcases kd.1 t with y|rfl
    ·exact k i h y
    ·rw[<-d];exact l.2
   ·exact sub
   ·intro w n;exact n
  ·have m:j<s.length->(!w.contains (s.getD j 0))=false:=fun C=>by
    have:q=true:=a.trans qk;rw[this,Km] at l;rw[<-d];exact l
   obtain⟨r,z⟩:=AK (f:=fun c=>!w.contains c) g (.inl o) k m;have e:ou s w ⟨p,true⟩=((s.drop p).take (j-p),⟨j,true⟩):=by
    unfold ou FK;rw[zu rfl];simp only;rw[<-z,r]
   rw[e];refine u7 ?_;refine Aj [3,8] [] 11 ?_;refine wd [0,1,2,3,4,5,6,7,8] ?_;refine w_ 9 rfl ((H5 rfl rfl rfl qb).eq (v':=B ((s.drop p).take (j-p))) (jk B (jN g))) ?_;refine wd [10] ?_;refine A2 ?_;exact d_ rfl rfl [qI b s j true] qh i_
theorem EP(s:Bs)(hs:s.length<=1000000000000):Pu prog 44 [B s] (fun _=>True) (.bool (kV s)):=by
 refine b_ 27 func44 rfl rfl rfl ?_;intro F _;refine O2 ?_;refine o9 (ι:=Nat) (fun k=>k<=s.length/\∀j,j<k->gg (s.getD j 0)=true) (fun k=>[(0,B s),(5,.int .i64 (s.length:Nat)),(6,.int .i64 (k:Nat))]) (fun _=>[]) (fun k=>s.length-k) 0 ⟨by omega,fun j h=>by omega⟩ ?_ ?_ ?_
 ·exact sub
 ·intro w i;exact i
 rintro k ⟨z,a⟩;refine R6 ?_ ?_<;>intro h
 ·have l:k<s.length:=by simp at h;omega
  obtain⟨m,b⟩:=o7 (decide (((s.getD k 0).toNat:Int)<32));obtain⟨q,c⟩:=o7 (decide ((126:Int)<((s.getD k 0).toNat:Nat)));have r:gg (s.getD k 0)=!(m||q):=by
   rw[b,c,Kz];simp only[gg,kw,Zn,Q1,jw,Zw];omega
  refine y9 ?_;refine w6 [(0,B s),(5,.int .i64 (s.length:Nat)),(6,.int .i64 (k:Nat)),(18,.bool (m||q))] [] ?_ ?_
  ·cases m
   all_goals (
    refine y9 ?_;refine f_ ((A6 rfl rfl qb).eq (v':=U8 (s.getD k 0)) (by simp only[jm])) ?_;refine f_ ((E_ rfl rfl).eb b) ?_;refine E5 ?_;(first|refine u_ ?_|(refine v_ ?_;refine f_ ((A6 rfl rfl qb).eq (v':=U8 (s.getD k 0)) (by simp only[jm])) ?_));(first|refine u_ ?_|(refine v_ ?_;refine f_ ((D_ rfl rfl).eb c) ?_));refine p_ ?_)
   all_goals exact o_ sub i_
  refine N8 ?_ ?_<;>intro g
  ·have e:kV s=false:=by
    unfold kV;rw[yh (p:=gg) l (by rw[r,g];rfl)];rfl
   rw[e];refine C8 ?_;exact d_ rfl rfl [] qh (fun _ h=>h)
  ·refine y9 ?_;refine l8 (k+1) ⟨by omega,fun j u=>?_⟩ qb ?_ ?_
   ·rcases kd.1 u with v|rfl
    ·exact a j v
    ·rw[r,g];rfl
   ·exact sub
   ·intro w i;exact i
 have n:k=s.length:=by simp at h;omega
 subst n;obtain⟨o,d⟩:=o7 (!decide (s=[]));obtain⟨t,f⟩:=o7 (decide (((s.length:Nat):Int)<=512));have e:kV s=(o&&t):=by
  unfold kV;have x:s.all gg=true:=AG a;have g:(!s.isEmpty)=o:=by rw[d];cases s<;>simp
  have y:decide (s.length<=512)=t:=by rw[f];exact zp.mpr qb
  rw[x,g,y,Km]
 rw[e];clear e;refine u7 ?_
 cases o
 all_goals (
  refine p_ ?_;refine f_ ((E1 rfl rfl).eb d) ?_;refine E5 ?_;(first|refine u_ ?_|(refine v_ ?_;refine f_ ((F_ rfl rfl).eb f) ?_));refine y9 ?_)
 all_goals (refine A2 ?_;exact d_ rfl rfl [] qh (fun _ h=>h))
theorem sT(k:Nat)(a:k<4):Pu prog 35 [.int .i64 ((k:Int)+1)] (fun _=>True) (B (FG.getD k [])):=by
 refine b_ 7 func35 rfl rfl rfl ?_;intro F _;refine xC ?_;refine f_ (cN (v:=.agg #[B [79,75],B [78,79],B [66,65,68],B [66,89,69]]) rfl (fun w=>run_build w _ _ _ i6)) ?_;refine p_ ?_;refine f_ ((E0 rfl rfl qb).eq (v':=.int .i64 (k:Nat)) (by congr 1;omega)) ?_;refine f_ ((eE k rfl rfl rfl qb (v:=B (FG.getD k [])) (by have c:k=0\/k=1\/k=2\/k=3:=qb;rcases c with rfl|rfl|rfl|rfl<;>rfl))) ?_;refine C8 ?_;exact d_ rfl rfl [] qh (fun _ h=>h)
abbrev qJ:Bs:=[98,32,79,75,32,91,82,69,65,68,45,87,82,73,84,69,93,32,100,111,110,101,13,10]
abbrev r5:RR:=⟨1,[98],[82,69,65,68,45,87,82,73,84,69],[100,111,110,101],0,[],0,[],[],[]⟩
abbrev TS(x:RL)(h:l_):Prop:=Gl h/\fC r5 x h
theorem xv(b p:Nat)(w:Bs){q:Bool}{p':Nat}(hp:Nat.ble p 24=true)(a:Nat.ble w.length 100=true)(e:mC qJ w ⟨p,true⟩=(q,⟨p',true⟩)):Ct prog 42 [l9 b,B w] (fun _=>True) [qI b qJ p true] (fun v A=>v=.bool q/\A=[qI b qJ p' true]):=by
 have h:=JK b qJ w p true qp (Zp hp) (ju (Zp a) qp);rw[e] at h;exact h
theorem uJ(b p:Nat)(w:Bs){p':Nat}(hp:Nat.ble p 24=true)(a:Nat.ble w.length 100=true)(e:FJ qJ w ⟨p,true⟩=⟨p',true⟩):Ct prog 46 [l9 b,B w] (fun _=>True) [qI b qJ p true] (fun v A=>v=.tuple #[]/\A=[qI b qJ p' true]):=by
 have h:=EO b qJ w p true qp (Zp hp) (ju (Zp a) qp);rw[e] at h;exact h
theorem nK(b p:Nat)(w:Bs){t:Bs}{p':Nat}(hp:Nat.ble p 24=true)(a:Nat.ble w.length 100=true)(e:ou qJ w ⟨p,true⟩=(t,⟨p',true⟩)):Ct prog 43 [l9 b,B w] (fun _=>True) [qI b qJ p true] (fun v A=>v=B t/\A=[qI b qJ p' true]):=by
 have h:=JL b qJ w p true qp (Zp hp) (ju (Zp a) qp);rw[e] at h;exact h
theorem Cf{s:Bs}(h:kV s=true)(hs:Nat.ble s.length 100=true):Pu prog 44 [B s] (fun _=>True) (.bool true):=by
 have k:=EP s (ju (Zp hs) qp);rw[h] at k;exact k
theorem QQ(b:Nat):Ct prog 49 [l9 b,B [98]] (fun _=>True) [qI b qJ 2 true] (fun v A=>v=KP r5 L0/\A=[qI b qJ 22 true]):=by
 refine b_ 79 func49 rfl rfl rfl ?_;intro F _;refine p_ ?_;intro a;refine u7 ?_;refine E5 ?_;intro c;refine y9 ?_;refine x5 [po c ⟨0,[98],[],[],0,[],0,[],[],[]⟩ L0,po a R0 L0] rfl (nK b 2 [32,13] (t:=[79,75]) (p':=4) rfl rfl i6) (fun w d=>d.perm (kz (l₁:=[_,_]) (l₂:=[_]))) qw rfl ?_;rintro v A ⟨rfl,rfl⟩;refine y9 ?_;refine o9 (ι:=Nat) (fun k=>k<=4) (fun k=>[(0,l9 b),(1,B [98]),(4,l9 a),(5,l9 c),(6,B [79,75]),(7,.int .i64 ((k:Int)+1))]) (fun k=>[qI b qJ 4 true,po c ⟨((min k 1:Nat):Int),[98],[],[],0,[],0,[],[],[]⟩ L0,po a R0 L0]) (fun k=>4-k) 0 (zw _) sub i_ ?_;intro k l;refine bD ?_ ?_<;>intro h
 ·have e:k<4:=by have:=qr h;omega
  have j:decide (FG.getD k []=[79,75])=decide (k=0):=by
   have:k=0\/k=1\/k=2\/k=3:=(by omega);rcases this with rfl|rfl|rfl|rfl<;>rfl
  refine H9 0 ?_;refine w6 [(0,l9 b),(1,B [98]),(4,l9 a),(5,l9 c),(6,B [79,75]),(7,.int .i64 ((k:Int)+1))] [qI b qJ 4 true,po c ⟨1,[98],[],[],0,[],0,[],[],[]⟩ L0,po a R0 L0] ?_ ?_
  ·refine n8 ?_;refine p_ ?_;refine e_ rfl (sT k e) qw rfl ?_;refine p_ ?_;refine f_ ((B_ rfl rfl).eq (qn j)) ?_;refine N8 ?_ ?_<;>intro i
   ·have f:k=0:=qr i;subst f;refine E5 ?_;exact o_ sub i_
   ·have f:min k 1=1:=(by have:=zq i;omega);rw[f];refine u7 ?_;exact o_ sub i_
  refine p_ ?_;refine f_ ((p9 rfl rfl qb).eq (v':=.int .i64 ((((k+1:Nat):Int))+1)) (by congr 1)) ?_;refine p_ ?_;exact l8 (k+1) qb qb sub (fun w d=>by rw[show min (k+1) 1=1 by omega];exact d)
 have g:k=4:=by have:=zq h;omega
 subst g;refine p_ ?_;refine x5 _ rfl (uJ b 4 [32] (p':=5) rfl rfl i6) i_ qw rfl ?_;rintro v A ⟨rfl,rfl⟩;refine p_ ?_;refine x5 _ rfl (xv b 5 [91] (q:=true) (p':=6) rfl rfl i6) i_ qw rfl ?_;rintro v A ⟨rfl,rfl⟩;refine p_ ?_;refine x5 _ rfl (nK b 6 [93,13] (t:=[82,69,65,68,45,87,82,73,84,69]) (p':=16) rfl rfl i6) i_ qw rfl ?_;rintro v A ⟨rfl,rfl⟩;refine E5 ?_;refine x5 _ rfl (uJ b 16 [93,32] (p':=18) rfl rfl i6) i_ qw rfl ?_;rintro v A ⟨rfl,rfl⟩;refine wk 8 ?_;(first|refine u_ ?_|(refine v_ ?_;refine e_ rfl (Cf (s:=[82,69,65,68,45,87,82,73,84,69]) i6 rfl) qw rfl ?_));refine au ?_;refine x5 _ rfl (nK b 18 [13] (t:=[100,111,110,101]) (p':=22) rfl rfl i6) i_ qw rfl ?_;rintro v A ⟨rfl,rfl⟩;refine wk 10 ?_;(first|refine u_ ?_|(refine v_ ?_;refine f_ ((D_ rfl rfl).eq (v':=.bool true) rfl) ?_));refine O2 ?_;(first|refine u_ ?_|(refine v_ ?_;refine e_ rfl (Cf (s:=[100,111,110,101]) i6 rfl) qw rfl ?_));refine O2 ?_;(first|refine u_ ?_|(refine v_ ?_;refine f_ ((A6 rfl rfl qp).eq (v':=U8 100) rfl) ?_));(first|refine u_ ?_|(refine v_ ?_;refine f_ ((M1 rfl rfl).eq (v':=.bool true) rfl) ?_));refine O2 ?_;(first|refine u_ ?_|(refine v_ ?_;refine f_ ((M1 rfl rfl).eq (v':=.bool true) rfl) ?_));refine wk 10 ?_;refine A2 ?_;exact G6 rfl rfl ud rfl _ qh (fun w d=>d.left (A:=[_]))
theorem QR:Ct prog 23 [B qJ] Gl [] (fun v A=>v=.tuple #[KP r5 L0,.int .i64 24,.int .i64 0]/\A=[]):=by
 refine b_ 85 func23 rfl rfl rfl ?_;intro F hg;refine p_ ?_;intro e;refine E5 ?_;refine f_ ((cN (v:=.agg #[B qJ,.int .i64 0,.bool true]) rfl (fun w=>run_build w _ _ _ i6))) ?_;refine p_ ?_;intro a;refine p_ ?_;refine p_ ?_;intro d;refine p_ ?_;refine x5 [po d R0 L0,po e R0 L0] rfl (xv a 0 (FH++OO) (q:=false) (p':=0) rfl rfl i6) (fun w c=>c.perm (.swap _ _ _)) qw rfl ?_;rintro v A ⟨rfl,rfl⟩;refine y9 ?_;refine x5 _ rfl (xv a 0 (a03++OO) (q:=false) (p':=0) rfl rfl i6) i_ qw rfl ?_;rintro v A ⟨rfl,rfl⟩;refine y9 ?_;refine x5 _ rfl (xv a 0 [43,32] (q:=false) (p':=0) rfl rfl i6) i_ qw rfl ?_;rintro v A ⟨rfl,rfl⟩;refine y9 ?_;refine x5 _ rfl (xv a 0 [42,32] (q:=false) (p':=0) rfl rfl i6) i_ qw rfl ?_;rintro v A ⟨rfl,rfl⟩;refine y9 ?_;refine x5 _ rfl (nK a 0 [32,13] (t:=[98]) (p':=1) rfl rfl i6) i_ qw rfl ?_;rintro v A ⟨rfl,rfl⟩;refine y9 ?_;refine x5 _ rfl (uJ a 1 [32] (p':=2) rfl rfl i6) i_ qw rfl ?_;rintro v A ⟨rfl,rfl⟩;refine u7 ?_;have b:=oT [98] qp;rw[show iY [98]=true from by kernel_rfl] at b;refine wk 7 ?_;(first|refine u_ ?_|(refine v_ ?_;refine e_ rfl b (fun h f g=>trivial) rfl ?_));refine O2 ?_;(first|refine u_ ?_|(refine v_ ?_;refine f_ ((F_ rfl rfl).eq (v':=.bool true) rfl) ?_));refine E5 ?_;(first|refine u_ ?_|(refine v_ ?_;refine e_ rfl (aj [98] 43) qw rfl ?_));(first|refine u_ ?_|(refine v_ ?_;refine f_ ((E_ rfl rfl).eq (v':=.bool true) i6) ?_));refine cG ?_;refine x5 _ rfl (QQ a) i_ qw rfl ?_;rintro v A ⟨rfl,rfl⟩;refine y9 ?_;refine x5 _ rfl (uJ a 22 OO (p':=24) rfl rfl i6) i_ qw rfl ?_;rintro v A ⟨rfl,rfl⟩;refine au ?_;refine D8 [0,4] [5] [qI a qJ 24 true,po d r5 L0] 8 ?_;refine wd [0,1,2,3,4,5,6,7] ?_;refine A2 ?_;exact Fi rfl rfl rfl rfl ud rfl _ qh (fun w c=>c.dropAll)
theorem QS(x:RL):Pu prog 22 [KP r5 x] (TS x) (B [98,32,79,75,32,91,82,69,65,68,45,87,82,73,84,69,93,32,100,111,110,101]):=by
 refine b_ 159 func22 rfl rfl rfl ?_;intro F c;refine p_ ?_;intro a;refine E5 ?_;refine T0 ?_;refine f_ ((p8 rfl rfl).eq (v':=.bool true) rfl) ?_;refine p_ ?_;refine D8 [1,4] [5] [po a r5 x] 9 ?_;refine wd [0,1] ?_;refine w_ 2 rfl ((G9 rfl rfl qp).eq (v':=B [98,32]) rfl) ?_;refine wd [3,4] ?_;refine h_ 5 rfl i6 ?_;refine e_ (v:=B [79,75]) rfl (sT 0 qp) qw rfl ?_;refine ah ?_;refine w_ 6 rfl ((G9 rfl rfl qp).eq (v':=B [98,32,79,75]) rfl) ?_;refine w_ 7 rfl ((G9 rfl rfl qp).eq (v':=B [98,32,79,75,32]) rfl) ?_;refine wd [8] ?_;refine y9 ?_;refine f_ ((E1 rfl rfl).eq (v':=.bool true) rfl) ?_;refine E5 ?_;refine f_ ((G9 rfl rfl qp).eq (v':=B [91,82,69,65,68,45,87,82,73,84,69]) rfl) ?_;refine f_ ((G9 rfl rfl qp).eq (v':=B [91,82,69,65,68,45,87,82,73,84,69,93,32]) rfl) ?_;refine f_ ((G9 rfl rfl qp).eq (v':=B [98,32,79,75,32,91,82,69,65,68,45,87,82,73,84,69,93,32]) rfl) ?_;refine O2 ?_;refine f_ ((G9 rfl rfl qp).eq (v':=B [98,32,79,75,32,91,82,69,65,68,45,87,82,73,84,69,93,32,100,111,110,101]) rfl) ?_;refine C8 ?_;exact d_ rfl rfl [] qh (fun w b=>b.dropAll)
theorem TT(a b:Option Addr)(c d:Nat):Pu prog 51 [.slice a 0 c,.slice b 0 d] (fun _=>True) (.bool true):=by
 refine b_ 26 func51 rfl rfl rfl ?_;intro F _;refine wk 9 ?_;refine o9 (ι:=Unit) (fun _=>True) (fun _=>[(12,.int .i64 0),(13,.int .i64 0)]) (fun _=>[]) (fun _=>0) () trivial sub i_ ?_;intro _ _;refine L7 ?_;exact d_ rfl rfl [] qh (fun _ h=>h)
theorem TU(a b:Option Addr)(c d:Nat):Pu prog 52 [.slice a 0 c,.slice b 0 d] (fun _=>True) (.bool true):=by
 refine b_ 26 func52 rfl rfl rfl ?_;intro F _;refine wk 9 ?_;refine o9 (ι:=Unit) (fun _=>True) (fun _=>[(12,.int .i64 0),(13,.int .i64 0)]) (fun _=>[]) (fun _=>0) () trivial sub i_ ?_;intro _ _;refine L7 ?_;exact d_ rfl rfl [] qh (fun _ h=>h)
theorem TV(a b:Option Addr)(c d:Nat)(f:Value):Pu prog 53 [.slice a 0 c,.slice b 0 d,f] (fun _=>True) (.bool true):=by
 refine b_ 32 func53 rfl rfl rfl ?_;intro F _;refine wk 9 ?_;refine o9 (ι:=Unit) (fun _=>True) (fun _=>[(16,.int .i64 0),(17,.int .i64 0)]) (fun _=>[]) (fun _=>0) () trivial sub i_ ?_;intro _ _;refine L7 ?_;exact d_ rfl rfl [] qh (fun _ h=>h)
theorem QT(x:RL)(hx:x.vs=[]):Pu prog 24 [KP r5 x,KP r5 L0] (fun _=>True) (.bool true):=by
 obtain⟨b,c,d,e,f,g,h⟩:=x;simp only at hx;subst hx;refine b_ 75 func24 rfl rfl rfl ?_;intro F _;refine p_ ?_;intro i;refine p_ ?_;intro j;refine cG ?_;refine f_ ((p8 rfl rfl).eq (v':=.bool true) rfl) ?_;refine au ?_;(first|refine u_ ?_|(refine v_ ?_;refine f_ ((B_ rfl rfl).eq (v':=.bool true) rfl) ?_));refine cG ?_;(first|refine u_ ?_|(refine v_ ?_;refine f_ ((B_ rfl rfl).eq (v':=.bool true) rfl) ?_));refine cG ?_;(first|refine u_ ?_|(refine v_ ?_;refine f_ ((B_ rfl rfl).eq (v':=.bool true) rfl) ?_));refine cG ?_;(first|refine u_ ?_|(refine v_ ?_;refine f_ ((p8 rfl rfl).eq (v':=.bool true) rfl) ?_));refine cG ?_;(first|refine u_ ?_|(refine v_ ?_;refine e_ rfl (TU _ _ _ _) qw rfl ?_));refine cG ?_;(first|refine u_ ?_|(refine v_ ?_;refine e_ rfl (TT _ _ _ _) qw rfl ?_));refine cG ?_;(first|refine u_ ?_|(refine v_ ?_;refine f_ ((B_ rfl rfl).eq (v':=.bool true) rfl) ?_));refine wk 7 ?_;(first|refine u_ ?_|(refine v_ ?_;refine e_ rfl (TV _ _ _ _ _) qw rfl ?_));refine cG ?_;(first|refine u_ ?_|(refine v_ ?_;refine f_ ((p8 rfl rfl).eq (v':=.bool true) rfl) ?_));refine L7 ?_;exact d_ rfl rfl [] qh (fun w a=>a.dropAll)
theorem NH(x:RL)(hx:x.vs=[]):Pu prog 14 [KP r5 x] (TS x) (.tuple #[B qJ,.int .i64 0]):=by
 refine b_ 40 func14 rfl rfl rfl ?_;intro F b;refine p_ ?_;intro c;refine O2 ?_;refine f_ ((E_ rfl rfl).eq (v':=.bool false) rfl) ?_;refine E5 ?_;(first|refine u_ ?_|(refine v_ ?_;refine f_ ((D_ rfl rfl).eq (v':=.bool false) rfl) ?_));refine y9 ?_;refine e_ rfl (QS x) (fun h a d=>⟨b.1.le a,b.2.le a⟩) rfl ?_;refine f_ ((G9 rfl rfl qp).eq (v':=B qJ) rfl) ?_;refine y9 ?_;refine x5 [po c r5 x] rfl QR i_ (fun h a d=>b.1.le a) rfl ?_;rintro v A ⟨rfl,rfl⟩;refine O2 ?_;refine i7 rfl ?_;intro f;refine O2 ?_;refine f_ ((M1 rfl rfl).eq (v':=.bool false) rfl) ?_;refine O2 ?_;(first|refine u_ ?_|(refine v_ ?_;refine f_ ((M1 rfl rfl).eq (v':=.bool false) rfl) ?_));refine O2 ?_;(first|refine u_ ?_|(refine v_ ?_;refine e_ rfl (QT x hx) qw rfl ?_));refine JP ?_;exact r7 rfl rfl rfl [] qh (fun w e=>e.dropAll)
abbrev xw:List Bs:=[mS,lL,EM]
def r5a:RR:={bT (fW lL).tag with code:=aG 8}
theorem QU:r5a=r5:=by kernel_rfl
theorem Cg{i:Nat}(a:i<xw.length):JY.take (2*(i+1))=JY.take (2*i)++[aL xw[i]]++[aC]:=by
 have:i=0\/i=1\/i=2:=by have:xw.length=3:=rfl;omega
 rcases this with rfl|rfl|rfl<;>rfl
theorem JM:∀a∈JY,iP a:=fun a ha=>by
 have b:RqI cW:=⟨⟨by decide,by decide,by decide,by decide,qy⟩,fun e=>by cases e⟩;simp only[JY,ky,W5,or_false] at ha;rcases ha with rfl|rfl|rfl|rfl|rfl|rfl<;>exact⟨by decide,b⟩
theorem xx:Cm prog 9 [] Gl [] (fun h v A=>v=.bool true/\A=[]):=by
 refine y4 89 func9 rfl rfl rfl ?_;rintro F R hg;refine xC ?_;refine A8 xl trivial ?_;rintro v A F0 h6 ⟨m,rfl,rfl,hm,q9⟩;refine i7 rfl ?_;intro g1;refine xC ?_;refine M5 rfl ?_;intro a8;refine xC ?_;refine x7 rfl rfl rfl rfl rfl rfl (xs:=xw.flatMap xF) rfl rfl ?_;intro a9 x0;refine H9 2 ?_;have h7:∃ad,a9=some ad:=x0;refine B8 (Z:=[.own (.slice a9 3 3) 9 1 (xw.flatMap xF)]) tk fun F1 X ⟨bs,hb⟩=>?_;have x1:o0 F1.heap a9 (xw.flatMap xF):=A3.rd hb ud;clear hb;refine S6 (fun(e:List TN) (o:AC) (w:WM) (k:l6)=>F.le k/\bq (xi m) JY e w/\o0 k.heap o.1 (e.flatMap dH)/\∀t∈e,rn t k.heap) (fun e o _ _=>[(1,l9 g1),(2,.slice o.1 e.length o.2)]) (fun _ _ _ k=>k) (fun e o w _=>ie g1 w::R) ?_ ?_
 ·refine n8 ?_;refine bJ (ι:=Nat×List TN×AC×WM×l6) (fun i=>i.1<=3/\F1.le i.2.2.2.2/\bq (xi m) (JY.take (2*i.1)) i.2.1 i.2.2.2.1/\lI i.2.2.2.1 i.2.2.2.2.heap/\o0 i.2.2.2.2.heap i.2.2.1.1 (i.2.1.flatMap dH)/\∀t∈i.2.1,rn t i.2.2.2.2.heap) (fun i=>[(1,l9 g1),(2,.slice i.2.2.1.1 i.2.1.length i.2.2.1.2),(9,.slice a9 3 3),(10,.int .i64 3),(11,.int .i64 (i.1:Nat))]) (fun i=>i.2.2.2.2)
   (fun i=>match i with|(_,e,o,w,_)=>ie g1 w::R) (fun i=>3-i.1) (0,[],(a8,0),xi m,F1) ⟨zw _,l6.le_refl _,.nil,⟨hg.le (h6.trans X).heap,o0.nil _ _,⟨o0.nil _ _,fh.zero _⟩,Mn.le X.heap q9,⟨o0.nil _ _,o0.nil _ _⟩,o0.nil _ _⟩,o0.nil _ _,qy⟩ sub rfl (fun v c=>C5 (A:=[_]) (J:=[_]) tk c) ?_
  rintro⟨j,e,o,w,k⟩ ⟨hj,u,n,h8,d,p⟩;simp only at hj u n h8 d p;have h9:(JY.take (2*j)).length=2*j:=by rw[zm];show min (2*j) 6=_;omega
  have x:=qD n (xn hm) (fun a h=>JM a (Jz h)) (by rw[h9];omega);rw[h9] at x;have v1:e.length=2*j:=x.2;refine R6 ?_ ?_<;>intro h
  ·have y:j<xw.length:=(by have:=qr h;show j<3;omega);have v2:j<3:=y;obtain⟨s,hs⟩:=o7 (xw[j]);have k0:iP (aL s):=JM _ (Jz (i:=2*(j+1)) (by rw[Cg y,<-hs];simp));have x2:iP aC:=JM _ (by simp[JY]);have x3:=Ce w (aL s) db e o.1 o.2 (zT x.1 k0 qb) qb;refine H9 0 ?_;refine S6 (fun(f:List TN) (S:AC) (T:WM) (z:l6)=>F1.le z/\bq (xi m) (JY.take (2*(j+1))) f T/\lI T z.heap/\o0 z.heap S.1 (f.flatMap dH)/\∀t∈f,rn t z.heap) (fun f S _ _=>[(1,l9 g1),(2,.slice S.1 f.length S.2),(9,.slice a9 3 3),(10,.int .i64 3),(11,.int .i64 (j:Nat))]) (fun _ _ _ z=>z) (fun _ _ T _=>ie g1 T::R) ?_ ?_
   ·refine n8 ?_;refine C6 ?_;refine f_ (m8 rfl h7 rfl qb) ?_;refine r_ ((i8 rfl (fun v c=>cH (C:=xF) ((x1.le u.heap).le c.keep) dh y (j:=0) rfl x6)).eq (v':=B s) (by rw[hs])) ?_;refine O2 ?_;refine f_ (y8 (ps:=[(0,.const (.int .i64 1)),(1,.tmp 18)]) (vs:=[(0,.int .i64 1),(1,B s)]) (cells:=#[.int .i64 1,B s]) rfl i6) ?_;refine f_ (y8 (ps:=[(1,.tmp 19)]) (vs:=[(1,.agg #[.int .i64 1,B s])]) (cells:=(EY (aL s) db).toArray) rfl i6) ?_;refine A8 x3 ⟨h8,⟨o0.nil _ _,o0.nil _ _⟩,d⟩ ?_;rintro v A z D ⟨w1,t1,o1,rfl,rfl,Y,U,k8,k9⟩;refine au ?_;have q0:=IX x.1 k0 qb U;have x9:=Ce w1 aC db (e++[t1]) o1.1 o1.2 (zT q0 x2 qb) (by rw[zz];simp only[zy,zn];omega);refine y9 ?_;refine f_ (y8 (ps:=[(0,.const (.int .i64 1))]) (vs:=[(0,.int .i64 1)]) (cells:=(EY aC db).toArray) rfl i6) ?_;refine A8 x9 ⟨k8,⟨o0.nil _ _,o0.nil _ _⟩,Y⟩ ?_;rintro v A F4 h0 ⟨T,t2,S,rfl,rfl,h1,q1,q3,q5⟩;refine au ?_;exact y5 (e++[t1]++[t2],S,T,F4) ⟨(u.trans D).trans h0,by rw[Cg y,<-hs];exact .snoc (.snoc n U) q1,q3,h1,fun q M=>by
     rcases zb.1 M with M|M
     ·rcases zb.1 M with M|M
      ·exact Mn.le (D.trans h0).heap (p q M)
      ·rw[zg.1 M];exact Mn.le h0.heap k9
     ·rw[zg.1 M];exact q5⟩ rfl (fun v c=>C5 (A:=[_]) (J:=[]) tk c)
   rintro f S T z ⟨D,y0,y1,y2,y3⟩;refine y9 ?_;exact O_ (i:=(j,e,o,w,k)) (j+1,f,S,T,z) ⟨by simp only;omega,D,y0,y1,y2,y3⟩ qg sub rfl (fun v c=>c)
  ·refine u7 ?_;have z0:j=3:=(by have:=zq h;omega);subst z0;exact y5 (e,o,w,k) ⟨(h6.trans X).trans u,n,d,p⟩ rfl (fun v c=>c)
 rintro e o w k ⟨q6,n,d,p⟩;obtain⟨t1,t2,t3,r,t5,t6,O,p1,p2,p3,p4,p5⟩:=zW hm n;have v0:e.length=6:=by rw[O];rfl
 have Q:∃ad,o.1=some ad:=y7 (i:=0) d U4 qp qb;have q2:=p t2 (by rw[O];simp);have q4:=p r (by rw[O];simp);have n2:t2.y.rl.length=1:=by rw[<-p1,q2.a5T,zr]
 have n4:r.y.rl.length=6:=by rw[<-p2,q4.a5T,zr]
 have q7:=y7 (i:=5) q4.row N_ qp qb;have h5:5<r.y.rl.length:=by omega
 have h2:(r.y.rl[5]).1=r5a:=by
  have:=p3;rw[q4.a5T,zd,Zb,zj h5] at this;exact this
 obtain⟨V,h3⟩:=o7 (r.y.rl[5]);rw[<-h3] at h2;have g:o0 k.heap o.1 ([t1,t2,t3,r,t5,t6].flatMap dH):=by rw[<-O];exact d
 have z2:∀{v:World} {H:List As},Hp k v H->M0 (hp v) (N0 o.1 158) [.slice t2.y.da t2.y.rl.length t2.y.dc]:=fun c=>cH (C:=dH) (l:=[t1,t2,t3,r,t5,t6]) (i:=1) (j:=59) (g.le c.keep) U4 (by show 1<6;decide) rfl rfl;have q8:∀{v:World} {H:List As},Hp k v H->M0 (hp v) (N0 o.1 356) [.slice r.y.da r.y.rl.length r.y.dc]:=fun c=>cH (C:=dH) (l:=[t1,t2,t3,r,t5,t6]) (i:=3) (j:=59) (g.le c.keep) U4 (by show 3<6;decide) rfl rfl;have u0:∀{v:World} {H:List As},Hp k v H->M0 (hp v) (N0 o.1 576) [.bool true]:=fun c=>by
  have:=cH (C:=dH) (l:=[t1,t2,t3,r,t5,t6]) (i:=5) (j:=81) (v:=.bool t6.d.close) (q:=576) (g.le c.keep) U4 (by show 5<6;decide) rfl rfl
  rwa [p5] at this
 have h4:=q4.rep _ (zx h5);rw[<-h3] at h4;have u1:V.2.vs=[]:=by
  have:=h4.vals;rw[h2] at this;exact List.map_eq_nil_iff.1 this.symm
 have u2:Pu prog 14 [KP V.1 V.2] (fun h=>Gl h/\fC V.1 V.2 h) (.tuple #[B qJ,.int .i64 0]):=by rw[h2,QU];exact NH V.2 u1
 have u8:=hg.le q6.heap;refine y9 ?_;refine f_ ((M1 rfl rfl).eq (v':=.bool false) (jk (fun b=>Value.bool (!b)) (kr (show((e.length:Nat):Int)=6 by omega)))) ?_;refine y9 ?_;(first|refine u_ ?_|(refine v_ ?_;refine f_ (m8 rfl Q rfl qb) ?_));refine y9 ?_;(first|refine u_ ?_|(refine v_ ?_;refine r_ (i8 rfl (fun v c=>z2 c)) ?_));refine p_ ?_;(first|refine u_ ?_|(refine v_ ?_;refine f_ ((M1 rfl rfl).eq (v':=.bool false) (jk (fun b=>Value.bool (!b)) (kr (show((t2.y.rl.length:Nat):Int)=1 by omega)))) ?_));refine E5 ?_;(first|refine u_ ?_|(refine v_ ?_;refine f_ (m8 rfl Q rfl qb) ?_));refine y9 ?_;(first|refine u_ ?_|(refine v_ ?_;refine r_ (i8 rfl (fun v c=>q8 c)) ?_));refine p_ ?_;(first|refine u_ ?_|(refine v_ ?_;refine f_ ((M1 rfl rfl).eq (v':=.bool false) (jk (fun b=>Value.bool (!b)) (kr (show((r.y.rl.length:Nat):Int)=6 by omega)))) ?_));refine au ?_;(first|refine u_ ?_|(refine v_ ?_;refine f_ ((M1 rfl rfl).eq (v':=.bool false) (jk (fun b=>Value.bool (!b)) (kr (show((w.s.a5K:Nat):Int)=3 by omega)))) ?_));refine E5 ?_;(first|refine u_ ?_|(refine v_ ?_;refine f_ (m8 rfl Q rfl qb) ?_));refine y9 ?_;(first|refine u_ ?_|(refine v_ ?_;refine r_ (i8 rfl (fun v c=>u0 c)) ?_));refine E5 ?_;refine f_ (m8 rfl Q rfl qb) ?_;refine y9 ?_;refine r_ (i8 rfl (fun v c=>q8 c)) ?_;refine f_ (m8 rfl q7 rfl qb) ?_;refine r_ ((w8 rfl (fun v c=>fe (C:=qW) (i:=5) (q4.row.le c.keep) N_ qp h5 x6) (N_ _)).eq (v':=KP V.1 V.2) (by rw[h3])) ?_;refine e_ rfl u2 (fun h hh _=>⟨u8.le hh,h4.le hh⟩) rfl ?_;refine cG ?_;refine f_ ((p8 rfl rfl).eq (v':=.bool true) rfl) ?_;refine y9 ?_;(first|refine u_ ?_|(refine v_ ?_;refine f_ ((B_ rfl rfl).eq (v':=.bool true) (qn (kr rfl))) ?_));refine y9 ?_;(first|refine u_ ?_|(refine v_ ?_;refine c_ Is qw ?_;rintro v A ⟨ag,rfl,rfl⟩));refine p_ ?_;(first|refine u_ ?_|(refine v_ ?_;refine f_ ((p8 rfl rfl).eq (v':=.bool true) rfl) ?_));refine L7 ?_;refine H3 (A:=[]) (v:=.bool true) q6 qh ?_;exact d_ rfl rfl _ qh (fun v c=>C5 (A:=[]) (J:=[_,_]) tk c)
theorem sct(a b d c e:Bool):a=false\/(a=true/\b=false/\d=false)\/(a=true/\b=true/\c=true)\/(a=true/\b=false/\d=true/\c=true)\/(a=true/\b=true/\c=false/\e=true)\/(a=true/\b=false/\d=true/\c=false/\e=true)\/(a=true/\b=true/\c=false/\e=false)\/(a=true/\b=false/\d=true/\c=false/\e=false):=by
 cases a<;>cases b<;>cases d<;>cases c<;>cases e<;>simp
theorem NI{m:MM}:EL (xi m):=fun h=>by cases h
theorem tags_cm(l:List lJ)(la:Option Addr)(lc:Nat)(x0:zU l):
  Cm prog 3 [.slice la l.length lc] (Ji l la) [] (fun h v A=>v=.bool true/\A=[]):=by
 refine y4 143 func3 rfl rfl rfl ?_;rintro F R ⟨hg,h7,h8⟩;refine xC ?_;refine A8 xx hg ?_;rintro v A F0 f ⟨rfl,rfl⟩;refine E5 ?_;(first|refine u_ ?_|(refine v_ ?_;refine c_ (C:=[]) (Jf l la lc) (fun h hh _=>⟨(h7.le f.heap).le hh,fun p hp=>Mn.le hh (Mn.le f.heap (h8 p hp))⟩) ?_;rintro v A ⟨rfl,b,rfl,x3⟩));refine R6 ?_ ?_<;>intro h
 ·refine C6 ?_;refine A8 xx (hg.le f.heap) ?_;rintro v A F1 U ⟨rfl,rfl⟩;refine C8 ?_;refine H3 (A:=[]) (v:=.bool true) (f.trans U) qh ?_;exact d_ rfl rfl _ qh (fun v c=>c)
 obtain⟨h9,hB⟩:=x3 h;have k0:=Nx x0 hB;refine p_ ?_;refine A8 (Je l la lc h9 k0) ⟨hg.le f.heap,h7.le f.heap,fun p hp=>Mn.le f.heap (h8 p hp)⟩ ?_;rintro v A F1 U ⟨m,g,w,r,s,rfl,rfl,S,x9,hm,V⟩;refine p_ ?_;have u:∀a∈l.map Prod.fst,iP a:=fun a h=>by obtain⟨p,hp,rfl⟩:=jx.1 h;exact k0 p hp
 have y:(l.map Prod.fst).length<=800:=by rw[zr];omega
 have y0:=(JI V (xn hm) NI u y).1;have y1:=EJ V (xn hm) u y;have v0:g.length<=120:=by
  have:=(qD V (xn hm) u y).2;rw[zr] at this;omega
 refine H9 1 ?_;refine n7 (ι:=Unit) (fun _=>True) (fun _=>[]) (fun _=>R) ?_ ?_
 ·refine n8 ?_;refine o9 (ι:=Nat) (fun j=>j<=g.length) (fun j=>[(3,.slice r g.length s),(4,.int .i64 (j:Nat))]) (fun _=>R) (fun j=>g.length-j) 0 (zw _) sub (fun v c=>c) ?_;intro j hj;refine CO ?_ ?_<;>intro h
  ·have M:j<g.length:=(by have:=qr h;omega);have y2:=y7 S U4 qp M;obtain⟨t,k8⟩:=o7 (g[j]);have z:t∈g:=(by rw[k8];exact zx M);have hT:=y0 t z;have T:=x9 t z;have v1:t.y.rl.length<=300000:=(by have:=y1 t z;rw[T.a5T,zr] at this;exact this);have y3:∀{v:World} {H:List As},Hp F1 v H->M0 (hp v) (N0 r (j*99)) (dH t):=fun c=>by
    have:=fe (C:=dH) (S.le c.keep) U4 qp M (q:=j*99) rfl
    rwa [<-k8] at this
   refine H9 0 ?_;refine n7 (ι:=Unit) (fun _=>True) (fun _=>[(3,.slice r g.length s),(4,.int .i64 (j:Nat))]) (fun _=>R) ?_ ?_
   ·refine n8 ?_;refine y9 ?_;refine f_ (m8 rfl y2 rfl qb) ?_;refine r_ (w8 (cs:=dH t) rfl (fun v c=>y3 c) rfl) ?_;refine i7 rfl ?_;intro i;refine y9 ?_;refine H9 1 ?_;refine w6 [(3,.slice r g.length s),(4,.int .i64 (j:Nat)),(5,l9 i),(6,.int .i64 ((t.d.a5T.countP X3:Nat):Int))] (iM i t::R) ?_ ?_
    ·refine n8 ?_;refine o9 (ι:=Nat) (fun k=>k<=t.y.rl.length) (fun k=>[(3,.slice r g.length s),(4,.int .i64 (j:Nat)),(5,l9 i),(6,.int .i64 (((t.y.rl.take k).countP fun m=>X3 m.1:Nat):Int)),(7,.int .i64 (k:Nat))]) (fun _=>iM i t::R) (fun k=>t.y.rl.length-k) 0 (zw _) sub (fun v c=>c) ?_;intro k hk;refine cG ?_;refine o8 rfl ?_ ?_<;>intro h
     ·have o:k<t.y.rl.length:=(by have:=qr h;omega);have k9:=y7 T.row N_ qp o;obtain⟨m,q0⟩:=o7 (t.y.rl[k]);have z0:(t.y.rl.take k).countP (fun m=>X3 m.1)<=k:=ju List.countP_le_length (by rw[zm];omega);have X:(t.y.rl.take (k+1)).countP (fun m=>X3 m.1)=(t.y.rl.take k).countP (fun m=>X3 m.1)+if X3 m.1 then 1 else 0:=by
       rw[kj o,Zj,List.countP_singleton,<-q0]
      obtain⟨q1,h1⟩:=o7 (decide (m.1.kind<=3));obtain⟨q2,h2⟩:=o7 (decide (m.1.tag=[42]));obtain⟨q3,Y⟩:=o7 (decide (m.1.kind=3));have hb:X3 m.1=(q1&&(!q2||q3)):=(by unfold X3;rw[<-h1,<-h2,<-Y]);rw[hb] at X;obtain⟨n,hn⟩:=o7 ((t.y.rl.take k).countP (fun m=>X3 m.1));rw[<-hn] at X z0⊢;refine H9 0 ?_;refine w6 [(3,.slice r g.length s),(4,.int .i64 (j:Nat)),(5,l9 i),(6,.int .i64 (((t.y.rl.take (k+1)).countP fun m=>X3 m.1:Nat):Int)),(7,.int .i64 (k:Nat))] (iM i t::R) ?_ ?_
      ·rw[X];refine n8 ?_;refine O2 ?_;refine f_ (m8 rfl k9 rfl qb) ?_;refine r_ (w8 (cs:=qW m) rfl (fun v c=>by have:=fe (C:=qW) (T.row.le c.keep) N_ qp o (q:=k*10) rfl;rwa [<-q0] at this) rfl) ?_;refine i7 rfl ?_;intro g8;refine p_ ?_;refine w6 [(3,.slice r g.length s),(4,.int .i64 (j:Nat)),(5,l9 i),(6,.int .i64 (n:Nat)),(7,.int .i64 (k:Nat)),(55,.bool (q1&&(!q2||q3)))] (iM i t::R) ?_ ?_
       ·cases q1<;>cases q2
        all_goals (
         refine y9 ?_;refine f_ ((F_ rfl rfl).eb h1) ?_;refine E5 ?_;(first|refine u_ ?_|(refine v_ ?_;refine f_ ((E1 rfl rfl).eq (jk (fun x=>Value.bool (!x)) h2.symm)) ?_));refine E5 ?_;(first|refine u_ ?_|(refine v_ ?_;refine f_ ((p8 rfl rfl).eb Y) ?_));refine y9 ?_)
        all_goals exact o_ sub (fun w c=>c.drop)
       refine N8 ?_ ?_<;>intro h
       ·rw[zu h];refine p_ ?_;refine f_ ((p9 rfl rfl qb).eq (v':=.int .i64 ((n+1:Nat):Int)) (by congr 1)) ?_;refine p_ ?_;exact o_ sub i_
       ·rw[zk (by rw[h];decide)];refine u7 ?_;exact o_ sub i_
      refine E5 ?_;exact l8 (k+1) o qb sub i_
     ·have o:k=t.y.rl.length:=(by have:=zq h;omega);subst o;have e0:t.d.a5T.countP X3=(t.y.rl.take t.y.rl.length).countP (fun m=>X3 m.1):=(by rw[T.a5T,List.countP_map,j9];rfl);refine u7 ?_;rw[e0];exact o_ sub i_
    refine p_ ?_;obtain⟨p1,q4⟩:=o7 (t.hears);obtain⟨p2,q5⟩:=o7 (decide (t.hk=1));obtain⟨p3,q6⟩:=o7 (decide (t.hk=3));obtain⟨p4,q7⟩:=o7 (decide (t.a.a5K=3));obtain⟨p5,O⟩:=o7 (t.a.a5P);obtain⟨p6,Q⟩:=o7 (t.d.ask);obtain⟨r1,D⟩:=o7 (t.comes);obtain⟨Z,J⟩:=o7 (decide (t.d.want=[]));obtain⟨r3,h0⟩:=o7 (qt t.d.a5T);obtain⟨u1,v2⟩:=o7 (t.b.a5P);have c:ij t=if(r1&&Z&&!r3)=true then 1 else if(p1&&(p2||p3)&&!p4&&!p5&&!p6)=true then 1 else 0:=by
     unfold ij;rw[D,J,h0,q4,q5,q6,q7,O,Q];simp only[kw,Zk,jw,Zn,Zw,and_assoc,ne_eq]
    have d:=hT.all;have q8:=hT.a5P;have q9:=hT.one;rw[c] at d;have z2:((t.d.want.length:Nat):Int)=0↔t.d.want=[]:=by
     rw[<-Qm];omega
    obtain⟨x1,h4⟩:=o7 (α:=Bool) ((p1&&(p2||p3)&&!p4&&!p5&&!p6));obtain⟨x2,h5⟩:=o7 (α:=Bool) ((r1&&Z&&!r3));obtain⟨n,hn⟩:=o7 (t.d.a5T.countP X3);rw[<-hn,<-h4,<-h5] at d;rw[<-hn];refine H9 0 ?_;refine w6 [(3,.slice r g.length s),(4,.int .i64 (j:Nat)),(5,l9 i),(6,.int .i64 (n:Nat)),(9,.int .i64 0),(89,.bool x1)] (iM i t::R) ?_ ?_
    ·rw[h4];clear h4;rcases sct p1 p2 p3 p4 p5 with rfl|⟨rfl,rfl,rfl⟩|⟨rfl,rfl,rfl⟩|⟨rfl,rfl,rfl,rfl⟩|⟨rfl,rfl,rfl,rfl⟩|⟨rfl,rfl,rfl,rfl,rfl⟩|⟨rfl,rfl,rfl,rfl⟩|⟨rfl,rfl,rfl,rfl,rfl⟩;all_goals (
      refine p_ ?_;refine r_ ((X5 (l:=dH t) (v:=.bool t.hears) rfl ud rfl).eb q4) ?_;refine O2 ?_;(first|refine u_ ?_|(refine v_ ?_;refine f_ ((p8 rfl rfl).eb q5) ?_));refine O2 ?_;(first|refine u_ ?_|(refine v_ ?_;refine f_ ((p8 rfl rfl).eb q6) ?_));refine cG ?_;(first|refine u_ ?_|(refine v_ ?_;refine f_ ((M1 rfl rfl).eq (jk (fun x=>Value.bool (!x)) ((zp.2 (by show((t.a.a5K:Nat):Int)=3↔t.a.a5K=3;omega)).trans q7.symm))) ?_));refine O2 ?_;(first|refine u_ ?_|(refine v_ ?_;refine r_ ((X5 (l:=dH t) (v:=.bool t.a.a5P) rfl ud rfl).eb O) ?_));refine au ?_;(first|refine u_ ?_|(refine v_ ?_;refine r_ ((X5 (l:=dH t) (v:=.bool t.d.ask) rfl ud rfl).eb Q) ?_));refine y9 ?_)
     all_goals exact o_ sub i_
    refine u7 ?_;obtain⟨w1,h6⟩:=o7 (α:=Nat) (if x1=true then 1 else 0);refine H9 0 ?_;refine w6 [(3,.slice r g.length s),(4,.int .i64 (j:Nat)),(5,l9 i),(6,.int .i64 (n:Nat)),(9,.int .i64 (w1:Nat))] (iM i t::R) ?_ ?_
    ·refine o8 rfl ?_ ?_<;>intro h
     ·refine p_ ?_;rw[h6,zu h];exact o_ sub i_
     ·rw[h6,zk (by rw[h];decide)];refine u7 ?_;exact o_ sub i_
    rw[<-h6] at d;have u0:Pu prog 12 [.slice t.y.da t.y.rl.length t.y.dc] (fun h=>o0 h t.y.da (NY t.y.rl)) (.bool r3):=by
     rw[h0,T.a5T];exact II t.y.rl t.y.da t.y.dc qb
    refine u7 ?_;refine H9 0 ?_;refine w6 [(3,.slice r g.length s),(4,.int .i64 (j:Nat)),(5,l9 i),(6,.int .i64 (n:Nat)),(9,.int .i64 (w1:Nat)),(105,.bool x2)] (iM i t::R) ?_ ?_
    ·rw[h5]
     cases r1<;>cases Z
     all_goals (
      refine p_ ?_;refine r_ ((X5 (l:=dH t) (v:=.bool t.comes) rfl ud rfl).eb D) ?_;refine au ?_;(first|refine u_ ?_|(refine v_ ?_;refine f_ ((p8 rfl rfl).eq (qn ((zp.2 z2).trans J.symm))) ?_));refine au ?_;(first|refine u_ ?_|(refine v_ ?_;refine e_ rfl u0 (fun h hh _=>T.row.le hh) rfl ?_));refine y9 ?_)
     all_goals exact o_ sub i_
    refine u7 ?_;refine H9 0 ?_;refine w6 [(3,.slice r g.length s),(4,.int .i64 (j:Nat)),(5,l9 i),(6,.int .i64 (n:Nat)),(9,.int .i64 (n:Nat))] (iM i t::R) ?_ ?_
    ·refine o8 rfl ?_ ?_<;>intro h
     ·have Y:(r1&&Z&&!r3)=true:=h5.symm.trans h;simp only[kw,Zn] at Y;have h1:=q9 (by rw[<-D];exact Y.1.1) (qr (J.symm.trans Y.1.2)) (by rw[<-h0];exact Y.2);have u2:Pu prog 13 [.slice t.y.da t.y.rl.length t.y.dc,B t.c.tag] (fun h=>o0 h t.y.da (NY t.y.rl)) (.int .i64 1):=by
       have:=zO t.y.rl t.y.da t.y.dc t.c.tag qb;rw[T.a5T,List.countP_map] at h1;rw[show t.y.rl.countP (fun m=>aH t.c.tag m.1)=1 from h1] at this;exact this
      refine wk 7 ?_;refine e_ rfl u2 (fun h hh _=>T.row.le hh) rfl ?_;refine f_ ((M1 rfl rfl).eq (v':=.bool false) rfl) ?_;refine u7 ?_;rw[zu h] at d;rw[d];exact o_ sub i_
     ·rw[zk (by rw[h];decide)] at d;rw[<-d];refine u7 ?_;exact o_ sub i_
    have u8:t.b.a5P=(p6||p5&&!r1||!Z):=by
     rw[q8,<-Q,<-O,<-D,J];congr 1;by_cases e:t.d.want=[]<;>simp[e]
    refine u7 ?_;refine H9 0 ?_;refine w6 [(3,.slice r g.length s),(4,.int .i64 (j:Nat)),(142,.bool false)] R ?_ ?_
    ·cases p6<;>cases p5<;>cases r1
     all_goals (
      refine y9 ?_;refine f_ ((M1 rfl rfl).eq (v':=.bool false) (jk (fun b=>Value.bool (!b)) (kr rfl))) ?_;refine E5 ?_;(first|refine u_ ?_|(refine v_ ?_;refine r_ ((X5 (l:=dH t) (v:=.bool t.b.a5P) rfl ud rfl).eq (qn u8)) ?_));refine y9 ?_;(first|refine u_ ?_|(refine v_ ?_;refine r_ ((X5 (l:=dH t) (v:=.bool t.d.ask) rfl ud rfl).eb Q) ?_));refine E5 ?_;(first|refine u_ ?_|(refine v_ ?_;refine r_ ((X5 (l:=dH t) (v:=.bool t.a.a5P) rfl ud rfl).eb O) ?_));refine y9 ?_;(first|refine u_ ?_|(refine v_ ?_;refine r_ ((X5 (l:=dH t) (v:=.bool t.comes) rfl ud rfl).eb D) ?_));refine wk 8 ?_;(first|refine u_ ?_|(refine v_ ?_;refine f_ ((D_ rfl rfl).eq (v':=.bool (!Z)) (by rw[J];by_cases e:t.d.want=[]<;>simp[e,Zr])) ?_));refine p_ ?_;(first|refine u_ ?_|(refine v_ ?_;refine f_ ((nM rfl rfl).eq (v':=.bool false) (by cases Z<;>rfl)) ?_));refine p_ ?_)
     all_goals exact o_ sub (fun w c=>c.drop)
    refine u7 ?_;exact g_ () trivial i_
   intro _ _;refine E5 ?_;exact l8 (j+1) M qb sub (fun v c=>c)
  ·refine u7 ?_;exact g_ () trivial (fun v c=>c)
 intro _ _;refine C8 ?_;refine H3 (A:=[]) (v:=.bool true) (f.trans U) qh ?_;exact d_ rfl rfl _ qh (fun v c=>c)
