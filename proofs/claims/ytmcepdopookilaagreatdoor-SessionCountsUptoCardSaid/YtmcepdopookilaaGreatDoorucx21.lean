import Derived.Test.YtmcepdopookilaaGreatDoorucx20
import Derived.Carry
import Derived.ChangeSame
import Derived.OpenShut
import Derived.SizedLaws
import Derived.JoinedCond
import Derived.JoinedOf
import Derived.Deep.CondSized
import Derived.ChangeMaps5
import Derived.SliceStrings
set_option maxHeartbeats 16000000
set_option maxRecDepth 8000
set_option linter.unusedVariables false
set_option linter.unusedSimpArgs false
set_option linter.defProp false
namespace Go.Proofs.YtmcepdopookilaaGreatDoor.Rp
open Go Go.Sl Go.RowKit Go.Proofs.Tryz
structure AX where
 kind:Int
 hk:Int
 text:Bs
 short:Bool
 other:RQ
abbrev Fh(a:AX)(z:QL):List Value:=[.int .i64 a.kind,.int .i64 a.hk,B a.text,.bool a.short]++eB a.other z
abbrev acA(a:AX)(z:QL):Value:=.agg (Fh a z).toArray
abbrev lH:Bs:=[120,58,32,121,13,10,13,10,122]
structure Ce(w:WM)(a:AX):Prop where
 se:zM w.s
 a5F:w.s.a5G.a5F.length<=50000
 us:w.s.a5I.length<=100000
 ml:U4 w.m.s
 q:xa w.q
 oq:xa a.other
 text:a.text.length<=1000000000
 ml2:U4 (D6 w.m.s w.q).1
 uo:(D6 w.m.s w.q).2.a5I.length<=100000/\fR (D6 w.m.s w.q).2.a5I
 mo:(D6 w.m.s w.q).2.mods.length<=100000/\fR (D6 w.m.s w.q).2.mods
 val:(D6 w.m.s w.q).2.val<18446744073709551616
 tr:w.tr<=1000
 bll:w.bl.length<=900
 body:∀p∈w.bl,p.2.length<=1000000
 hbody:∀s' d',cz w.s a.hk a.text s' d'->d'.body.length<=1000000
def a1M(w:WM)(a:AX)(s':SE)(d':DD):Prop:=∃s1 d1,ew w.s (D6 w.m.s w.q).1 (D6 w.m.s w.q).2 (if a.short=true then[] else w.bl) s1 d1/\(if d1.want=[] then s'=s1/\d'=d1 else ew w.s (D6 w.m.s w.q).1 (D6 w.m.s w.q).2 w.bl s' d')
def cA(w:WM)(a:AX)(s':SE)(d':DD)(m':ML)(bl':BL)(hears comes fails c:Bool):Prop:=
 if a.kind=0 then cz w.s a.hk a.text s' d'/\m'=w.m.s/\bl'=w.bl/\hears=true/\comes=false/\fails=false/\c=true
 else if a.kind=1 then w.s.a5M=true/\a1M w a s' d'/\m'=(D6 w.m.s w.q).1/\bl'=w.bl/\hears=false/\comes=true/\fails=false/\c=true
 else if a.kind=2 then(s',d')=S4 w.s/\m'=w.m.s/\bl'=w.bl/\hears=false/\comes=w.s.a5M/\fails=true/\c=true
 else s'=w.s/\d'=F9/\m'=(D6 w.m.s a.other).1/\bl'=w.bl++[(a.other.hash,lH)]/\hears=false/\comes=false/\fails=false/\c=false
structure IQ(w:WM)(a:AX)(w1:WM)(t:TN)(c:Bool)(h:l9):Prop where
 dn:cA w a t.b t.d w1.m.s w1.bl t.hears t.comes t.fails c
 ta:t.a=w.s/\t.ax=w.x/\t.hk=a.hk/\t.ht=a.text/\t.c=w.s.cmd/\t.k=w.x.cl
 tw:w1.q=w.q/\w1.ql=w.ql/\w1.tr=w.tr
 a5Q:t.d.a5Q=t.y.rl.map Prod.fst
 rp:∀m∈t.y.rl,kI m h
 se:U3 t.b t.bx h
 rq:dB t.d.req t.y.ql h
 wn:o0 h t.y.wa (fV t.d.want)
 m:iE w1.m h
 blr:o0 h w1.ba (uH w1.bl)
 cf:c=false->t.b=w.s/\t.bx=w.x/\t.y=N0
def fo(c:Bool)(t:TN):List As:=if c=true then l5 t.bx.ra t.b.a5G.a5F t.bx.rc::r8 t.y.da t.y.rl t.y.dc::Y9 t.y.rl else[]
abbrev Fi(w:WM)(a:AX):TN:=⟨w.s,w.x,w.s,w.x,a.hk,a.text,false,false,false,F9,N0,w.s.cmd,w.x.cl⟩
def xn(w:WM)(a:AX)(w':WM)(t:TN)(c:Bool)(h:l9):Prop:=(a.kind=1/\w.s.a5M=false/\w'=w/\t=Fi w a/\c=false)\/∃w1,IQ w a w1 t c h/\sV w1 t w'/\o0 h w'.ba (uH w'.bl)
def a1N(w:WM)(a:AX)(h:l9)(v:Value)(A:List As):Prop:=∃w' t c,v=.tuple #[Ff w',Uc t]/\A=fo c t/\xn w a w' t c h
structure lI(w:WM)(h:l9):Prop where
 g:Gl h
 a5F:o0 h w.x.ra (V7 w.s.a5G.a5F)
 se:U3 w.s w.x h
 m:iE w.m h
 q:dB w.q w.ql h
 blr:o0 h w.ba (uH w.bl)
instance {w:WM}:Mn (lI w):=⟨fun l k=>⟨k.g.le l,k.a5F.le l,Mn.le l k.se,Mn.le l k.m,Mn.le l k.q,k.blr.le l⟩⟩
theorem IQ.le{w:WM}{a:AX}{b:WM}{t:TN}{c:Bool}{h d:l9}(k:IQ w a b t c h)(l:l9.le h d):IQ w a b t c d:=⟨k.dn,k.ta,k.tw,k.a5Q,fun m e=>(k.rp m e).le l,Mn.le l k.se,Mn.le l k.rq,k.wn.le l,Mn.le l k.m,k.blr.le l,k.cf⟩
theorem gM{s:SE}{st:ML}{o:OC}{bl:BL}{c:SE}{b:DD}(h:ew s st o bl c b):b.body=[]:=by
 unfold ew at h;split at h
 ·rw[h.2]
 ·rcases h with⟨d,_,_,_,e⟩|⟨f,_,_,_,_,_,_,a⟩
  ·rw[e]
  ·exact(ey a).2.2.2.2
theorem qE(s:SE):(S4 s).2.body=[]:=by
 unfold S4;split
 ·rfl
 ·split<;>rfl
theorem EF{w:WM}{a:AX}{i:SE}{e:DD}{j:ML}{b:BL}{x y z c:Bool}(g:Ce w a)(h:cA w a i e j b x y z c):e.body.length<=1000000/\b.length<=1000:=by
 have k:=g.bll;unfold cA at h;split at h
 ·obtain⟨d,_,rfl,_⟩:=h;exact⟨g.hbody _ _ d,by omega⟩
 split at h
 ·obtain⟨_,⟨s1,l,d,f⟩,_,rfl,_⟩:=h;refine⟨?_,by omega⟩;split at f
  ·rw[f.2,gM d];simp
  ·rw[gM f];simp
 split at h
 ·obtain⟨d,_,rfl,_⟩:=h;refine⟨?_,by omega⟩;rw[show e=(S4 w.s).2 from by rw[<-d],qE];simp
 ·obtain⟨_,rfl,_,rfl,_⟩:=h;exact⟨by simp,by rw[zz];simp only[zy,z6];omega⟩
abbrev Ki:List Value:=OD ⟨oH,rf,Iv,cU,cY,0,[],none,0⟩
abbrev QC:List Value:=gL ⟨oH,rf,oH,rf,0,[],false,false,false,F9,N0,iw,G9⟩
theorem IR(w:WM)(a:AX)(z:QL)(C:Ce w a):
  Cm prog 17 [Ff w,acA a z] (fun h=>lI w h/\dB a.other z h) [] (a1N w a):=by
 obtain⟨k0,x3⟩:=o7 (decide (a.kind=0));obtain⟨k1,y0⟩:=o7 (decide (a.kind=1));obtain⟨k2,y1⟩:=o7 (decide (a.kind=2));refine x8 125 func17 rfl rfl rfl ?_;rintro F R ⟨j,v8⟩;refine C6 ?_;refine m9 rfl rfl ?_;intro Y;refine m9 rfl rfl ?_;intro g3;refine i7 rfl ?_;intro g4;refine i7 rfl ?_;intro g5;refine wk 8 ?_;refine r_ (gk rfl ud ga) ?_;refine f_ (y7 (ps:=[(0,.tmp 11),(1,.tmp 13),(2,.tmp 15),(7,.tmp 18)]) (vs:=[(0,rP w.s w.x),(1,rP w.s w.x),(2,.agg #[.int .i64 a.hk,B a.text]),(7,xL w.s.cmd w.x.cl)]) (cells:=(gL (Fi w a)).toArray) rfl i6) ?_;refine i7 rfl ?_;intro g6;refine p_ ?_;refine D5 (H':=ij Y w::qD g6 (Fi w a)::.blk g3 (.cells (Fh a z).toArray 70)::.blk g5 (.cells QC.toArray 48)::.blk g4 (.cells Ki.toArray 65)::R) (fun v g=>C1 (A:=[_,_,_,_,_]) (J:=[]) tk g) ?_;refine I8 2 ?_;refine S7 (fun(f:WM) (t:TN) (c:Bool) (F2:l6)=>F.le F2/\IQ w a f t c F2.heap) (fun _ _ _ _=>[(2,m6 Y),(4,m6 g4),(5,m6 g5),(6,m6 g6)]) (fun _ _ _ F2=>F2) (fun f t c _=>ij Y f::qD g6 t::.blk g5 (.cells QC.toArray 48)::.blk g4 (.cells Ki.toArray 65)::(fo c t++R)) ?_ ?_
 ·refine n9 ?_;refine C6 ?_;refine f_ ((o_ rfl rfl).eq (v':=.bool k0) (qn x3.symm)) ?_;refine p_ ?_
  cases k0
  case true=>
   have e0:a.kind=0:=qr x3.symm;refine cQ ?_;refine A8 (No w.s w.x a.hk a.text C.se C.text) ⟨j.g,j.a5F,j.se⟩ ?_;intro v A D n hq;obtain⟨s',d',V,r,hr,rfl,rfl,k,h0,h3,h4,h5⟩:=Ez.res hq;refine I6 (H':=_::_::_::_::_::_::_::(Y9 r.rl++R)) (fun v g=>g.perm (((Qd (Y9 r.rl) [_,_,_,_,_] R).cons _).cons _)) ?_;refine wk 7 ?_;obtain⟨t1,x⟩:∃t1:TN,t1={Fi w a with b:=s',bx:=V,hears:=true,d:=d',y:=r}:=⟨_,rfl⟩;have i:lI w D.heap:=Mn.le n.heap j;refine y5 (w,t1,true,D) ⟨n,?_⟩ rfl (fun v g=>?_)
   ·rw[x];exact⟨by unfold cA;rw[zu e0];exact⟨hr,rfl,rfl,rfl,rfl,rfl,rfl⟩,⟨rfl,rfl,rfl,rfl,rfl,rfl⟩,qm,k,h0,h3,h4,h5,i.m,i.blr,fun e=>by cases e⟩
   ·rw[x];show Hp D v (_::_::_::_::l5 V.ra s'.a5G.a5F V.rc::r8 r.da r.rl r.dc::(Y9 r.rl++R));exact C1 (A:=[_,_,_,_,_,_]) (J:=[_]) tk g
  have e0:¬a.kind=0:=zq x3.symm;refine C6 ?_;refine f_ ((o_ rfl rfl).eq (v':=.bool k1) (qn y0.symm)) ?_;refine p_ ?_
  cases k1
  case true=>
   have e1:a.kind=1:=qr y0.symm;refine EW ?_ ?_<;>intro h
   ·have k8:w.s.a5M=false:=(by simpa using h);refine u7 ?_;refine D9 [0,1] [2,3] [ij Y w,qD g6 (Fi w a)] 4 ?_;refine wd [0,1,2,3] ?_;refine A3 ?_;refine G_ (A:=[]) (v:=.tuple #[Ff w,Uc (Fi w a)]) (l6.le_refl _) ⟨w,Fi w a,false,rfl,rfl,.inl ⟨e1,k8,rfl,rfl,rfl⟩⟩ ?_;exact X2 rfl rfl rfl ud rfl ud rfl _ qh (fun v g=>C1 (A:=[]) (J:=[_,_,_,_,_]) tk g)
   have k8:w.s.a5M=true:=(by simpa using h);refine u7 ?_;obtain⟨t0,y3⟩:∃t0:TN,t0={Fi w a with comes:=true}:=⟨_,rfl⟩;refine cQ ?_;refine A8 (qe w.m w.q w.ql C.ml C.q) ⟨j.m,j.q⟩ ?_;rintro v A D n ⟨X,o,oy,rfl,S,ho,rfl,h6,z2⟩;refine E4 ?_;refine i7 rfl ?_;intro g7;refine i7 rfl ?_;intro g8;refine aH ?_;obtain⟨f,Q⟩:∃f:WM,f={w with m:=X}:=⟨_,rfl⟩;have u0:f.s=w.s/\f.x=w.x/\f.m=X/\f.bl=w.bl/\f.ba=w.ba/\f.bc=w.bc/\f.q=w.q/\f.ql=w.ql/\f.tr=w.tr:=(by rw[Q];exact⟨rfl,rfl,rfl,rfl,rfl,rfl,rfl,rfl,rfl⟩);obtain⟨k9,v9,q0,O,U,w5,u1,q5,q6⟩:=u0;have i:lI w D.heap:=Mn.le n.heap j;have u2:∀bl:BL,bl.length<=900->(∀p∈bl,p.2.length<=1000000)->OB f.s X.s o bl:=fun bl h1 h2=>by
    rw[k9,S,ho];exact⟨C.se,C.a5F,C.us,C.ml2,C.uo,C.mo,C.val,by omega,h2⟩
   refine D5 (H':=ij Y f::qD g6 t0::.blk g7 (.cells (iD X).toArray 62)::.blk g8 (.cells (tO o oy).toArray 86)::.blk g3 (.cells (Fh a z).toArray 70)::.blk g5 (.cells QC.toArray 48)::.blk g4 (.cells Ki.toArray 65)::R) (fun v g=>by rw[Q,y3];exact C1 (A:=[_,_,_,_,_,_,_]) (J:=[]) tk g) ?_;refine aH ?_;refine n7 (ι:=BL×AC) (fun q=>q.1=(if a.short=true then[] else w.bl)/\o0 D.heap q.2.1 (uH q.1)) (fun q=>[(2,m6 Y),(3,m6 g3),(4,m6 g4),(5,m6 g5),(6,m6 g6),(7,m6 g7),(8,m6 g8),(9,.slice q.2.1 q.1.length q.2.2)]) (fun _=>ij Y f::qD g6 t0::.blk g7 (.cells (iD X).toArray 62)::.blk g8 (.cells (tO o oy).toArray 86)::.blk g3 (.cells (Fh a z).toArray 70)::.blk g5 (.cells QC.toArray 48)::.blk g4 (.cells Ki.toArray 65)::R) ?_ ?_
   ·refine o8 rfl ?_ ?_<;>intro h
    ·refine p_ ?_;exact g_ ([],none,0) ⟨by rw[zu h],o0.nil _ _⟩ (fun v g=>g)
    ·refine u7 ?_;exact g_ (f.bl,f.ba,f.bc) ⟨by rw[zk (by rw[h];simp)];exact O,by rw[U];show o0 D.heap w.ba (uH f.bl);rw[O];exact i.blr⟩ (fun v g=>g)
   rintro⟨h7,o1⟩ ⟨s,q7⟩;simp only at s q7;have q8:h7.length<=900/\∀p∈h7,p.2.length<=1000000:=by
    rw[s];split
    ·exact⟨zw _,fun _ h=>by cases h⟩
    ·exact⟨C.bll,C.body⟩
   have q9:f.bl.length<=900/\∀p∈f.bl,p.2.length<=1000000:=(by rw[O];exact⟨C.bll,C.body⟩);have x0:∀(bl:BL) (ba:Option Addr),o0 D.heap ba (uH bl)->(Gl D.heap/\o0 D.heap f.x.ra (V7 f.s.a5G.a5F)/\U3 f.s f.x D.heap/\iE X D.heap/\L9 o oy D.heap/\o0 D.heap ba (uH bl)):=fun bl ba h=>by
    rw[k9,v9];exact⟨i.g,i.a5F,i.se,h6,z2,h⟩
   refine aH ?_;refine A8 (sU f.s f.x X o oy h7 o1.1 o1.2 (u2 h7 q8.1 q8.2)) (x0 h7 o1.1 q7) ?_;rintro v A F2 u ⟨s',d',V,r,hr,rfl,rfl,k,h0,h3,h4,h5⟩;refine I6 (H':=_::_::_::_::_::_::_::_::_::(Y9 r.rl++R)) (fun v g=>g.perm (((Qd (Y9 r.rl) [_,_,_,_,_,_,_] R).cons _).cons _)) ?_;refine wk 7 ?_;obtain⟨t1,x⟩:∃t1:TN,t1={t0 with b:=s',bx:=V,d:=d',y:=r}:=⟨_,rfl⟩;have u8:t1.d=d':=(by rw[x]);refine D5 (H':=ij Y f::qD g6 t1::l5 V.ra s'.a5G.a5F V.rc::r8 r.da r.rl r.dc::.blk g7 (.cells (iD X).toArray 62)::.blk g8 (.cells (tO o oy).toArray 86)::.blk g3 (.cells (Fh a z).toArray 70)::.blk g5 (.cells QC.toArray 48)::.blk g4 (.cells Ki.toArray 65)::(Y9 r.rl++R)) (fun v g=>by rw[x];exact C1 (A:=[_,_,_,_,_,_,_,_,_]) (J:=[]) tk g) ?_;have M:ew w.s (D6 w.m.s w.q).1 (D6 w.m.s w.q).2 (if a.short=true then[] else w.bl) s' d':=(by rw[<-S,<-ho,<-s,<-k9];exact hr);refine aH ?_;refine o8 rfl ?_ ?_<;>intro h
   ·have q1:¬d'.want=[]:=fun e=>(by rw[u8,e] at h;exact absurd h qp);have w0:r.rl=[]:=by
     have h9:d'.a5Q=[]:=by
      unfold ew at M;split at M
      ·rw[M.2]
      ·rcases M with⟨w9,_,_,_,e⟩|⟨x9,_,_,_,_,_,_,v0⟩
       ·rw[e]
       ·exact absurd (ey v0).2.1 q1
     rw[h9] at k;exact List.map_eq_nil_iff.1 k.symm
    refine D5 (H':=ij Y f::qD g6 t1::.blk g7 (.cells (iD X).toArray 62)::.blk g8 (.cells (tO o oy).toArray 86)::.blk g3 (.cells (Fh a z).toArray 70)::.blk g5 (.cells QC.toArray 48)::.blk g4 (.cells Ki.toArray 65)::R) (fun v g=>by rw[w0] at g;exact C1 (A:=[_,_,_,_,_,_,_]) (J:=[_,_]) tk g) ?_;refine cQ ?_;refine A8 (sU f.s f.x X o oy f.bl f.ba f.bc (u2 f.bl q9.1 q9.2)) (Mn.le (p:=fun h=>Gl h/\o0 h f.x.ra (V7 f.s.a5G.a5F)/\U3 f.s f.x h/\iE X h/\L9 o oy h/\o0 h f.ba (uH f.bl)) u.heap (x0 f.bl f.ba (by rw[U,O];exact i.blr))) ?_;rintro v A F3 T ⟨s2,d2,x2,y2,w2,rfl,rfl,q2,v1,v2,v3,v4⟩;refine I6 (H':=_::_::_::_::_::_::_::_::_::(Y9 y2.rl++R)) (fun v g=>g.perm (((Qd (Y9 y2.rl) [_,_,_,_,_,_,_] R).cons _).cons _)) ?_;refine wk 7 ?_;obtain⟨t2,v5⟩:∃t2:TN,t2={t1 with b:=s2,bx:=x2,d:=d2,y:=y2}:=⟨_,rfl⟩;have x1:=(n.trans u).trans T;refine y5 (f,t2,true,F3) ⟨x1,?_⟩ rfl (fun v g=>?_)
    ·rw[v5,x,y3];exact⟨by unfold cA;rw[zk e0,zu e1];exact⟨k8,⟨s',d',M,by rw[zk q1,<-S,<-ho,<-O,<-k9];exact w2⟩,by rw[q0];exact S,O,rfl,rfl,rfl,rfl⟩,⟨rfl,rfl,rfl,rfl,rfl,rfl⟩,⟨u1,q5,q6⟩,q2,v1,v2,v3,v4,by rw[q0];exact Mn.le (u.trans T).heap h6,by rw[U,O];exact j.blr.le x1.heap,fun e=>by cases e⟩
    ·rw[v5];show Hp F3 v (_::_::_::_::l5 x2.ra s2.a5G.a5F x2.rc::r8 y2.da y2.rl y2.dc::(Y9 y2.rl++R));exact C1 (A:=[_,_,_,_,_,_]) (J:=[_,_,_]) tk g
   ·have q1:d'.want=[]:=by
     rw[u8] at h;exact jx (qu h)
    refine u7 ?_;refine y5 (f,t1,true,F2) ⟨n.trans u,?_⟩ rfl (fun v g=>?_)
    ·rw[x,y3];exact⟨by unfold cA;rw[zk e0,zu e1];exact⟨k8,⟨s',d',M,by rw[zu q1];exact qh⟩,by rw[q0];exact S,O,rfl,rfl,rfl,rfl⟩,⟨rfl,rfl,rfl,rfl,rfl,rfl⟩,⟨u1,q5,q6⟩,k,h0,h3,h4,h5,by rw[q0];exact Mn.le u.heap h6,by rw[U,O];exact j.blr.le (n.trans u).heap,fun e=>by cases e⟩
    ·rw[x] at g⊢;show Hp F2 v (_::_::_::_::l5 V.ra s'.a5G.a5F V.rc::r8 r.da r.rl r.dc::(Y9 r.rl++R));exact C1 (A:=[_,_,_,_,_,_]) (J:=[_,_,_]) tk g
  have e1:¬a.kind=1:=zq y0.symm;refine C6 ?_;refine f_ ((o_ rfl rfl).eq (v':=.bool k2) (qn y1.symm)) ?_;refine p_ ?_
  cases k2
  case true=>
   have e2:a.kind=2:=qr y1.symm;refine wk 9 ?_;refine A8 (Np w.s w.x C.se) ⟨j.a5F,j.se⟩ ?_;intro v A D n hq;obtain⟨s',d',V,r,hr,rfl,rfl,k,h0,h3,h4,h5⟩:=Ez.res hq;refine I6 (H':=_::_::_::_::_::_::_::(Y9 r.rl++R)) (fun v g=>g.perm (((Qd (Y9 r.rl) [_,_,_,_,_] R).cons _).cons _)) ?_;refine wk 7 ?_;obtain⟨t1,x⟩:∃t1:TN,t1={Fi w a with b:=s',bx:=V,comes:=w.s.a5M,fails:=true,d:=d',y:=r}:=⟨_,rfl⟩;have i:lI w D.heap:=Mn.le n.heap j;refine y5 (w,t1,true,D) ⟨n,?_⟩ rfl (fun v g=>?_)
   ·rw[x];exact⟨by unfold cA;rw[zk e0,zk e1,zu e2];exact⟨hr,rfl,rfl,rfl,rfl,rfl,rfl⟩,⟨rfl,rfl,rfl,rfl,rfl,rfl⟩,qm,k,h0,h3,h4,h5,i.m,i.blr,fun e=>by cases e⟩
   ·rw[x];show Hp D v (_::_::_::_::l5 V.ra s'.a5G.a5F V.rc::r8 r.da r.rl r.dc::(Y9 r.rl++R));exact C1 (A:=[_,_,_,_,_,_]) (J:=[_]) tk g
  have e2:¬a.kind=2:=zq y1.symm;refine O2 ?_;refine A8 (qe w.m a.other z C.ml C.oq) ⟨j.m,v8⟩ ?_;rintro v A D n ⟨X,o,oy,rfl,S,ho,rfl,h6,z2⟩;refine aH ?_;obtain⟨f,Q⟩:∃f:WM,f={w with m:=X}:=⟨_,rfl⟩;have s:f.bl=w.bl/\f.ba=w.ba/\f.bc=w.bc:=by rw[Q];exact qm
  have h8:o0 D.heap f.ba (uH f.bl):=by rw[s.1,s.2.1];exact j.blr.le n.heap
  have w7:f.bl.length<=900:=by rw[s.1];exact C.bll
  refine D5 (H':=ij Y f::qD g6 (Fi w a)::.blk g3 (.cells (Fh a z).toArray 70)::.blk g5 (.cells QC.toArray 48)::.blk g4 (.cells Ki.toArray 65)::R) (fun v g=>by rw[Q];exact C1 (A:=[_,_,_,_,_]) (J:=[]) tk g) ?_;refine u7 ?_;refine D9 [2,6] [0,3,8,9,11] [ij Y f,.blk g3 (.cells (Fh a z).toArray 70)] 12 ?_;refine wd [1,2,4,5,6] ?_;refine w_ 7 rfl (y7 (ps:=[(0,.tmp 37),(1,.const (B lH))]) (vs:=[(0,B a.other.hash),(1,B lH)]) (cells:=(uG (a.other.hash,lH)).toArray) rfl i6) ?_;refine bv 0 8 rfl rfl i6 ?_ ?_;refine M4 rfl ?_;intro a31;refine ae ?_;refine bv 3 8 rfl rfl i6 ?_ ?_;refine u6 uG (l:=[]) (m:=f.bl) ap dq (by show(0+f.bl.length)*32<=_;omega) ?_ (hsrc:=fun v g=>h8.le g.keep) (h63:=by simp only[z6];omega);intro OO v6 _;refine ae ?_;refine h_ 8 rfl i6 ?_;refine C4 uG (a.other.hash,lH) rfl ?_;intro a39 _;refine xI ?_;refine h_ 9 rfl i6 ?_;refine u6 uG (l:=f.bl) (m:=[(a.other.hash,lH)]) ap dq (by show(f.bl.length+1)*32<=_;omega) ?_ (h63:=by simp only[zy,z6];omega);intro q3 q4 _;refine E5 [10,11] ?_
  rotate_left 1
  refine C4 uG (a.other.hash,lH) rfl ?_;intro a39 _;refine ae ?_;refine h_ 3 rfl i6 ?_;refine u6 uG (l:=[]) (m:=f.bl) ap dq (by show(0+f.bl.length)*32<=_;omega) ?_ (hsrc:=fun v g=>h8.le g.keep) (h63:=by simp only[z6];omega);intro OO v6 _;refine xI ?_;refine h_ 9 rfl i6 ?_;refine u6 uG (l:=f.bl) (m:=[(a.other.hash,lH)]) ap dq (by show(f.bl.length+1)*32<=_;omega) ?_ (h63:=by simp only[zy,z6];omega);intro q3 q4 _;refine E5 [10,11] ?_
  rotate_left 1
  refine C4 uG (a.other.hash,lH) rfl ?_;intro a39 _;refine ae ?_;refine h_ 0 rfl i6 ?_;refine M4 rfl ?_;intro a31;refine ae ?_;refine h_ 3 rfl i6 ?_;refine u6 uG (l:=[]) (m:=f.bl) ap dq (by show(0+f.bl.length)*32<=_;omega) ?_ (hsrc:=fun v g=>h8.le g.keep) (h63:=by simp only[z6];omega);intro OO v6 _;refine xI ?_;refine h_ 9 rfl i6 ?_;refine u6 uG (l:=f.bl) (m:=[(a.other.hash,lH)]) ap dq (by show(f.bl.length+1)*32<=_;omega) ?_ (h63:=by simp only[zy,z6];omega);intro q3 q4 _;refine E5 [10,11] ?_
  rotate_left 1
  all_goals (refine u7 ?_)
  all_goals
   refine kf (Z:=[.own (.slice q3 (f.bl++[(a.other.hash,lH)]).length q4) 95 2 (uH (f.bl++[(a.other.hash,lH)]))]) tk fun F2 u ⟨bs,w3⟩=>?_;refine y5 ({f with bl:=f.bl++[(a.other.hash,lH)],ba:=q3,bc:=q4},Fi w a,false,F2) ⟨n.trans u,?_⟩ rfl (fun v g=>C1 (A:=[_,_,_,_]) (J:=[_,_]) tk g);exact⟨by unfold cA;rw[zk e0,zk e1,zk e2];exact⟨rfl,rfl,by rw[Q];exact S,by rw[s.1],rfl,rfl,rfl,rfl⟩,⟨rfl,rfl,rfl,rfl,rfl,rfl⟩,by rw[Q];exact qm,rfl,qy,Mn.le (n.trans u).heap j.se,⟨o0.nil _ _,o0.nil _ _⟩,o0.nil _ _,by rw[Q];exact Mn.le u.heap h6,A2.rd w3 ud,fun _=>qm⟩
 rintro f t c F2 ⟨u,hp⟩;have v7:=EF C hp.dn;refine u7 ?_;refine I8 0 ?_;refine S7 (fun(w':WM) (_:Unit) (_:Unit) (F3:l6)=>F2.le F3/\sV f t w'/\o0 F3.heap w'.ba (uH w'.bl)) (fun _ _ _ _=>[(4,m6 g4),(5,m6 g5)]) (fun _ _ _ F3=>F3) (fun w' _ _ _=>ij g4 w'::qD g5 t::(fo c t++R)) ?_ ?_
 ·refine u7 ?_;refine D9 [0,1,3] [2,4,5] [ij Y f,qD g6 t] 6 ?_;refine wd [0,1,3] ?_;refine h_ 2 rfl i6 ?_;refine R7 (Ny f t (by rw[hp.tw.2.2];exact C.tr) v7.2 v7.1) hp.blr ?_;rintro v A Z Fz hz ⟨w',rfl,rfl,z0,z1⟩;refine gn [4,5] ?_;all_goals exact eu (Rr:=ij g4 w'::qD g5 t::(fo c t++R)) Fz hz (fun v g=>C1 (A:=[_,_]) (J:=[_,_]) tk g) fun F3 T w4=>y5 (w',(),(),F3) ⟨T,z0,z1.le w4⟩ rfl (fun v g=>g)
 rintro w' _ _ F3 ⟨T,z0,z1⟩;refine oz ?_;refine G_ (A:=fo c t) (v:=.tuple #[Ff w',Uc t]) (u.trans T) ⟨w',t,c,rfl,rfl,.inr ⟨f,hp.le T.heap,z0,z1⟩⟩ ?_;exact X2 rfl rfl rfl ud rfl ud rfl _ qh (fun v g=>C1 (A:=[]) (J:=[_,_]) tk g)
theorem fX{l:List Bs}(h:G0 l=true):l.length<=16/\∀f∈l,f.length<=32:=
 ⟨(ji h).2.2,fun f hf=>sI ((ji h).1 f hf)⟩
theorem qF{l:List Bs}{x:Bs}(h:x∈T4 l):x∈l:=by
 rcases ((mY l [] .nil).2 x).1 h with h|h
 ·exact h
 ·cases h
theorem EG{l b:List Bs}{how:Int}(h:(F8 l how b).2=0):(F8 l how b).1.length<=16/\∀f∈(F8 l how b).1,f.length<=32:=by
 unfold F8 at h⊢;split
 ·exact⟨zw _,fun _ h=>by cases h⟩
 ·rename_i c;rw[zk c] at h;have d:G0 l=true:=by cases e:G0 l;exact absurd (.inl e) c;rfl
  have g:G0 b=true:=by cases e:G0 b;exact absurd (.inr (.inl e)) c;rfl
  simp only at h⊢;have a:∀o:List Bs,o=(if how=0 then T4 b else if how=1 then T4 (l++b) else(T4 l).filter fun f=>!decide (f∈b))->∀f∈o,f.length<=32:=fun o i f hf=>by
   rw[i] at hf;split at hf
   ·exact(fX g).2 f (qF hf)
   split at hf
   ·rcases zc.1 (qF hf) with hf|hf
    ·exact(fX d).2 f hf
    ·exact(fX g).2 f hf
   ·exact(fX d).2 f (qF (Qx.1 hf).1)
  generalize i:(if how=0 then T4 b else if how=1 then T4 (l++b) else(T4 l).filter fun f=>!decide (f∈b))=o at h a⊢;by_cases h16:16<o.length
  ·rw[zu h16] at h;cases h
  ·rw[zk h16];exact⟨by simp only;omega,a o rfl⟩
theorem kJ{s:ML}(h:U4 s){i:Nat}(a:i<s.a5C.length):Dc (aj s i):=by
 have:aj s i=s.a5C[i]:=by unfold aj;rw[zd,zj a];rfl
 rw[this];exact h.box _ (zx a)
theorem IU{s:ML}{n:Bs}{i:Nat}(h:xK s n=some i):i<s.a5C.length:=(kd.1 h).1
theorem zV{s:ML}{r:RQ}{i:Nat}(h:named s r=some i):i<s.a5C.length:=by
 unfold named at h;obtain⟨j,b,a⟩:=zp.1 h;split at a
 ·injection a with a;subst a;exact IU b
 ·cases a
theorem QD{l:List BX}{i:Nat}{b:BX}(c:i<l.length)(d:b.name=l[i].name)(h:l.Pairwise fun x y=>gV x.name y.name=true):(l.set i b).Pairwise fun x y=>gV x.name y.name=true:=by
 have e:(l.set i b).map BX.name=l.map BX.name:=by
  rw[Ku,d];rw[show l[i].name=(l.map BX.name)[i]'(by simpa using c) from by simp];exact Zs _
 have a:(l.map BX.name).Pairwise fun x y=>gV x y=true:=Kg.2 h;rw[<-e] at a;exact Kg.1 a
theorem uM{s:ML}(h:U4 s){i:Nat}(c:i<s.a5C.length){b:BX}(d:b.name=(aj s i).name)(f:Dc b):U4 (jE s i b):=by
 have e:aj s i=s.a5C[i]:=by unfold aj;rw[zd,zj c];rfl
 refine⟨by show(s.a5C.set i b).length<=8;rw[js];exact h.a5C,fun x a=>?_,QD c (by rw[d,e]) h.sorted,h.a5D,h.home,h.a5E,h.seat,h.nval,h.nses,h.a5O⟩;rcases jp a with a|rfl
 ·exact h.box x a
 ·exact f
structure cB(o:OC):Prop where
 a5I:o.a5I.length<=32/\∀u∈o.a5I,u<=4294967296
 mods:o.mods.length<=32/\∀u∈o.mods,u<=4294967296
 val:o.val<=4294967296
theorem cB.zero:cB B9:=⟨⟨zw _,fun _ h=>by cases h⟩,⟨zw _,fun _ h=>by cases h⟩,zw _⟩
theorem cB.code(k:Int):cB {B9 with code:=k}:=⟨⟨zw _,fun _ h=>by cases h⟩,⟨zw _,fun _ h=>by cases h⟩,zw _⟩
structure uN(s:ML):Prop where
 ok:U4 s
 n1:1<=s.nses
abbrev Fk(q:AR):Prop:=uN q.1/\cB q.2.1
theorem F5{s:ML}(h:uN s)(e:Int):Fk (s,B9,e):=⟨h,.zero⟩
theorem zW{h x:HO}:∀{l:List HO},x∈dy h l->x=h\/x∈l
 |[],hx=>by simp[dy] at hx;exact .inl hx
 |y::t,hx=>by
  unfold dy at hx;split at hx
  ·rcases ky.1 hx with e|hx
   ·exact .inl e
   ·exact .inr hx
  ·rcases ky.1 hx with e|hx
   ·exact .inr (e▸j9)
   ·rcases zW hx with e|hx
    ·exact .inl e
    ·exact .inr (jj _ hx)
theorem Cf(h:HO):∀{l:List HO},l.Pairwise (fun x y=>x.node<y.node)->(∀x∈l,x.node≠h.node)->(dy h l).Pairwise fun x y=>x.node<y.node
 |[],_,_=>by simp[dy]
 |y::t,hp,hn=>by
  obtain⟨c,d⟩:=Qq.1 hp;unfold dy;split
  ·rename_i b;refine Qq.2 ⟨fun x a=>?_,hp⟩;rcases ky.1 a with rfl|a
   ·exact b
   ·exact Int.lt_trans b (c x a)
  ·rename_i b;refine Qq.2 ⟨fun x a=>?_,Cf h d fun x a=>hn x (jj _ a)⟩;rcases zW a with rfl|a
   ·have:=hn y j9;omega
   ·exact c x a
theorem qG{b x:BX}:∀{l:List BX},x∈jD b l->x=b\/x∈l
 |[],hx=>by simp[jD] at hx;exact .inl hx
 |y::t,hx=>by
  unfold jD at hx;split at hx
  ·rcases ky.1 hx with e|hx
   ·exact .inl e
   ·exact .inr hx
  ·rcases ky.1 hx with e|hx
   ·exact .inr (e▸j9)
   ·rcases qG hx with e|hx
    ·exact .inl e
    ·exact .inr (jj _ hx)
theorem xp(b:BX):∀l:List BX,(jD b l).length=l.length+1
 |[]=>rfl
 |y::t=>by
  unfold jD;split
  ·rfl
  ·simp[xp b t]
theorem Cg(b:BX):∀{l:List BX},l.Pairwise (fun x y=>gV x.name y.name=true)->(∀x∈l,x.name≠b.name)->(jD b l).Pairwise fun x y=>gV x.name y.name=true
 |[],_,_=>by simp[jD]
 |y::t,hp,hn=>by
  obtain⟨d,f⟩:=Qq.1 hp;unfold jD;split
  ·rename_i a;refine Qq.2 ⟨fun x c=>?_,hp⟩;rcases ky.1 c with rfl|c
   ·exact a
   ·exact bS a (d x c)
  ·rename_i a;refine Qq.2 ⟨fun x c=>?_,Cg b f fun x c=>hn x (jj _ c)⟩;rcases qG c with rfl|c
   ·exact dK (fun e=>hn y j9 e.symm) (by simpa using a)
   ·exact d x c
theorem Nz{s:ML}(h:uN s)(r:RQ)(hl:r.life<18446744073709551616)(j:r.tr<18446744073709551616):Fk (lV s r):=by
 unfold lV;split
 ·exact F5 h _
 ·rename_i p;have d:1<=r.node:=by omega
  have m:r.node<=5:=by omega
  simp only;split
  ·exact F5 h _
  split
  ·split
   ·exact F5 h _
   ·exact⟨h,cB.zero.a5I,cB.zero.mods,cB.zero.val⟩
  generalize hst:(if((Option.map (fun i=>s.a5D.getD i Oc) (gW s r.node)).getD Oc).life<r.life then s.a5E.filter fun x=>!decide (x.node=r.node) else s.a5E)=a5E;have k:∀x∈a5E,x∈s.a5E:=fun x a=>by
   rw[<-hst] at a;split at a
   ·exact(Qx.1 a).1
   ·exact a
  split
  ·exact F5 h _
  ·rename_i n;refine⟨⟨?_,?_⟩,cB.zero.a5I,cB.zero.mods,cB.zero.val⟩
   ·have b:∀x∈a5E++[⟨s.nses,0,r.node,r.life,r.tr⟩],1<=x.ses/\x.ses<s.nses+1/\x.last<18446744073709551616/\x.life<18446744073709551616/\x.tr<18446744073709551616:=fun x a=>by
     rcases zc.1 a with a|a
     ·have:=h.ok.seat x (k x a);exact⟨this.1,by omega,this.2.2⟩
     ·rw[zg.1 a];exact⟨h.n1,by simp only;omega,by simp only;omega,hl,j⟩
    have c:(a5E++[(⟨s.nses,0,r.node,r.life,r.tr⟩:SX)]).length<=16:=(by rw[zz];simp only[zy,z6];omega);have f:s.nses+1<=Da:=(by omega);unfold nh;split
    ·rename_i i g;have o:i<s.a5D.length:=(kd.1 g).1;have l:s.a5D[i].node=r.node:=(by simpa using(kd.1 g).2.1);refine⟨h.ok.a5C,h.ok.box,h.ok.sorted,?_,fun x a=>?_,c,b,h.ok.nval,f,h.ok.a5O⟩
     ·have e:(s.a5D.set i ⟨r.node,r.life,r.tr⟩).map HO.node=s.a5D.map HO.node:=by
       rw[Ku];rw[show(⟨r.node,r.life,r.tr⟩:HO).node=(s.a5D.map HO.node)[i]'(by simpa using o) from by simp[l]];exact Zs _
      have d:(s.a5D.map HO.node).Pairwise fun x y=>x<y:=Kg.2 h.ok.a5D;rw[<-e] at d;exact Kg.1 d
     ·rcases jp a with a|rfl
      ·exact h.ok.home x a
      ·exact⟨d,m,hl,j⟩
    ·rename_i g;refine⟨h.ok.a5C,h.ok.box,h.ok.sorted,Cf _ h.ok.a5D fun x a=>?_,fun x a=>?_,c,b,h.ok.nval,f,h.ok.a5O⟩
     ·have:=Q5.1 g x a;simpa using this
     ·rcases zW a with rfl|a
      ·exact⟨d,m,hl,j⟩
      ·exact h.ok.home x a
   ·unfold nh;split<;>(show 1<=s.nses+1;omega)
theorem QE{s:ML}(h:uN s)(r:RQ):Fk (Pi s r):=by
 refine⟨⟨⟨h.ok.a5C,h.ok.box,h.ok.sorted,h.ok.a5D,h.ok.home,?_,fun x a=>h.ok.seat x (Qx.1 a).1,h.ok.nval,h.ok.nses,h.ok.a5O⟩,h.n1⟩,.zero⟩;exact jd (Qb _ _) h.ok.a5E
theorem IV{s:ML}(h:uN s):Fk (lg s):=by
 unfold lg;split
 ·exact F5 h _
 ·rename_i a;refine⟨⟨⟨h.ok.a5C,h.ok.box,h.ok.sorted,h.ok.a5D,h.ok.home,h.ok.a5E,h.ok.seat,h.ok.nval,h.ok.nses,?_⟩,h.n1⟩,.zero⟩;have:=h.ok.a5O;show s.a5O+1<=D_;omega
theorem EH{s:ML}(h:uN s)(r:RQ):Fk (cV s r):=by
 have j:eL=4294967295:=rfl;unfold cV;split
 ·exact F5 h _
 rename_i d;split
 ·exact F5 h _
 rename_i f;split
 ·exact F5 h _
 split
 ·exact F5 h _
 rename_i k i;have a:r.box.length<=64:=by
  have:jf r.box=some r.box:=by simpa using d
  unfold jf at this;split at this
  ·rename_i hp;unfold vq at hp;simp only[kx,jy] at hp;exact hp.1.1.2
  ·cases this
 have b:Dc ⟨r.box,s.nval,1,1,[]⟩:=⟨a,h.ok.nval,by show 1<=4294967296;decide,by show 1<=D_;decide,zw _,fun _ h=>(by cases h),fun _ h=>(by cases h),fun _ h=>(by cases h),fun _ h=>(by cases h),fun _ h=>(by cases h)⟩;have g:∀x∈s.a5C,x.name≠r.box:=fun x c e=>by
  apply f;unfold xK;rw[List.findIdx?_isSome];exact Jz.2 ⟨x,c,by simpa using e⟩
 refine⟨⟨⟨by rw[xp];omega,fun x c=>?_,Cg _ h.ok.sorted g,h.ok.a5D,h.ok.home,h.ok.a5E,h.ok.seat,by show s.nval+1<=_;have:¬eL<s.nval:=i;omega,h.ok.nses,h.ok.a5O⟩,h.n1⟩,cB.zero.a5I,cB.zero.mods,h.ok.nval⟩;rcases qG c with rfl|c
 ·exact b
 ·exact h.ok.box x c
theorem EI{s:ML}(h:uN s)(r:RQ):Fk (bM s r):=by
 unfold bM;split
 ·exact F5 h _
 split
 ·exact F5 h _
 ·rename_i i b;refine⟨⟨⟨jd (List.length_eraseIdx_le ..) h.ok.a5C,fun x a=>h.ok.box x (Jg a),h.ok.sorted.sublist (List.eraseIdx_sublist ..),h.ok.a5D,h.ok.home,h.ok.a5E,h.ok.seat,h.ok.nval,h.ok.nses,h.ok.a5O⟩,h.n1⟩,.zero⟩
theorem EJ{s:ML}(h:uN s)(r:RQ):Fk (cW s r):=by
 have m:eL=4294967295:=rfl;unfold cW;split
 ·exact F5 h _
 rename_i i f;have c:=IU f;have b:=kJ h.ok c;simp only;split
 ·exact F5 h _
 rename_i d;split
 ·exact F5 h _
 split
 ·exact F5 h _
 split
 ·exact F5 h _
 rename_i n o p;have g:G0 r.a5R=true:=by cases e:G0 r.a5R;exact absurd (.inl e) d;rfl
 have j:r.hash.length=32:=Wr fun e=>d (.inr (.inl e));have hz:r.size<=4096:=by omega
 have k:(aj s i).next<=eL:=by omega
 have l:(aj s i).high<D_:=by omega
 refine⟨⟨uM h.ok c rfl ⟨b.name,b.val,by simp only;omega,by simp only;omega,by simp only[zz,zy,z6];omega,fun x a=>?_,fun x a=>?_,fun x a=>?_,fun x a=>?_,fun x a=>?_⟩,h.n1⟩,⟨by simp,fun u hu=>by simp at hu;omega⟩,cB.zero.mods,b.val⟩;all_goals (rcases zc.1 a with a|a)
 ·have:=b.uid x a;simp only;omega
 ·rw[zg.1 a];simp only;omega
 ·exact b.a5R x a
 ·rw[zg.1 a];exact fX g
 ·exact b.mod x a
 ·rw[zg.1 a];simp only;omega
 ·exact b.size x a
 ·rw[zg.1 a];exact hz
 ·exact b.hash x a
 ·rw[zg.1 a];exact j
theorem gN(r:RQ)(b:BX):∀(l:List LT) (q:List LT×List Nat×List Nat×Bool),I1 r b l=some q->q.1.length=l.length/\q.2.1.length<=l.length/\q.2.2.1.length<=l.length/\
  (∀u,u∈q.2.1\/u∈q.2.2.1->∃x∈l,x.uid=u)/\∀y∈q.1,∃x∈l,y.uid=x.uid/\y.hash=x.hash/\y.size=x.size/\(y.a5R=x.a5R/\y.mod=x.mod\/(y.a5R.length<=16/\∀f∈y.a5R,f.length<=32)/\y.mod=b.high+1)
 |[],q,h=>by
  simp only[I1,Qn] at h;subst h;exact⟨rfl,zr _,zr _,(fun u h=>by rcases h with h|h<;>cases h),qy⟩
 |x::t,q,h=>by
  have c:∀{P:LT->Prop},(∃y∈t,P y)->∃y∈x::t,P y:=fun⟨y,a,h⟩=>⟨y,jj _ a,h⟩;unfold I1 at h;split at h
  ·obtain⟨p,hp,rfl⟩:=kg.1 h;obtain⟨g,k,m,e,i⟩:=gN r b t p hp;refine⟨by simp[g],by simp only[zy];omega,by simp only[zy];omega,fun u hu=>c (e u hu),fun y a=>?_⟩;rcases ky.1 a with rfl|a
   ·exact⟨y,j9,rfl,rfl,rfl,.inl qh⟩
   ·exact c (i y a)
  split at h
  ·obtain⟨p,hp,rfl⟩:=kg.1 h;obtain⟨g,k,m,e,i⟩:=gN r b t p hp;refine⟨by simp[g],by simp only[zy];omega,by simp only[zy];omega,fun u hu=>?_,fun y a=>?_⟩
   ·rcases hu with hu|hu
    ·exact c (e u (.inl hu))
    ·rcases ky.1 hu with rfl|hu
     ·exact⟨x,j9,rfl⟩
     ·exact c (e u (.inr hu))
   ·rcases ky.1 a with rfl|a
    ·exact⟨y,j9,rfl,rfl,rfl,.inl qh⟩
    ·exact c (i y a)
  split at h
  ·cases h
  ·rename_i hc;obtain⟨p,hp,rfl⟩:=kg.1 h;obtain⟨g,k,m,e,i⟩:=gN r b t p hp;have j:=EG (l:=x.a5R) (b:=r.a5R) (how:=r.how) (by simpa using hc);have d:∀u,u∈x.uid::p.2.1\/u∈p.2.2.1->∃y∈x::t,y.uid=u:=fun u hu=>by
    rcases hu with hu|hu
    ·rcases ky.1 hu with rfl|hu
     ·exact⟨x,j9,rfl⟩
     ·exact c (e u (.inl hu))
    ·exact c (e u (.inr hu))
   split
   ·refine⟨by simp[g],by simp only[zy];omega,by simp only[zy];omega,d,fun y a=>?_⟩;rcases ky.1 a with rfl|a
    ·exact⟨y,j9,rfl,rfl,rfl,.inl qh⟩
    ·exact c (i y a)
   ·refine⟨by simp[g],by simp only[zy];omega,by simp only[zy];omega,d,fun y a=>?_⟩;rcases ky.1 a with rfl|a
    ·exact⟨x,j9,rfl,rfl,rfl,.inr ⟨j,rfl⟩⟩
    ·exact c (i y a)
theorem IW{s:ML}(h:uN s)(r:RQ):Fk (dz s r):=by
 unfold dz;split
 ·exact F5 h _
 rename_i i k;have c:=zV k;have a:=kJ h.ok c;simp only;split
 ·exact F5 h _
 split
 ·exact F5 h _
 rename_i q l;obtain⟨z,A,C,m,n⟩:=gN r _ _ q l;have f:=a.lts;have o:=a.next;have hu:∀u,u∈q.2.1\/u∈q.2.2.1->u<=4294967296:=fun u hu=>by
  obtain⟨x,b,rfl⟩:=m u hu;have:=a.uid x b;omega
 have g:cB {B9 with a5I:=q.2.1,mods:=q.2.2.1}:=⟨⟨by simp only;omega,fun u h=>hu u (.inl h)⟩,⟨by simp only;omega,fun u h=>hu u (.inr h)⟩,zw _⟩;split
 ·exact⟨h,g⟩
 split
 ·exact F5 h _
 rename_i hg;have p:(aj s i).high<D_:=by omega
 refine⟨⟨uM h.ok c rfl ⟨a.name,a.val,a.next,by simp only;omega,by simp only;omega,fun y d=>?_,fun y d=>?_,fun y d=>?_,fun y d=>?_,fun y d=>?_⟩,h.n1⟩,g⟩;all_goals (obtain⟨x,b,t,v,w,j⟩:=n y d)
 ·rw[t];exact a.uid x b
 ·rcases j with⟨e,_⟩|⟨e,_⟩
  ·rw[e];exact a.a5R x b
  ·exact e
 ·rcases j with⟨_,e⟩|⟨_,e⟩
  ·rw[e];have:=a.mod x b;exact this
  ·rw[e];omega
 ·rw[w];exact a.size x b
 ·rw[v];exact a.hash x b
theorem zX{s:ML}(h:uN s)(r:RQ):Fk (be s r):=by
 unfold be;split
 ·exact F5 h _
 rename_i i d;have c:=zV d;have a:=kJ h.ok c;simp only;split
 ·exact F5 h _
 split
 ·exact F5 h _
 rename_i hg;have e:(aj s i).high<D_:=by omega
 refine⟨⟨uM h.ok c rfl ⟨a.name,a.val,a.next,by simp only;omega,jd (Qb _ _) a.lts,fun x b=>a.uid x (Qx.1 b).1,fun x b=>a.a5R x (Qx.1 b).1,fun x b=>a.mod x (Qx.1 b).1,fun x b=>a.size x (Qx.1 b).1,fun x b=>a.hash x (Qx.1 b).1⟩,h.n1⟩,⟨?_,fun u hu=>?_⟩,cB.zero.mods,zw _⟩
 ·simp only[zm];exact jd (Qb _ _) a.lts
 ·obtain⟨x,b,rfl⟩:=jv.1 hu;have:=a.uid x (Qx.1 b).1;have:=a.next;omega
theorem Ch(m:Nat):∀(l:List LT) (n:Nat),(fg n m l).length=l.length/\∀y∈fg n m l,n<=y.uid/\y.uid<n+l.length/\y.mod=m/\∃x∈l,y.a5R=x.a5R/\y.hash=x.hash/\y.size=x.size
 |[],n=>⟨rfl,fun _ h=>by cases h⟩
 |x::t,n=>by
  have b:=Ch m t (n+1);refine⟨by simp[fg,b.1],fun y a=>?_⟩;rcases ky.1 a with rfl|a
  ·exact⟨zr _,by simp,rfl,x,j9,rfl,rfl,rfl⟩
  ·obtain⟨e,f,c,z,hz,d⟩:=b.2 y a;exact⟨by omega,by simp only[zy];omega,c,z,jj _ hz,d⟩
theorem NA{s:ML}(h:uN s)(r:RQ):Fk (gX s r):=by
 have t:eL=4294967295:=rfl;unfold gX;split
 ·exact F5 h _
 rename_i j n;have g:=zV n;have k:=kJ h.ok g;simp only;split
 ·exact F5 h _
 rename_i i o;have f:=IU o;have c:=kJ h.ok f;have m:cB {B9 with val:=(aj s i).val}:=⟨cB.zero.a5I,cB.zero.mods,c.val⟩;split
 ·exact⟨h,m⟩
 split
 ·exact⟨h,m⟩
 split
 ·exact⟨h,m⟩
 rename_i v w y;generalize hl:(aj s j).lts.filter (X5 r (aj s j))=l at*;have b:∀x∈l,x∈(aj s j).lts:=fun x a=>by rw[<-hl] at a;exact(Qx.1 a).1
 have d:=Ch ((aj s i).high+1) l (aj s i).next;have p:(aj s i).next+l.length<=eL+1:=by omega
 have q:(aj s i).high<D_:=by omega
 refine⟨⟨uM h.ok f rfl ⟨c.name,c.val,by simp only;omega,by simp only;omega,by simp only[zz,d.1];omega,fun x a=>?_,fun x a=>?_,fun x a=>?_,fun x a=>?_,fun x a=>?_⟩,h.n1⟩,⟨by simp only[zm,d.1];omega,fun u hu=>?_⟩,cB.zero.mods,c.val⟩
 case refine_6=>
  obtain⟨x,a,rfl⟩:=jv.1 hu;have:=(d.2 x a).2.1;omega
 all_goals (rcases zc.1 a with a|a)
 ·have:=c.uid x a;simp only;omega
 ·have:=(d.2 x a).2.1;simp only;omega
 ·exact c.a5R x a
 ·obtain⟨_,_,_,z,hz,e,_⟩:=d.2 x a;rw[e];exact k.a5R z (b z hz)
 ·exact c.mod x a
 ·obtain⟨_,_,e,_⟩:=d.2 x a;rw[e];omega
 ·exact c.size x a
 ·obtain⟨_,_,_,z,hz,_,_,e⟩:=d.2 x a;rw[e];exact k.size z (b z hz)
 ·exact c.hash x a
 ·obtain⟨_,_,_,z,hz,_,e,_⟩:=d.2 x a;rw[e];exact k.hash z (b z hz)
theorem OE{s:ML}(h:uN s)(r:RQ)(hl:r.op=1->r.life<18446744073709551616/\r.tr<18446744073709551616):Fk (JX s r):=by
 unfold JX;split
 ·rename_i e;exact Nz h r (hl e).1 (hl e).2
 split
 ·exact QE h r
 split
 ·exact F5 h _
 split
 ·exact EH h r
 split
 ·exact EI h r
 split
 ·exact EJ h r
 split
 ·exact IW h r
 split
 ·exact zX h r
 split
 ·exact NA h r
 ·exact IV h
theorem Ci{q:AR}(h:Fk q):uN (vI q).1/\cB (vI q).2:=by
 refine⟨h.1,?_⟩;unfold vI;simp only;split
 ·exact h.2
 ·exact .code _
theorem ez{s:ML}(h:uN s)(r:RQ)(c:r.num<18446744073709551616)(hl:r.op=1->r.life<18446744073709551616/\r.tr<18446744073709551616):uN (D6 s r).1/\cB (D6 s r).2:=by
 unfold D6;split
 ·exact⟨h,.code _⟩
 split
 ·exact Ci (OE h r hl)
 split
 ·exact⟨h,.code _⟩
 ·rename_i i d;have a:i<s.a5E.length:=(kd.1 d).1;have e:s.a5E.getD i ⟨0,0,0,0,0⟩=s.a5E[i]:=by rw[zd,zj a];rfl
  simp only[e];split
  ·exact⟨h,.code _⟩
  ·refine Ci (OE (s:={s with a5E:=s.a5E.set i {s.a5E[i] with last:=r.num}}) ⟨⟨h.ok.a5C,h.ok.box,h.ok.sorted,h.ok.a5D,h.ok.home,by show(s.a5E.set i _).length<=16;rw[js];exact h.ok.a5E,fun x b=>?_,h.ok.nval,h.ok.nses,h.ok.a5O⟩,h.n1⟩ r hl);rcases jp b with b|rfl
   ·exact h.ok.seat x b
   ·have:=h.ok.seat _ (zx a);exact⟨this.1,this.2.1,c,this.2.2.2⟩
theorem IX:uN Gf:=by
 refine⟨⟨by decide,fun b a=>?_,by simp[Gf],by simp[Gf],qy,by decide,qy,by decide,by decide,by decide⟩,by decide⟩;rw[zg.1 a];exact⟨by decide,by decide,by decide,by decide,by decide,qy,qy,qy,qy,qy⟩
structure Rl(r:RQ):Prop where
 box:r.box.length<=64
 a5I:r.a5I.length<=64
 a5R:r.a5R.length<=16
 fl:∀f∈r.a5R,f.length<=32
 num:r.op=1->r.num=0
structure TE(s s':SE)(d':DD)(c:CM)(l:List Nat)(r:RQ)(b:Bool):Prop where
 a5M:s.a5M=false
 over:s.a5H≠3
 le:rv c
 kind:1<=c.kind/\c.kind<=18
 from_:(M_ c.kind).1<=s.a5H/\s.a5H<=(M_ c.kind).2
 len:l.length<=s.a5G.a5F.length
 us:∀u∈l,0<X6 s.a5G u
 op:r.op=1↔c.kind=7
 st:r.op≠1->s.a5H≠0
 rq:Rl r
 s':s'={s with a5M:=true,cmd:=c,a5I:=l,cond:=b,num:=if r.op=1 then s.num else s.num+1}
 ask:d'.ask=true
 req:d'.req=if r.op=1 then r else{r with ses:=s.ses,num:=s.num+1}
 a5Q:d'.a5Q=[]
 close:d'.close=false
 want:d'.want=[]
 body:d'.body.length<=4096
 store:d'.store=decide (c.kind=14)
def mB(s s':SE)(d':DD):Prop:=
 (d'.ask=false/\d'.req=cU/\d'.store=false/\d'.body=[]/\d'.want=[]/\(s'=s\/(s'={s with a5H:=3}/\s.a5M=false)\/s'={s with cond:=true}))\/∃c l r b,TE s s' d' c l r b
theorem ik{s a:SE}{b:DD}{r:RR}(h:(a,b)=V2 (s,F9) r):mB s a b:=by
 injection h with h1 h2;subst h1 h2;exact .inl ⟨rfl,rfl,rfl,rfl,rfl,.inl rfl⟩
theorem IY{s d:SE}{f d2:DD}{c:CM}{l:List Nat}{r:RQ}{b:Bool}(h:(d,f)=G1 ({s with cond:=b},d2) c r l)(g:s.a5M=false)(i:s.a5H≠3)(hc:rv c)(j:1<=c.kind/\c.kind<=18)(hf:(M_ c.kind).1<=s.a5H/\s.a5H<=(M_ c.kind).2)(hl:l.length<=s.a5G.a5F.length/\∀u∈l,0<X6 s.a5G u)(a:r.op=1↔c.kind=7)(hz:r.op≠1->s.a5H≠0)(k:Rl r)(t:d2.a5Q=[]/\d2.close=false/\d2.want=[]/\d2.body.length<=4096/\d2.store=decide (c.kind=14)):mB s d f:=by
 obtain⟨m,n,o,p,q⟩:=t;refine .inr ⟨c,l,r,b,?_⟩;unfold G1 at h;split at h
 ·rename_i e;injection h with e1 e2;subst e1 e2;exact⟨g,i,hc,j,hf,hl.1,hl.2,a,hz,k,by rw[zu e],rfl,by rw[zu e],m,n,o,p,q⟩
 ·rename_i e;injection h with e1 e2;subst e1 e2;exact⟨g,i,hc,j,hf,hl.1,hl.2,a,hz,k,by rw[zk e],rfl,by rw[zk e],m,n,o,p,q⟩
theorem QF(op:Int):Rl {cU with op:=op}:=⟨zw _,zw _,zw _,qy,fun _=>rfl⟩
theorem EK{v:VW}{l:List (Nat×Nat)}{b:Bool}{m:List Nat}(h:X7 v l b=some m):m.length<=v.a5F.length:=by
 unfold X7 at h;simp only at h;split at h
 ·cases h
 ·injection h with h;rw[<-h,zm];refine jd (Qb _ _) ?_;simp
theorem NB{v:VW}{u:Nat}(h:∃r∈v.a5F,r.1=u):0<X6 v u:=by
 obtain⟨r,a,e⟩:=h;unfold X6 re
 cases hf:v.a5F.findIdx? (fun r=>decide (r.1=u)) with
 |none=>
  rw[Q5] at hf;have:=hf r a;simp[e] at this
 |some i=>exact Nat.succ_pos i
theorem QG(v:VW)(u:Nat):X6 v u<=v.a5F.length:=by
 unfold X6 re
 cases hf:v.a5F.findIdx? (fun r=>decide (r.1=u)) with
 |none=>exact zw _
 |some i=>exact(kd.1 hf).1
theorem EL{v:VW}{l:List (Nat×Nat)}{b:Bool}{m:List Nat}(h:X7 v l b=some m):∀u∈m,0<X6 v u:=fun u hu=>NB ((eT h).1 u hu)
theorem NC{k:Nat}(h:4<=k)(a:k≠7):1<=(M_ k).1:=by
 unfold M_;split
 ·omega
 ·split
  ·exact Nat.le_succ _
  ·exact zr _
theorem zY{s o:SE}{p:DD}{k:Int}{t:Bs}(S:t.length<=1000000000)(v:s.a5G.box.length<=64)(h:cz s k t o p):mB s o p:=by
 unfold cz at h;split at h
 ·exact ik h
 split at h
 ·injection h with m n;subst m n;exact .inl ⟨rfl,rfl,rfl,rfl,rfl,.inl rfl⟩
 rename_i y;have w:s.a5H≠3:=fun e=>y (.inl e);have A:s.a5M=false:=by cases e:s.a5M;rfl;exact absurd (.inr e) y
 split at h
 ·unfold Gg at h;injection h with m n;subst m n;exact .inl ⟨rfl,rfl,rfl,rfl,rfl,.inr (.inl ⟨rfl,A⟩)⟩
 split at h
 ·obtain⟨c,e,_,h⟩:=h;exact ik h
 split at h
 ·obtain⟨c,e,hp,h⟩:=h;have a:=kD S hp;rcases h with⟨_,h⟩|⟨_,h⟩|⟨_,h⟩|⟨T,h⟩
  ·exact ik h
  ·exact ik h
  ·exact ik h
  rcases h with⟨_,h⟩|⟨m,n,h⟩
  ·exact ik h
  have D:=a.kind T;have hf:=And.intro m n;have i:4<=c.kind->c.kind≠7->s.a5H≠0:=fun U J e=>by have:=NC U J;omega
  have C:∀(r:RQ) (l:List Nat),(o,p)=G1 (s,F9) c r l->(l.length<=s.a5G.a5F.length/\∀u∈l,0<X6 s.a5G u)->(r.op=1↔c.kind=7)->(r.op≠1->s.a5H≠0)->Rl r->c.kind≠14->mB s o p:=fun r l h V M hz q d=>
   IY (b:=s.cond) (d2:=F9) h A w a.le D hf V M hz q ⟨rfl,rfl,rfl,zw _,(Qk d).symm⟩
  have j:∀(b:Bool),(o,p)=G1 ({s with cond:=b},F9) c bf []->c.kind≠7->c.kind≠14->s.a5H≠0->mB s o p:=fun b h J d hz=>
   IY (b:=b) (d2:=F9) h A w a.le D hf ⟨zw _,qy⟩ ⟨(fun e=>by cases e),fun e=>absurd e J⟩ (fun _=>hz) (QF 3) ⟨rfl,rfl,rfl,zw _,(Qk d).symm⟩
  unfold PZ at h;split at h
  ·rename_i d;refine IY (b:=s.cond) h A w a.le D hf ⟨zw _,qy⟩ ⟨(fun e=>by cases e),(fun e=>by omega)⟩ (fun _=>i qb qb) ⟨a.le.box,zw _,a.le.le.a5R,a.le.fl,(fun _=>rfl)⟩ ⟨rfl,rfl,rfl,a.le.le.data,(jk d).symm⟩
  rename_i d;split at h
  ·rename_i O;rcases h with⟨r,_,h⟩|⟨l,r,Q,q,h⟩
   ·exact ik h
   ·refine C r l h ⟨EK Q,EL Q⟩ ⟨fun e=>?_,fun e=>by omega⟩ (fun _=>i qb qb) ⟨?_,q.a5I,?_,?_,(fun e=>by rcases q.op with x|x|x<;>rw[x] at e<;>cases e)⟩ d
    ·rcases q.op with x|x|x<;>rw[x] at e<;>cases e
    ·rcases q.box with e|e<;>rw[e]
     ·exact zw _
     ·exact v
    ·rcases q.a5R with e|e|e<;>rw[e]
     ·exact zw _
     ·exact a.le.le.a5R
     ·decide
    ·rcases q.a5R with e|e|e<;>rw[e]
     ·intro _ h;cases h
     ·exact a.le.fl
     ·intro f hf;rw[zg.1 hf];decide
  ·rename_i O;unfold Od at h;have g:∀(r:RQ),(o,p)=G1 (s,F9) c r []->(r.op=1↔c.kind=7)->(r.op≠1->s.a5H≠0)->Rl r->mB s o p:=fun r h m X n=>C r [] h ⟨zw _,qy⟩ m X n d;by_cases k1:c.kind=1
   ·rw[zu k1] at h;unfold V2 at h;injection h with m n;subst m n;exact .inl ⟨rfl,rfl,rfl,rfl,rfl,.inl rfl⟩
   rw[zk k1] at h;by_cases k2:c.kind=2
   ·rw[zu k2] at h;by_cases z:s.a5H=0
    ·rw[zu z] at h;exact ik h
    ·rw[zk z] at h;exact j s.cond h qb qb z
   rw[zk k2] at h;by_cases k3:c.kind=3
   ·rw[zu k3] at h;by_cases z:s.a5H=0
    ·rw[zu z] at h;unfold oI V2 Gg at h;injection h with m n;subst m n;exact .inl ⟨rfl,rfl,rfl,rfl,rfl,.inr (.inl ⟨rfl,A⟩)⟩
    ·rw[zk z] at h;exact g _ h ⟨(fun e=>by cases e),(fun e=>by omega)⟩ (fun _=>z) (QF 2)
   rw[zk k3] at h;by_cases k4:c.kind=4
   ·rw[zu k4] at h;by_cases z:s.ro=true
    ·rw[zu z] at h;exact j s.cond h qb qb (i qb qb)
    ·rw[zk z] at h;exact g _ h ⟨(fun e=>by cases e),(fun e=>by omega)⟩ (fun _=>i qb qb) ⟨v,zw _,zw _,qy,(fun _=>rfl)⟩
   rw[zk k4] at h;by_cases k5:c.kind=5
   ·rw[zu k5] at h;by_cases z:s.ro=true
    ·rw[zu z] at h;exact ik h
    ·rw[zk z] at h;exact g _ h ⟨(fun e=>by cases e),(fun e=>by omega)⟩ (fun _=>i qb qb) ⟨v,zw _,zw _,qy,(fun _=>rfl)⟩
   rw[zk k5] at h;by_cases k6:c.kind=6
   ·rw[zu k6] at h;unfold V2 at h;injection h with m n;subst m n;exact .inl ⟨rfl,rfl,rfl,rfl,rfl,.inr (.inr rfl)⟩
   rw[zk k6] at h;by_cases k7:c.kind=7
   ·rw[zu k7] at h;by_cases z:c.pass=[104,111,114,110]
    ·rw[zu z] at h;exact g _ h ⟨(fun _=>k7),(fun _=>rfl)⟩ (fun e=>absurd rfl e) (QF 1)
    ·rw[zk z] at h;exact ik h
   rw[zk k7] at h;by_cases k9:c.kind<=9
   ·rw[zu k9] at h;exact j _ h k7 d (i qb k7)
   rw[zk k9] at h;by_cases k10:c.kind=10
   ·rw[zu k10] at h;exact g _ h ⟨(fun e=>by cases e),(fun e=>by omega)⟩ (fun _=>i qb k7) ⟨a.le.box,zw _,zw _,qy,(fun _=>rfl)⟩
   rw[zk k10] at h;by_cases k11:c.kind=11
   ·rw[zu k11] at h;exact g _ h ⟨(fun e=>by cases e),(fun e=>by omega)⟩ (fun _=>i qb k7) ⟨a.le.box,zw _,zw _,qy,(fun _=>rfl)⟩
   rw[zk k11] at h;by_cases k13:c.kind<=13\/c.kind=15
   ·rw[zu k13] at h;exact j s.cond h k7 d (i qb k7)
   ·exfalso;omega
 ·injection h with m n;subst m n;exact .inl ⟨rfl,rfl,rfl,rfl,rfl,.inl rfl⟩
structure mU(n:Nat)(s:SE):Prop where
 a5F:s.a5G.a5F.length<=32*n
 row:∀r∈s.a5G.a5F,r.1<=4294967296
 us:s.a5I.length<=32*n
 cmd:rv s.cmd
 num:s.num<=n
 box:s.a5G.box.length<=64
theorem mU.ok{n:Nat}{s:SE}(h:mU n s)(b:n<=1000):zM s:=⟨by have:=h.a5F;omega,by have:=h.us;omega,h.cmd.le,fun r a=>by have:=h.row r a;omega,by have:=h.num;omega⟩
theorem mU.up{n m:Nat}{s:SE}(h:mU n s)(a:n<=m):mU m s:=⟨by have:=h.a5F;omega,h.row,by have:=h.us;omega,h.cmd,by have:=h.num;omega,h.box⟩
theorem QH{n:Nat}{s e:SE}{f:DD}(d:mU n s)(h:mB s e f):mU (n+1) e:=by
 rcases h with⟨_,_,_,_,_,rfl|⟨rfl,_⟩|rfl⟩|⟨c,l,r,b,h⟩
 ·exact d.up qb
 ·have:=d.up (show n<=n+1 by omega);exact⟨this.a5F,this.row,this.us,this.cmd,this.num,this.box⟩
 ·have:=d.up (show n<=n+1 by omega);exact⟨this.a5F,this.row,this.us,this.cmd,this.num,this.box⟩
 ·have a:=d.up (show n<=n+1 by omega);rw[h.s'];refine⟨a.a5F,a.row,?_,h.le,?_,a.box⟩
  ·have:=h.len;have:=d.a5F;show l.length<=_;omega
  ·have:=d.num;show(if r.op=1 then s.num else s.num+1)<=n+1;split<;>omega
theorem qH(b:BX):∀(k:Nat) (a:List (Nat×Nat)),∀r∈(V1 b k a).1,r∈a
 |0,a,r,h=>h
 |k+1,a,r,h=>by
  unfold V1 at h;split at h
  ·exact qH b k a r h
  ·exact Jg (qH b k (a.eraseIdx k) r h)
theorem IZ(b:BX)(r:Nat×Nat):(X8 b r).1.1=r.1:=by
 unfold X8;split
 ·rfl
 ·split<;>rfl
theorem QI(v:VW)(b:BX)(e c:Bool):(T7 v b e c).1.box=v.box/\(T7 v b e c).1.a5F.length<=v.a5F.length+b.lts.length/\∀r∈(T7 v b e c).1.a5F,(∃q∈v.a5F,q.1=r.1)\/∃x∈b.lts,x.uid=r.1:=by
 unfold T7;split
 ·exact⟨rfl,Nat.le_add_right _ _,fun r a=>.inl ⟨r,a,rfl⟩⟩
 ·simp only;generalize hq:(if e=true then V1 b v.a5F.length v.a5F else(v.a5F,[]))=q;have d:q.1.length<=v.a5F.length/\∀r∈q.1,r∈v.a5F:=by
   rw[<-hq];split
   ·exact⟨(fW b _ _).1,qH b _ _⟩
   ·exact⟨zr _,fun _ h=>h⟩
  refine⟨trivial,?_,fun r a=>?_⟩
  ·simp only[zz,zm];have:=Qb (fun x:LT=>decide (L4 q.1<x.uid)) b.lts;omega
  ·rcases zc.1 a with a|a
   ·obtain⟨p,hp,rfl⟩:=jv.1 a;obtain⟨z,hz,rfl⟩:=jv.1 hp;exact .inl ⟨z,d.2 z hz,(IZ b z).symm⟩
   ·obtain⟨x,f,rfl⟩:=jv.1 a;exact .inr ⟨x,(Qx.1 f).1,rfl⟩
theorem QJ{b:BX}(a:Dc b){n:Nat}(e:1<=n):(P3 b).a5F.length<=32*n/\(∀r∈(P3 b).a5F,r.1<=4294967296)/\(P3 b).box.length<=64:=by
 refine⟨?_,fun r c=>?_,a.name⟩
 ·show(b.lts.map fun x=>(x.uid,x.mod)).length<=_;have:=a.lts;rw[zm];omega
 ·obtain⟨x,d,rfl⟩:=jv.1 c;have:=a.uid x d;have:=a.next;show x.uid<=_;omega
theorem zS.I{v v':VW}(h:zS v v'):∀r∈v'.a5F,∃q∈v.a5F,q.1=r.1:=fun r a=>by
 have:r.1∈v'.a5F.map Prod.fst:=Zk a;rw[h.2.2] at this;obtain⟨q,b,e⟩:=jv.1 this;exact⟨q,b,e⟩
theorem Ja{x:AN}{s c:SE}{r:RR}{l:List RR}{n:Nat}(h:L6 x s r c l)(j:U4 x.m.s)(a:mU n s)(k:1<=n):mU n c:=by
 have f:∀g,qt x s g r c l->mU n c:=fun g h=>by
  obtain⟨_,⟨i,rfl,d⟩,_⟩:=h;refine⟨?_,fun r m=>?_,a.us,a.cmd,a.num,?_⟩
  ·have:=d.len;have:=a.a5F;show i.a5F.length<=_;omega
  ·obtain⟨q,o,e⟩:=d.I r m;rw[<-e];exact a.row q o
  ·show i.box.length<=64;rw[d.1];exact a.box
 unfold L6 at h;split at h
 ·rw[h.1];exact⟨a.a5F,a.row,a.us,a.cmd,zw _,a.box⟩
 split at h
 ·rw[h.1];exact a
 split at h
 ·rcases h with⟨_,rfl,_⟩|⟨b,p,rfl,_⟩
  ·exact a
  ·obtain⟨t,u,v⟩:=QJ (j.box b (aE p)) k;exact⟨t,u,a.us,a.cmd,a.num,v⟩
 split at h
 ·rw[h.1];exact a
 split at h
 ·rw[h.1];exact a
 split at h
 ·rw[h.1];exact a
 split at h
 ·exact f _ h
 split at h
 ·exact f _ h
 ·rw[h.1];exact a
theorem Je(s:SE){st:ML}(b:U4 st):(mI s st).lts.length<=32/\∀x∈(mI s st).lts,x.uid<=4294967296:=by
 unfold mI
 cases e9:ak st s.a5G.box with
 |none=>exact⟨zw _,qy⟩
 |some b0=>
  have a:=b.box b0 (aE e9);by_cases h9:b0.val=s.a5G.val
  ·simp only[zb,zu h9,Zd];refine⟨a.lts,fun x c=>?_⟩;have:=a.uid x c;have:=a.next;omega
  ·simp only[zb,zk h9,Option.getD_none];exact⟨zw _,qy⟩
theorem iQ{n:Nat}{s:SE}(a:mU n s):mU n (V9 s):=⟨a.a5F,a.row,zw _,kC rfl rfl rfl rfl rfl rfl rfl,a.num,a.box⟩
theorem nM{n:Nat}{s:SE}(a:mU n s)(k:Nat):mU n {s with a5H:=k}:=⟨a.a5F,a.row,a.us,a.cmd,a.num,a.box⟩
theorem OF{n:Nat}{s O:SE}{st:ML}{o:OC}{bl:BL}{U:DD}(t:mU n s)(u:U4 st)(h:ew s st o bl O U):mU (n+1) O:=by
 have g:=t.up (show n<=n+1 by omega);unfold ew at h;split at h
 ·rw[h.1];exact g
 rcases h with⟨w,_,_,rfl,_⟩|⟨x,hc,j,ho,hu,hb,i,h⟩
 ·exact g
 unfold fm at h;split at h
 ·rw[h.1];exact nM (iQ g) 3
 split at h
 ·rw[h.1];exact nM (iQ g) 3
 obtain⟨r,s1,V,X,l2,a,v,y⟩:=h;have b:=iQ g;have c:∀k,mU k (V9 s)->mU k (qB x (V9 s)):=fun k p=>by
  unfold qB;split
  ·exact⟨zw _,qy,p.us,p.cmd,p.num,zw _⟩
  ·exact p
 have A:=Je s u
 -- what is told ahead of the last look
 have d:mU (n+1) s1/\s1.a5G.a5F.length+(if s1.a5H=2/\sS x=false/\x.bx.val≠0 then 32 else 0)<=32*(n+1):=by
  by_cases ho0:sS x=true
  ·have C:¬(s1.a5H=2/\sS x=false/\x.bx.val≠0):=fun h=>(by rw[h.2.1] at ho0;cases ho0);rw[zk C];split at a
   ·have:=Ja a (show U4 (uT x).m.s from by show U4 x.m.s;rw[j];exact u) (c _ b) qb;exact⟨this,this.a5F⟩
   ·rw[a.1];exact⟨c _ b,(c _ b).a5F⟩
  ·have Y:sS x=false:=(by simpa using ho0);have D:¬(x.c.kind=8\/x.c.kind=9):=fun e=>by
    apply ho0;unfold sS;rcases e with e|e<;>rw[e]<;>rfl
   have J:s1.a5G.a5F.length<=32*n/\mU (n+1) s1:=by
    split at a
    ·refine⟨?_,Ja a (show U4 (uT x).m.s from by show U4 x.m.s;rw[j];exact u) (c _ b) qb⟩;have f:=(c _ (iQ t)).a5F;unfold L6 at a;rw[zk (show¬((uT x).c.kind=8\/(uT x).c.kind=9) from D)] at a;have Q:∀S,qt (uT x) (qB x (V9 s)) S r s1 V->s1.a5G.a5F.length<=32*n:=fun S h=>by
      obtain⟨_,⟨Z,rfl,hv⟩,_⟩:=h;have:=hv.len;show Z.a5F.length<=_;omega
     split at a
     ·rw[a.1];exact f
     split at a
     ·rw[a.1];exact f
     split at a
     ·rw[a.1];exact f
     split at a
     ·rw[a.1];exact f
     split at a
     ·rw[a.1];exact f
     split at a
     ·exact Q _ a
     split at a
     ·exact Q _ a
     ·rw[a.1];exact f
    ·rw[a.1];exact⟨(c _ (iQ t)).a5F,c _ b⟩
   refine⟨J.2,?_⟩;split<;>omega
 have l:mU (n+1) X:=by
  split at v
  ·rename_i m;rw[zu m] at d;obtain⟨e1,e2,T⟩:=QI s1.a5G x.bx.x (!fe x) s1.cond;rw[v.1];rw[i] at e2 T;refine⟨?_,fun r hr=>?_,d.1.us,d.1.cmd,d.1.num,?_⟩
   ·show(T7 s1.a5G x.bx.x (!fe x) s1.cond).1.a5F.length<=_;rw[i];omega
   ·have M:r∈(T7 s1.a5G (mI s st) (!fe x) s1.cond).1.a5F:=(by rw[<-i];exact hr);rcases T r M with⟨q,hq,e⟩|⟨z,hz,e⟩
    ·rw[<-e];exact d.1.row q hq
    ·rw[<-e];exact A.2 z hz
   ·show(T7 s1.a5G x.bx.x (!fe x) s1.cond).1.box.length<=64;rw[e1];exact d.1.box
  ·rw[v.1];exact d.1
 split at y
 ·rw[y.1];exact nM l 3
 ·rw[y.1];exact l
theorem QK{n:Nat}{s b:SE}{c:DD}(d:mU n s)(h:(b,c)=S4 s):mU (n+1) b:=by
 have a:=d.up (show n<=n+1 by omega);unfold S4 at h;split at h
 ·injection h with h1 h2;rw[h1];exact a
 split at h
 ·injection h with h1 h2;rw[h1];exact nM (iQ a) 3
 ·injection h with h1 h2;rw[h1];exact iQ a
structure RqI(r:RQ):Prop where
 ok:xa r
 op:r.op=1->r.life<18446744073709551616/\r.tr<18446744073709551616
structure Jf(n:Nat)(w:WM):Prop where
 se:mU n w.s
 ml:uN w.m.s
 q:RqI w.q
 tr:w.tr<=n
 bll:w.bl.length<=n
 body:∀p∈w.bl,p.2.length<=4096
structure iR(a:AX):Prop where
 text:a.text.length<=1000000000
 q:RqI a.other
def kK(w:WM)(a:AX)(w':WM)(t:TN):Prop:=(a.kind=1/\w.s.a5M=false/\w'=w/\t=Fi w a)\/
 ∃w1 c,cA w a t.b t.d w1.m.s w1.bl t.hears t.comes t.fails c/\(t.a=w.s/\t.hk=a.hk/\t.ht=a.text/\t.c=w.s.cmd)/\(w1.q=w.q/\w1.tr=w.tr)/\sV w1 t w'
theorem xn.step{w:WM}{a:AX}{w':WM}{t:TN}{c:Bool}{h:l9}(k:xn w a w' t c h):kK w a w' t:=by
 rcases k with⟨b,d,e,f,_⟩|⟨g,b,d,_⟩
 ·exact .inl ⟨b,d,e,f⟩
 ·exact .inr ⟨g,c,b.dn,⟨b.ta.1,b.ta.2.2.1,b.ta.2.2.2.1,b.ta.2.2.2.2.1⟩,⟨b.tw.1,b.tw.2.2⟩,d⟩
theorem QM{o:OC}(h:cB o):(o.a5I.length<=100000/\fR o.a5I)/\(o.mods.length<=100000/\fR o.mods)/\o.val<18446744073709551616:=by
 have a:=h.a5I;have b:=h.mods;have c:=h.val;exact⟨⟨by omega,fun u hu=>by have:=a.2 u hu;omega⟩,⟨by omega,fun u hu=>by have:=b.2 u hu;omega⟩,by omega⟩
theorem sW{s d:SE}{a:DD}(h:mB s d a):a.body.length<=4096:=by
 rcases h with⟨_,_,_,e,_⟩|⟨c,l,r,b,h⟩
 ·rw[e];simp
 ·exact h.body
theorem zZ{n:Nat}{w:WM}{a:AX}(h:Jf n w)(ha:iR a)(d:n<=800):Ce w a:=by
 have b:=ez h.ml w.q h.q.ok.num h.q.op;have hu:=QM b.2;exact⟨h.se.ok qb,by have:=h.se.a5F;omega,by have:=h.se.us;omega,h.ml.ok,h.q.ok,ha.q.ok,ha.text,b.1.ok,hu.1,hu.2.1,hu.2.2,by have:=h.tr;omega,by have:=h.bll;omega,fun p hp=>by have:=h.body p hp;omega,fun e f c=>by have:=sW (zY ha.text h.se.box c);omega⟩
theorem TF{n:Nat}{s:SE}{r:RQ}(a:n<=1000)(hs:s.num<=n)(h:Rl r):xa {r with ses:=s.ses,num:=s.num+1}:=
 ⟨by show s.num+1<_;omega,by have:=h.box;exact jd this qp,by have:=h.a5I;show r.a5I.length<=_;omega,by have:=h.a5R;show r.a5R.length<=_;omega,fun f hf=>jd (h.fl f hf) qp⟩
structure DdI(n:Nat)(d:DD):Prop where
 req:d.ask=true->xa d.req
 body:d.body.length<=4096
theorem Ji{s c:SE}{st:ML}{o:OC}{bl:BL}{b:DD}(h:ew s st o bl c b):b.ask=false/\b.store=false/\b.req=cU:=by
 unfold ew at h;split at h
 ·rw[h.2];exact qm
 rcases h with⟨d,_,_,_,e⟩|⟨f,_,_,_,_,_,_,a⟩
 ·rw[e];exact qm
 ·have:=ey a;exact⟨this.2.2.1,this.2.2.2.1,this.1⟩
theorem ND(s:SE):(S4 s).2.ask=false/\(S4 s).2.store=false/\(S4 s).2.req=cU:=by
 unfold S4;split
 ·exact qm
 ·split<;>exact qm
theorem QN{n:Nat}{w:WM}{a:AX}{v:SE}{q:DD}{A:ML}{f:BL}{x y z c:Bool}(h:Jf n w)(ha:iR a)(J:n<=800)(g:cA w a v q A f x y z c):
  mU (n+1) v/\uN A/\(f.length<=n\/f.length<=n+1/\q.store=false)/\(∀p∈f,p.2.length<=4096)/\DdI n q:=by
 have j:=ez h.ml w.q h.q.ok.num h.q.op;unfold cA at g;split at g
 ·obtain⟨i,rfl,rfl,_⟩:=g;have hs:=zY ha.text h.se.box i;refine⟨QH h.se hs,h.ml,.inl h.bll,h.body,fun e=>?_,sW hs⟩;rcases hs with⟨d,_⟩|⟨c,l,r,b,t⟩
  ·rw[e] at d;cases d
  ·rw[t.req];have k:=TF (n:=n) (s:=w.s) qb h.se.num t.rq;split
   ·exact⟨by rename_i D;rw[t.rq.num D];decide,k.box,k.a5I,k.a5R,k.fl⟩
   ·exact k
 split at g
 ·obtain⟨_,⟨s1,M,i,m⟩,rfl,rfl,_⟩:=g;have C:=j.1.ok;split at m
  ·obtain⟨rfl,rfl⟩:=m;have e:=Ji i;exact⟨OF h.se C i,j.1,.inl h.bll,h.body,(fun d=>by rw[e.1] at d;cases d),by rw[gM i];simp⟩
  ·have e:=Ji m;exact⟨OF h.se C m,j.1,.inl h.bll,h.body,(fun d=>by rw[e.1] at d;cases d),by rw[gM m];simp⟩
 split at g
 ·obtain⟨i,rfl,rfl,_⟩:=g;have o:q=(S4 w.s).2:=by rw[<-i]
  have e:=ND w.s;rw[<-o] at e;exact⟨QK h.se i,h.ml,.inl h.bll,h.body,(fun d=>by rw[e.1] at d;cases d),by rw[o,qE];simp⟩
 ·obtain⟨rfl,rfl,rfl,rfl,_⟩:=g;have u:=ez h.ml a.other ha.q.ok.num ha.q.op;refine⟨h.se.up qb,u.1,.inr ⟨?_,rfl⟩,fun p hp=>?_,(fun e=>by cases e),by simp⟩
  ·have:=h.bll;rw[zz];simp only[zy,z6];omega
  ·rcases zc.1 hp with hp|hp
   ·exact h.body p hp
   ·rw[zg.1 hp];show(9:Nat)<=4096;decide
theorem Jl{n:Nat}{w:WM}{a:AX}{w':WM}{t:TN}(h:Jf n w)(ha:iR a)(k:n<=800)(hs:kK w a w' t):Jf (n+1) w':=by
 rcases hs with⟨_,_,rfl,_⟩|⟨l,c,m,u,g,b⟩
 ·exact⟨h.se.up qb,h.ml,h.q,by have:=h.tr;omega,by have:=h.bll;omega,h.body⟩
 ·obtain⟨o,q,d,i,j⟩:=QN h ha k m;refine⟨by rw[b.s];exact o,by rw[b.m];exact q,?_,?_,?_,?_⟩
  ·rw[b.q];unfold iP;split
   ·rename_i e;have f:=j.req e;split
    ·have:=h.tr;exact⟨⟨f.num,f.box,f.a5I,f.a5R,f.fl⟩,fun _=>⟨by show 1<_;decide,by show l.tr+1<_;rw[g.2];omega⟩⟩
    ·rename_i r;exact⟨f,fun s=>absurd s r⟩
   ·rw[g.1];exact h.q
  ·rw[b.tr];unfold Fg;have:=h.tr;split
   ·split<;>rw[g.2]<;>omega
   ·rw[g.2];omega
  ·rw[b.bl];unfold Rk;split
   ·rename_i e;rcases d with d|⟨_,d⟩
    ·rw[zz];simp only[zy,z6];omega
    ·rw[e] at d;cases d
   ·rcases d with d|⟨d,_⟩<;>omega
  ·rw[b.bl];unfold Rk;split
   ·intro p hp;rcases zc.1 hp with hp|hp
    ·exact i p hp
    ·rw[zg.1 hp];exact j.body
   ·exact i
inductive bn (w0:WM):List AX->List TN->WM->Prop
 |nil:bn w0 [] [] w0
 |snoc {l:List AX} {ts:List TN} {w w':WM} {a:AX} {t:TN}:bn w0 l ts w->kK w a w' t->bn w0 (l++[a]) (ts++[t]) w'
theorem qI{w0 w:WM}{l:List AX}{b:List TN}(h:bn w0 l b w)(c:Jf 0 w0)(ha:∀a∈l,iR a)(hl:l.length<=800):Jf l.length w/\b.length=l.length:=by
 induction h with
 |nil=>exact⟨c,rfl⟩
 |snoc hp hs ih=>
  rename_i l b w g a t;have d:l.length+1<=800:=by simpa using hl
  obtain⟨e,f⟩:=ih (fun a h=>ha a (Kb _ h)) qb;rw[zz,zz,f];exact⟨Jl e (ha _ (K2 _ (zg.2 rfl))) qb hs,rfl⟩
abbrev xt:RQ:={cU with op:=1,node:=5,life:=1,tr:=1}
abbrev xu(m:MM):WM:=⟨oH,rf,m,cU,cY,0,[],none,0⟩
def xv:ML:=(D6 Gf xt).1
def a1P(h:l9)(v:Value)(A:List As):Prop:=∃m,v=Ff (xu m)/\A=[]/\m.s=xv/\iE m h
theorem Jo:xa xt:=⟨by decide,by decide,by decide,by decide,qy⟩
theorem xw:Cm prog 16 [] (fun _=>True) [] a1P:=by
 refine x8 11 func16 rfl rfl rfl ?_;intro F R _;refine C6 ?_;refine i7 rfl ?_;intro k;refine C6 ?_;refine A8 Ql trivial ?_;rintro v A l d ⟨h,rfl,a,rfl,e⟩;refine f_ (y7 (ps:=[(0,.const (.int .i64 1)),(3,.const (.int .i64 5)),(4,.const (.int .u64 1)),(5,.const (.int .u64 1))]) (vs:=[(0,.int .i64 1),(3,.int .i64 5),(4,.int .u64 1),(5,.int .u64 1)]) (cells:=(eB xt cY).toArray) rfl i6) ?_;refine A8 (qe h xt cY (by rw[a];exact IX.ok) Jo) ⟨e,o0.nil _ _,o0.nil _ _⟩ ?_;rintro v A m f ⟨c,o,n,rfl,g,p,rfl,b,i⟩;refine E4 ?_;refine i7 rfl ?_;intro q;refine i7 rfl ?_;intro r;refine E4 ?_;refine f_ (y7 (ps:=[(1,.tmp 9)]) (vs:=[(1,uR c)]) (cells:=(OD (xu c)).toArray) rfl i6) ?_;refine C8 ?_;refine G_ (A:=[]) (v:=Ff (xu c)) (d.trans f) ⟨c,rfl,rfl,by rw[g,a];rfl,b⟩ ?_;exact G5 rfl rfl ud rfl _ qh (fun v j=>C1 (A:=[]) (J:=[_,_,_]) tk j)
theorem xx{m:MM}(h:m.s=xv):Jf 0 (xu m):=by
 refine⟨⟨zw _,qy,zw _,kC rfl rfl rfl rfl rfl rfl rfl,zw _,zw _⟩,?_,⟨⟨by show 0<18446744073709551616;decide,zw _,zw _,zw _,qy⟩,fun e=>by cases e⟩,zr _,zr _,qy⟩;show uN m.s;rw[h];exact(ez IX xt qp (fun _=>⟨by decide,by decide⟩)).1
structure ry(t:TN)(h:l9):Prop where
 a:U3 t.a t.ax h
 ar:o0 h t.ax.ra (V7 t.a.a5G.a5F)
 b:U3 t.b t.bx h
 br:o0 h t.bx.ra (V7 t.b.a5G.a5F)
 a5Q:t.d.a5Q=t.y.rl.map Prod.fst
 row:o0 h t.y.da (TW t.y.rl)
 rep:∀m∈t.y.rl,fE m.1 m.2 h
instance {t:TN}:Mn (ry t):=⟨fun l k=>⟨Mn.le l k.a,k.ar.le l,Mn.le l k.b,k.br.le l,k.a5Q,k.row.le l,fun m hm=>(k.rep m hm).le l⟩⟩
theorem Jt{h:l9}:∀{l:List RM} {bs:List Nat},A2 h (Y9 l) bs->(∀m∈l,kI m h)->∀m∈l,fE m.1 m.2 h
 |[],_,_,_,m,a=>by cases a
 |x::t,bs,hs,hp,m,a=>by
  have b:A2 h (Y9 [x]++Y9 t) bs:=by rw[<-nL];exact hs
  obtain⟨c,j,rfl,d,e⟩:=A2.split b;rcases ky.1 a with rfl|a
  ·rcases hp m j9 with⟨f,_⟩|⟨g,i,rfl⟩
   ·exact f
   ·exact⟨rfl,o0.nil _ _,A2.rd (show A2 h [A4 g R5 i] c from d) ud,o0.nil _ _,qy⟩
  ·exact Jt e (fun m a=>hp m (jj _ a)) m a
theorem NE{h:l9}{c:Bool}{t:TN}{bs:List Nat}(hs:A2 h (fo c t) bs)(hp:∀m∈t.y.rl,kI m h)(hc:c=true):o0 h t.bx.ra (V7 t.b.a5G.a5F)/\o0 h t.y.da (TW t.y.rl)/\∀m∈t.y.rl,fE m.1 m.2 h:=by
 unfold fo at hs;rw[zu hc] at hs;refine⟨A2.rd hs ud,A2.rd hs ud,?_⟩;obtain⟨d,e,rfl,_,a⟩:=hs;obtain⟨f,g,rfl,_,b⟩:=a;exact Jt b hp
theorem JA{w w':WM}{a:AX}{t:TN}{c:Bool}{h e:l9}{bs:List Nat}(d:lI w e)(hf:xn w a w' t c h)(hl:l9.le h e)(hs:A2 e (fo c t) bs):lI w' e/\ry t e:=by
 rcases hf with⟨_,_,rfl,rfl,_⟩|⟨n,g,b,i⟩
 ·exact⟨d,d.se,d.a5F,d.se,d.a5F,rfl,o0.nil _ _,qy⟩
 ·have hp:=g.le hl;have f:o0 e t.bx.ra (V7 t.b.a5G.a5F)/\o0 e t.y.da (TW t.y.rl)/\∀m∈t.y.rl,fE m.1 m.2 e:=by
   cases c with
   |true=>exact NE hs hp.rp rfl
   |false=>
    obtain⟨j,k,l⟩:=hp.cf rfl;rw[j,k,l];exact⟨d.a5F,o0.nil _ _,qy⟩
  refine⟨⟨d.g,by rw[b.s,b.x];exact f.1,by rw[b.s,b.x];exact hp.se,by rw[b.m];exact hp.m,?_,i.le hl⟩,by rw[hp.ta.1,hp.ta.2.1];exact d.se,by rw[hp.ta.1,hp.ta.2.1];exact d.a5F,hp.se,f.1,hp.a5Q,f.2.1,f.2.2⟩;rw[b.q,b.ql];unfold iP;split
  ·split
   ·exact⟨hp.rq.a5I,hp.rq.a5R⟩
   ·exact hp.rq
  ·rw[hp.tw.1,hp.tw.2.1];exact d.q
theorem xn.le{w w':WM}{a:AX}{t:TN}{c:Bool}{h b:l9}(k:xn w a w' t c h)(l:l9.le h b):xn w a w' t c b:=by
 rcases k with k|⟨d,e,f,g⟩
 ·exact .inl k
 ·exact .inr ⟨d,e.le l,f,g.le l⟩
abbrev lJ:=AX×QL
abbrev Kl(p:lJ):List Value:=Fh p.1 p.2
theorem kL:∀x,(Kl x).length=21:=fun _=>rfl
theorem U6:∀x,(gL x).length=99:=fun _=>rfl
theorem eW:∀x,∀q∈gL x,q.oneCell'=true:=fun x q a=>by
 have:(gL x).all (fun q=>q.oneCell')=true:=rfl;exact Qv.1 this q a
abbrev kM(o:AC)(ts:List TN):As:=.own (.slice o.1 ts.length o.2) 48 99 (ts.flatMap gL)
def QO(l:List lJ)(h:l9)(v:Value)(A:List As):Prop:=∃m ts w a c,v=.slice a ts.length c/\A=[]/\o0 h a (ts.flatMap gL)/\(∀t∈ts,ry t h)/\m.s=xv/\bn (xu m) (l.map Prod.fst) ts w
theorem JB(l:List lJ)(X:Option Addr)(lc:Nat)(hl:l.length<=120)(ha:∀p∈l,iR p.1):
  Cm prog 11 [.slice X l.length lc] (fun h=>Gl h/\o0 h X (l.flatMap Kl)/\∀p∈l,dB p.1.other p.2 h) [] (QO l):=by
 refine x8 28 func11 rfl rfl rfl ?_;rintro F R ⟨hg,Y,h4⟩;refine xJ ?_;refine A8 xw trivial ?_;rintro v A F0 h0 ⟨m,rfl,rfl,hm,h5⟩;refine i7 rfl ?_;intro u;refine y8 ?_;refine I8 1 ?_;refine S7 (fun(b:List TN) (o:AC) (w:WM) (x:l6)=>F.le x/\bn (xu m) (l.map Prod.fst) b w/\∀t∈b,ry t x.heap) (fun b o _ _=>[(4,.slice o.1 b.length o.2)]) (fun _ _ _ x=>x) (fun b o w _=>kM o b::ij u w::R) ?_ ?_
 ·refine n9 ?_;refine bJ (ι:=Nat×List TN×AC×WM×l6) (fun i=>i.1<=l.length/\F.le i.2.2.2.2/\bn (xu m) ((l.map Prod.fst).take i.1) i.2.1 i.2.2.2.1/\(∀t∈i.2.1,ry t i.2.2.2.2.heap)/\lI i.2.2.2.1 i.2.2.2.2.heap) (fun i=>[(0,.slice X l.length lc),(3,m6 u),(4,.slice i.2.2.1.1 i.2.1.length i.2.2.1.2),(5,.int .i64 (i.1:Nat))]) (fun i=>i.2.2.2.2)
   (fun i=>match i with|(_,b,o,w,_)=>kM o b::ij u w::R) (fun i=>l.length-i.1) (0,[],(none,0),xu m,F0) ⟨zw _,h0,by rw[Kw];exact .nil,qy,⟨hg.le h0.heap,o0.nil _ _,⟨o0.nil _ _,fj.zero _⟩,h5,⟨o0.nil _ _,o0.nil _ _⟩,o0.nil _ _⟩⟩ sub rfl (fun v e=>C1 (A:=[kM (none,0) [],_]) (J:=[]) tk (e.addNil 48 99)) ?_
  rintro⟨j,b,o,w,x⟩ ⟨hj,n,r,y,M⟩;simp only at hj n r y M;have D:((l.map Prod.fst).take j).length=j:=by rw[z7,zm];omega
  have O:=qI r (xx hm) (fun a h=>by
   obtain⟨p,hp,rfl⟩:=jv.1 (Jq h);exact ha p hp) (by rw[D];omega)
  rw[D] at O;have q1:b.length=j:=O.2;refine EW ?_ ?_<;>intro h
  ·have s:j<l.length:=(by have:=qr h;omega);have h6:=A0 (Y.le n.heap) kL qp s;have h7:iR l[j].1:=ha _ (zx s);have h1:=IR w l[j].1 l[j].2 (zZ O.1 h7 qb);have h8:dB l[j].1.other l[j].2 x.heap:=Mn.le n.heap (h4 _ (zx s));refine I8 0 ?_;refine S7 (fun(g:List TN) (Q:AC) (f:WM) (k:l6)=>F.le k/\bn (xu m) ((l.map Prod.fst).take (j+1)) g f/\(∀t∈g,ry t k.heap)/\lI f k.heap) (fun g Q _ _=>[(0,.slice X l.length lc),(3,m6 u),(4,.slice Q.1 g.length Q.2),(5,.int .i64 (j:Nat))]) (fun _ _ _ k=>k) (fun g Q f _=>kM Q g::ij u f::R) ?_ ?_
   ·refine n9 ?_;refine C6 ?_;refine i7 rfl ?_;intro g6;refine u7 ?_;refine I8 0 ?_;refine S7 (fun(f:WM) (t:TN) (c:Bool) (k:l6)=>x.le k/\xn w l[j].1 f t c k.heap) (fun _ _ _ _=>[(0,.slice X l.length lc),(3,m6 u),(4,.slice o.1 b.length o.2),(5,.int .i64 (j:Nat)),(6,m6 g6)]) (fun _ _ _ k=>k) (fun f t c _=>qD g6 t::kM o b::ij u f::(fo c t++R)) ?_ ?_
    ·refine u7 ?_;refine D9 [0] [4,5,9,10] [ij u w] 11 ?_;refine wd [0,1,2] ?_;refine w_ 3 rfl (m8 rfl h6 rfl qb) ?_;refine h_ 4 rfl i6 ?_;refine r_ (w8 rfl (fun v e=>fq (C:=Kl) ((Y.le n.heap).le e.keep) kL qp s y4) (kL _)) ?_;refine ae ?_;refine h_ 5 rfl i6 ?_;refine R7 h1 ⟨M,h8⟩ ?_;rintro v A Z Fz hz ⟨f,t,c,rfl,rfl,hf⟩;refine I6 (H':=_::_::_::(fo c t++(R++Z))) (fun v e=>e.perm (Qd (fo c t) [_,_,_] (R++Z))) ?_;refine E5 [6,7,8,9,10] ?_
     all_goals exact eu (Rr:=qD g6 t::kM o b::ij u f::(fo c t++R)) Fz hz (fun v e=>by
      show Hp x v (qD g6 t::kM o b::ij u f::((fo c t++R)++Z));rw[zn];exact C1 (A:=[_,_,_]) (J:=[]) tk e) fun k d h9=>y5 (f,t,c,k) ⟨d,hf.le h9⟩ rfl (fun v e=>e)
    rintro f t c k ⟨d,hf⟩;refine u7 ?_;refine D5 (H':=(qD g6 t::kM o b::ij u f::R)++fo c t) (fun v e=>e.perm (((kj.cons _).cons _).cons _)) (bY fun F3 z S=>?_);obtain⟨bs,S⟩:=S;obtain⟨T,U⟩:=JA (Mn.le (d.trans z).heap M) hf z.heap S;clear S;refine y8 ?_;refine C4 gL t rfl ?_;intro q2 _;refine u6 gL (l:=b) (m:=[t]) U6 eW (by show(b.length+1)*1216<=_;omega) ?_;intro k0 k8 _;refine p_ ?_;have V:bn (xu m) ((l.map Prod.fst).take (j+1)) (b++[t]) f:=by
     rw[kw (by rw[zm];exact s),Jj];exact .snoc r hf.step
    have h2:=(n.trans d).trans z;exact y5 (b++[t],(k0,k8),f,F3) ⟨h2,V,fun q hq=>by
     rcases zc.1 hq with hq|hq
     ·exact Mn.le (d.trans z).heap (y q hq)
     ·rw[zg.1 hq];exact U,T⟩ rfl (fun v e=>C1 (A:=[_,_]) (J:=[_,_]) tk e)
   rintro g Q f k ⟨d,k9,U,T⟩;refine E4 ?_;exact O9 (i:=(j,b,o,w,x)) (j+1,g,Q,f,k) ⟨s,d,k9,U,T⟩ qg sub rfl (fun v e=>e)
  ·refine u7 ?_;exact y5 (b,o,w,x) ⟨n,by have:(l.map Prod.fst).take j=l.map Prod.fst:=kp (by rw[zm];have:=zq h;omega);rw[<-this];exact r,y⟩ rfl (fun v e=>e)
 rintro b o w x ⟨q0,r,y⟩;refine y8 ?_;refine B8 (Z:=[kM o b]) tk fun k d ⟨bs,S⟩=>?_;have h3:o0 k.heap o.1 (b.flatMap gL):=A2.rd S ud;clear S;refine A3 ?_;refine G_ (A:=[]) (v:=.slice o.1 b.length o.2) (q0.trans d) ⟨m,b,w,o.1,o.2,rfl,rfl,h3,fun t ht=>Mn.le d.heap (y t ht),hm,r⟩ ?_;exact d_ rfl rfl _ qh (fun v e=>e.drop)
theorem sX{h:l9}{a:Option Addr}{q j:Nat}{cs vs:List Value}(p:L_ h (N1 a q) cs)(hv:∀k u,vs[k]? =some u->cs[j+k]? =some u):L_ h (N1 a (q+j)) vs:=by
 obtain⟨b,e,k⟩:=p
 cases a with
 |none=>cases e
 |some a0=>
  injection e with e;subst e;exact⟨a0.add (q+j),rfl,fun m u hu=>by rw[<-fZ];have:=k _ _ (hv m u hu);rw[<-fZ] at this;exact this⟩
abbrev Cj(n:Nat):Nat:=min n 1048576
structure OG(S:Nat)(a:AX):Prop where
 a5I:a.other.a5I.length<=1000
 a5R:a.other.a5R.length<=200
 text:Cj a.text.length<=S
 box:Cj a.other.box.length<=S
 dest:Cj a.other.tz.length<=S
 fl:∀f∈a.other.a5R,Cj f.length<=S
theorem OG.up{S b:Nat}{a:AX}(h:OG S a)(hs:S<=b):OG b a:=⟨h.a5I,h.a5R,jd h.text hs,jd h.box hs,jd h.dest hs,fun f hf=>jd (h.fl f hf) hs⟩
theorem qJ(n:Nat):Cj n<=1048576:=Nat.min_le_right _ _
theorem JC(l:List lJ)(o:Option Addr)(T:Nat):
  Ct prog 10 [.slice o l.length T] (fun h=>o0 h o (l.flatMap Kl)/\∀p∈l,dB p.1.other p.2 h) [] (fun v A=>A=[]/\∃b:Bool,v=.bool b/\(b=false->l.length<=120/\∀p∈l,OG 32768 p.1)):=by
 refine b_ 85 func10 rfl rfl rfl ?_;rintro F ⟨Y,k0⟩;refine EW ?_ ?_<;>intro h
 ·refine C8 ?_;exact d_ rfl rfl [] ⟨rfl,true,rfl,(fun e=>by cases e)⟩ (fun v c=>c)
 have y:l.length<=120:=by have:=zq h;omega
 refine p_ ?_;refine I8 1 ?_;refine n7 (ι:=Nat) (fun S=>S<=l.length*300000000/\∀p∈l,OG S p.1) (fun S=>[(3,.int .i64 (S:Nat))]) (fun _=>[]) ?_ ?_
 ·refine n9 ?_;refine o9 (ι:=Nat×Nat) (fun i=>i.1<=l.length/\i.2<=i.1*300000000/\∀p∈l.take i.1,OG i.2 p.1) (fun i=>[(0,.slice o l.length T),(3,.int .i64 (i.2:Nat)),(4,.int .i64 (i.1:Nat))]) (fun _=>[]) (fun i=>l.length-i.1) (0,0) ⟨zw _,zw _,(fun _ h=>by simp at h)⟩ sub (fun v c=>c) ?_;rintro⟨j,S⟩ ⟨hj,hS,U⟩;simp only at hj hS U;refine EW ?_ ?_<;>intro h
  ·have g:j<l.length:=(by have:=qr h;omega);have Z:=A0 Y kL qp g;obtain⟨a,ha⟩:=o7 (l[j].1);obtain⟨z,hz⟩:=o7 (l[j].2);have D:l[j]=(a,z):=(by rw[ha,hz]);have C1:∀{w:World} {H:List As},Hp F w H->L_ (hp w) (N1 o (j*21)) (Kl (a,z)):=fun c=>by
    have:=fq (C:=Kl) (Y.le c.keep) kL qp g (q:=j*21) rfl
    rwa [D] at this
   have h0:dB a.other z F.heap:=(by have:=k0 _ (zx g);rwa [D] at this);have h4:o0 F.heap z.fa (a.other.a5R.flatMap xN):=(by have:=h0.a5R;rwa [AM] at this);refine I8 0 ?_;refine n7 (ι:=Nat) (fun d=>S<=d/\d<=(j+1)*300000000/\OG d a) (fun d=>[(0,.slice o l.length T),(3,.int .i64 (d:Nat)),(4,.int .i64 (j:Nat))]) (fun _=>[]) ?_ ?_
   ·refine n9 ?_;refine y8 ?_;refine f_ (m8 rfl Z rfl qb) ?_;refine p_ ?_;refine r_ (w8 (cs:=eB a.other z) rfl (fun v c=>sX (j:=4) (C1 c) (fun k u hu=>by rw[<-Zy];exact hu)) rfl) ?_;refine i7 rfl ?_;intro V;refine p_ ?_;refine I8 0 ?_;refine n7 (ι:=Bool) (fun q=>q=false->a.other.a5I.length<=1000/\a.other.a5R.length<=200) (fun q=>[(0,.slice o l.length T),(3,.int .i64 (S:Nat)),(4,.int .i64 (j:Nat)),(5,m6 V),(30,.bool q)]) (fun _=>[.blk V (.cells (eB a.other z).toArray 44)]) ?_ ?_
    ·by_cases hu:1000<a.other.a5I.length
     ·refine E4 ?_;refine f_ ((D8 rfl rfl).eq (v':=.bool true) (qn (jk (show(1000:Int)<((a.other.a5I.length:Nat):Int) by omega)))) ?_;refine cQ ?_;exact g_ true (fun e=>by cases e) (fun v c=>c)
     ·refine E4 ?_;refine f_ ((D8 rfl rfl).eq (v':=.bool false) (qn (Qk (show¬(1000:Int)<((a.other.a5I.length:Nat):Int) by omega)))) ?_;refine O2 ?_;(first|refine u_ ?_|(refine v_ ?_;refine f_ ((D8 rfl rfl).eq (v':=.bool (decide (200<a.other.a5R.length))) (qn qz)) ?_));refine p_ ?_;exact g_ (decide (200<a.other.a5R.length)) (fun e=>⟨by omega,by have:=zq e;omega⟩) (fun v c=>c)
    intro q6 h5;refine O1 ?_ ?_<;>intro h
    ·refine C8 ?_;exact d_ rfl rfl [] ⟨rfl,true,rfl,(fun e=>by cases e)⟩ (fun v c=>c.drop)
    obtain⟨k8,h6⟩:=h5 h;obtain⟨t1,J⟩:=o7 (Cj a.text.length);obtain⟨t2,M⟩:=o7 (Cj a.other.box.length);obtain⟨t3,O⟩:=o7 (Cj a.other.tz.length);obtain⟨t4,h7⟩:=o7 (Cj a.other.hash.length);have k9:=qJ a.text.length;have q0:=qJ a.other.box.length;have q1:=qJ a.other.tz.length;have q2:=qJ a.other.hash.length;rw[<-J] at k9;rw[<-M] at q0;rw[<-O] at q1;rw[<-h7] at q2;have r:=qC a.text.length;have s:=qC a.other.box.length;have t:=qC a.other.tz.length;have x:=qC a.other.hash.length;rw[show min a.text.length 1048576=t1 from J.symm] at r;rw[show min a.other.box.length 1048576=t2 from M.symm] at s;rw[show min a.other.tz.length 1048576=t3 from O.symm] at t;rw[show min a.other.hash.length 1048576=t4 from h7.symm] at x;refine u7 ?_;refine D9 [11,16,21,26,31] [6,8,23,28,33] [.blk V (.cells (eB a.other z).toArray 44)] 37 ?_;refine wd [0,1,2] ?_;refine w_ 3 rfl (m8 rfl Z rfl qb) ?_;refine wd [4,5,10,11,12,13,15,16,17,18,20,21,22,25,26,27,30,31,32] ?_;refine h_ 6 rfl i6 ?_;refine r_ (i8 (v:=B a.text) rfl (fun v c=>sX (j:=2) (vs:=[B a.text]) (C1 c) (fun k u hu=>by match k,hu with|0,hu=>exact hu|k+1,hu=>simp at hu))) ?_;refine gn [7] ?_;refine h_ 8 rfl i6 ?_;refine e_ rfl r qw rfl ?_;refine gn [9,14,19] ?_;refine h_ 23 rfl i6 ?_;refine e_ rfl s qw rfl ?_;refine gn [24] ?_;refine h_ 28 rfl i6 ?_;refine e_ rfl t qw rfl ?_;refine gn [29] ?_;refine h_ 33 rfl i6 ?_;refine e_ rfl x qw rfl ?_;refine gn [34] ?_;refine w_ 35 rfl ((p9 rfl rfl qb).eq (v':=.int .i64 ((S+t1+8*a.other.a5I.length+8*a.other.a5R.length+t2+t3+t4/16:Nat):Int)) (by congr 1)) ?_;refine wd [36] ?_;obtain⟨S1,q3⟩:=o7 (S+t1+8*a.other.a5I.length+8*a.other.a5R.length+t2+t3+t4/16);have q5:S1<=j*300000000+10000000:=(by omega);rw[<-q3];refine I8 1 ?_;refine n7 (ι:=Nat) (fun d=>S1<=d/\d<=S1+a.other.a5R.length*1048576/\∀f∈a.other.a5R,Cj f.length<=d) (fun d=>[(0,.slice o l.length T),(3,.int .i64 (d:Nat)),(4,.int .i64 (j:Nat))]) (fun _=>[.blk V (.cells (eB a.other z).toArray 44)]) ?_ ?_
    ·refine n9 ?_;refine o9 (ι:=Nat×Nat) (fun i=>i.1<=a.other.a5R.length/\S1<=i.2/\i.2<=S1+i.1*1048576/\∀f∈a.other.a5R.take i.1,Cj f.length<=i.2) (fun i=>[(0,.slice o l.length T),(3,.int .i64 (i.2:Nat)),(4,.int .i64 (j:Nat)),(5,m6 V),(6,.int .i64 (i.1:Nat))]) (fun _=>[.blk V (.cells (eB a.other z).toArray 44)]) (fun i=>a.other.a5R.length-i.1) (0,S1) ⟨zw _,zr _,Nat.le_add_right _ _,(fun _ h=>by simp at h)⟩ sub (fun v c=>c) ?_;rintro⟨k,d⟩ ⟨hk,g1,g2,X⟩;simp only at hk g1 g2 X;refine aH ?_;refine o8 rfl ?_ ?_<;>intro h
     ·have n:k<a.other.a5R.length:=(by have:=qr h;omega);have h8:=A0 h4 df qp n;have q4:=qJ a.other.a5R[k].length;obtain⟨Q,m⟩:=o7 (Cj a.other.a5R[k].length);have h9:=qC a.other.a5R[k].length;rw[show min a.other.a5R[k].length 1048576=Q from m.symm] at h9;rw[<-m] at q4;refine O2 ?_;refine f_ (m8 rfl h8 rfl qb) ?_;refine r_ (i8 rfl (fun v c=>dO (C:=xN) (h4.le c.keep) df n (j:=0) rfl y4)) ?_;refine p_ ?_;refine e_ rfl h9 qw rfl ?_;refine f_ ((p9 rfl rfl qb).eq (v':=.int .i64 ((d+Q:Nat):Int)) (by congr 1)) ?_;refine O2 ?_;exact l8 (i:=(k,d)) (k+1,d+Q) ⟨n,by simp only;omega,by simp only;omega,fun f hf=>by
       rw[kw n] at hf;rcases zc.1 hf with hf|hf
       ·have:=X f hf;simp only;omega
       ·rw[zg.1 hf,<-m];simp only;omega⟩ qg sub (fun v c=>c)
     ·refine u7 ?_;have e:a.other.a5R.take k=a.other.a5R:=kp (qu h);exact g_ d ⟨g1,jd g2 (Nat.add_le_add_left (Qy _ hk) _),by rw[e] at X;exact X⟩ (fun v c=>c)
    intro d ⟨g1,g2,X⟩;have g4:a.other.a5R.length*1048576<=200*1048576:=Qy _ h6;exact g_ d ⟨by omega,by omega,⟨k8,h6,by rw[<-J];omega,by rw[<-M];omega,by rw[<-O];omega,X⟩⟩ (fun v c=>c.drop)
   intro d ⟨h1,h2,h3⟩;refine E4 ?_;exact l8 (i:=(j,S)) (j+1,d) ⟨g,h2,fun p hp=>by
    rw[kw g] at hp;rcases zc.1 hp with hp|hp
    ·exact(U p hp).up h1
    ·rw[zg.1 hp,D];exact h3⟩ qg sub (fun v c=>c)
  ·refine u7 ?_;have e:l.take j=l:=kp (qu h);exact g_ S ⟨jd hS (Qy _ hj),by rw[e] at U;exact U⟩ (fun v c=>c)
 intro S ⟨hS,U⟩;refine p_ ?_;refine f_ ((D8 rfl rfl).eq (v':=.bool (decide (32768<S))) (qn qz)) ?_;refine C8 ?_;exact d_ rfl rfl [] ⟨rfl,decide (32768<S),rfl,fun e=>⟨y,fun p hp=>(U p hp).up (qu e)⟩⟩ (fun v c=>c)
def JD(l:List lJ)(la:Option Addr)(h:l9):Prop:=Gl h/\o0 h la (l.flatMap Kl)/\∀p∈l,dB p.1.other p.2 h
def Aa(l:List lJ):Prop:=∀p∈l,p.1.other.num<18446744073709551616/\p.1.other.life<18446744073709551616/\p.1.other.tr<18446744073709551616
theorem Ab{n:Nat}(h:Cj n<=32768):n<=32768:=by
 unfold Cj at h;omega
theorem NF{l:List lJ}(c:Aa l)(d:∀p∈l,OG 32768 p.1):∀p∈l,iR p.1:=fun p hp=>by
 have h:=d p hp;have b:=c p hp;have a:32768<=ln:=by decide
 have e:=h.a5I;have g:=h.a5R;exact⟨by have:=Ab h.text;omega,⟨b.1,jd (Ab h.box) a,by omega,by omega,fun f hf=>jd (Ab (h.fl f hf)) a⟩,fun _=>b.2⟩
end Go.Proofs.YtmcepdopookilaaGreatDoor.Rp
namespace Go.Sl
open Go Go.RowKit Go.WideShapes Go.ChangeShapes Go.ChangeMaps Go.Proofs.Tryz
theorem Hp.below{W w':World}{A:List As}(h:Hp (Y_ W) w' A):Below W.heap.size W w':=by
 have b:∀k,k<W.heap.size->w'.heap[k]? =W.heap[k]?:=fun k b=>by
  have e:W.heap[k]? =some W.heap[k]:=Qr b;rw[e];exact h.keep k _ (by show E3 W [] k=_;rw[N4];exact e)
 refine⟨h.os,h.tape,h.output,?_,b⟩;rcases Qh w'.heap.size W.heap.size with a|c
 ·have d:=b w'.heap.size a;rw[Qr a] at d;simp at d
 ·exact c
section
variable{H:Type}{enc:TypeId×Value->H}{P:Program}
theorem JE{f:Func}{s:ChangeSpec}{c l d m:Bool}{W o:World}{args:Array Value}{v:Value}{ds q:List (DataW H)}{a pa pv:List MemPlace}(y:DataW.Whole enc P f.params.toList s.vars c W args.toList ds q a)(i:∀(b:Nat) (n:Nat->Bool) (hd:Bool),DataW.TrodAll enc P o b n hd f.resultTypes.toList (v.resultList f.resultTypes.size) (s.fn H (ds++q)).results [])(e:∀n:Nat->Bool,(∀p∈a,n p.block=true)->DataW.TrodAll enc P o 0 n true f.params.toList args.toList (s.fn H (ds++q)).args pa)(g:∀n:Nat->Bool,(∀p∈a,n p.block=true)->DataW.TrodVars enc P o n s.vars (s.fn H (ds++q)).vars pv)(h:a=pa++pv)(A:Below W.heap.size W o)(z:∀(j:Nat) (t:TypeId) (r:Value),f.resultTypes[j]? =some t->(v.resultList f.resultTypes.size)[j]? =some r->Value.okWide P o .any 0 t r):
  s.post enc P f c l d m W args v o:=by
 have u:∀p∈a,p.block<W.heap.size:=fun p hp=>y.lt p hp;have k:∀p∈a,(fun b=>decide (b<W.heap.size)) p.block=true:=fun p hp=>by simpa using u p hp
 refine⟨ds,q,a,[],pa,pv,y,i _ _ _,e _ k,g _ k,World.keptBut_mono (fun p hp=>⟨hp,?_⟩) (A.frame (· ∈a)),fun _=>?_⟩
 ·rw[h,zc] at hp;exact Or.inr hp
 ·obtain⟨_,_,_,_,_,hz,C⟩:=y;refine⟨z,_,_,([]++pa)++pv,⟨[]++pa,pv,trodAll_append (e _ (fun _ _=>rfl)) (i _ _ _),g _ (fun _ _=>rfl),rfl,?_,?_⟩,?_⟩
  ·intro b w hp;have x:MemPlace.cell b w∈a:=(by rw[h];simpa using hp);rw[A.frozen (u _ x)];exact hz b w x
  ·intro ha;have:=C ha;rw[h] at this;simpa using this
  ·intro p hp _;rw[h];simpa using hp
theorem il(hl:laidOutB P=true){W e:World}(f:Below W.heap.size W e)(c:Nat->Bool):∀{b:List TypeId} {vs:List Value} {ds:List (DataW H)} {ps:List MemPlace},
  (b.all fun t=>P.readableRec t&&decide (t<P.types.size))=true->DataW.TrodAll enc P W 0 (fun _=>true) true b vs ds ps->(∀p∈ps,p.block<W.heap.size)->(∀p∈ps,c p.block=true)->
   DataW.TrodAll enc P e 0 c true b vs ds ps
 |[],vs,ds,ps,_,h,_,_=>by
  obtain⟨rfl,rfl,rfl⟩:=trodAll_nil h;rfl
 |t::b,vs,ds,ps,hr,h,hlt,hs=>by
  obtain⟨v,g,d,i,p,q,rfl,rfl,rfl,j,k⟩:=trodAll_cons h;simp only[List.all_cons,kx,jy] at hr;refine⟨p,q,WideElems.Trod_stays hl hr.1.1 hr.1.2 j (fun x a=>f.same (hlt x (zc.2 (.inl a)))) (fun x a=>hs x (zc.2 (.inl a))),?_,rfl⟩;exact il hl f c (by simpa using hr.2) k (fun x a=>hlt x (zc.2 (.inr a))) (fun x a=>hs x (zc.2 (.inr a)))
theorem JF{f:FuncId}{fn:Func}{s:ChangeSpec}{g a h:Bool}{W:World}{vs:List Value}{ds u:List (DataW H)}{c:List MemPlace}{i:l9->Prop}{t:TypeId}(hc:Pu P f vs i (.bool true))(j:i (hp W))(k:s.vars=[])(w:DataW.Whole enc P fn.params.toList s.vars false W vs ds u c)(d:fn.resultTypes=#[t])(y:P.underlying t=some .bool)(hl:laidOutB P=true)(M:(fn.params.toList.all fun t=>P.readableRec t&&decide (t<P.types.size))=true)(hs:s.fn H (ds++u)={results:=[.lit (.bool true)],args:=ds}):
  Calls P f vs.toArray W fun e z=>∃v,e=.returned v/\s.post enc P fn false g a h W vs.toArray v z:=by
 refine(hc W [] rfl Zj (by rw[N4];exact j)).mono ?_;rintro e z ⟨v,A,rfl,⟨rfl,rfl⟩,O⟩;refine⟨_,rfl,?_⟩;have l:=w;have o:=fun p hp=>l.lt p hp;obtain⟨p,q,Q,C,m,S,T⟩:=w;rw[k] at C;obtain⟨rfl,rfl⟩:=trodVars_none C;have D:=Hp.below O;refine JE (pa:=p) (pv:=[]) (args:=vs.toArray) (by simpa using l) (fun b r U=>?_) (fun r n=>?_) (fun r n=>?_) m D ?_
 ·rw[hs,d];exact trodAll_cons_mk (shut_bool y true) trodAll_mk0
 ·rw[hs];refine il hl D r M Q (fun x J=>o x ?_) (fun x J=>n x ?_)<;>(rw[m];simpa using J)
 ·rw[hs,k];rfl
 ·exact ok_one d rfl (okWide_bool_mk y true)
end
open Go Go.RowKit Go.WideShapes Go.ChangeShapes Go.ChangeMaps Go.Proofs.Tryz
mutual
def Y0{H:Type}:DataW H->Nat
 |.lit (.string bytes)=>bytes.length+1
 |.lit _=>1
 |.nil=>1
 |.ptr d=>Y0 d+1
 |.slice elems spare=>gP elems+gP spare+1
 |.agg parts=>gP parts+1
 |.iface _ d=>Y0 d+1
 |.map entries=>mC entries+1
 |.held _=>1
def gP{H:Type}:List (DataW H)->Nat
 |[]=>0
 |d::r=>Y0 d+gP r
def mC{H:Type}:List (Lit×DataW H)->Nat
 |[]=>0
 |x::r=>EM x+mC r
def EM{H:Type}:Lit×DataW H->Nat
 |(.string bytes,d)=>bytes.length+Y0 d+1
 |(_,d)=>Y0 d+1
end
theorem mD{H:Type}(l:List (DataW H)):gP l=(l.map Y0).sum:=by
 induction l with
 |nil=>rfl
 |cons d r ih=>simp only[gP,Qu,List.sum_cons,ih]
structure xA(P:Program)(t:TypeId){α:Type}(cells:α->List Value)(ok:l9->α->Prop)(bulk:α->Nat):Prop where
 h:∀{H:Type} (enc:TypeId×Value->H) (w:World) (base:Nat) (sp:Nat->Bool) (held:Bool) (fuel:Nat) (cs:List Value) (x:DataW H×List MemPlace),DataW.trod enc P w base sp held fuel t cs=some x->∃y,cs=cells y/\ok (hp w) y/\bulk y<=Y0 x.1
section
variable{P:Program}{t e:TypeId}{k:IntKind}
theorem gQ(d:P.underlying t=some (.int k)):xA P t (fun n:Int=>[.int k n]) (fun _ n=>(Lit.int k n).wf=true) (fun _=>1):=⟨fun e w a g b c i x h=>by
 obtain⟨n,rfl,rfl,f⟩:=DataW.trod_int d h;exact⟨n,rfl,f,zr _⟩⟩
theorem xB(e:P.underlying t=some .bool):xA P t (fun b:Bool=>[.bool b]) (fun _ _=>True) (fun _=>1):=⟨fun f w a g c d i x h=>by
 obtain⟨n,rfl,rfl⟩:=DataW.trod_bool e h;exact⟨n,rfl,trivial,zr _⟩⟩
theorem cC(d:P.underlying t=some .string):xA P t (fun l:List UInt8=>[B l]) (fun _ l=>l.length<=maxLen) (fun l=>l.length+1):=⟨fun e w a f b c g x h=>by
 obtain⟨s,rfl,rfl,hs⟩:=DataW.trod_string d h;exact⟨s.data.toList,rfl,by rw[Zh];exact hs,by simp[Y0]⟩⟩
structure JG{α:Type}(cells:α->List Value)(ok:l9->α->Prop)(h:l9)(a:Option Addr)(ls:List α)(c:Nat):Prop where
 le:ls.length<=c
 max:c<=maxLen
 rd:o0 h a (ls.flatMap cells)
 each:∀y∈ls,ok h y
theorem xC{α:Type}{cells:α->List Value}{n:Nat}(b:∀y,(cells y).length=n)(a:0<n):∀(ls:List α) (j:Nat) (u:Value),(ls.flatMap cells)[j]? =some u->∃y,ls[j/n]? =some y/\(cells y)[j%n]? =some u
 |[],j,u,h=>by simp at h
 |x::r,j,u,h=>by
  rw[Q2] at h;by_cases hj:j<n
  ·rw[jg (by rw[b];exact hj)] at h;refine⟨x,?_,?_⟩
   ·rw[Nat.div_eq_of_lt hj];rfl
   ·rw[Nat.mod_eq_of_lt hj];exact h
  ·rw[jz (by rw[b];omega),b] at h;obtain⟨y,c,d⟩:=xC b a r (j-n) u h;refine⟨y,?_,?_⟩
   ·have:j/n=(j-n)/n+1:=by
     conv=>lhs;rw[show j=(j-n)+n by omega]
     rw[Nat.add_div_right _ a]
    rw[this];simpa using c
   ·rw[Nat.mod_eq_sub_mod qb];exact d
theorem qK{α:Type}{cells:α->List Value}{ok:l9->α->Prop}{d:α->Nat}(Y:P.underlying t=some (.slice e))(S:xA P e cells ok d){n:Nat}(hc:P.cellsOf e=n)(Z:∀y,(cells y).length=n)(f:0<n){H:Type}{enc:TypeId×Value->H}{w:World}{base:Nat}{U:Nat->Bool}{g:Bool}{o:Nat}{cs:List Value}{x:DataW H×List MemPlace}(h:DataW.trod enc P w base U g o t cs=some x):
  ∃(a:Option Addr) (ls:List α) (c:Nat),cs=[.slice a ls.length c]/\JG cells ok (hp w) a ls c/\((x.1=.nil/\ls=[])\/∃b l,x.1=.slice b l/\b.length=ls.length)/\(ls.map d).sum+1<=Y0 x.1:=by
 rcases DataW.trod_slice Y h with⟨rfl,rfl⟩|⟨a,p,D,b,rest,m,_,rfl,rfl,hb,hl,hm,q,J,_,_⟩
 ·exact⟨none,[],0,rfl,⟨zr _,zw _,o0.nil _ _,by simp⟩,.inl qh,by simp[Y0]⟩
 ·have M:∀(k:Nat),k<=p->∃ls:List α,ls.length=k/\(∀i y,ls[i]? =some y->w.cells? base (a.add (i*n)) n=some (cells y)/\ok (hp w) y)/\(ls.map d).sum<=((b.take k).map (fun x=>Y0 x.1)).sum:=by
   intro k
   induction k with
   |zero=>intro _;exact⟨[],rfl,by simp,by simp⟩
   |succ k ih=>
    intro hk;obtain⟨ls,v,A,V⟩:=ih qb;have C:=J k qb;have r:k<b.length:=(by omega);rw[zj r,hc,zp] at C;obtain⟨cs,O,Q⟩:=C;obtain⟨y,rfl,s,h8⟩:=S.h enc w base U g m cs _ Q;refine⟨ls++[y],by simp[v],fun i z hz=>?_,?_⟩
    ·by_cases X:i<k
     ·rw[jg qb] at hz;exact A i z hz
     ·rw[jz qb] at hz;have T:i=k:=by
       have:=(Qw.1 hz).1;simp at this;omega
      subst T;simp[v] at hz;subst hz;exact⟨O,s⟩
    ·rw[kw r];simp only[jm,Qu,Jk,List.sum_append,List.sum_cons,List.sum_nil];omega
  obtain⟨ls,v,A,V⟩:=M p (zr _);subst v;refine⟨some a,ls,D,rfl,⟨hl,hm,fun _=>⟨a,rfl,fun j u hu=>?_⟩,fun y hy=>?_⟩,.inr ⟨_,_,rfl,by simp[q]⟩,?_⟩
  ·obtain⟨y,C,O⟩:=xC Z f ls j u hu;obtain⟨Q,_⟩:=A _ _ C;have s:=(World.cells?_some Q).2.2 (j%n) (Nat.mod_lt _ f);rw[uU];rw[O,fZ] at s;have:j/n*n+j%n=j:=(by rw[W7];exact Nat.div_add_mod j n);rw[this] at s;exact s
  ·obtain⟨i,X⟩:=List.getElem?_of_mem hy;exact(A i y X).2
  ·simp only[Y0,mD,Jn];rw[kp qb] at V;simp only[Z5];omega
theorem sY{α:Type}{cells:α->List Value}{ok:l9->α->Prop}{b:α->Nat}(j:P.underlying t=some (.slice e))(S:xA P e cells ok b){n:Nat}(hc:P.cellsOf e=n)(k:∀y,(cells y).length=n)(d:0<n):
  xA P t (fun y:Option Addr×List α×Nat=>[.slice y.1 y.2.1.length y.2.2]) (fun h y=>JG cells ok h y.1 y.2.1 y.2.2) (fun y=>(y.2.1.map b).sum+1):=⟨fun l w f r g i s x h=>by
 obtain⟨a,m,c,o,p,_,q⟩:=qK j S hc k d h;exact⟨(a,m,c),o,p,q⟩⟩
structure NG(P:Program)(fs:List Field)(off tot:Nat){α:Type}(cells:α->List Value)(ok:l9->α->Prop)(bulk:α->Nat):Prop where
 h:∀{H:Type} (enc:TypeId×Value->H) (w:World) (base:Nat) (sp:Nat->Bool) (held:Bool) (n:Nat) (cs:List Value) (xs:List (DataW H×List MemPlace)),xs.length=fs.length->cs.length=tot->
  (∀(i:Nat) (f:Field),fs[i]? =some f->DataW.trod enc P w base sp held n f.type ((cs.drop f.offset).take (P.cellsOf f.type))=xs[i]?)->∃y,cs.drop off=cells y/\ok (hp w) y/\bulk y<=(xs.map fun x=>Y0 x.1).sum
theorem kN{a:Nat}:NG P [] a a (fun _:Unit=>[]) (fun _ _=>True) (fun _=>0):=⟨fun d w b e c n f g _ h _=>
 ⟨(),by rw[Qm qb],trivial,zw _⟩⟩
theorem C3{f:Field}{fs:List Field}{d off' e k:Nat}{α β:Type}{r:α->List Value}{j:l9->α->Prop}{s:α->Nat}{c2:β->List Value}{l:l9->β->Prop}{t:β->Nat}(S:xA P f.type r j s)(C:f.offset=d)(D:P.cellsOf f.type=k)(o:off'=d+k)(R:NG P fs off' e c2 l t):
  NG P (f::fs) d e (fun y:α×β=>r y.1++c2 y.2) (fun h y=>j h y.1/\l h y.2) (fun y=>s y.1+t y.2):=⟨fun m w a u b n J p v q c=>by
 cases p with
 |nil=>simp at v
 |cons x p=>
  have A:=c 0 f rfl;rw[C,D] at A;obtain⟨y,M,O,U⟩:=S.h m w a u b n _ _ A;obtain⟨z,Q,T,V⟩:=R.h m w a u b n J p (by simpa using v) q (fun i g hg=>by have:=c (i+1) g (by simpa using hg);simpa using this);refine⟨(y,z),?_,⟨O,T⟩,?_⟩
  ·simp only;rw[<-M,<-Q,o,<-Kn,jn]
  ·simp only[Qu,List.sum_cons];omega⟩
theorem eX{fs:Array Field}{b:Nat}{α:Type}{cells:α->List Value}{ok:l9->α->Prop}{a:α->Nat}(j:P.underlying t=some (.struct fs))(hc:P.cellsOf t=b)(R:NG P fs.toList 0 b cells ok a):xA P t cells ok a:=⟨fun e w c k d g l x h=>by
 obtain⟨m,n,_,rfl,o,p,q⟩:=DataW.trod_struct j h;obtain⟨y,r,s,u⟩:=R.h e w c k d n l m (by simpa using p) (by rw[o,hc]) (fun i f hf=>q i f (by simpa using hf));refine⟨y,by simpa using r,s,?_⟩;simp only[Y0,mD,Jn,Z5];omega⟩
theorem xA.map{α β:Type}{i:α->List Value}{a:l9->α->Prop}{j:α->Nat}{c2:β->List Value}{b:l9->β->Prop}{k:β->Nat}(S:xA P t i a j)(f:α->β)(hc:∀y,i y=c2 (f y))(l:∀h y,a h y->b h (f y))(m:∀y,k (f y)<=j y):xA P t c2 b k:=⟨fun g w c n d e o x h=>by
 obtain⟨y,p,q,r⟩:=S.h g w c n d e o x h;exact⟨f y,by rw[p,hc],l _ _ q,jd (m y) r⟩⟩
variable{H:Type}{enc:TypeId×Value->H}{w:World}{r:Reach}{b0 base:Nat}{sp:Nat->Bool}{held:Bool}{v:Value}{d:DataW H}{ps:List MemPlace}
theorem EN{α:Type}{cells:α->List Value}{ok:l9->α->Prop}{f:α->Nat}(j:P.underlying t=some (.slice e))(S:xA P e cells ok f){n:Nat}(hc:P.cellsOf e=n)(m:∀y,(cells y).length=n)(h:0<n)(i:Value.okWide P w r b0 t v)(o:DataW.Trod enc P w base sp held t v d ps):
  ∃(a:Option Addr) (ls:List α) (c:Nat),v=.slice a ls.length c/\JG cells ok (hp w) a ls c/\((d=.nil/\ls=[])\/∃b g,d=.slice b g/\b.length=ls.length)/\(ls.map f).sum+1<=Y0 d:=by
 obtain⟨u,x,z,rfl⟩:=okWide_slice j i;obtain⟨k,hf⟩:=o;obtain⟨a,ls,c,l,p,q,s⟩:=qK j S hc m h hf;simp[Value.cells] at l;obtain⟨rfl,rfl,rfl⟩:=l;exact⟨_,_,_,rfl,p,q,s⟩
end
theorem QP{n:Int}(h:(Lit.int .u64 n).wf=true):0<=n/\n<=18446744073709551615:=by
 simp only[Lit.wf,kx,jy] at h;have a:IntKind.u64.min=0:=by decide
 have b:IntKind.u64.max=18446744073709551615:=by decide
 omega
section
variable{P:Program}{t e:TypeId}{k:IntKind}
variable{H:Type}{enc:TypeId×Value->H}{w:World}{r:Reach}{b0 base:Nat}{sp:Nat->Bool}{held:Bool}{v:Value}{d:DataW H}{ps:List MemPlace}
end
section
variable{P:Program}{t e:TypeId}{k:IntKind}{n:Nat}
variable{H:Type}{enc:TypeId×Value->H}{w:World}{r:Reach}{b0 base:Nat}{sp:Nat->Bool}{held:Bool}{v:Value}{d:DataW H}{ps:List MemPlace}
end
