import Derived.Test.YtmcepdopookilaaGreatDoorFx20
import Derived.Carry
import Derived.ChangeSame
import Derived.OpenShut
import Derived.SizedLaws
import Derived.JoinedCond
import Derived.JoinedOf
import Derived.Deep.CondSized
import Derived.ChangeMaps5
import Derived.SliceStrings
set_option maxHeartbeats 16000000
set_option maxRecDepth 8000
set_option linter.unusedVariables false
set_option linter.unusedSimpArgs false
set_option linter.defProp false
namespace Go.Proofs.YtmcepdopookilaaGreatDoor.Rp
open Go Go.Sl Go.RowKit Go.Proofs.Tryz
structure AX where
 kind:Int
 hk:Int
 text:Bs
 short:Bool
 other:RQ
abbrev ER(a:AX)(z:QL):List Value:=[.int .i64 a.kind,.int .i64 a.hk,B a.text,.bool a.short]++cQ a.other z
abbrev acA(a:AX)(z:QL):Value:=.agg (ER a z).toArray
abbrev lC:Bs:=[120,58,32,121,13,10,13,10,122]
structure BJ(w:WM)(a:AX):Prop where
 se:zf w.s
 a4Q:w.s.a4R.a4Q.length<=50000
 us:w.s.a4T.length<=100000
 ml:Y4 w.m.s
 q:wM w.q
 oq:wM a.other
 text:a.text.length<=1000000000
 ml2:Y4 (C9 w.m.s w.q).1
 uo:(C9 w.m.s w.q).2.a4T.length<=100000/\fP (C9 w.m.s w.q).2.a4T
 mo:(C9 w.m.s w.q).2.mods.length<=100000/\fP (C9 w.m.s w.q).2.mods
 val:(C9 w.m.s w.q).2.val<18446744073709551616
 tr:w.tr<=1000
 bll:w.bl.length<=900
 body:∀p∈w.bl,p.2.length<=1000000
 hbody:∀s' d',dZ w.s a.hk a.text s' d'->d'.body.length<=1000000
def a1a(w:WM)(a:AX)(s':SE)(d':DD):Prop:=∃s1 d1,fg w.s (C9 w.m.s w.q).1 (C9 w.m.s w.q).2 (if a.short=true then[] else w.bl) s1 d1/\(if d1.want=[] then s'=s1/\d'=d1 else fg w.s (C9 w.m.s w.q).1 (C9 w.m.s w.q).2 w.bl s' d')
def di(w:WM)(a:AX)(s':SE)(d':DD)(m':ML)(bl':BL)(hears comes fails c:Bool):Prop:=
 if a.kind=0 then dZ w.s a.hk a.text s' d'/\m'=w.m.s/\bl'=w.bl/\hears=true/\comes=false/\fails=false/\c=true
 else if a.kind=1 then w.s.a4X=true/\a1a w a s' d'/\m'=(C9 w.m.s w.q).1/\bl'=w.bl/\hears=false/\comes=true/\fails=false/\c=true
 else if a.kind=2 then(s',d')=bY w.s/\m'=w.m.s/\bl'=w.bl/\hears=false/\comes=w.s.a4X/\fails=true/\c=true
 else s'=w.s/\d'=G0/\m'=(C9 w.m.s a.other).1/\bl'=w.bl++[(a.other.hash,lC)]/\hears=false/\comes=false/\fails=false/\c=false
structure Iz(w:WM)(a:AX)(w1:WM)(t:TN)(c:Bool)(h:l9):Prop where
 dn:di w a t.b t.d w1.m.s w1.bl t.hears t.comes t.fails c
 ta:t.a=w.s/\t.ax=w.x/\t.hk=a.hk/\t.ht=a.text/\t.c=w.s.cmd/\t.k=w.x.cl
 tw:w1.q=w.q/\w1.ql=w.ql/\w1.tr=w.tr
 a5b:t.d.a5b=t.y.rl.map Prod.fst
 rp:∀m∈t.y.rl,kC m h
 se:U2 t.b t.bx h
 rq:dv t.d.req t.y.ql h
 wn:n9 h t.y.wa (fV t.d.want)
 m:iz w1.m h
 blr:n9 h w1.ba (uq w1.bl)
 cf:c=false->t.b=w.s/\t.bx=w.x/\t.y=M_
def fj(c:Bool)(t:TN):List As:=if c=true then l5 t.bx.ra t.b.a4R.a4Q t.bx.rc::r7 t.y.da t.y.rl t.y.dc::Y6 t.y.rl else[]
abbrev ES(w:WM)(a:AX):TN:=⟨w.s,w.x,w.s,w.x,a.hk,a.text,false,false,false,G0,M_,w.s.cmd,w.x.cl⟩
def wV(w:WM)(a:AX)(w':WM)(t:TN)(c:Bool)(h:l9):Prop:=(a.kind=1/\w.s.a4X=false/\w'=w/\t=ES w a/\c=false)\/∃w1,Iz w a w1 t c h/\qa w1 t w'/\n9 h w'.ba (uq w'.bl)
def a1b(w:WM)(a:AX)(h:l9)(v:Value)(A:List As):Prop:=∃w' t c,v=.tuple #[EP w',Tt t]/\A=fj c t/\wV w a w' t c h
structure lD(w:WM)(h:l9):Prop where
 g:Gl h
 a4Q:n9 h w.x.ra (V2 w.s.a4R.a4Q)
 se:U2 w.s w.x h
 m:iz w.m h
 q:dv w.q w.ql h
 blr:n9 h w.ba (uq w.bl)
instance {w:WM}:Mn (lD w):=⟨fun l k=>⟨k.g.le l,k.a4Q.le l,Mn.le l k.se,Mn.le l k.m,Mn.le l k.q,k.blr.le l⟩⟩
theorem Iz.le{w:WM}{a:AX}{b:WM}{t:TN}{c:Bool}{h d:l9}(k:Iz w a b t c h)(l:l9.le h d):Iz w a b t c d:=⟨k.dn,k.ta,k.tw,k.a5b,fun m e=>(k.rp m e).le l,Mn.le l k.se,Mn.le l k.rq,k.wn.le l,Mn.le l k.m,k.blr.le l,k.cf⟩
theorem gI{s:SE}{st:ML}{o:OC}{bl:BL}{c:SE}{b:DD}(h:fg s st o bl c b):b.body=[]:=by
 unfold fg at h;split at h
 ·rw[h.2]
 ·rcases h with⟨d,_,_,_,e⟩|⟨f,_,_,_,_,_,_,a⟩
  ·rw[e]
  ·exact(ej a).2.2.2.2
theorem qe(s:SE):(bY s).2.body=[]:=by
 unfold bY;split
 ·rfl
 ·split<;>rfl
theorem Es{w:WM}{a:AX}{i:SE}{e:DD}{j:ML}{b:BL}{x y z c:Bool}(g:BJ w a)(h:di w a i e j b x y z c):e.body.length<=1000000/\b.length<=1000:=by
 have k:=g.bll;unfold di at h;split at h
 ·obtain⟨d,_,rfl,_⟩:=h;exact⟨g.hbody _ _ d,by omega⟩
 split at h
 ·obtain⟨_,⟨s1,l,d,f⟩,_,rfl,_⟩:=h;refine⟨?_,by omega⟩;split at f
  ·rw[f.2,gI d];simp
  ·rw[gI f];simp
 split at h
 ·obtain⟨d,_,rfl,_⟩:=h;refine⟨?_,by omega⟩;rw[show e=(bY w.s).2 from by rw[<-d],qe];simp
 ·obtain⟨_,rfl,_,rfl,_⟩:=h;exact⟨by simp,by rw[zz];simp only[zx,z6];omega⟩
abbrev JF:List Value:=NS ⟨ov,qR,Ic,cL,cP,0,[],none,0⟩
abbrev PA:List Value:=fh ⟨ov,qR,ov,qR,0,[],false,false,false,G0,M_,ip,G8⟩
theorem IA(w:WM)(a:AX)(z:QL)(C:BJ w a):
  Cm prog 17 [EP w,acA a z] (fun h=>lD w h/\dv a.other z h) [] (a1b w a):=by
 obtain⟨k0,x3⟩:=o7 (decide (a.kind=0));obtain⟨k1,y0⟩:=o7 (decide (a.kind=1));obtain⟨k2,y1⟩:=o7 (decide (a.kind=2));refine x7 125 func17 rfl rfl rfl ?_;rintro F R ⟨j,v9⟩;refine C6 ?_;refine m9 rfl rfl ?_;intro Y;refine m9 rfl rfl ?_;intro g3;refine i7 rfl ?_;intro g4;refine i7 rfl ?_;intro g5;refine wk 8 ?_;refine r_ (gj rfl ud ga) ?_;refine f_ (y7 (ps:=[(0,.tmp 11),(1,.tmp 13),(2,.tmp 15),(7,.tmp 18)]) (vs:=[(0,rB w.s w.x),(1,rB w.s w.x),(2,.agg #[.int .i64 a.hk,B a.text]),(7,xt w.s.cmd w.x.cl)]) (cells:=(fh (ES w a)).toArray) rfl i6) ?_;refine i7 rfl ?_;intro g6;refine p9 ?_;refine D6 (H':=gZ Y w::pZ g6 (ES w a)::.blk g3 (.cells (ER a z).toArray 70)::.blk g5 (.cells PA.toArray 48)::.blk g4 (.cells JF.toArray 65)::R) (fun v g=>C1 (A:=[_,_,_,_,_]) (J:=[]) tk g) ?_;refine J_ 2 ?_;refine S6 (fun(f:WM) (t:TN) (c:Bool) (F2:l6)=>F.le F2/\Iz w a f t c F2.heap) (fun _ _ _ _=>[(2,m6 Y),(4,m6 g4),(5,m6 g5),(6,m6 g6)]) (fun _ _ _ F2=>F2) (fun f t c _=>gZ Y f::pZ g6 t::.blk g5 (.cells PA.toArray 48)::.blk g4 (.cells JF.toArray 65)::(fj c t++R)) ?_ ?_
 ·refine o0 ?_;refine C6 ?_;refine f_ ((p7 rfl rfl).eq (v':=.bool k0) (qn x3.symm)) ?_;refine p9 ?_
  cases k0
  case true=>
   have e0:a.kind=0:=qr x3.symm;refine cH ?_;refine A8 (MN w.s w.x a.hk a.text C.se C.text) ⟨j.g,j.a4Q,j.se⟩ ?_;intro v A D n hq;obtain⟨s',d',V,r,hr,rfl,rfl,k,h0,h3,h4,h5⟩:=Ej.res hq;refine I6 (H':=_::_::_::_::_::_::_::(Y6 r.rl++R)) (fun v g=>g.perm (((Qb (Y6 r.rl) [_,_,_,_,_] R).cons _).cons _)) ?_;refine wk 7 ?_;obtain⟨t1,x⟩:∃t1:TN,t1={ES w a with b:=s',bx:=V,hears:=true,d:=d',y:=r}:=⟨_,rfl⟩;have i:lD w D.heap:=Mn.le n.heap j;refine y4 (w,t1,true,D) ⟨n,?_⟩ rfl (fun v g=>?_)
   ·rw[x];exact⟨by unfold di;rw[zu e0];exact⟨hr,rfl,rfl,rfl,rfl,rfl,rfl⟩,⟨rfl,rfl,rfl,rfl,rfl,rfl⟩,qm,k,h0,h3,h4,h5,i.m,i.blr,fun e=>by cases e⟩
   ·rw[x];show Hp D v (_::_::_::_::l5 V.ra s'.a4R.a4Q V.rc::r7 r.da r.rl r.dc::(Y6 r.rl++R));exact C1 (A:=[_,_,_,_,_,_]) (J:=[_]) tk g
  have e0:¬a.kind=0:=zq x3.symm;refine C6 ?_;refine f_ ((p7 rfl rfl).eq (v':=.bool k1) (qn y0.symm)) ?_;refine p9 ?_
  cases k1
  case true=>
   have e1:a.kind=1:=qr y0.symm;refine EH ?_ ?_<;>intro h
   ·have k8:w.s.a4X=false:=(by simpa using h);refine u7 ?_;refine D7 [0,1] [2,3] [gZ Y w,pZ g6 (ES w a)] 4 ?_;refine wd [0,1,2,3] ?_;refine A3 ?_;refine G9 (A:=[]) (v:=.tuple #[EP w,Tt (ES w a)]) (l6.le_refl _) ⟨w,ES w a,false,rfl,rfl,.inl ⟨e1,k8,rfl,rfl,rfl⟩⟩ ?_;exact V9 rfl rfl rfl ud rfl ud rfl _ qh (fun v g=>C1 (A:=[]) (J:=[_,_,_,_,_]) tk g)
   have k8:w.s.a4X=true:=(by simpa using h);refine u7 ?_;obtain⟨t0,y3⟩:∃t0:TN,t0={ES w a with comes:=true}:=⟨_,rfl⟩;refine cH ?_;refine A8 (pS w.m w.q w.ql C.ml C.q) ⟨j.m,j.q⟩ ?_;rintro v A D n ⟨X,o,oy,rfl,S,ho,rfl,h6,u0⟩;refine E6 ?_;refine i7 rfl ?_;intro g7;refine i7 rfl ?_;intro g8;refine aF ?_;obtain⟨f,Q⟩:∃f:WM,f={w with m:=X}:=⟨_,rfl⟩;have u1:f.s=w.s/\f.x=w.x/\f.m=X/\f.bl=w.bl/\f.ba=w.ba/\f.bc=w.bc/\f.q=w.q/\f.ql=w.ql/\f.tr=w.tr:=(by rw[Q];exact⟨rfl,rfl,rfl,rfl,rfl,rfl,rfl,rfl,rfl⟩);obtain⟨k9,w0,q0,O,U,w7,u2,q5,q6⟩:=u1;have i:lD w D.heap:=Mn.le n.heap j;have u8:∀bl:BL,bl.length<=900->(∀p∈bl,p.2.length<=1000000)->NR f.s X.s o bl:=fun bl h1 h2=>by
    rw[k9,S,ho];exact⟨C.se,C.a4Q,C.us,C.ml2,C.uo,C.mo,C.val,by omega,h2⟩
   refine D6 (H':=gZ Y f::pZ g6 t0::.blk g7 (.cells (iy X).toArray 62)::.blk g8 (.cells (tv o oy).toArray 86)::.blk g3 (.cells (ER a z).toArray 70)::.blk g5 (.cells PA.toArray 48)::.blk g4 (.cells JF.toArray 65)::R) (fun v g=>by rw[Q,y3];exact C1 (A:=[_,_,_,_,_,_,_]) (J:=[]) tk g) ?_;refine aF ?_;refine n7 (ι:=BL×AC) (fun q=>q.1=(if a.short=true then[] else w.bl)/\n9 D.heap q.2.1 (uq q.1)) (fun q=>[(2,m6 Y),(3,m6 g3),(4,m6 g4),(5,m6 g5),(6,m6 g6),(7,m6 g7),(8,m6 g8),(9,.slice q.2.1 q.1.length q.2.2)]) (fun _=>gZ Y f::pZ g6 t0::.blk g7 (.cells (iy X).toArray 62)::.blk g8 (.cells (tv o oy).toArray 86)::.blk g3 (.cells (ER a z).toArray 70)::.blk g5 (.cells PA.toArray 48)::.blk g4 (.cells JF.toArray 65)::R) ?_ ?_
   ·refine o8 rfl ?_ ?_<;>intro h
    ·refine p9 ?_;exact g_ ([],none,0) ⟨by rw[zu h],n9.nil _ _⟩ (fun v g=>g)
    ·refine u7 ?_;exact g_ (f.bl,f.ba,f.bc) ⟨by rw[zk (by rw[h];simp)];exact O,by rw[U];show n9 D.heap w.ba (uq f.bl);rw[O];exact i.blr⟩ (fun v g=>g)
   rintro⟨h7,o1⟩ ⟨s,q7⟩;simp only at s q7;have q8:h7.length<=900/\∀p∈h7,p.2.length<=1000000:=by
    rw[s];split
    ·exact⟨zw _,fun _ h=>by cases h⟩
    ·exact⟨C.bll,C.body⟩
   have q9:f.bl.length<=900/\∀p∈f.bl,p.2.length<=1000000:=(by rw[O];exact⟨C.bll,C.body⟩);have x0:∀(bl:BL) (ba:Option Addr),n9 D.heap ba (uq bl)->(Gl D.heap/\n9 D.heap f.x.ra (V2 f.s.a4R.a4Q)/\U2 f.s f.x D.heap/\iz X D.heap/\L9 o oy D.heap/\n9 D.heap ba (uq bl)):=fun bl ba h=>by
    rw[k9,w0];exact⟨i.g,i.a4Q,i.se,h6,u0,h⟩
   refine aF ?_;refine A8 (sF f.s f.x X o oy h7 o1.1 o1.2 (u8 h7 q8.1 q8.2)) (x0 h7 o1.1 q7) ?_;rintro v A F2 u ⟨s',d',V,r,hr,rfl,rfl,k,h0,h3,h4,h5⟩;refine I6 (H':=_::_::_::_::_::_::_::_::_::(Y6 r.rl++R)) (fun v g=>g.perm (((Qb (Y6 r.rl) [_,_,_,_,_,_,_] R).cons _).cons _)) ?_;refine wk 7 ?_;obtain⟨t1,x⟩:∃t1:TN,t1={t0 with b:=s',bx:=V,d:=d',y:=r}:=⟨_,rfl⟩;have v0:t1.d=d':=(by rw[x]);refine D6 (H':=gZ Y f::pZ g6 t1::l5 V.ra s'.a4R.a4Q V.rc::r7 r.da r.rl r.dc::.blk g7 (.cells (iy X).toArray 62)::.blk g8 (.cells (tv o oy).toArray 86)::.blk g3 (.cells (ER a z).toArray 70)::.blk g5 (.cells PA.toArray 48)::.blk g4 (.cells JF.toArray 65)::(Y6 r.rl++R)) (fun v g=>by rw[x];exact C1 (A:=[_,_,_,_,_,_,_,_,_]) (J:=[]) tk g) ?_;have M:fg w.s (C9 w.m.s w.q).1 (C9 w.m.s w.q).2 (if a.short=true then[] else w.bl) s' d':=(by rw[<-S,<-ho,<-s,<-k9];exact hr);refine aF ?_;refine o8 rfl ?_ ?_<;>intro h
   ·have q1:¬d'.want=[]:=fun e=>(by rw[v0,e] at h;exact absurd h qp);have w2:r.rl=[]:=by
     have h9:d'.a5b=[]:=by
      unfold fg at M;split at M
      ·rw[M.2]
      ·rcases M with⟨w9,_,_,_,e⟩|⟨x9,_,_,_,_,_,_,v1⟩
       ·rw[e]
       ·exact absurd (ej v1).2.1 q1
     rw[h9] at k;exact List.map_eq_nil_iff.1 k.symm
    refine D6 (H':=gZ Y f::pZ g6 t1::.blk g7 (.cells (iy X).toArray 62)::.blk g8 (.cells (tv o oy).toArray 86)::.blk g3 (.cells (ER a z).toArray 70)::.blk g5 (.cells PA.toArray 48)::.blk g4 (.cells JF.toArray 65)::R) (fun v g=>by rw[w2] at g;exact C1 (A:=[_,_,_,_,_,_,_]) (J:=[_,_]) tk g) ?_;refine cH ?_;refine A8 (sF f.s f.x X o oy f.bl f.ba f.bc (u8 f.bl q9.1 q9.2)) (Mn.le (p:=fun h=>Gl h/\n9 h f.x.ra (V2 f.s.a4R.a4Q)/\U2 f.s f.x h/\iz X h/\L9 o oy h/\n9 h f.ba (uq f.bl)) u.heap (x0 f.bl f.ba (by rw[U,O];exact i.blr))) ?_;rintro v A F3 T ⟨s2,d2,x2,y2,w3,rfl,rfl,q2,v2,v3,v4,v5⟩;refine I6 (H':=_::_::_::_::_::_::_::_::_::(Y6 y2.rl++R)) (fun v g=>g.perm (((Qb (Y6 y2.rl) [_,_,_,_,_,_,_] R).cons _).cons _)) ?_;refine wk 7 ?_;obtain⟨t2,v6⟩:∃t2:TN,t2={t1 with b:=s2,bx:=x2,d:=d2,y:=y2}:=⟨_,rfl⟩;have x1:=(n.trans u).trans T;refine y4 (f,t2,true,F3) ⟨x1,?_⟩ rfl (fun v g=>?_)
    ·rw[v6,x,y3];exact⟨by unfold di;rw[zk e0,zu e1];exact⟨k8,⟨s',d',M,by rw[zk q1,<-S,<-ho,<-O,<-k9];exact w3⟩,by rw[q0];exact S,O,rfl,rfl,rfl,rfl⟩,⟨rfl,rfl,rfl,rfl,rfl,rfl⟩,⟨u2,q5,q6⟩,q2,v2,v3,v4,v5,by rw[q0];exact Mn.le (u.trans T).heap h6,by rw[U,O];exact j.blr.le x1.heap,fun e=>by cases e⟩
    ·rw[v6];show Hp F3 v (_::_::_::_::l5 x2.ra s2.a4R.a4Q x2.rc::r7 y2.da y2.rl y2.dc::(Y6 y2.rl++R));exact C1 (A:=[_,_,_,_,_,_]) (J:=[_,_,_]) tk g
   ·have q1:d'.want=[]:=by
     rw[v0] at h;exact jy (qu h)
    refine u7 ?_;refine y4 (f,t1,true,F2) ⟨n.trans u,?_⟩ rfl (fun v g=>?_)
    ·rw[x,y3];exact⟨by unfold di;rw[zk e0,zu e1];exact⟨k8,⟨s',d',M,by rw[zu q1];exact qh⟩,by rw[q0];exact S,O,rfl,rfl,rfl,rfl⟩,⟨rfl,rfl,rfl,rfl,rfl,rfl⟩,⟨u2,q5,q6⟩,k,h0,h3,h4,h5,by rw[q0];exact Mn.le u.heap h6,by rw[U,O];exact j.blr.le (n.trans u).heap,fun e=>by cases e⟩
    ·rw[x] at g⊢;show Hp F2 v (_::_::_::_::l5 V.ra s'.a4R.a4Q V.rc::r7 r.da r.rl r.dc::(Y6 r.rl++R));exact C1 (A:=[_,_,_,_,_,_]) (J:=[_,_,_]) tk g
  have e1:¬a.kind=1:=zq y0.symm;refine C6 ?_;refine f_ ((p7 rfl rfl).eq (v':=.bool k2) (qn y1.symm)) ?_;refine p9 ?_
  cases k2
  case true=>
   have e2:a.kind=2:=qr y1.symm;refine wk 9 ?_;refine A8 (MO w.s w.x C.se) ⟨j.a4Q,j.se⟩ ?_;intro v A D n hq;obtain⟨s',d',V,r,hr,rfl,rfl,k,h0,h3,h4,h5⟩:=Ej.res hq;refine I6 (H':=_::_::_::_::_::_::_::(Y6 r.rl++R)) (fun v g=>g.perm (((Qb (Y6 r.rl) [_,_,_,_,_] R).cons _).cons _)) ?_;refine wk 7 ?_;obtain⟨t1,x⟩:∃t1:TN,t1={ES w a with b:=s',bx:=V,comes:=w.s.a4X,fails:=true,d:=d',y:=r}:=⟨_,rfl⟩;have i:lD w D.heap:=Mn.le n.heap j;refine y4 (w,t1,true,D) ⟨n,?_⟩ rfl (fun v g=>?_)
   ·rw[x];exact⟨by unfold di;rw[zk e0,zk e1,zu e2];exact⟨hr,rfl,rfl,rfl,rfl,rfl,rfl⟩,⟨rfl,rfl,rfl,rfl,rfl,rfl⟩,qm,k,h0,h3,h4,h5,i.m,i.blr,fun e=>by cases e⟩
   ·rw[x];show Hp D v (_::_::_::_::l5 V.ra s'.a4R.a4Q V.rc::r7 r.da r.rl r.dc::(Y6 r.rl++R));exact C1 (A:=[_,_,_,_,_,_]) (J:=[_]) tk g
  have e2:¬a.kind=2:=zq y1.symm;refine O2 ?_;refine A8 (pS w.m a.other z C.ml C.oq) ⟨j.m,v9⟩ ?_;rintro v A D n ⟨X,o,oy,rfl,S,ho,rfl,h6,u0⟩;refine aF ?_;obtain⟨f,Q⟩:∃f:WM,f={w with m:=X}:=⟨_,rfl⟩;have s:f.bl=w.bl/\f.ba=w.ba/\f.bc=w.bc:=by rw[Q];exact qm
  have h8:n9 D.heap f.ba (uq f.bl):=by rw[s.1,s.2.1];exact j.blr.le n.heap
  have a0:f.bl.length<=900:=by rw[s.1];exact C.bll
  refine D6 (H':=gZ Y f::pZ g6 (ES w a)::.blk g3 (.cells (ER a z).toArray 70)::.blk g5 (.cells PA.toArray 48)::.blk g4 (.cells JF.toArray 65)::R) (fun v g=>by rw[Q];exact C1 (A:=[_,_,_,_,_]) (J:=[]) tk g) ?_;refine u7 ?_;refine D7 [2,6] [0,3,8,9,11] [gZ Y f,.blk g3 (.cells (ER a z).toArray 70)] 12 ?_;refine wd [1,2,4,5,6] ?_;refine w_ 7 rfl (y7 (ps:=[(0,.tmp 37),(1,.const (B lC))]) (vs:=[(0,B a.other.hash),(1,B lC)]) (cells:=(un (a.other.hash,lC)).toArray) rfl i6) ?_;refine bg 0 8 rfl rfl i6 ?_ ?_;refine M4 rfl ?_;intro a31;refine Y5 ?_;refine bg 3 8 rfl rfl i6 ?_ ?_;refine r8 un (l:=[]) (m:=f.bl) am dh (by show(0+f.bl.length)*32<=_;omega) ?_ (hsrc:=fun v g=>h8.le g.keep) (h63:=by simp only[z6];omega);intro Oc v7 _;refine Y5 ?_;refine h_ 8 rfl i6 ?_;refine C4 un (a.other.hash,lC) rfl ?_;intro a39 _;refine xn ?_;refine h_ 9 rfl i6 ?_;refine r8 un (l:=f.bl) (m:=[(a.other.hash,lC)]) am dh (by show(f.bl.length+1)*32<=_;omega) ?_ (h63:=by simp only[zx,z6];omega);intro q3 q4 _;refine E5 [10,11] ?_
  rotate_left 1
  refine C4 un (a.other.hash,lC) rfl ?_;intro a39 _;refine Y5 ?_;refine h_ 3 rfl i6 ?_;refine r8 un (l:=[]) (m:=f.bl) am dh (by show(0+f.bl.length)*32<=_;omega) ?_ (hsrc:=fun v g=>h8.le g.keep) (h63:=by simp only[z6];omega);intro Oc v7 _;refine xn ?_;refine h_ 9 rfl i6 ?_;refine r8 un (l:=f.bl) (m:=[(a.other.hash,lC)]) am dh (by show(f.bl.length+1)*32<=_;omega) ?_ (h63:=by simp only[zx,z6];omega);intro q3 q4 _;refine E5 [10,11] ?_
  rotate_left 1
  refine C4 un (a.other.hash,lC) rfl ?_;intro a39 _;refine Y5 ?_;refine h_ 0 rfl i6 ?_;refine M4 rfl ?_;intro a31;refine Y5 ?_;refine h_ 3 rfl i6 ?_;refine r8 un (l:=[]) (m:=f.bl) am dh (by show(0+f.bl.length)*32<=_;omega) ?_ (hsrc:=fun v g=>h8.le g.keep) (h63:=by simp only[z6];omega);intro Oc v7 _;refine xn ?_;refine h_ 9 rfl i6 ?_;refine r8 un (l:=f.bl) (m:=[(a.other.hash,lC)]) am dh (by show(f.bl.length+1)*32<=_;omega) ?_ (h63:=by simp only[zx,z6];omega);intro q3 q4 _;refine E5 [10,11] ?_
  rotate_left 1
  all_goals (refine u7 ?_);all_goals
   refine jV (Z:=[.own (.slice q3 (f.bl++[(a.other.hash,lC)]).length q4) 95 2 (uq (f.bl++[(a.other.hash,lC)]))]) tk fun F2 u ⟨bs,w4⟩=>?_;refine y4 ({f with bl:=f.bl++[(a.other.hash,lC)],ba:=q3,bc:=q4},ES w a,false,F2) ⟨n.trans u,?_⟩ rfl (fun v g=>C1 (A:=[_,_,_,_]) (J:=[_,_]) tk g);exact⟨by unfold di;rw[zk e0,zk e1,zk e2];exact⟨rfl,rfl,by rw[Q];exact S,by rw[s.1],rfl,rfl,rfl,rfl⟩,⟨rfl,rfl,rfl,rfl,rfl,rfl⟩,by rw[Q];exact qm,rfl,qy,Mn.le (n.trans u).heap j.se,⟨n9.nil _ _,n9.nil _ _⟩,n9.nil _ _,by rw[Q];exact Mn.le u.heap h6,A1.rd w4 ud,fun _=>qm⟩
 rintro f t c F2 ⟨u,hp⟩;have v8:=Es C hp.dn;refine u7 ?_;refine J_ 0 ?_;refine S6 (fun(w':WM) (_:Unit) (_:Unit) (F3:l6)=>F2.le F3/\qa f t w'/\n9 F3.heap w'.ba (uq w'.bl)) (fun _ _ _ _=>[(4,m6 g4),(5,m6 g5)]) (fun _ _ _ F3=>F3) (fun w' _ _ _=>gZ g4 w'::pZ g5 t::(fj c t++R)) ?_ ?_
 ·refine u7 ?_;refine D7 [0,1,3] [2,4,5] [gZ Y f,pZ g6 t] 6 ?_;refine wd [0,1,3] ?_;refine h_ 2 rfl i6 ?_;refine R7 (MY f t (by rw[hp.tw.2.2];exact C.tr) v8.2 v8.1) hp.blr ?_;rintro v A Z Fz hz ⟨w',rfl,rfl,z0,z2⟩;refine gk [4,5] ?_;all_goals exact ei (Rr:=gZ g4 w'::pZ g5 t::(fj c t++R)) Fz hz (fun v g=>C1 (A:=[_,_]) (J:=[_,_]) tk g) fun F3 T w5=>y4 (w',(),(),F3) ⟨T,z0,z2.le w5⟩ rfl (fun v g=>g)
 rintro w' _ _ F3 ⟨T,z0,z2⟩;refine oe ?_;refine G9 (A:=fj c t) (v:=.tuple #[EP w',Tt t]) (u.trans T) ⟨w',t,c,rfl,rfl,.inr ⟨f,hp.le T.heap,z0,z2⟩⟩ ?_;exact V9 rfl rfl rfl ud rfl ud rfl _ qh (fun v g=>C1 (A:=[]) (J:=[_,_]) tk g)
theorem fU{l:List Bs}(h:F9 l=true):l.length<=16/\∀f∈l,f.length<=32:=
 ⟨(iX h).2.2,fun f hf=>sr ((iX h).1 f hf)⟩
theorem qf{l:List Bs}{x:Bs}(h:x∈T4 l):x∈l:=by
 rcases ((mQ l [] .nil).2 x).1 h with h|h
 ·exact h
 ·cases h
theorem Et{l b:List Bs}{how:Int}(h:(F8 l how b).2=0):(F8 l how b).1.length<=16/\∀f∈(F8 l how b).1,f.length<=32:=by
 unfold F8 at h⊢;split
 ·exact⟨zw _,fun _ h=>by cases h⟩
 ·rename_i c;rw[zk c] at h;have d:F9 l=true:=by cases e:F9 l;exact absurd (.inl e) c;rfl
  have g:F9 b=true:=by cases e:F9 b;exact absurd (.inr (.inl e)) c;rfl
  simp only at h⊢;have a:∀o:List Bs,o=(if how=0 then T4 b else if how=1 then T4 (l++b) else(T4 l).filter fun f=>!decide (f∈b))->∀f∈o,f.length<=32:=fun o i f hf=>by
   rw[i] at hf;split at hf
   ·exact(fU g).2 f (qf hf)
   split at hf
   ·rcases zp.1 (qf hf) with hf|hf
    ·exact(fU d).2 f hf
    ·exact(fU g).2 f hf
   ·exact(fU d).2 f (qf (Qy.1 hf).1)
  generalize i:(if how=0 then T4 b else if how=1 then T4 (l++b) else(T4 l).filter fun f=>!decide (f∈b))=o at h a⊢;by_cases h16:16<o.length
  ·rw[zu h16] at h;cases h
  ·rw[zk h16];exact⟨by simp only;omega,a o rfl⟩
theorem kF{s:ML}(h:Y4 s){i:Nat}(a:i<s.a4N.length):CN (ab s i):=by
 have:ab s i=s.a4N[i]:=by unfold ab;rw[zb,zj a];rfl
 rw[this];exact h.box _ (zy a)
theorem IB{s:ML}{n:Bs}{i:Nat}(h:xq s n=some i):i<s.a4N.length:=(kg.1 h).1
theorem zE{s:ML}{r:RQ}{i:Nat}(h:named s r=some i):i<s.a4N.length:=by
 unfold named at h;obtain⟨j,b,a⟩:=zd.1 h;split at a
 ·injection a with a;subst a;exact IB b
 ·cases a
theorem PB{l:List BX}{i:Nat}{b:BX}(c:i<l.length)(d:b.name=l[i].name)(h:l.Pairwise fun x y=>gR x.name y.name=true):(l.set i b).Pairwise fun x y=>gR x.name y.name=true:=by
 have e:(l.set i b).map BX.name=l.map BX.name:=by
  rw[Ku,d];rw[show l[i].name=(l.map BX.name)[i]'(by simpa using c) from by simp];exact Zn _
 have a:(l.map BX.name).Pairwise fun x y=>gR x y=true:=Kg.2 h;rw[<-e] at a;exact Kg.1 a
theorem uy{s:ML}(h:Y4 s){i:Nat}(c:i<s.a4N.length){b:BX}(d:b.name=(ab s i).name)(f:CN b):Y4 (jo s i b):=by
 have e:ab s i=s.a4N[i]:=by unfold ab;rw[zb,zj c];rfl
 refine⟨by show(s.a4N.set i b).length<=8;rw[jm];exact h.a4N,fun x a=>?_,PB c (by rw[d,e]) h.sorted,h.a4O,h.home,h.a4P,h.seat,h.nval,h.nses,h.a4Z⟩;rcases jd a with a|rfl
 ·exact h.box x a
 ·exact f
structure cr(o:OC):Prop where
 a4T:o.a4T.length<=32/\∀u∈o.a4T,u<=4294967296
 mods:o.mods.length<=32/\∀u∈o.mods,u<=4294967296
 val:o.val<=4294967296
theorem cr.zero:cr B9:=⟨⟨zw _,fun _ h=>by cases h⟩,⟨zw _,fun _ h=>by cases h⟩,zw _⟩
theorem cr.code(k:Int):cr {B9 with code:=k}:=⟨⟨zw _,fun _ h=>by cases h⟩,⟨zw _,fun _ h=>by cases h⟩,zw _⟩
structure qD(s:ML):Prop where
 ok:Y4 s
 n1:1<=s.nses
abbrev ET(q:AR):Prop:=qD q.1/\cr q.2.1
theorem F6{s:ML}(h:qD s)(e:Int):ET (s,B9,e):=⟨h,.zero⟩
theorem zF{h x:HO}:∀{l:List HO},x∈dt h l->x=h\/x∈l
 |[],hx=>by simp[dt] at hx;exact .inl hx
 |y::t,hx=>by
  unfold dt at hx;split at hx
  ·rcases kx.1 hx with e|hx
   ·exact .inl e
   ·exact .inr hx
  ·rcases kx.1 hx with e|hx
   ·exact .inr (e▸j8)
   ·rcases zF hx with e|hx
    ·exact .inl e
    ·exact .inr (jj _ hx)
theorem BK(h:HO):∀{l:List HO},l.Pairwise (fun x y=>x.node<y.node)->(∀x∈l,x.node≠h.node)->(dt h l).Pairwise fun x y=>x.node<y.node
 |[],_,_=>by simp[dt]
 |y::t,hp,hn=>by
  obtain⟨c,d⟩:=j9.1 hp;unfold dt;split
  ·rename_i b;refine j9.2 ⟨fun x a=>?_,hp⟩;rcases kx.1 a with rfl|a
   ·exact b
   ·exact Int.lt_trans b (c x a)
  ·rename_i b;refine j9.2 ⟨fun x a=>?_,BK h d fun x a=>hn x (jj _ a)⟩;rcases zF a with rfl|a
   ·have:=hn y j8;omega
   ·exact c x a
theorem qi{b x:BX}:∀{l:List BX},x∈jl b l->x=b\/x∈l
 |[],hx=>by simp[jl] at hx;exact .inl hx
 |y::t,hx=>by
  unfold jl at hx;split at hx
  ·rcases kx.1 hx with e|hx
   ·exact .inl e
   ·exact .inr hx
  ·rcases kx.1 hx with e|hx
   ·exact .inr (e▸j8)
   ·rcases qi hx with e|hx
    ·exact .inl e
    ·exact .inr (jj _ hx)
theorem wW(b:BX):∀l:List BX,(jl b l).length=l.length+1
 |[]=>rfl
 |y::t=>by
  unfold jl;split
  ·rfl
  ·simp[wW b t]
theorem BN(b:BX):∀{l:List BX},l.Pairwise (fun x y=>gR x.name y.name=true)->(∀x∈l,x.name≠b.name)->(jl b l).Pairwise fun x y=>gR x.name y.name=true
 |[],_,_=>by simp[jl]
 |y::t,hp,hn=>by
  obtain⟨d,f⟩:=j9.1 hp;unfold jl;split
  ·rename_i a;refine j9.2 ⟨fun x c=>?_,hp⟩;rcases kx.1 c with rfl|c
   ·exact a
   ·exact bL a (d x c)
  ·rename_i a;refine j9.2 ⟨fun x c=>?_,BN b f fun x c=>hn x (jj _ c)⟩;rcases qi c with rfl|c
   ·exact dE (fun e=>hn y j8 e.symm) (by simpa using a)
   ·exact d x c
theorem MZ{s:ML}(h:qD s)(r:RQ)(hl:r.life<18446744073709551616)(j:r.tr<18446744073709551616):ET (dO s r):=by
 unfold dO;split
 ·exact F6 h _
 ·rename_i p;have d:1<=r.node:=by omega
  have m:r.node<=5:=by omega
  simp only;split
  ·exact F6 h _
  split
  ·split
   ·exact F6 h _
   ·exact⟨h,cr.zero.a4T,cr.zero.mods,cr.zero.val⟩
  generalize hst:(if((Option.map (fun i=>s.a4O.getD i Jt) (fF s r.node)).getD Jt).life<r.life then s.a4P.filter fun x=>!decide (x.node=r.node) else s.a4P)=a4P;have k:∀x∈a4P,x∈s.a4P:=fun x a=>by
   rw[<-hst] at a;split at a
   ·exact(Qy.1 a).1
   ·exact a
  split
  ·exact F6 h _
  ·rename_i n;refine⟨⟨?_,?_⟩,cr.zero.a4T,cr.zero.mods,cr.zero.val⟩
   ·have b:∀x∈a4P++[⟨s.nses,0,r.node,r.life,r.tr⟩],1<=x.ses/\x.ses<s.nses+1/\x.last<18446744073709551616/\x.life<18446744073709551616/\x.tr<18446744073709551616:=fun x a=>by
     rcases zp.1 a with a|a
     ·have:=h.ok.seat x (k x a);exact⟨this.1,by omega,this.2.2⟩
     ·rw[zg.1 a];exact⟨h.n1,by simp only;omega,by simp only;omega,hl,j⟩
    have c:(a4P++[(⟨s.nses,0,r.node,r.life,r.tr⟩:SX)]).length<=16:=(by rw[zz];simp only[zx,z6];omega);have f:s.nses+1<=CJ:=(by omega);unfold mU;split
    ·rename_i i g;have o:i<s.a4O.length:=(kg.1 g).1;have l:s.a4O[i].node=r.node:=(by simpa using(kg.1 g).2.1);refine⟨h.ok.a4N,h.ok.box,h.ok.sorted,?_,fun x a=>?_,c,b,h.ok.nval,f,h.ok.a4Z⟩
     ·have e:(s.a4O.set i ⟨r.node,r.life,r.tr⟩).map HO.node=s.a4O.map HO.node:=by
       rw[Ku];rw[show(⟨r.node,r.life,r.tr⟩:HO).node=(s.a4O.map HO.node)[i]'(by simpa using o) from by simp[l]];exact Zn _
      have d:(s.a4O.map HO.node).Pairwise fun x y=>x<y:=Kg.2 h.ok.a4O;rw[<-e] at d;exact Kg.1 d
     ·rcases jd a with a|rfl
      ·exact h.ok.home x a
      ·exact⟨d,m,hl,j⟩
    ·rename_i g;refine⟨h.ok.a4N,h.ok.box,h.ok.sorted,BK _ h.ok.a4O fun x a=>?_,fun x a=>?_,c,b,h.ok.nval,f,h.ok.a4Z⟩
     ·have:=Q4.1 g x a;simpa using this
     ·rcases zF a with rfl|a
      ·exact⟨d,m,hl,j⟩
      ·exact h.ok.home x a
   ·unfold mU;split<;>(show 1<=s.nses+1;omega)
theorem PC{s:ML}(h:qD s)(r:RQ):ET (Oz s r):=by
 refine⟨⟨⟨h.ok.a4N,h.ok.box,h.ok.sorted,h.ok.a4O,h.ok.home,?_,fun x a=>h.ok.seat x (Qy.1 a).1,h.ok.nval,h.ok.nses,h.ok.a4Z⟩,h.n1⟩,.zero⟩;exact jg (Qm _ _) h.ok.a4P
theorem IC{s:ML}(h:qD s):ET (kY s):=by
 unfold kY;split
 ·exact F6 h _
 ·rename_i a;refine⟨⟨⟨h.ok.a4N,h.ok.box,h.ok.sorted,h.ok.a4O,h.ok.home,h.ok.a4P,h.ok.seat,h.ok.nval,h.ok.nses,?_⟩,h.n1⟩,.zero⟩;have:=h.ok.a4Z;show s.a4Z+1<=D9;omega
theorem Eu{s:ML}(h:qD s)(r:RQ):ET (cM s r):=by
 have j:eG=4294967295:=rfl;unfold cM;split
 ·exact F6 h _
 rename_i d;split
 ·exact F6 h _
 rename_i f;split
 ·exact F6 h _
 split
 ·exact F6 h _
 rename_i k i;have a:r.box.length<=64:=by
  have:iW r.box=some r.box:=by simpa using d
  unfold iW at this;split at this
  ·rename_i hp;unfold uX at hp;simp only[kw,jx] at hp;exact hp.1.1.2
  ·cases this
 have b:CN ⟨r.box,s.nval,1,1,[]⟩:=⟨a,h.ok.nval,by show 1<=4294967296;decide,by show 1<=D9;decide,zw _,fun _ h=>(by cases h),fun _ h=>(by cases h),fun _ h=>(by cases h),fun _ h=>(by cases h),fun _ h=>(by cases h)⟩;have g:∀x∈s.a4N,x.name≠r.box:=fun x c e=>by
  apply f;unfold xq;rw[List.findIdx?_isSome];exact K8.2 ⟨x,c,by simpa using e⟩
 refine⟨⟨⟨by rw[wW];omega,fun x c=>?_,BN _ h.ok.sorted g,h.ok.a4O,h.ok.home,h.ok.a4P,h.ok.seat,by show s.nval+1<=_;have:¬eG<s.nval:=i;omega,h.ok.nses,h.ok.a4Z⟩,h.n1⟩,cr.zero.a4T,cr.zero.mods,h.ok.nval⟩;rcases qi c with rfl|c
 ·exact b
 ·exact h.ok.box x c
theorem Ev{s:ML}(h:qD s)(r:RQ):ET (bG s r):=by
 unfold bG;split
 ·exact F6 h _
 split
 ·exact F6 h _
 ·rename_i i b;refine⟨⟨⟨jg (List.length_eraseIdx_le ..) h.ok.a4N,fun x a=>h.ok.box x (Jw a),h.ok.sorted.sublist (List.eraseIdx_sublist ..),h.ok.a4O,h.ok.home,h.ok.a4P,h.ok.seat,h.ok.nval,h.ok.nses,h.ok.a4Z⟩,h.n1⟩,.zero⟩
theorem Ew{s:ML}(h:qD s)(r:RQ):ET (cN s r):=by
 have m:eG=4294967295:=rfl;unfold cN;split
 ·exact F6 h _
 rename_i i f;have c:=IB f;have b:=kF h.ok c;simp only;split
 ·exact F6 h _
 rename_i d;split
 ·exact F6 h _
 split
 ·exact F6 h _
 split
 ·exact F6 h _
 rename_i n o p;have g:F9 r.a5c=true:=by cases e:F9 r.a5c;exact absurd (.inl e) d;rfl
 have j:r.hash.length=32:=Kx fun e=>d (.inr (.inl e));have hz:r.size<=4096:=by omega
 have k:(ab s i).next<=eG:=by omega
 have l:(ab s i).high<D9:=by omega
 refine⟨⟨uy h.ok c rfl ⟨b.name,b.val,by simp only;omega,by simp only;omega,by simp only[zz,zx,z6];omega,fun x a=>?_,fun x a=>?_,fun x a=>?_,fun x a=>?_,fun x a=>?_⟩,h.n1⟩,⟨by simp,fun u hu=>by simp at hu;omega⟩,cr.zero.mods,b.val⟩;all_goals (rcases zp.1 a with a|a)
 ·have:=b.uid x a;simp only;omega
 ·rw[zg.1 a];simp only;omega
 ·exact b.a5c x a
 ·rw[zg.1 a];exact fU g
 ·exact b.mod x a
 ·rw[zg.1 a];simp only;omega
 ·exact b.size x a
 ·rw[zg.1 a];exact hz
 ·exact b.hash x a
 ·rw[zg.1 a];exact j
theorem gJ(r:RQ)(b:BX):∀(l:List LT) (q:List LT×List Nat×List Nat×Bool),I1 r b l=some q->q.1.length=l.length/\q.2.1.length<=l.length/\q.2.2.1.length<=l.length/\
  (∀u,u∈q.2.1\/u∈q.2.2.1->∃x∈l,x.uid=u)/\∀y∈q.1,∃x∈l,y.uid=x.uid/\y.hash=x.hash/\y.size=x.size/\(y.a5c=x.a5c/\y.mod=x.mod\/(y.a5c.length<=16/\∀f∈y.a5c,f.length<=32)/\y.mod=b.high+1)
 |[],q,h=>by
  simp only[I1,Qg] at h;subst h;exact⟨rfl,z1 _,z1 _,(fun u h=>by rcases h with h|h<;>cases h),qy⟩
 |x::t,q,h=>by
  have c:∀{P:LT->Prop},(∃y∈t,P y)->∃y∈x::t,P y:=fun⟨y,a,h⟩=>⟨y,jj _ a,h⟩;unfold I1 at h;split at h
  ·obtain⟨p,hp,rfl⟩:=ky.1 h;obtain⟨g,k,m,e,i⟩:=gJ r b t p hp;refine⟨by simp[g],by simp only[zx];omega,by simp only[zx];omega,fun u hu=>c (e u hu),fun y a=>?_⟩;rcases kx.1 a with rfl|a
   ·exact⟨y,j8,rfl,rfl,rfl,.inl qh⟩
   ·exact c (i y a)
  split at h
  ·obtain⟨p,hp,rfl⟩:=ky.1 h;obtain⟨g,k,m,e,i⟩:=gJ r b t p hp;refine⟨by simp[g],by simp only[zx];omega,by simp only[zx];omega,fun u hu=>?_,fun y a=>?_⟩
   ·rcases hu with hu|hu
    ·exact c (e u (.inl hu))
    ·rcases kx.1 hu with rfl|hu
     ·exact⟨x,j8,rfl⟩
     ·exact c (e u (.inr hu))
   ·rcases kx.1 a with rfl|a
    ·exact⟨y,j8,rfl,rfl,rfl,.inl qh⟩
    ·exact c (i y a)
  split at h
  ·cases h
  ·rename_i hc;obtain⟨p,hp,rfl⟩:=ky.1 h;obtain⟨g,k,m,e,i⟩:=gJ r b t p hp;have j:=Et (l:=x.a5c) (b:=r.a5c) (how:=r.how) (by simpa using hc);have d:∀u,u∈x.uid::p.2.1\/u∈p.2.2.1->∃y∈x::t,y.uid=u:=fun u hu=>by
    rcases hu with hu|hu
    ·rcases kx.1 hu with rfl|hu
     ·exact⟨x,j8,rfl⟩
     ·exact c (e u (.inl hu))
    ·exact c (e u (.inr hu))
   split
   ·refine⟨by simp[g],by simp only[zx];omega,by simp only[zx];omega,d,fun y a=>?_⟩;rcases kx.1 a with rfl|a
    ·exact⟨y,j8,rfl,rfl,rfl,.inl qh⟩
    ·exact c (i y a)
   ·refine⟨by simp[g],by simp only[zx];omega,by simp only[zx];omega,d,fun y a=>?_⟩;rcases kx.1 a with rfl|a
    ·exact⟨x,j8,rfl,rfl,rfl,.inr ⟨j,rfl⟩⟩
    ·exact c (i y a)
theorem ID{s:ML}(h:qD s)(r:RQ):ET (du s r):=by
 unfold du;split
 ·exact F6 h _
 rename_i i k;have c:=zE k;have a:=kF h.ok c;simp only;split
 ·exact F6 h _
 split
 ·exact F6 h _
 rename_i q l;obtain⟨z,A,C,m,n⟩:=gJ r _ _ q l;have f:=a.lts;have o:=a.next;have hu:∀u,u∈q.2.1\/u∈q.2.2.1->u<=4294967296:=fun u hu=>by
  obtain⟨x,b,rfl⟩:=m u hu;have:=a.uid x b;omega
 have g:cr {B9 with a4T:=q.2.1,mods:=q.2.2.1}:=⟨⟨by simp only;omega,fun u h=>hu u (.inl h)⟩,⟨by simp only;omega,fun u h=>hu u (.inr h)⟩,zw _⟩;split
 ·exact⟨h,g⟩
 split
 ·exact F6 h _
 rename_i hg;have p:(ab s i).high<D9:=by omega
 refine⟨⟨uy h.ok c rfl ⟨a.name,a.val,a.next,by simp only;omega,by simp only;omega,fun y d=>?_,fun y d=>?_,fun y d=>?_,fun y d=>?_,fun y d=>?_⟩,h.n1⟩,g⟩;all_goals (obtain⟨x,b,t,v,w,j⟩:=n y d)
 ·rw[t];exact a.uid x b
 ·rcases j with⟨e,_⟩|⟨e,_⟩
  ·rw[e];exact a.a5c x b
  ·exact e
 ·rcases j with⟨_,e⟩|⟨_,e⟩
  ·rw[e];have:=a.mod x b;exact this
  ·rw[e];omega
 ·rw[w];exact a.size x b
 ·rw[v];exact a.hash x b
theorem zG{s:ML}(h:qD s)(r:RQ):ET (aW s r):=by
 unfold aW;split
 ·exact F6 h _
 rename_i i d;have c:=zE d;have a:=kF h.ok c;simp only;split
 ·exact F6 h _
 split
 ·exact F6 h _
 rename_i hg;have e:(ab s i).high<D9:=by omega
 refine⟨⟨uy h.ok c rfl ⟨a.name,a.val,a.next,by simp only;omega,jg (Qm _ _) a.lts,fun x b=>a.uid x (Qy.1 b).1,fun x b=>a.a5c x (Qy.1 b).1,fun x b=>a.mod x (Qy.1 b).1,fun x b=>a.size x (Qy.1 b).1,fun x b=>a.hash x (Qy.1 b).1⟩,h.n1⟩,⟨?_,fun u hu=>?_⟩,cr.zero.mods,zw _⟩
 ·simp only[zm];exact jg (Qm _ _) a.lts
 ·obtain⟨x,b,rfl⟩:=jw.1 hu;have:=a.uid x (Qy.1 b).1;have:=a.next;omega
theorem BO(m:Nat):∀(l:List LT) (n:Nat),(eZ n m l).length=l.length/\∀y∈eZ n m l,n<=y.uid/\y.uid<n+l.length/\y.mod=m/\∃x∈l,y.a5c=x.a5c/\y.hash=x.hash/\y.size=x.size
 |[],n=>⟨rfl,fun _ h=>by cases h⟩
 |x::t,n=>by
  have b:=BO m t (n+1);refine⟨by simp[eZ,b.1],fun y a=>?_⟩;rcases kx.1 a with rfl|a
  ·exact⟨z1 _,by simp,rfl,x,j8,rfl,rfl,rfl⟩
  ·obtain⟨e,f,c,z,hz,d⟩:=b.2 y a;exact⟨by omega,by simp only[zx];omega,c,z,jj _ hz,d⟩
theorem Na{s:ML}(h:qD s)(r:RQ):ET (gS s r):=by
 have t:eG=4294967295:=rfl;unfold gS;split
 ·exact F6 h _
 rename_i j n;have g:=zE n;have k:=kF h.ok g;simp only;split
 ·exact F6 h _
 rename_i i o;have f:=IB o;have c:=kF h.ok f;have m:cr {B9 with val:=(ab s i).val}:=⟨cr.zero.a4T,cr.zero.mods,c.val⟩;split
 ·exact⟨h,m⟩
 split
 ·exact⟨h,m⟩
 split
 ·exact⟨h,m⟩
 rename_i v w y;generalize hl:(ab s j).lts.filter (X0 r (ab s j))=l at*;have b:∀x∈l,x∈(ab s j).lts:=fun x a=>by rw[<-hl] at a;exact(Qy.1 a).1
 have d:=BO ((ab s i).high+1) l (ab s i).next;have p:(ab s i).next+l.length<=eG+1:=by omega
 have q:(ab s i).high<D9:=by omega
 refine⟨⟨uy h.ok f rfl ⟨c.name,c.val,by simp only;omega,by simp only;omega,by simp only[zz,d.1];omega,fun x a=>?_,fun x a=>?_,fun x a=>?_,fun x a=>?_,fun x a=>?_⟩,h.n1⟩,⟨by simp only[zm,d.1];omega,fun u hu=>?_⟩,cr.zero.mods,c.val⟩
 case refine_6=>
  obtain⟨x,a,rfl⟩:=jw.1 hu;have:=(d.2 x a).2.1;omega
 all_goals (rcases zp.1 a with a|a)
 ·have:=c.uid x a;simp only;omega
 ·have:=(d.2 x a).2.1;simp only;omega
 ·exact c.a5c x a
 ·obtain⟨_,_,_,z,hz,e,_⟩:=d.2 x a;rw[e];exact k.a5c z (b z hz)
 ·exact c.mod x a
 ·obtain⟨_,_,e,_⟩:=d.2 x a;rw[e];omega
 ·exact c.size x a
 ·obtain⟨_,_,_,z,hz,_,_,e⟩:=d.2 x a;rw[e];exact k.size z (b z hz)
 ·exact c.hash x a
 ·obtain⟨_,_,_,z,hz,_,e,_⟩:=d.2 x a;rw[e];exact k.hash z (b z hz)
theorem NT{s:ML}(h:qD s)(r:RQ)(hl:r.op=1->r.life<18446744073709551616/\r.tr<18446744073709551616):ET (EI s r):=by
 unfold EI;split
 ·rename_i e;exact MZ h r (hl e).1 (hl e).2
 split
 ·exact PC h r
 split
 ·exact F6 h _
 split
 ·exact Eu h r
 split
 ·exact Ev h r
 split
 ·exact Ew h r
 split
 ·exact ID h r
 split
 ·exact zG h r
 split
 ·exact Na h r
 ·exact IC h
theorem BP{q:AR}(h:ET q):qD (sZ q).1/\cr (sZ q).2:=by
 refine⟨h.1,?_⟩;unfold sZ;simp only;split
 ·exact h.2
 ·exact .code _
theorem kG{s:ML}(h:qD s)(r:RQ)(c:r.num<18446744073709551616)(hl:r.op=1->r.life<18446744073709551616/\r.tr<18446744073709551616):qD (C9 s r).1/\cr (C9 s r).2:=by
 unfold C9;split
 ·exact⟨h,.code _⟩
 split
 ·exact BP (NT h r hl)
 split
 ·exact⟨h,.code _⟩
 ·rename_i i d;have a:i<s.a4P.length:=(kg.1 d).1;have e:s.a4P.getD i ⟨0,0,0,0,0⟩=s.a4P[i]:=by rw[zb,zj a];rfl
  simp only[e];split
  ·exact⟨h,.code _⟩
  ·refine BP (NT (s:={s with a4P:=s.a4P.set i {s.a4P[i] with last:=r.num}}) ⟨⟨h.ok.a4N,h.ok.box,h.ok.sorted,h.ok.a4O,h.ok.home,by show(s.a4P.set i _).length<=16;rw[jm];exact h.ok.a4P,fun x b=>?_,h.ok.nval,h.ok.nses,h.ok.a4Z⟩,h.n1⟩ r hl);rcases jd b with b|rfl
   ·exact h.ok.seat x b
   ·have:=h.ok.seat _ (zy a);exact⟨this.1,this.2.1,c,this.2.2.2⟩
theorem IE:qD FO:=by
 refine⟨⟨by decide,fun b a=>?_,by simp[FO],by simp[FO],qy,by decide,qy,by decide,by decide,by decide⟩,by decide⟩;rw[zg.1 a];exact⟨by decide,by decide,by decide,by decide,by decide,qy,qy,qy,qy,qy⟩
structure QD(r:RQ):Prop where
 box:r.box.length<=64
 a4T:r.a4T.length<=64
 a5c:r.a5c.length<=16
 fl:∀f∈r.a5c,f.length<=32
 num:r.op=1->r.num=0
structure SWzq(s s':SE)(d':DD)(c:CM)(l:List Nat)(r:RQ)(b:Bool):Prop where
 a4X:s.a4X=false
 over:s.a4S≠3
 le:re c
 kind:1<=c.kind/\c.kind<=18
 from_:(N8 c.kind).1<=s.a4S/\s.a4S<=(N8 c.kind).2
 len:l.length<=s.a4R.a4Q.length
 us:∀u∈l,0<cx s.a4R u
 op:r.op=1↔c.kind=7
 st:r.op≠1->s.a4S≠0
 rq:QD r
 s':s'={s with a4X:=true,cmd:=c,a4T:=l,cond:=b,num:=if r.op=1 then s.num else s.num+1}
 ask:d'.ask=true
 req:d'.req=if r.op=1 then r else{r with ses:=s.ses,num:=s.num+1}
 a5b:d'.a5b=[]
 close:d'.close=false
 want:d'.want=[]
 body:d'.body.length<=4096
 store:d'.store=decide (c.kind=14)
def mn(s s':SE)(d':DD):Prop:=
 (d'.ask=false/\d'.req=cL/\d'.store=false/\d'.body=[]/\d'.want=[]/\(s'=s\/(s'={s with a4S:=3}/\s.a4X=false)\/s'={s with cond:=true}))\/∃c l r b,SWzq s s' d' c l r b
theorem ib{s a:SE}{b:DD}{r:RR}(h:(a,b)=V4 (s,G0) r):mn s a b:=by
 injection h with h1 h2;subst h1 h2;exact .inl ⟨rfl,rfl,rfl,rfl,rfl,.inl rfl⟩
theorem IF{s d:SE}{f d2:DD}{c:CM}{l:List Nat}{r:RQ}{b:Bool}(h:(d,f)=G_ ({s with cond:=b},d2) c r l)(g:s.a4X=false)(i:s.a4S≠3)(hc:re c)(j:1<=c.kind/\c.kind<=18)(hf:(N8 c.kind).1<=s.a4S/\s.a4S<=(N8 c.kind).2)(hl:l.length<=s.a4R.a4Q.length/\∀u∈l,0<cx s.a4R u)(a:r.op=1↔c.kind=7)(hz:r.op≠1->s.a4S≠0)(k:QD r)(t:d2.a5b=[]/\d2.close=false/\d2.want=[]/\d2.body.length<=4096/\d2.store=decide (c.kind=14)):mn s d f:=by
 obtain⟨m,n,o,p,q⟩:=t;refine .inr ⟨c,l,r,b,?_⟩;unfold G_ at h;split at h
 ·rename_i e;injection h with e1 e2;subst e1 e2;exact⟨g,i,hc,j,hf,hl.1,hl.2,a,hz,k,by rw[zu e],rfl,by rw[zu e],m,n,o,p,q⟩
 ·rename_i e;injection h with e1 e2;subst e1 e2;exact⟨g,i,hc,j,hf,hl.1,hl.2,a,hz,k,by rw[zk e],rfl,by rw[zk e],m,n,o,p,q⟩
theorem PD(op:Int):QD {cL with op:=op}:=⟨zw _,zw _,zw _,qy,fun _=>rfl⟩
theorem Ex{v:VW}{l:List (Nat×Nat)}{b:Bool}{m:List Nat}(h:X1 v l b=some m):m.length<=v.a4Q.length:=by
 unfold X1 at h;simp only at h;split at h
 ·cases h
 ·injection h with h;rw[<-h,zm];refine jg (Qm _ _) ?_;simp
theorem Nb{v:VW}{u:Nat}(h:∃r∈v.a4Q,r.1=u):0<cx v u:=by
 obtain⟨r,a,e⟩:=h;unfold cx tf
 cases hf:v.a4Q.findIdx? (fun r=>decide (r.1=u)) with
 |none=>
  rw[Q4] at hf;have:=hf r a;simp[e] at this
 |some i=>exact Nat.succ_pos i
theorem Ey{v:VW}{l:List (Nat×Nat)}{b:Bool}{m:List Nat}(h:X1 v l b=some m):∀u∈m,0<cx v u:=fun u hu=>Nb ((eP h).1 u hu)
theorem Nc{k:Nat}(h:4<=k)(a:k≠7):1<=(N8 k).1:=by
 unfold N8;split
 ·omega
 ·split
  ·exact Nat.le_succ _
  ·exact z1 _
theorem zH{s o:SE}{p:DD}{k:Int}{t:Bs}(S:t.length<=1000000000)(v:s.a4R.box.length<=64)(h:dZ s k t o p):mn s o p:=by
 unfold dZ at h;split at h
 ·exact ib h
 split at h
 ·injection h with m n;subst m n;exact .inl ⟨rfl,rfl,rfl,rfl,rfl,.inl rfl⟩
 rename_i y;have w:s.a4S≠3:=fun e=>y (.inl e);have A:s.a4X=false:=by cases e:s.a4X;rfl;exact absurd (.inr e) y
 split at h
 ·unfold KC at h;injection h with m n;subst m n;exact .inl ⟨rfl,rfl,rfl,rfl,rfl,.inr (.inl ⟨rfl,A⟩)⟩
 split at h
 ·obtain⟨c,e,_,h⟩:=h;exact ib h
 split at h
 ·obtain⟨c,e,hp,h⟩:=h;have a:=wz S hp;rcases h with⟨_,h⟩|⟨_,h⟩|⟨_,h⟩|⟨T,h⟩
  ·exact ib h
  ·exact ib h
  ·exact ib h
  rcases h with⟨_,h⟩|⟨m,n,h⟩
  ·exact ib h
  have D:=a.kind T;have hf:=And.intro m n;have i:4<=c.kind->c.kind≠7->s.a4S≠0:=fun U J e=>by have:=Nc U J;omega
  have C:∀(r:RQ) (l:List Nat),(o,p)=G_ (s,G0) c r l->(l.length<=s.a4R.a4Q.length/\∀u∈l,0<cx s.a4R u)->(r.op=1↔c.kind=7)->(r.op≠1->s.a4S≠0)->QD r->c.kind≠14->mn s o p:=fun r l h V M hz q d=>
   IF (b:=s.cond) (d2:=G0) h A w a.le D hf V M hz q ⟨rfl,rfl,rfl,zw _,(Qq d).symm⟩
  have j:∀(b:Bool),(o,p)=G_ ({s with cond:=b},G0) c aX []->c.kind≠7->c.kind≠14->s.a4S≠0->mn s o p:=fun b h J d hz=>
   IF (b:=b) (d2:=G0) h A w a.le D hf ⟨zw _,qy⟩ ⟨(fun e=>by cases e),fun e=>absurd e J⟩ (fun _=>hz) (PD 3) ⟨rfl,rfl,rfl,zw _,(Qq d).symm⟩
  unfold QB at h;split at h
  ·rename_i d;refine IF (b:=s.cond) h A w a.le D hf ⟨zw _,qy⟩ ⟨(fun e=>by cases e),(fun e=>by omega)⟩ (fun _=>i qb qb) ⟨a.le.box,zw _,a.le.le.a5c,a.le.fl,(fun _=>rfl)⟩ ⟨rfl,rfl,rfl,a.le.le.data,(jq d).symm⟩
  rename_i d;split at h
  ·rename_i O;rcases h with⟨r,_,h⟩|⟨l,r,Q,q,h⟩
   ·exact ib h
   ·refine C r l h ⟨Ex Q,Ey Q⟩ ⟨fun e=>?_,fun e=>by omega⟩ (fun _=>i qb qb) ⟨?_,q.a4T,?_,?_,(fun e=>by rcases q.op with x|x|x<;>rw[x] at e<;>cases e)⟩ d
    ·rcases q.op with x|x|x<;>rw[x] at e<;>cases e
    ·rcases q.box with e|e<;>rw[e]
     ·exact zw _
     ·exact v
    ·rcases q.a5c with e|e|e<;>rw[e]
     ·exact zw _
     ·exact a.le.le.a5c
     ·decide
    ·rcases q.a5c with e|e|e<;>rw[e]
     ·intro _ h;cases h
     ·exact a.le.fl
     ·intro f hf;rw[zg.1 hf];decide
  ·rename_i O;unfold OA at h;have g:∀(r:RQ),(o,p)=G_ (s,G0) c r []->(r.op=1↔c.kind=7)->(r.op≠1->s.a4S≠0)->QD r->mn s o p:=fun r h m X n=>C r [] h ⟨zw _,qy⟩ m X n d;by_cases k1:c.kind=1
   ·rw[zu k1] at h;unfold V4 at h;injection h with m n;subst m n;exact .inl ⟨rfl,rfl,rfl,rfl,rfl,.inl rfl⟩
   rw[zk k1] at h;by_cases k2:c.kind=2
   ·rw[zu k2] at h;by_cases z:s.a4S=0
    ·rw[zu z] at h;exact ib h
    ·rw[zk z] at h;exact j s.cond h qb qb z
   rw[zk k2] at h;by_cases k3:c.kind=3
   ·rw[zu k3] at h;by_cases z:s.a4S=0
    ·rw[zu z] at h;unfold ox V4 KC at h;injection h with m n;subst m n;exact .inl ⟨rfl,rfl,rfl,rfl,rfl,.inr (.inl ⟨rfl,A⟩)⟩
    ·rw[zk z] at h;exact g _ h ⟨(fun e=>by cases e),(fun e=>by omega)⟩ (fun _=>z) (PD 2)
   rw[zk k3] at h;by_cases k4:c.kind=4
   ·rw[zu k4] at h;by_cases z:s.ro=true
    ·rw[zu z] at h;exact j s.cond h qb qb (i qb qb)
    ·rw[zk z] at h;exact g _ h ⟨(fun e=>by cases e),(fun e=>by omega)⟩ (fun _=>i qb qb) ⟨v,zw _,zw _,qy,(fun _=>rfl)⟩
   rw[zk k4] at h;by_cases k5:c.kind=5
   ·rw[zu k5] at h;by_cases z:s.ro=true
    ·rw[zu z] at h;exact ib h
    ·rw[zk z] at h;exact g _ h ⟨(fun e=>by cases e),(fun e=>by omega)⟩ (fun _=>i qb qb) ⟨v,zw _,zw _,qy,(fun _=>rfl)⟩
   rw[zk k5] at h;by_cases k6:c.kind=6
   ·rw[zu k6] at h;unfold V4 at h;injection h with m n;subst m n;exact .inl ⟨rfl,rfl,rfl,rfl,rfl,.inr (.inr rfl)⟩
   rw[zk k6] at h;by_cases k7:c.kind=7
   ·rw[zu k7] at h;by_cases z:c.pass=[104,111,114,110]
    ·rw[zu z] at h;exact g _ h ⟨(fun _=>k7),(fun _=>rfl)⟩ (fun e=>absurd rfl e) (PD 1)
    ·rw[zk z] at h;exact ib h
   rw[zk k7] at h;by_cases k9:c.kind<=9
   ·rw[zu k9] at h;exact j _ h k7 d (i qb k7)
   rw[zk k9] at h;by_cases k10:c.kind=10
   ·rw[zu k10] at h;exact g _ h ⟨(fun e=>by cases e),(fun e=>by omega)⟩ (fun _=>i qb k7) ⟨a.le.box,zw _,zw _,qy,(fun _=>rfl)⟩
   rw[zk k10] at h;by_cases k11:c.kind=11
   ·rw[zu k11] at h;exact g _ h ⟨(fun e=>by cases e),(fun e=>by omega)⟩ (fun _=>i qb k7) ⟨a.le.box,zw _,zw _,qy,(fun _=>rfl)⟩
   rw[zk k11] at h;by_cases k13:c.kind<=13\/c.kind=15
   ·rw[zu k13] at h;exact j s.cond h k7 d (i qb k7)
   ·exfalso;omega
 ·injection h with m n;subst m n;exact .inl ⟨rfl,rfl,rfl,rfl,rfl,.inl rfl⟩
structure mL(n:Nat)(s:SE):Prop where
 a4Q:s.a4R.a4Q.length<=32*n
 row:∀r∈s.a4R.a4Q,r.1<=4294967296
 us:s.a4T.length<=32*n
 cmd:re s.cmd
 num:s.num<=n
 box:s.a4R.box.length<=64
theorem mL.ok{n:Nat}{s:SE}(h:mL n s)(b:n<=1000):zf s:=⟨by have:=h.a4Q;omega,by have:=h.us;omega,h.cmd.le,fun r a=>by have:=h.row r a;omega,by have:=h.num;omega⟩
theorem mL.up{n m:Nat}{s:SE}(h:mL n s)(a:n<=m):mL m s:=⟨by have:=h.a4Q;omega,h.row,by have:=h.us;omega,h.cmd,by have:=h.num;omega,h.box⟩
theorem PF{n:Nat}{s e:SE}{f:DD}(d:mL n s)(h:mn s e f):mL (n+1) e:=by
 rcases h with⟨_,_,_,_,_,rfl|⟨rfl,_⟩|rfl⟩|⟨c,l,r,b,h⟩
 ·exact d.up qb
 ·have:=d.up (show n<=n+1 by omega);exact⟨this.a4Q,this.row,this.us,this.cmd,this.num,this.box⟩
 ·have:=d.up (show n<=n+1 by omega);exact⟨this.a4Q,this.row,this.us,this.cmd,this.num,this.box⟩
 ·have a:=d.up (show n<=n+1 by omega);rw[h.s'];refine⟨a.a4Q,a.row,?_,h.le,?_,a.box⟩
  ·have:=h.len;have:=d.a4Q;show l.length<=_;omega
  ·have:=d.num;show(if r.op=1 then s.num else s.num+1)<=n+1;split<;>omega
theorem qo(b:BX):∀(k:Nat) (a:List (Nat×Nat)),∀r∈(ah b k a).1,r∈a
 |0,a,r,h=>h
 |k+1,a,r,h=>by
  unfold ah at h;split at h
  ·exact qo b k a r h
  ·exact Jw (qo b k (a.eraseIdx k) r h)
theorem IG(b:BX)(r:Nat×Nat):(X2 b r).1.1=r.1:=by
 unfold X2;split
 ·rfl
 ·split<;>rfl
theorem PG(v:VW)(b:BX)(e c:Bool):(X9 v b e c).1.box=v.box/\(X9 v b e c).1.a4Q.length<=v.a4Q.length+b.lts.length/\∀r∈(X9 v b e c).1.a4Q,(∃q∈v.a4Q,q.1=r.1)\/∃x∈b.lts,x.uid=r.1:=by
 unfold X9;split
 ·exact⟨rfl,Nat.le_add_right _ _,fun r a=>.inl ⟨r,a,rfl⟩⟩
 ·simp only;generalize hq:(if e=true then ah b v.a4Q.length v.a4Q else(v.a4Q,[]))=q;have d:q.1.length<=v.a4Q.length/\∀r∈q.1,r∈v.a4Q:=by
   rw[<-hq];split
   ·exact⟨(kE b _ _).1,qo b _ _⟩
   ·exact⟨z1 _,fun _ h=>h⟩
  refine⟨trivial,?_,fun r a=>?_⟩
  ·simp only[zz,zm];have:=Qm (fun x:LT=>decide (L8 q.1<x.uid)) b.lts;omega
  ·rcases zp.1 a with a|a
   ·obtain⟨p,hp,rfl⟩:=jw.1 a;obtain⟨z,hz,rfl⟩:=jw.1 hp;exact .inl ⟨z,d.2 z hz,(IG b z).symm⟩
   ·obtain⟨x,f,rfl⟩:=jw.1 a;exact .inr ⟨x,(Qy.1 f).1,rfl⟩
theorem PH{b:BX}(a:CN b){n:Nat}(e:1<=n):(P4 b).a4Q.length<=32*n/\(∀r∈(P4 b).a4Q,r.1<=4294967296)/\(P4 b).box.length<=64:=by
 refine⟨?_,fun r c=>?_,a.name⟩
 ·show(b.lts.map fun x=>(x.uid,x.mod)).length<=_;have:=a.lts;rw[zm];omega
 ·obtain⟨x,d,rfl⟩:=jw.1 c;have:=a.uid x d;have:=a.next;show x.uid<=_;omega
theorem zB.I{v v':VW}(h:zB v v'):∀r∈v'.a4Q,∃q∈v.a4Q,q.1=r.1:=fun r a=>by
 have:r.1∈v'.a4Q.map Prod.fst:=Zq a;rw[h.2.2] at this;obtain⟨q,b,e⟩:=jw.1 this;exact⟨q,b,e⟩
theorem IH{x:AN}{s c:SE}{r:RR}{l:List RR}{n:Nat}(h:O0 x s r c l)(j:Y4 x.m.s)(a:mL n s)(k:1<=n):mL n c:=by
 have f:∀g,pW x s g r c l->mL n c:=fun g h=>by
  obtain⟨_,⟨i,rfl,d⟩,_⟩:=h;refine⟨?_,fun r m=>?_,a.us,a.cmd,a.num,?_⟩
  ·have:=d.len;have:=a.a4Q;show i.a4Q.length<=_;omega
  ·obtain⟨q,o,e⟩:=d.I r m;rw[<-e];exact a.row q o
  ·show i.box.length<=64;rw[d.1];exact a.box
 unfold O0 at h;split at h
 ·rw[h.1];exact⟨a.a4Q,a.row,a.us,a.cmd,zw _,a.box⟩
 split at h
 ·rw[h.1];exact a
 split at h
 ·rcases h with⟨_,rfl,_⟩|⟨b,p,rfl,_⟩
  ·exact a
  ·obtain⟨t,u,v⟩:=PH (j.box b (bN p)) k;exact⟨t,u,a.us,a.cmd,a.num,v⟩
 split at h
 ·rw[h.1];exact a
 split at h
 ·rw[h.1];exact a
 split at h
 ·rw[h.1];exact a
 split at h
 ·exact f _ h
 split at h
 ·exact f _ h
 ·rw[h.1];exact a
theorem PI(s:SE){st:ML}(b:Y4 st):(mA s st).lts.length<=32/\∀x∈(mA s st).lts,x.uid<=4294967296:=by
 unfold mA
 cases e9:ae st s.a4R.box with
 |none=>exact⟨zw _,qy⟩
 |some b0=>
  have a:=b.box b0 (bN e9);by_cases h9:b0.val=s.a4R.val
  ·simp only[zr,zu h9,Zb];refine⟨a.lts,fun x c=>?_⟩;have:=a.uid x c;have:=a.next;omega
  ·simp only[zr,zk h9,Option.getD_none];exact⟨zw _,qy⟩
theorem iL{n:Nat}{s:SE}(a:mL n s):mL n (O3 s):=⟨a.a4Q,a.row,zw _,ke rfl rfl rfl rfl rfl rfl rfl,a.num,a.box⟩
theorem nD{n:Nat}{s:SE}(a:mL n s)(k:Nat):mL n {s with a4S:=k}:=⟨a.a4Q,a.row,a.us,a.cmd,a.num,a.box⟩
theorem NU{n:Nat}{s O:SE}{st:ML}{o:OC}{bl:BL}{U:DD}(t:mL n s)(u:Y4 st)(h:fg s st o bl O U):mL (n+1) O:=by
 have g:=t.up (show n<=n+1 by omega);unfold fg at h;split at h
 ·rw[h.1];exact g
 rcases h with⟨w,_,_,rfl,_⟩|⟨x,hc,j,ho,hu,hb,i,h⟩
 ·exact g
 unfold iK at h;split at h
 ·rw[h.1];exact nD (iL g) 3
 split at h
 ·rw[h.1];exact nD (iL g) 3
 obtain⟨r,s1,V,X,l2,a,v,y⟩:=h;have b:=iL g;have c:∀k,mL k (O3 s)->mL k (sE x (O3 s)):=fun k p=>by
  unfold sE;split
  ·exact⟨zw _,qy,p.us,p.cmd,p.num,zw _⟩
  ·exact p
 have A:=PI s u
 -- what is told ahead of the last look
 have d:mL (n+1) s1/\s1.a4R.a4Q.length+(if s1.a4S=2/\ux x=false/\x.bx.val≠0 then 32 else 0)<=32*(n+1):=by
  by_cases ho0:ux x=true
  ·have C:¬(s1.a4S=2/\ux x=false/\x.bx.val≠0):=fun h=>(by rw[h.2.1] at ho0;cases ho0);rw[zk C];split at a
   ·have:=IH a (show Y4 (xB x).m.s from by show Y4 x.m.s;rw[j];exact u) (c _ b) qb;exact⟨this,this.a4Q⟩
   ·rw[a.1];exact⟨c _ b,(c _ b).a4Q⟩
  ·have Y:ux x=false:=(by simpa using ho0);have D:¬(x.c.kind=8\/x.c.kind=9):=fun e=>by
    apply ho0;unfold ux;rcases e with e|e<;>rw[e]<;>rfl
   have J:s1.a4R.a4Q.length<=32*n/\mL (n+1) s1:=by
    split at a
    ·refine⟨?_,IH a (show Y4 (xB x).m.s from by show Y4 x.m.s;rw[j];exact u) (c _ b) qb⟩;have f:=(c _ (iL t)).a4Q;unfold O0 at a;rw[zk (show¬((xB x).c.kind=8\/(xB x).c.kind=9) from D)] at a;have Q:∀S,pW (xB x) (sE x (O3 s)) S r s1 V->s1.a4R.a4Q.length<=32*n:=fun S h=>by
      obtain⟨_,⟨Z,rfl,hv⟩,_⟩:=h;have:=hv.len;show Z.a4Q.length<=_;omega
     split at a
     ·rw[a.1];exact f
     split at a
     ·rw[a.1];exact f
     split at a
     ·rw[a.1];exact f
     split at a
     ·rw[a.1];exact f
     split at a
     ·rw[a.1];exact f
     split at a
     ·exact Q _ a
     split at a
     ·exact Q _ a
     ·rw[a.1];exact f
    ·rw[a.1];exact⟨(c _ (iL t)).a4Q,c _ b⟩
   refine⟨J.2,?_⟩;split<;>omega
 have l:mL (n+1) X:=by
  split at v
  ·rename_i m;rw[zu m] at d;obtain⟨e1,e2,T⟩:=PG s1.a4R x.bx.x (!kD x) s1.cond;rw[v.1];rw[i] at e2 T;refine⟨?_,fun r hr=>?_,d.1.us,d.1.cmd,d.1.num,?_⟩
   ·show(X9 s1.a4R x.bx.x (!kD x) s1.cond).1.a4Q.length<=_;rw[i];omega
   ·have M:r∈(X9 s1.a4R (mA s st) (!kD x) s1.cond).1.a4Q:=(by rw[<-i];exact hr);rcases T r M with⟨q,hq,e⟩|⟨z,hz,e⟩
    ·rw[<-e];exact d.1.row q hq
    ·rw[<-e];exact A.2 z hz
   ·show(X9 s1.a4R x.bx.x (!kD x) s1.cond).1.box.length<=64;rw[e1];exact d.1.box
  ·rw[v.1];exact d.1
 split at y
 ·rw[y.1];exact nD l 3
 ·rw[y.1];exact l
theorem PJ{n:Nat}{s b:SE}{c:DD}(d:mL n s)(h:(b,c)=bY s):mL (n+1) b:=by
 have a:=d.up (show n<=n+1 by omega);unfold bY at h;split at h
 ·injection h with h1 h2;rw[h1];exact a
 split at h
 ·injection h with h1 h2;rw[h1];exact nD (iL a) 3
 ·injection h with h1 h2;rw[h1];exact iL a
structure RqI(r:RQ):Prop where
 ok:wM r
 op:r.op=1->r.life<18446744073709551616/\r.tr<18446744073709551616
structure Nd(n:Nat)(w:WM):Prop where
 se:mL n w.s
 ml:qD w.m.s
 q:RqI w.q
 tr:w.tr<=n
 bll:w.bl.length<=n
 body:∀p∈w.bl,p.2.length<=4096
structure mM(a:AX):Prop where
 text:a.text.length<=1000000000
 q:RqI a.other
def mq(w:WM)(a:AX)(w':WM)(t:TN):Prop:=(a.kind=1/\w.s.a4X=false/\w'=w/\t=ES w a)\/
 ∃w1 c,di w a t.b t.d w1.m.s w1.bl t.hears t.comes t.fails c/\(t.a=w.s/\t.hk=a.hk/\t.ht=a.text/\t.c=w.s.cmd)/\(w1.q=w.q/\w1.tr=w.tr)/\qa w1 t w'
theorem wV.step{w:WM}{a:AX}{w':WM}{t:TN}{c:Bool}{h:l9}(k:wV w a w' t c h):mq w a w' t:=by
 rcases k with⟨b,d,e,f,_⟩|⟨g,b,d,_⟩
 ·exact .inl ⟨b,d,e,f⟩
 ·exact .inr ⟨g,c,b.dn,⟨b.ta.1,b.ta.2.2.1,b.ta.2.2.2.1,b.ta.2.2.2.2.1⟩,⟨b.tw.1,b.tw.2.2⟩,d⟩
theorem PK{o:OC}(h:cr o):(o.a4T.length<=100000/\fP o.a4T)/\(o.mods.length<=100000/\fP o.mods)/\o.val<18446744073709551616:=by
 have a:=h.a4T;have b:=h.mods;have c:=h.val;exact⟨⟨by omega,fun u hu=>by have:=a.2 u hu;omega⟩,⟨by omega,fun u hu=>by have:=b.2 u hu;omega⟩,by omega⟩
theorem sG{s d:SE}{a:DD}(h:mn s d a):a.body.length<=4096:=by
 rcases h with⟨_,_,_,e,_⟩|⟨c,l,r,b,h⟩
 ·rw[e];simp
 ·exact h.body
theorem zI{n:Nat}{w:WM}{a:AX}(h:Nd n w)(ha:mM a)(d:n<=800):BJ w a:=by
 have b:=kG h.ml w.q h.q.ok.num h.q.op;have hu:=PK b.2;exact⟨h.se.ok qb,by have:=h.se.a4Q;omega,by have:=h.se.us;omega,h.ml.ok,h.q.ok,ha.q.ok,ha.text,b.1.ok,hu.1,hu.2.1,hu.2.2,by have:=h.tr;omega,by have:=h.bll;omega,fun p hp=>by have:=h.body p hp;omega,fun e f c=>by have:=sG (zH ha.text h.se.box c);omega⟩
theorem SY{n:Nat}{s:SE}{r:RQ}(a:n<=1000)(hs:s.num<=n)(h:QD r):wM {r with ses:=s.ses,num:=s.num+1}:=
 ⟨by show s.num+1<_;omega,by have:=h.box;exact jg this qp,by have:=h.a4T;show r.a4T.length<=_;omega,by have:=h.a5c;show r.a5c.length<=_;omega,fun f hf=>jg (h.fl f hf) qp⟩
structure DdI(n:Nat)(d:DD):Prop where
 req:d.ask=true->wM d.req
 body:d.body.length<=4096
theorem qt{s c:SE}{st:ML}{o:OC}{bl:BL}{b:DD}(h:fg s st o bl c b):b.ask=false/\b.store=false/\b.req=cL:=by
 unfold fg at h;split at h
 ·rw[h.2];exact qm
 rcases h with⟨d,_,_,_,e⟩|⟨f,_,_,_,_,_,_,a⟩
 ·rw[e];exact qm
 ·have:=ej a;exact⟨this.2.2.1,this.2.2.2.1,this.1⟩
theorem BQ(s:SE):(bY s).2.ask=false/\(bY s).2.store=false/\(bY s).2.req=cL:=by
 unfold bY;split
 ·exact qm
 ·split<;>exact qm
theorem PM{n:Nat}{w:WM}{a:AX}{v:SE}{q:DD}{A:ML}{f:BL}{x y z c:Bool}(h:Nd n w)(ha:mM a)(J:n<=800)(g:di w a v q A f x y z c):
  mL (n+1) v/\qD A/\(f.length<=n\/f.length<=n+1/\q.store=false)/\(∀p∈f,p.2.length<=4096)/\DdI n q:=by
 have j:=kG h.ml w.q h.q.ok.num h.q.op;unfold di at g;split at g
 ·obtain⟨i,rfl,rfl,_⟩:=g;have hs:=zH ha.text h.se.box i;refine⟨PF h.se hs,h.ml,.inl h.bll,h.body,fun e=>?_,sG hs⟩;rcases hs with⟨d,_⟩|⟨c,l,r,b,t⟩
  ·rw[e] at d;cases d
  ·rw[t.req];have k:=SY (n:=n) (s:=w.s) qb h.se.num t.rq;split
   ·exact⟨by rename_i D;rw[t.rq.num D];decide,k.box,k.a4T,k.a5c,k.fl⟩
   ·exact k
 split at g
 ·obtain⟨_,⟨s1,M,i,m⟩,rfl,rfl,_⟩:=g;have C:=j.1.ok;split at m
  ·obtain⟨rfl,rfl⟩:=m;have e:=qt i;exact⟨NU h.se C i,j.1,.inl h.bll,h.body,(fun d=>by rw[e.1] at d;cases d),by rw[gI i];simp⟩
  ·have e:=qt m;exact⟨NU h.se C m,j.1,.inl h.bll,h.body,(fun d=>by rw[e.1] at d;cases d),by rw[gI m];simp⟩
 split at g
 ·obtain⟨i,rfl,rfl,_⟩:=g;have o:q=(bY w.s).2:=by rw[<-i]
  have e:=BQ w.s;rw[<-o] at e;exact⟨PJ h.se i,h.ml,.inl h.bll,h.body,(fun d=>by rw[e.1] at d;cases d),by rw[o,qe];simp⟩
 ·obtain⟨rfl,rfl,rfl,rfl,_⟩:=g;have u:=kG h.ml a.other ha.q.ok.num ha.q.op;refine⟨h.se.up qb,u.1,.inr ⟨?_,rfl⟩,fun p hp=>?_,(fun e=>by cases e),by simp⟩
  ·have:=h.bll;rw[zz];simp only[zx,z6];omega
  ·rcases zp.1 hp with hp|hp
   ·exact h.body p hp
   ·rw[zg.1 hp];show(9:Nat)<=4096;decide
theorem II{n:Nat}{w:WM}{a:AX}{w':WM}{t:TN}(h:Nd n w)(ha:mM a)(k:n<=800)(hs:mq w a w' t):Nd (n+1) w':=by
 rcases hs with⟨_,_,rfl,_⟩|⟨l,c,m,u,g,b⟩
 ·exact⟨h.se.up qb,h.ml,h.q,by have:=h.tr;omega,by have:=h.bll;omega,h.body⟩
 ·obtain⟨o,q,d,i,j⟩:=PM h ha k m;refine⟨by rw[b.s];exact o,by rw[b.m];exact q,?_,?_,?_,?_⟩
  ·rw[b.q];unfold fT;split
   ·rename_i e;have f:=j.req e;split
    ·have:=h.tr;exact⟨⟨f.num,f.box,f.a4T,f.a5c,f.fl⟩,fun _=>⟨by show 1<_;decide,by show l.tr+1<_;rw[g.2];omega⟩⟩
    ·rename_i r;exact⟨f,fun s=>absurd s r⟩
   ·rw[g.1];exact h.q
  ·rw[b.tr];unfold EQ;have:=h.tr;split
   ·split<;>rw[g.2]<;>omega
   ·rw[g.2];omega
  ·rw[b.bl];unfold QC;split
   ·rename_i e;rcases d with d|⟨_,d⟩
    ·rw[zz];simp only[zx,z6];omega
    ·rw[e] at d;cases d
   ·rcases d with d|⟨d,_⟩<;>omega
  ·rw[b.bl];unfold QC;split
   ·intro p hp;rcases zp.1 hp with hp|hp
    ·exact i p hp
    ·rw[zg.1 hp];exact j.body
   ·exact i
inductive bB (w0:WM):List AX->List TN->WM->Prop
 |nil:bB w0 [] [] w0
 |snoc {l:List AX} {ts:List TN} {w w':WM} {a:AX} {t:TN}:bB w0 l ts w->mq w a w' t->bB w0 (l++[a]) (ts++[t]) w'
theorem uz{w0 w:WM}{l:List AX}{b:List TN}(h:bB w0 l b w)(c:Nd 0 w0)(ha:∀a∈l,mM a)(hl:l.length<=800):Nd l.length w/\b.length=l.length:=by
 induction h with
 |nil=>exact⟨c,rfl⟩
 |snoc hp hs ih=>
  rename_i l b w g a t;have d:l.length+1<=800:=by simpa using hl
  obtain⟨e,f⟩:=ih (fun a h=>ha a (J7 _ h)) qb;rw[zz,zz,f];exact⟨II e (ha _ (J0 _ (zg.2 rfl))) qb hs,rfl⟩
abbrev wX:RQ:={cL with op:=1,node:=5,life:=1,tr:=1}
abbrev wY(m:MM):WM:=⟨ov,qR,m,cL,cP,0,[],none,0⟩
def wZ:ML:=(C9 FO wX).1
def a1d(h:l9)(v:Value)(A:List As):Prop:=∃m,v=EP (wY m)/\A=[]/\m.s=wZ/\iz m h
theorem IJ:wM wX:=⟨by decide,by decide,by decide,by decide,qy⟩
theorem xa:Cm prog 16 [] (fun _=>True) [] a1d:=by
 refine x7 11 func16 rfl rfl rfl ?_;intro F R _;refine C6 ?_;refine i7 rfl ?_;intro k;refine C6 ?_;refine A8 Pv trivial ?_;rintro v A l d ⟨h,rfl,a,rfl,e⟩;refine f_ (y7 (ps:=[(0,.const (.int .i64 1)),(3,.const (.int .i64 5)),(4,.const (.int .u64 1)),(5,.const (.int .u64 1))]) (vs:=[(0,.int .i64 1),(3,.int .i64 5),(4,.int .u64 1),(5,.int .u64 1)]) (cells:=(cQ wX cP).toArray) rfl i6) ?_;refine A8 (pS h wX cP (by rw[a];exact IE.ok) IJ) ⟨e,n9.nil _ _,n9.nil _ _⟩ ?_;rintro v A m f ⟨c,o,n,rfl,g,p,rfl,b,i⟩;refine E6 ?_;refine i7 rfl ?_;intro q;refine i7 rfl ?_;intro r;refine E6 ?_;refine f_ (y7 (ps:=[(1,.tmp 9)]) (vs:=[(1,uD c)]) (cells:=(NS (wY c)).toArray) rfl i6) ?_;refine C8 ?_;refine G9 (A:=[]) (v:=EP (wY c)) (d.trans f) ⟨c,rfl,rfl,by rw[g,a];rfl,b⟩ ?_;exact G4 rfl rfl ud rfl _ qh (fun v j=>C1 (A:=[]) (J:=[_,_,_]) tk j)
theorem BR{m:MM}(h:m.s=wZ):Nd 0 (wY m):=by
 refine⟨⟨zw _,qy,zw _,ke rfl rfl rfl rfl rfl rfl rfl,zw _,zw _⟩,?_,⟨⟨by show 0<18446744073709551616;decide,zw _,zw _,zw _,qy⟩,fun e=>by cases e⟩,z1 _,z1 _,qy⟩;show qD m.s;rw[h];exact(kG IE wX qp (fun _=>⟨by decide,by decide⟩)).1
structure rgzq(t:TN)(h:l9):Prop where
 a:U2 t.a t.ax h
 ar:n9 h t.ax.ra (V2 t.a.a4R.a4Q)
 b:U2 t.b t.bx h
 br:n9 h t.bx.ra (V2 t.b.a4R.a4Q)
 a5b:t.d.a5b=t.y.rl.map Prod.fst
 row:n9 h t.y.da (Tn t.y.rl)
 rep:∀m∈t.y.rl,fB m.1 m.2 h
instance {t:TN}:Mn (rgzq t):=⟨fun l k=>⟨Mn.le l k.a,k.ar.le l,Mn.le l k.b,k.br.le l,k.a5b,k.row.le l,fun m hm=>(k.rep m hm).le l⟩⟩
theorem IK{h:l9}:∀{l:List RM} {bs:List Nat},A1 h (Y6 l) bs->(∀m∈l,kC m h)->∀m∈l,fB m.1 m.2 h
 |[],_,_,_,m,a=>by cases a
 |x::t,bs,hs,hp,m,a=>by
  have b:A1 h (Y6 [x]++Y6 t) bs:=by rw[<-nC];exact hs
  obtain⟨c,j,rfl,d,e⟩:=A1.split b;rcases kx.1 a with rfl|a
  ·rcases hp m j8 with⟨f,_⟩|⟨g,i,rfl⟩
   ·exact f
   ·exact⟨rfl,n9.nil _ _,A1.rd (show A1 h [A4 g R5 i] c from d) ud,n9.nil _ _,qy⟩
  ·exact IK e (fun m a=>hp m (jj _ a)) m a
theorem Nf{h:l9}{c:Bool}{t:TN}{bs:List Nat}(hs:A1 h (fj c t) bs)(hp:∀m∈t.y.rl,kC m h)(hc:c=true):n9 h t.bx.ra (V2 t.b.a4R.a4Q)/\n9 h t.y.da (Tn t.y.rl)/\∀m∈t.y.rl,fB m.1 m.2 h:=by
 unfold fj at hs;rw[zu hc] at hs;refine⟨A1.rd hs ud,A1.rd hs ud,?_⟩;obtain⟨d,e,rfl,_,a⟩:=hs;obtain⟨f,g,rfl,_,b⟩:=a;exact IK b hp
theorem IL{w w':WM}{a:AX}{t:TN}{c:Bool}{h e:l9}{bs:List Nat}(d:lD w e)(hf:wV w a w' t c h)(hl:l9.le h e)(hs:A1 e (fj c t) bs):lD w' e/\rgzq t e:=by
 rcases hf with⟨_,_,rfl,rfl,_⟩|⟨n,g,b,i⟩
 ·exact⟨d,d.se,d.a4Q,d.se,d.a4Q,rfl,n9.nil _ _,qy⟩
 ·have hp:=g.le hl;have f:n9 e t.bx.ra (V2 t.b.a4R.a4Q)/\n9 e t.y.da (Tn t.y.rl)/\∀m∈t.y.rl,fB m.1 m.2 e:=by
   cases c with
   |true=>exact Nf hs hp.rp rfl
   |false=>
    obtain⟨j,k,l⟩:=hp.cf rfl;rw[j,k,l];exact⟨d.a4Q,n9.nil _ _,qy⟩
  refine⟨⟨d.g,by rw[b.s,b.x];exact f.1,by rw[b.s,b.x];exact hp.se,by rw[b.m];exact hp.m,?_,i.le hl⟩,by rw[hp.ta.1,hp.ta.2.1];exact d.se,by rw[hp.ta.1,hp.ta.2.1];exact d.a4Q,hp.se,f.1,hp.a5b,f.2.1,f.2.2⟩;rw[b.q,b.ql];unfold fT;split
  ·split
   ·exact⟨hp.rq.a4T,hp.rq.a5c⟩
   ·exact hp.rq
  ·rw[hp.tw.1,hp.tw.2.1];exact d.q
theorem wV.le{w w':WM}{a:AX}{t:TN}{c:Bool}{h b:l9}(k:wV w a w' t c h)(l:l9.le h b):wV w a w' t c b:=by
 rcases k with k|⟨d,e,f,g⟩
 ·exact .inl k
 ·exact .inr ⟨d,e.le l,f,g.le l⟩
abbrev lE:=AX×QL
abbrev JG(p:lE):List Value:=ER p.1 p.2
theorem kH:∀x,(JG x).length=21:=fun _=>rfl
theorem S7:∀x,(fh x).length=99:=fun _=>rfl
theorem eS:∀x,∀q∈fh x,q.oneCell'=true:=fun x q a=>by
 have:(fh x).all (fun q=>q.oneCell')=true:=rfl;exact Qx.1 this q a
abbrev kI(o:AC)(ts:List TN):As:=.own (.slice o.1 ts.length o.2) 48 99 (ts.flatMap fh)
def PN(l:List lE)(h:l9)(v:Value)(A:List As):Prop:=∃m ts w a c,v=.slice a ts.length c/\A=[]/\n9 h a (ts.flatMap fh)/\(∀t∈ts,rgzq t h)/\m.s=wZ/\bB (wY m) (l.map Prod.fst) ts w
theorem IM(l:List lE)(X:Option Addr)(lc:Nat)(hl:l.length<=120)(ha:∀p∈l,mM p.1):
  Cm prog 11 [.slice X l.length lc] (fun h=>Gl h/\n9 h X (l.flatMap JG)/\∀p∈l,dv p.1.other p.2 h) [] (PN l):=by
 refine x7 28 func11 rfl rfl rfl ?_;rintro F R ⟨hg,Y,h4⟩;refine xp ?_;refine A8 xa trivial ?_;rintro v A F0 h0 ⟨m,rfl,rfl,hm,h5⟩;refine i7 rfl ?_;intro u;refine z_ ?_;refine J_ 1 ?_;refine S6 (fun(b:List TN) (o:AC) (w:WM) (x:l6)=>F.le x/\bB (wY m) (l.map Prod.fst) b w/\∀t∈b,rgzq t x.heap) (fun b o _ _=>[(4,.slice o.1 b.length o.2)]) (fun _ _ _ x=>x) (fun b o w _=>kI o b::gZ u w::R) ?_ ?_
 ·refine o0 ?_;refine bD (ι:=Nat×List TN×AC×WM×l6) (fun i=>i.1<=l.length/\F.le i.2.2.2.2/\bB (wY m) ((l.map Prod.fst).take i.1) i.2.1 i.2.2.2.1/\(∀t∈i.2.1,rgzq t i.2.2.2.2.heap)/\lD i.2.2.2.1 i.2.2.2.2.heap) (fun i=>[(0,.slice X l.length lc),(3,m6 u),(4,.slice i.2.2.1.1 i.2.1.length i.2.2.1.2),(5,.int .i64 (i.1:Nat))]) (fun i=>i.2.2.2.2)
   (fun i=>match i with|(_,b,o,w,_)=>kI o b::gZ u w::R) (fun i=>l.length-i.1) (0,[],(none,0),wY m,F0) ⟨zw _,h0,by rw[Kk];exact .nil,qy,⟨hg.le h0.heap,n9.nil _ _,⟨n9.nil _ _,fd.zero _⟩,h5,⟨n9.nil _ _,n9.nil _ _⟩,n9.nil _ _⟩⟩ sub rfl (fun v e=>C1 (A:=[kI (none,0) [],_]) (J:=[]) tk (e.addNil 48 99)) ?_
  rintro⟨j,b,o,w,x⟩ ⟨hj,n,r,y,M⟩;simp only at hj n r y M;have D:((l.map Prod.fst).take j).length=j:=by rw[zn,zm];omega
  have O:=uz r (BR hm) (fun a h=>by
   obtain⟨p,hp,rfl⟩:=jw.1 (K7 h);exact ha p hp) (by rw[D];omega)
  rw[D] at O;have q1:b.length=j:=O.2;refine EH ?_ ?_<;>intro h
  ·have s:j<l.length:=(by have:=qr h;omega);have h6:=A2 (Y.le n.heap) kH qp s;have h7:mM l[j].1:=ha _ (zy s);have h1:=IA w l[j].1 l[j].2 (zI O.1 h7 qb);have h8:dv l[j].1.other l[j].2 x.heap:=Mn.le n.heap (h4 _ (zy s));refine J_ 0 ?_;refine S6 (fun(g:List TN) (Q:AC) (f:WM) (k:l6)=>F.le k/\bB (wY m) ((l.map Prod.fst).take (j+1)) g f/\(∀t∈g,rgzq t k.heap)/\lD f k.heap) (fun g Q _ _=>[(0,.slice X l.length lc),(3,m6 u),(4,.slice Q.1 g.length Q.2),(5,.int .i64 (j:Nat))]) (fun _ _ _ k=>k) (fun g Q f _=>kI Q g::gZ u f::R) ?_ ?_
   ·refine o0 ?_;refine C6 ?_;refine i7 rfl ?_;intro g6;refine u7 ?_;refine J_ 0 ?_;refine S6 (fun(f:WM) (t:TN) (c:Bool) (k:l6)=>x.le k/\wV w l[j].1 f t c k.heap) (fun _ _ _ _=>[(0,.slice X l.length lc),(3,m6 u),(4,.slice o.1 b.length o.2),(5,.int .i64 (j:Nat)),(6,m6 g6)]) (fun _ _ _ k=>k) (fun f t c _=>pZ g6 t::kI o b::gZ u f::(fj c t++R)) ?_ ?_
    ·refine u7 ?_;refine D7 [0] [4,5,9,10] [gZ u w] 11 ?_;refine wd [0,1,2] ?_;refine w_ 3 rfl (m8 rfl h6 rfl qb) ?_;refine h_ 4 rfl i6 ?_;refine r_ (w8 rfl (fun v e=>fm (C:=JG) ((Y.le n.heap).le e.keep) kH qp s x8) (kH _)) ?_;refine Y5 ?_;refine h_ 5 rfl i6 ?_;refine R7 h1 ⟨M,h8⟩ ?_;rintro v A Z Fz hz ⟨f,t,c,rfl,rfl,hf⟩;refine I6 (H':=_::_::_::(fj c t++(R++Z))) (fun v e=>e.perm (Qb (fj c t) [_,_,_] (R++Z))) ?_;refine E5 [6,7,8,9,10] ?_
     all_goals exact ei (Rr:=pZ g6 t::kI o b::gZ u f::(fj c t++R)) Fz hz (fun v e=>by
      show Hp x v (pZ g6 t::kI o b::gZ u f::((fj c t++R)++Z));rw[zh];exact C1 (A:=[_,_,_]) (J:=[]) tk e) fun k d h9=>y4 (f,t,c,k) ⟨d,hf.le h9⟩ rfl (fun v e=>e)
    rintro f t c k ⟨d,hf⟩;refine u7 ?_;refine D6 (H':=(pZ g6 t::kI o b::gZ u f::R)++fj c t) (fun v e=>e.perm (((kz.cons _).cons _).cons _)) (bS fun F3 z S=>?_);obtain⟨bs,S⟩:=S;obtain⟨T,U⟩:=IL (Mn.le (d.trans z).heap M) hf z.heap S;clear S;refine z_ ?_;refine C4 fh t rfl ?_;intro q2 _;refine r8 fh (l:=b) (m:=[t]) S7 eS (by show(b.length+1)*1216<=_;omega) ?_;intro k0 k8 _;refine p9 ?_;have V:bB (wY m) ((l.map Prod.fst).take (j+1)) (b++[t]) f:=by
     rw[kj (by rw[zm];exact s),J3];exact .snoc r hf.step
    have h2:=(n.trans d).trans z;exact y4 (b++[t],(k0,k8),f,F3) ⟨h2,V,fun q hq=>by
     rcases zp.1 hq with hq|hq
     ·exact Mn.le (d.trans z).heap (y q hq)
     ·rw[zg.1 hq];exact U,T⟩ rfl (fun v e=>C1 (A:=[_,_]) (J:=[_,_]) tk e)
   rintro g Q f k ⟨d,k9,U,T⟩;refine E6 ?_;exact O_ (i:=(j,b,o,w,x)) (j+1,g,Q,f,k) ⟨s,d,k9,U,T⟩ qg sub rfl (fun v e=>e)
  ·refine u7 ?_;exact y4 (b,o,w,x) ⟨n,by have:(l.map Prod.fst).take j=l.map Prod.fst:=kr (by rw[zm];have:=zq h;omega);rw[<-this];exact r,y⟩ rfl (fun v e=>e)
 rintro b o w x ⟨q0,r,y⟩;refine z_ ?_;refine B8 (Z:=[kI o b]) tk fun k d ⟨bs,S⟩=>?_;have h3:n9 k.heap o.1 (b.flatMap fh):=A1.rd S ud;clear S;refine A3 ?_;refine G9 (A:=[]) (v:=.slice o.1 b.length o.2) (q0.trans d) ⟨m,b,w,o.1,o.2,rfl,rfl,h3,fun t ht=>Mn.le d.heap (y t ht),hm,r⟩ ?_;exact d_ rfl rfl _ qh (fun v e=>e.drop)
theorem lF{h:l9}{a:Option Addr}{q j:Nat}{cs vs:List Value}(p:L4 h (M8 a q) cs)(hv:∀k u,vs[k]? =some u->cs[j+k]? =some u):L4 h (M8 a (q+j)) vs:=by
 obtain⟨b,e,k⟩:=p
 cases a with
 |none=>cases e
 |some a0=>
  injection e with e;subst e;exact⟨a0.add (q+j),rfl,fun m u hu=>by rw[<-fY];have:=k _ _ (hv m u hu);rw[<-fY] at this;exact this⟩
abbrev BS(n:Nat):Nat:=min n 1048576
structure NV(S:Nat)(a:AX):Prop where
 a4T:a.other.a4T.length<=1000
 a5c:a.other.a5c.length<=200
 text:BS a.text.length<=S
 box:BS a.other.box.length<=S
 dest:BS a.other.tz.length<=S
 fl:∀f∈a.other.a5c,BS f.length<=S
theorem NV.up{S b:Nat}{a:AX}(h:NV S a)(hs:S<=b):NV b a:=⟨h.a4T,h.a5c,jg h.text hs,jg h.box hs,jg h.dest hs,fun f hf=>jg (h.fl f hf) hs⟩
theorem qv(n:Nat):BS n<=1048576:=Nat.min_le_right _ _
theorem IN(l:List lE)(o:Option Addr)(T:Nat):
  Ct prog 10 [.slice o l.length T] (fun h=>n9 h o (l.flatMap JG)/\∀p∈l,dv p.1.other p.2 h) [] (fun v A=>A=[]/\∃b:Bool,v=.bool b/\(b=false->l.length<=120/\∀p∈l,NV 32768 p.1)):=by
 refine b_ 85 func10 rfl rfl rfl ?_;rintro F ⟨Y,k0⟩;refine EH ?_ ?_<;>intro h
 ·refine C8 ?_;exact d_ rfl rfl [] ⟨rfl,true,rfl,(fun e=>by cases e)⟩ (fun v c=>c)
 have y:l.length<=120:=by have:=zq h;omega
 refine p9 ?_;refine J_ 1 ?_;refine n7 (ι:=Nat) (fun S=>S<=l.length*300000000/\∀p∈l,NV S p.1) (fun S=>[(3,.int .i64 (S:Nat))]) (fun _=>[]) ?_ ?_
 ·refine o0 ?_;refine o9 (ι:=Nat×Nat) (fun i=>i.1<=l.length/\i.2<=i.1*300000000/\∀p∈l.take i.1,NV i.2 p.1) (fun i=>[(0,.slice o l.length T),(3,.int .i64 (i.2:Nat)),(4,.int .i64 (i.1:Nat))]) (fun _=>[]) (fun i=>l.length-i.1) (0,0) ⟨zw _,zw _,(fun _ h=>by simp at h)⟩ sub (fun v c=>c) ?_;rintro⟨j,S⟩ ⟨hj,hS,U⟩;simp only at hj hS U;refine EH ?_ ?_<;>intro h
  ·have g:j<l.length:=(by have:=qr h;omega);have Z:=A2 Y kH qp g;obtain⟨a,ha⟩:=o7 (l[j].1);obtain⟨z,hz⟩:=o7 (l[j].2);have D:l[j]=(a,z):=(by rw[ha,hz]);have C1:∀{w:World} {H:List As},Hp F w H->L4 (hp w) (M8 o (j*21)) (JG (a,z)):=fun c=>by
    have:=fm (C:=JG) (Y.le c.keep) kH qp g (q:=j*21) rfl
    rwa [D] at this
   have h0:dv a.other z F.heap:=(by have:=k0 _ (zy g);rwa [D] at this);have h4:n9 F.heap z.fa (a.other.a5c.flatMap xu):=(by have:=h0.a5c;rwa [Ar] at this);refine J_ 0 ?_;refine n7 (ι:=Nat) (fun d=>S<=d/\d<=(j+1)*300000000/\NV d a) (fun d=>[(0,.slice o l.length T),(3,.int .i64 (d:Nat)),(4,.int .i64 (j:Nat))]) (fun _=>[]) ?_ ?_
   ·refine o0 ?_;refine z_ ?_;refine f_ (m8 rfl Z rfl qb) ?_;refine p9 ?_;refine r_ (w8 (cs:=cQ a.other z) rfl (fun v c=>lF (j:=4) (C1 c) (fun k u hu=>by rw[<-Zz];exact hu)) rfl) ?_;refine i7 rfl ?_;intro V;refine p9 ?_;refine J_ 0 ?_;refine n7 (ι:=Bool) (fun q=>q=false->a.other.a4T.length<=1000/\a.other.a5c.length<=200) (fun q=>[(0,.slice o l.length T),(3,.int .i64 (S:Nat)),(4,.int .i64 (j:Nat)),(5,m6 V),(30,.bool q)]) (fun _=>[.blk V (.cells (cQ a.other z).toArray 44)]) ?_ ?_
    ·by_cases hu:1000<a.other.a4T.length
     ·refine E6 ?_;refine f_ ((E1 rfl rfl).eq (v':=.bool true) (qn (jq (show(1000:Int)<((a.other.a4T.length:Nat):Int) by omega)))) ?_;refine cH ?_;exact g_ true (fun e=>by cases e) (fun v c=>c)
     ·refine E6 ?_;refine f_ ((E1 rfl rfl).eq (v':=.bool false) (qn (Qq (show¬(1000:Int)<((a.other.a4T.length:Nat):Int) by omega)))) ?_;refine O2 ?_;(first|refine u_ ?_|(refine v_ ?_;refine f_ ((E1 rfl rfl).eq (v':=.bool (decide (200<a.other.a5c.length))) (qn qz)) ?_));refine p9 ?_;exact g_ (decide (200<a.other.a5c.length)) (fun e=>⟨by omega,by have:=zq e;omega⟩) (fun v c=>c)
    intro q6 h5;refine O1 ?_ ?_<;>intro h
    ·refine C8 ?_;exact d_ rfl rfl [] ⟨rfl,true,rfl,(fun e=>by cases e)⟩ (fun v c=>c.drop)
    obtain⟨k8,h6⟩:=h5 h;obtain⟨t1,J⟩:=o7 (BS a.text.length);obtain⟨t2,M⟩:=o7 (BS a.other.box.length);obtain⟨t3,O⟩:=o7 (BS a.other.tz.length);obtain⟨t4,h7⟩:=o7 (BS a.other.hash.length);have k9:=qv a.text.length;have q0:=qv a.other.box.length;have q1:=qv a.other.tz.length;have q2:=qv a.other.hash.length;rw[<-J] at k9;rw[<-M] at q0;rw[<-O] at q1;rw[<-h7] at q2;have r:=pY a.text.length;have s:=pY a.other.box.length;have t:=pY a.other.tz.length;have x:=pY a.other.hash.length;rw[show min a.text.length 1048576=t1 from J.symm] at r;rw[show min a.other.box.length 1048576=t2 from M.symm] at s;rw[show min a.other.tz.length 1048576=t3 from O.symm] at t;rw[show min a.other.hash.length 1048576=t4 from h7.symm] at x;refine u7 ?_;refine D7 [11,16,21,26,31] [6,8,23,28,33] [.blk V (.cells (cQ a.other z).toArray 44)] 37 ?_;refine wd [0,1,2] ?_;refine w_ 3 rfl (m8 rfl Z rfl qb) ?_;refine wd [4,5,10,11,12,13,15,16,17,18,20,21,22,25,26,27,30,31,32] ?_;refine h_ 6 rfl i6 ?_;refine r_ (i8 (v:=B a.text) rfl (fun v c=>lF (j:=2) (vs:=[B a.text]) (C1 c) (fun k u hu=>by match k,hu with|0,hu=>exact hu|k+1,hu=>simp at hu))) ?_;refine gk [7] ?_;refine h_ 8 rfl i6 ?_;refine e_ rfl r qw rfl ?_;refine gk [9,14,19] ?_;refine h_ 23 rfl i6 ?_;refine e_ rfl s qw rfl ?_;refine gk [24] ?_;refine h_ 28 rfl i6 ?_;refine e_ rfl t qw rfl ?_;refine gk [29] ?_;refine h_ 33 rfl i6 ?_;refine e_ rfl x qw rfl ?_;refine gk [34] ?_;refine w_ 35 rfl ((p8 rfl rfl qb).eq (v':=.int .i64 ((S+t1+8*a.other.a4T.length+8*a.other.a5c.length+t2+t3+t4/16:Nat):Int)) (by congr 1)) ?_;refine wd [36] ?_;obtain⟨S1,q3⟩:=o7 (S+t1+8*a.other.a4T.length+8*a.other.a5c.length+t2+t3+t4/16);have q5:S1<=j*300000000+10000000:=(by omega);rw[<-q3];refine J_ 1 ?_;refine n7 (ι:=Nat) (fun d=>S1<=d/\d<=S1+a.other.a5c.length*1048576/\∀f∈a.other.a5c,BS f.length<=d) (fun d=>[(0,.slice o l.length T),(3,.int .i64 (d:Nat)),(4,.int .i64 (j:Nat))]) (fun _=>[.blk V (.cells (cQ a.other z).toArray 44)]) ?_ ?_
    ·refine o0 ?_;refine o9 (ι:=Nat×Nat) (fun i=>i.1<=a.other.a5c.length/\S1<=i.2/\i.2<=S1+i.1*1048576/\∀f∈a.other.a5c.take i.1,BS f.length<=i.2) (fun i=>[(0,.slice o l.length T),(3,.int .i64 (i.2:Nat)),(4,.int .i64 (j:Nat)),(5,m6 V),(6,.int .i64 (i.1:Nat))]) (fun _=>[.blk V (.cells (cQ a.other z).toArray 44)]) (fun i=>a.other.a5c.length-i.1) (0,S1) ⟨zw _,z1 _,Nat.le_add_right _ _,(fun _ h=>by simp at h)⟩ sub (fun v c=>c) ?_;rintro⟨k,d⟩ ⟨hk,g1,g2,X⟩;simp only at hk g1 g2 X;refine aF ?_;refine o8 rfl ?_ ?_<;>intro h
     ·have n:k<a.other.a5c.length:=(by have:=qr h;omega);have h8:=A2 h4 cV qp n;have q4:=qv a.other.a5c[k].length;obtain⟨Q,m⟩:=o7 (BS a.other.a5c[k].length);have h9:=pY a.other.a5c[k].length;rw[show min a.other.a5c[k].length 1048576=Q from m.symm] at h9;rw[<-m] at q4;refine O2 ?_;refine f_ (m8 rfl h8 rfl qb) ?_;refine r_ (i8 rfl (fun v c=>dH (C:=xu) (h4.le c.keep) cV n (j:=0) rfl x8)) ?_;refine p9 ?_;refine e_ rfl h9 qw rfl ?_;refine f_ ((p8 rfl rfl qb).eq (v':=.int .i64 ((d+Q:Nat):Int)) (by congr 1)) ?_;refine O2 ?_;exact l8 (i:=(k,d)) (k+1,d+Q) ⟨n,by simp only;omega,by simp only;omega,fun f hf=>by
       rw[kj n] at hf;rcases zp.1 hf with hf|hf
       ·have:=X f hf;simp only;omega
       ·rw[zg.1 hf,<-m];simp only;omega⟩ qg sub (fun v c=>c)
     ·refine u7 ?_;have e:a.other.a5c.take k=a.other.a5c:=kr (qu h);exact g_ d ⟨g1,jg g2 (Nat.add_le_add_left (Qw _ hk) _),by rw[e] at X;exact X⟩ (fun v c=>c)
    intro d ⟨g1,g2,X⟩;have g4:a.other.a5c.length*1048576<=200*1048576:=Qw _ h6;exact g_ d ⟨by omega,by omega,⟨k8,h6,by rw[<-J];omega,by rw[<-M];omega,by rw[<-O];omega,X⟩⟩ (fun v c=>c.drop)
   intro d ⟨h1,h2,h3⟩;refine E6 ?_;exact l8 (i:=(j,S)) (j+1,d) ⟨g,h2,fun p hp=>by
    rw[kj g] at hp;rcases zp.1 hp with hp|hp
    ·exact(U p hp).up h1
    ·rw[zg.1 hp,D];exact h3⟩ qg sub (fun v c=>c)
  ·refine u7 ?_;have e:l.take j=l:=kr (qu h);exact g_ S ⟨jg hS (Qw _ hj),by rw[e] at U;exact U⟩ (fun v c=>c)
 intro S ⟨hS,U⟩;refine p9 ?_;refine f_ ((E1 rfl rfl).eq (v':=.bool (decide (32768<S))) (qn qz)) ?_;refine C8 ?_;exact d_ rfl rfl [] ⟨rfl,decide (32768<S),rfl,fun e=>⟨y,fun p hp=>(U p hp).up (qu e)⟩⟩ (fun v c=>c)
def IP(l:List lE)(la:Option Addr)(h:l9):Prop:=Gl h/\n9 h la (l.flatMap JG)/\∀p∈l,dv p.1.other p.2 h
def zJ(l:List lE):Prop:=∀p∈l,p.1.other.num<18446744073709551616/\p.1.other.life<18446744073709551616/\p.1.other.tr<18446744073709551616
theorem zK{n:Nat}(h:BS n<=32768):n<=32768:=by
 unfold BS at h;omega
theorem Ng{l:List lE}(c:zJ l)(d:∀p∈l,NV 32768 p.1):∀p∈l,mM p.1:=fun p hp=>by
 have h:=d p hp;have b:=c p hp;have a:32768<=lh:=by decide
 have e:=h.a4T;have g:=h.a5c;exact⟨by have:=zK h.text;omega,⟨b.1,jg (zK h.box) a,by omega,by omega,fun f hf=>jg (zK (h.fl f hf)) a⟩,fun _=>b.2⟩
end Go.Proofs.YtmcepdopookilaaGreatDoor.Rp
namespace Go.Sl
open Go Go.RowKit Go.WideShapes Go.ChangeShapes Go.ChangeMaps Go.Proofs.Tryz
theorem Hp.below{W w':World}{A:List As}(h:Hp (Y7 W) w' A):Below W.heap.size W w':=by
 have b:∀k,k<W.heap.size->w'.heap[k]? =W.heap[k]?:=fun k b=>by
  have e:W.heap[k]? =some W.heap[k]:=Qs b;rw[e];exact h.keep k _ (by show E4 W [] k=_;rw[N1];exact e)
 refine⟨h.os,h.tape,h.output,?_,b⟩;rcases Qp w'.heap.size W.heap.size with a|c
 ·have d:=b w'.heap.size a;rw[Qs a] at d;simp at d
 ·exact c
section
variable{H:Type}{enc:TypeId×Value->H}{P:Program}
theorem IQ{f:Func}{s:ChangeSpec}{c l d m:Bool}{W o:World}{args:Array Value}{v:Value}{ds q:List (DataW H)}{a pa pv:List MemPlace}(y:DataW.Whole enc P f.params.toList s.vars c W args.toList ds q a)(i:∀(b:Nat) (n:Nat->Bool) (hd:Bool),DataW.TrodAll enc P o b n hd f.resultTypes.toList (v.resultList f.resultTypes.size) (s.fn H (ds++q)).results [])(e:∀n:Nat->Bool,(∀p∈a,n p.block=true)->DataW.TrodAll enc P o 0 n true f.params.toList args.toList (s.fn H (ds++q)).args pa)(g:∀n:Nat->Bool,(∀p∈a,n p.block=true)->DataW.TrodVars enc P o n s.vars (s.fn H (ds++q)).vars pv)(h:a=pa++pv)(A:Below W.heap.size W o)(z:∀(j:Nat) (t:TypeId) (r:Value),f.resultTypes[j]? =some t->(v.resultList f.resultTypes.size)[j]? =some r->Value.okWide P o .any 0 t r):
  s.post enc P f c l d m W args v o:=by
 have u:∀p∈a,p.block<W.heap.size:=fun p hp=>y.lt p hp;have k:∀p∈a,(fun b=>decide (b<W.heap.size)) p.block=true:=fun p hp=>by simpa using u p hp
 refine⟨ds,q,a,[],pa,pv,y,i _ _ _,e _ k,g _ k,World.keptBut_mono (fun p hp=>⟨hp,?_⟩) (A.frame (· ∈a)),fun _=>?_⟩
 ·rw[h,zp] at hp;exact Or.inr hp
 ·obtain⟨_,_,_,_,_,hz,C⟩:=y;refine⟨z,_,_,([]++pa)++pv,⟨[]++pa,pv,trodAll_append (e _ (fun _ _=>rfl)) (i _ _ _),g _ (fun _ _=>rfl),rfl,?_,?_⟩,?_⟩
  ·intro b w hp;have x:MemPlace.cell b w∈a:=(by rw[h];simpa using hp);rw[A.frozen (u _ x)];exact hz b w x
  ·intro ha;have:=C ha;rw[h] at this;simpa using this
  ·intro p hp _;rw[h];simpa using hp
theorem ie(hl:laidOutB P=true){W e:World}(f:Below W.heap.size W e)(c:Nat->Bool):∀{b:List TypeId} {vs:List Value} {ds:List (DataW H)} {ps:List MemPlace},
  (b.all fun t=>P.readableRec t&&decide (t<P.types.size))=true->DataW.TrodAll enc P W 0 (fun _=>true) true b vs ds ps->(∀p∈ps,p.block<W.heap.size)->(∀p∈ps,c p.block=true)->
   DataW.TrodAll enc P e 0 c true b vs ds ps
 |[],vs,ds,ps,_,h,_,_=>by
  obtain⟨rfl,rfl,rfl⟩:=trodAll_nil h;rfl
 |t::b,vs,ds,ps,hr,h,hlt,hs=>by
  obtain⟨v,g,d,i,p,q,rfl,rfl,rfl,j,k⟩:=trodAll_cons h;simp only[List.all_cons,kw,jx] at hr;refine⟨p,q,WideElems.Trod_stays hl hr.1.1 hr.1.2 j (fun x a=>f.same (hlt x (zp.2 (.inl a)))) (fun x a=>hs x (zp.2 (.inl a))),?_,rfl⟩;exact ie hl f c (by simpa using hr.2) k (fun x a=>hlt x (zp.2 (.inr a))) (fun x a=>hs x (zp.2 (.inr a)))
theorem IR{f:FuncId}{fn:Func}{s:ChangeSpec}{g a h:Bool}{W:World}{vs:List Value}{ds u:List (DataW H)}{c:List MemPlace}{i:l9->Prop}{t:TypeId}(hc:Pu P f vs i (.bool true))(j:i (hp W))(k:s.vars=[])(w:DataW.Whole enc P fn.params.toList s.vars false W vs ds u c)(d:fn.resultTypes=#[t])(y:P.underlying t=some .bool)(hl:laidOutB P=true)(M:(fn.params.toList.all fun t=>P.readableRec t&&decide (t<P.types.size))=true)(hs:s.fn H (ds++u)={results:=[.lit (.bool true)],args:=ds}):
  Calls P f vs.toArray W fun e z=>∃v,e=.returned v/\s.post enc P fn false g a h W vs.toArray v z:=by
 refine(hc W [] rfl Zj (by rw[N1];exact j)).mono ?_;rintro e z ⟨v,A,rfl,⟨rfl,rfl⟩,O⟩;refine⟨_,rfl,?_⟩;have l:=w;have o:=fun p hp=>l.lt p hp;obtain⟨p,q,Q,C,m,S,T⟩:=w;rw[k] at C;obtain⟨rfl,rfl⟩:=trodVars_none C;have D:=Hp.below O;refine IQ (pa:=p) (pv:=[]) (args:=vs.toArray) (by simpa using l) (fun b r U=>?_) (fun r n=>?_) (fun r n=>?_) m D ?_
 ·rw[hs,d];exact trodAll_cons_mk (shut_bool y true) trodAll_mk0
 ·rw[hs];refine ie hl D r M Q (fun x J=>o x ?_) (fun x J=>n x ?_)<;>(rw[m];simpa using J)
 ·rw[hs,k];rfl
 ·exact ok_one d rfl (okWide_bool_mk y true)
end
open Go Go.RowKit Go.WideShapes Go.ChangeShapes Go.ChangeMaps Go.Proofs.Tryz
mutual
def X5{H:Type}:DataW H->Nat
 |.lit (.string bytes)=>bytes.length+1
 |.lit _=>1
 |.nil=>1
 |.ptr d=>X5 d+1
 |.slice elems spare=>gK elems+gK spare+1
 |.agg parts=>gK parts+1
 |.iface _ d=>X5 d+1
 |.map entries=>mr entries+1
 |.held _=>1
def gK{H:Type}:List (DataW H)->Nat
 |[]=>0
 |d::r=>X5 d+gK r
def mr{H:Type}:List (Lit×DataW H)->Nat
 |[]=>0
 |x::r=>Ez x+mr r
def Ez{H:Type}:Lit×DataW H->Nat
 |(.string bytes,d)=>bytes.length+X5 d+1
 |(_,d)=>X5 d+1
end
theorem mtzq{H:Type}(l:List (DataW H)):gK l=(l.map X5).sum:=by
 induction l with
 |nil=>rfl
 |cons d r ih=>simp only[gK,Qv,List.sum_cons,ih]
structure xd(P:Program)(t:TypeId){α:Type}(cells:α->List Value)(ok:l9->α->Prop)(bulk:α->Nat):Prop where
 h:∀{H:Type} (enc:TypeId×Value->H) (w:World) (base:Nat) (sp:Nat->Bool) (held:Bool) (fuel:Nat) (cs:List Value) (x:DataW H×List MemPlace),DataW.trod enc P w base sp held fuel t cs=some x->∃y,cs=cells y/\ok (hp w) y/\bulk y<=X5 x.1
section
variable{P:Program}{t e:TypeId}{k:IntKind}
theorem gL(d:P.underlying t=some (.int k)):xd P t (fun n:Int=>[.int k n]) (fun _ n=>(Lit.int k n).wf=true) (fun _=>1):=⟨fun e w a g b c i x h=>by
 obtain⟨n,rfl,rfl,f⟩:=DataW.trod_int d h;exact⟨n,rfl,f,z1 _⟩⟩
theorem xe(e:P.underlying t=some .bool):xd P t (fun b:Bool=>[.bool b]) (fun _ _=>True) (fun _=>1):=⟨fun f w a g c d i x h=>by
 obtain⟨n,rfl,rfl⟩:=DataW.trod_bool e h;exact⟨n,rfl,trivial,z1 _⟩⟩
theorem cv(d:P.underlying t=some .string):xd P t (fun l:List UInt8=>[B l]) (fun _ l=>l.length<=maxLen) (fun l=>l.length+1):=⟨fun e w a f b c g x h=>by
 obtain⟨s,rfl,rfl,hs⟩:=DataW.trod_string d h;exact⟨s.data.toList,rfl,by rw[Zc];exact hs,by simp[X5]⟩⟩
structure IU{α:Type}(cells:α->List Value)(ok:l9->α->Prop)(h:l9)(a:Option Addr)(ls:List α)(c:Nat):Prop where
 le:ls.length<=c
 max:c<=maxLen
 rd:n9 h a (ls.flatMap cells)
 each:∀y∈ls,ok h y
theorem xf{α:Type}{cells:α->List Value}{n:Nat}(b:∀y,(cells y).length=n)(a:0<n):∀(ls:List α) (j:Nat) (u:Value),(ls.flatMap cells)[j]? =some u->∃y,ls[j/n]? =some y/\(cells y)[j%n]? =some u
 |[],j,u,h=>by simp at h
 |x::r,j,u,h=>by
  rw[Q1] at h;by_cases hj:j<n
  ·rw[jv (by rw[b];exact hj)] at h;refine⟨x,?_,?_⟩
   ·rw[Nat.div_eq_of_lt hj];rfl
   ·rw[Nat.mod_eq_of_lt hj];exact h
  ·rw[jz (by rw[b];omega),b] at h;obtain⟨y,c,d⟩:=xf b a r (j-n) u h;refine⟨y,?_,?_⟩
   ·have:j/n=(j-n)/n+1:=by
     conv=>lhs;rw[show j=(j-n)+n by omega]
     rw[Nat.add_div_right _ a]
    rw[this];simpa using c
   ·rw[Nat.mod_eq_sub_mod qb];exact d
theorem qA{α:Type}{cells:α->List Value}{ok:l9->α->Prop}{d:α->Nat}(Y:P.underlying t=some (.slice e))(S:xd P e cells ok d){n:Nat}(hc:P.cellsOf e=n)(Z:∀y,(cells y).length=n)(f:0<n){H:Type}{enc:TypeId×Value->H}{w:World}{base:Nat}{U:Nat->Bool}{g:Bool}{o:Nat}{cs:List Value}{x:DataW H×List MemPlace}(h:DataW.trod enc P w base U g o t cs=some x):
  ∃(a:Option Addr) (ls:List α) (c:Nat),cs=[.slice a ls.length c]/\IU cells ok (hp w) a ls c/\((x.1=.nil/\ls=[])\/∃b l,x.1=.slice b l/\b.length=ls.length)/\(ls.map d).sum+1<=X5 x.1:=by
 rcases DataW.trod_slice Y h with⟨rfl,rfl⟩|⟨a,p,D,b,rest,m,_,rfl,rfl,hb,hl,hm,q,J,_,_⟩
 ·exact⟨none,[],0,rfl,⟨z1 _,zw _,n9.nil _ _,by simp⟩,.inl qh,by simp[X5]⟩
 ·have M:∀(k:Nat),k<=p->∃ls:List α,ls.length=k/\(∀i y,ls[i]? =some y->w.cells? base (a.add (i*n)) n=some (cells y)/\ok (hp w) y)/\(ls.map d).sum<=((b.take k).map (fun x=>X5 x.1)).sum:=by
   intro k
   induction k with
   |zero=>intro _;exact⟨[],rfl,by simp,by simp⟩
   |succ k ih=>
    intro hk;obtain⟨ls,v,A,V⟩:=ih qb;have C:=J k qb;have r:k<b.length:=(by omega);rw[zj r,hc,zd] at C;obtain⟨cs,O,Q⟩:=C;obtain⟨y,rfl,s,h8⟩:=S.h enc w base U g m cs _ Q;refine⟨ls++[y],by simp[v],fun i z hz=>?_,?_⟩
    ·by_cases X:i<k
     ·rw[jv qb] at hz;exact A i z hz
     ·rw[jz qb] at hz;have T:i=k:=by
       have:=(Qz.1 hz).1;simp at this;omega
      subst T;simp[v] at hz;subst hz;exact⟨O,s⟩
    ·rw[kj r];simp only[jh,Qv,K9,List.sum_append,List.sum_cons,List.sum_nil];omega
  obtain⟨ls,v,A,V⟩:=M p (z1 _);subst v;refine⟨some a,ls,D,rfl,⟨hl,hm,fun _=>⟨a,rfl,fun j u hu=>?_⟩,fun y hy=>?_⟩,.inr ⟨_,_,rfl,by simp[q]⟩,?_⟩
  ·obtain⟨y,C,O⟩:=xf Z f ls j u hu;obtain⟨Q,_⟩:=A _ _ C;have s:=(World.cells?_some Q).2.2 (j%n) (Nat.mod_lt _ f);rw[uF];rw[O,fY] at s;have:j/n*n+j%n=j:=(by rw[W4];exact Nat.div_add_mod j n);rw[this] at s;exact s
  ·obtain⟨i,X⟩:=List.getElem?_of_mem hy;exact(A i y X).2
  ·simp only[X5,mtzq,Jp];rw[kr qb] at V;simp only[Z4];omega
theorem sH{α:Type}{cells:α->List Value}{ok:l9->α->Prop}{b:α->Nat}(j:P.underlying t=some (.slice e))(S:xd P e cells ok b){n:Nat}(hc:P.cellsOf e=n)(k:∀y,(cells y).length=n)(d:0<n):
  xd P t (fun y:Option Addr×List α×Nat=>[.slice y.1 y.2.1.length y.2.2]) (fun h y=>IU cells ok h y.1 y.2.1 y.2.2) (fun y=>(y.2.1.map b).sum+1):=⟨fun l w f r g i s x h=>by
 obtain⟨a,m,c,o,p,_,q⟩:=qA j S hc k d h;exact⟨(a,m,c),o,p,q⟩⟩
structure Nh(P:Program)(fs:List Field)(off tot:Nat){α:Type}(cells:α->List Value)(ok:l9->α->Prop)(bulk:α->Nat):Prop where
 h:∀{H:Type} (enc:TypeId×Value->H) (w:World) (base:Nat) (sp:Nat->Bool) (held:Bool) (n:Nat) (cs:List Value) (xs:List (DataW H×List MemPlace)),xs.length=fs.length->cs.length=tot->
  (∀(i:Nat) (f:Field),fs[i]? =some f->DataW.trod enc P w base sp held n f.type ((cs.drop f.offset).take (P.cellsOf f.type))=xs[i]?)->∃y,cs.drop off=cells y/\ok (hp w) y/\bulk y<=(xs.map fun x=>X5 x.1).sum
theorem kJ{a:Nat}:Nh P [] a a (fun _:Unit=>[]) (fun _ _=>True) (fun _=>0):=⟨fun d w b e c n f g _ h _=>
 ⟨(),by rw[Qc qb],trivial,zw _⟩⟩
theorem C3{f:Field}{fs:List Field}{d off' e k:Nat}{α β:Type}{r:α->List Value}{j:l9->α->Prop}{s:α->Nat}{c2:β->List Value}{l:l9->β->Prop}{t:β->Nat}(S:xd P f.type r j s)(C:f.offset=d)(D:P.cellsOf f.type=k)(o:off'=d+k)(R:Nh P fs off' e c2 l t):
  Nh P (f::fs) d e (fun y:α×β=>r y.1++c2 y.2) (fun h y=>j h y.1/\l h y.2) (fun y=>s y.1+t y.2):=⟨fun m w a u b n J p v q c=>by
 cases p with
 |nil=>simp at v
 |cons x p=>
  have A:=c 0 f rfl;rw[C,D] at A;obtain⟨y,M,O,U⟩:=S.h m w a u b n _ _ A;obtain⟨z,Q,T,V⟩:=R.h m w a u b n J p (by simpa using v) q (fun i g hg=>by have:=c (i+1) g (by simpa using hg);simpa using this);refine⟨(y,z),?_,⟨O,T⟩,?_⟩
  ·simp only;rw[<-M,<-Q,o,<-Km,js]
  ·simp only[Qv,List.sum_cons];omega⟩
theorem eT{fs:Array Field}{b:Nat}{α:Type}{cells:α->List Value}{ok:l9->α->Prop}{a:α->Nat}(j:P.underlying t=some (.struct fs))(hc:P.cellsOf t=b)(R:Nh P fs.toList 0 b cells ok a):xd P t cells ok a:=⟨fun e w c k d g l x h=>by
 obtain⟨m,n,_,rfl,o,p,q⟩:=DataW.trod_struct j h;obtain⟨y,r,s,u⟩:=R.h e w c k d n l m (by simpa using p) (by rw[o,hc]) (fun i f hf=>q i f (by simpa using hf));refine⟨y,by simpa using r,s,?_⟩;simp only[X5,mtzq,Jp,Z4];omega⟩
theorem xd.map{α β:Type}{i:α->List Value}{a:l9->α->Prop}{j:α->Nat}{c2:β->List Value}{b:l9->β->Prop}{k:β->Nat}(S:xd P t i a j)(f:α->β)(hc:∀y,i y=c2 (f y))(l:∀h y,a h y->b h (f y))(m:∀y,k (f y)<=j y):xd P t c2 b k:=⟨fun g w c n d e o x h=>by
 obtain⟨y,p,q,r⟩:=S.h g w c n d e o x h;exact⟨f y,by rw[p,hc],l _ _ q,jg (m y) r⟩⟩
variable{H:Type}{enc:TypeId×Value->H}{w:World}{r:Reach}{b0 base:Nat}{sp:Nat->Bool}{held:Bool}{v:Value}{d:DataW H}{ps:List MemPlace}
theorem EA{α:Type}{cells:α->List Value}{ok:l9->α->Prop}{f:α->Nat}(j:P.underlying t=some (.slice e))(S:xd P e cells ok f){n:Nat}(hc:P.cellsOf e=n)(m:∀y,(cells y).length=n)(h:0<n)(i:Value.okWide P w r b0 t v)(o:DataW.Trod enc P w base sp held t v d ps):
  ∃(a:Option Addr) (ls:List α) (c:Nat),v=.slice a ls.length c/\IU cells ok (hp w) a ls c/\((d=.nil/\ls=[])\/∃b g,d=.slice b g/\b.length=ls.length)/\(ls.map f).sum+1<=X5 d:=by
 obtain⟨u,x,z,rfl⟩:=okWide_slice j i;obtain⟨k,hf⟩:=o;obtain⟨a,ls,c,l,p,q,s⟩:=qA j S hc m h hf;simp[Value.cells] at l;obtain⟨rfl,rfl,rfl⟩:=l;exact⟨_,_,_,rfl,p,q,s⟩
end
theorem PO{n:Int}(h:(Lit.int .u64 n).wf=true):0<=n/\n<=18446744073709551615:=by
 simp only[Lit.wf,kw,jx] at h;have a:IntKind.u64.min=0:=by decide
 have b:IntKind.u64.max=18446744073709551615:=by decide
 omega
section
variable{P:Program}{t e:TypeId}{k:IntKind}
variable{H:Type}{enc:TypeId×Value->H}{w:World}{r:Reach}{b0 base:Nat}{sp:Nat->Bool}{held:Bool}{v:Value}{d:DataW H}{ps:List MemPlace}
end
section
variable{P:Program}{t e:TypeId}{k:IntKind}{n:Nat}
variable{H:Type}{enc:TypeId×Value->H}{w:World}{r:Reach}{b0 base:Nat}{sp:Nat->Bool}{held:Bool}{v:Value}{d:DataW H}{ps:List MemPlace}
end
