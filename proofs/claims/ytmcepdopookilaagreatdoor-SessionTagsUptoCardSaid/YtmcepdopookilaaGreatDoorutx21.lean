import Derived.Test.YtmcepdopookilaaGreatDoorutx20
import Derived.Carry
import Derived.ChangeSame
import Derived.OpenShut
import Derived.SizedLaws
import Derived.JoinedCond
import Derived.JoinedOf
import Derived.Deep.CondSized
import Derived.ChangeMaps5
import Derived.SliceStrings
set_option maxHeartbeats 16000000
set_option maxRecDepth 8000
set_option linter.unusedVariables false
set_option linter.unusedSimpArgs false
set_option linter.defProp false
namespace Go.Proofs.YtmcepdopookilaaGreatDoor.Rp
open Go Go.Sl Go.RowKit Go.Proofs.Tryz
structure AX where
 kind:Int
 hk:Int
 text:Bs
 short:Bool
 other:RQ
abbrev EY(a:AX)(z:QL):List Value:=[.int .i64 a.kind,.int .i64 a.hk,B a.text,.bool a.short]++eA a.other z
abbrev acA(a:AX)(z:QL):Value:=.agg (EY a z).toArray
abbrev lH:Bs:=[120,58,32,121,13,10,13,10,122]
structure BV(w:WM)(a:AX):Prop where
 se:zF w.s
 a5I:w.s.a5J.a5I.length<=50000
 us:w.s.a5L.length<=100000
 ml:V_ w.m.s
 q:wU w.q
 oq:wU a.other
 text:a.text.length<=1000000000
 ml2:V_ (D6 w.m.s w.q).1
 uo:(D6 w.m.s w.q).2.a5L.length<=100000/\fP (D6 w.m.s w.q).2.a5L
 mo:(D6 w.m.s w.q).2.mods.length<=100000/\fP (D6 w.m.s w.q).2.mods
 val:(D6 w.m.s w.q).2.val<18446744073709551616
 tr:w.tr<=1000
 bll:w.bl.length<=900
 body:∀p∈w.bl,p.2.length<=1000000
 hbody:∀s' d',cB w.s a.hk a.text s' d'->d'.body.length<=1000000
def a1N(w:WM)(a:AX)(s':SE)(d':DD):Prop:=∃s1 d1,ey w.s (D6 w.m.s w.q).1 (D6 w.m.s w.q).2 (if a.short=true then[] else w.bl) s1 d1/\(if d1.want=[] then s'=s1/\d'=d1 else ey w.s (D6 w.m.s w.q).1 (D6 w.m.s w.q).2 w.bl s' d')
def cD(w:WM)(a:AX)(s':SE)(d':DD)(m':ML)(bl':BL)(hears comes fails c:Bool):Prop:=
 if a.kind=0 then cB w.s a.hk a.text s' d'/\m'=w.m.s/\bl'=w.bl/\hears=true/\comes=false/\fails=false/\c=true
 else if a.kind=1 then w.s.a5P=true/\a1N w a s' d'/\m'=(D6 w.m.s w.q).1/\bl'=w.bl/\hears=false/\comes=true/\fails=false/\c=true
 else if a.kind=2 then(s',d')=T6 w.s/\m'=w.m.s/\bl'=w.bl/\hears=false/\comes=w.s.a5P/\fails=true/\c=true
 else s'=w.s/\d'=F8/\m'=(D6 w.m.s a.other).1/\bl'=w.bl++[(a.other.hash,lH)]/\hears=false/\comes=false/\fails=false/\c=false
structure IJ(w:WM)(a:AX)(w1:WM)(t:TN)(c:Bool)(h:l_):Prop where
 dn:cD w a t.b t.d w1.m.s w1.bl t.hears t.comes t.fails c
 ta:t.a=w.s/\t.ax=w.x/\t.hk=a.hk/\t.ht=a.text/\t.c=w.s.cmd/\t.k=w.x.cl
 tw:w1.q=w.q/\w1.ql=w.ql/\w1.tr=w.tr
 a5T:t.d.a5T=t.y.rl.map Prod.fst
 rp:∀m∈t.y.rl,kH m h
 se:U2 t.b t.bx h
 rq:dC t.d.req t.y.ql h
 wn:o0 h t.y.wa (fV t.d.want)
 m:iB w1.m h
 blr:o0 h w1.ba (uA w1.bl)
 cf:c=false->t.b=w.s/\t.bx=w.x/\t.y=M_
def fm(c:Bool)(t:TN):List As:=if c=true then l5 t.bx.ra t.b.a5J.a5I t.bx.rc::r8 t.y.da t.y.rl t.y.dc::Y_ t.y.rl else[]
abbrev EZ(w:WM)(a:AX):TN:=⟨w.s,w.x,w.s,w.x,a.hk,a.text,false,false,false,F8,M_,w.s.cmd,w.x.cl⟩
def xf(w:WM)(a:AX)(w':WM)(t:TN)(c:Bool)(h:l_):Prop:=(a.kind=1/\w.s.a5P=false/\w'=w/\t=EZ w a/\c=false)\/∃w1,IJ w a w1 t c h/\sO w1 t w'/\o0 h w'.ba (uA w'.bl)
def a1O(w:WM)(a:AX)(h:l_)(v:Value)(A:List As):Prop:=∃w' t c,v=.tuple #[EW w',Ue t]/\A=fm c t/\xf w a w' t c h
structure lI(w:WM)(h:l_):Prop where
 g:Gl h
 a5I:o0 h w.x.ra (V5 w.s.a5J.a5I)
 se:U2 w.s w.x h
 m:iB w.m h
 q:dC w.q w.ql h
 blr:o0 h w.ba (uA w.bl)
instance {w:WM}:Mn (lI w):=⟨fun l k=>⟨k.g.le l,k.a5I.le l,Mn.le l k.se,Mn.le l k.m,Mn.le l k.q,k.blr.le l⟩⟩
theorem IJ.le{w:WM}{a:AX}{b:WM}{t:TN}{c:Bool}{h d:l_}(k:IJ w a b t c h)(l:l_.le h d):IJ w a b t c d:=⟨k.dn,k.ta,k.tw,k.a5T,fun m e=>(k.rp m e).le l,Mn.le l k.se,Mn.le l k.rq,k.wn.le l,Mn.le l k.m,k.blr.le l,k.cf⟩
theorem gI{s:SE}{st:ML}{o:OC}{bl:BL}{c:SE}{b:DD}(h:ey s st o bl c b):b.body=[]:=by
 unfold ey at h;split at h
 ·rw[h.2]
 ·rcases h with⟨d,_,_,_,e⟩|⟨f,_,_,_,_,_,_,a⟩
  ·rw[e]
  ·exact(cC a).2.2.2.2
theorem qv(s:SE):(T6 s).2.body=[]:=by
 unfold T6;split
 ·rfl
 ·split<;>rfl
theorem Ez{w:WM}{a:AX}{i:SE}{e:DD}{j:ML}{b:BL}{x y z c:Bool}(g:BV w a)(h:cD w a i e j b x y z c):e.body.length<=1000000/\b.length<=1000:=by
 have k:=g.bll;unfold cD at h;split at h
 ·obtain⟨d,_,rfl,_⟩:=h;exact⟨g.hbody _ _ d,by omega⟩
 split at h
 ·obtain⟨_,⟨s1,l,d,f⟩,_,rfl,_⟩:=h;refine⟨?_,by omega⟩;split at f
  ·rw[f.2,gI d];simp
  ·rw[gI f];simp
 split at h
 ·obtain⟨d,_,rfl,_⟩:=h;refine⟨?_,by omega⟩;rw[show e=(T6 w.s).2 from by rw[<-d],qv];simp
 ·obtain⟨_,rfl,_,rfl,_⟩:=h;exact⟨by simp,by rw[zz];simp only[zy,zn];omega⟩
abbrev JW:List Value:=Oy ⟨oD,qV,Im,cW,db,0,[],none,0⟩
abbrev Qt:List Value:=dH ⟨oD,qV,oD,qV,0,[],false,false,false,F8,M_,ir,G_⟩
theorem IK(w:WM)(a:AX)(z:QL)(C:BV w a):
  Cm prog 17 [EW w,acA a z] (fun h=>lI w h/\dC a.other z h) [] (a1O w a):=by
 obtain⟨k0,x3⟩:=o7 (decide (a.kind=0));obtain⟨k1,y0⟩:=o7 (decide (a.kind=1));obtain⟨k2,y1⟩:=o7 (decide (a.kind=2));refine y4 125 func17 rfl rfl rfl ?_;rintro F R ⟨j,v9⟩;refine C6 ?_;refine m9 rfl rfl ?_;intro Y;refine m9 rfl rfl ?_;intro g3;refine i7 rfl ?_;intro g4;refine i7 rfl ?_;intro g5;refine wk 8 ?_;refine r_ (gh rfl ud ga) ?_;refine f_ (y8 (ps:=[(0,.tmp 11),(1,.tmp 13),(2,.tmp 15),(7,.tmp 18)]) (vs:=[(0,rH w.s w.x),(1,rH w.s w.x),(2,.agg #[.int .i64 a.hk,B a.text]),(7,xE w.s.cmd w.x.cl)]) (cells:=(dH (EZ w a)).toArray) rfl i6) ?_;refine i7 rfl ?_;intro g6;refine p_ ?_;refine D5 (H':=ie Y w::iM g6 (EZ w a)::.blk g3 (.cells (EY a z).toArray 70)::.blk g5 (.cells Qt.toArray 48)::.blk g4 (.cells JW.toArray 65)::R) (fun v g=>C5 (A:=[_,_,_,_,_]) (J:=[]) tk g) ?_;refine H9 2 ?_;refine S6 (fun(f:WM) (t:TN) (c:Bool) (F2:l6)=>F.le F2/\IJ w a f t c F2.heap) (fun _ _ _ _=>[(2,l9 Y),(4,l9 g4),(5,l9 g5),(6,l9 g6)]) (fun _ _ _ F2=>F2) (fun f t c _=>ie Y f::iM g6 t::.blk g5 (.cells Qt.toArray 48)::.blk g4 (.cells JW.toArray 65)::(fm c t++R)) ?_ ?_
 ·refine n8 ?_;refine C6 ?_;refine f_ ((p8 rfl rfl).eq (v':=.bool k0) (qn x3.symm)) ?_;refine p_ ?_
  cases k0
  case true=>
   have e0:a.kind=0:=qr x3.symm;refine cG ?_;refine A8 (Ng w.s w.x a.hk a.text C.se C.text) ⟨j.g,j.a5I,j.se⟩ ?_;intro v A D n hq;obtain⟨s',d',V,r,hr,rfl,rfl,k,h0,h3,h4,h5⟩:=Et.res hq;refine I7 (H':=_::_::_::_::_::_::_::(Y_ r.rl++R)) (fun v g=>g.perm (((Qb (Y_ r.rl) [_,_,_,_,_] R).cons _).cons _)) ?_;refine wk 7 ?_;obtain⟨t1,x⟩:∃t1:TN,t1={EZ w a with b:=s',bx:=V,hears:=true,d:=d',y:=r}:=⟨_,rfl⟩;have i:lI w D.heap:=Mn.le n.heap j;refine y5 (w,t1,true,D) ⟨n,?_⟩ rfl (fun v g=>?_)
   ·rw[x];exact⟨by unfold cD;rw[zu e0];exact⟨hr,rfl,rfl,rfl,rfl,rfl,rfl⟩,⟨rfl,rfl,rfl,rfl,rfl,rfl⟩,qm,k,h0,h3,h4,h5,i.m,i.blr,fun e=>by cases e⟩
   ·rw[x];show Hp D v (_::_::_::_::l5 V.ra s'.a5J.a5I V.rc::r8 r.da r.rl r.dc::(Y_ r.rl++R));exact C5 (A:=[_,_,_,_,_,_]) (J:=[_]) tk g
  have e0:¬a.kind=0:=zq x3.symm;refine C6 ?_;refine f_ ((p8 rfl rfl).eq (v':=.bool k1) (qn y0.symm)) ?_;refine p_ ?_
  cases k1
  case true=>
   have e1:a.kind=1:=qr y0.symm;refine CO ?_ ?_<;>intro h
   ·have k8:w.s.a5P=false:=(by simpa using h);refine u7 ?_;refine D8 [0,1] [2,3] [ie Y w,iM g6 (EZ w a)] 4 ?_;refine wd [0,1,2,3] ?_;refine A2 ?_;refine H3 (A:=[]) (v:=.tuple #[EW w,Ue (EZ w a)]) (l6.le_refl _) ⟨w,EZ w a,false,rfl,rfl,.inl ⟨e1,k8,rfl,rfl,rfl⟩⟩ ?_;exact X2 rfl rfl rfl ud rfl ud rfl _ qh (fun v g=>C5 (A:=[]) (J:=[_,_,_,_,_]) tk g)
   have k8:w.s.a5P=true:=(by simpa using h);refine u7 ?_;obtain⟨t0,y3⟩:∃t0:TN,t0={EZ w a with comes:=true}:=⟨_,rfl⟩;refine cG ?_;refine A8 (pY w.m w.q w.ql C.ml C.q) ⟨j.m,j.q⟩ ?_;rintro v A D n ⟨X,o,oy,rfl,S,ho,rfl,h6,u0⟩;refine E5 ?_;refine i7 rfl ?_;intro g7;refine i7 rfl ?_;intro g8;refine au ?_;obtain⟨f,Q⟩:∃f:WM,f={w with m:=X}:=⟨_,rfl⟩;have u1:f.s=w.s/\f.x=w.x/\f.m=X/\f.bl=w.bl/\f.ba=w.ba/\f.bc=w.bc/\f.q=w.q/\f.ql=w.ql/\f.tr=w.tr:=(by rw[Q];exact⟨rfl,rfl,rfl,rfl,rfl,rfl,rfl,rfl,rfl⟩);obtain⟨k9,w0,q0,O,U,w7,u2,q5,q6⟩:=u1;have i:lI w D.heap:=Mn.le n.heap j;have u8:∀bl:BL,bl.length<=900->(∀p∈bl,p.2.length<=1000000)->Ow f.s X.s o bl:=fun bl h1 h2=>by
    rw[k9,S,ho];exact⟨C.se,C.a5I,C.us,C.ml2,C.uo,C.mo,C.val,by omega,h2⟩
   refine D5 (H':=ie Y f::iM g6 t0::.blk g7 (.cells (iA X).toArray 62)::.blk g8 (.cells (tH o oy).toArray 86)::.blk g3 (.cells (EY a z).toArray 70)::.blk g5 (.cells Qt.toArray 48)::.blk g4 (.cells JW.toArray 65)::R) (fun v g=>by rw[Q,y3];exact C5 (A:=[_,_,_,_,_,_,_]) (J:=[]) tk g) ?_;refine au ?_;refine n7 (ι:=BL×AC) (fun q=>q.1=(if a.short=true then[] else w.bl)/\o0 D.heap q.2.1 (uA q.1)) (fun q=>[(2,l9 Y),(3,l9 g3),(4,l9 g4),(5,l9 g5),(6,l9 g6),(7,l9 g7),(8,l9 g8),(9,.slice q.2.1 q.1.length q.2.2)]) (fun _=>ie Y f::iM g6 t0::.blk g7 (.cells (iA X).toArray 62)::.blk g8 (.cells (tH o oy).toArray 86)::.blk g3 (.cells (EY a z).toArray 70)::.blk g5 (.cells Qt.toArray 48)::.blk g4 (.cells JW.toArray 65)::R) ?_ ?_
   ·refine o8 rfl ?_ ?_<;>intro h
    ·refine p_ ?_;exact g_ ([],none,0) ⟨by rw[zu h],o0.nil _ _⟩ (fun v g=>g)
    ·refine u7 ?_;exact g_ (f.bl,f.ba,f.bc) ⟨by rw[zk (by rw[h];simp)];exact O,by rw[U];show o0 D.heap w.ba (uA f.bl);rw[O];exact i.blr⟩ (fun v g=>g)
   rintro⟨h7,o1⟩ ⟨s,q7⟩;simp only at s q7;have q8:h7.length<=900/\∀p∈h7,p.2.length<=1000000:=by
    rw[s];split
    ·exact⟨zw _,fun _ h=>by cases h⟩
    ·exact⟨C.bll,C.body⟩
   have q9:f.bl.length<=900/\∀p∈f.bl,p.2.length<=1000000:=(by rw[O];exact⟨C.bll,C.body⟩);have x0:∀(bl:BL) (ba:Option Addr),o0 D.heap ba (uA bl)->(Gl D.heap/\o0 D.heap f.x.ra (V5 f.s.a5J.a5I)/\U2 f.s f.x D.heap/\iB X D.heap/\L_ o oy D.heap/\o0 D.heap ba (uA bl)):=fun bl ba h=>by
    rw[k9,w0];exact⟨i.g,i.a5I,i.se,h6,u0,h⟩
   refine au ?_;refine A8 (sN f.s f.x X o oy h7 o1.1 o1.2 (u8 h7 q8.1 q8.2)) (x0 h7 o1.1 q7) ?_;rintro v A F2 u ⟨s',d',V,r,hr,rfl,rfl,k,h0,h3,h4,h5⟩;refine I7 (H':=_::_::_::_::_::_::_::_::_::(Y_ r.rl++R)) (fun v g=>g.perm (((Qb (Y_ r.rl) [_,_,_,_,_,_,_] R).cons _).cons _)) ?_;refine wk 7 ?_;obtain⟨t1,x⟩:∃t1:TN,t1={t0 with b:=s',bx:=V,d:=d',y:=r}:=⟨_,rfl⟩;have v0:t1.d=d':=(by rw[x]);refine D5 (H':=ie Y f::iM g6 t1::l5 V.ra s'.a5J.a5I V.rc::r8 r.da r.rl r.dc::.blk g7 (.cells (iA X).toArray 62)::.blk g8 (.cells (tH o oy).toArray 86)::.blk g3 (.cells (EY a z).toArray 70)::.blk g5 (.cells Qt.toArray 48)::.blk g4 (.cells JW.toArray 65)::(Y_ r.rl++R)) (fun v g=>by rw[x];exact C5 (A:=[_,_,_,_,_,_,_,_,_]) (J:=[]) tk g) ?_;have M:ey w.s (D6 w.m.s w.q).1 (D6 w.m.s w.q).2 (if a.short=true then[] else w.bl) s' d':=(by rw[<-S,<-ho,<-s,<-k9];exact hr);refine au ?_;refine o8 rfl ?_ ?_<;>intro h
   ·have q1:¬d'.want=[]:=fun e=>(by rw[v0,e] at h;exact absurd h qp);have w2:r.rl=[]:=by
     have h9:d'.a5T=[]:=by
      unfold ey at M;split at M
      ·rw[M.2]
      ·rcases M with⟨w9,_,_,_,e⟩|⟨x9,_,_,_,_,_,_,v1⟩
       ·rw[e]
       ·exact absurd (cC v1).2.1 q1
     rw[h9] at k;exact List.map_eq_nil_iff.1 k.symm
    refine D5 (H':=ie Y f::iM g6 t1::.blk g7 (.cells (iA X).toArray 62)::.blk g8 (.cells (tH o oy).toArray 86)::.blk g3 (.cells (EY a z).toArray 70)::.blk g5 (.cells Qt.toArray 48)::.blk g4 (.cells JW.toArray 65)::R) (fun v g=>by rw[w2] at g;exact C5 (A:=[_,_,_,_,_,_,_]) (J:=[_,_]) tk g) ?_;refine cG ?_;refine A8 (sN f.s f.x X o oy f.bl f.ba f.bc (u8 f.bl q9.1 q9.2)) (Mn.le (p:=fun h=>Gl h/\o0 h f.x.ra (V5 f.s.a5J.a5I)/\U2 f.s f.x h/\iB X h/\L_ o oy h/\o0 h f.ba (uA f.bl)) u.heap (x0 f.bl f.ba (by rw[U,O];exact i.blr))) ?_;rintro v A F3 T ⟨s2,d2,x2,y2,w3,rfl,rfl,q2,v2,v3,v4,v5⟩;refine I7 (H':=_::_::_::_::_::_::_::_::_::(Y_ y2.rl++R)) (fun v g=>g.perm (((Qb (Y_ y2.rl) [_,_,_,_,_,_,_] R).cons _).cons _)) ?_;refine wk 7 ?_;obtain⟨t2,v6⟩:∃t2:TN,t2={t1 with b:=s2,bx:=x2,d:=d2,y:=y2}:=⟨_,rfl⟩;have x1:=(n.trans u).trans T;refine y5 (f,t2,true,F3) ⟨x1,?_⟩ rfl (fun v g=>?_)
    ·rw[v6,x,y3];exact⟨by unfold cD;rw[zk e0,zu e1];exact⟨k8,⟨s',d',M,by rw[zk q1,<-S,<-ho,<-O,<-k9];exact w3⟩,by rw[q0];exact S,O,rfl,rfl,rfl,rfl⟩,⟨rfl,rfl,rfl,rfl,rfl,rfl⟩,⟨u2,q5,q6⟩,q2,v2,v3,v4,v5,by rw[q0];exact Mn.le (u.trans T).heap h6,by rw[U,O];exact j.blr.le x1.heap,fun e=>by cases e⟩
    ·rw[v6];show Hp F3 v (_::_::_::_::l5 x2.ra s2.a5J.a5I x2.rc::r8 y2.da y2.rl y2.dc::(Y_ y2.rl++R));exact C5 (A:=[_,_,_,_,_,_]) (J:=[_,_,_]) tk g
   ·have q1:d'.want=[]:=by
     rw[v0] at h;exact jy (qu h)
    refine u7 ?_;refine y5 (f,t1,true,F2) ⟨n.trans u,?_⟩ rfl (fun v g=>?_)
    ·rw[x,y3];exact⟨by unfold cD;rw[zk e0,zu e1];exact⟨k8,⟨s',d',M,by rw[zu q1];exact qh⟩,by rw[q0];exact S,O,rfl,rfl,rfl,rfl⟩,⟨rfl,rfl,rfl,rfl,rfl,rfl⟩,⟨u2,q5,q6⟩,k,h0,h3,h4,h5,by rw[q0];exact Mn.le u.heap h6,by rw[U,O];exact j.blr.le (n.trans u).heap,fun e=>by cases e⟩
    ·rw[x] at g⊢;show Hp F2 v (_::_::_::_::l5 V.ra s'.a5J.a5I V.rc::r8 r.da r.rl r.dc::(Y_ r.rl++R));exact C5 (A:=[_,_,_,_,_,_]) (J:=[_,_,_]) tk g
  have e1:¬a.kind=1:=zq y0.symm;refine C6 ?_;refine f_ ((p8 rfl rfl).eq (v':=.bool k2) (qn y1.symm)) ?_;refine p_ ?_
  cases k2
  case true=>
   have e2:a.kind=2:=qr y1.symm;refine wk 9 ?_;refine A8 (Nh w.s w.x C.se) ⟨j.a5I,j.se⟩ ?_;intro v A D n hq;obtain⟨s',d',V,r,hr,rfl,rfl,k,h0,h3,h4,h5⟩:=Et.res hq;refine I7 (H':=_::_::_::_::_::_::_::(Y_ r.rl++R)) (fun v g=>g.perm (((Qb (Y_ r.rl) [_,_,_,_,_] R).cons _).cons _)) ?_;refine wk 7 ?_;obtain⟨t1,x⟩:∃t1:TN,t1={EZ w a with b:=s',bx:=V,comes:=w.s.a5P,fails:=true,d:=d',y:=r}:=⟨_,rfl⟩;have i:lI w D.heap:=Mn.le n.heap j;refine y5 (w,t1,true,D) ⟨n,?_⟩ rfl (fun v g=>?_)
   ·rw[x];exact⟨by unfold cD;rw[zk e0,zk e1,zu e2];exact⟨hr,rfl,rfl,rfl,rfl,rfl,rfl⟩,⟨rfl,rfl,rfl,rfl,rfl,rfl⟩,qm,k,h0,h3,h4,h5,i.m,i.blr,fun e=>by cases e⟩
   ·rw[x];show Hp D v (_::_::_::_::l5 V.ra s'.a5J.a5I V.rc::r8 r.da r.rl r.dc::(Y_ r.rl++R));exact C5 (A:=[_,_,_,_,_,_]) (J:=[_]) tk g
  have e2:¬a.kind=2:=zq y1.symm;refine O2 ?_;refine A8 (pY w.m a.other z C.ml C.oq) ⟨j.m,v9⟩ ?_;rintro v A D n ⟨X,o,oy,rfl,S,ho,rfl,h6,u0⟩;refine au ?_;obtain⟨f,Q⟩:∃f:WM,f={w with m:=X}:=⟨_,rfl⟩;have s:f.bl=w.bl/\f.ba=w.ba/\f.bc=w.bc:=by rw[Q];exact qm
  have h8:o0 D.heap f.ba (uA f.bl):=by rw[s.1,s.2.1];exact j.blr.le n.heap
  have a0:f.bl.length<=900:=by rw[s.1];exact C.bll
  refine D5 (H':=ie Y f::iM g6 (EZ w a)::.blk g3 (.cells (EY a z).toArray 70)::.blk g5 (.cells Qt.toArray 48)::.blk g4 (.cells JW.toArray 65)::R) (fun v g=>by rw[Q];exact C5 (A:=[_,_,_,_,_]) (J:=[]) tk g) ?_;refine u7 ?_;refine D8 [2,6] [0,3,8,9,11] [ie Y f,.blk g3 (.cells (EY a z).toArray 70)] 12 ?_;refine wd [1,2,4,5,6] ?_;refine w_ 7 rfl (y8 (ps:=[(0,.tmp 37),(1,.const (B lH))]) (vs:=[(0,B a.other.hash),(1,B lH)]) (cells:=(uz (a.other.hash,lH)).toArray) rfl i6) ?_;refine bv 0 8 rfl rfl i6 ?_ ?_;refine M5 rfl ?_;intro a31;refine ah ?_;refine bv 3 8 rfl rfl i6 ?_ ?_;refine u6 uz (l:=[]) (m:=f.bl) aq dt (by show(0+f.bl.length)*32<=_;omega) ?_ (hsrc:=fun v g=>h8.le g.keep) (h63:=by simp only[zn];omega);intro OJ v7 _;refine ah ?_;refine h_ 8 rfl i6 ?_;refine C4 uz (a.other.hash,lH) rfl ?_;intro a39 _;refine xB ?_;refine h_ 9 rfl i6 ?_;refine u6 uz (l:=f.bl) (m:=[(a.other.hash,lH)]) aq dt (by show(f.bl.length+1)*32<=_;omega) ?_ (h63:=by simp only[zy,zn];omega);intro q3 q4 _;refine E6 [10,11] ?_
  rotate_left 1
  refine C4 uz (a.other.hash,lH) rfl ?_;intro a39 _;refine ah ?_;refine h_ 3 rfl i6 ?_;refine u6 uz (l:=[]) (m:=f.bl) aq dt (by show(0+f.bl.length)*32<=_;omega) ?_ (hsrc:=fun v g=>h8.le g.keep) (h63:=by simp only[zn];omega);intro OJ v7 _;refine xB ?_;refine h_ 9 rfl i6 ?_;refine u6 uz (l:=f.bl) (m:=[(a.other.hash,lH)]) aq dt (by show(f.bl.length+1)*32<=_;omega) ?_ (h63:=by simp only[zy,zn];omega);intro q3 q4 _;refine E6 [10,11] ?_
  rotate_left 1
  refine C4 uz (a.other.hash,lH) rfl ?_;intro a39 _;refine ah ?_;refine h_ 0 rfl i6 ?_;refine M5 rfl ?_;intro a31;refine ah ?_;refine h_ 3 rfl i6 ?_;refine u6 uz (l:=[]) (m:=f.bl) aq dt (by show(0+f.bl.length)*32<=_;omega) ?_ (hsrc:=fun v g=>h8.le g.keep) (h63:=by simp only[zn];omega);intro OJ v7 _;refine xB ?_;refine h_ 9 rfl i6 ?_;refine u6 uz (l:=f.bl) (m:=[(a.other.hash,lH)]) aq dt (by show(f.bl.length+1)*32<=_;omega) ?_ (h63:=by simp only[zy,zn];omega);intro q3 q4 _;refine E6 [10,11] ?_
  rotate_left 1
  all_goals (refine u7 ?_)
  all_goals
   refine jZ (Z:=[.own (.slice q3 (f.bl++[(a.other.hash,lH)]).length q4) 95 2 (uA (f.bl++[(a.other.hash,lH)]))]) tk fun F2 u ⟨bs,w4⟩=>?_;refine y5 ({f with bl:=f.bl++[(a.other.hash,lH)],ba:=q3,bc:=q4},EZ w a,false,F2) ⟨n.trans u,?_⟩ rfl (fun v g=>C5 (A:=[_,_,_,_]) (J:=[_,_]) tk g);exact⟨by unfold cD;rw[zk e0,zk e1,zk e2];exact⟨rfl,rfl,by rw[Q];exact S,by rw[s.1],rfl,rfl,rfl,rfl⟩,⟨rfl,rfl,rfl,rfl,rfl,rfl⟩,by rw[Q];exact qm,rfl,qy,Mn.le (n.trans u).heap j.se,⟨o0.nil _ _,o0.nil _ _⟩,o0.nil _ _,by rw[Q];exact Mn.le u.heap h6,A3.rd w4 ud,fun _=>qm⟩
 rintro f t c F2 ⟨u,hp⟩;have v8:=Ez C hp.dn;refine u7 ?_;refine H9 0 ?_;refine S6 (fun(w':WM) (_:Unit) (_:Unit) (F3:l6)=>F2.le F3/\sO f t w'/\o0 F3.heap w'.ba (uA w'.bl)) (fun _ _ _ _=>[(4,l9 g4),(5,l9 g5)]) (fun _ _ _ F3=>F3) (fun w' _ _ _=>ie g4 w'::iM g5 t::(fm c t++R)) ?_ ?_
 ·refine u7 ?_;refine D8 [0,1,3] [2,4,5] [ie Y f,iM g6 t] 6 ?_;refine wd [0,1,3] ?_;refine h_ 2 rfl i6 ?_;refine R7 (Nr f t (by rw[hp.tw.2.2];exact C.tr) v8.2 v8.1) hp.blr ?_;rintro v A Z Fz hz ⟨w',rfl,rfl,z0,z2⟩;refine gj [4,5] ?_;all_goals exact ew (Rr:=ie g4 w'::iM g5 t::(fm c t++R)) Fz hz (fun v g=>C5 (A:=[_,_]) (J:=[_,_]) tk g) fun F3 T w5=>y5 (w',(),(),F3) ⟨T,z0,z2.le w5⟩ rfl (fun v g=>g)
 rintro w' _ _ F3 ⟨T,z0,z2⟩;refine ov ?_;refine H3 (A:=fm c t) (v:=.tuple #[EW w',Ue t]) (u.trans T) ⟨w',t,c,rfl,rfl,.inr ⟨f,hp.le T.heap,z0,z2⟩⟩ ?_;exact X2 rfl rfl rfl ud rfl ud rfl _ qh (fun v g=>C5 (A:=[]) (J:=[_,_]) tk g)
theorem fT{l:List Bs}(h:G1 l=true):l.length<=16/\∀f∈l,f.length<=32:=
 ⟨(je h).2.2,fun f hf=>sA ((je h).1 f hf)⟩
theorem qA{l:List Bs}{x:Bs}(h:x∈T3 l):x∈l:=by
 rcases ((mV l [] .nil).2 x).1 h with h|h
 ·exact h
 ·cases h
theorem EA{l b:List Bs}{how:Int}(h:(F9 l how b).2=0):(F9 l how b).1.length<=16/\∀f∈(F9 l how b).1,f.length<=32:=by
 unfold F9 at h⊢;split
 ·exact⟨zw _,fun _ h=>by cases h⟩
 ·rename_i c;rw[zk c] at h;have d:G1 l=true:=by cases e:G1 l;exact absurd (.inl e) c;rfl
  have g:G1 b=true:=by cases e:G1 b;exact absurd (.inr (.inl e)) c;rfl
  simp only at h⊢;have a:∀o:List Bs,o=(if how=0 then T3 b else if how=1 then T3 (l++b) else(T3 l).filter fun f=>!decide (f∈b))->∀f∈o,f.length<=32:=fun o i f hf=>by
   rw[i] at hf;split at hf
   ·exact(fT g).2 f (qA hf)
   split at hf
   ·rcases zb.1 (qA hf) with hf|hf
    ·exact(fT d).2 f hf
    ·exact(fT g).2 f hf
   ·exact(fT d).2 f (qA (Qx.1 hf).1)
  generalize i:(if how=0 then T3 b else if how=1 then T3 (l++b) else(T3 l).filter fun f=>!decide (f∈b))=o at h a⊢;by_cases h16:16<o.length
  ·rw[zu h16] at h;cases h
  ·rw[zk h16];exact⟨by simp only;omega,a o rfl⟩
theorem kJ{s:ML}(h:V_ s){i:Nat}(a:i<s.a5F.length):CW (ak s i):=by
 have:ak s i=s.a5F[i]:=by unfold ak;rw[zd,zj a];rfl
 rw[this];exact h.box _ (zx a)
theorem IL{s:ML}{n:Bs}{i:Nat}(h:xD s n=some i):i<s.a5F.length:=(kg.1 h).1
theorem zP{s:ML}{r:RQ}{i:Nat}(h:named s r=some i):i<s.a5F.length:=by
 unfold named at h;obtain⟨j,b,a⟩:=zc.1 h;split at a
 ·injection a with a;subst a;exact IL b
 ·cases a
theorem QA{l:List BX}{i:Nat}{b:BX}(c:i<l.length)(d:b.name=l[i].name)(h:l.Pairwise fun x y=>gR x.name y.name=true):(l.set i b).Pairwise fun x y=>gR x.name y.name=true:=by
 have e:(l.set i b).map BX.name=l.map BX.name:=by
  rw[Kb,d];rw[show l[i].name=(l.map BX.name)[i]'(by simpa using c) from by simp];exact Z4 _
 have a:(l.map BX.name).Pairwise fun x y=>gR x y=true:=Kd.2 h;rw[<-e] at a;exact Kd.1 a
theorem uG{s:ML}(h:V_ s){i:Nat}(c:i<s.a5F.length){b:BX}(d:b.name=(ak s i).name)(f:CW b):V_ (jC s i b):=by
 have e:ak s i=s.a5F[i]:=by unfold ak;rw[zd,zj c];rfl
 refine⟨by show(s.a5F.set i b).length<=8;rw[js];exact h.a5F,fun x a=>?_,QA c (by rw[d,e]) h.sorted,h.a5G,h.home,h.a5H,h.seat,h.nval,h.nses,h.a5R⟩;rcases jd a with a|rfl
 ·exact h.box x a
 ·exact f
structure cE(o:OC):Prop where
 a5L:o.a5L.length<=32/\∀u∈o.a5L,u<=4294967296
 mods:o.mods.length<=32/\∀u∈o.mods,u<=4294967296
 val:o.val<=4294967296
theorem cE.zero:cE B9:=⟨⟨zw _,fun _ h=>by cases h⟩,⟨zw _,fun _ h=>by cases h⟩,zw _⟩
theorem cE.code(k:Int):cE {B9 with code:=k}:=⟨⟨zw _,fun _ h=>by cases h⟩,⟨zw _,fun _ h=>by cases h⟩,zw _⟩
structure uH(s:ML):Prop where
 ok:V_ s
 n1:1<=s.nses
abbrev Fa(q:AR):Prop:=uH q.1/\cE q.2.1
theorem F5{s:ML}(h:uH s)(e:Int):Fa (s,B9,e):=⟨h,.zero⟩
theorem zQ{h x:HO}:∀{l:List HO},x∈dA h l->x=h\/x∈l
 |[],hx=>by simp[dA] at hx;exact .inl hx
 |y::t,hx=>by
  unfold dA at hx;split at hx
  ·rcases ky.1 hx with e|hx
   ·exact .inl e
   ·exact .inr hx
  ·rcases ky.1 hx with e|hx
   ·exact .inr (e▸Qq)
   ·rcases zQ hx with e|hx
    ·exact .inl e
    ·exact .inr (jj _ hx)
theorem BW(h:HO):∀{l:List HO},l.Pairwise (fun x y=>x.node<y.node)->(∀x∈l,x.node≠h.node)->(dA h l).Pairwise fun x y=>x.node<y.node
 |[],_,_=>by simp[dA]
 |y::t,hp,hn=>by
  obtain⟨c,d⟩:=Qz.1 hp;unfold dA;split
  ·rename_i b;refine Qz.2 ⟨fun x a=>?_,hp⟩;rcases ky.1 a with rfl|a
   ·exact b
   ·exact Int.lt_trans b (c x a)
  ·rename_i b;refine Qz.2 ⟨fun x a=>?_,BW h d fun x a=>hn x (jj _ a)⟩;rcases zQ a with rfl|a
   ·have:=hn y Qq;omega
   ·exact c x a
theorem qB{b x:BX}:∀{l:List BX},x∈jB b l->x=b\/x∈l
 |[],hx=>by simp[jB] at hx;exact .inl hx
 |y::t,hx=>by
  unfold jB at hx;split at hx
  ·rcases ky.1 hx with e|hx
   ·exact .inl e
   ·exact .inr hx
  ·rcases ky.1 hx with e|hx
   ·exact .inr (e▸Qq)
   ·rcases qB hx with e|hx
    ·exact .inl e
    ·exact .inr (jj _ hx)
theorem xg(b:BX):∀l:List BX,(jB b l).length=l.length+1
 |[]=>rfl
 |y::t=>by
  unfold jB;split
  ·rfl
  ·simp[xg b t]
theorem BY(b:BX):∀{l:List BX},l.Pairwise (fun x y=>gR x.name y.name=true)->(∀x∈l,x.name≠b.name)->(jB b l).Pairwise fun x y=>gR x.name y.name=true
 |[],_,_=>by simp[jB]
 |y::t,hp,hn=>by
  obtain⟨d,f⟩:=Qz.1 hp;unfold jB;split
  ·rename_i a;refine Qz.2 ⟨fun x c=>?_,hp⟩;rcases ky.1 c with rfl|c
   ·exact a
   ·exact bR a (d x c)
  ·rename_i a;refine Qz.2 ⟨fun x c=>?_,BY b f fun x c=>hn x (jj _ c)⟩;rcases qB c with rfl|c
   ·exact dM (fun e=>hn y Qq e.symm) (by simpa using a)
   ·exact d x c
theorem Ns{s:ML}(h:uH s)(r:RQ)(hl:r.life<18446744073709551616)(j:r.tr<18446744073709551616):Fa (lU s r):=by
 unfold lU;split
 ·exact F5 h _
 ·rename_i p;have d:1<=r.node:=by omega
  have m:r.node<=5:=by omega
  simp only;split
  ·exact F5 h _
  split
  ·split
   ·exact F5 h _
   ·exact⟨h,cE.zero.a5L,cE.zero.mods,cE.zero.val⟩
  generalize hst:(if((Option.map (fun i=>s.a5G.getD i NV) (gS s r.node)).getD NV).life<r.life then s.a5H.filter fun x=>!decide (x.node=r.node) else s.a5H)=a5H;have k:∀x∈a5H,x∈s.a5H:=fun x a=>by
   rw[<-hst] at a;split at a
   ·exact(Qx.1 a).1
   ·exact a
  split
  ·exact F5 h _
  ·rename_i n;refine⟨⟨?_,?_⟩,cE.zero.a5L,cE.zero.mods,cE.zero.val⟩
   ·have b:∀x∈a5H++[⟨s.nses,0,r.node,r.life,r.tr⟩],1<=x.ses/\x.ses<s.nses+1/\x.last<18446744073709551616/\x.life<18446744073709551616/\x.tr<18446744073709551616:=fun x a=>by
     rcases zb.1 a with a|a
     ·have:=h.ok.seat x (k x a);exact⟨this.1,by omega,this.2.2⟩
     ·rw[zg.1 a];exact⟨h.n1,by simp only;omega,by simp only;omega,hl,j⟩
    have c:(a5H++[(⟨s.nses,0,r.node,r.life,r.tr⟩:SX)]).length<=16:=(by rw[zz];simp only[zy,zn];omega);have f:s.nses+1<=CU:=(by omega);unfold mZ;split
    ·rename_i i g;have o:i<s.a5G.length:=(kg.1 g).1;have l:s.a5G[i].node=r.node:=(by simpa using(kg.1 g).2.1);refine⟨h.ok.a5F,h.ok.box,h.ok.sorted,?_,fun x a=>?_,c,b,h.ok.nval,f,h.ok.a5R⟩
     ·have e:(s.a5G.set i ⟨r.node,r.life,r.tr⟩).map HO.node=s.a5G.map HO.node:=by
       rw[Kb];rw[show(⟨r.node,r.life,r.tr⟩:HO).node=(s.a5G.map HO.node)[i]'(by simpa using o) from by simp[l]];exact Z4 _
      have d:(s.a5G.map HO.node).Pairwise fun x y=>x<y:=Kd.2 h.ok.a5G;rw[<-e] at d;exact Kd.1 d
     ·rcases jd a with a|rfl
      ·exact h.ok.home x a
      ·exact⟨d,m,hl,j⟩
    ·rename_i g;refine⟨h.ok.a5F,h.ok.box,h.ok.sorted,BW _ h.ok.a5G fun x a=>?_,fun x a=>?_,c,b,h.ok.nval,f,h.ok.a5R⟩
     ·have:=Q5.1 g x a;simpa using this
     ·rcases zQ a with rfl|a
      ·exact⟨d,m,hl,j⟩
      ·exact h.ok.home x a
   ·unfold mZ;split<;>(show 1<=s.nses+1;omega)
theorem QB{s:ML}(h:uH s)(r:RQ):Fa (Pe s r):=by
 refine⟨⟨⟨h.ok.a5F,h.ok.box,h.ok.sorted,h.ok.a5G,h.ok.home,?_,fun x a=>h.ok.seat x (Qx.1 a).1,h.ok.nval,h.ok.nses,h.ok.a5R⟩,h.n1⟩,.zero⟩;exact ju (Qn _ _) h.ok.a5H
theorem IM{s:ML}(h:uH s):Fa (lh s):=by
 unfold lh;split
 ·exact F5 h _
 ·rename_i a;refine⟨⟨⟨h.ok.a5F,h.ok.box,h.ok.sorted,h.ok.a5G,h.ok.home,h.ok.a5H,h.ok.seat,h.ok.nval,h.ok.nses,?_⟩,h.n1⟩,.zero⟩;have:=h.ok.a5R;show s.a5R+1<=D9;omega
theorem EB{s:ML}(h:uH s)(r:RQ):Fa (cX s r):=by
 have j:eK=4294967295:=rfl;unfold cX;split
 ·exact F5 h _
 rename_i d;split
 ·exact F5 h _
 rename_i f;split
 ·exact F5 h _
 split
 ·exact F5 h _
 rename_i k i;have a:r.box.length<=64:=by
  have:ja r.box=some r.box:=by simpa using d
  unfold ja at this;split at this
  ·rename_i hp;unfold vh at hp;simp only[kw,jw] at hp;exact hp.1.1.2
  ·cases this
 have b:CW ⟨r.box,s.nval,1,1,[]⟩:=⟨a,h.ok.nval,by show 1<=4294967296;decide,by show 1<=D9;decide,zw _,fun _ h=>(by cases h),fun _ h=>(by cases h),fun _ h=>(by cases h),fun _ h=>(by cases h),fun _ h=>(by cases h)⟩;have g:∀x∈s.a5F,x.name≠r.box:=fun x c e=>by
  apply f;unfold xD;rw[List.findIdx?_isSome];exact Jk.2 ⟨x,c,by simpa using e⟩
 refine⟨⟨⟨by rw[xg];omega,fun x c=>?_,BY _ h.ok.sorted g,h.ok.a5G,h.ok.home,h.ok.a5H,h.ok.seat,by show s.nval+1<=_;have:¬eK<s.nval:=i;omega,h.ok.nses,h.ok.a5R⟩,h.n1⟩,cE.zero.a5L,cE.zero.mods,h.ok.nval⟩;rcases qB c with rfl|c
 ·exact b
 ·exact h.ok.box x c
theorem EC{s:ML}(h:uH s)(r:RQ):Fa (bM s r):=by
 unfold bM;split
 ·exact F5 h _
 split
 ·exact F5 h _
 ·rename_i i b;refine⟨⟨⟨ju (List.length_eraseIdx_le ..) h.ok.a5F,fun x a=>h.ok.box x (Jg a),h.ok.sorted.sublist (List.eraseIdx_sublist ..),h.ok.a5G,h.ok.home,h.ok.a5H,h.ok.seat,h.ok.nval,h.ok.nses,h.ok.a5R⟩,h.n1⟩,.zero⟩
theorem ED{s:ML}(h:uH s)(r:RQ):Fa (cY s r):=by
 have m:eK=4294967295:=rfl;unfold cY;split
 ·exact F5 h _
 rename_i i f;have c:=IL f;have b:=kJ h.ok c;simp only;split
 ·exact F5 h _
 rename_i d;split
 ·exact F5 h _
 split
 ·exact F5 h _
 split
 ·exact F5 h _
 rename_i n o p;have g:G1 r.a5U=true:=by cases e:G1 r.a5U;exact absurd (.inl e) d;rfl
 have j:r.hash.length=32:=Decidable.byContradiction fun e=>d (.inr (.inl e));have hz:r.size<=4096:=by omega
 have k:(ak s i).next<=eK:=by omega
 have l:(ak s i).high<D9:=by omega
 refine⟨⟨uG h.ok c rfl ⟨b.name,b.val,by simp only;omega,by simp only;omega,by simp only[zz,zy,zn];omega,fun x a=>?_,fun x a=>?_,fun x a=>?_,fun x a=>?_,fun x a=>?_⟩,h.n1⟩,⟨by simp,fun u hu=>by simp at hu;omega⟩,cE.zero.mods,b.val⟩;all_goals (rcases zb.1 a with a|a)
 ·have:=b.uid x a;simp only;omega
 ·rw[zg.1 a];simp only;omega
 ·exact b.a5U x a
 ·rw[zg.1 a];exact fT g
 ·exact b.mod x a
 ·rw[zg.1 a];simp only;omega
 ·exact b.size x a
 ·rw[zg.1 a];exact hz
 ·exact b.hash x a
 ·rw[zg.1 a];exact j
theorem gJ(r:RQ)(b:BX):∀(l:List LT) (q:List LT×List Nat×List Nat×Bool),I2 r b l=some q->q.1.length=l.length/\q.2.1.length<=l.length/\q.2.2.1.length<=l.length/\
  (∀u,u∈q.2.1\/u∈q.2.2.1->∃x∈l,x.uid=u)/\∀y∈q.1,∃x∈l,y.uid=x.uid/\y.hash=x.hash/\y.size=x.size/\(y.a5U=x.a5U/\y.mod=x.mod\/(y.a5U.length<=16/\∀f∈y.a5U,f.length<=32)/\y.mod=b.high+1)
 |[],q,h=>by
  simp only[I2,Qh] at h;subst h;exact⟨rfl,z1 _,z1 _,(fun u h=>by rcases h with h|h<;>cases h),qy⟩
 |x::t,q,h=>by
  have c:∀{P:LT->Prop},(∃y∈t,P y)->∃y∈x::t,P y:=fun⟨y,a,h⟩=>⟨y,jj _ a,h⟩;unfold I2 at h;split at h
  ·obtain⟨p,hp,rfl⟩:=kx.1 h;obtain⟨g,k,m,e,i⟩:=gJ r b t p hp;refine⟨by simp[g],by simp only[zy];omega,by simp only[zy];omega,fun u hu=>c (e u hu),fun y a=>?_⟩;rcases ky.1 a with rfl|a
   ·exact⟨y,Qq,rfl,rfl,rfl,.inl qh⟩
   ·exact c (i y a)
  split at h
  ·obtain⟨p,hp,rfl⟩:=kx.1 h;obtain⟨g,k,m,e,i⟩:=gJ r b t p hp;refine⟨by simp[g],by simp only[zy];omega,by simp only[zy];omega,fun u hu=>?_,fun y a=>?_⟩
   ·rcases hu with hu|hu
    ·exact c (e u (.inl hu))
    ·rcases ky.1 hu with rfl|hu
     ·exact⟨x,Qq,rfl⟩
     ·exact c (e u (.inr hu))
   ·rcases ky.1 a with rfl|a
    ·exact⟨y,Qq,rfl,rfl,rfl,.inl qh⟩
    ·exact c (i y a)
  split at h
  ·cases h
  ·rename_i hc;obtain⟨p,hp,rfl⟩:=kx.1 h;obtain⟨g,k,m,e,i⟩:=gJ r b t p hp;have j:=EA (l:=x.a5U) (b:=r.a5U) (how:=r.how) (by simpa using hc);have d:∀u,u∈x.uid::p.2.1\/u∈p.2.2.1->∃y∈x::t,y.uid=u:=fun u hu=>by
    rcases hu with hu|hu
    ·rcases ky.1 hu with rfl|hu
     ·exact⟨x,Qq,rfl⟩
     ·exact c (e u (.inl hu))
    ·exact c (e u (.inr hu))
   split
   ·refine⟨by simp[g],by simp only[zy];omega,by simp only[zy];omega,d,fun y a=>?_⟩;rcases ky.1 a with rfl|a
    ·exact⟨y,Qq,rfl,rfl,rfl,.inl qh⟩
    ·exact c (i y a)
   ·refine⟨by simp[g],by simp only[zy];omega,by simp only[zy];omega,d,fun y a=>?_⟩;rcases ky.1 a with rfl|a
    ·exact⟨x,Qq,rfl,rfl,rfl,.inr ⟨j,rfl⟩⟩
    ·exact c (i y a)
theorem IN{s:ML}(h:uH s)(r:RQ):Fa (dB s r):=by
 unfold dB;split
 ·exact F5 h _
 rename_i i k;have c:=zP k;have a:=kJ h.ok c;simp only;split
 ·exact F5 h _
 split
 ·exact F5 h _
 rename_i q l;obtain⟨z,A,C,m,n⟩:=gJ r _ _ q l;have f:=a.lts;have o:=a.next;have hu:∀u,u∈q.2.1\/u∈q.2.2.1->u<=4294967296:=fun u hu=>by
  obtain⟨x,b,rfl⟩:=m u hu;have:=a.uid x b;omega
 have g:cE {B9 with a5L:=q.2.1,mods:=q.2.2.1}:=⟨⟨by simp only;omega,fun u h=>hu u (.inl h)⟩,⟨by simp only;omega,fun u h=>hu u (.inr h)⟩,zw _⟩;split
 ·exact⟨h,g⟩
 split
 ·exact F5 h _
 rename_i hg;have p:(ak s i).high<D9:=by omega
 refine⟨⟨uG h.ok c rfl ⟨a.name,a.val,a.next,by simp only;omega,by simp only;omega,fun y d=>?_,fun y d=>?_,fun y d=>?_,fun y d=>?_,fun y d=>?_⟩,h.n1⟩,g⟩;all_goals (obtain⟨x,b,t,v,w,j⟩:=n y d)
 ·rw[t];exact a.uid x b
 ·rcases j with⟨e,_⟩|⟨e,_⟩
  ·rw[e];exact a.a5U x b
  ·exact e
 ·rcases j with⟨_,e⟩|⟨_,e⟩
  ·rw[e];have:=a.mod x b;exact this
  ·rw[e];omega
 ·rw[w];exact a.size x b
 ·rw[v];exact a.hash x b
theorem zR{s:ML}(h:uH s)(r:RQ):Fa (bd s r):=by
 unfold bd;split
 ·exact F5 h _
 rename_i i d;have c:=zP d;have a:=kJ h.ok c;simp only;split
 ·exact F5 h _
 split
 ·exact F5 h _
 rename_i hg;have e:(ak s i).high<D9:=by omega
 refine⟨⟨uG h.ok c rfl ⟨a.name,a.val,a.next,by simp only;omega,ju (Qn _ _) a.lts,fun x b=>a.uid x (Qx.1 b).1,fun x b=>a.a5U x (Qx.1 b).1,fun x b=>a.mod x (Qx.1 b).1,fun x b=>a.size x (Qx.1 b).1,fun x b=>a.hash x (Qx.1 b).1⟩,h.n1⟩,⟨?_,fun u hu=>?_⟩,cE.zero.mods,zw _⟩
 ·simp only[zr];exact ju (Qn _ _) a.lts
 ·obtain⟨x,b,rfl⟩:=jx.1 hu;have:=a.uid x (Qx.1 b).1;have:=a.next;omega
theorem BZ(m:Nat):∀(l:List LT) (n:Nat),(fg n m l).length=l.length/\∀y∈fg n m l,n<=y.uid/\y.uid<n+l.length/\y.mod=m/\∃x∈l,y.a5U=x.a5U/\y.hash=x.hash/\y.size=x.size
 |[],n=>⟨rfl,fun _ h=>by cases h⟩
 |x::t,n=>by
  have b:=BZ m t (n+1);refine⟨by simp[fg,b.1],fun y a=>?_⟩;rcases ky.1 a with rfl|a
  ·exact⟨z1 _,by simp,rfl,x,Qq,rfl,rfl,rfl⟩
  ·obtain⟨e,f,c,z,hz,d⟩:=b.2 y a;exact⟨by omega,by simp only[zy];omega,c,z,jj _ hz,d⟩
theorem Nt{s:ML}(h:uH s)(r:RQ):Fa (gT s r):=by
 have t:eK=4294967295:=rfl;unfold gT;split
 ·exact F5 h _
 rename_i j n;have g:=zP n;have k:=kJ h.ok g;simp only;split
 ·exact F5 h _
 rename_i i o;have f:=IL o;have c:=kJ h.ok f;have m:cE {B9 with val:=(ak s i).val}:=⟨cE.zero.a5L,cE.zero.mods,c.val⟩;split
 ·exact⟨h,m⟩
 split
 ·exact⟨h,m⟩
 split
 ·exact⟨h,m⟩
 rename_i v w y;generalize hl:(ak s j).lts.filter (X7 r (ak s j))=l at*;have b:∀x∈l,x∈(ak s j).lts:=fun x a=>by rw[<-hl] at a;exact(Qx.1 a).1
 have d:=BZ ((ak s i).high+1) l (ak s i).next;have p:(ak s i).next+l.length<=eK+1:=by omega
 have q:(ak s i).high<D9:=by omega
 refine⟨⟨uG h.ok f rfl ⟨c.name,c.val,by simp only;omega,by simp only;omega,by simp only[zz,d.1];omega,fun x a=>?_,fun x a=>?_,fun x a=>?_,fun x a=>?_,fun x a=>?_⟩,h.n1⟩,⟨by simp only[zr,d.1];omega,fun u hu=>?_⟩,cE.zero.mods,c.val⟩
 case refine_6=>
  obtain⟨x,a,rfl⟩:=jx.1 hu;have:=(d.2 x a).2.1;omega
 all_goals (rcases zb.1 a with a|a)
 ·have:=c.uid x a;simp only;omega
 ·have:=(d.2 x a).2.1;simp only;omega
 ·exact c.a5U x a
 ·obtain⟨_,_,_,z,hz,e,_⟩:=d.2 x a;rw[e];exact k.a5U z (b z hz)
 ·exact c.mod x a
 ·obtain⟨_,_,e,_⟩:=d.2 x a;rw[e];omega
 ·exact c.size x a
 ·obtain⟨_,_,_,z,hz,_,_,e⟩:=d.2 x a;rw[e];exact k.size z (b z hz)
 ·exact c.hash x a
 ·obtain⟨_,_,_,z,hz,_,e,_⟩:=d.2 x a;rw[e];exact k.hash z (b z hz)
theorem Oz{s:ML}(h:uH s)(r:RQ)(hl:r.op=1->r.life<18446744073709551616/\r.tr<18446744073709551616):Fa (JQ s r):=by
 unfold JQ;split
 ·rename_i e;exact Ns h r (hl e).1 (hl e).2
 split
 ·exact QB h r
 split
 ·exact F5 h _
 split
 ·exact EB h r
 split
 ·exact EC h r
 split
 ·exact ED h r
 split
 ·exact IN h r
 split
 ·exact zR h r
 split
 ·exact Nt h r
 ·exact IM h
theorem Ca{q:AR}(h:Fa q):uH (vC q).1/\cE (vC q).2:=by
 refine⟨h.1,?_⟩;unfold vC;simp only;split
 ·exact h.2
 ·exact .code _
theorem fU{s:ML}(h:uH s)(r:RQ)(c:r.num<18446744073709551616)(hl:r.op=1->r.life<18446744073709551616/\r.tr<18446744073709551616):uH (D6 s r).1/\cE (D6 s r).2:=by
 unfold D6;split
 ·exact⟨h,.code _⟩
 split
 ·exact Ca (Oz h r hl)
 split
 ·exact⟨h,.code _⟩
 ·rename_i i d;have a:i<s.a5H.length:=(kg.1 d).1;have e:s.a5H.getD i ⟨0,0,0,0,0⟩=s.a5H[i]:=by rw[zd,zj a];rfl
  simp only[e];split
  ·exact⟨h,.code _⟩
  ·refine Ca (Oz (s:={s with a5H:=s.a5H.set i {s.a5H[i] with last:=r.num}}) ⟨⟨h.ok.a5F,h.ok.box,h.ok.sorted,h.ok.a5G,h.ok.home,by show(s.a5H.set i _).length<=16;rw[js];exact h.ok.a5H,fun x b=>?_,h.ok.nval,h.ok.nses,h.ok.a5R⟩,h.n1⟩ r hl);rcases jd b with b|rfl
   ·exact h.ok.seat x b
   ·have:=h.ok.seat _ (zx a);exact⟨this.1,this.2.1,c,this.2.2.2⟩
theorem IP:uH FW:=by
 refine⟨⟨by decide,fun b a=>?_,by simp[FW],by simp[FW],qy,by decide,qy,by decide,by decide,by decide⟩,by decide⟩;rw[zg.1 a];exact⟨by decide,by decide,by decide,by decide,by decide,qy,qy,qy,qy,qy⟩
structure Ri(r:RQ):Prop where
 box:r.box.length<=64
 a5L:r.a5L.length<=64
 a5U:r.a5U.length<=16
 fl:∀f∈r.a5U,f.length<=32
 num:r.op=1->r.num=0
structure TD(s s':SE)(d':DD)(c:CM)(l:List Nat)(r:RQ)(b:Bool):Prop where
 a5P:s.a5P=false
 over:s.a5K≠3
 le:rk c
 kind:1<=c.kind/\c.kind<=18
 from_:(O3 c.kind).1<=s.a5K/\s.a5K<=(O3 c.kind).2
 len:l.length<=s.a5J.a5I.length
 us:∀u∈l,0<cJ s.a5J u
 op:r.op=1↔c.kind=7
 st:r.op≠1->s.a5K≠0
 rq:Ri r
 s':s'={s with a5P:=true,cmd:=c,a5L:=l,cond:=b,num:=if r.op=1 then s.num else s.num+1}
 ask:d'.ask=true
 req:d'.req=if r.op=1 then r else{r with ses:=s.ses,num:=s.num+1}
 a5T:d'.a5T=[]
 close:d'.close=false
 want:d'.want=[]
 body:d'.body.length<=4096
 store:d'.store=decide (c.kind=14)
def mz(s s':SE)(d':DD):Prop:=
 (d'.ask=false/\d'.req=cW/\d'.store=false/\d'.body=[]/\d'.want=[]/\(s'=s\/(s'={s with a5K:=3}/\s.a5P=false)\/s'={s with cond:=true}))\/∃c l r b,TD s s' d' c l r b
theorem ig{s a:SE}{b:DD}{r:RR}(h:(a,b)=U_ (s,F8) r):mz s a b:=by
 injection h with h1 h2;subst h1 h2;exact .inl ⟨rfl,rfl,rfl,rfl,rfl,.inl rfl⟩
theorem IQ{s d:SE}{f d2:DD}{c:CM}{l:List Nat}{r:RQ}{b:Bool}(h:(d,f)=G3 ({s with cond:=b},d2) c r l)(g:s.a5P=false)(i:s.a5K≠3)(hc:rk c)(j:1<=c.kind/\c.kind<=18)(hf:(O3 c.kind).1<=s.a5K/\s.a5K<=(O3 c.kind).2)(hl:l.length<=s.a5J.a5I.length/\∀u∈l,0<cJ s.a5J u)(a:r.op=1↔c.kind=7)(hz:r.op≠1->s.a5K≠0)(k:Ri r)(t:d2.a5T=[]/\d2.close=false/\d2.want=[]/\d2.body.length<=4096/\d2.store=decide (c.kind=14)):mz s d f:=by
 obtain⟨m,n,o,p,q⟩:=t;refine .inr ⟨c,l,r,b,?_⟩;unfold G3 at h;split at h
 ·rename_i e;injection h with e1 e2;subst e1 e2;exact⟨g,i,hc,j,hf,hl.1,hl.2,a,hz,k,by rw[zu e],rfl,by rw[zu e],m,n,o,p,q⟩
 ·rename_i e;injection h with e1 e2;subst e1 e2;exact⟨g,i,hc,j,hf,hl.1,hl.2,a,hz,k,by rw[zk e],rfl,by rw[zk e],m,n,o,p,q⟩
theorem QC(op:Int):Ri {cW with op:=op}:=⟨zw _,zw _,zw _,qy,fun _=>rfl⟩
theorem EE{v:VW}{l:List (Nat×Nat)}{b:Bool}{m:List Nat}(h:X8 v l b=some m):m.length<=v.a5I.length:=by
 unfold X8 at h;simp only at h;split at h
 ·cases h
 ·injection h with h;rw[<-h,zr];refine ju (Qn _ _) ?_;simp
theorem Nu{v:VW}{u:Nat}(h:∃r∈v.a5I,r.1=u):0<cJ v u:=by
 obtain⟨r,a,e⟩:=h;unfold cJ tx
 cases hf:v.a5I.findIdx? (fun r=>decide (r.1=u)) with
 |none=>
  rw[Q5] at hf;have:=hf r a;simp[e] at this
 |some i=>exact Nat.succ_pos i
theorem EF{v:VW}{l:List (Nat×Nat)}{b:Bool}{m:List Nat}(h:X8 v l b=some m):∀u∈m,0<cJ v u:=fun u hu=>Nu ((eT h).1 u hu)
theorem Nv{k:Nat}(h:4<=k)(a:k≠7):1<=(O3 k).1:=by
 unfold O3;split
 ·omega
 ·split
  ·exact Nat.le_succ _
  ·exact z1 _
theorem zS{s o:SE}{p:DD}{k:Int}{t:Bs}(S:t.length<=1000000000)(v:s.a5J.box.length<=64)(h:cB s k t o p):mz s o p:=by
 unfold cB at h;split at h
 ·exact ig h
 split at h
 ·injection h with m n;subst m n;exact .inl ⟨rfl,rfl,rfl,rfl,rfl,.inl rfl⟩
 rename_i y;have w:s.a5K≠3:=fun e=>y (.inl e);have A:s.a5P=false:=by cases e:s.a5P;rfl;exact absurd (.inr e) y
 split at h
 ·unfold FY at h;injection h with m n;subst m n;exact .inl ⟨rfl,rfl,rfl,rfl,rfl,.inr (.inl ⟨rfl,A⟩)⟩
 split at h
 ·obtain⟨c,e,_,h⟩:=h;exact ig h
 split at h
 ·obtain⟨c,e,hp,h⟩:=h;have a:=kB S hp;rcases h with⟨_,h⟩|⟨_,h⟩|⟨_,h⟩|⟨T,h⟩
  ·exact ig h
  ·exact ig h
  ·exact ig h
  rcases h with⟨_,h⟩|⟨m,n,h⟩
  ·exact ig h
  have D:=a.kind T;have hf:=And.intro m n;have i:4<=c.kind->c.kind≠7->s.a5K≠0:=fun U J e=>by have:=Nv U J;omega
  have C:∀(r:RQ) (l:List Nat),(o,p)=G3 (s,F8) c r l->(l.length<=s.a5J.a5I.length/\∀u∈l,0<cJ s.a5J u)->(r.op=1↔c.kind=7)->(r.op≠1->s.a5K≠0)->Ri r->c.kind≠14->mz s o p:=fun r l h V M hz q d=>
   IQ (b:=s.cond) (d2:=F8) h A w a.le D hf V M hz q ⟨rfl,rfl,rfl,zw _,(jc d).symm⟩
  have j:∀(b:Bool),(o,p)=G3 ({s with cond:=b},F8) c be []->c.kind≠7->c.kind≠14->s.a5K≠0->mz s o p:=fun b h J d hz=>
   IQ (b:=b) (d2:=F8) h A w a.le D hf ⟨zw _,qy⟩ ⟨(fun e=>by cases e),fun e=>absurd e J⟩ (fun _=>hz) (QC 3) ⟨rfl,rfl,rfl,zw _,(jc d).symm⟩
  unfold PW at h;split at h
  ·rename_i d;refine IQ (b:=s.cond) h A w a.le D hf ⟨zw _,qy⟩ ⟨(fun e=>by cases e),(fun e=>by omega)⟩ (fun _=>i qb qb) ⟨a.le.box,zw _,a.le.le.a5U,a.le.fl,(fun _=>rfl)⟩ ⟨rfl,rfl,rfl,a.le.le.data,(kr d).symm⟩
  rename_i d;split at h
  ·rename_i O;rcases h with⟨r,_,h⟩|⟨l,r,Q,q,h⟩
   ·exact ig h
   ·refine C r l h ⟨EE Q,EF Q⟩ ⟨fun e=>?_,fun e=>by omega⟩ (fun _=>i qb qb) ⟨?_,q.a5L,?_,?_,(fun e=>by rcases q.op with x|x|x<;>rw[x] at e<;>cases e)⟩ d
    ·rcases q.op with x|x|x<;>rw[x] at e<;>cases e
    ·rcases q.box with e|e<;>rw[e]
     ·exact zw _
     ·exact v
    ·rcases q.a5U with e|e|e<;>rw[e]
     ·exact zw _
     ·exact a.le.le.a5U
     ·decide
    ·rcases q.a5U with e|e|e<;>rw[e]
     ·intro _ h;cases h
     ·exact a.le.fl
     ·intro f hf;rw[zg.1 hf];decide
  ·rename_i O;unfold NX at h;have g:∀(r:RQ),(o,p)=G3 (s,F8) c r []->(r.op=1↔c.kind=7)->(r.op≠1->s.a5K≠0)->Ri r->mz s o p:=fun r h m X n=>C r [] h ⟨zw _,qy⟩ m X n d;by_cases k1:c.kind=1
   ·rw[zu k1] at h;unfold U_ at h;injection h with m n;subst m n;exact .inl ⟨rfl,rfl,rfl,rfl,rfl,.inl rfl⟩
   rw[zk k1] at h;by_cases k2:c.kind=2
   ·rw[zu k2] at h;by_cases z:s.a5K=0
    ·rw[zu z] at h;exact ig h
    ·rw[zk z] at h;exact j s.cond h qb qb z
   rw[zk k2] at h;by_cases k3:c.kind=3
   ·rw[zu k3] at h;by_cases z:s.a5K=0
    ·rw[zu z] at h;unfold oE U_ FY at h;injection h with m n;subst m n;exact .inl ⟨rfl,rfl,rfl,rfl,rfl,.inr (.inl ⟨rfl,A⟩)⟩
    ·rw[zk z] at h;exact g _ h ⟨(fun e=>by cases e),(fun e=>by omega)⟩ (fun _=>z) (QC 2)
   rw[zk k3] at h;by_cases k4:c.kind=4
   ·rw[zu k4] at h;by_cases z:s.ro=true
    ·rw[zu z] at h;exact j s.cond h qb qb (i qb qb)
    ·rw[zk z] at h;exact g _ h ⟨(fun e=>by cases e),(fun e=>by omega)⟩ (fun _=>i qb qb) ⟨v,zw _,zw _,qy,(fun _=>rfl)⟩
   rw[zk k4] at h;by_cases k5:c.kind=5
   ·rw[zu k5] at h;by_cases z:s.ro=true
    ·rw[zu z] at h;exact ig h
    ·rw[zk z] at h;exact g _ h ⟨(fun e=>by cases e),(fun e=>by omega)⟩ (fun _=>i qb qb) ⟨v,zw _,zw _,qy,(fun _=>rfl)⟩
   rw[zk k5] at h;by_cases k6:c.kind=6
   ·rw[zu k6] at h;unfold U_ at h;injection h with m n;subst m n;exact .inl ⟨rfl,rfl,rfl,rfl,rfl,.inr (.inr rfl)⟩
   rw[zk k6] at h;by_cases k7:c.kind=7
   ·rw[zu k7] at h;by_cases z:c.pass=[104,111,114,110]
    ·rw[zu z] at h;exact g _ h ⟨(fun _=>k7),(fun _=>rfl)⟩ (fun e=>absurd rfl e) (QC 1)
    ·rw[zk z] at h;exact ig h
   rw[zk k7] at h;by_cases k9:c.kind<=9
   ·rw[zu k9] at h;exact j _ h k7 d (i qb k7)
   rw[zk k9] at h;by_cases k10:c.kind=10
   ·rw[zu k10] at h;exact g _ h ⟨(fun e=>by cases e),(fun e=>by omega)⟩ (fun _=>i qb k7) ⟨a.le.box,zw _,zw _,qy,(fun _=>rfl)⟩
   rw[zk k10] at h;by_cases k11:c.kind=11
   ·rw[zu k11] at h;exact g _ h ⟨(fun e=>by cases e),(fun e=>by omega)⟩ (fun _=>i qb k7) ⟨a.le.box,zw _,zw _,qy,(fun _=>rfl)⟩
   rw[zk k11] at h;by_cases k13:c.kind<=13\/c.kind=15
   ·rw[zu k13] at h;exact j s.cond h k7 d (i qb k7)
   ·exfalso;omega
 ·injection h with m n;subst m n;exact .inl ⟨rfl,rfl,rfl,rfl,rfl,.inl rfl⟩
structure mR(n:Nat)(s:SE):Prop where
 a5I:s.a5J.a5I.length<=32*n
 row:∀r∈s.a5J.a5I,r.1<=4294967296
 us:s.a5L.length<=32*n
 cmd:rk s.cmd
 num:s.num<=n
 box:s.a5J.box.length<=64
theorem mR.ok{n:Nat}{s:SE}(h:mR n s)(b:n<=1000):zF s:=⟨by have:=h.a5I;omega,by have:=h.us;omega,h.cmd.le,fun r a=>by have:=h.row r a;omega,by have:=h.num;omega⟩
theorem mR.up{n m:Nat}{s:SE}(h:mR n s)(a:n<=m):mR m s:=⟨by have:=h.a5I;omega,h.row,by have:=h.us;omega,h.cmd,by have:=h.num;omega,h.box⟩
theorem QD{n:Nat}{s e:SE}{f:DD}(d:mR n s)(h:mz s e f):mR (n+1) e:=by
 rcases h with⟨_,_,_,_,_,rfl|⟨rfl,_⟩|rfl⟩|⟨c,l,r,b,h⟩
 ·exact d.up qb
 ·have:=d.up (show n<=n+1 by omega);exact⟨this.a5I,this.row,this.us,this.cmd,this.num,this.box⟩
 ·have:=d.up (show n<=n+1 by omega);exact⟨this.a5I,this.row,this.us,this.cmd,this.num,this.box⟩
 ·have a:=d.up (show n<=n+1 by omega);rw[h.s'];refine⟨a.a5I,a.row,?_,h.le,?_,a.box⟩
  ·have:=h.len;have:=d.a5I;show l.length<=_;omega
  ·have:=d.num;show(if r.op=1 then s.num else s.num+1)<=n+1;split<;>omega
theorem qC(b:BX):∀(k:Nat) (a:List (Nat×Nat)),∀r∈(V7 b k a).1,r∈a
 |0,a,r,h=>h
 |k+1,a,r,h=>by
  unfold V7 at h;split at h
  ·exact qC b k a r h
  ·exact Jg (qC b k (a.eraseIdx k) r h)
theorem IR(b:BX)(r:Nat×Nat):(X9 b r).1.1=r.1:=by
 unfold X9;split
 ·rfl
 ·split<;>rfl
theorem QE(v:VW)(b:BX)(e c:Bool):(U7 v b e c).1.box=v.box/\(U7 v b e c).1.a5I.length<=v.a5I.length+b.lts.length/\∀r∈(U7 v b e c).1.a5I,(∃q∈v.a5I,q.1=r.1)\/∃x∈b.lts,x.uid=r.1:=by
 unfold U7;split
 ·exact⟨rfl,Nat.le_add_right _ _,fun r a=>.inl ⟨r,a,rfl⟩⟩
 ·simp only;generalize hq:(if e=true then V7 b v.a5I.length v.a5I else(v.a5I,[]))=q;have d:q.1.length<=v.a5I.length/\∀r∈q.1,r∈v.a5I:=by
   rw[<-hq];split
   ·exact⟨(kI b _ _).1,qC b _ _⟩
   ·exact⟨z1 _,fun _ h=>h⟩
  refine⟨trivial,?_,fun r a=>?_⟩
  ·simp only[zz,zr];have:=Qn (fun x:LT=>decide (L9 q.1<x.uid)) b.lts;omega
  ·rcases zb.1 a with a|a
   ·obtain⟨p,hp,rfl⟩:=jx.1 a;obtain⟨z,hz,rfl⟩:=jx.1 hp;exact .inl ⟨z,d.2 z hz,(IR b z).symm⟩
   ·obtain⟨x,f,rfl⟩:=jx.1 a;exact .inr ⟨x,(Qx.1 f).1,rfl⟩
theorem QF{b:BX}(a:CW b){n:Nat}(e:1<=n):(P4 b).a5I.length<=32*n/\(∀r∈(P4 b).a5I,r.1<=4294967296)/\(P4 b).box.length<=64:=by
 refine⟨?_,fun r c=>?_,a.name⟩
 ·show(b.lts.map fun x=>(x.uid,x.mod)).length<=_;have:=a.lts;rw[zr];omega
 ·obtain⟨x,d,rfl⟩:=jx.1 c;have:=a.uid x d;have:=a.next;show x.uid<=_;omega
theorem zL.I{v v':VW}(h:zL v v'):∀r∈v'.a5I,∃q∈v.a5I,q.1=r.1:=fun r a=>by
 have:r.1∈v'.a5I.map Prod.fst:=Zz a;rw[h.2.2] at this;obtain⟨q,b,e⟩:=jx.1 this;exact⟨q,b,e⟩
theorem IU{x:AN}{s c:SE}{r:RR}{l:List RR}{n:Nat}(h:L6 x s r c l)(j:V_ x.m.s)(a:mR n s)(k:1<=n):mR n c:=by
 have f:∀g,qf x s g r c l->mR n c:=fun g h=>by
  obtain⟨_,⟨i,rfl,d⟩,_⟩:=h;refine⟨?_,fun r m=>?_,a.us,a.cmd,a.num,?_⟩
  ·have:=d.len;have:=a.a5I;show i.a5I.length<=_;omega
  ·obtain⟨q,o,e⟩:=d.I r m;rw[<-e];exact a.row q o
  ·show i.box.length<=64;rw[d.1];exact a.box
 unfold L6 at h;split at h
 ·rw[h.1];exact⟨a.a5I,a.row,a.us,a.cmd,zw _,a.box⟩
 split at h
 ·rw[h.1];exact a
 split at h
 ·rcases h with⟨_,rfl,_⟩|⟨b,p,rfl,_⟩
  ·exact a
  ·obtain⟨t,u,v⟩:=QF (j.box b (bU p)) k;exact⟨t,u,a.us,a.cmd,a.num,v⟩
 split at h
 ·rw[h.1];exact a
 split at h
 ·rw[h.1];exact a
 split at h
 ·rw[h.1];exact a
 split at h
 ·exact f _ h
 split at h
 ·exact f _ h
 ·rw[h.1];exact a
theorem QG(s:SE){st:ML}(b:V_ st):(mG s st).lts.length<=32/\∀x∈(mG s st).lts,x.uid<=4294967296:=by
 unfold mG
 cases e9:al st s.a5J.box with
 |none=>exact⟨zw _,qy⟩
 |some b0=>
  have a:=b.box b0 (bU e9);by_cases h9:b0.val=s.a5J.val
  ·simp only[z6,zu h9,Zh];refine⟨a.lts,fun x c=>?_⟩;have:=a.uid x c;have:=a.next;omega
  ·simp only[z6,zk h9,Option.getD_none];exact⟨zw _,qy⟩
theorem iO{n:Nat}{s:SE}(a:mR n s):mR n (V8 s):=⟨a.a5I,a.row,zw _,kA rfl rfl rfl rfl rfl rfl rfl,a.num,a.box⟩
theorem nI{n:Nat}{s:SE}(a:mR n s)(k:Nat):mR n {s with a5K:=k}:=⟨a.a5I,a.row,a.us,a.cmd,a.num,a.box⟩
theorem OA{n:Nat}{s O:SE}{st:ML}{o:OC}{bl:BL}{U:DD}(t:mR n s)(u:V_ st)(h:ey s st o bl O U):mR (n+1) O:=by
 have g:=t.up (show n<=n+1 by omega);unfold ey at h;split at h
 ·rw[h.1];exact g
 rcases h with⟨w,_,_,rfl,_⟩|⟨x,hc,j,ho,hu,hb,i,h⟩
 ·exact g
 unfold fk at h;split at h
 ·rw[h.1];exact nI (iO g) 3
 split at h
 ·rw[h.1];exact nI (iO g) 3
 obtain⟨r,s1,V,X,l2,a,v,y⟩:=h;have b:=iO g;have c:∀k,mR k (V8 s)->mR k (xK x (V8 s)):=fun k p=>by
  unfold xK;split
  ·exact⟨zw _,qy,p.us,p.cmd,p.num,zw _⟩
  ·exact p
 have A:=QG s u
 -- what is told ahead of the last look
 have d:mR (n+1) s1/\s1.a5J.a5I.length+(if s1.a5K=2/\uM x=false/\x.bx.val≠0 then 32 else 0)<=32*(n+1):=by
  by_cases ho0:uM x=true
  ·have C:¬(s1.a5K=2/\uM x=false/\x.bx.val≠0):=fun h=>(by rw[h.2.1] at ho0;cases ho0);rw[zk C];split at a
   ·have:=IU a (show V_ (xL x).m.s from by show V_ x.m.s;rw[j];exact u) (c _ b) qb;exact⟨this,this.a5I⟩
   ·rw[a.1];exact⟨c _ b,(c _ b).a5I⟩
  ·have Y:uM x=false:=(by simpa using ho0);have D:¬(x.c.kind=8\/x.c.kind=9):=fun e=>by
    apply ho0;unfold uM;rcases e with e|e<;>rw[e]<;>rfl
   have J:s1.a5J.a5I.length<=32*n/\mR (n+1) s1:=by
    split at a
    ·refine⟨?_,IU a (show V_ (xL x).m.s from by show V_ x.m.s;rw[j];exact u) (c _ b) qb⟩;have f:=(c _ (iO t)).a5I;unfold L6 at a;rw[zk (show¬((xL x).c.kind=8\/(xL x).c.kind=9) from D)] at a;have Q:∀S,qf (xL x) (xK x (V8 s)) S r s1 V->s1.a5J.a5I.length<=32*n:=fun S h=>by
      obtain⟨_,⟨Z,rfl,hv⟩,_⟩:=h;have:=hv.len;show Z.a5I.length<=_;omega
     split at a
     ·rw[a.1];exact f
     split at a
     ·rw[a.1];exact f
     split at a
     ·rw[a.1];exact f
     split at a
     ·rw[a.1];exact f
     split at a
     ·rw[a.1];exact f
     split at a
     ·exact Q _ a
     split at a
     ·exact Q _ a
     ·rw[a.1];exact f
    ·rw[a.1];exact⟨(c _ (iO t)).a5I,c _ b⟩
   refine⟨J.2,?_⟩;split<;>omega
 have l:mR (n+1) X:=by
  split at v
  ·rename_i m;rw[zu m] at d;obtain⟨e1,e2,T⟩:=QE s1.a5J x.bx.x (!ib x) s1.cond;rw[v.1];rw[i] at e2 T;refine⟨?_,fun r hr=>?_,d.1.us,d.1.cmd,d.1.num,?_⟩
   ·show(U7 s1.a5J x.bx.x (!ib x) s1.cond).1.a5I.length<=_;rw[i];omega
   ·have M:r∈(U7 s1.a5J (mG s st) (!ib x) s1.cond).1.a5I:=(by rw[<-i];exact hr);rcases T r M with⟨q,hq,e⟩|⟨z,hz,e⟩
    ·rw[<-e];exact d.1.row q hq
    ·rw[<-e];exact A.2 z hz
   ·show(U7 s1.a5J x.bx.x (!ib x) s1.cond).1.box.length<=64;rw[e1];exact d.1.box
  ·rw[v.1];exact d.1
 split at y
 ·rw[y.1];exact nI l 3
 ·rw[y.1];exact l
theorem QH{n:Nat}{s b:SE}{c:DD}(d:mR n s)(h:(b,c)=T6 s):mR (n+1) b:=by
 have a:=d.up (show n<=n+1 by omega);unfold T6 at h;split at h
 ·injection h with h1 h2;rw[h1];exact a
 split at h
 ·injection h with h1 h2;rw[h1];exact nI (iO a) 3
 ·injection h with h1 h2;rw[h1];exact iO a
structure RqI(r:RQ):Prop where
 ok:wU r
 op:r.op=1->r.life<18446744073709551616/\r.tr<18446744073709551616
structure IV(n:Nat)(w:WM):Prop where
 se:mR n w.s
 ml:uH w.m.s
 q:RqI w.q
 tr:w.tr<=n
 bll:w.bl.length<=n
 body:∀p∈w.bl,p.2.length<=4096
structure iP(a:AX):Prop where
 text:a.text.length<=1000000000
 q:RqI a.other
def kK(w:WM)(a:AX)(w':WM)(t:TN):Prop:=(a.kind=1/\w.s.a5P=false/\w'=w/\t=EZ w a)\/
 ∃w1 c,cD w a t.b t.d w1.m.s w1.bl t.hears t.comes t.fails c/\(t.a=w.s/\t.hk=a.hk/\t.ht=a.text/\t.c=w.s.cmd)/\(w1.q=w.q/\w1.tr=w.tr)/\sO w1 t w'
theorem xf.step{w:WM}{a:AX}{w':WM}{t:TN}{c:Bool}{h:l_}(k:xf w a w' t c h):kK w a w' t:=by
 rcases k with⟨b,d,e,f,_⟩|⟨g,b,d,_⟩
 ·exact .inl ⟨b,d,e,f⟩
 ·exact .inr ⟨g,c,b.dn,⟨b.ta.1,b.ta.2.2.1,b.ta.2.2.2.1,b.ta.2.2.2.2.1⟩,⟨b.tw.1,b.tw.2.2⟩,d⟩
theorem QI{o:OC}(h:cE o):(o.a5L.length<=100000/\fP o.a5L)/\(o.mods.length<=100000/\fP o.mods)/\o.val<18446744073709551616:=by
 have a:=h.a5L;have b:=h.mods;have c:=h.val;exact⟨⟨by omega,fun u hu=>by have:=a.2 u hu;omega⟩,⟨by omega,fun u hu=>by have:=b.2 u hu;omega⟩,by omega⟩
theorem sP{s d:SE}{a:DD}(h:mz s d a):a.body.length<=4096:=by
 rcases h with⟨_,_,_,e,_⟩|⟨c,l,r,b,h⟩
 ·rw[e];simp
 ·exact h.body
theorem zT{n:Nat}{w:WM}{a:AX}(h:IV n w)(ha:iP a)(d:n<=800):BV w a:=by
 have b:=fU h.ml w.q h.q.ok.num h.q.op;have hu:=QI b.2;exact⟨h.se.ok qb,by have:=h.se.a5I;omega,by have:=h.se.us;omega,h.ml.ok,h.q.ok,ha.q.ok,ha.text,b.1.ok,hu.1,hu.2.1,hu.2.2,by have:=h.tr;omega,by have:=h.bll;omega,fun p hp=>by have:=h.body p hp;omega,fun e f c=>by have:=sP (zS ha.text h.se.box c);omega⟩
theorem TE{n:Nat}{s:SE}{r:RQ}(a:n<=1000)(hs:s.num<=n)(h:Ri r):wU {r with ses:=s.ses,num:=s.num+1}:=
 ⟨by show s.num+1<_;omega,by have:=h.box;exact ju this qp,by have:=h.a5L;show r.a5L.length<=_;omega,by have:=h.a5U;show r.a5U.length<=_;omega,fun f hf=>ju (h.fl f hf) qp⟩
structure DdI(n:Nat)(d:DD):Prop where
 req:d.ask=true->wU d.req
 body:d.body.length<=4096
theorem IW{s c:SE}{st:ML}{o:OC}{bl:BL}{b:DD}(h:ey s st o bl c b):b.ask=false/\b.store=false/\b.req=cW:=by
 unfold ey at h;split at h
 ·rw[h.2];exact qm
 rcases h with⟨d,_,_,_,e⟩|⟨f,_,_,_,_,_,_,a⟩
 ·rw[e];exact qm
 ·have:=cC a;exact⟨this.2.2.1,this.2.2.2.1,this.1⟩
theorem Cb(s:SE):(T6 s).2.ask=false/\(T6 s).2.store=false/\(T6 s).2.req=cW:=by
 unfold T6;split
 ·exact qm
 ·split<;>exact qm
theorem QJ{n:Nat}{w:WM}{a:AX}{v:SE}{q:DD}{A:ML}{f:BL}{x y z c:Bool}(h:IV n w)(ha:iP a)(J:n<=800)(g:cD w a v q A f x y z c):
  mR (n+1) v/\uH A/\(f.length<=n\/f.length<=n+1/\q.store=false)/\(∀p∈f,p.2.length<=4096)/\DdI n q:=by
 have j:=fU h.ml w.q h.q.ok.num h.q.op;unfold cD at g;split at g
 ·obtain⟨i,rfl,rfl,_⟩:=g;have hs:=zS ha.text h.se.box i;refine⟨QD h.se hs,h.ml,.inl h.bll,h.body,fun e=>?_,sP hs⟩;rcases hs with⟨d,_⟩|⟨c,l,r,b,t⟩
  ·rw[e] at d;cases d
  ·rw[t.req];have k:=TE (n:=n) (s:=w.s) qb h.se.num t.rq;split
   ·exact⟨by rename_i D;rw[t.rq.num D];decide,k.box,k.a5L,k.a5U,k.fl⟩
   ·exact k
 split at g
 ·obtain⟨_,⟨s1,M,i,m⟩,rfl,rfl,_⟩:=g;have C:=j.1.ok;split at m
  ·obtain⟨rfl,rfl⟩:=m;have e:=IW i;exact⟨OA h.se C i,j.1,.inl h.bll,h.body,(fun d=>by rw[e.1] at d;cases d),by rw[gI i];simp⟩
  ·have e:=IW m;exact⟨OA h.se C m,j.1,.inl h.bll,h.body,(fun d=>by rw[e.1] at d;cases d),by rw[gI m];simp⟩
 split at g
 ·obtain⟨i,rfl,rfl,_⟩:=g;have o:q=(T6 w.s).2:=by rw[<-i]
  have e:=Cb w.s;rw[<-o] at e;exact⟨QH h.se i,h.ml,.inl h.bll,h.body,(fun d=>by rw[e.1] at d;cases d),by rw[o,qv];simp⟩
 ·obtain⟨rfl,rfl,rfl,rfl,_⟩:=g;have u:=fU h.ml a.other ha.q.ok.num ha.q.op;refine⟨h.se.up qb,u.1,.inr ⟨?_,rfl⟩,fun p hp=>?_,(fun e=>by cases e),by simp⟩
  ·have:=h.bll;rw[zz];simp only[zy,zn];omega
  ·rcases zb.1 hp with hp|hp
   ·exact h.body p hp
   ·rw[zg.1 hp];show(9:Nat)<=4096;decide
theorem IX{n:Nat}{w:WM}{a:AX}{w':WM}{t:TN}(h:IV n w)(ha:iP a)(k:n<=800)(hs:kK w a w' t):IV (n+1) w':=by
 rcases hs with⟨_,_,rfl,_⟩|⟨l,c,m,u,g,b⟩
 ·exact⟨h.se.up qb,h.ml,h.q,by have:=h.tr;omega,by have:=h.bll;omega,h.body⟩
 ·obtain⟨o,q,d,i,j⟩:=QJ h ha k m;refine⟨by rw[b.s];exact o,by rw[b.m];exact q,?_,?_,?_,?_⟩
  ·rw[b.q];unfold iN;split
   ·rename_i e;have f:=j.req e;split
    ·have:=h.tr;exact⟨⟨f.num,f.box,f.a5L,f.a5U,f.fl⟩,fun _=>⟨by show 1<_;decide,by show l.tr+1<_;rw[g.2];omega⟩⟩
    ·rename_i r;exact⟨f,fun s=>absurd s r⟩
   ·rw[g.1];exact h.q
  ·rw[b.tr];unfold EX;have:=h.tr;split
   ·split<;>rw[g.2]<;>omega
   ·rw[g.2];omega
  ·rw[b.bl];unfold Rh;split
   ·rename_i e;rcases d with d|⟨_,d⟩
    ·rw[zz];simp only[zy,zn];omega
    ·rw[e] at d;cases d
   ·rcases d with d|⟨d,_⟩<;>omega
  ·rw[b.bl];unfold Rh;split
   ·intro p hp;rcases zb.1 hp with hp|hp
    ·exact i p hp
    ·rw[zg.1 hp];exact j.body
   ·exact i
inductive bq (w0:WM):List AX->List TN->WM->Prop
 |nil:bq w0 [] [] w0
 |snoc {l:List AX} {ts:List TN} {w w':WM} {a:AX} {t:TN}:bq w0 l ts w->kK w a w' t->bq w0 (l++[a]) (ts++[t]) w'
theorem qD{w0 w:WM}{l:List AX}{b:List TN}(h:bq w0 l b w)(c:IV 0 w0)(ha:∀a∈l,iP a)(hl:l.length<=800):IV l.length w/\b.length=l.length:=by
 induction h with
 |nil=>exact⟨c,rfl⟩
 |snoc hp hs ih=>
  rename_i l b w g a t;have d:l.length+1<=800:=by simpa using hl
  obtain⟨e,f⟩:=ih (fun a h=>ha a (Kc _ h)) qb;rw[zz,zz,f];exact⟨IX e (ha _ (K3 _ (zg.2 rfl))) qb hs,rfl⟩
abbrev xh:RQ:={cW with op:=1,node:=5,life:=1,tr:=1}
abbrev xi(m:MM):WM:=⟨oD,qV,m,cW,db,0,[],none,0⟩
def xj:ML:=(D6 FW xh).1
def a1Q(h:l_)(v:Value)(A:List As):Prop:=∃m,v=EW (xi m)/\A=[]/\m.s=xj/\iB m h
theorem IY:wU xh:=⟨by decide,by decide,by decide,by decide,qy⟩
theorem xl:Cm prog 16 [] (fun _=>True) [] a1Q:=by
 refine y4 11 func16 rfl rfl rfl ?_;intro F R _;refine C6 ?_;refine i7 rfl ?_;intro k;refine C6 ?_;refine A8 Qe trivial ?_;rintro v A l d ⟨h,rfl,a,rfl,e⟩;refine f_ (y8 (ps:=[(0,.const (.int .i64 1)),(3,.const (.int .i64 5)),(4,.const (.int .u64 1)),(5,.const (.int .u64 1))]) (vs:=[(0,.int .i64 1),(3,.int .i64 5),(4,.int .u64 1),(5,.int .u64 1)]) (cells:=(eA xh db).toArray) rfl i6) ?_;refine A8 (pY h xh db (by rw[a];exact IP.ok) IY) ⟨e,o0.nil _ _,o0.nil _ _⟩ ?_;rintro v A m f ⟨c,o,n,rfl,g,p,rfl,b,i⟩;refine E5 ?_;refine i7 rfl ?_;intro q;refine i7 rfl ?_;intro r;refine E5 ?_;refine f_ (y8 (ps:=[(1,.tmp 9)]) (vs:=[(1,uK c)]) (cells:=(Oy (xi c)).toArray) rfl i6) ?_;refine C8 ?_;refine H3 (A:=[]) (v:=EW (xi c)) (d.trans f) ⟨c,rfl,rfl,by rw[g,a];rfl,b⟩ ?_;exact G6 rfl rfl ud rfl _ qh (fun v j=>C5 (A:=[]) (J:=[_,_,_]) tk j)
theorem xn{m:MM}(h:m.s=xj):IV 0 (xi m):=by
 refine⟨⟨zw _,qy,zw _,kA rfl rfl rfl rfl rfl rfl rfl,zw _,zw _⟩,?_,⟨⟨by show 0<18446744073709551616;decide,zw _,zw _,zw _,qy⟩,fun e=>by cases e⟩,z1 _,z1 _,qy⟩;show uH m.s;rw[h];exact(fU IP xh qp (fun _=>⟨by decide,by decide⟩)).1
structure rn(t:TN)(h:l_):Prop where
 a:U2 t.a t.ax h
 ar:o0 h t.ax.ra (V5 t.a.a5J.a5I)
 b:U2 t.b t.bx h
 br:o0 h t.bx.ra (V5 t.b.a5J.a5I)
 a5T:t.d.a5T=t.y.rl.map Prod.fst
 row:o0 h t.y.da (NY t.y.rl)
 rep:∀m∈t.y.rl,fC m.1 m.2 h
instance {t:TN}:Mn (rn t):=⟨fun l k=>⟨Mn.le l k.a,k.ar.le l,Mn.le l k.b,k.br.le l,k.a5T,k.row.le l,fun m hm=>(k.rep m hm).le l⟩⟩
theorem IZ{h:l_}:∀{l:List RM} {bs:List Nat},A3 h (Y_ l) bs->(∀m∈l,kH m h)->∀m∈l,fC m.1 m.2 h
 |[],_,_,_,m,a=>by cases a
 |x::t,bs,hs,hp,m,a=>by
  have b:A3 h (Y_ [x]++Y_ t) bs:=by rw[<-nH];exact hs
  obtain⟨c,j,rfl,d,e⟩:=A3.split b;rcases ky.1 a with rfl|a
  ·rcases hp m Qq with⟨f,_⟩|⟨g,i,rfl⟩
   ·exact f
   ·exact⟨rfl,o0.nil _ _,A3.rd (show A3 h [A4 g R5 i] c from d) ud,o0.nil _ _,qy⟩
  ·exact IZ e (fun m a=>hp m (jj _ a)) m a
theorem Nw{h:l_}{c:Bool}{t:TN}{bs:List Nat}(hs:A3 h (fm c t) bs)(hp:∀m∈t.y.rl,kH m h)(hc:c=true):o0 h t.bx.ra (V5 t.b.a5J.a5I)/\o0 h t.y.da (NY t.y.rl)/\∀m∈t.y.rl,fC m.1 m.2 h:=by
 unfold fm at hs;rw[zu hc] at hs;refine⟨A3.rd hs ud,A3.rd hs ud,?_⟩;obtain⟨d,e,rfl,_,a⟩:=hs;obtain⟨f,g,rfl,_,b⟩:=a;exact IZ b hp
theorem Ja{w w':WM}{a:AX}{t:TN}{c:Bool}{h e:l_}{bs:List Nat}(d:lI w e)(hf:xf w a w' t c h)(hl:l_.le h e)(hs:A3 e (fm c t) bs):lI w' e/\rn t e:=by
 rcases hf with⟨_,_,rfl,rfl,_⟩|⟨n,g,b,i⟩
 ·exact⟨d,d.se,d.a5I,d.se,d.a5I,rfl,o0.nil _ _,qy⟩
 ·have hp:=g.le hl;have f:o0 e t.bx.ra (V5 t.b.a5J.a5I)/\o0 e t.y.da (NY t.y.rl)/\∀m∈t.y.rl,fC m.1 m.2 e:=by
   cases c with
   |true=>exact Nw hs hp.rp rfl
   |false=>
    obtain⟨j,k,l⟩:=hp.cf rfl;rw[j,k,l];exact⟨d.a5I,o0.nil _ _,qy⟩
  refine⟨⟨d.g,by rw[b.s,b.x];exact f.1,by rw[b.s,b.x];exact hp.se,by rw[b.m];exact hp.m,?_,i.le hl⟩,by rw[hp.ta.1,hp.ta.2.1];exact d.se,by rw[hp.ta.1,hp.ta.2.1];exact d.a5I,hp.se,f.1,hp.a5T,f.2.1,f.2.2⟩;rw[b.q,b.ql];unfold iN;split
  ·split
   ·exact⟨hp.rq.a5L,hp.rq.a5U⟩
   ·exact hp.rq
  ·rw[hp.tw.1,hp.tw.2.1];exact d.q
theorem xf.le{w w':WM}{a:AX}{t:TN}{c:Bool}{h b:l_}(k:xf w a w' t c h)(l:l_.le h b):xf w a w' t c b:=by
 rcases k with k|⟨d,e,f,g⟩
 ·exact .inl k
 ·exact .inr ⟨d,e.le l,f,g.le l⟩
abbrev lJ:=AX×QL
abbrev JX(p:lJ):List Value:=EY p.1 p.2
theorem kL:∀x,(JX x).length=21:=fun _=>rfl
theorem U4:∀x,(dH x).length=99:=fun _=>rfl
theorem eW:∀x,∀q∈dH x,q.oneCell'=true:=fun x q a=>by
 have:(dH x).all (fun q=>q.oneCell')=true:=rfl;exact Qv.1 this q a
abbrev kM(o:AC)(ts:List TN):As:=.own (.slice o.1 ts.length o.2) 48 99 (ts.flatMap dH)
def QK(l:List lJ)(h:l_)(v:Value)(A:List As):Prop:=∃m ts w a c,v=.slice a ts.length c/\A=[]/\o0 h a (ts.flatMap dH)/\(∀t∈ts,rn t h)/\m.s=xj/\bq (xi m) (l.map Prod.fst) ts w
theorem Je(l:List lJ)(X:Option Addr)(lc:Nat)(hl:l.length<=120)(ha:∀p∈l,iP p.1):
  Cm prog 11 [.slice X l.length lc] (fun h=>Gl h/\o0 h X (l.flatMap JX)/\∀p∈l,dC p.1.other p.2 h) [] (QK l):=by
 refine y4 28 func11 rfl rfl rfl ?_;rintro F R ⟨hg,Y,h4⟩;refine xC ?_;refine A8 xl trivial ?_;rintro v A F0 h0 ⟨m,rfl,rfl,hm,h5⟩;refine i7 rfl ?_;intro u;refine y9 ?_;refine H9 1 ?_;refine S6 (fun(b:List TN) (o:AC) (w:WM) (x:l6)=>F.le x/\bq (xi m) (l.map Prod.fst) b w/\∀t∈b,rn t x.heap) (fun b o _ _=>[(4,.slice o.1 b.length o.2)]) (fun _ _ _ x=>x) (fun b o w _=>kM o b::ie u w::R) ?_ ?_
 ·refine n8 ?_;refine bJ (ι:=Nat×List TN×AC×WM×l6) (fun i=>i.1<=l.length/\F.le i.2.2.2.2/\bq (xi m) ((l.map Prod.fst).take i.1) i.2.1 i.2.2.2.1/\(∀t∈i.2.1,rn t i.2.2.2.2.heap)/\lI i.2.2.2.1 i.2.2.2.2.heap) (fun i=>[(0,.slice X l.length lc),(3,l9 u),(4,.slice i.2.2.1.1 i.2.1.length i.2.2.1.2),(5,.int .i64 (i.1:Nat))]) (fun i=>i.2.2.2.2)
   (fun i=>match i with|(_,b,o,w,_)=>kM o b::ie u w::R) (fun i=>l.length-i.1) (0,[],(none,0),xi m,F0) ⟨zw _,h0,by rw[Kx];exact .nil,qy,⟨hg.le h0.heap,o0.nil _ _,⟨o0.nil _ _,fh.zero _⟩,h5,⟨o0.nil _ _,o0.nil _ _⟩,o0.nil _ _⟩⟩ sub rfl (fun v e=>C5 (A:=[kM (none,0) [],_]) (J:=[]) tk (e.addNil 48 99)) ?_
  rintro⟨j,b,o,w,x⟩ ⟨hj,n,r,y,M⟩;simp only at hj n r y M;have D:((l.map Prod.fst).take j).length=j:=by rw[zm,zr];omega
  have O:=qD r (xn hm) (fun a h=>by
   obtain⟨p,hp,rfl⟩:=jx.1 (Jz h);exact ha p hp) (by rw[D];omega)
  rw[D] at O;have q1:b.length=j:=O.2;refine CO ?_ ?_<;>intro h
  ·have s:j<l.length:=(by have:=qr h;omega);have h6:=y7 (Y.le n.heap) kL qp s;have h7:iP l[j].1:=ha _ (zx s);have h1:=IK w l[j].1 l[j].2 (zT O.1 h7 qb);have h8:dC l[j].1.other l[j].2 x.heap:=Mn.le n.heap (h4 _ (zx s));refine H9 0 ?_;refine S6 (fun(g:List TN) (Q:AC) (f:WM) (k:l6)=>F.le k/\bq (xi m) ((l.map Prod.fst).take (j+1)) g f/\(∀t∈g,rn t k.heap)/\lI f k.heap) (fun g Q _ _=>[(0,.slice X l.length lc),(3,l9 u),(4,.slice Q.1 g.length Q.2),(5,.int .i64 (j:Nat))]) (fun _ _ _ k=>k) (fun g Q f _=>kM Q g::ie u f::R) ?_ ?_
   ·refine n8 ?_;refine C6 ?_;refine i7 rfl ?_;intro g6;refine u7 ?_;refine H9 0 ?_;refine S6 (fun(f:WM) (t:TN) (c:Bool) (k:l6)=>x.le k/\xf w l[j].1 f t c k.heap) (fun _ _ _ _=>[(0,.slice X l.length lc),(3,l9 u),(4,.slice o.1 b.length o.2),(5,.int .i64 (j:Nat)),(6,l9 g6)]) (fun _ _ _ k=>k) (fun f t c _=>iM g6 t::kM o b::ie u f::(fm c t++R)) ?_ ?_
    ·refine u7 ?_;refine D8 [0] [4,5,9,10] [ie u w] 11 ?_;refine wd [0,1,2] ?_;refine w_ 3 rfl (m8 rfl h6 rfl qb) ?_;refine h_ 4 rfl i6 ?_;refine r_ (w8 rfl (fun v e=>fe (C:=JX) ((Y.le n.heap).le e.keep) kL qp s x6) (kL _)) ?_;refine ah ?_;refine h_ 5 rfl i6 ?_;refine R7 h1 ⟨M,h8⟩ ?_;rintro v A Z Fz hz ⟨f,t,c,rfl,rfl,hf⟩;refine I7 (H':=_::_::_::(fm c t++(R++Z))) (fun v e=>e.perm (Qb (fm c t) [_,_,_] (R++Z))) ?_;refine E6 [6,7,8,9,10] ?_
     all_goals exact ew (Rr:=iM g6 t::kM o b::ie u f::(fm c t++R)) Fz hz (fun v e=>by
      show Hp x v (iM g6 t::kM o b::ie u f::((fm c t++R)++Z));rw[zh];exact C5 (A:=[_,_,_]) (J:=[]) tk e) fun k d h9=>y5 (f,t,c,k) ⟨d,hf.le h9⟩ rfl (fun v e=>e)
    rintro f t c k ⟨d,hf⟩;refine u7 ?_;refine D5 (H':=(iM g6 t::kM o b::ie u f::R)++fm c t) (fun v e=>e.perm (((kz.cons _).cons _).cons _)) (bZ fun F3 z S=>?_);obtain⟨bs,S⟩:=S;obtain⟨T,U⟩:=Ja (Mn.le (d.trans z).heap M) hf z.heap S;clear S;refine y9 ?_;refine C4 dH t rfl ?_;intro q2 _;refine u6 dH (l:=b) (m:=[t]) U4 eW (by show(b.length+1)*1216<=_;omega) ?_;intro k0 k8 _;refine p_ ?_;have V:bq (xi m) ((l.map Prod.fst).take (j+1)) (b++[t]) f:=by
     rw[kj (by rw[zr];exact s),J6];exact .snoc r hf.step
    have h2:=(n.trans d).trans z;exact y5 (b++[t],(k0,k8),f,F3) ⟨h2,V,fun q hq=>by
     rcases zb.1 hq with hq|hq
     ·exact Mn.le (d.trans z).heap (y q hq)
     ·rw[zg.1 hq];exact U,T⟩ rfl (fun v e=>C5 (A:=[_,_]) (J:=[_,_]) tk e)
   rintro g Q f k ⟨d,k9,U,T⟩;refine E5 ?_;exact O_ (i:=(j,b,o,w,x)) (j+1,g,Q,f,k) ⟨s,d,k9,U,T⟩ qg sub rfl (fun v e=>e)
  ·refine u7 ?_;exact y5 (b,o,w,x) ⟨n,by have:(l.map Prod.fst).take j=l.map Prod.fst:=jq (by rw[zr];have:=zq h;omega);rw[<-this];exact r,y⟩ rfl (fun v e=>e)
 rintro b o w x ⟨q0,r,y⟩;refine y9 ?_;refine B8 (Z:=[kM o b]) tk fun k d ⟨bs,S⟩=>?_;have h3:o0 k.heap o.1 (b.flatMap dH):=A3.rd S ud;clear S;refine A2 ?_;refine H3 (A:=[]) (v:=.slice o.1 b.length o.2) (q0.trans d) ⟨m,b,w,o.1,o.2,rfl,rfl,h3,fun t ht=>Mn.le d.heap (y t ht),hm,r⟩ ?_;exact d_ rfl rfl _ qh (fun v e=>e.drop)
theorem sQ{h:l_}{a:Option Addr}{q j:Nat}{cs vs:List Value}(p:M0 h (N0 a q) cs)(hv:∀k u,vs[k]? =some u->cs[j+k]? =some u):M0 h (N0 a (q+j)) vs:=by
 obtain⟨b,e,k⟩:=p
 cases a with
 |none=>cases e
 |some a0=>
  injection e with e;subst e;exact⟨a0.add (q+j),rfl,fun m u hu=>by rw[<-fX];have:=k _ _ (hv m u hu);rw[<-fX] at this;exact this⟩
abbrev Cc(n:Nat):Nat:=min n 1048576
structure OB(S:Nat)(a:AX):Prop where
 a5L:a.other.a5L.length<=1000
 a5U:a.other.a5U.length<=200
 text:Cc a.text.length<=S
 box:Cc a.other.box.length<=S
 dest:Cc a.other.tz.length<=S
 fl:∀f∈a.other.a5U,Cc f.length<=S
theorem OB.up{S b:Nat}{a:AX}(h:OB S a)(hs:S<=b):OB b a:=⟨h.a5L,h.a5U,ju h.text hs,ju h.box hs,ju h.dest hs,fun f hf=>ju (h.fl f hf) hs⟩
theorem qE(n:Nat):Cc n<=1048576:=Nat.min_le_right _ _
theorem Jf(l:List lJ)(o:Option Addr)(T:Nat):
  Ct prog 10 [.slice o l.length T] (fun h=>o0 h o (l.flatMap JX)/\∀p∈l,dC p.1.other p.2 h) [] (fun v A=>A=[]/\∃b:Bool,v=.bool b/\(b=false->l.length<=120/\∀p∈l,OB 32768 p.1)):=by
 refine b_ 85 func10 rfl rfl rfl ?_;rintro F ⟨Y,k0⟩;refine CO ?_ ?_<;>intro h
 ·refine C8 ?_;exact d_ rfl rfl [] ⟨rfl,true,rfl,(fun e=>by cases e)⟩ (fun v c=>c)
 have y:l.length<=120:=by have:=zq h;omega
 refine p_ ?_;refine H9 1 ?_;refine n7 (ι:=Nat) (fun S=>S<=l.length*300000000/\∀p∈l,OB S p.1) (fun S=>[(3,.int .i64 (S:Nat))]) (fun _=>[]) ?_ ?_
 ·refine n8 ?_;refine o9 (ι:=Nat×Nat) (fun i=>i.1<=l.length/\i.2<=i.1*300000000/\∀p∈l.take i.1,OB i.2 p.1) (fun i=>[(0,.slice o l.length T),(3,.int .i64 (i.2:Nat)),(4,.int .i64 (i.1:Nat))]) (fun _=>[]) (fun i=>l.length-i.1) (0,0) ⟨zw _,zw _,(fun _ h=>by simp at h)⟩ sub (fun v c=>c) ?_;rintro⟨j,S⟩ ⟨hj,hS,U⟩;simp only at hj hS U;refine CO ?_ ?_<;>intro h
  ·have g:j<l.length:=(by have:=qr h;omega);have Z:=y7 Y kL qp g;obtain⟨a,ha⟩:=o7 (l[j].1);obtain⟨z,hz⟩:=o7 (l[j].2);have D:l[j]=(a,z):=(by rw[ha,hz]);have C5:∀{w:World} {H:List As},Hp F w H->M0 (hp w) (N0 o (j*21)) (JX (a,z)):=fun c=>by
    have:=fe (C:=JX) (Y.le c.keep) kL qp g (q:=j*21) rfl
    rwa [D] at this
   have h0:dC a.other z F.heap:=(by have:=k0 _ (zx g);rwa [D] at this);have h4:o0 F.heap z.fa (a.other.a5U.flatMap xF):=(by have:=h0.a5U;rwa [AE] at this);refine H9 0 ?_;refine n7 (ι:=Nat) (fun d=>S<=d/\d<=(j+1)*300000000/\OB d a) (fun d=>[(0,.slice o l.length T),(3,.int .i64 (d:Nat)),(4,.int .i64 (j:Nat))]) (fun _=>[]) ?_ ?_
   ·refine n8 ?_;refine y9 ?_;refine f_ (m8 rfl Z rfl qb) ?_;refine p_ ?_;refine r_ (w8 (cs:=eA a.other z) rfl (fun v c=>sQ (j:=4) (C5 c) (fun k u hu=>by rw[<-Zu];exact hu)) rfl) ?_;refine i7 rfl ?_;intro V;refine p_ ?_;refine H9 0 ?_;refine n7 (ι:=Bool) (fun q=>q=false->a.other.a5L.length<=1000/\a.other.a5U.length<=200) (fun q=>[(0,.slice o l.length T),(3,.int .i64 (S:Nat)),(4,.int .i64 (j:Nat)),(5,l9 V),(30,.bool q)]) (fun _=>[.blk V (.cells (eA a.other z).toArray 44)]) ?_ ?_
    ·by_cases hu:1000<a.other.a5L.length
     ·refine E5 ?_;refine f_ ((D_ rfl rfl).eq (v':=.bool true) (qn (kr (show(1000:Int)<((a.other.a5L.length:Nat):Int) by omega)))) ?_;refine cG ?_;exact g_ true (fun e=>by cases e) (fun v c=>c)
     ·refine E5 ?_;refine f_ ((D_ rfl rfl).eq (v':=.bool false) (qn (jc (show¬(1000:Int)<((a.other.a5L.length:Nat):Int) by omega)))) ?_;refine O2 ?_;(first|refine u_ ?_|(refine v_ ?_;refine f_ ((D_ rfl rfl).eq (v':=.bool (decide (200<a.other.a5U.length))) (qn qz)) ?_));refine p_ ?_;exact g_ (decide (200<a.other.a5U.length)) (fun e=>⟨by omega,by have:=zq e;omega⟩) (fun v c=>c)
    intro q6 h5;refine N8 ?_ ?_<;>intro h
    ·refine C8 ?_;exact d_ rfl rfl [] ⟨rfl,true,rfl,(fun e=>by cases e)⟩ (fun v c=>c.drop)
    obtain⟨k8,h6⟩:=h5 h;obtain⟨t1,J⟩:=o7 (Cc a.text.length);obtain⟨t2,M⟩:=o7 (Cc a.other.box.length);obtain⟨t3,O⟩:=o7 (Cc a.other.tz.length);obtain⟨t4,h7⟩:=o7 (Cc a.other.hash.length);have k9:=qE a.text.length;have q0:=qE a.other.box.length;have q1:=qE a.other.tz.length;have q2:=qE a.other.hash.length;rw[<-J] at k9;rw[<-M] at q0;rw[<-O] at q1;rw[<-h7] at q2;have r:=qo a.text.length;have s:=qo a.other.box.length;have t:=qo a.other.tz.length;have x:=qo a.other.hash.length;rw[show min a.text.length 1048576=t1 from J.symm] at r;rw[show min a.other.box.length 1048576=t2 from M.symm] at s;rw[show min a.other.tz.length 1048576=t3 from O.symm] at t;rw[show min a.other.hash.length 1048576=t4 from h7.symm] at x;refine u7 ?_;refine D8 [11,16,21,26,31] [6,8,23,28,33] [.blk V (.cells (eA a.other z).toArray 44)] 37 ?_;refine wd [0,1,2] ?_;refine w_ 3 rfl (m8 rfl Z rfl qb) ?_;refine wd [4,5,10,11,12,13,15,16,17,18,20,21,22,25,26,27,30,31,32] ?_;refine h_ 6 rfl i6 ?_;refine r_ (i8 (v:=B a.text) rfl (fun v c=>sQ (j:=2) (vs:=[B a.text]) (C5 c) (fun k u hu=>by match k,hu with|0,hu=>exact hu|k+1,hu=>simp at hu))) ?_;refine gj [7] ?_;refine h_ 8 rfl i6 ?_;refine e_ rfl r qw rfl ?_;refine gj [9,14,19] ?_;refine h_ 23 rfl i6 ?_;refine e_ rfl s qw rfl ?_;refine gj [24] ?_;refine h_ 28 rfl i6 ?_;refine e_ rfl t qw rfl ?_;refine gj [29] ?_;refine h_ 33 rfl i6 ?_;refine e_ rfl x qw rfl ?_;refine gj [34] ?_;refine w_ 35 rfl ((p9 rfl rfl qb).eq (v':=.int .i64 ((S+t1+8*a.other.a5L.length+8*a.other.a5U.length+t2+t3+t4/16:Nat):Int)) (by congr 1)) ?_;refine wd [36] ?_;obtain⟨S1,q3⟩:=o7 (S+t1+8*a.other.a5L.length+8*a.other.a5U.length+t2+t3+t4/16);have q5:S1<=j*300000000+10000000:=(by omega);rw[<-q3];refine H9 1 ?_;refine n7 (ι:=Nat) (fun d=>S1<=d/\d<=S1+a.other.a5U.length*1048576/\∀f∈a.other.a5U,Cc f.length<=d) (fun d=>[(0,.slice o l.length T),(3,.int .i64 (d:Nat)),(4,.int .i64 (j:Nat))]) (fun _=>[.blk V (.cells (eA a.other z).toArray 44)]) ?_ ?_
    ·refine n8 ?_;refine o9 (ι:=Nat×Nat) (fun i=>i.1<=a.other.a5U.length/\S1<=i.2/\i.2<=S1+i.1*1048576/\∀f∈a.other.a5U.take i.1,Cc f.length<=i.2) (fun i=>[(0,.slice o l.length T),(3,.int .i64 (i.2:Nat)),(4,.int .i64 (j:Nat)),(5,l9 V),(6,.int .i64 (i.1:Nat))]) (fun _=>[.blk V (.cells (eA a.other z).toArray 44)]) (fun i=>a.other.a5U.length-i.1) (0,S1) ⟨zw _,z1 _,Nat.le_add_right _ _,(fun _ h=>by simp at h)⟩ sub (fun v c=>c) ?_;rintro⟨k,d⟩ ⟨hk,g1,g2,X⟩;simp only at hk g1 g2 X;refine au ?_;refine o8 rfl ?_ ?_<;>intro h
     ·have n:k<a.other.a5U.length:=(by have:=qr h;omega);have h8:=y7 h4 dh qp n;have q4:=qE a.other.a5U[k].length;obtain⟨Q,m⟩:=o7 (Cc a.other.a5U[k].length);have h9:=qo a.other.a5U[k].length;rw[show min a.other.a5U[k].length 1048576=Q from m.symm] at h9;rw[<-m] at q4;refine O2 ?_;refine f_ (m8 rfl h8 rfl qb) ?_;refine r_ (i8 rfl (fun v c=>cH (C:=xF) (h4.le c.keep) dh n (j:=0) rfl x6)) ?_;refine p_ ?_;refine e_ rfl h9 qw rfl ?_;refine f_ ((p9 rfl rfl qb).eq (v':=.int .i64 ((d+Q:Nat):Int)) (by congr 1)) ?_;refine O2 ?_;exact l8 (i:=(k,d)) (k+1,d+Q) ⟨n,by simp only;omega,by simp only;omega,fun f hf=>by
       rw[kj n] at hf;rcases zb.1 hf with hf|hf
       ·have:=X f hf;simp only;omega
       ·rw[zg.1 hf,<-m];simp only;omega⟩ qg sub (fun v c=>c)
     ·refine u7 ?_;have e:a.other.a5U.take k=a.other.a5U:=jq (qu h);exact g_ d ⟨g1,ju g2 (Nat.add_le_add_left (Qy _ hk) _),by rw[e] at X;exact X⟩ (fun v c=>c)
    intro d ⟨g1,g2,X⟩;have g4:a.other.a5U.length*1048576<=200*1048576:=Qy _ h6;exact g_ d ⟨by omega,by omega,⟨k8,h6,by rw[<-J];omega,by rw[<-M];omega,by rw[<-O];omega,X⟩⟩ (fun v c=>c.drop)
   intro d ⟨h1,h2,h3⟩;refine E5 ?_;exact l8 (i:=(j,S)) (j+1,d) ⟨g,h2,fun p hp=>by
    rw[kj g] at hp;rcases zb.1 hp with hp|hp
    ·exact(U p hp).up h1
    ·rw[zg.1 hp,D];exact h3⟩ qg sub (fun v c=>c)
  ·refine u7 ?_;have e:l.take j=l:=jq (qu h);exact g_ S ⟨ju hS (Qy _ hj),by rw[e] at U;exact U⟩ (fun v c=>c)
 intro S ⟨hS,U⟩;refine p_ ?_;refine f_ ((D_ rfl rfl).eq (v':=.bool (decide (32768<S))) (qn qz)) ?_;refine C8 ?_;exact d_ rfl rfl [] ⟨rfl,decide (32768<S),rfl,fun e=>⟨y,fun p hp=>(U p hp).up (qu e)⟩⟩ (fun v c=>c)
def Ji(l:List lJ)(la:Option Addr)(h:l_):Prop:=Gl h/\o0 h la (l.flatMap JX)/\∀p∈l,dC p.1.other p.2 h
def zU(l:List lJ):Prop:=∀p∈l,p.1.other.num<18446744073709551616/\p.1.other.life<18446744073709551616/\p.1.other.tr<18446744073709551616
theorem zV{n:Nat}(h:Cc n<=32768):n<=32768:=by
 unfold Cc at h;omega
theorem Nx{l:List lJ}(c:zU l)(d:∀p∈l,OB 32768 p.1):∀p∈l,iP p.1:=fun p hp=>by
 have h:=d p hp;have b:=c p hp;have a:32768<=lp:=by decide
 have e:=h.a5L;have g:=h.a5U;exact⟨by have:=zV h.text;omega,⟨b.1,ju (zV h.box) a,by omega,by omega,fun f hf=>ju (zV (h.fl f hf)) a⟩,fun _=>b.2⟩
end Go.Proofs.YtmcepdopookilaaGreatDoor.Rp
namespace Go.Sl
open Go Go.RowKit Go.WideShapes Go.ChangeShapes Go.ChangeMaps Go.Proofs.Tryz
theorem Hp.below{W w':World}{A:List As}(h:Hp (Z_ W) w' A):Below W.heap.size W w':=by
 have b:∀k,k<W.heap.size->w'.heap[k]? =W.heap[k]?:=fun k b=>by
  have e:W.heap[k]? =some W.heap[k]:=Qr b;rw[e];exact h.keep k _ (by show E4 W [] k=_;rw[N3];exact e)
 refine⟨h.os,h.tape,h.output,?_,b⟩;rcases Qp w'.heap.size W.heap.size with a|c
 ·have d:=b w'.heap.size a;rw[Qr a] at d;simp at d
 ·exact c
section
variable{H:Type}{enc:TypeId×Value->H}{P:Program}
theorem Jl{f:Func}{s:ChangeSpec}{c l d m:Bool}{W o:World}{args:Array Value}{v:Value}{ds q:List (DataW H)}{a pa pv:List MemPlace}(y:DataW.Whole enc P f.params.toList s.vars c W args.toList ds q a)(i:∀(b:Nat) (n:Nat->Bool) (hd:Bool),DataW.TrodAll enc P o b n hd f.resultTypes.toList (v.resultList f.resultTypes.size) (s.fn H (ds++q)).results [])(e:∀n:Nat->Bool,(∀p∈a,n p.block=true)->DataW.TrodAll enc P o 0 n true f.params.toList args.toList (s.fn H (ds++q)).args pa)(g:∀n:Nat->Bool,(∀p∈a,n p.block=true)->DataW.TrodVars enc P o n s.vars (s.fn H (ds++q)).vars pv)(h:a=pa++pv)(A:Below W.heap.size W o)(z:∀(j:Nat) (t:TypeId) (r:Value),f.resultTypes[j]? =some t->(v.resultList f.resultTypes.size)[j]? =some r->Value.okWide P o .any 0 t r):
  s.post enc P f c l d m W args v o:=by
 have u:∀p∈a,p.block<W.heap.size:=fun p hp=>y.lt p hp;have k:∀p∈a,(fun b=>decide (b<W.heap.size)) p.block=true:=fun p hp=>by simpa using u p hp
 refine⟨ds,q,a,[],pa,pv,y,i _ _ _,e _ k,g _ k,World.keptBut_mono (fun p hp=>⟨hp,?_⟩) (A.frame (· ∈a)),fun _=>?_⟩
 ·rw[h,zb] at hp;exact Or.inr hp
 ·obtain⟨_,_,_,_,_,hz,C⟩:=y;refine⟨z,_,_,([]++pa)++pv,⟨[]++pa,pv,trodAll_append (e _ (fun _ _=>rfl)) (i _ _ _),g _ (fun _ _=>rfl),rfl,?_,?_⟩,?_⟩
  ·intro b w hp;have x:MemPlace.cell b w∈a:=(by rw[h];simpa using hp);rw[A.frozen (u _ x)];exact hz b w x
  ·intro ha;have:=C ha;rw[h] at this;simpa using this
  ·intro p hp _;rw[h];simpa using hp
theorem ii(hl:laidOutB P=true){W e:World}(f:Below W.heap.size W e)(c:Nat->Bool):∀{b:List TypeId} {vs:List Value} {ds:List (DataW H)} {ps:List MemPlace},
  (b.all fun t=>P.readableRec t&&decide (t<P.types.size))=true->DataW.TrodAll enc P W 0 (fun _=>true) true b vs ds ps->(∀p∈ps,p.block<W.heap.size)->(∀p∈ps,c p.block=true)->
   DataW.TrodAll enc P e 0 c true b vs ds ps
 |[],vs,ds,ps,_,h,_,_=>by
  obtain⟨rfl,rfl,rfl⟩:=trodAll_nil h;rfl
 |t::b,vs,ds,ps,hr,h,hlt,hs=>by
  obtain⟨v,g,d,i,p,q,rfl,rfl,rfl,j,k⟩:=trodAll_cons h;simp only[List.all_cons,kw,jw] at hr;refine⟨p,q,WideElems.Trod_stays hl hr.1.1 hr.1.2 j (fun x a=>f.same (hlt x (zb.2 (.inl a)))) (fun x a=>hs x (zb.2 (.inl a))),?_,rfl⟩;exact ii hl f c (by simpa using hr.2) k (fun x a=>hlt x (zb.2 (.inr a))) (fun x a=>hs x (zb.2 (.inr a)))
theorem Jo{f:FuncId}{fn:Func}{s:ChangeSpec}{g a h:Bool}{W:World}{vs:List Value}{ds u:List (DataW H)}{c:List MemPlace}{i:l_->Prop}{t:TypeId}(hc:Pu P f vs i (.bool true))(j:i (hp W))(k:s.vars=[])(w:DataW.Whole enc P fn.params.toList s.vars false W vs ds u c)(d:fn.resultTypes=#[t])(y:P.underlying t=some .bool)(hl:laidOutB P=true)(M:(fn.params.toList.all fun t=>P.readableRec t&&decide (t<P.types.size))=true)(hs:s.fn H (ds++u)={results:=[.lit (.bool true)],args:=ds}):
  Calls P f vs.toArray W fun e z=>∃v,e=.returned v/\s.post enc P fn false g a h W vs.toArray v z:=by
 refine(hc W [] rfl Zx (by rw[N3];exact j)).mono ?_;rintro e z ⟨v,A,rfl,⟨rfl,rfl⟩,O⟩;refine⟨_,rfl,?_⟩;have l:=w;have o:=fun p hp=>l.lt p hp;obtain⟨p,q,Q,C,m,S,T⟩:=w;rw[k] at C;obtain⟨rfl,rfl⟩:=trodVars_none C;have D:=Hp.below O;refine Jl (pa:=p) (pv:=[]) (args:=vs.toArray) (by simpa using l) (fun b r U=>?_) (fun r n=>?_) (fun r n=>?_) m D ?_
 ·rw[hs,d];exact trodAll_cons_mk (shut_bool y true) trodAll_mk0
 ·rw[hs];refine ii hl D r M Q (fun x J=>o x ?_) (fun x J=>n x ?_)<;>(rw[m];simpa using J)
 ·rw[hs,k];rfl
 ·exact ok_one d rfl (okWide_bool_mk y true)
end
open Go Go.RowKit Go.WideShapes Go.ChangeShapes Go.ChangeMaps Go.Proofs.Tryz
mutual
def Y1{H:Type}:DataW H->Nat
 |.lit (.string bytes)=>bytes.length+1
 |.lit _=>1
 |.nil=>1
 |.ptr d=>Y1 d+1
 |.slice elems spare=>gK elems+gK spare+1
 |.agg parts=>gK parts+1
 |.iface _ d=>Y1 d+1
 |.map entries=>mA entries+1
 |.held _=>1
def gK{H:Type}:List (DataW H)->Nat
 |[]=>0
 |d::r=>Y1 d+gK r
def mA{H:Type}:List (Lit×DataW H)->Nat
 |[]=>0
 |x::r=>EG x+mA r
def EG{H:Type}:Lit×DataW H->Nat
 |(.string bytes,d)=>bytes.length+Y1 d+1
 |(_,d)=>Y1 d+1
end
theorem mB{H:Type}(l:List (DataW H)):gK l=(l.map Y1).sum:=by
 induction l with
 |nil=>rfl
 |cons d r ih=>simp only[gK,Qu,List.sum_cons,ih]
structure xp(P:Program)(t:TypeId){α:Type}(cells:α->List Value)(ok:l_->α->Prop)(bulk:α->Nat):Prop where
 h:∀{H:Type} (enc:TypeId×Value->H) (w:World) (base:Nat) (sp:Nat->Bool) (held:Bool) (fuel:Nat) (cs:List Value) (x:DataW H×List MemPlace),DataW.trod enc P w base sp held fuel t cs=some x->∃y,cs=cells y/\ok (hp w) y/\bulk y<=Y1 x.1
section
variable{P:Program}{t e:TypeId}{k:IntKind}
theorem gL(d:P.underlying t=some (.int k)):xp P t (fun n:Int=>[.int k n]) (fun _ n=>(Lit.int k n).wf=true) (fun _=>1):=⟨fun e w a g b c i x h=>by
 obtain⟨n,rfl,rfl,f⟩:=DataW.trod_int d h;exact⟨n,rfl,f,z1 _⟩⟩
theorem xq(e:P.underlying t=some .bool):xp P t (fun b:Bool=>[.bool b]) (fun _ _=>True) (fun _=>1):=⟨fun f w a g c d i x h=>by
 obtain⟨n,rfl,rfl⟩:=DataW.trod_bool e h;exact⟨n,rfl,trivial,z1 _⟩⟩
theorem cF(d:P.underlying t=some .string):xp P t (fun l:List UInt8=>[B l]) (fun _ l=>l.length<=maxLen) (fun l=>l.length+1):=⟨fun e w a f b c g x h=>by
 obtain⟨s,rfl,rfl,hs⟩:=DataW.trod_string d h;exact⟨s.data.toList,rfl,by rw[Zs];exact hs,by simp[Y1]⟩⟩
structure Jt{α:Type}(cells:α->List Value)(ok:l_->α->Prop)(h:l_)(a:Option Addr)(ls:List α)(c:Nat):Prop where
 le:ls.length<=c
 max:c<=maxLen
 rd:o0 h a (ls.flatMap cells)
 each:∀y∈ls,ok h y
theorem xt{α:Type}{cells:α->List Value}{n:Nat}(b:∀y,(cells y).length=n)(a:0<n):∀(ls:List α) (j:Nat) (u:Value),(ls.flatMap cells)[j]? =some u->∃y,ls[j/n]? =some y/\(cells y)[j%n]? =some u
 |[],j,u,h=>by simp at h
 |x::r,j,u,h=>by
  rw[Q2] at h;by_cases hj:j<n
  ·rw[jg (by rw[b];exact hj)] at h;refine⟨x,?_,?_⟩
   ·rw[Nat.div_eq_of_lt hj];rfl
   ·rw[Nat.mod_eq_of_lt hj];exact h
  ·rw[jz (by rw[b];omega),b] at h;obtain⟨y,c,d⟩:=xt b a r (j-n) u h;refine⟨y,?_,?_⟩
   ·have:j/n=(j-n)/n+1:=by
     conv=>lhs;rw[show j=(j-n)+n by omega]
     rw[Nat.add_div_right _ a]
    rw[this];simpa using c
   ·rw[Nat.mod_eq_sub_mod qb];exact d
theorem qF{α:Type}{cells:α->List Value}{ok:l_->α->Prop}{d:α->Nat}(Y:P.underlying t=some (.slice e))(S:xp P e cells ok d){n:Nat}(hc:P.cellsOf e=n)(Z:∀y,(cells y).length=n)(f:0<n){H:Type}{enc:TypeId×Value->H}{w:World}{base:Nat}{U:Nat->Bool}{g:Bool}{o:Nat}{cs:List Value}{x:DataW H×List MemPlace}(h:DataW.trod enc P w base U g o t cs=some x):
  ∃(a:Option Addr) (ls:List α) (c:Nat),cs=[.slice a ls.length c]/\Jt cells ok (hp w) a ls c/\((x.1=.nil/\ls=[])\/∃b l,x.1=.slice b l/\b.length=ls.length)/\(ls.map d).sum+1<=Y1 x.1:=by
 rcases DataW.trod_slice Y h with⟨rfl,rfl⟩|⟨a,p,D,b,rest,m,_,rfl,rfl,hb,hl,hm,q,J,_,_⟩
 ·exact⟨none,[],0,rfl,⟨z1 _,zw _,o0.nil _ _,by simp⟩,.inl qh,by simp[Y1]⟩
 ·have M:∀(k:Nat),k<=p->∃ls:List α,ls.length=k/\(∀i y,ls[i]? =some y->w.cells? base (a.add (i*n)) n=some (cells y)/\ok (hp w) y)/\(ls.map d).sum<=((b.take k).map (fun x=>Y1 x.1)).sum:=by
   intro k
   induction k with
   |zero=>intro _;exact⟨[],rfl,by simp,by simp⟩
   |succ k ih=>
    intro hk;obtain⟨ls,v,A,V⟩:=ih qb;have C:=J k qb;have r:k<b.length:=(by omega);rw[zj r,hc,zc] at C;obtain⟨cs,O,Q⟩:=C;obtain⟨y,rfl,s,h8⟩:=S.h enc w base U g m cs _ Q;refine⟨ls++[y],by simp[v],fun i z hz=>?_,?_⟩
    ·by_cases X:i<k
     ·rw[jg qb] at hz;exact A i z hz
     ·rw[jz qb] at hz;have T:i=k:=by
       have:=(Qw.1 hz).1;simp at this;omega
      subst T;simp[v] at hz;subst hz;exact⟨O,s⟩
    ·rw[kj r];simp only[jn,Qu,Jj,List.sum_append,List.sum_cons,List.sum_nil];omega
  obtain⟨ls,v,A,V⟩:=M p (z1 _);subst v;refine⟨some a,ls,D,rfl,⟨hl,hm,fun _=>⟨a,rfl,fun j u hu=>?_⟩,fun y hy=>?_⟩,.inr ⟨_,_,rfl,by simp[q]⟩,?_⟩
  ·obtain⟨y,C,O⟩:=xt Z f ls j u hu;obtain⟨Q,_⟩:=A _ _ C;have s:=(World.cells?_some Q).2.2 (j%n) (Nat.mod_lt _ f);rw[uN];rw[O,fX] at s;have:j/n*n+j%n=j:=(by rw[W7];exact Nat.div_add_mod j n);rw[this] at s;exact s
  ·obtain⟨i,X⟩:=List.getElem?_of_mem hy;exact(A i y X).2
  ·simp only[Y1,mB,Jn];rw[jq qb] at V;simp only[Z9];omega
theorem sR{α:Type}{cells:α->List Value}{ok:l_->α->Prop}{b:α->Nat}(j:P.underlying t=some (.slice e))(S:xp P e cells ok b){n:Nat}(hc:P.cellsOf e=n)(k:∀y,(cells y).length=n)(d:0<n):
  xp P t (fun y:Option Addr×List α×Nat=>[.slice y.1 y.2.1.length y.2.2]) (fun h y=>Jt cells ok h y.1 y.2.1 y.2.2) (fun y=>(y.2.1.map b).sum+1):=⟨fun l w f r g i s x h=>by
 obtain⟨a,m,c,o,p,_,q⟩:=qF j S hc k d h;exact⟨(a,m,c),o,p,q⟩⟩
structure Ny(P:Program)(fs:List Field)(off tot:Nat){α:Type}(cells:α->List Value)(ok:l_->α->Prop)(bulk:α->Nat):Prop where
 h:∀{H:Type} (enc:TypeId×Value->H) (w:World) (base:Nat) (sp:Nat->Bool) (held:Bool) (n:Nat) (cs:List Value) (xs:List (DataW H×List MemPlace)),xs.length=fs.length->cs.length=tot->
  (∀(i:Nat) (f:Field),fs[i]? =some f->DataW.trod enc P w base sp held n f.type ((cs.drop f.offset).take (P.cellsOf f.type))=xs[i]?)->∃y,cs.drop off=cells y/\ok (hp w) y/\bulk y<=(xs.map fun x=>Y1 x.1).sum
theorem kN{a:Nat}:Ny P [] a a (fun _:Unit=>[]) (fun _ _=>True) (fun _=>0):=⟨fun d w b e c n f g _ h _=>
 ⟨(),by rw[Qc qb],trivial,zw _⟩⟩
theorem C3{f:Field}{fs:List Field}{d off' e k:Nat}{α β:Type}{r:α->List Value}{j:l_->α->Prop}{s:α->Nat}{c2:β->List Value}{l:l_->β->Prop}{t:β->Nat}(S:xp P f.type r j s)(C:f.offset=d)(D:P.cellsOf f.type=k)(o:off'=d+k)(R:Ny P fs off' e c2 l t):
  Ny P (f::fs) d e (fun y:α×β=>r y.1++c2 y.2) (fun h y=>j h y.1/\l h y.2) (fun y=>s y.1+t y.2):=⟨fun m w a u b n J p v q c=>by
 cases p with
 |nil=>simp at v
 |cons x p=>
  have A:=c 0 f rfl;rw[C,D] at A;obtain⟨y,M,O,U⟩:=S.h m w a u b n _ _ A;obtain⟨z,Q,T,V⟩:=R.h m w a u b n J p (by simpa using v) q (fun i g hg=>by have:=c (i+1) g (by simpa using hg);simpa using this);refine⟨(y,z),?_,⟨O,T⟩,?_⟩
  ·simp only;rw[<-M,<-Q,o,<-Kr,Qk]
  ·simp only[Qu,List.sum_cons];omega⟩
theorem eX{fs:Array Field}{b:Nat}{α:Type}{cells:α->List Value}{ok:l_->α->Prop}{a:α->Nat}(j:P.underlying t=some (.struct fs))(hc:P.cellsOf t=b)(R:Ny P fs.toList 0 b cells ok a):xp P t cells ok a:=⟨fun e w c k d g l x h=>by
 obtain⟨m,n,_,rfl,o,p,q⟩:=DataW.trod_struct j h;obtain⟨y,r,s,u⟩:=R.h e w c k d n l m (by simpa using p) (by rw[o,hc]) (fun i f hf=>q i f (by simpa using hf));refine⟨y,by simpa using r,s,?_⟩;simp only[Y1,mB,Jn,Z9];omega⟩
theorem xp.map{α β:Type}{i:α->List Value}{a:l_->α->Prop}{j:α->Nat}{c2:β->List Value}{b:l_->β->Prop}{k:β->Nat}(S:xp P t i a j)(f:α->β)(hc:∀y,i y=c2 (f y))(l:∀h y,a h y->b h (f y))(m:∀y,k (f y)<=j y):xp P t c2 b k:=⟨fun g w c n d e o x h=>by
 obtain⟨y,p,q,r⟩:=S.h g w c n d e o x h;exact⟨f y,by rw[p,hc],l _ _ q,ju (m y) r⟩⟩
variable{H:Type}{enc:TypeId×Value->H}{w:World}{r:Reach}{b0 base:Nat}{sp:Nat->Bool}{held:Bool}{v:Value}{d:DataW H}{ps:List MemPlace}
theorem EH{α:Type}{cells:α->List Value}{ok:l_->α->Prop}{f:α->Nat}(j:P.underlying t=some (.slice e))(S:xp P e cells ok f){n:Nat}(hc:P.cellsOf e=n)(m:∀y,(cells y).length=n)(h:0<n)(i:Value.okWide P w r b0 t v)(o:DataW.Trod enc P w base sp held t v d ps):
  ∃(a:Option Addr) (ls:List α) (c:Nat),v=.slice a ls.length c/\Jt cells ok (hp w) a ls c/\((d=.nil/\ls=[])\/∃b g,d=.slice b g/\b.length=ls.length)/\(ls.map f).sum+1<=Y1 d:=by
 obtain⟨u,x,z,rfl⟩:=okWide_slice j i;obtain⟨k,hf⟩:=o;obtain⟨a,ls,c,l,p,q,s⟩:=qF j S hc m h hf;simp[Value.cells] at l;obtain⟨rfl,rfl,rfl⟩:=l;exact⟨_,_,_,rfl,p,q,s⟩
end
theorem QM{n:Int}(h:(Lit.int .u64 n).wf=true):0<=n/\n<=18446744073709551615:=by
 simp only[Lit.wf,kw,jw] at h;have a:IntKind.u64.min=0:=by decide
 have b:IntKind.u64.max=18446744073709551615:=by decide
 omega
section
variable{P:Program}{t e:TypeId}{k:IntKind}
variable{H:Type}{enc:TypeId×Value->H}{w:World}{r:Reach}{b0 base:Nat}{sp:Nat->Bool}{held:Bool}{v:Value}{d:DataW H}{ps:List MemPlace}
end
section
variable{P:Program}{t e:TypeId}{k:IntKind}{n:Nat}
variable{H:Type}{enc:TypeId×Value->H}{w:World}{r:Reach}{b0 base:Nat}{sp:Nat->Bool}{held:Bool}{v:Value}{d:DataW H}{ps:List MemPlace}
end
