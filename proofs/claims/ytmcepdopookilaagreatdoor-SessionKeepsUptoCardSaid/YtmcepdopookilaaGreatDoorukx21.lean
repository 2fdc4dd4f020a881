import Derived.Test.YtmcepdopookilaaGreatDoorukx20
import Derived.Deep.CondSized
set_option maxHeartbeats 16000000
set_option maxRecDepth 8000
set_option linter.unusedVariables false
set_option linter.unusedSimpArgs false
set_option linter.defProp false
namespace Go.Proofs.YtmcepdopookilaaGreatDoor.Rp
open Go Go.Sl Go.RowKit Go.Proofs.Tryz
structure AX where
 kind:Int
 hk:Int
 text:Bs
 short:Bool
 other:RQ
abbrev FA(a:AX)(z:QL):zq:=[.int .i64 a.kind,.int .i64 a.hk,B a.text,.bool a.short]++eN a.other z
abbrev acA(a:AX)(z:QL):Value:=.agg (FA a z).toArray
abbrev lU:Bs:=[120,58,32,121,13,10,13,10,122]
structure Cz(w:WM)(a:AX):Prop where
 se:Ad w.s
 a6x:w.s.a6y.a6x.length<=50000
 us:w.s.a6A.length<=100000
 ml:V5 w.m.s
 q:xH w.q
 oq:xH a.other
 text:a.text.length<=1000000000
 ml2:V5 (E3 w.m.s w.q).1
 uo:(E3 w.m.s w.q).2.a6A.length<=100000/\gg (E3 w.m.s w.q).2.a6A
 mo:(E3 w.m.s w.q).2.mods.length<=100000/\gg (E3 w.m.s w.q).2.mods
 val:(E3 w.m.s w.q).2.val<18446744073709551616
 tr:w.tr<=1000
 bll:w.bl.length<=900
 body:∀p∈w.bl,p.2.length<=1000000
 hbody:∀s' d',bJ w.s a.hk a.text s' d'->d'.body.length<=1000000
def a2y(w:WM)(a:AX)(s':SE)(d':DD):Prop:=∃s1 d1,fC w.s (E3 w.m.s w.q).1 (E3 w.m.s w.q).2 (if a.short=true then[] else w.bl) s1 d1/\(if d1.want=[] then s'=s1/\d'=d1 else fC w.s (E3 w.m.s w.q).1 (E3 w.m.s w.q).2 w.bl s' d')
def aK(w:WM)(a:AX)(s':SE)(d':DD)(m':ML)(bl':BL)(hears comes fails c:Bool):Prop:=
 if a.kind=0 then bJ w.s a.hk a.text s' d'/\m'=w.m.s/\bl'=w.bl/\hears=true/\comes=false/\fails=false/\c=true
 else if a.kind=1 then w.s.a6E=true/\a2y w a s' d'/\m'=(E3 w.m.s w.q).1/\bl'=w.bl/\hears=false/\comes=true/\fails=false/\c=true
 else if a.kind=2 then(s',d')=aH w.s/\m'=w.m.s/\bl'=w.bl/\hears=false/\comes=w.s.a6E/\fails=true/\c=true
 else s'=w.s/\d'=G7/\m'=(E3 w.m.s a.other).1/\bl'=w.bl++[(a.other.hash,lU)]/\hears=false/\comes=false/\fails=false/\c=false
structure JC(w:WM)(a:AX)(w1:WM)(t:TN)(c:Bool)(h:l_):Prop where
 dn:aK w a t.b t.d w1.m.s w1.bl t.hears t.comes t.fails c
 ta:t.a=w.s/\t.ax=w.x/\t.hk=a.hk/\t.ht=a.text/\t.c=w.s.cmd/\t.k=w.x.cl
 tw:w1.q=w.q/\w1.ql=w.ql/\w1.tr=w.tr
 a6I:t.d.a6I=t.y.rl.map Prod.fst
 rp:∀m∈t.y.rl,gn m h
 se:P4 t.b t.bx h
 rq:dM t.d.req t.y.ql h
 wn:n9 h t.y.wa (fV t.d.want)
 m:ew w1.m h
 blr:n9 h w1.ba (uU w1.bl)
 cf:c=false->t.b=w.s/\t.bx=w.x/\t.y=N9
def E1(c:Bool)(t:TN):List As:=if c=true then l6 t.bx.ra t.b.a6y.a6x t.bx.rc::x4 t.y.da t.y.rl t.y.dc::T6 t.y.rl else[]
abbrev FB(w:WM)(a:AX):TN:=⟨w.s,w.x,w.s,w.x,a.hk,a.text,false,false,false,G7,N9,w.s.cmd,w.x.cl⟩
def kY(w:WM)(a:AX)(w':WM)(t:TN)(c:Bool)(h:l_):Prop:=(a.kind=1/\w.s.a6E=false/\w'=w/\t=FB w a/\c=false)\/∃w1,JC w a w1 t c h/\tl w1 t w'/\n9 h w'.ba (uU w'.bl)
def a2z(w:WM)(a:AX)(h:l_)(v:Value)(A:List As):Prop:=∃w' t c,v=.tuple #[Fx w',UM t]/\A=E1 c t/\kY w a w' t c h
structure il(w:WM)(h:l_):Prop where
 g:Gl h
 a6x:n9 h w.x.ra (S_ w.s.a6y.a6x)
 se:P4 w.s w.x h
 m:ew w.m h
 q:dM w.q w.ql h
 blr:n9 h w.ba (uU w.bl)
instance {w:WM}:Mn (il w):=⟨fun l k=>⟨k.g.le l,k.a6x.le l,Mn.le l k.se,Mn.le l k.m,Mn.le l k.q,k.blr.le l⟩⟩
def JC.le{w:WM}{a:AX}{b:WM}{t:TN}{c:Bool}{h d:l_}(k:JC w a b t c h)(l:l_.le h d):JC w a b t c d:=⟨k.dn,k.ta,k.tw,k.a6I,fun m e=>(k.rp m e).le l,Mn.le l k.se,Mn.le l k.rq,k.wn.le l,Mn.le l k.m,k.blr.le l,k.cf⟩
def gX{s:SE}{st:ML}{o:OC}{bl:BL}{c:SE}{b:DD}(h:fC s st o bl c b):b.body=[]:=by
 unfold fC at h;split at h
 ·rw[h.2]
 ·rcases h with⟨d,_,_,_,e⟩|⟨f,_,_,_,_,_,_,a⟩
  ·rw[e]
  ·exact(eK a).2.2.2.2
def qN(s:SE):(aH s).2.body=[]:=by
 unfold aH;split
 ·rfl
 ·split<;>rfl
def EY{w:WM}{a:AX}{i:SE}{e:DD}{j:ML}{b:BL}{x y z c:Bool}(g:Cz w a)(h:aK w a i e j b x y z c):e.body.length<=1000000/\b.length<=1000:=by
 have k:=g.bll;unfold aK at h;split at h
 ·obtain⟨d,_,rfl,_⟩:=h;exact⟨g.hbody _ _ d,by omega⟩
 split at h
 ·obtain⟨_,⟨s1,l,d,f⟩,_,rfl,_⟩:=h;refine⟨?_,by omega⟩;split at f
  ·rw[f.2,gX d];simp
  ·rw[gX f];simp
 split at h
 ·obtain⟨d,_,rfl,_⟩:=h;refine⟨?_,by omega⟩;rw[show e=(aH w.s).2 from by rw[<-d],qN];simp
 ·obtain⟨_,rfl,_,rfl,_⟩:=h;exact⟨by simp,by rw[zg];simp only[z1,kx];omega⟩
abbrev KR:zq:=NQ ⟨oT,rt,IL,dq,du,0,[],none,0⟩
abbrev Rb:zq:=lT ⟨oT,rt,oT,rt,0,[],false,false,false,G7,N9,iK,I0⟩
def JD(w:WM)(a:AX)(z:QL)(C:Cz w a):
  Cm prog 17 [Fx w,acA a z] (fun h=>il w h/\dM a.other z h) [] (a2z w a):=by
 obtain⟨k0,x3⟩:=o9 (decide (a.kind=0));obtain⟨k1,x5⟩:=o9 (decide (a.kind=1));obtain⟨k2,y0⟩:=o9 (decide (a.kind=2));refine A0 125 func17 rfl rfl rfl ?_;rintro F R ⟨j,v8⟩;refine D1 ?_;refine m8 rfl rfl ?_;intro Y;refine m8 rfl rfl ?_;intro g3;refine i7 rfl ?_;intro g4;refine i7 rfl ?_;intro g5;refine wk 8 ?_;refine r_ (gG rfl ud ga) ?_;refine f_ (A2 (ps:=[(0,.tmp 11),(1,.tmp 13),(2,.tmp 15),(7,.tmp 18)]) (vs:=[(0,mq w.s w.x),(1,mq w.s w.x),(2,.agg #[.int .i64 a.hk,B a.text]),(7,vo w.s.cmd w.x.cl)]) (cells:=(lT (FB w a)).toArray) rfl i6) ?_;refine i7 rfl ?_;intro g6;refine u6 ?_;refine C5 (H':=N7 Y w::aj g6 (FB w a)::.blk g3 (.cells (FA a z).toArray 70)::.blk g5 (.cells Rb.toArray 48)::.blk g4 (.cells KR.toArray 65)::R) (fun v g=>D3 (A:=[_,_,_,_,_]) (J:=[]) tk g) ?_;refine I6 2 ?_;refine V7 (fun(f:WM) (t:TN) (c:Bool) (F2:l9)=>F.le F2/\JC w a f t c F2.heap) (fun _ _ _ _=>[(2,i8 Y),(4,i8 g4),(5,i8 g5),(6,i8 g6)]) (fun _ _ _ F2=>F2) (fun f t c _=>N7 Y f::aj g6 t::.blk g5 (.cells Rb.toArray 48)::.blk g4 (.cells KR.toArray 65)::(E1 c t++R)) ?_ ?_
 ·refine o0 ?_;refine D1 ?_;refine f_ ((q_ rfl rfl).eq (v':=.bool k0) (qn x3.symm)) ?_;refine u6 ?_
  cases k0
  case true=>
   have e0:a.kind=0:=zy x3.symm;refine Y1 ?_;refine B_ (NH w.s w.x a.hk a.text C.se C.text) ⟨j.g,j.a6x,j.se⟩ ?_;intro v A D n hq;obtain⟨s',d',V,r,hr,rfl,rfl,k,h0,h3,h4,h5⟩:=ES.res hq;refine z_ (H':=_::_::_::_::_::_::_::(T6 r.rl++R)) (fun v g=>g.perm (((z6 (T6 r.rl) [_,_,_,_,_] R).cons _).cons _)) ?_;refine wk 7 ?_;obtain⟨t1,x⟩:∃t1:TN,t1={FB w a with b:=s',bx:=V,hears:=true,d:=d',y:=r}:=⟨_,rfl⟩;have i:il w D.heap:=Mn.le n.heap j;refine y7 (w,t1,true,D) ⟨n,?_⟩ rfl (fun v g=>?_)
   ·rw[x];exact⟨by unfold aK;rw[zr e0];exact⟨hr,rfl,rfl,rfl,rfl,rfl,rfl⟩,⟨rfl,rfl,rfl,rfl,rfl,rfl⟩,qm,k,h0,h3,h4,h5,i.m,i.blr,fun e=>by cases e⟩
   ·rw[x];show Hp D v (_::_::_::_::l6 V.ra s'.a6y.a6x V.rc::x4 r.da r.rl r.dc::(T6 r.rl++R));exact D3 (A:=[_,_,_,_,_,_]) (J:=[_]) tk g
  have e0:¬a.kind=0:=zu x3.symm;refine D1 ?_;refine f_ ((q_ rfl rfl).eq (v':=.bool k1) (qn x5.symm)) ?_;refine u6 ?_
  cases k1
  case true=>
   have e1:a.kind=1:=zy x5.symm;refine AO ?_ ?_<;>intro h
   ·have k8:w.s.a6E=false:=(by simpa using h);refine x6 ?_;refine D8 [0,1] [2,3] [N7 Y w,aj g6 (FB w a)] 4 ?_;refine wd [0,1,2,3] ?_;refine B4 ?_;refine I4 (A:=[]) (v:=.tuple #[Fx w,UM (FB w a)]) (l9.le_refl _) ⟨w,FB w a,false,rfl,rfl,.inl ⟨e1,k8,rfl,rfl,rfl⟩⟩ ?_;exact Y0 rfl rfl rfl ud rfl ud rfl _ qh (fun v g=>D3 (A:=[]) (J:=[_,_,_,_,_]) tk g)
   have k8:w.s.a6E=true:=(by simpa using h);refine x6 ?_;obtain⟨t0,y1⟩:∃t0:TN,t0={FB w a with comes:=true}:=⟨_,rfl⟩;refine Y1 ?_;refine B_ (qH w.m w.q w.ql C.ml C.q) ⟨j.m,j.q⟩ ?_;rintro v A D n ⟨X,o,oy,rfl,S,ho,rfl,h6,z2⟩;refine E8 ?_;refine i7 rfl ?_;intro g7;refine i7 rfl ?_;intro g8;refine al ?_;obtain⟨f,Q⟩:∃f:WM,f={w with m:=X}:=⟨_,rfl⟩;have u0:f.s=w.s/\f.x=w.x/\f.m=X/\f.bl=w.bl/\f.ba=w.ba/\f.bc=w.bc/\f.q=w.q/\f.ql=w.ql/\f.tr=w.tr:=(by rw[Q];exact⟨rfl,rfl,rfl,rfl,rfl,rfl,rfl,rfl,rfl⟩);obtain⟨k9,v9,q0,O,U,w5,u1,q5,q6⟩:=u0;have i:il w D.heap:=Mn.le n.heap j;have u2:∀bl:BL,bl.length<=900->(∀p∈bl,p.2.length<=1000000)->OX f.s X.s o bl:=fun bl h1 h2=>by
    rw[k9,S,ho];exact⟨C.se,C.a6x,C.us,C.ml2,C.uo,C.mo,C.val,by omega,h2⟩
   refine C5 (H':=N7 Y f::aj g6 t0::.blk g7 (.cells (iQ X).toArray 62)::.blk g8 (.cells (tX o oy).toArray 86)::.blk g3 (.cells (FA a z).toArray 70)::.blk g5 (.cells Rb.toArray 48)::.blk g4 (.cells KR.toArray 65)::R) (fun v g=>by rw[Q,y1];exact D3 (A:=[_,_,_,_,_,_,_]) (J:=[]) tk g) ?_;refine al ?_;refine n8 (ι:=BL×AC) (fun q=>q.1=(if a.short=true then[] else w.bl)/\n9 D.heap q.2.1 (uU q.1)) (fun q=>[(2,i8 Y),(3,i8 g3),(4,i8 g4),(5,i8 g5),(6,i8 g6),(7,i8 g7),(8,i8 g8),(9,.slice q.2.1 q.1.length q.2.2)]) (fun _=>N7 Y f::aj g6 t0::.blk g7 (.cells (iQ X).toArray 62)::.blk g8 (.cells (tX o oy).toArray 86)::.blk g3 (.cells (FA a z).toArray 70)::.blk g5 (.cells Rb.toArray 48)::.blk g4 (.cells KR.toArray 65)::R) ?_ ?_
   ·refine p7 rfl ?_ ?_<;>intro h
    ·refine u6 ?_;exact g_ ([],none,0) ⟨by rw[zr h],n9.nil _ _⟩ (fun v g=>g)
    ·refine x6 ?_;exact g_ (f.bl,f.ba,f.bc) ⟨by rw[zb (by rw[h];simp)];exact O,by rw[U];show n9 D.heap w.ba (uU f.bl);rw[O];exact i.blr⟩ (fun v g=>g)
   rintro⟨h7,o1⟩ ⟨s,q7⟩;simp only at s q7;have q8:h7.length<=900/\∀p∈h7,p.2.length<=1000000:=by
    rw[s];split
    ·exact⟨zp _,fun _ h=>by cases h⟩
    ·exact⟨C.bll,C.body⟩
   have q9:f.bl.length<=900/\∀p∈f.bl,p.2.length<=1000000:=(by rw[O];exact⟨C.bll,C.body⟩);have x0:∀(bl:BL) (ba:qr),n9 D.heap ba (uU bl)->(Gl D.heap/\n9 D.heap f.x.ra (S_ f.s.a6y.a6x)/\P4 f.s f.x D.heap/\ew X D.heap/\M8 o oy D.heap/\n9 D.heap ba (uU bl)):=fun bl ba h=>by
    rw[k9,v9];exact⟨i.g,i.a6x,i.se,h6,z2,h⟩
   refine al ?_;refine B_ (tj f.s f.x X o oy h7 o1.1 o1.2 (u2 h7 q8.1 q8.2)) (x0 h7 o1.1 q7) ?_;rintro v A F2 u ⟨s',d',V,r,hr,rfl,rfl,k,h0,h3,h4,h5⟩;refine z_ (H':=_::_::_::_::_::_::_::_::_::(T6 r.rl++R)) (fun v g=>g.perm (((z6 (T6 r.rl) [_,_,_,_,_,_,_] R).cons _).cons _)) ?_;refine wk 7 ?_;obtain⟨t1,x⟩:∃t1:TN,t1={t0 with b:=s',bx:=V,d:=d',y:=r}:=⟨_,rfl⟩;have u8:t1.d=d':=(by rw[x]);refine C5 (H':=N7 Y f::aj g6 t1::l6 V.ra s'.a6y.a6x V.rc::x4 r.da r.rl r.dc::.blk g7 (.cells (iQ X).toArray 62)::.blk g8 (.cells (tX o oy).toArray 86)::.blk g3 (.cells (FA a z).toArray 70)::.blk g5 (.cells Rb.toArray 48)::.blk g4 (.cells KR.toArray 65)::(T6 r.rl++R)) (fun v g=>by rw[x];exact D3 (A:=[_,_,_,_,_,_,_,_,_]) (J:=[]) tk g) ?_;have M:fC w.s (E3 w.m.s w.q).1 (E3 w.m.s w.q).2 (if a.short=true then[] else w.bl) s' d':=(by rw[<-S,<-ho,<-s,<-k9];exact hr);refine KG ?_ ?_<;>intro h
   ·have q1:¬d'.want=[]:=fun e=>(by rw[u8,e] at h;exact absurd h qp);have w0:r.rl=[]:=by
     have h9:d'.a6I=[]:=by
      unfold fC at M;split at M
      ·rw[M.2]
      ·rcases M with⟨w9,_,_,_,e⟩|⟨x9,_,_,_,_,_,_,v0⟩
       ·rw[e]
       ·exact absurd (eK v0).2.1 q1
     rw[h9] at k;exact List.map_eq_nil_iff.1 k.symm
    refine C5 (H':=N7 Y f::aj g6 t1::.blk g7 (.cells (iQ X).toArray 62)::.blk g8 (.cells (tX o oy).toArray 86)::.blk g3 (.cells (FA a z).toArray 70)::.blk g5 (.cells Rb.toArray 48)::.blk g4 (.cells KR.toArray 65)::R) (fun v g=>by rw[w0] at g;exact D3 (A:=[_,_,_,_,_,_,_]) (J:=[_,_]) tk g) ?_;refine Y1 ?_;refine B_ (tj f.s f.x X o oy f.bl f.ba f.bc (u2 f.bl q9.1 q9.2)) (Mn.le (p:=fun h=>Gl h/\n9 h f.x.ra (S_ f.s.a6y.a6x)/\P4 f.s f.x h/\ew X h/\M8 o oy h/\n9 h f.ba (uU f.bl)) u.heap (x0 f.bl f.ba (by rw[U,O];exact i.blr))) ?_;rintro v A F3 T ⟨s2,d2,x2,y2,w2,rfl,rfl,q2,v1,v2,v3,v4⟩;refine z_ (H':=_::_::_::_::_::_::_::_::_::(T6 y2.rl++R)) (fun v g=>g.perm (((z6 (T6 y2.rl) [_,_,_,_,_,_,_] R).cons _).cons _)) ?_;refine wk 7 ?_;obtain⟨t2,v5⟩:∃t2:TN,t2={t1 with b:=s2,bx:=x2,d:=d2,y:=y2}:=⟨_,rfl⟩;have x1:=(n.trans u).trans T;refine y7 (f,t2,true,F3) ⟨x1,?_⟩ rfl (fun v g=>?_)
    ·rw[v5,x,y1];exact⟨by unfold aK;rw[zb e0,zr e1];exact⟨k8,⟨s',d',M,by rw[zb q1,<-S,<-ho,<-O,<-k9];exact w2⟩,by rw[q0];exact S,O,rfl,rfl,rfl,rfl⟩,⟨rfl,rfl,rfl,rfl,rfl,rfl⟩,⟨u1,q5,q6⟩,q2,v1,v2,v3,v4,by rw[q0];exact Mn.le (u.trans T).heap h6,by rw[U,O];exact j.blr.le x1.heap,fun e=>by cases e⟩
    ·rw[v5];show Hp F3 v (_::_::_::_::l6 x2.ra s2.a6y.a6x x2.rc::x4 y2.da y2.rl y2.dc::(T6 y2.rl++R));exact D3 (A:=[_,_,_,_,_,_]) (J:=[_,_,_]) tk g
   ·have q1:d'.want=[]:=by
     rw[u8] at h;exact js (qu h)
    refine x6 ?_;refine y7 (f,t1,true,F2) ⟨n.trans u,?_⟩ rfl (fun v g=>?_)
    ·rw[x,y1];exact⟨by unfold aK;rw[zb e0,zr e1];exact⟨k8,⟨s',d',M,by rw[zr q1];exact qh⟩,by rw[q0];exact S,O,rfl,rfl,rfl,rfl⟩,⟨rfl,rfl,rfl,rfl,rfl,rfl⟩,⟨u1,q5,q6⟩,k,h0,h3,h4,h5,by rw[q0];exact Mn.le u.heap h6,by rw[U,O];exact j.blr.le (n.trans u).heap,fun e=>by cases e⟩
    ·rw[x] at g⊢;show Hp F2 v (_::_::_::_::l6 V.ra s'.a6y.a6x V.rc::x4 r.da r.rl r.dc::(T6 r.rl++R));exact D3 (A:=[_,_,_,_,_,_]) (J:=[_,_,_]) tk g
  have e1:¬a.kind=1:=zu x5.symm;refine D1 ?_;refine f_ ((q_ rfl rfl).eq (v':=.bool k2) (qn y0.symm)) ?_;refine u6 ?_
  cases k2
  case true=>
   have e2:a.kind=2:=zy y0.symm;refine wk 9 ?_;refine B_ (NI w.s w.x C.se) ⟨j.a6x,j.se⟩ ?_;intro v A D n hq;obtain⟨s',d',V,r,hr,rfl,rfl,k,h0,h3,h4,h5⟩:=ES.res hq;refine z_ (H':=_::_::_::_::_::_::_::(T6 r.rl++R)) (fun v g=>g.perm (((z6 (T6 r.rl) [_,_,_,_,_] R).cons _).cons _)) ?_;refine wk 7 ?_;obtain⟨t1,x⟩:∃t1:TN,t1={FB w a with b:=s',bx:=V,comes:=w.s.a6E,fails:=true,d:=d',y:=r}:=⟨_,rfl⟩;have i:il w D.heap:=Mn.le n.heap j;refine y7 (w,t1,true,D) ⟨n,?_⟩ rfl (fun v g=>?_)
   ·rw[x];exact⟨by unfold aK;rw[zb e0,zb e1,zr e2];exact⟨hr,rfl,rfl,rfl,rfl,rfl,rfl⟩,⟨rfl,rfl,rfl,rfl,rfl,rfl⟩,qm,k,h0,h3,h4,h5,i.m,i.blr,fun e=>by cases e⟩
   ·rw[x];show Hp D v (_::_::_::_::l6 V.ra s'.a6y.a6x V.rc::x4 r.da r.rl r.dc::(T6 r.rl++R));exact D3 (A:=[_,_,_,_,_,_]) (J:=[_]) tk g
  have e2:¬a.kind=2:=zu y0.symm;refine P1 ?_;refine B_ (qH w.m a.other z C.ml C.oq) ⟨j.m,v8⟩ ?_;rintro v A D n ⟨X,o,oy,rfl,S,ho,rfl,h6,z2⟩;refine al ?_;obtain⟨f,Q⟩:∃f:WM,f={w with m:=X}:=⟨_,rfl⟩;have s:f.bl=w.bl/\f.ba=w.ba/\f.bc=w.bc:=by rw[Q];exact qm
  have h8:n9 D.heap f.ba (uU f.bl):=by rw[s.1,s.2.1];exact j.blr.le n.heap
  have w7:f.bl.length<=900:=by rw[s.1];exact C.bll
  refine C5 (H':=N7 Y f::aj g6 (FB w a)::.blk g3 (.cells (FA a z).toArray 70)::.blk g5 (.cells Rb.toArray 48)::.blk g4 (.cells KR.toArray 65)::R) (fun v g=>by rw[Q];exact D3 (A:=[_,_,_,_,_]) (J:=[]) tk g) ?_;refine x6 ?_;refine D8 [2,6] [0,3,8,9,11] [N7 Y f,.blk g3 (.cells (FA a z).toArray 70)] 12 ?_;refine wd [1,2,4,5,6] ?_;refine w_ 7 rfl (A2 (ps:=[(0,.tmp 37),(1,.const (B lU))]) (vs:=[(0,B a.other.hash),(1,B lU)]) (cells:=(uT (a.other.hash,lU)).toArray) rfl i6) ?_;refine S4 0 8 rfl rfl i6 ?_ ?_;refine N3 rfl ?_;intro a31;refine V2 ?_;refine S4 3 8 rfl rfl i6 ?_ ?_;refine u7 uT (l:=[]) (m:=f.bl) aF dD (by show(0+f.bl.length)*32<=_;omega) ?_ (hsrc:=fun v g=>h8.le g.keep) (h63:=by simp only[kx];omega);intro Pl v6 _;refine V2 ?_;refine h_ 8 rfl i6 ?_;refine D2 uT (a.other.hash,lU) rfl ?_;intro a39 _;refine rR ?_;refine h_ 9 rfl i6 ?_;refine u7 uT (l:=f.bl) (m:=[(a.other.hash,lU)]) aF dD (by show(f.bl.length+1)*32<=_;omega) ?_ (h63:=by simp only[z1,kx];omega);intro q3 q4 _;refine D7 [10,11] ?_
  rotate_left 1
  refine D2 uT (a.other.hash,lU) rfl ?_;intro a39 _;refine V2 ?_;refine h_ 3 rfl i6 ?_;refine u7 uT (l:=[]) (m:=f.bl) aF dD (by show(0+f.bl.length)*32<=_;omega) ?_ (hsrc:=fun v g=>h8.le g.keep) (h63:=by simp only[kx];omega);intro Pl v6 _;refine rR ?_;refine h_ 9 rfl i6 ?_;refine u7 uT (l:=f.bl) (m:=[(a.other.hash,lU)]) aF dD (by show(f.bl.length+1)*32<=_;omega) ?_ (h63:=by simp only[z1,kx];omega);intro q3 q4 _;refine D7 [10,11] ?_
  rotate_left 1
  refine D2 uT (a.other.hash,lU) rfl ?_;intro a39 _;refine V2 ?_;refine h_ 0 rfl i6 ?_;refine N3 rfl ?_;intro a31;refine V2 ?_;refine h_ 3 rfl i6 ?_;refine u7 uT (l:=[]) (m:=f.bl) aF dD (by show(0+f.bl.length)*32<=_;omega) ?_ (hsrc:=fun v g=>h8.le g.keep) (h63:=by simp only[kx];omega);intro Pl v6 _;refine rR ?_;refine h_ 9 rfl i6 ?_;refine u7 uT (l:=f.bl) (m:=[(a.other.hash,lU)]) aF dD (by show(f.bl.length+1)*32<=_;omega) ?_ (h63:=by simp only[z1,kx];omega);intro q3 q4 _;refine D7 [10,11] ?_
  rotate_left 1
  all_goals (refine x6 ?_)
  all_goals
   refine kL (Z:=[.own (.slice q3 (f.bl++[(a.other.hash,lU)]).length q4) 95 2 (uU (f.bl++[(a.other.hash,lU)]))]) tk fun F2 u ⟨bs,w3⟩=>?_;refine y7 ({f with bl:=f.bl++[(a.other.hash,lU)],ba:=q3,bc:=q4},FB w a,false,F2) ⟨n.trans u,?_⟩ rfl (fun v g=>D3 (A:=[_,_,_,_]) (J:=[_,_]) tk g);exact⟨by unfold aK;rw[zb e0,zb e1,zb e2];exact⟨rfl,rfl,by rw[Q];exact S,by rw[s.1],rfl,rfl,rfl,rfl⟩,⟨rfl,rfl,rfl,rfl,rfl,rfl⟩,by rw[Q];exact qm,rfl,qy,Mn.le (n.trans u).heap j.se,⟨n9.nil _ _,n9.nil _ _⟩,n9.nil _ _,by rw[Q];exact Mn.le u.heap h6,A_.rd w3 ud,fun _=>qm⟩
 rintro f t c F2 ⟨u,hp⟩;have v7:=EY C hp.dn;refine x6 ?_;refine I6 0 ?_;refine V7 (fun(w':WM) (_:Unit) (_:Unit) (F3:l9)=>F2.le F3/\tl f t w'/\n9 F3.heap w'.ba (uU w'.bl)) (fun _ _ _ _=>[(4,i8 g4),(5,i8 g5)]) (fun _ _ _ F3=>F3) (fun w' _ _ _=>N7 g4 w'::aj g5 t::(E1 c t++R)) ?_ ?_
 ·refine x6 ?_;refine D8 [0,1,3] [2,4,5] [N7 Y f,aj g6 t] 6 ?_;refine wd [0,1,3] ?_;refine h_ 2 rfl i6 ?_;refine G6 (NR f t (by rw[hp.tw.2.2];exact C.tr) v7.2 v7.1) hp.blr ?_;rintro v A Z Fz hz ⟨w',rfl,rfl,y3,z0⟩;refine fy [4,5] ?_;all_goals exact cO (Rr:=N7 g4 w'::aj g5 t::(E1 c t++R)) Fz hz (fun v g=>D3 (A:=[_,_]) (J:=[_,_]) tk g) fun F3 T w4=>y7 (w',(),(),F3) ⟨T,y3,z0.le w4⟩ rfl (fun v g=>g)
 rintro w' _ _ F3 ⟨T,y3,z0⟩;refine oK ?_;refine I4 (A:=E1 c t) (v:=.tuple #[Fx w',UM t]) (u.trans T) ⟨w',t,c,rfl,rfl,.inr ⟨f,hp.le T.heap,y3,z0⟩⟩ ?_;exact Y0 rfl rfl rfl ud rfl ud rfl _ qh (fun v g=>D3 (A:=[]) (J:=[_,_]) tk g)
def gq{l:List Bs}(h:G_ l=true):l.length<=16/\∀f∈l,f.length<=32:=
 ⟨(jI h).2.2,fun f hf=>sQ ((jI h).1 f hf)⟩
def qO{l:List Bs}{x:Bs}(h:x∈U5 l):x∈l:=by
 rcases ((nt l [] .nil).2 x).1 h with h|h
 ·exact h
 ·cases h
def EZ{l b:List Bs}{how:Int}(h:(G8 l how b).2=0):(G8 l how b).1.length<=16/\∀f∈(G8 l how b).1,f.length<=32:=by
 unfold G8 at h⊢;split
 ·exact⟨zp _,fun _ h=>by cases h⟩
 ·rename_i c;rw[zb c] at h;have d:G_ l=true:=by cases e:G_ l;exact absurd (.inl e) c;rfl
  have g:G_ b=true:=by cases e:G_ b;exact absurd (.inr (.inl e)) c;rfl
  simp only at h⊢;have a:∀o:List Bs,o=(if how=0 then U5 b else if how=1 then U5 (l++b) else(U5 l).filter fun f=>!decide (f∈b))->∀f∈o,f.length<=32:=fun o i f hf=>by
   rw[i] at hf;split at hf
   ·exact(gq g).2 f (qO hf)
   split at hf
   ·rcases kw.1 (qO hf) with hf|hf
    ·exact(gq d).2 f hf
    ·exact(gq g).2 f hf
   ·exact(gq d).2 f (qO (Q0.1 hf).1)
  generalize i:(if how=0 then U5 b else if how=1 then U5 (l++b) else(U5 l).filter fun f=>!decide (f∈b))=o at h a⊢;by_cases h16:16<o.length
  ·rw[zr h16] at h;cases h
  ·rw[zb h16];exact⟨by simp only;omega,a o rfl⟩
def kZ{s:ML}(h:V5 s){i:Nat}(a:i<s.a6u.length):Dw (aw s i):=by
 have:aw s i=s.a6u[i]:=by unfold aw;rw[z8,zd a];rfl
 rw[this];exact h.box _ (zm a)
def JE{s:ML}{n:Bs}{i:Nat}(h:yb s n=some i):i<s.a6u.length:=(jg.1 h).1
def Am{s:ML}{r:RQ}{i:Nat}(h:named s r=some i):i<s.a6u.length:=by
 unfold named at h;obtain⟨j,b,a⟩:=kj.1 h;split at a
 ·injection a with a;subst a;exact JE b
 ·cases a
def Rc{l:List BX}{i:Nat}{b:BX}(c:i<l.length)(d:b.name=l[i].name)(h:l.Pairwise fun x y=>ip x.name y.name=true):(l.set i b).Pairwise fun x y=>ip x.name y.name=true:=by
 have e:(l.set i b).map BX.name=l.map BX.name:=by
  rw[K0,d];rw[show l[i].name=(l.map BX.name)[i]'(by simpa using c) from by simp];exact Kj _
 have a:(l.map BX.name).Pairwise fun x y=>ip x y=true:=K1.2 h;rw[<-e] at a;exact K1.1 a
def ve{s:ML}(h:V5 s){i:Nat}(c:i<s.a6u.length){b:BX}(d:b.name=(aw s i).name)(f:Dw b):V5 (jP s i b):=by
 have e:aw s i=s.a6u[i]:=by unfold aw;rw[z8,zd c];rfl
 refine⟨by show(s.a6u.set i b).length<=8;rw[Qw];exact h.a6u,fun x a=>?_,Rc c (by rw[d,e]) h.sorted,h.a6v,h.home,h.a6w,h.seat,h.nval,h.nses,h.a6G⟩;rcases Qj a with a|rfl
 ·exact h.box x a
 ·exact f
structure cQ(o:OC):Prop where
 a6A:o.a6A.length<=32/\∀u∈o.a6A,u<=4294967296
 mods:o.mods.length<=32/\∀u∈o.mods,u<=4294967296
 val:o.val<=4294967296
def cQ.zero:cQ C3:=⟨⟨zp _,fun _ h=>by cases h⟩,⟨zp _,fun _ h=>by cases h⟩,zp _⟩
def cQ.code(k:Int):cQ {C3 with code:=k}:=⟨⟨zp _,fun _ h=>by cases h⟩,⟨zp _,fun _ h=>by cases h⟩,zp _⟩
structure vf(s:ML):Prop where
 ok:V5 s
 n1:1<=s.nses
abbrev FC(q:AR):Prop:=vf q.1/\cQ q.2.1
def G2{s:ML}(h:vf s)(e:Int):FC (s,C3,e):=⟨h,.zero⟩
def An{h x:HO}:∀{l:List HO},x∈dJ h l->x=h\/x∈l
 |[],hx=>by simp[dJ] at hx;exact .inl hx
 |y::t,hx=>by
  unfold dJ at hx;split at hx
  ·rcases jv.1 hx with e|hx
   ·exact .inl e
   ·exact .inr hx
  ·rcases jv.1 hx with e|hx
   ·exact .inr (e▸Qb)
   ·rcases An hx with e|hx
    ·exact .inl e
    ·exact .inr (jn _ hx)
def CA(h:HO):∀{l:List HO},l.Pairwise (fun x y=>x.node<y.node)->(∀x∈l,x.node≠h.node)->(dJ h l).Pairwise fun x y=>x.node<y.node
 |[],_,_=>by simp[dJ]
 |y::t,hp,hn=>by
  obtain⟨c,d⟩:=Qd.1 hp;unfold dJ;split
  ·rename_i b;refine Qd.2 ⟨fun x a=>?_,hp⟩;rcases jv.1 a with rfl|a
   ·exact b
   ·exact Int.lt_trans b (c x a)
  ·rename_i b;refine Qd.2 ⟨fun x a=>?_,CA h d fun x a=>hn x (jn _ a)⟩;rcases An a with rfl|a
   ·have:=hn y Qb;omega
   ·exact c x a
def qP{b x:BX}:∀{l:List BX},x∈jO b l->x=b\/x∈l
 |[],hx=>by simp[jO] at hx;exact .inl hx
 |y::t,hx=>by
  unfold jO at hx;split at hx
  ·rcases jv.1 hx with e|hx
   ·exact .inl e
   ·exact .inr hx
  ·rcases jv.1 hx with e|hx
   ·exact .inr (e▸Qb)
   ·rcases qP hx with e|hx
    ·exact .inl e
    ·exact .inr (jn _ hx)
def xP(b:BX):∀l:List BX,(jO b l).length=l.length+1
 |[]=>rfl
 |y::t=>by
  unfold jO;split
  ·rfl
  ·simp[xP b t]
def CB(b:BX):∀{l:List BX},l.Pairwise (fun x y=>ip x.name y.name=true)->(∀x∈l,x.name≠b.name)->(jO b l).Pairwise fun x y=>ip x.name y.name=true
 |[],_,_=>by simp[jO]
 |y::t,hp,hn=>by
  obtain⟨d,f⟩:=Qd.1 hp;unfold jO;split
  ·rename_i a;refine Qd.2 ⟨fun x c=>?_,hp⟩;rcases jv.1 c with rfl|c
   ·exact a
   ·exact ck a (d x c)
  ·rename_i a;refine Qd.2 ⟨fun x c=>?_,CB b f fun x c=>hn x (jn _ c)⟩;rcases qP c with rfl|c
   ·exact dX (fun e=>hn y Qb e.symm) (by simpa using a)
   ·exact d x c
def NS{s:ML}(h:vf s)(r:RQ)(hl:r.life<18446744073709551616)(j:r.tr<18446744073709551616):FC (mi s r):=by
 unfold mi;split
 ·exact G2 h _
 ·rename_i p;have d:1<=r.node:=by omega
  have m:r.node<=5:=by omega
  simp only;split
  ·exact G2 h _
  split
  ·split
   ·exact G2 h _
   ·exact⟨h,cQ.zero.a6A,cQ.zero.mods,cQ.zero.val⟩
  generalize hst:(if((Option.map (fun i=>s.a6v.getD i OB) (iq s r.node)).getD OB).life<r.life then s.a6w.filter fun x=>!decide (x.node=r.node) else s.a6w)=a6w;have k:∀x∈a6w,x∈s.a6w:=fun x a=>by
   rw[<-hst] at a;split at a
   ·exact(Q0.1 a).1
   ·exact a
  split
  ·exact G2 h _
  ·rename_i n;refine⟨⟨?_,?_⟩,cQ.zero.a6A,cQ.zero.mods,cQ.zero.val⟩
   ·have b:∀x∈a6w++[⟨s.nses,0,r.node,r.life,r.tr⟩],1<=x.ses/\x.ses<s.nses+1/\x.last<18446744073709551616/\x.life<18446744073709551616/\x.tr<18446744073709551616:=fun x a=>by
     rcases kw.1 a with a|a
     ·have:=h.ok.seat x (k x a);exact⟨this.1,by omega,this.2.2⟩
     ·rw[z7.1 a];exact⟨h.n1,by simp only;omega,by simp only;omega,hl,j⟩
    have c:(a6w++[(⟨s.nses,0,r.node,r.life,r.tr⟩:SX)]).length<=16:=(by rw[zg];simp only[z1,kx];omega);have f:s.nses+1<=Du:=(by omega);unfold nA;split
    ·rename_i i g;have o:i<s.a6v.length:=(jg.1 g).1;have l:s.a6v[i].node=r.node:=(by simpa using(jg.1 g).2.1);refine⟨h.ok.a6u,h.ok.box,h.ok.sorted,?_,fun x a=>?_,c,b,h.ok.nval,f,h.ok.a6G⟩
     ·have e:(s.a6v.set i ⟨r.node,r.life,r.tr⟩).map HO.node=s.a6v.map HO.node:=by
       rw[K0];rw[show(⟨r.node,r.life,r.tr⟩:HO).node=(s.a6v.map HO.node)[i]'(by simpa using o) from by simp[l]];exact Kj _
      have d:(s.a6v.map HO.node).Pairwise fun x y=>x<y:=K1.2 h.ok.a6v;rw[<-e] at d;exact K1.1 d
     ·rcases Qj a with a|rfl
      ·exact h.ok.home x a
      ·exact⟨d,m,hl,j⟩
    ·rename_i g;refine⟨h.ok.a6u,h.ok.box,h.ok.sorted,CA _ h.ok.a6v fun x a=>?_,fun x a=>?_,c,b,h.ok.nval,f,h.ok.a6G⟩
     ·have:=Zx.1 g x a;simpa using this
     ·rcases An a with rfl|a
      ·exact⟨d,m,hl,j⟩
      ·exact h.ok.home x a
   ·unfold nA;split<;>(show 1<=s.nses+1;omega)
def Re{s:ML}(h:vf s)(r:RQ):FC (PJ s r):=by
 refine⟨⟨⟨h.ok.a6u,h.ok.box,h.ok.sorted,h.ok.a6v,h.ok.home,?_,fun x a=>h.ok.seat x (Q0.1 a).1,h.ok.nval,h.ok.nses,h.ok.a6G⟩,h.n1⟩,.zero⟩;exact j9 (Q9 _ _) h.ok.a6w
def JF{s:ML}(h:vf s):FC (ly s):=by
 unfold ly;split
 ·exact G2 h _
 ·rename_i a;refine⟨⟨⟨h.ok.a6u,h.ok.box,h.ok.sorted,h.ok.a6v,h.ok.home,h.ok.a6w,h.ok.seat,h.ok.nval,h.ok.nses,?_⟩,h.n1⟩,.zero⟩;have:=h.ok.a6G;show s.a6G+1<=E6;omega
def Fa{s:ML}(h:vf s)(r:RQ):FC (dr s r):=by
 have j:eX=4294967295:=rfl;unfold dr;split
 ·exact G2 h _
 rename_i d;split
 ·exact G2 h _
 rename_i f;split
 ·exact G2 h _
 split
 ·exact G2 h _
 rename_i k i;have a:r.box.length<=64:=by
  have:jH r.box=some r.box:=by simpa using d
  unfold jH at this;split at this
  ·rename_i hp;unfold vP at hp;simp only[jw,j7] at hp;exact hp.1.1.2
  ·cases this
 have b:Dw ⟨r.box,s.nval,1,1,[]⟩:=⟨a,h.ok.nval,by show 1<=4294967296;decide,by show 1<=E6;decide,zp _,fun _ h=>(by cases h),fun _ h=>(by cases h),fun _ h=>(by cases h),fun _ h=>(by cases h),fun _ h=>(by cases h)⟩;have g:∀x∈s.a6u,x.name≠r.box:=fun x c e=>by
  apply f;unfold yb;rw[List.findIdx?_isSome];exact Jd.2 ⟨x,c,by simpa using e⟩
 refine⟨⟨⟨by rw[xP];omega,fun x c=>?_,CB _ h.ok.sorted g,h.ok.a6v,h.ok.home,h.ok.a6w,h.ok.seat,by show s.nval+1<=_;have:¬eX<s.nval:=i;omega,h.ok.nses,h.ok.a6G⟩,h.n1⟩,cQ.zero.a6A,cQ.zero.mods,h.ok.nval⟩;rcases qP c with rfl|c
 ·exact b
 ·exact h.ok.box x c
def Fb{s:ML}(h:vf s)(r:RQ):FC (bY s r):=by
 unfold bY;split
 ·exact G2 h _
 split
 ·exact G2 h _
 ·rename_i i b;refine⟨⟨⟨j9 (List.length_eraseIdx_le ..) h.ok.a6u,fun x a=>h.ok.box x (Js a),h.ok.sorted.sublist (List.eraseIdx_sublist ..),h.ok.a6v,h.ok.home,h.ok.a6w,h.ok.seat,h.ok.nval,h.ok.nses,h.ok.a6G⟩,h.n1⟩,.zero⟩
def Fc{s:ML}(h:vf s)(r:RQ):FC (dt s r):=by
 have m:eX=4294967295:=rfl;unfold dt;split
 ·exact G2 h _
 rename_i i f;have c:=JE f;have b:=kZ h.ok c;simp only;split
 ·exact G2 h _
 rename_i d;split
 ·exact G2 h _
 split
 ·exact G2 h _
 split
 ·exact G2 h _
 rename_i n o p;have g:G_ r.a6J=true:=by cases e:G_ r.a6J;exact absurd (.inl e) d;rfl
 have j:r.hash.length=32:=Decidable.byContradiction fun e=>d (.inr (.inl e));have hz:r.size<=4096:=by omega
 have k:(aw s i).next<=eX:=by omega
 have l:(aw s i).high<E6:=by omega
 refine⟨⟨ve h.ok c rfl ⟨b.name,b.val,by simp only;omega,by simp only;omega,by simp only[zg,z1,kx];omega,fun x a=>?_,fun x a=>?_,fun x a=>?_,fun x a=>?_,fun x a=>?_⟩,h.n1⟩,⟨by simp,fun u hu=>by simp at hu;omega⟩,cQ.zero.mods,b.val⟩;all_goals (rcases kw.1 a with a|a)
 ·have:=b.uid x a;simp only;omega
 ·rw[z7.1 a];simp only;omega
 ·exact b.a6J x a
 ·rw[z7.1 a];exact gq g
 ·exact b.mod x a
 ·rw[z7.1 a];simp only;omega
 ·exact b.size x a
 ·rw[z7.1 a];exact hz
 ·exact b.hash x a
 ·rw[z7.1 a];exact j
def gY(r:RQ)(b:BX):∀(l:List LT) (q:List LT×zz×zz×Bool),I_ r b l=some q->q.1.length=l.length/\q.2.1.length<=l.length/\q.2.2.1.length<=l.length/\
  (∀u,u∈q.2.1\/u∈q.2.2.1->∃x∈l,x.uid=u)/\∀y∈q.1,∃x∈l,y.uid=x.uid/\y.hash=x.hash/\y.size=x.size/\(y.a6J=x.a6J/\y.mod=x.mod\/(y.a6J.length<=16/\∀f∈y.a6J,f.length<=32)/\y.mod=b.high+1)
 |[],q,h=>by
  simp only[I_,Q8] at h;subst h;exact⟨rfl,kp _,kp _,(fun u h=>by rcases h with h|h<;>cases h),qy⟩
 |x::t,q,h=>by
  have c:∀{P:LT->Prop},(∃y∈t,P y)->∃y∈x::t,P y:=fun⟨y,a,h⟩=>⟨y,jn _ a,h⟩;unfold I_ at h;split at h
  ·obtain⟨p,hp,rfl⟩:=jx.1 h;obtain⟨g,k,m,e,i⟩:=gY r b t p hp;refine⟨by simp[g],by simp only[z1];omega,by simp only[z1];omega,fun u hu=>c (e u hu),fun y a=>?_⟩;rcases jv.1 a with rfl|a
   ·exact⟨y,Qb,rfl,rfl,rfl,.inl qh⟩
   ·exact c (i y a)
  split at h
  ·obtain⟨p,hp,rfl⟩:=jx.1 h;obtain⟨g,k,m,e,i⟩:=gY r b t p hp;refine⟨by simp[g],by simp only[z1];omega,by simp only[z1];omega,fun u hu=>?_,fun y a=>?_⟩
   ·rcases hu with hu|hu
    ·exact c (e u (.inl hu))
    ·rcases jv.1 hu with rfl|hu
     ·exact⟨x,Qb,rfl⟩
     ·exact c (e u (.inr hu))
   ·rcases jv.1 a with rfl|a
    ·exact⟨y,Qb,rfl,rfl,rfl,.inl qh⟩
    ·exact c (i y a)
  split at h
  ·cases h
  ·rename_i hc;obtain⟨p,hp,rfl⟩:=jx.1 h;obtain⟨g,k,m,e,i⟩:=gY r b t p hp;have j:=EZ (l:=x.a6J) (b:=r.a6J) (how:=r.how) (by simpa using hc);have d:∀u,u∈x.uid::p.2.1\/u∈p.2.2.1->∃y∈x::t,y.uid=u:=fun u hu=>by
    rcases hu with hu|hu
    ·rcases jv.1 hu with rfl|hu
     ·exact⟨x,Qb,rfl⟩
     ·exact c (e u (.inl hu))
    ·exact c (e u (.inr hu))
   split
   ·refine⟨by simp[g],by simp only[z1];omega,by simp only[z1];omega,d,fun y a=>?_⟩;rcases jv.1 a with rfl|a
    ·exact⟨y,Qb,rfl,rfl,rfl,.inl qh⟩
    ·exact c (i y a)
   ·refine⟨by simp[g],by simp only[z1];omega,by simp only[z1];omega,d,fun y a=>?_⟩;rcases jv.1 a with rfl|a
    ·exact⟨x,Qb,rfl,rfl,rfl,.inr ⟨j,rfl⟩⟩
    ·exact c (i y a)
def JG{s:ML}(h:vf s)(r:RQ):FC (dK s r):=by
 unfold dK;split
 ·exact G2 h _
 rename_i i k;have c:=Am k;have a:=kZ h.ok c;simp only;split
 ·exact G2 h _
 split
 ·exact G2 h _
 rename_i q l;obtain⟨z,A,C,m,n⟩:=gY r _ _ q l;have f:=a.lts;have o:=a.next;have hu:∀u,u∈q.2.1\/u∈q.2.2.1->u<=4294967296:=fun u hu=>by
  obtain⟨x,b,rfl⟩:=m u hu;have:=a.uid x b;omega
 have g:cQ {C3 with a6A:=q.2.1,mods:=q.2.2.1}:=⟨⟨by simp only;omega,fun u h=>hu u (.inl h)⟩,⟨by simp only;omega,fun u h=>hu u (.inr h)⟩,zp _⟩;split
 ·exact⟨h,g⟩
 split
 ·exact G2 h _
 rename_i hg;have p:(aw s i).high<E6:=by omega
 refine⟨⟨ve h.ok c rfl ⟨a.name,a.val,a.next,by simp only;omega,by simp only;omega,fun y d=>?_,fun y d=>?_,fun y d=>?_,fun y d=>?_,fun y d=>?_⟩,h.n1⟩,g⟩;all_goals (obtain⟨x,b,t,v,w,j⟩:=n y d)
 ·rw[t];exact a.uid x b
 ·rcases j with⟨e,_⟩|⟨e,_⟩
  ·rw[e];exact a.a6J x b
  ·exact e
 ·rcases j with⟨_,e⟩|⟨_,e⟩
  ·rw[e];have:=a.mod x b;exact this
  ·rw[e];omega
 ·rw[w];exact a.size x b
 ·rw[v];exact a.hash x b
def Ao{s:ML}(h:vf s)(r:RQ):FC (bD s r):=by
 unfold bD;split
 ·exact G2 h _
 rename_i i d;have c:=Am d;have a:=kZ h.ok c;simp only;split
 ·exact G2 h _
 split
 ·exact G2 h _
 rename_i hg;have e:(aw s i).high<E6:=by omega
 refine⟨⟨ve h.ok c rfl ⟨a.name,a.val,a.next,by simp only;omega,j9 (Q9 _ _) a.lts,fun x b=>a.uid x (Q0.1 b).1,fun x b=>a.a6J x (Q0.1 b).1,fun x b=>a.mod x (Q0.1 b).1,fun x b=>a.size x (Q0.1 b).1,fun x b=>a.hash x (Q0.1 b).1⟩,h.n1⟩,⟨?_,fun u hu=>?_⟩,cQ.zero.mods,zp _⟩
 ·simp only[kg];exact j9 (Q9 _ _) a.lts
 ·obtain⟨x,b,rfl⟩:=jr.1 hu;have:=a.uid x (Q0.1 b).1;have:=a.next;omega
def CC(m:Nat):∀(l:List LT) (n:Nat),(fz n m l).length=l.length/\∀y∈fz n m l,n<=y.uid/\y.uid<n+l.length/\y.mod=m/\∃x∈l,y.a6J=x.a6J/\y.hash=x.hash/\y.size=x.size
 |[],n=>⟨rfl,fun _ h=>by cases h⟩
 |x::t,n=>by
  have b:=CC m t (n+1);refine⟨by simp[fz,b.1],fun y a=>?_⟩;rcases jv.1 a with rfl|a
  ·exact⟨kp _,by simp,rfl,x,Qb,rfl,rfl,rfl⟩
  ·obtain⟨e,f,c,z,hz,d⟩:=b.2 y a;exact⟨by omega,by simp only[z1];omega,c,z,jn _ hz,d⟩
def NT{s:ML}(h:vf s)(r:RQ):FC (ir s r):=by
 have t:eX=4294967295:=rfl;unfold ir;split
 ·exact G2 h _
 rename_i j n;have g:=Am n;have k:=kZ h.ok g;simp only;split
 ·exact G2 h _
 rename_i i o;have f:=JE o;have c:=kZ h.ok f;have m:cQ {C3 with val:=(aw s i).val}:=⟨cQ.zero.a6A,cQ.zero.mods,c.val⟩;split
 ·exact⟨h,m⟩
 split
 ·exact⟨h,m⟩
 split
 ·exact⟨h,m⟩
 rename_i v w y;generalize hl:(aw s j).lts.filter (Y3 r (aw s j))=l at*;have b:∀x∈l,x∈(aw s j).lts:=fun x a=>by rw[<-hl] at a;exact(Q0.1 a).1
 have d:=CC ((aw s i).high+1) l (aw s i).next;have p:(aw s i).next+l.length<=eX+1:=by omega
 have q:(aw s i).high<E6:=by omega
 refine⟨⟨ve h.ok f rfl ⟨c.name,c.val,by simp only;omega,by simp only;omega,by simp only[zg,d.1];omega,fun x a=>?_,fun x a=>?_,fun x a=>?_,fun x a=>?_,fun x a=>?_⟩,h.n1⟩,⟨by simp only[kg,d.1];omega,fun u hu=>?_⟩,cQ.zero.mods,c.val⟩
 case refine_6=>
  obtain⟨x,a,rfl⟩:=jr.1 hu;have:=(d.2 x a).2.1;omega
 all_goals (rcases kw.1 a with a|a)
 ·have:=c.uid x a;simp only;omega
 ·have:=(d.2 x a).2.1;simp only;omega
 ·exact c.a6J x a
 ·obtain⟨_,_,_,z,hz,e,_⟩:=d.2 x a;rw[e];exact k.a6J z (b z hz)
 ·exact c.mod x a
 ·obtain⟨_,_,e,_⟩:=d.2 x a;rw[e];omega
 ·exact c.size x a
 ·obtain⟨_,_,_,z,hz,_,_,e⟩:=d.2 x a;rw[e];exact k.size z (b z hz)
 ·exact c.hash x a
 ·obtain⟨_,_,_,z,hz,_,e,_⟩:=d.2 x a;rw[e];exact k.hash z (b z hz)
def OY{s:ML}(h:vf s)(r:RQ)(hl:r.op=1->r.life<18446744073709551616/\r.tr<18446744073709551616):FC (KJ s r):=by
 unfold KJ;split
 ·rename_i e;exact NS h r (hl e).1 (hl e).2
 split
 ·exact Re h r
 split
 ·exact G2 h _
 split
 ·exact Fa h r
 split
 ·exact Fb h r
 split
 ·exact Fc h r
 split
 ·exact JG h r
 split
 ·exact Ao h r
 split
 ·exact NT h r
 ·exact JF h
def CD{q:AR}(h:FC q):vf (wj q).1/\cQ (wj q).2:=by
 refine⟨h.1,?_⟩;unfold wj;simp only;split
 ·exact h.2
 ·exact .code _
def gr{s:ML}(h:vf s)(r:RQ)(c:r.num<18446744073709551616)(hl:r.op=1->r.life<18446744073709551616/\r.tr<18446744073709551616):vf (E3 s r).1/\cQ (E3 s r).2:=by
 unfold E3;split
 ·exact⟨h,.code _⟩
 split
 ·exact CD (OY h r hl)
 split
 ·exact⟨h,.code _⟩
 ·rename_i i d;have a:i<s.a6w.length:=(jg.1 d).1;have e:s.a6w.getD i ⟨0,0,0,0,0⟩=s.a6w[i]:=by rw[z8,zd a];rfl
  simp only[e];split
  ·exact⟨h,.code _⟩
  ·refine CD (OY (s:={s with a6w:=s.a6w.set i {s.a6w[i] with last:=r.num}}) ⟨⟨h.ok.a6u,h.ok.box,h.ok.sorted,h.ok.a6v,h.ok.home,by show(s.a6w.set i _).length<=16;rw[Qw];exact h.ok.a6w,fun x b=>?_,h.ok.nval,h.ok.nses,h.ok.a6G⟩,h.n1⟩ r hl);rcases Qj b with b|rfl
   ·exact h.ok.seat x b
   ·have:=h.ok.seat _ (zm a);exact⟨this.1,this.2.1,c,this.2.2.2⟩
def JH:vf Gx:=by
 refine⟨⟨by decide,fun b a=>?_,by simp[Gx],by simp[Gx],qy,by decide,qy,by decide,by decide,by decide⟩,by decide⟩;rw[z7.1 a];exact⟨by decide,by decide,by decide,by decide,by decide,qy,qy,qy,qy,qy⟩
structure RX(r:RQ):Prop where
 box:r.box.length<=64
 a6A:r.a6A.length<=64
 a6J:r.a6J.length<=16
 fl:∀f∈r.a6J,f.length<=32
 num:r.op=1->r.num=0
structure Ul(s s':SE)(d':DD)(c:CM)(l:zz)(r:RQ)(b:Bool):Prop where
 a6E:s.a6E=false
 over:s.a6z≠3
 le:qB c
 kind:1<=c.kind/\c.kind<=18
 from_:(M_ c.kind).1<=s.a6z/\s.a6z<=(M_ c.kind).2
 len:l.length<=s.a6y.a6x.length
 us:∀u∈l,0<cW s.a6y u
 op:r.op=1↔c.kind=7
 st:r.op≠1->s.a6z≠0
 rq:RX r
 s':s'={s with a6E:=true,cmd:=c,a6A:=l,cond:=b,num:=if r.op=1 then s.num else s.num+1}
 ask:d'.ask=true
 req:d'.req=if r.op=1 then r else{r with ses:=s.ses,num:=s.num+1}
 a6I:d'.a6I=[]
 close:d'.close=false
 want:d'.want=[]
 body:d'.body.length<=4096
 store:d'.store=decide (c.kind=14)
def mM(s s':SE)(d':DD):Prop:=
 (d'.ask=false/\d'.req=dq/\d'.store=false/\d'.body=[]/\d'.want=[]/\(s'=s\/(s'={s with a6z:=3}/\s.a6E=false)\/s'={s with cond:=true}))\/∃c l r b,Ul s s' d' c l r b
def iB{s a:SE}{b:DD}{r:RR}(h:(a,b)=X0 (s,G7) r):mM s a b:=by
 injection h with h1 h2;subst h1 h2;exact .inl ⟨rfl,rfl,rfl,rfl,rfl,.inl rfl⟩
def JI{s d:SE}{f d2:DD}{c:CM}{l:zz}{r:RQ}{b:Bool}(h:(d,f)=H3 ({s with cond:=b},d2) c r l)(g:s.a6E=false)(i:s.a6z≠3)(hc:qB c)(j:1<=c.kind/\c.kind<=18)(hf:(M_ c.kind).1<=s.a6z/\s.a6z<=(M_ c.kind).2)(hl:l.length<=s.a6y.a6x.length/\∀u∈l,0<cW s.a6y u)(a:r.op=1↔c.kind=7)(hz:r.op≠1->s.a6z≠0)(k:RX r)(t:d2.a6I=[]/\d2.close=false/\d2.want=[]/\d2.body.length<=4096/\d2.store=decide (c.kind=14)):mM s d f:=by
 obtain⟨m,n,o,p,q⟩:=t;refine .inr ⟨c,l,r,b,?_⟩;unfold H3 at h;split at h
 ·rename_i e;injection h with e1 e2;subst e1 e2;exact⟨g,i,hc,j,hf,hl.1,hl.2,a,hz,k,by rw[zr e],rfl,by rw[zr e],m,n,o,p,q⟩
 ·rename_i e;injection h with e1 e2;subst e1 e2;exact⟨g,i,hc,j,hf,hl.1,hl.2,a,hz,k,by rw[zb e],rfl,by rw[zb e],m,n,o,p,q⟩
def Rf(op:Int):RX {dq with op:=op}:=⟨zp _,zp _,zp _,qy,fun _=>rfl⟩
def Fe{v:VW}{l:List (Nat×Nat)}{b:Bool}{m:zz}(h:Y4 v l b=some m):m.length<=v.a6x.length:=by
 unfold Y4 at h;simp only at h;split at h
 ·cases h
 ·injection h with h;rw[<-h,kg];refine j9 (Q9 _ _) ?_;simp
def NU{v:VW}{u:Nat}(h:∃r∈v.a6x,r.1=u):0<cW v u:=by
 obtain⟨r,a,e⟩:=h;unfold cW tQ
 cases hf:v.a6x.findIdx? (fun r=>decide (r.1=u)) with
 |none=>
  rw[Zx] at hf;have:=hf r a;simp[e] at this
 |some i=>exact Nat.succ_pos i
def Ff{v:VW}{l:List (Nat×Nat)}{b:Bool}{m:zz}(h:Y4 v l b=some m):∀u∈m,0<cW v u:=fun u hu=>NU ((fk h).1 u hu)
def NV{k:Nat}(h:4<=k)(a:k≠7):1<=(M_ k).1:=by
 unfold M_;split
 ·omega
 ·split
  ·exact Nat.le_succ _
  ·exact kp _
def JJ{s o:SE}{p:DD}{k:Int}{t:Bs}(S:t.length<=1000000000)(v:s.a6y.box.length<=64)(h:bJ s k t o p):mM s o p:=by
 unfold bJ at h;split at h
 ·exact iB h
 split at h
 ·injection h with m n;subst m n;exact .inl ⟨rfl,rfl,rfl,rfl,rfl,.inl rfl⟩
 rename_i y;have w:s.a6z≠3:=fun e=>y (.inl e);have A:s.a6E=false:=by cases e:s.a6E;rfl;exact absurd (.inr e) y
 split at h
 ·unfold Gy at h;injection h with m n;subst m n;exact .inl ⟨rfl,rfl,rfl,rfl,rfl,.inr (.inl ⟨rfl,A⟩)⟩
 split at h
 ·obtain⟨c,e,_,h⟩:=h;exact iB h
 split at h
 ·obtain⟨c,e,hp,h⟩:=h;have a:=kQ S hp;rcases h with⟨_,h⟩|⟨_,h⟩|⟨_,h⟩|⟨T,h⟩
  ·exact iB h
  ·exact iB h
  ·exact iB h
  rcases h with⟨_,h⟩|⟨m,n,h⟩
  ·exact iB h
  have D:=a.kind T;have hf:=And.intro m n;have i:4<=c.kind->c.kind≠7->s.a6z≠0:=fun U J e=>by have:=NV U J;omega
  have C:∀(r:RQ) (l:zz),(o,p)=H3 (s,G7) c r l->(l.length<=s.a6y.a6x.length/\∀u∈l,0<cW s.a6y u)->(r.op=1↔c.kind=7)->(r.op≠1->s.a6z≠0)->RX r->c.kind≠14->mM s o p:=fun r l h V M hz q d=>
   JI (b:=s.cond) (d2:=G7) h A w a.le D hf V M hz q ⟨rfl,rfl,rfl,zp _,(Qk d).symm⟩
  have j:∀(b:Bool),(o,p)=H3 ({s with cond:=b},G7) c bE []->c.kind≠7->c.kind≠14->s.a6z≠0->mM s o p:=fun b h J d hz=>
   JI (b:=b) (d2:=G7) h A w a.le D hf ⟨zp _,qy⟩ ⟨(fun e=>by cases e),fun e=>absurd e J⟩ (fun _=>hz) (Rf 3) ⟨rfl,rfl,rfl,zp _,(Qk d).symm⟩
  unfold NF at h;split at h
  ·rename_i d;refine JI (b:=s.cond) h A w a.le D hf ⟨zp _,qy⟩ ⟨(fun e=>by cases e),(fun e=>by omega)⟩ (fun _=>i qb qb) ⟨a.le.box,zp _,a.le.le.a6J,a.le.fl,(fun _=>rfl)⟩ ⟨rfl,rfl,rfl,a.le.le.data,(ju d).symm⟩
  rename_i d;split at h
  ·rename_i O;rcases h with⟨r,_,h⟩|⟨l,r,Q,q,h⟩
   ·exact iB h
   ·refine C r l h ⟨Fe Q,Ff Q⟩ ⟨fun e=>?_,fun e=>by omega⟩ (fun _=>i qb qb) ⟨?_,q.a6A,?_,?_,(fun e=>by rcases q.op with x|x|x<;>rw[x] at e<;>cases e)⟩ d
    ·rcases q.op with x|x|x<;>rw[x] at e<;>cases e
    ·rcases q.box with e|e<;>rw[e]
     ·exact zp _
     ·exact v
    ·rcases q.a6J with e|e|e<;>rw[e]
     ·exact zp _
     ·exact a.le.le.a6J
     ·decide
    ·rcases q.a6J with e|e|e<;>rw[e]
     ·intro _ h;cases h
     ·exact a.le.fl
     ·intro f hf;rw[z7.1 hf];decide
  ·rename_i O;unfold KK at h;have g:∀(r:RQ),(o,p)=H3 (s,G7) c r []->(r.op=1↔c.kind=7)->(r.op≠1->s.a6z≠0)->RX r->mM s o p:=fun r h m X n=>C r [] h ⟨zp _,qy⟩ m X n d;by_cases k1:c.kind=1
   ·rw[zr k1] at h;unfold X0 at h;injection h with m n;subst m n;exact .inl ⟨rfl,rfl,rfl,rfl,rfl,.inl rfl⟩
   rw[zb k1] at h;by_cases k2:c.kind=2
   ·rw[zr k2] at h;by_cases z:s.a6z=0
    ·rw[zr z] at h;exact iB h
    ·rw[zb z] at h;exact j s.cond h qb qb z
   rw[zb k2] at h;by_cases k3:c.kind=3
   ·rw[zr k3] at h;by_cases z:s.a6z=0
    ·rw[zr z] at h;unfold oU X0 Gy at h;injection h with m n;subst m n;exact .inl ⟨rfl,rfl,rfl,rfl,rfl,.inr (.inl ⟨rfl,A⟩)⟩
    ·rw[zb z] at h;exact g _ h ⟨(fun e=>by cases e),(fun e=>by omega)⟩ (fun _=>z) (Rf 2)
   rw[zb k3] at h;by_cases k4:c.kind=4
   ·rw[zr k4] at h;by_cases z:s.ro=true
    ·rw[zr z] at h;exact j s.cond h qb qb (i qb qb)
    ·rw[zb z] at h;exact g _ h ⟨(fun e=>by cases e),(fun e=>by omega)⟩ (fun _=>i qb qb) ⟨v,zp _,zp _,qy,(fun _=>rfl)⟩
   rw[zb k4] at h;by_cases k5:c.kind=5
   ·rw[zr k5] at h;by_cases z:s.ro=true
    ·rw[zr z] at h;exact iB h
    ·rw[zb z] at h;exact g _ h ⟨(fun e=>by cases e),(fun e=>by omega)⟩ (fun _=>i qb qb) ⟨v,zp _,zp _,qy,(fun _=>rfl)⟩
   rw[zb k5] at h;by_cases k6:c.kind=6
   ·rw[zr k6] at h;unfold X0 at h;injection h with m n;subst m n;exact .inl ⟨rfl,rfl,rfl,rfl,rfl,.inr (.inr rfl)⟩
   rw[zb k6] at h;by_cases k7:c.kind=7
   ·rw[zr k7] at h;by_cases z:c.pass=[104,111,114,110]
    ·rw[zr z] at h;exact g _ h ⟨(fun _=>k7),(fun _=>rfl)⟩ (fun e=>absurd rfl e) (Rf 1)
    ·rw[zb z] at h;exact iB h
   rw[zb k7] at h;by_cases k9:c.kind<=9
   ·rw[zr k9] at h;exact j _ h k7 d (i qb k7)
   rw[zb k9] at h;by_cases k10:c.kind=10
   ·rw[zr k10] at h;exact g _ h ⟨(fun e=>by cases e),(fun e=>by omega)⟩ (fun _=>i qb k7) ⟨a.le.box,zp _,zp _,qy,(fun _=>rfl)⟩
   rw[zb k10] at h;by_cases k11:c.kind=11
   ·rw[zr k11] at h;exact g _ h ⟨(fun e=>by cases e),(fun e=>by omega)⟩ (fun _=>i qb k7) ⟨a.le.box,zp _,zp _,qy,(fun _=>rfl)⟩
   rw[zb k11] at h;by_cases k13:c.kind<=13\/c.kind=15
   ·rw[zr k13] at h;exact j s.cond h k7 d (i qb k7)
   ·exfalso;omega
 ·injection h with m n;subst m n;exact .inl ⟨rfl,rfl,rfl,rfl,rfl,.inl rfl⟩
structure nk(n:Nat)(s:SE):Prop where
 a6x:s.a6y.a6x.length<=32*n
 row:∀r∈s.a6y.a6x,r.1<=4294967296
 us:s.a6A.length<=32*n
 cmd:qB s.cmd
 num:s.num<=n
 box:s.a6y.box.length<=64
def nk.ok{n:Nat}{s:SE}(h:nk n s)(b:n<=1000):Ad s:=⟨by have:=h.a6x;omega,by have:=h.us;omega,h.cmd.le,fun r a=>by have:=h.row r a;omega,by have:=h.num;omega⟩
def nk.up{n m:Nat}{s:SE}(h:nk n s)(a:n<=m):nk m s:=⟨by have:=h.a6x;omega,h.row,by have:=h.us;omega,h.cmd,by have:=h.num;omega,h.box⟩
def Rg{n:Nat}{s e:SE}{f:DD}(d:nk n s)(h:mM s e f):nk (n+1) e:=by
 rcases h with⟨_,_,_,_,_,rfl|⟨rfl,_⟩|rfl⟩|⟨c,l,r,b,h⟩
 ·exact d.up qb
 ·have:=d.up (show n<=n+1 by omega);exact⟨this.a6x,this.row,this.us,this.cmd,this.num,this.box⟩
 ·have:=d.up (show n<=n+1 by omega);exact⟨this.a6x,this.row,this.us,this.cmd,this.num,this.box⟩
 ·have a:=d.up (show n<=n+1 by omega);rw[h.s'];refine⟨a.a6x,a.row,?_,h.le,?_,a.box⟩
  ·have:=h.len;have:=d.a6x;show l.length<=_;omega
  ·have:=d.num;show(if r.op=1 then s.num else s.num+1)<=n+1;split<;>omega
def qQ(b:BX):∀(k:Nat) (a:List (Nat×Nat)),∀r∈(az b k a).1,r∈a
 |0,a,r,h=>h
 |k+1,a,r,h=>by
  unfold az at h;split at h
  ·exact qQ b k a r h
  ·exact Js (qQ b k (a.eraseIdx k) r h)
def JK(b:BX)(r:Nat×Nat):(Y5 b r).1.1=r.1:=by
 unfold Y5;split
 ·rfl
 ·split<;>rfl
def Rh(v:VW)(b:BX)(e c:Bool):(aa v b e c).1.box=v.box/\(aa v b e c).1.a6x.length<=v.a6x.length+b.lts.length/\∀r∈(aa v b e c).1.a6x,(∃q∈v.a6x,q.1=r.1)\/∃x∈b.lts,x.uid=r.1:=by
 unfold aa;split
 ·exact⟨rfl,Nat.le_add_right _ _,fun r a=>.inl ⟨r,a,rfl⟩⟩
 ·simp only;generalize hq:(if e=true then az b v.a6x.length v.a6x else(v.a6x,[]))=q;have d:q.1.length<=v.a6x.length/\∀r∈q.1,r∈v.a6x:=by
   rw[<-hq];split
   ·exact⟨(kX b _ _).1,qQ b _ _⟩
   ·exact⟨kp _,fun _ h=>h⟩
  refine⟨trivial,?_,fun r a=>?_⟩
  ·simp only[zg,kg];have:=Q9 (fun x:LT=>decide (M7 q.1<x.uid)) b.lts;omega
  ·rcases kw.1 a with a|a
   ·obtain⟨p,hp,rfl⟩:=jr.1 a;obtain⟨z,hz,rfl⟩:=jr.1 hp;exact .inl ⟨z,d.2 z hz,(JK b z).symm⟩
   ·obtain⟨x,f,rfl⟩:=jr.1 a;exact .inr ⟨x,(Q0.1 f).1,rfl⟩
def Ri{b:BX}(a:Dw b){n:Nat}(e:1<=n):(R4 b).a6x.length<=32*n/\(∀r∈(R4 b).a6x,r.1<=4294967296)/\(R4 b).box.length<=64:=by
 refine⟨?_,fun r c=>?_,a.name⟩
 ·show(b.lts.map fun x=>(x.uid,x.mod)).length<=_;have:=a.lts;rw[kg];omega
 ·obtain⟨x,d,rfl⟩:=jr.1 c;have:=a.uid x d;have:=a.next;show x.uid<=_;omega
def Aj.I{v v':VW}(h:Aj v v'):∀r∈v'.a6x,∃q∈v.a6x,q.1=r.1:=fun r a=>by
 have:r.1∈v'.a6x.map Prod.fst:=Q5 a;rw[h.2.2] at this;obtain⟨q,b,e⟩:=jr.1 this;exact⟨q,b,e⟩
def JL{x:AN}{s c:SE}{r:RR}{l:List RR}{n:Nat}(h:O9 x s r c l)(j:V5 x.m.s)(a:nk n s)(k:1<=n):nk n c:=by
 have f:∀g,uY x s g r c l->nk n c:=fun g h=>by
  obtain⟨_,⟨i,rfl,d⟩,_⟩:=h;refine⟨?_,fun r m=>?_,a.us,a.cmd,a.num,?_⟩
  ·have:=d.len;have:=a.a6x;show i.a6x.length<=_;omega
  ·obtain⟨q,o,e⟩:=d.I r m;rw[<-e];exact a.row q o
  ·show i.box.length<=64;rw[d.1];exact a.box
 unfold O9 at h;split at h
 ·rw[h.1];exact⟨a.a6x,a.row,a.us,a.cmd,zp _,a.box⟩
 split at h
 ·rw[h.1];exact a
 split at h
 ·rcases h with⟨_,rfl,_⟩|⟨b,p,rfl,_⟩
  ·exact a
  ·obtain⟨t,u,v⟩:=Ri (j.box b (cp p)) k;exact⟨t,u,a.us,a.cmd,a.num,v⟩
 split at h
 ·rw[h.1];exact a
 split at h
 ·rw[h.1];exact a
 split at h
 ·rw[h.1];exact a
 split at h
 ·exact f _ h
 split at h
 ·exact f _ h
 ·rw[h.1];exact a
def Rj(s:SE){st:ML}(b:V5 st):(mU s st).lts.length<=32/\∀x∈(mU s st).lts,x.uid<=4294967296:=by
 unfold mU
 cases e9:ay st s.a6y.box with
 |none=>exact⟨zp _,qy⟩
 |some b0=>
  have a:=b.box b0 (cp e9);by_cases h9:b0.val=s.a6y.val
  ·simp only[jq,zr h9,Z6];refine⟨a.lts,fun x c=>?_⟩;have:=a.uid x c;have:=a.next;omega
  ·simp only[jq,zb h9,Option.getD_none];exact⟨zp _,qy⟩
def je{n:Nat}{s:SE}(a:nk n s):nk n (X6 s):=⟨a.a6x,a.row,zp _,gV rfl rfl rfl rfl rfl rfl rfl,a.num,a.box⟩
def nY{n:Nat}{s:SE}(a:nk n s)(k:Nat):nk n {s with a6z:=k}:=⟨a.a6x,a.row,a.us,a.cmd,a.num,a.box⟩
def OZ{n:Nat}{s O:SE}{st:ML}{o:OC}{bl:BL}{U:DD}(t:nk n s)(u:V5 st)(h:fC s st o bl O U):nk (n+1) O:=by
 have g:=t.up (show n<=n+1 by omega);unfold fC at h;split at h
 ·rw[h.1];exact g
 rcases h with⟨w,_,_,rfl,_⟩|⟨x,hc,j,ho,hu,hb,i,h⟩
 ·exact g
 unfold ik at h;split at h
 ·rw[h.1];exact nY (je g) 3
 split at h
 ·rw[h.1];exact nY (je g) 3
 obtain⟨r,s1,V,X,l2,a,v,y⟩:=h;have b:=je g;have c:∀k,nk k (X6 s)->nk k (Cu x (X6 s)):=fun k p=>by
  unfold Cu;split
  ·exact⟨zp _,qy,p.us,p.cmd,p.num,zp _⟩
  ·exact p
 have A:=Rj s u
 -- what is told ahead of the last look
 have d:nk (n+1) s1/\s1.a6y.a6x.length+(if s1.a6z=2/\vq x=false/\x.bx.val≠0 then 32 else 0)<=32*(n+1):=by
  by_cases ho0:vq x=true
  ·have C:¬(s1.a6z=2/\vq x=false/\x.bx.val≠0):=fun h=>(by rw[h.2.1] at ho0;cases ho0);rw[zb C];split at a
   ·have:=JL a (show V5 (Cv x).m.s from by show V5 x.m.s;rw[j];exact u) (c _ b) qb;exact⟨this,this.a6x⟩
   ·rw[a.1];exact⟨c _ b,(c _ b).a6x⟩
  ·have Y:vq x=false:=(by simpa using ho0);have D:¬(x.c.kind=8\/x.c.kind=9):=fun e=>by
    apply ho0;unfold vq;rcases e with e|e<;>rw[e]<;>rfl
   have J:s1.a6y.a6x.length<=32*n/\nk (n+1) s1:=by
    split at a
    ·refine⟨?_,JL a (show V5 (Cv x).m.s from by show V5 x.m.s;rw[j];exact u) (c _ b) qb⟩;have f:=(c _ (je t)).a6x;unfold O9 at a;rw[zb (show¬((Cv x).c.kind=8\/(Cv x).c.kind=9) from D)] at a;have Q:∀S,uY (Cv x) (Cu x (X6 s)) S r s1 V->s1.a6y.a6x.length<=32*n:=fun S h=>by
      obtain⟨_,⟨Z,rfl,hv⟩,_⟩:=h;have:=hv.len;show Z.a6x.length<=_;omega
     split at a
     ·rw[a.1];exact f
     split at a
     ·rw[a.1];exact f
     split at a
     ·rw[a.1];exact f
     split at a
     ·rw[a.1];exact f
     split at a
     ·rw[a.1];exact f
     split at a
     ·exact Q _ a
     split at a
     ·exact Q _ a
     ·rw[a.1];exact f
    ·rw[a.1];exact⟨(c _ (je t)).a6x,c _ b⟩
   refine⟨J.2,?_⟩;split<;>omega
 have l:nk (n+1) X:=by
  split at v
  ·rename_i m;rw[zr m] at d;obtain⟨e1,e2,T⟩:=Rh s1.a6y x.bx.x (!iA x) s1.cond;rw[v.1];rw[i] at e2 T;refine⟨?_,fun r hr=>?_,d.1.us,d.1.cmd,d.1.num,?_⟩
   ·show(aa s1.a6y x.bx.x (!iA x) s1.cond).1.a6x.length<=_;rw[i];omega
   ·have M:r∈(aa s1.a6y (mU s st) (!iA x) s1.cond).1.a6x:=(by rw[<-i];exact hr);rcases T r M with⟨q,hq,e⟩|⟨z,hz,e⟩
    ·rw[<-e];exact d.1.row q hq
    ·rw[<-e];exact A.2 z hz
   ·show(aa s1.a6y x.bx.x (!iA x) s1.cond).1.box.length<=64;rw[e1];exact d.1.box
  ·rw[v.1];exact d.1
 split at y
 ·rw[y.1];exact nY l 3
 ·rw[y.1];exact l
def Rk{n:Nat}{s b:SE}{c:DD}(d:nk n s)(h:(b,c)=aH s):nk (n+1) b:=by
 have a:=d.up (show n<=n+1 by omega);unfold aH at h;split at h
 ·injection h with h1 h2;rw[h1];exact a
 split at h
 ·injection h with h1 h2;rw[h1];exact nY (je a) 3
 ·injection h with h1 h2;rw[h1];exact je a
structure RqI(r:RQ):Prop where
 ok:xH r
 op:r.op=1->r.life<18446744073709551616/\r.tr<18446744073709551616
structure Pa(n:Nat)(w:WM):Prop where
 se:nk n w.s
 ml:vf w.m.s
 q:RqI w.q
 tr:w.tr<=n
 bll:w.bl.length<=n
 body:∀p∈w.bl,p.2.length<=4096
structure rF(a:AX):Prop where
 text:a.text.length<=1000000000
 q:RqI a.other
def mN(w:WM)(a:AX)(w':WM)(t:TN):Prop:=(a.kind=1/\w.s.a6E=false/\w'=w/\t=FB w a)\/
 ∃w1 c,aK w a t.b t.d w1.m.s w1.bl t.hears t.comes t.fails c/\(t.a=w.s/\t.hk=a.hk/\t.ht=a.text/\t.c=w.s.cmd)/\(w1.q=w.q/\w1.tr=w.tr)/\tl w1 t w'
def kY.step{w:WM}{a:AX}{w':WM}{t:TN}{c:Bool}{h:l_}(k:kY w a w' t c h):mN w a w' t:=by
 rcases k with⟨b,d,e,f,_⟩|⟨g,b,d,_⟩
 ·exact .inl ⟨b,d,e,f⟩
 ·exact .inr ⟨g,c,b.dn,⟨b.ta.1,b.ta.2.2.1,b.ta.2.2.2.1,b.ta.2.2.2.2.1⟩,⟨b.tw.1,b.tw.2.2⟩,d⟩
def Rl{o:OC}(h:cQ o):(o.a6A.length<=100000/\gg o.a6A)/\(o.mods.length<=100000/\gg o.mods)/\o.val<18446744073709551616:=by
 have a:=h.a6A;have b:=h.mods;have c:=h.val;exact⟨⟨by omega,fun u hu=>by have:=a.2 u hu;omega⟩,⟨by omega,fun u hu=>by have:=b.2 u hu;omega⟩,by omega⟩
def tp{s d:SE}{a:DD}(h:mM s d a):a.body.length<=4096:=by
 rcases h with⟨_,_,_,e,_⟩|⟨c,l,r,b,h⟩
 ·rw[e];simp
 ·exact h.body
def qR{n:Nat}{w:WM}{a:AX}(h:Pa n w)(ha:rF a)(d:n<=800):Cz w a:=by
 have b:=gr h.ml w.q h.q.ok.num h.q.op;have hu:=Rl b.2;exact⟨h.se.ok qb,by have:=h.se.a6x;omega,by have:=h.se.us;omega,h.ml.ok,h.q.ok,ha.q.ok,ha.text,b.1.ok,hu.1,hu.2.1,hu.2.2,by have:=h.tr;omega,by have:=h.bll;omega,fun p hp=>by have:=h.body p hp;omega,fun e f c=>by have:=tp (JJ ha.text h.se.box c);omega⟩
def Um{n:Nat}{s:SE}{r:RQ}(a:n<=1000)(hs:s.num<=n)(h:RX r):xH {r with ses:=s.ses,num:=s.num+1}:=
 ⟨by show s.num+1<_;omega,by have:=h.box;exact j9 this qp,by have:=h.a6A;show r.a6A.length<=_;omega,by have:=h.a6J;show r.a6J.length<=_;omega,fun f hf=>j9 (h.fl f hf) qp⟩
structure DdI(n:Nat)(d:DD):Prop where
 req:d.ask=true->xH d.req
 body:d.body.length<=4096
def vg{s c:SE}{st:ML}{o:OC}{bl:BL}{b:DD}(h:fC s st o bl c b):b.ask=false/\b.store=false/\b.req=dq:=by
 unfold fC at h;split at h
 ·rw[h.2];exact qm
 rcases h with⟨d,_,_,_,e⟩|⟨f,_,_,_,_,_,_,a⟩
 ·rw[e];exact qm
 ·have:=eK a;exact⟨this.2.2.1,this.2.2.2.1,this.1⟩
def CE(s:SE):(aH s).2.ask=false/\(aH s).2.store=false/\(aH s).2.req=dq:=by
 unfold aH;split
 ·exact qm
 ·split<;>exact qm
def Rm{n:Nat}{w:WM}{a:AX}{v:SE}{q:DD}{A:ML}{f:BL}{x y z c:Bool}(h:Pa n w)(ha:rF a)(J:n<=800)(g:aK w a v q A f x y z c):
  nk (n+1) v/\vf A/\(f.length<=n\/f.length<=n+1/\q.store=false)/\(∀p∈f,p.2.length<=4096)/\DdI n q:=by
 have j:=gr h.ml w.q h.q.ok.num h.q.op;unfold aK at g;split at g
 ·obtain⟨i,rfl,rfl,_⟩:=g;have hs:=JJ ha.text h.se.box i;refine⟨Rg h.se hs,h.ml,.inl h.bll,h.body,fun e=>?_,tp hs⟩;rcases hs with⟨d,_⟩|⟨c,l,r,b,t⟩
  ·rw[e] at d;cases d
  ·rw[t.req];have k:=Um (n:=n) (s:=w.s) qb h.se.num t.rq;split
   ·exact⟨by rename_i D;rw[t.rq.num D];decide,k.box,k.a6A,k.a6J,k.fl⟩
   ·exact k
 split at g
 ·obtain⟨_,⟨s1,M,i,m⟩,rfl,rfl,_⟩:=g;have C:=j.1.ok;split at m
  ·obtain⟨rfl,rfl⟩:=m;have e:=vg i;exact⟨OZ h.se C i,j.1,.inl h.bll,h.body,(fun d=>by rw[e.1] at d;cases d),by rw[gX i];simp⟩
  ·have e:=vg m;exact⟨OZ h.se C m,j.1,.inl h.bll,h.body,(fun d=>by rw[e.1] at d;cases d),by rw[gX m];simp⟩
 split at g
 ·obtain⟨i,rfl,rfl,_⟩:=g;have o:q=(aH w.s).2:=by rw[<-i]
  have e:=CE w.s;rw[<-o] at e;exact⟨Rk h.se i,h.ml,.inl h.bll,h.body,(fun d=>by rw[e.1] at d;cases d),by rw[o,qN];simp⟩
 ·obtain⟨rfl,rfl,rfl,rfl,_⟩:=g;have u:=gr h.ml a.other ha.q.ok.num ha.q.op;refine⟨h.se.up qb,u.1,.inr ⟨?_,rfl⟩,fun p hp=>?_,(fun e=>by cases e),by simp⟩
  ·have:=h.bll;rw[zg];simp only[z1,kx];omega
  ·rcases kw.1 hp with hp|hp
   ·exact h.body p hp
   ·rw[z7.1 hp];show(9:Nat)<=4096;decide
def vh{n:Nat}{w:WM}{a:AX}{w':WM}{t:TN}(h:Pa n w)(ha:rF a)(k:n<=800)(hs:mN w a w' t):Pa (n+1) w':=by
 rcases hs with⟨_,_,rfl,_⟩|⟨l,c,m,u,g,b⟩
 ·exact⟨h.se.up qb,h.ml,h.q,by have:=h.tr;omega,by have:=h.bll;omega,h.body⟩
 ·obtain⟨o,q,d,i,j⟩:=Rm h ha k m;refine⟨by rw[b.s];exact o,by rw[b.m];exact q,?_,?_,?_,?_⟩
  ·rw[b.q];unfold ja;split
   ·rename_i e;have f:=j.req e;split
    ·have:=h.tr;exact⟨⟨f.num,f.box,f.a6A,f.a6J,f.fl⟩,fun _=>⟨by show 1<_;decide,by show l.tr+1<_;rw[g.2];omega⟩⟩
    ·rename_i r;exact⟨f,fun s=>absurd s r⟩
   ·rw[g.1];exact h.q
  ·rw[b.tr];unfold Fy;have:=h.tr;split
   ·split<;>rw[g.2]<;>omega
   ·rw[g.2];omega
  ·rw[b.bl];unfold Ra;split
   ·rename_i e;rcases d with d|⟨_,d⟩
    ·rw[zg];simp only[z1,kx];omega
    ·rw[e] at d;cases d
   ·rcases d with d|⟨d,_⟩<;>omega
  ·rw[b.bl];unfold Ra;split
   ·intro p hp;rcases kw.1 hp with hp|hp
    ·exact i p hp
    ·rw[z7.1 hp];exact j.body
   ·exact i
inductive eL (w0:WM):List AX->List TN->WM->Prop
 |nil:eL w0 [] [] w0
 |snoc {l:List AX} {ts:List TN} {w w':WM} {a:AX} {t:TN}:eL w0 l ts w->mN w a w' t->eL w0 (l++[a]) (ts++[t]) w'
def JM{w0 w:WM}{l:List AX}{b:List TN}(h:eL w0 l b w)(c:Pa 0 w0)(ha:∀a∈l,rF a)(hl:l.length<=800):Pa l.length w/\b.length=l.length:=by
 induction h with
 |nil=>exact⟨c,rfl⟩
 |snoc hp hs ih=>
  rename_i l b w g a t;have d:l.length+1<=800:=by simpa using hl
  obtain⟨e,f⟩:=ih (fun a h=>ha a (List.mem_append_left _ h)) qb;rw[zg,zg,f];exact⟨vh e (ha _ (List.mem_append_right _ (z7.2 rfl))) qb hs,rfl⟩
abbrev xQ:RQ:={dq with op:=1,node:=5,life:=1,tr:=1}
abbrev Ap(m:MM):WM:=⟨oT,rt,m,dq,du,0,[],none,0⟩
def Aq:ML:=(E3 Gx xQ).1
def a2B(h:l_)(v:Value)(A:List As):Prop:=∃m,v=Fx (Ap m)/\A=[]/\m.s=Aq/\ew m h
def JN:xH xQ:=⟨by decide,by decide,by decide,by decide,qy⟩
def xR:Cm prog 16 [] (fun _=>True) [] a2B:=by
 refine A0 11 func16 rfl rfl rfl ?_;intro F R _;refine D1 ?_;refine i7 rfl ?_;intro k;refine D1 ?_;refine B_ QV trivial ?_;rintro v A l d ⟨h,rfl,a,rfl,e⟩;refine f_ (A2 (ps:=[(0,.const (.int .i64 1)),(3,.const (.int .i64 5)),(4,.const (.int .u64 1)),(5,.const (.int .u64 1))]) (vs:=[(0,.int .i64 1),(3,.int .i64 5),(4,.int .u64 1),(5,.int .u64 1)]) (cells:=(eN xQ du).toArray) rfl i6) ?_;refine B_ (qH h xQ du (by rw[a];exact JH.ok) JN) ⟨e,n9.nil _ _,n9.nil _ _⟩ ?_;rintro v A m f ⟨c,o,n,rfl,g,p,rfl,b,i⟩;refine E8 ?_;refine i7 rfl ?_;intro q;refine i7 rfl ?_;intro r;refine E8 ?_;refine f_ (A2 (ps:=[(1,.tmp 9)]) (vs:=[(1,rW c)]) (cells:=(NQ (Ap c)).toArray) rfl i6) ?_;refine D0 ?_;refine I4 (A:=[]) (v:=Fx (Ap c)) (d.trans f) ⟨c,rfl,rfl,by rw[g,a];rfl,b⟩ ?_;exact H7 rfl rfl ud rfl _ qh (fun v j=>D3 (A:=[]) (J:=[_,_,_]) tk j)
def Pb{m:MM}(h:m.s=Aq):Pa 0 (Ap m):=by
 refine⟨⟨zp _,qy,zp _,gV rfl rfl rfl rfl rfl rfl rfl,zp _,zp _⟩,?_,⟨⟨by show 0<18446744073709551616;decide,zp _,zp _,zp _,qy⟩,fun e=>by cases e⟩,kp _,kp _,qy⟩;show vf m.s;rw[h];exact(gr JH xQ qp (fun _=>⟨by decide,by decide⟩)).1
structure Fg(t:TN)(h:l_):Prop where
 a:P4 t.a t.ax h
 ar:n9 h t.ax.ra (S_ t.a.a6y.a6x)
 b:P4 t.b t.bx h
 br:n9 h t.bx.ra (S_ t.b.a6y.a6x)
 a6I:t.d.a6I=t.y.rl.map Prod.fst
 row:n9 h t.y.da (RI t.y.rl)
 rep:∀m∈t.y.rl,fQ m.1 m.2 h
instance {t:TN}:Mn (Fg t):=⟨fun l k=>⟨Mn.le l k.a,k.ar.le l,Mn.le l k.b,k.br.le l,k.a6I,k.row.le l,fun m hm=>(k.rep m hm).le l⟩⟩
def JO{h:l_}:∀{l:List RM} {bs:zz},A_ h (T6 l) bs->(∀m∈l,gn m h)->∀m∈l,fQ m.1 m.2 h
 |[],_,_,_,m,a=>by cases a
 |x::t,bs,hs,hp,m,a=>by
  have b:A_ h (T6 [x]++T6 t) bs:=by rw[<-kW];exact hs
  obtain⟨c,j,rfl,d,e⟩:=A_.split b;rcases jv.1 a with rfl|a
  ·rcases hp m Qb with⟨f,_⟩|⟨g,i,rfl⟩
   ·exact f
   ·exact⟨rfl,n9.nil _ _,A_.rd (show A_ h [B0 g S5 i] c from d) ud,n9.nil _ _,qy⟩
  ·exact JO e (fun m a=>hp m (jn _ a)) m a
def NX{h:l_}{c:Bool}{t:TN}{bs:zz}(hs:A_ h (E1 c t) bs)(hp:∀m∈t.y.rl,gn m h)(hc:c=true):n9 h t.bx.ra (S_ t.b.a6y.a6x)/\n9 h t.y.da (RI t.y.rl)/\∀m∈t.y.rl,fQ m.1 m.2 h:=by
 unfold E1 at hs;rw[zr hc] at hs;refine⟨A_.rd hs ud,A_.rd hs ud,?_⟩;obtain⟨d,e,rfl,_,a⟩:=hs;obtain⟨f,g,rfl,_,b⟩:=a;exact JO b hp
def JP{w w':WM}{a:AX}{t:TN}{c:Bool}{h e:l_}{bs:zz}(d:il w e)(hf:kY w a w' t c h)(hl:l_.le h e)(hs:A_ e (E1 c t) bs):il w' e/\Fg t e:=by
 rcases hf with⟨_,_,rfl,rfl,_⟩|⟨n,g,b,i⟩
 ·exact⟨d,d.se,d.a6x,d.se,d.a6x,rfl,n9.nil _ _,qy⟩
 ·have hp:=g.le hl;have f:n9 e t.bx.ra (S_ t.b.a6y.a6x)/\n9 e t.y.da (RI t.y.rl)/\∀m∈t.y.rl,fQ m.1 m.2 e:=by
   cases c with
   |true=>exact NX hs hp.rp rfl
   |false=>
    obtain⟨j,k,l⟩:=hp.cf rfl;rw[j,k,l];exact⟨d.a6x,n9.nil _ _,qy⟩
  refine⟨⟨d.g,by rw[b.s,b.x];exact f.1,by rw[b.s,b.x];exact hp.se,by rw[b.m];exact hp.m,?_,i.le hl⟩,by rw[hp.ta.1,hp.ta.2.1];exact d.se,by rw[hp.ta.1,hp.ta.2.1];exact d.a6x,hp.se,f.1,hp.a6I,f.2.1,f.2.2⟩;rw[b.q,b.ql];unfold ja;split
  ·split
   ·exact⟨hp.rq.a6A,hp.rq.a6J⟩
   ·exact hp.rq
  ·rw[hp.tw.1,hp.tw.2.1];exact d.q
def kY.le{w w':WM}{a:AX}{t:TN}{c:Bool}{h b:l_}(k:kY w a w' t c h)(l:l_.le h b):kY w a w' t c b:=by
 rcases k with k|⟨d,e,f,g⟩
 ·exact .inl k
 ·exact .inr ⟨d,e.le l,f,g.le l⟩
abbrev qS:=AX×QL
abbrev Fh(p:qS):zq:=FA p.1 p.2
def gZ:∀x,(Fh x).length=21:=fun _=>rfl
def bj:∀x,(lT x).length=99:=fun _=>rfl
def ib:∀x,∀q∈lT x,q.oneCell'=true:=fun x q a=>by
 have:(lT x).all (fun q=>q.oneCell')=true:=rfl;exact Q1.1 this q a
def tq{h:l_}{a:qr}{q j:Nat}{cs vs:zq}(p:M9 h (N_ a q) cs)(hv:∀k u,vs[k]? =some u->cs[j+k]? =some u):M9 h (N_ a (q+j)) vs:=by
 obtain⟨b,e,k⟩:=p
 cases a with
 |none=>cases e
 |some a0=>
  injection e with e;subst e;exact⟨a0.add (q+j),rfl,fun m u hu=>by rw[<-gw];have:=k _ _ (hv m u hu);rw[<-gw] at this;exact this⟩
abbrev CF(n:Nat):Nat:=min n 1048576
structure Pc(S:Nat)(a:AX):Prop where
 a6A:a.other.a6A.length<=1000
 a6J:a.other.a6J.length<=200
 text:CF a.text.length<=S
 box:CF a.other.box.length<=S
 dest:CF a.other.tz.length<=S
 fl:∀f∈a.other.a6J,CF f.length<=S
def Pc.up{S b:Nat}{a:AX}(h:Pc S a)(hs:S<=b):Pc b a:=⟨h.a6A,h.a6J,j9 h.text hs,j9 h.box hs,j9 h.dest hs,fun f hf=>j9 (h.fl f hf) hs⟩
def qT(n:Nat):CF n<=1048576:=Nat.min_le_right _ _
def JQ(l:List qS)(o:qr)(T:Nat):
  Ct prog 10 [.slice o l.length T] (fun h=>n9 h o (l.flatMap Fh)/\∀p∈l,dM p.1.other p.2 h) [] (fun v A=>A=[]/\∃b:Bool,v=.bool b/\(b=false->l.length<=120/\∀p∈l,Pc 32768 p.1)):=by
 refine b_ 85 func10 rfl rfl rfl ?_;rintro F ⟨Y,k0⟩;refine AO ?_ ?_<;>intro h
 ·refine D0 ?_;exact d_ rfl rfl [] ⟨rfl,true,rfl,(fun e=>by cases e)⟩ (fun v c=>c)
 have y:l.length<=120:=by have:=zu h;omega
 refine u6 ?_;refine I6 1 ?_;refine n8 (ι:=Nat) (fun S=>S<=l.length*300000000/\∀p∈l,Pc S p.1) (fun S=>[(3,r7 S)]) (fun _=>[]) ?_ ?_
 ·refine o0 ?_;refine o8 (ι:=Nat×Nat) (fun i=>i.1<=l.length/\i.2<=i.1*300000000/\∀p∈l.take i.1,Pc i.2 p.1) (fun i=>[(0,.slice o l.length T),(3,r7 i.2),(4,r7 i.1)]) (fun _=>[]) (fun i=>l.length-i.1) (0,0) ⟨zp _,zp _,(fun _ h=>by simp at h)⟩ sub (fun v c=>c) ?_;rintro⟨j,S⟩ ⟨hj,hS,U⟩;simp only at hj hS U;refine AO ?_ ?_<;>intro h
  ·have g:j<l.length:=(by have:=zy h;omega);have Z:=p8 Y gZ qp g;obtain⟨a,ha⟩:=o9 (l[j].1);obtain⟨z,hz⟩:=o9 (l[j].2);have D:l[j]=(a,z):=(by rw[ha,hz]);have D3:∀{w:World} {H:List As},Hp F w H->M9 (hp w) (N_ o (j*21)) (Fh (a,z)):=fun c=>by
    have:=bK (C:=Fh) (Y.le c.keep) gZ qp g (q:=j*21) rfl
    rwa [D] at this
   have h0:dM a.other z F.heap:=(by have:=k0 _ (zm g);rwa [D] at this);have h4:n9 F.heap z.fa (a.other.a6J.flatMap mZ):=(by have:=h0.a6J;rwa [ke] at this);refine I6 0 ?_;refine n8 (ι:=Nat) (fun d=>S<=d/\d<=(j+1)*300000000/\Pc d a) (fun d=>[(0,.slice o l.length T),(3,r7 d),(4,r7 j)]) (fun _=>[]) ?_ ?_
   ·refine o0 ?_;refine A5 ?_;refine f_ (n5 rfl Z rfl qb) ?_;refine u6 ?_;refine r_ (p9 (cs:=eN a.other z) rfl (fun v c=>tq (j:=4) (D3 c) (fun k u hu=>by rw[<-Zc];exact hu)) rfl) ?_;refine i7 rfl ?_;intro V;refine u6 ?_;refine I6 0 ?_;refine n8 (ι:=Bool) (fun q=>q=false->a.other.a6A.length<=1000/\a.other.a6J.length<=200) (fun q=>[(0,.slice o l.length T),(3,r7 S),(4,r7 j),(5,i8 V),(30,.bool q)]) (fun _=>[.blk V (.cells (eN a.other z).toArray 44)]) ?_ ?_
    ·by_cases hu:1000<a.other.a6A.length
     ·refine E8 ?_;refine f_ ((E9 rfl rfl).eq (v':=.bool true) (qn (ju (show(1000:Int)<((a.other.a6A.length:Nat):Int) by omega)))) ?_;refine Y1 ?_;exact g_ true (fun e=>by cases e) (fun v c=>c)
     ·refine E8 ?_;refine f_ ((E9 rfl rfl).eq (v':=.bool false) (qn (Qk (show¬(1000:Int)<((a.other.a6A.length:Nat):Int) by omega)))) ?_;refine P1 ?_;(first|refine u_ ?_|(refine v_ ?_;refine f_ ((E9 rfl rfl).eq (v':=.bool (decide (200<a.other.a6J.length))) (qn qz)) ?_));refine u6 ?_;exact g_ (decide (200<a.other.a6J.length)) (fun e=>⟨by omega,by have:=zu e;omega⟩) (fun v c=>c)
    intro q6 h5;refine O_ ?_ ?_<;>intro h
    ·refine D0 ?_;exact d_ rfl rfl [] ⟨rfl,true,rfl,(fun e=>by cases e)⟩ (fun v c=>c.drop)
    obtain⟨k8,h6⟩:=h5 h;obtain⟨t1,J⟩:=o9 (CF a.text.length);obtain⟨t2,M⟩:=o9 (CF a.other.box.length);obtain⟨t3,O⟩:=o9 (CF a.other.tz.length);obtain⟨t4,h7⟩:=o9 (CF a.other.hash.length);have k9:=qT a.text.length;have q0:=qT a.other.box.length;have q1:=qT a.other.tz.length;have q2:=qT a.other.hash.length;rw[<-J] at k9;rw[<-M] at q0;rw[<-O] at q1;rw[<-h7] at q2;have r:=qM a.text.length;have s:=qM a.other.box.length;have t:=qM a.other.tz.length;have x:=qM a.other.hash.length;rw[show min a.text.length 1048576=t1 from J.symm] at r;rw[show min a.other.box.length 1048576=t2 from M.symm] at s;rw[show min a.other.tz.length 1048576=t3 from O.symm] at t;rw[show min a.other.hash.length 1048576=t4 from h7.symm] at x;refine x6 ?_;refine D8 [11,16,21,26,31] [6,8,23,28,33] [.blk V (.cells (eN a.other z).toArray 44)] 37 ?_;refine wd [0,1,2] ?_;refine w_ 3 rfl (n5 rfl Z rfl qb) ?_;refine wd [4,5,10,11,12,13,15,16,17,18,20,21,22,25,26,27,30,31,32] ?_;refine h_ 6 rfl i6 ?_;refine r_ (l5 (v:=B a.text) rfl (fun v c=>tq (j:=2) (vs:=[B a.text]) (D3 c) (fun k u hu=>by match k,hu with|0,hu=>exact hu|k+1,hu=>simp at hu))) ?_;refine fy [7] ?_;refine h_ 8 rfl i6 ?_;refine c_ rfl r qw rfl ?_;refine fy [9,14,19] ?_;refine h_ 23 rfl i6 ?_;refine c_ rfl s qw rfl ?_;refine fy [24] ?_;refine h_ 28 rfl i6 ?_;refine c_ rfl t qw rfl ?_;refine fy [29] ?_;refine h_ 33 rfl i6 ?_;refine c_ rfl x qw rfl ?_;refine fy [34] ?_;refine w_ 35 rfl ((r8 rfl rfl qb).eq (v':=.int .i64 ((S+t1+8*a.other.a6A.length+8*a.other.a6J.length+t2+t3+t4/16:Nat):Int)) (by congr 1)) ?_;refine wd [36] ?_;obtain⟨S1,q3⟩:=o9 (S+t1+8*a.other.a6A.length+8*a.other.a6J.length+t2+t3+t4/16);have q5:S1<=j*300000000+10000000:=(by omega);rw[<-q3];refine I6 1 ?_;refine n8 (ι:=Nat) (fun d=>S1<=d/\d<=S1+a.other.a6J.length*1048576/\∀f∈a.other.a6J,CF f.length<=d) (fun d=>[(0,.slice o l.length T),(3,r7 d),(4,r7 j)]) (fun _=>[.blk V (.cells (eN a.other z).toArray 44)]) ?_ ?_
    ·refine o0 ?_;refine o8 (ι:=Nat×Nat) (fun i=>i.1<=a.other.a6J.length/\S1<=i.2/\i.2<=S1+i.1*1048576/\∀f∈a.other.a6J.take i.1,CF f.length<=i.2) (fun i=>[(0,.slice o l.length T),(3,r7 i.2),(4,r7 j),(5,i8 V),(6,r7 i.1)]) (fun _=>[.blk V (.cells (eN a.other z).toArray 44)]) (fun i=>a.other.a6J.length-i.1) (0,S1) ⟨zp _,kp _,Nat.le_add_right _ _,(fun _ h=>by simp at h)⟩ sub (fun v c=>c) ?_;rintro⟨k,d⟩ ⟨hk,g1,g2,X⟩;simp only at hk g1 g2 X;refine KG ?_ ?_<;>intro h
     ·have n:k<a.other.a6J.length:=(by have:=zy h;omega);have h8:=p8 h4 V6 qp n;have q4:=qT a.other.a6J[k].length;obtain⟨Q,m⟩:=o9 (CF a.other.a6J[k].length);have h9:=qM a.other.a6J[k].length;rw[show min a.other.a6J[k].length 1048576=Q from m.symm] at h9;rw[<-m] at q4;refine P1 ?_;refine f_ (n5 rfl h8 rfl qb) ?_;refine r_ (l5 rfl (fun v c=>cT (C:=mZ) (h4.le c.keep) V6 n (j:=0) rfl x7)) ?_;refine u6 ?_;refine c_ rfl h9 qw rfl ?_;refine f_ ((r8 rfl rfl qb).eq (v':=.int .i64 ((d+Q:Nat):Int)) (by congr 1)) ?_;refine P1 ?_;exact l8 (i:=(k,d)) (k+1,d+Q) ⟨n,by simp only;omega,by simp only;omega,fun f hf=>by
       rw[jy n] at hf;rcases kw.1 hf with hf|hf
       ·have:=X f hf;simp only;omega
       ·rw[z7.1 hf,<-m];simp only;omega⟩ qg sub (fun v c=>c)
     ·refine x6 ?_;have e:a.other.a6J.take k=a.other.a6J:=jm (qu h);exact g_ d ⟨g1,j9 g2 (Nat.add_le_add_left (Qr _ hk) _),by rw[e] at X;exact X⟩ (fun v c=>c)
    intro d ⟨g1,g2,X⟩;have g4:a.other.a6J.length*1048576<=200*1048576:=Qr _ h6;exact g_ d ⟨by omega,by omega,⟨k8,h6,by rw[<-J];omega,by rw[<-M];omega,by rw[<-O];omega,X⟩⟩ (fun v c=>c.drop)
   intro d ⟨h1,h2,h3⟩;refine E8 ?_;exact l8 (i:=(j,S)) (j+1,d) ⟨g,h2,fun p hp=>by
    rw[jy g] at hp;rcases kw.1 hp with hp|hp
    ·exact(U p hp).up h1
    ·rw[z7.1 hp,D];exact h3⟩ qg sub (fun v c=>c)
  ·refine x6 ?_;have e:l.take j=l:=jm (qu h);exact g_ S ⟨j9 hS (Qr _ hj),by rw[e] at U;exact U⟩ (fun v c=>c)
 intro S ⟨hS,U⟩;refine u6 ?_;refine f_ ((E9 rfl rfl).eq (v':=.bool (decide (32768<S))) (qn qz)) ?_;refine D0 ?_;exact d_ rfl rfl [] ⟨rfl,decide (32768<S),rfl,fun e=>⟨y,fun p hp=>(U p hp).up (qu e)⟩⟩ (fun v c=>c)
def JR(l:List qS)(la:qr)(h:l_):Prop:=Gl h/\n9 h la (l.flatMap Fh)/\∀p∈l,dM p.1.other p.2 h
def Ar(l:List qS):Prop:=∀p∈l,p.1.other.num<18446744073709551616/\p.1.other.life<18446744073709551616/\p.1.other.tr<18446744073709551616
def Au{n:Nat}(h:CF n<=32768):n<=32768:=by
 unfold CF at h;omega
def NY{l:List qS}(c:Ar l)(d:∀p∈l,Pc 32768 p.1):∀p∈l,rF p.1:=fun p hp=>by
 have h:=d p hp;have b:=c p hp;have a:32768<=lD:=by decide
 have e:=h.a6A;have g:=h.a6J;exact⟨by have:=Au h.text;omega,⟨b.1,j9 (Au h.box) a,by omega,by omega,fun f hf=>j9 (Au (h.fl f hf)) a⟩,fun _=>b.2⟩
end Go.Proofs.YtmcepdopookilaaGreatDoor.Rp
namespace Go.Sl
open Go Go.RowKit Go.WideShapes Go.ChangeShapes Go.ChangeMaps Go.Proofs.Tryz
def Hp.below{W w':World}{A:List As}(h:Hp (am W) w' A):Below W.heap.size W w':=by
 have b:∀k,k<W.heap.size->w'.heap[k]? =W.heap[k]?:=fun k b=>by
  have e:W.heap[k]? =some W.heap[k]:=Zz b;rw[e];exact h.keep k _ (by show F6 W [] k=_;rw[O1];exact e)
 refine⟨h.os,h.tape,h.output,?_,b⟩;rcases Q6 w'.heap.size W.heap.size with a|c
 ·have d:=b w'.heap.size a;rw[Zz a] at d;simp at d
 ·exact c
section
variable{H:Type}{enc:zk×Value->H}{P:zj}
def JS{f:Func}{s:ChangeSpec}{c l d m:Bool}{W o:World}{args:Array Value}{v:Value}{ds q:List (DataW H)}{a pa pv:List MemPlace}(y:DataW.Whole enc P f.params.toList s.vars c W args.toList ds q a)(i:∀(b:Nat) (n:Nat->Bool) (hd:Bool),DataW.TrodAll enc P o b n hd f.resultTypes.toList (v.resultList f.resultTypes.size) (s.fn H (ds++q)).results [])(e:∀n:Nat->Bool,(∀p∈a,n p.block=true)->DataW.TrodAll enc P o 0 n true f.params.toList args.toList (s.fn H (ds++q)).args pa)(g:∀n:Nat->Bool,(∀p∈a,n p.block=true)->DataW.TrodVars enc P o n s.vars (s.fn H (ds++q)).vars pv)(h:a=pa++pv)(A:Below W.heap.size W o)(z:∀(j:Nat) (t:zk) (r:Value),f.resultTypes[j]? =some t->(v.resultList f.resultTypes.size)[j]? =some r->Value.okWide P o .any 0 t r):
  s.post enc P f c l d m W args v o:=by
 have u:∀p∈a,p.block<W.heap.size:=fun p hp=>y.lt p hp;have k:∀p∈a,(fun b=>decide (b<W.heap.size)) p.block=true:=fun p hp=>by simpa using u p hp
 refine⟨ds,q,a,[],pa,pv,y,i _ _ _,e _ k,g _ k,World.keptBut_mono (fun p hp=>⟨hp,?_⟩) (A.frame (· ∈a)),fun _=>?_⟩
 ·rw[h,kw] at hp;exact Or.inr hp
 ·obtain⟨_,_,_,_,_,hz,C⟩:=y;refine⟨z,_,_,([]++pa)++pv,⟨[]++pa,pv,trodAll_append (e _ (fun _ _=>rfl)) (i _ _ _),g _ (fun _ _=>rfl),rfl,?_,?_⟩,?_⟩
  ·intro b w hp;have x:MemPlace.cell b w∈a:=(by rw[h];simpa using hp);rw[A.frozen (u _ x)];exact hz b w x
  ·intro ha;have:=C ha;rw[h] at this;simpa using this
  ·intro p hp _;rw[h];simpa using hp
def iC(hl:laidOutB P=true){W e:World}(f:Below W.heap.size W e)(c:Nat->Bool):∀{b:List zk} {vs:zq} {ds:List (DataW H)} {ps:List MemPlace},
  (b.all fun t=>P.readableRec t&&decide (t<P.types.size))=true->DataW.TrodAll enc P W 0 (fun _=>true) true b vs ds ps->(∀p∈ps,p.block<W.heap.size)->(∀p∈ps,c p.block=true)->
   DataW.TrodAll enc P e 0 c true b vs ds ps
 |[],vs,ds,ps,_,h,_,_=>by
  obtain⟨rfl,rfl,rfl⟩:=trodAll_nil h;rfl
 |t::b,vs,ds,ps,hr,h,hlt,hs=>by
  obtain⟨v,g,d,i,p,q,rfl,rfl,rfl,j,k⟩:=trodAll_cons h;simp only[List.all_cons,jw,j7] at hr;refine⟨p,q,WideElems.Trod_stays hl hr.1.1 hr.1.2 j (fun x a=>f.same (hlt x (kw.2 (.inl a)))) (fun x a=>hs x (kw.2 (.inl a))),?_,rfl⟩;exact iC hl f c (by simpa using hr.2) k (fun x a=>hlt x (kw.2 (.inr a))) (fun x a=>hs x (kw.2 (.inr a)))
def JT{f:FuncId}{fn:Func}{s:ChangeSpec}{g a h:Bool}{W:World}{vs:zq}{ds u:List (DataW H)}{c:List MemPlace}{i:l_->Prop}{t:zk}(hc:Pu P f vs i (.bool true))(j:i (hp W))(k:s.vars=[])(w:DataW.Whole enc P fn.params.toList s.vars false W vs ds u c)(d:fn.resultTypes=#[t])(y:P.underlying t=some .bool)(hl:laidOutB P=true)(M:(fn.params.toList.all fun t=>P.readableRec t&&decide (t<P.types.size))=true)(hs:s.fn H (ds++u)={results:=[.lit (.bool true)],args:=ds}):
  Calls P f vs.toArray W fun e z=>∃v,e=.returned v/\s.post enc P fn false g a h W vs.toArray v z:=by
 refine(hc W [] rfl Zn (by rw[O1];exact j)).mono ?_;rintro e z ⟨v,A,rfl,⟨rfl,rfl⟩,O⟩;refine⟨_,rfl,?_⟩;have l:=w;have o:=fun p hp=>l.lt p hp;obtain⟨p,q,Q,C,m,S,T⟩:=w;rw[k] at C;obtain⟨rfl,rfl⟩:=trodVars_none C;have D:=Hp.below O;refine JS (pa:=p) (pv:=[]) (args:=vs.toArray) (by simpa using l) (fun b r U=>?_) (fun r n=>?_) (fun r n=>?_) m D ?_
 ·rw[hs,d];exact trodAll_cons_mk (shut_bool y true) trodAll_mk0
 ·rw[hs];refine iC hl D r M Q (fun x J=>o x ?_) (fun x J=>n x ?_)<;>(rw[m];simpa using J)
 ·rw[hs,k];rfl
 ·exact ok_one d rfl (okWide_bool_mk y true)
end
open Go Go.RowKit Go.WideShapes Go.ChangeShapes Go.ChangeMaps Go.Proofs.Tryz
mutual
def Y8{H:Type}:DataW H->Nat
 |.lit (.string bytes)=>bytes.length+1
 |.lit _=>1
 |.nil=>1
 |.ptr d=>Y8 d+1
 |.slice elems spare=>ie elems+ie spare+1
 |.agg parts=>ie parts+1
 |.iface _ d=>Y8 d+1
 |.map entries=>mO entries+1
 |.held _=>1
def ie{H:Type}:List (DataW H)->Nat
 |[]=>0
 |d::r=>Y8 d+ie r
def mO{H:Type}:List (Lit×DataW H)->Nat
 |[]=>0
 |x::r=>Fi x+mO r
def Fi{H:Type}:Lit×DataW H->Nat
 |(.string bytes,d)=>bytes.length+Y8 d+1
 |(_,d)=>Y8 d+1
end
def mP{H:Type}(l:List (DataW H)):ie l=(l.map Y8).sum:=by
 induction l with
 |nil=>rfl
 |cons d r ih=>simp only[ie,Q2,List.sum_cons,ih]
structure xS(P:zj)(t:zk){α:Type}(cells:α->zq)(ok:l_->α->Prop)(bulk:α->Nat):Prop where
 h:∀{H:Type} (enc:zk×Value->H) (w:World) (base:Nat) (sp:Nat->Bool) (held:Bool) (fuel:Nat) (cs:zq) (x:DataW H×List MemPlace),DataW.trod enc P w base sp held fuel t cs=some x->∃y,cs=cells y/\ok (hp w) y/\bulk y<=Y8 x.1
section
variable{P:zj}{t e:zk}{k:IntKind}
def ig(d:P.underlying t=some (.int k)):xS P t (fun n:Int=>[.int k n]) (fun _ n=>(Lit.int k n).wf=true) (fun _=>1):=⟨fun e w a g b c i x h=>by
 obtain⟨n,rfl,rfl,f⟩:=DataW.trod_int d h;exact⟨n,rfl,f,kp _⟩⟩
def xT(e:P.underlying t=some .bool):xS P t (fun b:Bool=>[.bool b]) (fun _ _=>True) (fun _=>1):=⟨fun f w a g c d i x h=>by
 obtain⟨n,rfl,rfl⟩:=DataW.trod_bool e h;exact⟨n,rfl,trivial,kp _⟩⟩
def cR(d:P.underlying t=some .string):xS P t (fun l:List UInt8=>[B l]) (fun _ l=>l.length<=maxLen) (fun l=>l.length+1):=⟨fun e w a f b c g x h=>by
 obtain⟨s,rfl,rfl,hs⟩:=DataW.trod_string d h;exact⟨s.data.toList,rfl,by rw[Z9];exact hs,by simp[Y8]⟩⟩
structure JU{α:Type}(cells:α->zq)(ok:l_->α->Prop)(h:l_)(a:qr)(ls:List α)(c:Nat):Prop where
 le:ls.length<=c
 max:c<=maxLen
 rd:n9 h a (ls.flatMap cells)
 each:∀y∈ls,ok h y
def xU{α:Type}{cells:α->zq}{n:Nat}(b:∀y,(cells y).length=n)(a:0<n):∀(ls:List α) (j:Nat) (u:Value),(ls.flatMap cells)[j]? =some u->∃y,ls[j/n]? =some y/\(cells y)[j%n]? =some u
 |[],j,u,h=>by simp at h
 |x::r,j,u,h=>by
  rw[Q4] at h;by_cases hj:j<n
  ·rw[j8 (by rw[b];exact hj)] at h;refine⟨x,?_,?_⟩
   ·rw[Nat.div_eq_of_lt hj];rfl
   ·rw[Nat.mod_eq_of_lt hj];exact h
  ·rw[jc (by rw[b];omega),b] at h;obtain⟨y,c,d⟩:=xU b a r (j-n) u h;refine⟨y,?_,?_⟩
   ·have:j/n=(j-n)/n+1:=by
     conv=>lhs;rw[show j=(j-n)+n by omega]
     rw[Nat.add_div_right _ a]
    rw[this];simpa using c
   ·rw[Nat.mod_eq_sub_mod qb];exact d
def qU{α:Type}{cells:α->zq}{ok:l_->α->Prop}{d:α->Nat}(Y:P.underlying t=some (.slice e))(S:xS P e cells ok d){n:Nat}(hc:P.cellsOf e=n)(Z:∀y,(cells y).length=n)(f:0<n){H:Type}{enc:zk×Value->H}{w:World}{base:Nat}{U:Nat->Bool}{g:Bool}{o:Nat}{cs:zq}{x:DataW H×List MemPlace}(h:DataW.trod enc P w base U g o t cs=some x):
  ∃(a:qr) (ls:List α) (c:Nat),cs=[.slice a ls.length c]/\JU cells ok (hp w) a ls c/\((x.1=.nil/\ls=[])\/∃b l,x.1=.slice b l/\b.length=ls.length)/\(ls.map d).sum+1<=Y8 x.1:=by
 rcases DataW.trod_slice Y h with⟨rfl,rfl⟩|⟨a,p,D,b,rest,m,_,rfl,rfl,hb,hl,hm,q,J,_,_⟩
 ·exact⟨none,[],0,rfl,⟨kp _,zp _,n9.nil _ _,by simp⟩,.inl qh,by simp[Y8]⟩
 ·have M:∀(k:Nat),k<=p->∃ls:List α,ls.length=k/\(∀i y,ls[i]? =some y->w.cells? base (a.add (i*n)) n=some (cells y)/\ok (hp w) y)/\(ls.map d).sum<=((b.take k).map (fun x=>Y8 x.1)).sum:=by
   intro k
   induction k with
   |zero=>intro _;exact⟨[],rfl,by simp,by simp⟩
   |succ k ih=>
    intro hk;obtain⟨ls,v,A,V⟩:=ih qb;have C:=J k qb;have r:k<b.length:=(by omega);rw[zd r,hc,kj] at C;obtain⟨cs,O,Q⟩:=C;obtain⟨y,rfl,s,h8⟩:=S.h enc w base U g m cs _ Q;refine⟨ls++[y],by simp[v],fun i z hz=>?_,?_⟩
    ·by_cases X:i<k
     ·rw[j8 qb] at hz;exact A i z hz
     ·rw[jc qb] at hz;have T:i=k:=by
       have:=(Qs.1 hz).1;simp at this;omega
      subst T;simp[v] at hz;subst hz;exact⟨O,s⟩
    ·rw[jy r];simp only[Qx,Q2,Jp,List.sum_append,List.sum_cons,List.sum_nil];omega
  obtain⟨ls,v,A,V⟩:=M p (kp _);subst v;refine⟨some a,ls,D,rfl,⟨hl,hm,fun _=>⟨a,rfl,fun j u hu=>?_⟩,fun y hy=>?_⟩,.inr ⟨_,_,rfl,by simp[q]⟩,?_⟩
  ·obtain⟨y,C,O⟩:=xU Z f ls j u hu;obtain⟨Q,_⟩:=A _ _ C;have s:=(World.cells?_some Q).2.2 (j%n) (Nat.mod_lt _ f);rw[vt];rw[O,gw] at s;have:j/n*n+j%n=j:=(by rw[Yk];exact Nat.div_add_mod j n);rw[this] at s;exact s
  ·obtain⟨i,X⟩:=List.getElem?_of_mem hy;exact(A i y X).2
  ·simp only[Y8,mP,J4];rw[jm qb] at V;simp only[Ku];omega
def tu{α:Type}{cells:α->zq}{ok:l_->α->Prop}{b:α->Nat}(j:P.underlying t=some (.slice e))(S:xS P e cells ok b){n:Nat}(hc:P.cellsOf e=n)(k:∀y,(cells y).length=n)(d:0<n):
  xS P t (fun y:qr×List α×Nat=>[.slice y.1 y.2.1.length y.2.2]) (fun h y=>JU cells ok h y.1 y.2.1 y.2.2) (fun y=>(y.2.1.map b).sum+1):=⟨fun l w f r g i s x h=>by
 obtain⟨a,m,c,o,p,_,q⟩:=qU j S hc k d h;exact⟨(a,m,c),o,p,q⟩⟩
structure NZ(P:zj)(fs:List Field)(off tot:Nat){α:Type}(cells:α->zq)(ok:l_->α->Prop)(bulk:α->Nat):Prop where
 h:∀{H:Type} (enc:zk×Value->H) (w:World) (base:Nat) (sp:Nat->Bool) (held:Bool) (n:Nat) (cs:zq) (xs:List (DataW H×List MemPlace)),xs.length=fs.length->cs.length=tot->
  (∀(i:Nat) (f:Field),fs[i]? =some f->DataW.trod enc P w base sp held n f.type ((cs.drop f.offset).take (P.cellsOf f.type))=xs[i]?)->∃y,cs.drop off=cells y/\ok (hp w) y/\bulk y<=(xs.map fun x=>Y8 x.1).sum
def ld{a:Nat}:NZ P [] a a (fun _:Unit=>[]) (fun _ _=>True) (fun _=>0):=⟨fun d w b e c n f g _ h _=>
 ⟨(),by rw[Q7 qb],trivial,zp _⟩⟩
def C_{f:Field}{fs:List Field}{d off' e k:Nat}{α β:Type}{r:α->zq}{j:l_->α->Prop}{s:α->Nat}{c2:β->zq}{l:l_->β->Prop}{t:β->Nat}(S:xS P f.type r j s)(C:f.offset=d)(D:P.cellsOf f.type=k)(o:off'=d+k)(R:NZ P fs off' e c2 l t):
  NZ P (f::fs) d e (fun y:α×β=>r y.1++c2 y.2) (fun h y=>j h y.1/\l h y.2) (fun y=>s y.1+t y.2):=⟨fun m w a u b n J p v q c=>by
 cases p with
 |nil=>simp at v
 |cons x p=>
  have A:=c 0 f rfl;rw[C,D] at A;obtain⟨y,M,O,U⟩:=S.h m w a u b n _ _ A;obtain⟨z,Q,T,V⟩:=R.h m w a u b n J p (by simpa using v) q (fun i g hg=>by have:=c (i+1) g (by simpa using hg);simpa using this);refine⟨(y,z),?_,⟨O,T⟩,?_⟩
  ·simp only;rw[<-M,<-Q,o,<-K6,Qp]
  ·simp only[Q2,List.sum_cons];omega⟩
def fp{fs:Array Field}{b:Nat}{α:Type}{cells:α->zq}{ok:l_->α->Prop}{a:α->Nat}(j:P.underlying t=some (.struct fs))(hc:P.cellsOf t=b)(R:NZ P fs.toList 0 b cells ok a):xS P t cells ok a:=⟨fun e w c k d g l x h=>by
 obtain⟨m,n,_,rfl,o,p,q⟩:=DataW.trod_struct j h;obtain⟨y,r,s,u⟩:=R.h e w c k d n l m (by simpa using p) (by rw[o,hc]) (fun i f hf=>q i f (by simpa using hf));refine⟨y,by simpa using r,s,?_⟩;simp only[Y8,mP,J4,Ku];omega⟩
def xS.map{α β:Type}{i:α->zq}{a:l_->α->Prop}{j:α->Nat}{c2:β->zq}{b:l_->β->Prop}{k:β->Nat}(S:xS P t i a j)(f:α->β)(hc:∀y,i y=c2 (f y))(l:∀h y,a h y->b h (f y))(m:∀y,k (f y)<=j y):xS P t c2 b k:=⟨fun g w c n d e o x h=>by
 obtain⟨y,p,q,r⟩:=S.h g w c n d e o x h;exact⟨f y,by rw[p,hc],l _ _ q,j9 (m y) r⟩⟩
variable{H:Type}{enc:zk×Value->H}{w:World}{r:Reach}{b0 base:Nat}{sp:Nat->Bool}{held:Bool}{v:Value}{d:DataW H}{ps:List MemPlace}
def Fk{α:Type}{cells:α->zq}{ok:l_->α->Prop}{f:α->Nat}(j:P.underlying t=some (.slice e))(S:xS P e cells ok f){n:Nat}(hc:P.cellsOf e=n)(m:∀y,(cells y).length=n)(h:0<n)(i:Value.okWide P w r b0 t v)(o:DataW.Trod enc P w base sp held t v d ps):
  ∃(a:qr) (ls:List α) (c:Nat),v=.slice a ls.length c/\JU cells ok (hp w) a ls c/\((d=.nil/\ls=[])\/∃b g,d=.slice b g/\b.length=ls.length)/\(ls.map f).sum+1<=Y8 d:=by
 obtain⟨u,x,z,rfl⟩:=okWide_slice j i;obtain⟨k,hf⟩:=o;obtain⟨a,ls,c,l,p,q,s⟩:=qU j S hc m h hf;simp[Value.cells] at l;obtain⟨rfl,rfl,rfl⟩:=l;exact⟨_,_,_,rfl,p,q,s⟩
end
def Rn{n:Int}(h:(Lit.int .u64 n).wf=true):0<=n/\n<=18446744073709551615:=by
 simp only[Lit.wf,jw,j7] at h;have a:IntKind.u64.min=0:=by decide
 have b:IntKind.u64.max=18446744073709551615:=by decide
 omega
section
variable{P:zj}{t e:zk}{k:IntKind}
variable{H:Type}{enc:zk×Value->H}{w:World}{r:Reach}{b0 base:Nat}{sp:Nat->Bool}{held:Bool}{v:Value}{d:DataW H}{ps:List MemPlace}
end
section
variable{P:zj}{t e:zk}{k:IntKind}{n:Nat}
variable{H:Type}{enc:zk×Value->H}{w:World}{r:Reach}{b0 base:Nat}{sp:Nat->Bool}{held:Bool}{v:Value}{d:DataW H}{ps:List MemPlace}
end
end Go.Sl
namespace Go.Proofs.YtmcepdopookilaaGreatDoor.Rp
open Go Go.Sl Go.RowKit Go.WideShapes Go.ChangeShapes Go.Proofs.Tryz
def bq{P:zj}{t:zk}(e:P.underlying t=some (.int .u64)):xS P t (fun n:Nat=>[.int .u64 (n:Nat)]) (fun _ n=>n<=18446744073709551615) (fun _=>1):=⟨fun d w a f b c g x h=>by
 obtain⟨n,i,j,k⟩:=(ig e).h d w a f b c g x h;have l:=Rn j;refine⟨n.toNat,?_,by omega,k⟩;rw[i,Int.toNat_of_nonneg l.1]⟩
def Ro(l:List Bs):(l.flatMap fun f=>[B f])=fV l:=by
 induction l with
 |nil=>rfl
 |cons x r ih=>rw[Q4,ih];rfl
def Un:xS prog 178 (fun m:Nat×Nat=>dL m) (fun _ _=>True) (fun _=>0):=
 (fp underlying178 i6
  (C_ (k:=1) (off':=1) (bq i6) rfl i6 rfl
  (C_ (k:=1) (off':=2) (bq i6) rfl i6 rfl ld))).map
  (fun y=>((y.1,y.2.1):Nat×Nat)) (fun y=>rfl) (fun h y o=>trivial) (fun y=>zp _)
structure RqT(h:l_)(p:RQ×QL):Prop where
 rd:dM p.1 p.2 h
 num:p.1.num<18446744073709551616
 life:p.1.life<18446744073709551616
 tr:p.1.tr<18446744073709551616
def Rq:xS prog 44 (fun p:RQ×QL=>eN p.1 p.2) (fun h p=>RqT h p) (fun _=>0):=
 (fp underlying44 i6
  (C_ (k:=1) (off':=1) (ig (k:=.i64) i6) rfl i6 rfl
  (C_ (k:=1) (off':=2) (bq i6) rfl i6 rfl
  (C_ (k:=1) (off':=3) (bq i6) rfl i6 rfl
  (C_ (k:=1) (off':=4) (ig (k:=.i64) i6) rfl i6 rfl
  (C_ (k:=1) (off':=5) (bq i6) rfl i6 rfl
  (C_ (k:=1) (off':=6) (bq i6) rfl i6 rfl
  (C_ (k:=1) (off':=7) (cR i6) rfl i6 rfl
  (C_ (k:=1) (off':=8) (cR i6) rfl i6 rfl
  (C_ (k:=1) (off':=9) (bq i6) rfl i6 rfl
  (C_ (k:=1) (off':=10) (tu (e:=178) i6 Un (n:=2) i6 (fun _=>rfl) qp) rfl i6 rfl
  (C_ (k:=1) (off':=11) (tu (e:=9) i6 (cR i6) (n:=1) i6 (fun _=>rfl) qp) rfl i6 rfl
  (C_ (k:=1) (off':=12) (ig (k:=.i64) i6) rfl i6 rfl
  (C_ (k:=1) (off':=13) (xT i6) rfl i6 rfl
  (C_ (k:=1) (off':=14) (bq i6) rfl i6 rfl
  (C_ (k:=1) (off':=15) (cR i6) rfl i6 rfl
  (C_ (k:=1) (off':=16) (bq i6) rfl i6 rfl
  (C_ (k:=1) (off':=17) (bq i6) rfl i6 rfl ld)))))))))))))))))).map
  (fun y=>(⟨⟨y.1,y.2.1,y.2.2.1,y.2.2.2.1,y.2.2.2.2.1,y.2.2.2.2.2.1,y.2.2.2.2.2.2.1,y.2.2.2.2.2.2.2.1,y.2.2.2.2.2.2.2.2.1,y.2.2.2.2.2.2.2.2.2.1.2.1,y.2.2.2.2.2.2.2.2.2.2.1.2.1,y.2.2.2.2.2.2.2.2.2.2.2.1,y.2.2.2.2.2.2.2.2.2.2.2.2.1,y.2.2.2.2.2.2.2.2.2.2.2.2.2.1,y.2.2.2.2.2.2.2.2.2.2.2.2.2.2.1,y.2.2.2.2.2.2.2.2.2.2.2.2.2.2.2.1,y.2.2.2.2.2.2.2.2.2.2.2.2.2.2.2.2.1⟩,
   ⟨y.2.2.2.2.2.2.2.2.2.1.1,y.2.2.2.2.2.2.2.2.2.1.2.2,y.2.2.2.2.2.2.2.2.2.2.1.1,y.2.2.2.2.2.2.2.2.2.2.1.2.2⟩⟩:RQ×QL)) (fun y=>rfl)
  (fun h y o=>by
   obtain⟨_,_,d,_,f,g,_,_,_,a,b,_⟩:=o;have i:=a.rd;have c:=b.rd;rw[Ro] at c;exact⟨⟨i,c⟩,W8 d,W8 f,W8 g⟩)
  (fun y=>zp _)
def JV:xS prog 41 (fun p:Int×Bs=>[.int .i64 p.1,B p.2]) (fun _ _=>True) (fun _=>0):=
 (fp underlying41 i6
  (C_ (k:=1) (off':=1) (ig (k:=.i64) i6) rfl i6 rfl
  (C_ (k:=1) (off':=2) (cR i6) rfl i6 rfl ld))).map
  (fun y=>((y.1,y.2.1):Int×Bs)) (fun y=>rfl) (fun h y o=>trivial) (fun y=>zp _)
structure AcT(h:l_)(p:qS):Prop where
 rd:dM p.1.other p.2 h
 num:p.1.other.num<18446744073709551616
 life:p.1.other.life<18446744073709551616
 tr:p.1.other.tr<18446744073709551616
def shpAct:xS prog 70 (fun p:qS=>Fh p) (fun h p=>AcT h p) (fun _=>0):=
 (fp underlying70 i6
  (C_ (k:=1) (off':=1) (ig (k:=.i64) i6) rfl i6 rfl
  (C_ (k:=2) (off':=3) JV rfl i6 rfl
  (C_ (k:=1) (off':=4) (xT i6) rfl i6 rfl
  (C_ (k:=17) (off':=21) Rq rfl i6 rfl ld))))).map
  (fun y=>(⟨⟨y.1,y.2.1.1,y.2.1.2,y.2.2.1,y.2.2.2.1.1⟩,y.2.2.2.1.2⟩:qS)) (fun y=>rfl)
  (fun h y o=>by
   obtain⟨_,_,_,a,_⟩:=o;exact⟨a.rd,a.num,a.life,a.tr⟩)
  (fun y=>zp _)
def pu_of_cm{P:zj}{f:FuncId}{args:zq}{a:l_->Prop}{u:Value}(h:Cm P f args a [] (fun h v A=>v=u/\A=[])):Pu P f args a u:=by
 intro w m hs n hp;have p:=h (w6 w m) [] w (by simpa using Hp.start hs n) hp;refine p.mono ?_;rintro e q ⟨v,A,r,rfl,c,⟨rfl,rfl⟩,d⟩;refine⟨_,[],rfl,qh,d.os.trans c.os,d.tape.trans c.tape,d.output.trans c.output,(fun b o g=>d.keep b o (c.heap b o g)),?_⟩;obtain⟨i,j,k,l⟩:=d.own;refine⟨i,j,k,fun b g=>?_⟩;have:=l b g
 cases he:(w6 w m).heap b with
 |none=>rfl
 |some o=>rw[c.heap _ _ he] at this;cases this
def acts_rd{h:l_}{a:qr}{l:List qS}{c:Nat}(hg:Gl h)(s:JU Fh AcT h a l c):JR l a h:=⟨hg,s.rd,fun p hp=>(s.each p hp).rd⟩
def acts_ty{h:l_}{a:qr}{l:List qS}{c:Nat}(s:JU Fh AcT h a l c):Ar l:=fun p hp=>⟨(s.each p hp).num,(s.each p hp).life,(s.each p hp).tr⟩
