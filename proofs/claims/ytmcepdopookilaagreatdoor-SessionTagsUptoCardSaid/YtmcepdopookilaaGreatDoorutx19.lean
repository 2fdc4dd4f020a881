import Derived.Test.YtmcepdopookilaaGreatDoorutx18
set_option maxHeartbeats 16000000
set_option maxRecDepth 8000
set_option linter.unusedVariables false
set_option linter.unusedSimpArgs false
set_option linter.defProp false
namespace Go.Proofs.YtmcepdopookilaaGreatDoor.Rp
open Go Go.Sl Go.RowKit Go.Proofs.Tryz
def a1L(h:l_)(v:Value)(A:List As):Prop:=∃m:MM,v=uK m/\m.s=FW/\A=[]/\iB m h
abbrev Ix(a:Option Addr):MM:=⟨[eo cS 1],2,[],[],1,0,a,1,none,0,none,0⟩
theorem Qe:Cm prog 29 [] (fun _=>True) [] a1L:=by
 refine y4 4 func29 rfl rfl rfl ?_;intro F R _;refine C6 ?_;refine i7 rfl ?_;intro f;refine p_ ?_;refine C4 de (eo cS 1) rfl ?_;intro a _;refine f_ (y8 (ps:=[(0,.tmp 2),(1,.const (.int .u64 2)),(4,.const (.int .u64 1))]) (vs:=[(0,.slice a 1 1),(1,.int .u64 2),(4,.int .u64 1)]) (cells:=(iA (Ix a)).toArray) rfl i6) ?_;refine p_ ?_;refine B8 (Z:=[S9 a [eo cS 1] 1]) tk fun g c ⟨i,d⟩=>?_;refine A2 ?_;refine H3 (A:=[]) (v:=uK (Ix a)) c ⟨Ix a,rfl,rfl,rfl,A3.rd d ud,o0.nil _ _,o0.nil _ _,fun b d=>?_⟩ ?_
 ·obtain rfl:=zg.1 d;exact⟨o0.nil _ _,fun _ h=>by cases h⟩
 ·exact G6 rfl rfl ud rfl _ qh (fun w e=>e.drop)
def Tx(e:Option BX)(h:l_)(v:Value)(A:List As):Prop:=∃b:BM,v=.tuple #[JR b,.bool e.isSome]/\b.x=e.getD Pd/\A=[]/\fH b h
theorem uD(m:MM)(a:Bs)(l:V_ m.s):Cm prog 75 [uK m,B a] (iB m) [] (Tx (al m.s a)):=by
 refine y4 19 func75 rfl rfl rfl ?_;intro F R d;refine C6 ?_;refine m9 rfl rfl ?_;intro C;refine i7 rfl ?_;intro D;refine E5 ?_;refine e_ rfl (oJ m a (by have:=zC l;omega)) (fun h s _=>d.a5F.le s) rfl ?_;refine eI ?_ ?_<;>intro h
 ·have o:¬D1 (fun b:BM=>decide (b.name=a)) m.a5F<0:=by have:=qr h;omega
  obtain⟨i,t,c,ha⟩:=gE o;rw[t];have e:al m.s a=some m.a5F[i].x:=by unfold al;rw[ha];show some (ak m.s i)=_;rw[eS c]
  rw[e];obtain⟨u,f⟩:=y7 d.a5F p7 qp c;refine E5 ?_;refine f_ (m8 (n:=(i:Nat)) rfl ⟨u,f⟩ rfl qb) ?_;refine r_ (w8 rfl (fun w g=>fe (d.a5F.le g.keep) p7 qp c x6) (p7 _)) ?_;refine A8 (lW m.a5F[i] (by have:=sI l (zx c);omega) (fun x y=>by have:=((dG l (zx c)).a5U _ (Zz y)).1;omega)) (d.box _ (zx c)) ?_;rintro v A J p ⟨j,rfl,q,rfl,r⟩;refine y9 ?_;refine B8 (Z:=[O0 j.a j.ls j.c]) tk fun M k ⟨O,z⟩=>?_;refine A2 ?_;refine H3 (A:=[]) (v:=.tuple #[JR j,.bool true]) (p.trans k) ⟨j,rfl,q,rfl,A3.rd z ud,Mn.le k.heap r⟩ ?_;exact D2 rfl rfl rfl ud rfl _ qh (fun w g=>g.drop.drop)
 ·have o:D1 (fun b:BM=>decide (b.name=a)) m.a5F<0:=by have:=zq h;omega
  have e:al m.s a=none:=by unfold al;rw[gD o];rfl
  rw[e];refine bS ?_;refine H3 (A:=[]) (v:=.tuple #[JR Ga,.bool false]) (l6.le_refl _) ⟨Ga,rfl,rfl,rfl,fH.zero _⟩ ?_;exact D2 rfl rfl rfl ud rfl _ qh (fun w g=>g.drop.drop)
end Go.Proofs.YtmcepdopookilaaGreatDoor.Rp
namespace Go.Sl
open Go Go.RowKit Go.Proofs.Tryz
section
variable{P:Program}{N:Nat}{K R:y6}{E:List (Nat×y6)}{L:G0}{F:l6}{H:List As}{ops:Array Oper}{rest:List Oper}{ty:TypeId}{pos:String}{af:Array Edge}{x y z:Operand}{t kt et:TypeId}{td:TypeDesc}{es:Array MapEntry}{clock b:Nat}{ms:List KV}{key val:Value}
theorem eu[hu:HU P t (.map kt et)][hk:HU P kt td](hx:ev L x=some (.map (some b)))(j:ev L y=some key)(hz:ev L z=some val)(k:N7 td es clock ms)(e:MapKept.IsKey td key){H':Array MapEntry->Nat->List As}(u:∀d c,M3 H (.blk b (.map es clock)) [.blk b (.map d c)] (H' d c))(h:∀d c,(∀ms',Fm ms key val ms'->N7 td d c ms')->GL P N ops rest K E R L F (H' d c)):GL P N ops (⟨none,.insert t x y z,ty,pos,af,none⟩::rest) K E R L F H:=
 sW rfl rfl fun a w hf i=>by
  obtain⟨d,c,f,g⟩:=k.put (P:=P) (w:=w) (val:=val) hu.h hk.h (i.blk (u es clock)) e;refine⟨_,_,?_,i.setB (u d c),h d c g⟩;simp only[execOp,hf.eval hx,hf.eval j,hf.eval hz,Sem.run_bind,f];rfl
end
end Go.Sl
namespace Go.Proofs.YtmcepdopookilaaGreatDoor.Rp
open Go Go.Sl Go.RowKit Go.Proofs.Tryz
theorem ew{N:Nat}{K:y6}{L:G0}{F:l6}{H Rr Z:List As}(b:l_)(hz:∀h bs,l_.le F.heap h->A3 h Z bs->l_.le b h)(hH:∀w,Hp F w H->Hp F w (Rr++Z))(k:∀a,F.le a->l_.le b a.heap->At N K L a Rr):At N K L F H:=
 At.weaken (H':=Rr++Z) (dL fun a c ⟨bs,d⟩=>k a c (hz _ bs c.heap d)) (fo.refl _) hH
abbrev wY(g:Nat)(b:BM):As:=.blk g (.cells (de b).toArray 100)
theorem bU{s:ML}{a:Bs}{b:BX}(h:al s a=some b):b∈s.a5F:=by
 unfold al at h;obtain⟨i,d,rfl⟩:=kx.1 h;have c:i<s.a5F.length:=(kg.1 d).1;unfold ak;rw[zd,zj c];exact zx c
abbrev C1(y:DL)(l:List RM)(a:Option Addr)(c:Nat):DL:={y with da:=a,dc:=c,rl:=y.rl++l}
def wZ(g:Nat)(x:AN)(d:DD)(y:DL)(Q:RR->SE->List RR->Prop)(h:l_)(v:Value)(A:List As):Prop:=v=.tuple #[]/\∃r s sl l a c,Q r s (l.map Prod.fst)/\(∀m∈l,fC m.1 m.2 h/\yM m.2)/\U2 s sl h/\A=C2 g {x with r:=r,z:=L0}::l5 sl.ra s.a5J.a5I sl.rc::O4 x.b s sl d (C1 y l a c)
abbrev qe(tag:Bs):RR:=kP tag [78,79,78,69,88,73,83,84,69,78,84] [116,104,101,114,101,32,105,115,32,110,111,110,101]
def Iy(ms:List KV):Prop:=∀kv∈ms,∃n:Nat,kv.2=.int .u64 (n:Nat)
theorem Iy.nil:Iy []:=fun _ h=>by cases h
theorem kD{b:List KV}(key:Value)(n:Nat)(h:Iy b):∃ms',Fm b key (.int .u64 (n:Nat)) ms'/\Iy ms':=by
 obtain⟨o,hg⟩:=pG b key
 cases o with
 |none=>
  refine⟨_,.inl ⟨hg,.refl _⟩,fun c a=>?_⟩;rcases ky.1 a with rfl|a
  ·exact⟨n,rfl⟩
  ·exact h c a
 |some v=>
  obtain⟨d,f,e⟩:=Wp hg;have hp:b.Perm ((key,v)::(d++f)):=by rw[e];exact Qd
  refine⟨_,.inr ⟨v,d++f,hp,.refl _⟩,fun c a=>?_⟩;rcases ky.1 a with rfl|a
  ·exact⟨n,rfl⟩
  ·exact h c (hp.mem_iff.2 (jj _ a))
abbrev bH(a:Option Addr)(l:List VM)(c:Nat):As:=.own (.slice a l.length c) 110 6 (OV l)
abbrev Qf(box:Bs)(l:List VM):RR:={R0 with kind:=12,box:=box,values:=l.map VM.v}
def Ot(x:AN)(s:SE)(r:RR)(s':SE)(l:List RR):Prop:=s'=s/\(r=qe x.c.tag/\l=[]\/r=x.r/\∃vs box,l=[{R0 with kind:=12,box:=box,values:=vs}]/\vs.length=x.c.a5M.length)
theorem Ew(g:Nat)(x:AN)(s:SE)(sl:SL)(d:DD)(y:DL)(hx:rm x)(hz:x.z=L0)(hm:V_ x.m.s)(hl:y.rl.length<=100000):
  Cm prog 234 [l9 g] (fun h=>cM x h/\U2 s sl h) (C2 g x::l5 sl.ra s.a5J.a5I sl.rc::O4 x.b s sl d y) (wZ g x d y (Ot x s)):=by
 have q1:=hx.c;have v3:=q1.a5M;refine y4 87 func234 rfl rfl rfl ?_;rintro F R ⟨h2,h9⟩;obtain⟨e,he⟩:=o7 (al x.m.s x.c.box);have u:=uD x.m x.c.box hm;rw[<-he] at u;refine H9 0 ?_;refine S6 (fun(f:BM) (t:Nat) (_:Unit) (U:l6)=>F.le U/\f.x=e.getD Pd/\fH f U.heap) (fun f t _ _=>[(0,l9 g),(2,l9 t),(3,.bool e.isSome)]) (fun _ _ _ U=>U) (fun f t _ _=>wY t f::C2 g x::l5 sl.ra s.a5J.a5I sl.rc::E7 x.b s sl d y::r8 y.da y.rl y.dc::R) ?_ ?_
 ·refine u7 ?_;refine D8 [3,8] [9,13,14] [C2 g x] 16 ?_;refine wd [0,1,2,3,4,5,6,7,8] ?_;refine bv 9 13 rfl rfl i6 ?_ ?_;refine R7 u h2.m ?_;rintro v A Z Fz hz ⟨f,rfl,D,rfl,O⟩;refine E6 [10,11,12] ?_;refine h_ 13 rfl i6 ?_;refine i7 rfl ?_;intro t;refine E6 [14,15] ?_
  rotate_left 1
  refine i7 rfl ?_;intro t;refine ah ?_;refine h_ 9 rfl i6 ?_;refine R7 u h2.m ?_;rintro v A Z Fz hz ⟨f,rfl,D,rfl,O⟩;refine E6 [10,11,12,14,15] ?_
  rotate_left 1
  all_goals (refine u7 ?_)
  all_goals exact ew (Rr:=wY t f::C2 g x::l5 sl.ra s.a5J.a5I sl.rc::E7 x.b s sl d y::r8 y.da y.rl y.dc::R) Fz hz i_ fun U M q2=>y5 (f,t,(),U) ⟨M,D,Mn.le q2 O⟩ rfl i_
 rintro f t _ U ⟨M,D,O⟩;have V:cM x U.heap:=Mn.le M.heap h2
 cases e with
 |none=>
  refine E5 ?_;refine c_ (ep g x [78,79,78,69,88,73,83,84,69,78,84] [116,104,101,114,101,32,105,115,32,110,111,110,101]) qw ?_;rintro v A ⟨rfl,rfl⟩;refine ov ?_;refine H3 (A:=C2 g {x with r:=qe x.c.tag,z:=L0}::l5 sl.ra s.a5J.a5I sl.rc::O4 x.b s sl d (C1 y [] y.da y.dc)) (v:=.tuple #[]) M ⟨rfl,qe x.c.tag,s,sl,[],y.da,y.dc,⟨rfl,.inl qh⟩,qy,Mn.le M.heap h9,rfl⟩ ?_;exact m6 rfl _ qh (fun w k=>by simp only[C1,z7];exact C5 (A:=[_,_,_,_]) (J:=[_]) tk k)
 |some bx0=>
  have D:f.x=bx0:=D;have k0:bx0∈x.m.s.a5F:=bU he.symm;have k8:=hm.box _ k0;have v4:f.ls.length<=32:=by
   have h1:=k8.lts;rw[<-D] at h1;simpa using h1
  have q3:∀lm∈f.ls,lm.t.a5U.length<=16:=fun lm q4=>(k8.a5U lm.t (by rw[<-D];exact Zz q4)).1;refine E5 ?_;refine H9 4 ?_;refine n7 (ι:=Nat) (fun n=>n<=1000) (fun n=>[(0,l9 g),(2,l9 t),(4,.int .u64 (n:Nat))]) (fun _=>wY t f::C2 g x::l5 sl.ra s.a5J.a5I sl.rc::E7 x.b s sl d y::r8 y.da y.rl y.dc::R) ?_ ?_
  ·refine n8 ?_;refine o9 (ι:=Nat×Nat) (fun i=>i.1<=f.ls.length/\i.2<=i.1) (fun i=>[(0,l9 g),(2,l9 t),(4,.int .u64 (i.2:Nat)),(29,.slice f.a f.ls.length f.c),(30,.int .i64 (f.ls.length:Nat)),(31,.int .i64 (i.1:Nat))]) (fun i=>wY t f::C2 g x::l5 sl.ra s.a5J.a5I sl.rc::E7 x.b s sl d y::r8 y.da y.rl y.dc::R) (fun i=>f.ls.length-i.1) (0,0) ⟨zw _,z1 _⟩ sub i_ ?_;rintro⟨j,n⟩ ⟨hj,hn⟩;simp only at hj hn;refine R6 ?_ ?_<;>intro h
   ·have p:j<f.ls.length:=(by have:=qr h;omega);have h3:=y7 O.ls A_ qp p;have Q:=q3 _ (zx p);refine H9 0 ?_;refine n7 (ι:=Nat) (fun n=>n<=j+1) (fun n=>[(0,l9 g),(2,l9 t),(4,.int .u64 (n:Nat)),(29,.slice f.a f.ls.length f.c),(30,.int .i64 (f.ls.length:Nat)),(31,.int .i64 (j:Nat))]) (fun _=>wY t f::C2 g x::l5 sl.ra s.a5J.a5I sl.rc::E7 x.b s sl d y::r8 y.da y.rl y.dc::R) ?_ ?_
    ·refine n8 ?_;refine C6 ?_;refine f_ (m8 rfl h3 rfl qb) ?_;refine r_ (w8 rfl (fun w k=>fe (C:=S8) (O.ls.le k.keep) A_ qp p x6) (A_ _)) ?_;refine i7 rfl ?_;intro g6;refine E5 ?_;refine e_ rfl (uq f.ls[j].t.a5U f.ls[j].a f.ls[j].c [92,83,101,101,110] qb) (fun h hh _=>(O.fl _ (zx p)).le hh) rfl ?_;refine R6 ?_ ?_<;>intro h
     ·refine p_ ?_;refine f_ ((K_ rfl rfl qb).eq (v':=.int .u64 ((n+1:Nat):Int)) (by congr 1)) ?_;refine p_ ?_;exact g_ (n+1) qb (fun w k=>k.drop)
     ·refine u7 ?_;exact g_ n qb (fun w k=>k.drop)
    intro n2 q5;refine y9 ?_;exact l8 (i:=(j,n)) (j+1,n2) ⟨p,q5⟩ qg sub i_
   ·refine u7 ?_;exact g_ n qb i_
  intro n hn;refine C6 ?_;refine og rfl ?_;intro X;refine E5 ?_;refine f_ ((z_ rfl qb).eq (v':=.int .u64 (f.ls.length:Nat)) rfl) ?_;refine eu (b:=X) (key:=.int .i64 1) (val:=.int .u64 (f.ls.length:Nat)) (td:=.int .i64) rfl rfl rfl (N7.empty (.int .i64) 0) rfl (fun S T=>.here) ?_;intro v5 v6 h4;obtain⟨v7,q6,q7⟩:=kD (.int .i64 1) (f.ls.length) Iy.nil;have q8:=h4 _ q6;refine y9 ?_;refine eu (b:=X) (key:=.int .i64 2) (val:=.int .u64 (f.next:Nat)) (td:=.int .i64) rfl rfl rfl q8 rfl (fun S T=>.here) ?_;intro v8 v9 h5;obtain⟨w0,q9,x0⟩:=kD (.int .i64 2) (f.next) q7;have x1:=h5 _ q9;refine y9 ?_;refine eu (b:=X) (key:=.int .i64 3) (val:=.int .u64 (f.val:Nat)) (td:=.int .i64) rfl rfl rfl x1 rfl (fun S T=>.here) ?_;intro w1 w2 h6;obtain⟨w3,x2,x3⟩:=kD (.int .i64 3) (f.val) x0;have x9:=h6 _ x2;refine p_ ?_;refine eu (b:=X) (key:=.int .i64 4) (val:=.int .u64 (n:Nat)) (td:=.int .i64) rfl rfl rfl x9 rfl (fun S T=>.here) ?_;intro w4 w5 h7;obtain⟨w7,y0,y1⟩:=kD (.int .i64 4) (n) x3;have y2:=h7 _ y0;refine y9 ?_;refine eu (b:=X) (key:=.int .i64 5) (val:=.int .u64 (f.high:Nat)) (td:=.int .i64) rfl rfl rfl y2 rfl (fun S T=>.here) ?_;intro y3 z0 h8;obtain⟨z2,u0,u1⟩:=kD (.int .i64 5) (f.high) y1;have u2:=h8 _ u0;refine O2 ?_;refine f_ (y8 (ps:=[(0,.const (.int .i64 12)),(8,.tmp 56)]) (vs:=[(0,.int .i64 12),(8,B f.name)]) (cells:=(tp (Qf f.name []) L0).toArray) rfl i6) ?_;refine i7 rfl ?_;intro g8;refine p_ ?_;refine H9 7 ?_;refine n7 (ι:=AC×List VM) (fun q=>q.2.length=x.c.a5M.length/\∀w∈q.2,w.v.a5U=[]) (fun q=>[(0,l9 g),(8,l9 g8)]) (fun q=>match q with|(o,l)=>xI g8 (Qf f.name l) ⟨none,0,none,0,o.1,o.2,l⟩::bH o.1 l o.2::C2 g x::l5 sl.ra s.a5J.a5I sl.rc::E7 x.b s sl d y::r8 y.da y.rl y.dc::R) ?_ ?_
  ·refine n8 ?_;refine O6 (fun(j:Nat) (o:AC) (l:List VM)=>j<=x.c.a5M.length/\l.length=j/\∀w∈l,w.v.a5U=[]) (fun j o l=>[(0,l9 g),(7,.map (some X)),(8,l9 g8),(62,.slice x.k.ia x.c.a5M.length x.k.ic),(63,.int .i64 (x.c.a5M.length:Nat)),(64,.int .i64 (j:Nat))]) (fun j o l=>xI g8 (Qf f.name l) ⟨none,0,none,0,o.1,o.2,l⟩::bH o.1 l o.2::.blk X (.map y3 z0)::C2 g x::l5 sl.ra s.a5J.a5I sl.rc::E7 x.b s sl d y::r8 y.da y.rl y.dc::R) (fun j o l=>x.c.a5M.length-j) 0 (none,0) [] ⟨zw _,rfl,qy⟩ sub (fun w k=>C5 (A:=[_,.own (.slice none 0 0) 110 6 [],.blk X _,C2 g x,l5 sl.ra s.a5J.a5I sl.rc,E7 x.b s sl d y,r8 y.da y.rl y.dc]) (J:=[wY t f]) tk (k.addNil 110 6)) ?_;rintro j o l ⟨hj,w9,Q⟩;refine R6 ?_ ?_<;>intro h
   ·have p:j<x.c.a5M.length:=(by have:=qr h;omega);have h3:=y7 V.c.a5M an qp p;obtain⟨o5,k9⟩:=pG z2 (.int .i64 ((x.c.a5M[j].kind:Nat):Int));obtain⟨Y,u8⟩:∃Y:Nat,o5.getD (.int .u64 0)=.int .u64 (Y:Nat):=by
     cases o5 with
     |none=>exact⟨0,rfl⟩
     |some v=>exact u1 _ k9
    refine C6 ?_;refine f_ (m8 rfl h3 rfl qb) ?_;refine r_ (w8 rfl (fun w k=>fe (C:=cZ) (V.c.a5M.le k.keep) an qp p x6) (an _)) ?_;refine i7 rfl ?_;intro a0;refine wk 8 ?_;refine r_ ((Fp (key:=.int .i64 ((x.c.a5M[j].kind:Nat):Int)) (o:=o5) (zv:=.int .u64 0) (c:=false) rfl rfl ud u2 rfl k9).eq (v':=.int .u64 (Y:Nat)) u8) ?_;refine f_ (y8 (ps:=[(0,.tmp 71),(1,.tmp 75)]) (vs:=[(0,.int .i64 (x.c.a5M[j].kind:Nat)),(1,.int .u64 (Y:Nat))]) (cells:=(vp ⟨{V0 with kind:=x.c.a5M[j].kind,n:=Y},none,0⟩).toArray) rfl i6) ?_;refine C4 vp ⟨{V0 with kind:=x.c.a5M[j].kind,n:=Y},none,0⟩ rfl ?_;intro a1 _;refine u6 vp (l:=l) (m:=[⟨{V0 with kind:=x.c.a5M[j].kind,n:=Y},none,0⟩]) mX mY (by show(l.length+1)*72<=_;omega) ?_;intro v0 v1 _;refine O2 ?_;exact l8 (i:=(j,o,l)) (j+1,(v0,v1),l++[⟨{V0 with kind:=x.c.a5M[j].kind,n:=Y},none,0⟩]) ⟨p,by rw[zz];simp only[zy,zn];omega,fun w k=>by rcases zb.1 k with k|k;exact Q w k;(rw[zg.1 k])⟩ qg sub (fun w k=>C5 (A:=[_,_,_,C2 g x,l5 sl.ra s.a5J.a5I sl.rc,E7 x.b s sl d y,r8 y.da y.rl y.dc]) (J:=[_,_]) tk k)
   ·refine u7 ?_;exact g_ (o,l) ⟨by have:=zq h;simp only;omega,Q⟩ (fun w k=>C5 (A:=[_,_,C2 g x,l5 sl.ra s.a5J.a5I sl.rc,E7 x.b s sl d y,r8 y.da y.rl y.dc]) (J:=[_]) tk k)
  rintro⟨o,l⟩ ⟨h0,Q⟩;simp only at h0 Q;refine u7 ?_;refine B8 (Z:=[bH o.1 l o.2]) tk fun F2 q0 ⟨bs,hb⟩=>?_;have v2:o0 F2.heap o.1 (OV l):=A3.rd hb ud;clear hb;refine u7 ?_;refine D8 [3,4] [5] [C2 g x,xI g8 (Qf f.name l) ⟨none,0,none,0,o.1,o.2,l⟩] 6 ?_;refine wd [0,1,2,3,4] ?_;refine h_ 5 rfl i6 ?_;refine c_ (V2 x.b s sl d y (Qf f.name l) ⟨none,0,none,0,o.1,o.2,l⟩ qb) qw ?_;rintro v A ⟨rfl,a,c,rfl⟩;refine E6 [] ?_;refine H3 (A:=C2 g x::l5 sl.ra s.a5J.a5I sl.rc::O4 x.b s sl d (E9 y (Qf f.name l,⟨none,0,none,0,o.1,o.2,l⟩) a c)) (v:=.tuple #[]) (M.trans q0) ⟨rfl,x.r,s,sl,[(Qf f.name l,⟨none,0,none,0,o.1,o.2,l⟩)],a,c,⟨rfl,.inr ⟨rfl,_,_,rfl,by rw[zr];exact h0⟩⟩,fun m hm=>?_,Mn.le (M.trans q0).heap h9,?_⟩ ?_
  ·rw[zg.1 hm];exact⟨⟨rfl,o0.nil _ _,o0.nil _ _,v2,fun w k=>by rw[Q w k];exact o0.nil _ _⟩,rfl,rfl⟩
  ·rw[<-hz]
  ·exact m6 rfl _ qh (fun w k=>C5 (A:=[_,_,_,_]) (J:=[_]) tk k)
end Go.Proofs.YtmcepdopookilaaGreatDoor.Rp
namespace Go.Sl
open Go Go.RowKit Go.Proofs.Tryz
section
variable{P:Program}{N:Nat}{K R:y6}{E:List (Nat×y6)}{L:G0}{F:l6}{H:List As}
theorem dr{c:Code}{α β γ δ ε ζ:Type}(b:α->β->γ->δ->ε->ζ->Prop)(L':α->β->γ->δ->ε->ζ->G0)(d:α->β->γ->δ->ε->ζ->l6)(H':α->β->γ->δ->ε->ζ->List As)(e:G P N c (fun a w=>∃i:α×β×γ×δ×ε×ζ,b i.1 i.2.1 i.2.2.1 i.2.2.2.1 i.2.2.2.2.1 i.2.2.2.2.2/\G4 N (L' i.1 i.2.1 i.2.2.1 i.2.2.2.1 i.2.2.2.2.1 i.2.2.2.2.2) a/\Hp (d i.1 i.2.1 i.2.2.1 i.2.2.2.1 i.2.2.2.2.1 i.2.2.2.2.2) w (H' i.1 i.2.1 i.2.2.1 i.2.2.2.1 i.2.2.2.2.1 i.2.2.2.2.2)) E R L F H)(f:∀x y z u v q,b x y z u v q->At N K (L' x y z u v q) (d x y z u v q) (H' x y z u v q)):G P N c K E R L F H:=
 Hs (ι:=α×β×γ×δ×ε×ζ) (fun i=>b i.1 i.2.1 i.2.2.1 i.2.2.2.1 i.2.2.2.2.1 i.2.2.2.2.2) (fun i=>L' i.1 i.2.1 i.2.2.1 i.2.2.2.1 i.2.2.2.2.1 i.2.2.2.2.2) (fun i=>d i.1 i.2.1 i.2.2.1 i.2.2.2.1 i.2.2.2.2.1 i.2.2.2.2.2) (fun i=>H' i.1 i.2.1 i.2.2.1 i.2.2.2.1 i.2.2.2.2.1 i.2.2.2.2.2) e fun i h=>f i.1 i.2.1 i.2.2.1 i.2.2.2.1 i.2.2.2.2.1 i.2.2.2.2.2 h
end
end Go.Sl
namespace Go.Proofs.YtmcepdopookilaaGreatDoor.Rp
open Go Go.Sl Go.RowKit Go.Proofs.Tryz
abbrev sJ(k:Nat):IT:=⟨k,false,false,0,0⟩
def zK(x:AN)(v:RV):Prop:=∃(i:IT) (lm:LM),(i∈x.c.a5M\/i=sJ 6\/i=sJ 7\/i=sJ 9)/\lm∈x.bx.ls/\uC i lm v
abbrev xJ(n:Nat)(vs:List RV):RR:={R0 with kind:=14,n:=n,values:=vs}
abbrev Iz:Bs:=[69,88,80,85,78,71,69,73,83,83,85,69,68]
abbrev IA(tag:Bs):RR:=kP tag Iz [115,111,109,101,32,97,114,101,32,103,111,110,101]
def zL(v v':VW):Prop:=v'.box=v.box/\v'.val=v.val/\v'.a5I.map Prod.fst=v.a5I.map Prod.fst
theorem zL.rfl'(v:VW):zL v v:=qm
theorem zL.len{v v':VW}(h:zL v v'):v'.a5I.length=v.a5I.length:=by
 have:=jk List.length h.2.2;simpa using this
theorem zL.seq{v v':VW}(h:zL v v')(u:Nat):cJ v' u=cJ v u:=by
 have e:∀l:List (Nat×Nat),l.findIdx? (fun r=>decide (r.1=u))=(l.map Prod.fst).findIdx? (fun q=>decide (q=u)):=fun l=>by
  rw[List.findIdx?_map];rfl
 unfold cJ tx;rw[e,e,h.2.2]
theorem zL.told{v v':VW}(h:zL v v')(u m:Nat):zL v (ck v' u m):=by
 by_cases h1:lv v'.a5I u<0
 ·rw[rW h1];exact h
 ·obtain⟨i,a,_,e⟩:=rX (m:=m) h1;rw[e];refine⟨h.1,h.2.1,?_⟩;rw[<-h.2.2];simp only[Kb];rw[show v'.a5I[i].1=(v'.a5I.map Prod.fst)[i]'(by simpa using a) from by simp];exact Z4 _
theorem BN(v:VW)(u:Nat):cJ v u<=v.a5I.length:=by
 unfold cJ tx
 cases e:v.a5I.findIdx? fun r=>decide (r.1=u) with
 |none=>exact zw _
 |some i=>exact(kg.1 e).1
theorem BO(a v:As)(L Z R:List As):(a::v::(L++(Z++R))).Perm ((a::(L++R))++(v::Z)):=by
 refine List.Perm.cons _ ?_;refine List.Perm.trans (List.Perm.cons _ ?_) Qd.symm;rw[zh];exact Z5 L kz
structure mQ(x:AN)(s:SE)(us:List Nat)(r:RR)(v':VW)(l:List RM)(h:l_):Prop where
 vw:zL s.a5J v'
 rep:(∃c,r={x.r with code:=c})\/r=IA x.c.tag
 tol:∀m∈l,∃u,(u∈us\/0<cJ s.a5J u)/\∃vs,m.1=xJ (cJ s.a5J u) vs/\(0<vs.length\/x.c.a5M=[])/\vs.length<=100/\∀v∈vs,zK x v
 rd:∀m∈l,fC m.1 m.2 h/\yM m.2
def qf(x:AN)(s:SE)(us:List Nat)(r:RR)(s':SE)(l:List RR):Prop:=l.length<=100000/\(∃v',s'={s with a5J:=v'}/\zL s.a5J v')/\((∃c,r={x.r with code:=c})\/r=IA x.c.tag)/\∀q∈l,∃u,(u∈us\/0<cJ s.a5J u)/\∃vs,q=xJ (cJ s.a5J u) vs/\(0<vs.length\/x.c.a5M=[])/\vs.length<=100/\∀v∈vs,zK x v
theorem mQ.le{x:AN}{s:SE}{a:List Nat}{r:RR}{v':VW}{l:List RM}{h b:l_}(k:mQ x s a r v' l h)(hl:l_.le h b):mQ x s a r v' l b:=⟨k.vw,k.rep,k.tol,fun m c=>⟨Mn.le hl (k.rd m c).1,(k.rd m c).2⟩⟩
theorem zM(g:Nat)(x:AN)(s:SE)(sl:SL)(d:DD)(y:DL)(hx:rm x)(hz:x.z=L0)(w4:s.a5J.a5I.length<=100000)(w5:x.us.length<=100000)(w7:x.c.a5M.length<=90)(hl:y.rl.length<=100000):
  Cm prog 236 [l9 g] (fun h=>cM x h/\U2 s sl h) (C2 g x::l5 sl.ra s.a5J.a5I sl.rc::O4 x.b s sl d y) (wZ g x d y (qf x s x.us)):=by
 refine y4 132 func236 rfl rfl rfl ?_;rintro F R ⟨u8,q7⟩;have q8:∀p∈x.bl,p.2.length<=1000000000:=fun p hp=>by have:=hx.body p hp;omega
 refine H9 6 ?_;refine dr (fun(r:RR) (b:VW) (p:AC) (l:List RM) (o:AC) (V:l6)=>F.le V/\mQ x s x.us r b l V.heap/\l.length<=100000) (fun _ _ _ _ _ _=>[(0,l9 g)]) (fun _ _ _ _ _ V=>V) (fun r b p l o _=>C2 g {x with r:=r,z:=L0}::l5 p.1 b.a5I p.2::E7 x.b {s with a5J:=b} {sl with ra:=p.1,rc:=p.2} d (C1 y l o.1 o.2)::r8 o.1 (y.rl++l) o.2::R) ?_ ?_
 ·refine n8 ?_;refine bJ (ι:=Nat×RR×VW×AC×List RM×AC×l6) (fun i=>i.1<=x.us.length/\F.le i.2.2.2.2.2.2/\mQ x s x.us i.2.1 i.2.2.1 i.2.2.2.2.1 i.2.2.2.2.2.2.heap/\i.2.2.2.2.1.length<=i.1) (fun i=>[(0,l9 g),(13,.slice x.ua x.us.length x.uc),(14,.int .i64 (x.us.length:Nat)),(15,.int .i64 (i.1:Nat))]) (fun i=>i.2.2.2.2.2.2)
   (fun i=>match i with|(j,r,b,p,l,o,V)=>C2 g {x with r:=r,z:=L0}::l5 p.1 b.a5I p.2::E7 x.b {s with a5J:=b} {sl with ra:=p.1,rc:=p.2} d (C1 y l o.1 o.2)::r8 o.1 (y.rl++l) o.2::R) (fun i=>x.us.length-i.1) (0,x.r,s.a5J,(sl.ra,sl.rc),[],(y.da,y.dc),F) ⟨zw _,l6.le_refl _,⟨zL.rfl' _,.inl ⟨x.r.code,rfl⟩,qy,qy⟩,z1 _⟩ sub rfl (fun w f=>?_) ?_
  ·obtain⟨xb,xc,xk,xm,xo,xy,w9,a0,a1,a2,a8,b0,b3,xr,xz⟩:=x;obtain rfl:xz=L0:=hz;show Hp F w (_::_::E7 xb s sl d (C1 y [] y.da y.dc)::r8 y.da (y.rl++[]) y.dc::R);simp only[C1,z7];exact C5 (A:=[_,_,_,_]) (J:=[]) tk f
  rintro⟨j,r,b,p,l,o,V⟩ ⟨hj,S,Q,v0⟩;simp only at hj S Q v0;obtain⟨x1,b4⟩:∃x1:AN,x1={x with r:=r,z:=L0}:=⟨_,rfl⟩;obtain⟨s1,b5⟩:∃s1:SE,s1={s with a5J:=b}:=⟨_,rfl⟩;obtain⟨b6,w2⟩:∃q:SL,q={sl with ra:=p.1,rc:=p.2}:=⟨_,rfl⟩;have M:cM x V.heap:=Mn.le S.heap u8;refine R6 ?_ ?_<;>intro h
  ·have h6:j<x.us.length:=(by have:=qr h;omega);have v1:=Y6 M.us h6;refine H9 0 ?_;refine dr (fun(r:RR) (b:VW) (p:AC) (l:List RM) (o:AC) (F2:l6)=>F.le F2/\mQ x s x.us r b l F2.heap/\l.length<=j+1) (fun _ _ _ _ _ _=>[(0,l9 g),(13,.slice x.ua x.us.length x.uc),(14,.int .i64 (x.us.length:Nat)),(15,.int .i64 (j:Nat))]) (fun _ _ _ _ _ V=>V) (fun r b p l o _=>C2 g {x with r:=r,z:=L0}::l5 p.1 b.a5I p.2::E7 x.b {s with a5J:=b} {sl with ra:=p.1,rc:=p.2} d (C1 y l o.1 o.2)::r8 o.1 (y.rl++l) o.2::R) ?_ ?_
   ·refine n8 ?_;refine C6 ?_;refine f_ (m8 rfl v1 rfl qb) ?_;refine r_ (i8 rfl (fun w f=>uf f M.us (i:=j) x6 h6)) ?_;refine p_ ?_;have q9:x.bx.ls.length<=1000000:=(by have:=hx.ls;omega);refine y9 ?_;refine c_ (eV g {x with r:=r,z:=L0} (x.us.getD j 0) q9) (fun h Y _=>M.bx.ls.le Y) ?_;rintro v A ⟨T,ok,rfl,q0,rfl⟩;refine E5 ?_;refine i7 rfl ?_;intro X;refine y9 ?_;have v3:ok=true->o0 V.heap T.a (fV T.t.a5U)/\T.t.a5U.length<=1000:=fun e=>⟨M.bx.fl _ (q0.1 e).1,hx.fl _ (q0.1 e).1⟩
    cases ok
    ·refine E5 ?_;refine c_ (ep g {x with r:=r,z:=L0} Iz [115,111,109,101,32,97,114,101,32,103,111,110,101]) qw ?_;rintro v A ⟨rfl,rfl⟩;refine u7 ?_;exact y5 (IA x.c.tag,b,p,l,o,V) ⟨S,{Q with rep:=.inr rfl},by simp only;omega⟩ rfl (fun w f=>C5 (A:=[_,_,_,_]) (J:=[_]) tk f)
    obtain⟨q1,b7⟩:=q0.1 rfl;obtain⟨v4,w3⟩:=v3 rfl;refine y9 ?_;obtain⟨tb,v5⟩:∃q,q=Iu {x with r:=r,z:=L0} T:=⟨_,rfl⟩;have x0:=wW g {x with r:=r,z:=L0} T;rw[<-v5] at x0;refine y9 ?_;refine c_ x0 qw ?_;rintro v A ⟨rfl,rfl⟩;refine p_ ?_
    cases tb
    ·refine u7 ?_;exact y5 (r,b,p,l,o,V) ⟨S,Q,by simp only;omega⟩ rfl (fun w f=>C5 (A:=[_,_,_,_]) (J:=[_]) tk f)
    refine u7 ?_;obtain⟨cu,x2⟩:=o7 (x.c.uid);obtain⟨cs,x3⟩:=o7 (x.c.a5N);refine au ?_;refine c_ (jH (oH x.c.a5M) x.k.ia x.c.a5M.length x.k.ic (tD _) (ng _) qb) (fun h Y _=>M.c.a5M.le Y) ?_;rintro v A ⟨a6,c6,rfl,rfl⟩;refine p_ ?_;refine H9 0 ?_;refine n7 (ι:=Bool) (fun _=>True) (fun q=>[(0,l9 g),(3,.int .u64 (x.us.getD j 0:Nat)),(4,l9 X),(6,.slice a6 x.c.a5M.length c6),(13,.slice x.ua x.us.length x.uc),(14,.int .i64 (x.us.length:Nat)),(15,.int .i64 (j:Nat)),(51,.bool q)]) (fun _=>bP a6 x.c.a5M c6::.blk X (.cells (S8 T).toArray 156)::C2 g {x with r:=r,z:=L0}::l5 p.1 b.a5I p.2::E7 x.b {s with a5J:=b} {sl with ra:=p.1,rc:=p.2} d (C1 y l o.1 o.2)::r8 o.1 (y.rl++l) o.2::R) ?_ ?_
    ·cases cu
     ·refine au ?_;refine f_ ((az rfl).eq (v':=.bool false) (qn x2.symm)) ?_;refine O2 ?_;(first|refine u_ ?_|(refine v_ ?_;fail));refine y9 ?_;exact g_ _ trivial (fun w f=>C5 (A:=[_,_,_,_,_,_]) (J:=[]) tk f)
     ·refine au ?_;refine f_ ((az rfl).eq (v':=.bool true) (qn x2.symm)) ?_;refine O2 ?_;(first|refine u_ ?_|(refine v_ ?_;refine e_ rfl (uB x.c x.k 7 qb) (fun h Y _=>M.c.a5M.le Y) rfl ?_));refine y9 ?_;exact g_ _ trivial (fun w f=>C5 (A:=[_,_,_,_,_,_]) (J:=[]) tk f)
    intro b8 _;refine u7 ?_;refine n7 (ι:=List IT×AC) (fun q=>(x.c.a5M.length<=q.1.length/\q.1.length<=x.c.a5M.length+1)/\∀i∈q.1,i∈x.c.a5M\/i=sJ 6\/i=sJ 7\/i=sJ 9) (fun q=>[(0,l9 g),(3,.int .u64 (x.us.getD j 0:Nat)),(4,l9 X),(6,.slice q.2.1 q.1.length q.2.2),(13,.slice x.ua x.us.length x.uc),(14,.int .i64 (x.us.length:Nat)),(15,.int .i64 (j:Nat))]) (fun q=>bP q.2.1 q.1 q.2.2::.blk X (.cells (S8 T).toArray 156)::C2 g {x with r:=r,z:=L0}::l5 p.1 b.a5I p.2::E7 x.b {s with a5J:=b} {sl with ra:=p.1,rc:=p.2} d (C1 y l o.1 o.2)::r8 o.1 (y.rl++l) o.2::R) ?_ ?_
    ·refine o8 rfl ?_ ?_<;>intro h
     ·have k8:=fun q2=>yg x.c.a5M a6 c6 (sJ 7) q2 qb;obtain⟨x9,U⟩:=o7 (sJ 7::x.c.a5M);rw[<-U] at k8;refine p_ ?_;refine f_ (y8 (ps:=[(0,.const (.int .i64 7))]) (vs:=[(0,.int .i64 7)]) (cells:=(cZ (sJ 7)).toArray) rfl i6) ?_;refine Gf cZ (sJ 7) rfl ?_;intro q2;refine c_ (k8 q2) qw ?_;rintro v A ⟨a7,c7,rfl,rfl⟩;refine p_ ?_;exact g_ (x9,a7,c7) ⟨⟨by simp only[U,zy];omega,by simp only[U,zy];omega⟩,fun i Q=>by rw[U] at Q;rcases ky.1 Q with rfl|Q;exact .inr (.inr (.inl rfl));exact .inl Q⟩ (fun w f=>C5 (A:=[_,_,_,_,_,_]) (J:=[]) tk f)
     ·refine u7 ?_;exact g_ (x.c.a5M,a6,c6) ⟨⟨z1 _,Nat.le_succ _⟩,fun i Q=>.inl Q⟩ (fun w f=>C5 (A:=[_,_,_,_,_,_]) (J:=[]) tk f)
    rintro⟨u,o6⟩ ⟨h7,h0⟩;simp only at h7 h0;refine H9 0 ?_;refine n7 (ι:=Bool) (fun _=>True) (fun q=>[(0,l9 g),(3,.int .u64 (x.us.getD j 0:Nat)),(4,l9 X),(6,.slice o6.1 u.length o6.2),(13,.slice x.ua x.us.length x.uc),(14,.int .i64 (x.us.length:Nat)),(15,.int .i64 (j:Nat)),(68,.bool q)]) (fun _=>bP o6.1 u o6.2::.blk X (.cells (S8 T).toArray 156)::C2 g {x with r:=r,z:=L0}::l5 p.1 b.a5I p.2::E7 x.b {s with a5J:=b} {sl with ra:=p.1,rc:=p.2} d (C1 y l o.1 o.2)::r8 o.1 (y.rl++l) o.2::R) ?_ ?_
    ·cases cs
     ·refine au ?_;refine f_ ((az rfl).eq (v':=.bool false) (qn x3.symm)) ?_;refine O2 ?_;(first|refine u_ ?_|(refine v_ ?_;fail));refine y9 ?_;exact g_ _ trivial (fun w f=>C5 (A:=[_,_,_,_,_,_]) (J:=[]) tk f)
     ·refine au ?_;refine f_ ((az rfl).eq (v':=.bool true) (qn x3.symm)) ?_;refine O2 ?_;(first|refine u_ ?_|(refine v_ ?_;refine e_ rfl (uB x.c x.k 9 qb) (fun h Y _=>M.c.a5M.le Y) rfl ?_));refine y9 ?_;exact g_ _ trivial (fun w f=>C5 (A:=[_,_,_,_,_,_]) (J:=[]) tk f)
    intro b9 _;refine u7 ?_;refine n7 (ι:=List IT×AC) (fun q=>(x.c.a5M.length<=q.1.length/\q.1.length<=x.c.a5M.length+2)/\∀i∈q.1,i∈x.c.a5M\/i=sJ 6\/i=sJ 7\/i=sJ 9) (fun q=>[(0,l9 g),(3,.int .u64 (x.us.getD j 0:Nat)),(4,l9 X),(6,.slice q.2.1 q.1.length q.2.2),(13,.slice x.ua x.us.length x.uc),(14,.int .i64 (x.us.length:Nat)),(15,.int .i64 (j:Nat))]) (fun q=>bP q.2.1 q.1 q.2.2::.blk X (.cells (S8 T).toArray 156)::C2 g {x with r:=r,z:=L0}::l5 p.1 b.a5I p.2::E7 x.b {s with a5J:=b} {sl with ra:=p.1,rc:=p.2} d (C1 y l o.1 o.2)::r8 o.1 (y.rl++l) o.2::R) ?_ ?_
    ·refine o8 rfl ?_ ?_<;>intro h
     ·refine p_ ?_;refine f_ (y8 (ps:=[(0,.const (.int .i64 9))]) (vs:=[(0,.int .i64 9)]) (cells:=(cZ (sJ 9)).toArray) rfl i6) ?_;refine C4 cZ (sJ 9) rfl ?_;intro c0 _;refine u6 cZ (l:=u) (m:=[sJ 9]) an gq (by show(u.length+1)*32<=_;omega) ?_;intro a72 v6 _;refine p_ ?_;exact g_ (u++[sJ 9],a72,v6) ⟨⟨by simp only[zz,zy,zn];omega,by simp only[zz,zy,zn];omega⟩,fun i Q=>by rcases zb.1 Q with Q|Q;exact h0 i Q;exact .inr (.inr (.inr (zg.1 Q)))⟩ (fun w f=>C5 (A:=[_,_,_,_,_,_]) (J:=[_]) tk f)
     ·refine u7 ?_;exact g_ (u,o6) ⟨⟨h7.1,by show u.length<=_;omega⟩,h0⟩ (fun w f=>C5 (A:=[_,_,_,_,_,_]) (J:=[]) tk f)
    clear h0 h7;rintro⟨u,o6⟩ ⟨h7,h0⟩;simp only at h7 h0;have v7:cJ b (x.us.getD j 0)<1000000:=Ws (BN b _) (by have:=Q.vw.len;omega);obtain⟨sq,k9⟩:=o7 (cJ b (x.us.getD j 0));have h8:=GM b p.1 p.2 (x.us.getD j 0) (by have:=Q.vw.len;omega);rw[<-k9] at h8 v7;refine wk 9 ?_;refine e_ rfl h8 (fun h Y ⟨bs,hb⟩=>A3.rd hb ud) rfl ?_;refine f_ ((z_ rfl qb).eq (v':=.int .u64 (sq:Nat)) rfl) ?_;refine f_ (y8 (ps:=[(0,.const (.int .i64 14)),(4,.tmp 83)]) (vs:=[(0,.int .i64 14),(4,.int .u64 (sq:Nat))]) (cells:=(tp (xJ sq []) L0).toArray) rfl i6) ?_;refine i7 rfl ?_;intro g7;refine p_ ?_;refine H9 3 ?_;refine n7 (ι:=AC×List VM×List As) (fun q=>q.2.1.length=u.length/\(∀w∈q.2.1,zK x w.v)/\∀h bs,A3 h q.2.2 bs->∀w∈q.2.1,o0 h w.a (fV w.v.a5U)) (fun q=>[(0,l9 g),(3,.int .u64 (x.us.getD j 0:Nat)),(4,l9 X),(7,l9 g7),(13,.slice x.ua x.us.length x.uc),(14,.int .i64 (x.us.length:Nat)),(15,.int .i64 (j:Nat))]) (fun q=>match q with|(O,D,Z)=>xI g7 (xJ sq (D.map VM.v)) ⟨none,0,none,0,O.1,O.2,D⟩::bH O.1 D O.2::.blk X (.cells (S8 T).toArray 156)::C2 g {x with r:=r,z:=L0}::l5 p.1 b.a5I p.2::E7 x.b {s with a5J:=b} {sl with ra:=p.1,rc:=p.2} d (C1 y l o.1 o.2)::r8 o.1 (y.rl++l) o.2::(Z++R)) ?_ ?_
    ·refine n8 ?_;refine B4 (a:=o6.1) (n:=u.length) (c:=o6.2) (sz:=5) (xs:=oH u) ud fun _ _ y0=>?_;refine o9 (ι:=Nat×AC×List VM×List As) (fun q=>q.1<=u.length/\q.2.2.1.length=q.1/\(∀w∈q.2.2.1,zK x w.v)/\∀h bs,A3 h q.2.2.2 bs->∀w∈q.2.2.1,o0 h w.a (fV w.v.a5U)) (fun q=>[(0,l9 g),(3,.int .u64 (x.us.getD j 0:Nat)),(4,l9 X),(7,l9 g7),(13,.slice x.ua x.us.length x.uc),(14,.int .i64 (x.us.length:Nat)),(15,.int .i64 (j:Nat)),(85,.slice o6.1 u.length o6.2),(86,.int .i64 (u.length:Nat)),(87,.int .i64 (q.1:Nat))]) (fun q=>match q with|(_,O,D,Z)=>xI g7 (xJ sq (D.map VM.v)) ⟨none,0,none,0,O.1,O.2,D⟩::bH O.1 D O.2::bP o6.1 u o6.2::.blk X (.cells (S8 T).toArray 156)::C2 g {x with r:=r,z:=L0}::l5 p.1 b.a5I p.2::E7 x.b {s with a5J:=b} {sl with ra:=p.1,rc:=p.2} d (C1 y l o.1 o.2)::r8 o.1 (y.rl++l) o.2::(Z++R)) (fun q=>u.length-q.1) (0,(none,0),[],[]) ⟨zw _,rfl,qy,(fun _ _ _ _ h=>by cases h)⟩ sub (fun w f=>?_) ?_
     ·exact C5 (A:=[_,bH none [] 0,_,_,_,_,_,_]) (J:=[]) tk (f.addNil 110 6)
     rintro⟨k,O,D,Z⟩ ⟨hk,q3,h4,h5⟩;simp only at hk q3 h4 h5;refine R6 ?_ ?_<;>intro h
     ·have q4:k<u.length:=(by have:=qr h;omega);have q5:=y0 qb;refine C6 ?_;refine f_ (m8 rfl q5 rfl qb) ?_;refine r_ (w8 rfl (fun w f=>fe (C:=cZ) (f.ownN (a:=o6.1) (t:=129) ud).2.2.1 an qp q4 x6) (an _)) ?_;refine i7 rfl ?_;intro g9;refine p_ ?_;refine D8 [1,3,4] [5,6,7,9] [xI g7 (xJ sq (D.map VM.v)) ⟨none,0,none,0,O.1,O.2,D⟩,.blk g9 (.cells (cZ u[k]).toArray 129),.blk X (.cells (S8 T).toArray 156)] 10 ?_;refine wd [0,1,2,3,4] ?_;refine h_ 5 rfl i6 ?_;refine c_ (wX g {x with r:=r,z:=L0} u[k] T qb (by have:=hx.bl;show x.bl.length<=_;omega) q8) (fun h Y _=>⟨M.g.le Y,v4.le Y,M.bl.le Y⟩) ?_;rintro v A ⟨vm,Z2,rfl,v8,rfl,v9⟩;refine I7 (H':=_::_::_::_::_::_::_::_::_::(Z2++(Z++R))) (fun w f=>f.perm ((Qb Z2 [_,_,_,_,_,_,_,_] (Z++R)).cons _)) ?_;refine ah ?_;refine h_ 6 rfl i6 ?_;refine C4 vp vm rfl ?_;intro c1 _;refine ah ?_;refine h_ 7 rfl i6 ?_;refine u6 vp (l:=D) (m:=[vm]) mX mY (by show(D.length+1)*72<=_;omega) ?_;intro Ru q6 _;refine E6 [8,9] ?_;refine y9 ?_;refine l8 (i:=(k,O,D,Z)) (k+1,(Ru,q6),D++[vm],Z2++Z) ⟨q4,by rw[zz];simp only[zy,zn];omega,fun w f=>by rcases zb.1 f with f|f;exact h4 w f;exact⟨u[k],T,h0 _ (zx q4),q1,by rw[zg.1 f];exact v8⟩,fun h bs hs w f=>?hzz⟩ qg sub (fun w f=>?hpp)
      case hzz=>
       obtain⟨b1,b2,rfl,h1,h2⟩:=A3.split hs;rcases zb.1 f with f|f
       ·exact h5 _ _ h2 w f
       ·rw[zg.1 f];exact v9 _ _ h1
      case hpp=>
       show Hp V w (xI g7 (xJ sq ((D++[vm]).map VM.v)) ⟨none,0,none,0,Ru,q6,D++[vm]⟩::bH Ru (D++[vm]) q6::bP o6.1 u o6.2::.blk X (.cells (S8 T).toArray 156)::C2 g {x with r:=r,z:=L0}::l5 p.1 b.a5I p.2::E7 x.b {s with a5J:=b} {sl with ra:=p.1,rc:=p.2} d (C1 y l o.1 o.2)::r8 o.1 (y.rl++l) o.2::((Z2++Z)++R));rw[zh];exact C5 (A:=[_,_,_,_,_,_,_,_]) (J:=[_,_]) tk f
     ·refine u7 ?_;exact g_ (O,D,Z) ⟨by have:=zq h;simp only;omega,h4,h5⟩ (fun w f=>C5 (A:=[_,_,_,_,_,_,_]) (J:=[_]) tk f)
    rintro⟨O,D,Z⟩ ⟨q3,h4,h5⟩;simp only at q3 h4 h5;refine u7 ?_;have w0:x.us.getD j 0∈x.us:=(by rw[zd,zj h6];exact zx h6);refine D5 (H':=(xI g7 (xJ sq (D.map VM.v)) ⟨none,0,none,0,O.1,O.2,D⟩::.blk X (.cells (S8 T).toArray 156)::C2 g {x with r:=r,z:=L0}::l5 p.1 b.a5I p.2::E7 x.b {s with a5J:=b} {sl with ra:=p.1,rc:=p.2} d (C1 y l o.1 o.2)::r8 o.1 (y.rl++l) o.2::R)++(bH O.1 D O.2::Z)) (fun w f=>f.perm (BO _ _ [_,_,_,_,_] Z R)) (bZ fun F2 k0 hb=>?_);obtain⟨bs,hb⟩:=hb;obtain⟨b1,b2,rfl,y1,y2⟩:=hb;have y3:o0 F2.heap O.1 (OV D):=A3.rd (H:=[bH O.1 D O.2]) ⟨b1,[],(z7 _).symm,y1,rfl⟩ ud;have z0:=h5 _ _ y2;clear y1 y2;have z2:cM x F2.heap:=Mn.le k0.heap M;obtain⟨m,hm⟩:=o7 (α:=RM) ((xJ sq (D.map VM.v),⟨none,0,none,0,O.1,O.2,D⟩));have u0:∀a c,E9 (C1 y l o.1 o.2) (xJ sq (D.map VM.v),⟨none,0,none,0,O.1,O.2,D⟩) a c=C1 y (l++[m]) a c:=fun a c=>(by simp[E9,C1,hm]);have h9:mQ x s x.us r b (l++[m]) F2.heap:=by
     have h3:=Q.le k0.heap;refine⟨h3.vw,h3.rep,fun q hq=>?_,fun q hq=>?_⟩
     ·rcases zb.1 hq with hq|hq
      ·exact h3.tol q hq
      ·rw[zg.1 hq,hm];refine⟨x.us.getD j 0,.inl w0,D.map VM.v,by rw[k9,Q.vw.seq],by rw[zr];rcases Qs x.c.a5M.length with e|e;exact .inr (jy e);exact .inl qb,by rw[zr];omega,fun v hv=>?_⟩;obtain⟨w,f,rfl⟩:=jx.1 hv;exact h4 w f
     ·rcases zb.1 hq with hq|hq
      ·exact h3.rd q hq
      ·rw[zg.1 hq,hm];exact⟨⟨rfl,o0.nil _ _,o0.nil _ _,y3,z0⟩,rfl,rfl⟩
    refine u7 ?_;refine D8 [3,4] [5] [C2 g {x with r:=r,z:=L0},xI g7 (xJ sq (D.map VM.v)) ⟨none,0,none,0,O.1,O.2,D⟩] 6 ?_;refine wd [0,1,2,3,4] ?_;refine h_ 5 rfl i6 ?_;refine c_ (V2 x.b {s with a5J:=b} {sl with ra:=p.1,rc:=p.2} d (C1 y l o.1 o.2) (xJ sq (D.map VM.v)) ⟨none,0,none,0,O.1,O.2,D⟩ (by simp only[zz];omega)) qw ?_;rintro v A ⟨rfl,a9,c9,rfl⟩;refine E6 [] ?_;rw[u0];refine O2 ?_;refine e_ rfl (uB x.c x.k 6 qb) (fun h Y _=>z2.c.a5M.le Y) rfl ?_;refine N8 ?_ ?_<;>intro h
    ·refine u7 ?_;refine D8 [3,7,11,14] [15,19] [C2 g {x with r:=r,z:=L0},E7 x.b {s with a5J:=b} {sl with ra:=p.1,rc:=p.2} d (C1 y (l++[m]) a9 c9),.blk X (.cells (S8 T).toArray 156)] 20 ?_;refine wd [0,1,2,3,4,5,6,7,8,9,10,11,12,13,14] ?_;refine h_ 15 rfl i6 ?_;refine c_ (C:=[]) (AY b p.1 p.2 (x.us.getD j 0) T.t.mod (by have:=Q.vw.len;omega)) ?pre ?_;(case pre=>exact fun h Y ⟨bs,hb⟩=>A3.rd hb ud);rintro v A ⟨a5,c5,rfl,rfl⟩;refine gj [16,17,18,19] ?_;exact y5 (r,ck b (x.us.getD j 0) T.t.mod,(a5,c5),l++[m],(a9,c9),F2) ⟨S.trans k0,{h9 with vw:=h9.vw.told _ _},by simp only[zz,zy,zn];omega⟩ rfl (fun w f=>C5 (A:=[_,_,_,_]) (J:=[_,_,_]) tk f)
    ·refine u7 ?_;exact y5 (r,b,p,l++[m],(a9,c9),F2) ⟨S.trans k0,h9,by simp only[zz,zy,zn];omega⟩ rfl (fun w f=>C5 (A:=[_,_,_,_]) (J:=[_,_]) tk f)
   rintro r' v2 p2 l2 O F2 ⟨u1,h9,u2⟩;refine y9 ?_;exact O_ (i:=(j,r,b,p,l,o,V)) (j+1,r',v2,p2,l2,O,F2) ⟨h6,u1,h9,u2⟩ qg sub rfl i_
  ·refine u7 ?_;exact y5 (r,b,p,l,o,V) ⟨S,Q,by simp only;omega⟩ rfl i_
 rintro r b p l o V ⟨S,Q,w1⟩;refine H3 (A:=C2 g {x with r:=r,z:=L0}::l5 p.1 b.a5I p.2::O4 x.b {s with a5J:=b} {sl with ra:=p.1,rc:=p.2} d (C1 y l o.1 o.2)) (v:=.tuple #[]) S ⟨rfl,r,{s with a5J:=b},{sl with ra:=p.1,rc:=p.2},l,o.1,o.2,⟨by rw[zr];exact w1,⟨b,rfl,Q.vw⟩,Q.rep,fun q hq=>?_⟩,Q.rd,⟨(Mn.le S.heap q7).a5L,(Mn.le S.heap q7).cmd⟩,rfl⟩ ?_
 ·obtain⟨m,hm,rfl⟩:=jx.1 hq;exact Q.tol m hm
 ·exact m6 rfl _ qh i_
theorem xa(n:Nat)(h:n<18446744073709551616):Pu prog 366 [.int .u64 (n:Nat)] Gl (B (fG n)):=by
 obtain⟨q,a⟩:=o7 (decide (n=0));refine b_ 7 func366 rfl rfl rfl ?_;intro F hg;refine y9 ?_;refine f_ ((p8 rfl rfl).eq (v':=.bool q) (qn ((qz).trans a.symm))) ?_;refine u7 ?_
 cases q
 ·have b:n≠0:=zq a.symm;refine p_ ?_;refine e_ rfl (aF n h) (fun h c _=>hg.le c) rfl ?_;refine C8 ?_;exact d_ rfl rfl [] ⟨by unfold fG;rw[zk b],rfl⟩ i_
 ·have b:n=0:=qr a.symm;refine C8 ?_;exact d_ rfl rfl [] ⟨by unfold fG;rw[zu b],rfl⟩ i_
theorem Nj(n:Nat)(h:n<18446744073709551616):(R1 n).length<=20:=by
 have a:∀(k n:Nat),n<10^(k+1)->(R1 n).length<=k+1:=fun k=>by
  induction k with
  |zero=>intro n h;rw[bK (by simpa using h)];simp
  |succ k ih=>
   intro n h;by_cases h1:n<10
   ·rw[bK h1];simp
   ·have:=ih (n/10) (Nat.div_lt_of_lt_mul (by rw[W8] at h;omega));rw[gf qb,zz];simp only[zy,zn];omega
 exact a 19 n qb
theorem kE(n:Nat)(h:n<18446744073709551616):(fG n).length<=20:=by
 unfold fG;split
 ·simp
 ·exact Nj n h
theorem BP(r:Nat×Nat)(a:r.1<18446744073709551616)(b:r.2<18446744073709551616):(aD r).length<=41:=by
 have:=kE r.1 a;have:=kE r.2 b;unfold aD;split
 ·omega
 ·simp only[zz,zy];omega
theorem qi(k:Nat):∀l:List Bs,(∀x∈l,x.length<=k)->(eZ [44] l).length<=l.length*(k+1)
 |[],_=>by simp[eZ]
 |[x],h=>by have:=h x x6;simp[eZ];omega
 |x::y::t,h=>by
  have b:=h x x6;have a:=qi k (y::t) fun z hz=>h z (jj _ hz);rw[eZ,zz,zz];simp only[zy,zn] at a⊢;rw[Q0];omega;all_goals simp
theorem xd(l:List (Nat×Nat))(a:Option Addr)(c:Nat)(hl:l.length<=1000000)(t:∀r∈l,r.1<18446744073709551616/\r.2<18446744073709551616):
  Ct prog 311 [.slice a l.length c] (fun h=>Gl h/\o0 h a (V5 l)) [] (fun v A=>(∃(w:Bs) (ok:Bool),v=.tuple #[B w,.bool ok]/\(ok=true->l≠[]/\l.length<=64/\w=eZ [44] (l.map aD)))/\A=[]):=by
 obtain⟨S,T⟩:=o7 (decide (l.length<1));obtain⟨Z,U⟩:=o7 (decide (64<l.length));refine b_ 49 func311 rfl rfl rfl ?_;rintro F ⟨hg,g⟩;refine y9 ?_;refine w6 [(0,.slice a l.length c),(15,.bool (S||Z))] [] ?_ ?_
 ·cases S
  all_goals (
   refine y9 ?_;refine f_ ((E_ rfl rfl).eq (qn ((qz).trans T.symm))) ?_;refine E5 ?_;(first|refine u_ ?_|(refine v_ ?_;refine f_ ((D_ rfl rfl).eq (qn ((qz).trans U.symm))) ?_));refine p_ ?_)
  all_goals exact o_ sub i_
 refine N8 ?_ ?_<;>intro h
 ·refine L7 ?_;exact r7 rfl rfl rfl [] ⟨⟨_,_,rfl,fun e=>by cases e⟩,rfl⟩ i_
 have k:¬l.length<1/\¬64<l.length:=by rw[T,U] at h;simpa using h
 refine p_ ?_;refine H9 3 ?_;refine n7 (ι:=AC) (fun _=>True) (fun o=>[(4,.slice o.1 (l.map aD).length o.2)]) (fun o=>[A4 o.1 (l.map aD) o.2]) ?_ ?_
 ·refine n8 ?_;refine o9 (ι:=Nat×AC) (fun i=>i.1<=l.length) (fun i=>[(0,.slice a l.length c),(16,.slice a l.length c),(17,.int .i64 (l.length:Nat)),(18,.int .i64 (i.1:Nat)),(4,.slice i.2.1 ((l.take i.1).map aD).length i.2.2)]) (fun i=>[A4 i.2.1 ((l.take i.1).map aD) i.2.2]) (fun i=>l.length-i.1) (0,none,0) (zw _) sub (fun w d=>d.addNil _ _) ?_;rintro⟨j,o⟩ hj;simp only at hj;refine R6 ?_ ?_<;>intro h
  ·have b:j<l.length:=(by have:=qr h;omega);have u:=y7 g D0 qp b;have f:=t _ (zx b);have h0:=kE l[j].1 f.1;have h5:=kE l[j].2 f.2;refine H9 0 ?_;refine n8 ?_;refine C6 ?_;refine f_ (m8 rfl u rfl qb) ?_;refine r_ (w8 rfl (fun w d=>fe (C:=ix) (g.le d.keep) D0 qp b x6) (D0 _)) ?_;refine i7 rfl ?_;intro g6;refine au ?_;refine f_ (nP rfl rfl) ?_;refine R6 ?_ ?_<;>intro h
   ·refine L7 ?_;exact r7 rfl rfl rfl [] ⟨⟨_,_,rfl,fun e=>by cases e⟩,rfl⟩ (fun w d=>d.dropAll)
   refine y9 ?_;refine e_ rfl (xa l[j].1 f.1) (fun h s _=>hg.le s) rfl ?_;refine p_ ?_;obtain⟨V,y⟩:=o7 (decide (l[j].2=l[j].1));refine O2 ?_;refine f_ ((M1 rfl rfl).eq (v':=.bool (!V)) (jk (fun x=>Value.bool (!x)) ((qz).trans y.symm))) ?_;refine u7 ?_;refine w6 [(0,.slice a l.length c),(16,.slice a l.length c),(17,.int .i64 (l.length:Nat)),(18,.int .i64 (j:Nat)),(4,.slice o.1 ((l.take j).map aD).length o.2),(7,B (aD l[j]))] [A4 o.1 ((l.take j).map aD) o.2] ?_ ?_
   ·cases V
    ·have z:¬l[j].2=l[j].1:=zq y.symm;have D:aD l[j]=fG l[j].1++58::fG l[j].2:=(by unfold aD;rw[zk z]);rw[D];refine E5 ?_;refine e_ rfl (xa l[j].2 f.2) (fun h s _=>hg.le s) rfl ?_;refine E5 ?_;exact o_ sub (fun w d=>d.drop)
    ·have z:l[j].2=l[j].1:=qr y.symm;have D:aD l[j]=fG l[j].1:=(by unfold aD;rw[zu z]);rw[D];refine u7 ?_;exact o_ sub (fun w d=>d.drop)
   refine y9 ?_;refine uk (n:=aD l[j]) ?_;intro a44;refine ul (l:=(l.take j).map aD) (m:=[aD l[j]]) (by rw[zr,zm];show(min j l.length+1)*16<=_;omega) ?_ (hl:=by rw[zr,zm];show min j l.length+1<=_;omega);intro M O _;refine E5 ?_;have X:(l.take (j+1)).map aD=(l.take j).map aD++[aD l[j]]:=(by rw[kj b,jn];rfl);refine l8 (i:=(j,o)) (j+1,M,O) b qg (by rw[X];exact sub) (fun w d=>by rw[X];exact C5 (A:=[_]) (J:=[_]) tk d)
  ·have b:j=l.length:=(by have:=zq h;omega);refine u7 ?_;exact g_ o trivial (fun w d=>by rw[b,j9] at d;exact d) (hs:=by rw[b,j9];exact sub)
 rintro o-;refine u7 ?_;refine B4 (a:=o.1) (n:=(l.map aD).length) (c:=o.2) (sz:=1) (xs:=fV (l.map aD)) (te:=9) ud fun _ p _=>?_;have Q:(l.map aD).length<=64:=by rw[zr];omega
 have h6:=qi 41 (l.map aD) fun x hx=>by
  obtain⟨r,q,rfl⟩:=jx.1 hx;exact BP r (t r q).1 (t r q).2
 have Y:(l.map aD).length*42<=64*42:=Qy _ Q;refine p_ ?_;refine e_ rfl (Ls (l.map aD) o.1 o.2 [44] p qb qb) (fun h s ⟨bs,hb⟩=>A3.rd hb ud) rfl ?_;refine L7 ?_;exact r7 rfl rfl rfl [] ⟨⟨_,_,rfl,fun _=>⟨fun e=>k.1 (by rw[e];decide),by omega,rfl⟩⟩,rfl⟩ (fun w d=>d.dropAll)
theorem Nk(l:List Nat)(a:Option Addr)(c:Nat)(f:Nat)(hl:l.length<=1000000000000):Pu prog 365 [.slice a l.length c,.int .u64 (f:Nat)] (fun h=>o0 h a (nV l)) (.int .i64 (D1 (fun x=>decide (x=f)) l)):=by
 refine b_ 19 func365 rfl rfl rfl ?_;intro F e;refine O2 ?_;refine o9 (ι:=Nat) (fun j=>j<=l.length/\∀i (g:i<l.length),i<j->decide (l[i]=f)=false) (fun j=>[(0,.slice a l.length c),(1,.int .u64 (f:Nat)),(7,.int .i64 (l.length:Nat)),(8,.int .i64 (j:Nat))]) (fun _=>[]) (fun j=>l.length-j) 0 ⟨zw _,fun i _ h=>by omega⟩ sub i_ ?_;rintro j ⟨q,d⟩;refine R6 ?_ ?_<;>intro h
 ·have b:j<l.length:=by have:=qr h;omega
  have k:=Y6 e b;have m:l.getD j 0=l[j]:=by simp[List.getD,b]
  refine cG ?_;refine r_ (i8 rfl (fun w o=>uf o e (i:=j) x6 b)) ?_;refine f_ ((p8 rfl rfl).eq (v':=.bool (decide (l[j]=f))) (qn (zp.2 (by rw[m];omega)))) ?_;refine N8 ?_ ?_<;>intro n
  ·refine L7 ?_;exact d_ rfl rfl [] ⟨by rw[N5 b n d],rfl⟩ i_
  ·refine y9 ?_;refine l8 (j+1) ⟨b,fun i g h=>?_⟩ qb sub i_;rcases kd.1 h with p|rfl
   ·exact d i g p
   ·exact n
 ·have b:j=l.length:=by have:=zq h;omega
  refine C8 ?_;exact d_ rfl rfl [] ⟨by rw[N4 fun i g=>d i g qb],rfl⟩ i_
theorem IB(l:List Nat)(f:Nat):l.any (fun x=>decide (x=f))=decide (f∈l):=by
 rw[Kz,Jk,Jc];constructor
 ·rintro⟨x,a,h⟩;exact qr h▸a
 ·exact fun h=>⟨f,h,kr rfl⟩
theorem BQ(l:List Nat)(a:Option Addr)(c:Nat)(f:Nat)(hl:l.length<=1000000000000):Pu prog 310 [.slice a l.length c,.int .u64 (f:Nat)] (fun h=>o0 h a (nV l)) (.bool (decide (f∈l))):=by
 refine b_ 9 func310 rfl rfl rfl ?_;intro F b;refine E5 ?_;refine e_ rfl (Nk l a c f hl) (fun h d _=>b.le d) rfl ?_;refine f_ ((I4 rfl rfl).eq (qn ((fI (fun x=>decide (x=f)) l).trans (IB l f)))) ?_;refine C8 ?_;exact d_ rfl rfl [] qh i_
abbrev JV(p:Bool×Nat):List Value:=[.bool p.1,.int .i64 (p.2:Nat)]
theorem BR:∀x,(JV x).length=2:=fun _=>rfl
abbrev Ty:Bs:=[77,79,68,73,70,73,69,68,32]
theorem Ex(g:Nat)(x:AN)(s:SE)(sl:SL)(d:DD)(y:DL)(hx:rm x)(hz:x.z=L0)(a1:s.a5J.a5I.length<=100000)(a2:x.us.length<=100000)(a6:x.o.a5L.length<=100000)(u2:x.o.mods.length<=100000/\fP x.o.mods)(hl:y.rl.length<=100000):
  Cm prog 237 [l9 g] (fun h=>cM x h/\U2 s sl h) (C2 g x::l5 sl.ra s.a5J.a5I sl.rc::O4 x.b s sl d y) (wZ g x d y (qf x s [])):=by
 refine y4 178 func237 rfl rfl rfl ?_;rintro F R ⟨q2,q4⟩;have q5:∀p∈x.bl,p.2.length<=1000000000:=fun p hp=>by have:=hx.body p hp;omega
 have q6:x.bx.ls.length<=1000000:=by have:=hx.ls;omega
 refine H9 7 ?_;refine dr (fun(_:Unit) (b:VW) (p:AC) (l:List RM) (o:AC) (S:l6)=>F.le S/\mQ x s [] x.r b l S.heap/\l.length<=100000) (fun _ _ _ _ _ _=>[(0,l9 g)]) (fun _ _ _ _ _ S=>S) (fun _ b p l o _=>C2 g x::l5 p.1 b.a5I p.2::E7 x.b {s with a5J:=b} {sl with ra:=p.1,rc:=p.2} d (C1 y l o.1 o.2)::r8 o.1 (y.rl++l) o.2::R) ?_ ?_
 ·refine n8 ?_;refine bJ (ι:=Nat×VW×AC×List RM×AC×l6) (fun i=>i.1<=x.o.a5L.length/\F.le i.2.2.2.2.2/\mQ x s [] x.r i.2.1 i.2.2.2.1 i.2.2.2.2.2.heap/\i.2.2.2.1.length<=i.1) (fun i=>[(0,l9 g),(18,.slice x.y.ua x.o.a5L.length x.y.uc),(19,.int .i64 (x.o.a5L.length:Nat)),(20,.int .i64 (i.1:Nat))]) (fun i=>i.2.2.2.2.2)
   (fun i=>match i with|(j,b,p,l,o,S)=>C2 g x::l5 p.1 b.a5I p.2::E7 x.b {s with a5J:=b} {sl with ra:=p.1,rc:=p.2} d (C1 y l o.1 o.2)::r8 o.1 (y.rl++l) o.2::R) (fun i=>x.o.a5L.length-i.1) (0,s.a5J,(sl.ra,sl.rc),[],(y.da,y.dc),F) ⟨zw _,l6.le_refl _,⟨zL.rfl' _,.inl ⟨x.r.code,rfl⟩,qy,qy⟩,z1 _⟩ sub rfl (fun w n=>?_) ?_
  ·show Hp F w (_::_::E7 x.b s sl d (C1 y [] y.da y.dc)::r8 y.da (y.rl++[]) y.dc::R);simp only[C1,z7];exact C5 (A:=[_,_,_,_]) (J:=[]) tk n
  rintro⟨j,b,p,l,o,S⟩ ⟨hj,M,T,u8⟩;simp only at hj M T u8;have f:cM x S.heap:=Mn.le M.heap q2;refine R6 ?_ ?_<;>intro h
  ·have U:j<x.o.a5L.length:=(by have:=qr h;omega);have k8:=Y6 f.o.a5L U;refine H9 0 ?_;refine dr (fun(_:Unit) (b:VW) (p:AC) (l:List RM) (o:AC) (F2:l6)=>F.le F2/\mQ x s [] x.r b l F2.heap/\l.length<=j+1) (fun _ _ _ _ _ _=>[(0,l9 g),(18,.slice x.y.ua x.o.a5L.length x.y.uc),(19,.int .i64 (x.o.a5L.length:Nat)),(20,.int .i64 (j:Nat))]) (fun _ _ _ _ _ S=>S) (fun _ b p l o _=>C2 g x::l5 p.1 b.a5I p.2::E7 x.b {s with a5J:=b} {sl with ra:=p.1,rc:=p.2} d (C1 y l o.1 o.2)::r8 o.1 (y.rl++l) o.2::R) ?_ ?_
   ·refine n8 ?_;refine C6 ?_;refine f_ (m8 rfl k8 rfl qb) ?_;refine r_ (i8 rfl (fun w n=>uf n f.o.a5L (i:=j) x6 U)) ?_;refine E5 ?_;refine c_ (eV g x (x.o.a5L.getD j 0) q6) (fun h Q _=>f.bx.ls.le Q) ?_;rintro v A ⟨lm,ok,rfl,v0,rfl⟩;refine E5 ?_;refine i7 rfl ?_;intro g4;refine y9 ?_
    cases ok
    ·refine y9 ?_;exact y5 ((),b,p,l,o,S) ⟨M,T,by simp only;omega⟩ rfl (fun w n=>C5 (A:=[_,_,_,_]) (J:=[_]) tk n)
    obtain⟨V,a8⟩:=v0.1 rfl;have v1:=f.bx.fl _ V;have w4:=hx.fl _ V;refine E5 ?_;obtain⟨L3,k9⟩:∃L3:List (Bool×Nat),L3=[(x.c.uid,7),(!x.c.a5S,6),(s.cond,9)]:=⟨_,rfl⟩;have v3:∀q∈L3,q.2=6\/q.2=7\/q.2=9:=fun q O=>by
     rw[k9] at O;simp at O;rcases O with rfl|rfl|rfl<;>simp
    have w5:L3.length=3:=(by rw[k9];rfl);refine u7 ?_;refine Aj [4,10,16,20] [22] 25 ?_;refine wd [0,1,2,3,4,5,6,7,8,9,10,11,12,13,14,15,16,17,18,19,20,21,24] ?_;refine h_ 22 rfl i6 ?_;refine x7 (ps:=[(0,.tmp 37),(1,.tmp 44),(2,.tmp 53)]) (vs:=[(0,.agg (JV (x.c.uid,7)).toArray),(1,.agg (JV (!x.c.a5S,6)).toArray),(2,.agg (JV (s.cond,9)).toArray)]) (xs:=[(x.c.uid,7),(!x.c.a5S,6),(s.cond,9)].flatMap JV) rfl rfl rfl rfl rfl rfl rfl rfl ?_;intro Ko q7;rw[<-k9];refine E6 [23,7] ?_;have q8:∃ad,Ko=some ad:=q7;refine n7 (ι:=AC×List VM×List As) (fun q=>q.2.1.length<=3/\(∀w∈q.2.1,zK x w.v)/\∀h bs,A3 h q.2.2 bs->∀w∈q.2.1,o0 h w.a (fV w.v.a5U)) (fun q=>[(0,l9 g),(3,.int .u64 (x.o.a5L.getD j 0:Nat)),(4,l9 g4),(6,.slice q.1.1 q.2.1.length q.1.2),(18,.slice x.y.ua x.o.a5L.length x.y.uc),(19,.int .i64 (x.o.a5L.length:Nat)),(20,.int .i64 (j:Nat))]) (fun q=>match q with|(D,u,Z)=>.blk g4 (.cells (S8 lm).toArray 156)::bH D.1 u D.2::C2 g x::l5 p.1 b.a5I p.2::E7 x.b {s with a5J:=b} {sl with ra:=p.1,rc:=p.2} d (C1 y l o.1 o.2)::r8 o.1 (y.rl++l) o.2::(Z++R)) ?_ ?_
    ·refine n8 ?_;refine o9 (ι:=Nat×AC×List VM×List As) (fun q=>q.1<=3/\q.2.2.1.length<=q.1/\(∀w∈q.2.2.1,zK x w.v)/\∀h bs,A3 h q.2.2.2 bs->∀w∈q.2.2.1,o0 h w.a (fV w.v.a5U)) (fun q=>[(0,l9 g),(3,.int .u64 (x.o.a5L.getD j 0:Nat)),(4,l9 g4),(6,.slice q.2.1.1 q.2.2.1.length q.2.1.2),(18,.slice x.y.ua x.o.a5L.length x.y.uc),(19,.int .i64 (x.o.a5L.length:Nat)),(20,.int .i64 (j:Nat)),(54,.slice Ko 3 3),(55,.int .i64 3),(56,.int .i64 (q.1:Nat))]) (fun q=>match q with|(_,D,u,Z)=>.own (.slice Ko 3 3) 340 2 (L3.flatMap JV)::.blk g4 (.cells (S8 lm).toArray 156)::bH D.1 u D.2::C2 g x::l5 p.1 b.a5I p.2::E7 x.b {s with a5J:=b} {sl with ra:=p.1,rc:=p.2} d (C1 y l o.1 o.2)::r8 o.1 (y.rl++l) o.2::(Z++R)) (fun q=>3-q.1) (0,(none,0),[],[]) ⟨zw _,zw _,qy,(fun _ _ _ _ h=>by cases h)⟩ sub (fun w n=>?_) ?_
     ·exact C5 (A:=[.own (.slice Ko 3 3) 340 2 (L3.flatMap JV),_,bH none [] 0,_,_,_,_]) (J:=[]) tk (n.addNil 110 6)
     rintro⟨k,D,u,Z⟩ ⟨hk,q0,X,Y⟩;simp only at hk q0 X Y;refine R6 ?_ ?_<;>intro h
     ·have q9:k<L3.length:=(by have:=qr h;omega);have v4:=v3 _ (zx q9);refine H9 0 ?_;refine n7 (ι:=AC×List VM×List As) (fun q=>q.2.1.length<=k+1/\(∀w∈q.2.1,zK x w.v)/\∀h bs,A3 h q.2.2 bs->∀w∈q.2.1,o0 h w.a (fV w.v.a5U)) (fun q=>[(0,l9 g),(3,.int .u64 (x.o.a5L.getD j 0:Nat)),(4,l9 g4),(6,.slice q.1.1 q.2.1.length q.1.2),(18,.slice x.y.ua x.o.a5L.length x.y.uc),(19,.int .i64 (x.o.a5L.length:Nat)),(20,.int .i64 (j:Nat)),(54,.slice Ko 3 3),(55,.int .i64 3),(56,.int .i64 (k:Nat))]) (fun q=>match q with|(D,u,Z)=>.own (.slice Ko 3 3) 340 2 (L3.flatMap JV)::.blk g4 (.cells (S8 lm).toArray 156)::bH D.1 u D.2::C2 g x::l5 p.1 b.a5I p.2::E7 x.b {s with a5J:=b} {sl with ra:=p.1,rc:=p.2} d (C1 y l o.1 o.2)::r8 o.1 (y.rl++l) o.2::(Z++R)) ?_ ?_
      ·refine n8 ?_;refine C6 ?_;refine f_ (m8 rfl q8 rfl qb) ?_;refine r_ (w8 rfl (fun w n=>fe (C:=JV) (n.ownN (t:=340) ud).2.2.1 BR qp q9 x6) (BR _)) ?_;refine i7 rfl ?_;intro g8;refine eI ?_ ?_<;>intro h
       ·refine O2 ?_;refine f_ (y8 (ps:=[(0,.tmp 65)]) (vs:=[(0,.int .i64 (L3[k].2:Nat))]) (cells:=(cZ (sJ L3[k].2)).toArray) rfl i6) ?_;refine p_ ?_;refine c_ (wX g x (sJ L3[k].2) lm qb (by have:=hx.bl;omega) q5) (fun h Q _=>⟨f.g.le Q,v1.le Q,f.bl.le Q⟩) ?_;rintro v A ⟨vm,Z2,rfl,v5,rfl,v6⟩;refine I7 (H':=_::_::_::_::_::_::_::_::(Z2++(Z++R))) (fun w n=>n.perm ((Qb Z2 [_,_,_,_,_,_,_] (Z++R)).cons _)) ?_;refine C4 vp vm rfl ?_;intro b0 _;refine u6 vp (l:=u) (m:=[vm]) mX mY (by show(u.length+1)*72<=_;omega) ?_;intro a70 x0 _;refine p_ ?_;refine g_ ((a70,x0),u++[vm],Z2++Z) ⟨by rw[zz];simp only[zy,zn];omega,fun w n=>by rcases zb.1 n with n|n;exact X w n;exact⟨sJ L3[k].2,lm,.inr (by rcases v4 with e|e|e<;>rw[e]<;>simp),V,by rw[zg.1 n];exact v5⟩,fun h bs hs w n=>?hzz⟩ (fun w n=>?hpp)
        case hzz=>
         obtain⟨b1,b2,rfl,h1,h2⟩:=A3.split hs;rcases zb.1 n with n|n
         ·exact Y _ _ h2 w n
         ·rw[zg.1 n];exact v6 _ _ h1
        case hpp=>
         show Hp S w (.own (.slice Ko 3 3) 340 2 (L3.flatMap JV)::.blk g4 (.cells (S8 lm).toArray 156)::bH a70 (u++[vm]) x0::C2 g x::l5 p.1 b.a5I p.2::E7 x.b {s with a5J:=b} {sl with ra:=p.1,rc:=p.2} d (C1 y l o.1 o.2)::r8 o.1 (y.rl++l) o.2::((Z2++Z)++R));rw[zh];exact C5 (A:=[_,_,_,_,_,_,_]) (J:=[_,_]) tk n
       ·refine u7 ?_;exact g_ (D,u,Z) ⟨by simp only;omega,X,Y⟩ (fun w n=>C5 (A:=[_,_,_,_,_,_,_]) (J:=[_]) tk n)
      rintro⟨o3,v7,Z3⟩ ⟨x1,x2,x3⟩;simp only at x1 x2 x3;refine y9 ?_;exact l8 (i:=(k,D,u,Z)) (k+1,o3,v7,Z3) ⟨by simp only;omega,x1,x2,x3⟩ qg sub i_
     ·refine u7 ?_;exact g_ (D,u,Z) ⟨by simp only;omega,X,Y⟩ (fun w n=>C5 (A:=[_,_,_,_,_,_]) (J:=[_]) tk n)
    rintro⟨D,u,Z⟩ ⟨q0,X,Y⟩;simp only at q0 X Y;refine u7 ?_;have v8:cJ b (x.o.a5L.getD j 0)<1000000:=Ws (BN b _) (by have:=T.vw.len;omega);obtain⟨sq,h5⟩:=o7 (cJ b (x.o.a5L.getD j 0));have h6:=GM b p.1 p.2 (x.o.a5L.getD j 0) (by have:=T.vw.len;omega);rw[<-h5] at h6 v8;refine D5 (H':=(.blk g4 (.cells (S8 lm).toArray 156)::C2 g x::l5 p.1 b.a5I p.2::E7 x.b {s with a5J:=b} {sl with ra:=p.1,rc:=p.2} d (C1 y l o.1 o.2)::r8 o.1 (y.rl++l) o.2::R)++(bH D.1 u D.2::Z)) (fun w n=>n.perm (BO _ _ [_,_,_,_] Z R)) (bZ fun F2 h8 hb=>?_);obtain⟨bs,hb⟩:=hb;obtain⟨b1,b2,rfl,x9,y0⟩:=hb;have y1:o0 F2.heap D.1 (OV u):=A3.rd (H:=[bH D.1 u D.2]) ⟨b1,[],(z7 _).symm,x9,rfl⟩ ud;have y2:=Y _ _ y0;clear x9 y0;have w9:cM x F2.heap:=Mn.le h8.heap f;refine wk 9 ?_;refine e_ rfl h6 (fun h Q ⟨bs,hb⟩=>A3.rd hb ud) rfl ?_;refine p_ ?_;refine H9 0 ?_;refine n7 (ι:=Bool) (fun q=>q=true->0<u.length/\0<sq) (fun q=>[(0,l9 g),(3,.int .u64 (x.o.a5L.getD j 0:Nat)),(4,l9 g4),(6,.slice D.1 u.length D.2),(9,.int .i64 (sq:Nat)),(18,.slice x.y.ua x.o.a5L.length x.y.uc),(19,.int .i64 (x.o.a5L.length:Nat)),(20,.int .i64 (j:Nat)),(88,.bool q)]) (fun _=>.blk g4 (.cells (S8 lm).toArray 156)::C2 g x::l5 p.1 b.a5I p.2::E7 x.b {s with a5J:=b} {sl with ra:=p.1,rc:=p.2} d (C1 y l o.1 o.2)::r8 o.1 (y.rl++l) o.2::R) ?_ ?_
    ·by_cases y3:0<u.length
     ·refine y9 ?_;refine f_ ((D_ rfl rfl).eq (v':=.bool true) (qn (kr (show(0:Int)<((u.length:Nat):Int) by omega)))) ?_;refine y9 ?_;(first|refine u_ ?_|(refine v_ ?_;refine f_ ((D_ rfl rfl).eq (v':=.bool (decide (0<sq))) (qn qz)) ?_));refine p_ ?_;exact g_ (decide (0<sq)) (fun e=>⟨y3,qr e⟩) i_
     ·refine y9 ?_;refine f_ ((D_ rfl rfl).eq (v':=.bool false) (qn (jc (show¬(0:Int)<((u.length:Nat):Int) by omega)))) ?_;refine y9 ?_;(first|refine u_ ?_|(refine v_ ?_;fail));refine p_ ?_;exact g_ false (fun e=>by cases e) i_
    intro b3 z0;refine u7 ?_;refine n7 (ι:=List RM×AC) (fun q=>mQ x s [] x.r b q.1 F2.heap/\q.1.length<=j+1) (fun q=>[(0,l9 g),(3,.int .u64 (x.o.a5L.getD j 0:Nat)),(4,l9 g4),(18,.slice x.y.ua x.o.a5L.length x.y.uc),(19,.int .i64 (x.o.a5L.length:Nat)),(20,.int .i64 (j:Nat))]) (fun q=>.blk g4 (.cells (S8 lm).toArray 156)::C2 g x::l5 p.1 b.a5I p.2::E7 x.b {s with a5J:=b} {sl with ra:=p.1,rc:=p.2} d (C1 y q.1 q.2.1 q.2.2)::r8 q.2.1 (y.rl++q.1) q.2.2::R) ?_ ?_
    ·refine o8 rfl ?_ ?_<;>intro h
     ·obtain⟨y3,v9⟩:=z0 h;obtain⟨m,hm⟩:=o7 (α:=RM) ((xJ sq (u.map VM.v),⟨none,0,none,0,D.1,D.2,u⟩));have z2:∀a c,E9 (C1 y l o.1 o.2) (xJ sq (u.map VM.v),⟨none,0,none,0,D.1,D.2,u⟩) a c=C1 y (l++[m]) a c:=fun a c=>(by simp[E9,C1,hm]);have h0:mQ x s [] x.r b (l++[m]) F2.heap:=by
       have h3:=T.le h8.heap;refine⟨h3.vw,h3.rep,fun q O=>?_,fun q O=>?_⟩
       ·rcases zb.1 O with O|O
        ·exact h3.tol q O
        ·rw[zg.1 O,hm];refine⟨x.o.a5L.getD j 0,.inr (by rw[<-T.vw.seq,<-h5];exact v9),u.map VM.v,by rw[h5,T.vw.seq],.inl (by rw[zr];omega),by rw[zr];omega,fun v hv=>?_⟩;obtain⟨w,n,rfl⟩:=jx.1 hv;exact X w n
       ·rcases zb.1 O with O|O
        ·exact h3.rd q O
        ·rw[zg.1 O,hm];exact⟨⟨rfl,o0.nil _ _,o0.nil _ _,y1,y2⟩,rfl,rfl⟩
      refine au ?_;refine f_ ((z_ rfl qb).eq (v':=.int .u64 (sq:Nat)) rfl) ?_;refine p_ ?_;refine f_ (y8 (ps:=[(0,.const (.int .i64 14)),(4,.tmp 94),(9,.tmp 95)]) (vs:=[(0,.int .i64 14),(4,.int .u64 (sq:Nat)),(9,.slice D.1 u.length D.2)]) (cells:=(tp (xJ sq (u.map VM.v)) ⟨none,0,none,0,D.1,D.2,u⟩).toArray) rfl i6) ?_;refine c_ (V2 x.b {s with a5J:=b} {sl with ra:=p.1,rc:=p.2} d (C1 y l o.1 o.2) (xJ sq (u.map VM.v)) ⟨none,0,none,0,D.1,D.2,u⟩ (by simp only[zz];omega)) qw ?_;rintro v A ⟨rfl,a9,c9,rfl⟩;refine u7 ?_;rw[z2];exact g_ (l++[m],a9,c9) ⟨h0,by simp only[zz,zy,zn];omega⟩ (fun w n=>C5 (A:=[_,_,_,_,_]) (J:=[]) tk n)
     ·refine u7 ?_;exact g_ (l,o) ⟨T.le h8.heap,by simp only;omega⟩ i_
    rintro⟨l2,oo⟩ ⟨h0,h4⟩;simp only at h0 h4;refine u7 ?_;refine D8 [3,7,11,14] [15,19] [C2 g x,E7 x.b {s with a5J:=b} {sl with ra:=p.1,rc:=p.2} d (C1 y l2 oo.1 oo.2),.blk g4 (.cells (S8 lm).toArray 156)] 20 ?_;refine wd [0,1,2,3,4,5,6,7,8,9,10,11,12,13,14] ?_;refine h_ 15 rfl i6 ?_;refine c_ (C:=[]) (AY b p.1 p.2 (x.o.a5L.getD j 0) lm.t.mod (by have:=T.vw.len;omega)) ?pre ?_;(case pre=>exact fun h Q ⟨bs,hb⟩=>A3.rd hb ud);rintro v A ⟨a5,c5,rfl,rfl⟩;refine gj [16,17,18,19] ?_;exact y5 ((),ck b (x.o.a5L.getD j 0) lm.t.mod,(a5,c5),l2,oo,F2) ⟨M.trans h8,{h0 with vw:=h0.vw.told _ _},h4⟩ rfl (fun w n=>C5 (A:=[_,_,_,_]) (J:=[_,_]) tk n)
   rintro _ v2 p2 l2 D F2 ⟨u0,h0,h4⟩;refine y9 ?_;exact O_ (i:=(j,b,p,l,o,S)) (j+1,v2,p2,l2,D,F2) ⟨U,u0,h0,h4⟩ qg sub rfl i_
  ·refine u7 ?_;exact y5 ((),b,p,l,o,S) ⟨M,T,by simp only;omega⟩ rfl i_
 rintro _ b p l o S ⟨M,T,w0⟩;have f:cM x S.heap:=Mn.le M.heap q2;have h7:∀(r:RR),((∃c,r={x.r with code:=c})\/r=IA x.c.tag)->wZ g x d y (qf x s []) S.heap (.tuple #[]) (C2 g {x with r:=r,z:=L0}::l5 p.1 b.a5I p.2::O4 x.b {s with a5J:=b} {sl with ra:=p.1,rc:=p.2} d (C1 y l o.1 o.2)):=fun r hr=>
  ⟨rfl,r,{s with a5J:=b},{sl with ra:=p.1,rc:=p.2},l,o.1,o.2,⟨by rw[zr];exact w0,⟨b,rfl,T.vw⟩,hr,fun q O=>by obtain⟨m,hm,rfl⟩:=jx.1 O;exact T.tol m hm⟩,T.rd,⟨(Mn.le M.heap q4).a5L,(Mn.le M.heap q4).cmd⟩,rfl⟩
 refine u7 ?_;refine H9 6 ?_;refine n7 (ι:=Unit) (fun _=>True) (fun _=>[(0,l9 g)]) (fun _=>C2 g x::l5 p.1 b.a5I p.2::E7 x.b {s with a5J:=b} {sl with ra:=p.1,rc:=p.2} d (C1 y l o.1 o.2)::r8 o.1 (y.rl++l) o.2::R) ?_ ?_
 ·refine n8 ?_;refine o9 (ι:=Nat) (fun i=>i<=x.us.length) (fun i=>[(0,l9 g),(121,.slice x.ua x.us.length x.uc),(122,.int .i64 (x.us.length:Nat)),(123,.int .i64 (i:Nat))]) (fun _=>C2 g x::l5 p.1 b.a5I p.2::E7 x.b {s with a5J:=b} {sl with ra:=p.1,rc:=p.2} d (C1 y l o.1 o.2)::r8 o.1 (y.rl++l) o.2::R) (fun i=>x.us.length-i) 0 (zw _) sub i_ ?_;intro j hj;refine R6 ?_ ?_<;>intro h
  ·have U:j<x.us.length:=(by have:=qr h;omega);have k8:=Y6 f.us U;refine H9 0 ?_;refine n7 (ι:=Unit) (fun _=>True) (fun _=>[(0,l9 g),(121,.slice x.ua x.us.length x.uc),(122,.int .i64 (x.us.length:Nat)),(123,.int .i64 (j:Nat))]) (fun _=>C2 g x::l5 p.1 b.a5I p.2::E7 x.b {s with a5J:=b} {sl with ra:=p.1,rc:=p.2} d (C1 y l o.1 o.2)::r8 o.1 (y.rl++l) o.2::R) ?_ ?_
   ·refine n8 ?_;refine C6 ?_;refine f_ (m8 rfl k8 rfl qb) ?_;refine r_ (i8 rfl (fun w n=>uf n f.us (i:=j) x6 U)) ?_;refine p_ ?_;refine H9 0 ?_;refine n7 (ι:=Bool) (fun _=>True) (fun q=>[(0,l9 g),(121,.slice x.ua x.us.length x.uc),(122,.int .i64 (x.us.length:Nat)),(123,.int .i64 (j:Nat)),(144,.bool q)]) (fun _=>C2 g x::l5 p.1 b.a5I p.2::E7 x.b {s with a5J:=b} {sl with ra:=p.1,rc:=p.2} d (C1 y l o.1 o.2)::r8 o.1 (y.rl++l) o.2::R) ?_ ?_
    ·obtain⟨q3,w1⟩:=o7 (decide (x.us.getD j 0∈x.o.a5L));have q1:=BQ x.o.a5L x.y.ua x.y.uc (x.us.getD j 0) qb;rw[<-w1] at q1
     cases q3
     ·refine cG ?_;refine e_ rfl q1 (fun h Q _=>f.o.a5L.le Q) rfl ?_;refine wk 8 ?_;(first|refine u_ ?_|(refine v_ ?_;refine e_ rfl (BQ x.o.mods x.y.ma x.y.mc (x.us.getD j 0) qb) (fun h Q _=>f.o.mods.le Q) rfl ?_));refine y9 ?_;exact g_ _ trivial i_
     ·refine cG ?_;refine e_ rfl q1 (fun h Q _=>f.o.a5L.le Q) rfl ?_;refine wk 8 ?_;(first|refine u_ ?_|(refine v_ ?_;fail));refine y9 ?_;exact g_ _ trivial i_
    intro a0 _;refine N8 ?_ ?_<;>intro h
    ·refine p_ ?_;refine c_ (ep g x Iz [115,111,109,101,32,97,114,101,32,103,111,110,101]) qw ?_;rintro v A ⟨rfl,rfl⟩;refine ov ?_;refine H3 (v:=.tuple #[]) M (h7 (IA x.c.tag) (.inr rfl)) ?_;exact m6 rfl _ qh i_
    ·refine u7 ?_;exact g_ () trivial i_
   intro _ _;refine y9 ?_;exact l8 (j+1) U qb sub i_
  ·refine u7 ?_;exact g_ () trivial i_
 intro _ _;have u1:x={x with r:={x.r with code:=x.r.code},z:=L0}:=by
  obtain⟨xb,xc,xk,xm,xo,xy,b4,b5,b6,b7,b8,b9,c0,xr,xz⟩:=x;obtain rfl:xz=L0:=hz;rfl
 refine u7 ?_;refine D8 [3,7,12,17] [18,19] [C2 g x,E7 x.b {s with a5J:=b} {sl with ra:=p.1,rc:=p.2} d (C1 y l o.1 o.2)] 25 ?_;refine wd [0,1,2,3,4,5,6,7,8,9,10,11,12,13,14,15,16,17] ?_;refine h_ 18 rfl i6 ?_;refine c_ (C:=[]) (Bo b p.1 p.2 x.o.mods x.y.ma x.y.mc x.c.uid (by have:=T.vw.len;omega) qb u2.2) ?pre ?_;(case pre=>exact fun h Q ⟨bs,hb⟩=>⟨A3.rd hb ud,f.o.mods.le Q⟩);rintro v A ⟨a7,l7,c7,rfl,rfl,c1,k0⟩;refine xB ?_;refine h_ 19 rfl i6 ?_;refine c_ (C:=[]) (xd l7 a7 c7 qb (fun r hr=>⟨(k0 r hr).1.2,(k0 r hr).2.2⟩)) ?pre2 ?_;(case pre2=>exact fun h Q ⟨bs,hb⟩=>⟨f.g.le Q,A3.rd hb ud⟩);rintro v A ⟨⟨w7,c2,rfl,w2⟩,rfl⟩;refine E6 [20,21,22,23,24] ?_;refine R6 ?_ ?_<;>intro h
 ·have c3:w7.length<=10000:=by
   obtain⟨_,c4,w3⟩:=w2 h;rw[w3];have h9:=qi 41 (l7.map aD) (fun q O=>by obtain⟨r,hr,rfl⟩:=jx.1 O;exact BP r (k0 r hr).1.2 (k0 r hr).2.2);rw[zr] at h9;omega
  refine y9 ?_;refine f_ (G9 (l:=Ty) (l':=w7) rfl rfl (by show 9+w7.length<=_;omega)) ?_;refine O2 ?_;refine H3 (v:=.tuple #[]) M (h7 {x.r with code:=Ty++w7} (.inl ⟨_,rfl⟩)) ?_;exact m6 rfl _ qh (fun w n=>by
   have h9:=C5 (A:=[.blk g _,l5 p.1 b.a5I p.2,E7 x.b {s with a5J:=b} {sl with ra:=p.1,rc:=p.2} d (C1 y l o.1 o.2),r8 o.1 (y.rl++l) o.2]) (J:=[_]) tk n;rw[u1] at h9;exact h9)
 ·refine u7 ?_;refine H3 (v:=.tuple #[]) M (h7 {x.r with code:=x.r.code} (.inl ⟨_,rfl⟩)) ?_;rw[<-u1];exact m6 rfl _ qh (fun w n=>C5 (A:=[_,_,_,_]) (J:=[_]) tk n)
abbrev uE:RR:={R0 with kind:=10,a5U:=R5}
abbrev zN(fa:Option Addr)(fc:Nat):RM:=(uE,⟨none,0,fa,fc,none,0,[]⟩)
abbrev kF(n:Nat):RR:={R0 with kind:=8,n:=n}
abbrev IC(w:Bs)(n:Nat):RR:={R0 with kind:=1,tag:=[42],code:=w++R1 n,text:=[100,111,110,101]}
abbrev aG(k:Nat):Bs:=if k=9 then[82,69,65,68,45,79,78,76,89] else[82,69,65,68,45,87,82,73,84,69]
abbrev xe:Bs:=[85,73,68,86,65,76,73,68,73,84,89,32]
abbrev mv:Bs:=[85,73,68,78,69,88,84,32]
abbrev mw:Bs:=[72,73,71,72,69,83,84,77,79,68,83,69,81,32]
abbrev my(b:BX)(fa:Option Addr)(fc:Nat):List RM:=[zN fa fc,(kF b.lts.length,L0),(IC xe b.val,L0),(IC mv b.next,L0),(IC mw b.high,L0)]
abbrev Tz(p:Bs×Nat):List Value:=[B p.1,.int .u64 (p.2:Nat)]
theorem BS:∀x,(Tz x).length=2:=fun _=>rfl
theorem kG:∀(k n:Nat),n<10^(k+1)->(R1 n).length<=k+1
 |0,n,h=>by rw[bK (by simpa using h)];simp
 |k+1,n,h=>by
  by_cases h1:n<10
  ·rw[bK h1];simp
  ·have:=kG k (n/10) (Nat.div_lt_of_lt_mul (by rw[W8] at h;omega));rw[gf qb,zz];simp only[zy,zn];omega
def Ou(g:Nat)(x:AN)(s:SE)(sl:SL)(d:DD)(y:DL)(h:l_)(v:Value)(A:List As):Prop:=v=.tuple #[]/\
 (al x.m.s x.c.box=none/\(∃a c,A=C2 g {x with r:=qe x.c.tag,z:=L0}::l5 sl.ra s.a5J.a5I sl.rc::O4 x.b s sl d (C1 y [] a c))
 \/∃b ra rc fa fc a c,al x.m.s x.c.box=some b/\A=C2 g {x with r:={x.r with code:=aG x.c.kind}}::l5 ra (P4 b).a5I rc::(O4 x.b {s with a5J:=P4 b,a5K:=2,ro:=decide (x.c.kind=9)} {sl with ra:=ra,rc:=rc} d (C1 y (my b fa fc) a c)++[A4 fa R5 fc]))
theorem sK(g:Nat)(x:AN)(s:SE)(sl:SL)(d:DD)(y:DL)(hx:rm x)(hz:x.z=L0)(hm:V_ x.m.s)(hl:y.rl.length<=100000):
  Cm prog 232 [l9 g] (fun h=>cM x h) (C2 g x::l5 sl.ra s.a5J.a5I sl.rc::O4 x.b s sl d y) (Ou g x s sl d y):=by
 refine y4 120 func232 rfl rfl rfl ?_;rintro F R h6;obtain⟨e,he⟩:=o7 (al x.m.s x.c.box);have D:=uD x.m x.c.box hm;rw[<-he] at D;refine H9 0 ?_;refine S6 (fun(b:BM) (Q:Nat) (_:Unit) (V:l6)=>F.le V/\b.x=e.getD Pd/\fH b V.heap) (fun b Q _ _=>[(0,l9 g),(2,l9 Q),(3,.bool e.isSome)]) (fun _ _ _ V=>V) (fun b Q _ _=>wY Q b::C2 g x::l5 sl.ra s.a5J.a5I sl.rc::E7 x.b s sl d y::r8 y.da y.rl y.dc::R) ?_ ?_
 ·refine u7 ?_;refine D8 [3,8] [9,13,14] [C2 g x] 16 ?_;refine wd [0,1,2,3,4,5,6,7,8] ?_;refine bv 9 13 rfl rfl i6 ?_ ?_;refine R7 D h6.m ?_;rintro v A Z Fz hz ⟨b,rfl,f,rfl,X⟩;refine E6 [10,11,12] ?_;refine h_ 13 rfl i6 ?_;refine i7 rfl ?_;intro Q;refine E6 [14,15] ?_
  rotate_left 1
  refine i7 rfl ?_;intro Q;refine ah ?_;refine h_ 9 rfl i6 ?_;refine R7 D h6.m ?_;rintro v A Z Fz hz ⟨b,rfl,f,rfl,X⟩;refine E6 [10,11,12,14,15] ?_
  rotate_left 1
  all_goals (refine u7 ?_)
  all_goals exact ew (Rr:=wY Q b::C2 g x::l5 sl.ra s.a5J.a5I sl.rc::E7 x.b s sl d y::r8 y.da y.rl y.dc::R) Fz hz i_ fun V S q5=>y5 (b,Q,(),V) ⟨S,f,Mn.le q5 X⟩ rfl i_
 rintro b Q _ V ⟨S,f,X⟩;have q1:cM x V.heap:=Mn.le S.heap h6
 cases e with
 |none=>
  refine E5 ?_;refine c_ (ep g x [78,79,78,69,88,73,83,84,69,78,84] [116,104,101,114,101,32,105,115,32,110,111,110,101]) qw ?_;rintro v A ⟨rfl,rfl⟩;refine ov ?_;refine H3 (A:=C2 g {x with r:=qe x.c.tag,z:=L0}::l5 sl.ra s.a5J.a5I sl.rc::O4 x.b s sl d (C1 y [] y.da y.dc)) (v:=.tuple #[]) S ⟨rfl,.inl ⟨he.symm,_,_,rfl⟩⟩ ?_;exact m6 rfl _ qh (fun w M=>by simp only[C1,z7];exact C5 (A:=[_,_,_,_]) (J:=[_]) tk M)
 |some bx0=>
  have f:b.x=bx0:=f;have Y:=hm.box _ (bU he.symm);have z0:b.ls.length<=32:=by
   have h1:=Y.lts;rw[<-f] at h1;simpa using h1
  refine y9 ?_;obtain⟨q9,h9⟩:=o7 (decide (x.c.kind=9));refine u7 ?_;refine D8 [3,7,11,12,18] [13,23,27,31] [C2 g x,wY Q b] 32 ?_;refine wd [0,1,2,3,4,5,6,7,8,9,10,11,12,14,15,16,17,18] ?_;refine w_ 19 rfl ((p8 rfl rfl).eq (v':=.bool q9) (qn ((qz).trans h9.symm))) ?_;refine h_ 13 rfl i6 ?_;refine c_ (C:=[]) (LC b qb) (fun h hh _=>X.ls.le hh) ?_;rintro v A ⟨l,m,rfl,rfl⟩;refine gj [20,21,22,23,24,25,26,27,28,29,30,31] ?_;obtain⟨s1,h7⟩:∃s1:SE,s1={s with a5J:=P4 b.x,a5K:=2,ro:=q9}:=⟨_,rfl⟩;obtain⟨O,h4⟩:∃x:SL,x={sl with ra:=l,rc:=m}:=⟨_,rfl⟩;refine D5 (H':=E7 x.b s1 O d y::r8 y.da y.rl y.dc::wY Q b::C2 g x::l5 l (P4 b.x).a5I m::R) (fun w M=>by rw[h7,h4];exact C5 (A:=[_,_,_,_,l5 l (P4 b.x).a5I m]) (J:=[l5 sl.ra s.a5J.a5I sl.rc]) tk M) ?_;have U:=oY R5;rw[show V6 R5=(R5,0) from by decide] at U;refine C6 ?_;refine x7 rfl rfl rfl rfl rfl rfl (xs:=fV R5) rfl rfl ?_;intro q6 _;refine c_ (U q6 5 qp qp) ?pre ?_;(case pre=>exact fun h hh ⟨bs,hb⟩=>A3.rd hb ud);rintro v A ⟨n,o,rfl,rfl⟩;refine wk 10 ?_;refine f_ (y8 (ps:=[(0,.const (.int .i64 10)),(7,.tmp 63)]) (vs:=[(0,.int .i64 10),(7,.slice n R5.length o)]) (cells:=(tp uE ⟨none,0,n,o,none,0,[]⟩).toArray) rfl i6) ?_;refine c_ (V2 x.b s1 O d y uE ⟨none,0,n,o,none,0,[]⟩ qb) qw ?_;rintro v A ⟨rfl,a1,c1,rfl⟩;refine u7 ?_;obtain⟨y1,h8⟩:=o7 (E9 y (zN n o) a1 c1);rw[<-h8];have x2:y1.rl.length<=100001:=by rw[h8];simp only[zz,zy,zn];omega
  refine u7 ?_;refine D8 [3,5] [9] [C2 g x,wY Q b] 10 ?_;refine wd [0,1,2,3,4,5,6] ?_;refine w_ 7 rfl ((z_ rfl qb).eq (v':=.int .u64 (b.ls.length:Nat)) rfl) ?_;refine w_ 8 rfl (y8 (ps:=[(0,.const (.int .i64 8)),(4,.tmp 73)]) (vs:=[(0,.int .i64 8),(4,.int .u64 (b.ls.length:Nat))]) (cells:=(tp (kF b.ls.length) L0).toArray) rfl i6) ?_;refine h_ 9 rfl i6 ?_;refine c_ (V2 x.b s1 O d y1 (kF b.ls.length) L0 qb) qw ?_;rintro v A ⟨rfl,a2,c2,rfl⟩;refine E6 [] ?_;obtain⟨y2,k0⟩:=o7 (E9 y1 (kF b.ls.length,L0) a2 c2);rw[<-k0];have x3:y2.rl.length<=100002:=by rw[k0];simp only[zz,zy,zn];omega
  obtain⟨q,h0⟩:∃q:List (Bs×Nat),q=[(xe,b.val),(mv,b.next),(mw,b.high)]:=⟨_,rfl⟩;have x9:q.length=3:=by rw[h0];rfl
  have q7:∀p∈q,p.2<18446744073709551616/\p.1.length<=20:=fun p hp=>by
   have h1:b.val<=4294967296:=(by have:=Y.val;rwa [<-f] at this);have h2:b.next<=4294967296:=(by have:=Y.next;rwa [<-f] at this);have h3:b.high<=D9:=(by have:=Y.high;rwa [<-f] at this);rw[h0] at hp;simp at hp;rcases hp with rfl|rfl|rfl
   ·exact⟨by simp only;omega,by show xe.length<=20;decide⟩
   ·exact⟨by simp only;omega,by show mv.length<=20;decide⟩
   ·exact⟨Ws h3 qp,by show mw.length<=20;decide⟩
  refine y9 ?_;refine f_ (y8 (ps:=[(0,.const (B xe)),(1,.tmp 77)]) (vs:=[(0,B xe),(1,.int .u64 (b.val:Nat))]) (cells:=#[B xe,.int .u64 (b.val:Nat)]) rfl i6) ?_;refine y9 ?_;refine f_ (y8 (ps:=[(0,.const (B mv)),(1,.tmp 80)]) (vs:=[(0,B mv),(1,.int .u64 (b.next:Nat))]) (cells:=#[B mv,.int .u64 (b.next:Nat)]) rfl i6) ?_;refine y9 ?_;refine f_ (y8 (ps:=[(0,.const (B mw)),(1,.tmp 83)]) (vs:=[(0,B mw),(1,.int .u64 (b.high:Nat))]) (cells:=#[B mw,.int .u64 (b.high:Nat)]) rfl i6) ?_;refine x7 rfl rfl rfl rfl rfl rfl (xs:=[(xe,b.val),(mv,b.next),(mw,b.high)].flatMap Tz) rfl rfl ?_;intro k8 q2;rw[<-h0];refine H9 2 ?_;have q8:∃ad,k8=some ad:=q2;refine n7 (ι:=DL) (fun u=>∃a c,u=C1 y2 (q.map fun p=>(IC p.1 p.2,L0)) a c) (fun _=>[(0,l9 g),(2,l9 Q)]) (fun u=>E7 x.b s1 O d u::r8 u.da u.rl u.dc::C2 g x::A4 n R5 o::l5 l (P4 b.x).a5I m::R) ?_ ?_
  ·refine n8 ?_;refine o9 (ι:=Nat×DL) (fun i=>i.1<=3/\∃a c,i.2=C1 y2 ((q.take i.1).map fun p=>(IC p.1 p.2,L0)) a c) (fun i=>[(0,l9 g),(2,l9 Q),(85,.slice k8 3 3),(86,.int .i64 3),(87,.int .i64 (i.1:Nat))]) (fun i=>E7 x.b s1 O d i.2::r8 i.2.da i.2.rl i.2.dc::.own (.slice k8 3 3) 327 2 (q.flatMap Tz)::C2 g x::A4 n R5 o::l5 l (P4 b.x).a5I m::R) (fun i=>3-i.1) (0,y2) ⟨zw _,y2.da,y2.dc,by simp[C1]⟩ sub (fun w M=>C5 (A:=[_,_,_,C2 g x,A4 n R5 o,l5 l (P4 b.x).a5I m]) (J:=[_,_]) tk M) ?_;rintro⟨j,u⟩ ⟨hj,a3,c3,T⟩;simp only at hj T;refine R6 ?_ ?_<;>intro h
   ·have k9:j<q.length:=(by have:=qr h;omega);have q3:=q7 _ (zx k9);have z2:=kG 19 q[j].2 (by have:=q3.1;omega);have y0:u.rl.length<=100010:=(by rw[T];simp only[zz,zr,zm];omega);refine C6 ?_;refine f_ (m8 rfl q8 rfl qb) ?_;refine r_ (w8 rfl (fun w M=>fe (C:=Tz) (M.ownN (t:=327) ud).2.2.1 BS qp k9 x6) (BS _)) ?_;refine i7 rfl ?_;intro g7;refine p_ ?_;refine D8 [3,5,7] [8,11] [C2 g x,.blk g7 (.cells (Tz q[j]).toArray 327)] 12 ?_;refine wd [0,1,2,3,4,5,6,7] ?_;refine h_ 8 rfl i6 ?_;refine e_ rfl (aF q[j].2 q3.1) (fun h hh _=>q1.g.le hh) rfl ?_;refine gj [9] ?_;refine w_ 10 rfl (y8 (ps:=[(0,.const (.int .i64 1)),(1,.const (B [42])),(2,.tmp 100),(3,.const (B [100,111,110,101]))]) (vs:=[(0,.int .i64 1),(1,B [42]),(2,B (q[j].1++R1 q[j].2)),(3,B [100,111,110,101])]) (cells:=(tp (IC q[j].1 q[j].2) L0).toArray) rfl i6) ?_;refine h_ 11 rfl i6 ?_;refine c_ (V2 x.b s1 O d u (IC q[j].1 q[j].2) L0 qb) qw ?_;rintro v A ⟨rfl,a4,c4,rfl⟩;refine E6 [] ?_;refine y9 ?_;exact l8 (i:=(j,u)) (j+1,E9 u (IC q[j].1 q[j].2,L0) a4 c4) ⟨by simp only;omega,a4,c4,by rw[T,kj k9,jn];simp only[E9,C1,zh];rfl⟩ qg sub (fun w M=>C5 (A:=[_,_,_,C2 g x,A4 n R5 o,l5 l (P4 b.x).a5I m]) (J:=[_]) tk M)
   ·have x0:j=3:=(by have:=zq h;omega);refine u7 ?_;exact g_ u ⟨a3,c3,by rw[T,x0,jq qb]⟩ (fun w M=>C5 (A:=[_,_,C2 g x,A4 n R5 o,l5 l (P4 b.x).a5I m]) (J:=[_]) tk M)
  rintro u ⟨a3,c3,T⟩;have x1:u=C1 y (my bx0 n o) a3 c3:=by
   rw[T,k0,h8,h0,<-f];simp[C1,E9,my]
  have q4:s1.ro=decide (x.c.kind=9):=by rw[h7];exact h9
  have h5:∀(k:Bs),k=aG x.c.kind->∀w,Hp V w (E7 x.b s1 O d u::r8 u.da u.rl u.dc::C2 g {x with r:={x.r with code:=k}}::A4 n R5 o::l5 l (P4 b.x).a5I m::R)->Hp V w ((C2 g {x with r:={x.r with code:=aG x.c.kind}}::l5 l (P4 bx0).a5I m::(O4 x.b {s with a5J:=P4 bx0,a5K:=2,ro:=decide (x.c.kind=9)} {sl with ra:=l,rc:=m} d (C1 y (my bx0 n o) a3 c3)++[A4 n R5 o]))++R):=fun k hc w M=>by
   rw[hc,h7,h4,x1,f] at M;rw[h9] at M;exact C5 (A:=[_,_,_,_,A4 n R5 o]) (J:=[]) tk M
  refine wk 13 ?_;refine o8 rfl ?_ ?_<;>intro h
  ·have q0:x.c.kind=9:=(by rw[q4] at h;exact qr h);refine au ?_;refine H3 (A:=C2 g {x with r:={x.r with code:=aG x.c.kind}}::l5 l (P4 bx0).a5I m::(O4 x.b {s with a5J:=P4 bx0,a5K:=2,ro:=decide (x.c.kind=9)} {sl with ra:=l,rc:=m} d (C1 y (my bx0 n o) a3 c3)++[A4 n R5 o])) (v:=.tuple #[]) S ⟨rfl,.inr ⟨bx0,l,m,n,o,a3,c3,he.symm,rfl⟩⟩ ?_;exact m6 rfl _ qh (h5 _ (by unfold aG;rw[zu q0]))
  ·have q0:¬x.c.kind=9:=(by rw[q4] at h;exact zq h);refine u7 ?_;refine H3 (A:=C2 g {x with r:={x.r with code:=aG x.c.kind}}::l5 l (P4 bx0).a5I m::(O4 x.b {s with a5J:=P4 bx0,a5K:=2,ro:=decide (x.c.kind=9)} {sl with ra:=l,rc:=m} d (C1 y (my bx0 n o) a3 c3)++[A4 n R5 o])) (v:=.tuple #[]) S ⟨rfl,.inr ⟨bx0,l,m,n,o,a3,c3,he.symm,rfl⟩⟩ ?_;exact m6 rfl _ qh (h5 _ (by unfold aG;rw[zk q0]))
