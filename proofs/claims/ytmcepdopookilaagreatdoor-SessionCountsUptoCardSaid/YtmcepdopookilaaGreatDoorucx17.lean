import Derived.Test.YtmcepdopookilaaGreatDoorucx16
set_option maxHeartbeats 16000000
set_option maxRecDepth 8000
set_option linter.unusedVariables false
set_option linter.unusedSimpArgs false
set_option linter.defProp false
namespace Go.Proofs.YtmcepdopookilaaGreatDoor.Rp
open Go Go.Sl Go.RowKit Go.Proofs.Tryz
theorem MY{l:List BM}{i:Nat}(a:i<l.length)(b:BM):(V_ (l.set i b)).Perm (N_ b.a b.ls b.c::V_ (l.eraseIdx i)):=by
 have h:=L1 (l:=l.set i b) (i:=i) (by simpa using a);rw[Q9,List.eraseIdx_set_eq] at h;exact h
theorem Fc{α:Type}{C:α->List Value}{sz:Nat}{h:l9}{a:Option Addr}{l:List α}{q i j:Nat}{v:Value}(r:o0 h a (l.flatMap C))(b:∀x,(C x).length=sz)(x:α)(c:l[i]? =some x)(hv:(C x)[j]? =some v)(hq:q=i*sz+j):L_ h (N1 a q) [v]:=by
 obtain⟨d,rfl⟩:=Qw.1 c;exact dO r b d hv hq
theorem aQ(m:MM)(i:Nat)(b:BM):(m.a5C.set i b).map BM.x=(m.a5C.map BM.x).set i b.x:=Ku
theorem Tj{F:l6}{w:World}{x y z:As}{T:List As}(h:Hp F w (x::y::z::T)):Hp F w (x::T):=(h.perm (kj (l₁:=[x]) (l₂:=[y,z])|>.append_right T)).drop.drop
theorem uD(b:Nat)(m:MM)(r:RQ)(q:QL)(o:OC)(y:OL)(i:Nat)(B:BM):R9 b {m with a5C:=m.a5C.set i B} r q o y=R9 b m r q o y:=by
 unfold R9 Oe iD;simp only[js]
theorem nG(m:MM)(i:Nat)(B:BM):S_ m.ba (m.a5C.set i B) m.bc=.own (.slice m.ba m.a5C.length m.bc) 100 5 (fb (m.a5C.set i B)):=by
 unfold S_;rw[js]
theorem uE{F:l6}{w:World}{k x y z:As}{l:List BM}{i:Nat}{R:List As}{a:Option Addr}{ls:List LM}{c:Nat}(B:BM)(d:i<l.length)(ha:B.a=a)(b:B.ls=ls)(hc:B.c=c)(h:Hp F w (k::x::y::z::N_ a ls c::(V_ (l.eraseIdx i)++R))):Hp F w (k::x::y::z::(V_ (l.set i B)++R)):=by
 subst ha b hc;have e:Hp F w ([k,x,y,z]++((N_ B.a B.ls B.c::V_ (l.eraseIdx i))++R)):=h;exact e.perm (((MY d B).symm.append_right R).append_left [k,x,y,z])
theorem Ep(b:Nat)(m:MM)(r:RQ)(q:QL)(hm:m.a5C.length<=1000)(x9:∀x∈m.a5C,x.ls.length<=1000/\x.next<=4294967296/\x.high<=D_)(z1:r.a5R.length<=100000)(y0:∀f∈r.a5R,f.length<=ln):HL 61 b m r q (cW m.s r):=by
 refine x8 130 func61 rfl rfl rfl ?_;rintro F R ⟨u,k0⟩;refine p_ ?_;refine n7 (ι:=Nat) (fun _=>True) (fun z=>[(0,m6 b),(3,.int .i64 (D1 (fun b=>decide (b.name=r.box)) m.a5C)),(4,m6 z)]) (fun z=>.blk z (.cells (eB r q).toArray 44)::R9 b m r q B9 M8::(uS m++R)) ?_ ?_
 ·skip
  refine u7 ?_;refine D9 [3,8,13] [9,14,16] [R9 b m r q B9 M8] 17 ?_;refine wd [0,1,2,3,4,5,6,7,8,10,11,12,13] ?_;refine bv 9 14 rfl rfl i6 ?_ ?_;refine e_ rfl (oM m r.box hm) (fun h hh ⟨bs,hb⟩=>A2.rd hb ud) rfl ?_;refine ae ?_;refine h_ 14 rfl i6 ?_;refine i7 rfl ?_;intro z;refine gn [15,16] ?_
  rotate_left 1
  refine i7 rfl ?_;intro z;refine ae ?_;refine h_ 9 rfl i6 ?_;refine e_ rfl (oM m r.box hm) (fun h hh ⟨bs,hb⟩=>A2.rd hb ud) rfl ?_;refine gn [15,16] ?_
  rotate_left 1
  all_goals (refine u7 ?_)
  all_goals exact g_ z trivial i_
 rintro z _;refine bd ?_ ?_<;>intro h
 ·have es:cW m.s r=(m.s,B9,6):=by unfold cW;rw[gG (qr h)]
  rw[es];refine C8 ?_;exact C9 m B9 M8 rfl rfl (l6.le_refl _) (fun w d=>d.drop) rfl qx u (L9.zero _)
 obtain⟨i,hi,e,ha⟩:=gH (zq h);rw[hi];have k8:cW m.s r=if G0 r.a5R=false\/r.hash.length≠32\/4096<r.size then(m.s,B9,1) else if r.a5O≠m.a5O then(m.s,B9,15) else if 32<=m.a5C[i].ls.length then(m.s,B9,7) else if eL<m.a5C[i].next\/D_<=m.a5C[i].high then(m.s,B9,13)
   else(jE m.s i {m.a5C[i].x with high:=m.a5C[i].high+1,next:=m.a5C[i].next+1,lts:=m.a5C[i].x.lts++[⟨m.a5C[i].next,r.a5R,m.a5C[i].high+1,r.hash,r.size⟩]},{B9 with val:=m.a5C[i].val,a5I:=[m.a5C[i].next]},0):=by
  unfold cW;rw[ha];simp only[eS e,BM.x,zm]
 rw[k8];clear k8;obtain⟨z2,u0,u1⟩:=x9 _ (zx e);refine B4 (a:=m.ba) (n:=m.a5C.length) (c:=m.bc) (sz:=5) (xs:=fb m.a5C) (te:=100) ud fun _ _ J=>?_;have J:=J qb;refine wk 8 ?_;obtain⟨q1,h1⟩:=o7 (G0 r.a5R);obtain⟨q2,h2⟩:=o7 (decide (r.hash.length=32));obtain⟨q3,h3⟩:=o7 (decide (4096<r.size));refine x6 [(0,m6 b),(4,m6 z),(5,dm m i),(29,.bool (!q1||(!q2||q3)))] (.blk z (.cells (eB r q).toArray 44)::R9 b m r q B9 M8::(uS m++R)) ?_ ?_
 ·cases q1<;>cases q2
  all_goals (
   refine y8 ?_;refine e_ rfl (gI r.a5R q.fa q.fc qb y0) (fun h hh _=>k0.a5R.le hh) rfl ?_;rw[<-h1];refine aH ?_;(first|refine u_ ?_|(refine v_ ?_;refine f_ ((M9 rfl rfl).eq (jw (fun x=>Value.bool (!x)) ((qz).trans h2.symm))) ?_));refine O2 ?_;(first|refine u_ ?_|(refine v_ ?_;refine f_ ((D8 rfl rfl).eq (qn ((qz).trans h3.symm))) ?_));refine y8 ?_)
  all_goals exact p8 sub i_
 refine u7 ?_;have u2:q1=false->G0 r.a5R=false:=fun k=>h1▸k;refine o8 rfl ?_ ?_<;>intro Q
 ·have hc:G0 r.a5R=false\/r.hash.length≠32\/4096<r.size:=by
   rw[<-h1]
   revert Q
   cases q1
   ·exact fun _=>.inl rfl
   cases q2
   ·exact fun _=>.inr (.inl (zq h2.symm))
   cases q3
   ·intro T;simp at T
   ·exact fun _=>.inr (.inr (qr h3.symm))
  rw[zu hc];refine C8 ?_;exact C9 m B9 M8 rfl rfl (l6.le_refl _) (fun w d=>d.drop) rfl qx u (L9.zero _)
 have hc:¬(G0 r.a5R=false\/r.hash.length≠32\/4096<r.size):=by
  rw[<-h1];rintro(k|k|k)
  ·rw[k] at Q;simp at Q
  ·rw[h2,Qk k] at Q;cases q1<;>simp at Q
  ·rw[h3,jk k] at Q;cases q1<;>cases q2<;>simp at Q
 rw[zk hc];refine u7 ?_;obtain⟨q4,h4⟩:=o7 (decide (r.a5O=m.a5O));refine u7 ?_;refine D9 [1,6] [] [.blk z (.cells (eB r q).toArray 44),R9 b m r q B9 M8] 9 ?_;refine wd [0,1,2,3,4,5,6] ?_;refine w_ 7 rfl ((M9 rfl rfl).eq (v':=.bool (!q4)) (jw (fun x=>Value.bool (!x)) ((zh.2 Ju).trans h4.symm))) ?_;refine wd [8] ?_
 cases q4
 ·rw[zu (zq h4.symm)];refine C8 ?_;exact C9 m B9 M8 rfl rfl (l6.le_refl _) (fun w d=>d.drop) rfl qx u (L9.zero _)
 rw[zk (fun k=>k (qr h4.symm))];refine E4 ?_;refine r_ (i8 rfl (fun w d=>dO (j:=4) (d.ownN (t:=100) ud).2.2.1 p7 e rfl y4)) ?_;refine eJ ?_ ?_<;>intro T
 ·have k:32<=m.a5C[i].ls.length:=by have:=qr T;omega
  rw[zu k];refine C8 ?_;exact C9 m B9 M8 rfl rfl (l6.le_refl _) (fun w d=>d.drop) rfl qx u (L9.zero _)
 have y1:¬32<=m.a5C[i].ls.length:=by have:=zq T;omega
 rw[zk y1];obtain⟨q5,h7⟩:=o7 (decide (eL<m.a5C[i].next));obtain⟨q6,h8⟩:=o7 (decide (D_<=m.a5C[i].high));refine u7 ?_;refine x6 [(0,m6 b),(4,m6 z),(5,dm m i),(61,.bool (q5||q6))] (.blk z (.cells (eB r q).toArray 44)::R9 b m r q B9 M8::(uS m++R)) ?_ ?_
 ·cases q5
  all_goals (
   refine E4 ?_;refine r_ (i8 rfl (fun w d=>dO (j:=2) (d.ownN (t:=100) ud).2.2.1 p7 e rfl y4)) ?_;refine f_ ((D8 rfl rfl).eq (qn ((zh.2 (by show(4294967295:Int)<_↔4294967295<_;omega)).trans h7.symm))) ?_;refine O2 ?_;(first|refine u_ ?_|(refine v_ ?_;refine r_ (i8 rfl (fun w d=>dO (j:=3) (d.ownN (t:=100) ud).2.2.1 p7 e rfl y4)) ?_));(first|refine u_ ?_|(refine v_ ?_;refine f_ ((I3 rfl rfl).eq (qn ((zh.2 (by show(9223372036854775807:Int)<=_↔9223372036854775807<=_;omega)).trans h8.symm))) ?_));refine y8 ?_)
  all_goals exact p8 sub i_
 refine O1 ?_ ?_<;>intro h9
 ·have k:eL<m.a5C[i].next\/D_<=m.a5C[i].high:=by
   rw[Q7] at h9;rcases h9 with k|k
   ·exact .inl (qr (h7.symm.trans k))
   ·exact .inr (qr (h8.symm.trans k))
  rw[zu k];refine C8 ?_;exact C9 m B9 M8 rfl rfl (l6.le_refl _) (fun w d=>d.drop) rfl qx u (L9.zero _)
 rw[Q1] at h9;have kn:¬eL<m.a5C[i].next:=zq (h7.symm.trans h9.1);have kh:¬D_<=m.a5C[i].high:=zq (h8.symm.trans h9.2);rw[zk (fun k=>k.elim kn kh)];have u8:m.a5C[i].next<=4294967295:=Nat.not_lt.1 kn;have v0:m.a5C[i].high<9223372036854775807:=Wn.1 kh;refine D5 (H':=.blk z (.cells (eB r q).toArray 44)::R9 b m r q B9 M8::T0 m.sa m.a5E m.sc::P4 m.ha m.a5D m.hc::S_ m.ba m.a5C m.bc::N_ m.a5C[i].a m.a5C[i].ls m.a5C[i].c::(V_ (m.a5C.eraseIdx i)++R)) (fun w d=>d.perm (((L1 e).append_right R).append_left [_,_,_,_,_])) ?_;refine E4 ?_;refine r_ (i8 rfl (fun w d=>dO (j:=3) (d.ownN (t:=100) ud).2.2.1 p7 e rfl y4)) ?_;refine f_ ((K_ rfl rfl qb).eq (v':=.int .u64 ((m.a5C[i].high+1:Nat):Int)) (by congr 1)) ?_;refine y8 ?_;refine A9 (C:=cZ) {m.a5C[i] with high:=m.a5C[i].high+1} p7 e (j:=3) rfl ?_;refine u7 ?_;obtain⟨o,k9⟩:∃o,o={m.a5C[i] with high:=m.a5C[i].high+1}:=⟨_,rfl⟩;have q0:i<(m.a5C.set i o).length:=by simpa using e
 have q7:(m.a5C.set i o)[i]=o:=Q9 _;have S:o.a=m.a5C[i].a/\o.ls=m.a5C[i].ls/\o.c=m.a5C[i].c/\o.next=m.a5C[i].next/\o.high=m.a5C[i].high+1/\o.val=m.a5C[i].val/\o.name=m.a5C[i].name:=by subst k9;exact⟨rfl,rfl,rfl,rfl,rfl,rfl,rfl⟩
 have X:(m.a5C.set i o)[i]? =some o:=by rw[zj q0,q7]
 rw[<-k9];refine u7 ?_;refine D9 [4,8,10,15,17,19] [11,21,22,25] [.own (.slice m.ba m.a5C.length m.bc) 100 5 (fb (m.a5C.set i o)),.blk z (.cells (eB r q).toArray 44)] 26 ?_;refine wd [0,1,2,3] ?_;refine n8 4 rfl P5 (i8 (v:=.slice m.a5C[i].a m.a5C[i].ls.length m.a5C[i].c) rfl (fun w d=>Fc (j:=4) (d.ownN (t:=100) ud).2.2.1 p7 o X (by rw[<-S.1,<-S.2.1,<-S.2.2.1];rfl) y4)) I4 rfl rfl rfl i6 ?_;refine wd [5,6,7] ?_;refine n8 8 rfl P5 (i8 (v:=.int .u64 (m.a5C[i].next:Nat)) rfl (fun w d=>Fc (j:=2) (d.ownN (t:=100) ud).2.2.1 p7 o X (by rw[<-S.2.2.2.1];rfl) y4)) I4 rfl rfl rfl i6 ?_;refine wd [9,10,12,13,14] ?_;refine n8 15 rfl P5 (i8 (v:=.int .u64 ((m.a5C[i].high+1:Nat):Int)) rfl (fun w d=>Fc (j:=3) (d.ownN (t:=100) ud).2.2.1 p7 o X (by rw[<-S.2.2.2.2.1];rfl) y4)) I4 rfl rfl rfl i6 ?_;refine wd [16,17,18,19] ?_;refine h_ 11 rfl i6 ?_;refine c_ (Y4 r.a5R q.fa q.fc qb) (fun h hh _=>k0.a5R.le hh) ?_;rintro v A ⟨na,nc,rfl,rfl⟩;refine gn [20] ?_;refine h_ 21 rfl i6 ?_;refine C4 S9 ⟨⟨m.a5C[i].next,r.a5R,m.a5C[i].high+1,r.hash,r.size⟩,na,nc⟩ rfl ?_;intro OQ y2;refine ae ?_;refine h_ 22 rfl i6 ?_;refine u6 S9 (l:=m.a5C[i].ls) (m:=[⟨⟨m.a5C[i].next,r.a5R,m.a5C[i].high+1,r.hash,r.size⟩,na,nc⟩]) A_ nk (by show(m.a5C[i].ls.length+1)*64<=_;omega) ?_;intro p s _;obtain⟨U,Y⟩:∃U,U=m.a5C[i].ls++[⟨⟨m.a5C[i].next,r.a5R,m.a5C[i].high+1,r.hash,r.size⟩,na,nc⟩]:=⟨_,rfl⟩;rw[<-Y];refine E5 [23,24] ?_;refine h_ 25 rfl i6 ?_;refine A9 (C:=cZ) (v:=.slice p U.length s) {o with ls:=U,a:=p,c:=s} p7 q0 (j:=4) (by rw[q7];rfl) ?_;refine E5 [] ?_;rw[Jw];obtain⟨g,q8⟩:∃g:BM,g={o with ls:=U,a:=p,c:=s}:=⟨_,rfl⟩;rw[<-q8];have q9:i<(m.a5C.set i g).length:=by simpa using e
 have x0:(m.a5C.set i g)[i]=g:=Q9 _;have h0:(m.a5C.set i g)[i]? =some g:=by rw[zj q9,x0]
 have M:g.a=p/\g.ls=U/\g.c=s/\g.next=m.a5C[i].next/\g.high=m.a5C[i].high+1/\g.val=m.a5C[i].val/\g.name=m.a5C[i].name:=by subst q8;exact⟨rfl,rfl,rfl,S.2.2.2.1,S.2.2.2.2.1,S.2.2.2.2.2.1,S.2.2.2.2.2.2⟩
 refine B8 (Z:=[A4 na r.a5R nc]) tk fun F1 O ⟨bs,x1⟩=>?_;have y3:o0 F1.heap na (fV r.a5R):=A2.rd x1 ud;clear x1;refine n7 (ι:=Option Addr) (fun _=>True) (fun _=>[(0,m6 b),(5,dm m i)]) (fun ua=>.own (.slice ua 1 1) 27 1 (nV [m.a5C[i].next])::R9 b m r q {B9 with val:=m.a5C[i].val,a5I:=[m.a5C[i].next]} ⟨ua,1,none,0⟩::T0 m.sa m.a5E m.sc::P4 m.ha m.a5D m.hc::.own (.slice m.ba m.a5C.length m.bc) 100 5 (fb (m.a5C.set i g))::N_ p U s::(V_ (m.a5C.eraseIdx i)++R)) ?_ ?_
 ·skip
  refine u7 ?_;refine D9 [5,9] [10,14,18] [.own (.slice m.ba m.a5C.length m.bc) 100 5 (fb (m.a5C.set i g)),R9 b m r q B9 M8] 19 ?_;refine wd [0,1,2,3,4] ?_;refine n8 5 rfl P5 (i8 (v:=.int .u64 (m.a5C[i].val:Nat)) rfl (fun w d=>Fc (j:=1) (d.ownN (t:=100) ud).2.2.1 p7 g h0 (by rw[<-M.2.2.2.2.2.1];rfl) y4)) I4 rfl rfl rfl i6 ?_;refine wd [6,7,8] ?_;refine n8 9 rfl P5 (i8 (v:=.int .u64 (m.a5C[i].next:Nat)) rfl (fun w d=>Fc (j:=2) (d.ownN (t:=100) ud).2.2.1 p7 g h0 (by rw[<-M.2.2.2.1];rfl) y4)) I4 rfl rfl rfl i6 ?_;refine wd [11,12,13] ?_;refine bv 10 14 rfl rfl i6 ?_ ?_;refine x5 (ps:=[(0,.tmp 115)]) (vs:=[(0,.int .u64 (m.a5C[i].next:Nat))]) (xs:=nV [m.a5C[i].next]) rfl rfl rfl rfl rfl rfl rfl rfl ?_;intro V _;refine gn [14,15,16,17,18] ?_
  rotate_left 1
  (first|refine qV (pre:=[_,_,_,_,_,_,_,_,_,_,_,_,_,_,_,_,_,_,_,_,_,_,_,_,_]) (post:=[_,_]) rfl rfl uh (by rfl) (by rfl) (by rfl) ?_|refine T8 rfl rfl uh (by rfl) (by(intro q hq;simp[Value.cells] at hq;first|(subst hq;rfl)|(rcases hq with rfl|rfl|rfl|rfl|rfl|rfl|rfl|rfl<;>rfl)|(rcases hq with rfl|rfl|rfl|rfl|rfl|rfl|rfl|rfl|rfl|rfl|rfl|rfl|rfl|rfl|rfl|rfl|rfl|rfl|rfl|rfl<;>rfl))) (by rfl) ?_);refine xI ?_;refine h_ 10 rfl i6 ?_;refine x5 (ps:=[(0,.tmp 115)]) (vs:=[(0,.int .u64 (m.a5C[i].next:Nat))]) (xs:=nV [m.a5C[i].next]) rfl rfl rfl rfl rfl rfl rfl rfl ?_;intro V _;refine E5 [15,16,17,18] ?_
  rotate_left 1
  all_goals (refine u7 ?_)
  all_goals exact g_ V trivial (fun w d=>Tj d)
 rintro ua _;refine u7 ?_;refine B8 (Z:=[.own (.slice ua 1 1) 27 1 (nV [m.a5C[i].next])]) tk fun F2 D ⟨bs,x2⟩=>?_;have z0:o0 F2.heap ua (nV [m.a5C[i].next]):=A2.rd x2 ud;clear x2;refine E4 ?_;refine r_ (i8 (v:=.int .u64 (m.a5C[i].next:Nat)) rfl (fun w d=>Fc (j:=2) (d.ownN (t:=100) ud).2.2.1 p7 g h0 (by rw[<-M.2.2.2.1];rfl) y4)) ?_;refine f_ ((K_ rfl rfl qb).eq (v':=.int .u64 ((m.a5C[i].next+1:Nat):Int)) (by congr 1)) ?_;refine y8 ?_;refine A9 (C:=cZ) (v:=.int .u64 ((m.a5C[i].next+1:Nat):Int)) {g with next:=m.a5C[i].next+1} p7 q9 (j:=2) (by rw[x0];rfl) ?_;refine u7 ?_;rw[Jw];refine C8 ?_;refine C9 {m with a5C:=m.a5C.set i {g with next:=m.a5C[i].next+1}} {B9 with val:=m.a5C[i].val,a5I:=[m.a5C[i].next]} ⟨ua,1,none,0⟩ rfl rfl (O.trans D) (fun w d=>?_) ?_ (fun _=>rfl) (fun x hx=>?_) ⟨z0,o0.nil _ _⟩
 ·rw[uD];show Hp F2 w (_::T0 m.sa m.a5E m.sc::P4 m.ha m.a5D m.hc::S_ m.ba (m.a5C.set i {g with next:=m.a5C[i].next+1}) m.bc::(V_ (m.a5C.set i {g with next:=m.a5C[i].next+1})++R));rw[nG];exact uE {g with next:=m.a5C[i].next+1} e M.1 M.2.1 M.2.2.1 d
 ·show({m.s with a5C:=_}:ML)=_;unfold jE;rw[aQ];simp only[BM.x,M.2.1,M.2.2.2.2.1,M.2.2.2.2.2.1,M.2.2.2.2.2.2,Y,jm,Qu,Jk]
 ·rcases jp hx with Q|rfl
  ·exact Mn.le (O.trans D).heap (u x Q)
  ·intro y hy;have x3:y∈U:=M.2.1▸hy;rw[Y] at x3;rcases zc.1 x3 with T|T
   ·exact(u _ (zx e) y T).le (O.trans D).heap
   ·obtain rfl:=zg.1 T;exact y3.le D.heap
def fU(r:RQ)(most:Nat)(x:LM):Bool:=decide (jF∈x.t.a5R)&&(r.a5I.isEmpty||gR r.a5I most x.t.uid)
theorem MZ(r:RQ)(b:BM)(x:LM):jG r b.x x.t=fU r (Y6 b.ls) x:=by
 unfold jG fU X5;rw[pR]
abbrev BK(b g1 g5 g2 g3 most:Nat)(m:MM)(r:RQ)(q:QL)(o:OC)(y:OL)(l:List LM)(h:l9):Prop:=aK g1 (m6 b) 132 h/\aK g5 (iK g2 g3) 196 h/\vY b g2 g3 most m r q o y h/\iC l h
theorem BN(b g1 n p g3 c:Nat)(m:MM)(r:RQ)(q:QL)(o:OC)(y:OL)(z:r.a5I.length<=1000000)(l:List LM)(x:LM)(hx:x∈l)(hf:x.t.a5R.length<=1000000):Pu prog 120 [.agg (S9 x).toArray,m6 g1,m6 n] (BK b g1 n p g3 c m r q o y l) (.bool (fU r c x)):=by
 obtain⟨C,s⟩:=o7 (decide (jF∈x.t.a5R));obtain⟨D,u⟩:=o7 (r.a5I.isEmpty);unfold fU;rw[<-s,<-u];refine b_ 22 func120 rfl rfl rfl ?_;rintro F ⟨J,M,e,f⟩;obtain⟨g,i,j,k⟩:=e;refine C6 ?_;refine m9 rfl rfl ?_;intro g3;refine p_ ?_
 cases C<;>cases D
 all_goals (
  refine y8 ?_;refine e_ rfl (uy x.t.a5R x.a x.c jF qb) (fun h d _=>(f x hx).le d) rfl ?_;rw[<-s];refine wk 7 ?_;(first|refine u_ ?_|(refine v_ ?_;refine f_ ((o_ rfl rfl).eq (qn (show _=r.a5I.isEmpty from by cases r.a5I with|nil=>rfl|cons a t=>simp<;>omega)|>.trans (qn u.symm))) ?_));refine E4 ?_;(first|refine u_ ?_|(refine v_ ?_;refine z_ (ps:=[]) _ rfl rfl rfl (lr b p _ c m r q o y z x) i_ (fun h d _=>⟨d _ _ g,d _ _ i,d _ _ j,k.le d⟩) rfl ?_;rintro v A ⟨rfl,rfl⟩));refine E4 ?_)
 all_goals (refine A3 ?_;exact d_ rfl rfl [] qh (fun w O=>O.dropAll))
abbrev Tk(g1 g5:Nat):Value:=.func (.func 120) #[] #[m6 g1,m6 g5]
abbrev Oo(u:List Nat):OC:={B9 with a5I:=u}
theorem mR{α β:Type}(f:α->β)(q:α->Bool){l:List α}{j:Nat}(a:j<l.length):((l.take (j+1)).filter q).map f=((l.take j).filter q).map f++if q l[j] then[f l[j]] else[]:=by
 rw[J_ q a,jm];split<;>simp
theorem Na(b:Nat)(m:MM)(r:RQ)(q:QL)(u:List Nat)(ua:Option Addr)(uc n:Nat)(h:u.length=n):R9 b m r q (Oo u) ⟨ua,uc,none,0⟩=.blk b (.cells (iD m++eB r q++([.int .i64 0,.int .u64 ((0:Nat):Int),.int .u64 ((0:Nat):Int),.slice ua n uc,.slice none 0 0]:List Value)).toArray 136):=by subst h;rfl
theorem zt(b:Nat)(m:MM)(r:RQ)(q:QL)(hm:m.a5C.length<=1000)(q6:∀x∈m.a5C,x.ls.length<=1000/\x.high<=D_/\∀y∈x.ls,y.t.a5R.length<=1000000)(hu:r.a5I.length<=1000000):HL 63 b m r q (be m.s r):=by
 refine x8 74 func63 rfl rfl rfl ?_;rintro F R ⟨J,h6⟩;refine C6 ?_;refine L2 rfl rfl rfl ?_;intro U;refine p_ ?_
 cases hn:named m.s r with
 |none=>
  have es:be m.s r=(m.s,B9,6):=by unfold be;rw[hn]
  rw[es];refine p_ ?_;refine e_ rfl (ed b m r q B9 M8 hm) (fun h z g=>⟨I_ g,by obtain⟨bs,g⟩:=g;exact A2.rd g ud⟩) rfl ?_;rw[hn,show fS m none=.tuple #[.pointer none,.bool false] from rfl];refine NT ?_;exact C9 m B9 M8 rfl rfl (l6.le_refl _) (fun w l=>l.drop) rfl qx J (L9.zero _)
 |some i=>
  have f:=pQ hn;obtain⟨h7,x1,h8⟩:=q6 _ (zx f);refine p_ ?_;refine e_ rfl (ed b m r q B9 M8 hm) (fun h z g=>⟨I_ g,by obtain⟨bs,g⟩:=g;exact A2.rd g ud⟩) rfl ?_;rw[hn,show fS m (some i)=.tuple #[dm m i,.bool true] from rfl];refine wk 7 ?_;refine D5 (H':=.blk U (.cells #[m6 b] 132)::R9 b m r q B9 M8::T0 m.sa m.a5E m.sc::P4 m.ha m.a5D m.hc::S_ m.ba m.a5C m.bc::N_ m.a5C[i].a m.a5C[i].ls m.a5C[i].c::(V_ (m.a5C.eraseIdx i)++R)) (fun w l=>l.perm (((L1 f).append_right R).append_left [_,_,_,_,_])) ?_;refine y8 ?_;refine c_ (pS b m i f h7) ?pre ?_;(case pre=>exact fun h z ⟨bs,g⟩=>⟨A2.rd g ud,A2.rd g ud⟩);rintro v A ⟨Y,g3,rfl,rfl⟩;refine p_ ?_;intro g5;refine p_ ?_;refine B8 (Z:=[.blk g5 (.cells #[iK Y g3] 196),.blk g3 (.cells #[.int .u64 (Y6 m.a5C[i].ls:Nat)] 27),.blk Y (.cells #[m6 b] 132),.blk U (.cells #[m6 b] 132)]) tk fun F1 h0 g=>?_;have p5:aK g5 (iK Y g3) 196 F1.heap:=I_ g;have p3:aK g3 (.int .u64 (Y6 m.a5C[i].ls:Nat)) 27 F1.heap:=I_ g;have p2:aK Y (m6 b) 132 F1.heap:=I_ g;have p1:aK U (m6 b) 132 F1.heap:=I_ g;clear g;refine B4 (a:=m.ba) (n:=m.a5C.length) (c:=m.bc) (sz:=5) (xs:=fb m.a5C) (te:=100) ud fun _ _ O=>?_;have O:=O qb;refine aH ?_;refine r_ (i8 rfl (fun w l=>dO (j:=4) (l.ownN (t:=100) ud).2.2.1 p7 f rfl y4)) ?_;refine y8 ?_;refine B4 (a:=m.a5C[i].a) (n:=m.a5C[i].ls.length) (c:=m.a5C[i].c) (sz:=5) (xs:=qN m.a5C[i].ls) (te:=156) ud fun _ _ h9=>?_;refine O6 27 1 ?_;obtain⟨e,Q⟩:=o7 (Y6 m.a5C[i].ls);rw[<-Q] at p3;obtain⟨d,s⟩:∃d:Nat->List Nat,∀j,d j=((m.a5C[i].ls.take j).filter (fU r e)).map fun x=>x.t.uid:=⟨_,fun _=>rfl⟩;have h3:d 0=[]:=by rw[s];rfl
  have S:∀j,(d j).length<=1000:=fun j=>by
   rw[s,zm];refine jd (Qb _ _) (jd (List.length_take_le' _ _) h7)
  refine O5 (fun j (u:Option Addr) (D:Nat)=>j<=m.a5C[i].ls.length) (fun j u D=>[(1,m6 U),(3,dm m i),(6,Tk U g5),(23,.slice m.a5C[i].a m.a5C[i].ls.length m.a5C[i].c),(24,.int .i64 (m.a5C[i].ls.length:Nat)),(25,.int .i64 (j:Nat))])
   (fun j u D=>.own (.slice u (d j).length D) 27 1 (nV (d j))::R9 b m r q (Oo (d j)) ⟨u,D,none,0⟩::T0 m.sa m.a5E m.sc::P4 m.ha m.a5D m.hc::S_ m.ba m.a5C m.bc::N_ m.a5C[i].a m.a5C[i].ls m.a5C[i].c::(V_ (m.a5C.eraseIdx i)++R)) (fun j _ _=>m.a5C[i].ls.length-j) 0 none 0 (zw _) sub (fun w l=>by rw[h3];exact l) ?_
  rintro j u D hj;refine R6 ?_ ?_<;>intro h
  ·have M:j<m.a5C[i].ls.length:=(by have:=qr h;omega);have h9:=h9 qb;refine p_ ?_;refine r_ (w8 rfl (fun w l=>fq (l.ownN (t:=156) ud).2.2.1 A_ qp M y4) (A_ _)) ?_;refine i7 rfl ?_;intro g8;refine E4 ?_;refine z_ (ps:=[]) _ rfl rfl rfl (BN b U g5 Y g3 e m r q (Oo (d j)) ⟨u,D,none,0⟩ hu m.a5C[i].ls m.a5C[i].ls[j] (zx M) (h8 _ (zx M))) i_ (fun h z g=>⟨z _ _ p1,z _ _ p5,⟨z _ _ p2,z _ _ p3,I_ g,(h6.a5I.le h0.heap).le z⟩,Mn.le z (Mn.le h0.heap (J _ (zx f)))⟩) rfl ?_;rintro v A ⟨rfl,rfl⟩;refine u7 ?_;have o:=mR (fun x:LM=>x.t.uid) (fU r e) M;rw[<-s,<-s] at o;refine o8 rfl ?_ ?_<;>intro h2
   ·rw[h2,zu rfl] at o;refine u7 ?_;refine D9 [0,1,5,7] [8,9,13] [.blk g8 (.cells (S9 m.a5C[i].ls[j]).toArray 156),R9 b m r q (Oo (d j)) ⟨u,D,none,0⟩] 14 ?_;refine wd [0,1,2,3,4,5,6,7] ?_;refine h_ 8 rfl i6 ?_;refine x5 (ps:=[(0,.tmp 39)]) (vs:=[(0,.int .u64 (m.a5C[i].ls[j].t.uid:Nat))]) (xs:=nV [m.a5C[i].ls[j].t.uid]) rfl rfl rfl rfl rfl rfl rfl rfl ?_;intro x2 _;refine ae ?_;refine h_ 9 rfl i6 ?_;refine B_ (news:=nV [m.a5C[i].ls[j].t.uid]) (m:=1) rfl rfl (fun a' c'=>uh) (fun w l=>(l.ownN (t:=27) ud).2.2.1) rfl rfl rfl (iv _) (by show((d j).length+1)*8<=_;have:=S j;omega) (by show(d j).length+1<=9223372036854775807;have:=S j;omega) rfl ?_;intro Rw q7 _;refine gn [10,11,12,13] ?_;refine y8 ?_;refine l8 (i:=(j,u,D)) (j+1,Rw,q7) qg qg sub (fun w l=>?_);have e1:(d (j+1)).length=(d j).length+1:=(by rw[o,zz];rfl);simp only;rw[Na _ _ _ _ _ _ _ _ e1,e1,o,az];exact l.drop.drop
   ·rw[h2,zk y4,z8] at o;refine y8 ?_;exact l8 (i:=(j,u,D)) (j+1,u,D) qg qg sub (fun w l=>by simp only;rw[o];exact l.drop)
  ·have M:j=m.a5C[i].ls.length:=(by have:=zq h;omega);have k8:(jG r m.a5C[i].x)∘LM.t=fU r e:=by
    funext x;show jG r m.a5C[i].x x.t=_;rw[MZ,Q]
   have q8:(m.a5C[i].x.lts.filter (jG r m.a5C[i].x)).map LT.uid=d j:=by
    rw[s,M,Qj,Yk,k8,Jn];rfl
   have es:be m.s r=if d j=[] then(m.s,B9,0) else if D_<=m.a5C[i].high then(m.s,B9,13) else(jE m.s i {m.a5C[i].x with lts:=m.a5C[i].x.lts.filter fun x=>!jG r m.a5C[i].x x,high:=m.a5C[i].high+1},{B9 with a5I:=d j},0):=by
    unfold be;rw[hn];simp only[eS f,q8]
   rw[es];clear es;refine u7 ?_;refine B8 (Z:=[.own (.slice u (d j).length D) 27 1 (nV (d j))]) tk fun F2 T ⟨bs,g⟩=>?_;have k9:o0 F2.heap u (nV (d j)):=A2.rd g ud;clear g;have k:=h0.trans T;have q9:aK U (m6 b) 132 F2.heap:=T.heap _ _ p1;obtain⟨q1,h1⟩:=o7 (decide (d j=[]));refine cQ ?_;refine f_ ((o_ rfl rfl).eq (v':=.bool q1) (qn (by rw[h1];exact zh.2 (by show(((d j).length:Nat):Int)=0↔_;cases d j<;>simp<;>omega)))) ?_;refine u7 ?_
   cases q1
   ·have k0:d j≠[]:=zq h1.symm;rw[zk k0];refine u7 ?_;obtain⟨q2,h2⟩:=o7 (decide (D_<=m.a5C[i].high));refine E4 ?_;refine r_ (i8 rfl (fun w l=>dO (j:=3) (l.ownN (t:=100) ud).2.2.1 p7 f rfl y4)) ?_;refine f_ ((I3 rfl rfl).eq (v':=.bool q2) (qn ((zh.2 (by show(9223372036854775807:Int)<=_↔9223372036854775807<=_;omega)).trans h2.symm))) ?_;refine u7 ?_
    cases q2
    ·rw[zk (zq h2.symm)];have x3:m.a5C[i].high<9223372036854775807:=Wn.1 (zq h2.symm);refine O2 ?_;refine r_ (i8 rfl (fun w l=>dO (j:=4) (l.ownN (t:=100) ud).2.2.1 p7 f rfl y4)) ?_;refine p_ ?_;refine c_ (tT m.a5C[i].ls m.a5C[i].a m.a5C[i].c 120 [m6 U,m6 g5] (BK b U g5 Y g3 e m r q (Oo (d j)) ⟨u,D,none,0⟩ m.a5C[i].ls) (fU r e) (fun x hx=>BN b U g5 Y g3 e m r q (Oo (d j)) ⟨u,D,none,0⟩ hu m.a5C[i].ls x hx (h8 _ hx)) qb) ?pre ?_;(case pre=>exact fun h z g=>⟨z _ _ q9,z _ _ (T.heap _ _ p5),⟨z _ _ (T.heap _ _ p2),z _ _ (T.heap _ _ p3),I_ g,(h6.a5I.le k.heap).le z⟩,Mn.le z (Mn.le k.heap (J _ (zx f)))⟩);rintro v A ⟨rfl,rfl⟩;refine y8 ?_;refine A9 (C:=cZ) (v:=.slice m.a5C[i].a (m.a5C[i].ls.filter fun x=>!fU r e x).length m.a5C[i].c) {m.a5C[i] with ls:=m.a5C[i].ls.filter fun x=>!fU r e x} p7 f (j:=4) rfl ?_;refine u7 ?_;obtain⟨LS,h4⟩:=o7 (m.a5C[i].ls.filter fun x=>!fU r e x);rw[<-h4];obtain⟨p,q0⟩:∃p:BM,p={m.a5C[i] with ls:=LS}:=⟨_,rfl⟩;have X:i<(m.a5C.set i p).length:=(by simpa using f);have q3:(m.a5C.set i p)[i]=p:=Q9 _;have x0:(m.a5C.set i p)[i]? =some p:=(by rw[zj X,q3]);have V:p.a=m.a5C[i].a/\p.ls=LS/\p.c=m.a5C[i].c/\p.next=m.a5C[i].next/\p.high=m.a5C[i].high/\p.val=m.a5C[i].val/\p.name=m.a5C[i].name:=(by subst q0;exact⟨rfl,rfl,rfl,rfl,rfl,rfl,rfl⟩);rw[<-q0];refine E4 ?_;refine r_ (i8 (v:=.int .u64 (m.a5C[i].high:Nat)) rfl (fun w l=>Fc (j:=3) (l.ownN (t:=100) ud).2.2.1 p7 p x0 (by rw[<-V.2.2.2.2.1];rfl) y4)) ?_;refine f_ ((K_ rfl rfl qb).eq (v':=.int .u64 ((m.a5C[i].high+1:Nat):Int)) (by congr 1)) ?_;refine y8 ?_;refine A9 (C:=cZ) (v:=.int .u64 ((m.a5C[i].high+1:Nat):Int)) {p with high:=m.a5C[i].high+1} p7 X (j:=3) (by rw[q3];rfl) ?_;refine u7 ?_;rw[Jw];refine C8 ?_;refine C9 {m with a5C:=m.a5C.set i {p with high:=m.a5C[i].high+1}} (Oo (d j)) ⟨u,D,none,0⟩ rfl rfl k (fun w l=>?_) ?_ (fun _=>rfl) (fun x hx=>?_) ⟨k9,o0.nil _ _⟩
     ·rw[uD];show Hp F2 w (_::T0 m.sa m.a5E m.sc::P4 m.ha m.a5D m.hc::S_ m.ba (m.a5C.set i {p with high:=m.a5C[i].high+1}) m.bc::(V_ (m.a5C.set i {p with high:=m.a5C[i].high+1})++R));rw[nG];exact uE {p with high:=m.a5C[i].high+1} f V.1 V.2.1 V.2.2.1 (l.perm ((kj (l₁:=[_]) (l₂:=[_,_,_,_])).append_right _))
     ·show({m.s with a5C:=_}:ML)=_;unfold jE;rw[aQ];have q4:LS.map LM.t=m.a5C[i].x.lts.filter fun x=>!jG r m.a5C[i].x x:=by
       rw[h4];show _=(m.a5C[i].ls.map LM.t).filter _;rw[Yk];congr 1;refine List.filter_congr fun x _=>?_;rw[<-k8];rfl
      simp only[BM.x,V.2.1,V.2.2.2.1,V.2.2.2.2.2.1,V.2.2.2.2.2.2,q4]
     ·rcases jp hx with h5|rfl
      ·exact Mn.le k.heap (J x h5)
      ·intro y hy;have q5:y∈LS:=V.2.1▸hy;rw[h4] at q5;exact(J _ (zx f) y (Qx.1 q5).1).le k.heap
    ·rw[zu (qr h2.symm)];refine C8 ?_;refine C9 m (Oo (d j)) ⟨u,D,none,0⟩ rfl rfl k (fun w l=>?_) rfl qx (fun b g=>Mn.le k.heap (J b g)) ?_
     ·exact l.perm (((L1 f).symm.append_right R).append_left [_,_,_,_])
     ·exact⟨k9,o0.nil _ _⟩
   ·have k0:d j=[]:=qr h1.symm;rw[zu k0];refine C8 ?_;refine C9 m B9 ⟨u,D,none,0⟩ rfl rfl k (fun w l=>?_) rfl (fun _=>rfl) (fun b g=>Mn.le k.heap (J b g)) (L9.nil _ _ _ rfl rfl);rw[k0] at l;exact l.perm (((L1 f).symm.append_right R).append_left [_,_,_,_])
theorem pY(n m:Nat):∀l:List LT,(fg n m l).length=l.length
 |[]=>rfl
 |x::t=>by rw[fg,zy,pY,zy]
theorem wQ(m:Nat):∀(l:List LT) (n j:Nat),(fg n m l)[j]? =l[j]?.map fun x=>{x with uid:=n+j,mod:=m}
 |[],_,_=>by simp[fg]
 |x::t,n,0=>by simp[fg]
 |x::t,n,j+1=>by
  rw[fg,List.getElem?_cons_succ,List.getElem?_cons_succ,wQ m t (n+1) j];rw[show n+1+j=n+(j+1) by omega]
theorem Er{n m:Nat}{l:List LT}{j:Nat}(a:j<l.length):(fg n m l).take (j+1)=(fg n m l).take j++[{l[j] with uid:=n+j,mod:=m}]:=by
 have b:j<(fg n m l).length:=by rw[pY];exact a
 rw[kw b];congr 2;have c:=wQ m l n j;rw[zj b,zj a] at c;exact j8 c
theorem Es{α:Type}(q:α->Bool){l:List α}{j:Nat}(a:j<l.length):(l.take (j+1)).filter q=(l.take j).filter q++if q l[j] then[l[j]] else[]:=J_ q a
structure CpS where
 N:List LM
 a:Option Addr
 c:Nat
 ua:Option Addr
 uc:Nat
def X1(N:List LM):List Nat:=N.map fun x=>x.t.uid
theorem sK(N:List LM)(y:LM):X1 (N++[y])=X1 N++[y.t.uid]:=by simp[X1]
theorem sL(N:List LM):(X1 N).length=N.length:=by simp[X1]
abbrev Rh(v:Nat)(u:List Nat):OC:={B9 with val:=v,a5I:=u}
theorem Io(b:Nat)(m:MM)(r:RQ)(q:QL)(v:Nat)(u:List Nat)(ua:Option Addr)(uc n:Nat)(h:u.length=n):R9 b m r q (Rh v u) ⟨ua,uc,none,0⟩=.blk b (.cells (iD m++eB r q++([.int .i64 0,.int .u64 ((0:Nat):Int),.int .u64 (v:Nat),.slice ua n uc,.slice none 0 0]:List Value)).toArray 136):=by subst h;rfl
def uF(r:RQ)(most:Nat)(x:LM):Bool:=gR r.a5I most x.t.uid
theorem Nb(b:Nat)(m:MM)(r:RQ)(q:QL)(hm:m.a5C.length<=1000)(x2:∀x∈m.a5C,x.ls.length<=1000/\x.next<=4294967296/\x.high<=D_/\∀y∈x.ls,y.t.a5R.length<=1000000)(hu:r.a5I.length<=1000000):HL 64 b m r q (gX m.s r):=by
 refine x8 156 func64 rfl rfl rfl ?_;rintro F R ⟨S,z0⟩;refine p_ ?_
 cases hn:named m.s r with
 |none=>
  have es:gX m.s r=(m.s,B9,6):=by unfold gX;rw[hn]
  rw[es];refine p_ ?_;refine e_ rfl (ed b m r q B9 M8 hm) (fun h hh g=>⟨I_ g,by obtain⟨bs,g⟩:=g;exact A2.rd g ud⟩) rfl ?_;rw[hn,show fS m none=.tuple #[.pointer none,.bool false] from rfl];refine NT ?_;exact C9 m B9 M8 rfl rfl (l6.le_refl _) i_ rfl qx S (L9.zero _)
 |some i=>
  have U:=pQ hn;obtain⟨x3,v7,v8,z1⟩:=x2 _ (zx U);refine p_ ?_;refine e_ rfl (ed b m r q B9 M8 hm) (fun h hh g=>⟨I_ g,by obtain⟨bs,g⟩:=g;exact A2.rd g ud⟩) rfl ?_;rw[hn,show fS m (some i)=.tuple #[dm m i,.bool true] from rfl];refine wk 7 ?_;refine D9 [3,8] [9] [R9 b m r q B9 M8] 11 ?_;refine wd [0,1,2,3,4,5,6,7,8] ?_;refine h_ 9 rfl i6 ?_;refine e_ rfl (oM m r.tz hm) (fun h hh ⟨bs,g⟩=>A2.rd g ud) rfl ?_;refine E5 [10] ?_;refine bd ?_ ?_<;>intro h
  ·have es:gX m.s r=(m.s,B9,21):=(by unfold gX;rw[hn];simp only;rw[gG (qr h)]);rw[es];refine C8 ?_;exact C9 m B9 M8 rfl rfl (l6.le_refl _) i_ rfl qx S (L9.zero _)
  obtain⟨k,hk,f,z2⟩:=gH (zq h);obtain⟨v9,w0,w1,w2⟩:=x2 _ (zx f);rw[hk];refine p_ ?_;refine D5 (H':=R9 b m r q B9 M8::T0 m.sa m.a5E m.sc::P4 m.ha m.a5D m.hc::S_ m.ba m.a5C m.bc::N_ m.a5C[i].a m.a5C[i].ls m.a5C[i].c::(V_ (m.a5C.eraseIdx i)++R)) (fun w d=>d.perm (((L1 U).append_right R).append_left [_,_,_,_])) ?_;refine y8 ?_;refine c_ (pS b m i U x3) ?pre ?_;(case pre=>exact fun h hh ⟨bs,g⟩=>⟨A2.rd g ud,A2.rd g ud⟩);rintro v A ⟨g2,g3,rfl,rfl⟩;refine p_ ?_;refine B8 (Z:=[.blk g3 (.cells #[.int .u64 (Y6 m.a5C[i].ls:Nat)] 27),.blk g2 (.cells #[m6 b] 132)]) tk fun F1 u g=>?_;have p3:aK g3 (.int .u64 (Y6 m.a5C[i].ls:Nat)) 27 F1.heap:=I_ g;have p2:aK g2 (m6 b) 132 F1.heap:=I_ g;clear g;refine B4 (a:=m.ba) (n:=m.a5C.length) (c:=m.bc) (sz:=5) (xs:=fb m.a5C) (te:=100) ud fun _ _ h8=>?_;have h8:=h8 qb;refine E4 ?_;refine r_ (i8 rfl (fun w d=>dO (j:=4) (d.ownN (t:=100) ud).2.2.1 p7 U rfl y4)) ?_;refine y8 ?_;refine B4 (a:=m.a5C[i].a) (n:=m.a5C[i].ls.length) (c:=m.a5C[i].c) (sz:=5) (xs:=qN m.a5C[i].ls) (te:=156) ud fun _ _ x9=>?_;refine O6 156 5 ?_;obtain⟨J,k8⟩:=o7 (Y6 m.a5C[i].ls);rw[<-k8] at p3;obtain⟨D,M⟩:∃D:Nat->List LM,∀j,D j=(m.a5C[i].ls.take j).filter (uF r J):=⟨_,fun _=>rfl⟩;have k9:D 0=[]:=by rw[M];rfl
  have V:∀j,(D j).length<=1000:=fun j=>by
   rw[M];refine jd (Qb _ _) (jd (List.length_take_le' _ _) x3)
  refine O5 (fun j (T:Option Addr) (X:Nat)=>j<=m.a5C[i].ls.length) (fun j T X=>[(0,m6 b),(5,.int .i64 (k:Nat)),(6,.slice T (D j).length X),(7,iK g2 g3),(38,.slice m.a5C[i].a m.a5C[i].ls.length m.a5C[i].c),(39,.int .i64 (m.a5C[i].ls.length:Nat)),(40,.int .i64 (j:Nat))])
   (fun j T X=>N_ T (D j) X::R9 b m r q B9 M8::T0 m.sa m.a5E m.sc::P4 m.ha m.a5D m.hc::S_ m.ba m.a5C m.bc::N_ m.a5C[i].a m.a5C[i].ls m.a5C[i].c::(V_ (m.a5C.eraseIdx i)++R)) (fun j _ _=>m.a5C[i].ls.length-j) 0 none 0 (zw _) (by rw[k9];exact sub) (fun w d=>by rw[k9];exact d) ?_
  rintro j T X hj;refine R6 ?_ ?_<;>intro h
  ·have p:j<m.a5C[i].ls.length:=(by have:=qr h;omega);have x9:=x9 qb;refine p_ ?_;refine r_ (w8 rfl (fun w d=>fq (C:=S9) (l:=m.a5C[i].ls) (q:=((j:Nat):Int).toNat*5) (d.ownN (t:=156) (a:=m.a5C[i].a) ud).2.2.1 A_ qp p y4) (A_ _)) ?_;refine i7 rfl ?_;intro g9;refine E4 ?_;refine z_ (ps:=[]) _ rfl rfl rfl (lr b g2 g3 J m r q B9 M8 hu m.a5C[i].ls[j]) i_ (fun h hh g=>⟨hh _ _ p2,hh _ _ p3,I_ g,(z0.a5I.le u.heap).le hh⟩) rfl ?_;rintro v A ⟨rfl,rfl⟩;refine u7 ?_;have z:=Es (uF r J) p;rw[<-M,<-M] at z;refine o8 rfl ?_ ?_<;>intro h2
   ·rw[show uF r J m.a5C[i].ls[j]=true from h2,zu rfl] at z;refine y8 ?_;refine C4 S9 m.a5C[i].ls[j] rfl ?_;intro a49 _;refine u6 S9 (l:=D j) (m:=[m.a5C[i].ls[j]]) A_ nk (by show((D j).length+1)*64<=_;have:=V j;omega) ?_ rfl rfl (fun _ _=>uh) (fun w d=>(d.ownN (t:=156) ud).2.2.1) (by have:=V j;show(D j).length+1<=9223372036854775807;omega);intro u0 u1 _;rw[<-z];refine E4 ?_;exact l8 (i:=(j,T,X)) (j+1,u0,u1) qg qg sub (fun w d=>d.drop.drop)
   ·rw[show uF r J m.a5C[i].ls[j]=false from h2,zk y4,z8] at z;refine y8 ?_;rw[<-z];exact l8 (i:=(j,T,X)) (j+1,T,X) qg qg sub (fun w d=>d.drop)
  ·have p:j=m.a5C[i].ls.length:=(by have:=zq h;omega);obtain⟨e,h7⟩:=o7 (D j);have v4:e.length<=1000:=(by rw[h7];exact V j);have q8:∀x∈e,x∈m.a5C[i].ls:=fun x hx=>by
    rw[h7,M] at hx;exact Jq (Qx.1 hx).1
   have y0:e.map LM.t=m.a5C[i].x.lts.filter (X5 r m.a5C[i].x):=by
    rw[h7,M,p,Qj];show _=(m.a5C[i].ls.map LM.t).filter _;rw[Yk];congr 1;refine List.filter_congr fun x _=>?_;show gR r.a5I J x.t.uid=gR r.a5I (vH m.a5C[i].x) x.t.uid;rw[pR,k8]
   have es:gX m.s r=if e.map LM.t=[] then(m.s,{B9 with val:=m.a5C[k].val},0) else if 32<m.a5C[k].ls.length+e.length then(m.s,{B9 with val:=m.a5C[k].val},7) else if eL+1<m.a5C[k].next+e.length\/D_<=m.a5C[k].high then(m.s,{B9 with val:=m.a5C[k].val},13)
     else(jE m.s k {m.a5C[k].x with high:=m.a5C[k].high+1,next:=m.a5C[k].next+e.length,lts:=m.a5C[k].x.lts++fg m.a5C[k].next (m.a5C[k].high+1) (e.map LM.t)},{B9 with val:=m.a5C[k].val,a5I:=(fg m.a5C[k].next (m.a5C[k].high+1) (e.map LM.t)).map LT.uid},0):=by
    unfold gX;rw[hn];simp only;rw[z2];simp only[eS U,eS f,<-y0,zm,BM.x]
   rw[es,<-h7];clear es;refine u7 ?_;refine D5 (H':=N_ T e X::R9 b m r q B9 M8::T0 m.sa m.a5E m.sc::P4 m.ha m.a5D m.hc::S_ m.ba m.a5C m.bc::N_ m.a5C[k].a m.a5C[k].ls m.a5C[k].c::(V_ (m.a5C.eraseIdx k)++R)) (fun w d=>d.perm ((((L1 U).symm.trans (L1 f)).append_right R).append_left [_,_,_,_,_])) ?_;refine wk 12 ?_;refine r_ (i8 rfl (fun w d=>dO (j:=1) (d.ownN (t:=100) ud).2.2.1 p7 f rfl y4)) ?_;refine O2 ?_;obtain⟨q1,h1⟩:=o7 (decide (e.map LM.t=[]));refine y8 ?_;refine f_ ((o_ rfl rfl).eq (v':=.bool q1) (qn (by rw[h1];exact zh.2 (by show((e.length:Nat):Int)=0↔_;cases e<;>simp<;>omega)))) ?_;refine p_ ?_
   cases q1
   ·have k0:e.map LM.t≠[]:=zq h1.symm;rw[zk k0];refine u7 ?_;obtain⟨q2,h2⟩:=o7 (decide (32<m.a5C[k].ls.length+e.length));refine E4 ?_;refine r_ (i8 rfl (fun w d=>dO (j:=4) (d.ownN (t:=100) ud).2.2.1 p7 f rfl y4)) ?_;refine O2 ?_;refine f_ ((D8 rfl rfl).eq (v':=.bool q2) (qn ((qz).trans h2.symm))) ?_;refine p_ ?_
    cases q2
    case true=>
     rw[zu (qr h2.symm)];refine C8 ?_;refine C9 m {B9 with val:=m.a5C[k].val} M8 rfl rfl u (fun w d=>?_) rfl qx (fun b g=>Mn.le u.heap (S b g)) (L9.nil _ _ _ rfl rfl);exact d.drop.perm (((L1 f).symm.append_right R).append_left [_,_,_,_])
    rw[zk (zq h2.symm)];obtain⟨q3,h3⟩:=o7 (decide (eL+1<m.a5C[k].next+e.length));obtain⟨q4,h4⟩:=o7 (decide (D_<=m.a5C[k].high));refine u7 ?_;refine x6 [(0,m6 b),(6,.slice T e.length X),(10,dm m k),(81,.bool (q3||q4))] (N_ T e X::R9 b m r q (Rh m.a5C[k].val []) M8::T0 m.sa m.a5E m.sc::P4 m.ha m.a5D m.hc::S_ m.ba m.a5C m.bc::N_ m.a5C[k].a m.a5C[k].ls m.a5C[k].c::(V_ (m.a5C.eraseIdx k)++R)) ?_ ?_
    ·cases q3
     all_goals (
      refine E4 ?_;refine r_ (i8 rfl (fun w d=>dO (j:=2) (d.ownN (t:=100) ud).2.2.1 p7 f rfl y4)) ?_;refine O2 ?_;refine f_ ((D8 rfl rfl).eq (qn ((zh.2 (by show(4294967296:Int)<_↔4294967296<_;omega)).trans h3.symm))) ?_;refine O2 ?_;(first|refine u_ ?_|(refine v_ ?_;refine r_ (i8 rfl (fun w d=>dO (j:=3) (d.ownN (t:=100) ud).2.2.1 p7 f rfl y4)) ?_));(first|refine u_ ?_|(refine v_ ?_;refine f_ ((I3 rfl rfl).eq (qn ((zh.2 (by show(9223372036854775807:Int)<=_↔9223372036854775807<=_;omega)).trans h4.symm))) ?_));refine y8 ?_)
     all_goals exact p8 sub i_
    refine O1 ?_ ?_<;>intro h9
    ·have kk:eL+1<m.a5C[k].next+e.length\/D_<=m.a5C[k].high:=by
      rw[Q7] at h9;rcases h9 with k|k
      ·exact .inl (qr (h3.symm.trans k))
      ·exact .inr (qr (h4.symm.trans k))
     rw[zu kk];refine C8 ?_;refine C9 m {B9 with val:=m.a5C[k].val} M8 rfl rfl u (fun w d=>?_) rfl qx (fun b g=>Mn.le u.heap (S b g)) (L9.nil _ _ _ rfl rfl);exact d.drop.perm (((L1 f).symm.append_right R).append_left [_,_,_,_])
    rw[Q1] at h9;have kn:¬eL+1<m.a5C[k].next+e.length:=zq (h3.symm.trans h9.1);have kh:¬D_<=m.a5C[k].high:=zq (h4.symm.trans h9.2);rw[zk (fun k=>k.elim kn kh)];have w3:m.a5C[k].next+e.length<=4294967296:=Nat.not_lt.1 kn;have w4:m.a5C[k].high<9223372036854775807:=Wn.1 kh;refine E4 ?_;refine r_ (i8 rfl (fun w d=>dO (j:=3) (d.ownN (t:=100) ud).2.2.1 p7 f rfl y4)) ?_;refine f_ ((K_ rfl rfl qb).eq (v':=.int .u64 ((m.a5C[k].high+1:Nat):Int)) (by congr 1)) ?_;refine y8 ?_;refine A9 (C:=cZ) {m.a5C[k] with high:=m.a5C[k].high+1} p7 f (j:=3) rfl ?_;refine E4 ?_;obtain⟨Q,o⟩:∃Q:Nat->List LM->Option Addr->Nat->BM,∀j N a c,Q j N a c=⟨m.a5C[k].name,m.a5C[k].val,m.a5C[k].next+j,m.a5C[k].high+1,m.a5C[k].ls++N,a,c⟩:=⟨_,fun _ _ _ _=>rfl⟩;have q6:∀j N a c,(m.a5C.set k (Q j N a c))[k]? =some (Q j N a c):=fun j N a c=>(by rw[zj (by simpa using f),Q9]);obtain⟨nl,q7⟩:=o7 (fg m.a5C[k].next (m.a5C[k].high+1) (e.map LM.t));refine O6 27 1 ?_;refine vM (fun j (Fj:l6) (s:CpS)=>j<=e.length/\F1.le Fj/\s.N.length=j/\s.N.map LM.t=nl.take j/\iC s.N Fj.heap) (fun j _ s=>[(0,m6 b),(10,dm m k),(105,.slice T e.length X),(106,.int .i64 (e.length:Nat)),(107,.int .i64 (j:Nat))]) (fun _ Fj _=>Fj)
     (fun j _ s=>N_ T e X::.own (.slice s.ua (X1 s.N).length s.uc) 27 1 (nV (X1 s.N))::R9 b m r q (Rh m.a5C[k].val (X1 s.N)) ⟨s.ua,s.uc,none,0⟩::T0 m.sa m.a5E m.sc::P4 m.ha m.a5D m.hc::.own (.slice m.ba m.a5C.length m.bc) 100 5 (fb (m.a5C.set k (Q j s.N s.a s.c)))::N_ s.a (m.a5C[k].ls++s.N) s.c::(V_ (m.a5C.eraseIdx k)++R)) (fun j _ _=>e.length-j) 0 F1 ⟨[],m.a5C[k].a,m.a5C[k].c,none,0⟩ ⟨zw _,l6.le_refl _,rfl,rfl,fun _ h=>by cases h⟩ sub rfl (fun w d=>?_) ?_
    ·rw[o];simp only[z8,Q3];exact d.perm (List.Perm.swap _ _ _)
    rintro j Fj ⟨N,na,nc,ua,uc⟩ ⟨hj,q0,y1,q5,x0⟩;simp only at y1 q5 x0;refine R6 ?_ ?_<;>intro h
    ·have p:j<e.length:=(by have:=qr h;omega);refine B4 (a:=T) (n:=e.length) (c:=X) (sz:=5) (xs:=qN e) (te:=156) ud fun _ _ q9=>?_;have q9:=q9 qb;have u2:o0 Fj.heap e[j].a (fV e[j].t.a5R):=(S _ (zx U) _ (q8 _ (zx p))).le (u.trans q0).heap;have u8:=z1 _ (q8 _ (zx p));refine p_ ?_;refine r_ (w8 rfl (fun w d=>fq (C:=S9) (l:=e) (q:=((j:Nat):Int).toNat*5) (d.ownN (t:=156) (a:=T) ud).2.2.1 A_ qp p y4) (A_ _)) ?_;refine i7 rfl ?_;intro x1;refine p_ ?_;refine D9 [3,7] [9,10,12,14,16] [.own (.slice m.ba m.a5C.length m.bc) 100 5 (fb (m.a5C.set k (Q j N na nc)))] 17 ?_;refine wd [0,1,2] ?_;refine n8 3 rfl P5 (i8 (v:=.int .u64 ((m.a5C[k].next+j:Nat):Int)) rfl (fun w d=>Fc (j:=2) (d.ownN (t:=100) ud).2.2.1 p7 (Q j N na nc) (q6 _ _ _ _) (by rw[o];rfl) y4)) I4 rfl rfl rfl i6 ?_;refine wd [4,5,6] ?_;refine n8 7 rfl P5 (i8 (v:=.int .u64 ((m.a5C[k].high+1:Nat):Int)) rfl (fun w d=>Fc (j:=3) (d.ownN (t:=100) ud).2.2.1 p7 (Q j N na nc) (q6 _ _ _ _) (by rw[o];rfl) y4)) I4 rfl rfl rfl i6 ?_;refine wd [8] ?_;refine h_ 9 rfl i6 ?_;refine r_ (iu rfl ud rfl) ?_;refine gn [11] ?_;refine h_ 10 rfl i6 ?_;refine c_ (Y4 e[j].t.a5R e[j].a e[j].c qb) (fun h hh _=>u2.le hh) ?_;rintro v A ⟨fa,fc,rfl,rfl⟩;refine gn [12,13,14,15,16] ?_;obtain⟨Y,hY⟩:∃Y:LM,Y=⟨{e[j].t with uid:=m.a5C[k].next+j,mod:=m.a5C[k].high+1},fa,fc⟩:=⟨_,rfl⟩;refine D5 (H':=A4 fa e[j].t.a5R fc::.blk x1 (.cells (S9 Y).toArray 156)::N_ T e X::.own (.slice ua (X1 N).length uc) 27 1 (nV (X1 N))::R9 b m r q (Rh m.a5C[k].val (X1 N)) ⟨ua,uc,none,0⟩::T0 m.sa m.a5E m.sc::P4 m.ha m.a5D m.hc::.own (.slice m.ba m.a5C.length m.bc) 100 5 (fb (m.a5C.set k (Q j N na nc)))::N_ na (m.a5C[k].ls++N) nc::(V_ (m.a5C.eraseIdx k)++R)) (fun w d=>by rw[hY];exact d) ?_;refine B8 (Z:=[A4 fa e[j].t.a5R fc]) tk fun F3 h0 ⟨bs,g⟩=>?_;have v0:o0 F3.heap Y.a (fV Y.t.a5R):=(by rw[hY];exact A2.rd g ud);clear g;have w5:Y.t.uid=m.a5C[k].next+j:=(by rw[hY]);refine u7 ?_;refine D9 [4,5] [6,7,10] [.own (.slice m.ba m.a5C.length m.bc) 100 5 (fb (m.a5C.set k (Q j N na nc))),.blk x1 (.cells (S9 Y).toArray 156)] 11 ?_;refine wd [0,1,2,3] ?_;refine n8 4 rfl P5 (i8 (v:=.slice na (m.a5C[k].ls++N).length nc) rfl (fun w d=>Fc (j:=4) (d.ownN (t:=100) ud).2.2.1 p7 (Q j N na nc) (q6 _ _ _ _) (by rw[o];rfl) y4)) I4 rfl rfl rfl i6 ?_;refine wd [5] ?_;refine h_ 6 rfl i6 ?_;refine C4 S9 Y rfl ?_;intro v5 _;refine ae ?_;refine h_ 7 rfl i6 ?_;refine u6 S9 (l:=m.a5C[k].ls++N) (m:=[Y]) A_ nk (by show((m.a5C[k].ls++N).length+1)*64<=_;rw[zz];omega) ?_ rfl rfl (fun _ _=>uh) (fun w d=>(d.ownN (t:=156) ud).2.2.1) (by show(m.a5C[k].ls++N).length+1<=9223372036854775807;rw[zz];omega);intro vo O _;rw[zn];refine E5 [8,9] ?_;refine h_ 10 rfl i6 ?_;refine A9 (C:=cZ) (v:=.slice vo (m.a5C[k].ls++(N++[Y])).length O) (l:=m.a5C.set k (Q j N na nc)) (i:=k) ⟨m.a5C[k].name,m.a5C[k].val,m.a5C[k].next+j,m.a5C[k].high+1,m.a5C[k].ls++(N++[Y]),vo,O⟩ p7 (by simpa using f) (j:=4) (by rw[Q9,o];rfl) ?_;refine E5 [] ?_;rw[Jw,<-o];refine u7 ?_
     refine D9 [5,7] [8,9,13] [.blk x1 (.cells (S9 Y).toArray 156),R9 b m r q (Rh m.a5C[k].val (X1 N)) ⟨ua,uc,none,0⟩] 14 ?_;refine wd [0,1,2,3,4,5,6,7] ?_;refine h_ 8 rfl i6 ?_;refine x5 (ps:=[(0,.tmp 142)]) (vs:=[(0,.int .u64 (Y.t.uid:Nat))]) (xs:=nV [Y.t.uid]) rfl rfl rfl rfl rfl rfl rfl rfl ?_;intro v6 _;refine ae ?_;refine h_ 9 rfl i6 ?_;refine B_ (news:=nV [Y.t.uid]) (m:=1) rfl rfl (fun a' c'=>uh) (fun w d=>(d.ownN (t:=27) ud).2.2.1) rfl rfl rfl (iv _) (by show((X1 N).length+1)*8<=_;rw[sL];omega) (by show(X1 N).length+1<=9223372036854775807;rw[sL];omega) rfl ?_;intro y2 y3 _;refine E5 [10,11,12,13] ?_;refine E4 ?_;refine r_ (i8 (v:=.int .u64 ((m.a5C[k].next+j:Nat):Int)) rfl (fun w d=>Fc (j:=2) (d.ownN (t:=100) ud).2.2.1 p7 (Q j (N++[Y]) vo O) (q6 _ _ _ _) (by rw[o];rfl) y4)) ?_;refine f_ ((K_ rfl rfl qb).eq (v':=.int .u64 ((m.a5C[k].next+(j+1):Nat):Int)) (by congr 1)) ?_;refine y8 ?_;refine A9 (C:=cZ) (v:=.int .u64 ((m.a5C[k].next+(j+1):Nat):Int)) (l:=m.a5C.set k (Q j (N++[Y]) vo O)) (i:=k) ⟨m.a5C[k].name,m.a5C[k].val,m.a5C[k].next+(j+1),m.a5C[k].high+1,m.a5C[k].ls++(N++[Y]),vo,O⟩ p7 (by simpa using f) (j:=2) (by rw[Q9,o];rfl) ?_;refine u7 ?_;rw[Jw,<-o];refine y8 ?_;refine O9 (i:=(j,Fj,(⟨N,na,nc,ua,uc⟩:CpS))) (j+1,F3,⟨N++[Y],vo,O,y2,y3⟩) ⟨p,q0.trans h0,by simp[y1],?_,fun x hx=>?_⟩ qg sub rfl (fun w d=>?_)
     ·simp only;rw[jm,q5,q7,Er (by simpa using p),hY];simp
     ·rcases zc.1 hx with h6|h6
      ·exact(x0 x h6).le h0.heap
      ·obtain rfl:=zg.1 h6;exact v0
     ·have e1:(X1 (N++[Y])).length=(X1 N).length+1:=(by rw[sK,zz];rfl);simp only;rw[Io _ _ _ _ _ _ _ _ _ e1,e1,sK,az];exact d.drop.drop.drop
    ·have p:j=e.length:=(by have:=zq h;omega);have v1:nl.take j=nl:=kp (by rw[q7,pY,zm];omega);rw[v1] at q5;have v2:X1 N=nl.map LT.uid:=(by rw[<-q5,Jn];rfl);refine u7 ?_;refine B8 (Z:=[.own (.slice ua (X1 N).length uc) 27 1 (nV (X1 N))]) tk fun F3 h0 ⟨bs,g⟩=>?_;have v3:o0 F3.heap ua (nV (X1 N)):=A2.rd g ud;clear g;refine C8 ?_;refine C9 {m with a5C:=m.a5C.set k (Q j N na nc)} (Rh m.a5C[k].val (X1 N)) ⟨ua,uc,none,0⟩ rfl rfl ((u.trans q0).trans h0) (fun w d=>?_) ?_ (fun _=>by rw[v2,q7]) (fun x hx=>?_) ⟨v3,o0.nil _ _⟩
     ·rw[uD];show Hp F3 w (_::T0 m.sa m.a5E m.sc::P4 m.ha m.a5D m.hc::S_ m.ba (m.a5C.set k (Q j N na nc)) m.bc::(V_ (m.a5C.set k (Q j N na nc))++R));rw[nG];exact uE (Q j N na nc) f (by rw[o]) (by rw[o]) (by rw[o]) d.drop
     ·show({m.s with a5C:=_}:ML)=_;unfold jE;rw[aQ,o];simp only[BM.x,jm,q5,q7,p]
     ·rcases jp hx with h5|rfl
      ·exact Mn.le ((u.trans q0).trans h0).heap (S x h5)
      ·rw[o];intro y hy;rcases zc.1 hy with h6|h6
       ·exact(S _ (zx f) y h6).le ((u.trans q0).trans h0).heap
       ·exact(x0 y h6).le h0.heap
   ·rw[zu (qr h1.symm)];refine C8 ?_;refine C9 m {B9 with val:=m.a5C[k].val} M8 rfl rfl u (fun w d=>?_) rfl (fun _=>rfl) (fun b g=>Mn.le u.heap (S b g)) (L9.nil _ _ _ rfl rfl);exact d.drop.perm (((L1 f).symm.append_right R).append_left [_,_,_,_])
abbrev Oq:=List LT×List Nat×List Nat×Bool
def bj(a q:Oq):Oq:=(a.1++q.1,a.2.1++q.2.1,a.2.2.1++q.2.2.1,a.2.2.2||q.2.2.2)
theorem Et{r:RQ}{b:BX}{x:LT}{t:List LT}{a:Oq}(h:X5 r b x=false):(I1 r b (x::t)).map (bj a)=(I1 r b t).map (bj (a.1++[x],a.2)):=by
 rw[I1,zu h,J0];congr 1;funext q;simp[bj]
theorem wR{r:RQ}{b:BX}{x:LT}{t:List LT}{a:Oq}(h:¬X5 r b x=false)(c:r.hasS=true/\r.a5L<x.mod):(I1 r b (x::t)).map (bj a)=(I1 r b t).map (bj (a.1++[x],a.2.1,a.2.2.1++[x.uid],a.2.2.2)):=by
 rw[I1,zk h,zu c,J0];congr 1;funext q;simp[bj]
theorem zA{r:RQ}{b:BX}{x:LT}{t:List LT}{a:Oq}(h:¬X5 r b x=false)(c:¬(r.hasS=true/\r.a5L<x.mod))(d:(F8 x.a5R r.how r.a5R).2≠0):(I1 r b (x::t)).map (bj a)=none:=by
 rw[I1,zk h,zk c,zu d];rfl
theorem zB{r:RQ}{b:BX}{x:LT}{t:List LT}{a:Oq}(h:¬X5 r b x=false)(c:¬(r.hasS=true/\r.a5L<x.mod))(d:¬(F8 x.a5R r.how r.a5R).2≠0)(e:(F8 x.a5R r.how r.a5R).1=x.a5R):(I1 r b (x::t)).map (bj a)=(I1 r b t).map (bj (a.1++[x],a.2.1++[x.uid],a.2.2)):=by
 rw[I1,zk h,zk c,zk d,J0];congr 1;funext q;simp[bj,e]
theorem Eu{r:RQ}{b:BX}{x:LT}{t:List LT}{a:Oq}(h:¬X5 r b x=false)(c:¬(r.hasS=true/\r.a5L<x.mod))(d:¬(F8 x.a5R r.how r.a5R).2≠0)(e:¬(F8 x.a5R r.how r.a5R).1=x.a5R):(I1 r b (x::t)).map (bj a)=(I1 r b t).map (bj (a.1++[{x with a5R:=(F8 x.a5R r.how r.a5R).1,mod:=b.high+1}],a.2.1++[x.uid],a.2.2.1,true)):=by
 rw[I1,zk h,zk c,zk d,J0];congr 1;funext q;simp[bj,e]
theorem Nc(l:List Bs)(how:Int)(m:List Bs):(F8 l how m).1.length<=16:=by
 unfold F8;split
 ·simp
 ·have a:∀o:List Bs,(if 16<o.length then(([]:List Bs),(7:Int)) else(o,0)).1.length<=16:=fun o=>by split<;>simp<;>omega
  exact a _
theorem wS{m:MM}{i:Nat}(h:i<m.a5C.length):m.a5C.getD i Gi=m.a5C[i]:=by
 rw[zd,zj h];rfl
def lB(m:MM)(i:Nat)(o:Option Oq):AR:=match o with
 |none=>(m.s,B9,7)
 |some q=>if q.2.2.2=false then(m.s,{B9 with a5I:=q.2.1,mods:=q.2.2.1},0) else if D_<=(m.a5C.getD i Gi).high then(m.s,B9,13) else(jE m.s i {(m.a5C.getD i Gi).x with lts:=q.1,high:=(m.a5C.getD i Gi).high+1},{B9 with a5I:=q.2.1,mods:=q.2.2.1},0)
structure Tl where
 N:List LM
 U:List Nat
 M:List Nat
 ch:Bool
 ua:Option Addr
 uc:Nat
 ma:Option Addr
 mc:Nat
abbrev fk(u mo:List Nat):OC:={B9 with a5I:=u,mods:=mo}
theorem Ot(b:Nat)(m:MM)(r:RQ)(q:QL)(u a:List Nat)(ua c:Option Addr)(uc d n k:Nat)(h:u.length=n)(e:a.length=k):R9 b m r q (fk u a) ⟨ua,uc,c,d⟩=.blk b (.cells (iD m++eB r q++([.int .i64 0,.int .u64 ((0:Nat):Int),.int .u64 ((0:Nat):Int),.slice ua n uc,.slice c k d]:List Value)).toArray 136):=by subst h e;rfl
theorem zC{F:l6}{w:World}{k x y z:As}{l:List BM}{i:Nat}{R:List As}{ls:List LM}(a:i<l.length)(b:ls=l[i].ls)(h:Hp F w (k::x::y::z::N_ l[i].a ls l[i].c::(V_ (l.eraseIdx i)++R))):Hp F w (k::x::y::z::(V_ l++R)):=by
 subst b;exact h.perm (((L1 a).symm.append_right R).append_left [k,x,y,z])
theorem Tm{m:MM}{r:RQ}{q:QL}{o:OC}{y:OL}{b:Bool}(h:b=r.hasS):(Oe m r q o y)[18]? =some (.bool b):=by subst h;rfl
theorem Ip(b:Nat)(m:MM)(r:RQ)(q:QL)(hm:m.a5C.length<=1000)(w0:∀x∈m.a5C,x.ls.length<=1000/\x.high<=D_/\∀y∈x.ls,y.t.a5R.length<=1000/\∀f∈y.t.a5R,f.length<=ln)(hu:r.a5I.length<=1000000)(b1:r.a5R.length<=100000)(u8:∀f∈r.a5R,f.length<=ln):HL 62 b m r q (dz m.s r):=by
 refine x8 163 func62 rfl rfl rfl ?_;rintro F R ⟨k0,y1⟩;refine p_ ?_
 cases hn:named m.s r with
 |none=>
  have es:dz m.s r=(m.s,B9,6):=by unfold dz;rw[hn]
  rw[es];refine p_ ?_;refine e_ rfl (ed b m r q B9 M8 hm) (fun h hh e=>⟨I_ e,by obtain⟨bs,e⟩:=e;exact A2.rd e ud⟩) rfl ?_;rw[hn,show fS m none=.tuple #[.pointer none,.bool false] from rfl];refine NT ?_;exact C9 m B9 M8 rfl rfl (l6.le_refl _) i_ rfl qx k0 (L9.zero _)
 |some i=>
  have o:=pQ hn;obtain⟨v0,w1,v1⟩:=w0 _ (zx o);refine p_ ?_;refine e_ rfl (ed b m r q B9 M8 hm) (fun h hh e=>⟨I_ e,by obtain⟨bs,e⟩:=e;exact A2.rd e ud⟩) rfl ?_;rw[hn,show fS m (some i)=.tuple #[dm m i,.bool true] from rfl];refine wk 7 ?_;obtain⟨q1,h1⟩:=o7 (G0 r.a5R);obtain⟨q2,h2⟩:=o7 (decide (r.how<0));obtain⟨q3,h3⟩:=o7 (decide (2<r.how));refine x6 [(0,m6 b),(3,dm m i),(41,.bool (!q1||(q2||q3)))] (R9 b m r q B9 M8::(uS m++R)) ?_ ?_
  ·cases q1<;>cases q2
   all_goals (
    refine aH ?_;refine e_ rfl (gI r.a5R q.fa q.fc qb u8) (fun h hh _=>y1.a5R.le hh) rfl ?_;rw[<-h1];refine wk 7 ?_;(first|refine u_ ?_|(refine v_ ?_;refine f_ ((E6 rfl rfl).eb h2) ?_));refine wk 7 ?_;(first|refine u_ ?_|(refine v_ ?_;refine f_ ((D8 rfl rfl).eb h3) ?_));refine p_ ?_)
   all_goals exact p8 sub i_
  refine O1 ?_ ?_<;>intro h5
  ·have hc:G0 r.a5R=false\/r.how<0\/2<r.how:=by
    rw[<-h1]
    revert h5
    cases q1
    ·exact fun _=>.inl rfl
    cases q2
    ·cases q3
     ·intro h6;simp at h6
     ·exact fun _=>.inr (.inr (qr h3.symm))
    ·exact fun _=>.inr (.inl (qr h2.symm))
   have es:dz m.s r=(m.s,B9,1):=(by unfold dz;rw[hn];exact zu hc);rw[es];refine C8 ?_;exact C9 m B9 M8 rfl rfl (l6.le_refl _) i_ rfl qx k0 (L9.zero _)
  have hc:¬(G0 r.a5R=false\/r.how<0\/2<r.how):=by
   rw[<-h1];rintro(k|k|k)
   ·rw[k] at h5;simp at h5
   ·rw[h2,jk k] at h5;cases q1<;>simp at h5
   ·rw[h3,jk k] at h5;cases q1<;>cases q2<;>simp at h5
  have es:dz m.s r=lB m i (I1 r m.a5C[i].x m.a5C[i].x.lts):=by
   unfold dz lB;rw[hn];simp only;rw[zk hc];simp only[eS o,wS o]
   cases I1 r m.a5C[i].x (List.map LM.t m.a5C[i].ls)<;>rfl
  rw[es];clear es;refine u7 ?_;refine D5 (H':=R9 b m r q B9 M8::T0 m.sa m.a5E m.sc::P4 m.ha m.a5D m.hc::S_ m.ba m.a5C m.bc::N_ m.a5C[i].a m.a5C[i].ls m.a5C[i].c::(V_ (m.a5C.eraseIdx i)++R)) (fun w g=>g.perm (((L1 o).append_right R).append_left [_,_,_,_])) ?_;refine B4 (a:=m.ba) (n:=m.a5C.length) (c:=m.bc) (sz:=5) (xs:=fb m.a5C) (te:=100) ud fun _ _ x1=>?_;have x1:=x1 qb;refine E4 ?_;refine r_ (i8 rfl (fun w g=>dO (j:=4) (g.ownN (t:=100) ud).2.2.1 p7 o rfl y4)) ?_;refine c_ (fL (qN m.a5C[i].ls) m.a5C[i].a m.a5C[i].ls.length m.a5C[i].c (AD _) (AE _) qb) ?pre ?_;(case pre=>exact fun h hh ⟨bs,e⟩=>A2.rd e ud);rintro v A ⟨na,nc,rfl,rfl⟩;refine O2 ?_;refine c_ (pS b m i o v0) ?pre ?_;(case pre=>exact fun h hh ⟨bs,e⟩=>⟨A2.rd e ud,A2.rd e ud⟩);rintro v A ⟨g2,g3,rfl,rfl⟩;refine p_ ?_;refine B8 (Z:=[.blk g3 (.cells #[.int .u64 (Y6 m.a5C[i].ls:Nat)] 27),.blk g2 (.cells #[m6 b] 132)]) tk fun F1 q0 e=>?_;have p3:aK g3 (.int .u64 (Y6 m.a5C[i].ls:Nat)) 27 F1.heap:=I_ e;have p2:aK g2 (m6 b) 132 F1.heap:=I_ e;clear e;refine E4 ?_;refine r_ (i8 rfl (fun w g=>dO (j:=4) (g.ownN (t:=100) ud).2.2.1 p7 o rfl y4)) ?_;refine y8 ?_;refine B4 (a:=m.a5C[i].a) (n:=m.a5C[i].ls.length) (c:=m.a5C[i].c) (sz:=5) (xs:=qN m.a5C[i].ls) (te:=156) ud fun _ _ y2=>?_;refine O6 27 1 ?_;refine O6 27 1 ?_;obtain⟨d,Q⟩:=o7 (m.a5C[i].ls);rw[<-Q] at v0 v1 y2 p3⊢;obtain⟨X,hX⟩:=o7 (m.a5C[i].x);have w2:X.lts=d.map LM.t:=by rw[hX,Q]
  have y3:Y6 d=vH X:=by rw[hX,pR,<-Q]
  rw[<-hX,w2];obtain⟨SL,v2⟩:=o7 (I1 r X (d.map LM.t));rw[<-v2];refine vM (fun j (Fj:l6) (s:Tl)=>j<=d.length/\F1.le Fj/\s.N.length=d.length/\iC s.N Fj.heap/\s.N.drop j=d.drop j/\s.U.length<=j/\s.M.length<=j/\SL=(I1 r X ((d.drop j).map LM.t)).map (bj ((s.N.take j).map LM.t,s.U,s.M,s.ch)))
   (fun j _ s=>[(0,m6 b),(3,dm m i),(5,.slice na d.length nc),(6,.bool s.ch),(7,iK g2 g3),(53,.slice m.a5C[i].a d.length m.a5C[i].c),(54,.int .i64 (d.length:Nat)),(55,.int .i64 (j:Nat))]) (fun _ Fj _=>Fj)
   (fun j _ s=>.own (.slice s.ua s.U.length s.uc) 27 1 (nV s.U)::.own (.slice s.ma s.M.length s.mc) 27 1 (nV s.M)::.own (.slice na d.length nc) 156 5 (qN s.N)::R9 b m r q (fk s.U s.M) ⟨s.ua,s.uc,s.ma,s.mc⟩::T0 m.sa m.a5E m.sc::P4 m.ha m.a5D m.hc::S_ m.ba m.a5C m.bc::N_ m.a5C[i].a d m.a5C[i].c::(V_ (m.a5C.eraseIdx i)++R)) (fun j _ _=>d.length-j) 0 F1 ⟨d,[],[],false,none,0,none,0⟩ ⟨zw _,l6.le_refl _,rfl,by rw[Q];exact Mn.le q0.heap (k0 _ (zx o)),rfl,zw _,zw _,?_⟩ sub rfl i_ ?_
  ·rw[v2];show _=(I1 r X (d.map LM.t)).map (bj ([],[],[],false))
   cases I1 r X (d.map LM.t)<;>simp[bj]
  rintro j Fj ⟨N,U,M,ch,ua,uc,J,O⟩ ⟨hj,S,q7,k8,z0,z1,x2,D⟩;simp only at q7 k8 z0 z1 x2 D;refine R6 ?_ ?_<;>intro h
  ·have T:j<d.length:=(by have:=qr h;omega);have q8:j<N.length:=(by omega);have z2:N[j]=d[j]:=by
    have h1:=jw (fun z=>z[0]?) z0;simp only[Zy,Q3] at h1;rw[zj q8,zj T] at h1;exact j8 h1
   have k9:N.drop (j+1)=d.drop (j+1):=by
    have:=jw (List.drop 1) z0;simpa[Kn,Wu] using this
   have w3:(d.drop j).map LM.t=d[j].t::(d.drop (j+1)).map LM.t:=(by rw[Qg T];rfl);have u0:(N.take (j+1)).map LM.t=(N.take j).map LM.t++[d[j].t]:=(by rw[kw q8,z2,jm];rfl);rw[w3] at D;have y2:=y2 qb;have w4:gR r.a5I (Y6 d) d[j].t.uid=X5 r X d[j].t:=(by unfold X5;rw[y3]);obtain⟨a8,v3⟩:=v1 _ (zx T);have v4:o0 Fj.heap d[j].a (fV d[j].t.a5R):=by
    have:=k8 N[j] (zx q8)
    rwa [z2] at this
   refine y8 ?_;refine r_ (w8 rfl (fun w g=>fq (C:=S9) (l:=d) (q:=((j:Nat):Int).toNat*5) (g.ownN (t:=156) (a:=m.a5C[i].a) ud).2.2.1 A_ qp T y4) (A_ _)) ?_;refine i7 rfl ?_;intro g9;refine O2 ?_;refine z_ (ps:=[]) _ rfl rfl rfl (lr b g2 g3 (Y6 d) m r q (fk U M) ⟨ua,uc,J,O⟩ hu d[j]) i_ (fun h hh e=>⟨hh _ _ (S.heap _ _ p2),hh _ _ (S.heap _ _ p3),I_ e,(y1.a5I.le (q0.trans S).heap).le hh⟩) rfl ?_;rintro v A ⟨rfl,rfl⟩;rw[w4];refine bd ?_ ?_<;>intro h2
   ·have q9:X5 r X d[j].t=false:=(by simpa using h2);rw[Et q9] at D;refine y8 ?_;refine O9 (i:=(j,Fj,(⟨N,U,M,ch,ua,uc,J,O⟩:Tl))) (j+1,Fj,⟨N,U,M,ch,ua,uc,J,O⟩) ⟨T,S,q7,k8,k9,K6 z1,K6 x2,?_⟩ qg sub rfl (fun w g=>g.drop);simp only;rw[D,u0]
   have q9:¬X5 r X d[j].t=false:=(by simpa using h2);obtain⟨q5,h5⟩:=o7 (r.hasS);obtain⟨q6,h6⟩:=o7 (decide (r.a5L<d[j].t.mod));refine u7 ?_;refine x6 [(0,m6 b),(3,dm m i),(5,.slice na d.length nc),(6,.bool ch),(7,iK g2 g3),(8,.int .i64 (j:Nat)),(9,m6 g9),(53,.slice m.a5C[i].a d.length m.a5C[i].c),(54,.int .i64 (d.length:Nat)),(55,.int .i64 (j:Nat)),(65,.bool (q5&&q6))]
    (.blk g9 (.cells (S9 d[j]).toArray 156)::.own (.slice ua U.length uc) 27 1 (nV U)::.own (.slice J M.length O) 27 1 (nV M)::.own (.slice na d.length nc) 156 5 (qN N)::R9 b m r q (fk U M) ⟨ua,uc,J,O⟩::T0 m.sa m.a5E m.sc::P4 m.ha m.a5D m.hc::S_ m.ba m.a5C m.bc::N_ m.a5C[i].a d m.a5C[i].c::(V_ (m.a5C.eraseIdx i)++R)) ?_ ?_
   ·cases q5
    all_goals (
     refine u7 ?_;refine D9 [4,7,12] [] [R9 b m r q (fk U M) ⟨ua,uc,J,O⟩,.blk g9 (.cells (S9 d[j]).toArray 156)] 16 ?_;refine wd [0,1,2,3] ?_;refine n8 4 rfl P5 (iu rfl .del (Tm h5)) I4 rfl rfl rfl i6 ?_;refine wd [5,6,7,8,9,10,11,12] ?_;(first|refine s_ 13 ?_|refine t_ 13 ?_|refine F6 13 rfl ((D8 rfl rfl).eq (qn ((qz).trans h6.symm))) rfl rfl rfl rfl rfl rfl i6 ?_);refine wd [14,15] ?_)
    all_goals exact p8 sub i_
   refine O1 ?_ ?_<;>intro h7
   ·rw[kx] at h7;rw[wR q9 ⟨h5.symm.trans h7.1,qr (h6.symm.trans h7.2)⟩] at D;refine u7 ?_;refine D9 [5,7] [8,9,13] [.blk g9 (.cells (S9 d[j]).toArray 156),R9 b m r q (fk U M) ⟨ua,uc,J,O⟩] 14 ?_;refine wd [0,1,2,3,4,5,6,7] ?_;refine h_ 8 rfl i6 ?_;refine x5 (ps:=[(0,.tmp 88)]) (vs:=[(0,.int .u64 (d[j].t.uid:Nat))]) (xs:=nV [d[j].t.uid]) rfl rfl rfl rfl rfl rfl rfl rfl ?_;intro b2 _;refine ae ?_;refine h_ 9 rfl i6 ?_;refine B_ (news:=nV [d[j].t.uid]) (m:=1) rfl rfl (fun a' c'=>uh) (fun w g=>(g.ownN (t:=27) ud).2.2.1) rfl rfl rfl (iv _) (by show(M.length+1)*8<=_;omega) (by show M.length+1<=9223372036854775807;omega) rfl ?_;intro w5 w7 _;refine E5 [10,11,12,13] ?_;refine y8 ?_;refine O9 (i:=(j,Fj,(⟨N,U,M,ch,ua,uc,J,O⟩:Tl))) (j+1,Fj,⟨N,U,M++[d[j].t.uid],ch,ua,uc,w5,w7⟩) ⟨T,S,q7,k8,k9,K6 z1,by simp;omega,?_⟩ qg sub rfl (fun w g=>?_)
    ·simp only;rw[D,u0]
    ·have e1:(M++[d[j].t.uid]).length=M.length+1:=(by rw[zz];rfl);simp only;rw[Ot _ _ _ _ _ _ _ _ _ _ _ _ rfl e1,e1,az];exact g.drop.drop
   have u1:¬(r.hasS=true/\r.a5L<d[j].t.mod):=by
    rintro⟨k1,k2⟩;rw[h5,h6,k1,jk k2] at h7;simp at h7
   refine u7 ?_;refine D9 [5,7] [8,9,13] [.blk g9 (.cells (S9 d[j]).toArray 156),R9 b m r q (fk U M) ⟨ua,uc,J,O⟩] 14 ?_;refine wd [0,1,2,3,4,5,6,7] ?_;refine h_ 8 rfl i6 ?_;refine x5 (ps:=[(0,.tmp 101)]) (vs:=[(0,.int .u64 (d[j].t.uid:Nat))]) (xs:=nV [d[j].t.uid]) rfl rfl rfl rfl rfl rfl rfl rfl ?_;intro OQ _;refine ae ?_;refine h_ 9 rfl i6 ?_;refine B_ (news:=nV [d[j].t.uid]) (m:=1) rfl rfl (fun a' c'=>uh) (fun w g=>(g.ownN (t:=27) ud).2.2.1) rfl rfl rfl (iv _) (by show(U.length+1)*8<=_;omega) (by show U.length+1<=9223372036854775807;omega) rfl ?_;intro p u _;refine E5 [10,11,12,13] ?_;have e1:(U++[d[j].t.uid]).length=U.length+1:=(by rw[zz];rfl);refine D5 (H':=.blk g9 (.cells (S9 d[j]).toArray 156)::.own (.slice p (U++[d[j].t.uid]).length u) 27 1 (nV (U++[d[j].t.uid]))::.own (.slice J M.length O) 27 1 (nV M)::.own (.slice na d.length nc) 156 5 (qN N)::R9 b m r q (fk (U++[d[j].t.uid]) M) ⟨p,u,J,O⟩::T0 m.sa m.a5E m.sc::P4 m.ha m.a5D m.hc::S_ m.ba m.a5C m.bc::N_ m.a5C[i].a d m.a5C[i].c::(V_ (m.a5C.eraseIdx i)++R)) (fun w g=>?_) ?_
   ·rw[Ot _ _ _ _ _ _ _ _ _ _ _ _ e1 rfl,e1,az];exact g.drop
   obtain⟨Y,hY⟩:=o7 (F8 d[j].t.a5R r.how r.a5R);refine u7 ?_;refine D9 [1,6,11] [12] [.blk g9 (.cells (S9 d[j]).toArray 156),R9 b m r q (fk (U++[d[j].t.uid]) M) ⟨p,u,J,O⟩] 18 ?_;refine wd [0,1,2,3,4,5,6,7,8,9,10,11] ?_;refine h_ 12 rfl i6 ?_;refine c_ (Eo d[j].t.a5R r.a5R r.how d[j].a q.fa d[j].c q.fc qb qb v3 u8) (fun h hh _=>⟨v4.le hh,(y1.a5R.le (q0.trans S).heap).le hh⟩) ?_;rw[<-hY];rintro v A ⟨ya,yc,rfl,rfl⟩;refine E5 [13,14,15,16,17] ?_;refine bd ?_ ?_<;>intro h8
   ·have x3:(F8 d[j].t.a5R r.how r.a5R).2≠0:=(by rw[<-hY];simpa using h8);rw[zA q9 u1 x3] at D;rw[D,show lB m i none=(m.s,B9,7) from rfl];refine C8 ?_;refine At.weaken (L':=[(2,.int .i64 7)]) (H':=(R9 b m r q (fk (U++[d[j].t.uid]) M) ⟨p,u,J,O⟩::T0 m.sa m.a5E m.sc::P4 m.ha m.a5D m.hc::S_ m.ba m.a5C m.bc::N_ m.a5C[i].a d m.a5C[i].c::(V_ (m.a5C.eraseIdx i)++R))++[.own (.slice p (U++[d[j].t.uid]).length u) 27 1 (nV (U++[d[j].t.uid])),.own (.slice J M.length O) 27 1 (nV M)]) ?_ sub (fun w g=>?_)
    ·refine dJ fun F3 h0 ⟨bs,e⟩=>?_;exact C9 m (fk (U++[d[j].t.uid]) M) ⟨p,u,J,O⟩ rfl rfl ((q0.trans S).trans h0) (fun w g=>zC o Q g) rfl qx (fun b e=>Mn.le ((q0.trans S).trans h0).heap (k0 b e)) ⟨A2.rd e ud,A2.rd e ud⟩
    ·have h9:=g.drop.drop;have x9:=h9.perm (kj (l₁:=[_,_]) (l₂:=_::R9 b m r q (fk (U++[d[j].t.uid]) M) ⟨p,u,J,O⟩::T0 m.sa m.a5E m.sc::P4 m.ha m.a5D m.hc::S_ m.ba m.a5C m.bc::N_ m.a5C[i].a d m.a5C[i].c::(V_ (m.a5C.eraseIdx i)++R)));exact x9.drop
   have x3:¬(F8 d[j].t.a5R r.how r.a5R).2≠0:=(by rw[<-hY];simpa using h8);refine u7 ?_;refine B4 (a:=na) (n:=d.length) (c:=nc) (sz:=5) (xs:=qN N) (te:=156) ud fun _ _ v5=>?_;have v5:=v5 qb;have b0:m.a5C[i].high<=9223372036854775807:=w1;refine E4 ?_;refine e_ rfl (HQ Y.1 d[j].t.a5R ya d[j].a yc d[j].c (by rw[hY];exact jd (Nc _ _ _) qb)) (fun h hh ⟨bs,e⟩=>⟨A2.rd e ud,v4.le hh⟩) rfl ?_;refine R6 ?_ ?_<;>intro x9
   ·have w9:¬(F8 d[j].t.a5R r.how r.a5R).1=d[j].t.a5R:=(by rw[<-hY];simpa using x9);rw[Eu q9 u1 x3 w9] at D;refine wk 9 ?_;refine r_ (i8 rfl (fun w g=>dO (j:=3) (g.ownN (t:=100) ud).2.2.1 p7 o rfl y4)) ?_;refine f_ ((K_ rfl rfl qb).eq (v':=.int .u64 ((m.a5C[i].high+1:Nat):Int)) (by congr 1)) ?_;refine y8 ?_;refine A9 (C:=S9) (v:=.slice ya Y.1.length yc) (l:=N) (i:=j) ⟨{d[j].t with a5R:=Y.1},ya,yc⟩ A_ q8 (j:=1) (by rw[z2];rfl) ?_;refine y8 ?_;refine A9 (C:=S9) (v:=.int .u64 ((m.a5C[i].high+1:Nat):Int)) (l:=N.set j ⟨{d[j].t with a5R:=Y.1},ya,yc⟩) (i:=j) ⟨{d[j].t with a5R:=Y.1,mod:=m.a5C[i].high+1},ya,yc⟩ A_ (by simpa using q8) (j:=2) (by rw[Q9];rfl) ?_;refine u7 ?_;rw[Jw];refine B8 (Z:=[A4 ya Y.1 yc]) tk fun F3 h0 ⟨bs,e⟩=>?_;have a0:o0 F3.heap ya (fV Y.1):=A2.rd e ud;clear e;refine y8 ?_;refine O9 (i:=(j,Fj,(⟨N,U,M,ch,ua,uc,J,O⟩:Tl))) (j+1,F3,⟨N.set j ⟨{d[j].t with a5R:=Y.1,mod:=m.a5C[i].high+1},ya,yc⟩,U++[d[j].t.uid],M,true,p,u,J,O⟩) ⟨T,S.trans h0,by simpa using q7,fun x hx=>?_,?_,by rw[e1];omega,K6 x2,?_⟩ qg sub rfl (fun w g=>g.drop)
    ·rcases jp hx with h6|rfl
     ·exact(k8 x h6).le h0.heap
     ·exact a0
    ·show(N.set j _).drop (j+1)=_;rw[Km qb];exact k9
    ·simp only;rw[D,dV q8,jm,hY,hX];rfl
   ·have a1:(F8 d[j].t.a5R r.how r.a5R).1=d[j].t.a5R:=(by rw[<-hY];simpa using x9);rw[zB q9 u1 x3 a1] at D;refine y8 ?_;refine O9 (i:=(j,Fj,(⟨N,U,M,ch,ua,uc,J,O⟩:Tl))) (j+1,Fj,⟨N,U++[d[j].t.uid],M,ch,p,u,J,O⟩) ⟨T,S,q7,k8,k9,by rw[e1];omega,K6 x2,?_⟩ qg sub rfl (fun w g=>g.drop.drop);simp only;rw[D,u0]
  ·have T:j=d.length:=(by have:=zq h;omega);have v6:SL=some (N.map LM.t,U,M,ch):=by
    rw[D,T,J6,kp qb];show(some _).map _=_;simp[bj]
   rw[v6];refine u7 ?_;refine B8 (Z:=[.own (.slice ua U.length uc) 27 1 (nV U),.own (.slice J M.length O) 27 1 (nV M)]) tk fun F3 h0 ⟨bs,e⟩=>?_;have u2:L9 (fk U M) ⟨ua,uc,J,O⟩ F3.heap:=⟨A2.rd e ud,A2.rd e ud⟩;clear e;have x0:=(q0.trans S).trans h0
   cases ch
   ·rw[show lB m i (some (N.map LM.t,U,M,false))=(m.s,fk U M,0) from rfl];refine bT ?_;exact C9 m (fk U M) ⟨ua,uc,J,O⟩ rfl rfl x0 (fun w g=>zC o Q g.drop) rfl (fun _=>rfl) (fun b e=>Mn.le x0.heap (k0 b e)) u2
   ·have v7:lB m i (some (N.map LM.t,U,M,true))=if D_<=m.a5C[i].high then(m.s,B9,13) else(jE m.s i {m.a5C[i].x with lts:=N.map LM.t,high:=m.a5C[i].high+1},fk U M,0):=by
     unfold lB;simp only[wS o];rfl
    rw[v7];clear v7;obtain⟨q4,h4⟩:=o7 (decide (D_<=m.a5C[i].high));refine aH ?_;refine r_ (i8 rfl (fun w g=>dO (j:=3) (g.ownN (t:=100) ud).2.2.1 p7 o rfl y4)) ?_;refine f_ ((I3 rfl rfl).eq (v':=.bool q4) (qn ((zh.2 (by show(9223372036854775807:Int)<=_↔9223372036854775807<=_;omega)).trans h4.symm))) ?_;refine u7 ?_
    cases q4
    case true=>
     rw[zu (qr h4.symm)];refine C8 ?_;exact C9 m (fk U M) ⟨ua,uc,J,O⟩ rfl rfl x0 (fun w g=>zC o Q g.drop) rfl qx (fun b e=>Mn.le x0.heap (k0 b e)) u2
    rw[zk (zq h4.symm)];have b3:m.a5C[i].high<9223372036854775807:=Wn.1 (zq h4.symm);refine u7 ?_;rw[<-q7];refine O2 ?_;refine A9 (C:=cZ) (v:=.slice na N.length nc) {m.a5C[i] with ls:=N,a:=na,c:=nc} p7 o (j:=4) rfl ?_;refine u7 ?_;obtain⟨V,v8⟩:∃V:BM,V={m.a5C[i] with ls:=N,a:=na,c:=nc}:=⟨_,rfl⟩;have y0:i<(m.a5C.set i V).length:=(by simpa using o);have v9:(m.a5C.set i V)[i]=V:=Q9 _;have a2:(m.a5C.set i V)[i]? =some V:=(by rw[zj y0,v9]);have f1:V.a=na/\V.ls=N/\V.c=nc/\V.next=m.a5C[i].next/\V.high=m.a5C[i].high/\V.val=m.a5C[i].val/\V.name=m.a5C[i].name:=(by subst v8;exact⟨rfl,rfl,rfl,rfl,rfl,rfl,rfl⟩);rw[<-v8];refine E4 ?_;refine r_ (i8 (v:=.int .u64 (m.a5C[i].high:Nat)) rfl (fun w g=>Fc (j:=3) (g.ownN (t:=100) ud).2.2.1 p7 V a2 (by rw[<-f1.2.2.2.2.1];rfl) y4)) ?_;refine f_ ((K_ rfl rfl qb).eq (v':=.int .u64 ((m.a5C[i].high+1:Nat):Int)) (by congr 1)) ?_;refine y8 ?_;refine A9 (C:=cZ) (v:=.int .u64 ((m.a5C[i].high+1:Nat):Int)) {V with high:=m.a5C[i].high+1} p7 y0 (j:=3) (by rw[v9];rfl) ?_;refine u7 ?_;rw[Jw];refine C8 ?_;refine C9 {m with a5C:=m.a5C.set i {V with high:=m.a5C[i].high+1}} (fk U M) ⟨ua,uc,J,O⟩ rfl rfl x0 (fun w g=>?_) ?_ (fun _=>rfl) (fun x hx=>?_) u2
    ·rw[uD];show Hp F3 w (_::T0 m.sa m.a5E m.sc::P4 m.ha m.a5D m.hc::S_ m.ba (m.a5C.set i {V with high:=m.a5C[i].high+1}) m.bc::(V_ (m.a5C.set i {V with high:=m.a5C[i].high+1})++R));rw[nG];refine uE {V with high:=m.a5C[i].high+1} o f1.1 f1.2.1 f1.2.2.1 ?_;have a6:=g.perm (kj (l₁:=[N_ na N nc]) (l₂:=[_,_,_,_])|>.append_right _);exact(a6.perm (Zr [_,_,_,_] (List.Perm.swap _ _ _)))|>fun a7=>(a7.perm (Qp (l₁:=[_,_,_,_]))).drop
    ·show({m.s with a5C:=_}:ML)=_;unfold jE;rw[aQ];simp only[BM.x,f1.2.1,f1.2.2.2.1,f1.2.2.2.2.2.1,f1.2.2.2.2.2.2]
    ·rcases jp hx with h5|rfl
     ·exact Mn.le x0.heap (k0 x h5)
     ·intro y hy;exact(k8 y (f1.2.1▸hy)).le h0.heap
theorem Nd{α:Type}{R:α->α->Prop}{k:List α}(h:k.Pairwise R){a b:α}(ha:a∈k)(g:b∈k)(d:a≠b):R a b\/R b a:=by
 obtain⟨i,e,rfl⟩:=Zz ha;obtain⟨j,f,rfl⟩:=Zz g;rw[Zn] at h;rcases Nat.lt_trichotomy i j with c|c|c
 ·exact .inl (h i j e f c)
 ·subst c;exact absurd rfl d
 ·exact .inr (h j i f e c)
theorem sM{α:Type}{f:α->α->Int}{m k:List α}(hc:xO k f)(hp:m.Perm k)(d:fP f m)(c:k.Pairwise fun x y=>f x y<0):m=k:=by
 refine List.Perm.eq_of_pairwise (le:=fun x y=>¬f y x<0) (fun a b ha g i j=>?_) d (c.imp_of_mem fun{x y} l n h=>hc.asym x l y n h) hp;by_cases e:a=b
 ·exact e
 ·rcases Nd c (hp.subset ha) g e with h|h
  ·exact absurd h j
  ·exact absurd h i
theorem wT(n:Nat)(a:n<=1000):Pu prog 191 [.int .u64 (n:Nat)] (fun _=>True) (.int .i64 (Lib.bitLen ((n:Nat):Int).toNat)):=U1 fun w _=>Tryz.bits_Len (n:Nat) w qb qb
theorem Nf(a b:Bs):Pu prog 112 [B a,B b] (fun _=>True) (.int .i64 (Lib.compareBytes a b)):=U1 fun w _=>Tryz.strings_Compare ⟨a.toArray⟩ ⟨b.toArray⟩ w
theorem Ev(l:List BM)(a:Option Addr)(c:Nat)(f:FuncId)[HF prog f](b:BM->BM->Int)(d:Int)(hc:xO l b)(e:∀x∈l,∀y∈l,Pu prog f [.agg (cZ x).toArray,.agg (cZ y).toArray] (fun _=>True) (.int .i64 (b x y)))(hl:l.length<=12):Ct prog 190 [.slice a l.length c,.int .i64 0,.int .i64 (l.length:Nat),.int .i64 d,.func (.func f) #[] #[]] (fun _=>True) [S_ a l c] (fun v A=>v=.tuple #[]/\∃m:List BM,m.Perm l/\fP b m/\A=[.own (.slice a l.length c) 100 5 (fb m)]):=by
 refine b_ 148 func190 rfl rfl rfl ?_;intro F _;refine y8 ?_;refine o9 (ι:=Unit) (fun _=>True) (fun _=>[(0,.slice a l.length c),(1,.int .i64 0),(2,.int .i64 (l.length:Nat)),(4,.func (.func f) #[] #[])]) (fun _=>[S_ a l c]) (fun _=>0) () trivial sub i_ ?_;rintro _ _;refine y8 ?_;refine f_ ((E0 rfl rfl qb).eq (v':=.int .i64 (l.length:Nat)) (by congr 1)) ?_;refine y8 ?_;refine f_ ((G2 rfl rfl).eq (v':=.bool true) (qn qk)) ?_;refine O2 ?_;refine c_ (Dy l a c f b hc e qb) qw ?_;rintro v A ⟨rfl,m,g,i,rfl⟩;refine oz ?_;exact l_ rfl _ ⟨rfl,m,g,i,rfl⟩ (fun _ h=>h)
theorem zD(l:List BM)(a:Option Addr)(c:Nat)(f:FuncId)[HF prog f](b:BM->BM->Int)(hc:xO l b)(d:∀x∈l,∀y∈l,Pu prog f [.agg (cZ x).toArray,.agg (cZ y).toArray] (fun _=>True) (.int .i64 (b x y)))(hl:l.length<=12):Ct prog 110 [.slice a l.length c,.func (.func f) #[] #[]] (fun _=>True) [S_ a l c] (fun v A=>v=.tuple #[]/\∃m:List BM,m.Perm l/\fP b m/\A=[.own (.slice a l.length c) 100 5 (fb m)]):=by
 refine b_ 14 func110 rfl rfl rfl ?_;intro F _;refine cQ ?_;refine f_ ((y9 rfl qb)) ?_;refine e_ rfl (wT l.length qb) qw rfl ?_;refine p_ ?_;refine c_ (Ev l a c f b _ hc d hl) qw ?_;rintro v A ⟨rfl,m,e,g,rfl⟩;refine u7 ?_;exact l_ rfl _ ⟨rfl,m,e,g,rfl⟩ (fun _ h=>h)
theorem zE(l:List HO)(a:Option Addr)(c:Nat)(f:FuncId)[HF prog f](b:HO->HO->Int)(d:Int)(hc:xO l b)(e:∀x∈l,∀y∈l,Pu prog f [.agg (gv x).toArray,.agg (gv y).toArray] (fun _=>True) (.int .i64 (b x y)))(hl:l.length<=12):Ct prog 251 [.slice a l.length c,.int .i64 0,.int .i64 (l.length:Nat),.int .i64 d,.func (.func f) #[] #[]] (fun _=>True) [P4 a l c] (fun v A=>v=.tuple #[]/\∃m:List HO,m.Perm l/\fP b m/\A=[.own (.slice a l.length c) 104 3 (Ka m)]):=by
 refine b_ 148 func251 rfl rfl rfl ?_;intro F _;refine y8 ?_;refine o9 (ι:=Unit) (fun _=>True) (fun _=>[(0,.slice a l.length c),(1,.int .i64 0),(2,.int .i64 (l.length:Nat)),(4,.func (.func f) #[] #[])]) (fun _=>[P4 a l c]) (fun _=>0) () trivial sub i_ ?_;rintro _ _;refine y8 ?_;refine f_ ((E0 rfl rfl qb).eq (v':=.int .i64 (l.length:Nat)) (by congr 1)) ?_;refine y8 ?_;refine f_ ((G2 rfl rfl).eq (v':=.bool true) (qn qk)) ?_;refine O2 ?_;refine c_ (yF l a c f b hc e qb) qw ?_;rintro v A ⟨rfl,m,g,i,rfl⟩;refine oz ?_;exact l_ rfl _ ⟨rfl,m,g,i,rfl⟩ (fun _ h=>h)
theorem wU(l:List HO)(a:Option Addr)(c:Nat)(f:FuncId)[HF prog f](b:HO->HO->Int)(hc:xO l b)(d:∀x∈l,∀y∈l,Pu prog f [.agg (gv x).toArray,.agg (gv y).toArray] (fun _=>True) (.int .i64 (b x y)))(hl:l.length<=12):Ct prog 185 [.slice a l.length c,.func (.func f) #[] #[]] (fun _=>True) [P4 a l c] (fun v A=>v=.tuple #[]/\∃m:List HO,m.Perm l/\fP b m/\A=[.own (.slice a l.length c) 104 3 (Ka m)]):=by
 refine b_ 14 func185 rfl rfl rfl ?_;intro F _;refine cQ ?_;refine f_ ((y9 rfl qb)) ?_;refine e_ rfl (wT l.length qb) qw rfl ?_;refine p_ ?_;refine c_ (zE l a c f b _ hc d hl) qw ?_;rintro v A ⟨rfl,m,e,g,rfl⟩;refine u7 ?_;exact l_ rfl _ ⟨rfl,m,e,g,rfl⟩ (fun _ h=>h)
theorem zF(x y:BM):Pu prog 111 [.agg (cZ x).toArray,.agg (cZ y).toArray] (fun _=>True) (.int .i64 (Lib.compareBytes x.name y.name)):=by
 refine b_ 10 func111 rfl rfl rfl ?_;intro F _;refine C6 ?_;refine m9 rfl rfl ?_;intro b;refine m9 rfl rfl ?_;intro c;refine aH ?_;refine e_ rfl (Nf x.name y.name) qw rfl ?_;refine C8 ?_;exact d_ rfl rfl [] qh (fun w a=>a.dropAll)
theorem zG(x y:HO)(hx:0<=x.node/\x.node<=100)(b:0<=y.node/\y.node<=100):Pu prog 186 [.agg (gv x).toArray,.agg (gv y).toArray] (fun _=>True) (.int .i64 (x.node-y.node)):=by
 refine b_ 10 func186 rfl rfl rfl ?_;intro F _;refine C6 ?_;refine m9 rfl rfl ?_;intro c;refine m9 rfl rfl ?_;intro d;refine KW ?_;exact d_ rfl rfl [] qh (fun w a=>a.dropAll)
theorem nH(a b:Bs):Lib.compareBytes a b<0↔gV a b=true:=by
 rw[<-yu,Jc]
abbrev Ub(x y:BM):Int:=Lib.compareBytes x.name y.name
theorem Iq{a b:Bs}(h:gV a b=true)(k:gV b a=true):False:=by
 have:=bS h k;rw[ir] at this
 cases this
theorem Ir(l:List BM):xO l Ub:=⟨fun x _ y _ h k=>Iq ((nH _ _).1 h) ((nH _ _).1 k),fun x _ y _ z _ c b a=>by
 unfold Ub at c b a;rw[nH] at c b a;by_cases e:x.name=y.name
 ·rw[e] at a;exact b a
 ·have d:gV y.name x.name=true:=dK e (by simpa using c);exact b (bS d a)⟩
def eU(b:BM):List BM->List BM
 |[]=>[b]
 |x::t=>if gV b.name x.name=true then b::x::t else x::eU b t
theorem wV(b:BM):∀l:List BM,(eU b l).map BM.x=jD b.x (l.map BM.x)
 |[]=>rfl
 |x::t=>by
  unfold eU;rw[Qu,jD];split
  ·rfl
  ·rw[Qu,wV b t]
theorem gJ(b:BM):∀l:List BM,(eU b l).Perm (l++[b])
 |[]=>.refl _
 |x::t=>by
  unfold eU;split
  ·exact(kj (l₁:=[b]) (l₂:=x::t))
  ·exact(gJ b t).cons x
theorem wW{b x:BM}{l:List BM}(h:x∈eU b l):x=b\/x∈l:=by
 have:=(gJ b l).subset h;rcases zc.1 this with h|h
 ·exact .inr h
 ·exact .inl (zg.1 h)
theorem mv(b:BM):∀{l:List BM},(l.Pairwise fun x y=>gV x.name y.name=true)->(∀x∈l,x.name≠b.name)->(eU b l).Pairwise fun x y=>gV x.name y.name=true
 |[],_,_=>Ks _ _
 |x::t,h,hn=>by
  obtain⟨d,f⟩:=Qq.1 h;unfold eU;split
  ·rename_i a;refine Qq.2 ⟨fun y c=>?_,h⟩;rcases ky.1 c with rfl|c
   ·exact a
   ·exact bS a (d y c)
  ·rename_i a;refine Qq.2 ⟨fun y c=>?_,mv b f fun z hz=>hn z (jj _ hz)⟩;rcases wW c with rfl|c
   ·exact dK (fun e=>hn x j9 e.symm) (by simpa using a)
   ·exact d y c
theorem Is{s:ML}{a:Bs}(h:xK s a=none):∀x∈s.a5C,x.name≠a:=fun x b e=>by
 unfold xK at h;rw[Q5] at h;have:=h x b;simp[e] at this
abbrev ej(name:Bs)(val:Nat):BM:=⟨name,val,1,1,[],none,0⟩
theorem Ng(b:BM)(l:List BM):(V_ (eU b l)).Perm (N_ b.a b.ls b.c::V_ l):=by
 have h:=(gJ b l).map fun b:BM=>N_ b.a b.ls b.c;rw[jm] at h;exact h.trans kj
theorem PW{F:l6}{w:World}{x y k u v:As}{a:Bs}{val:Nat}{l:List BM}{R:List As}(h:Hp F w (x::y::k::u::v::(V_ l++R))):Hp F w (k::(u::v::x::V_ (eU (ej a val) l)++R)):=by
 have b:Hp F w ([x,k,u,v]++(V_ l++R)):=(h.perm (kj (l₁:=[x]) (l₂:=[y])|>.append_right (k::u::v::(V_ l++R)))).drop;have c:Hp F w (N_ none [] 0::([x,k,u,v]++(V_ l++R))):=b.addNil _ _;have d:Hp F w ([x,k,u,v]++(N_ none [] 0::(V_ l++R))):=c.perm Qp.symm;have e:Hp F w ([x,k,u,v]++(V_ (eU (ej a val) l)++R)):=d.perm (((Ng (ej a val) l).symm.append_right R).append_left [x,k,u,v]);exact e.perm (kj (l₁:=[x]) (l₂:=[k,u,v])|>.append_right (V_ (eU (ej a val) l)++R))
theorem Ew(b:Nat)(m:MM)(r:RQ)(q:QL)(hm:m.a5C.length<=8)(hs:m.a5C.Pairwise fun x y=>gV x.name y.name=true)(hv:m.nval<=4294967296)(p:r.box.length<=ln):HL 59 b m r q (cV m.s r):=by
 refine x8 91 func59 rfl rfl rfl ?_;rintro F R ⟨a,V⟩;obtain⟨o,s⟩:=o7 (jf r.box);have d:o≠some r.box->cV m.s r=(m.s,B9,1):=fun h=>by unfold cV;rw[zu (by rw[<-s];exact h)]
 refine cQ ?_;refine e_ rfl (AW r.box p) qw rfl ?_;rw[<-s];refine aH ?_
 cases o with
 |none=>
  rw[d y4];refine wk 13 ?_;refine A3 ?_;exact C9 m B9 M8 rfl rfl (l6.le_refl _) i_ rfl qx a (L9.zero _)
 |some nm=>
  obtain⟨Q,u⟩:=o7 (decide (nm=r.box));refine wk 9 ?_;(first|refine u_ ?_|(refine v_ ?_;refine f_ ((E7 rfl rfl).eq (v':=.bool (!Q)) (jw (fun b=>Value.bool (!b)) u.symm)) ?_));refine y8 ?_
  cases Q
  ·rw[d (fun e=>zq u.symm (j8 e))];refine C8 ?_;exact C9 m B9 M8 rfl rfl (l6.le_refl _) i_ rfl qx a (L9.zero _)
  obtain rfl:nm=r.box:=qr u.symm;have S:cV m.s r=if(xK m.s r.box).isSome=true then(m.s,B9,12) else if 8<=m.a5C.length then(m.s,B9,7) else if eL<m.nval then(m.s,B9,13) else({m.s with a5C:=jD ⟨r.box,m.nval,1,1,[]⟩ m.s.a5C,nval:=m.nval+1},{B9 with val:=m.nval},0):=by
   unfold cV;rw[zk (by rw[<-s];simp),zm]
  rw[S];clear S;refine aH ?_;refine e_ rfl (oM m r.box qb) (fun h hh ⟨bs,p⟩=>A2.rd p ud) rfl ?_;refine bd ?_ ?_<;>intro h
  ·have z:¬D1 (fun b:BM=>decide (b.name=r.box)) m.a5C<0:=(by have:=qr h;omega);obtain⟨i,_,_,ha⟩:=gH z;rw[zu (by rw[ha];rfl)];refine C8 ?_;exact C9 m B9 M8 rfl rfl (l6.le_refl _) i_ rfl qx a (L9.zero _)
  have z:D1 (fun b:BM=>decide (b.name=r.box)) m.a5C<0:=by have:=zq h;omega
  have f:=gG z;rw[zk (by rw[f];simp)];refine wk 8 ?_;refine o8 rfl ?_ ?_<;>intro T
  ·have k:8<=m.a5C.length:=(by have:=qr T;omega);rw[zu k];refine C8 ?_;exact C9 m B9 M8 rfl rfl (l6.le_refl _) i_ rfl qx a (L9.zero _)
  have X:¬8<=m.a5C.length:=by have:=zq T;omega
  rw[zk X];obtain⟨U,j⟩:=o7 (decide (eL<m.nval));refine aH ?_;refine f_ ((D8 rfl rfl).eq (v':=.bool U) (qn ((zh.2 (by show(4294967295:Int)<_↔4294967295<_;omega)).trans j.symm))) ?_;refine p_ ?_
  cases U
  case true=>
   rw[zu (qr j.symm)];refine C8 ?_;exact C9 m B9 M8 rfl rfl (l6.le_refl _) i_ rfl qx a (L9.zero _)
  rw[zk (zq j.symm)];refine wk 10 ?_;refine D9 [5,11] [13,14,18] [R9 b m r q {B9 with val:=m.nval} M8] 19 ?_;refine wd [0,1,2,3,4,5,6,7,8,9,10,11,12] ?_;refine h_ 13 rfl i6 ?_;refine C4 cZ (ej r.box m.nval) rfl ?_;intro Y _;refine ae ?_;refine h_ 14 rfl i6 ?_;refine u6 cZ (l:=m.a5C) (m:=[ej r.box m.nval]) p7 AF (by show(m.a5C.length+1)*64<=_;omega) ?_ rfl rfl (fun _ _=>uh) (fun w n=>(n.ownN (t:=100) ud).2.2.1) (by show m.a5C.length+1<=9223372036854775807;omega);intro a72 c _;refine E5 [15,16,17,18] ?_;have C:(eU (ej r.box m.nval) m.a5C).Perm (m.a5C++[ej r.box m.nval]):=gJ _ _;have D:(eU (ej r.box m.nval) m.a5C).Pairwise fun x y=>Ub x y<0:=(mv (ej r.box m.nval) hs (fun x g=>Is f x.x (Zk g))).imp fun h=>(nH _ _).2 h;refine aH ?_;refine c_ (zD (m.a5C++[ej r.box m.nval]) a72 c 111 Ub (Ir _) (fun x _ y _=>zF x y) (by rw[zz];show m.a5C.length+1<=12;omega)) qw ?_;rintro v A ⟨rfl,Z,h9,J,rfl⟩;refine u7 ?_;obtain rfl:Z=eU (ej r.box m.nval) m.a5C:=sM (xO.perm (Ir _) C) (h9.trans C.symm) J D;have M:(eU (ej r.box m.nval) m.a5C).length=(m.a5C++[ej r.box m.nval]).length:=C.length_eq;have h3:m.nval<=4294967295:=Nat.not_lt.1 (zq j.symm);refine aH ?_;refine f_ ((K_ rfl rfl qb).eq (v':=.int .u64 ((m.nval+1:Nat):Int)) (by congr 1)) ?_;refine JW ?_;have O:(ML.mk (jD ⟨r.box,m.nval,1,1,[]⟩ m.s.a5C) (m.nval+1) m.a5D m.a5E m.nses m.a5O)={m with a5C:=eU (ej r.box m.nval) m.a5C,nval:=m.nval+1,ba:=a72,bc:=c:MM}.s:=by
   show _=ML.mk ((eU (ej r.box m.nval) m.a5C).map BM.x) _ _ _ _ _;rw[wV];rfl
  refine C9 {m with a5C:=eU (ej r.box m.nval) m.a5C,nval:=m.nval+1,ba:=a72,bc:=c} {B9 with val:=m.nval} M8 rfl rfl (l6.le_refl _) (fun w n=>?_) O.symm (fun _=>rfl) (fun x g=>?_) ⟨o0.nil _ _,o0.nil _ _⟩
  ·rw[<-M] at n;exact PW n
  ·rcases wW g with rfl|g
   ·exact fun _ h=>by cases h
   ·exact a x g
theorem lC(b:HO):∀l:List HO,(dy b l).Perm (l++[b])
 |[]=>.refl _
 |x::t=>by
  unfold dy;split
  ·exact(kj (l₁:=[b]) (l₂:=x::t))
  ·exact(lC b t).cons x
theorem It{b x:HO}{l:List HO}(h:x∈dy b l):x=b\/x∈l:=by
 have:=(lC b l).subset h;rcases zc.1 this with h|h
 ·exact .inr h
 ·exact .inl (zg.1 h)
theorem mw(b:HO):∀{l:List HO},(l.Pairwise fun x y=>x.node<y.node)->(∀x∈l,x.node≠b.node)->(dy b l).Pairwise fun x y=>x.node<y.node
 |[],_,_=>Ks _ _
 |x::t,h,hn=>by
  obtain⟨d,e⟩:=Qq.1 h;unfold dy;split
  ·rename_i a;refine Qq.2 ⟨fun y c=>?_,h⟩;rcases ky.1 c with rfl|c
   ·exact a
   ·exact Int.lt_trans a (d y c)
  ·rename_i a;refine Qq.2 ⟨fun y c=>?_,mw b e fun z hz=>hn z (jj _ hz)⟩;rcases It c with rfl|c
   ·have:=hn x j9;omega
   ·exact d y c
abbrev Ri(x y:HO):Int:=x.node-y.node
theorem BO(l:List HO):xO l Ri:=⟨fun x _ y _ h k=>by unfold Ri at h k;omega,fun x _ y _ z _ a b c=>by unfold Ri at a b c;omega⟩
def Ou(b:Nat)(m:MM)(r:RQ)(q:QL)(o:OC)(y:OL)(l:List HO)(v:Value)(A:List As):Prop:=v=.tuple #[]/\∃a c,A=[R9 b {m with a5D:=l,ha:=a,hc:=c} r q o y,P4 a l c]
theorem sN{m:MM}{n:Int}(h:D1 (fun x:HO=>decide (x.node=n)) m.a5D<0):gW m.s n=none:=by
 unfold D1 at h;unfold gW
 cases e:m.a5D.findIdx? fun x=>decide (x.node=n) with
 |none=>rfl
 |some i=>rw[e] at h;simp only[Option.elim] at h;omega
theorem sO{m:MM}{n:Int}(h:¬D1 (fun x:HO=>decide (x.node=n)) m.a5D<0):∃i:Nat,D1 (fun x:HO=>decide (x.node=n)) m.a5D=(i:Nat)/\i<m.a5D.length/\gW m.s n=some i:=by
 unfold D1 at h⊢;unfold gW
 cases e:m.a5D.findIdx? fun x=>decide (x.node=n) with
 |none=>rw[e] at h;simp only[Option.elim] at h;omega
 |some i=>exact⟨i,rfl,(kd.1 e).1,rfl⟩
theorem Nh{m:MM}{n:Int}(h:gW m.s n=none):∀x∈m.a5D,x.node≠n:=fun x a e=>by
 unfold gW at h;rw[Q5] at h;have:=h x a;simp[e] at this
theorem wX{m:MM}{n:Int}{t:Nat}(h:D1 (fun x:SX=>decide (x.node=n/\x.tr=t)) m.a5E<0):gr m.s n t=none:=by
 unfold D1 at h;unfold gr
 cases e:m.a5E.findIdx? fun x=>decide (x.node=n/\x.tr=t) with
 |none=>rfl
 |some i=>rw[e] at h;simp only[Option.elim] at h;omega
theorem wY{m:MM}{n:Int}{t:Nat}(h:¬D1 (fun x:SX=>decide (x.node=n/\x.tr=t)) m.a5E<0):∃i:Nat,D1 (fun x:SX=>decide (x.node=n/\x.tr=t)) m.a5E=(i:Nat)/\i<m.a5E.length/\gr m.s n t=some i:=by
 unfold D1 at h⊢;unfold gr
 cases e:m.a5E.findIdx? fun x=>decide (x.node=n/\x.tr=t) with
 |none=>rw[e] at h;simp only[Option.elim] at h;omega
 |some i=>exact⟨i,rfl,(kd.1 e).1,rfl⟩
theorem Ni(b:Nat)(m:MM)(r:RQ)(q:QL)(o:OC)(y:OL)(i:Nat)(h:HO):R9 b {m with a5D:=m.a5D.set i h} r q o y=R9 b m r q o y:=by
 unfold R9 Oe iD;simp only[js]
theorem Tn{F:l6}{w:World}{x y z k:As}(h:Hp F w [x,y,z,k]):Hp F w [k,x]:=((h.perm (kj (l₁:=[x]) (l₂:=[y,z,k]))).drop.drop)
theorem zH(b:Nat)(m:MM)(r:RQ)(q:QL)(o:OC)(y:OL)(i:Nat)(h:HO)(e:i<m.a5D.length)(l:m.a5D.length<=8):Ct prog 106 [m6 b,.int .i64 (i:Nat),.agg (gv h).toArray] (fun _=>True) [R9 b m r q o y,P4 m.ha m.a5D m.hc] (Ou b m r q o y (m.a5D.set i h)):=by
 refine b_ 34 func106 rfl rfl rfl ?_;intro F _;refine B4 (a:=m.ha) (n:=m.a5D.length) (c:=m.hc) (sz:=3) (xs:=Ka m.a5D) (te:=104) ud fun _ _ d=>?_;have d:=d qb;refine C6 ?_;refine m9 rfl rfl ?_;intro f;refine p_ ?_;refine f_ ((I3 rfl rfl).eq (v':=.bool true) (qn qk)) ?_;refine u7 ?_;refine D9 [4,6] [8] [.blk f (.cells (gv h).toArray 104),R9 b m r q o y] 9 ?_;refine wd [0,1,2,3,4,5,6,7] ?_;refine h_ 8 rfl i6 ?_;refine A9 (C:=gv) h O4 e (j:=0) rfl ?_;refine E5 [] ?_;refine A3 ?_;exact l_ rfl [R9 b m r q o y,P4 m.ha (m.a5D.set i h) m.hc] ⟨rfl,m.ha,m.hc,by rw[<-Ni b m r q o y i h]⟩ (fun w g=>by have k:=g.drop;unfold P4;rw[js];exact k)
theorem zI(b:Nat)(m:MM)(r:RQ)(q:QL)(o:OC)(y:OL)(h:HO)(J:m.a5D.length<=8)(hs:m.a5D.Pairwise fun x y=>x.node<y.node)(n:∀x∈m.a5D,x.node≠h.node)(p:∀x∈m.a5D,0<=x.node/\x.node<=100)(s:0<=h.node/\h.node<=100):Ct prog 106 [m6 b,.int .i64 (-1),.agg (gv h).toArray] (fun _=>True) [R9 b m r q o y,P4 m.ha m.a5D m.hc] (Ou b m r q o y (dy h m.a5D)):=by
 refine b_ 34 func106 rfl rfl rfl ?_;intro F _;refine C6 ?_;refine m9 rfl rfl ?_;intro u;refine y8 ?_;refine D9 [5,6] [7,8,12] [.blk u (.cells (gv h).toArray 104),R9 b m r q o y] 13 ?_;refine wd [0,1,2,3,4,5,6] ?_;refine h_ 7 rfl i6 ?_;refine C4 gv h rfl ?_;intro TU _;refine ae ?_;refine h_ 8 rfl i6 ?_;refine u6 gv (l:=m.a5D) (m:=[h]) O4 AK (by show(m.a5D.length+1)*24<=_;omega) ?_ rfl rfl (fun _ _=>uh) (fun w f=>(f.ownN (t:=104) ud).2.2.1) (by show m.a5D.length+1<=9223372036854775807;omega);intro a c _;refine E5 [9,10,11,12] ?_;have g:(dy h m.a5D).Perm (m.a5D++[h]):=lC _ _;have i:(dy h m.a5D).Pairwise fun x y=>Ri x y<0:=(mw h hs n).imp fun h=>by unfold Ri;omega
 have e:∀x∈m.a5D++[h],0<=x.node/\x.node<=100:=fun x d=>by
  rcases zc.1 d with d|d
  ·exact p x d
  ·rw[zg.1 d];exact s
 refine aH ?_;refine c_ (wU (m.a5D++[h]) a c 186 Ri (BO _) (fun x d y z=>zG x y (e x d) (e y z)) (by rw[zz];show m.a5D.length+1<=12;omega)) qw ?_;rintro v A ⟨rfl,C,D,j,rfl⟩;refine u7 ?_;obtain rfl:C=dy h m.a5D:=sM (xO.perm (BO _) g) (D.trans g.symm) j i;have k:(dy h m.a5D).length=(m.a5D++[h]).length:=g.length_eq;refine l_ rfl [R9 b {m with a5D:=dy h m.a5D,ha:=a,hc:=c} r q o y,P4 a (dy h m.a5D) c] ⟨rfl,a,c,rfl⟩ (fun w f=>?_);rw[<-k] at f;exact Tn f
