import Derived.Test.YtmcepdopookilaaGreatDoorutx16
set_option maxHeartbeats 16000000
set_option maxRecDepth 8000
set_option linter.unusedVariables false
set_option linter.unusedSimpArgs false
set_option linter.defProp false
namespace Go.Proofs.YtmcepdopookilaaGreatDoor.Rp
open Go Go.Sl Go.RowKit Go.Proofs.Tryz
theorem MR{l:List BM}{i:Nat}(a:i<l.length)(b:BM):(V9 (l.set i b)).Perm (O0 b.a b.ls b.c::V9 (l.eraseIdx i)):=by
 have h:=L1 (l:=l.set i b) (i:=i) (by simpa using a);rw[Q9,List.eraseIdx_set_eq] at h;exact h
theorem EV{α:Type}{C:α->List Value}{sz:Nat}{h:l_}{a:Option Addr}{l:List α}{q i j:Nat}{v:Value}(r:o0 h a (l.flatMap C))(b:∀x,(C x).length=sz)(x:α)(c:l[i]? =some x)(hv:(C x)[j]? =some v)(hq:q=i*sz+j):M0 h (N0 a q) [v]:=by
 obtain⟨d,rfl⟩:=Qw.1 c;exact cH r b d hv hq
theorem aQ(m:MM)(i:Nat)(b:BM):(m.a5F.set i b).map BM.x=(m.a5F.map BM.x).set i b.x:=Kb
theorem Ti{F:l6}{w:World}{x y z:As}{T:List As}(h:Hp F w (x::y::z::T)):Hp F w (x::T):=(h.perm (kz (l₁:=[x]) (l₂:=[y,z])|>.append_right T)).drop.drop
theorem uw(b:Nat)(m:MM)(r:RQ)(q:QL)(o:OC)(y:OL)(i:Nat)(B:BM):R9 b {m with a5F:=m.a5F.set i B} r q o y=R9 b m r q o y:=by
 unfold R9 NZ iA;simp only[js]
theorem nC(m:MM)(i:Nat)(B:BM):S9 m.ba (m.a5F.set i B) m.bc=.own (.slice m.ba m.a5F.length m.bc) 100 5 (fb (m.a5F.set i B)):=by
 unfold S9;rw[js]
theorem ux{F:l6}{w:World}{k x y z:As}{l:List BM}{i:Nat}{R:List As}{a:Option Addr}{ls:List LM}{c:Nat}(B:BM)(d:i<l.length)(ha:B.a=a)(b:B.ls=ls)(hc:B.c=c)(h:Hp F w (k::x::y::z::O0 a ls c::(V9 (l.eraseIdx i)++R))):Hp F w (k::x::y::z::(V9 (l.set i B)++R)):=by
 subst ha b hc;have e:Hp F w ([k,x,y,z]++((O0 B.a B.ls B.c::V9 (l.eraseIdx i))++R)):=h;exact e.perm (((MR d B).symm.append_right R).append_left [k,x,y,z])
theorem Ej(b:Nat)(m:MM)(r:RQ)(q:QL)(hm:m.a5F.length<=1000)(x9:∀x∈m.a5F,x.ls.length<=1000/\x.next<=4294967296/\x.high<=D9)(z2:r.a5U.length<=100000)(y0:∀f∈r.a5U,f.length<=lp):HB 61 b m r q (cY m.s r):=by
 refine y4 130 func61 rfl rfl rfl ?_;rintro F R ⟨u,k0⟩;refine p_ ?_;refine n7 (ι:=Nat) (fun _=>True) (fun z=>[(0,l9 b),(3,.int .i64 (D1 (fun b=>decide (b.name=r.box)) m.a5F)),(4,l9 z)]) (fun z=>.blk z (.cells (eA r q).toArray 44)::R9 b m r q B9 M9::(uL m++R)) ?_ ?_
 ·skip
  refine u7 ?_;refine D8 [3,8,13] [9,14,16] [R9 b m r q B9 M9] 17 ?_;refine wd [0,1,2,3,4,5,6,7,8,10,11,12,13] ?_;refine bv 9 14 rfl rfl i6 ?_ ?_;refine e_ rfl (oJ m r.box hm) (fun h hh ⟨bs,hb⟩=>A3.rd hb ud) rfl ?_;refine ah ?_;refine h_ 14 rfl i6 ?_;refine i7 rfl ?_;intro z;refine gj [15,16] ?_
  rotate_left 1
  refine i7 rfl ?_;intro z;refine ah ?_;refine h_ 9 rfl i6 ?_;refine e_ rfl (oJ m r.box hm) (fun h hh ⟨bs,hb⟩=>A3.rd hb ud) rfl ?_;refine gj [15,16] ?_
  rotate_left 1
  all_goals (refine u7 ?_)
  all_goals exact g_ z trivial i_
 rintro z _;refine bD ?_ ?_<;>intro h
 ·have es:cY m.s r=(m.s,B9,6):=by unfold cY;rw[gD (qr h)]
  rw[es];refine C8 ?_;exact C9 m B9 M9 rfl rfl (l6.le_refl _) (fun w d=>d.drop) rfl qx u (L_.zero _)
 obtain⟨i,hi,e,ha⟩:=gE (zq h);rw[hi];have k8:cY m.s r=if G1 r.a5U=false\/r.hash.length≠32\/4096<r.size then(m.s,B9,1) else if r.a5R≠m.a5R then(m.s,B9,15) else if 32<=m.a5F[i].ls.length then(m.s,B9,7) else if eK<m.a5F[i].next\/D9<=m.a5F[i].high then(m.s,B9,13)
   else(jC m.s i {m.a5F[i].x with high:=m.a5F[i].high+1,next:=m.a5F[i].next+1,lts:=m.a5F[i].x.lts++[⟨m.a5F[i].next,r.a5U,m.a5F[i].high+1,r.hash,r.size⟩]},{B9 with val:=m.a5F[i].val,a5L:=[m.a5F[i].next]},0):=by
  unfold cY;rw[ha];simp only[eS e,BM.x,zr]
 rw[k8];clear k8;obtain⟨u0,u1,u2⟩:=x9 _ (zx e);refine B4 (a:=m.ba) (n:=m.a5F.length) (c:=m.bc) (sz:=5) (xs:=fb m.a5F) (te:=100) ud fun _ _ J=>?_;have J:=J qb;refine wk 8 ?_;obtain⟨q1,h1⟩:=o7 (G1 r.a5U);obtain⟨q2,h2⟩:=o7 (decide (r.hash.length=32));obtain⟨q3,h3⟩:=o7 (decide (4096<r.size));refine w6 [(0,l9 b),(4,l9 z),(5,dq m i),(29,.bool (!q1||(!q2||q3)))] (.blk z (.cells (eA r q).toArray 44)::R9 b m r q B9 M9::(uL m++R)) ?_ ?_
 ·cases q1<;>cases q2
  all_goals (
   refine y9 ?_;refine e_ rfl (gG r.a5U q.fa q.fc qb y0) (fun h hh _=>k0.a5U.le hh) rfl ?_;rw[<-h1];refine au ?_;(first|refine u_ ?_|(refine v_ ?_;refine f_ ((M1 rfl rfl).eq (jk (fun x=>Value.bool (!x)) ((qz).trans h2.symm))) ?_));refine O2 ?_;(first|refine u_ ?_|(refine v_ ?_;refine f_ ((D_ rfl rfl).eq (qn ((qz).trans h3.symm))) ?_));refine y9 ?_)
  all_goals exact o_ sub i_
 refine u7 ?_;have u8:q1=false->G1 r.a5U=false:=fun k=>h1▸k;refine o8 rfl ?_ ?_<;>intro Q
 ·have hc:G1 r.a5U=false\/r.hash.length≠32\/4096<r.size:=by
   rw[<-h1]
   revert Q
   cases q1
   ·exact fun _=>.inl rfl
   cases q2
   ·exact fun _=>.inr (.inl (zq h2.symm))
   cases q3
   ·intro T;simp at T
   ·exact fun _=>.inr (.inr (qr h3.symm))
  rw[zu hc];refine C8 ?_;exact C9 m B9 M9 rfl rfl (l6.le_refl _) (fun w d=>d.drop) rfl qx u (L_.zero _)
 have hc:¬(G1 r.a5U=false\/r.hash.length≠32\/4096<r.size):=by
  rw[<-h1];rintro(k|k|k)
  ·rw[k] at Q;simp at Q
  ·rw[h2,jc k] at Q;cases q1<;>simp at Q
  ·rw[h3,kr k] at Q;cases q1<;>cases q2<;>simp at Q
 rw[zk hc];refine u7 ?_;obtain⟨q4,h4⟩:=o7 (decide (r.a5R=m.a5R));refine u7 ?_;refine D8 [1,6] [] [.blk z (.cells (eA r q).toArray 44),R9 b m r q B9 M9] 9 ?_;refine wd [0,1,2,3,4,5,6] ?_;refine w_ 7 rfl ((M1 rfl rfl).eq (v':=.bool (!q4)) (jk (fun x=>Value.bool (!x)) ((zp.2 Ju).trans h4.symm))) ?_;refine wd [8] ?_
 cases q4
 ·rw[zu (zq h4.symm)];refine C8 ?_;exact C9 m B9 M9 rfl rfl (l6.le_refl _) (fun w d=>d.drop) rfl qx u (L_.zero _)
 rw[zk (fun k=>k (qr h4.symm))];refine E5 ?_;refine r_ (i8 rfl (fun w d=>cH (j:=4) (d.ownN (t:=100) ud).2.2.1 p7 e rfl x6)) ?_;refine eI ?_ ?_<;>intro T
 ·have k:32<=m.a5F[i].ls.length:=by have:=qr T;omega
  rw[zu k];refine C8 ?_;exact C9 m B9 M9 rfl rfl (l6.le_refl _) (fun w d=>d.drop) rfl qx u (L_.zero _)
 have y1:¬32<=m.a5F[i].ls.length:=by have:=zq T;omega
 rw[zk y1];obtain⟨q5,h7⟩:=o7 (decide (eK<m.a5F[i].next));obtain⟨q6,h8⟩:=o7 (decide (D9<=m.a5F[i].high));refine u7 ?_;refine w6 [(0,l9 b),(4,l9 z),(5,dq m i),(61,.bool (q5||q6))] (.blk z (.cells (eA r q).toArray 44)::R9 b m r q B9 M9::(uL m++R)) ?_ ?_
 ·cases q5
  all_goals (
   refine E5 ?_;refine r_ (i8 rfl (fun w d=>cH (j:=2) (d.ownN (t:=100) ud).2.2.1 p7 e rfl x6)) ?_;refine f_ ((D_ rfl rfl).eq (qn ((zp.2 (by show(4294967295:Int)<_↔4294967295<_;omega)).trans h7.symm))) ?_;refine O2 ?_;(first|refine u_ ?_|(refine v_ ?_;refine r_ (i8 rfl (fun w d=>cH (j:=3) (d.ownN (t:=100) ud).2.2.1 p7 e rfl x6)) ?_));(first|refine u_ ?_|(refine v_ ?_;refine f_ ((I4 rfl rfl).eq (qn ((zp.2 (by show(9223372036854775807:Int)<=_↔9223372036854775807<=_;omega)).trans h8.symm))) ?_));refine y9 ?_)
  all_goals exact o_ sub i_
 refine N8 ?_ ?_<;>intro h9
 ·have k:eK<m.a5F[i].next\/D9<=m.a5F[i].high:=by
   rw[Zk] at h9;rcases h9 with k|k
   ·exact .inl (qr (h7.symm.trans k))
   ·exact .inr (qr (h8.symm.trans k))
  rw[zu k];refine C8 ?_;exact C9 m B9 M9 rfl rfl (l6.le_refl _) (fun w d=>d.drop) rfl qx u (L_.zero _)
 rw[Q1] at h9;have kn:¬eK<m.a5F[i].next:=zq (h7.symm.trans h9.1);have kh:¬D9<=m.a5F[i].high:=zq (h8.symm.trans h9.2);rw[zk (fun k=>k.elim kn kh)];have v0:m.a5F[i].next<=4294967295:=Nat.not_lt.1 kn;have v1:m.a5F[i].high<9223372036854775807:=Wn.1 kh;refine D5 (H':=.blk z (.cells (eA r q).toArray 44)::R9 b m r q B9 M9::S_ m.sa m.a5H m.sc::P5 m.ha m.a5G m.hc::S9 m.ba m.a5F m.bc::O0 m.a5F[i].a m.a5F[i].ls m.a5F[i].c::(V9 (m.a5F.eraseIdx i)++R)) (fun w d=>d.perm (((L1 e).append_right R).append_left [_,_,_,_,_])) ?_;refine E5 ?_;refine r_ (i8 rfl (fun w d=>cH (j:=3) (d.ownN (t:=100) ud).2.2.1 p7 e rfl x6)) ?_;refine f_ ((K_ rfl rfl qb).eq (v':=.int .u64 ((m.a5F[i].high+1:Nat):Int)) (by congr 1)) ?_;refine y9 ?_;refine A9 (C:=de) {m.a5F[i] with high:=m.a5F[i].high+1} p7 e (j:=3) rfl ?_;refine u7 ?_;obtain⟨o,k9⟩:∃o,o={m.a5F[i] with high:=m.a5F[i].high+1}:=⟨_,rfl⟩;have q0:i<(m.a5F.set i o).length:=by simpa using e
 have q7:(m.a5F.set i o)[i]=o:=Q9 _;have S:o.a=m.a5F[i].a/\o.ls=m.a5F[i].ls/\o.c=m.a5F[i].c/\o.next=m.a5F[i].next/\o.high=m.a5F[i].high+1/\o.val=m.a5F[i].val/\o.name=m.a5F[i].name:=by subst k9;exact⟨rfl,rfl,rfl,rfl,rfl,rfl,rfl⟩
 have X:(m.a5F.set i o)[i]? =some o:=by rw[zj q0,q7]
 rw[<-k9];refine u7 ?_;refine D8 [4,8,10,15,17,19] [11,21,22,25] [.own (.slice m.ba m.a5F.length m.bc) 100 5 (fb (m.a5F.set i o)),.blk z (.cells (eA r q).toArray 44)] 26 ?_;refine wd [0,1,2,3] ?_;refine n9 4 rfl P6 (i8 (v:=.slice m.a5F[i].a m.a5F[i].ls.length m.a5F[i].c) rfl (fun w d=>EV (j:=4) (d.ownN (t:=100) ud).2.2.1 p7 o X (by rw[<-S.1,<-S.2.1,<-S.2.2.1];rfl) x6)) I5 rfl rfl rfl i6 ?_;refine wd [5,6,7] ?_;refine n9 8 rfl P6 (i8 (v:=.int .u64 (m.a5F[i].next:Nat)) rfl (fun w d=>EV (j:=2) (d.ownN (t:=100) ud).2.2.1 p7 o X (by rw[<-S.2.2.2.1];rfl) x6)) I5 rfl rfl rfl i6 ?_;refine wd [9,10,12,13,14] ?_;refine n9 15 rfl P6 (i8 (v:=.int .u64 ((m.a5F[i].high+1:Nat):Int)) rfl (fun w d=>EV (j:=3) (d.ownN (t:=100) ud).2.2.1 p7 o X (by rw[<-S.2.2.2.2.1];rfl) x6)) I5 rfl rfl rfl i6 ?_;refine wd [16,17,18,19] ?_;refine h_ 11 rfl i6 ?_;refine c_ (Y5 r.a5U q.fa q.fc qb) (fun h hh _=>k0.a5U.le hh) ?_;rintro v A ⟨na,nc,rfl,rfl⟩;refine gj [20] ?_;refine h_ 21 rfl i6 ?_;refine C4 S8 ⟨⟨m.a5F[i].next,r.a5U,m.a5F[i].high+1,r.hash,r.size⟩,na,nc⟩ rfl ?_;intro OM y2;refine ah ?_;refine h_ 22 rfl i6 ?_;refine u6 S8 (l:=m.a5F[i].ls) (m:=[⟨⟨m.a5F[i].next,r.a5U,m.a5F[i].high+1,r.hash,r.size⟩,na,nc⟩]) A_ nh (by show(m.a5F[i].ls.length+1)*64<=_;omega) ?_;intro p s _;obtain⟨U,Y⟩:∃U,U=m.a5F[i].ls++[⟨⟨m.a5F[i].next,r.a5U,m.a5F[i].high+1,r.hash,r.size⟩,na,nc⟩]:=⟨_,rfl⟩;rw[<-Y];refine E6 [23,24] ?_;refine h_ 25 rfl i6 ?_;refine A9 (C:=de) (v:=.slice p U.length s) {o with ls:=U,a:=p,c:=s} p7 q0 (j:=4) (by rw[q7];rfl) ?_;refine E6 [] ?_;rw[Jw];obtain⟨g,q8⟩:∃g:BM,g={o with ls:=U,a:=p,c:=s}:=⟨_,rfl⟩;rw[<-q8];have q9:i<(m.a5F.set i g).length:=by simpa using e
 have x0:(m.a5F.set i g)[i]=g:=Q9 _;have h0:(m.a5F.set i g)[i]? =some g:=by rw[zj q9,x0]
 have M:g.a=p/\g.ls=U/\g.c=s/\g.next=m.a5F[i].next/\g.high=m.a5F[i].high+1/\g.val=m.a5F[i].val/\g.name=m.a5F[i].name:=by subst q8;exact⟨rfl,rfl,rfl,S.2.2.2.1,S.2.2.2.2.1,S.2.2.2.2.2.1,S.2.2.2.2.2.2⟩
 refine B8 (Z:=[A4 na r.a5U nc]) tk fun F1 O ⟨bs,x1⟩=>?_;have y3:o0 F1.heap na (fV r.a5U):=A3.rd x1 ud;clear x1;refine n7 (ι:=Option Addr) (fun _=>True) (fun _=>[(0,l9 b),(5,dq m i)]) (fun ua=>.own (.slice ua 1 1) 27 1 (nV [m.a5F[i].next])::R9 b m r q {B9 with val:=m.a5F[i].val,a5L:=[m.a5F[i].next]} ⟨ua,1,none,0⟩::S_ m.sa m.a5H m.sc::P5 m.ha m.a5G m.hc::.own (.slice m.ba m.a5F.length m.bc) 100 5 (fb (m.a5F.set i g))::O0 p U s::(V9 (m.a5F.eraseIdx i)++R)) ?_ ?_
 ·skip
  refine u7 ?_;refine D8 [5,9] [10,14,18] [.own (.slice m.ba m.a5F.length m.bc) 100 5 (fb (m.a5F.set i g)),R9 b m r q B9 M9] 19 ?_;refine wd [0,1,2,3,4] ?_;refine n9 5 rfl P6 (i8 (v:=.int .u64 (m.a5F[i].val:Nat)) rfl (fun w d=>EV (j:=1) (d.ownN (t:=100) ud).2.2.1 p7 g h0 (by rw[<-M.2.2.2.2.2.1];rfl) x6)) I5 rfl rfl rfl i6 ?_;refine wd [6,7,8] ?_;refine n9 9 rfl P6 (i8 (v:=.int .u64 (m.a5F[i].next:Nat)) rfl (fun w d=>EV (j:=2) (d.ownN (t:=100) ud).2.2.1 p7 g h0 (by rw[<-M.2.2.2.1];rfl) x6)) I5 rfl rfl rfl i6 ?_;refine wd [11,12,13] ?_;refine bv 10 14 rfl rfl i6 ?_ ?_;refine x7 (ps:=[(0,.tmp 115)]) (vs:=[(0,.int .u64 (m.a5F[i].next:Nat))]) (xs:=nV [m.a5F[i].next]) rfl rfl rfl rfl rfl rfl rfl rfl ?_;intro V _;refine gj [14,15,16,17,18] ?_
  rotate_left 1
  (first|refine qP (pre:=[_,_,_,_,_,_,_,_,_,_,_,_,_,_,_,_,_,_,_,_,_,_,_,_,_]) (post:=[_,_]) rfl rfl uh (by rfl) (by rfl) (by rfl) ?_|refine T7 rfl rfl uh (by rfl) (by(intro q hq;simp[Value.cells] at hq;first|(subst hq;rfl)|(rcases hq with rfl|rfl|rfl|rfl|rfl|rfl|rfl|rfl<;>rfl)|(rcases hq with rfl|rfl|rfl|rfl|rfl|rfl|rfl|rfl|rfl|rfl|rfl|rfl|rfl|rfl|rfl|rfl|rfl|rfl|rfl|rfl<;>rfl))) (by rfl) ?_);refine xB ?_;refine h_ 10 rfl i6 ?_;refine x7 (ps:=[(0,.tmp 115)]) (vs:=[(0,.int .u64 (m.a5F[i].next:Nat))]) (xs:=nV [m.a5F[i].next]) rfl rfl rfl rfl rfl rfl rfl rfl ?_;intro V _;refine E6 [15,16,17,18] ?_
  rotate_left 1
  all_goals (refine u7 ?_)
  all_goals exact g_ V trivial (fun w d=>Ti d)
 rintro ua _;refine u7 ?_;refine B8 (Z:=[.own (.slice ua 1 1) 27 1 (nV [m.a5F[i].next])]) tk fun F2 D ⟨bs,x2⟩=>?_;have z0:o0 F2.heap ua (nV [m.a5F[i].next]):=A3.rd x2 ud;clear x2;refine E5 ?_;refine r_ (i8 (v:=.int .u64 (m.a5F[i].next:Nat)) rfl (fun w d=>EV (j:=2) (d.ownN (t:=100) ud).2.2.1 p7 g h0 (by rw[<-M.2.2.2.1];rfl) x6)) ?_;refine f_ ((K_ rfl rfl qb).eq (v':=.int .u64 ((m.a5F[i].next+1:Nat):Int)) (by congr 1)) ?_;refine y9 ?_;refine A9 (C:=de) (v:=.int .u64 ((m.a5F[i].next+1:Nat):Int)) {g with next:=m.a5F[i].next+1} p7 q9 (j:=2) (by rw[x0];rfl) ?_;refine u7 ?_;rw[Jw];refine C8 ?_;refine C9 {m with a5F:=m.a5F.set i {g with next:=m.a5F[i].next+1}} {B9 with val:=m.a5F[i].val,a5L:=[m.a5F[i].next]} ⟨ua,1,none,0⟩ rfl rfl (O.trans D) (fun w d=>?_) ?_ (fun _=>rfl) (fun x hx=>?_) ⟨z0,o0.nil _ _⟩
 ·rw[uw];show Hp F2 w (_::S_ m.sa m.a5H m.sc::P5 m.ha m.a5G m.hc::S9 m.ba (m.a5F.set i {g with next:=m.a5F[i].next+1}) m.bc::(V9 (m.a5F.set i {g with next:=m.a5F[i].next+1})++R));rw[nC];exact ux {g with next:=m.a5F[i].next+1} e M.1 M.2.1 M.2.2.1 d
 ·show({m.s with a5F:=_}:ML)=_;unfold jC;rw[aQ];simp only[BM.x,M.2.1,M.2.2.2.2.1,M.2.2.2.2.2.1,M.2.2.2.2.2.2,Y,jn,Qu,Jj]
 ·rcases jd hx with Q|rfl
  ·exact Mn.le (O.trans D).heap (u x Q)
  ·intro y hy;have x3:y∈U:=M.2.1▸hy;rw[Y] at x3;rcases zb.1 x3 with T|T
   ·exact(u _ (zx e) y T).le (O.trans D).heap
   ·obtain rfl:=zg.1 T;exact y3.le D.heap
def fS(r:RQ)(most:Nat)(x:LM):Bool:=decide (jD∈x.t.a5U)&&(r.a5L.isEmpty||gN r.a5L most x.t.uid)
theorem MS(r:RQ)(b:BM)(x:LM):jE r b.x x.t=fS r (Y7 b.ls) x:=by
 unfold jE fS X7;rw[pO]
abbrev BC(b g1 g5 g2 g3 most:Nat)(m:MM)(r:RQ)(q:QL)(o:OC)(y:OL)(l:List LM)(h:l_):Prop:=aK g1 (l9 b) 132 h/\aK g5 (iG g2 g3) 196 h/\vS b g2 g3 most m r q o y h/\iz l h
theorem BD(b g1 n p g3 c:Nat)(m:MM)(r:RQ)(q:QL)(o:OC)(y:OL)(z:r.a5L.length<=1000000)(l:List LM)(x:LM)(hx:x∈l)(hf:x.t.a5U.length<=1000000):Pu prog 120 [.agg (S8 x).toArray,l9 g1,l9 n] (BC b g1 n p g3 c m r q o y l) (.bool (fS r c x)):=by
 obtain⟨C,s⟩:=o7 (decide (jD∈x.t.a5U));obtain⟨D,u⟩:=o7 (r.a5L.isEmpty);unfold fS;rw[<-s,<-u];refine b_ 22 func120 rfl rfl rfl ?_;rintro F ⟨J,M,e,f⟩;obtain⟨g,i,j,k⟩:=e;refine C6 ?_;refine m9 rfl rfl ?_;intro g3;refine p_ ?_
 cases C<;>cases D
 all_goals (
  refine y9 ?_;refine e_ rfl (uq x.t.a5U x.a x.c jD qb) (fun h d _=>(f x hx).le d) rfl ?_;rw[<-s];refine wk 7 ?_;(first|refine u_ ?_|(refine v_ ?_;refine f_ ((p8 rfl rfl).eq (qn (show _=r.a5L.isEmpty from by cases r.a5L with|nil=>rfl|cons a t=>simp<;>omega)|>.trans (qn u.symm))) ?_));refine E5 ?_;(first|refine u_ ?_|(refine v_ ?_;refine A0 (ps:=[]) _ rfl rfl rfl (lu b p _ c m r q o y z x) i_ (fun h d _=>⟨d _ _ g,d _ _ i,d _ _ j,k.le d⟩) rfl ?_;rintro v A ⟨rfl,rfl⟩));refine E5 ?_)
 all_goals (refine A2 ?_;exact d_ rfl rfl [] qh (fun w O=>O.dropAll))
abbrev Tj(g1 g5:Nat):Value:=.func (.func 120) #[] #[l9 g1,l9 g5]
abbrev Oj(u:List Nat):OC:={B9 with a5L:=u}
theorem mP{α β:Type}(f:α->β)(q:α->Bool){l:List α}{j:Nat}(a:j<l.length):((l.take (j+1)).filter q).map f=((l.take j).filter q).map f++if q l[j] then[f l[j]] else[]:=by
 rw[J_ q a,jn];split<;>simp
theorem MT(b:Nat)(m:MM)(r:RQ)(q:QL)(u:List Nat)(ua:Option Addr)(uc n:Nat)(h:u.length=n):R9 b m r q (Oj u) ⟨ua,uc,none,0⟩=.blk b (.cells (iA m++eA r q++([.int .i64 0,.int .u64 ((0:Nat):Int),.int .u64 ((0:Nat):Int),.slice ua n uc,.slice none 0 0]:List Value)).toArray 136):=by subst h;rfl
theorem yZ(b:Nat)(m:MM)(r:RQ)(q:QL)(hm:m.a5F.length<=1000)(q6:∀x∈m.a5F,x.ls.length<=1000/\x.high<=D9/\∀y∈x.ls,y.t.a5U.length<=1000000)(hu:r.a5L.length<=1000000):HB 63 b m r q (bd m.s r):=by
 refine y4 74 func63 rfl rfl rfl ?_;rintro F R ⟨J,h6⟩;refine C6 ?_;refine L2 rfl rfl rfl ?_;intro U;refine p_ ?_
 cases hn:named m.s r with
 |none=>
  have es:bd m.s r=(m.s,B9,6):=by unfold bd;rw[hn]
  rw[es];refine p_ ?_;refine e_ rfl (ed b m r q B9 M9 hm) (fun h z g=>⟨I_ g,by obtain⟨bs,g⟩:=g;exact A3.rd g ud⟩) rfl ?_;rw[hn,show fQ m none=.tuple #[.pointer none,.bool false] from rfl];refine NN ?_;exact C9 m B9 M9 rfl rfl (l6.le_refl _) (fun w l=>l.drop) rfl qx J (L_.zero _)
 |some i=>
  have f:=pN hn;obtain⟨h7,x1,h8⟩:=q6 _ (zx f);refine p_ ?_;refine e_ rfl (ed b m r q B9 M9 hm) (fun h z g=>⟨I_ g,by obtain⟨bs,g⟩:=g;exact A3.rd g ud⟩) rfl ?_;rw[hn,show fQ m (some i)=.tuple #[dq m i,.bool true] from rfl];refine wk 7 ?_;refine D5 (H':=.blk U (.cells #[l9 b] 132)::R9 b m r q B9 M9::S_ m.sa m.a5H m.sc::P5 m.ha m.a5G m.hc::S9 m.ba m.a5F m.bc::O0 m.a5F[i].a m.a5F[i].ls m.a5F[i].c::(V9 (m.a5F.eraseIdx i)++R)) (fun w l=>l.perm (((L1 f).append_right R).append_left [_,_,_,_,_])) ?_;refine y9 ?_;refine c_ (pP b m i f h7) ?pre ?_;(case pre=>exact fun h z ⟨bs,g⟩=>⟨A3.rd g ud,A3.rd g ud⟩);rintro v A ⟨Y,g3,rfl,rfl⟩;refine p_ ?_;intro g5;refine p_ ?_;refine B8 (Z:=[.blk g5 (.cells #[iG Y g3] 196),.blk g3 (.cells #[.int .u64 (Y7 m.a5F[i].ls:Nat)] 27),.blk Y (.cells #[l9 b] 132),.blk U (.cells #[l9 b] 132)]) tk fun F1 h0 g=>?_;have p5:aK g5 (iG Y g3) 196 F1.heap:=I_ g;have p3:aK g3 (.int .u64 (Y7 m.a5F[i].ls:Nat)) 27 F1.heap:=I_ g;have p2:aK Y (l9 b) 132 F1.heap:=I_ g;have p1:aK U (l9 b) 132 F1.heap:=I_ g;clear g;refine B4 (a:=m.ba) (n:=m.a5F.length) (c:=m.bc) (sz:=5) (xs:=fb m.a5F) (te:=100) ud fun _ _ O=>?_;have O:=O qb;refine au ?_;refine r_ (i8 rfl (fun w l=>cH (j:=4) (l.ownN (t:=100) ud).2.2.1 p7 f rfl x6)) ?_;refine y9 ?_;refine B4 (a:=m.a5F[i].a) (n:=m.a5F[i].ls.length) (c:=m.a5F[i].c) (sz:=5) (xs:=qH m.a5F[i].ls) (te:=156) ud fun _ _ h9=>?_;refine O7 27 1 ?_;obtain⟨e,Q⟩:=o7 (Y7 m.a5F[i].ls);rw[<-Q] at p3;obtain⟨d,s⟩:∃d:Nat->List Nat,∀j,d j=((m.a5F[i].ls.take j).filter (fS r e)).map fun x=>x.t.uid:=⟨_,fun _=>rfl⟩;have h3:d 0=[]:=by rw[s];rfl
  have S:∀j,(d j).length<=1000:=fun j=>by
   rw[s,zr];refine ju (Qn _ _) (ju (List.length_take_le' _ _) h7)
  refine O6 (fun j (u:Option Addr) (D:Nat)=>j<=m.a5F[i].ls.length) (fun j u D=>[(1,l9 U),(3,dq m i),(6,Tj U g5),(23,.slice m.a5F[i].a m.a5F[i].ls.length m.a5F[i].c),(24,.int .i64 (m.a5F[i].ls.length:Nat)),(25,.int .i64 (j:Nat))])
   (fun j u D=>.own (.slice u (d j).length D) 27 1 (nV (d j))::R9 b m r q (Oj (d j)) ⟨u,D,none,0⟩::S_ m.sa m.a5H m.sc::P5 m.ha m.a5G m.hc::S9 m.ba m.a5F m.bc::O0 m.a5F[i].a m.a5F[i].ls m.a5F[i].c::(V9 (m.a5F.eraseIdx i)++R)) (fun j _ _=>m.a5F[i].ls.length-j) 0 none 0 (zw _) sub (fun w l=>by rw[h3];exact l) ?_
  rintro j u D hj;refine R6 ?_ ?_<;>intro h
  ·have M:j<m.a5F[i].ls.length:=(by have:=qr h;omega);have h9:=h9 qb;refine p_ ?_;refine r_ (w8 rfl (fun w l=>fe (l.ownN (t:=156) ud).2.2.1 A_ qp M x6) (A_ _)) ?_;refine i7 rfl ?_;intro g8;refine E5 ?_;refine A0 (ps:=[]) _ rfl rfl rfl (BD b U g5 Y g3 e m r q (Oj (d j)) ⟨u,D,none,0⟩ hu m.a5F[i].ls m.a5F[i].ls[j] (zx M) (h8 _ (zx M))) i_ (fun h z g=>⟨z _ _ p1,z _ _ p5,⟨z _ _ p2,z _ _ p3,I_ g,(h6.a5L.le h0.heap).le z⟩,Mn.le z (Mn.le h0.heap (J _ (zx f)))⟩) rfl ?_;rintro v A ⟨rfl,rfl⟩;refine u7 ?_;have o:=mP (fun x:LM=>x.t.uid) (fS r e) M;rw[<-s,<-s] at o;refine o8 rfl ?_ ?_<;>intro h2
   ·rw[h2,zu rfl] at o;refine u7 ?_;refine D8 [0,1,5,7] [8,9,13] [.blk g8 (.cells (S8 m.a5F[i].ls[j]).toArray 156),R9 b m r q (Oj (d j)) ⟨u,D,none,0⟩] 14 ?_;refine wd [0,1,2,3,4,5,6,7] ?_;refine h_ 8 rfl i6 ?_;refine x7 (ps:=[(0,.tmp 39)]) (vs:=[(0,.int .u64 (m.a5F[i].ls[j].t.uid:Nat))]) (xs:=nV [m.a5F[i].ls[j].t.uid]) rfl rfl rfl rfl rfl rfl rfl rfl ?_;intro x2 _;refine ah ?_;refine h_ 9 rfl i6 ?_;refine C0 (news:=nV [m.a5F[i].ls[j].t.uid]) (m:=1) rfl rfl (fun a' c'=>uh) (fun w l=>(l.ownN (t:=27) ud).2.2.1) rfl rfl rfl (iq _) (by show((d j).length+1)*8<=_;have:=S j;omega) (by show(d j).length+1<=9223372036854775807;have:=S j;omega) rfl ?_;intro Rt q7 _;refine gj [10,11,12,13] ?_;refine y9 ?_;refine l8 (i:=(j,u,D)) (j+1,Rt,q7) qg qg sub (fun w l=>?_);have e1:(d (j+1)).length=(d j).length+1:=(by rw[o,zz];rfl);simp only;rw[MT _ _ _ _ _ _ _ _ e1,e1,o,aB];exact l.drop.drop
   ·rw[h2,zk x6,z7] at o;refine y9 ?_;exact l8 (i:=(j,u,D)) (j+1,u,D) qg qg sub (fun w l=>by simp only;rw[o];exact l.drop)
  ·have M:j=m.a5F[i].ls.length:=(by have:=zq h;omega);have k8:(jE r m.a5F[i].x)∘LM.t=fS r e:=by
    funext x;show jE r m.a5F[i].x x.t=_;rw[MS,Q]
   have q8:(m.a5F[i].x.lts.filter (jE r m.a5F[i].x)).map LT.uid=d j:=by
    rw[s,M,j9,Yk,k8,Jn];rfl
   have es:bd m.s r=if d j=[] then(m.s,B9,0) else if D9<=m.a5F[i].high then(m.s,B9,13) else(jC m.s i {m.a5F[i].x with lts:=m.a5F[i].x.lts.filter fun x=>!jE r m.a5F[i].x x,high:=m.a5F[i].high+1},{B9 with a5L:=d j},0):=by
    unfold bd;rw[hn];simp only[eS f,q8]
   rw[es];clear es;refine u7 ?_;refine B8 (Z:=[.own (.slice u (d j).length D) 27 1 (nV (d j))]) tk fun F2 T ⟨bs,g⟩=>?_;have k9:o0 F2.heap u (nV (d j)):=A3.rd g ud;clear g;have k:=h0.trans T;have q9:aK U (l9 b) 132 F2.heap:=T.heap _ _ p1;obtain⟨q1,h1⟩:=o7 (decide (d j=[]));refine cG ?_;refine f_ ((p8 rfl rfl).eq (v':=.bool q1) (qn (by rw[h1];exact zp.2 (by show(((d j).length:Nat):Int)=0↔_;cases d j<;>simp<;>omega)))) ?_;refine u7 ?_
   cases q1
   ·have k0:d j≠[]:=zq h1.symm;rw[zk k0];refine u7 ?_;obtain⟨q2,h2⟩:=o7 (decide (D9<=m.a5F[i].high));refine E5 ?_;refine r_ (i8 rfl (fun w l=>cH (j:=3) (l.ownN (t:=100) ud).2.2.1 p7 f rfl x6)) ?_;refine f_ ((I4 rfl rfl).eq (v':=.bool q2) (qn ((zp.2 (by show(9223372036854775807:Int)<=_↔9223372036854775807<=_;omega)).trans h2.symm))) ?_;refine u7 ?_
    cases q2
    ·rw[zk (zq h2.symm)];have x3:m.a5F[i].high<9223372036854775807:=Wn.1 (zq h2.symm);refine O2 ?_;refine r_ (i8 rfl (fun w l=>cH (j:=4) (l.ownN (t:=100) ud).2.2.1 p7 f rfl x6)) ?_;refine p_ ?_;refine c_ (tM m.a5F[i].ls m.a5F[i].a m.a5F[i].c 120 [l9 U,l9 g5] (BC b U g5 Y g3 e m r q (Oj (d j)) ⟨u,D,none,0⟩ m.a5F[i].ls) (fS r e) (fun x hx=>BD b U g5 Y g3 e m r q (Oj (d j)) ⟨u,D,none,0⟩ hu m.a5F[i].ls x hx (h8 _ hx)) qb) ?pre ?_;(case pre=>exact fun h z g=>⟨z _ _ q9,z _ _ (T.heap _ _ p5),⟨z _ _ (T.heap _ _ p2),z _ _ (T.heap _ _ p3),I_ g,(h6.a5L.le k.heap).le z⟩,Mn.le z (Mn.le k.heap (J _ (zx f)))⟩);rintro v A ⟨rfl,rfl⟩;refine y9 ?_;refine A9 (C:=de) (v:=.slice m.a5F[i].a (m.a5F[i].ls.filter fun x=>!fS r e x).length m.a5F[i].c) {m.a5F[i] with ls:=m.a5F[i].ls.filter fun x=>!fS r e x} p7 f (j:=4) rfl ?_;refine u7 ?_;obtain⟨LS,h4⟩:=o7 (m.a5F[i].ls.filter fun x=>!fS r e x);rw[<-h4];obtain⟨p,q0⟩:∃p:BM,p={m.a5F[i] with ls:=LS}:=⟨_,rfl⟩;have X:i<(m.a5F.set i p).length:=(by simpa using f);have q3:(m.a5F.set i p)[i]=p:=Q9 _;have x0:(m.a5F.set i p)[i]? =some p:=(by rw[zj X,q3]);have V:p.a=m.a5F[i].a/\p.ls=LS/\p.c=m.a5F[i].c/\p.next=m.a5F[i].next/\p.high=m.a5F[i].high/\p.val=m.a5F[i].val/\p.name=m.a5F[i].name:=(by subst q0;exact⟨rfl,rfl,rfl,rfl,rfl,rfl,rfl⟩);rw[<-q0];refine E5 ?_;refine r_ (i8 (v:=.int .u64 (m.a5F[i].high:Nat)) rfl (fun w l=>EV (j:=3) (l.ownN (t:=100) ud).2.2.1 p7 p x0 (by rw[<-V.2.2.2.2.1];rfl) x6)) ?_;refine f_ ((K_ rfl rfl qb).eq (v':=.int .u64 ((m.a5F[i].high+1:Nat):Int)) (by congr 1)) ?_;refine y9 ?_;refine A9 (C:=de) (v:=.int .u64 ((m.a5F[i].high+1:Nat):Int)) {p with high:=m.a5F[i].high+1} p7 X (j:=3) (by rw[q3];rfl) ?_;refine u7 ?_;rw[Jw];refine C8 ?_;refine C9 {m with a5F:=m.a5F.set i {p with high:=m.a5F[i].high+1}} (Oj (d j)) ⟨u,D,none,0⟩ rfl rfl k (fun w l=>?_) ?_ (fun _=>rfl) (fun x hx=>?_) ⟨k9,o0.nil _ _⟩
     ·rw[uw];show Hp F2 w (_::S_ m.sa m.a5H m.sc::P5 m.ha m.a5G m.hc::S9 m.ba (m.a5F.set i {p with high:=m.a5F[i].high+1}) m.bc::(V9 (m.a5F.set i {p with high:=m.a5F[i].high+1})++R));rw[nC];exact ux {p with high:=m.a5F[i].high+1} f V.1 V.2.1 V.2.2.1 (l.perm ((kz (l₁:=[_]) (l₂:=[_,_,_,_])).append_right _))
     ·show({m.s with a5F:=_}:ML)=_;unfold jC;rw[aQ];have q4:LS.map LM.t=m.a5F[i].x.lts.filter fun x=>!jE r m.a5F[i].x x:=by
       rw[h4];show _=(m.a5F[i].ls.map LM.t).filter _;rw[Yk];congr 1;refine List.filter_congr fun x _=>?_;rw[<-k8];rfl
      simp only[BM.x,V.2.1,V.2.2.2.1,V.2.2.2.2.2.1,V.2.2.2.2.2.2,q4]
     ·rcases jd hx with h5|rfl
      ·exact Mn.le k.heap (J x h5)
      ·intro y hy;have q5:y∈LS:=V.2.1▸hy;rw[h4] at q5;exact(J _ (zx f) y (Qx.1 q5).1).le k.heap
    ·rw[zu (qr h2.symm)];refine C8 ?_;refine C9 m (Oj (d j)) ⟨u,D,none,0⟩ rfl rfl k (fun w l=>?_) rfl qx (fun b g=>Mn.le k.heap (J b g)) ?_
     ·exact l.perm (((L1 f).symm.append_right R).append_left [_,_,_,_])
     ·exact⟨k9,o0.nil _ _⟩
   ·have k0:d j=[]:=qr h1.symm;rw[zu k0];refine C8 ?_;refine C9 m B9 ⟨u,D,none,0⟩ rfl rfl k (fun w l=>?_) rfl (fun _=>rfl) (fun b g=>Mn.le k.heap (J b g)) (L_.nil _ _ _ rfl rfl);rw[k0] at l;exact l.perm (((L1 f).symm.append_right R).append_left [_,_,_,_])
theorem pV(n m:Nat):∀l:List LT,(fg n m l).length=l.length
 |[]=>rfl
 |x::t=>by rw[fg,zy,pV,zy]
theorem wK(m:Nat):∀(l:List LT) (n j:Nat),(fg n m l)[j]? =l[j]?.map fun x=>{x with uid:=n+j,mod:=m}
 |[],_,_=>by simp[fg]
 |x::t,n,0=>by simp[fg]
 |x::t,n,j+1=>by
  rw[fg,List.getElem?_cons_succ,List.getElem?_cons_succ,wK m t (n+1) j];rw[show n+1+j=n+(j+1) by omega]
theorem Ek{n m:Nat}{l:List LT}{j:Nat}(a:j<l.length):(fg n m l).take (j+1)=(fg n m l).take j++[{l[j] with uid:=n+j,mod:=m}]:=by
 have b:j<(fg n m l).length:=by rw[pV];exact a
 rw[kj b];congr 2;have c:=wK m l n j;rw[zj b,zj a] at c;exact j8 c
theorem El{α:Type}(q:α->Bool){l:List α}{j:Nat}(a:j<l.length):(l.take (j+1)).filter q=(l.take j).filter q++if q l[j] then[l[j]] else[]:=J_ q a
structure CpS where
 N:List LM
 a:Option Addr
 c:Nat
 ua:Option Addr
 uc:Nat
def X1(N:List LM):List Nat:=N.map fun x=>x.t.uid
theorem sD(N:List LM)(y:LM):X1 (N++[y])=X1 N++[y.t.uid]:=by simp[X1]
theorem sE(N:List LM):(X1 N).length=N.length:=by simp[X1]
abbrev Re(v:Nat)(u:List Nat):OC:={B9 with val:=v,a5L:=u}
theorem If(b:Nat)(m:MM)(r:RQ)(q:QL)(v:Nat)(u:List Nat)(ua:Option Addr)(uc n:Nat)(h:u.length=n):R9 b m r q (Re v u) ⟨ua,uc,none,0⟩=.blk b (.cells (iA m++eA r q++([.int .i64 0,.int .u64 ((0:Nat):Int),.int .u64 (v:Nat),.slice ua n uc,.slice none 0 0]:List Value)).toArray 136):=by subst h;rfl
def uy(r:RQ)(most:Nat)(x:LM):Bool:=gN r.a5L most x.t.uid
theorem MU(b:Nat)(m:MM)(r:RQ)(q:QL)(hm:m.a5F.length<=1000)(x2:∀x∈m.a5F,x.ls.length<=1000/\x.next<=4294967296/\x.high<=D9/\∀y∈x.ls,y.t.a5U.length<=1000000)(hu:r.a5L.length<=1000000):HB 64 b m r q (gT m.s r):=by
 refine y4 156 func64 rfl rfl rfl ?_;rintro F R ⟨S,z0⟩;refine p_ ?_
 cases hn:named m.s r with
 |none=>
  have es:gT m.s r=(m.s,B9,6):=by unfold gT;rw[hn]
  rw[es];refine p_ ?_;refine e_ rfl (ed b m r q B9 M9 hm) (fun h hh g=>⟨I_ g,by obtain⟨bs,g⟩:=g;exact A3.rd g ud⟩) rfl ?_;rw[hn,show fQ m none=.tuple #[.pointer none,.bool false] from rfl];refine NN ?_;exact C9 m B9 M9 rfl rfl (l6.le_refl _) i_ rfl qx S (L_.zero _)
 |some i=>
  have U:=pN hn;obtain⟨x3,v8,v9,z2⟩:=x2 _ (zx U);refine p_ ?_;refine e_ rfl (ed b m r q B9 M9 hm) (fun h hh g=>⟨I_ g,by obtain⟨bs,g⟩:=g;exact A3.rd g ud⟩) rfl ?_;rw[hn,show fQ m (some i)=.tuple #[dq m i,.bool true] from rfl];refine wk 7 ?_;refine D8 [3,8] [9] [R9 b m r q B9 M9] 11 ?_;refine wd [0,1,2,3,4,5,6,7,8] ?_;refine h_ 9 rfl i6 ?_;refine e_ rfl (oJ m r.tz hm) (fun h hh ⟨bs,g⟩=>A3.rd g ud) rfl ?_;refine E6 [10] ?_;refine bD ?_ ?_<;>intro h
  ·have es:gT m.s r=(m.s,B9,21):=(by unfold gT;rw[hn];simp only;rw[gD (qr h)]);rw[es];refine C8 ?_;exact C9 m B9 M9 rfl rfl (l6.le_refl _) i_ rfl qx S (L_.zero _)
  obtain⟨k,hk,f,u0⟩:=gE (zq h);obtain⟨w0,w1,w2,w3⟩:=x2 _ (zx f);rw[hk];refine p_ ?_;refine D5 (H':=R9 b m r q B9 M9::S_ m.sa m.a5H m.sc::P5 m.ha m.a5G m.hc::S9 m.ba m.a5F m.bc::O0 m.a5F[i].a m.a5F[i].ls m.a5F[i].c::(V9 (m.a5F.eraseIdx i)++R)) (fun w d=>d.perm (((L1 U).append_right R).append_left [_,_,_,_])) ?_;refine y9 ?_;refine c_ (pP b m i U x3) ?pre ?_;(case pre=>exact fun h hh ⟨bs,g⟩=>⟨A3.rd g ud,A3.rd g ud⟩);rintro v A ⟨g2,g3,rfl,rfl⟩;refine p_ ?_;refine B8 (Z:=[.blk g3 (.cells #[.int .u64 (Y7 m.a5F[i].ls:Nat)] 27),.blk g2 (.cells #[l9 b] 132)]) tk fun F1 u g=>?_;have p3:aK g3 (.int .u64 (Y7 m.a5F[i].ls:Nat)) 27 F1.heap:=I_ g;have p2:aK g2 (l9 b) 132 F1.heap:=I_ g;clear g;refine B4 (a:=m.ba) (n:=m.a5F.length) (c:=m.bc) (sz:=5) (xs:=fb m.a5F) (te:=100) ud fun _ _ h8=>?_;have h8:=h8 qb;refine E5 ?_;refine r_ (i8 rfl (fun w d=>cH (j:=4) (d.ownN (t:=100) ud).2.2.1 p7 U rfl x6)) ?_;refine y9 ?_;refine B4 (a:=m.a5F[i].a) (n:=m.a5F[i].ls.length) (c:=m.a5F[i].c) (sz:=5) (xs:=qH m.a5F[i].ls) (te:=156) ud fun _ _ x9=>?_;refine O7 156 5 ?_;obtain⟨J,k8⟩:=o7 (Y7 m.a5F[i].ls);rw[<-k8] at p3;obtain⟨D,M⟩:∃D:Nat->List LM,∀j,D j=(m.a5F[i].ls.take j).filter (uy r J):=⟨_,fun _=>rfl⟩;have k9:D 0=[]:=by rw[M];rfl
  have V:∀j,(D j).length<=1000:=fun j=>by
   rw[M];refine ju (Qn _ _) (ju (List.length_take_le' _ _) x3)
  refine O6 (fun j (T:Option Addr) (X:Nat)=>j<=m.a5F[i].ls.length) (fun j T X=>[(0,l9 b),(5,.int .i64 (k:Nat)),(6,.slice T (D j).length X),(7,iG g2 g3),(38,.slice m.a5F[i].a m.a5F[i].ls.length m.a5F[i].c),(39,.int .i64 (m.a5F[i].ls.length:Nat)),(40,.int .i64 (j:Nat))])
   (fun j T X=>O0 T (D j) X::R9 b m r q B9 M9::S_ m.sa m.a5H m.sc::P5 m.ha m.a5G m.hc::S9 m.ba m.a5F m.bc::O0 m.a5F[i].a m.a5F[i].ls m.a5F[i].c::(V9 (m.a5F.eraseIdx i)++R)) (fun j _ _=>m.a5F[i].ls.length-j) 0 none 0 (zw _) (by rw[k9];exact sub) (fun w d=>by rw[k9];exact d) ?_
  rintro j T X hj;refine R6 ?_ ?_<;>intro h
  ·have p:j<m.a5F[i].ls.length:=(by have:=qr h;omega);have x9:=x9 qb;refine p_ ?_;refine r_ (w8 rfl (fun w d=>fe (C:=S8) (l:=m.a5F[i].ls) (q:=((j:Nat):Int).toNat*5) (d.ownN (t:=156) (a:=m.a5F[i].a) ud).2.2.1 A_ qp p x6) (A_ _)) ?_;refine i7 rfl ?_;intro g9;refine E5 ?_;refine A0 (ps:=[]) _ rfl rfl rfl (lu b g2 g3 J m r q B9 M9 hu m.a5F[i].ls[j]) i_ (fun h hh g=>⟨hh _ _ p2,hh _ _ p3,I_ g,(z0.a5L.le u.heap).le hh⟩) rfl ?_;rintro v A ⟨rfl,rfl⟩;refine u7 ?_;have z:=El (uy r J) p;rw[<-M,<-M] at z;refine o8 rfl ?_ ?_<;>intro h2
   ·rw[show uy r J m.a5F[i].ls[j]=true from h2,zu rfl] at z;refine y9 ?_;refine C4 S8 m.a5F[i].ls[j] rfl ?_;intro a49 _;refine u6 S8 (l:=D j) (m:=[m.a5F[i].ls[j]]) A_ nh (by show((D j).length+1)*64<=_;have:=V j;omega) ?_ rfl rfl (fun _ _=>uh) (fun w d=>(d.ownN (t:=156) ud).2.2.1) (by have:=V j;show(D j).length+1<=9223372036854775807;omega);intro u1 u2 _;rw[<-z];refine E5 ?_;exact l8 (i:=(j,T,X)) (j+1,u1,u2) qg qg sub (fun w d=>d.drop.drop)
   ·rw[show uy r J m.a5F[i].ls[j]=false from h2,zk x6,z7] at z;refine y9 ?_;rw[<-z];exact l8 (i:=(j,T,X)) (j+1,T,X) qg qg sub (fun w d=>d.drop)
  ·have p:j=m.a5F[i].ls.length:=(by have:=zq h;omega);obtain⟨e,h7⟩:=o7 (D j);have v5:e.length<=1000:=(by rw[h7];exact V j);have q8:∀x∈e,x∈m.a5F[i].ls:=fun x hx=>by
    rw[h7,M] at hx;exact Jz (Qx.1 hx).1
   have y0:e.map LM.t=m.a5F[i].x.lts.filter (X7 r m.a5F[i].x):=by
    rw[h7,M,p,j9];show _=(m.a5F[i].ls.map LM.t).filter _;rw[Yk];congr 1;refine List.filter_congr fun x _=>?_;show gN r.a5L J x.t.uid=gN r.a5L (vB m.a5F[i].x) x.t.uid;rw[pO,k8]
   have es:gT m.s r=if e.map LM.t=[] then(m.s,{B9 with val:=m.a5F[k].val},0) else if 32<m.a5F[k].ls.length+e.length then(m.s,{B9 with val:=m.a5F[k].val},7) else if eK+1<m.a5F[k].next+e.length\/D9<=m.a5F[k].high then(m.s,{B9 with val:=m.a5F[k].val},13)
     else(jC m.s k {m.a5F[k].x with high:=m.a5F[k].high+1,next:=m.a5F[k].next+e.length,lts:=m.a5F[k].x.lts++fg m.a5F[k].next (m.a5F[k].high+1) (e.map LM.t)},{B9 with val:=m.a5F[k].val,a5L:=(fg m.a5F[k].next (m.a5F[k].high+1) (e.map LM.t)).map LT.uid},0):=by
    unfold gT;rw[hn];simp only;rw[u0];simp only[eS U,eS f,<-y0,zr,BM.x]
   rw[es,<-h7];clear es;refine u7 ?_;refine D5 (H':=O0 T e X::R9 b m r q B9 M9::S_ m.sa m.a5H m.sc::P5 m.ha m.a5G m.hc::S9 m.ba m.a5F m.bc::O0 m.a5F[k].a m.a5F[k].ls m.a5F[k].c::(V9 (m.a5F.eraseIdx k)++R)) (fun w d=>d.perm ((((L1 U).symm.trans (L1 f)).append_right R).append_left [_,_,_,_,_])) ?_;refine wk 12 ?_;refine r_ (i8 rfl (fun w d=>cH (j:=1) (d.ownN (t:=100) ud).2.2.1 p7 f rfl x6)) ?_;refine O2 ?_;obtain⟨q1,h1⟩:=o7 (decide (e.map LM.t=[]));refine y9 ?_;refine f_ ((p8 rfl rfl).eq (v':=.bool q1) (qn (by rw[h1];exact zp.2 (by show((e.length:Nat):Int)=0↔_;cases e<;>simp<;>omega)))) ?_;refine p_ ?_
   cases q1
   ·have k0:e.map LM.t≠[]:=zq h1.symm;rw[zk k0];refine u7 ?_;obtain⟨q2,h2⟩:=o7 (decide (32<m.a5F[k].ls.length+e.length));refine E5 ?_;refine r_ (i8 rfl (fun w d=>cH (j:=4) (d.ownN (t:=100) ud).2.2.1 p7 f rfl x6)) ?_;refine O2 ?_;refine f_ ((D_ rfl rfl).eq (v':=.bool q2) (qn ((qz).trans h2.symm))) ?_;refine p_ ?_
    cases q2
    case true=>
     rw[zu (qr h2.symm)];refine C8 ?_;refine C9 m {B9 with val:=m.a5F[k].val} M9 rfl rfl u (fun w d=>?_) rfl qx (fun b g=>Mn.le u.heap (S b g)) (L_.nil _ _ _ rfl rfl);exact d.drop.perm (((L1 f).symm.append_right R).append_left [_,_,_,_])
    rw[zk (zq h2.symm)];obtain⟨q3,h3⟩:=o7 (decide (eK+1<m.a5F[k].next+e.length));obtain⟨q4,h4⟩:=o7 (decide (D9<=m.a5F[k].high));refine u7 ?_;refine w6 [(0,l9 b),(6,.slice T e.length X),(10,dq m k),(81,.bool (q3||q4))] (O0 T e X::R9 b m r q (Re m.a5F[k].val []) M9::S_ m.sa m.a5H m.sc::P5 m.ha m.a5G m.hc::S9 m.ba m.a5F m.bc::O0 m.a5F[k].a m.a5F[k].ls m.a5F[k].c::(V9 (m.a5F.eraseIdx k)++R)) ?_ ?_
    ·cases q3
     all_goals (
      refine E5 ?_;refine r_ (i8 rfl (fun w d=>cH (j:=2) (d.ownN (t:=100) ud).2.2.1 p7 f rfl x6)) ?_;refine O2 ?_;refine f_ ((D_ rfl rfl).eq (qn ((zp.2 (by show(4294967296:Int)<_↔4294967296<_;omega)).trans h3.symm))) ?_;refine O2 ?_;(first|refine u_ ?_|(refine v_ ?_;refine r_ (i8 rfl (fun w d=>cH (j:=3) (d.ownN (t:=100) ud).2.2.1 p7 f rfl x6)) ?_));(first|refine u_ ?_|(refine v_ ?_;refine f_ ((I4 rfl rfl).eq (qn ((zp.2 (by show(9223372036854775807:Int)<=_↔9223372036854775807<=_;omega)).trans h4.symm))) ?_));refine y9 ?_)
     all_goals exact o_ sub i_
    refine N8 ?_ ?_<;>intro h9
    ·have kk:eK+1<m.a5F[k].next+e.length\/D9<=m.a5F[k].high:=by
      rw[Zk] at h9;rcases h9 with k|k
      ·exact .inl (qr (h3.symm.trans k))
      ·exact .inr (qr (h4.symm.trans k))
     rw[zu kk];refine C8 ?_;refine C9 m {B9 with val:=m.a5F[k].val} M9 rfl rfl u (fun w d=>?_) rfl qx (fun b g=>Mn.le u.heap (S b g)) (L_.nil _ _ _ rfl rfl);exact d.drop.perm (((L1 f).symm.append_right R).append_left [_,_,_,_])
    rw[Q1] at h9;have kn:¬eK+1<m.a5F[k].next+e.length:=zq (h3.symm.trans h9.1);have kh:¬D9<=m.a5F[k].high:=zq (h4.symm.trans h9.2);rw[zk (fun k=>k.elim kn kh)];have w4:m.a5F[k].next+e.length<=4294967296:=Nat.not_lt.1 kn;have w5:m.a5F[k].high<9223372036854775807:=Wn.1 kh;refine E5 ?_;refine r_ (i8 rfl (fun w d=>cH (j:=3) (d.ownN (t:=100) ud).2.2.1 p7 f rfl x6)) ?_;refine f_ ((K_ rfl rfl qb).eq (v':=.int .u64 ((m.a5F[k].high+1:Nat):Int)) (by congr 1)) ?_;refine y9 ?_;refine A9 (C:=de) {m.a5F[k] with high:=m.a5F[k].high+1} p7 f (j:=3) rfl ?_;refine E5 ?_;obtain⟨Q,o⟩:∃Q:Nat->List LM->Option Addr->Nat->BM,∀j N a c,Q j N a c=⟨m.a5F[k].name,m.a5F[k].val,m.a5F[k].next+j,m.a5F[k].high+1,m.a5F[k].ls++N,a,c⟩:=⟨_,fun _ _ _ _=>rfl⟩;have q6:∀j N a c,(m.a5F.set k (Q j N a c))[k]? =some (Q j N a c):=fun j N a c=>(by rw[zj (by simpa using f),Q9]);obtain⟨nl,q7⟩:=o7 (fg m.a5F[k].next (m.a5F[k].high+1) (e.map LM.t));refine O7 27 1 ?_;refine vG (fun j (Fj:l6) (s:CpS)=>j<=e.length/\F1.le Fj/\s.N.length=j/\s.N.map LM.t=nl.take j/\iz s.N Fj.heap) (fun j _ s=>[(0,l9 b),(10,dq m k),(105,.slice T e.length X),(106,.int .i64 (e.length:Nat)),(107,.int .i64 (j:Nat))]) (fun _ Fj _=>Fj)
     (fun j _ s=>O0 T e X::.own (.slice s.ua (X1 s.N).length s.uc) 27 1 (nV (X1 s.N))::R9 b m r q (Re m.a5F[k].val (X1 s.N)) ⟨s.ua,s.uc,none,0⟩::S_ m.sa m.a5H m.sc::P5 m.ha m.a5G m.hc::.own (.slice m.ba m.a5F.length m.bc) 100 5 (fb (m.a5F.set k (Q j s.N s.a s.c)))::O0 s.a (m.a5F[k].ls++s.N) s.c::(V9 (m.a5F.eraseIdx k)++R)) (fun j _ _=>e.length-j) 0 F1 ⟨[],m.a5F[k].a,m.a5F[k].c,none,0⟩ ⟨zw _,l6.le_refl _,rfl,rfl,fun _ h=>by cases h⟩ sub rfl (fun w d=>?_) ?_
    ·rw[o];simp only[z7,Q3];exact d.perm (List.Perm.swap _ _ _)
    rintro j Fj ⟨N,na,nc,ua,uc⟩ ⟨hj,q0,y1,q5,x0⟩;simp only at y1 q5 x0;refine R6 ?_ ?_<;>intro h
    ·have p:j<e.length:=(by have:=qr h;omega);refine B4 (a:=T) (n:=e.length) (c:=X) (sz:=5) (xs:=qH e) (te:=156) ud fun _ _ q9=>?_;have q9:=q9 qb;have u8:o0 Fj.heap e[j].a (fV e[j].t.a5U):=(S _ (zx U) _ (q8 _ (zx p))).le (u.trans q0).heap;have v0:=z2 _ (q8 _ (zx p));refine p_ ?_;refine r_ (w8 rfl (fun w d=>fe (C:=S8) (l:=e) (q:=((j:Nat):Int).toNat*5) (d.ownN (t:=156) (a:=T) ud).2.2.1 A_ qp p x6) (A_ _)) ?_;refine i7 rfl ?_;intro x1;refine p_ ?_;refine D8 [3,7] [9,10,12,14,16] [.own (.slice m.ba m.a5F.length m.bc) 100 5 (fb (m.a5F.set k (Q j N na nc)))] 17 ?_;refine wd [0,1,2] ?_;refine n9 3 rfl P6 (i8 (v:=.int .u64 ((m.a5F[k].next+j:Nat):Int)) rfl (fun w d=>EV (j:=2) (d.ownN (t:=100) ud).2.2.1 p7 (Q j N na nc) (q6 _ _ _ _) (by rw[o];rfl) x6)) I5 rfl rfl rfl i6 ?_;refine wd [4,5,6] ?_;refine n9 7 rfl P6 (i8 (v:=.int .u64 ((m.a5F[k].high+1:Nat):Int)) rfl (fun w d=>EV (j:=3) (d.ownN (t:=100) ud).2.2.1 p7 (Q j N na nc) (q6 _ _ _ _) (by rw[o];rfl) x6)) I5 rfl rfl rfl i6 ?_;refine wd [8] ?_;refine h_ 9 rfl i6 ?_;refine r_ (X5 rfl ud rfl) ?_;refine gj [11] ?_;refine h_ 10 rfl i6 ?_;refine c_ (Y5 e[j].t.a5U e[j].a e[j].c qb) (fun h hh _=>u8.le hh) ?_;rintro v A ⟨fa,fc,rfl,rfl⟩;refine gj [12,13,14,15,16] ?_;obtain⟨Y,hY⟩:∃Y:LM,Y=⟨{e[j].t with uid:=m.a5F[k].next+j,mod:=m.a5F[k].high+1},fa,fc⟩:=⟨_,rfl⟩;refine D5 (H':=A4 fa e[j].t.a5U fc::.blk x1 (.cells (S8 Y).toArray 156)::O0 T e X::.own (.slice ua (X1 N).length uc) 27 1 (nV (X1 N))::R9 b m r q (Re m.a5F[k].val (X1 N)) ⟨ua,uc,none,0⟩::S_ m.sa m.a5H m.sc::P5 m.ha m.a5G m.hc::.own (.slice m.ba m.a5F.length m.bc) 100 5 (fb (m.a5F.set k (Q j N na nc)))::O0 na (m.a5F[k].ls++N) nc::(V9 (m.a5F.eraseIdx k)++R)) (fun w d=>by rw[hY];exact d) ?_;refine B8 (Z:=[A4 fa e[j].t.a5U fc]) tk fun F3 h0 ⟨bs,g⟩=>?_;have v1:o0 F3.heap Y.a (fV Y.t.a5U):=(by rw[hY];exact A3.rd g ud);clear g;have w7:Y.t.uid=m.a5F[k].next+j:=(by rw[hY]);refine u7 ?_;refine D8 [4,5] [6,7,10] [.own (.slice m.ba m.a5F.length m.bc) 100 5 (fb (m.a5F.set k (Q j N na nc))),.blk x1 (.cells (S8 Y).toArray 156)] 11 ?_;refine wd [0,1,2,3] ?_;refine n9 4 rfl P6 (i8 (v:=.slice na (m.a5F[k].ls++N).length nc) rfl (fun w d=>EV (j:=4) (d.ownN (t:=100) ud).2.2.1 p7 (Q j N na nc) (q6 _ _ _ _) (by rw[o];rfl) x6)) I5 rfl rfl rfl i6 ?_;refine wd [5] ?_;refine h_ 6 rfl i6 ?_;refine C4 S8 Y rfl ?_;intro v6 _;refine ah ?_;refine h_ 7 rfl i6 ?_;refine u6 S8 (l:=m.a5F[k].ls++N) (m:=[Y]) A_ nh (by show((m.a5F[k].ls++N).length+1)*64<=_;rw[zz];omega) ?_ rfl rfl (fun _ _=>uh) (fun w d=>(d.ownN (t:=156) ud).2.2.1) (by show(m.a5F[k].ls++N).length+1<=9223372036854775807;rw[zz];omega);intro vf O _;rw[zh];refine E6 [8,9] ?_;refine h_ 10 rfl i6 ?_;refine A9 (C:=de) (v:=.slice vf (m.a5F[k].ls++(N++[Y])).length O) (l:=m.a5F.set k (Q j N na nc)) (i:=k) ⟨m.a5F[k].name,m.a5F[k].val,m.a5F[k].next+j,m.a5F[k].high+1,m.a5F[k].ls++(N++[Y]),vf,O⟩ p7 (by simpa using f) (j:=4) (by rw[Q9,o];rfl) ?_;refine E6 [] ?_;rw[Jw,<-o];refine u7 ?_
     refine D8 [5,7] [8,9,13] [.blk x1 (.cells (S8 Y).toArray 156),R9 b m r q (Re m.a5F[k].val (X1 N)) ⟨ua,uc,none,0⟩] 14 ?_;refine wd [0,1,2,3,4,5,6,7] ?_;refine h_ 8 rfl i6 ?_;refine x7 (ps:=[(0,.tmp 142)]) (vs:=[(0,.int .u64 (Y.t.uid:Nat))]) (xs:=nV [Y.t.uid]) rfl rfl rfl rfl rfl rfl rfl rfl ?_;intro v7 _;refine ah ?_;refine h_ 9 rfl i6 ?_;refine C0 (news:=nV [Y.t.uid]) (m:=1) rfl rfl (fun a' c'=>uh) (fun w d=>(d.ownN (t:=27) ud).2.2.1) rfl rfl rfl (iq _) (by show((X1 N).length+1)*8<=_;rw[sE];omega) (by show(X1 N).length+1<=9223372036854775807;rw[sE];omega) rfl ?_;intro y2 y3 _;refine E6 [10,11,12,13] ?_;refine E5 ?_;refine r_ (i8 (v:=.int .u64 ((m.a5F[k].next+j:Nat):Int)) rfl (fun w d=>EV (j:=2) (d.ownN (t:=100) ud).2.2.1 p7 (Q j (N++[Y]) vf O) (q6 _ _ _ _) (by rw[o];rfl) x6)) ?_;refine f_ ((K_ rfl rfl qb).eq (v':=.int .u64 ((m.a5F[k].next+(j+1):Nat):Int)) (by congr 1)) ?_;refine y9 ?_;refine A9 (C:=de) (v:=.int .u64 ((m.a5F[k].next+(j+1):Nat):Int)) (l:=m.a5F.set k (Q j (N++[Y]) vf O)) (i:=k) ⟨m.a5F[k].name,m.a5F[k].val,m.a5F[k].next+(j+1),m.a5F[k].high+1,m.a5F[k].ls++(N++[Y]),vf,O⟩ p7 (by simpa using f) (j:=2) (by rw[Q9,o];rfl) ?_;refine u7 ?_;rw[Jw,<-o];refine y9 ?_;refine O_ (i:=(j,Fj,(⟨N,na,nc,ua,uc⟩:CpS))) (j+1,F3,⟨N++[Y],vf,O,y2,y3⟩) ⟨p,q0.trans h0,by simp[y1],?_,fun x hx=>?_⟩ qg sub rfl (fun w d=>?_)
     ·simp only;rw[jn,q5,q7,Ek (by simpa using p),hY];simp
     ·rcases zb.1 hx with h6|h6
      ·exact(x0 x h6).le h0.heap
      ·obtain rfl:=zg.1 h6;exact v1
     ·have e1:(X1 (N++[Y])).length=(X1 N).length+1:=(by rw[sD,zz];rfl);simp only;rw[If _ _ _ _ _ _ _ _ _ e1,e1,sD,aB];exact d.drop.drop.drop
    ·have p:j=e.length:=(by have:=zq h;omega);have v2:nl.take j=nl:=jq (by rw[q7,pV,zr];omega);rw[v2] at q5;have v3:X1 N=nl.map LT.uid:=(by rw[<-q5,Jn];rfl);refine u7 ?_;refine B8 (Z:=[.own (.slice ua (X1 N).length uc) 27 1 (nV (X1 N))]) tk fun F3 h0 ⟨bs,g⟩=>?_;have v4:o0 F3.heap ua (nV (X1 N)):=A3.rd g ud;clear g;refine C8 ?_;refine C9 {m with a5F:=m.a5F.set k (Q j N na nc)} (Re m.a5F[k].val (X1 N)) ⟨ua,uc,none,0⟩ rfl rfl ((u.trans q0).trans h0) (fun w d=>?_) ?_ (fun _=>by rw[v3,q7]) (fun x hx=>?_) ⟨v4,o0.nil _ _⟩
     ·rw[uw];show Hp F3 w (_::S_ m.sa m.a5H m.sc::P5 m.ha m.a5G m.hc::S9 m.ba (m.a5F.set k (Q j N na nc)) m.bc::(V9 (m.a5F.set k (Q j N na nc))++R));rw[nC];exact ux (Q j N na nc) f (by rw[o]) (by rw[o]) (by rw[o]) d.drop
     ·show({m.s with a5F:=_}:ML)=_;unfold jC;rw[aQ,o];simp only[BM.x,jn,q5,q7,p]
     ·rcases jd hx with h5|rfl
      ·exact Mn.le ((u.trans q0).trans h0).heap (S x h5)
      ·rw[o];intro y hy;rcases zb.1 hy with h6|h6
       ·exact(S _ (zx f) y h6).le ((u.trans q0).trans h0).heap
       ·exact(x0 y h6).le h0.heap
   ·rw[zu (qr h1.symm)];refine C8 ?_;refine C9 m {B9 with val:=m.a5F[k].val} M9 rfl rfl u (fun w d=>?_) rfl (fun _=>rfl) (fun b g=>Mn.le u.heap (S b g)) (L_.nil _ _ _ rfl rfl);exact d.drop.perm (((L1 f).symm.append_right R).append_left [_,_,_,_])
abbrev Ok:=List LT×List Nat×List Nat×Bool
def bj(a q:Ok):Ok:=(a.1++q.1,a.2.1++q.2.1,a.2.2.1++q.2.2.1,a.2.2.2||q.2.2.2)
theorem Em{r:RQ}{b:BX}{x:LT}{t:List LT}{a:Ok}(h:X7 r b x=false):(I2 r b (x::t)).map (bj a)=(I2 r b t).map (bj (a.1++[x],a.2)):=by
 rw[I2,zu h,J0];congr 1;funext q;simp[bj]
theorem wL{r:RQ}{b:BX}{x:LT}{t:List LT}{a:Ok}(h:¬X7 r b x=false)(c:r.hasS=true/\r.a5O<x.mod):(I2 r b (x::t)).map (bj a)=(I2 r b t).map (bj (a.1++[x],a.2.1,a.2.2.1++[x.uid],a.2.2.2)):=by
 rw[I2,zk h,zu c,J0];congr 1;funext q;simp[bj]
theorem za{r:RQ}{b:BX}{x:LT}{t:List LT}{a:Ok}(h:¬X7 r b x=false)(c:¬(r.hasS=true/\r.a5O<x.mod))(d:(F9 x.a5U r.how r.a5U).2≠0):(I2 r b (x::t)).map (bj a)=none:=by
 rw[I2,zk h,zk c,zu d];rfl
theorem ze{r:RQ}{b:BX}{x:LT}{t:List LT}{a:Ok}(h:¬X7 r b x=false)(c:¬(r.hasS=true/\r.a5O<x.mod))(d:¬(F9 x.a5U r.how r.a5U).2≠0)(e:(F9 x.a5U r.how r.a5U).1=x.a5U):(I2 r b (x::t)).map (bj a)=(I2 r b t).map (bj (a.1++[x],a.2.1++[x.uid],a.2.2)):=by
 rw[I2,zk h,zk c,zk d,J0];congr 1;funext q;simp[bj,e]
theorem En{r:RQ}{b:BX}{x:LT}{t:List LT}{a:Ok}(h:¬X7 r b x=false)(c:¬(r.hasS=true/\r.a5O<x.mod))(d:¬(F9 x.a5U r.how r.a5U).2≠0)(e:¬(F9 x.a5U r.how r.a5U).1=x.a5U):(I2 r b (x::t)).map (bj a)=(I2 r b t).map (bj (a.1++[{x with a5U:=(F9 x.a5U r.how r.a5U).1,mod:=b.high+1}],a.2.1++[x.uid],a.2.2.1,true)):=by
 rw[I2,zk h,zk c,zk d,J0];congr 1;funext q;simp[bj,e]
theorem MV(l:List Bs)(how:Int)(m:List Bs):(F9 l how m).1.length<=16:=by
 unfold F9;split
 ·simp
 ·have a:∀o:List Bs,(if 16<o.length then(([]:List Bs),(7:Int)) else(o,0)).1.length<=16:=fun o=>by split<;>simp<;>omega
  exact a _
theorem wM{m:MM}{i:Nat}(h:i<m.a5F.length):m.a5F.getD i Ga=m.a5F[i]:=by
 rw[zd,zj h];rfl
def lC(m:MM)(i:Nat)(o:Option Ok):AR:=match o with
 |none=>(m.s,B9,7)
 |some q=>if q.2.2.2=false then(m.s,{B9 with a5L:=q.2.1,mods:=q.2.2.1},0) else if D9<=(m.a5F.getD i Ga).high then(m.s,B9,13) else(jC m.s i {(m.a5F.getD i Ga).x with lts:=q.1,high:=(m.a5F.getD i Ga).high+1},{B9 with a5L:=q.2.1,mods:=q.2.2.1},0)
structure Tk where
 N:List LM
 U:List Nat
 M:List Nat
 ch:Bool
 ua:Option Addr
 uc:Nat
 ma:Option Addr
 mc:Nat
abbrev fj(u mo:List Nat):OC:={B9 with a5L:=u,mods:=mo}
theorem Ol(b:Nat)(m:MM)(r:RQ)(q:QL)(u a:List Nat)(ua c:Option Addr)(uc d n k:Nat)(h:u.length=n)(e:a.length=k):R9 b m r q (fj u a) ⟨ua,uc,c,d⟩=.blk b (.cells (iA m++eA r q++([.int .i64 0,.int .u64 ((0:Nat):Int),.int .u64 ((0:Nat):Int),.slice ua n uc,.slice c k d]:List Value)).toArray 136):=by subst h e;rfl
theorem zf{F:l6}{w:World}{k x y z:As}{l:List BM}{i:Nat}{R:List As}{ls:List LM}(a:i<l.length)(b:ls=l[i].ls)(h:Hp F w (k::x::y::z::O0 l[i].a ls l[i].c::(V9 (l.eraseIdx i)++R))):Hp F w (k::x::y::z::(V9 l++R)):=by
 subst b;exact h.perm (((L1 a).symm.append_right R).append_left [k,x,y,z])
theorem Tl{m:MM}{r:RQ}{q:QL}{o:OC}{y:OL}{b:Bool}(h:b=r.hasS):(NZ m r q o y)[18]? =some (.bool b):=by subst h;rfl
theorem Ig(b:Nat)(m:MM)(r:RQ)(q:QL)(hm:m.a5F.length<=1000)(w1:∀x∈m.a5F,x.ls.length<=1000/\x.high<=D9/\∀y∈x.ls,y.t.a5U.length<=1000/\∀f∈y.t.a5U,f.length<=lp)(hu:r.a5L.length<=1000000)(b2:r.a5U.length<=100000)(v0:∀f∈r.a5U,f.length<=lp):HB 62 b m r q (dB m.s r):=by
 refine y4 163 func62 rfl rfl rfl ?_;rintro F R ⟨k0,y1⟩;refine p_ ?_
 cases hn:named m.s r with
 |none=>
  have es:dB m.s r=(m.s,B9,6):=by unfold dB;rw[hn]
  rw[es];refine p_ ?_;refine e_ rfl (ed b m r q B9 M9 hm) (fun h hh e=>⟨I_ e,by obtain⟨bs,e⟩:=e;exact A3.rd e ud⟩) rfl ?_;rw[hn,show fQ m none=.tuple #[.pointer none,.bool false] from rfl];refine NN ?_;exact C9 m B9 M9 rfl rfl (l6.le_refl _) i_ rfl qx k0 (L_.zero _)
 |some i=>
  have o:=pN hn;obtain⟨v1,w2,v2⟩:=w1 _ (zx o);refine p_ ?_;refine e_ rfl (ed b m r q B9 M9 hm) (fun h hh e=>⟨I_ e,by obtain⟨bs,e⟩:=e;exact A3.rd e ud⟩) rfl ?_;rw[hn,show fQ m (some i)=.tuple #[dq m i,.bool true] from rfl];refine wk 7 ?_;obtain⟨q1,h1⟩:=o7 (G1 r.a5U);obtain⟨q2,h2⟩:=o7 (decide (r.how<0));obtain⟨q3,h3⟩:=o7 (decide (2<r.how));refine w6 [(0,l9 b),(3,dq m i),(41,.bool (!q1||(q2||q3)))] (R9 b m r q B9 M9::(uL m++R)) ?_ ?_
  ·cases q1<;>cases q2
   all_goals (
    refine au ?_;refine e_ rfl (gG r.a5U q.fa q.fc qb v0) (fun h hh _=>y1.a5U.le hh) rfl ?_;rw[<-h1];refine wk 7 ?_;(first|refine u_ ?_|(refine v_ ?_;refine f_ ((E_ rfl rfl).eb h2) ?_));refine wk 7 ?_;(first|refine u_ ?_|(refine v_ ?_;refine f_ ((D_ rfl rfl).eb h3) ?_));refine p_ ?_)
   all_goals exact o_ sub i_
  refine N8 ?_ ?_<;>intro h5
  ·have hc:G1 r.a5U=false\/r.how<0\/2<r.how:=by
    rw[<-h1]
    revert h5
    cases q1
    ·exact fun _=>.inl rfl
    cases q2
    ·cases q3
     ·intro h6;simp at h6
     ·exact fun _=>.inr (.inr (qr h3.symm))
    ·exact fun _=>.inr (.inl (qr h2.symm))
   have es:dB m.s r=(m.s,B9,1):=(by unfold dB;rw[hn];exact zu hc);rw[es];refine C8 ?_;exact C9 m B9 M9 rfl rfl (l6.le_refl _) i_ rfl qx k0 (L_.zero _)
  have hc:¬(G1 r.a5U=false\/r.how<0\/2<r.how):=by
   rw[<-h1];rintro(k|k|k)
   ·rw[k] at h5;simp at h5
   ·rw[h2,kr k] at h5;cases q1<;>simp at h5
   ·rw[h3,kr k] at h5;cases q1<;>cases q2<;>simp at h5
  have es:dB m.s r=lC m i (I2 r m.a5F[i].x m.a5F[i].x.lts):=by
   unfold dB lC;rw[hn];simp only;rw[zk hc];simp only[eS o,wM o]
   cases I2 r m.a5F[i].x (List.map LM.t m.a5F[i].ls)<;>rfl
  rw[es];clear es;refine u7 ?_;refine D5 (H':=R9 b m r q B9 M9::S_ m.sa m.a5H m.sc::P5 m.ha m.a5G m.hc::S9 m.ba m.a5F m.bc::O0 m.a5F[i].a m.a5F[i].ls m.a5F[i].c::(V9 (m.a5F.eraseIdx i)++R)) (fun w g=>g.perm (((L1 o).append_right R).append_left [_,_,_,_])) ?_;refine B4 (a:=m.ba) (n:=m.a5F.length) (c:=m.bc) (sz:=5) (xs:=fb m.a5F) (te:=100) ud fun _ _ x1=>?_;have x1:=x1 qb;refine E5 ?_;refine r_ (i8 rfl (fun w g=>cH (j:=4) (g.ownN (t:=100) ud).2.2.1 p7 o rfl x6)) ?_;refine c_ (fJ (qH m.a5F[i].ls) m.a5F[i].a m.a5F[i].ls.length m.a5F[i].c (Au _) (Av _) qb) ?pre ?_;(case pre=>exact fun h hh ⟨bs,e⟩=>A3.rd e ud);rintro v A ⟨na,nc,rfl,rfl⟩;refine O2 ?_;refine c_ (pP b m i o v1) ?pre ?_;(case pre=>exact fun h hh ⟨bs,e⟩=>⟨A3.rd e ud,A3.rd e ud⟩);rintro v A ⟨g2,g3,rfl,rfl⟩;refine p_ ?_;refine B8 (Z:=[.blk g3 (.cells #[.int .u64 (Y7 m.a5F[i].ls:Nat)] 27),.blk g2 (.cells #[l9 b] 132)]) tk fun F1 q0 e=>?_;have p3:aK g3 (.int .u64 (Y7 m.a5F[i].ls:Nat)) 27 F1.heap:=I_ e;have p2:aK g2 (l9 b) 132 F1.heap:=I_ e;clear e;refine E5 ?_;refine r_ (i8 rfl (fun w g=>cH (j:=4) (g.ownN (t:=100) ud).2.2.1 p7 o rfl x6)) ?_;refine y9 ?_;refine B4 (a:=m.a5F[i].a) (n:=m.a5F[i].ls.length) (c:=m.a5F[i].c) (sz:=5) (xs:=qH m.a5F[i].ls) (te:=156) ud fun _ _ y2=>?_;refine O7 27 1 ?_;refine O7 27 1 ?_;obtain⟨d,Q⟩:=o7 (m.a5F[i].ls);rw[<-Q] at v1 v2 y2 p3⊢;obtain⟨X,hX⟩:=o7 (m.a5F[i].x);have w3:X.lts=d.map LM.t:=by rw[hX,Q]
  have y3:Y7 d=vB X:=by rw[hX,pO,<-Q]
  rw[<-hX,w3];obtain⟨SL,v3⟩:=o7 (I2 r X (d.map LM.t));rw[<-v3];refine vG (fun j (Fj:l6) (s:Tk)=>j<=d.length/\F1.le Fj/\s.N.length=d.length/\iz s.N Fj.heap/\s.N.drop j=d.drop j/\s.U.length<=j/\s.M.length<=j/\SL=(I2 r X ((d.drop j).map LM.t)).map (bj ((s.N.take j).map LM.t,s.U,s.M,s.ch)))
   (fun j _ s=>[(0,l9 b),(3,dq m i),(5,.slice na d.length nc),(6,.bool s.ch),(7,iG g2 g3),(53,.slice m.a5F[i].a d.length m.a5F[i].c),(54,.int .i64 (d.length:Nat)),(55,.int .i64 (j:Nat))]) (fun _ Fj _=>Fj)
   (fun j _ s=>.own (.slice s.ua s.U.length s.uc) 27 1 (nV s.U)::.own (.slice s.ma s.M.length s.mc) 27 1 (nV s.M)::.own (.slice na d.length nc) 156 5 (qH s.N)::R9 b m r q (fj s.U s.M) ⟨s.ua,s.uc,s.ma,s.mc⟩::S_ m.sa m.a5H m.sc::P5 m.ha m.a5G m.hc::S9 m.ba m.a5F m.bc::O0 m.a5F[i].a d m.a5F[i].c::(V9 (m.a5F.eraseIdx i)++R)) (fun j _ _=>d.length-j) 0 F1 ⟨d,[],[],false,none,0,none,0⟩ ⟨zw _,l6.le_refl _,rfl,by rw[Q];exact Mn.le q0.heap (k0 _ (zx o)),rfl,zw _,zw _,?_⟩ sub rfl i_ ?_
  ·rw[v3];show _=(I2 r X (d.map LM.t)).map (bj ([],[],[],false))
   cases I2 r X (d.map LM.t)<;>simp[bj]
  rintro j Fj ⟨N,U,M,ch,ua,uc,J,O⟩ ⟨hj,S,q7,k8,z0,z2,x2,D⟩;simp only at q7 k8 z0 z2 x2 D;refine R6 ?_ ?_<;>intro h
  ·have T:j<d.length:=(by have:=qr h;omega);have q8:j<N.length:=(by omega);have u0:N[j]=d[j]:=by
    have h1:=jk (fun z=>z[0]?) z0;simp only[Zu,Q3] at h1;rw[zj q8,zj T] at h1;exact j8 h1
   have k9:N.drop (j+1)=d.drop (j+1):=by
    have:=jk (List.drop 1) z0;simpa[Kr,Wu] using this
   have w4:(d.drop j).map LM.t=d[j].t::(d.drop (j+1)).map LM.t:=(by rw[Qg T];rfl);have u1:(N.take (j+1)).map LM.t=(N.take j).map LM.t++[d[j].t]:=(by rw[kj q8,u0,jn];rfl);rw[w4] at D;have y2:=y2 qb;have w5:gN r.a5L (Y7 d) d[j].t.uid=X7 r X d[j].t:=(by unfold X7;rw[y3]);obtain⟨b0,v4⟩:=v2 _ (zx T);have v5:o0 Fj.heap d[j].a (fV d[j].t.a5U):=by
    have:=k8 N[j] (zx q8)
    rwa [u0] at this
   refine y9 ?_;refine r_ (w8 rfl (fun w g=>fe (C:=S8) (l:=d) (q:=((j:Nat):Int).toNat*5) (g.ownN (t:=156) (a:=m.a5F[i].a) ud).2.2.1 A_ qp T x6) (A_ _)) ?_;refine i7 rfl ?_;intro g9;refine O2 ?_;refine A0 (ps:=[]) _ rfl rfl rfl (lu b g2 g3 (Y7 d) m r q (fj U M) ⟨ua,uc,J,O⟩ hu d[j]) i_ (fun h hh e=>⟨hh _ _ (S.heap _ _ p2),hh _ _ (S.heap _ _ p3),I_ e,(y1.a5L.le (q0.trans S).heap).le hh⟩) rfl ?_;rintro v A ⟨rfl,rfl⟩;rw[w5];refine bD ?_ ?_<;>intro h2
   ·have q9:X7 r X d[j].t=false:=(by simpa using h2);rw[Em q9] at D;refine y9 ?_;refine O_ (i:=(j,Fj,(⟨N,U,M,ch,ua,uc,J,O⟩:Tk))) (j+1,Fj,⟨N,U,M,ch,ua,uc,J,O⟩) ⟨T,S,q7,k8,k9,K7 z2,K7 x2,?_⟩ qg sub rfl (fun w g=>g.drop);simp only;rw[D,u1]
   have q9:¬X7 r X d[j].t=false:=(by simpa using h2);obtain⟨q5,h5⟩:=o7 (r.hasS);obtain⟨q6,h6⟩:=o7 (decide (r.a5O<d[j].t.mod));refine u7 ?_;refine w6 [(0,l9 b),(3,dq m i),(5,.slice na d.length nc),(6,.bool ch),(7,iG g2 g3),(8,.int .i64 (j:Nat)),(9,l9 g9),(53,.slice m.a5F[i].a d.length m.a5F[i].c),(54,.int .i64 (d.length:Nat)),(55,.int .i64 (j:Nat)),(65,.bool (q5&&q6))]
    (.blk g9 (.cells (S8 d[j]).toArray 156)::.own (.slice ua U.length uc) 27 1 (nV U)::.own (.slice J M.length O) 27 1 (nV M)::.own (.slice na d.length nc) 156 5 (qH N)::R9 b m r q (fj U M) ⟨ua,uc,J,O⟩::S_ m.sa m.a5H m.sc::P5 m.ha m.a5G m.hc::S9 m.ba m.a5F m.bc::O0 m.a5F[i].a d m.a5F[i].c::(V9 (m.a5F.eraseIdx i)++R)) ?_ ?_
   ·cases q5
    all_goals (
     refine u7 ?_;refine D8 [4,7,12] [] [R9 b m r q (fj U M) ⟨ua,uc,J,O⟩,.blk g9 (.cells (S8 d[j]).toArray 156)] 16 ?_;refine wd [0,1,2,3] ?_;refine n9 4 rfl P6 (X5 rfl .del (Tl h5)) I5 rfl rfl rfl i6 ?_;refine wd [5,6,7,8,9,10,11,12] ?_;(first|refine s_ 13 ?_|refine t_ 13 ?_|refine F6 13 rfl ((D_ rfl rfl).eq (qn ((qz).trans h6.symm))) rfl rfl rfl rfl rfl rfl i6 ?_);refine wd [14,15] ?_)
    all_goals exact o_ sub i_
   refine N8 ?_ ?_<;>intro h7
   ·rw[kw] at h7;rw[wL q9 ⟨h5.symm.trans h7.1,qr (h6.symm.trans h7.2)⟩] at D;refine u7 ?_;refine D8 [5,7] [8,9,13] [.blk g9 (.cells (S8 d[j]).toArray 156),R9 b m r q (fj U M) ⟨ua,uc,J,O⟩] 14 ?_;refine wd [0,1,2,3,4,5,6,7] ?_;refine h_ 8 rfl i6 ?_;refine x7 (ps:=[(0,.tmp 88)]) (vs:=[(0,.int .u64 (d[j].t.uid:Nat))]) (xs:=nV [d[j].t.uid]) rfl rfl rfl rfl rfl rfl rfl rfl ?_;intro b3 _;refine ah ?_;refine h_ 9 rfl i6 ?_;refine C0 (news:=nV [d[j].t.uid]) (m:=1) rfl rfl (fun a' c'=>uh) (fun w g=>(g.ownN (t:=27) ud).2.2.1) rfl rfl rfl (iq _) (by show(M.length+1)*8<=_;omega) (by show M.length+1<=9223372036854775807;omega) rfl ?_;intro w7 w9 _;refine E6 [10,11,12,13] ?_;refine y9 ?_;refine O_ (i:=(j,Fj,(⟨N,U,M,ch,ua,uc,J,O⟩:Tk))) (j+1,Fj,⟨N,U,M++[d[j].t.uid],ch,ua,uc,w7,w9⟩) ⟨T,S,q7,k8,k9,K7 z2,by simp;omega,?_⟩ qg sub rfl (fun w g=>?_)
    ·simp only;rw[D,u1]
    ·have e1:(M++[d[j].t.uid]).length=M.length+1:=(by rw[zz];rfl);simp only;rw[Ol _ _ _ _ _ _ _ _ _ _ _ _ rfl e1,e1,aB];exact g.drop.drop
   have u2:¬(r.hasS=true/\r.a5O<d[j].t.mod):=by
    rintro⟨k1,k2⟩;rw[h5,h6,k1,kr k2] at h7;simp at h7
   refine u7 ?_;refine D8 [5,7] [8,9,13] [.blk g9 (.cells (S8 d[j]).toArray 156),R9 b m r q (fj U M) ⟨ua,uc,J,O⟩] 14 ?_;refine wd [0,1,2,3,4,5,6,7] ?_;refine h_ 8 rfl i6 ?_;refine x7 (ps:=[(0,.tmp 101)]) (vs:=[(0,.int .u64 (d[j].t.uid:Nat))]) (xs:=nV [d[j].t.uid]) rfl rfl rfl rfl rfl rfl rfl rfl ?_;intro OM _;refine ah ?_;refine h_ 9 rfl i6 ?_;refine C0 (news:=nV [d[j].t.uid]) (m:=1) rfl rfl (fun a' c'=>uh) (fun w g=>(g.ownN (t:=27) ud).2.2.1) rfl rfl rfl (iq _) (by show(U.length+1)*8<=_;omega) (by show U.length+1<=9223372036854775807;omega) rfl ?_;intro p u _;refine E6 [10,11,12,13] ?_;have e1:(U++[d[j].t.uid]).length=U.length+1:=(by rw[zz];rfl);refine D5 (H':=.blk g9 (.cells (S8 d[j]).toArray 156)::.own (.slice p (U++[d[j].t.uid]).length u) 27 1 (nV (U++[d[j].t.uid]))::.own (.slice J M.length O) 27 1 (nV M)::.own (.slice na d.length nc) 156 5 (qH N)::R9 b m r q (fj (U++[d[j].t.uid]) M) ⟨p,u,J,O⟩::S_ m.sa m.a5H m.sc::P5 m.ha m.a5G m.hc::S9 m.ba m.a5F m.bc::O0 m.a5F[i].a d m.a5F[i].c::(V9 (m.a5F.eraseIdx i)++R)) (fun w g=>?_) ?_
   ·rw[Ol _ _ _ _ _ _ _ _ _ _ _ _ e1 rfl,e1,aB];exact g.drop
   obtain⟨Y,hY⟩:=o7 (F9 d[j].t.a5U r.how r.a5U);refine u7 ?_;refine D8 [1,6,11] [12] [.blk g9 (.cells (S8 d[j]).toArray 156),R9 b m r q (fj (U++[d[j].t.uid]) M) ⟨p,u,J,O⟩] 18 ?_;refine wd [0,1,2,3,4,5,6,7,8,9,10,11] ?_;refine h_ 12 rfl i6 ?_;refine c_ (Ei d[j].t.a5U r.a5U r.how d[j].a q.fa d[j].c q.fc qb qb v4 v0) (fun h hh _=>⟨v5.le hh,(y1.a5U.le (q0.trans S).heap).le hh⟩) ?_;rw[<-hY];rintro v A ⟨ya,yc,rfl,rfl⟩;refine E6 [13,14,15,16,17] ?_;refine bD ?_ ?_<;>intro h8
   ·have x3:(F9 d[j].t.a5U r.how r.a5U).2≠0:=(by rw[<-hY];simpa using h8);rw[za q9 u2 x3] at D;rw[D,show lC m i none=(m.s,B9,7) from rfl];refine C8 ?_;refine At.weaken (L':=[(2,.int .i64 7)]) (H':=(R9 b m r q (fj (U++[d[j].t.uid]) M) ⟨p,u,J,O⟩::S_ m.sa m.a5H m.sc::P5 m.ha m.a5G m.hc::S9 m.ba m.a5F m.bc::O0 m.a5F[i].a d m.a5F[i].c::(V9 (m.a5F.eraseIdx i)++R))++[.own (.slice p (U++[d[j].t.uid]).length u) 27 1 (nV (U++[d[j].t.uid])),.own (.slice J M.length O) 27 1 (nV M)]) ?_ sub (fun w g=>?_)
    ·refine dL fun F3 h0 ⟨bs,e⟩=>?_;exact C9 m (fj (U++[d[j].t.uid]) M) ⟨p,u,J,O⟩ rfl rfl ((q0.trans S).trans h0) (fun w g=>zf o Q g) rfl qx (fun b e=>Mn.le ((q0.trans S).trans h0).heap (k0 b e)) ⟨A3.rd e ud,A3.rd e ud⟩
    ·have h9:=g.drop.drop;have x9:=h9.perm (kz (l₁:=[_,_]) (l₂:=_::R9 b m r q (fj (U++[d[j].t.uid]) M) ⟨p,u,J,O⟩::S_ m.sa m.a5H m.sc::P5 m.ha m.a5G m.hc::S9 m.ba m.a5F m.bc::O0 m.a5F[i].a d m.a5F[i].c::(V9 (m.a5F.eraseIdx i)++R)));exact x9.drop
   have x3:¬(F9 d[j].t.a5U r.how r.a5U).2≠0:=(by rw[<-hY];simpa using h8);refine u7 ?_;refine B4 (a:=na) (n:=d.length) (c:=nc) (sz:=5) (xs:=qH N) (te:=156) ud fun _ _ v6=>?_;have v6:=v6 qb;have b1:m.a5F[i].high<=9223372036854775807:=w2;refine E5 ?_;refine e_ rfl (HE Y.1 d[j].t.a5U ya d[j].a yc d[j].c (by rw[hY];exact ju (MV _ _ _) qb)) (fun h hh ⟨bs,e⟩=>⟨A3.rd e ud,v5.le hh⟩) rfl ?_;refine R6 ?_ ?_<;>intro x9
   ·have a0:¬(F9 d[j].t.a5U r.how r.a5U).1=d[j].t.a5U:=(by rw[<-hY];simpa using x9);rw[En q9 u2 x3 a0] at D;refine wk 9 ?_;refine r_ (i8 rfl (fun w g=>cH (j:=3) (g.ownN (t:=100) ud).2.2.1 p7 o rfl x6)) ?_;refine f_ ((K_ rfl rfl qb).eq (v':=.int .u64 ((m.a5F[i].high+1:Nat):Int)) (by congr 1)) ?_;refine y9 ?_;refine A9 (C:=S8) (v:=.slice ya Y.1.length yc) (l:=N) (i:=j) ⟨{d[j].t with a5U:=Y.1},ya,yc⟩ A_ q8 (j:=1) (by rw[u0];rfl) ?_;refine y9 ?_;refine A9 (C:=S8) (v:=.int .u64 ((m.a5F[i].high+1:Nat):Int)) (l:=N.set j ⟨{d[j].t with a5U:=Y.1},ya,yc⟩) (i:=j) ⟨{d[j].t with a5U:=Y.1,mod:=m.a5F[i].high+1},ya,yc⟩ A_ (by simpa using q8) (j:=2) (by rw[Q9];rfl) ?_;refine u7 ?_;rw[Jw];refine B8 (Z:=[A4 ya Y.1 yc]) tk fun F3 h0 ⟨bs,e⟩=>?_;have a1:o0 F3.heap ya (fV Y.1):=A3.rd e ud;clear e;refine y9 ?_;refine O_ (i:=(j,Fj,(⟨N,U,M,ch,ua,uc,J,O⟩:Tk))) (j+1,F3,⟨N.set j ⟨{d[j].t with a5U:=Y.1,mod:=m.a5F[i].high+1},ya,yc⟩,U++[d[j].t.uid],M,true,p,u,J,O⟩) ⟨T,S.trans h0,by simpa using q7,fun x hx=>?_,?_,by rw[e1];omega,K7 x2,?_⟩ qg sub rfl (fun w g=>g.drop)
    ·rcases jd hx with h6|rfl
     ·exact(k8 x h6).le h0.heap
     ·exact a1
    ·show(N.set j _).drop (j+1)=_;rw[Ks qb];exact k9
    ·simp only;rw[D,dV q8,jn,hY,hX];rfl
   ·have a2:(F9 d[j].t.a5U r.how r.a5U).1=d[j].t.a5U:=(by rw[<-hY];simpa using x9);rw[ze q9 u2 x3 a2] at D;refine y9 ?_;refine O_ (i:=(j,Fj,(⟨N,U,M,ch,ua,uc,J,O⟩:Tk))) (j+1,Fj,⟨N,U++[d[j].t.uid],M,ch,p,u,J,O⟩) ⟨T,S,q7,k8,k9,by rw[e1];omega,K7 x2,?_⟩ qg sub rfl (fun w g=>g.drop.drop);simp only;rw[D,u1]
  ·have T:j=d.length:=(by have:=zq h;omega);have v7:SL=some (N.map LM.t,U,M,ch):=by
    rw[D,T,J7,jq qb];show(some _).map _=_;simp[bj]
   rw[v7];refine u7 ?_;refine B8 (Z:=[.own (.slice ua U.length uc) 27 1 (nV U),.own (.slice J M.length O) 27 1 (nV M)]) tk fun F3 h0 ⟨bs,e⟩=>?_;have u8:L_ (fj U M) ⟨ua,uc,J,O⟩ F3.heap:=⟨A3.rd e ud,A3.rd e ud⟩;clear e;have x0:=(q0.trans S).trans h0
   cases ch
   ·rw[show lC m i (some (N.map LM.t,U,M,false))=(m.s,fj U M,0) from rfl];refine bS ?_;exact C9 m (fj U M) ⟨ua,uc,J,O⟩ rfl rfl x0 (fun w g=>zf o Q g.drop) rfl (fun _=>rfl) (fun b e=>Mn.le x0.heap (k0 b e)) u8
   ·have v8:lC m i (some (N.map LM.t,U,M,true))=if D9<=m.a5F[i].high then(m.s,B9,13) else(jC m.s i {m.a5F[i].x with lts:=N.map LM.t,high:=m.a5F[i].high+1},fj U M,0):=by
     unfold lC;simp only[wM o];rfl
    rw[v8];clear v8;obtain⟨q4,h4⟩:=o7 (decide (D9<=m.a5F[i].high));refine au ?_;refine r_ (i8 rfl (fun w g=>cH (j:=3) (g.ownN (t:=100) ud).2.2.1 p7 o rfl x6)) ?_;refine f_ ((I4 rfl rfl).eq (v':=.bool q4) (qn ((zp.2 (by show(9223372036854775807:Int)<=_↔9223372036854775807<=_;omega)).trans h4.symm))) ?_;refine u7 ?_
    cases q4
    case true=>
     rw[zu (qr h4.symm)];refine C8 ?_;exact C9 m (fj U M) ⟨ua,uc,J,O⟩ rfl rfl x0 (fun w g=>zf o Q g.drop) rfl qx (fun b e=>Mn.le x0.heap (k0 b e)) u8
    rw[zk (zq h4.symm)];have b4:m.a5F[i].high<9223372036854775807:=Wn.1 (zq h4.symm);refine u7 ?_;rw[<-q7];refine O2 ?_;refine A9 (C:=de) (v:=.slice na N.length nc) {m.a5F[i] with ls:=N,a:=na,c:=nc} p7 o (j:=4) rfl ?_;refine u7 ?_;obtain⟨V,v9⟩:∃V:BM,V={m.a5F[i] with ls:=N,a:=na,c:=nc}:=⟨_,rfl⟩;have y0:i<(m.a5F.set i V).length:=(by simpa using o);have w0:(m.a5F.set i V)[i]=V:=Q9 _;have a6:(m.a5F.set i V)[i]? =some V:=(by rw[zj y0,w0]);have f1:V.a=na/\V.ls=N/\V.c=nc/\V.next=m.a5F[i].next/\V.high=m.a5F[i].high/\V.val=m.a5F[i].val/\V.name=m.a5F[i].name:=(by subst v9;exact⟨rfl,rfl,rfl,rfl,rfl,rfl,rfl⟩);rw[<-v9];refine E5 ?_;refine r_ (i8 (v:=.int .u64 (m.a5F[i].high:Nat)) rfl (fun w g=>EV (j:=3) (g.ownN (t:=100) ud).2.2.1 p7 V a6 (by rw[<-f1.2.2.2.2.1];rfl) x6)) ?_;refine f_ ((K_ rfl rfl qb).eq (v':=.int .u64 ((m.a5F[i].high+1:Nat):Int)) (by congr 1)) ?_;refine y9 ?_;refine A9 (C:=de) (v:=.int .u64 ((m.a5F[i].high+1:Nat):Int)) {V with high:=m.a5F[i].high+1} p7 y0 (j:=3) (by rw[w0];rfl) ?_;refine u7 ?_;rw[Jw];refine C8 ?_;refine C9 {m with a5F:=m.a5F.set i {V with high:=m.a5F[i].high+1}} (fj U M) ⟨ua,uc,J,O⟩ rfl rfl x0 (fun w g=>?_) ?_ (fun _=>rfl) (fun x hx=>?_) u8
    ·rw[uw];show Hp F3 w (_::S_ m.sa m.a5H m.sc::P5 m.ha m.a5G m.hc::S9 m.ba (m.a5F.set i {V with high:=m.a5F[i].high+1}) m.bc::(V9 (m.a5F.set i {V with high:=m.a5F[i].high+1})++R));rw[nC];refine ux {V with high:=m.a5F[i].high+1} o f1.1 f1.2.1 f1.2.2.1 ?_;have a7:=g.perm (kz (l₁:=[O0 na N nc]) (l₂:=[_,_,_,_])|>.append_right _);exact(a7.perm (Z5 [_,_,_,_] (List.Perm.swap _ _ _)))|>fun a8=>(a8.perm (Qd (l₁:=[_,_,_,_]))).drop
    ·show({m.s with a5F:=_}:ML)=_;unfold jC;rw[aQ];simp only[BM.x,f1.2.1,f1.2.2.2.1,f1.2.2.2.2.2.1,f1.2.2.2.2.2.2]
    ·rcases jd hx with h5|rfl
     ·exact Mn.le x0.heap (k0 x h5)
     ·intro y hy;exact(k8 y (f1.2.1▸hy)).le h0.heap
theorem MW{α:Type}{R:α->α->Prop}{k:List α}(h:k.Pairwise R){a b:α}(ha:a∈k)(g:b∈k)(d:a≠b):R a b\/R b a:=by
 obtain⟨i,e,rfl⟩:=Zq ha;obtain⟨j,f,rfl⟩:=Zq g;rw[Z1] at h;rcases Nat.lt_trichotomy i j with c|c|c
 ·exact .inl (h i j e f c)
 ·subst c;exact absurd rfl d
 ·exact .inr (h j i f e c)
theorem sF{α:Type}{f:α->α->Int}{m k:List α}(hc:xG k f)(hp:m.Perm k)(d:fN f m)(c:k.Pairwise fun x y=>f x y<0):m=k:=by
 refine List.Perm.eq_of_pairwise (le:=fun x y=>¬f y x<0) (fun a b ha g i j=>?_) d (c.imp_of_mem fun{x y} l n h=>hc.asym x l y n h) hp;by_cases e:a=b
 ·exact e
 ·rcases MW c (hp.subset ha) g e with h|h
  ·exact absurd h j
  ·exact absurd h i
theorem wN(n:Nat)(a:n<=1000):Pu prog 191 [.int .u64 (n:Nat)] (fun _=>True) (.int .i64 (Lib.bitLen ((n:Nat):Int).toNat)):=U0 fun w _=>Tryz.bits_Len (n:Nat) w qb qb
theorem MX(a b:Bs):Pu prog 112 [B a,B b] (fun _=>True) (.int .i64 (Lib.compareBytes a b)):=U0 fun w _=>Tryz.strings_Compare ⟨a.toArray⟩ ⟨b.toArray⟩ w
theorem Eo(l:List BM)(a:Option Addr)(c:Nat)(f:FuncId)[HF prog f](b:BM->BM->Int)(d:Int)(hc:xG l b)(e:∀x∈l,∀y∈l,Pu prog f [.agg (de x).toArray,.agg (de y).toArray] (fun _=>True) (.int .i64 (b x y)))(hl:l.length<=12):Ct prog 190 [.slice a l.length c,.int .i64 0,.int .i64 (l.length:Nat),.int .i64 d,.func (.func f) #[] #[]] (fun _=>True) [S9 a l c] (fun v A=>v=.tuple #[]/\∃m:List BM,m.Perm l/\fN b m/\A=[.own (.slice a l.length c) 100 5 (fb m)]):=by
 refine b_ 148 func190 rfl rfl rfl ?_;intro F _;refine y9 ?_;refine o9 (ι:=Unit) (fun _=>True) (fun _=>[(0,.slice a l.length c),(1,.int .i64 0),(2,.int .i64 (l.length:Nat)),(4,.func (.func f) #[] #[])]) (fun _=>[S9 a l c]) (fun _=>0) () trivial sub i_ ?_;rintro _ _;refine y9 ?_;refine f_ ((E0 rfl rfl qb).eq (v':=.int .i64 (l.length:Nat)) (by congr 1)) ?_;refine y9 ?_;refine f_ ((F_ rfl rfl).eq (v':=.bool true) (qn qk)) ?_;refine O2 ?_;refine c_ (Ds l a c f b hc e qb) qw ?_;rintro v A ⟨rfl,m,g,i,rfl⟩;refine ov ?_;exact m6 rfl _ ⟨rfl,m,g,i,rfl⟩ (fun _ h=>h)
theorem zi(l:List BM)(a:Option Addr)(c:Nat)(f:FuncId)[HF prog f](b:BM->BM->Int)(hc:xG l b)(d:∀x∈l,∀y∈l,Pu prog f [.agg (de x).toArray,.agg (de y).toArray] (fun _=>True) (.int .i64 (b x y)))(hl:l.length<=12):Ct prog 110 [.slice a l.length c,.func (.func f) #[] #[]] (fun _=>True) [S9 a l c] (fun v A=>v=.tuple #[]/\∃m:List BM,m.Perm l/\fN b m/\A=[.own (.slice a l.length c) 100 5 (fb m)]):=by
 refine b_ 14 func110 rfl rfl rfl ?_;intro F _;refine cG ?_;refine f_ ((z_ rfl qb)) ?_;refine e_ rfl (wN l.length qb) qw rfl ?_;refine p_ ?_;refine c_ (Eo l a c f b _ hc d hl) qw ?_;rintro v A ⟨rfl,m,e,g,rfl⟩;refine u7 ?_;exact m6 rfl _ ⟨rfl,m,e,g,rfl⟩ (fun _ h=>h)
theorem zl(l:List HO)(a:Option Addr)(c:Nat)(f:FuncId)[HF prog f](b:HO->HO->Int)(d:Int)(hc:xG l b)(e:∀x∈l,∀y∈l,Pu prog f [.agg (gr x).toArray,.agg (gr y).toArray] (fun _=>True) (.int .i64 (b x y)))(hl:l.length<=12):Ct prog 251 [.slice a l.length c,.int .i64 0,.int .i64 (l.length:Nat),.int .i64 d,.func (.func f) #[] #[]] (fun _=>True) [P5 a l c] (fun v A=>v=.tuple #[]/\∃m:List HO,m.Perm l/\fN b m/\A=[.own (.slice a l.length c) 104 3 (JT m)]):=by
 refine b_ 148 func251 rfl rfl rfl ?_;intro F _;refine y9 ?_;refine o9 (ι:=Unit) (fun _=>True) (fun _=>[(0,.slice a l.length c),(1,.int .i64 0),(2,.int .i64 (l.length:Nat)),(4,.func (.func f) #[] #[])]) (fun _=>[P5 a l c]) (fun _=>0) () trivial sub i_ ?_;rintro _ _;refine y9 ?_;refine f_ ((E0 rfl rfl qb).eq (v':=.int .i64 (l.length:Nat)) (by congr 1)) ?_;refine y9 ?_;refine f_ ((F_ rfl rfl).eq (v':=.bool true) (qn qk)) ?_;refine O2 ?_;refine c_ (yy l a c f b hc e qb) qw ?_;rintro v A ⟨rfl,m,g,i,rfl⟩;refine ov ?_;exact m6 rfl _ ⟨rfl,m,g,i,rfl⟩ (fun _ h=>h)
theorem wO(l:List HO)(a:Option Addr)(c:Nat)(f:FuncId)[HF prog f](b:HO->HO->Int)(hc:xG l b)(d:∀x∈l,∀y∈l,Pu prog f [.agg (gr x).toArray,.agg (gr y).toArray] (fun _=>True) (.int .i64 (b x y)))(hl:l.length<=12):Ct prog 185 [.slice a l.length c,.func (.func f) #[] #[]] (fun _=>True) [P5 a l c] (fun v A=>v=.tuple #[]/\∃m:List HO,m.Perm l/\fN b m/\A=[.own (.slice a l.length c) 104 3 (JT m)]):=by
 refine b_ 14 func185 rfl rfl rfl ?_;intro F _;refine cG ?_;refine f_ ((z_ rfl qb)) ?_;refine e_ rfl (wN l.length qb) qw rfl ?_;refine p_ ?_;refine c_ (zl l a c f b _ hc d hl) qw ?_;rintro v A ⟨rfl,m,e,g,rfl⟩;refine u7 ?_;exact m6 rfl _ ⟨rfl,m,e,g,rfl⟩ (fun _ h=>h)
theorem zo(x y:BM):Pu prog 111 [.agg (de x).toArray,.agg (de y).toArray] (fun _=>True) (.int .i64 (Lib.compareBytes x.name y.name)):=by
 refine b_ 10 func111 rfl rfl rfl ?_;intro F _;refine C6 ?_;refine m9 rfl rfl ?_;intro b;refine m9 rfl rfl ?_;intro c;refine au ?_;refine e_ rfl (MX x.name y.name) qw rfl ?_;refine C8 ?_;exact d_ rfl rfl [] qh (fun w a=>a.dropAll)
theorem zt(x y:HO)(hx:0<=x.node/\x.node<=100)(b:0<=y.node/\y.node<=100):Pu prog 186 [.agg (gr x).toArray,.agg (gr y).toArray] (fun _=>True) (.int .i64 (x.node-y.node)):=by
 refine b_ 10 func186 rfl rfl rfl ?_;intro F _;refine C6 ?_;refine m9 rfl rfl ?_;intro c;refine m9 rfl rfl ?_;intro d;refine KN ?_;exact d_ rfl rfl [] qh (fun w a=>a.dropAll)
theorem nD(a b:Bs):Lib.compareBytes a b<0↔gR a b=true:=by
 rw[<-ym,Jc]
abbrev Ud(x y:BM):Int:=Lib.compareBytes x.name y.name
theorem Ih{a b:Bs}(h:gR a b=true)(k:gR b a=true):False:=by
 have:=bR h k;rw[ip] at this
 cases this
theorem Ii(l:List BM):xG l Ud:=⟨fun x _ y _ h k=>Ih ((nD _ _).1 h) ((nD _ _).1 k),fun x _ y _ z _ c b a=>by
 unfold Ud at c b a;rw[nD] at c b a;by_cases e:x.name=y.name
 ·rw[e] at a;exact b a
 ·have d:gR y.name x.name=true:=dM e (by simpa using c);exact b (bR d a)⟩
def eU(b:BM):List BM->List BM
 |[]=>[b]
 |x::t=>if gR b.name x.name=true then b::x::t else x::eU b t
theorem wP(b:BM):∀l:List BM,(eU b l).map BM.x=jB b.x (l.map BM.x)
 |[]=>rfl
 |x::t=>by
  unfold eU;rw[Qu,jB];split
  ·rfl
  ·rw[Qu,wP b t]
theorem gH(b:BM):∀l:List BM,(eU b l).Perm (l++[b])
 |[]=>.refl _
 |x::t=>by
  unfold eU;split
  ·exact(kz (l₁:=[b]) (l₂:=x::t))
  ·exact(gH b t).cons x
theorem wQ{b x:BM}{l:List BM}(h:x∈eU b l):x=b\/x∈l:=by
 have:=(gH b l).subset h;rcases zb.1 this with h|h
 ·exact .inr h
 ·exact .inl (zg.1 h)
theorem mq(b:BM):∀{l:List BM},(l.Pairwise fun x y=>gR x.name y.name=true)->(∀x∈l,x.name≠b.name)->(eU b l).Pairwise fun x y=>gR x.name y.name=true
 |[],_,_=>K0 _ _
 |x::t,h,hn=>by
  obtain⟨d,f⟩:=Qz.1 h;unfold eU;split
  ·rename_i a;refine Qz.2 ⟨fun y c=>?_,h⟩;rcases ky.1 c with rfl|c
   ·exact a
   ·exact bR a (d y c)
  ·rename_i a;refine Qz.2 ⟨fun y c=>?_,mq b f fun z hz=>hn z (jj _ hz)⟩;rcases wQ c with rfl|c
   ·exact dM (fun e=>hn x Qq e.symm) (by simpa using a)
   ·exact d y c
theorem Ij{s:ML}{a:Bs}(h:xD s a=none):∀x∈s.a5F,x.name≠a:=fun x b e=>by
 unfold xD at h;rw[Q5] at h;have:=h x b;simp[e] at this
abbrev eo(name:Bs)(val:Nat):BM:=⟨name,val,1,1,[],none,0⟩
theorem MY(b:BM)(l:List BM):(V9 (eU b l)).Perm (O0 b.a b.ls b.c::V9 l):=by
 have h:=(gH b l).map fun b:BM=>O0 b.a b.ls b.c;rw[jn] at h;exact h.trans kz
theorem PT{F:l6}{w:World}{x y k u v:As}{a:Bs}{val:Nat}{l:List BM}{R:List As}(h:Hp F w (x::y::k::u::v::(V9 l++R))):Hp F w (k::(u::v::x::V9 (eU (eo a val) l)++R)):=by
 have b:Hp F w ([x,k,u,v]++(V9 l++R)):=(h.perm (kz (l₁:=[x]) (l₂:=[y])|>.append_right (k::u::v::(V9 l++R)))).drop;have c:Hp F w (O0 none [] 0::([x,k,u,v]++(V9 l++R))):=b.addNil _ _;have d:Hp F w ([x,k,u,v]++(O0 none [] 0::(V9 l++R))):=c.perm Qd.symm;have e:Hp F w ([x,k,u,v]++(V9 (eU (eo a val) l)++R)):=d.perm (((MY (eo a val) l).symm.append_right R).append_left [x,k,u,v]);exact e.perm (kz (l₁:=[x]) (l₂:=[k,u,v])|>.append_right (V9 (eU (eo a val) l)++R))
theorem Ep(b:Nat)(m:MM)(r:RQ)(q:QL)(hm:m.a5F.length<=8)(hs:m.a5F.Pairwise fun x y=>gR x.name y.name=true)(hv:m.nval<=4294967296)(p:r.box.length<=lp):HB 59 b m r q (cX m.s r):=by
 refine y4 91 func59 rfl rfl rfl ?_;rintro F R ⟨a,V⟩;obtain⟨o,s⟩:=o7 (ja r.box);have d:o≠some r.box->cX m.s r=(m.s,B9,1):=fun h=>by unfold cX;rw[zu (by rw[<-s];exact h)]
 refine cG ?_;refine e_ rfl (AM r.box p) qw rfl ?_;rw[<-s];refine au ?_
 cases o with
 |none=>
  rw[d x6];refine wk 13 ?_;refine A2 ?_;exact C9 m B9 M9 rfl rfl (l6.le_refl _) i_ rfl qx a (L_.zero _)
 |some nm=>
  obtain⟨Q,u⟩:=o7 (decide (nm=r.box));refine wk 9 ?_;(first|refine u_ ?_|(refine v_ ?_;refine f_ ((E1 rfl rfl).eq (v':=.bool (!Q)) (jk (fun b=>Value.bool (!b)) u.symm)) ?_));refine y9 ?_
  cases Q
  ·rw[d (fun e=>zq u.symm (j8 e))];refine C8 ?_;exact C9 m B9 M9 rfl rfl (l6.le_refl _) i_ rfl qx a (L_.zero _)
  obtain rfl:nm=r.box:=qr u.symm;have S:cX m.s r=if(xD m.s r.box).isSome=true then(m.s,B9,12) else if 8<=m.a5F.length then(m.s,B9,7) else if eK<m.nval then(m.s,B9,13) else({m.s with a5F:=jB ⟨r.box,m.nval,1,1,[]⟩ m.s.a5F,nval:=m.nval+1},{B9 with val:=m.nval},0):=by
   unfold cX;rw[zk (by rw[<-s];simp),zr]
  rw[S];clear S;refine au ?_;refine e_ rfl (oJ m r.box qb) (fun h hh ⟨bs,p⟩=>A3.rd p ud) rfl ?_;refine bD ?_ ?_<;>intro h
  ·have z:¬D1 (fun b:BM=>decide (b.name=r.box)) m.a5F<0:=(by have:=qr h;omega);obtain⟨i,_,_,ha⟩:=gE z;rw[zu (by rw[ha];rfl)];refine C8 ?_;exact C9 m B9 M9 rfl rfl (l6.le_refl _) i_ rfl qx a (L_.zero _)
  have z:D1 (fun b:BM=>decide (b.name=r.box)) m.a5F<0:=by have:=zq h;omega
  have f:=gD z;rw[zk (by rw[f];simp)];refine wk 8 ?_;refine o8 rfl ?_ ?_<;>intro T
  ·have k:8<=m.a5F.length:=(by have:=qr T;omega);rw[zu k];refine C8 ?_;exact C9 m B9 M9 rfl rfl (l6.le_refl _) i_ rfl qx a (L_.zero _)
  have X:¬8<=m.a5F.length:=by have:=zq T;omega
  rw[zk X];obtain⟨U,j⟩:=o7 (decide (eK<m.nval));refine au ?_;refine f_ ((D_ rfl rfl).eq (v':=.bool U) (qn ((zp.2 (by show(4294967295:Int)<_↔4294967295<_;omega)).trans j.symm))) ?_;refine p_ ?_
  cases U
  case true=>
   rw[zu (qr j.symm)];refine C8 ?_;exact C9 m B9 M9 rfl rfl (l6.le_refl _) i_ rfl qx a (L_.zero _)
  rw[zk (zq j.symm)];refine wk 10 ?_;refine D8 [5,11] [13,14,18] [R9 b m r q {B9 with val:=m.nval} M9] 19 ?_;refine wd [0,1,2,3,4,5,6,7,8,9,10,11,12] ?_;refine h_ 13 rfl i6 ?_;refine C4 de (eo r.box m.nval) rfl ?_;intro Y _;refine ah ?_;refine h_ 14 rfl i6 ?_;refine u6 de (l:=m.a5F) (m:=[eo r.box m.nval]) p7 Aw (by show(m.a5F.length+1)*64<=_;omega) ?_ rfl rfl (fun _ _=>uh) (fun w n=>(n.ownN (t:=100) ud).2.2.1) (by show m.a5F.length+1<=9223372036854775807;omega);intro a72 c _;refine E6 [15,16,17,18] ?_;have C:(eU (eo r.box m.nval) m.a5F).Perm (m.a5F++[eo r.box m.nval]):=gH _ _;have D:(eU (eo r.box m.nval) m.a5F).Pairwise fun x y=>Ud x y<0:=(mq (eo r.box m.nval) hs (fun x g=>Ij f x.x (Zz g))).imp fun h=>(nD _ _).2 h;refine au ?_;refine c_ (zi (m.a5F++[eo r.box m.nval]) a72 c 111 Ud (Ii _) (fun x _ y _=>zo x y) (by rw[zz];show m.a5F.length+1<=12;omega)) qw ?_;rintro v A ⟨rfl,Z,h9,J,rfl⟩;refine u7 ?_;obtain rfl:Z=eU (eo r.box m.nval) m.a5F:=sF (xG.perm (Ii _) C) (h9.trans C.symm) J D;have M:(eU (eo r.box m.nval) m.a5F).length=(m.a5F++[eo r.box m.nval]).length:=C.length_eq;have h3:m.nval<=4294967295:=Nat.not_lt.1 (zq j.symm);refine au ?_;refine f_ ((K_ rfl rfl qb).eq (v':=.int .u64 ((m.nval+1:Nat):Int)) (by congr 1)) ?_;refine JP ?_;have O:(ML.mk (jB ⟨r.box,m.nval,1,1,[]⟩ m.s.a5F) (m.nval+1) m.a5G m.a5H m.nses m.a5R)={m with a5F:=eU (eo r.box m.nval) m.a5F,nval:=m.nval+1,ba:=a72,bc:=c:MM}.s:=by
   show _=ML.mk ((eU (eo r.box m.nval) m.a5F).map BM.x) _ _ _ _ _;rw[wP];rfl
  refine C9 {m with a5F:=eU (eo r.box m.nval) m.a5F,nval:=m.nval+1,ba:=a72,bc:=c} {B9 with val:=m.nval} M9 rfl rfl (l6.le_refl _) (fun w n=>?_) O.symm (fun _=>rfl) (fun x g=>?_) ⟨o0.nil _ _,o0.nil _ _⟩
  ·rw[<-M] at n;exact PT n
  ·rcases wQ g with rfl|g
   ·exact fun _ h=>by cases h
   ·exact a x g
theorem lD(b:HO):∀l:List HO,(dA b l).Perm (l++[b])
 |[]=>.refl _
 |x::t=>by
  unfold dA;split
  ·exact(kz (l₁:=[b]) (l₂:=x::t))
  ·exact(lD b t).cons x
theorem Ik{b x:HO}{l:List HO}(h:x∈dA b l):x=b\/x∈l:=by
 have:=(lD b l).subset h;rcases zb.1 this with h|h
 ·exact .inr h
 ·exact .inl (zg.1 h)
theorem mr(b:HO):∀{l:List HO},(l.Pairwise fun x y=>x.node<y.node)->(∀x∈l,x.node≠b.node)->(dA b l).Pairwise fun x y=>x.node<y.node
 |[],_,_=>K0 _ _
 |x::t,h,hn=>by
  obtain⟨d,e⟩:=Qz.1 h;unfold dA;split
  ·rename_i a;refine Qz.2 ⟨fun y c=>?_,h⟩;rcases ky.1 c with rfl|c
   ·exact a
   ·exact Int.lt_trans a (d y c)
  ·rename_i a;refine Qz.2 ⟨fun y c=>?_,mr b e fun z hz=>hn z (jj _ hz)⟩;rcases Ik c with rfl|c
   ·have:=hn x Qq;omega
   ·exact d y c
abbrev Rf(x y:HO):Int:=x.node-y.node
theorem BE(l:List HO):xG l Rf:=⟨fun x _ y _ h k=>by unfold Rf at h k;omega,fun x _ y _ z _ a b c=>by unfold Rf at a b c;omega⟩
def Om(b:Nat)(m:MM)(r:RQ)(q:QL)(o:OC)(y:OL)(l:List HO)(v:Value)(A:List As):Prop:=v=.tuple #[]/\∃a c,A=[R9 b {m with a5G:=l,ha:=a,hc:=c} r q o y,P5 a l c]
theorem sG{m:MM}{n:Int}(h:D1 (fun x:HO=>decide (x.node=n)) m.a5G<0):gS m.s n=none:=by
 unfold D1 at h;unfold gS
 cases e:m.a5G.findIdx? fun x=>decide (x.node=n) with
 |none=>rfl
 |some i=>rw[e] at h;simp only[Option.elim] at h;omega
theorem sH{m:MM}{n:Int}(h:¬D1 (fun x:HO=>decide (x.node=n)) m.a5G<0):∃i:Nat,D1 (fun x:HO=>decide (x.node=n)) m.a5G=(i:Nat)/\i<m.a5G.length/\gS m.s n=some i:=by
 unfold D1 at h⊢;unfold gS
 cases e:m.a5G.findIdx? fun x=>decide (x.node=n) with
 |none=>rw[e] at h;simp only[Option.elim] at h;omega
 |some i=>exact⟨i,rfl,(kg.1 e).1,rfl⟩
theorem MZ{m:MM}{n:Int}(h:gS m.s n=none):∀x∈m.a5G,x.node≠n:=fun x a e=>by
 unfold gS at h;rw[Q5] at h;have:=h x a;simp[e] at this
theorem wR{m:MM}{n:Int}{t:Nat}(h:D1 (fun x:SX=>decide (x.node=n/\x.tr=t)) m.a5H<0):gn m.s n t=none:=by
 unfold D1 at h;unfold gn
 cases e:m.a5H.findIdx? fun x=>decide (x.node=n/\x.tr=t) with
 |none=>rfl
 |some i=>rw[e] at h;simp only[Option.elim] at h;omega
theorem wS{m:MM}{n:Int}{t:Nat}(h:¬D1 (fun x:SX=>decide (x.node=n/\x.tr=t)) m.a5H<0):∃i:Nat,D1 (fun x:SX=>decide (x.node=n/\x.tr=t)) m.a5H=(i:Nat)/\i<m.a5H.length/\gn m.s n t=some i:=by
 unfold D1 at h⊢;unfold gn
 cases e:m.a5H.findIdx? fun x=>decide (x.node=n/\x.tr=t) with
 |none=>rw[e] at h;simp only[Option.elim] at h;omega
 |some i=>exact⟨i,rfl,(kg.1 e).1,rfl⟩
theorem Na(b:Nat)(m:MM)(r:RQ)(q:QL)(o:OC)(y:OL)(i:Nat)(h:HO):R9 b {m with a5G:=m.a5G.set i h} r q o y=R9 b m r q o y:=by
 unfold R9 NZ iA;simp only[js]
theorem Tm{F:l6}{w:World}{x y z k:As}(h:Hp F w [x,y,z,k]):Hp F w [k,x]:=((h.perm (kz (l₁:=[x]) (l₂:=[y,z,k]))).drop.drop)
theorem zA(b:Nat)(m:MM)(r:RQ)(q:QL)(o:OC)(y:OL)(i:Nat)(h:HO)(e:i<m.a5G.length)(l:m.a5G.length<=8):Ct prog 106 [l9 b,.int .i64 (i:Nat),.agg (gr h).toArray] (fun _=>True) [R9 b m r q o y,P5 m.ha m.a5G m.hc] (Om b m r q o y (m.a5G.set i h)):=by
 refine b_ 34 func106 rfl rfl rfl ?_;intro F _;refine B4 (a:=m.ha) (n:=m.a5G.length) (c:=m.hc) (sz:=3) (xs:=JT m.a5G) (te:=104) ud fun _ _ d=>?_;have d:=d qb;refine C6 ?_;refine m9 rfl rfl ?_;intro f;refine p_ ?_;refine f_ ((I4 rfl rfl).eq (v':=.bool true) (qn qk)) ?_;refine u7 ?_;refine D8 [4,6] [8] [.blk f (.cells (gr h).toArray 104),R9 b m r q o y] 9 ?_;refine wd [0,1,2,3,4,5,6,7] ?_;refine h_ 8 rfl i6 ?_;refine A9 (C:=gr) h O5 e (j:=0) rfl ?_;refine E6 [] ?_;refine A2 ?_;exact m6 rfl [R9 b m r q o y,P5 m.ha (m.a5G.set i h) m.hc] ⟨rfl,m.ha,m.hc,by rw[<-Na b m r q o y i h]⟩ (fun w g=>by have k:=g.drop;unfold P5;rw[js];exact k)
theorem zB(b:Nat)(m:MM)(r:RQ)(q:QL)(o:OC)(y:OL)(h:HO)(J:m.a5G.length<=8)(hs:m.a5G.Pairwise fun x y=>x.node<y.node)(n:∀x∈m.a5G,x.node≠h.node)(p:∀x∈m.a5G,0<=x.node/\x.node<=100)(s:0<=h.node/\h.node<=100):Ct prog 106 [l9 b,.int .i64 (-1),.agg (gr h).toArray] (fun _=>True) [R9 b m r q o y,P5 m.ha m.a5G m.hc] (Om b m r q o y (dA h m.a5G)):=by
 refine b_ 34 func106 rfl rfl rfl ?_;intro F _;refine C6 ?_;refine m9 rfl rfl ?_;intro u;refine y9 ?_;refine D8 [5,6] [7,8,12] [.blk u (.cells (gr h).toArray 104),R9 b m r q o y] 13 ?_;refine wd [0,1,2,3,4,5,6] ?_;refine h_ 7 rfl i6 ?_;refine C4 gr h rfl ?_;intro TX _;refine ah ?_;refine h_ 8 rfl i6 ?_;refine u6 gr (l:=m.a5G) (m:=[h]) O5 AB (by show(m.a5G.length+1)*24<=_;omega) ?_ rfl rfl (fun _ _=>uh) (fun w f=>(f.ownN (t:=104) ud).2.2.1) (by show m.a5G.length+1<=9223372036854775807;omega);intro a c _;refine E6 [9,10,11,12] ?_;have g:(dA h m.a5G).Perm (m.a5G++[h]):=lD _ _;have i:(dA h m.a5G).Pairwise fun x y=>Rf x y<0:=(mr h hs n).imp fun h=>by unfold Rf;omega
 have e:∀x∈m.a5G++[h],0<=x.node/\x.node<=100:=fun x d=>by
  rcases zb.1 d with d|d
  ·exact p x d
  ·rw[zg.1 d];exact s
 refine au ?_;refine c_ (wO (m.a5G++[h]) a c 186 Rf (BE _) (fun x d y z=>zt x y (e x d) (e y z)) (by rw[zz];show m.a5G.length+1<=12;omega)) qw ?_;rintro v A ⟨rfl,C,D,j,rfl⟩;refine u7 ?_;obtain rfl:C=dA h m.a5G:=sF (xG.perm (BE _) g) (D.trans g.symm) j i;have k:(dA h m.a5G).length=(m.a5G++[h]).length:=g.length_eq;refine m6 rfl [R9 b {m with a5G:=dA h m.a5G,ha:=a,hc:=c} r q o y,P5 a (dA h m.a5G) c] ⟨rfl,a,c,rfl⟩ (fun w f=>?_);rw[<-k] at f;exact Tm f
