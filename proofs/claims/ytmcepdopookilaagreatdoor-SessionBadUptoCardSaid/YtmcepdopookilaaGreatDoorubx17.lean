import Derived.Test.YtmcepdopookilaaGreatDoorubx16
set_option maxHeartbeats 16000000
set_option maxRecDepth 8000
set_option linter.unusedVariables false
set_option linter.unusedSimpArgs false
set_option linter.defProp false
namespace Go.Proofs.YtmcepdopookilaaGreatDoor.Rp
open Go Go.Sl Go.RowKit Go.Proofs.Tryz
theorem MV{l:List BM}{i:Nat}(a:i<l.length)(b:BM):(V9 (l.set i b)).Perm (N9 b.a b.ls b.c::V9 (l.eraseIdx i)):=by
 have h:=L4 (l:=l.set i b) (i:=i) (by simpa using a);rw[Zq,List.eraseIdx_set_eq] at h;exact h
theorem EV{α:Type}{C:α->List Value}{sz:Nat}{h:l_}{a:Option Addr}{l:List α}{q i j:Nat}{v:Value}(r:n9 h a (l.flatMap C))(b:∀x,(C x).length=sz)(x:α)(c:l[i]? =some x)(hv:(C x)[j]? =some v)(hq:q=i*sz+j):M0 h (N0 a q) [v]:=by
 obtain⟨d,rfl⟩:=jn.1 c;exact cD r b d hv hq
theorem aR(m:MM)(i:Nat)(b:BM):(m.a5J.set i b).map BM.x=(m.a5J.map BM.x).set i b.x:=Ku
theorem Tm{F:l8}{w:World}{x y z:As}{T:List As}(h:Hp F w (x::y::z::T)):Hp F w (x::T):=(h.perm (kz (l₁:=[x]) (l₂:=[y,z])|>.append_right T)).drop.drop
theorem uy(b:Nat)(m:MM)(r:RQ)(q:QL)(o:OC)(y:OL)(i:Nat)(B:BM):R_ b {m with a5J:=m.a5J.set i B} r q o y=R_ b m r q o y:=by
 unfold R_ Oa iD;simp only[jr]
theorem nF(m:MM)(i:Nat)(B:BM):T0 m.ba (m.a5J.set i B) m.bc=.own (.slice m.ba m.a5J.length m.bc) 100 5 (fh (m.a5J.set i B)):=by
 unfold T0;rw[jr]
theorem uz{F:l8}{w:World}{k x y z:As}{l:List BM}{i:Nat}{R:List As}{a:Option Addr}{ls:List LM}{c:Nat}(B:BM)(d:i<l.length)(ha:B.a=a)(b:B.ls=ls)(hc:B.c=c)(h:Hp F w (k::x::y::z::N9 a ls c::(V9 (l.eraseIdx i)++R))):Hp F w (k::x::y::z::(V9 (l.set i B)++R)):=by
 subst ha b hc;have e:Hp F w ([k,x,y,z]++((N9 B.a B.ls B.c::V9 (l.eraseIdx i))++R)):=h;exact e.perm (((MV d B).symm.append_right R).append_left [k,x,y,z])
theorem El(b:Nat)(m:MM)(r:RQ)(q:QL)(hm:m.a5J.length<=1000)(x9:∀x∈m.a5J,x.ls.length<=1000/\x.next<=4294967296/\x.high<=D9)(z2:r.a5Y.length<=100000)(y0:∀f∈r.a5Y,f.length<=lr):HB 61 b m r q (cW m.s r):=by
 refine y5 130 func61 rfl rfl rfl ?_;rintro F R ⟨u,k0⟩;refine r7 ?_;refine n7 (ι:=Nat) (fun _=>True) (fun z=>[(0,l9 b),(3,.int .i64 (D3 (fun b=>decide (b.name=r.box)) m.a5J)),(4,l9 z)]) (fun z=>.blk z (.cells (eE r q).toArray 44)::R_ b m r q B_ M9::(uO m++R)) ?_ ?_
 ·skip
  refine w8 ?_;refine D2 [3,8,13] [9,14,16] [R_ b m r q B_ M9] 17 ?_;refine wd [0,1,2,3,4,5,6,7,8,10,11,12,13] ?_;refine az 9 14 rfl rfl i6 ?_ ?_;refine c_ rfl (oL m r.box hm) (fun h hh ⟨bs,hb⟩=>A3.rd hb ud) rfl ?_;refine Y9 ?_;refine h_ 14 rfl i6 ?_;refine i7 rfl ?_;intro z;refine fg [15,16] ?_
  rotate_left 1
  refine i7 rfl ?_;intro z;refine Y9 ?_;refine h_ 9 rfl i6 ?_;refine c_ rfl (oL m r.box hm) (fun h hh ⟨bs,hb⟩=>A3.rd hb ud) rfl ?_;refine fg [15,16] ?_
  rotate_left 1
  all_goals (refine w8 ?_)
  all_goals exact g_ z trivial i_
 rintro z _;refine bA ?_ ?_<;>intro h
 ·have es:cW m.s r=(m.s,B_,6):=by unfold cW;rw[gH (qr h)]
  rw[es];refine C5 ?_;exact C_ m B_ M9 rfl rfl (l8.le_refl _) (fun w d=>d.drop) rfl qx u (L_.zero _)
 obtain⟨i,hi,e,ha⟩:=gI (zq h);rw[hi];have k8:cW m.s r=if G1 r.a5Y=false\/r.hash.length≠32\/4096<r.size then(m.s,B_,1) else if r.a5V≠m.a5V then(m.s,B_,15) else if 32<=m.a5J[i].ls.length then(m.s,B_,7) else if eO<m.a5J[i].next\/D9<=m.a5J[i].high then(m.s,B_,13)
   else(jE m.s i {m.a5J[i].x with high:=m.a5J[i].high+1,next:=m.a5J[i].next+1,lts:=m.a5J[i].x.lts++[⟨m.a5J[i].next,r.a5Y,m.a5J[i].high+1,r.hash,r.size⟩]},{B_ with val:=m.a5J[i].val,a5P:=[m.a5J[i].next]},0):=by
  unfold cW;rw[ha];simp only[eV e,BM.x,zh]
 rw[k8];clear k8;obtain⟨u0,u1,u2⟩:=x9 _ (zy e);refine B5 (a:=m.ba) (n:=m.a5J.length) (c:=m.bc) (sz:=5) (xs:=fh m.a5J) (te:=100) ud fun _ _ J=>?_;have J:=J qb;refine wk 8 ?_;obtain⟨q1,h1⟩:=o8 (G1 r.a5Y);obtain⟨q2,h2⟩:=o8 (decide (r.hash.length=32));obtain⟨q3,h3⟩:=o8 (decide (4096<r.size));refine x8 [(0,l9 b),(4,l9 z),(5,dj m i),(29,.bool (!q1||(!q2||q3)))] (.blk z (.cells (eE r q).toArray 44)::R_ b m r q B_ M9::(uO m++R)) ?_ ?_
 ·cases q1<;>cases q2
  all_goals (
   refine A1 ?_;refine c_ rfl (gJ r.a5Y q.fa q.fc qb y0) (fun h hh _=>k0.a5Y.le hh) rfl ?_;rw[<-h1];refine ap ?_;(first|refine u_ ?_|(refine v_ ?_;refine f_ ((M3 rfl rfl).eq (jy (fun x=>Value.bool (!x)) ((qz).trans h2.symm))) ?_));refine O3 ?_;(first|refine u_ ?_|(refine v_ ?_;refine f_ ((E2 rfl rfl).eq (qn ((qz).trans h3.symm))) ?_));refine A1 ?_)
  all_goals exact p9 sub i_
 refine w8 ?_;have u8:q1=false->G1 r.a5Y=false:=fun k=>h1▸k;refine o9 rfl ?_ ?_<;>intro Q
 ·have hc:G1 r.a5Y=false\/r.hash.length≠32\/4096<r.size:=by
   rw[<-h1]
   revert Q
   cases q1
   ·exact fun _=>.inl rfl
   cases q2
   ·exact fun _=>.inr (.inl (zq h2.symm))
   cases q3
   ·intro T;simp at T
   ·exact fun _=>.inr (.inr (qr h3.symm))
  rw[zg hc];refine C5 ?_;exact C_ m B_ M9 rfl rfl (l8.le_refl _) (fun w d=>d.drop) rfl qx u (L_.zero _)
 have hc:¬(G1 r.a5Y=false\/r.hash.length≠32\/4096<r.size):=by
  rw[<-h1];rintro(k|k|k)
  ·rw[k] at Q;simp at Q
  ·rw[h2,Qz k] at Q;cases q1<;>simp at Q
  ·rw[h3,jk k] at Q;cases q1<;>cases q2<;>simp at Q
 rw[zk hc];refine w8 ?_;obtain⟨q4,h4⟩:=o8 (decide (r.a5V=m.a5V));refine w8 ?_;refine D2 [1,6] [] [.blk z (.cells (eE r q).toArray 44),R_ b m r q B_ M9] 9 ?_;refine wd [0,1,2,3,4,5,6] ?_;refine w_ 7 rfl ((M3 rfl rfl).eq (v':=.bool (!q4)) (jy (fun x=>Value.bool (!x)) ((zp.2 Jv).trans h4.symm))) ?_;refine wd [8] ?_
 cases q4
 ·rw[zg (zq h4.symm)];refine C5 ?_;exact C_ m B_ M9 rfl rfl (l8.le_refl _) (fun w d=>d.drop) rfl qx u (L_.zero _)
 rw[zk (fun k=>k (qr h4.symm))];refine E7 ?_;refine r_ (i8 rfl (fun w d=>cD (j:=4) (d.ownN (t:=100) ud).2.2.1 o_ e rfl x4)) ?_;refine eM ?_ ?_<;>intro T
 ·have k:32<=m.a5J[i].ls.length:=by have:=qr T;omega
  rw[zg k];refine C5 ?_;exact C_ m B_ M9 rfl rfl (l8.le_refl _) (fun w d=>d.drop) rfl qx u (L_.zero _)
 have y1:¬32<=m.a5J[i].ls.length:=by have:=zq T;omega
 rw[zk y1];obtain⟨q5,h7⟩:=o8 (decide (eO<m.a5J[i].next));obtain⟨q6,h8⟩:=o8 (decide (D9<=m.a5J[i].high));refine w8 ?_;refine x8 [(0,l9 b),(4,l9 z),(5,dj m i),(61,.bool (q5||q6))] (.blk z (.cells (eE r q).toArray 44)::R_ b m r q B_ M9::(uO m++R)) ?_ ?_
 ·cases q5
  all_goals (
   refine E7 ?_;refine r_ (i8 rfl (fun w d=>cD (j:=2) (d.ownN (t:=100) ud).2.2.1 o_ e rfl x4)) ?_;refine f_ ((E2 rfl rfl).eq (qn ((zp.2 (by show(4294967295:Int)<_↔4294967295<_;omega)).trans h7.symm))) ?_;refine O3 ?_;(first|refine u_ ?_|(refine v_ ?_;refine r_ (i8 rfl (fun w d=>cD (j:=3) (d.ownN (t:=100) ud).2.2.1 o_ e rfl x4)) ?_));(first|refine u_ ?_|(refine v_ ?_;refine f_ ((I5 rfl rfl).eq (qn ((zp.2 (by show(9223372036854775807:Int)<=_↔9223372036854775807<=_;omega)).trans h8.symm))) ?_));refine A1 ?_)
  all_goals exact p9 sub i_
 refine O0 ?_ ?_<;>intro h9
 ·have k:eO<m.a5J[i].next\/D9<=m.a5J[i].high:=by
   rw[Zw] at h9;rcases h9 with k|k
   ·exact .inl (qr (h7.symm.trans k))
   ·exact .inr (qr (h8.symm.trans k))
  rw[zg k];refine C5 ?_;exact C_ m B_ M9 rfl rfl (l8.le_refl _) (fun w d=>d.drop) rfl qx u (L_.zero _)
 rw[Q1] at h9;have kn:¬eO<m.a5J[i].next:=zq (h7.symm.trans h9.1);have kh:¬D9<=m.a5J[i].high:=zq (h8.symm.trans h9.2);rw[zk (fun k=>k.elim kn kh)];have v0:m.a5J[i].next<=4294967295:=Nat.not_lt.1 kn;have v1:m.a5J[i].high<9223372036854775807:=Wn.1 kh;refine D7 (H':=.blk z (.cells (eE r q).toArray 44)::R_ b m r q B_ M9::T1 m.sa m.a5L m.sc::P5 m.ha m.a5K m.hc::T0 m.ba m.a5J m.bc::N9 m.a5J[i].a m.a5J[i].ls m.a5J[i].c::(V9 (m.a5J.eraseIdx i)++R)) (fun w d=>d.perm (((L4 e).append_right R).append_left [_,_,_,_,_])) ?_;refine E7 ?_;refine r_ (i8 rfl (fun w d=>cD (j:=3) (d.ownN (t:=100) ud).2.2.1 o_ e rfl x4)) ?_;refine f_ ((L2 rfl rfl qb).eq (v':=.int .u64 ((m.a5J[i].high+1:Nat):Int)) (by congr 1)) ?_;refine A1 ?_;refine A_ (C:=cY) {m.a5J[i] with high:=m.a5J[i].high+1} o_ e (j:=3) rfl ?_;refine w8 ?_;obtain⟨o,k9⟩:∃o,o={m.a5J[i] with high:=m.a5J[i].high+1}:=⟨_,rfl⟩;have q0:i<(m.a5J.set i o).length:=by simpa using e
 have q7:(m.a5J.set i o)[i]=o:=Zq _;have S:o.a=m.a5J[i].a/\o.ls=m.a5J[i].ls/\o.c=m.a5J[i].c/\o.next=m.a5J[i].next/\o.high=m.a5J[i].high+1/\o.val=m.a5J[i].val/\o.name=m.a5J[i].name:=by subst k9;exact⟨rfl,rfl,rfl,rfl,rfl,rfl,rfl⟩
 have X:(m.a5J.set i o)[i]? =some o:=by rw[zj q0,q7]
 rw[<-k9];refine w8 ?_;refine D2 [4,8,10,15,17,19] [11,21,22,25] [.own (.slice m.ba m.a5J.length m.bc) 100 5 (fh (m.a5J.set i o)),.blk z (.cells (eE r q).toArray 44)] 26 ?_;refine wd [0,1,2,3] ?_;refine o0 4 rfl O4 (i8 (v:=.slice m.a5J[i].a m.a5J[i].ls.length m.a5J[i].c) rfl (fun w d=>EV (j:=4) (d.ownN (t:=100) ud).2.2.1 o_ o X (by rw[<-S.1,<-S.2.1,<-S.2.2.1];rfl) x4)) G2 rfl rfl rfl i6 ?_;refine wd [5,6,7] ?_;refine o0 8 rfl O4 (i8 (v:=.int .u64 (m.a5J[i].next:Nat)) rfl (fun w d=>EV (j:=2) (d.ownN (t:=100) ud).2.2.1 o_ o X (by rw[<-S.2.2.2.1];rfl) x4)) G2 rfl rfl rfl i6 ?_;refine wd [9,10,12,13,14] ?_;refine o0 15 rfl O4 (i8 (v:=.int .u64 ((m.a5J[i].high+1:Nat):Int)) rfl (fun w d=>EV (j:=3) (d.ownN (t:=100) ud).2.2.1 o_ o X (by rw[<-S.2.2.2.2.1];rfl) x4)) G2 rfl rfl rfl i6 ?_;refine wd [16,17,18,19] ?_;refine h_ 11 rfl i6 ?_;refine e_ (Y4 r.a5Y q.fa q.fc qb) (fun h hh _=>k0.a5Y.le hh) ?_;rintro v A ⟨na,nc,rfl,rfl⟩;refine fg [20] ?_;refine h_ 21 rfl i6 ?_;refine C4 S_ ⟨⟨m.a5J[i].next,r.a5Y,m.a5J[i].high+1,r.hash,r.size⟩,na,nc⟩ rfl ?_;intro OM y2;refine Y9 ?_;refine h_ 22 rfl i6 ?_;refine w6 S_ (l:=m.a5J[i].ls) (m:=[⟨⟨m.a5J[i].next,r.a5Y,m.a5J[i].high+1,r.hash,r.size⟩,na,nc⟩]) B0 nk (by show(m.a5J[i].ls.length+1)*64<=_;omega) ?_;intro p s _;obtain⟨U,Y⟩:∃U,U=m.a5J[i].ls++[⟨⟨m.a5J[i].next,r.a5Y,m.a5J[i].high+1,r.hash,r.size⟩,na,nc⟩]:=⟨_,rfl⟩;rw[<-Y];refine E6 [23,24] ?_;refine h_ 25 rfl i6 ?_;refine A_ (C:=cY) (v:=.slice p U.length s) {o with ls:=U,a:=p,c:=s} o_ q0 (j:=4) (by rw[q7];rfl) ?_;refine E6 [] ?_;rw[Jj];obtain⟨g,q8⟩:∃g:BM,g={o with ls:=U,a:=p,c:=s}:=⟨_,rfl⟩;rw[<-q8];have q9:i<(m.a5J.set i g).length:=by simpa using e
 have x0:(m.a5J.set i g)[i]=g:=Zq _;have h0:(m.a5J.set i g)[i]? =some g:=by rw[zj q9,x0]
 have M:g.a=p/\g.ls=U/\g.c=s/\g.next=m.a5J[i].next/\g.high=m.a5J[i].high+1/\g.val=m.a5J[i].val/\g.name=m.a5J[i].name:=by subst q8;exact⟨rfl,rfl,rfl,S.2.2.2.1,S.2.2.2.2.1,S.2.2.2.2.2.1,S.2.2.2.2.2.2⟩
 refine B9 (Z:=[A5 na r.a5Y nc]) tk fun F1 O ⟨bs,x1⟩=>?_;have y3:n9 F1.heap na (fV r.a5Y):=A3.rd x1 ud;clear x1;refine n7 (ι:=Option Addr) (fun _=>True) (fun _=>[(0,l9 b),(5,dj m i)]) (fun ua=>.own (.slice ua 1 1) 27 1 (nV [m.a5J[i].next])::R_ b m r q {B_ with val:=m.a5J[i].val,a5P:=[m.a5J[i].next]} ⟨ua,1,none,0⟩::T1 m.sa m.a5L m.sc::P5 m.ha m.a5K m.hc::.own (.slice m.ba m.a5J.length m.bc) 100 5 (fh (m.a5J.set i g))::N9 p U s::(V9 (m.a5J.eraseIdx i)++R)) ?_ ?_
 ·skip
  refine w8 ?_;refine D2 [5,9] [10,14,18] [.own (.slice m.ba m.a5J.length m.bc) 100 5 (fh (m.a5J.set i g)),R_ b m r q B_ M9] 19 ?_;refine wd [0,1,2,3,4] ?_;refine o0 5 rfl O4 (i8 (v:=.int .u64 (m.a5J[i].val:Nat)) rfl (fun w d=>EV (j:=1) (d.ownN (t:=100) ud).2.2.1 o_ g h0 (by rw[<-M.2.2.2.2.2.1];rfl) x4)) G2 rfl rfl rfl i6 ?_;refine wd [6,7,8] ?_;refine o0 9 rfl O4 (i8 (v:=.int .u64 (m.a5J[i].next:Nat)) rfl (fun w d=>EV (j:=2) (d.ownN (t:=100) ud).2.2.1 o_ g h0 (by rw[<-M.2.2.2.1];rfl) x4)) G2 rfl rfl rfl i6 ?_;refine wd [11,12,13] ?_;refine az 10 14 rfl rfl i6 ?_ ?_;refine x7 (ps:=[(0,.tmp 115)]) (vs:=[(0,.int .u64 (m.a5J[i].next:Nat))]) (xs:=nV [m.a5J[i].next]) rfl rfl rfl rfl rfl rfl rfl rfl ?_;intro V _;refine fg [14,15,16,17,18] ?_
  rotate_left 1
  (first|refine qS (pre:=[_,_,_,_,_,_,_,_,_,_,_,_,_,_,_,_,_,_,_,_,_,_,_,_,_]) (post:=[_,_]) rfl rfl uh (by rfl) (by rfl) (by rfl) ?_|refine T9 rfl rfl uh (by rfl) (by(intro q hq;simp[Value.cells] at hq;first|(subst hq;rfl)|(rcases hq with rfl|rfl|rfl|rfl|rfl|rfl|rfl|rfl<;>rfl)|(rcases hq with rfl|rfl|rfl|rfl|rfl|rfl|rfl|rfl|rfl|rfl|rfl|rfl|rfl|rfl|rfl|rfl|rfl|rfl|rfl|rfl<;>rfl))) (by rfl) ?_);refine xF ?_;refine h_ 10 rfl i6 ?_;refine x7 (ps:=[(0,.tmp 115)]) (vs:=[(0,.int .u64 (m.a5J[i].next:Nat))]) (xs:=nV [m.a5J[i].next]) rfl rfl rfl rfl rfl rfl rfl rfl ?_;intro V _;refine E6 [15,16,17,18] ?_
  rotate_left 1
  all_goals (refine w8 ?_)
  all_goals exact g_ V trivial (fun w d=>Tm d)
 rintro ua _;refine w8 ?_;refine B9 (Z:=[.own (.slice ua 1 1) 27 1 (nV [m.a5J[i].next])]) tk fun F2 D ⟨bs,x2⟩=>?_;have z0:n9 F2.heap ua (nV [m.a5J[i].next]):=A3.rd x2 ud;clear x2;refine E7 ?_;refine r_ (i8 (v:=.int .u64 (m.a5J[i].next:Nat)) rfl (fun w d=>EV (j:=2) (d.ownN (t:=100) ud).2.2.1 o_ g h0 (by rw[<-M.2.2.2.1];rfl) x4)) ?_;refine f_ ((L2 rfl rfl qb).eq (v':=.int .u64 ((m.a5J[i].next+1:Nat):Int)) (by congr 1)) ?_;refine A1 ?_;refine A_ (C:=cY) (v:=.int .u64 ((m.a5J[i].next+1:Nat):Int)) {g with next:=m.a5J[i].next+1} o_ q9 (j:=2) (by rw[x0];rfl) ?_;refine w8 ?_;rw[Jj];refine C5 ?_;refine C_ {m with a5J:=m.a5J.set i {g with next:=m.a5J[i].next+1}} {B_ with val:=m.a5J[i].val,a5P:=[m.a5J[i].next]} ⟨ua,1,none,0⟩ rfl rfl (O.trans D) (fun w d=>?_) ?_ (fun _=>rfl) (fun x hx=>?_) ⟨z0,n9.nil _ _⟩
 ·rw[uy];show Hp F2 w (_::T1 m.sa m.a5L m.sc::P5 m.ha m.a5K m.hc::T0 m.ba (m.a5J.set i {g with next:=m.a5J[i].next+1}) m.bc::(V9 (m.a5J.set i {g with next:=m.a5J[i].next+1})++R));rw[nF];exact uz {g with next:=m.a5J[i].next+1} e M.1 M.2.1 M.2.2.1 d
 ·show({m.s with a5J:=_}:ML)=_;unfold jE;rw[aR];simp only[BM.x,M.2.1,M.2.2.2.2.1,M.2.2.2.2.2.1,M.2.2.2.2.2.2,Y,jm,Qu,Jz]
 ·rcases jp hx with Q|rfl
  ·exact Mn.le (O.trans D).heap (u x Q)
  ·intro y hy;have x3:y∈U:=M.2.1▸hy;rw[Y] at x3;rcases zb.1 x3 with T|T
   ·exact(u _ (zy e) y T).le (O.trans D).heap
   ·obtain rfl:=zu.1 T;exact y3.le D.heap
def fX(r:RQ)(most:Nat)(x:LM):Bool:=decide (jF∈x.t.a5Y)&&(r.a5P.isEmpty||gQ r.a5P most x.t.uid)
theorem MW(r:RQ)(b:BM)(x:LM):jG r b.x x.t=fX r (Y6 b.ls) x:=by
 unfold jG fX X6;rw[pQ]
abbrev BE(b g1 g5 g2 g3 most:Nat)(m:MM)(r:RQ)(q:QL)(o:OC)(y:OL)(l:List LM)(h:l_):Prop:=aM g1 (l9 b) 132 h/\aM g5 (iK g2 g3) 196 h/\vX b g2 g3 most m r q o y h/\iC l h
theorem BF(b g1 n p g3 c:Nat)(m:MM)(r:RQ)(q:QL)(o:OC)(y:OL)(z:r.a5P.length<=1000000)(l:List LM)(x:LM)(hx:x∈l)(hf:x.t.a5Y.length<=1000000):Pu prog 120 [.agg (S_ x).toArray,l9 g1,l9 n] (BE b g1 n p g3 c m r q o y l) (.bool (fX r c x)):=by
 obtain⟨C,s⟩:=o8 (decide (jF∈x.t.a5Y));obtain⟨D,u⟩:=o8 (r.a5P.isEmpty);unfold fX;rw[<-s,<-u];refine b_ 22 func120 rfl rfl rfl ?_;rintro F ⟨J,M,e,f⟩;obtain⟨g,i,j,k⟩:=e;refine C7 ?_;refine m8 rfl rfl ?_;intro g3;refine r7 ?_
 cases C<;>cases D
 all_goals (
  refine A1 ?_;refine c_ rfl (ut x.t.a5Y x.a x.c jF qb) (fun h d _=>(f x hx).le d) rfl ?_;rw[<-s];refine wk 7 ?_;(first|refine u_ ?_|(refine v_ ?_;refine f_ ((p7 rfl rfl).eq (qn (show _=r.a5P.isEmpty from by cases r.a5P with|nil=>rfl|cons a t=>simp<;>omega)|>.trans (qn u.symm))) ?_));refine E7 ?_;(first|refine u_ ?_|(refine v_ ?_;refine z_ (ps:=[]) _ rfl rfl rfl (lw b p _ c m r q o y z x) i_ (fun h d _=>⟨d _ _ g,d _ _ i,d _ _ j,k.le d⟩) rfl ?_;rintro v A ⟨rfl,rfl⟩));refine E7 ?_)
 all_goals (refine A4 ?_;exact d_ rfl rfl [] qh (fun w O=>O.dropAll))
abbrev Tn(g1 g5:Nat):Value:=.func (.func 120) #[] #[l9 g1,l9 g5]
abbrev Ok(u:List Nat):OC:={B_ with a5P:=u}
theorem mR{α β:Type}(f:α->β)(q:α->Bool){l:List α}{j:Nat}(a:j<l.length):((l.take (j+1)).filter q).map f=((l.take j).filter q).map f++if q l[j] then[f l[j]] else[]:=by
 rw[K_ q a,jm];split<;>simp
theorem MX(b:Nat)(m:MM)(r:RQ)(q:QL)(u:List Nat)(ua:Option Addr)(uc n:Nat)(h:u.length=n):R_ b m r q (Ok u) ⟨ua,uc,none,0⟩=.blk b (.cells (iD m++eE r q++([.int .i64 0,.int .u64 ((0:Nat):Int),.int .u64 ((0:Nat):Int),.slice ua n uc,.slice none 0 0]:List Value)).toArray 136):=by subst h;rfl
theorem zl(b:Nat)(m:MM)(r:RQ)(q:QL)(hm:m.a5J.length<=1000)(q6:∀x∈m.a5J,x.ls.length<=1000/\x.high<=D9/\∀y∈x.ls,y.t.a5Y.length<=1000000)(hu:r.a5P.length<=1000000):HB 63 b m r q (bd m.s r):=by
 refine y5 74 func63 rfl rfl rfl ?_;rintro F R ⟨J,h6⟩;refine C7 ?_;refine L5 rfl rfl rfl ?_;intro U;refine r7 ?_
 cases hn:named m.s r with
 |none=>
  have es:bd m.s r=(m.s,B_,6):=by unfold bd;rw[hn]
  rw[es];refine r7 ?_;refine c_ rfl (ei b m r q B_ M9 hm) (fun h z g=>⟨J_ g,by obtain⟨bs,g⟩:=g;exact A3.rd g ud⟩) rfl ?_;rw[hn,show fU m none=.tuple #[.pointer none,.bool false] from rfl];refine NP ?_;exact C_ m B_ M9 rfl rfl (l8.le_refl _) (fun w l=>l.drop) rfl qx J (L_.zero _)
 |some i=>
  have f:=pP hn;obtain⟨h7,x1,h8⟩:=q6 _ (zy f);refine r7 ?_;refine c_ rfl (ei b m r q B_ M9 hm) (fun h z g=>⟨J_ g,by obtain⟨bs,g⟩:=g;exact A3.rd g ud⟩) rfl ?_;rw[hn,show fU m (some i)=.tuple #[dj m i,.bool true] from rfl];refine wk 7 ?_;refine D7 (H':=.blk U (.cells #[l9 b] 132)::R_ b m r q B_ M9::T1 m.sa m.a5L m.sc::P5 m.ha m.a5K m.hc::T0 m.ba m.a5J m.bc::N9 m.a5J[i].a m.a5J[i].ls m.a5J[i].c::(V9 (m.a5J.eraseIdx i)++R)) (fun w l=>l.perm (((L4 f).append_right R).append_left [_,_,_,_,_])) ?_;refine A1 ?_;refine e_ (pR b m i f h7) ?pre ?_;(case pre=>exact fun h z ⟨bs,g⟩=>⟨A3.rd g ud,A3.rd g ud⟩);rintro v A ⟨Y,g3,rfl,rfl⟩;refine r7 ?_;intro g5;refine r7 ?_;refine B9 (Z:=[.blk g5 (.cells #[iK Y g3] 196),.blk g3 (.cells #[.int .u64 (Y6 m.a5J[i].ls:Nat)] 27),.blk Y (.cells #[l9 b] 132),.blk U (.cells #[l9 b] 132)]) tk fun F1 h0 g=>?_;have p5:aM g5 (iK Y g3) 196 F1.heap:=J_ g;have p3:aM g3 (.int .u64 (Y6 m.a5J[i].ls:Nat)) 27 F1.heap:=J_ g;have p2:aM Y (l9 b) 132 F1.heap:=J_ g;have p1:aM U (l9 b) 132 F1.heap:=J_ g;clear g;refine B5 (a:=m.ba) (n:=m.a5J.length) (c:=m.bc) (sz:=5) (xs:=fh m.a5J) (te:=100) ud fun _ _ O=>?_;have O:=O qb;refine ap ?_;refine r_ (i8 rfl (fun w l=>cD (j:=4) (l.ownN (t:=100) ud).2.2.1 o_ f rfl x4)) ?_;refine A1 ?_;refine B5 (a:=m.a5J[i].a) (n:=m.a5J[i].ls.length) (c:=m.a5J[i].c) (sz:=5) (xs:=qK m.a5J[i].ls) (te:=156) ud fun _ _ h9=>?_;refine O8 27 1 ?_;obtain⟨e,Q⟩:=o8 (Y6 m.a5J[i].ls);rw[<-Q] at p3;obtain⟨d,s⟩:∃d:Nat->List Nat,∀j,d j=((m.a5J[i].ls.take j).filter (fX r e)).map fun x=>x.t.uid:=⟨_,fun _=>rfl⟩;have h3:d 0=[]:=by rw[s];rfl
  have S:∀j,(d j).length<=1000:=fun j=>by
   rw[s,zh];refine jd (Qn _ _) (jd (List.length_take_le' _ _) h7)
  refine O7 (fun j (u:Option Addr) (D:Nat)=>j<=m.a5J[i].ls.length) (fun j u D=>[(1,l9 U),(3,dj m i),(6,Tn U g5),(23,.slice m.a5J[i].a m.a5J[i].ls.length m.a5J[i].c),(24,.int .i64 (m.a5J[i].ls.length:Nat)),(25,.int .i64 (j:Nat))])
   (fun j u D=>.own (.slice u (d j).length D) 27 1 (nV (d j))::R_ b m r q (Ok (d j)) ⟨u,D,none,0⟩::T1 m.sa m.a5L m.sc::P5 m.ha m.a5K m.hc::T0 m.ba m.a5J m.bc::N9 m.a5J[i].a m.a5J[i].ls m.a5J[i].c::(V9 (m.a5J.eraseIdx i)++R)) (fun j _ _=>m.a5J[i].ls.length-j) 0 none 0 (zw _) sub (fun w l=>by rw[h3];exact l) ?_
  rintro j u D hj;refine R7 ?_ ?_<;>intro h
  ·have M:j<m.a5J[i].ls.length:=(by have:=qr h;omega);have h9:=h9 qb;refine r7 ?_;refine r_ (p8 rfl (fun w l=>cQ (l.ownN (t:=156) ud).2.2.1 B0 qp M x4) (B0 _)) ?_;refine i7 rfl ?_;intro g8;refine E7 ?_;refine z_ (ps:=[]) _ rfl rfl rfl (BF b U g5 Y g3 e m r q (Ok (d j)) ⟨u,D,none,0⟩ hu m.a5J[i].ls m.a5J[i].ls[j] (zy M) (h8 _ (zy M))) i_ (fun h z g=>⟨z _ _ p1,z _ _ p5,⟨z _ _ p2,z _ _ p3,J_ g,(h6.a5P.le h0.heap).le z⟩,Mn.le z (Mn.le h0.heap (J _ (zy f)))⟩) rfl ?_;rintro v A ⟨rfl,rfl⟩;refine w8 ?_;have o:=mR (fun x:LM=>x.t.uid) (fX r e) M;rw[<-s,<-s] at o;refine o9 rfl ?_ ?_<;>intro h2
   ·rw[h2,zg rfl] at o;refine w8 ?_;refine D2 [0,1,5,7] [8,9,13] [.blk g8 (.cells (S_ m.a5J[i].ls[j]).toArray 156),R_ b m r q (Ok (d j)) ⟨u,D,none,0⟩] 14 ?_;refine wd [0,1,2,3,4,5,6,7] ?_;refine h_ 8 rfl i6 ?_;refine x7 (ps:=[(0,.tmp 39)]) (vs:=[(0,.int .u64 (m.a5J[i].ls[j].t.uid:Nat))]) (xs:=nV [m.a5J[i].ls[j].t.uid]) rfl rfl rfl rfl rfl rfl rfl rfl ?_;intro x2 _;refine Y9 ?_;refine h_ 9 rfl i6 ?_;refine C0 (news:=nV [m.a5J[i].ls[j].t.uid]) (m:=1) rfl rfl (fun a' c'=>uh) (fun w l=>(l.ownN (t:=27) ud).2.2.1) rfl rfl rfl (iv _) (by show((d j).length+1)*8<=_;have:=S j;omega) (by show(d j).length+1<=9223372036854775807;have:=S j;omega) rfl ?_;intro RA q7 _;refine fg [10,11,12,13] ?_;refine A1 ?_;refine l6 (i:=(j,u,D)) (j+1,RA,q7) qg qg sub (fun w l=>?_);have e1:(d (j+1)).length=(d j).length+1:=(by rw[o,zz];rfl);simp only;rw[MX _ _ _ _ _ _ _ _ e1,e1,o,aB];exact l.drop.drop
   ·rw[h2,zk x4,z7] at o;refine A1 ?_;exact l6 (i:=(j,u,D)) (j+1,u,D) qg qg sub (fun w l=>by simp only;rw[o];exact l.drop)
  ·have M:j=m.a5J[i].ls.length:=(by have:=zq h;omega);have k8:(jG r m.a5J[i].x)∘LM.t=fX r e:=by
    funext x;show jG r m.a5J[i].x x.t=_;rw[MW,Q]
   have q8:(m.a5J[i].x.lts.filter (jG r m.a5J[i].x)).map LT.uid=d j:=by
    rw[s,M,Qj,Yq,k8,Jn];rfl
   have es:bd m.s r=if d j=[] then(m.s,B_,0) else if D9<=m.a5J[i].high then(m.s,B_,13) else(jE m.s i {m.a5J[i].x with lts:=m.a5J[i].x.lts.filter fun x=>!jG r m.a5J[i].x x,high:=m.a5J[i].high+1},{B_ with a5P:=d j},0):=by
    unfold bd;rw[hn];simp only[eV f,q8]
   rw[es];clear es;refine w8 ?_;refine B9 (Z:=[.own (.slice u (d j).length D) 27 1 (nV (d j))]) tk fun F2 T ⟨bs,g⟩=>?_;have k9:n9 F2.heap u (nV (d j)):=A3.rd g ud;clear g;have k:=h0.trans T;have q9:aM U (l9 b) 132 F2.heap:=T.heap _ _ p1;obtain⟨q1,h1⟩:=o8 (decide (d j=[]));refine aq ?_;refine f_ ((p7 rfl rfl).eq (v':=.bool q1) (qn (by rw[h1];exact zp.2 (by show(((d j).length:Nat):Int)=0↔_;cases d j<;>simp<;>omega)))) ?_;refine w8 ?_
   cases q1
   ·have k0:d j≠[]:=zq h1.symm;rw[zk k0];refine w8 ?_;obtain⟨q2,h2⟩:=o8 (decide (D9<=m.a5J[i].high));refine E7 ?_;refine r_ (i8 rfl (fun w l=>cD (j:=3) (l.ownN (t:=100) ud).2.2.1 o_ f rfl x4)) ?_;refine f_ ((I5 rfl rfl).eq (v':=.bool q2) (qn ((zp.2 (by show(9223372036854775807:Int)<=_↔9223372036854775807<=_;omega)).trans h2.symm))) ?_;refine w8 ?_
    cases q2
    ·rw[zk (zq h2.symm)];have x3:m.a5J[i].high<9223372036854775807:=Wn.1 (zq h2.symm);refine O3 ?_;refine r_ (i8 rfl (fun w l=>cD (j:=4) (l.ownN (t:=100) ud).2.2.1 o_ f rfl x4)) ?_;refine r7 ?_;refine e_ (tO m.a5J[i].ls m.a5J[i].a m.a5J[i].c 120 [l9 U,l9 g5] (BE b U g5 Y g3 e m r q (Ok (d j)) ⟨u,D,none,0⟩ m.a5J[i].ls) (fX r e) (fun x hx=>BF b U g5 Y g3 e m r q (Ok (d j)) ⟨u,D,none,0⟩ hu m.a5J[i].ls x hx (h8 _ hx)) qb) ?pre ?_;(case pre=>exact fun h z g=>⟨z _ _ q9,z _ _ (T.heap _ _ p5),⟨z _ _ (T.heap _ _ p2),z _ _ (T.heap _ _ p3),J_ g,(h6.a5P.le k.heap).le z⟩,Mn.le z (Mn.le k.heap (J _ (zy f)))⟩);rintro v A ⟨rfl,rfl⟩;refine A1 ?_;refine A_ (C:=cY) (v:=.slice m.a5J[i].a (m.a5J[i].ls.filter fun x=>!fX r e x).length m.a5J[i].c) {m.a5J[i] with ls:=m.a5J[i].ls.filter fun x=>!fX r e x} o_ f (j:=4) rfl ?_;refine w8 ?_;obtain⟨LS,h4⟩:=o8 (m.a5J[i].ls.filter fun x=>!fX r e x);rw[<-h4];obtain⟨p,q0⟩:∃p:BM,p={m.a5J[i] with ls:=LS}:=⟨_,rfl⟩;have X:i<(m.a5J.set i p).length:=(by simpa using f);have q3:(m.a5J.set i p)[i]=p:=Zq _;have x0:(m.a5J.set i p)[i]? =some p:=(by rw[zj X,q3]);have V:p.a=m.a5J[i].a/\p.ls=LS/\p.c=m.a5J[i].c/\p.next=m.a5J[i].next/\p.high=m.a5J[i].high/\p.val=m.a5J[i].val/\p.name=m.a5J[i].name:=(by subst q0;exact⟨rfl,rfl,rfl,rfl,rfl,rfl,rfl⟩);rw[<-q0];refine E7 ?_;refine r_ (i8 (v:=.int .u64 (m.a5J[i].high:Nat)) rfl (fun w l=>EV (j:=3) (l.ownN (t:=100) ud).2.2.1 o_ p x0 (by rw[<-V.2.2.2.2.1];rfl) x4)) ?_;refine f_ ((L2 rfl rfl qb).eq (v':=.int .u64 ((m.a5J[i].high+1:Nat):Int)) (by congr 1)) ?_;refine A1 ?_;refine A_ (C:=cY) (v:=.int .u64 ((m.a5J[i].high+1:Nat):Int)) {p with high:=m.a5J[i].high+1} o_ X (j:=3) (by rw[q3];rfl) ?_;refine w8 ?_;rw[Jj];refine C5 ?_;refine C_ {m with a5J:=m.a5J.set i {p with high:=m.a5J[i].high+1}} (Ok (d j)) ⟨u,D,none,0⟩ rfl rfl k (fun w l=>?_) ?_ (fun _=>rfl) (fun x hx=>?_) ⟨k9,n9.nil _ _⟩
     ·rw[uy];show Hp F2 w (_::T1 m.sa m.a5L m.sc::P5 m.ha m.a5K m.hc::T0 m.ba (m.a5J.set i {p with high:=m.a5J[i].high+1}) m.bc::(V9 (m.a5J.set i {p with high:=m.a5J[i].high+1})++R));rw[nF];exact uz {p with high:=m.a5J[i].high+1} f V.1 V.2.1 V.2.2.1 (l.perm ((kz (l₁:=[_]) (l₂:=[_,_,_,_])).append_right _))
     ·show({m.s with a5J:=_}:ML)=_;unfold jE;rw[aR];have q4:LS.map LM.t=m.a5J[i].x.lts.filter fun x=>!jG r m.a5J[i].x x:=by
       rw[h4];show _=(m.a5J[i].ls.map LM.t).filter _;rw[Yq];congr 1;refine List.filter_congr fun x _=>?_;rw[<-k8];rfl
      simp only[BM.x,V.2.1,V.2.2.2.1,V.2.2.2.2.2.1,V.2.2.2.2.2.2,q4]
     ·rcases jp hx with h5|rfl
      ·exact Mn.le k.heap (J x h5)
      ·intro y hy;have q5:y∈LS:=V.2.1▸hy;rw[h4] at q5;exact(J _ (zy f) y (Qx.1 q5).1).le k.heap
    ·rw[zg (qr h2.symm)];refine C5 ?_;refine C_ m (Ok (d j)) ⟨u,D,none,0⟩ rfl rfl k (fun w l=>?_) rfl qx (fun b g=>Mn.le k.heap (J b g)) ?_
     ·exact l.perm (((L4 f).symm.append_right R).append_left [_,_,_,_])
     ·exact⟨k9,n9.nil _ _⟩
   ·have k0:d j=[]:=qr h1.symm;rw[zg k0];refine C5 ?_;refine C_ m B_ ⟨u,D,none,0⟩ rfl rfl k (fun w l=>?_) rfl (fun _=>rfl) (fun b g=>Mn.le k.heap (J b g)) (L_.nil _ _ _ rfl rfl);rw[k0] at l;exact l.perm (((L4 f).symm.append_right R).append_left [_,_,_,_])
theorem pX(n m:Nat):∀l:List LT,(fm n m l).length=l.length
 |[]=>rfl
 |x::t=>by rw[fm,zx,pX,zx]
theorem wP(m:Nat):∀(l:List LT) (n j:Nat),(fm n m l)[j]? =l[j]?.map fun x=>{x with uid:=n+j,mod:=m}
 |[],_,_=>by simp[fm]
 |x::t,n,0=>by simp[fm]
 |x::t,n,j+1=>by
  rw[fm,List.getElem?_cons_succ,List.getElem?_cons_succ,wP m t (n+1) j];rw[show n+1+j=n+(j+1) by omega]
theorem Em{n m:Nat}{l:List LT}{j:Nat}(a:j<l.length):(fm n m l).take (j+1)=(fm n m l).take j++[{l[j] with uid:=n+j,mod:=m}]:=by
 have b:j<(fm n m l).length:=by rw[pX];exact a
 rw[kj b];congr 2;have c:=wP m l n j;rw[zj b,zj a] at c;exact js c
theorem En{α:Type}(q:α->Bool){l:List α}{j:Nat}(a:j<l.length):(l.take (j+1)).filter q=(l.take j).filter q++if q l[j] then[l[j]] else[]:=K_ q a
structure CpS where
 N:List LM
 a:Option Addr
 c:Nat
 ua:Option Addr
 uc:Nat
def X1(N:List LM):List Nat:=N.map fun x=>x.t.uid
theorem sH(N:List LM)(y:LM):X1 (N++[y])=X1 N++[y.t.uid]:=by simp[X1]
theorem sI(N:List LM):(X1 N).length=N.length:=by simp[X1]
abbrev Rk(v:Nat)(u:List Nat):OC:={B_ with val:=v,a5P:=u}
theorem Ig(b:Nat)(m:MM)(r:RQ)(q:QL)(v:Nat)(u:List Nat)(ua:Option Addr)(uc n:Nat)(h:u.length=n):R_ b m r q (Rk v u) ⟨ua,uc,none,0⟩=.blk b (.cells (iD m++eE r q++([.int .i64 0,.int .u64 ((0:Nat):Int),.int .u64 (v:Nat),.slice ua n uc,.slice none 0 0]:List Value)).toArray 136):=by subst h;rfl
def uA(r:RQ)(most:Nat)(x:LM):Bool:=gQ r.a5P most x.t.uid
theorem MY(b:Nat)(m:MM)(r:RQ)(q:QL)(hm:m.a5J.length<=1000)(x2:∀x∈m.a5J,x.ls.length<=1000/\x.next<=4294967296/\x.high<=D9/\∀y∈x.ls,y.t.a5Y.length<=1000000)(hu:r.a5P.length<=1000000):HB 64 b m r q (gW m.s r):=by
 refine y5 156 func64 rfl rfl rfl ?_;rintro F R ⟨S,z0⟩;refine r7 ?_
 cases hn:named m.s r with
 |none=>
  have es:gW m.s r=(m.s,B_,6):=by unfold gW;rw[hn]
  rw[es];refine r7 ?_;refine c_ rfl (ei b m r q B_ M9 hm) (fun h hh g=>⟨J_ g,by obtain⟨bs,g⟩:=g;exact A3.rd g ud⟩) rfl ?_;rw[hn,show fU m none=.tuple #[.pointer none,.bool false] from rfl];refine NP ?_;exact C_ m B_ M9 rfl rfl (l8.le_refl _) i_ rfl qx S (L_.zero _)
 |some i=>
  have U:=pP hn;obtain⟨x3,v8,v9,z2⟩:=x2 _ (zy U);refine r7 ?_;refine c_ rfl (ei b m r q B_ M9 hm) (fun h hh g=>⟨J_ g,by obtain⟨bs,g⟩:=g;exact A3.rd g ud⟩) rfl ?_;rw[hn,show fU m (some i)=.tuple #[dj m i,.bool true] from rfl];refine wk 7 ?_;refine D2 [3,8] [9] [R_ b m r q B_ M9] 11 ?_;refine wd [0,1,2,3,4,5,6,7,8] ?_;refine h_ 9 rfl i6 ?_;refine c_ rfl (oL m r.tz hm) (fun h hh ⟨bs,g⟩=>A3.rd g ud) rfl ?_;refine E6 [10] ?_;refine bA ?_ ?_<;>intro h
  ·have es:gW m.s r=(m.s,B_,21):=(by unfold gW;rw[hn];simp only;rw[gH (qr h)]);rw[es];refine C5 ?_;exact C_ m B_ M9 rfl rfl (l8.le_refl _) i_ rfl qx S (L_.zero _)
  obtain⟨k,hk,f,u0⟩:=gI (zq h);obtain⟨w0,w1,w2,w3⟩:=x2 _ (zy f);rw[hk];refine r7 ?_;refine D7 (H':=R_ b m r q B_ M9::T1 m.sa m.a5L m.sc::P5 m.ha m.a5K m.hc::T0 m.ba m.a5J m.bc::N9 m.a5J[i].a m.a5J[i].ls m.a5J[i].c::(V9 (m.a5J.eraseIdx i)++R)) (fun w d=>d.perm (((L4 U).append_right R).append_left [_,_,_,_])) ?_;refine A1 ?_;refine e_ (pR b m i U x3) ?pre ?_;(case pre=>exact fun h hh ⟨bs,g⟩=>⟨A3.rd g ud,A3.rd g ud⟩);rintro v A ⟨g2,g3,rfl,rfl⟩;refine r7 ?_;refine B9 (Z:=[.blk g3 (.cells #[.int .u64 (Y6 m.a5J[i].ls:Nat)] 27),.blk g2 (.cells #[l9 b] 132)]) tk fun F1 u g=>?_;have p3:aM g3 (.int .u64 (Y6 m.a5J[i].ls:Nat)) 27 F1.heap:=J_ g;have p2:aM g2 (l9 b) 132 F1.heap:=J_ g;clear g;refine B5 (a:=m.ba) (n:=m.a5J.length) (c:=m.bc) (sz:=5) (xs:=fh m.a5J) (te:=100) ud fun _ _ h8=>?_;have h8:=h8 qb;refine E7 ?_;refine r_ (i8 rfl (fun w d=>cD (j:=4) (d.ownN (t:=100) ud).2.2.1 o_ U rfl x4)) ?_;refine A1 ?_;refine B5 (a:=m.a5J[i].a) (n:=m.a5J[i].ls.length) (c:=m.a5J[i].c) (sz:=5) (xs:=qK m.a5J[i].ls) (te:=156) ud fun _ _ x9=>?_;refine O8 156 5 ?_;obtain⟨J,k8⟩:=o8 (Y6 m.a5J[i].ls);rw[<-k8] at p3;obtain⟨D,M⟩:∃D:Nat->List LM,∀j,D j=(m.a5J[i].ls.take j).filter (uA r J):=⟨_,fun _=>rfl⟩;have k9:D 0=[]:=by rw[M];rfl
  have V:∀j,(D j).length<=1000:=fun j=>by
   rw[M];refine jd (Qn _ _) (jd (List.length_take_le' _ _) x3)
  refine O7 (fun j (T:Option Addr) (X:Nat)=>j<=m.a5J[i].ls.length) (fun j T X=>[(0,l9 b),(5,.int .i64 (k:Nat)),(6,.slice T (D j).length X),(7,iK g2 g3),(38,.slice m.a5J[i].a m.a5J[i].ls.length m.a5J[i].c),(39,.int .i64 (m.a5J[i].ls.length:Nat)),(40,.int .i64 (j:Nat))])
   (fun j T X=>N9 T (D j) X::R_ b m r q B_ M9::T1 m.sa m.a5L m.sc::P5 m.ha m.a5K m.hc::T0 m.ba m.a5J m.bc::N9 m.a5J[i].a m.a5J[i].ls m.a5J[i].c::(V9 (m.a5J.eraseIdx i)++R)) (fun j _ _=>m.a5J[i].ls.length-j) 0 none 0 (zw _) (by rw[k9];exact sub) (fun w d=>by rw[k9];exact d) ?_
  rintro j T X hj;refine R7 ?_ ?_<;>intro h
  ·have p:j<m.a5J[i].ls.length:=(by have:=qr h;omega);have x9:=x9 qb;refine r7 ?_;refine r_ (p8 rfl (fun w d=>cQ (C:=S_) (l:=m.a5J[i].ls) (q:=((j:Nat):Int).toNat*5) (d.ownN (t:=156) (a:=m.a5J[i].a) ud).2.2.1 B0 qp p x4) (B0 _)) ?_;refine i7 rfl ?_;intro g9;refine E7 ?_;refine z_ (ps:=[]) _ rfl rfl rfl (lw b g2 g3 J m r q B_ M9 hu m.a5J[i].ls[j]) i_ (fun h hh g=>⟨hh _ _ p2,hh _ _ p3,J_ g,(z0.a5P.le u.heap).le hh⟩) rfl ?_;rintro v A ⟨rfl,rfl⟩;refine w8 ?_;have z:=En (uA r J) p;rw[<-M,<-M] at z;refine o9 rfl ?_ ?_<;>intro h2
   ·rw[show uA r J m.a5J[i].ls[j]=true from h2,zg rfl] at z;refine A1 ?_;refine C4 S_ m.a5J[i].ls[j] rfl ?_;intro a49 _;refine w6 S_ (l:=D j) (m:=[m.a5J[i].ls[j]]) B0 nk (by show((D j).length+1)*64<=_;have:=V j;omega) ?_ rfl rfl (fun _ _=>uh) (fun w d=>(d.ownN (t:=156) ud).2.2.1) (by have:=V j;show(D j).length+1<=9223372036854775807;omega);intro u1 u2 _;rw[<-z];refine E7 ?_;exact l6 (i:=(j,T,X)) (j+1,u1,u2) qg qg sub (fun w d=>d.drop.drop)
   ·rw[show uA r J m.a5J[i].ls[j]=false from h2,zk x4,z7] at z;refine A1 ?_;rw[<-z];exact l6 (i:=(j,T,X)) (j+1,T,X) qg qg sub (fun w d=>d.drop)
  ·have p:j=m.a5J[i].ls.length:=(by have:=zq h;omega);obtain⟨e,h7⟩:=o8 (D j);have v5:e.length<=1000:=(by rw[h7];exact V j);have q8:∀x∈e,x∈m.a5J[i].ls:=fun x hx=>by
    rw[h7,M] at hx;exact K9 (Qx.1 hx).1
   have y0:e.map LM.t=m.a5J[i].x.lts.filter (X6 r m.a5J[i].x):=by
    rw[h7,M,p,Qj];show _=(m.a5J[i].ls.map LM.t).filter _;rw[Yq];congr 1;refine List.filter_congr fun x _=>?_;show gQ r.a5P J x.t.uid=gQ r.a5P (vF m.a5J[i].x) x.t.uid;rw[pQ,k8]
   have es:gW m.s r=if e.map LM.t=[] then(m.s,{B_ with val:=m.a5J[k].val},0) else if 32<m.a5J[k].ls.length+e.length then(m.s,{B_ with val:=m.a5J[k].val},7) else if eO+1<m.a5J[k].next+e.length\/D9<=m.a5J[k].high then(m.s,{B_ with val:=m.a5J[k].val},13)
     else(jE m.s k {m.a5J[k].x with high:=m.a5J[k].high+1,next:=m.a5J[k].next+e.length,lts:=m.a5J[k].x.lts++fm m.a5J[k].next (m.a5J[k].high+1) (e.map LM.t)},{B_ with val:=m.a5J[k].val,a5P:=(fm m.a5J[k].next (m.a5J[k].high+1) (e.map LM.t)).map LT.uid},0):=by
    unfold gW;rw[hn];simp only;rw[u0];simp only[eV U,eV f,<-y0,zh,BM.x]
   rw[es,<-h7];clear es;refine w8 ?_;refine D7 (H':=N9 T e X::R_ b m r q B_ M9::T1 m.sa m.a5L m.sc::P5 m.ha m.a5K m.hc::T0 m.ba m.a5J m.bc::N9 m.a5J[k].a m.a5J[k].ls m.a5J[k].c::(V9 (m.a5J.eraseIdx k)++R)) (fun w d=>d.perm ((((L4 U).symm.trans (L4 f)).append_right R).append_left [_,_,_,_,_])) ?_;refine wk 12 ?_;refine r_ (i8 rfl (fun w d=>cD (j:=1) (d.ownN (t:=100) ud).2.2.1 o_ f rfl x4)) ?_;refine O3 ?_;obtain⟨q1,h1⟩:=o8 (decide (e.map LM.t=[]));refine A1 ?_;refine f_ ((p7 rfl rfl).eq (v':=.bool q1) (qn (by rw[h1];exact zp.2 (by show((e.length:Nat):Int)=0↔_;cases e<;>simp<;>omega)))) ?_;refine r7 ?_
   cases q1
   ·have k0:e.map LM.t≠[]:=zq h1.symm;rw[zk k0];refine w8 ?_;obtain⟨q2,h2⟩:=o8 (decide (32<m.a5J[k].ls.length+e.length));refine E7 ?_;refine r_ (i8 rfl (fun w d=>cD (j:=4) (d.ownN (t:=100) ud).2.2.1 o_ f rfl x4)) ?_;refine O3 ?_;refine f_ ((E2 rfl rfl).eq (v':=.bool q2) (qn ((qz).trans h2.symm))) ?_;refine r7 ?_
    cases q2
    case true=>
     rw[zg (qr h2.symm)];refine C5 ?_;refine C_ m {B_ with val:=m.a5J[k].val} M9 rfl rfl u (fun w d=>?_) rfl qx (fun b g=>Mn.le u.heap (S b g)) (L_.nil _ _ _ rfl rfl);exact d.drop.perm (((L4 f).symm.append_right R).append_left [_,_,_,_])
    rw[zk (zq h2.symm)];obtain⟨q3,h3⟩:=o8 (decide (eO+1<m.a5J[k].next+e.length));obtain⟨q4,h4⟩:=o8 (decide (D9<=m.a5J[k].high));refine w8 ?_;refine x8 [(0,l9 b),(6,.slice T e.length X),(10,dj m k),(81,.bool (q3||q4))] (N9 T e X::R_ b m r q (Rk m.a5J[k].val []) M9::T1 m.sa m.a5L m.sc::P5 m.ha m.a5K m.hc::T0 m.ba m.a5J m.bc::N9 m.a5J[k].a m.a5J[k].ls m.a5J[k].c::(V9 (m.a5J.eraseIdx k)++R)) ?_ ?_
    ·cases q3
     all_goals (
      refine E7 ?_;refine r_ (i8 rfl (fun w d=>cD (j:=2) (d.ownN (t:=100) ud).2.2.1 o_ f rfl x4)) ?_;refine O3 ?_;refine f_ ((E2 rfl rfl).eq (qn ((zp.2 (by show(4294967296:Int)<_↔4294967296<_;omega)).trans h3.symm))) ?_;refine O3 ?_;(first|refine u_ ?_|(refine v_ ?_;refine r_ (i8 rfl (fun w d=>cD (j:=3) (d.ownN (t:=100) ud).2.2.1 o_ f rfl x4)) ?_));(first|refine u_ ?_|(refine v_ ?_;refine f_ ((I5 rfl rfl).eq (qn ((zp.2 (by show(9223372036854775807:Int)<=_↔9223372036854775807<=_;omega)).trans h4.symm))) ?_));refine A1 ?_)
     all_goals exact p9 sub i_
    refine O0 ?_ ?_<;>intro h9
    ·have kk:eO+1<m.a5J[k].next+e.length\/D9<=m.a5J[k].high:=by
      rw[Zw] at h9;rcases h9 with k|k
      ·exact .inl (qr (h3.symm.trans k))
      ·exact .inr (qr (h4.symm.trans k))
     rw[zg kk];refine C5 ?_;refine C_ m {B_ with val:=m.a5J[k].val} M9 rfl rfl u (fun w d=>?_) rfl qx (fun b g=>Mn.le u.heap (S b g)) (L_.nil _ _ _ rfl rfl);exact d.drop.perm (((L4 f).symm.append_right R).append_left [_,_,_,_])
    rw[Q1] at h9;have kn:¬eO+1<m.a5J[k].next+e.length:=zq (h3.symm.trans h9.1);have kh:¬D9<=m.a5J[k].high:=zq (h4.symm.trans h9.2);rw[zk (fun k=>k.elim kn kh)];have w4:m.a5J[k].next+e.length<=4294967296:=Nat.not_lt.1 kn;have w5:m.a5J[k].high<9223372036854775807:=Wn.1 kh;refine E7 ?_;refine r_ (i8 rfl (fun w d=>cD (j:=3) (d.ownN (t:=100) ud).2.2.1 o_ f rfl x4)) ?_;refine f_ ((L2 rfl rfl qb).eq (v':=.int .u64 ((m.a5J[k].high+1:Nat):Int)) (by congr 1)) ?_;refine A1 ?_;refine A_ (C:=cY) {m.a5J[k] with high:=m.a5J[k].high+1} o_ f (j:=3) rfl ?_;refine E7 ?_;obtain⟨Q,o⟩:∃Q:Nat->List LM->Option Addr->Nat->BM,∀j N a c,Q j N a c=⟨m.a5J[k].name,m.a5J[k].val,m.a5J[k].next+j,m.a5J[k].high+1,m.a5J[k].ls++N,a,c⟩:=⟨_,fun _ _ _ _=>rfl⟩;have q6:∀j N a c,(m.a5J.set k (Q j N a c))[k]? =some (Q j N a c):=fun j N a c=>(by rw[zj (by simpa using f),Zq]);obtain⟨nl,q7⟩:=o8 (fm m.a5J[k].next (m.a5J[k].high+1) (e.map LM.t));refine O8 27 1 ?_;refine vL (fun j (Fj:l8) (s:CpS)=>j<=e.length/\F1.le Fj/\s.N.length=j/\s.N.map LM.t=nl.take j/\iC s.N Fj.heap) (fun j _ s=>[(0,l9 b),(10,dj m k),(105,.slice T e.length X),(106,.int .i64 (e.length:Nat)),(107,.int .i64 (j:Nat))]) (fun _ Fj _=>Fj)
     (fun j _ s=>N9 T e X::.own (.slice s.ua (X1 s.N).length s.uc) 27 1 (nV (X1 s.N))::R_ b m r q (Rk m.a5J[k].val (X1 s.N)) ⟨s.ua,s.uc,none,0⟩::T1 m.sa m.a5L m.sc::P5 m.ha m.a5K m.hc::.own (.slice m.ba m.a5J.length m.bc) 100 5 (fh (m.a5J.set k (Q j s.N s.a s.c)))::N9 s.a (m.a5J[k].ls++s.N) s.c::(V9 (m.a5J.eraseIdx k)++R)) (fun j _ _=>e.length-j) 0 F1 ⟨[],m.a5J[k].a,m.a5J[k].c,none,0⟩ ⟨zw _,l8.le_refl _,rfl,rfl,fun _ h=>by cases h⟩ sub rfl (fun w d=>?_) ?_
    ·rw[o];simp only[z7,Q3];exact d.perm (List.Perm.swap _ _ _)
    rintro j Fj ⟨N,na,nc,ua,uc⟩ ⟨hj,q0,y1,q5,x0⟩;simp only at y1 q5 x0;refine R7 ?_ ?_<;>intro h
    ·have p:j<e.length:=(by have:=qr h;omega);refine B5 (a:=T) (n:=e.length) (c:=X) (sz:=5) (xs:=qK e) (te:=156) ud fun _ _ q9=>?_;have q9:=q9 qb;have u8:n9 Fj.heap e[j].a (fV e[j].t.a5Y):=(S _ (zy U) _ (q8 _ (zy p))).le (u.trans q0).heap;have v0:=z2 _ (q8 _ (zy p));refine r7 ?_;refine r_ (p8 rfl (fun w d=>cQ (C:=S_) (l:=e) (q:=((j:Nat):Int).toNat*5) (d.ownN (t:=156) (a:=T) ud).2.2.1 B0 qp p x4) (B0 _)) ?_;refine i7 rfl ?_;intro x1;refine r7 ?_;refine D2 [3,7] [9,10,12,14,16] [.own (.slice m.ba m.a5J.length m.bc) 100 5 (fh (m.a5J.set k (Q j N na nc)))] 17 ?_;refine wd [0,1,2] ?_;refine o0 3 rfl O4 (i8 (v:=.int .u64 ((m.a5J[k].next+j:Nat):Int)) rfl (fun w d=>EV (j:=2) (d.ownN (t:=100) ud).2.2.1 o_ (Q j N na nc) (q6 _ _ _ _) (by rw[o];rfl) x4)) G2 rfl rfl rfl i6 ?_;refine wd [4,5,6] ?_;refine o0 7 rfl O4 (i8 (v:=.int .u64 ((m.a5J[k].high+1:Nat):Int)) rfl (fun w d=>EV (j:=3) (d.ownN (t:=100) ud).2.2.1 o_ (Q j N na nc) (q6 _ _ _ _) (by rw[o];rfl) x4)) G2 rfl rfl rfl i6 ?_;refine wd [8] ?_;refine h_ 9 rfl i6 ?_;refine r_ (dv rfl ud rfl) ?_;refine fg [11] ?_;refine h_ 10 rfl i6 ?_;refine e_ (Y4 e[j].t.a5Y e[j].a e[j].c qb) (fun h hh _=>u8.le hh) ?_;rintro v A ⟨fa,fc,rfl,rfl⟩;refine fg [12,13,14,15,16] ?_;obtain⟨Y,hY⟩:∃Y:LM,Y=⟨{e[j].t with uid:=m.a5J[k].next+j,mod:=m.a5J[k].high+1},fa,fc⟩:=⟨_,rfl⟩;refine D7 (H':=A5 fa e[j].t.a5Y fc::.blk x1 (.cells (S_ Y).toArray 156)::N9 T e X::.own (.slice ua (X1 N).length uc) 27 1 (nV (X1 N))::R_ b m r q (Rk m.a5J[k].val (X1 N)) ⟨ua,uc,none,0⟩::T1 m.sa m.a5L m.sc::P5 m.ha m.a5K m.hc::.own (.slice m.ba m.a5J.length m.bc) 100 5 (fh (m.a5J.set k (Q j N na nc)))::N9 na (m.a5J[k].ls++N) nc::(V9 (m.a5J.eraseIdx k)++R)) (fun w d=>by rw[hY];exact d) ?_;refine B9 (Z:=[A5 fa e[j].t.a5Y fc]) tk fun F3 h0 ⟨bs,g⟩=>?_;have v1:n9 F3.heap Y.a (fV Y.t.a5Y):=(by rw[hY];exact A3.rd g ud);clear g;have w7:Y.t.uid=m.a5J[k].next+j:=(by rw[hY]);refine w8 ?_;refine D2 [4,5] [6,7,10] [.own (.slice m.ba m.a5J.length m.bc) 100 5 (fh (m.a5J.set k (Q j N na nc))),.blk x1 (.cells (S_ Y).toArray 156)] 11 ?_;refine wd [0,1,2,3] ?_;refine o0 4 rfl O4 (i8 (v:=.slice na (m.a5J[k].ls++N).length nc) rfl (fun w d=>EV (j:=4) (d.ownN (t:=100) ud).2.2.1 o_ (Q j N na nc) (q6 _ _ _ _) (by rw[o];rfl) x4)) G2 rfl rfl rfl i6 ?_;refine wd [5] ?_;refine h_ 6 rfl i6 ?_;refine C4 S_ Y rfl ?_;intro v6 _;refine Y9 ?_;refine h_ 7 rfl i6 ?_;refine w6 S_ (l:=m.a5J[k].ls++N) (m:=[Y]) B0 nk (by show((m.a5J[k].ls++N).length+1)*64<=_;rw[zz];omega) ?_ rfl rfl (fun _ _=>uh) (fun w d=>(d.ownN (t:=156) ud).2.2.1) (by show(m.a5J[k].ls++N).length+1<=9223372036854775807;rw[zz];omega);intro vj O _;rw[zm];refine E6 [8,9] ?_;refine h_ 10 rfl i6 ?_;refine A_ (C:=cY) (v:=.slice vj (m.a5J[k].ls++(N++[Y])).length O) (l:=m.a5J.set k (Q j N na nc)) (i:=k) ⟨m.a5J[k].name,m.a5J[k].val,m.a5J[k].next+j,m.a5J[k].high+1,m.a5J[k].ls++(N++[Y]),vj,O⟩ o_ (by simpa using f) (j:=4) (by rw[Zq,o];rfl) ?_;refine E6 [] ?_;rw[Jj,<-o];refine w8 ?_
     refine D2 [5,7] [8,9,13] [.blk x1 (.cells (S_ Y).toArray 156),R_ b m r q (Rk m.a5J[k].val (X1 N)) ⟨ua,uc,none,0⟩] 14 ?_;refine wd [0,1,2,3,4,5,6,7] ?_;refine h_ 8 rfl i6 ?_;refine x7 (ps:=[(0,.tmp 142)]) (vs:=[(0,.int .u64 (Y.t.uid:Nat))]) (xs:=nV [Y.t.uid]) rfl rfl rfl rfl rfl rfl rfl rfl ?_;intro v7 _;refine Y9 ?_;refine h_ 9 rfl i6 ?_;refine C0 (news:=nV [Y.t.uid]) (m:=1) rfl rfl (fun a' c'=>uh) (fun w d=>(d.ownN (t:=27) ud).2.2.1) rfl rfl rfl (iv _) (by show((X1 N).length+1)*8<=_;rw[sI];omega) (by show(X1 N).length+1<=9223372036854775807;rw[sI];omega) rfl ?_;intro y2 y3 _;refine E6 [10,11,12,13] ?_;refine E7 ?_;refine r_ (i8 (v:=.int .u64 ((m.a5J[k].next+j:Nat):Int)) rfl (fun w d=>EV (j:=2) (d.ownN (t:=100) ud).2.2.1 o_ (Q j (N++[Y]) vj O) (q6 _ _ _ _) (by rw[o];rfl) x4)) ?_;refine f_ ((L2 rfl rfl qb).eq (v':=.int .u64 ((m.a5J[k].next+(j+1):Nat):Int)) (by congr 1)) ?_;refine A1 ?_;refine A_ (C:=cY) (v:=.int .u64 ((m.a5J[k].next+(j+1):Nat):Int)) (l:=m.a5J.set k (Q j (N++[Y]) vj O)) (i:=k) ⟨m.a5J[k].name,m.a5J[k].val,m.a5J[k].next+(j+1),m.a5J[k].high+1,m.a5J[k].ls++(N++[Y]),vj,O⟩ o_ (by simpa using f) (j:=2) (by rw[Zq,o];rfl) ?_;refine w8 ?_;rw[Jj,<-o];refine A1 ?_;refine P0 (i:=(j,Fj,(⟨N,na,nc,ua,uc⟩:CpS))) (j+1,F3,⟨N++[Y],vj,O,y2,y3⟩) ⟨p,q0.trans h0,by simp[y1],?_,fun x hx=>?_⟩ qg sub rfl (fun w d=>?_)
     ·simp only;rw[jm,q5,q7,Em (by simpa using p),hY];simp
     ·rcases zb.1 hx with h6|h6
      ·exact(x0 x h6).le h0.heap
      ·obtain rfl:=zu.1 h6;exact v1
     ·have e1:(X1 (N++[Y])).length=(X1 N).length+1:=(by rw[sH,zz];rfl);simp only;rw[Ig _ _ _ _ _ _ _ _ _ e1,e1,sH,aB];exact d.drop.drop.drop
    ·have p:j=e.length:=(by have:=zq h;omega);have v2:nl.take j=nl:=jq (by rw[q7,pX,zh];omega);rw[v2] at q5;have v3:X1 N=nl.map LT.uid:=(by rw[<-q5,Jn];rfl);refine w8 ?_;refine B9 (Z:=[.own (.slice ua (X1 N).length uc) 27 1 (nV (X1 N))]) tk fun F3 h0 ⟨bs,g⟩=>?_;have v4:n9 F3.heap ua (nV (X1 N)):=A3.rd g ud;clear g;refine C5 ?_;refine C_ {m with a5J:=m.a5J.set k (Q j N na nc)} (Rk m.a5J[k].val (X1 N)) ⟨ua,uc,none,0⟩ rfl rfl ((u.trans q0).trans h0) (fun w d=>?_) ?_ (fun _=>by rw[v3,q7]) (fun x hx=>?_) ⟨v4,n9.nil _ _⟩
     ·rw[uy];show Hp F3 w (_::T1 m.sa m.a5L m.sc::P5 m.ha m.a5K m.hc::T0 m.ba (m.a5J.set k (Q j N na nc)) m.bc::(V9 (m.a5J.set k (Q j N na nc))++R));rw[nF];exact uz (Q j N na nc) f (by rw[o]) (by rw[o]) (by rw[o]) d.drop
     ·show({m.s with a5J:=_}:ML)=_;unfold jE;rw[aR,o];simp only[BM.x,jm,q5,q7,p]
     ·rcases jp hx with h5|rfl
      ·exact Mn.le ((u.trans q0).trans h0).heap (S x h5)
      ·rw[o];intro y hy;rcases zb.1 hy with h6|h6
       ·exact(S _ (zy f) y h6).le ((u.trans q0).trans h0).heap
       ·exact(x0 y h6).le h0.heap
   ·rw[zg (qr h1.symm)];refine C5 ?_;refine C_ m {B_ with val:=m.a5J[k].val} M9 rfl rfl u (fun w d=>?_) rfl (fun _=>rfl) (fun b g=>Mn.le u.heap (S b g)) (L_.nil _ _ _ rfl rfl);exact d.drop.perm (((L4 f).symm.append_right R).append_left [_,_,_,_])
abbrev Ol:=List LT×List Nat×List Nat×Bool
def bi(a q:Ol):Ol:=(a.1++q.1,a.2.1++q.2.1,a.2.2.1++q.2.2.1,a.2.2.2||q.2.2.2)
theorem Eo{r:RQ}{b:BX}{x:LT}{t:List LT}{a:Ol}(h:X6 r b x=false):(I2 r b (x::t)).map (bi a)=(I2 r b t).map (bi (a.1++[x],a.2)):=by
 rw[I2,zg h,J0];congr 1;funext q;simp[bi]
theorem wQ{r:RQ}{b:BX}{x:LT}{t:List LT}{a:Ol}(h:¬X6 r b x=false)(c:r.hasS=true/\r.a5S<x.mod):(I2 r b (x::t)).map (bi a)=(I2 r b t).map (bi (a.1++[x],a.2.1,a.2.2.1++[x.uid],a.2.2.2)):=by
 rw[I2,zk h,zg c,J0];congr 1;funext q;simp[bi]
theorem zo{r:RQ}{b:BX}{x:LT}{t:List LT}{a:Ol}(h:¬X6 r b x=false)(c:¬(r.hasS=true/\r.a5S<x.mod))(d:(F9 x.a5Y r.how r.a5Y).2≠0):(I2 r b (x::t)).map (bi a)=none:=by
 rw[I2,zk h,zk c,zg d];rfl
theorem zt{r:RQ}{b:BX}{x:LT}{t:List LT}{a:Ol}(h:¬X6 r b x=false)(c:¬(r.hasS=true/\r.a5S<x.mod))(d:¬(F9 x.a5Y r.how r.a5Y).2≠0)(e:(F9 x.a5Y r.how r.a5Y).1=x.a5Y):(I2 r b (x::t)).map (bi a)=(I2 r b t).map (bi (a.1++[x],a.2.1++[x.uid],a.2.2)):=by
 rw[I2,zk h,zk c,zk d,J0];congr 1;funext q;simp[bi,e]
theorem Ep{r:RQ}{b:BX}{x:LT}{t:List LT}{a:Ol}(h:¬X6 r b x=false)(c:¬(r.hasS=true/\r.a5S<x.mod))(d:¬(F9 x.a5Y r.how r.a5Y).2≠0)(e:¬(F9 x.a5Y r.how r.a5Y).1=x.a5Y):(I2 r b (x::t)).map (bi a)=(I2 r b t).map (bi (a.1++[{x with a5Y:=(F9 x.a5Y r.how r.a5Y).1,mod:=b.high+1}],a.2.1++[x.uid],a.2.2.1,true)):=by
 rw[I2,zk h,zk c,zk d,J0];congr 1;funext q;simp[bi,e]
theorem MZ(l:List Bs)(how:Int)(m:List Bs):(F9 l how m).1.length<=16:=by
 unfold F9;split
 ·simp
 ·have a:∀o:List Bs,(if 16<o.length then(([]:List Bs),(7:Int)) else(o,0)).1.length<=16:=fun o=>by split<;>simp<;>omega
  exact a _
theorem wR{m:MM}{i:Nat}(h:i<m.a5J.length):m.a5J.getD i Ga=m.a5J[i]:=by
 rw[zd,zj h];rfl
def lE(m:MM)(i:Nat)(o:Option Ol):AR:=match o with
 |none=>(m.s,B_,7)
 |some q=>if q.2.2.2=false then(m.s,{B_ with a5P:=q.2.1,mods:=q.2.2.1},0) else if D9<=(m.a5J.getD i Ga).high then(m.s,B_,13) else(jE m.s i {(m.a5J.getD i Ga).x with lts:=q.1,high:=(m.a5J.getD i Ga).high+1},{B_ with a5P:=q.2.1,mods:=q.2.2.1},0)
structure To where
 N:List LM
 U:List Nat
 M:List Nat
 ch:Bool
 ua:Option Addr
 uc:Nat
 ma:Option Addr
 mc:Nat
abbrev fp(u mo:List Nat):OC:={B_ with a5P:=u,mods:=mo}
theorem Om(b:Nat)(m:MM)(r:RQ)(q:QL)(u a:List Nat)(ua c:Option Addr)(uc d n k:Nat)(h:u.length=n)(e:a.length=k):R_ b m r q (fp u a) ⟨ua,uc,c,d⟩=.blk b (.cells (iD m++eE r q++([.int .i64 0,.int .u64 ((0:Nat):Int),.int .u64 ((0:Nat):Int),.slice ua n uc,.slice c k d]:List Value)).toArray 136):=by subst h e;rfl
theorem zA{F:l8}{w:World}{k x y z:As}{l:List BM}{i:Nat}{R:List As}{ls:List LM}(a:i<l.length)(b:ls=l[i].ls)(h:Hp F w (k::x::y::z::N9 l[i].a ls l[i].c::(V9 (l.eraseIdx i)++R))):Hp F w (k::x::y::z::(V9 l++R)):=by
 subst b;exact h.perm (((L4 a).symm.append_right R).append_left [k,x,y,z])
theorem Tp{m:MM}{r:RQ}{q:QL}{o:OC}{y:OL}{b:Bool}(h:b=r.hasS):(Oa m r q o y)[18]? =some (.bool b):=by subst h;rfl
theorem Ih(b:Nat)(m:MM)(r:RQ)(q:QL)(hm:m.a5J.length<=1000)(w1:∀x∈m.a5J,x.ls.length<=1000/\x.high<=D9/\∀y∈x.ls,y.t.a5Y.length<=1000/\∀f∈y.t.a5Y,f.length<=lr)(hu:r.a5P.length<=1000000)(b2:r.a5Y.length<=100000)(v0:∀f∈r.a5Y,f.length<=lr):HB 62 b m r q (dz m.s r):=by
 refine y5 163 func62 rfl rfl rfl ?_;rintro F R ⟨k0,y1⟩;refine r7 ?_
 cases hn:named m.s r with
 |none=>
  have es:dz m.s r=(m.s,B_,6):=by unfold dz;rw[hn]
  rw[es];refine r7 ?_;refine c_ rfl (ei b m r q B_ M9 hm) (fun h hh e=>⟨J_ e,by obtain⟨bs,e⟩:=e;exact A3.rd e ud⟩) rfl ?_;rw[hn,show fU m none=.tuple #[.pointer none,.bool false] from rfl];refine NP ?_;exact C_ m B_ M9 rfl rfl (l8.le_refl _) i_ rfl qx k0 (L_.zero _)
 |some i=>
  have o:=pP hn;obtain⟨v1,w2,v2⟩:=w1 _ (zy o);refine r7 ?_;refine c_ rfl (ei b m r q B_ M9 hm) (fun h hh e=>⟨J_ e,by obtain⟨bs,e⟩:=e;exact A3.rd e ud⟩) rfl ?_;rw[hn,show fU m (some i)=.tuple #[dj m i,.bool true] from rfl];refine wk 7 ?_;obtain⟨q1,h1⟩:=o8 (G1 r.a5Y);obtain⟨q2,h2⟩:=o8 (decide (r.how<0));obtain⟨q3,h3⟩:=o8 (decide (2<r.how));refine x8 [(0,l9 b),(3,dj m i),(41,.bool (!q1||(q2||q3)))] (R_ b m r q B_ M9::(uO m++R)) ?_ ?_
  ·cases q1<;>cases q2
   all_goals (
    refine ap ?_;refine c_ rfl (gJ r.a5Y q.fa q.fc qb v0) (fun h hh _=>y1.a5Y.le hh) rfl ?_;rw[<-h1];refine wk 7 ?_;(first|refine u_ ?_|(refine v_ ?_;refine f_ ((F6 rfl rfl).eb h2) ?_));refine wk 7 ?_;(first|refine u_ ?_|(refine v_ ?_;refine f_ ((E2 rfl rfl).eb h3) ?_));refine r7 ?_)
   all_goals exact p9 sub i_
  refine O0 ?_ ?_<;>intro h5
  ·have hc:G1 r.a5Y=false\/r.how<0\/2<r.how:=by
    rw[<-h1]
    revert h5
    cases q1
    ·exact fun _=>.inl rfl
    cases q2
    ·cases q3
     ·intro h6;simp at h6
     ·exact fun _=>.inr (.inr (qr h3.symm))
    ·exact fun _=>.inr (.inl (qr h2.symm))
   have es:dz m.s r=(m.s,B_,1):=(by unfold dz;rw[hn];exact zg hc);rw[es];refine C5 ?_;exact C_ m B_ M9 rfl rfl (l8.le_refl _) i_ rfl qx k0 (L_.zero _)
  have hc:¬(G1 r.a5Y=false\/r.how<0\/2<r.how):=by
   rw[<-h1];rintro(k|k|k)
   ·rw[k] at h5;simp at h5
   ·rw[h2,jk k] at h5;cases q1<;>simp at h5
   ·rw[h3,jk k] at h5;cases q1<;>cases q2<;>simp at h5
  have es:dz m.s r=lE m i (I2 r m.a5J[i].x m.a5J[i].x.lts):=by
   unfold dz lE;rw[hn];simp only;rw[zk hc];simp only[eV o,wR o]
   cases I2 r m.a5J[i].x (List.map LM.t m.a5J[i].ls)<;>rfl
  rw[es];clear es;refine w8 ?_;refine D7 (H':=R_ b m r q B_ M9::T1 m.sa m.a5L m.sc::P5 m.ha m.a5K m.hc::T0 m.ba m.a5J m.bc::N9 m.a5J[i].a m.a5J[i].ls m.a5J[i].c::(V9 (m.a5J.eraseIdx i)++R)) (fun w g=>g.perm (((L4 o).append_right R).append_left [_,_,_,_])) ?_;refine B5 (a:=m.ba) (n:=m.a5J.length) (c:=m.bc) (sz:=5) (xs:=fh m.a5J) (te:=100) ud fun _ _ x1=>?_;have x1:=x1 qb;refine E7 ?_;refine r_ (i8 rfl (fun w g=>cD (j:=4) (g.ownN (t:=100) ud).2.2.1 o_ o rfl x4)) ?_;refine e_ (fN (qK m.a5J[i].ls) m.a5J[i].a m.a5J[i].ls.length m.a5J[i].c (Ax _) (Ay _) qb) ?pre ?_;(case pre=>exact fun h hh ⟨bs,e⟩=>A3.rd e ud);rintro v A ⟨na,nc,rfl,rfl⟩;refine O3 ?_;refine e_ (pR b m i o v1) ?pre ?_;(case pre=>exact fun h hh ⟨bs,e⟩=>⟨A3.rd e ud,A3.rd e ud⟩);rintro v A ⟨g2,g3,rfl,rfl⟩;refine r7 ?_;refine B9 (Z:=[.blk g3 (.cells #[.int .u64 (Y6 m.a5J[i].ls:Nat)] 27),.blk g2 (.cells #[l9 b] 132)]) tk fun F1 q0 e=>?_;have p3:aM g3 (.int .u64 (Y6 m.a5J[i].ls:Nat)) 27 F1.heap:=J_ e;have p2:aM g2 (l9 b) 132 F1.heap:=J_ e;clear e;refine E7 ?_;refine r_ (i8 rfl (fun w g=>cD (j:=4) (g.ownN (t:=100) ud).2.2.1 o_ o rfl x4)) ?_;refine A1 ?_;refine B5 (a:=m.a5J[i].a) (n:=m.a5J[i].ls.length) (c:=m.a5J[i].c) (sz:=5) (xs:=qK m.a5J[i].ls) (te:=156) ud fun _ _ y2=>?_;refine O8 27 1 ?_;refine O8 27 1 ?_;obtain⟨d,Q⟩:=o8 (m.a5J[i].ls);rw[<-Q] at v1 v2 y2 p3⊢;obtain⟨X,hX⟩:=o8 (m.a5J[i].x);have w3:X.lts=d.map LM.t:=by rw[hX,Q]
  have y3:Y6 d=vF X:=by rw[hX,pQ,<-Q]
  rw[<-hX,w3];obtain⟨SL,v3⟩:=o8 (I2 r X (d.map LM.t));rw[<-v3];refine vL (fun j (Fj:l8) (s:To)=>j<=d.length/\F1.le Fj/\s.N.length=d.length/\iC s.N Fj.heap/\s.N.drop j=d.drop j/\s.U.length<=j/\s.M.length<=j/\SL=(I2 r X ((d.drop j).map LM.t)).map (bi ((s.N.take j).map LM.t,s.U,s.M,s.ch)))
   (fun j _ s=>[(0,l9 b),(3,dj m i),(5,.slice na d.length nc),(6,.bool s.ch),(7,iK g2 g3),(53,.slice m.a5J[i].a d.length m.a5J[i].c),(54,.int .i64 (d.length:Nat)),(55,.int .i64 (j:Nat))]) (fun _ Fj _=>Fj)
   (fun j _ s=>.own (.slice s.ua s.U.length s.uc) 27 1 (nV s.U)::.own (.slice s.ma s.M.length s.mc) 27 1 (nV s.M)::.own (.slice na d.length nc) 156 5 (qK s.N)::R_ b m r q (fp s.U s.M) ⟨s.ua,s.uc,s.ma,s.mc⟩::T1 m.sa m.a5L m.sc::P5 m.ha m.a5K m.hc::T0 m.ba m.a5J m.bc::N9 m.a5J[i].a d m.a5J[i].c::(V9 (m.a5J.eraseIdx i)++R)) (fun j _ _=>d.length-j) 0 F1 ⟨d,[],[],false,none,0,none,0⟩ ⟨zw _,l8.le_refl _,rfl,by rw[Q];exact Mn.le q0.heap (k0 _ (zy o)),rfl,zw _,zw _,?_⟩ sub rfl i_ ?_
  ·rw[v3];show _=(I2 r X (d.map LM.t)).map (bi ([],[],[],false))
   cases I2 r X (d.map LM.t)<;>simp[bi]
  rintro j Fj ⟨N,U,M,ch,ua,uc,J,O⟩ ⟨hj,S,q7,k8,z0,z2,x2,D⟩;simp only at q7 k8 z0 z2 x2 D;refine R7 ?_ ?_<;>intro h
  ·have T:j<d.length:=(by have:=qr h;omega);have q8:j<N.length:=(by omega);have u0:N[j]=d[j]:=by
    have h1:=jy (fun z=>z[0]?) z0;simp only[Q2,Q3] at h1;rw[zj q8,zj T] at h1;exact js h1
   have k9:N.drop (j+1)=d.drop (j+1):=by
    have:=jy (List.drop 1) z0;simpa[Kn,Wu] using this
   have w4:(d.drop j).map LM.t=d[j].t::(d.drop (j+1)).map LM.t:=(by rw[Qg T];rfl);have u1:(N.take (j+1)).map LM.t=(N.take j).map LM.t++[d[j].t]:=(by rw[kj q8,u0,jm];rfl);rw[w4] at D;have y2:=y2 qb;have w5:gQ r.a5P (Y6 d) d[j].t.uid=X6 r X d[j].t:=(by unfold X6;rw[y3]);obtain⟨b0,v4⟩:=v2 _ (zy T);have v5:n9 Fj.heap d[j].a (fV d[j].t.a5Y):=by
    have:=k8 N[j] (zy q8)
    rwa [u0] at this
   refine A1 ?_;refine r_ (p8 rfl (fun w g=>cQ (C:=S_) (l:=d) (q:=((j:Nat):Int).toNat*5) (g.ownN (t:=156) (a:=m.a5J[i].a) ud).2.2.1 B0 qp T x4) (B0 _)) ?_;refine i7 rfl ?_;intro g9;refine O3 ?_;refine z_ (ps:=[]) _ rfl rfl rfl (lw b g2 g3 (Y6 d) m r q (fp U M) ⟨ua,uc,J,O⟩ hu d[j]) i_ (fun h hh e=>⟨hh _ _ (S.heap _ _ p2),hh _ _ (S.heap _ _ p3),J_ e,(y1.a5P.le (q0.trans S).heap).le hh⟩) rfl ?_;rintro v A ⟨rfl,rfl⟩;rw[w5];refine bA ?_ ?_<;>intro h2
   ·have q9:X6 r X d[j].t=false:=(by simpa using h2);rw[Eo q9] at D;refine A1 ?_;refine P0 (i:=(j,Fj,(⟨N,U,M,ch,ua,uc,J,O⟩:To))) (j+1,Fj,⟨N,U,M,ch,ua,uc,J,O⟩) ⟨T,S,q7,k8,k9,K5 z2,K5 x2,?_⟩ qg sub rfl (fun w g=>g.drop);simp only;rw[D,u1]
   have q9:¬X6 r X d[j].t=false:=(by simpa using h2);obtain⟨q5,h5⟩:=o8 (r.hasS);obtain⟨q6,h6⟩:=o8 (decide (r.a5S<d[j].t.mod));refine w8 ?_;refine x8 [(0,l9 b),(3,dj m i),(5,.slice na d.length nc),(6,.bool ch),(7,iK g2 g3),(8,.int .i64 (j:Nat)),(9,l9 g9),(53,.slice m.a5J[i].a d.length m.a5J[i].c),(54,.int .i64 (d.length:Nat)),(55,.int .i64 (j:Nat)),(65,.bool (q5&&q6))]
    (.blk g9 (.cells (S_ d[j]).toArray 156)::.own (.slice ua U.length uc) 27 1 (nV U)::.own (.slice J M.length O) 27 1 (nV M)::.own (.slice na d.length nc) 156 5 (qK N)::R_ b m r q (fp U M) ⟨ua,uc,J,O⟩::T1 m.sa m.a5L m.sc::P5 m.ha m.a5K m.hc::T0 m.ba m.a5J m.bc::N9 m.a5J[i].a d m.a5J[i].c::(V9 (m.a5J.eraseIdx i)++R)) ?_ ?_
   ·cases q5
    all_goals (
     refine w8 ?_;refine D2 [4,7,12] [] [R_ b m r q (fp U M) ⟨ua,uc,J,O⟩,.blk g9 (.cells (S_ d[j]).toArray 156)] 16 ?_;refine wd [0,1,2,3] ?_;refine o0 4 rfl O4 (dv rfl .del (Tp h5)) G2 rfl rfl rfl i6 ?_;refine wd [5,6,7,8,9,10,11,12] ?_;(first|refine s_ 13 ?_|refine t_ 13 ?_|refine E1 13 rfl ((E2 rfl rfl).eq (qn ((qz).trans h6.symm))) rfl rfl rfl rfl rfl rfl i6 ?_);refine wd [14,15] ?_)
    all_goals exact p9 sub i_
   refine O0 ?_ ?_<;>intro h7
   ·rw[ky] at h7;rw[wQ q9 ⟨h5.symm.trans h7.1,qr (h6.symm.trans h7.2)⟩] at D;refine w8 ?_;refine D2 [5,7] [8,9,13] [.blk g9 (.cells (S_ d[j]).toArray 156),R_ b m r q (fp U M) ⟨ua,uc,J,O⟩] 14 ?_;refine wd [0,1,2,3,4,5,6,7] ?_;refine h_ 8 rfl i6 ?_;refine x7 (ps:=[(0,.tmp 88)]) (vs:=[(0,.int .u64 (d[j].t.uid:Nat))]) (xs:=nV [d[j].t.uid]) rfl rfl rfl rfl rfl rfl rfl rfl ?_;intro b3 _;refine Y9 ?_;refine h_ 9 rfl i6 ?_;refine C0 (news:=nV [d[j].t.uid]) (m:=1) rfl rfl (fun a' c'=>uh) (fun w g=>(g.ownN (t:=27) ud).2.2.1) rfl rfl rfl (iv _) (by show(M.length+1)*8<=_;omega) (by show M.length+1<=9223372036854775807;omega) rfl ?_;intro w7 w9 _;refine E6 [10,11,12,13] ?_;refine A1 ?_;refine P0 (i:=(j,Fj,(⟨N,U,M,ch,ua,uc,J,O⟩:To))) (j+1,Fj,⟨N,U,M++[d[j].t.uid],ch,ua,uc,w7,w9⟩) ⟨T,S,q7,k8,k9,K5 z2,by simp;omega,?_⟩ qg sub rfl (fun w g=>?_)
    ·simp only;rw[D,u1]
    ·have e1:(M++[d[j].t.uid]).length=M.length+1:=(by rw[zz];rfl);simp only;rw[Om _ _ _ _ _ _ _ _ _ _ _ _ rfl e1,e1,aB];exact g.drop.drop
   have u2:¬(r.hasS=true/\r.a5S<d[j].t.mod):=by
    rintro⟨k1,k2⟩;rw[h5,h6,k1,jk k2] at h7;simp at h7
   refine w8 ?_;refine D2 [5,7] [8,9,13] [.blk g9 (.cells (S_ d[j]).toArray 156),R_ b m r q (fp U M) ⟨ua,uc,J,O⟩] 14 ?_;refine wd [0,1,2,3,4,5,6,7] ?_;refine h_ 8 rfl i6 ?_;refine x7 (ps:=[(0,.tmp 101)]) (vs:=[(0,.int .u64 (d[j].t.uid:Nat))]) (xs:=nV [d[j].t.uid]) rfl rfl rfl rfl rfl rfl rfl rfl ?_;intro OM _;refine Y9 ?_;refine h_ 9 rfl i6 ?_;refine C0 (news:=nV [d[j].t.uid]) (m:=1) rfl rfl (fun a' c'=>uh) (fun w g=>(g.ownN (t:=27) ud).2.2.1) rfl rfl rfl (iv _) (by show(U.length+1)*8<=_;omega) (by show U.length+1<=9223372036854775807;omega) rfl ?_;intro p u _;refine E6 [10,11,12,13] ?_;have e1:(U++[d[j].t.uid]).length=U.length+1:=(by rw[zz];rfl);refine D7 (H':=.blk g9 (.cells (S_ d[j]).toArray 156)::.own (.slice p (U++[d[j].t.uid]).length u) 27 1 (nV (U++[d[j].t.uid]))::.own (.slice J M.length O) 27 1 (nV M)::.own (.slice na d.length nc) 156 5 (qK N)::R_ b m r q (fp (U++[d[j].t.uid]) M) ⟨p,u,J,O⟩::T1 m.sa m.a5L m.sc::P5 m.ha m.a5K m.hc::T0 m.ba m.a5J m.bc::N9 m.a5J[i].a d m.a5J[i].c::(V9 (m.a5J.eraseIdx i)++R)) (fun w g=>?_) ?_
   ·rw[Om _ _ _ _ _ _ _ _ _ _ _ _ e1 rfl,e1,aB];exact g.drop
   obtain⟨Y,hY⟩:=o8 (F9 d[j].t.a5Y r.how r.a5Y);refine w8 ?_;refine D2 [1,6,11] [12] [.blk g9 (.cells (S_ d[j]).toArray 156),R_ b m r q (fp (U++[d[j].t.uid]) M) ⟨p,u,J,O⟩] 18 ?_;refine wd [0,1,2,3,4,5,6,7,8,9,10,11] ?_;refine h_ 12 rfl i6 ?_;refine e_ (Ek d[j].t.a5Y r.a5Y r.how d[j].a q.fa d[j].c q.fc qb qb v4 v0) (fun h hh _=>⟨v5.le hh,(y1.a5Y.le (q0.trans S).heap).le hh⟩) ?_;rw[<-hY];rintro v A ⟨ya,yc,rfl,rfl⟩;refine E6 [13,14,15,16,17] ?_;refine bA ?_ ?_<;>intro h8
   ·have x3:(F9 d[j].t.a5Y r.how r.a5Y).2≠0:=(by rw[<-hY];simpa using h8);rw[zo q9 u2 x3] at D;rw[D,show lE m i none=(m.s,B_,7) from rfl];refine C5 ?_;refine At.weaken (L':=[(2,.int .i64 7)]) (H':=(R_ b m r q (fp (U++[d[j].t.uid]) M) ⟨p,u,J,O⟩::T1 m.sa m.a5L m.sc::P5 m.ha m.a5K m.hc::T0 m.ba m.a5J m.bc::N9 m.a5J[i].a d m.a5J[i].c::(V9 (m.a5J.eraseIdx i)++R))++[.own (.slice p (U++[d[j].t.uid]).length u) 27 1 (nV (U++[d[j].t.uid])),.own (.slice J M.length O) 27 1 (nV M)]) ?_ sub (fun w g=>?_)
    ·refine dJ fun F3 h0 ⟨bs,e⟩=>?_;exact C_ m (fp (U++[d[j].t.uid]) M) ⟨p,u,J,O⟩ rfl rfl ((q0.trans S).trans h0) (fun w g=>zA o Q g) rfl qx (fun b e=>Mn.le ((q0.trans S).trans h0).heap (k0 b e)) ⟨A3.rd e ud,A3.rd e ud⟩
    ·have h9:=g.drop.drop;have x9:=h9.perm (kz (l₁:=[_,_]) (l₂:=_::R_ b m r q (fp (U++[d[j].t.uid]) M) ⟨p,u,J,O⟩::T1 m.sa m.a5L m.sc::P5 m.ha m.a5K m.hc::T0 m.ba m.a5J m.bc::N9 m.a5J[i].a d m.a5J[i].c::(V9 (m.a5J.eraseIdx i)++R)));exact x9.drop
   have x3:¬(F9 d[j].t.a5Y r.how r.a5Y).2≠0:=(by rw[<-hY];simpa using h8);refine w8 ?_;refine B5 (a:=na) (n:=d.length) (c:=nc) (sz:=5) (xs:=qK N) (te:=156) ud fun _ _ v6=>?_;have v6:=v6 qb;have b1:m.a5J[i].high<=9223372036854775807:=w2;refine E7 ?_;refine c_ rfl (HG Y.1 d[j].t.a5Y ya d[j].a yc d[j].c (by rw[hY];exact jd (MZ _ _ _) qb)) (fun h hh ⟨bs,e⟩=>⟨A3.rd e ud,v5.le hh⟩) rfl ?_;refine R7 ?_ ?_<;>intro x9
   ·have a0:¬(F9 d[j].t.a5Y r.how r.a5Y).1=d[j].t.a5Y:=(by rw[<-hY];simpa using x9);rw[Ep q9 u2 x3 a0] at D;refine wk 9 ?_;refine r_ (i8 rfl (fun w g=>cD (j:=3) (g.ownN (t:=100) ud).2.2.1 o_ o rfl x4)) ?_;refine f_ ((L2 rfl rfl qb).eq (v':=.int .u64 ((m.a5J[i].high+1:Nat):Int)) (by congr 1)) ?_;refine A1 ?_;refine A_ (C:=S_) (v:=.slice ya Y.1.length yc) (l:=N) (i:=j) ⟨{d[j].t with a5Y:=Y.1},ya,yc⟩ B0 q8 (j:=1) (by rw[u0];rfl) ?_;refine A1 ?_;refine A_ (C:=S_) (v:=.int .u64 ((m.a5J[i].high+1:Nat):Int)) (l:=N.set j ⟨{d[j].t with a5Y:=Y.1},ya,yc⟩) (i:=j) ⟨{d[j].t with a5Y:=Y.1,mod:=m.a5J[i].high+1},ya,yc⟩ B0 (by simpa using q8) (j:=2) (by rw[Zq];rfl) ?_;refine w8 ?_;rw[Jj];refine B9 (Z:=[A5 ya Y.1 yc]) tk fun F3 h0 ⟨bs,e⟩=>?_;have a1:n9 F3.heap ya (fV Y.1):=A3.rd e ud;clear e;refine A1 ?_;refine P0 (i:=(j,Fj,(⟨N,U,M,ch,ua,uc,J,O⟩:To))) (j+1,F3,⟨N.set j ⟨{d[j].t with a5Y:=Y.1,mod:=m.a5J[i].high+1},ya,yc⟩,U++[d[j].t.uid],M,true,p,u,J,O⟩) ⟨T,S.trans h0,by simpa using q7,fun x hx=>?_,?_,by rw[e1];omega,K5 x2,?_⟩ qg sub rfl (fun w g=>g.drop)
    ·rcases jp hx with h6|rfl
     ·exact(k8 x h6).le h0.heap
     ·exact a1
    ·show(N.set j _).drop (j+1)=_;rw[Km qb];exact k9
    ·simp only;rw[D,dX q8,jm,hY,hX];rfl
   ·have a2:(F9 d[j].t.a5Y r.how r.a5Y).1=d[j].t.a5Y:=(by rw[<-hY];simpa using x9);rw[zt q9 u2 x3 a2] at D;refine A1 ?_;refine P0 (i:=(j,Fj,(⟨N,U,M,ch,ua,uc,J,O⟩:To))) (j+1,Fj,⟨N,U++[d[j].t.uid],M,ch,p,u,J,O⟩) ⟨T,S,q7,k8,k9,by rw[e1];omega,K5 x2,?_⟩ qg sub rfl (fun w g=>g.drop.drop);simp only;rw[D,u1]
  ·have T:j=d.length:=(by have:=zq h;omega);have v7:SL=some (N.map LM.t,U,M,ch):=by
    rw[D,T,J7,jq qb];show(some _).map _=_;simp[bi]
   rw[v7];refine w8 ?_;refine B9 (Z:=[.own (.slice ua U.length uc) 27 1 (nV U),.own (.slice J M.length O) 27 1 (nV M)]) tk fun F3 h0 ⟨bs,e⟩=>?_;have u8:L_ (fp U M) ⟨ua,uc,J,O⟩ F3.heap:=⟨A3.rd e ud,A3.rd e ud⟩;clear e;have x0:=(q0.trans S).trans h0
   cases ch
   ·rw[show lE m i (some (N.map LM.t,U,M,false))=(m.s,fp U M,0) from rfl];refine bQ ?_;exact C_ m (fp U M) ⟨ua,uc,J,O⟩ rfl rfl x0 (fun w g=>zA o Q g.drop) rfl (fun _=>rfl) (fun b e=>Mn.le x0.heap (k0 b e)) u8
   ·have v8:lE m i (some (N.map LM.t,U,M,true))=if D9<=m.a5J[i].high then(m.s,B_,13) else(jE m.s i {m.a5J[i].x with lts:=N.map LM.t,high:=m.a5J[i].high+1},fp U M,0):=by
     unfold lE;simp only[wR o];rfl
    rw[v8];clear v8;obtain⟨q4,h4⟩:=o8 (decide (D9<=m.a5J[i].high));refine ap ?_;refine r_ (i8 rfl (fun w g=>cD (j:=3) (g.ownN (t:=100) ud).2.2.1 o_ o rfl x4)) ?_;refine f_ ((I5 rfl rfl).eq (v':=.bool q4) (qn ((zp.2 (by show(9223372036854775807:Int)<=_↔9223372036854775807<=_;omega)).trans h4.symm))) ?_;refine w8 ?_
    cases q4
    case true=>
     rw[zg (qr h4.symm)];refine C5 ?_;exact C_ m (fp U M) ⟨ua,uc,J,O⟩ rfl rfl x0 (fun w g=>zA o Q g.drop) rfl qx (fun b e=>Mn.le x0.heap (k0 b e)) u8
    rw[zk (zq h4.symm)];have b4:m.a5J[i].high<9223372036854775807:=Wn.1 (zq h4.symm);refine w8 ?_;rw[<-q7];refine O3 ?_;refine A_ (C:=cY) (v:=.slice na N.length nc) {m.a5J[i] with ls:=N,a:=na,c:=nc} o_ o (j:=4) rfl ?_;refine w8 ?_;obtain⟨V,v9⟩:∃V:BM,V={m.a5J[i] with ls:=N,a:=na,c:=nc}:=⟨_,rfl⟩;have y0:i<(m.a5J.set i V).length:=(by simpa using o);have w0:(m.a5J.set i V)[i]=V:=Zq _;have a6:(m.a5J.set i V)[i]? =some V:=(by rw[zj y0,w0]);have f1:V.a=na/\V.ls=N/\V.c=nc/\V.next=m.a5J[i].next/\V.high=m.a5J[i].high/\V.val=m.a5J[i].val/\V.name=m.a5J[i].name:=(by subst v9;exact⟨rfl,rfl,rfl,rfl,rfl,rfl,rfl⟩);rw[<-v9];refine E7 ?_;refine r_ (i8 (v:=.int .u64 (m.a5J[i].high:Nat)) rfl (fun w g=>EV (j:=3) (g.ownN (t:=100) ud).2.2.1 o_ V a6 (by rw[<-f1.2.2.2.2.1];rfl) x4)) ?_;refine f_ ((L2 rfl rfl qb).eq (v':=.int .u64 ((m.a5J[i].high+1:Nat):Int)) (by congr 1)) ?_;refine A1 ?_;refine A_ (C:=cY) (v:=.int .u64 ((m.a5J[i].high+1:Nat):Int)) {V with high:=m.a5J[i].high+1} o_ y0 (j:=3) (by rw[w0];rfl) ?_;refine w8 ?_;rw[Jj];refine C5 ?_;refine C_ {m with a5J:=m.a5J.set i {V with high:=m.a5J[i].high+1}} (fp U M) ⟨ua,uc,J,O⟩ rfl rfl x0 (fun w g=>?_) ?_ (fun _=>rfl) (fun x hx=>?_) u8
    ·rw[uy];show Hp F3 w (_::T1 m.sa m.a5L m.sc::P5 m.ha m.a5K m.hc::T0 m.ba (m.a5J.set i {V with high:=m.a5J[i].high+1}) m.bc::(V9 (m.a5J.set i {V with high:=m.a5J[i].high+1})++R));rw[nF];refine uz {V with high:=m.a5J[i].high+1} o f1.1 f1.2.1 f1.2.2.1 ?_;have a7:=g.perm (kz (l₁:=[N9 na N nc]) (l₂:=[_,_,_,_])|>.append_right _);exact(a7.perm (Z0 [_,_,_,_] (List.Perm.swap _ _ _)))|>fun a8=>(a8.perm (Qd (l₁:=[_,_,_,_]))).drop
    ·show({m.s with a5J:=_}:ML)=_;unfold jE;rw[aR];simp only[BM.x,f1.2.1,f1.2.2.2.1,f1.2.2.2.2.2.1,f1.2.2.2.2.2.2]
    ·rcases jp hx with h5|rfl
     ·exact Mn.le x0.heap (k0 x h5)
     ·intro y hy;exact(k8 y (f1.2.1▸hy)).le h0.heap
theorem Na{α:Type}{R:α->α->Prop}{k:List α}(h:k.Pairwise R){a b:α}(ha:a∈k)(g:b∈k)(d:a≠b):R a b\/R b a:=by
 obtain⟨i,e,rfl⟩:=Zk ha;obtain⟨j,f,rfl⟩:=Zk g;rw[Zs] at h;rcases Nat.lt_trichotomy i j with c|c|c
 ·exact .inl (h i j e f c)
 ·subst c;exact absurd rfl d
 ·exact .inr (h j i f e c)
theorem sJ{α:Type}{f:α->α->Int}{m k:List α}(hc:xI k f)(hp:m.Perm k)(d:fR f m)(c:k.Pairwise fun x y=>f x y<0):m=k:=by
 refine List.Perm.eq_of_pairwise (le:=fun x y=>¬f y x<0) (fun a b ha g i j=>?_) d (c.imp_of_mem fun{x y} l n h=>hc.asym x l y n h) hp;by_cases e:a=b
 ·exact e
 ·rcases Na c (hp.subset ha) g e with h|h
  ·exact absurd h j
  ·exact absurd h i
theorem wS(n:Nat)(a:n<=1000):Pu prog 191 [.int .u64 (n:Nat)] (fun _=>True) (.int .i64 (Lib.bitLen ((n:Nat):Int).toNat)):=U2 fun w _=>Tryz.bits_Len (n:Nat) w qb qb
theorem Nb(a b:Bs):Pu prog 112 [B a,B b] (fun _=>True) (.int .i64 (Lib.compareBytes a b)):=U2 fun w _=>Tryz.strings_Compare ⟨a.toArray⟩ ⟨b.toArray⟩ w
theorem Er(l:List BM)(a:Option Addr)(c:Nat)(f:FuncId)[HF prog f](b:BM->BM->Int)(d:Int)(hc:xI l b)(e:∀x∈l,∀y∈l,Pu prog f [.agg (cY x).toArray,.agg (cY y).toArray] (fun _=>True) (.int .i64 (b x y)))(hl:l.length<=12):Ct prog 190 [.slice a l.length c,.int .i64 0,.int .i64 (l.length:Nat),.int .i64 d,.func (.func f) #[] #[]] (fun _=>True) [T0 a l c] (fun v A=>v=.tuple #[]/\∃m:List BM,m.Perm l/\fR b m/\A=[.own (.slice a l.length c) 100 5 (fh m)]):=by
 refine b_ 148 func190 rfl rfl rfl ?_;intro F _;refine A1 ?_;refine o7 (ι:=Unit) (fun _=>True) (fun _=>[(0,.slice a l.length c),(1,.int .i64 0),(2,.int .i64 (l.length:Nat)),(4,.func (.func f) #[] #[])]) (fun _=>[T0 a l c]) (fun _=>0) () trivial sub i_ ?_;rintro _ _;refine A1 ?_;refine f_ ((E0 rfl rfl qb).eq (v':=.int .i64 (l.length:Nat)) (by congr 1)) ?_;refine A1 ?_;refine f_ ((G4 rfl rfl).eq (v':=.bool true) (qn qk)) ?_;refine O3 ?_;refine e_ (Du l a c f b hc e qb) qw ?_;rintro v A ⟨rfl,m,g,i,rfl⟩;refine ox ?_;exact m6 rfl _ ⟨rfl,m,g,i,rfl⟩ (fun _ h=>h)
theorem zB(l:List BM)(a:Option Addr)(c:Nat)(f:FuncId)[HF prog f](b:BM->BM->Int)(hc:xI l b)(d:∀x∈l,∀y∈l,Pu prog f [.agg (cY x).toArray,.agg (cY y).toArray] (fun _=>True) (.int .i64 (b x y)))(hl:l.length<=12):Ct prog 110 [.slice a l.length c,.func (.func f) #[] #[]] (fun _=>True) [T0 a l c] (fun v A=>v=.tuple #[]/\∃m:List BM,m.Perm l/\fR b m/\A=[.own (.slice a l.length c) 100 5 (fh m)]):=by
 refine b_ 14 func110 rfl rfl rfl ?_;intro F _;refine aq ?_;refine f_ ((y9 rfl qb)) ?_;refine c_ rfl (wS l.length qb) qw rfl ?_;refine r7 ?_;refine e_ (Er l a c f b _ hc d hl) qw ?_;rintro v A ⟨rfl,m,e,g,rfl⟩;refine w8 ?_;exact m6 rfl _ ⟨rfl,m,e,g,rfl⟩ (fun _ h=>h)
theorem zC(l:List HO)(a:Option Addr)(c:Nat)(f:FuncId)[HF prog f](b:HO->HO->Int)(d:Int)(hc:xI l b)(e:∀x∈l,∀y∈l,Pu prog f [.agg (gw x).toArray,.agg (gw y).toArray] (fun _=>True) (.int .i64 (b x y)))(hl:l.length<=12):Ct prog 251 [.slice a l.length c,.int .i64 0,.int .i64 (l.length:Nat),.int .i64 d,.func (.func f) #[] #[]] (fun _=>True) [P5 a l c] (fun v A=>v=.tuple #[]/\∃m:List HO,m.Perm l/\fR b m/\A=[.own (.slice a l.length c) 104 3 (JX m)]):=by
 refine b_ 148 func251 rfl rfl rfl ?_;intro F _;refine A1 ?_;refine o7 (ι:=Unit) (fun _=>True) (fun _=>[(0,.slice a l.length c),(1,.int .i64 0),(2,.int .i64 (l.length:Nat)),(4,.func (.func f) #[] #[])]) (fun _=>[P5 a l c]) (fun _=>0) () trivial sub i_ ?_;rintro _ _;refine A1 ?_;refine f_ ((E0 rfl rfl qb).eq (v':=.int .i64 (l.length:Nat)) (by congr 1)) ?_;refine A1 ?_;refine f_ ((G4 rfl rfl).eq (v':=.bool true) (qn qk)) ?_;refine O3 ?_;refine e_ (yD l a c f b hc e qb) qw ?_;rintro v A ⟨rfl,m,g,i,rfl⟩;refine ox ?_;exact m6 rfl _ ⟨rfl,m,g,i,rfl⟩ (fun _ h=>h)
theorem wT(l:List HO)(a:Option Addr)(c:Nat)(f:FuncId)[HF prog f](b:HO->HO->Int)(hc:xI l b)(d:∀x∈l,∀y∈l,Pu prog f [.agg (gw x).toArray,.agg (gw y).toArray] (fun _=>True) (.int .i64 (b x y)))(hl:l.length<=12):Ct prog 185 [.slice a l.length c,.func (.func f) #[] #[]] (fun _=>True) [P5 a l c] (fun v A=>v=.tuple #[]/\∃m:List HO,m.Perm l/\fR b m/\A=[.own (.slice a l.length c) 104 3 (JX m)]):=by
 refine b_ 14 func185 rfl rfl rfl ?_;intro F _;refine aq ?_;refine f_ ((y9 rfl qb)) ?_;refine c_ rfl (wS l.length qb) qw rfl ?_;refine r7 ?_;refine e_ (zC l a c f b _ hc d hl) qw ?_;rintro v A ⟨rfl,m,e,g,rfl⟩;refine w8 ?_;exact m6 rfl _ ⟨rfl,m,e,g,rfl⟩ (fun _ h=>h)
theorem zD(x y:BM):Pu prog 111 [.agg (cY x).toArray,.agg (cY y).toArray] (fun _=>True) (.int .i64 (Lib.compareBytes x.name y.name)):=by
 refine b_ 10 func111 rfl rfl rfl ?_;intro F _;refine C7 ?_;refine m8 rfl rfl ?_;intro b;refine m8 rfl rfl ?_;intro c;refine ap ?_;refine c_ rfl (Nb x.name y.name) qw rfl ?_;refine C5 ?_;exact d_ rfl rfl [] qh (fun w a=>a.dropAll)
theorem zE(x y:HO)(hx:0<=x.node/\x.node<=100)(b:0<=y.node/\y.node<=100):Pu prog 186 [.agg (gw x).toArray,.agg (gw y).toArray] (fun _=>True) (.int .i64 (x.node-y.node)):=by
 refine b_ 10 func186 rfl rfl rfl ?_;intro F _;refine C7 ?_;refine m8 rfl rfl ?_;intro c;refine m8 rfl rfl ?_;intro d;refine KR ?_;exact d_ rfl rfl [] qh (fun w a=>a.dropAll)
theorem nG(a b:Bs):Lib.compareBytes a b<0↔gU a b=true:=by
 rw[<-yr,Jp]
abbrev Ug(x y:BM):Int:=Lib.compareBytes x.name y.name
theorem Ii{a b:Bs}(h:gU a b=true)(k:gU b a=true):False:=by
 have:=bP h k;rw[iu] at this
 cases this
theorem Ij(l:List BM):xI l Ug:=⟨fun x _ y _ h k=>Ii ((nG _ _).1 h) ((nG _ _).1 k),fun x _ y _ z _ c b a=>by
 unfold Ug at c b a;rw[nG] at c b a;by_cases e:x.name=y.name
 ·rw[e] at a;exact b a
 ·have d:gU y.name x.name=true:=dK e (by simpa using c);exact b (bP d a)⟩
def eX(b:BM):List BM->List BM
 |[]=>[b]
 |x::t=>if gU b.name x.name=true then b::x::t else x::eX b t
theorem wU(b:BM):∀l:List BM,(eX b l).map BM.x=jD b.x (l.map BM.x)
 |[]=>rfl
 |x::t=>by
  unfold eX;rw[Qu,jD];split
  ·rfl
  ·rw[Qu,wU b t]
theorem gK(b:BM):∀l:List BM,(eX b l).Perm (l++[b])
 |[]=>.refl _
 |x::t=>by
  unfold eX;split
  ·exact(kz (l₁:=[b]) (l₂:=x::t))
  ·exact(gK b t).cons x
theorem wV{b x:BM}{l:List BM}(h:x∈eX b l):x=b\/x∈l:=by
 have:=(gK b l).subset h;rcases zb.1 this with h|h
 ·exact .inr h
 ·exact .inl (zu.1 h)
theorem mw(b:BM):∀{l:List BM},(l.Pairwise fun x y=>gU x.name y.name=true)->(∀x∈l,x.name≠b.name)->(eX b l).Pairwise fun x y=>gU x.name y.name=true
 |[],_,_=>Ks _ _
 |x::t,h,hn=>by
  obtain⟨d,f⟩:=Qq.1 h;unfold eX;split
  ·rename_i a;refine Qq.2 ⟨fun y c=>?_,h⟩;rcases kw.1 c with rfl|c
   ·exact a
   ·exact bP a (d y c)
  ·rename_i a;refine Qq.2 ⟨fun y c=>?_,mw b f fun z hz=>hn z (jw _ hz)⟩;rcases wV c with rfl|c
   ·exact dK (fun e=>hn x j9 e.symm) (by simpa using a)
   ·exact d y c
theorem Ik{s:ML}{a:Bs}(h:xH s a=none):∀x∈s.a5J,x.name≠a:=fun x b e=>by
 unfold xH at h;rw[Q6] at h;have:=h x b;simp[e] at this
abbrev ep(name:Bs)(val:Nat):BM:=⟨name,val,1,1,[],none,0⟩
theorem Nc(b:BM)(l:List BM):(V9 (eX b l)).Perm (N9 b.a b.ls b.c::V9 l):=by
 have h:=(gK b l).map fun b:BM=>N9 b.a b.ls b.c;rw[jm] at h;exact h.trans kz
theorem PT{F:l8}{w:World}{x y k u v:As}{a:Bs}{val:Nat}{l:List BM}{R:List As}(h:Hp F w (x::y::k::u::v::(V9 l++R))):Hp F w (k::(u::v::x::V9 (eX (ep a val) l)++R)):=by
 have b:Hp F w ([x,k,u,v]++(V9 l++R)):=(h.perm (kz (l₁:=[x]) (l₂:=[y])|>.append_right (k::u::v::(V9 l++R)))).drop;have c:Hp F w (N9 none [] 0::([x,k,u,v]++(V9 l++R))):=b.addNil _ _;have d:Hp F w ([x,k,u,v]++(N9 none [] 0::(V9 l++R))):=c.perm Qd.symm;have e:Hp F w ([x,k,u,v]++(V9 (eX (ep a val) l)++R)):=d.perm (((Nc (ep a val) l).symm.append_right R).append_left [x,k,u,v]);exact e.perm (kz (l₁:=[x]) (l₂:=[k,u,v])|>.append_right (V9 (eX (ep a val) l)++R))
theorem Es(b:Nat)(m:MM)(r:RQ)(q:QL)(hm:m.a5J.length<=8)(hs:m.a5J.Pairwise fun x y=>gU x.name y.name=true)(hv:m.nval<=4294967296)(p:r.box.length<=lr):HB 59 b m r q (cV m.s r):=by
 refine y5 91 func59 rfl rfl rfl ?_;rintro F R ⟨a,V⟩;obtain⟨o,s⟩:=o8 (ji r.box);have d:o≠some r.box->cV m.s r=(m.s,B_,1):=fun h=>by unfold cV;rw[zg (by rw[<-s];exact h)]
 refine aq ?_;refine c_ rfl (AP r.box p) qw rfl ?_;rw[<-s];refine ap ?_
 cases o with
 |none=>
  rw[d x4];refine wk 13 ?_;refine A4 ?_;exact C_ m B_ M9 rfl rfl (l8.le_refl _) i_ rfl qx a (L_.zero _)
 |some nm=>
  obtain⟨Q,u⟩:=o8 (decide (nm=r.box));refine wk 9 ?_;(first|refine u_ ?_|(refine v_ ?_;refine f_ ((E8 rfl rfl).eq (v':=.bool (!Q)) (jy (fun b=>Value.bool (!b)) u.symm)) ?_));refine A1 ?_
  cases Q
  ·rw[d (fun e=>zq u.symm (js e))];refine C5 ?_;exact C_ m B_ M9 rfl rfl (l8.le_refl _) i_ rfl qx a (L_.zero _)
  obtain rfl:nm=r.box:=qr u.symm;have S:cV m.s r=if(xH m.s r.box).isSome=true then(m.s,B_,12) else if 8<=m.a5J.length then(m.s,B_,7) else if eO<m.nval then(m.s,B_,13) else({m.s with a5J:=jD ⟨r.box,m.nval,1,1,[]⟩ m.s.a5J,nval:=m.nval+1},{B_ with val:=m.nval},0):=by
   unfold cV;rw[zk (by rw[<-s];simp),zh]
  rw[S];clear S;refine ap ?_;refine c_ rfl (oL m r.box qb) (fun h hh ⟨bs,p⟩=>A3.rd p ud) rfl ?_;refine bA ?_ ?_<;>intro h
  ·have z:¬D3 (fun b:BM=>decide (b.name=r.box)) m.a5J<0:=(by have:=qr h;omega);obtain⟨i,_,_,ha⟩:=gI z;rw[zg (by rw[ha];rfl)];refine C5 ?_;exact C_ m B_ M9 rfl rfl (l8.le_refl _) i_ rfl qx a (L_.zero _)
  have z:D3 (fun b:BM=>decide (b.name=r.box)) m.a5J<0:=by have:=zq h;omega
  have f:=gH z;rw[zk (by rw[f];simp)];refine wk 8 ?_;refine o9 rfl ?_ ?_<;>intro T
  ·have k:8<=m.a5J.length:=(by have:=qr T;omega);rw[zg k];refine C5 ?_;exact C_ m B_ M9 rfl rfl (l8.le_refl _) i_ rfl qx a (L_.zero _)
  have X:¬8<=m.a5J.length:=by have:=zq T;omega
  rw[zk X];obtain⟨U,j⟩:=o8 (decide (eO<m.nval));refine ap ?_;refine f_ ((E2 rfl rfl).eq (v':=.bool U) (qn ((zp.2 (by show(4294967295:Int)<_↔4294967295<_;omega)).trans j.symm))) ?_;refine r7 ?_
  cases U
  case true=>
   rw[zg (qr j.symm)];refine C5 ?_;exact C_ m B_ M9 rfl rfl (l8.le_refl _) i_ rfl qx a (L_.zero _)
  rw[zk (zq j.symm)];refine wk 10 ?_;refine D2 [5,11] [13,14,18] [R_ b m r q {B_ with val:=m.nval} M9] 19 ?_;refine wd [0,1,2,3,4,5,6,7,8,9,10,11,12] ?_;refine h_ 13 rfl i6 ?_;refine C4 cY (ep r.box m.nval) rfl ?_;intro Y _;refine Y9 ?_;refine h_ 14 rfl i6 ?_;refine w6 cY (l:=m.a5J) (m:=[ep r.box m.nval]) o_ Az (by show(m.a5J.length+1)*64<=_;omega) ?_ rfl rfl (fun _ _=>uh) (fun w n=>(n.ownN (t:=100) ud).2.2.1) (by show m.a5J.length+1<=9223372036854775807;omega);intro a72 c _;refine E6 [15,16,17,18] ?_;have C:(eX (ep r.box m.nval) m.a5J).Perm (m.a5J++[ep r.box m.nval]):=gK _ _;have D:(eX (ep r.box m.nval) m.a5J).Pairwise fun x y=>Ug x y<0:=(mw (ep r.box m.nval) hs (fun x g=>Ik f x.x (Q5 g))).imp fun h=>(nG _ _).2 h;refine ap ?_;refine e_ (zB (m.a5J++[ep r.box m.nval]) a72 c 111 Ug (Ij _) (fun x _ y _=>zD x y) (by rw[zz];show m.a5J.length+1<=12;omega)) qw ?_;rintro v A ⟨rfl,Z,h9,J,rfl⟩;refine w8 ?_;obtain rfl:Z=eX (ep r.box m.nval) m.a5J:=sJ (xI.perm (Ij _) C) (h9.trans C.symm) J D;have M:(eX (ep r.box m.nval) m.a5J).length=(m.a5J++[ep r.box m.nval]).length:=C.length_eq;have h3:m.nval<=4294967295:=Nat.not_lt.1 (zq j.symm);refine ap ?_;refine f_ ((L2 rfl rfl qb).eq (v':=.int .u64 ((m.nval+1:Nat):Int)) (by congr 1)) ?_;refine JT ?_;have O:(ML.mk (jD ⟨r.box,m.nval,1,1,[]⟩ m.s.a5J) (m.nval+1) m.a5K m.a5L m.nses m.a5V)={m with a5J:=eX (ep r.box m.nval) m.a5J,nval:=m.nval+1,ba:=a72,bc:=c:MM}.s:=by
   show _=ML.mk ((eX (ep r.box m.nval) m.a5J).map BM.x) _ _ _ _ _;rw[wU];rfl
  refine C_ {m with a5J:=eX (ep r.box m.nval) m.a5J,nval:=m.nval+1,ba:=a72,bc:=c} {B_ with val:=m.nval} M9 rfl rfl (l8.le_refl _) (fun w n=>?_) O.symm (fun _=>rfl) (fun x g=>?_) ⟨n9.nil _ _,n9.nil _ _⟩
  ·rw[<-M] at n;exact PT n
  ·rcases wV g with rfl|g
   ·exact fun _ h=>by cases h
   ·exact a x g
theorem lF(b:HO):∀l:List HO,(dy b l).Perm (l++[b])
 |[]=>.refl _
 |x::t=>by
  unfold dy;split
  ·exact(kz (l₁:=[b]) (l₂:=x::t))
  ·exact(lF b t).cons x
theorem Il{b x:HO}{l:List HO}(h:x∈dy b l):x=b\/x∈l:=by
 have:=(lF b l).subset h;rcases zb.1 this with h|h
 ·exact .inr h
 ·exact .inl (zu.1 h)
theorem my(b:HO):∀{l:List HO},(l.Pairwise fun x y=>x.node<y.node)->(∀x∈l,x.node≠b.node)->(dy b l).Pairwise fun x y=>x.node<y.node
 |[],_,_=>Ks _ _
 |x::t,h,hn=>by
  obtain⟨d,e⟩:=Qq.1 h;unfold dy;split
  ·rename_i a;refine Qq.2 ⟨fun y c=>?_,h⟩;rcases kw.1 c with rfl|c
   ·exact a
   ·exact Int.lt_trans a (d y c)
  ·rename_i a;refine Qq.2 ⟨fun y c=>?_,my b e fun z hz=>hn z (jw _ hz)⟩;rcases Il c with rfl|c
   ·have:=hn x j9;omega
   ·exact d y c
abbrev Rl(x y:HO):Int:=x.node-y.node
theorem BG(l:List HO):xI l Rl:=⟨fun x _ y _ h k=>by unfold Rl at h k;omega,fun x _ y _ z _ a b c=>by unfold Rl at a b c;omega⟩
def On(b:Nat)(m:MM)(r:RQ)(q:QL)(o:OC)(y:OL)(l:List HO)(v:Value)(A:List As):Prop:=v=.tuple #[]/\∃a c,A=[R_ b {m with a5K:=l,ha:=a,hc:=c} r q o y,P5 a l c]
theorem sK{m:MM}{n:Int}(h:D3 (fun x:HO=>decide (x.node=n)) m.a5K<0):gV m.s n=none:=by
 unfold D3 at h;unfold gV
 cases e:m.a5K.findIdx? fun x=>decide (x.node=n) with
 |none=>rfl
 |some i=>rw[e] at h;simp only[Option.elim] at h;omega
theorem sL{m:MM}{n:Int}(h:¬D3 (fun x:HO=>decide (x.node=n)) m.a5K<0):∃i:Nat,D3 (fun x:HO=>decide (x.node=n)) m.a5K=(i:Nat)/\i<m.a5K.length/\gV m.s n=some i:=by
 unfold D3 at h⊢;unfold gV
 cases e:m.a5K.findIdx? fun x=>decide (x.node=n) with
 |none=>rw[e] at h;simp only[Option.elim] at h;omega
 |some i=>exact⟨i,rfl,(kg.1 e).1,rfl⟩
theorem Nd{m:MM}{n:Int}(h:gV m.s n=none):∀x∈m.a5K,x.node≠n:=fun x a e=>by
 unfold gV at h;rw[Q6] at h;have:=h x a;simp[e] at this
theorem wW{m:MM}{n:Int}{t:Nat}(h:D3 (fun x:SX=>decide (x.node=n/\x.tr=t)) m.a5L<0):gu m.s n t=none:=by
 unfold D3 at h;unfold gu
 cases e:m.a5L.findIdx? fun x=>decide (x.node=n/\x.tr=t) with
 |none=>rfl
 |some i=>rw[e] at h;simp only[Option.elim] at h;omega
theorem wX{m:MM}{n:Int}{t:Nat}(h:¬D3 (fun x:SX=>decide (x.node=n/\x.tr=t)) m.a5L<0):∃i:Nat,D3 (fun x:SX=>decide (x.node=n/\x.tr=t)) m.a5L=(i:Nat)/\i<m.a5L.length/\gu m.s n t=some i:=by
 unfold D3 at h⊢;unfold gu
 cases e:m.a5L.findIdx? fun x=>decide (x.node=n/\x.tr=t) with
 |none=>rw[e] at h;simp only[Option.elim] at h;omega
 |some i=>exact⟨i,rfl,(kg.1 e).1,rfl⟩
theorem Nf(b:Nat)(m:MM)(r:RQ)(q:QL)(o:OC)(y:OL)(i:Nat)(h:HO):R_ b {m with a5K:=m.a5K.set i h} r q o y=R_ b m r q o y:=by
 unfold R_ Oa iD;simp only[jr]
theorem Tq{F:l8}{w:World}{x y z k:As}(h:Hp F w [x,y,z,k]):Hp F w [k,x]:=((h.perm (kz (l₁:=[x]) (l₂:=[y,z,k]))).drop.drop)
theorem zF(b:Nat)(m:MM)(r:RQ)(q:QL)(o:OC)(y:OL)(i:Nat)(h:HO)(e:i<m.a5K.length)(l:m.a5K.length<=8):Ct prog 106 [l9 b,.int .i64 (i:Nat),.agg (gw h).toArray] (fun _=>True) [R_ b m r q o y,P5 m.ha m.a5K m.hc] (On b m r q o y (m.a5K.set i h)):=by
 refine b_ 34 func106 rfl rfl rfl ?_;intro F _;refine B5 (a:=m.ha) (n:=m.a5K.length) (c:=m.hc) (sz:=3) (xs:=JX m.a5K) (te:=104) ud fun _ _ d=>?_;have d:=d qb;refine C7 ?_;refine m8 rfl rfl ?_;intro f;refine r7 ?_;refine f_ ((I5 rfl rfl).eq (v':=.bool true) (qn qk)) ?_;refine w8 ?_;refine D2 [4,6] [8] [.blk f (.cells (gw h).toArray 104),R_ b m r q o y] 9 ?_;refine wd [0,1,2,3,4,5,6,7] ?_;refine h_ 8 rfl i6 ?_;refine A_ (C:=gw) h O6 e (j:=0) rfl ?_;refine E6 [] ?_;refine A4 ?_;exact m6 rfl [R_ b m r q o y,P5 m.ha (m.a5K.set i h) m.hc] ⟨rfl,m.ha,m.hc,by rw[<-Nf b m r q o y i h]⟩ (fun w g=>by have k:=g.drop;unfold P5;rw[jr];exact k)
theorem zG(b:Nat)(m:MM)(r:RQ)(q:QL)(o:OC)(y:OL)(h:HO)(J:m.a5K.length<=8)(hs:m.a5K.Pairwise fun x y=>x.node<y.node)(n:∀x∈m.a5K,x.node≠h.node)(p:∀x∈m.a5K,0<=x.node/\x.node<=100)(s:0<=h.node/\h.node<=100):Ct prog 106 [l9 b,.int .i64 (-1),.agg (gw h).toArray] (fun _=>True) [R_ b m r q o y,P5 m.ha m.a5K m.hc] (On b m r q o y (dy h m.a5K)):=by
 refine b_ 34 func106 rfl rfl rfl ?_;intro F _;refine C7 ?_;refine m8 rfl rfl ?_;intro u;refine A1 ?_;refine D2 [5,6] [7,8,12] [.blk u (.cells (gw h).toArray 104),R_ b m r q o y] 13 ?_;refine wd [0,1,2,3,4,5,6] ?_;refine h_ 7 rfl i6 ?_;refine C4 gw h rfl ?_;intro TZ _;refine Y9 ?_;refine h_ 8 rfl i6 ?_;refine w6 gw (l:=m.a5K) (m:=[h]) O6 AF (by show(m.a5K.length+1)*24<=_;omega) ?_ rfl rfl (fun _ _=>uh) (fun w f=>(f.ownN (t:=104) ud).2.2.1) (by show m.a5K.length+1<=9223372036854775807;omega);intro a c _;refine E6 [9,10,11,12] ?_;have g:(dy h m.a5K).Perm (m.a5K++[h]):=lF _ _;have i:(dy h m.a5K).Pairwise fun x y=>Rl x y<0:=(my h hs n).imp fun h=>by unfold Rl;omega
 have e:∀x∈m.a5K++[h],0<=x.node/\x.node<=100:=fun x d=>by
  rcases zb.1 d with d|d
  ·exact p x d
  ·rw[zu.1 d];exact s
 refine ap ?_;refine e_ (wT (m.a5K++[h]) a c 186 Rl (BG _) (fun x d y z=>zE x y (e x d) (e y z)) (by rw[zz];show m.a5K.length+1<=12;omega)) qw ?_;rintro v A ⟨rfl,C,D,j,rfl⟩;refine w8 ?_;obtain rfl:C=dy h m.a5K:=sJ (xI.perm (BG _) g) (D.trans g.symm) j i;have k:(dy h m.a5K).length=(m.a5K++[h]).length:=g.length_eq;refine m6 rfl [R_ b {m with a5K:=dy h m.a5K,ha:=a,hc:=c} r q o y,P5 a (dy h m.a5K) c] ⟨rfl,a,c,rfl⟩ (fun w f=>?_);rw[<-k] at f;exact Tq f
