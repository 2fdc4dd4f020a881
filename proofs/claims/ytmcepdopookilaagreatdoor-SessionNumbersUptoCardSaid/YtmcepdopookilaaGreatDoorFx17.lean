import Derived.Test.YtmcepdopookilaaGreatDoorFx16
set_option maxHeartbeats 16000000
set_option maxRecDepth 8000
set_option linter.unusedVariables false
set_option linter.unusedSimpArgs false
set_option linter.defProp false
namespace Go.Proofs.YtmcepdopookilaaGreatDoor.Rp
open Go Go.Sl Go.RowKit Go.Proofs.Tryz
theorem Mx{l:List BM}{i:Nat}(a:i<l.length)(b:BM):(V5 (l.set i b)).Perm (N9 b.a b.ls b.c::V5 (l.eraseIdx i)):=by
 have h:=K_ (l:=l.set i b) (i:=i) (by simpa using a);rw[Q7,List.eraseIdx_set_eq] at h;exact h
theorem EO{α:Type}{C:α->List Value}{sz:Nat}{h:l9}{a:Option Addr}{l:List α}{q i j:Nat}{v:Value}(r:n9 h a (l.flatMap C))(b:∀x,(C x).length=sz)(x:α)(c:l[i]? =some x)(hv:(C x)[j]? =some v)(hq:q=i*sz+j):L4 h (M8 a q) [v]:=by
 obtain⟨d,rfl⟩:=Qz.1 c;exact dH r b d hv hq
theorem aN(m:MM)(i:Nat)(b:BM):(m.a4N.set i b).map BM.x=(m.a4N.map BM.x).set i b.x:=Ku
theorem Sx{F:l6}{w:World}{x y z:As}{T:List As}(h:Hp F w (x::y::z::T)):Hp F w (x::T):=(h.perm (kz (l₁:=[x]) (l₂:=[y,z])|>.append_right T)).drop.drop
theorem uk(b:Nat)(m:MM)(r:RQ)(q:QL)(o:OC)(y:OL)(i:Nat)(B:BM):R9 b {m with a4N:=m.a4N.set i B} r q o y=R9 b m r q o y:=by
 unfold R9 Ny iy;simp only[jm]
theorem nx(m:MM)(i:Nat)(B:BM):S_ m.ba (m.a4N.set i B) m.bc=.own (.slice m.ba m.a4N.length m.bc) 100 5 (eX (m.a4N.set i B)):=by
 unfold S_;rw[jm]
theorem ul{F:l6}{w:World}{k x y z:As}{l:List BM}{i:Nat}{R:List As}{a:Option Addr}{ls:List LM}{c:Nat}(B:BM)(d:i<l.length)(ha:B.a=a)(b:B.ls=ls)(hc:B.c=c)(h:Hp F w (k::x::y::z::N9 a ls c::(V5 (l.eraseIdx i)++R))):Hp F w (k::x::y::z::(V5 (l.set i B)++R)):=by
 subst ha b hc;have e:Hp F w ([k,x,y,z]++((N9 B.a B.ls B.c::V5 (l.eraseIdx i))++R)):=h;exact e.perm (((Mx d B).symm.append_right R).append_left [k,x,y,z])
theorem Ea(b:Nat)(m:MM)(r:RQ)(q:QL)(hm:m.a4N.length<=1000)(x9:∀x∈m.a4N,x.ls.length<=1000/\x.next<=4294967296/\x.high<=D9)(z2:r.a5c.length<=100000)(y0:∀f∈r.a5c,f.length<=lh):Hq 61 b m r q (cN m.s r):=by
 refine x7 130 func61 rfl rfl rfl ?_;rintro F R ⟨u,k0⟩;refine p9 ?_;refine n7 (ι:=Nat) (fun _=>True) (fun z=>[(0,m6 b),(3,.int .i64 (D2 (fun b=>decide (b.name=r.box)) m.a4N)),(4,m6 z)]) (fun z=>.blk z (.cells (cQ r q).toArray 44)::R9 b m r q B9 M9::(uE m++R)) ?_ ?_
 ·skip
  refine u7 ?_;refine D7 [3,8,13] [9,14,16] [R9 b m r q B9 M9] 17 ?_;refine wd [0,1,2,3,4,5,6,7,8,10,11,12,13] ?_;refine bg 9 14 rfl rfl i6 ?_ ?_;refine e_ rfl (oC m r.box hm) (fun h hh ⟨bs,hb⟩=>A1.rd hb ud) rfl ?_;refine Y5 ?_;refine h_ 14 rfl i6 ?_;refine i7 rfl ?_;intro z;refine gk [15,16] ?_
  rotate_left 1
  refine i7 rfl ?_;intro z;refine Y5 ?_;refine h_ 9 rfl i6 ?_;refine e_ rfl (oC m r.box hm) (fun h hh ⟨bs,hb⟩=>A1.rd hb ud) rfl ?_;refine gk [15,16] ?_
  rotate_left 1
  all_goals (refine u7 ?_);all_goals exact g_ z trivial i_
 rintro z _;refine bt ?_ ?_<;>intro h
 ·have es:cN m.s r=(m.s,B9,6):=by unfold cN;rw[gD (qr h)]
  rw[es];refine C8 ?_;exact C_ m B9 M9 rfl rfl (l6.le_refl _) (fun w d=>d.drop) rfl qx u (L9.zero _)
 obtain⟨i,hi,e,ha⟩:=gE (zq h);rw[hi];have k8:cN m.s r=if F9 r.a5c=false\/r.hash.length≠32\/4096<r.size then(m.s,B9,1) else if r.a4Z≠m.a4Z then(m.s,B9,15) else if 32<=m.a4N[i].ls.length then(m.s,B9,7) else if eG<m.a4N[i].next\/D9<=m.a4N[i].high then(m.s,B9,13)
   else(jo m.s i {m.a4N[i].x with high:=m.a4N[i].high+1,next:=m.a4N[i].next+1,lts:=m.a4N[i].x.lts++[⟨m.a4N[i].next,r.a5c,m.a4N[i].high+1,r.hash,r.size⟩]},{B9 with val:=m.a4N[i].val,a4T:=[m.a4N[i].next]},0):=by
  unfold cN;rw[ha];simp only[eO e,BM.x,zm]
 rw[k8];clear k8;obtain⟨u0,u1,u2⟩:=x9 _ (zy e);refine B4 (a:=m.ba) (n:=m.a4N.length) (c:=m.bc) (sz:=5) (xs:=eX m.a4N) (te:=100) ud fun _ _ J=>?_;have J:=J qb;refine wk 8 ?_;obtain⟨q1,h1⟩:=o7 (F9 r.a5c);obtain⟨q2,h2⟩:=o7 (decide (r.hash.length=32));obtain⟨q3,h3⟩:=o7 (decide (4096<r.size));refine y6 [(0,m6 b),(4,m6 z),(5,de m i),(29,.bool (!q1||(!q2||q3)))] (.blk z (.cells (cQ r q).toArray 44)::R9 b m r q B9 M9::(uE m++R)) ?_ ?_
 ·cases q1<;>cases q2
  all_goals (
   refine z_ ?_;refine e_ rfl (gG r.a5c q.fa q.fc qb y0) (fun h hh _=>k0.a5c.le hh) rfl ?_;rw[<-h1];refine aF ?_;(first|refine u_ ?_|(refine v_ ?_;refine f_ ((M2 rfl rfl).eq (jk (fun x=>Value.bool (!x)) ((qz).trans h2.symm))) ?_));refine O2 ?_;(first|refine u_ ?_|(refine v_ ?_;refine f_ ((E1 rfl rfl).eq (qn ((qz).trans h3.symm))) ?_));refine z_ ?_)
  all_goals exact u6 sub i_
 refine u7 ?_;have u8:q1=false->F9 r.a5c=false:=fun k=>h1▸k;refine o8 rfl ?_ ?_<;>intro Q
 ·have hc:F9 r.a5c=false\/r.hash.length≠32\/4096<r.size:=by
   rw[<-h1]
   revert Q
   cases q1
   ·exact fun _=>.inl rfl
   cases q2
   ·exact fun _=>.inr (.inl (zq h2.symm))
   cases q3
   ·intro T;simp at T
   ·exact fun _=>.inr (.inr (qr h3.symm))
  rw[zu hc];refine C8 ?_;exact C_ m B9 M9 rfl rfl (l6.le_refl _) (fun w d=>d.drop) rfl qx u (L9.zero _)
 have hc:¬(F9 r.a5c=false\/r.hash.length≠32\/4096<r.size):=by
  rw[<-h1];rintro(k|k|k)
  ·rw[k] at Q;simp at Q
  ·rw[h2,Qq k] at Q;cases q1<;>simp at Q
  ·rw[h3,jq k] at Q;cases q1<;>cases q2<;>simp at Q
 rw[zk hc];refine u7 ?_;obtain⟨q4,h4⟩:=o7 (decide (r.a4Z=m.a4Z));refine u7 ?_;refine D7 [1,6] [] [.blk z (.cells (cQ r q).toArray 44),R9 b m r q B9 M9] 9 ?_;refine wd [0,1,2,3,4,5,6] ?_;refine w_ 7 rfl ((M2 rfl rfl).eq (v':=.bool (!q4)) (jk (fun x=>Value.bool (!x)) ((zc.2 Jj).trans h4.symm))) ?_;refine wd [8] ?_
 cases q4
 ·rw[zu (zq h4.symm)];refine C8 ?_;exact C_ m B9 M9 rfl rfl (l6.le_refl _) (fun w d=>d.drop) rfl qx u (L9.zero _)
 rw[zk (fun k=>k (qr h4.symm))];refine E6 ?_;refine r_ (i8 rfl (fun w d=>dH (j:=4) (d.ownN (t:=100) ud).2.2.1 o_ e rfl x8)) ?_;refine eE ?_ ?_<;>intro T
 ·have k:32<=m.a4N[i].ls.length:=by have:=qr T;omega
  rw[zu k];refine C8 ?_;exact C_ m B9 M9 rfl rfl (l6.le_refl _) (fun w d=>d.drop) rfl qx u (L9.zero _)
 have y1:¬32<=m.a4N[i].ls.length:=by have:=zq T;omega
 rw[zk y1];obtain⟨q5,h7⟩:=o7 (decide (eG<m.a4N[i].next));obtain⟨q6,h8⟩:=o7 (decide (D9<=m.a4N[i].high));refine u7 ?_;refine y6 [(0,m6 b),(4,m6 z),(5,de m i),(61,.bool (q5||q6))] (.blk z (.cells (cQ r q).toArray 44)::R9 b m r q B9 M9::(uE m++R)) ?_ ?_
 ·cases q5
  all_goals (
   refine E6 ?_;refine r_ (i8 rfl (fun w d=>dH (j:=2) (d.ownN (t:=100) ud).2.2.1 o_ e rfl x8)) ?_;refine f_ ((E1 rfl rfl).eq (qn ((zc.2 (by show(4294967295:Int)<_↔4294967295<_;omega)).trans h7.symm))) ?_;refine O2 ?_;(first|refine u_ ?_|(refine v_ ?_;refine r_ (i8 rfl (fun w d=>dH (j:=3) (d.ownN (t:=100) ud).2.2.1 o_ e rfl x8)) ?_));(first|refine u_ ?_|(refine v_ ?_;refine f_ ((I3 rfl rfl).eq (qn ((zc.2 (by show(9223372036854775807:Int)<=_↔9223372036854775807<=_;omega)).trans h8.symm))) ?_));refine z_ ?_)
  all_goals exact u6 sub i_
 refine O1 ?_ ?_<;>intro h9
 ·have k:eG<m.a4N[i].next\/D9<=m.a4N[i].high:=by
   rw[Zk] at h9;rcases h9 with k|k
   ·exact .inl (qr (h7.symm.trans k))
   ·exact .inr (qr (h8.symm.trans k))
  rw[zu k];refine C8 ?_;exact C_ m B9 M9 rfl rfl (l6.le_refl _) (fun w d=>d.drop) rfl qx u (L9.zero _)
 rw[Q0] at h9;have kn:¬eG<m.a4N[i].next:=zq (h7.symm.trans h9.1);have kh:¬D9<=m.a4N[i].high:=zq (h8.symm.trans h9.2);rw[zk (fun k=>k.elim kn kh)];have v0:m.a4N[i].next<=4294967295:=Nat.not_lt.1 kn;have v1:m.a4N[i].high<9223372036854775807:=Wh.1 kh;refine D6 (H':=.blk z (.cells (cQ r q).toArray 44)::R9 b m r q B9 M9::T0 m.sa m.a4P m.sc::P5 m.ha m.a4O m.hc::S_ m.ba m.a4N m.bc::N9 m.a4N[i].a m.a4N[i].ls m.a4N[i].c::(V5 (m.a4N.eraseIdx i)++R)) (fun w d=>d.perm (((K_ e).append_right R).append_left [_,_,_,_,_])) ?_;refine E6 ?_;refine r_ (i8 rfl (fun w d=>dH (j:=3) (d.ownN (t:=100) ud).2.2.1 o_ e rfl x8)) ?_;refine f_ ((H_ rfl rfl qb).eq (v':=.int .u64 ((m.a4N[i].high+1:Nat):Int)) (by congr 1)) ?_;refine z_ ?_;refine A9 (C:=cS) {m.a4N[i] with high:=m.a4N[i].high+1} o_ e (j:=3) rfl ?_;refine u7 ?_;obtain⟨o,k9⟩:∃o,o={m.a4N[i] with high:=m.a4N[i].high+1}:=⟨_,rfl⟩;have q0:i<(m.a4N.set i o).length:=by simpa using e
 have q7:(m.a4N.set i o)[i]=o:=Q7 _;have S:o.a=m.a4N[i].a/\o.ls=m.a4N[i].ls/\o.c=m.a4N[i].c/\o.next=m.a4N[i].next/\o.high=m.a4N[i].high+1/\o.val=m.a4N[i].val/\o.name=m.a4N[i].name:=by subst k9;exact⟨rfl,rfl,rfl,rfl,rfl,rfl,rfl⟩
 have X:(m.a4N.set i o)[i]? =some o:=by rw[zj q0,q7]
 rw[<-k9];refine u7 ?_;refine D7 [4,8,10,15,17,19] [11,21,22,25] [.own (.slice m.ba m.a4N.length m.bc) 100 5 (eX (m.a4N.set i o)),.blk z (.cells (cQ r q).toArray 44)] 26 ?_;refine wd [0,1,2,3] ?_;refine n8 4 rfl P6 (i8 (v:=.slice m.a4N[i].a m.a4N[i].ls.length m.a4N[i].c) rfl (fun w d=>EO (j:=4) (d.ownN (t:=100) ud).2.2.1 o_ o X (by rw[<-S.1,<-S.2.1,<-S.2.2.1];rfl) x8)) I4 rfl rfl rfl i6 ?_;refine wd [5,6,7] ?_;refine n8 8 rfl P6 (i8 (v:=.int .u64 (m.a4N[i].next:Nat)) rfl (fun w d=>EO (j:=2) (d.ownN (t:=100) ud).2.2.1 o_ o X (by rw[<-S.2.2.2.1];rfl) x8)) I4 rfl rfl rfl i6 ?_;refine wd [9,10,12,13,14] ?_;refine n8 15 rfl P6 (i8 (v:=.int .u64 ((m.a4N[i].high+1:Nat):Int)) rfl (fun w d=>EO (j:=3) (d.ownN (t:=100) ud).2.2.1 o_ o X (by rw[<-S.2.2.2.2.1];rfl) x8)) I4 rfl rfl rfl i6 ?_;refine wd [16,17,18,19] ?_;refine h_ 11 rfl i6 ?_;refine c_ (X_ r.a5c q.fa q.fc qb) (fun h hh _=>k0.a5c.le hh) ?_;rintro v A ⟨na,nc,rfl,rfl⟩;refine gk [20] ?_;refine h_ 21 rfl i6 ?_;refine C4 S9 ⟨⟨m.a4N[i].next,r.a5c,m.a4N[i].high+1,r.hash,r.size⟩,na,nc⟩ rfl ?_;intro Oe y2;refine Y5 ?_;refine h_ 22 rfl i6 ?_;refine r8 S9 (l:=m.a4N[i].ls) (m:=[⟨⟨m.a4N[i].next,r.a5c,m.a4N[i].high+1,r.hash,r.size⟩,na,nc⟩]) A_ mX (by show(m.a4N[i].ls.length+1)*64<=_;omega) ?_;intro p s _;obtain⟨U,Y⟩:∃U,U=m.a4N[i].ls++[⟨⟨m.a4N[i].next,r.a5c,m.a4N[i].high+1,r.hash,r.size⟩,na,nc⟩]:=⟨_,rfl⟩;rw[<-Y];refine E5 [23,24] ?_;refine h_ 25 rfl i6 ?_;refine A9 (C:=cS) (v:=.slice p U.length s) {o with ls:=U,a:=p,c:=s} o_ q0 (j:=4) (by rw[q7];rfl) ?_;refine E5 [] ?_;rw[Jq];obtain⟨g,q8⟩:∃g:BM,g={o with ls:=U,a:=p,c:=s}:=⟨_,rfl⟩;rw[<-q8];have q9:i<(m.a4N.set i g).length:=by simpa using e
 have x0:(m.a4N.set i g)[i]=g:=Q7 _;have h0:(m.a4N.set i g)[i]? =some g:=by rw[zj q9,x0]
 have M:g.a=p/\g.ls=U/\g.c=s/\g.next=m.a4N[i].next/\g.high=m.a4N[i].high+1/\g.val=m.a4N[i].val/\g.name=m.a4N[i].name:=by subst q8;exact⟨rfl,rfl,rfl,S.2.2.2.1,S.2.2.2.2.1,S.2.2.2.2.2.1,S.2.2.2.2.2.2⟩
 refine B8 (Z:=[A4 na r.a5c nc]) tk fun F1 O ⟨bs,x1⟩=>?_;have y3:n9 F1.heap na (fV r.a5c):=A1.rd x1 ud;clear x1;refine n7 (ι:=Option Addr) (fun _=>True) (fun _=>[(0,m6 b),(5,de m i)]) (fun ua=>.own (.slice ua 1 1) 27 1 (nV [m.a4N[i].next])::R9 b m r q {B9 with val:=m.a4N[i].val,a4T:=[m.a4N[i].next]} ⟨ua,1,none,0⟩::T0 m.sa m.a4P m.sc::P5 m.ha m.a4O m.hc::.own (.slice m.ba m.a4N.length m.bc) 100 5 (eX (m.a4N.set i g))::N9 p U s::(V5 (m.a4N.eraseIdx i)++R)) ?_ ?_
 ·skip
  refine u7 ?_;refine D7 [5,9] [10,14,18] [.own (.slice m.ba m.a4N.length m.bc) 100 5 (eX (m.a4N.set i g)),R9 b m r q B9 M9] 19 ?_;refine wd [0,1,2,3,4] ?_;refine n8 5 rfl P6 (i8 (v:=.int .u64 (m.a4N[i].val:Nat)) rfl (fun w d=>EO (j:=1) (d.ownN (t:=100) ud).2.2.1 o_ g h0 (by rw[<-M.2.2.2.2.2.1];rfl) x8)) I4 rfl rfl rfl i6 ?_;refine wd [6,7,8] ?_;refine n8 9 rfl P6 (i8 (v:=.int .u64 (m.a4N[i].next:Nat)) rfl (fun w d=>EO (j:=2) (d.ownN (t:=100) ud).2.2.1 o_ g h0 (by rw[<-M.2.2.2.1];rfl) x8)) I4 rfl rfl rfl i6 ?_;refine wd [11,12,13] ?_;refine bg 10 14 rfl rfl i6 ?_ ?_;refine x5 (ps:=[(0,.tmp 115)]) (vs:=[(0,.int .u64 (m.a4N[i].next:Nat))]) (xs:=nV [m.a4N[i].next]) rfl rfl rfl rfl rfl rfl rfl rfl ?_;intro V _;refine gk [14,15,16,17,18] ?_
  rotate_left 1
  (first|refine qL (pre:=[_,_,_,_,_,_,_,_,_,_,_,_,_,_,_,_,_,_,_,_,_,_,_,_,_]) (post:=[_,_]) rfl rfl uh (by rfl) (by rfl) (by rfl) ?_|refine T7 rfl rfl uh (by rfl) (by(intro q hq;simp[Value.cells] at hq;first|(subst hq;rfl)|(rcases hq with rfl|rfl|rfl|rfl|rfl|rfl|rfl|rfl<;>rfl)|(rcases hq with rfl|rfl|rfl|rfl|rfl|rfl|rfl|rfl|rfl|rfl|rfl|rfl|rfl|rfl|rfl|rfl|rfl|rfl|rfl|rfl<;>rfl))) (by rfl) ?_);refine xn ?_;refine h_ 10 rfl i6 ?_;refine x5 (ps:=[(0,.tmp 115)]) (vs:=[(0,.int .u64 (m.a4N[i].next:Nat))]) (xs:=nV [m.a4N[i].next]) rfl rfl rfl rfl rfl rfl rfl rfl ?_;intro V _;refine E5 [15,16,17,18] ?_
  rotate_left 1
  all_goals (refine u7 ?_);all_goals exact g_ V trivial (fun w d=>Sx d)
 rintro ua _;refine u7 ?_;refine B8 (Z:=[.own (.slice ua 1 1) 27 1 (nV [m.a4N[i].next])]) tk fun F2 D ⟨bs,x2⟩=>?_;have z0:n9 F2.heap ua (nV [m.a4N[i].next]):=A1.rd x2 ud;clear x2;refine E6 ?_;refine r_ (i8 (v:=.int .u64 (m.a4N[i].next:Nat)) rfl (fun w d=>EO (j:=2) (d.ownN (t:=100) ud).2.2.1 o_ g h0 (by rw[<-M.2.2.2.1];rfl) x8)) ?_;refine f_ ((H_ rfl rfl qb).eq (v':=.int .u64 ((m.a4N[i].next+1:Nat):Int)) (by congr 1)) ?_;refine z_ ?_;refine A9 (C:=cS) (v:=.int .u64 ((m.a4N[i].next+1:Nat):Int)) {g with next:=m.a4N[i].next+1} o_ q9 (j:=2) (by rw[x0];rfl) ?_;refine u7 ?_;rw[Jq];refine C8 ?_;refine C_ {m with a4N:=m.a4N.set i {g with next:=m.a4N[i].next+1}} {B9 with val:=m.a4N[i].val,a4T:=[m.a4N[i].next]} ⟨ua,1,none,0⟩ rfl rfl (O.trans D) (fun w d=>?_) ?_ (fun _=>rfl) (fun x hx=>?_) ⟨z0,n9.nil _ _⟩
 ·rw[uk];show Hp F2 w (_::T0 m.sa m.a4P m.sc::P5 m.ha m.a4O m.hc::S_ m.ba (m.a4N.set i {g with next:=m.a4N[i].next+1}) m.bc::(V5 (m.a4N.set i {g with next:=m.a4N[i].next+1})++R));rw[nx];exact ul {g with next:=m.a4N[i].next+1} e M.1 M.2.1 M.2.2.1 d
 ·show({m.s with a4N:=_}:ML)=_;unfold jo;rw[aN];simp only[BM.x,M.2.1,M.2.2.2.2.1,M.2.2.2.2.2.1,M.2.2.2.2.2.2,Y,jh,Qv,K9]
 ·rcases jd hx with Q|rfl
  ·exact Mn.le (O.trans D).heap (u x Q)
  ·intro y hy;have x3:y∈U:=M.2.1▸hy;rw[Y] at x3;rcases zp.1 x3 with T|T
   ·exact(u _ (zy e) y T).le (O.trans D).heap
   ·obtain rfl:=zg.1 T;exact y3.le D.heap
def fS(r:RQ)(most:Nat)(x:LM):Bool:=decide (jt∈x.t.a5c)&&(r.a4T.isEmpty||gM r.a4T most x.t.uid)
theorem My(r:RQ)(b:BM)(x:LM):jA r b.x x.t=fS r (Y1 b.ls) x:=by
 unfold jA fS X0;rw[pI]
abbrev Br(b g1 g5 g2 g3 most:Nat)(m:MM)(r:RQ)(q:QL)(o:OC)(y:OL)(l:List LM)(h:l9):Prop:=aH g1 (m6 b) 132 h/\aH g5 (iE g2 g3) 196 h/\vJ b g2 g3 most m r q o y h/\ix l h
theorem Bt(b g1 n p g3 c:Nat)(m:MM)(r:RQ)(q:QL)(o:OC)(y:OL)(z:r.a4T.length<=1000000)(l:List LM)(x:LM)(hx:x∈l)(hf:x.t.a5c.length<=1000000):Pu prog 120 [.agg (S9 x).toArray,m6 g1,m6 n] (Br b g1 n p g3 c m r q o y l) (.bool (fS r c x)):=by
 obtain⟨C,s⟩:=o7 (decide (jt∈x.t.a5c));obtain⟨D,u⟩:=o7 (r.a4T.isEmpty);unfold fS;rw[<-s,<-u];refine b_ 22 func120 rfl rfl rfl ?_;rintro F ⟨J,M,e,f⟩;obtain⟨g,i,j,k⟩:=e;refine C6 ?_;refine m9 rfl rfl ?_;intro g3;refine p9 ?_
 cases C<;>cases D
 all_goals (
  refine z_ ?_;refine e_ rfl (ue x.t.a5c x.a x.c jt qb) (fun h d _=>(f x hx).le d) rfl ?_;rw[<-s];refine wk 7 ?_;(first|refine u_ ?_|(refine v_ ?_;refine f_ ((p7 rfl rfl).eq (qn (show _=r.a4T.isEmpty from by cases r.a4T with|nil=>rfl|cons a t=>simp<;>omega)|>.trans (qn u.symm))) ?_));refine E6 ?_;(first|refine u_ ?_|(refine v_ ?_;refine y9 (ps:=[]) _ rfl rfl rfl (lk b p _ c m r q o y z x) i_ (fun h d _=>⟨d _ _ g,d _ _ i,d _ _ j,k.le d⟩) rfl ?_;rintro v A ⟨rfl,rfl⟩));refine E6 ?_)
 all_goals (refine A3 ?_;exact d_ rfl rfl [] qh (fun w O=>O.dropAll))
abbrev Sy(g1 g5:Nat):Value:=.func (.func 120) #[] #[m6 g1,m6 g5]
abbrev NI(u:List Nat):OC:={B9 with a4T:=u}
theorem mJ{α β:Type}(f:α->β)(q:α->Bool){l:List α}{j:Nat}(a:j<l.length):((l.take (j+1)).filter q).map f=((l.take j).filter q).map f++if q l[j] then[f l[j]] else[]:=by
 rw[I_ q a,jh];split<;>simp
theorem Mz(b:Nat)(m:MM)(r:RQ)(q:QL)(u:List Nat)(ua:Option Addr)(uc n:Nat)(h:u.length=n):R9 b m r q (NI u) ⟨ua,uc,none,0⟩=.blk b (.cells (iy m++cQ r q++([.int .i64 0,.int .u64 ((0:Nat):Int),.int .u64 ((0:Nat):Int),.slice ua n uc,.slice none 0 0]:List Value)).toArray 136):=by subst h;rfl
theorem yP(b:Nat)(m:MM)(r:RQ)(q:QL)(hm:m.a4N.length<=1000)(q6:∀x∈m.a4N,x.ls.length<=1000/\x.high<=D9/\∀y∈x.ls,y.t.a5c.length<=1000000)(hu:r.a4T.length<=1000000):Hq 63 b m r q (aW m.s r):=by
 refine x7 74 func63 rfl rfl rfl ?_;rintro F R ⟨J,h6⟩;refine C6 ?_;refine L1 rfl rfl rfl ?_;intro U;refine p9 ?_
 cases hn:named m.s r with
 |none=>
  have es:aW m.s r=(m.s,B9,6):=by unfold aW;rw[hn]
  rw[es];refine p9 ?_;refine e_ rfl (dV b m r q B9 M9 hm) (fun h z g=>⟨I9 g,by obtain⟨bs,g⟩:=g;exact A1.rd g ud⟩) rfl ?_;rw[hn,show fQ m none=.tuple #[.pointer none,.bool false] from rfl];refine Nq ?_;exact C_ m B9 M9 rfl rfl (l6.le_refl _) (fun w l=>l.drop) rfl qx J (L9.zero _)
 |some i=>
  have f:=pH hn;obtain⟨h7,x1,h8⟩:=q6 _ (zy f);refine p9 ?_;refine e_ rfl (dV b m r q B9 M9 hm) (fun h z g=>⟨I9 g,by obtain⟨bs,g⟩:=g;exact A1.rd g ud⟩) rfl ?_;rw[hn,show fQ m (some i)=.tuple #[de m i,.bool true] from rfl];refine wk 7 ?_;refine D6 (H':=.blk U (.cells #[m6 b] 132)::R9 b m r q B9 M9::T0 m.sa m.a4P m.sc::P5 m.ha m.a4O m.hc::S_ m.ba m.a4N m.bc::N9 m.a4N[i].a m.a4N[i].ls m.a4N[i].c::(V5 (m.a4N.eraseIdx i)++R)) (fun w l=>l.perm (((K_ f).append_right R).append_left [_,_,_,_,_])) ?_;refine z_ ?_;refine c_ (pJ b m i f h7) ?pre ?_;(case pre=>exact fun h z ⟨bs,g⟩=>⟨A1.rd g ud,A1.rd g ud⟩);rintro v A ⟨Y,g3,rfl,rfl⟩;refine p9 ?_;intro g5;refine p9 ?_;refine B8 (Z:=[.blk g5 (.cells #[iE Y g3] 196),.blk g3 (.cells #[.int .u64 (Y1 m.a4N[i].ls:Nat)] 27),.blk Y (.cells #[m6 b] 132),.blk U (.cells #[m6 b] 132)]) tk fun F1 h0 g=>?_;have p5:aH g5 (iE Y g3) 196 F1.heap:=I9 g;have p3:aH g3 (.int .u64 (Y1 m.a4N[i].ls:Nat)) 27 F1.heap:=I9 g;have p2:aH Y (m6 b) 132 F1.heap:=I9 g;have p1:aH U (m6 b) 132 F1.heap:=I9 g;clear g;refine B4 (a:=m.ba) (n:=m.a4N.length) (c:=m.bc) (sz:=5) (xs:=eX m.a4N) (te:=100) ud fun _ _ O=>?_;have O:=O qb;refine aF ?_;refine r_ (i8 rfl (fun w l=>dH (j:=4) (l.ownN (t:=100) ud).2.2.1 o_ f rfl x8)) ?_;refine z_ ?_;refine B4 (a:=m.a4N[i].a) (n:=m.a4N[i].ls.length) (c:=m.a4N[i].c) (sz:=5) (xs:=qC m.a4N[i].ls) (te:=156) ud fun _ _ h9=>?_;refine O7 27 1 ?_;obtain⟨e,Q⟩:=o7 (Y1 m.a4N[i].ls);rw[<-Q] at p3;obtain⟨d,s⟩:∃d:Nat->List Nat,∀j,d j=((m.a4N[i].ls.take j).filter (fS r e)).map fun x=>x.t.uid:=⟨_,fun _=>rfl⟩;have h3:d 0=[]:=by rw[s];rfl
  have S:∀j,(d j).length<=1000:=fun j=>by
   rw[s,zm];refine jg (Qm _ _) (jg (List.length_take_le' _ _) h7)
  refine O6 (fun j (u:Option Addr) (D:Nat)=>j<=m.a4N[i].ls.length) (fun j u D=>[(1,m6 U),(3,de m i),(6,Sy U g5),(23,.slice m.a4N[i].a m.a4N[i].ls.length m.a4N[i].c),(24,.int .i64 (m.a4N[i].ls.length:Nat)),(25,.int .i64 (j:Nat))])
   (fun j u D=>.own (.slice u (d j).length D) 27 1 (nV (d j))::R9 b m r q (NI (d j)) ⟨u,D,none,0⟩::T0 m.sa m.a4P m.sc::P5 m.ha m.a4O m.hc::S_ m.ba m.a4N m.bc::N9 m.a4N[i].a m.a4N[i].ls m.a4N[i].c::(V5 (m.a4N.eraseIdx i)++R)) (fun j _ _=>m.a4N[i].ls.length-j) 0 none 0 (zw _) sub (fun w l=>by rw[h3];exact l) ?_
  rintro j u D hj;refine R6 ?_ ?_<;>intro h
  ·have M:j<m.a4N[i].ls.length:=(by have:=qr h;omega);have h9:=h9 qb;refine p9 ?_;refine r_ (w8 rfl (fun w l=>fm (l.ownN (t:=156) ud).2.2.1 A_ qp M x8) (A_ _)) ?_;refine i7 rfl ?_;intro g8;refine E6 ?_;refine y9 (ps:=[]) _ rfl rfl rfl (Bt b U g5 Y g3 e m r q (NI (d j)) ⟨u,D,none,0⟩ hu m.a4N[i].ls m.a4N[i].ls[j] (zy M) (h8 _ (zy M))) i_ (fun h z g=>⟨z _ _ p1,z _ _ p5,⟨z _ _ p2,z _ _ p3,I9 g,(h6.a4T.le h0.heap).le z⟩,Mn.le z (Mn.le h0.heap (J _ (zy f)))⟩) rfl ?_;rintro v A ⟨rfl,rfl⟩;refine u7 ?_;have o:=mJ (fun x:LM=>x.t.uid) (fS r e) M;rw[<-s,<-s] at o;refine o8 rfl ?_ ?_<;>intro h2
   ·rw[h2,zu rfl] at o;refine u7 ?_;refine D7 [0,1,5,7] [8,9,13] [.blk g8 (.cells (S9 m.a4N[i].ls[j]).toArray 156),R9 b m r q (NI (d j)) ⟨u,D,none,0⟩] 14 ?_;refine wd [0,1,2,3,4,5,6,7] ?_;refine h_ 8 rfl i6 ?_;refine x5 (ps:=[(0,.tmp 39)]) (vs:=[(0,.int .u64 (m.a4N[i].ls[j].t.uid:Nat))]) (xs:=nV [m.a4N[i].ls[j].t.uid]) rfl rfl rfl rfl rfl rfl rfl rfl ?_;intro x2 _;refine Y5 ?_;refine h_ 9 rfl i6 ?_;refine B_ (news:=nV [m.a4N[i].ls[j].t.uid]) (m:=1) rfl rfl (fun a' c'=>uh) (fun w l=>(l.ownN (t:=27) ud).2.2.1) rfl rfl rfl (io _) (by show((d j).length+1)*8<=_;have:=S j;omega) (by show(d j).length+1<=9223372036854775807;have:=S j;omega) rfl ?_;intro QM q7 _;refine gk [10,11,12,13] ?_;refine z_ ?_;refine l8 (i:=(j,u,D)) (j+1,QM,q7) qg qg sub (fun w l=>?_);have e1:(d (j+1)).length=(d j).length+1:=(by rw[o,zz];rfl);simp only;rw[Mz _ _ _ _ _ _ _ _ e1,e1,o,ay];exact l.drop.drop
   ·rw[h2,zk x8,z7] at o;refine z_ ?_;exact l8 (i:=(j,u,D)) (j+1,u,D) qg qg sub (fun w l=>by simp only;rw[o];exact l.drop)
  ·have M:j=m.a4N[i].ls.length:=(by have:=zq h;omega);have k8:(jA r m.a4N[i].x)∘LM.t=fS r e:=by
    funext x;show jA r m.a4N[i].x x.t=_;rw[My,Q]
   have q8:(m.a4N[i].x.lts.filter (jA r m.a4N[i].x)).map LT.uid=d j:=by
    rw[s,M,Qj,W9,k8,Jp];rfl
   have es:aW m.s r=if d j=[] then(m.s,B9,0) else if D9<=m.a4N[i].high then(m.s,B9,13) else(jo m.s i {m.a4N[i].x with lts:=m.a4N[i].x.lts.filter fun x=>!jA r m.a4N[i].x x,high:=m.a4N[i].high+1},{B9 with a4T:=d j},0):=by
    unfold aW;rw[hn];simp only[eO f,q8]
   rw[es];clear es;refine u7 ?_;refine B8 (Z:=[.own (.slice u (d j).length D) 27 1 (nV (d j))]) tk fun F2 T ⟨bs,g⟩=>?_;have k9:n9 F2.heap u (nV (d j)):=A1.rd g ud;clear g;have k:=h0.trans T;have q9:aH U (m6 b) 132 F2.heap:=T.heap _ _ p1;obtain⟨q1,h1⟩:=o7 (decide (d j=[]));refine cH ?_;refine f_ ((p7 rfl rfl).eq (v':=.bool q1) (qn (by rw[h1];exact zc.2 (by show(((d j).length:Nat):Int)=0↔_;cases d j<;>simp<;>omega)))) ?_;refine u7 ?_
   cases q1
   ·have k0:d j≠[]:=zq h1.symm;rw[zk k0];refine u7 ?_;obtain⟨q2,h2⟩:=o7 (decide (D9<=m.a4N[i].high));refine E6 ?_;refine r_ (i8 rfl (fun w l=>dH (j:=3) (l.ownN (t:=100) ud).2.2.1 o_ f rfl x8)) ?_;refine f_ ((I3 rfl rfl).eq (v':=.bool q2) (qn ((zc.2 (by show(9223372036854775807:Int)<=_↔9223372036854775807<=_;omega)).trans h2.symm))) ?_;refine u7 ?_
    cases q2
    ·rw[zk (zq h2.symm)];have x3:m.a4N[i].high<9223372036854775807:=Wh.1 (zq h2.symm);refine O2 ?_;refine r_ (i8 rfl (fun w l=>dH (j:=4) (l.ownN (t:=100) ud).2.2.1 o_ f rfl x8)) ?_;refine p9 ?_;refine c_ (tD m.a4N[i].ls m.a4N[i].a m.a4N[i].c 120 [m6 U,m6 g5] (Br b U g5 Y g3 e m r q (NI (d j)) ⟨u,D,none,0⟩ m.a4N[i].ls) (fS r e) (fun x hx=>Bt b U g5 Y g3 e m r q (NI (d j)) ⟨u,D,none,0⟩ hu m.a4N[i].ls x hx (h8 _ hx)) qb) ?pre ?_;(case pre=>exact fun h z g=>⟨z _ _ q9,z _ _ (T.heap _ _ p5),⟨z _ _ (T.heap _ _ p2),z _ _ (T.heap _ _ p3),I9 g,(h6.a4T.le k.heap).le z⟩,Mn.le z (Mn.le k.heap (J _ (zy f)))⟩);rintro v A ⟨rfl,rfl⟩;refine z_ ?_;refine A9 (C:=cS) (v:=.slice m.a4N[i].a (m.a4N[i].ls.filter fun x=>!fS r e x).length m.a4N[i].c) {m.a4N[i] with ls:=m.a4N[i].ls.filter fun x=>!fS r e x} o_ f (j:=4) rfl ?_;refine u7 ?_;obtain⟨LS,h4⟩:=o7 (m.a4N[i].ls.filter fun x=>!fS r e x);rw[<-h4];obtain⟨p,q0⟩:∃p:BM,p={m.a4N[i] with ls:=LS}:=⟨_,rfl⟩;have X:i<(m.a4N.set i p).length:=(by simpa using f);have q3:(m.a4N.set i p)[i]=p:=Q7 _;have x0:(m.a4N.set i p)[i]? =some p:=(by rw[zj X,q3]);have V:p.a=m.a4N[i].a/\p.ls=LS/\p.c=m.a4N[i].c/\p.next=m.a4N[i].next/\p.high=m.a4N[i].high/\p.val=m.a4N[i].val/\p.name=m.a4N[i].name:=(by subst q0;exact⟨rfl,rfl,rfl,rfl,rfl,rfl,rfl⟩);rw[<-q0];refine E6 ?_;refine r_ (i8 (v:=.int .u64 (m.a4N[i].high:Nat)) rfl (fun w l=>EO (j:=3) (l.ownN (t:=100) ud).2.2.1 o_ p x0 (by rw[<-V.2.2.2.2.1];rfl) x8)) ?_;refine f_ ((H_ rfl rfl qb).eq (v':=.int .u64 ((m.a4N[i].high+1:Nat):Int)) (by congr 1)) ?_;refine z_ ?_;refine A9 (C:=cS) (v:=.int .u64 ((m.a4N[i].high+1:Nat):Int)) {p with high:=m.a4N[i].high+1} o_ X (j:=3) (by rw[q3];rfl) ?_;refine u7 ?_;rw[Jq];refine C8 ?_;refine C_ {m with a4N:=m.a4N.set i {p with high:=m.a4N[i].high+1}} (NI (d j)) ⟨u,D,none,0⟩ rfl rfl k (fun w l=>?_) ?_ (fun _=>rfl) (fun x hx=>?_) ⟨k9,n9.nil _ _⟩
     ·rw[uk];show Hp F2 w (_::T0 m.sa m.a4P m.sc::P5 m.ha m.a4O m.hc::S_ m.ba (m.a4N.set i {p with high:=m.a4N[i].high+1}) m.bc::(V5 (m.a4N.set i {p with high:=m.a4N[i].high+1})++R));rw[nx];exact ul {p with high:=m.a4N[i].high+1} f V.1 V.2.1 V.2.2.1 (l.perm ((kz (l₁:=[_]) (l₂:=[_,_,_,_])).append_right _))
     ·show({m.s with a4N:=_}:ML)=_;unfold jo;rw[aN];have q4:LS.map LM.t=m.a4N[i].x.lts.filter fun x=>!jA r m.a4N[i].x x:=by
       rw[h4];show _=(m.a4N[i].ls.map LM.t).filter _;rw[W9];congr 1;refine List.filter_congr fun x _=>?_;rw[<-k8];rfl
      simp only[BM.x,V.2.1,V.2.2.2.1,V.2.2.2.2.2.1,V.2.2.2.2.2.2,q4]
     ·rcases jd hx with h5|rfl
      ·exact Mn.le k.heap (J x h5)
      ·intro y hy;have q5:y∈LS:=V.2.1▸hy;rw[h4] at q5;exact(J _ (zy f) y (Qy.1 q5).1).le k.heap
    ·rw[zu (qr h2.symm)];refine C8 ?_;refine C_ m (NI (d j)) ⟨u,D,none,0⟩ rfl rfl k (fun w l=>?_) rfl qx (fun b g=>Mn.le k.heap (J b g)) ?_
     ·exact l.perm (((K_ f).symm.append_right R).append_left [_,_,_,_])
     ·exact⟨k9,n9.nil _ _⟩
   ·have k0:d j=[]:=qr h1.symm;rw[zu k0];refine C8 ?_;refine C_ m B9 ⟨u,D,none,0⟩ rfl rfl k (fun w l=>?_) rfl (fun _=>rfl) (fun b g=>Mn.le k.heap (J b g)) (L9.nil _ _ _ rfl rfl);rw[k0] at l;exact l.perm (((K_ f).symm.append_right R).append_left [_,_,_,_])
theorem pP(n m:Nat):∀l:List LT,(eZ n m l).length=l.length
 |[]=>rfl
 |x::t=>by rw[eZ,zx,pP,zx]
theorem wC(m:Nat):∀(l:List LT) (n j:Nat),(eZ n m l)[j]? =l[j]?.map fun x=>{x with uid:=n+j,mod:=m}
 |[],_,_=>by simp[eZ]
 |x::t,n,0=>by simp[eZ]
 |x::t,n,j+1=>by
  rw[eZ,List.getElem?_cons_succ,List.getElem?_cons_succ,wC m t (n+1) j];rw[show n+1+j=n+(j+1) by omega]
theorem Eb{n m:Nat}{l:List LT}{j:Nat}(a:j<l.length):(eZ n m l).take (j+1)=(eZ n m l).take j++[{l[j] with uid:=n+j,mod:=m}]:=by
 have b:j<(eZ n m l).length:=by rw[pP];exact a
 rw[kj b];congr 2;have c:=wC m l n j;rw[zj b,zj a] at c;exact j7 c
theorem Ec{α:Type}(q:α->Bool){l:List α}{j:Nat}(a:j<l.length):(l.take (j+1)).filter q=(l.take j).filter q++if q l[j] then[l[j]] else[]:=I_ q a
structure CpS where
 N:List LM
 a:Option Addr
 c:Nat
 ua:Option Addr
 uc:Nat
def V8(N:List LM):List Nat:=N.map fun x=>x.t.uid
theorem sv(N:List LM)(y:LM):V8 (N++[y])=V8 N++[y.t.uid]:=by simp[V8]
theorem sw(N:List LM):(V8 N).length=N.length:=by simp[V8]
abbrev Qo(v:Nat)(u:List Nat):OC:={B9 with val:=v,a4T:=u}
theorem HT(b:Nat)(m:MM)(r:RQ)(q:QL)(v:Nat)(u:List Nat)(ua:Option Addr)(uc n:Nat)(h:u.length=n):R9 b m r q (Qo v u) ⟨ua,uc,none,0⟩=.blk b (.cells (iy m++cQ r q++([.int .i64 0,.int .u64 ((0:Nat):Int),.int .u64 (v:Nat),.slice ua n uc,.slice none 0 0]:List Value)).toArray 136):=by subst h;rfl
def um(r:RQ)(most:Nat)(x:LM):Bool:=gM r.a4T most x.t.uid
theorem MA(b:Nat)(m:MM)(r:RQ)(q:QL)(hm:m.a4N.length<=1000)(x2:∀x∈m.a4N,x.ls.length<=1000/\x.next<=4294967296/\x.high<=D9/\∀y∈x.ls,y.t.a5c.length<=1000000)(hu:r.a4T.length<=1000000):Hq 64 b m r q (gS m.s r):=by
 refine x7 156 func64 rfl rfl rfl ?_;rintro F R ⟨S,z0⟩;refine p9 ?_
 cases hn:named m.s r with
 |none=>
  have es:gS m.s r=(m.s,B9,6):=by unfold gS;rw[hn]
  rw[es];refine p9 ?_;refine e_ rfl (dV b m r q B9 M9 hm) (fun h hh g=>⟨I9 g,by obtain⟨bs,g⟩:=g;exact A1.rd g ud⟩) rfl ?_;rw[hn,show fQ m none=.tuple #[.pointer none,.bool false] from rfl];refine Nq ?_;exact C_ m B9 M9 rfl rfl (l6.le_refl _) i_ rfl qx S (L9.zero _)
 |some i=>
  have U:=pH hn;obtain⟨x3,v8,v9,z2⟩:=x2 _ (zy U);refine p9 ?_;refine e_ rfl (dV b m r q B9 M9 hm) (fun h hh g=>⟨I9 g,by obtain⟨bs,g⟩:=g;exact A1.rd g ud⟩) rfl ?_;rw[hn,show fQ m (some i)=.tuple #[de m i,.bool true] from rfl];refine wk 7 ?_;refine D7 [3,8] [9] [R9 b m r q B9 M9] 11 ?_;refine wd [0,1,2,3,4,5,6,7,8] ?_;refine h_ 9 rfl i6 ?_;refine e_ rfl (oC m r.tz hm) (fun h hh ⟨bs,g⟩=>A1.rd g ud) rfl ?_;refine E5 [10] ?_;refine bt ?_ ?_<;>intro h
  ·have es:gS m.s r=(m.s,B9,21):=(by unfold gS;rw[hn];simp only;rw[gD (qr h)]);rw[es];refine C8 ?_;exact C_ m B9 M9 rfl rfl (l6.le_refl _) i_ rfl qx S (L9.zero _)
  obtain⟨k,hk,f,u0⟩:=gE (zq h);obtain⟨w0,w1,w2,w3⟩:=x2 _ (zy f);rw[hk];refine p9 ?_;refine D6 (H':=R9 b m r q B9 M9::T0 m.sa m.a4P m.sc::P5 m.ha m.a4O m.hc::S_ m.ba m.a4N m.bc::N9 m.a4N[i].a m.a4N[i].ls m.a4N[i].c::(V5 (m.a4N.eraseIdx i)++R)) (fun w d=>d.perm (((K_ U).append_right R).append_left [_,_,_,_])) ?_;refine z_ ?_;refine c_ (pJ b m i U x3) ?pre ?_;(case pre=>exact fun h hh ⟨bs,g⟩=>⟨A1.rd g ud,A1.rd g ud⟩);rintro v A ⟨g2,g3,rfl,rfl⟩;refine p9 ?_;refine B8 (Z:=[.blk g3 (.cells #[.int .u64 (Y1 m.a4N[i].ls:Nat)] 27),.blk g2 (.cells #[m6 b] 132)]) tk fun F1 u g=>?_;have p3:aH g3 (.int .u64 (Y1 m.a4N[i].ls:Nat)) 27 F1.heap:=I9 g;have p2:aH g2 (m6 b) 132 F1.heap:=I9 g;clear g;refine B4 (a:=m.ba) (n:=m.a4N.length) (c:=m.bc) (sz:=5) (xs:=eX m.a4N) (te:=100) ud fun _ _ h8=>?_;have h8:=h8 qb;refine E6 ?_;refine r_ (i8 rfl (fun w d=>dH (j:=4) (d.ownN (t:=100) ud).2.2.1 o_ U rfl x8)) ?_;refine z_ ?_;refine B4 (a:=m.a4N[i].a) (n:=m.a4N[i].ls.length) (c:=m.a4N[i].c) (sz:=5) (xs:=qC m.a4N[i].ls) (te:=156) ud fun _ _ x9=>?_;refine O7 156 5 ?_;obtain⟨J,k8⟩:=o7 (Y1 m.a4N[i].ls);rw[<-k8] at p3;obtain⟨D,M⟩:∃D:Nat->List LM,∀j,D j=(m.a4N[i].ls.take j).filter (um r J):=⟨_,fun _=>rfl⟩;have k9:D 0=[]:=by rw[M];rfl
  have V:∀j,(D j).length<=1000:=fun j=>by
   rw[M];refine jg (Qm _ _) (jg (List.length_take_le' _ _) x3)
  refine O6 (fun j (T:Option Addr) (X:Nat)=>j<=m.a4N[i].ls.length) (fun j T X=>[(0,m6 b),(5,.int .i64 (k:Nat)),(6,.slice T (D j).length X),(7,iE g2 g3),(38,.slice m.a4N[i].a m.a4N[i].ls.length m.a4N[i].c),(39,.int .i64 (m.a4N[i].ls.length:Nat)),(40,.int .i64 (j:Nat))])
   (fun j T X=>N9 T (D j) X::R9 b m r q B9 M9::T0 m.sa m.a4P m.sc::P5 m.ha m.a4O m.hc::S_ m.ba m.a4N m.bc::N9 m.a4N[i].a m.a4N[i].ls m.a4N[i].c::(V5 (m.a4N.eraseIdx i)++R)) (fun j _ _=>m.a4N[i].ls.length-j) 0 none 0 (zw _) (by rw[k9];exact sub) (fun w d=>by rw[k9];exact d) ?_
  rintro j T X hj;refine R6 ?_ ?_<;>intro h
  ·have p:j<m.a4N[i].ls.length:=(by have:=qr h;omega);have x9:=x9 qb;refine p9 ?_;refine r_ (w8 rfl (fun w d=>fm (C:=S9) (l:=m.a4N[i].ls) (q:=((j:Nat):Int).toNat*5) (d.ownN (t:=156) (a:=m.a4N[i].a) ud).2.2.1 A_ qp p x8) (A_ _)) ?_;refine i7 rfl ?_;intro g9;refine E6 ?_;refine y9 (ps:=[]) _ rfl rfl rfl (lk b g2 g3 J m r q B9 M9 hu m.a4N[i].ls[j]) i_ (fun h hh g=>⟨hh _ _ p2,hh _ _ p3,I9 g,(z0.a4T.le u.heap).le hh⟩) rfl ?_;rintro v A ⟨rfl,rfl⟩;refine u7 ?_;have z:=Ec (um r J) p;rw[<-M,<-M] at z;refine o8 rfl ?_ ?_<;>intro h2
   ·rw[show um r J m.a4N[i].ls[j]=true from h2,zu rfl] at z;refine z_ ?_;refine C4 S9 m.a4N[i].ls[j] rfl ?_;intro a49 _;refine r8 S9 (l:=D j) (m:=[m.a4N[i].ls[j]]) A_ mX (by show((D j).length+1)*64<=_;have:=V j;omega) ?_ rfl rfl (fun _ _=>uh) (fun w d=>(d.ownN (t:=156) ud).2.2.1) (by have:=V j;show(D j).length+1<=9223372036854775807;omega);intro u1 u2 _;rw[<-z];refine E6 ?_;exact l8 (i:=(j,T,X)) (j+1,u1,u2) qg qg sub (fun w d=>d.drop.drop)
   ·rw[show um r J m.a4N[i].ls[j]=false from h2,zk x8,z7] at z;refine z_ ?_;rw[<-z];exact l8 (i:=(j,T,X)) (j+1,T,X) qg qg sub (fun w d=>d.drop)
  ·have p:j=m.a4N[i].ls.length:=(by have:=zq h;omega);obtain⟨e,h7⟩:=o7 (D j);have v5:e.length<=1000:=(by rw[h7];exact V j);have q8:∀x∈e,x∈m.a4N[i].ls:=fun x hx=>by
    rw[h7,M] at hx;exact K7 (Qy.1 hx).1
   have y0:e.map LM.t=m.a4N[i].x.lts.filter (X0 r m.a4N[i].x):=by
    rw[h7,M,p,Qj];show _=(m.a4N[i].ls.map LM.t).filter _;rw[W9];congr 1;refine List.filter_congr fun x _=>?_;show gM r.a4T J x.t.uid=gM r.a4T (vp m.a4N[i].x) x.t.uid;rw[pI,k8]
   have es:gS m.s r=if e.map LM.t=[] then(m.s,{B9 with val:=m.a4N[k].val},0) else if 32<m.a4N[k].ls.length+e.length then(m.s,{B9 with val:=m.a4N[k].val},7) else if eG+1<m.a4N[k].next+e.length\/D9<=m.a4N[k].high then(m.s,{B9 with val:=m.a4N[k].val},13)
     else(jo m.s k {m.a4N[k].x with high:=m.a4N[k].high+1,next:=m.a4N[k].next+e.length,lts:=m.a4N[k].x.lts++eZ m.a4N[k].next (m.a4N[k].high+1) (e.map LM.t)},{B9 with val:=m.a4N[k].val,a4T:=(eZ m.a4N[k].next (m.a4N[k].high+1) (e.map LM.t)).map LT.uid},0):=by
    unfold gS;rw[hn];simp only;rw[u0];simp only[eO U,eO f,<-y0,zm,BM.x]
   rw[es,<-h7];clear es;refine u7 ?_;refine D6 (H':=N9 T e X::R9 b m r q B9 M9::T0 m.sa m.a4P m.sc::P5 m.ha m.a4O m.hc::S_ m.ba m.a4N m.bc::N9 m.a4N[k].a m.a4N[k].ls m.a4N[k].c::(V5 (m.a4N.eraseIdx k)++R)) (fun w d=>d.perm ((((K_ U).symm.trans (K_ f)).append_right R).append_left [_,_,_,_,_])) ?_;refine wk 12 ?_;refine r_ (i8 rfl (fun w d=>dH (j:=1) (d.ownN (t:=100) ud).2.2.1 o_ f rfl x8)) ?_;refine O2 ?_;obtain⟨q1,h1⟩:=o7 (decide (e.map LM.t=[]));refine z_ ?_;refine f_ ((p7 rfl rfl).eq (v':=.bool q1) (qn (by rw[h1];exact zc.2 (by show((e.length:Nat):Int)=0↔_;cases e<;>simp<;>omega)))) ?_;refine p9 ?_
   cases q1
   ·have k0:e.map LM.t≠[]:=zq h1.symm;rw[zk k0];refine u7 ?_;obtain⟨q2,h2⟩:=o7 (decide (32<m.a4N[k].ls.length+e.length));refine E6 ?_;refine r_ (i8 rfl (fun w d=>dH (j:=4) (d.ownN (t:=100) ud).2.2.1 o_ f rfl x8)) ?_;refine O2 ?_;refine f_ ((E1 rfl rfl).eq (v':=.bool q2) (qn ((qz).trans h2.symm))) ?_;refine p9 ?_
    cases q2
    case true=>
     rw[zu (qr h2.symm)];refine C8 ?_;refine C_ m {B9 with val:=m.a4N[k].val} M9 rfl rfl u (fun w d=>?_) rfl qx (fun b g=>Mn.le u.heap (S b g)) (L9.nil _ _ _ rfl rfl);exact d.drop.perm (((K_ f).symm.append_right R).append_left [_,_,_,_])
    rw[zk (zq h2.symm)];obtain⟨q3,h3⟩:=o7 (decide (eG+1<m.a4N[k].next+e.length));obtain⟨q4,h4⟩:=o7 (decide (D9<=m.a4N[k].high));refine u7 ?_;refine y6 [(0,m6 b),(6,.slice T e.length X),(10,de m k),(81,.bool (q3||q4))] (N9 T e X::R9 b m r q (Qo m.a4N[k].val []) M9::T0 m.sa m.a4P m.sc::P5 m.ha m.a4O m.hc::S_ m.ba m.a4N m.bc::N9 m.a4N[k].a m.a4N[k].ls m.a4N[k].c::(V5 (m.a4N.eraseIdx k)++R)) ?_ ?_
    ·cases q3
     all_goals (
      refine E6 ?_;refine r_ (i8 rfl (fun w d=>dH (j:=2) (d.ownN (t:=100) ud).2.2.1 o_ f rfl x8)) ?_;refine O2 ?_;refine f_ ((E1 rfl rfl).eq (qn ((zc.2 (by show(4294967296:Int)<_↔4294967296<_;omega)).trans h3.symm))) ?_;refine O2 ?_;(first|refine u_ ?_|(refine v_ ?_;refine r_ (i8 rfl (fun w d=>dH (j:=3) (d.ownN (t:=100) ud).2.2.1 o_ f rfl x8)) ?_));(first|refine u_ ?_|(refine v_ ?_;refine f_ ((I3 rfl rfl).eq (qn ((zc.2 (by show(9223372036854775807:Int)<=_↔9223372036854775807<=_;omega)).trans h4.symm))) ?_));refine z_ ?_)
     all_goals exact u6 sub i_
    refine O1 ?_ ?_<;>intro h9
    ·have kk:eG+1<m.a4N[k].next+e.length\/D9<=m.a4N[k].high:=by
      rw[Zk] at h9;rcases h9 with k|k
      ·exact .inl (qr (h3.symm.trans k))
      ·exact .inr (qr (h4.symm.trans k))
     rw[zu kk];refine C8 ?_;refine C_ m {B9 with val:=m.a4N[k].val} M9 rfl rfl u (fun w d=>?_) rfl qx (fun b g=>Mn.le u.heap (S b g)) (L9.nil _ _ _ rfl rfl);exact d.drop.perm (((K_ f).symm.append_right R).append_left [_,_,_,_])
    rw[Q0] at h9;have kn:¬eG+1<m.a4N[k].next+e.length:=zq (h3.symm.trans h9.1);have kh:¬D9<=m.a4N[k].high:=zq (h4.symm.trans h9.2);rw[zk (fun k=>k.elim kn kh)];have w4:m.a4N[k].next+e.length<=4294967296:=Nat.not_lt.1 kn;have w5:m.a4N[k].high<9223372036854775807:=Wh.1 kh;refine E6 ?_;refine r_ (i8 rfl (fun w d=>dH (j:=3) (d.ownN (t:=100) ud).2.2.1 o_ f rfl x8)) ?_;refine f_ ((H_ rfl rfl qb).eq (v':=.int .u64 ((m.a4N[k].high+1:Nat):Int)) (by congr 1)) ?_;refine z_ ?_;refine A9 (C:=cS) {m.a4N[k] with high:=m.a4N[k].high+1} o_ f (j:=3) rfl ?_;refine E6 ?_;obtain⟨Q,o⟩:∃Q:Nat->List LM->Option Addr->Nat->BM,∀j N a c,Q j N a c=⟨m.a4N[k].name,m.a4N[k].val,m.a4N[k].next+j,m.a4N[k].high+1,m.a4N[k].ls++N,a,c⟩:=⟨_,fun _ _ _ _=>rfl⟩;have q6:∀j N a c,(m.a4N.set k (Q j N a c))[k]? =some (Q j N a c):=fun j N a c=>(by rw[zj (by simpa using f),Q7]);obtain⟨nl,q7⟩:=o7 (eZ m.a4N[k].next (m.a4N[k].high+1) (e.map LM.t));refine O7 27 1 ?_;refine vx (fun j (Fj:l6) (s:CpS)=>j<=e.length/\F1.le Fj/\s.N.length=j/\s.N.map LM.t=nl.take j/\ix s.N Fj.heap) (fun j _ s=>[(0,m6 b),(10,de m k),(105,.slice T e.length X),(106,.int .i64 (e.length:Nat)),(107,.int .i64 (j:Nat))]) (fun _ Fj _=>Fj)
     (fun j _ s=>N9 T e X::.own (.slice s.ua (V8 s.N).length s.uc) 27 1 (nV (V8 s.N))::R9 b m r q (Qo m.a4N[k].val (V8 s.N)) ⟨s.ua,s.uc,none,0⟩::T0 m.sa m.a4P m.sc::P5 m.ha m.a4O m.hc::.own (.slice m.ba m.a4N.length m.bc) 100 5 (eX (m.a4N.set k (Q j s.N s.a s.c)))::N9 s.a (m.a4N[k].ls++s.N) s.c::(V5 (m.a4N.eraseIdx k)++R)) (fun j _ _=>e.length-j) 0 F1 ⟨[],m.a4N[k].a,m.a4N[k].c,none,0⟩ ⟨zw _,l6.le_refl _,rfl,rfl,fun _ h=>by cases h⟩ sub rfl (fun w d=>?_) ?_
    ·rw[o];simp only[z7,Q2];exact d.perm (List.Perm.swap _ _ _)
    rintro j Fj ⟨N,na,nc,ua,uc⟩ ⟨hj,q0,y1,q5,x0⟩;simp only at y1 q5 x0;refine R6 ?_ ?_<;>intro h
    ·have p:j<e.length:=(by have:=qr h;omega);refine B4 (a:=T) (n:=e.length) (c:=X) (sz:=5) (xs:=qC e) (te:=156) ud fun _ _ q9=>?_;have q9:=q9 qb;have u8:n9 Fj.heap e[j].a (fV e[j].t.a5c):=(S _ (zy U) _ (q8 _ (zy p))).le (u.trans q0).heap;have v0:=z2 _ (q8 _ (zy p));refine p9 ?_;refine r_ (w8 rfl (fun w d=>fm (C:=S9) (l:=e) (q:=((j:Nat):Int).toNat*5) (d.ownN (t:=156) (a:=T) ud).2.2.1 A_ qp p x8) (A_ _)) ?_;refine i7 rfl ?_;intro x1;refine p9 ?_;refine D7 [3,7] [9,10,12,14,16] [.own (.slice m.ba m.a4N.length m.bc) 100 5 (eX (m.a4N.set k (Q j N na nc)))] 17 ?_;refine wd [0,1,2] ?_;refine n8 3 rfl P6 (i8 (v:=.int .u64 ((m.a4N[k].next+j:Nat):Int)) rfl (fun w d=>EO (j:=2) (d.ownN (t:=100) ud).2.2.1 o_ (Q j N na nc) (q6 _ _ _ _) (by rw[o];rfl) x8)) I4 rfl rfl rfl i6 ?_;refine wd [4,5,6] ?_;refine n8 7 rfl P6 (i8 (v:=.int .u64 ((m.a4N[k].high+1:Nat):Int)) rfl (fun w d=>EO (j:=3) (d.ownN (t:=100) ud).2.2.1 o_ (Q j N na nc) (q6 _ _ _ _) (by rw[o];rfl) x8)) I4 rfl rfl rfl i6 ?_;refine wd [8] ?_;refine h_ 9 rfl i6 ?_;refine r_ (im rfl ud rfl) ?_;refine gk [11] ?_;refine h_ 10 rfl i6 ?_;refine c_ (X_ e[j].t.a5c e[j].a e[j].c qb) (fun h hh _=>u8.le hh) ?_;rintro v A ⟨fa,fc,rfl,rfl⟩;refine gk [12,13,14,15,16] ?_;obtain⟨Y,hY⟩:∃Y:LM,Y=⟨{e[j].t with uid:=m.a4N[k].next+j,mod:=m.a4N[k].high+1},fa,fc⟩:=⟨_,rfl⟩;refine D6 (H':=A4 fa e[j].t.a5c fc::.blk x1 (.cells (S9 Y).toArray 156)::N9 T e X::.own (.slice ua (V8 N).length uc) 27 1 (nV (V8 N))::R9 b m r q (Qo m.a4N[k].val (V8 N)) ⟨ua,uc,none,0⟩::T0 m.sa m.a4P m.sc::P5 m.ha m.a4O m.hc::.own (.slice m.ba m.a4N.length m.bc) 100 5 (eX (m.a4N.set k (Q j N na nc)))::N9 na (m.a4N[k].ls++N) nc::(V5 (m.a4N.eraseIdx k)++R)) (fun w d=>by rw[hY];exact d) ?_;refine B8 (Z:=[A4 fa e[j].t.a5c fc]) tk fun F3 h0 ⟨bs,g⟩=>?_;have v1:n9 F3.heap Y.a (fV Y.t.a5c):=(by rw[hY];exact A1.rd g ud);clear g;have w7:Y.t.uid=m.a4N[k].next+j:=(by rw[hY]);refine u7 ?_;refine D7 [4,5] [6,7,10] [.own (.slice m.ba m.a4N.length m.bc) 100 5 (eX (m.a4N.set k (Q j N na nc))),.blk x1 (.cells (S9 Y).toArray 156)] 11 ?_;refine wd [0,1,2,3] ?_;refine n8 4 rfl P6 (i8 (v:=.slice na (m.a4N[k].ls++N).length nc) rfl (fun w d=>EO (j:=4) (d.ownN (t:=100) ud).2.2.1 o_ (Q j N na nc) (q6 _ _ _ _) (by rw[o];rfl) x8)) I4 rfl rfl rfl i6 ?_;refine wd [5] ?_;refine h_ 6 rfl i6 ?_;refine C4 S9 Y rfl ?_;intro v6 _;refine Y5 ?_;refine h_ 7 rfl i6 ?_;refine r8 S9 (l:=m.a4N[k].ls++N) (m:=[Y]) A_ mX (by show((m.a4N[k].ls++N).length+1)*64<=_;rw[zz];omega) ?_ rfl rfl (fun _ _=>uh) (fun w d=>(d.ownN (t:=156) ud).2.2.1) (by show(m.a4N[k].ls++N).length+1<=9223372036854775807;rw[zz];omega);intro uV O _;rw[zh];refine E5 [8,9] ?_;refine h_ 10 rfl i6 ?_;refine A9 (C:=cS) (v:=.slice uV (m.a4N[k].ls++(N++[Y])).length O) (l:=m.a4N.set k (Q j N na nc)) (i:=k) ⟨m.a4N[k].name,m.a4N[k].val,m.a4N[k].next+j,m.a4N[k].high+1,m.a4N[k].ls++(N++[Y]),uV,O⟩ o_ (by simpa using f) (j:=4) (by rw[Q7,o];rfl) ?_;refine E5 [] ?_;rw[Jq,<-o];refine u7 ?_
     refine D7 [5,7] [8,9,13] [.blk x1 (.cells (S9 Y).toArray 156),R9 b m r q (Qo m.a4N[k].val (V8 N)) ⟨ua,uc,none,0⟩] 14 ?_;refine wd [0,1,2,3,4,5,6,7] ?_;refine h_ 8 rfl i6 ?_;refine x5 (ps:=[(0,.tmp 142)]) (vs:=[(0,.int .u64 (Y.t.uid:Nat))]) (xs:=nV [Y.t.uid]) rfl rfl rfl rfl rfl rfl rfl rfl ?_;intro v7 _;refine Y5 ?_;refine h_ 9 rfl i6 ?_;refine B_ (news:=nV [Y.t.uid]) (m:=1) rfl rfl (fun a' c'=>uh) (fun w d=>(d.ownN (t:=27) ud).2.2.1) rfl rfl rfl (io _) (by show((V8 N).length+1)*8<=_;rw[sw];omega) (by show(V8 N).length+1<=9223372036854775807;rw[sw];omega) rfl ?_;intro y2 y3 _;refine E5 [10,11,12,13] ?_;refine E6 ?_;refine r_ (i8 (v:=.int .u64 ((m.a4N[k].next+j:Nat):Int)) rfl (fun w d=>EO (j:=2) (d.ownN (t:=100) ud).2.2.1 o_ (Q j (N++[Y]) uV O) (q6 _ _ _ _) (by rw[o];rfl) x8)) ?_;refine f_ ((H_ rfl rfl qb).eq (v':=.int .u64 ((m.a4N[k].next+(j+1):Nat):Int)) (by congr 1)) ?_;refine z_ ?_;refine A9 (C:=cS) (v:=.int .u64 ((m.a4N[k].next+(j+1):Nat):Int)) (l:=m.a4N.set k (Q j (N++[Y]) uV O)) (i:=k) ⟨m.a4N[k].name,m.a4N[k].val,m.a4N[k].next+(j+1),m.a4N[k].high+1,m.a4N[k].ls++(N++[Y]),uV,O⟩ o_ (by simpa using f) (j:=2) (by rw[Q7,o];rfl) ?_;refine u7 ?_;rw[Jq,<-o];refine z_ ?_;refine O_ (i:=(j,Fj,(⟨N,na,nc,ua,uc⟩:CpS))) (j+1,F3,⟨N++[Y],uV,O,y2,y3⟩) ⟨p,q0.trans h0,by simp[y1],?_,fun x hx=>?_⟩ qg sub rfl (fun w d=>?_)
     ·simp only;rw[jh,q5,q7,Eb (by simpa using p),hY];simp
     ·rcases zp.1 hx with h6|h6
      ·exact(x0 x h6).le h0.heap
      ·obtain rfl:=zg.1 h6;exact v1
     ·have e1:(V8 (N++[Y])).length=(V8 N).length+1:=(by rw[sv,zz];rfl);simp only;rw[HT _ _ _ _ _ _ _ _ _ e1,e1,sv,ay];exact d.drop.drop.drop
    ·have p:j=e.length:=(by have:=zq h;omega);have v2:nl.take j=nl:=kr (by rw[q7,pP,zm];omega);rw[v2] at q5;have v3:V8 N=nl.map LT.uid:=(by rw[<-q5,Jp];rfl);refine u7 ?_;refine B8 (Z:=[.own (.slice ua (V8 N).length uc) 27 1 (nV (V8 N))]) tk fun F3 h0 ⟨bs,g⟩=>?_;have v4:n9 F3.heap ua (nV (V8 N)):=A1.rd g ud;clear g;refine C8 ?_;refine C_ {m with a4N:=m.a4N.set k (Q j N na nc)} (Qo m.a4N[k].val (V8 N)) ⟨ua,uc,none,0⟩ rfl rfl ((u.trans q0).trans h0) (fun w d=>?_) ?_ (fun _=>by rw[v3,q7]) (fun x hx=>?_) ⟨v4,n9.nil _ _⟩
     ·rw[uk];show Hp F3 w (_::T0 m.sa m.a4P m.sc::P5 m.ha m.a4O m.hc::S_ m.ba (m.a4N.set k (Q j N na nc)) m.bc::(V5 (m.a4N.set k (Q j N na nc))++R));rw[nx];exact ul (Q j N na nc) f (by rw[o]) (by rw[o]) (by rw[o]) d.drop
     ·show({m.s with a4N:=_}:ML)=_;unfold jo;rw[aN,o];simp only[BM.x,jh,q5,q7,p]
     ·rcases jd hx with h5|rfl
      ·exact Mn.le ((u.trans q0).trans h0).heap (S x h5)
      ·rw[o];intro y hy;rcases zp.1 hy with h6|h6
       ·exact(S _ (zy f) y h6).le ((u.trans q0).trans h0).heap
       ·exact(x0 y h6).le h0.heap
   ·rw[zu (qr h1.symm)];refine C8 ?_;refine C_ m {B9 with val:=m.a4N[k].val} M9 rfl rfl u (fun w d=>?_) rfl (fun _=>rfl) (fun b g=>Mn.le u.heap (S b g)) (L9.nil _ _ _ rfl rfl);exact d.drop.perm (((K_ f).symm.append_right R).append_left [_,_,_,_])
abbrev NJ:=List LT×List Nat×List Nat×Bool
def bd(a q:NJ):NJ:=(a.1++q.1,a.2.1++q.2.1,a.2.2.1++q.2.2.1,a.2.2.2||q.2.2.2)
theorem Ed{r:RQ}{b:BX}{x:LT}{t:List LT}{a:NJ}(h:X0 r b x=false):(I1 r b (x::t)).map (bd a)=(I1 r b t).map (bd (a.1++[x],a.2)):=by
 rw[I1,zu h,Jm];congr 1;funext q;simp[bd]
theorem wD{r:RQ}{b:BX}{x:LT}{t:List LT}{a:NJ}(h:¬X0 r b x=false)(c:r.hasS=true/\r.a4W<x.mod):(I1 r b (x::t)).map (bd a)=(I1 r b t).map (bd (a.1++[x],a.2.1,a.2.2.1++[x.uid],a.2.2.2)):=by
 rw[I1,zk h,zu c,Jm];congr 1;funext q;simp[bd]
theorem yQ{r:RQ}{b:BX}{x:LT}{t:List LT}{a:NJ}(h:¬X0 r b x=false)(c:¬(r.hasS=true/\r.a4W<x.mod))(d:(F8 x.a5c r.how r.a5c).2≠0):(I1 r b (x::t)).map (bd a)=none:=by
 rw[I1,zk h,zk c,zu d];rfl
theorem yR{r:RQ}{b:BX}{x:LT}{t:List LT}{a:NJ}(h:¬X0 r b x=false)(c:¬(r.hasS=true/\r.a4W<x.mod))(d:¬(F8 x.a5c r.how r.a5c).2≠0)(e:(F8 x.a5c r.how r.a5c).1=x.a5c):(I1 r b (x::t)).map (bd a)=(I1 r b t).map (bd (a.1++[x],a.2.1++[x.uid],a.2.2)):=by
 rw[I1,zk h,zk c,zk d,Jm];congr 1;funext q;simp[bd,e]
theorem Ee{r:RQ}{b:BX}{x:LT}{t:List LT}{a:NJ}(h:¬X0 r b x=false)(c:¬(r.hasS=true/\r.a4W<x.mod))(d:¬(F8 x.a5c r.how r.a5c).2≠0)(e:¬(F8 x.a5c r.how r.a5c).1=x.a5c):(I1 r b (x::t)).map (bd a)=(I1 r b t).map (bd (a.1++[{x with a5c:=(F8 x.a5c r.how r.a5c).1,mod:=b.high+1}],a.2.1++[x.uid],a.2.2.1,true)):=by
 rw[I1,zk h,zk c,zk d,Jm];congr 1;funext q;simp[bd,e]
theorem MB(l:List Bs)(how:Int)(m:List Bs):(F8 l how m).1.length<=16:=by
 unfold F8;split
 ·simp
 ·have a:∀o:List Bs,(if 16<o.length then(([]:List Bs),(7:Int)) else(o,0)).1.length<=16:=fun o=>by split<;>simp<;>omega
  exact a _
theorem wE{m:MM}{i:Nat}(h:i<m.a4N.length):m.a4N.getD i FQ=m.a4N[i]:=by
 rw[zb,zj h];rfl
def lw(m:MM)(i:Nat)(o:Option NJ):AR:=match o with
 |none=>(m.s,B9,7)
 |some q=>if q.2.2.2=false then(m.s,{B9 with a4T:=q.2.1,mods:=q.2.2.1},0) else if D9<=(m.a4N.getD i FQ).high then(m.s,B9,13) else(jo m.s i {(m.a4N.getD i FQ).x with lts:=q.1,high:=(m.a4N.getD i FQ).high+1},{B9 with a4T:=q.2.1,mods:=q.2.2.1},0)
structure Sz where
 N:List LM
 U:List Nat
 M:List Nat
 ch:Bool
 ua:Option Addr
 uc:Nat
 ma:Option Addr
 mc:Nat
abbrev fe(u mo:List Nat):OC:={B9 with a4T:=u,mods:=mo}
theorem NK(b:Nat)(m:MM)(r:RQ)(q:QL)(u a:List Nat)(ua c:Option Addr)(uc d n k:Nat)(h:u.length=n)(e:a.length=k):R9 b m r q (fe u a) ⟨ua,uc,c,d⟩=.blk b (.cells (iy m++cQ r q++([.int .i64 0,.int .u64 ((0:Nat):Int),.int .u64 ((0:Nat):Int),.slice ua n uc,.slice c k d]:List Value)).toArray 136):=by subst h e;rfl
theorem yS{F:l6}{w:World}{k x y z:As}{l:List BM}{i:Nat}{R:List As}{ls:List LM}(a:i<l.length)(b:ls=l[i].ls)(h:Hp F w (k::x::y::z::N9 l[i].a ls l[i].c::(V5 (l.eraseIdx i)++R))):Hp F w (k::x::y::z::(V5 l++R)):=by
 subst b;exact h.perm (((K_ a).symm.append_right R).append_left [k,x,y,z])
theorem SA{m:MM}{r:RQ}{q:QL}{o:OC}{y:OL}{b:Bool}(h:b=r.hasS):(Ny m r q o y)[18]? =some (.bool b):=by subst h;rfl
theorem HV(b:Nat)(m:MM)(r:RQ)(q:QL)(hm:m.a4N.length<=1000)(w1:∀x∈m.a4N,x.ls.length<=1000/\x.high<=D9/\∀y∈x.ls,y.t.a5c.length<=1000/\∀f∈y.t.a5c,f.length<=lh)(hu:r.a4T.length<=1000000)(b2:r.a5c.length<=100000)(v0:∀f∈r.a5c,f.length<=lh):Hq 62 b m r q (du m.s r):=by
 refine x7 163 func62 rfl rfl rfl ?_;rintro F R ⟨k0,y1⟩;refine p9 ?_
 cases hn:named m.s r with
 |none=>
  have es:du m.s r=(m.s,B9,6):=by unfold du;rw[hn]
  rw[es];refine p9 ?_;refine e_ rfl (dV b m r q B9 M9 hm) (fun h hh e=>⟨I9 e,by obtain⟨bs,e⟩:=e;exact A1.rd e ud⟩) rfl ?_;rw[hn,show fQ m none=.tuple #[.pointer none,.bool false] from rfl];refine Nq ?_;exact C_ m B9 M9 rfl rfl (l6.le_refl _) i_ rfl qx k0 (L9.zero _)
 |some i=>
  have o:=pH hn;obtain⟨v1,w2,v2⟩:=w1 _ (zy o);refine p9 ?_;refine e_ rfl (dV b m r q B9 M9 hm) (fun h hh e=>⟨I9 e,by obtain⟨bs,e⟩:=e;exact A1.rd e ud⟩) rfl ?_;rw[hn,show fQ m (some i)=.tuple #[de m i,.bool true] from rfl];refine wk 7 ?_;obtain⟨q1,h1⟩:=o7 (F9 r.a5c);obtain⟨q2,h2⟩:=o7 (decide (r.how<0));obtain⟨q3,h3⟩:=o7 (decide (2<r.how));refine y6 [(0,m6 b),(3,de m i),(41,.bool (!q1||(q2||q3)))] (R9 b m r q B9 M9::(uE m++R)) ?_ ?_
  ·cases q1<;>cases q2
   all_goals (
    refine aF ?_;refine e_ rfl (gG r.a5c q.fa q.fc qb v0) (fun h hh _=>y1.a5c.le hh) rfl ?_;rw[<-h1];refine wk 7 ?_;(first|refine u_ ?_|(refine v_ ?_;refine f_ ((F5 rfl rfl).eb h2) ?_));refine wk 7 ?_;(first|refine u_ ?_|(refine v_ ?_;refine f_ ((E1 rfl rfl).eb h3) ?_));refine p9 ?_)
   all_goals exact u6 sub i_
  refine O1 ?_ ?_<;>intro h5
  ·have hc:F9 r.a5c=false\/r.how<0\/2<r.how:=by
    rw[<-h1]
    revert h5
    cases q1
    ·exact fun _=>.inl rfl
    cases q2
    ·cases q3
     ·intro h6;simp at h6
     ·exact fun _=>.inr (.inr (qr h3.symm))
    ·exact fun _=>.inr (.inl (qr h2.symm))
   have es:du m.s r=(m.s,B9,1):=(by unfold du;rw[hn];exact zu hc);rw[es];refine C8 ?_;exact C_ m B9 M9 rfl rfl (l6.le_refl _) i_ rfl qx k0 (L9.zero _)
  have hc:¬(F9 r.a5c=false\/r.how<0\/2<r.how):=by
   rw[<-h1];rintro(k|k|k)
   ·rw[k] at h5;simp at h5
   ·rw[h2,jq k] at h5;cases q1<;>simp at h5
   ·rw[h3,jq k] at h5;cases q1<;>cases q2<;>simp at h5
  have es:du m.s r=lw m i (I1 r m.a4N[i].x m.a4N[i].x.lts):=by
   unfold du lw;rw[hn];simp only;rw[zk hc];simp only[eO o,wE o]
   cases I1 r m.a4N[i].x (List.map LM.t m.a4N[i].ls)<;>rfl
  rw[es];clear es;refine u7 ?_;refine D6 (H':=R9 b m r q B9 M9::T0 m.sa m.a4P m.sc::P5 m.ha m.a4O m.hc::S_ m.ba m.a4N m.bc::N9 m.a4N[i].a m.a4N[i].ls m.a4N[i].c::(V5 (m.a4N.eraseIdx i)++R)) (fun w g=>g.perm (((K_ o).append_right R).append_left [_,_,_,_])) ?_;refine B4 (a:=m.ba) (n:=m.a4N.length) (c:=m.bc) (sz:=5) (xs:=eX m.a4N) (te:=100) ud fun _ _ x1=>?_;have x1:=x1 qb;refine E6 ?_;refine r_ (i8 rfl (fun w g=>dH (j:=4) (g.ownN (t:=100) ud).2.2.1 o_ o rfl x8)) ?_;refine c_ (fJ (qC m.a4N[i].ls) m.a4N[i].a m.a4N[i].ls.length m.a4N[i].c (Ai _) (Aj _) qb) ?pre ?_;(case pre=>exact fun h hh ⟨bs,e⟩=>A1.rd e ud);rintro v A ⟨na,nc,rfl,rfl⟩;refine O2 ?_;refine c_ (pJ b m i o v1) ?pre ?_;(case pre=>exact fun h hh ⟨bs,e⟩=>⟨A1.rd e ud,A1.rd e ud⟩);rintro v A ⟨g2,g3,rfl,rfl⟩;refine p9 ?_;refine B8 (Z:=[.blk g3 (.cells #[.int .u64 (Y1 m.a4N[i].ls:Nat)] 27),.blk g2 (.cells #[m6 b] 132)]) tk fun F1 q0 e=>?_;have p3:aH g3 (.int .u64 (Y1 m.a4N[i].ls:Nat)) 27 F1.heap:=I9 e;have p2:aH g2 (m6 b) 132 F1.heap:=I9 e;clear e;refine E6 ?_;refine r_ (i8 rfl (fun w g=>dH (j:=4) (g.ownN (t:=100) ud).2.2.1 o_ o rfl x8)) ?_;refine z_ ?_;refine B4 (a:=m.a4N[i].a) (n:=m.a4N[i].ls.length) (c:=m.a4N[i].c) (sz:=5) (xs:=qC m.a4N[i].ls) (te:=156) ud fun _ _ y2=>?_;refine O7 27 1 ?_;refine O7 27 1 ?_;obtain⟨d,Q⟩:=o7 (m.a4N[i].ls);rw[<-Q] at v1 v2 y2 p3⊢;obtain⟨X,hX⟩:=o7 (m.a4N[i].x);have w3:X.lts=d.map LM.t:=by rw[hX,Q]
  have y3:Y1 d=vp X:=by rw[hX,pI,<-Q]
  rw[<-hX,w3];obtain⟨SL,v3⟩:=o7 (I1 r X (d.map LM.t));rw[<-v3];refine vx (fun j (Fj:l6) (s:Sz)=>j<=d.length/\F1.le Fj/\s.N.length=d.length/\ix s.N Fj.heap/\s.N.drop j=d.drop j/\s.U.length<=j/\s.M.length<=j/\SL=(I1 r X ((d.drop j).map LM.t)).map (bd ((s.N.take j).map LM.t,s.U,s.M,s.ch)))
   (fun j _ s=>[(0,m6 b),(3,de m i),(5,.slice na d.length nc),(6,.bool s.ch),(7,iE g2 g3),(53,.slice m.a4N[i].a d.length m.a4N[i].c),(54,.int .i64 (d.length:Nat)),(55,.int .i64 (j:Nat))]) (fun _ Fj _=>Fj)
   (fun j _ s=>.own (.slice s.ua s.U.length s.uc) 27 1 (nV s.U)::.own (.slice s.ma s.M.length s.mc) 27 1 (nV s.M)::.own (.slice na d.length nc) 156 5 (qC s.N)::R9 b m r q (fe s.U s.M) ⟨s.ua,s.uc,s.ma,s.mc⟩::T0 m.sa m.a4P m.sc::P5 m.ha m.a4O m.hc::S_ m.ba m.a4N m.bc::N9 m.a4N[i].a d m.a4N[i].c::(V5 (m.a4N.eraseIdx i)++R)) (fun j _ _=>d.length-j) 0 F1 ⟨d,[],[],false,none,0,none,0⟩ ⟨zw _,l6.le_refl _,rfl,by rw[Q];exact Mn.le q0.heap (k0 _ (zy o)),rfl,zw _,zw _,?_⟩ sub rfl i_ ?_
  ·rw[v3];show _=(I1 r X (d.map LM.t)).map (bd ([],[],[],false))
   cases I1 r X (d.map LM.t)<;>simp[bd]
  rintro j Fj ⟨N,U,M,ch,ua,uc,J,O⟩ ⟨hj,S,q7,k8,z0,z2,x2,D⟩;simp only at q7 k8 z0 z2 x2 D;refine R6 ?_ ?_<;>intro h
  ·have T:j<d.length:=(by have:=qr h;omega);have q8:j<N.length:=(by omega);have u0:N[j]=d[j]:=by
    have h1:=jk (fun z=>z[0]?) z0;simp only[Zz,Q2] at h1;rw[zj q8,zj T] at h1;exact j7 h1
   have k9:N.drop (j+1)=d.drop (j+1):=by
    have:=jk (List.drop 1) z0;simpa[Km,Wx] using this
   have w4:(d.drop j).map LM.t=d[j].t::(d.drop (j+1)).map LM.t:=(by rw[Qu T];rfl);have u1:(N.take (j+1)).map LM.t=(N.take j).map LM.t++[d[j].t]:=(by rw[kj q8,u0,jh];rfl);rw[w4] at D;have y2:=y2 qb;have w5:gM r.a4T (Y1 d) d[j].t.uid=X0 r X d[j].t:=(by unfold X0;rw[y3]);obtain⟨b0,v4⟩:=v2 _ (zy T);have v5:n9 Fj.heap d[j].a (fV d[j].t.a5c):=by
    have:=k8 N[j] (zy q8)
    rwa [u0] at this
   refine z_ ?_;refine r_ (w8 rfl (fun w g=>fm (C:=S9) (l:=d) (q:=((j:Nat):Int).toNat*5) (g.ownN (t:=156) (a:=m.a4N[i].a) ud).2.2.1 A_ qp T x8) (A_ _)) ?_;refine i7 rfl ?_;intro g9;refine O2 ?_;refine y9 (ps:=[]) _ rfl rfl rfl (lk b g2 g3 (Y1 d) m r q (fe U M) ⟨ua,uc,J,O⟩ hu d[j]) i_ (fun h hh e=>⟨hh _ _ (S.heap _ _ p2),hh _ _ (S.heap _ _ p3),I9 e,(y1.a4T.le (q0.trans S).heap).le hh⟩) rfl ?_;rintro v A ⟨rfl,rfl⟩;rw[w5];refine bt ?_ ?_<;>intro h2
   ·have q9:X0 r X d[j].t=false:=(by simpa using h2);rw[Ed q9] at D;refine z_ ?_;refine O_ (i:=(j,Fj,(⟨N,U,M,ch,ua,uc,J,O⟩:Sz))) (j+1,Fj,⟨N,U,M,ch,ua,uc,J,O⟩) ⟨T,S,q7,k8,k9,K3 z2,K3 x2,?_⟩ qg sub rfl (fun w g=>g.drop);simp only;rw[D,u1]
   have q9:¬X0 r X d[j].t=false:=(by simpa using h2);obtain⟨q5,h5⟩:=o7 (r.hasS);obtain⟨q6,h6⟩:=o7 (decide (r.a4W<d[j].t.mod));refine u7 ?_;refine y6 [(0,m6 b),(3,de m i),(5,.slice na d.length nc),(6,.bool ch),(7,iE g2 g3),(8,.int .i64 (j:Nat)),(9,m6 g9),(53,.slice m.a4N[i].a d.length m.a4N[i].c),(54,.int .i64 (d.length:Nat)),(55,.int .i64 (j:Nat)),(65,.bool (q5&&q6))]
    (.blk g9 (.cells (S9 d[j]).toArray 156)::.own (.slice ua U.length uc) 27 1 (nV U)::.own (.slice J M.length O) 27 1 (nV M)::.own (.slice na d.length nc) 156 5 (qC N)::R9 b m r q (fe U M) ⟨ua,uc,J,O⟩::T0 m.sa m.a4P m.sc::P5 m.ha m.a4O m.hc::S_ m.ba m.a4N m.bc::N9 m.a4N[i].a d m.a4N[i].c::(V5 (m.a4N.eraseIdx i)++R)) ?_ ?_
   ·cases q5
    all_goals (
     refine u7 ?_;refine D7 [4,7,12] [] [R9 b m r q (fe U M) ⟨ua,uc,J,O⟩,.blk g9 (.cells (S9 d[j]).toArray 156)] 16 ?_;refine wd [0,1,2,3] ?_;refine n8 4 rfl P6 (im rfl .del (SA h5)) I4 rfl rfl rfl i6 ?_;refine wd [5,6,7,8,9,10,11,12] ?_;(first|refine s_ 13 ?_|refine t_ 13 ?_|refine E0 13 rfl ((E1 rfl rfl).eq (qn ((qz).trans h6.symm))) rfl rfl rfl rfl rfl rfl i6 ?_);refine wd [14,15] ?_)
    all_goals exact u6 sub i_
   refine O1 ?_ ?_<;>intro h7
   ·rw[kw] at h7;rw[wD q9 ⟨h5.symm.trans h7.1,qr (h6.symm.trans h7.2)⟩] at D;refine u7 ?_;refine D7 [5,7] [8,9,13] [.blk g9 (.cells (S9 d[j]).toArray 156),R9 b m r q (fe U M) ⟨ua,uc,J,O⟩] 14 ?_;refine wd [0,1,2,3,4,5,6,7] ?_;refine h_ 8 rfl i6 ?_;refine x5 (ps:=[(0,.tmp 88)]) (vs:=[(0,.int .u64 (d[j].t.uid:Nat))]) (xs:=nV [d[j].t.uid]) rfl rfl rfl rfl rfl rfl rfl rfl ?_;intro b3 _;refine Y5 ?_;refine h_ 9 rfl i6 ?_;refine B_ (news:=nV [d[j].t.uid]) (m:=1) rfl rfl (fun a' c'=>uh) (fun w g=>(g.ownN (t:=27) ud).2.2.1) rfl rfl rfl (io _) (by show(M.length+1)*8<=_;omega) (by show M.length+1<=9223372036854775807;omega) rfl ?_;intro w7 w9 _;refine E5 [10,11,12,13] ?_;refine z_ ?_;refine O_ (i:=(j,Fj,(⟨N,U,M,ch,ua,uc,J,O⟩:Sz))) (j+1,Fj,⟨N,U,M++[d[j].t.uid],ch,ua,uc,w7,w9⟩) ⟨T,S,q7,k8,k9,K3 z2,by simp;omega,?_⟩ qg sub rfl (fun w g=>?_)
    ·simp only;rw[D,u1]
    ·have e1:(M++[d[j].t.uid]).length=M.length+1:=(by rw[zz];rfl);simp only;rw[NK _ _ _ _ _ _ _ _ _ _ _ _ rfl e1,e1,ay];exact g.drop.drop
   have u2:¬(r.hasS=true/\r.a4W<d[j].t.mod):=by
    rintro⟨k1,k2⟩;rw[h5,h6,k1,jq k2] at h7;simp at h7
   refine u7 ?_;refine D7 [5,7] [8,9,13] [.blk g9 (.cells (S9 d[j]).toArray 156),R9 b m r q (fe U M) ⟨ua,uc,J,O⟩] 14 ?_;refine wd [0,1,2,3,4,5,6,7] ?_;refine h_ 8 rfl i6 ?_;refine x5 (ps:=[(0,.tmp 101)]) (vs:=[(0,.int .u64 (d[j].t.uid:Nat))]) (xs:=nV [d[j].t.uid]) rfl rfl rfl rfl rfl rfl rfl rfl ?_;intro Oe _;refine Y5 ?_;refine h_ 9 rfl i6 ?_;refine B_ (news:=nV [d[j].t.uid]) (m:=1) rfl rfl (fun a' c'=>uh) (fun w g=>(g.ownN (t:=27) ud).2.2.1) rfl rfl rfl (io _) (by show(U.length+1)*8<=_;omega) (by show U.length+1<=9223372036854775807;omega) rfl ?_;intro p u _;refine E5 [10,11,12,13] ?_;have e1:(U++[d[j].t.uid]).length=U.length+1:=(by rw[zz];rfl);refine D6 (H':=.blk g9 (.cells (S9 d[j]).toArray 156)::.own (.slice p (U++[d[j].t.uid]).length u) 27 1 (nV (U++[d[j].t.uid]))::.own (.slice J M.length O) 27 1 (nV M)::.own (.slice na d.length nc) 156 5 (qC N)::R9 b m r q (fe (U++[d[j].t.uid]) M) ⟨p,u,J,O⟩::T0 m.sa m.a4P m.sc::P5 m.ha m.a4O m.hc::S_ m.ba m.a4N m.bc::N9 m.a4N[i].a d m.a4N[i].c::(V5 (m.a4N.eraseIdx i)++R)) (fun w g=>?_) ?_
   ·rw[NK _ _ _ _ _ _ _ _ _ _ _ _ e1 rfl,e1,ay];exact g.drop
   obtain⟨Y,hY⟩:=o7 (F8 d[j].t.a5c r.how r.a5c);refine u7 ?_;refine D7 [1,6,11] [12] [.blk g9 (.cells (S9 d[j]).toArray 156),R9 b m r q (fe (U++[d[j].t.uid]) M) ⟨p,u,J,O⟩] 18 ?_;refine wd [0,1,2,3,4,5,6,7,8,9,10,11] ?_;refine h_ 12 rfl i6 ?_;refine c_ (DZ d[j].t.a5c r.a5c r.how d[j].a q.fa d[j].c q.fc qb qb v4 v0) (fun h hh _=>⟨v5.le hh,(y1.a5c.le (q0.trans S).heap).le hh⟩) ?_;rw[<-hY];rintro v A ⟨ya,yc,rfl,rfl⟩;refine E5 [13,14,15,16,17] ?_;refine bt ?_ ?_<;>intro h8
   ·have x3:(F8 d[j].t.a5c r.how r.a5c).2≠0:=(by rw[<-hY];simpa using h8);rw[yQ q9 u2 x3] at D;rw[D,show lw m i none=(m.s,B9,7) from rfl];refine C8 ?_;refine At.weaken (L':=[(2,.int .i64 7)]) (H':=(R9 b m r q (fe (U++[d[j].t.uid]) M) ⟨p,u,J,O⟩::T0 m.sa m.a4P m.sc::P5 m.ha m.a4O m.hc::S_ m.ba m.a4N m.bc::N9 m.a4N[i].a d m.a4N[i].c::(V5 (m.a4N.eraseIdx i)++R))++[.own (.slice p (U++[d[j].t.uid]).length u) 27 1 (nV (U++[d[j].t.uid])),.own (.slice J M.length O) 27 1 (nV M)]) ?_ sub (fun w g=>?_)
    ·refine dD fun F3 h0 ⟨bs,e⟩=>?_;exact C_ m (fe (U++[d[j].t.uid]) M) ⟨p,u,J,O⟩ rfl rfl ((q0.trans S).trans h0) (fun w g=>yS o Q g) rfl qx (fun b e=>Mn.le ((q0.trans S).trans h0).heap (k0 b e)) ⟨A1.rd e ud,A1.rd e ud⟩
    ·have h9:=g.drop.drop;have x9:=h9.perm (kz (l₁:=[_,_]) (l₂:=_::R9 b m r q (fe (U++[d[j].t.uid]) M) ⟨p,u,J,O⟩::T0 m.sa m.a4P m.sc::P5 m.ha m.a4O m.hc::S_ m.ba m.a4N m.bc::N9 m.a4N[i].a d m.a4N[i].c::(V5 (m.a4N.eraseIdx i)++R)));exact x9.drop
   have x3:¬(F8 d[j].t.a5c r.how r.a5c).2≠0:=(by rw[<-hY];simpa using h8);refine u7 ?_;refine B4 (a:=na) (n:=d.length) (c:=nc) (sz:=5) (xs:=qC N) (te:=156) ud fun _ _ v6=>?_;have v6:=v6 qb;have b1:m.a4N[i].high<=9223372036854775807:=w2;refine E6 ?_;refine e_ rfl (Hu Y.1 d[j].t.a5c ya d[j].a yc d[j].c (by rw[hY];exact jg (MB _ _ _) qb)) (fun h hh ⟨bs,e⟩=>⟨A1.rd e ud,v5.le hh⟩) rfl ?_;refine R6 ?_ ?_<;>intro x9
   ·have a0:¬(F8 d[j].t.a5c r.how r.a5c).1=d[j].t.a5c:=(by rw[<-hY];simpa using x9);rw[Ee q9 u2 x3 a0] at D;refine wk 9 ?_;refine r_ (i8 rfl (fun w g=>dH (j:=3) (g.ownN (t:=100) ud).2.2.1 o_ o rfl x8)) ?_;refine f_ ((H_ rfl rfl qb).eq (v':=.int .u64 ((m.a4N[i].high+1:Nat):Int)) (by congr 1)) ?_;refine z_ ?_;refine A9 (C:=S9) (v:=.slice ya Y.1.length yc) (l:=N) (i:=j) ⟨{d[j].t with a5c:=Y.1},ya,yc⟩ A_ q8 (j:=1) (by rw[u0];rfl) ?_;refine z_ ?_;refine A9 (C:=S9) (v:=.int .u64 ((m.a4N[i].high+1:Nat):Int)) (l:=N.set j ⟨{d[j].t with a5c:=Y.1},ya,yc⟩) (i:=j) ⟨{d[j].t with a5c:=Y.1,mod:=m.a4N[i].high+1},ya,yc⟩ A_ (by simpa using q8) (j:=2) (by rw[Q7];rfl) ?_;refine u7 ?_;rw[Jq];refine B8 (Z:=[A4 ya Y.1 yc]) tk fun F3 h0 ⟨bs,e⟩=>?_;have a1:n9 F3.heap ya (fV Y.1):=A1.rd e ud;clear e;refine z_ ?_;refine O_ (i:=(j,Fj,(⟨N,U,M,ch,ua,uc,J,O⟩:Sz))) (j+1,F3,⟨N.set j ⟨{d[j].t with a5c:=Y.1,mod:=m.a4N[i].high+1},ya,yc⟩,U++[d[j].t.uid],M,true,p,u,J,O⟩) ⟨T,S.trans h0,by simpa using q7,fun x hx=>?_,?_,by rw[e1];omega,K3 x2,?_⟩ qg sub rfl (fun w g=>g.drop)
    ·rcases jd hx with h6|rfl
     ·exact(k8 x h6).le h0.heap
     ·exact a1
    ·show(N.set j _).drop (j+1)=_;rw[Kh qb];exact k9
    ·simp only;rw[D,dP q8,jh,hY,hX];rfl
   ·have a2:(F8 d[j].t.a5c r.how r.a5c).1=d[j].t.a5c:=(by rw[<-hY];simpa using x9);rw[yR q9 u2 x3 a2] at D;refine z_ ?_;refine O_ (i:=(j,Fj,(⟨N,U,M,ch,ua,uc,J,O⟩:Sz))) (j+1,Fj,⟨N,U++[d[j].t.uid],M,ch,p,u,J,O⟩) ⟨T,S,q7,k8,k9,by rw[e1];omega,K3 x2,?_⟩ qg sub rfl (fun w g=>g.drop.drop);simp only;rw[D,u1]
  ·have T:j=d.length:=(by have:=zq h;omega);have v7:SL=some (N.map LM.t,U,M,ch):=by
    rw[D,T,J4,kr qb];show(some _).map _=_;simp[bd]
   rw[v7];refine u7 ?_;refine B8 (Z:=[.own (.slice ua U.length uc) 27 1 (nV U),.own (.slice J M.length O) 27 1 (nV M)]) tk fun F3 h0 ⟨bs,e⟩=>?_;have u8:L9 (fe U M) ⟨ua,uc,J,O⟩ F3.heap:=⟨A1.rd e ud,A1.rd e ud⟩;clear e;have x0:=(q0.trans S).trans h0
   cases ch
   ·rw[show lw m i (some (N.map LM.t,U,M,false))=(m.s,fe U M,0) from rfl];refine bM ?_;exact C_ m (fe U M) ⟨ua,uc,J,O⟩ rfl rfl x0 (fun w g=>yS o Q g.drop) rfl (fun _=>rfl) (fun b e=>Mn.le x0.heap (k0 b e)) u8
   ·have v8:lw m i (some (N.map LM.t,U,M,true))=if D9<=m.a4N[i].high then(m.s,B9,13) else(jo m.s i {m.a4N[i].x with lts:=N.map LM.t,high:=m.a4N[i].high+1},fe U M,0):=by
     unfold lw;simp only[wE o];rfl
    rw[v8];clear v8;obtain⟨q4,h4⟩:=o7 (decide (D9<=m.a4N[i].high));refine aF ?_;refine r_ (i8 rfl (fun w g=>dH (j:=3) (g.ownN (t:=100) ud).2.2.1 o_ o rfl x8)) ?_;refine f_ ((I3 rfl rfl).eq (v':=.bool q4) (qn ((zc.2 (by show(9223372036854775807:Int)<=_↔9223372036854775807<=_;omega)).trans h4.symm))) ?_;refine u7 ?_
    cases q4
    case true=>
     rw[zu (qr h4.symm)];refine C8 ?_;exact C_ m (fe U M) ⟨ua,uc,J,O⟩ rfl rfl x0 (fun w g=>yS o Q g.drop) rfl qx (fun b e=>Mn.le x0.heap (k0 b e)) u8
    rw[zk (zq h4.symm)];have b4:m.a4N[i].high<9223372036854775807:=Wh.1 (zq h4.symm);refine u7 ?_;rw[<-q7];refine O2 ?_;refine A9 (C:=cS) (v:=.slice na N.length nc) {m.a4N[i] with ls:=N,a:=na,c:=nc} o_ o (j:=4) rfl ?_;refine u7 ?_;obtain⟨V,v9⟩:∃V:BM,V={m.a4N[i] with ls:=N,a:=na,c:=nc}:=⟨_,rfl⟩;have y0:i<(m.a4N.set i V).length:=(by simpa using o);have w0:(m.a4N.set i V)[i]=V:=Q7 _;have a6:(m.a4N.set i V)[i]? =some V:=(by rw[zj y0,w0]);have f1:V.a=na/\V.ls=N/\V.c=nc/\V.next=m.a4N[i].next/\V.high=m.a4N[i].high/\V.val=m.a4N[i].val/\V.name=m.a4N[i].name:=(by subst v9;exact⟨rfl,rfl,rfl,rfl,rfl,rfl,rfl⟩);rw[<-v9];refine E6 ?_;refine r_ (i8 (v:=.int .u64 (m.a4N[i].high:Nat)) rfl (fun w g=>EO (j:=3) (g.ownN (t:=100) ud).2.2.1 o_ V a6 (by rw[<-f1.2.2.2.2.1];rfl) x8)) ?_;refine f_ ((H_ rfl rfl qb).eq (v':=.int .u64 ((m.a4N[i].high+1:Nat):Int)) (by congr 1)) ?_;refine z_ ?_;refine A9 (C:=cS) (v:=.int .u64 ((m.a4N[i].high+1:Nat):Int)) {V with high:=m.a4N[i].high+1} o_ y0 (j:=3) (by rw[w0];rfl) ?_;refine u7 ?_;rw[Jq];refine C8 ?_;refine C_ {m with a4N:=m.a4N.set i {V with high:=m.a4N[i].high+1}} (fe U M) ⟨ua,uc,J,O⟩ rfl rfl x0 (fun w g=>?_) ?_ (fun _=>rfl) (fun x hx=>?_) u8
    ·rw[uk];show Hp F3 w (_::T0 m.sa m.a4P m.sc::P5 m.ha m.a4O m.hc::S_ m.ba (m.a4N.set i {V with high:=m.a4N[i].high+1}) m.bc::(V5 (m.a4N.set i {V with high:=m.a4N[i].high+1})++R));rw[nx];refine ul {V with high:=m.a4N[i].high+1} o f1.1 f1.2.1 f1.2.2.1 ?_;have a7:=g.perm (kz (l₁:=[N9 na N nc]) (l₂:=[_,_,_,_])|>.append_right _);exact(a7.perm (Zs [_,_,_,_] (List.Perm.swap _ _ _)))|>fun a8=>(a8.perm (Qd (l₁:=[_,_,_,_]))).drop
    ·show({m.s with a4N:=_}:ML)=_;unfold jo;rw[aN];simp only[BM.x,f1.2.1,f1.2.2.2.1,f1.2.2.2.2.2.1,f1.2.2.2.2.2.2]
    ·rcases jd hx with h5|rfl
     ·exact Mn.le x0.heap (k0 x h5)
     ·intro y hy;exact(k8 y (f1.2.1▸hy)).le h0.heap
theorem MC{α:Type}{R:α->α->Prop}{k:List α}(h:k.Pairwise R){a b:α}(ha:a∈k)(g:b∈k)(d:a≠b):R a b\/R b a:=by
 obtain⟨i,e,rfl⟩:=Q9 ha;obtain⟨j,f,rfl⟩:=Q9 g;rw[Zm] at h;rcases Nat.lt_trichotomy i j with c|c|c
 ·exact .inl (h i j e f c)
 ·subst c;exact absurd rfl d
 ·exact .inr (h j i f e c)
theorem sx{α:Type}{f:α->α->Int}{m k:List α}(hc:xv k f)(hp:m.Perm k)(d:fN f m)(c:k.Pairwise fun x y=>f x y<0):m=k:=by
 refine List.Perm.eq_of_pairwise (le:=fun x y=>¬f y x<0) (fun a b ha g i j=>?_) d (c.imp_of_mem fun{x y} l n h=>hc.asym x l y n h) hp;by_cases e:a=b
 ·exact e
 ·rcases MC c (hp.subset ha) g e with h|h
  ·exact absurd h j
  ·exact absurd h i
theorem wF(n:Nat)(a:n<=1000):Pu prog 191 [.int .u64 (n:Nat)] (fun _=>True) (.int .i64 (Lib.bitLen ((n:Nat):Int).toNat)):=U0 fun w _=>Tryz.bits_Len (n:Nat) w qb qb
theorem MD(a b:Bs):Pu prog 112 [B a,B b] (fun _=>True) (.int .i64 (Lib.compareBytes a b)):=U0 fun w _=>Tryz.strings_Compare ⟨a.toArray⟩ ⟨b.toArray⟩ w
theorem Ef(l:List BM)(a:Option Addr)(c:Nat)(f:FuncId)[HF prog f](b:BM->BM->Int)(d:Int)(hc:xv l b)(e:∀x∈l,∀y∈l,Pu prog f [.agg (cS x).toArray,.agg (cS y).toArray] (fun _=>True) (.int .i64 (b x y)))(hl:l.length<=12):Ct prog 190 [.slice a l.length c,.int .i64 0,.int .i64 (l.length:Nat),.int .i64 d,.func (.func f) #[] #[]] (fun _=>True) [S_ a l c] (fun v A=>v=.tuple #[]/\∃m:List BM,m.Perm l/\fN b m/\A=[.own (.slice a l.length c) 100 5 (eX m)]):=by
 refine b_ 148 func190 rfl rfl rfl ?_;intro F _;refine z_ ?_;refine o9 (ι:=Unit) (fun _=>True) (fun _=>[(0,.slice a l.length c),(1,.int .i64 0),(2,.int .i64 (l.length:Nat)),(4,.func (.func f) #[] #[])]) (fun _=>[S_ a l c]) (fun _=>0) () trivial sub i_ ?_;rintro _ _;refine z_ ?_;refine f_ ((D_ rfl rfl qb).eq (v':=.int .i64 (l.length:Nat)) (by congr 1)) ?_;refine z_ ?_;refine f_ ((G1 rfl rfl).eq (v':=.bool true) (qn qk)) ?_;refine O2 ?_;refine c_ (Dj l a c f b hc e qb) qw ?_;rintro v A ⟨rfl,m,g,i,rfl⟩;refine oe ?_;exact l_ rfl _ ⟨rfl,m,g,i,rfl⟩ (fun _ h=>h)
theorem yT(l:List BM)(a:Option Addr)(c:Nat)(f:FuncId)[HF prog f](b:BM->BM->Int)(hc:xv l b)(d:∀x∈l,∀y∈l,Pu prog f [.agg (cS x).toArray,.agg (cS y).toArray] (fun _=>True) (.int .i64 (b x y)))(hl:l.length<=12):Ct prog 110 [.slice a l.length c,.func (.func f) #[] #[]] (fun _=>True) [S_ a l c] (fun v A=>v=.tuple #[]/\∃m:List BM,m.Perm l/\fN b m/\A=[.own (.slice a l.length c) 100 5 (eX m)]):=by
 refine b_ 14 func110 rfl rfl rfl ?_;intro F _;refine cH ?_;refine f_ ((y8 rfl qb)) ?_;refine e_ rfl (wF l.length qb) qw rfl ?_;refine p9 ?_;refine c_ (Ef l a c f b _ hc d hl) qw ?_;rintro v A ⟨rfl,m,e,g,rfl⟩;refine u7 ?_;exact l_ rfl _ ⟨rfl,m,e,g,rfl⟩ (fun _ h=>h)
theorem yU(l:List HO)(a:Option Addr)(c:Nat)(f:FuncId)[HF prog f](b:HO->HO->Int)(d:Int)(hc:xv l b)(e:∀x∈l,∀y∈l,Pu prog f [.agg (gr x).toArray,.agg (gr y).toArray] (fun _=>True) (.int .i64 (b x y)))(hl:l.length<=12):Ct prog 251 [.slice a l.length c,.int .i64 0,.int .i64 (l.length:Nat),.int .i64 d,.func (.func f) #[] #[]] (fun _=>True) [P5 a l c] (fun v A=>v=.tuple #[]/\∃m:List HO,m.Perm l/\fN b m/\A=[.own (.slice a l.length c) 104 3 (JC m)]):=by
 refine b_ 148 func251 rfl rfl rfl ?_;intro F _;refine z_ ?_;refine o9 (ι:=Unit) (fun _=>True) (fun _=>[(0,.slice a l.length c),(1,.int .i64 0),(2,.int .i64 (l.length:Nat)),(4,.func (.func f) #[] #[])]) (fun _=>[P5 a l c]) (fun _=>0) () trivial sub i_ ?_;rintro _ _;refine z_ ?_;refine f_ ((D_ rfl rfl qb).eq (v':=.int .i64 (l.length:Nat)) (by congr 1)) ?_;refine z_ ?_;refine f_ ((G1 rfl rfl).eq (v':=.bool true) (qn qk)) ?_;refine O2 ?_;refine c_ (yn l a c f b hc e qb) qw ?_;rintro v A ⟨rfl,m,g,i,rfl⟩;refine oe ?_;exact l_ rfl _ ⟨rfl,m,g,i,rfl⟩ (fun _ h=>h)
theorem wG(l:List HO)(a:Option Addr)(c:Nat)(f:FuncId)[HF prog f](b:HO->HO->Int)(hc:xv l b)(d:∀x∈l,∀y∈l,Pu prog f [.agg (gr x).toArray,.agg (gr y).toArray] (fun _=>True) (.int .i64 (b x y)))(hl:l.length<=12):Ct prog 185 [.slice a l.length c,.func (.func f) #[] #[]] (fun _=>True) [P5 a l c] (fun v A=>v=.tuple #[]/\∃m:List HO,m.Perm l/\fN b m/\A=[.own (.slice a l.length c) 104 3 (JC m)]):=by
 refine b_ 14 func185 rfl rfl rfl ?_;intro F _;refine cH ?_;refine f_ ((y8 rfl qb)) ?_;refine e_ rfl (wF l.length qb) qw rfl ?_;refine p9 ?_;refine c_ (yU l a c f b _ hc d hl) qw ?_;rintro v A ⟨rfl,m,e,g,rfl⟩;refine u7 ?_;exact l_ rfl _ ⟨rfl,m,e,g,rfl⟩ (fun _ h=>h)
theorem yV(x y:BM):Pu prog 111 [.agg (cS x).toArray,.agg (cS y).toArray] (fun _=>True) (.int .i64 (Lib.compareBytes x.name y.name)):=by
 refine b_ 10 func111 rfl rfl rfl ?_;intro F _;refine C6 ?_;refine m9 rfl rfl ?_;intro b;refine m9 rfl rfl ?_;intro c;refine aF ?_;refine e_ rfl (MD x.name y.name) qw rfl ?_;refine C8 ?_;exact d_ rfl rfl [] qh (fun w a=>a.dropAll)
theorem yW(x y:HO)(hx:0<=x.node/\x.node<=100)(b:0<=y.node/\y.node<=100):Pu prog 186 [.agg (gr x).toArray,.agg (gr y).toArray] (fun _=>True) (.int .i64 (x.node-y.node)):=by
 refine b_ 10 func186 rfl rfl rfl ?_;intro F _;refine C6 ?_;refine m9 rfl rfl ?_;intro c;refine m9 rfl rfl ?_;intro d;refine Ke ?_;exact d_ rfl rfl [] qh (fun w a=>a.dropAll)
theorem ny(a b:Bs):Lib.compareBytes a b<0↔gR a b=true:=by
 rw[<-yd,Jg]
abbrev Ts(x y:BM):Int:=Lib.compareBytes x.name y.name
theorem HW{a b:Bs}(h:gR a b=true)(k:gR b a=true):False:=by
 have:=bL h k;rw[il] at this
 cases this
theorem HX(l:List BM):xv l Ts:=⟨fun x _ y _ h k=>HW ((ny _ _).1 h) ((ny _ _).1 k),fun x _ y _ z _ c b a=>by
 unfold Ts at c b a;rw[ny] at c b a;by_cases e:x.name=y.name
 ·rw[e] at a;exact b a
 ·have d:gR y.name x.name=true:=dE e (by simpa using c);exact b (bL d a)⟩
def eQ(b:BM):List BM->List BM
 |[]=>[b]
 |x::t=>if gR b.name x.name=true then b::x::t else x::eQ b t
theorem wH(b:BM):∀l:List BM,(eQ b l).map BM.x=jl b.x (l.map BM.x)
 |[]=>rfl
 |x::t=>by
  unfold eQ;rw[Qv,jl];split
  ·rfl
  ·rw[Qv,wH b t]
theorem gH(b:BM):∀l:List BM,(eQ b l).Perm (l++[b])
 |[]=>.refl _
 |x::t=>by
  unfold eQ;split
  ·exact(kz (l₁:=[b]) (l₂:=x::t))
  ·exact(gH b t).cons x
theorem wI{b x:BM}{l:List BM}(h:x∈eQ b l):x=b\/x∈l:=by
 have:=(gH b l).subset h;rcases zp.1 this with h|h
 ·exact .inr h
 ·exact .inl (zg.1 h)
theorem mf(b:BM):∀{l:List BM},(l.Pairwise fun x y=>gR x.name y.name=true)->(∀x∈l,x.name≠b.name)->(eQ b l).Pairwise fun x y=>gR x.name y.name=true
 |[],_,_=>Kn _ _
 |x::t,h,hn=>by
  obtain⟨d,f⟩:=j9.1 h;unfold eQ;split
  ·rename_i a;refine j9.2 ⟨fun y c=>?_,h⟩;rcases kx.1 c with rfl|c
   ·exact a
   ·exact bL a (d y c)
  ·rename_i a;refine j9.2 ⟨fun y c=>?_,mf b f fun z hz=>hn z (jj _ hz)⟩;rcases wI c with rfl|c
   ·exact dE (fun e=>hn x j8 e.symm) (by simpa using a)
   ·exact d y c
theorem HY{s:ML}{a:Bs}(h:xq s a=none):∀x∈s.a4N,x.name≠a:=fun x b e=>by
 unfold xq at h;rw[Q4] at h;have:=h x b;simp[e] at this
abbrev dY(name:Bs)(val:Nat):BM:=⟨name,val,1,1,[],none,0⟩
theorem ME(b:BM)(l:List BM):(V5 (eQ b l)).Perm (N9 b.a b.ls b.c::V5 l):=by
 have h:=(gH b l).map fun b:BM=>N9 b.a b.ls b.c;rw[jh] at h;exact h.trans kz
theorem Pl{F:l6}{w:World}{x y k u v:As}{a:Bs}{val:Nat}{l:List BM}{R:List As}(h:Hp F w (x::y::k::u::v::(V5 l++R))):Hp F w (k::(u::v::x::V5 (eQ (dY a val) l)++R)):=by
 have b:Hp F w ([x,k,u,v]++(V5 l++R)):=(h.perm (kz (l₁:=[x]) (l₂:=[y])|>.append_right (k::u::v::(V5 l++R)))).drop;have c:Hp F w (N9 none [] 0::([x,k,u,v]++(V5 l++R))):=b.addNil _ _;have d:Hp F w ([x,k,u,v]++(N9 none [] 0::(V5 l++R))):=c.perm Qd.symm;have e:Hp F w ([x,k,u,v]++(V5 (eQ (dY a val) l)++R)):=d.perm (((ME (dY a val) l).symm.append_right R).append_left [x,k,u,v]);exact e.perm (kz (l₁:=[x]) (l₂:=[k,u,v])|>.append_right (V5 (eQ (dY a val) l)++R))
theorem Eg(b:Nat)(m:MM)(r:RQ)(q:QL)(hm:m.a4N.length<=8)(hs:m.a4N.Pairwise fun x y=>gR x.name y.name=true)(hv:m.nval<=4294967296)(p:r.box.length<=lh):Hq 59 b m r q (cM m.s r):=by
 refine x7 91 func59 rfl rfl rfl ?_;rintro F R ⟨a,V⟩;obtain⟨o,s⟩:=o7 (iW r.box);have d:o≠some r.box->cM m.s r=(m.s,B9,1):=fun h=>by unfold cM;rw[zu (by rw[<-s];exact h)]
 refine cH ?_;refine e_ rfl (AB r.box p) qw rfl ?_;rw[<-s];refine aF ?_
 cases o with
 |none=>
  rw[d x8];refine wk 13 ?_;refine A3 ?_;exact C_ m B9 M9 rfl rfl (l6.le_refl _) i_ rfl qx a (L9.zero _)
 |some nm=>
  obtain⟨Q,u⟩:=o7 (decide (nm=r.box));refine wk 9 ?_;(first|refine u_ ?_|(refine v_ ?_;refine f_ ((E7 rfl rfl).eq (v':=.bool (!Q)) (jk (fun b=>Value.bool (!b)) u.symm)) ?_));refine z_ ?_
  cases Q
  ·rw[d (fun e=>zq u.symm (j7 e))];refine C8 ?_;exact C_ m B9 M9 rfl rfl (l6.le_refl _) i_ rfl qx a (L9.zero _)
  obtain rfl:nm=r.box:=qr u.symm;have S:cM m.s r=if(xq m.s r.box).isSome=true then(m.s,B9,12) else if 8<=m.a4N.length then(m.s,B9,7) else if eG<m.nval then(m.s,B9,13) else({m.s with a4N:=jl ⟨r.box,m.nval,1,1,[]⟩ m.s.a4N,nval:=m.nval+1},{B9 with val:=m.nval},0):=by
   unfold cM;rw[zk (by rw[<-s];simp),zm]
  rw[S];clear S;refine aF ?_;refine e_ rfl (oC m r.box qb) (fun h hh ⟨bs,p⟩=>A1.rd p ud) rfl ?_;refine bt ?_ ?_<;>intro h
  ·have z:¬D2 (fun b:BM=>decide (b.name=r.box)) m.a4N<0:=(by have:=qr h;omega);obtain⟨i,_,_,ha⟩:=gE z;rw[zu (by rw[ha];rfl)];refine C8 ?_;exact C_ m B9 M9 rfl rfl (l6.le_refl _) i_ rfl qx a (L9.zero _)
  have z:D2 (fun b:BM=>decide (b.name=r.box)) m.a4N<0:=by have:=zq h;omega
  have f:=gD z;rw[zk (by rw[f];simp)];refine wk 8 ?_;refine o8 rfl ?_ ?_<;>intro T
  ·have k:8<=m.a4N.length:=(by have:=qr T;omega);rw[zu k];refine C8 ?_;exact C_ m B9 M9 rfl rfl (l6.le_refl _) i_ rfl qx a (L9.zero _)
  have X:¬8<=m.a4N.length:=by have:=zq T;omega
  rw[zk X];obtain⟨U,j⟩:=o7 (decide (eG<m.nval));refine aF ?_;refine f_ ((E1 rfl rfl).eq (v':=.bool U) (qn ((zc.2 (by show(4294967295:Int)<_↔4294967295<_;omega)).trans j.symm))) ?_;refine p9 ?_
  cases U
  case true=>
   rw[zu (qr j.symm)];refine C8 ?_;exact C_ m B9 M9 rfl rfl (l6.le_refl _) i_ rfl qx a (L9.zero _)
  rw[zk (zq j.symm)];refine wk 10 ?_;refine D7 [5,11] [13,14,18] [R9 b m r q {B9 with val:=m.nval} M9] 19 ?_;refine wd [0,1,2,3,4,5,6,7,8,9,10,11,12] ?_;refine h_ 13 rfl i6 ?_;refine C4 cS (dY r.box m.nval) rfl ?_;intro Y _;refine Y5 ?_;refine h_ 14 rfl i6 ?_;refine r8 cS (l:=m.a4N) (m:=[dY r.box m.nval]) o_ Ak (by show(m.a4N.length+1)*64<=_;omega) ?_ rfl rfl (fun _ _=>uh) (fun w n=>(n.ownN (t:=100) ud).2.2.1) (by show m.a4N.length+1<=9223372036854775807;omega);intro a72 c _;refine E5 [15,16,17,18] ?_;have C:(eQ (dY r.box m.nval) m.a4N).Perm (m.a4N++[dY r.box m.nval]):=gH _ _;have D:(eQ (dY r.box m.nval) m.a4N).Pairwise fun x y=>Ts x y<0:=(mf (dY r.box m.nval) hs (fun x g=>HY f x.x (Zq g))).imp fun h=>(ny _ _).2 h;refine aF ?_;refine c_ (yT (m.a4N++[dY r.box m.nval]) a72 c 111 Ts (HX _) (fun x _ y _=>yV x y) (by rw[zz];show m.a4N.length+1<=12;omega)) qw ?_;rintro v A ⟨rfl,Z,h9,J,rfl⟩;refine u7 ?_;obtain rfl:Z=eQ (dY r.box m.nval) m.a4N:=sx (xv.perm (HX _) C) (h9.trans C.symm) J D;have M:(eQ (dY r.box m.nval) m.a4N).length=(m.a4N++[dY r.box m.nval]).length:=C.length_eq;have h3:m.nval<=4294967295:=Nat.not_lt.1 (zq j.symm);refine aF ?_;refine f_ ((H_ rfl rfl qb).eq (v':=.int .u64 ((m.nval+1:Nat):Int)) (by congr 1)) ?_;refine Jo ?_;have O:(ML.mk (jl ⟨r.box,m.nval,1,1,[]⟩ m.s.a4N) (m.nval+1) m.a4O m.a4P m.nses m.a4Z)={m with a4N:=eQ (dY r.box m.nval) m.a4N,nval:=m.nval+1,ba:=a72,bc:=c:MM}.s:=by
   show _=ML.mk ((eQ (dY r.box m.nval) m.a4N).map BM.x) _ _ _ _ _;rw[wH];rfl
  refine C_ {m with a4N:=eQ (dY r.box m.nval) m.a4N,nval:=m.nval+1,ba:=a72,bc:=c} {B9 with val:=m.nval} M9 rfl rfl (l6.le_refl _) (fun w n=>?_) O.symm (fun _=>rfl) (fun x g=>?_) ⟨n9.nil _ _,n9.nil _ _⟩
  ·rw[<-M] at n;exact Pl n
  ·rcases wI g with rfl|g
   ·exact fun _ h=>by cases h
   ·exact a x g
theorem ly(b:HO):∀l:List HO,(dt b l).Perm (l++[b])
 |[]=>.refl _
 |x::t=>by
  unfold dt;split
  ·exact(kz (l₁:=[b]) (l₂:=x::t))
  ·exact(ly b t).cons x
theorem Ia{b x:HO}{l:List HO}(h:x∈dt b l):x=b\/x∈l:=by
 have:=(ly b l).subset h;rcases zp.1 this with h|h
 ·exact .inr h
 ·exact .inl (zg.1 h)
theorem mg(b:HO):∀{l:List HO},(l.Pairwise fun x y=>x.node<y.node)->(∀x∈l,x.node≠b.node)->(dt b l).Pairwise fun x y=>x.node<y.node
 |[],_,_=>Kn _ _
 |x::t,h,hn=>by
  obtain⟨d,e⟩:=j9.1 h;unfold dt;split
  ·rename_i a;refine j9.2 ⟨fun y c=>?_,h⟩;rcases kx.1 c with rfl|c
   ·exact a
   ·exact Int.lt_trans a (d y c)
  ·rename_i a;refine j9.2 ⟨fun y c=>?_,mg b e fun z hz=>hn z (jj _ hz)⟩;rcases Ia c with rfl|c
   ·have:=hn x j8;omega
   ·exact d y c
abbrev Qt(x y:HO):Int:=x.node-y.node
theorem Bu(l:List HO):xv l Qt:=⟨fun x _ y _ h k=>by unfold Qt at h k;omega,fun x _ y _ z _ a b c=>by unfold Qt at a b c;omega⟩
def NL(b:Nat)(m:MM)(r:RQ)(q:QL)(o:OC)(y:OL)(l:List HO)(v:Value)(A:List As):Prop:=v=.tuple #[]/\∃a c,A=[R9 b {m with a4O:=l,ha:=a,hc:=c} r q o y,P5 a l c]
theorem sy{m:MM}{n:Int}(h:D2 (fun x:HO=>decide (x.node=n)) m.a4O<0):fF m.s n=none:=by
 unfold D2 at h;unfold fF
 cases e:m.a4O.findIdx? fun x=>decide (x.node=n) with
 |none=>rfl
 |some i=>rw[e] at h;simp only[Option.elim] at h;omega
theorem sA{m:MM}{n:Int}(h:¬D2 (fun x:HO=>decide (x.node=n)) m.a4O<0):∃i:Nat,D2 (fun x:HO=>decide (x.node=n)) m.a4O=(i:Nat)/\i<m.a4O.length/\fF m.s n=some i:=by
 unfold D2 at h⊢;unfold fF
 cases e:m.a4O.findIdx? fun x=>decide (x.node=n) with
 |none=>rw[e] at h;simp only[Option.elim] at h;omega
 |some i=>exact⟨i,rfl,(kg.1 e).1,rfl⟩
theorem MF{m:MM}{n:Int}(h:fF m.s n=none):∀x∈m.a4O,x.node≠n:=fun x a e=>by
 unfold fF at h;rw[Q4] at h;have:=h x a;simp[e] at this
theorem wJ{m:MM}{n:Int}{t:Nat}(h:D2 (fun x:SX=>decide (x.node=n/\x.tr=t)) m.a4P<0):eH m.s n t=none:=by
 unfold D2 at h;unfold eH
 cases e:m.a4P.findIdx? fun x=>decide (x.node=n/\x.tr=t) with
 |none=>rfl
 |some i=>rw[e] at h;simp only[Option.elim] at h;omega
theorem wK{m:MM}{n:Int}{t:Nat}(h:¬D2 (fun x:SX=>decide (x.node=n/\x.tr=t)) m.a4P<0):∃i:Nat,D2 (fun x:SX=>decide (x.node=n/\x.tr=t)) m.a4P=(i:Nat)/\i<m.a4P.length/\eH m.s n t=some i:=by
 unfold D2 at h⊢;unfold eH
 cases e:m.a4P.findIdx? fun x=>decide (x.node=n/\x.tr=t) with
 |none=>rw[e] at h;simp only[Option.elim] at h;omega
 |some i=>exact⟨i,rfl,(kg.1 e).1,rfl⟩
theorem MG(b:Nat)(m:MM)(r:RQ)(q:QL)(o:OC)(y:OL)(i:Nat)(h:HO):R9 b {m with a4O:=m.a4O.set i h} r q o y=R9 b m r q o y:=by
 unfold R9 Ny iy;simp only[jm]
theorem SB{F:l6}{w:World}{x y z k:As}(h:Hp F w [x,y,z,k]):Hp F w [k,x]:=((h.perm (kz (l₁:=[x]) (l₂:=[y,z,k]))).drop.drop)
theorem yX(b:Nat)(m:MM)(r:RQ)(q:QL)(o:OC)(y:OL)(i:Nat)(h:HO)(e:i<m.a4O.length)(l:m.a4O.length<=8):Ct prog 106 [m6 b,.int .i64 (i:Nat),.agg (gr h).toArray] (fun _=>True) [R9 b m r q o y,P5 m.ha m.a4O m.hc] (NL b m r q o y (m.a4O.set i h)):=by
 refine b_ 34 func106 rfl rfl rfl ?_;intro F _;refine B4 (a:=m.ha) (n:=m.a4O.length) (c:=m.hc) (sz:=3) (xs:=JC m.a4O) (te:=104) ud fun _ _ d=>?_;have d:=d qb;refine C6 ?_;refine m9 rfl rfl ?_;intro f;refine p9 ?_;refine f_ ((I3 rfl rfl).eq (v':=.bool true) (qn qk)) ?_;refine u7 ?_;refine D7 [4,6] [8] [.blk f (.cells (gr h).toArray 104),R9 b m r q o y] 9 ?_;refine wd [0,1,2,3,4,5,6,7] ?_;refine h_ 8 rfl i6 ?_;refine A9 (C:=gr) h O5 e (j:=0) rfl ?_;refine E5 [] ?_;refine A3 ?_;exact l_ rfl [R9 b m r q o y,P5 m.ha (m.a4O.set i h) m.hc] ⟨rfl,m.ha,m.hc,by rw[<-MG b m r q o y i h]⟩ (fun w g=>by have k:=g.drop;unfold P5;rw[jm];exact k)
theorem yY(b:Nat)(m:MM)(r:RQ)(q:QL)(o:OC)(y:OL)(h:HO)(J:m.a4O.length<=8)(hs:m.a4O.Pairwise fun x y=>x.node<y.node)(n:∀x∈m.a4O,x.node≠h.node)(p:∀x∈m.a4O,0<=x.node/\x.node<=100)(s:0<=h.node/\h.node<=100):Ct prog 106 [m6 b,.int .i64 (-1),.agg (gr h).toArray] (fun _=>True) [R9 b m r q o y,P5 m.ha m.a4O m.hc] (NL b m r q o y (dt h m.a4O)):=by
 refine b_ 34 func106 rfl rfl rfl ?_;intro F _;refine C6 ?_;refine m9 rfl rfl ?_;intro u;refine z_ ?_;refine D7 [5,6] [7,8,12] [.blk u (.cells (gr h).toArray 104),R9 b m r q o y] 13 ?_;refine wd [0,1,2,3,4,5,6] ?_;refine h_ 7 rfl i6 ?_;refine C4 gr h rfl ?_;intro Tl _;refine Y5 ?_;refine h_ 8 rfl i6 ?_;refine r8 gr (l:=m.a4O) (m:=[h]) O5 Ap (by show(m.a4O.length+1)*24<=_;omega) ?_ rfl rfl (fun _ _=>uh) (fun w f=>(f.ownN (t:=104) ud).2.2.1) (by show m.a4O.length+1<=9223372036854775807;omega);intro a c _;refine E5 [9,10,11,12] ?_;have g:(dt h m.a4O).Perm (m.a4O++[h]):=ly _ _;have i:(dt h m.a4O).Pairwise fun x y=>Qt x y<0:=(mg h hs n).imp fun h=>by unfold Qt;omega
 have e:∀x∈m.a4O++[h],0<=x.node/\x.node<=100:=fun x d=>by
  rcases zp.1 d with d|d
  ·exact p x d
  ·rw[zg.1 d];exact s
 refine aF ?_;refine c_ (wG (m.a4O++[h]) a c 186 Qt (Bu _) (fun x d y z=>yW x y (e x d) (e y z)) (by rw[zz];show m.a4O.length+1<=12;omega)) qw ?_;rintro v A ⟨rfl,C,D,j,rfl⟩;refine u7 ?_;obtain rfl:C=dt h m.a4O:=sx (xv.perm (Bu _) g) (D.trans g.symm) j i;have k:(dt h m.a4O).length=(m.a4O++[h]).length:=g.length_eq;refine l_ rfl [R9 b {m with a4O:=dt h m.a4O,ha:=a,hc:=c} r q o y,P5 a (dt h m.a4O) c] ⟨rfl,a,c,rfl⟩ (fun w f=>?_);rw[<-k] at f;exact SB f
