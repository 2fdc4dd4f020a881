import Derived.Test.YtmcepdopookilaaGreatDoorukx16
set_option maxHeartbeats 16000000
set_option maxRecDepth 8000
set_option linter.unusedVariables false
set_option linter.unusedSimpArgs false
set_option linter.defProp false
namespace Go.Proofs.YtmcepdopookilaaGreatDoor.Rp
open Go Go.Sl Go.RowKit Go.Proofs.Tryz
def Ns{l:List BM}{i:Nat}(a:i<l.length)(b:BM):(X7 (l.set i b)).Perm (O7 b.a b.ls b.c::X7 (l.eraseIdx i)):=by
 have h:=M0 (l:=l.set i b) (i:=i) (by simpa using a);rw[Zb,List.eraseIdx_set_eq] at h;exact h
def Fw{α:Type}{C:α->zq}{sz:Nat}{h:l_}{a:qr}{l:List α}{q i j:Nat}{v:Value}(r:n9 h a (l.flatMap C))(b:∀x,(C x).length=sz)(x:α)(c:l[i]? =some x)(hv:(C x)[j]? =some v)(hq:q=i*sz+j):M9 h (N_ a q) [v]:=by
 obtain⟨d,rfl⟩:=Qs.1 c;exact cT r b d hv hq
def bg(m:MM)(i:Nat)(b:BM):(m.a6u.set i b).map BM.x=(m.a6u.map BM.x).set i b.x:=K0
def TP{F:l9}{w:World}{x y z:As}{T:List As}(h:Hp F w (x::y::z::T)):Hp F w (x::T):=(h.perm (jj (l₁:=[x]) (l₂:=[y,z])|>.append_right T)).drop.drop
def uQ(b:Nat)(m:MM)(r:RQ)(q:QL)(o:OC)(y:OL)(i:Nat)(B:BM):T3 b {m with a6u:=m.a6u.set i B} r q o y=T3 b m r q o y:=by
 unfold T3 OD iQ;simp only[Qw]
def nS(m:MM)(i:Nat)(B:BM):U0 m.ba (m.a6u.set i B) m.bc=.own (.slice m.ba m.a6u.length m.bc) 100 5 (fv (m.a6u.set i B)):=by
 unfold U0;rw[Qw]
def uR{F:l9}{w:World}{k x y z:As}{l:List BM}{i:Nat}{R:List As}{a:qr}{ls:List LM}{c:Nat}(B:BM)(d:i<l.length)(ha:B.a=a)(b:B.ls=ls)(hc:B.c=c)(h:Hp F w (k::x::y::z::O7 a ls c::(X7 (l.eraseIdx i)++R))):Hp F w (k::x::y::z::(X7 (l.set i B)++R)):=by
 subst ha b hc;have e:Hp F w ([k,x,y,z]++((O7 B.a B.ls B.c::X7 (l.eraseIdx i))++R)):=h;exact e.perm (((Ns d B).symm.append_right R).append_left [k,x,y,z])
def EJ(b:Nat)(m:MM)(r:RQ)(q:QL)(hm:m.a6u.length<=1000)(x5:∀x∈m.a6u,x.ls.length<=1000/\x.next<=4294967296/\x.high<=E6)(z0:r.a6J.length<=100000)(x9:∀f∈r.a6J,f.length<=lD):Ih 61 b m r q (dt m.s r):=by
 refine A0 130 func61 rfl rfl rfl ?_;rintro F R ⟨u,k0⟩;refine u6 ?_;refine n8 (ι:=Nat) (fun _=>True) (fun z=>[(0,i8 b),(3,.int .i64 (D9 (fun b=>decide (b.name=r.box)) m.a6u)),(4,i8 z)]) (fun z=>.blk z (.cells (eN r q).toArray 44)::T3 b m r q C3 N8::(vp m++R)) ?_ ?_
 ·skip
  refine x6 ?_;refine D8 [3,8,13] [9,14,16] [T3 b m r q C3 N8] 17 ?_;refine wd [0,1,2,3,4,5,6,7,8,10,11,12,13] ?_;refine S4 9 14 rfl rfl i6 ?_ ?_;refine c_ rfl (oY m r.box hm) (fun h hh ⟨bs,hb⟩=>A_.rd hb ud) rfl ?_;refine V2 ?_;refine h_ 14 rfl i6 ?_;refine i7 rfl ?_;intro z;refine fy [15,16] ?_
  rotate_left 1
  refine i7 rfl ?_;intro z;refine V2 ?_;refine h_ 9 rfl i6 ?_;refine c_ rfl (oY m r.box hm) (fun h hh ⟨bs,hb⟩=>A_.rd hb ud) rfl ?_;refine fy [15,16] ?_
  rotate_left 1
  all_goals (refine x6 ?_)
  all_goals exact g_ z trivial i_
 rintro z _;refine bQ ?_ ?_<;>intro h
 ·have es:dt m.s r=(m.s,C3,6):=by unfold dt;rw[gS (zy h)]
  rw[es];refine D0 ?_;exact D5 m C3 N8 rfl rfl (l9.le_refl _) (fun w d=>d.drop) rfl qx u (M8.zero _)
 obtain⟨i,hi,e,ha⟩:=gT (zu h);rw[hi];have k8:dt m.s r=if G_ r.a6J=false\/r.hash.length≠32\/4096<r.size then(m.s,C3,1) else if r.a6G≠m.a6G then(m.s,C3,15) else if 32<=m.a6u[i].ls.length then(m.s,C3,7) else if eX<m.a6u[i].next\/E6<=m.a6u[i].high then(m.s,C3,13)
   else(jP m.s i {m.a6u[i].x with high:=m.a6u[i].high+1,next:=m.a6u[i].next+1,lts:=m.a6u[i].x.lts++[⟨m.a6u[i].next,r.a6J,m.a6u[i].high+1,r.hash,r.size⟩]},{C3 with val:=m.a6u[i].val,a6A:=[m.a6u[i].next]},0):=by
  unfold dt;rw[ha];simp only[fj e,BM.x,kg]
 rw[k8];clear k8;obtain⟨z2,u0,u1⟩:=x5 _ (zm e);refine B7 (a:=m.ba) (n:=m.a6u.length) (c:=m.bc) (sz:=5) (xs:=fv m.a6u) (te:=100) ud fun _ _ J=>?_;have J:=J qb;refine wk 8 ?_;obtain⟨q1,h1⟩:=o9 (G_ r.a6J);obtain⟨q2,h2⟩:=o9 (decide (r.hash.length=32));obtain⟨q3,h3⟩:=o9 (decide (4096<r.size));refine x8 [(0,i8 b),(4,i8 z),(5,dC m i),(29,.bool (!q1||(!q2||q3)))] (.blk z (.cells (eN r q).toArray 44)::T3 b m r q C3 N8::(vp m++R)) ?_ ?_
 ·cases q1<;>cases q2
  all_goals (
   refine A5 ?_;refine c_ rfl (gU r.a6J q.fa q.fc qb x9) (fun h hh _=>k0.a6J.le hh) rfl ?_;rw[<-h1];refine al ?_;(first|refine u_ ?_|(refine v_ ?_;refine f_ ((M2 rfl rfl).eq (jh (fun x=>Value.bool (!x)) ((qz).trans h2.symm))) ?_));refine P1 ?_;(first|refine u_ ?_|(refine v_ ?_;refine f_ ((E9 rfl rfl).eq (qn ((qz).trans h3.symm))) ?_));refine A5 ?_)
  all_goals exact p_ sub i_
 refine x6 ?_;have u2:q1=false->G_ r.a6J=false:=fun k=>h1▸k;refine p7 rfl ?_ ?_<;>intro Q
 ·have hc:G_ r.a6J=false\/r.hash.length≠32\/4096<r.size:=by
   rw[<-h1]
   revert Q
   cases q1
   ·exact fun _=>.inl rfl
   cases q2
   ·exact fun _=>.inr (.inl (zu h2.symm))
   cases q3
   ·intro T;simp at T
   ·exact fun _=>.inr (.inr (zy h3.symm))
  rw[zr hc];refine D0 ?_;exact D5 m C3 N8 rfl rfl (l9.le_refl _) (fun w d=>d.drop) rfl qx u (M8.zero _)
 have hc:¬(G_ r.a6J=false\/r.hash.length≠32\/4096<r.size):=by
  rw[<-h1];rintro(k|k|k)
  ·rw[k] at Q;simp at Q
  ·rw[h2,Qk k] at Q;cases q1<;>simp at Q
  ·rw[h3,ju k] at Q;cases q1<;>cases q2<;>simp at Q
 rw[zb hc];refine x6 ?_;obtain⟨q4,h4⟩:=o9 (decide (r.a6G=m.a6G));refine x6 ?_;refine D8 [1,6] [] [.blk z (.cells (eN r q).toArray 44),T3 b m r q C3 N8] 9 ?_;refine wd [0,1,2,3,4,5,6] ?_;refine w_ 7 rfl ((M2 rfl rfl).eq (v':=.bool (!q4)) (jh (fun x=>Value.bool (!x)) ((kz.2 Jn).trans h4.symm))) ?_;refine wd [8] ?_
 cases q4
 ·rw[zr (zu h4.symm)];refine D0 ?_;exact D5 m C3 N8 rfl rfl (l9.le_refl _) (fun w d=>d.drop) rfl qx u (M8.zero _)
 rw[zb (fun k=>k (zy h4.symm))];refine E8 ?_;refine r_ (l5 rfl (fun w d=>cT (j:=4) (d.ownN (t:=100) ud).2.2.1 o_ e rfl x7)) ?_;refine eV ?_ ?_<;>intro T
 ·have k:32<=m.a6u[i].ls.length:=by have:=zy T;omega
  rw[zr k];refine D0 ?_;exact D5 m C3 N8 rfl rfl (l9.le_refl _) (fun w d=>d.drop) rfl qx u (M8.zero _)
 have y0:¬32<=m.a6u[i].ls.length:=by have:=zu T;omega
 rw[zb y0];obtain⟨q5,h7⟩:=o9 (decide (eX<m.a6u[i].next));obtain⟨q6,h8⟩:=o9 (decide (E6<=m.a6u[i].high));refine x6 ?_;refine x8 [(0,i8 b),(4,i8 z),(5,dC m i),(61,.bool (q5||q6))] (.blk z (.cells (eN r q).toArray 44)::T3 b m r q C3 N8::(vp m++R)) ?_ ?_
 ·cases q5
  all_goals (
   refine E8 ?_;refine r_ (l5 rfl (fun w d=>cT (j:=2) (d.ownN (t:=100) ud).2.2.1 o_ e rfl x7)) ?_;refine f_ ((E9 rfl rfl).eq (qn ((kz.2 (by show(4294967295:Int)<_↔4294967295<_;omega)).trans h7.symm))) ?_;refine P1 ?_;(first|refine u_ ?_|(refine v_ ?_;refine r_ (l5 rfl (fun w d=>cT (j:=3) (d.ownN (t:=100) ud).2.2.1 o_ e rfl x7)) ?_));(first|refine u_ ?_|(refine v_ ?_;refine f_ ((K_ rfl rfl).eq (qn ((kz.2 (by show(9223372036854775807:Int)<=_↔9223372036854775807<=_;omega)).trans h8.symm))) ?_));refine A5 ?_)
  all_goals exact p_ sub i_
 refine O_ ?_ ?_<;>intro h9
 ·have k:eX<m.a6u[i].next\/E6<=m.a6u[i].high:=by
   rw[Zh] at h9;rcases h9 with k|k
   ·exact .inl (zy (h7.symm.trans k))
   ·exact .inr (zy (h8.symm.trans k))
  rw[zr k];refine D0 ?_;exact D5 m C3 N8 rfl rfl (l9.le_refl _) (fun w d=>d.drop) rfl qx u (M8.zero _)
 rw[Zw] at h9;have kn:¬eX<m.a6u[i].next:=zu (h7.symm.trans h9.1);have kh:¬E6<=m.a6u[i].high:=zu (h8.symm.trans h9.2);rw[zb (fun k=>k.elim kn kh)];have u8:m.a6u[i].next<=4294967295:=Nat.not_lt.1 kn;have v0:m.a6u[i].high<9223372036854775807:=W4.1 kh;refine C5 (H':=.blk z (.cells (eN r q).toArray 44)::T3 b m r q C3 N8::U1 m.sa m.a6w m.sc::R5 m.ha m.a6v m.hc::U0 m.ba m.a6u m.bc::O7 m.a6u[i].a m.a6u[i].ls m.a6u[i].c::(X7 (m.a6u.eraseIdx i)++R)) (fun w d=>d.perm (((M0 e).append_right R).append_left [_,_,_,_,_])) ?_;refine E8 ?_;refine r_ (l5 rfl (fun w d=>cT (j:=3) (d.ownN (t:=100) ud).2.2.1 o_ e rfl x7)) ?_;refine f_ ((L9 rfl rfl qb).eq (v':=.int .u64 ((m.a6u[i].high+1:Nat):Int)) (by congr 1)) ?_;refine A5 ?_;refine A6 (C:=bR) {m.a6u[i] with high:=m.a6u[i].high+1} o_ e (j:=3) rfl ?_;refine x6 ?_;obtain⟨o,k9⟩:∃o,o={m.a6u[i] with high:=m.a6u[i].high+1}:=⟨_,rfl⟩;have q0:i<(m.a6u.set i o).length:=by simpa using e
 have q7:(m.a6u.set i o)[i]=o:=Zb _;have S:o.a=m.a6u[i].a/\o.ls=m.a6u[i].ls/\o.c=m.a6u[i].c/\o.next=m.a6u[i].next/\o.high=m.a6u[i].high+1/\o.val=m.a6u[i].val/\o.name=m.a6u[i].name:=by subst k9;exact⟨rfl,rfl,rfl,rfl,rfl,rfl,rfl⟩
 have X:(m.a6u.set i o)[i]? =some o:=by rw[zd q0,q7]
 rw[<-k9];refine x6 ?_;refine D8 [4,8,10,15,17,19] [11,21,22,25] [.own (.slice m.ba m.a6u.length m.bc) 100 5 (fv (m.a6u.set i o)),.blk z (.cells (eN r q).toArray 44)] 26 ?_;refine wd [0,1,2,3] ?_;refine o7 4 rfl R6 (l5 (v:=.slice m.a6u[i].a m.a6u[i].ls.length m.a6u[i].c) rfl (fun w d=>Fw (j:=4) (d.ownN (t:=100) ud).2.2.1 o_ o X (by rw[<-S.1,<-S.2.1,<-S.2.2.1];rfl) x7)) G3 rfl rfl rfl i6 ?_;refine wd [5,6,7] ?_;refine o7 8 rfl R6 (l5 (v:=.int .u64 (m.a6u[i].next:Nat)) rfl (fun w d=>Fw (j:=2) (d.ownN (t:=100) ud).2.2.1 o_ o X (by rw[<-S.2.2.2.1];rfl) x7)) G3 rfl rfl rfl i6 ?_;refine wd [9,10,12,13,14] ?_;refine o7 15 rfl R6 (l5 (v:=.int .u64 ((m.a6u[i].high+1:Nat):Int)) rfl (fun w d=>Fw (j:=3) (d.ownN (t:=100) ud).2.2.1 o_ o X (by rw[<-S.2.2.2.2.1];rfl) x7)) G3 rfl rfl rfl i6 ?_;refine wd [16,17,18,19] ?_;refine h_ 11 rfl i6 ?_;refine e_ (ab r.a6J q.fa q.fc qb) (fun h hh _=>k0.a6J.le hh) ?_;rintro v A ⟨na,nc,rfl,rfl⟩;refine fy [20] ?_;refine h_ 21 rfl i6 ?_;refine D2 R7 ⟨⟨m.a6u[i].next,r.a6J,m.a6u[i].high+1,r.hash,r.size⟩,na,nc⟩ rfl ?_;intro Pn y1;refine V2 ?_;refine h_ 22 rfl i6 ?_;refine u7 R7 (l:=m.a6u[i].ls) (m:=[⟨⟨m.a6u[i].next,r.a6J,m.a6u[i].high+1,r.hash,r.size⟩,na,nc⟩]) A8 nD (by show(m.a6u[i].ls.length+1)*64<=_;omega) ?_;intro p s _;obtain⟨U,Y⟩:∃U,U=m.a6u[i].ls++[⟨⟨m.a6u[i].next,r.a6J,m.a6u[i].high+1,r.hash,r.size⟩,na,nc⟩]:=⟨_,rfl⟩;rw[<-Y];refine D7 [23,24] ?_;refine h_ 25 rfl i6 ?_;refine A6 (C:=bR) (v:=.slice p U.length s) {o with ls:=U,a:=p,c:=s} o_ q0 (j:=4) (by rw[q7];rfl) ?_;refine D7 [] ?_;rw[Jq];obtain⟨g,q8⟩:∃g:BM,g={o with ls:=U,a:=p,c:=s}:=⟨_,rfl⟩;rw[<-q8];have q9:i<(m.a6u.set i g).length:=by simpa using e
 have x0:(m.a6u.set i g)[i]=g:=Zb _;have h0:(m.a6u.set i g)[i]? =some g:=by rw[zd q9,x0]
 have M:g.a=p/\g.ls=U/\g.c=s/\g.next=m.a6u[i].next/\g.high=m.a6u[i].high+1/\g.val=m.a6u[i].val/\g.name=m.a6u[i].name:=by subst q8;exact⟨rfl,rfl,rfl,S.2.2.2.1,S.2.2.2.2.1,S.2.2.2.2.2.1,S.2.2.2.2.2.2⟩
 refine C6 (Z:=[B0 na r.a6J nc]) tk fun F1 O ⟨bs,x1⟩=>?_;have y2:n9 F1.heap na (fV r.a6J):=A_.rd x1 ud;clear x1;refine n8 (ι:=qr) (fun _=>True) (fun _=>[(0,i8 b),(5,dC m i)]) (fun ua=>.own (.slice ua 1 1) 27 1 (nV [m.a6u[i].next])::T3 b m r q {C3 with val:=m.a6u[i].val,a6A:=[m.a6u[i].next]} ⟨ua,1,none,0⟩::U1 m.sa m.a6w m.sc::R5 m.ha m.a6v m.hc::.own (.slice m.ba m.a6u.length m.bc) 100 5 (fv (m.a6u.set i g))::O7 p U s::(X7 (m.a6u.eraseIdx i)++R)) ?_ ?_
 ·skip
  refine x6 ?_;refine D8 [5,9] [10,14,18] [.own (.slice m.ba m.a6u.length m.bc) 100 5 (fv (m.a6u.set i g)),T3 b m r q C3 N8] 19 ?_;refine wd [0,1,2,3,4] ?_;refine o7 5 rfl R6 (l5 (v:=.int .u64 (m.a6u[i].val:Nat)) rfl (fun w d=>Fw (j:=1) (d.ownN (t:=100) ud).2.2.1 o_ g h0 (by rw[<-M.2.2.2.2.2.1];rfl) x7)) G3 rfl rfl rfl i6 ?_;refine wd [6,7,8] ?_;refine o7 9 rfl R6 (l5 (v:=.int .u64 (m.a6u[i].next:Nat)) rfl (fun w d=>Fw (j:=2) (d.ownN (t:=100) ud).2.2.1 o_ g h0 (by rw[<-M.2.2.2.1];rfl) x7)) G3 rfl rfl rfl i6 ?_;refine wd [11,12,13] ?_;refine S4 10 14 rfl rfl i6 ?_ ?_;refine y6 (ps:=[(0,.tmp 115)]) (vs:=[(0,.int .u64 (m.a6u[i].next:Nat))]) (xs:=nV [m.a6u[i].next]) rfl rfl rfl rfl rfl rfl rfl rfl ?_;intro V _;refine fy [14,15,16,17,18] ?_
  rotate_left 1
  (first|refine ri (pre:=[_,_,_,_,_,_,_,_,_,_,_,_,_,_,_,_,_,_,_,_,_,_,_,_,_]) (post:=[_,_]) rfl rfl uh (by rfl) (by rfl) (by rfl) ?_|refine U7 rfl rfl uh (by rfl) Pk (by rfl) ?_);refine rR ?_;refine h_ 10 rfl i6 ?_;refine y6 (ps:=[(0,.tmp 115)]) (vs:=[(0,.int .u64 (m.a6u[i].next:Nat))]) (xs:=nV [m.a6u[i].next]) rfl rfl rfl rfl rfl rfl rfl rfl ?_;intro V _;refine D7 [15,16,17,18] ?_
  rotate_left 1
  all_goals (refine x6 ?_)
  all_goals exact g_ V trivial (fun w d=>TP d)
 rintro ua _;refine x6 ?_;refine C6 (Z:=[.own (.slice ua 1 1) 27 1 (nV [m.a6u[i].next])]) tk fun F2 D ⟨bs,x2⟩=>?_;have y3:n9 F2.heap ua (nV [m.a6u[i].next]):=A_.rd x2 ud;clear x2;refine E8 ?_;refine r_ (l5 (v:=.int .u64 (m.a6u[i].next:Nat)) rfl (fun w d=>Fw (j:=2) (d.ownN (t:=100) ud).2.2.1 o_ g h0 (by rw[<-M.2.2.2.1];rfl) x7)) ?_;refine f_ ((L9 rfl rfl qb).eq (v':=.int .u64 ((m.a6u[i].next+1:Nat):Int)) (by congr 1)) ?_;refine A5 ?_;refine A6 (C:=bR) (v:=.int .u64 ((m.a6u[i].next+1:Nat):Int)) {g with next:=m.a6u[i].next+1} o_ q9 (j:=2) (by rw[x0];rfl) ?_;refine x6 ?_;rw[Jq];refine D0 ?_;refine D5 {m with a6u:=m.a6u.set i {g with next:=m.a6u[i].next+1}} {C3 with val:=m.a6u[i].val,a6A:=[m.a6u[i].next]} ⟨ua,1,none,0⟩ rfl rfl (O.trans D) (fun w d=>?_) ?_ (fun _=>rfl) (fun x hx=>?_) ⟨y3,n9.nil _ _⟩
 ·rw[uQ];show Hp F2 w (_::U1 m.sa m.a6w m.sc::R5 m.ha m.a6v m.hc::U0 m.ba (m.a6u.set i {g with next:=m.a6u[i].next+1}) m.bc::(X7 (m.a6u.set i {g with next:=m.a6u[i].next+1})++R));rw[nS];exact uR {g with next:=m.a6u[i].next+1} e M.1 M.2.1 M.2.2.1 d
 ·show({m.s with a6u:=_}:ML)=_;unfold jP;rw[bg];simp only[BM.x,M.2.1,M.2.2.2.2.1,M.2.2.2.2.2.1,M.2.2.2.2.2.2,Y,Qx,Q2,Jp]
 ·rcases Qj hx with Q|rfl
  ·exact Mn.le (O.trans D).heap (u x Q)
  ·intro y hy;have x3:y∈U:=M.2.1▸hy;rw[Y] at x3;rcases kw.1 x3 with T|T
   ·exact(u _ (zm e) y T).le (O.trans D).heap
   ·obtain rfl:=z7.1 T;exact y2.le D.heap
def gk(r:RQ)(most:Nat)(x:LM):Bool:=decide (jQ∈x.t.a6J)&&(r.a6A.isEmpty||ii r.a6A most x.t.uid)
def Nt(r:RQ)(b:BM)(x:LM):jR r b.x x.t=gk r (ah b.ls) x:=by
 unfold jR gk Y3;rw[qf]
abbrev Cd(b g1 g5 g2 g3 most:Nat)(m:MM)(r:RQ)(q:QL)(o:OC)(y:OL)(l:List LM)(h:l_):Prop:=aY g1 (i8 b) 132 h/\aY g5 (iV g2 g3) 196 h/\wF b g2 g3 most m r q o y h/\iP l h
def Ce(b g1 n p g3 c:Nat)(m:MM)(r:RQ)(q:QL)(o:OC)(y:OL)(z:r.a6A.length<=1000000)(l:List LM)(x:LM)(hx:x∈l)(hf:x.t.a6J.length<=1000000):Pu prog 120 [.agg (R7 x).toArray,i8 g1,i8 n] (Cd b g1 n p g3 c m r q o y l) (.bool (gk r c x)):=by
 obtain⟨C,s⟩:=o9 (decide (jQ∈x.t.a6J));obtain⟨D,u⟩:=o9 (r.a6A.isEmpty);unfold gk;rw[<-s,<-u];refine b_ 22 func120 rfl rfl rfl ?_;rintro F ⟨J,M,e,f⟩;obtain⟨g,i,j,k⟩:=e;refine D1 ?_;refine m8 rfl rfl ?_;intro g3;refine u6 ?_
 cases C<;>cases D
 all_goals (
  refine A5 ?_;refine c_ rfl (uL x.t.a6J x.a x.c jQ qb) (fun h d _=>(f x hx).le d) rfl ?_;rw[<-s];refine wk 7 ?_;(first|refine u_ ?_|(refine v_ ?_;refine f_ ((q_ rfl rfl).eq (qn (show _=r.a6A.isEmpty from by cases r.a6A with|nil=>rfl|cons a t=>simp<;>omega)|>.trans (qn u.symm))) ?_));refine E8 ?_;(first|refine u_ ?_|(refine v_ ?_;refine A4 (ps:=[]) _ rfl rfl rfl (lG b p _ c m r q o y z x) i_ (fun h d _=>⟨d _ _ g,d _ _ i,d _ _ j,k.le d⟩) rfl ?_;rintro v A ⟨rfl,rfl⟩));refine E8 ?_)
 all_goals (refine B4 ?_;exact d_ rfl rfl [] qh (fun w O=>O.dropAll))
abbrev TQ(g1 g5:Nat):Value:=.func (.func 120) #[] #[i8 g1,i8 g5]
abbrev OO(u:zz):OC:={C3 with a6A:=u}
def ni{α β:Type}(f:α->β)(q:α->Bool){l:List α}{j:Nat}(a:j<l.length):((l.take (j+1)).filter q).map f=((l.take j).filter q).map f++if q l[j] then[f l[j]] else[]:=by
 rw[L7 q a,Qx];split<;>simp
def Nu(b:Nat)(m:MM)(r:RQ)(q:QL)(u:zz)(ua:qr)(uc n:Nat)(h:u.length=n):T3 b m r q (OO u) ⟨ua,uc,none,0⟩=.blk b (.cells (iQ m++eN r q++([.int .i64 0,.int .u64 ((0:Nat):Int),.int .u64 ((0:Nat):Int),.slice ua n uc,.slice none 0 0]:zq)).toArray 136):=by subst h;rfl
def zQ(b:Nat)(m:MM)(r:RQ)(q:QL)(hm:m.a6u.length<=1000)(q6:∀x∈m.a6u,x.ls.length<=1000/\x.high<=E6/\∀y∈x.ls,y.t.a6J.length<=1000000)(hu:r.a6A.length<=1000000):Ih 63 b m r q (bD m.s r):=by
 refine A0 74 func63 rfl rfl rfl ?_;rintro F R ⟨J,h6⟩;refine D1 ?_;refine M1 rfl rfl rfl ?_;intro U;refine u6 ?_
 cases hn:named m.s r with
 |none=>
  have es:bD m.s r=(m.s,C3,6):=by unfold bD;rw[hn]
  rw[es];refine u6 ?_;refine c_ rfl (eE b m r q C3 N8 hm) (fun h z g=>⟨L6 g,by obtain⟨bs,g⟩:=g;exact A_.rd g ud⟩) rfl ?_;rw[hn,show gh m none=.tuple #[.pointer none,.bool false] from rfl];refine Ot ?_;exact D5 m C3 N8 rfl rfl (l9.le_refl _) (fun w l=>l.drop) rfl qx J (M8.zero _)
 |some i=>
  have f:=qe hn;obtain⟨h7,x1,h8⟩:=q6 _ (zm f);refine u6 ?_;refine c_ rfl (eE b m r q C3 N8 hm) (fun h z g=>⟨L6 g,by obtain⟨bs,g⟩:=g;exact A_.rd g ud⟩) rfl ?_;rw[hn,show gh m (some i)=.tuple #[dC m i,.bool true] from rfl];refine wk 7 ?_;refine C5 (H':=.blk U (.cells #[i8 b] 132)::T3 b m r q C3 N8::U1 m.sa m.a6w m.sc::R5 m.ha m.a6v m.hc::U0 m.ba m.a6u m.bc::O7 m.a6u[i].a m.a6u[i].ls m.a6u[i].c::(X7 (m.a6u.eraseIdx i)++R)) (fun w l=>l.perm (((M0 f).append_right R).append_left [_,_,_,_,_])) ?_;refine A5 ?_;refine e_ (qi b m i f h7) ?pre ?_;(case pre=>exact fun h z ⟨bs,g⟩=>⟨A_.rd g ud,A_.rd g ud⟩);rintro v A ⟨Y,g3,rfl,rfl⟩;refine u6 ?_;intro g5;refine u6 ?_;refine C6 (Z:=[.blk g5 (.cells #[iV Y g3] 196),.blk g3 (.cells #[.int .u64 (ah m.a6u[i].ls:Nat)] 27),.blk Y (.cells #[i8 b] 132),.blk U (.cells #[i8 b] 132)]) tk fun F1 h0 g=>?_;have p5:aY g5 (iV Y g3) 196 F1.heap:=L6 g;have p3:aY g3 (.int .u64 (ah m.a6u[i].ls:Nat)) 27 F1.heap:=L6 g;have p2:aY Y (i8 b) 132 F1.heap:=L6 g;have p1:aY U (i8 b) 132 F1.heap:=L6 g;clear g;refine B7 (a:=m.ba) (n:=m.a6u.length) (c:=m.bc) (sz:=5) (xs:=fv m.a6u) (te:=100) ud fun _ _ O=>?_;have O:=O qb;refine al ?_;refine r_ (l5 rfl (fun w l=>cT (j:=4) (l.ownN (t:=100) ud).2.2.1 o_ f rfl x7)) ?_;refine A5 ?_;refine B7 (a:=m.a6u[i].a) (n:=m.a6u[i].ls.length) (c:=m.a6u[i].c) (sz:=5) (xs:=qW m.a6u[i].ls) (te:=156) ud fun _ _ h9=>?_;refine P8 27 1 ?_;obtain⟨e,Q⟩:=o9 (ah m.a6u[i].ls);rw[<-Q] at p3;obtain⟨d,s⟩:∃d:Nat->zz,∀j,d j=((m.a6u[i].ls.take j).filter (gk r e)).map fun x=>x.t.uid:=⟨_,fun _=>rfl⟩;have h3:d 0=[]:=by rw[s];rfl
  have S:∀j,(d j).length<=1000:=fun j=>by
   rw[s,kg];refine j9 (Q9 _ _) (j9 (List.length_take_le' _ _) h7)
  refine P7 (fun j (u:qr) (D:Nat)=>j<=m.a6u[i].ls.length) (fun j u D=>[(1,i8 U),(3,dC m i),(6,TQ U g5),(23,.slice m.a6u[i].a m.a6u[i].ls.length m.a6u[i].c),(24,r7 (m.a6u[i].ls.length)),(25,r7 j)])
   (fun j u D=>.own (.slice u (d j).length D) 27 1 (nV (d j))::T3 b m r q (OO (d j)) ⟨u,D,none,0⟩::U1 m.sa m.a6w m.sc::R5 m.ha m.a6v m.hc::U0 m.ba m.a6u m.bc::O7 m.a6u[i].a m.a6u[i].ls m.a6u[i].c::(X7 (m.a6u.eraseIdx i)++R)) (fun j _ _=>m.a6u[i].ls.length-j) 0 none 0 (zp _) sub (fun w l=>by rw[h3];exact l) ?_
  rintro j u D hj;refine T2 ?_ ?_<;>intro h
  ·have M:j<m.a6u[i].ls.length:=(by have:=zy h;omega);have h9:=h9 qb;refine u6 ?_;refine r_ (p9 rfl (fun w l=>bK (l.ownN (t:=156) ud).2.2.1 A8 qp M x7) (A8 _)) ?_;refine i7 rfl ?_;intro g8;refine E8 ?_;refine A4 (ps:=[]) _ rfl rfl rfl (Ce b U g5 Y g3 e m r q (OO (d j)) ⟨u,D,none,0⟩ hu m.a6u[i].ls m.a6u[i].ls[j] (zm M) (h8 _ (zm M))) i_ (fun h z g=>⟨z _ _ p1,z _ _ p5,⟨z _ _ p2,z _ _ p3,L6 g,(h6.a6A.le h0.heap).le z⟩,Mn.le z (Mn.le h0.heap (J _ (zm f)))⟩) rfl ?_;rintro v A ⟨rfl,rfl⟩;refine x6 ?_;have o:=ni (fun x:LM=>x.t.uid) (gk r e) M;rw[<-s,<-s] at o;refine p7 rfl ?_ ?_<;>intro h2
   ·rw[h2,zr rfl] at o;refine x6 ?_;refine D8 [0,1,5,7] [8,9,13] [.blk g8 (.cells (R7 m.a6u[i].ls[j]).toArray 156),T3 b m r q (OO (d j)) ⟨u,D,none,0⟩] 14 ?_;refine wd [0,1,2,3,4,5,6,7] ?_;refine h_ 8 rfl i6 ?_;refine y6 (ps:=[(0,.tmp 39)]) (vs:=[(0,.int .u64 (m.a6u[i].ls[j].t.uid:Nat))]) (xs:=nV [m.a6u[i].ls[j].t.uid]) rfl rfl rfl rfl rfl rfl rfl rfl ?_;intro x2 _;refine V2 ?_;refine h_ 9 rfl i6 ?_;refine C4 (news:=nV [m.a6u[i].ls[j].t.uid]) (m:=1) rfl rfl (fun a' c'=>uh) (fun w l=>(l.ownN (t:=27) ud).2.2.1) rfl rfl rfl (iJ _) (by show((d j).length+1)*8<=_;have:=S j;omega) (by show(d j).length+1<=9223372036854775807;have:=S j;omega) rfl ?_;intro Si q7 _;refine fy [10,11,12,13] ?_;refine A5 ?_;refine l8 (i:=(j,u,D)) (j+1,Si,q7) qg qg sub (fun w l=>?_);have e1:(d (j+1)).length=(d j).length+1:=(by rw[o,zg];rfl);simp only;rw[Nu _ _ _ _ _ _ _ _ e1,e1,o,aQ];exact l.drop.drop
   ·rw[h2,zb x7,jk] at o;refine A5 ?_;exact l8 (i:=(j,u,D)) (j+1,u,D) qg qg sub (fun w l=>by simp only;rw[o];exact l.drop)
  ·have M:j=m.a6u[i].ls.length:=(by have:=zu h;omega);have k8:(jR r m.a6u[i].x)∘LM.t=gk r e:=by
    funext x;show jR r m.a6u[i].x x.t=_;rw[Nt,Q]
   have q8:(m.a6u[i].x.lts.filter (jR r m.a6u[i].x)).map LT.uid=d j:=by
    rw[s,M,Qn,Yv,k8,J4];rfl
   have es:bD m.s r=if d j=[] then(m.s,C3,0) else if E6<=m.a6u[i].high then(m.s,C3,13) else(jP m.s i {m.a6u[i].x with lts:=m.a6u[i].x.lts.filter fun x=>!jR r m.a6u[i].x x,high:=m.a6u[i].high+1},{C3 with a6A:=d j},0):=by
    unfold bD;rw[hn];simp only[fj f,q8]
   rw[es];clear es;refine x6 ?_;refine C6 (Z:=[.own (.slice u (d j).length D) 27 1 (nV (d j))]) tk fun F2 T ⟨bs,g⟩=>?_;have k9:n9 F2.heap u (nV (d j)):=A_.rd g ud;clear g;have k:=h0.trans T;have q9:aY U (i8 b) 132 F2.heap:=T.heap _ _ p1;obtain⟨q1,h1⟩:=o9 (decide (d j=[]));refine Y1 ?_;refine f_ ((q_ rfl rfl).eq (v':=.bool q1) (qn (by rw[h1];exact kz.2 (by show(((d j).length:Nat):Int)=0↔_;cases d j<;>simp<;>omega)))) ?_;refine x6 ?_
   cases q1
   ·have k0:d j≠[]:=zu h1.symm;rw[zb k0];refine x6 ?_;obtain⟨q2,h2⟩:=o9 (decide (E6<=m.a6u[i].high));refine E8 ?_;refine r_ (l5 rfl (fun w l=>cT (j:=3) (l.ownN (t:=100) ud).2.2.1 o_ f rfl x7)) ?_;refine f_ ((K_ rfl rfl).eq (v':=.bool q2) (qn ((kz.2 (by show(9223372036854775807:Int)<=_↔9223372036854775807<=_;omega)).trans h2.symm))) ?_;refine x6 ?_
    cases q2
    ·rw[zb (zu h2.symm)];have x3:m.a6u[i].high<9223372036854775807:=W4.1 (zu h2.symm);refine P1 ?_;refine r_ (l5 rfl (fun w l=>cT (j:=4) (l.ownN (t:=100) ud).2.2.1 o_ f rfl x7)) ?_;refine u6 ?_;refine e_ (uf m.a6u[i].ls m.a6u[i].a m.a6u[i].c 120 [i8 U,i8 g5] (Cd b U g5 Y g3 e m r q (OO (d j)) ⟨u,D,none,0⟩ m.a6u[i].ls) (gk r e) (fun x hx=>Ce b U g5 Y g3 e m r q (OO (d j)) ⟨u,D,none,0⟩ hu m.a6u[i].ls x hx (h8 _ hx)) qb) ?pre ?_;(case pre=>exact fun h z g=>⟨z _ _ q9,z _ _ (T.heap _ _ p5),⟨z _ _ (T.heap _ _ p2),z _ _ (T.heap _ _ p3),L6 g,(h6.a6A.le k.heap).le z⟩,Mn.le z (Mn.le k.heap (J _ (zm f)))⟩);rintro v A ⟨rfl,rfl⟩;refine A5 ?_;refine A6 (C:=bR) (v:=.slice m.a6u[i].a (m.a6u[i].ls.filter fun x=>!gk r e x).length m.a6u[i].c) {m.a6u[i] with ls:=m.a6u[i].ls.filter fun x=>!gk r e x} o_ f (j:=4) rfl ?_;refine x6 ?_;obtain⟨LS,h4⟩:=o9 (m.a6u[i].ls.filter fun x=>!gk r e x);rw[<-h4];obtain⟨p,q0⟩:∃p:BM,p={m.a6u[i] with ls:=LS}:=⟨_,rfl⟩;have X:i<(m.a6u.set i p).length:=(by simpa using f);have q3:(m.a6u.set i p)[i]=p:=Zb _;have x0:(m.a6u.set i p)[i]? =some p:=(by rw[zd X,q3]);have V:p.a=m.a6u[i].a/\p.ls=LS/\p.c=m.a6u[i].c/\p.next=m.a6u[i].next/\p.high=m.a6u[i].high/\p.val=m.a6u[i].val/\p.name=m.a6u[i].name:=(by subst q0;exact⟨rfl,rfl,rfl,rfl,rfl,rfl,rfl⟩);rw[<-q0];refine E8 ?_;refine r_ (l5 (v:=.int .u64 (m.a6u[i].high:Nat)) rfl (fun w l=>Fw (j:=3) (l.ownN (t:=100) ud).2.2.1 o_ p x0 (by rw[<-V.2.2.2.2.1];rfl) x7)) ?_;refine f_ ((L9 rfl rfl qb).eq (v':=.int .u64 ((m.a6u[i].high+1:Nat):Int)) (by congr 1)) ?_;refine A5 ?_;refine A6 (C:=bR) (v:=.int .u64 ((m.a6u[i].high+1:Nat):Int)) {p with high:=m.a6u[i].high+1} o_ X (j:=3) (by rw[q3];rfl) ?_;refine x6 ?_;rw[Jq];refine D0 ?_;refine D5 {m with a6u:=m.a6u.set i {p with high:=m.a6u[i].high+1}} (OO (d j)) ⟨u,D,none,0⟩ rfl rfl k (fun w l=>?_) ?_ (fun _=>rfl) (fun x hx=>?_) ⟨k9,n9.nil _ _⟩
     ·rw[uQ];show Hp F2 w (_::U1 m.sa m.a6w m.sc::R5 m.ha m.a6v m.hc::U0 m.ba (m.a6u.set i {p with high:=m.a6u[i].high+1}) m.bc::(X7 (m.a6u.set i {p with high:=m.a6u[i].high+1})++R));rw[nS];exact uR {p with high:=m.a6u[i].high+1} f V.1 V.2.1 V.2.2.1 (l.perm ((jj (l₁:=[_]) (l₂:=[_,_,_,_])).append_right _))
     ·show({m.s with a6u:=_}:ML)=_;unfold jP;rw[bg];have q4:LS.map LM.t=m.a6u[i].x.lts.filter fun x=>!jR r m.a6u[i].x x:=by
       rw[h4];show _=(m.a6u[i].ls.map LM.t).filter _;rw[Yv];congr 1;refine List.filter_congr fun x _=>?_;rw[<-k8];rfl
      simp only[BM.x,V.2.1,V.2.2.2.1,V.2.2.2.2.2.1,V.2.2.2.2.2.2,q4]
     ·rcases Qj hx with h5|rfl
      ·exact Mn.le k.heap (J x h5)
      ·intro y hy;have q5:y∈LS:=V.2.1▸hy;rw[h4] at q5;exact(J _ (zm f) y (Q0.1 q5).1).le k.heap
    ·rw[zr (zy h2.symm)];refine D0 ?_;refine D5 m (OO (d j)) ⟨u,D,none,0⟩ rfl rfl k (fun w l=>?_) rfl qx (fun b g=>Mn.le k.heap (J b g)) ?_
     ·exact l.perm (((M0 f).symm.append_right R).append_left [_,_,_,_])
     ·exact⟨k9,n9.nil _ _⟩
   ·have k0:d j=[]:=zy h1.symm;rw[zr k0];refine D0 ?_;refine D5 m C3 ⟨u,D,none,0⟩ rfl rfl k (fun w l=>?_) rfl (fun _=>rfl) (fun b g=>Mn.le k.heap (J b g)) (M8.nil _ _ _ rfl rfl);rw[k0] at l;exact l.perm (((M0 f).symm.append_right R).append_left [_,_,_,_])
def qD(n m:Nat):∀l:List LT,(fz n m l).length=l.length
 |[]=>rfl
 |x::t=>by rw[fz,z1,qD,z1]
def xv(m:Nat):∀(l:List LT) (n j:Nat),(fz n m l)[j]? =l[j]?.map fun x=>{x with uid:=n+j,mod:=m}
 |[],_,_=>by simp[fz]
 |x::t,n,0=>by simp[fz]
 |x::t,n,j+1=>by
  rw[fz,List.getElem?_cons_succ,List.getElem?_cons_succ,xv m t (n+1) j];rw[show n+1+j=n+(j+1) by omega]
def EK{n m:Nat}{l:List LT}{j:Nat}(a:j<l.length):(fz n m l).take (j+1)=(fz n m l).take j++[{l[j] with uid:=n+j,mod:=m}]:=by
 have b:j<(fz n m l).length:=by rw[qD];exact a
 rw[jy b];congr 2;have c:=xv m l n j;rw[zd b,zd a] at c;exact Qz c
def EL{α:Type}(q:α->Bool){l:List α}{j:Nat}(a:j<l.length):(l.take (j+1)).filter q=(l.take j).filter q++if q l[j] then[l[j]] else[]:=L7 q a
structure CpS where
 N:List LM
 a:qr
 c:Nat
 ua:qr
 uc:Nat
def X_(N:List LM):zz:=N.map fun x=>x.t.uid
def sS(N:List LM)(y:LM):X_ (N++[y])=X_ N++[y.t.uid]:=by simp[X_]
def sT(N:List LM):(X_ N).length=N.length:=by simp[X_]
abbrev RT(v:Nat)(u:zz):OC:={C3 with val:=v,a6A:=u}
def IE(b:Nat)(m:MM)(r:RQ)(q:QL)(v:Nat)(u:zz)(ua:qr)(uc n:Nat)(h:u.length=n):T3 b m r q (RT v u) ⟨ua,uc,none,0⟩=.blk b (.cells (iQ m++eN r q++([.int .i64 0,.int .u64 ((0:Nat):Int),.int .u64 (v:Nat),.slice ua n uc,.slice none 0 0]:zq)).toArray 136):=by subst h;rfl
def uS(r:RQ)(most:Nat)(x:LM):Bool:=ii r.a6A most x.t.uid
def Nv(b:Nat)(m:MM)(r:RQ)(q:QL)(hm:m.a6u.length<=1000)(x2:∀x∈m.a6u,x.ls.length<=1000/\x.next<=4294967296/\x.high<=E6/\∀y∈x.ls,y.t.a6J.length<=1000000)(hu:r.a6A.length<=1000000):Ih 64 b m r q (ir m.s r):=by
 refine A0 156 func64 rfl rfl rfl ?_;rintro F R ⟨S,y3⟩;refine u6 ?_
 cases hn:named m.s r with
 |none=>
  have es:ir m.s r=(m.s,C3,6):=by unfold ir;rw[hn]
  rw[es];refine u6 ?_;refine c_ rfl (eE b m r q C3 N8 hm) (fun h hh g=>⟨L6 g,by obtain⟨bs,g⟩:=g;exact A_.rd g ud⟩) rfl ?_;rw[hn,show gh m none=.tuple #[.pointer none,.bool false] from rfl];refine Ot ?_;exact D5 m C3 N8 rfl rfl (l9.le_refl _) i_ rfl qx S (M8.zero _)
 |some i=>
  have U:=qe hn;obtain⟨x3,v7,v8,z0⟩:=x2 _ (zm U);refine u6 ?_;refine c_ rfl (eE b m r q C3 N8 hm) (fun h hh g=>⟨L6 g,by obtain⟨bs,g⟩:=g;exact A_.rd g ud⟩) rfl ?_;rw[hn,show gh m (some i)=.tuple #[dC m i,.bool true] from rfl];refine wk 7 ?_;refine D8 [3,8] [9] [T3 b m r q C3 N8] 11 ?_;refine wd [0,1,2,3,4,5,6,7,8] ?_;refine h_ 9 rfl i6 ?_;refine c_ rfl (oY m r.tz hm) (fun h hh ⟨bs,g⟩=>A_.rd g ud) rfl ?_;refine D7 [10] ?_;refine bQ ?_ ?_<;>intro h
  ·have es:ir m.s r=(m.s,C3,21):=(by unfold ir;rw[hn];simp only;rw[gS (zy h)]);rw[es];refine D0 ?_;exact D5 m C3 N8 rfl rfl (l9.le_refl _) i_ rfl qx S (M8.zero _)
  obtain⟨k,hk,f,z2⟩:=gT (zu h);obtain⟨v9,w0,w1,w2⟩:=x2 _ (zm f);rw[hk];refine u6 ?_;refine C5 (H':=T3 b m r q C3 N8::U1 m.sa m.a6w m.sc::R5 m.ha m.a6v m.hc::U0 m.ba m.a6u m.bc::O7 m.a6u[i].a m.a6u[i].ls m.a6u[i].c::(X7 (m.a6u.eraseIdx i)++R)) (fun w d=>d.perm (((M0 U).append_right R).append_left [_,_,_,_])) ?_;refine A5 ?_;refine e_ (qi b m i U x3) ?pre ?_;(case pre=>exact fun h hh ⟨bs,g⟩=>⟨A_.rd g ud,A_.rd g ud⟩);rintro v A ⟨g2,g3,rfl,rfl⟩;refine u6 ?_;refine C6 (Z:=[.blk g3 (.cells #[.int .u64 (ah m.a6u[i].ls:Nat)] 27),.blk g2 (.cells #[i8 b] 132)]) tk fun F1 u g=>?_;have p3:aY g3 (.int .u64 (ah m.a6u[i].ls:Nat)) 27 F1.heap:=L6 g;have p2:aY g2 (i8 b) 132 F1.heap:=L6 g;clear g;refine B7 (a:=m.ba) (n:=m.a6u.length) (c:=m.bc) (sz:=5) (xs:=fv m.a6u) (te:=100) ud fun _ _ h8=>?_;have h8:=h8 qb;refine E8 ?_;refine r_ (l5 rfl (fun w d=>cT (j:=4) (d.ownN (t:=100) ud).2.2.1 o_ U rfl x7)) ?_;refine A5 ?_;refine B7 (a:=m.a6u[i].a) (n:=m.a6u[i].ls.length) (c:=m.a6u[i].c) (sz:=5) (xs:=qW m.a6u[i].ls) (te:=156) ud fun _ _ x5=>?_;refine P8 156 5 ?_;obtain⟨J,k8⟩:=o9 (ah m.a6u[i].ls);rw[<-k8] at p3;obtain⟨D,M⟩:∃D:Nat->List LM,∀j,D j=(m.a6u[i].ls.take j).filter (uS r J):=⟨_,fun _=>rfl⟩;have k9:D 0=[]:=by rw[M];rfl
  have V:∀j,(D j).length<=1000:=fun j=>by
   rw[M];refine j9 (Q9 _ _) (j9 (List.length_take_le' _ _) x3)
  refine P7 (fun j (T:qr) (X:Nat)=>j<=m.a6u[i].ls.length) (fun j T X=>[(0,i8 b),(5,r7 k),(6,.slice T (D j).length X),(7,iV g2 g3),(38,.slice m.a6u[i].a m.a6u[i].ls.length m.a6u[i].c),(39,r7 (m.a6u[i].ls.length)),(40,r7 j)])
   (fun j T X=>O7 T (D j) X::T3 b m r q C3 N8::U1 m.sa m.a6w m.sc::R5 m.ha m.a6v m.hc::U0 m.ba m.a6u m.bc::O7 m.a6u[i].a m.a6u[i].ls m.a6u[i].c::(X7 (m.a6u.eraseIdx i)++R)) (fun j _ _=>m.a6u[i].ls.length-j) 0 none 0 (zp _) (by rw[k9];exact sub) (fun w d=>by rw[k9];exact d) ?_
  rintro j T X hj;refine T2 ?_ ?_<;>intro h
  ·have p:j<m.a6u[i].ls.length:=(by have:=zy h;omega);have x5:=x5 qb;refine u6 ?_;refine r_ (p9 rfl (fun w d=>bK (C:=R7) (l:=m.a6u[i].ls) (q:=((j:Nat):Int).toNat*5) (d.ownN (t:=156) (a:=m.a6u[i].a) ud).2.2.1 A8 qp p x7) (A8 _)) ?_;refine i7 rfl ?_;intro g9;refine E8 ?_;refine A4 (ps:=[]) _ rfl rfl rfl (lG b g2 g3 J m r q C3 N8 hu m.a6u[i].ls[j]) i_ (fun h hh g=>⟨hh _ _ p2,hh _ _ p3,L6 g,(y3.a6A.le u.heap).le hh⟩) rfl ?_;rintro v A ⟨rfl,rfl⟩;refine x6 ?_;have z:=EL (uS r J) p;rw[<-M,<-M] at z;refine p7 rfl ?_ ?_<;>intro h2
   ·rw[show uS r J m.a6u[i].ls[j]=true from h2,zr rfl] at z;refine A5 ?_;refine D2 R7 m.a6u[i].ls[j] rfl ?_;intro a49 _;refine u7 R7 (l:=D j) (m:=[m.a6u[i].ls[j]]) A8 nD (by show((D j).length+1)*64<=_;have:=V j;omega) ?_ rfl rfl (fun _ _=>uh) (fun w d=>(d.ownN (t:=156) ud).2.2.1) (by have:=V j;show(D j).length+1<=9223372036854775807;omega);intro u0 u1 _;rw[<-z];refine E8 ?_;exact l8 (i:=(j,T,X)) (j+1,u0,u1) qg qg sub (fun w d=>d.drop.drop)
   ·rw[show uS r J m.a6u[i].ls[j]=false from h2,zb x7,jk] at z;refine A5 ?_;rw[<-z];exact l8 (i:=(j,T,X)) (j+1,T,X) qg qg sub (fun w d=>d.drop)
  ·have p:j=m.a6u[i].ls.length:=(by have:=zu h;omega);obtain⟨e,h7⟩:=o9 (D j);have v4:e.length<=1000:=(by rw[h7];exact V j);have q8:∀x∈e,x∈m.a6u[i].ls:=fun x hx=>by
    rw[h7,M] at hx;exact Jb (Q0.1 hx).1
   have x9:e.map LM.t=m.a6u[i].x.lts.filter (Y3 r m.a6u[i].x):=by
    rw[h7,M,p,Qn];show _=(m.a6u[i].ls.map LM.t).filter _;rw[Yv];congr 1;refine List.filter_congr fun x _=>?_;show ii r.a6A J x.t.uid=ii r.a6A (wi m.a6u[i].x) x.t.uid;rw[qf,k8]
   have es:ir m.s r=if e.map LM.t=[] then(m.s,{C3 with val:=m.a6u[k].val},0) else if 32<m.a6u[k].ls.length+e.length then(m.s,{C3 with val:=m.a6u[k].val},7) else if eX+1<m.a6u[k].next+e.length\/E6<=m.a6u[k].high then(m.s,{C3 with val:=m.a6u[k].val},13)
     else(jP m.s k {m.a6u[k].x with high:=m.a6u[k].high+1,next:=m.a6u[k].next+e.length,lts:=m.a6u[k].x.lts++fz m.a6u[k].next (m.a6u[k].high+1) (e.map LM.t)},{C3 with val:=m.a6u[k].val,a6A:=(fz m.a6u[k].next (m.a6u[k].high+1) (e.map LM.t)).map LT.uid},0):=by
    unfold ir;rw[hn];simp only;rw[z2];simp only[fj U,fj f,<-x9,kg,BM.x]
   rw[es,<-h7];clear es;refine x6 ?_;refine C5 (H':=O7 T e X::T3 b m r q C3 N8::U1 m.sa m.a6w m.sc::R5 m.ha m.a6v m.hc::U0 m.ba m.a6u m.bc::O7 m.a6u[k].a m.a6u[k].ls m.a6u[k].c::(X7 (m.a6u.eraseIdx k)++R)) (fun w d=>d.perm ((((M0 U).symm.trans (M0 f)).append_right R).append_left [_,_,_,_,_])) ?_;refine wk 12 ?_;refine r_ (l5 rfl (fun w d=>cT (j:=1) (d.ownN (t:=100) ud).2.2.1 o_ f rfl x7)) ?_;refine P1 ?_;obtain⟨q1,h1⟩:=o9 (decide (e.map LM.t=[]));refine A5 ?_;refine f_ ((q_ rfl rfl).eq (v':=.bool q1) (qn (by rw[h1];exact kz.2 (by show((e.length:Nat):Int)=0↔_;cases e<;>simp<;>omega)))) ?_;refine u6 ?_
   cases q1
   ·have k0:e.map LM.t≠[]:=zu h1.symm;rw[zb k0];refine x6 ?_;obtain⟨q2,h2⟩:=o9 (decide (32<m.a6u[k].ls.length+e.length));refine E8 ?_;refine r_ (l5 rfl (fun w d=>cT (j:=4) (d.ownN (t:=100) ud).2.2.1 o_ f rfl x7)) ?_;refine P1 ?_;refine f_ ((E9 rfl rfl).eq (v':=.bool q2) (qn ((qz).trans h2.symm))) ?_;refine u6 ?_
    cases q2
    case true=>
     rw[zr (zy h2.symm)];refine D0 ?_;refine D5 m {C3 with val:=m.a6u[k].val} N8 rfl rfl u (fun w d=>?_) rfl qx (fun b g=>Mn.le u.heap (S b g)) (M8.nil _ _ _ rfl rfl);exact d.drop.perm (((M0 f).symm.append_right R).append_left [_,_,_,_])
    rw[zb (zu h2.symm)];obtain⟨q3,h3⟩:=o9 (decide (eX+1<m.a6u[k].next+e.length));obtain⟨q4,h4⟩:=o9 (decide (E6<=m.a6u[k].high));refine x6 ?_;refine x8 [(0,i8 b),(6,.slice T e.length X),(10,dC m k),(81,.bool (q3||q4))] (O7 T e X::T3 b m r q (RT m.a6u[k].val []) N8::U1 m.sa m.a6w m.sc::R5 m.ha m.a6v m.hc::U0 m.ba m.a6u m.bc::O7 m.a6u[k].a m.a6u[k].ls m.a6u[k].c::(X7 (m.a6u.eraseIdx k)++R)) ?_ ?_
    ·cases q3
     all_goals (
      refine E8 ?_;refine r_ (l5 rfl (fun w d=>cT (j:=2) (d.ownN (t:=100) ud).2.2.1 o_ f rfl x7)) ?_;refine P1 ?_;refine f_ ((E9 rfl rfl).eq (qn ((kz.2 (by show(4294967296:Int)<_↔4294967296<_;omega)).trans h3.symm))) ?_;refine P1 ?_;(first|refine u_ ?_|(refine v_ ?_;refine r_ (l5 rfl (fun w d=>cT (j:=3) (d.ownN (t:=100) ud).2.2.1 o_ f rfl x7)) ?_));(first|refine u_ ?_|(refine v_ ?_;refine f_ ((K_ rfl rfl).eq (qn ((kz.2 (by show(9223372036854775807:Int)<=_↔9223372036854775807<=_;omega)).trans h4.symm))) ?_));refine A5 ?_)
     all_goals exact p_ sub i_
    refine O_ ?_ ?_<;>intro h9
    ·have kk:eX+1<m.a6u[k].next+e.length\/E6<=m.a6u[k].high:=by
      rw[Zh] at h9;rcases h9 with k|k
      ·exact .inl (zy (h3.symm.trans k))
      ·exact .inr (zy (h4.symm.trans k))
     rw[zr kk];refine D0 ?_;refine D5 m {C3 with val:=m.a6u[k].val} N8 rfl rfl u (fun w d=>?_) rfl qx (fun b g=>Mn.le u.heap (S b g)) (M8.nil _ _ _ rfl rfl);exact d.drop.perm (((M0 f).symm.append_right R).append_left [_,_,_,_])
    rw[Zw] at h9;have kn:¬eX+1<m.a6u[k].next+e.length:=zu (h3.symm.trans h9.1);have kh:¬E6<=m.a6u[k].high:=zu (h4.symm.trans h9.2);rw[zb (fun k=>k.elim kn kh)];have w3:m.a6u[k].next+e.length<=4294967296:=Nat.not_lt.1 kn;have w4:m.a6u[k].high<9223372036854775807:=W4.1 kh;refine E8 ?_;refine r_ (l5 rfl (fun w d=>cT (j:=3) (d.ownN (t:=100) ud).2.2.1 o_ f rfl x7)) ?_;refine f_ ((L9 rfl rfl qb).eq (v':=.int .u64 ((m.a6u[k].high+1:Nat):Int)) (by congr 1)) ?_;refine A5 ?_;refine A6 (C:=bR) {m.a6u[k] with high:=m.a6u[k].high+1} o_ f (j:=3) rfl ?_;refine E8 ?_;obtain⟨Q,o⟩:∃Q:Nat->List LM->qr->Nat->BM,∀j N a c,Q j N a c=⟨m.a6u[k].name,m.a6u[k].val,m.a6u[k].next+j,m.a6u[k].high+1,m.a6u[k].ls++N,a,c⟩:=⟨_,fun _ _ _ _=>rfl⟩;have q6:∀j N a c,(m.a6u.set k (Q j N a c))[k]? =some (Q j N a c):=fun j N a c=>(by rw[zd (by simpa using f),Zb]);obtain⟨nl,q7⟩:=o9 (fz m.a6u[k].next (m.a6u[k].high+1) (e.map LM.t));refine P8 27 1 ?_;refine wt (fun j (Fj:l9) (s:CpS)=>j<=e.length/\F1.le Fj/\s.N.length=j/\s.N.map LM.t=nl.take j/\iP s.N Fj.heap) (fun j _ s=>[(0,i8 b),(10,dC m k),(105,.slice T e.length X),(106,r7 e.length),(107,r7 j)]) (fun _ Fj _=>Fj)
     (fun j _ s=>O7 T e X::.own (.slice s.ua (X_ s.N).length s.uc) 27 1 (nV (X_ s.N))::T3 b m r q (RT m.a6u[k].val (X_ s.N)) ⟨s.ua,s.uc,none,0⟩::U1 m.sa m.a6w m.sc::R5 m.ha m.a6v m.hc::.own (.slice m.ba m.a6u.length m.bc) 100 5 (fv (m.a6u.set k (Q j s.N s.a s.c)))::O7 s.a (m.a6u[k].ls++s.N) s.c::(X7 (m.a6u.eraseIdx k)++R)) (fun j _ _=>e.length-j) 0 F1 ⟨[],m.a6u[k].a,m.a6u[k].c,none,0⟩ ⟨zp _,l9.le_refl _,rfl,rfl,fun _ h=>by cases h⟩ sub rfl (fun w d=>?_) ?_
    ·rw[o];simp only[jk,Zk];exact d.perm (List.Perm.swap _ _ _)
    rintro j Fj ⟨N,na,nc,ua,uc⟩ ⟨hj,q0,y0,q5,x0⟩;simp only at y0 q5 x0;refine T2 ?_ ?_<;>intro h
    ·have p:j<e.length:=(by have:=zy h;omega);refine B7 (a:=T) (n:=e.length) (c:=X) (sz:=5) (xs:=qW e) (te:=156) ud fun _ _ q9=>?_;have q9:=q9 qb;have u2:n9 Fj.heap e[j].a (fV e[j].t.a6J):=(S _ (zm U) _ (q8 _ (zm p))).le (u.trans q0).heap;have u8:=z0 _ (q8 _ (zm p));refine u6 ?_;refine r_ (p9 rfl (fun w d=>bK (C:=R7) (l:=e) (q:=((j:Nat):Int).toNat*5) (d.ownN (t:=156) (a:=T) ud).2.2.1 A8 qp p x7) (A8 _)) ?_;refine i7 rfl ?_;intro x1;refine u6 ?_;refine D8 [3,7] [9,10,12,14,16] [.own (.slice m.ba m.a6u.length m.bc) 100 5 (fv (m.a6u.set k (Q j N na nc)))] 17 ?_;refine wd [0,1,2] ?_;refine o7 3 rfl R6 (l5 (v:=.int .u64 ((m.a6u[k].next+j:Nat):Int)) rfl (fun w d=>Fw (j:=2) (d.ownN (t:=100) ud).2.2.1 o_ (Q j N na nc) (q6 _ _ _ _) (by rw[o];rfl) x7)) G3 rfl rfl rfl i6 ?_;refine wd [4,5,6] ?_;refine o7 7 rfl R6 (l5 (v:=.int .u64 ((m.a6u[k].high+1:Nat):Int)) rfl (fun w d=>Fw (j:=3) (d.ownN (t:=100) ud).2.2.1 o_ (Q j N na nc) (q6 _ _ _ _) (by rw[o];rfl) x7)) G3 rfl rfl rfl i6 ?_;refine wd [8] ?_;refine h_ 9 rfl i6 ?_;refine r_ (fP rfl ud rfl) ?_;refine fy [11] ?_;refine h_ 10 rfl i6 ?_;refine e_ (ab e[j].t.a6J e[j].a e[j].c qb) (fun h hh _=>u2.le hh) ?_;rintro v A ⟨fa,fc,rfl,rfl⟩;refine fy [12,13,14,15,16] ?_;obtain⟨Y,hY⟩:∃Y:LM,Y=⟨{e[j].t with uid:=m.a6u[k].next+j,mod:=m.a6u[k].high+1},fa,fc⟩:=⟨_,rfl⟩;refine C5 (H':=B0 fa e[j].t.a6J fc::.blk x1 (.cells (R7 Y).toArray 156)::O7 T e X::.own (.slice ua (X_ N).length uc) 27 1 (nV (X_ N))::T3 b m r q (RT m.a6u[k].val (X_ N)) ⟨ua,uc,none,0⟩::U1 m.sa m.a6w m.sc::R5 m.ha m.a6v m.hc::.own (.slice m.ba m.a6u.length m.bc) 100 5 (fv (m.a6u.set k (Q j N na nc)))::O7 na (m.a6u[k].ls++N) nc::(X7 (m.a6u.eraseIdx k)++R)) (fun w d=>by rw[hY];exact d) ?_;refine C6 (Z:=[B0 fa e[j].t.a6J fc]) tk fun F3 h0 ⟨bs,g⟩=>?_;have v0:n9 F3.heap Y.a (fV Y.t.a6J):=(by rw[hY];exact A_.rd g ud);clear g;have w5:Y.t.uid=m.a6u[k].next+j:=(by rw[hY]);refine x6 ?_;refine D8 [4,5] [6,7,10] [.own (.slice m.ba m.a6u.length m.bc) 100 5 (fv (m.a6u.set k (Q j N na nc))),.blk x1 (.cells (R7 Y).toArray 156)] 11 ?_;refine wd [0,1,2,3] ?_;refine o7 4 rfl R6 (l5 (v:=.slice na (m.a6u[k].ls++N).length nc) rfl (fun w d=>Fw (j:=4) (d.ownN (t:=100) ud).2.2.1 o_ (Q j N na nc) (q6 _ _ _ _) (by rw[o];rfl) x7)) G3 rfl rfl rfl i6 ?_;refine wd [5] ?_;refine h_ 6 rfl i6 ?_;refine D2 R7 Y rfl ?_;intro v5 _;refine V2 ?_;refine h_ 7 rfl i6 ?_;refine u7 R7 (l:=m.a6u[k].ls++N) (m:=[Y]) A8 nD (by show((m.a6u[k].ls++N).length+1)*64<=_;rw[zg];omega) ?_ rfl rfl (fun _ _=>uh) (fun w d=>(d.ownN (t:=156) ud).2.2.1) (by show(m.a6u[k].ls++N).length+1<=9223372036854775807;rw[zg];omega);intro vN O _;rw[ky];refine D7 [8,9] ?_;refine h_ 10 rfl i6 ?_;refine A6 (C:=bR) (v:=.slice vN (m.a6u[k].ls++(N++[Y])).length O) (l:=m.a6u.set k (Q j N na nc)) (i:=k) ⟨m.a6u[k].name,m.a6u[k].val,m.a6u[k].next+j,m.a6u[k].high+1,m.a6u[k].ls++(N++[Y]),vN,O⟩ o_ (by simpa using f) (j:=4) (by rw[Zb,o];rfl) ?_;refine D7 [] ?_;rw[Jq,<-o];refine x6 ?_
     refine D8 [5,7] [8,9,13] [.blk x1 (.cells (R7 Y).toArray 156),T3 b m r q (RT m.a6u[k].val (X_ N)) ⟨ua,uc,none,0⟩] 14 ?_;refine wd [0,1,2,3,4,5,6,7] ?_;refine h_ 8 rfl i6 ?_;refine y6 (ps:=[(0,.tmp 142)]) (vs:=[(0,.int .u64 (Y.t.uid:Nat))]) (xs:=nV [Y.t.uid]) rfl rfl rfl rfl rfl rfl rfl rfl ?_;intro v6 _;refine V2 ?_;refine h_ 9 rfl i6 ?_;refine C4 (news:=nV [Y.t.uid]) (m:=1) rfl rfl (fun a' c'=>uh) (fun w d=>(d.ownN (t:=27) ud).2.2.1) rfl rfl rfl (iJ _) (by show((X_ N).length+1)*8<=_;rw[sT];omega) (by show(X_ N).length+1<=9223372036854775807;rw[sT];omega) rfl ?_;intro y1 y2 _;refine D7 [10,11,12,13] ?_;refine E8 ?_;refine r_ (l5 (v:=.int .u64 ((m.a6u[k].next+j:Nat):Int)) rfl (fun w d=>Fw (j:=2) (d.ownN (t:=100) ud).2.2.1 o_ (Q j (N++[Y]) vN O) (q6 _ _ _ _) (by rw[o];rfl) x7)) ?_;refine f_ ((L9 rfl rfl qb).eq (v':=.int .u64 ((m.a6u[k].next+(j+1):Nat):Int)) (by congr 1)) ?_;refine A5 ?_;refine A6 (C:=bR) (v:=.int .u64 ((m.a6u[k].next+(j+1):Nat):Int)) (l:=m.a6u.set k (Q j (N++[Y]) vN O)) (i:=k) ⟨m.a6u[k].name,m.a6u[k].val,m.a6u[k].next+(j+1),m.a6u[k].high+1,m.a6u[k].ls++(N++[Y]),vN,O⟩ o_ (by simpa using f) (j:=2) (by rw[Zb,o];rfl) ?_;refine x6 ?_;rw[Jq,<-o];refine A5 ?_;refine Q_ (i:=(j,Fj,(⟨N,na,nc,ua,uc⟩:CpS))) (j+1,F3,⟨N++[Y],vN,O,y1,y2⟩) ⟨p,q0.trans h0,by simp[y0],?_,fun x hx=>?_⟩ qg sub rfl (fun w d=>?_)
     ·simp only;rw[Qx,q5,q7,EK (by simpa using p),hY];simp
     ·rcases kw.1 hx with h6|h6
      ·exact(x0 x h6).le h0.heap
      ·obtain rfl:=z7.1 h6;exact v0
     ·have e1:(X_ (N++[Y])).length=(X_ N).length+1:=(by rw[sS,zg];rfl);simp only;rw[IE _ _ _ _ _ _ _ _ _ e1,e1,sS,aQ];exact d.drop.drop.drop
    ·have p:j=e.length:=(by have:=zu h;omega);have v1:nl.take j=nl:=jm (by rw[q7,qD,kg];omega);rw[v1] at q5;have v2:X_ N=nl.map LT.uid:=(by rw[<-q5,J4];rfl);refine x6 ?_;refine C6 (Z:=[.own (.slice ua (X_ N).length uc) 27 1 (nV (X_ N))]) tk fun F3 h0 ⟨bs,g⟩=>?_;have v3:n9 F3.heap ua (nV (X_ N)):=A_.rd g ud;clear g;refine D0 ?_;refine D5 {m with a6u:=m.a6u.set k (Q j N na nc)} (RT m.a6u[k].val (X_ N)) ⟨ua,uc,none,0⟩ rfl rfl ((u.trans q0).trans h0) (fun w d=>?_) ?_ (fun _=>by rw[v2,q7]) (fun x hx=>?_) ⟨v3,n9.nil _ _⟩
     ·rw[uQ];show Hp F3 w (_::U1 m.sa m.a6w m.sc::R5 m.ha m.a6v m.hc::U0 m.ba (m.a6u.set k (Q j N na nc)) m.bc::(X7 (m.a6u.set k (Q j N na nc))++R));rw[nS];exact uR (Q j N na nc) f (by rw[o]) (by rw[o]) (by rw[o]) d.drop
     ·show({m.s with a6u:=_}:ML)=_;unfold jP;rw[bg,o];simp only[BM.x,Qx,q5,q7,p]
     ·rcases Qj hx with h5|rfl
      ·exact Mn.le ((u.trans q0).trans h0).heap (S x h5)
      ·rw[o];intro y hy;rcases kw.1 hy with h6|h6
       ·exact(S _ (zm f) y h6).le ((u.trans q0).trans h0).heap
       ·exact(x0 y h6).le h0.heap
   ·rw[zr (zy h1.symm)];refine D0 ?_;refine D5 m {C3 with val:=m.a6u[k].val} N8 rfl rfl u (fun w d=>?_) rfl (fun _=>rfl) (fun b g=>Mn.le u.heap (S b g)) (M8.nil _ _ _ rfl rfl);exact d.drop.perm (((M0 f).symm.append_right R).append_left [_,_,_,_])
abbrev OP:=List LT×zz×zz×Bool
def bI(a q:OP):OP:=(a.1++q.1,a.2.1++q.2.1,a.2.2.1++q.2.2.1,a.2.2.2||q.2.2.2)
def EM{r:RQ}{b:BX}{x:LT}{t:List LT}{a:OP}(h:Y3 r b x=false):(I_ r b (x::t)).map (bI a)=(I_ r b t).map (bI (a.1++[x],a.2)):=by
 rw[I_,zr h,J7];congr 1;funext q;simp[bI]
def xw{r:RQ}{b:BX}{x:LT}{t:List LT}{a:OP}(h:¬Y3 r b x=false)(c:r.hasS=true/\r.a6D<x.mod):(I_ r b (x::t)).map (bI a)=(I_ r b t).map (bI (a.1++[x],a.2.1,a.2.2.1++[x.uid],a.2.2.2)):=by
 rw[I_,zb h,zr c,J7];congr 1;funext q;simp[bI]
def zR{r:RQ}{b:BX}{x:LT}{t:List LT}{a:OP}(h:¬Y3 r b x=false)(c:¬(r.hasS=true/\r.a6D<x.mod))(d:(G8 x.a6J r.how r.a6J).2≠0):(I_ r b (x::t)).map (bI a)=none:=by
 rw[I_,zb h,zb c,zr d];rfl
def zS{r:RQ}{b:BX}{x:LT}{t:List LT}{a:OP}(h:¬Y3 r b x=false)(c:¬(r.hasS=true/\r.a6D<x.mod))(d:¬(G8 x.a6J r.how r.a6J).2≠0)(e:(G8 x.a6J r.how r.a6J).1=x.a6J):(I_ r b (x::t)).map (bI a)=(I_ r b t).map (bI (a.1++[x],a.2.1++[x.uid],a.2.2)):=by
 rw[I_,zb h,zb c,zb d,J7];congr 1;funext q;simp[bI,e]
def EN{r:RQ}{b:BX}{x:LT}{t:List LT}{a:OP}(h:¬Y3 r b x=false)(c:¬(r.hasS=true/\r.a6D<x.mod))(d:¬(G8 x.a6J r.how r.a6J).2≠0)(e:¬(G8 x.a6J r.how r.a6J).1=x.a6J):(I_ r b (x::t)).map (bI a)=(I_ r b t).map (bI (a.1++[{x with a6J:=(G8 x.a6J r.how r.a6J).1,mod:=b.high+1}],a.2.1++[x.uid],a.2.2.1,true)):=by
 rw[I_,zb h,zb c,zb d,J7];congr 1;funext q;simp[bI,e]
def Nw(l:List Bs)(how:Int)(m:List Bs):(G8 l how m).1.length<=16:=by
 unfold G8;split
 ·simp
 ·have a:∀o:List Bs,(if 16<o.length then(([]:List Bs),(7:Int)) else(o,0)).1.length<=16:=fun o=>by split<;>simp<;>omega
  exact a _
def xx{m:MM}{i:Nat}(h:i<m.a6u.length):m.a6u.getD i Gz=m.a6u[i]:=by
 rw[z8,zd h];rfl
def lO(m:MM)(i:Nat)(o:Option OP):AR:=match o with
 |none=>(m.s,C3,7)
 |some q=>if q.2.2.2=false then(m.s,{C3 with a6A:=q.2.1,mods:=q.2.2.1},0) else if E6<=(m.a6u.getD i Gz).high then(m.s,C3,13) else(jP m.s i {(m.a6u.getD i Gz).x with lts:=q.1,high:=(m.a6u.getD i Gz).high+1},{C3 with a6A:=q.2.1,mods:=q.2.2.1},0)
structure TR where
 N:List LM
 U:zz
 M:zz
 ch:Bool
 ua:qr
 uc:Nat
 ma:qr
 mc:Nat
abbrev fB(u mo:zz):OC:={C3 with a6A:=u,mods:=mo}
def OQ(b:Nat)(m:MM)(r:RQ)(q:QL)(u a:zz)(ua c:qr)(uc d n k:Nat)(h:u.length=n)(e:a.length=k):T3 b m r q (fB u a) ⟨ua,uc,c,d⟩=.blk b (.cells (iQ m++eN r q++([.int .i64 0,.int .u64 ((0:Nat):Int),.int .u64 ((0:Nat):Int),.slice ua n uc,.slice c k d]:zq)).toArray 136):=by subst h e;rfl
def zT{F:l9}{w:World}{k x y z:As}{l:List BM}{i:Nat}{R:List As}{ls:List LM}(a:i<l.length)(b:ls=l[i].ls)(h:Hp F w (k::x::y::z::O7 l[i].a ls l[i].c::(X7 (l.eraseIdx i)++R))):Hp F w (k::x::y::z::(X7 l++R)):=by
 subst b;exact h.perm (((M0 a).symm.append_right R).append_left [k,x,y,z])
def TS{m:MM}{r:RQ}{q:QL}{o:OC}{y:OL}{b:Bool}(h:b=r.hasS):(OD m r q o y)[18]? =some (.bool b):=by subst h;rfl
def IF(b:Nat)(m:MM)(r:RQ)(q:QL)(hm:m.a6u.length<=1000)(w0:∀x∈m.a6u,x.ls.length<=1000/\x.high<=E6/\∀y∈x.ls,y.t.a6J.length<=1000/\∀f∈y.t.a6J,f.length<=lD)(hu:r.a6A.length<=1000000)(b1:r.a6J.length<=100000)(u8:∀f∈r.a6J,f.length<=lD):Ih 62 b m r q (dK m.s r):=by
 refine A0 163 func62 rfl rfl rfl ?_;rintro F R ⟨k0,y0⟩;refine u6 ?_
 cases hn:named m.s r with
 |none=>
  have es:dK m.s r=(m.s,C3,6):=by unfold dK;rw[hn]
  rw[es];refine u6 ?_;refine c_ rfl (eE b m r q C3 N8 hm) (fun h hh e=>⟨L6 e,by obtain⟨bs,e⟩:=e;exact A_.rd e ud⟩) rfl ?_;rw[hn,show gh m none=.tuple #[.pointer none,.bool false] from rfl];refine Ot ?_;exact D5 m C3 N8 rfl rfl (l9.le_refl _) i_ rfl qx k0 (M8.zero _)
 |some i=>
  have o:=qe hn;obtain⟨v0,w1,v1⟩:=w0 _ (zm o);refine u6 ?_;refine c_ rfl (eE b m r q C3 N8 hm) (fun h hh e=>⟨L6 e,by obtain⟨bs,e⟩:=e;exact A_.rd e ud⟩) rfl ?_;rw[hn,show gh m (some i)=.tuple #[dC m i,.bool true] from rfl];refine wk 7 ?_;obtain⟨q1,h1⟩:=o9 (G_ r.a6J);obtain⟨q2,h2⟩:=o9 (decide (r.how<0));obtain⟨q3,h3⟩:=o9 (decide (2<r.how));refine x8 [(0,i8 b),(3,dC m i),(41,.bool (!q1||(q2||q3)))] (T3 b m r q C3 N8::(vp m++R)) ?_ ?_
  ·cases q1<;>cases q2
   all_goals (
    refine al ?_;refine c_ rfl (gU r.a6J q.fa q.fc qb u8) (fun h hh _=>y0.a6J.le hh) rfl ?_;rw[<-h1];refine wk 7 ?_;(first|refine u_ ?_|(refine v_ ?_;refine f_ ((F8 rfl rfl).eb h2) ?_));refine wk 7 ?_;(first|refine u_ ?_|(refine v_ ?_;refine f_ ((E9 rfl rfl).eb h3) ?_));refine u6 ?_)
   all_goals exact p_ sub i_
  refine O_ ?_ ?_<;>intro h5
  ·have hc:G_ r.a6J=false\/r.how<0\/2<r.how:=by
    rw[<-h1]
    revert h5
    cases q1
    ·exact fun _=>.inl rfl
    cases q2
    ·cases q3
     ·intro h6;simp at h6
     ·exact fun _=>.inr (.inr (zy h3.symm))
    ·exact fun _=>.inr (.inl (zy h2.symm))
   have es:dK m.s r=(m.s,C3,1):=(by unfold dK;rw[hn];exact zr hc);rw[es];refine D0 ?_;exact D5 m C3 N8 rfl rfl (l9.le_refl _) i_ rfl qx k0 (M8.zero _)
  have hc:¬(G_ r.a6J=false\/r.how<0\/2<r.how):=by
   rw[<-h1];rintro(k|k|k)
   ·rw[k] at h5;simp at h5
   ·rw[h2,ju k] at h5;cases q1<;>simp at h5
   ·rw[h3,ju k] at h5;cases q1<;>cases q2<;>simp at h5
  have es:dK m.s r=lO m i (I_ r m.a6u[i].x m.a6u[i].x.lts):=by
   unfold dK lO;rw[hn];simp only;rw[zb hc];simp only[fj o,xx o]
   cases I_ r m.a6u[i].x (List.map LM.t m.a6u[i].ls)<;>rfl
  rw[es];clear es;refine x6 ?_;refine C5 (H':=T3 b m r q C3 N8::U1 m.sa m.a6w m.sc::R5 m.ha m.a6v m.hc::U0 m.ba m.a6u m.bc::O7 m.a6u[i].a m.a6u[i].ls m.a6u[i].c::(X7 (m.a6u.eraseIdx i)++R)) (fun w g=>g.perm (((M0 o).append_right R).append_left [_,_,_,_])) ?_;refine B7 (a:=m.ba) (n:=m.a6u.length) (c:=m.bc) (sz:=5) (xs:=fv m.a6u) (te:=100) ud fun _ _ x1=>?_;have x1:=x1 qb;refine E8 ?_;refine r_ (l5 rfl (fun w g=>cT (j:=4) (g.ownN (t:=100) ud).2.2.1 o_ o rfl x7)) ?_;refine e_ (fX (qW m.a6u[i].ls) m.a6u[i].a m.a6u[i].ls.length m.a6u[i].c (AV _) (AW _) qb) ?pre ?_;(case pre=>exact fun h hh ⟨bs,e⟩=>A_.rd e ud);rintro v A ⟨na,nc,rfl,rfl⟩;refine P1 ?_;refine e_ (qi b m i o v0) ?pre ?_;(case pre=>exact fun h hh ⟨bs,e⟩=>⟨A_.rd e ud,A_.rd e ud⟩);rintro v A ⟨g2,g3,rfl,rfl⟩;refine u6 ?_;refine C6 (Z:=[.blk g3 (.cells #[.int .u64 (ah m.a6u[i].ls:Nat)] 27),.blk g2 (.cells #[i8 b] 132)]) tk fun F1 q0 e=>?_;have p3:aY g3 (.int .u64 (ah m.a6u[i].ls:Nat)) 27 F1.heap:=L6 e;have p2:aY g2 (i8 b) 132 F1.heap:=L6 e;clear e;refine E8 ?_;refine r_ (l5 rfl (fun w g=>cT (j:=4) (g.ownN (t:=100) ud).2.2.1 o_ o rfl x7)) ?_;refine A5 ?_;refine B7 (a:=m.a6u[i].a) (n:=m.a6u[i].ls.length) (c:=m.a6u[i].c) (sz:=5) (xs:=qW m.a6u[i].ls) (te:=156) ud fun _ _ y1=>?_;refine P8 27 1 ?_;refine P8 27 1 ?_;obtain⟨d,Q⟩:=o9 (m.a6u[i].ls);rw[<-Q] at v0 v1 y1 p3⊢;obtain⟨X,hX⟩:=o9 (m.a6u[i].x);have w2:X.lts=d.map LM.t:=by rw[hX,Q]
  have y2:ah d=wi X:=by rw[hX,qf,<-Q]
  rw[<-hX,w2];obtain⟨SL,v2⟩:=o9 (I_ r X (d.map LM.t));rw[<-v2];refine wt (fun j (Fj:l9) (s:TR)=>j<=d.length/\F1.le Fj/\s.N.length=d.length/\iP s.N Fj.heap/\s.N.drop j=d.drop j/\s.U.length<=j/\s.M.length<=j/\SL=(I_ r X ((d.drop j).map LM.t)).map (bI ((s.N.take j).map LM.t,s.U,s.M,s.ch)))
   (fun j _ s=>[(0,i8 b),(3,dC m i),(5,.slice na d.length nc),(6,.bool s.ch),(7,iV g2 g3),(53,.slice m.a6u[i].a d.length m.a6u[i].c),(54,r7 d.length),(55,r7 j)]) (fun _ Fj _=>Fj)
   (fun j _ s=>.own (.slice s.ua s.U.length s.uc) 27 1 (nV s.U)::.own (.slice s.ma s.M.length s.mc) 27 1 (nV s.M)::.own (.slice na d.length nc) 156 5 (qW s.N)::T3 b m r q (fB s.U s.M) ⟨s.ua,s.uc,s.ma,s.mc⟩::U1 m.sa m.a6w m.sc::R5 m.ha m.a6v m.hc::U0 m.ba m.a6u m.bc::O7 m.a6u[i].a d m.a6u[i].c::(X7 (m.a6u.eraseIdx i)++R)) (fun j _ _=>d.length-j) 0 F1 ⟨d,[],[],false,none,0,none,0⟩ ⟨zp _,l9.le_refl _,rfl,by rw[Q];exact Mn.le q0.heap (k0 _ (zm o)),rfl,zp _,zp _,?_⟩ sub rfl i_ ?_
  ·rw[v2];show _=(I_ r X (d.map LM.t)).map (bI ([],[],[],false))
   cases I_ r X (d.map LM.t)<;>simp[bI]
  rintro j Fj ⟨N,U,M,ch,ua,uc,J,O⟩ ⟨hj,S,q7,k8,y3,z0,x2,D⟩;simp only at q7 k8 y3 z0 x2 D;refine T2 ?_ ?_<;>intro h
  ·have T:j<d.length:=(by have:=zy h;omega);have q8:j<N.length:=(by omega);have z2:N[j]=d[j]:=by
    have h1:=jh (fun z=>z[0]?) y3;simp only[Zc,Zk] at h1;rw[zd q8,zd T] at h1;exact Qz h1
   have k9:N.drop (j+1)=d.drop (j+1):=by
    have:=jh (List.drop 1) y3;simpa[K6,Wm] using this
   have w3:(d.drop j).map LM.t=d[j].t::(d.drop (j+1)).map LM.t:=(by rw[Qc T];rfl);have u0:(N.take (j+1)).map LM.t=(N.take j).map LM.t++[d[j].t]:=(by rw[jy q8,z2,Qx];rfl);rw[w3] at D;have y1:=y1 qb;have w4:ii r.a6A (ah d) d[j].t.uid=Y3 r X d[j].t:=(by unfold Y3;rw[y2]);obtain⟨a8,v3⟩:=v1 _ (zm T);have v4:n9 Fj.heap d[j].a (fV d[j].t.a6J):=by
    have:=k8 N[j] (zm q8)
    rwa [z2] at this
   refine A5 ?_;refine r_ (p9 rfl (fun w g=>bK (C:=R7) (l:=d) (q:=((j:Nat):Int).toNat*5) (g.ownN (t:=156) (a:=m.a6u[i].a) ud).2.2.1 A8 qp T x7) (A8 _)) ?_;refine i7 rfl ?_;intro g9;refine P1 ?_;refine A4 (ps:=[]) _ rfl rfl rfl (lG b g2 g3 (ah d) m r q (fB U M) ⟨ua,uc,J,O⟩ hu d[j]) i_ (fun h hh e=>⟨hh _ _ (S.heap _ _ p2),hh _ _ (S.heap _ _ p3),L6 e,(y0.a6A.le (q0.trans S).heap).le hh⟩) rfl ?_;rintro v A ⟨rfl,rfl⟩;rw[w4];refine bQ ?_ ?_<;>intro h2
   ·have q9:Y3 r X d[j].t=false:=(by simpa using h2);rw[EM q9] at D;refine A5 ?_;refine Q_ (i:=(j,Fj,(⟨N,U,M,ch,ua,uc,J,O⟩:TR))) (j+1,Fj,⟨N,U,M,ch,ua,uc,J,O⟩) ⟨T,S,q7,k8,k9,Jy z0,Jy x2,?_⟩ qg sub rfl (fun w g=>g.drop);simp only;rw[D,u0]
   have q9:¬Y3 r X d[j].t=false:=(by simpa using h2);obtain⟨q5,h5⟩:=o9 (r.hasS);obtain⟨q6,h6⟩:=o9 (decide (r.a6D<d[j].t.mod));refine x6 ?_;refine x8 [(0,i8 b),(3,dC m i),(5,.slice na d.length nc),(6,.bool ch),(7,iV g2 g3),(8,r7 j),(9,i8 g9),(53,.slice m.a6u[i].a d.length m.a6u[i].c),(54,r7 d.length),(55,r7 j),(65,.bool (q5&&q6))]
    (.blk g9 (.cells (R7 d[j]).toArray 156)::.own (.slice ua U.length uc) 27 1 (nV U)::.own (.slice J M.length O) 27 1 (nV M)::.own (.slice na d.length nc) 156 5 (qW N)::T3 b m r q (fB U M) ⟨ua,uc,J,O⟩::U1 m.sa m.a6w m.sc::R5 m.ha m.a6v m.hc::U0 m.ba m.a6u m.bc::O7 m.a6u[i].a d m.a6u[i].c::(X7 (m.a6u.eraseIdx i)++R)) ?_ ?_
   ·cases q5
    all_goals (
     refine x6 ?_;refine D8 [4,7,12] [] [T3 b m r q (fB U M) ⟨ua,uc,J,O⟩,.blk g9 (.cells (R7 d[j]).toArray 156)] 16 ?_;refine wd [0,1,2,3] ?_;refine o7 4 rfl R6 (fP rfl .del (TS h5)) G3 rfl rfl rfl i6 ?_;refine wd [5,6,7,8,9,10,11,12] ?_;(first|refine s_ 13 ?_|refine t_ 13 ?_|refine G4 13 rfl ((E9 rfl rfl).eq (qn ((qz).trans h6.symm))) rfl rfl rfl rfl rfl rfl i6 ?_);refine wd [14,15] ?_)
    all_goals exact p_ sub i_
   refine O_ ?_ ?_<;>intro h7
   ·rw[jw] at h7;rw[xw q9 ⟨h5.symm.trans h7.1,zy (h6.symm.trans h7.2)⟩] at D;refine x6 ?_;refine D8 [5,7] [8,9,13] [.blk g9 (.cells (R7 d[j]).toArray 156),T3 b m r q (fB U M) ⟨ua,uc,J,O⟩] 14 ?_;refine wd [0,1,2,3,4,5,6,7] ?_;refine h_ 8 rfl i6 ?_;refine y6 (ps:=[(0,.tmp 88)]) (vs:=[(0,.int .u64 (d[j].t.uid:Nat))]) (xs:=nV [d[j].t.uid]) rfl rfl rfl rfl rfl rfl rfl rfl ?_;intro b2 _;refine V2 ?_;refine h_ 9 rfl i6 ?_;refine C4 (news:=nV [d[j].t.uid]) (m:=1) rfl rfl (fun a' c'=>uh) (fun w g=>(g.ownN (t:=27) ud).2.2.1) rfl rfl rfl (iJ _) (by show(M.length+1)*8<=_;omega) (by show M.length+1<=9223372036854775807;omega) rfl ?_;intro w5 w7 _;refine D7 [10,11,12,13] ?_;refine A5 ?_;refine Q_ (i:=(j,Fj,(⟨N,U,M,ch,ua,uc,J,O⟩:TR))) (j+1,Fj,⟨N,U,M++[d[j].t.uid],ch,ua,uc,w5,w7⟩) ⟨T,S,q7,k8,k9,Jy z0,by simp;omega,?_⟩ qg sub rfl (fun w g=>?_)
    ·simp only;rw[D,u0]
    ·have e1:(M++[d[j].t.uid]).length=M.length+1:=(by rw[zg];rfl);simp only;rw[OQ _ _ _ _ _ _ _ _ _ _ _ _ rfl e1,e1,aQ];exact g.drop.drop
   have u1:¬(r.hasS=true/\r.a6D<d[j].t.mod):=by
    rintro⟨k1,k2⟩;rw[h5,h6,k1,ju k2] at h7;simp at h7
   refine x6 ?_;refine D8 [5,7] [8,9,13] [.blk g9 (.cells (R7 d[j]).toArray 156),T3 b m r q (fB U M) ⟨ua,uc,J,O⟩] 14 ?_;refine wd [0,1,2,3,4,5,6,7] ?_;refine h_ 8 rfl i6 ?_;refine y6 (ps:=[(0,.tmp 101)]) (vs:=[(0,.int .u64 (d[j].t.uid:Nat))]) (xs:=nV [d[j].t.uid]) rfl rfl rfl rfl rfl rfl rfl rfl ?_;intro Pn _;refine V2 ?_;refine h_ 9 rfl i6 ?_;refine C4 (news:=nV [d[j].t.uid]) (m:=1) rfl rfl (fun a' c'=>uh) (fun w g=>(g.ownN (t:=27) ud).2.2.1) rfl rfl rfl (iJ _) (by show(U.length+1)*8<=_;omega) (by show U.length+1<=9223372036854775807;omega) rfl ?_;intro p u _;refine D7 [10,11,12,13] ?_;have e1:(U++[d[j].t.uid]).length=U.length+1:=(by rw[zg];rfl);refine C5 (H':=.blk g9 (.cells (R7 d[j]).toArray 156)::.own (.slice p (U++[d[j].t.uid]).length u) 27 1 (nV (U++[d[j].t.uid]))::.own (.slice J M.length O) 27 1 (nV M)::.own (.slice na d.length nc) 156 5 (qW N)::T3 b m r q (fB (U++[d[j].t.uid]) M) ⟨p,u,J,O⟩::U1 m.sa m.a6w m.sc::R5 m.ha m.a6v m.hc::U0 m.ba m.a6u m.bc::O7 m.a6u[i].a d m.a6u[i].c::(X7 (m.a6u.eraseIdx i)++R)) (fun w g=>?_) ?_
   ·rw[OQ _ _ _ _ _ _ _ _ _ _ _ _ e1 rfl,e1,aQ];exact g.drop
   obtain⟨Y,hY⟩:=o9 (G8 d[j].t.a6J r.how r.a6J);refine x6 ?_;refine D8 [1,6,11] [12] [.blk g9 (.cells (R7 d[j]).toArray 156),T3 b m r q (fB (U++[d[j].t.uid]) M) ⟨p,u,J,O⟩] 18 ?_;refine wd [0,1,2,3,4,5,6,7,8,9,10,11] ?_;refine h_ 12 rfl i6 ?_;refine e_ (EI d[j].t.a6J r.a6J r.how d[j].a q.fa d[j].c q.fc qb qb v3 u8) (fun h hh _=>⟨v4.le hh,(y0.a6J.le (q0.trans S).heap).le hh⟩) ?_;rw[<-hY];rintro v A ⟨ya,yc,rfl,rfl⟩;refine D7 [13,14,15,16,17] ?_;refine bQ ?_ ?_<;>intro h8
   ·have x3:(G8 d[j].t.a6J r.how r.a6J).2≠0:=(by rw[<-hY];simpa using h8);rw[zR q9 u1 x3] at D;rw[D,show lO m i none=(m.s,C3,7) from rfl];refine D0 ?_;refine At.weaken (L':=[(2,.int .i64 7)]) (H':=(T3 b m r q (fB (U++[d[j].t.uid]) M) ⟨p,u,J,O⟩::U1 m.sa m.a6w m.sc::R5 m.ha m.a6v m.hc::U0 m.ba m.a6u m.bc::O7 m.a6u[i].a d m.a6u[i].c::(X7 (m.a6u.eraseIdx i)++R))++[.own (.slice p (U++[d[j].t.uid]).length u) 27 1 (nV (U++[d[j].t.uid])),.own (.slice J M.length O) 27 1 (nV M)]) ?_ sub (fun w g=>?_)
    ·refine dW fun F3 h0 ⟨bs,e⟩=>?_;exact D5 m (fB (U++[d[j].t.uid]) M) ⟨p,u,J,O⟩ rfl rfl ((q0.trans S).trans h0) (fun w g=>zT o Q g) rfl qx (fun b e=>Mn.le ((q0.trans S).trans h0).heap (k0 b e)) ⟨A_.rd e ud,A_.rd e ud⟩
    ·have h9:=g.drop.drop;have x5:=h9.perm (jj (l₁:=[_,_]) (l₂:=_::T3 b m r q (fB (U++[d[j].t.uid]) M) ⟨p,u,J,O⟩::U1 m.sa m.a6w m.sc::R5 m.ha m.a6v m.hc::U0 m.ba m.a6u m.bc::O7 m.a6u[i].a d m.a6u[i].c::(X7 (m.a6u.eraseIdx i)++R)));exact x5.drop
   have x3:¬(G8 d[j].t.a6J r.how r.a6J).2≠0:=(by rw[<-hY];simpa using h8);refine x6 ?_;refine B7 (a:=na) (n:=d.length) (c:=nc) (sz:=5) (xs:=qW N) (te:=156) ud fun _ _ v5=>?_;have v5:=v5 qb;have b0:m.a6u[i].high<=9223372036854775807:=w1;refine E8 ?_;refine c_ rfl (Ik Y.1 d[j].t.a6J ya d[j].a yc d[j].c (by rw[hY];exact j9 (Nw _ _ _) qb)) (fun h hh ⟨bs,e⟩=>⟨A_.rd e ud,v4.le hh⟩) rfl ?_;refine T2 ?_ ?_<;>intro x5
   ·have w9:¬(G8 d[j].t.a6J r.how r.a6J).1=d[j].t.a6J:=(by rw[<-hY];simpa using x5);rw[EN q9 u1 x3 w9] at D;refine wk 9 ?_;refine r_ (l5 rfl (fun w g=>cT (j:=3) (g.ownN (t:=100) ud).2.2.1 o_ o rfl x7)) ?_;refine f_ ((L9 rfl rfl qb).eq (v':=.int .u64 ((m.a6u[i].high+1:Nat):Int)) (by congr 1)) ?_;refine A5 ?_;refine A6 (C:=R7) (v:=.slice ya Y.1.length yc) (l:=N) (i:=j) ⟨{d[j].t with a6J:=Y.1},ya,yc⟩ A8 q8 (j:=1) (by rw[z2];rfl) ?_;refine A5 ?_;refine A6 (C:=R7) (v:=.int .u64 ((m.a6u[i].high+1:Nat):Int)) (l:=N.set j ⟨{d[j].t with a6J:=Y.1},ya,yc⟩) (i:=j) ⟨{d[j].t with a6J:=Y.1,mod:=m.a6u[i].high+1},ya,yc⟩ A8 (by simpa using q8) (j:=2) (by rw[Zb];rfl) ?_;refine x6 ?_;rw[Jq];refine C6 (Z:=[B0 ya Y.1 yc]) tk fun F3 h0 ⟨bs,e⟩=>?_;have a0:n9 F3.heap ya (fV Y.1):=A_.rd e ud;clear e;refine A5 ?_;refine Q_ (i:=(j,Fj,(⟨N,U,M,ch,ua,uc,J,O⟩:TR))) (j+1,F3,⟨N.set j ⟨{d[j].t with a6J:=Y.1,mod:=m.a6u[i].high+1},ya,yc⟩,U++[d[j].t.uid],M,true,p,u,J,O⟩) ⟨T,S.trans h0,by simpa using q7,fun x hx=>?_,?_,by rw[e1];omega,Jy x2,?_⟩ qg sub rfl (fun w g=>g.drop)
    ·rcases Qj hx with h6|rfl
     ·exact(k8 x h6).le h0.heap
     ·exact a0
    ·show(N.set j _).drop (j+1)=_;rw[K5 qb];exact k9
    ·simp only;rw[D,ey q8,Qx,hY,hX];rfl
   ·have a1:(G8 d[j].t.a6J r.how r.a6J).1=d[j].t.a6J:=(by rw[<-hY];simpa using x5);rw[zS q9 u1 x3 a1] at D;refine A5 ?_;refine Q_ (i:=(j,Fj,(⟨N,U,M,ch,ua,uc,J,O⟩:TR))) (j+1,Fj,⟨N,U++[d[j].t.uid],M,ch,p,u,J,O⟩) ⟨T,S,q7,k8,k9,by rw[e1];omega,Jy x2,?_⟩ qg sub rfl (fun w g=>g.drop.drop);simp only;rw[D,u0]
  ·have T:j=d.length:=(by have:=zu h;omega);have v6:SL=some (N.map LM.t,U,M,ch):=by
    rw[D,T,Ww,jm qb];show(some _).map _=_;simp[bI]
   rw[v6];refine x6 ?_;refine C6 (Z:=[.own (.slice ua U.length uc) 27 1 (nV U),.own (.slice J M.length O) 27 1 (nV M)]) tk fun F3 h0 ⟨bs,e⟩=>?_;have u2:M8 (fB U M) ⟨ua,uc,J,O⟩ F3.heap:=⟨A_.rd e ud,A_.rd e ud⟩;clear e;have x0:=(q0.trans S).trans h0
   cases ch
   ·rw[show lO m i (some (N.map LM.t,U,M,false))=(m.s,fB U M,0) from rfl];refine cn ?_;exact D5 m (fB U M) ⟨ua,uc,J,O⟩ rfl rfl x0 (fun w g=>zT o Q g.drop) rfl (fun _=>rfl) (fun b e=>Mn.le x0.heap (k0 b e)) u2
   ·have v7:lO m i (some (N.map LM.t,U,M,true))=if E6<=m.a6u[i].high then(m.s,C3,13) else(jP m.s i {m.a6u[i].x with lts:=N.map LM.t,high:=m.a6u[i].high+1},fB U M,0):=by
     unfold lO;simp only[xx o];rfl
    rw[v7];clear v7;obtain⟨q4,h4⟩:=o9 (decide (E6<=m.a6u[i].high));refine al ?_;refine r_ (l5 rfl (fun w g=>cT (j:=3) (g.ownN (t:=100) ud).2.2.1 o_ o rfl x7)) ?_;refine f_ ((K_ rfl rfl).eq (v':=.bool q4) (qn ((kz.2 (by show(9223372036854775807:Int)<=_↔9223372036854775807<=_;omega)).trans h4.symm))) ?_;refine x6 ?_
    cases q4
    case true=>
     rw[zr (zy h4.symm)];refine D0 ?_;exact D5 m (fB U M) ⟨ua,uc,J,O⟩ rfl rfl x0 (fun w g=>zT o Q g.drop) rfl qx (fun b e=>Mn.le x0.heap (k0 b e)) u2
    rw[zb (zu h4.symm)];have b3:m.a6u[i].high<9223372036854775807:=W4.1 (zu h4.symm);refine x6 ?_;rw[<-q7];refine P1 ?_;refine A6 (C:=bR) (v:=.slice na N.length nc) {m.a6u[i] with ls:=N,a:=na,c:=nc} o_ o (j:=4) rfl ?_;refine x6 ?_;obtain⟨V,v8⟩:∃V:BM,V={m.a6u[i] with ls:=N,a:=na,c:=nc}:=⟨_,rfl⟩;have x9:i<(m.a6u.set i V).length:=(by simpa using o);have v9:(m.a6u.set i V)[i]=V:=Zb _;have a2:(m.a6u.set i V)[i]? =some V:=(by rw[zd x9,v9]);have f1:V.a=na/\V.ls=N/\V.c=nc/\V.next=m.a6u[i].next/\V.high=m.a6u[i].high/\V.val=m.a6u[i].val/\V.name=m.a6u[i].name:=(by subst v8;exact⟨rfl,rfl,rfl,rfl,rfl,rfl,rfl⟩);rw[<-v8];refine E8 ?_;refine r_ (l5 (v:=.int .u64 (m.a6u[i].high:Nat)) rfl (fun w g=>Fw (j:=3) (g.ownN (t:=100) ud).2.2.1 o_ V a2 (by rw[<-f1.2.2.2.2.1];rfl) x7)) ?_;refine f_ ((L9 rfl rfl qb).eq (v':=.int .u64 ((m.a6u[i].high+1:Nat):Int)) (by congr 1)) ?_;refine A5 ?_;refine A6 (C:=bR) (v:=.int .u64 ((m.a6u[i].high+1:Nat):Int)) {V with high:=m.a6u[i].high+1} o_ x9 (j:=3) (by rw[v9];rfl) ?_;refine x6 ?_;rw[Jq];refine D0 ?_;refine D5 {m with a6u:=m.a6u.set i {V with high:=m.a6u[i].high+1}} (fB U M) ⟨ua,uc,J,O⟩ rfl rfl x0 (fun w g=>?_) ?_ (fun _=>rfl) (fun x hx=>?_) u2
    ·rw[uQ];show Hp F3 w (_::U1 m.sa m.a6w m.sc::R5 m.ha m.a6v m.hc::U0 m.ba (m.a6u.set i {V with high:=m.a6u[i].high+1}) m.bc::(X7 (m.a6u.set i {V with high:=m.a6u[i].high+1})++R));rw[nS];refine uR {V with high:=m.a6u[i].high+1} o f1.1 f1.2.1 f1.2.2.1 ?_;have a6:=g.perm (jj (l₁:=[O7 na N nc]) (l₂:=[_,_,_,_])|>.append_right _);exact(a6.perm (Kw [_,_,_,_] (List.Perm.swap _ _ _)))|>fun a7=>(a7.perm (Qm (l₁:=[_,_,_,_]))).drop
    ·show({m.s with a6u:=_}:ML)=_;unfold jP;rw[bg];simp only[BM.x,f1.2.1,f1.2.2.2.1,f1.2.2.2.2.2.1,f1.2.2.2.2.2.2]
    ·rcases Qj hx with h5|rfl
     ·exact Mn.le x0.heap (k0 x h5)
     ·intro y hy;exact(k8 y (f1.2.1▸hy)).le h0.heap
def Nx{α:Type}{R:α->α->Prop}{k:List α}(h:k.Pairwise R){a b:α}(ha:a∈k)(g:b∈k)(d:a≠b):R a b\/R b a:=by
 obtain⟨i,e,rfl⟩:=Zp ha;obtain⟨j,f,rfl⟩:=Zp g;rw[Kk] at h;rcases Nat.lt_trichotomy i j with c|c|c
 ·exact .inl (h i j e f c)
 ·subst c;exact absurd rfl d
 ·exact .inr (h j i f e c)
def sU{α:Type}{f:α->α->Int}{m k:List α}(hc:yd k f)(hp:m.Perm k)(d:gc f m)(c:k.Pairwise fun x y=>f x y<0):m=k:=by
 refine List.Perm.eq_of_pairwise (le:=fun x y=>¬f y x<0) (fun a b ha g i j=>?_) d (c.imp_of_mem fun{x y} l n h=>hc.asym x l y n h) hp;by_cases e:a=b
 ·exact e
 ·rcases Nx c (hp.subset ha) g e with h|h
  ·exact absurd h j
  ·exact absurd h i
def xA(n:Nat)(a:n<=1000):Pu prog 191 [.int .u64 (n:Nat)] (fun _=>True) (.int .i64 (Lib.bitLen ((n:Nat):Int).toNat)):=V3 fun w _=>Tryz.bits_Len (n:Nat) w qb qb
def Ny(a b:Bs):Pu prog 112 [B a,B b] (fun _=>True) (.int .i64 (Lib.compareBytes a b)):=V3 fun w _=>Tryz.strings_Compare ⟨a.toArray⟩ ⟨b.toArray⟩ w
def EO(l:List BM)(a:qr)(c:Nat)(f:FuncId)[HF prog f](b:BM->BM->Int)(d:Int)(hc:yd l b)(e:∀x∈l,∀y∈l,Pu prog f [.agg (bR x).toArray,.agg (bR y).toArray] (fun _=>True) (.int .i64 (b x y)))(hl:l.length<=12):Ct prog 190 [.slice a l.length c,.int .i64 0,.int .i64 (l.length:Nat),.int .i64 d,.func (.func f) #[] #[]] (fun _=>True) [U0 a l c] (fun v A=>v=.tuple #[]/\∃m:List BM,m.Perm l/\gc b m/\A=[.own (.slice a l.length c) 100 5 (fv m)]):=by
 refine b_ 148 func190 rfl rfl rfl ?_;intro F _;refine A5 ?_;refine o8 (ι:=Unit) (fun _=>True) (fun _=>[(0,.slice a l.length c),(1,.int .i64 0),(2,r7 l.length),(4,.func (.func f) #[] #[])]) (fun _=>[U0 a l c]) (fun _=>0) () trivial sub i_ ?_;rintro _ _;refine A5 ?_;refine f_ ((E7 rfl rfl qb).eq (v':=.int .i64 (l.length:Nat)) (by congr 1)) ?_;refine A5 ?_;refine f_ ((H4 rfl rfl).eq (v':=.bool true) (qn qk)) ?_;refine P1 ?_;refine e_ (DT l a c f b hc e qb) qw ?_;rintro v A ⟨rfl,m,g,i,rfl⟩;refine oK ?_;exact m6 rfl _ ⟨rfl,m,g,i,rfl⟩ (fun _ h=>h)
def zU(l:List BM)(a:qr)(c:Nat)(f:FuncId)[HF prog f](b:BM->BM->Int)(hc:yd l b)(d:∀x∈l,∀y∈l,Pu prog f [.agg (bR x).toArray,.agg (bR y).toArray] (fun _=>True) (.int .i64 (b x y)))(hl:l.length<=12):Ct prog 110 [.slice a l.length c,.func (.func f) #[] #[]] (fun _=>True) [U0 a l c] (fun v A=>v=.tuple #[]/\∃m:List BM,m.Perm l/\gc b m/\A=[.own (.slice a l.length c) 100 5 (fv m)]):=by
 refine b_ 14 func110 rfl rfl rfl ?_;intro F _;refine Y1 ?_;refine f_ ((A3 rfl qb)) ?_;refine c_ rfl (xA l.length qb) qw rfl ?_;refine u6 ?_;refine e_ (EO l a c f b _ hc d hl) qw ?_;rintro v A ⟨rfl,m,e,g,rfl⟩;refine x6 ?_;exact m6 rfl _ ⟨rfl,m,e,g,rfl⟩ (fun _ h=>h)
def zV(l:List HO)(a:qr)(c:Nat)(f:FuncId)[HF prog f](b:HO->HO->Int)(d:Int)(hc:yd l b)(e:∀x∈l,∀y∈l,Pu prog f [.agg (eO x).toArray,.agg (eO y).toArray] (fun _=>True) (.int .i64 (b x y)))(hl:l.length<=12):Ct prog 251 [.slice a l.length c,.int .i64 0,.int .i64 (l.length:Nat),.int .i64 d,.func (.func f) #[] #[]] (fun _=>True) [R5 a l c] (fun v A=>v=.tuple #[]/\∃m:List HO,m.Perm l/\gc b m/\A=[.own (.slice a l.length c) 104 3 (KO m)]):=by
 refine b_ 148 func251 rfl rfl rfl ?_;intro F _;refine A5 ?_;refine o8 (ι:=Unit) (fun _=>True) (fun _=>[(0,.slice a l.length c),(1,.int .i64 0),(2,r7 l.length),(4,.func (.func f) #[] #[])]) (fun _=>[R5 a l c]) (fun _=>0) () trivial sub i_ ?_;rintro _ _;refine A5 ?_;refine f_ ((E7 rfl rfl qb).eq (v':=.int .i64 (l.length:Nat)) (by congr 1)) ?_;refine A5 ?_;refine f_ ((H4 rfl rfl).eq (v':=.bool true) (qn qk)) ?_;refine P1 ?_;refine e_ (yU l a c f b hc e qb) qw ?_;rintro v A ⟨rfl,m,g,i,rfl⟩;refine oK ?_;exact m6 rfl _ ⟨rfl,m,g,i,rfl⟩ (fun _ h=>h)
def xB(l:List HO)(a:qr)(c:Nat)(f:FuncId)[HF prog f](b:HO->HO->Int)(hc:yd l b)(d:∀x∈l,∀y∈l,Pu prog f [.agg (eO x).toArray,.agg (eO y).toArray] (fun _=>True) (.int .i64 (b x y)))(hl:l.length<=12):Ct prog 185 [.slice a l.length c,.func (.func f) #[] #[]] (fun _=>True) [R5 a l c] (fun v A=>v=.tuple #[]/\∃m:List HO,m.Perm l/\gc b m/\A=[.own (.slice a l.length c) 104 3 (KO m)]):=by
 refine b_ 14 func185 rfl rfl rfl ?_;intro F _;refine Y1 ?_;refine f_ ((A3 rfl qb)) ?_;refine c_ rfl (xA l.length qb) qw rfl ?_;refine u6 ?_;refine e_ (zV l a c f b _ hc d hl) qw ?_;rintro v A ⟨rfl,m,e,g,rfl⟩;refine x6 ?_;exact m6 rfl _ ⟨rfl,m,e,g,rfl⟩ (fun _ h=>h)
def zW(x y:BM):Pu prog 111 [.agg (bR x).toArray,.agg (bR y).toArray] (fun _=>True) (.int .i64 (Lib.compareBytes x.name y.name)):=by
 refine b_ 10 func111 rfl rfl rfl ?_;intro F _;refine D1 ?_;refine m8 rfl rfl ?_;intro b;refine m8 rfl rfl ?_;intro c;refine al ?_;refine c_ rfl (Ny x.name y.name) qw rfl ?_;refine D0 ?_;exact d_ rfl rfl [] qh (fun w a=>a.dropAll)
def zX(x y:HO)(hx:0<=x.node/\x.node<=100)(b:0<=y.node/\y.node<=100):Pu prog 186 [.agg (eO x).toArray,.agg (eO y).toArray] (fun _=>True) (.int .i64 (x.node-y.node)):=by
 refine b_ 10 func186 rfl rfl rfl ?_;intro F _;refine D1 ?_;refine m8 rfl rfl ?_;intro c;refine m8 rfl rfl ?_;intro d;refine Lq ?_;exact d_ rfl rfl [] qh (fun w a=>a.dropAll)
def nT(a b:Bs):Lib.compareBytes a b<0↔ip a b=true:=by
 rw[<-yK,K9]
abbrev UL(x y:BM):Int:=Lib.compareBytes x.name y.name
def IG{a b:Bs}(h:ip a b=true)(k:ip b a=true):False:=by
 have:=ck h k;rw[iH] at this
 cases this
def IH(l:List BM):yd l UL:=⟨fun x _ y _ h k=>IG ((nT _ _).1 h) ((nT _ _).1 k),fun x _ y _ z _ c b a=>by
 unfold UL at c b a;rw[nT] at c b a;by_cases e:x.name=y.name
 ·rw[e] at a;exact b a
 ·have d:ip y.name x.name=true:=dX e (by simpa using c);exact b (ck d a)⟩
def fm(b:BM):List BM->List BM
 |[]=>[b]
 |x::t=>if ip b.name x.name=true then b::x::t else x::fm b t
def xC(b:BM):∀l:List BM,(fm b l).map BM.x=jO b.x (l.map BM.x)
 |[]=>rfl
 |x::t=>by
  unfold fm;rw[Q2,jO];split
  ·rfl
  ·rw[Q2,xC b t]
def gW(b:BM):∀l:List BM,(fm b l).Perm (l++[b])
 |[]=>.refl _
 |x::t=>by
  unfold fm;split
  ·exact(jj (l₁:=[b]) (l₂:=x::t))
  ·exact(gW b t).cons x
def xD{b x:BM}{l:List BM}(h:x∈fm b l):x=b\/x∈l:=by
 have:=(gW b l).subset h;rcases kw.1 this with h|h
 ·exact .inr h
 ·exact .inl (z7.1 h)
def mH(b:BM):∀{l:List BM},(l.Pairwise fun x y=>ip x.name y.name=true)->(∀x∈l,x.name≠b.name)->(fm b l).Pairwise fun x y=>ip x.name y.name=true
 |[],_,_=>K7 _ _
 |x::t,h,hn=>by
  obtain⟨d,f⟩:=Qd.1 h;unfold fm;split
  ·rename_i a;refine Qd.2 ⟨fun y c=>?_,h⟩;rcases jv.1 c with rfl|c
   ·exact a
   ·exact ck a (d y c)
  ·rename_i a;refine Qd.2 ⟨fun y c=>?_,mH b f fun z hz=>hn z (jn _ hz)⟩;rcases xD c with rfl|c
   ·exact dX (fun e=>hn x Qb e.symm) (by simpa using a)
   ·exact d y c
def II{s:ML}{a:Bs}(h:yb s a=none):∀x∈s.a6u,x.name≠a:=fun x b e=>by
 unfold yb at h;rw[Zx] at h;have:=h x b;simp[e] at this
abbrev eH(name:Bs)(val:Nat):BM:=⟨name,val,1,1,[],none,0⟩
def Nz(b:BM)(l:List BM):(X7 (fm b l)).Perm (O7 b.a b.ls b.c::X7 l):=by
 have h:=(gW b l).map fun b:BM=>O7 b.a b.ls b.c;rw[Qx] at h;exact h.trans jj
def QO{F:l9}{w:World}{x y k u v:As}{a:Bs}{val:Nat}{l:List BM}{R:List As}(h:Hp F w (x::y::k::u::v::(X7 l++R))):Hp F w (k::(u::v::x::X7 (fm (eH a val) l)++R)):=by
 have b:Hp F w ([x,k,u,v]++(X7 l++R)):=(h.perm (jj (l₁:=[x]) (l₂:=[y])|>.append_right (k::u::v::(X7 l++R)))).drop;have c:Hp F w (O7 none [] 0::([x,k,u,v]++(X7 l++R))):=b.addNil _ _;have d:Hp F w ([x,k,u,v]++(O7 none [] 0::(X7 l++R))):=c.perm Qm.symm;have e:Hp F w ([x,k,u,v]++(X7 (fm (eH a val) l)++R)):=d.perm (((Nz (eH a val) l).symm.append_right R).append_left [x,k,u,v]);exact e.perm (jj (l₁:=[x]) (l₂:=[k,u,v])|>.append_right (X7 (fm (eH a val) l)++R))
def EP(b:Nat)(m:MM)(r:RQ)(q:QL)(hm:m.a6u.length<=8)(hs:m.a6u.Pairwise fun x y=>ip x.name y.name=true)(hv:m.nval<=4294967296)(p:r.box.length<=lD):Ih 59 b m r q (dr m.s r):=by
 refine A0 91 func59 rfl rfl rfl ?_;rintro F R ⟨a,V⟩;obtain⟨o,s⟩:=o9 (jH r.box);have d:o≠some r.box->dr m.s r=(m.s,C3,1):=fun h=>by unfold dr;rw[zr (by rw[<-s];exact h)]
 refine Y1 ?_;refine c_ rfl (Bo r.box p) qw rfl ?_;rw[<-s];refine al ?_
 cases o with
 |none=>
  rw[d x7];refine wk 13 ?_;refine B4 ?_;exact D5 m C3 N8 rfl rfl (l9.le_refl _) i_ rfl qx a (M8.zero _)
 |some nm=>
  obtain⟨Q,u⟩:=o9 (decide (nm=r.box));refine wk 9 ?_;(first|refine u_ ?_|(refine v_ ?_;refine f_ ((F7 rfl rfl).eq (v':=.bool (!Q)) (jh (fun b=>Value.bool (!b)) u.symm)) ?_));refine A5 ?_
  cases Q
  ·rw[d (fun e=>zu u.symm (Qz e))];refine D0 ?_;exact D5 m C3 N8 rfl rfl (l9.le_refl _) i_ rfl qx a (M8.zero _)
  obtain rfl:nm=r.box:=zy u.symm;have S:dr m.s r=if(yb m.s r.box).isSome=true then(m.s,C3,12) else if 8<=m.a6u.length then(m.s,C3,7) else if eX<m.nval then(m.s,C3,13) else({m.s with a6u:=jO ⟨r.box,m.nval,1,1,[]⟩ m.s.a6u,nval:=m.nval+1},{C3 with val:=m.nval},0):=by
   unfold dr;rw[zb (by rw[<-s];simp),kg]
  rw[S];clear S;refine al ?_;refine c_ rfl (oY m r.box qb) (fun h hh ⟨bs,p⟩=>A_.rd p ud) rfl ?_;refine bQ ?_ ?_<;>intro h
  ·have z:¬D9 (fun b:BM=>decide (b.name=r.box)) m.a6u<0:=(by have:=zy h;omega);obtain⟨i,_,_,ha⟩:=gT z;rw[zr (by rw[ha];rfl)];refine D0 ?_;exact D5 m C3 N8 rfl rfl (l9.le_refl _) i_ rfl qx a (M8.zero _)
  have z:D9 (fun b:BM=>decide (b.name=r.box)) m.a6u<0:=by have:=zu h;omega
  have f:=gS z;rw[zb (by rw[f];simp)];refine wk 8 ?_;refine p7 rfl ?_ ?_<;>intro T
  ·have k:8<=m.a6u.length:=(by have:=zy T;omega);rw[zr k];refine D0 ?_;exact D5 m C3 N8 rfl rfl (l9.le_refl _) i_ rfl qx a (M8.zero _)
  have X:¬8<=m.a6u.length:=by have:=zu T;omega
  rw[zb X];obtain⟨U,j⟩:=o9 (decide (eX<m.nval));refine al ?_;refine f_ ((E9 rfl rfl).eq (v':=.bool U) (qn ((kz.2 (by show(4294967295:Int)<_↔4294967295<_;omega)).trans j.symm))) ?_;refine u6 ?_
  cases U
  case true=>
   rw[zr (zy j.symm)];refine D0 ?_;exact D5 m C3 N8 rfl rfl (l9.le_refl _) i_ rfl qx a (M8.zero _)
  rw[zb (zu j.symm)];refine wk 10 ?_;refine D8 [5,11] [13,14,18] [T3 b m r q {C3 with val:=m.nval} N8] 19 ?_;refine wd [0,1,2,3,4,5,6,7,8,9,10,11,12] ?_;refine h_ 13 rfl i6 ?_;refine D2 bR (eH r.box m.nval) rfl ?_;intro Y _;refine V2 ?_;refine h_ 14 rfl i6 ?_;refine u7 bR (l:=m.a6u) (m:=[eH r.box m.nval]) o_ AY (by show(m.a6u.length+1)*64<=_;omega) ?_ rfl rfl (fun _ _=>uh) (fun w n=>(n.ownN (t:=100) ud).2.2.1) (by show m.a6u.length+1<=9223372036854775807;omega);intro a72 c _;refine D7 [15,16,17,18] ?_;have C:(fm (eH r.box m.nval) m.a6u).Perm (m.a6u++[eH r.box m.nval]):=gW _ _;have D:(fm (eH r.box m.nval) m.a6u).Pairwise fun x y=>UL x y<0:=(mH (eH r.box m.nval) hs (fun x g=>II f x.x (Q5 g))).imp fun h=>(nT _ _).2 h;refine al ?_;refine e_ (zU (m.a6u++[eH r.box m.nval]) a72 c 111 UL (IH _) (fun x _ y _=>zW x y) (by rw[zg];show m.a6u.length+1<=12;omega)) qw ?_;rintro v A ⟨rfl,Z,h9,J,rfl⟩;refine x6 ?_;obtain rfl:Z=fm (eH r.box m.nval) m.a6u:=sU (yd.perm (IH _) C) (h9.trans C.symm) J D;have M:(fm (eH r.box m.nval) m.a6u).length=(m.a6u++[eH r.box m.nval]).length:=C.length_eq;have h3:m.nval<=4294967295:=Nat.not_lt.1 (zu j.symm);refine al ?_;refine f_ ((L9 rfl rfl qb).eq (v':=.int .u64 ((m.nval+1:Nat):Int)) (by congr 1)) ?_;refine KI ?_;have O:(ML.mk (jO ⟨r.box,m.nval,1,1,[]⟩ m.s.a6u) (m.nval+1) m.a6v m.a6w m.nses m.a6G)={m with a6u:=fm (eH r.box m.nval) m.a6u,nval:=m.nval+1,ba:=a72,bc:=c:MM}.s:=by
   show _=ML.mk ((fm (eH r.box m.nval) m.a6u).map BM.x) _ _ _ _ _;rw[xC];rfl
  refine D5 {m with a6u:=fm (eH r.box m.nval) m.a6u,nval:=m.nval+1,ba:=a72,bc:=c} {C3 with val:=m.nval} N8 rfl rfl (l9.le_refl _) (fun w n=>?_) O.symm (fun _=>rfl) (fun x g=>?_) ⟨n9.nil _ _,n9.nil _ _⟩
  ·rw[<-M] at n;exact QO n
  ·rcases xD g with rfl|g
   ·exact fun _ h=>by cases h
   ·exact a x g
def lP(b:HO):∀l:List HO,(dJ b l).Perm (l++[b])
 |[]=>.refl _
 |x::t=>by
  unfold dJ;split
  ·exact(jj (l₁:=[b]) (l₂:=x::t))
  ·exact(lP b t).cons x
def IJ{b x:HO}{l:List HO}(h:x∈dJ b l):x=b\/x∈l:=by
 have:=(lP b l).subset h;rcases kw.1 this with h|h
 ·exact .inr h
 ·exact .inl (z7.1 h)
def mI(b:HO):∀{l:List HO},(l.Pairwise fun x y=>x.node<y.node)->(∀x∈l,x.node≠b.node)->(dJ b l).Pairwise fun x y=>x.node<y.node
 |[],_,_=>K7 _ _
 |x::t,h,hn=>by
  obtain⟨d,e⟩:=Qd.1 h;unfold dJ;split
  ·rename_i a;refine Qd.2 ⟨fun y c=>?_,h⟩;rcases jv.1 c with rfl|c
   ·exact a
   ·exact Int.lt_trans a (d y c)
  ·rename_i a;refine Qd.2 ⟨fun y c=>?_,mI b e fun z hz=>hn z (jn _ hz)⟩;rcases IJ c with rfl|c
   ·have:=hn x Qb;omega
   ·exact d y c
abbrev RU(x y:HO):Int:=x.node-y.node
def Cf(l:List HO):yd l RU:=⟨fun x _ y _ h k=>by unfold RU at h k;omega,fun x _ y _ z _ a b c=>by unfold RU at a b c;omega⟩
def OR(b:Nat)(m:MM)(r:RQ)(q:QL)(o:OC)(y:OL)(l:List HO)(v:Value)(A:List As):Prop:=v=.tuple #[]/\∃a c,A=[T3 b {m with a6v:=l,ha:=a,hc:=c} r q o y,R5 a l c]
def sV{m:MM}{n:Int}(h:D9 (fun x:HO=>decide (x.node=n)) m.a6v<0):iq m.s n=none:=by
 unfold D9 at h;unfold iq
 cases e:m.a6v.findIdx? fun x=>decide (x.node=n) with
 |none=>rfl
 |some i=>rw[e] at h;simp only[Option.elim] at h;omega
def sW{m:MM}{n:Int}(h:¬D9 (fun x:HO=>decide (x.node=n)) m.a6v<0):∃i:Nat,D9 (fun x:HO=>decide (x.node=n)) m.a6v=(i:Nat)/\i<m.a6v.length/\iq m.s n=some i:=by
 unfold D9 at h⊢;unfold iq
 cases e:m.a6v.findIdx? fun x=>decide (x.node=n) with
 |none=>rw[e] at h;simp only[Option.elim] at h;omega
 |some i=>exact⟨i,rfl,(jg.1 e).1,rfl⟩
def NA{m:MM}{n:Int}(h:iq m.s n=none):∀x∈m.a6v,x.node≠n:=fun x a e=>by
 unfold iq at h;rw[Zx] at h;have:=h x a;simp[e] at this
def xE{m:MM}{n:Int}{t:Nat}(h:D9 (fun x:SX=>decide (x.node=n/\x.tr=t)) m.a6w<0):gI m.s n t=none:=by
 unfold D9 at h;unfold gI
 cases e:m.a6w.findIdx? fun x=>decide (x.node=n/\x.tr=t) with
 |none=>rfl
 |some i=>rw[e] at h;simp only[Option.elim] at h;omega
def xF{m:MM}{n:Int}{t:Nat}(h:¬D9 (fun x:SX=>decide (x.node=n/\x.tr=t)) m.a6w<0):∃i:Nat,D9 (fun x:SX=>decide (x.node=n/\x.tr=t)) m.a6w=(i:Nat)/\i<m.a6w.length/\gI m.s n t=some i:=by
 unfold D9 at h⊢;unfold gI
 cases e:m.a6w.findIdx? fun x=>decide (x.node=n/\x.tr=t) with
 |none=>rw[e] at h;simp only[Option.elim] at h;omega
 |some i=>exact⟨i,rfl,(jg.1 e).1,rfl⟩
def NB(b:Nat)(m:MM)(r:RQ)(q:QL)(o:OC)(y:OL)(i:Nat)(h:HO):T3 b {m with a6v:=m.a6v.set i h} r q o y=T3 b m r q o y:=by
 unfold T3 OD iQ;simp only[Qw]
def TT{F:l9}{w:World}{x y z k:As}(h:Hp F w [x,y,z,k]):Hp F w [k,x]:=((h.perm (jj (l₁:=[x]) (l₂:=[y,z,k]))).drop.drop)
def zY(b:Nat)(m:MM)(r:RQ)(q:QL)(o:OC)(y:OL)(i:Nat)(h:HO)(e:i<m.a6v.length)(l:m.a6v.length<=8):Ct prog 106 [i8 b,.int .i64 (i:Nat),.agg (eO h).toArray] (fun _=>True) [T3 b m r q o y,R5 m.ha m.a6v m.hc] (OR b m r q o y (m.a6v.set i h)):=by
 refine b_ 34 func106 rfl rfl rfl ?_;intro F _;refine B7 (a:=m.ha) (n:=m.a6v.length) (c:=m.hc) (sz:=3) (xs:=KO m.a6v) (te:=104) ud fun _ _ d=>?_;have d:=d qb;refine D1 ?_;refine m8 rfl rfl ?_;intro f;refine u6 ?_;refine f_ ((K_ rfl rfl).eq (v':=.bool true) (qn qk)) ?_;refine x6 ?_;refine D8 [4,6] [8] [.blk f (.cells (eO h).toArray 104),T3 b m r q o y] 9 ?_;refine wd [0,1,2,3,4,5,6,7] ?_;refine h_ 8 rfl i6 ?_;refine A6 (C:=eO) h L_ e (j:=0) rfl ?_;refine D7 [] ?_;refine B4 ?_;exact m6 rfl [T3 b m r q o y,R5 m.ha (m.a6v.set i h) m.hc] ⟨rfl,m.ha,m.hc,by rw[<-NB b m r q o y i h]⟩ (fun w g=>by have k:=g.drop;unfold R5;rw[Qw];exact k)
def zZ(b:Nat)(m:MM)(r:RQ)(q:QL)(o:OC)(y:OL)(h:HO)(J:m.a6v.length<=8)(hs:m.a6v.Pairwise fun x y=>x.node<y.node)(n:∀x∈m.a6v,x.node≠h.node)(p:∀x∈m.a6v,0<=x.node/\x.node<=100)(s:0<=h.node/\h.node<=100):Ct prog 106 [i8 b,.int .i64 (-1),.agg (eO h).toArray] (fun _=>True) [T3 b m r q o y,R5 m.ha m.a6v m.hc] (OR b m r q o y (dJ h m.a6v)):=by
 refine b_ 34 func106 rfl rfl rfl ?_;intro F _;refine D1 ?_;refine m8 rfl rfl ?_;intro u;refine A5 ?_;refine D8 [5,6] [7,8,12] [.blk u (.cells (eO h).toArray 104),T3 b m r q o y] 13 ?_;refine wd [0,1,2,3,4,5,6] ?_;refine h_ 7 rfl i6 ?_;refine D2 eO h rfl ?_;intro UF _;refine V2 ?_;refine h_ 8 rfl i6 ?_;refine u7 eO (l:=m.a6v) (m:=[h]) L_ Bd (by show(m.a6v.length+1)*24<=_;omega) ?_ rfl rfl (fun _ _=>uh) (fun w f=>(f.ownN (t:=104) ud).2.2.1) (by show m.a6v.length+1<=9223372036854775807;omega);intro a c _;refine D7 [9,10,11,12] ?_;have g:(dJ h m.a6v).Perm (m.a6v++[h]):=lP _ _;have i:(dJ h m.a6v).Pairwise fun x y=>RU x y<0:=(mI h hs n).imp fun h=>by unfold RU;omega
 have e:∀x∈m.a6v++[h],0<=x.node/\x.node<=100:=fun x d=>by
  rcases kw.1 d with d|d
  ·exact p x d
  ·rw[z7.1 d];exact s
 refine al ?_;refine e_ (xB (m.a6v++[h]) a c 186 RU (Cf _) (fun x d y z=>zX x y (e x d) (e y z)) (by rw[zg];show m.a6v.length+1<=12;omega)) qw ?_;rintro v A ⟨rfl,C,D,j,rfl⟩;refine x6 ?_;obtain rfl:C=dJ h m.a6v:=sU (yd.perm (Cf _) g) (D.trans g.symm) j i;have k:(dJ h m.a6v).length=(m.a6v++[h]).length:=g.length_eq;refine m6 rfl [T3 b {m with a6v:=dJ h m.a6v,ha:=a,hc:=c} r q o y,R5 a (dJ h m.a6v) c] ⟨rfl,a,c,rfl⟩ (fun w f=>?_);rw[<-k] at f;exact TT f
