import Derived.Test.YtmcepdopookilaaGreatDoorucx12
set_option maxHeartbeats 16000000
set_option maxRecDepth 8000
set_option linter.unusedVariables false
set_option linter.unusedSimpArgs false
set_option linter.defProp false
namespace Go.Proofs.YtmcepdopookilaaGreatDoor.Rp
open Go Go.Sl Go.RowKit Go.Proofs.Tryz
theorem SM{d:UInt8}(h:97<=d.toNat/\d.toNat<=122):(d-32).toNat=d.toNat-32:=by
 rw[UInt8.toNat_sub_of_le]
 ·rfl
 ·exact UInt8.le_iff_toNat_le.2 (by show 32<=d.toNat;omega)
theorem Mb{c d:UInt8}(hc:c.toNat<=64\/91<=c.toNat/\c.toNat<=96\/123<=c.toNat):rJ d=c↔d=c:=by
 unfold rJ;split
 ·next h=>
  constructor
  ·intro e;have:=jw UInt8.toNat e;rw[SM h] at this;omega
  ·intro e;subst e;omega
 ·exact Iff.rfl
theorem Py{s:Bs}{c:UInt8}{p:Nat}(hc:c.toNat<=64\/91<=c.toNat/\c.toNat<=96\/123<=c.toNat):([c]:Bs).isPrefixOf (s.drop p)=I0 s [c] p:=by
 unfold I0
 cases s.drop p with
 |nil=>simp[R8,List.isPrefixOf]
 |cons d t=>
  have:=Mb (c:=c) (d:=d) hc;simp only[zy,z6,List.take_succ_cons,Kw,R8,Qu,Jk,List.isPrefixOf,Bool.and_true];by_cases h:d=c
  ·subst h;simp[this.2 rfl]
  ·have a:rJ d≠c:=fun e=>h (this.1 e);simp[a,Ne.symm h]
theorem Bp{s:Bs}{p:Nat}{r:Bs×Nat}(hp:p<=s.length)(h:vB s p=some r):p<=r.2/\r.2<=s.length/\r.1.length<=s.length:=by
 unfold vB at h;split at h
 ·cases h
 ·have:=j8 h;subst this;have:=bQ (q:=P0) hp;exact⟨by simp only;omega,this,by simp only;omega⟩
theorem dh{s:Bs}{p:Nat}{r:Bs×Nat}(hp:p<=s.length)(h:ld s p=some r):p<=r.2/\r.2<=s.length/\r.1.length<=4096+s.length:=by
 unfold ld at h;split at h
 ·have:=LA hp h;omega
 split at h
 ·cases hu:vp (s.drop p) with
  |none=>rw[hu] at h;cases h
  |some q=>
   rw[hu] at h;have:=j8 h;subst this;have b:=yq (s:=s.drop p);have a:=Bo (s.drop p);rw[hu] at b a;simp only[Zd,kz] at b a;simp only;omega
 ·obtain⟨q,b,a⟩:=zp.1 h;have:=Bp hp b;split at a
  ·have:=j8 a;subst this;omega
  ·cases a
theorem pt(s:Bs):(T5 s).2.1<=s.length:=by
 unfold T5;simp only;by_cases h:s.head? =some 40/\(s.takeWhile fun c=>c !=41).length<s.length
 ·rw[zu h];have:=h.2;generalize V8 _=m;by_cases hm:m.2=0
  ·rw[zu hm];simp only;omega
  ·rw[zk hm];simp
 ·rw[zk h];simp
theorem R2(b:Nat)(s:Bs)(p:Nat)(c:CM)(x:CL)(hs:s.length<=1000000000000)(hp:p<=s.length):Cx prog 275 [m6 b] Gl [H8 b s p c x] (fun v A=>∃r,ld s p=some r/\v=B r.1/\A=[H8 b s r.2 c x]) (fO (ld s p)):=by
 refine B7 42 func275 rfl rfl rfl ?_;intro F hg;have k:=Py (s:=s) (c:=123) (p:=p) qp;have l:=Py (s:=s) (c:=34) (p:=p) qp;obtain⟨m,i⟩:=o7 (I0 s [123] p);obtain⟨n,j⟩:=o7 (I0 s [34] p);obtain⟨W,a⟩:=o7 (ld s p);rw[<-a];unfold ld at a;rw[<-i,<-j] at a;refine y8 ?_;refine x4 _ rfl (aN b s p c x hs hp) i_ qw rfl ?_;rintro v A ⟨rfl,rfl⟩;refine e_ rfl (ah (s.drop p) [123]) qw rfl ?_;rw[k,<-i];refine p_ ?_
 cases m with
 |true=>
  rw[zu rfl] at a;refine p_ ?_;refine w6 _ rfl (mh b s p c x hs hp) i_ pre rfl rfl (l6.le_refl _) (fun v h=>⟨(by rw[a,h.1]),h.2⟩) ?_;rintro v A ⟨r,f,rfl,rfl⟩;refine C8 ?_;exact d_ rfl rfl [H8 b s r.2 c x] ⟨_,a.trans f,rfl,rfl⟩ i_
 |false=>
  rw[zk y4] at a;refine p_ ?_;refine x4 _ rfl (aN b s p c x hs hp) i_ qw rfl ?_;rintro v A ⟨rfl,rfl⟩;refine e_ rfl (ah (s.drop p) [34]) qw rfl ?_;rw[l,<-j];refine p_ ?_
  cases n with
  |true=>
   rw[zu rfl] at a;have d:=yq (s:=s.drop p);rw[kz] at d;refine u7 ?_
   cases hu:vp (s.drop p) with
   |none=>
    rw[hu] at a;refine p_ ?_;refine x4 _ rfl (aN b s p c x hs hp) i_ qw rfl ?_;rintro v A ⟨rfl,rfl⟩;refine e_ rfl (mf (s.drop p) (by rw[kz];unfold ln;omega)) qw rfl ?_;rw[hu];simp only[Pm];refine wk 8 ?_;refine w6 _ rfl (G7 _) i_ pre rfl rfl (l6.le_refl _) (fun v h=>⟨(a),h.2⟩) ?_;rintro v A ⟨e,rfl,rfl⟩;refine u7 ?_
    cases e
   |some q=>
    rw[hu] at a d;simp only[Zd] at d;refine p_ ?_;refine x4 _ rfl (aN b s p c x hs hp) i_ qw rfl ?_;rintro v A ⟨rfl,rfl⟩;refine e_ rfl (mf (s.drop p) (by rw[kz];unfold ln;omega)) qw rfl ?_;rw[hu];simp only[Pm,Zd];refine wk 8 ?_;refine w6 _ rfl (G7 _) i_ pre rfl rfl (l6.le_refl _) (fun v h=>⟨(by cases h.1),h.2⟩) ?_;rintro v A ⟨e,rfl,rfl⟩;refine aH ?_;refine f_ ((p9 rfl rfl qb).eq (v':=.int .i64 ((p+q.2:Nat):Int)) (by congr 1)) ?_;refine JW ?_;exact d_ rfl rfl [H8 b s (p+q.2) c x] ⟨_,a,rfl,rfl⟩ i_
  |false=>
   rw[zk y4] at a;refine p_ ?_;refine w6 _ rfl (Bc b s p c x hs hp) i_ pre rfl rfl (l6.le_refl _) (fun v h=>⟨(by rw[a,h.1];rfl),h.2⟩) ?_;rintro v A ⟨r,f,rfl,rfl⟩;refine p_ ?_;rw[f,zb] at a;obtain⟨q,g⟩:=o7 (decide (r.1.length<=4096));refine y8 ?_;refine f_ ((G2 rfl rfl).eq (v':=.bool q) (qn (by rw[g];apply zh.2;omega))) ?_;refine w6 _ rfl (G7 q) i_ pre rfl rfl (l6.le_refl _) (fun v h=>⟨(by rw[a,zk (zq (g.symm.trans h.1))]),h.2⟩) ?_;rintro v A ⟨e,rfl,rfl⟩;refine u7 ?_;rw[zu (qr (g.symm.trans e))] at a;refine L7 ?_;exact d_ rfl rfl [H8 b s r.2 c x] ⟨_,a,rfl,rfl⟩ i_
theorem Pz{s:Bs}{p:Nat}{r:Bs×Nat}(hp:p<=s.length)(h:NY s p=some r):p<=r.2/\r.2<=s.length/\vq r.1=true:=by
 unfold NY at h;obtain⟨q,c,d⟩:=zp.1 h;have a:=dh hp c;obtain⟨n,b,e⟩:=kg.1 d;subst e;refine⟨a.1,a.2.1,?_⟩;unfold jf at b;split at b
 ·next f=>
  have:=j8 b;subst this;split
  ·exact(by decide:vq cP=true)
  ·exact f
 ·cases b
theorem PA(b:Nat)(s:Bs)(p:Nat)(c:CM)(x:CL)(hs:s.length<=1000000000)(hp:p<=s.length):Cx prog 276 [m6 b] Gl [H8 b s p c x] (fun v A=>∃r,NY s p=some r/\v=B r.1/\A=[H8 b s r.2 c x]) (fO (NY s p)):=by
 refine B7 14 func276 rfl rfl rfl ?_;intro F hg;obtain⟨W,a⟩:=o7 (NY s p);rw[<-a];unfold NY at a;refine y8 ?_;refine w6 _ rfl (R2 b s p c x qb hp) i_ pre rfl rfl (l6.le_refl _) (fun v h=>⟨(by rw[a,h.1];rfl),h.2⟩) ?_;rintro v A ⟨r,d,rfl,rfl⟩;refine e_ rfl (AW r.1 (by have:=dh hp d;unfold ln;omega)) qw rfl ?_;refine aH ?_;rw[d,zb] at a;refine p_ ?_;refine w6 _ rfl (G7 _) i_ pre rfl rfl (l6.le_refl _) (fun v h=>⟨(by rw[a];have:=h.1;cases e:jf r.1 with|none=>rfl|some n=>rw[e] at this;cases this),h.2⟩) ?_;rintro v A ⟨f,rfl,rfl⟩;refine u7 ?_;obtain⟨n,g⟩:=Zb.1 f;rw[g] at a⊢;refine L7 ?_;exact d_ rfl rfl [H8 b s r.2 c x] ⟨_,a,rfl,rfl⟩ i_
theorem yM{p q:UInt8->Bool}(h:∀n,n<256->p (UInt8.ofNat n)=q (UInt8.ofNat n))(c:UInt8):p c=q c:=by
 have:=h c.toNat c.toNat_lt
 rwa [UInt8.ofNat_toNat] at this
theorem jX(l:Bs)(c:UInt8):Pu prog 348 [B l,B [c]] (fun _=>True) (.bool (l.contains c)):=U1 fun w _=>by
 have:=Tryz.strings_Contains_one ⟨l.toArray⟩ c w;rw[show(decide (0<=Lib.indexByte (⟨l.toArray⟩:ByteArray).data.toList c))=l.contains c from by
  show decide (0<=Lib.indexByte l c)=_;rw[eK]
  cases h:l.contains c<;>simp] at this
 exact this
theorem uj(c:UInt8):Pu prog 348 [B [48,49,50,51,52,53,54,55,56,57,44,58,42],B [c]] (fun _=>True) (.bool (oB c)):=by
 have:=jX [48,49,50,51,52,53,54,55,56,57,44,58,42] c
 rwa [yM (p:=fun c=>List.contains [48,49,50,51,52,53,54,55,56,57,44,58,42] c) (q:=oB) (by decide+kernel) c] at this
theorem Mc:vR 347 oB:=fun c=>by
 refine b_ 5 func347 rfl rfl rfl ?_;intro F _;refine y8 ?_;refine e_ rfl (uj c) qw rfl ?_;refine C8 ?_;exact d_ rfl rfl [] qh i_
theorem jY{s:Bs}{p:Nat}{r:List (Nat×Nat)×Nat}(hp:p<=s.length)(h:qZ s p=some r):p<=r.2/\r.2<=s.length/\r.1.length<=64:=by
 unfold qZ at h;obtain⟨l,a,b⟩:=kg.1 h;subst b;have:=bQ (q:=oB) hp;refine⟨by simp only;omega,this,?_⟩;unfold vA at a;split at a
 ·cases a
 ·have:=jU _ _ a;simp only;omega
theorem jZ(b:Nat)(s:Bs)(p:Nat)(c:CM)(x:CL)(hs:s.length<=1000000000)(hp:p<=s.length):Cx prog 285 [m6 b] Gl [H8 b s p c x] (fun v A=>∃r a d,qZ s p=some r/\v=.slice a r.1.length d/\A=[V3 a r.1 d,H8 b s r.2 c x]) (fO (qZ s p)):=by
 refine B7 14 func285 rfl rfl rfl ?_;intro F hg;obtain⟨W,f⟩:=o7 (qZ s p);rw[<-f];unfold qZ at f;have j:=bQ (q:=oB) hp;refine y8 ?_;refine x4 _ rfl (eO 347 oB Mc b s p c x qb hp) i_ qw rfl ?_;rintro v A ⟨rfl,rfl⟩;refine x4 _ rfl (Dq (N9 oB s p) qb) i_ (fun h k o=>hg.le k) rfl ?_;rintro v A ⟨a,d,l,rfl,rfl,m⟩;refine cQ ?_;refine w6 _ rfl (G7 _) i_ pre rfl rfl (l6.le_refl _) (fun v h=>⟨(by rw[f];have:=h.1;cases e:vA (N9 oB s p) with|none=>rfl|some n=>rw[e] at this;cases this),h.2⟩) ?_;rintro v A ⟨g,rfl,rfl⟩;refine u7 ?_;obtain⟨n,i⟩:=Zb.1 g;have:=m n i;subst this;rw[i] at f;refine L7 ?_;exact d_ rfl rfl [V3 a l d,H8 b s (p+(N9 oB s p).length) c x] ⟨_,a,d,f,rfl,rfl⟩ i_
theorem sm{s c:Bs}(h:E1 s=some c):c.length<=32:=by
 unfold E1 at h;split at h
 ·next f hf=>
  cases h
  have:=Kv hf
  revert this
  have hs:∀f∈R5,f.length<=32:=by decide
  exact hs c
 ·split at h
  ·next a=>
   cases h
   simp only[U_,zm];exact a.2
  ·cases h
theorem Md{s:Bs}{p:Nat}{r:List Bs×Nat}(hp:p<=s.length)(h:oC s p=some r):p<=r.2/\r.2<=s.length/\r.1.length<=16/\∀f∈r.1,f.length<=32:=by
 unfold oC at h;split at h
 ·next k=>
  have:=j8 h;subst this;have a:=ji (lU (s:=s.drop p) (l:=(T5 (s.drop p)).1) (n:=(T5 (s.drop p)).2.1) (by rw[<-k]));have b:=pt (s.drop p);rw[kz] at b;refine⟨by simp only;omega,by simp only;omega,a.2.2,fun f hf=>sm (a.1 f hf)⟩
 ·cases h
theorem so(b:Nat)(s:Bs)(p:Nat)(c:CM)(x:CL)(hs:s.length<=1000000000)(hp:p<=s.length):Cx prog 282 [m6 b] Gl [H8 b s p c x] (fun v A=>∃r a d,oC s p=some r/\v=.slice a r.1.length d/\A=[A4 a r.1 d,H8 b s r.2 c x]) (fO (oC s p)):=by
 refine B7 25 func282 rfl rfl rfl ?_;intro F hg;obtain⟨W,e⟩:=o7 (oC s p);rw[<-e];unfold oC at e;have i:=pt (s.drop p);rw[kz] at i;obtain⟨m,j⟩:=o7 (T5 (s.drop p));have f:=Dm (s.drop p) (by rw[kz];omega);rw[<-j] at e i f;obtain⟨q,g⟩:=o7 (decide (m.2.2=0));refine y8 ?_;refine x4 _ rfl (aN b s p c x qb hp) i_ qw rfl ?_;rintro v A ⟨rfl,rfl⟩;refine x4 _ rfl f i_ (fun h k o=>hg.le k) rfl ?_;rintro v A ⟨a,d,rfl,rfl⟩;refine wk 8 ?_;refine f_ ((o_ rfl rfl).eq (v':=.bool q) (qn g.symm)) ?_;refine w6 _ rfl (G7 q) i_ pre rfl rfl (l6.le_refl _) (fun v h=>⟨(by rw[e,zk (zq (g.symm.trans h.1))]),h.2⟩) ?_;rintro v A ⟨l,rfl,rfl⟩;refine u7 ?_;rw[zu (qr (g.symm.trans l))] at e;refine aH ?_;refine f_ ((p9 rfl rfl qb).eq (v':=.int .i64 ((p+m.2.1:Nat):Int)) (by congr 1)) ?_;refine JW ?_;exact d_ rfl rfl [A4 a m.1 d,H8 b s (p+m.2.1) c x] ⟨_,a,d,e,rfl,rfl⟩ fun w n=>x7.left tk n
abbrev Og(f:FuncId)(b:Nat)(s:Bs)(R:CM->Nat->Option (CM×Nat)):Prop:=∀(c:CM) (x:CL) (p:Nat),p<=s.length->Cx prog f [m6 b] Gl [H8 b s p c x] (fun v A=>∃r,R c p=some r/\v=.tuple #[]/\A=[H8 b s r.2 r.1 x]) (fO (R c p))
theorem co(b:Nat)(s:Bs):Og 207 b s (fun c p=>some (c,p)):=fun c x p hp=>by
 refine B7 2 func207 rfl rfl rfl ?_;intro F hg;refine u7 ?_;exact l_ rfl [H8 b s p c x] ⟨(c,p),rfl,rfl,rfl⟩ i_
theorem DE(b:Nat)(s:Bs)(hs:s.length<=1000000000):Og 208 b s (fun c p=>(H9 s Az p).map fun e=>(c,e)):=fun c x p hp=>by
 refine B7 4 func208 rfl rfl rfl ?_;intro F hg;refine p_ ?_;refine w6 _ rfl (D7 b s Az p c x qb hp y4) i_ pre rfl rfl (l6.le_refl _) (fun v h=>⟨(by simp only[h.1,Zm]),h.2⟩) ?_;rintro v A ⟨e,a,rfl,rfl⟩;refine u7 ?_;exact l_ rfl [H8 b s e c x] ⟨(c,e),by simp only[a,Qz],rfl,rfl⟩ i_
theorem dY(b:Nat)(s:Bs)(hs:s.length<=1000000000):Og 211 b s (fun c p=>I9 c s p):=fun c x p hp=>by
 refine B7 10 func211 rfl rfl rfl ?_;intro F hg;refine p_ ?_;refine w6 _ rfl (D7 b s [32] p c x qb hp y4) i_ pre rfl rfl (l6.le_refl _) (fun v h=>⟨(by simp only[I9,iy,h.1,Z0,Zm]),h.2⟩) ?_;rintro v A ⟨d,a,rfl,rfl⟩;refine u7 ?_;have e:=C_ a y4;refine y8 ?_;refine w6 _ rfl (PA b s d c x hs e.2.2) i_ pre rfl rfl (l6.le_refl _) (fun v h=>⟨(by simp only[I9,iy,a,h.1,zb,Zm]),h.2⟩) ?_;rintro v A ⟨r,f,rfl,rfl⟩;refine O2 ?_;exact l_ rfl [H8 b s r.2 {c with box:=r.1} x] ⟨({c with box:=r.1},r.2),by simp only[I9,iy,a,f,zb,Qz],rfl,rfl⟩ i_
theorem lv{s:Bs}{c:CM}{p:Nat}{r:CM×Nat}(hp:p<=s.length)(h:I9 c s p=some r):p<=r.2/\r.2<=s.length:=by
 unfold I9 iy at h;obtain⟨q,a,b⟩:=kg.1 h;obtain⟨e,d,f⟩:=zp.1 a;have g:=C_ d y4;have i:=Pz g.2.2 f;subst b;simp only;omega
theorem Hc(b:Nat)(s:Bs)(hs:s.length<=1000000000):Og 209 b s (fun c p=>dx c s p):=fun c x p hp=>by
 refine B7 18 func209 rfl rfl rfl ?_;intro F hg;refine p_ ?_;refine w6 _ rfl (D7 b s [32] p c x qb hp y4) i_ pre rfl rfl (l6.le_refl _) (fun v h=>⟨(by simp only[dx,yi,h.1,Z0]),h.2⟩) ?_;rintro v A ⟨g,a,rfl,rfl⟩;refine u7 ?_;have f:=C_ a y4;refine y8 ?_;refine w6 _ rfl (R2 b s g c x qb f.2.2) i_ pre rfl rfl (l6.le_refl _) (fun v h=>⟨(by simp only[dx,yi,a,h.1,zb,Z0]),h.2⟩) ?_;rintro v A ⟨r,d,rfl,rfl⟩;refine O2 ?_;have i:=dh f.2.2 d;refine p_ ?_;refine w6 _ rfl (D7 b s [32] r.2 {c with user:=r.1} x qb i.2.1 y4) i_ pre rfl rfl (l6.le_refl _) (fun v h=>⟨(by simp only[dx,yi,a,d,h.1,zb,Z0,Zm]),h.2⟩) ?_;rintro v A ⟨j,e,rfl,rfl⟩;refine u7 ?_;have a3:=C_ e y4;refine y8 ?_;refine w6 _ rfl (R2 b s j {c with user:=r.1} x qb a3.2.2) i_ pre rfl rfl (l6.le_refl _) (fun v h=>⟨(by simp only[dx,yi,a,d,e,h.1,zb,Zm]),h.2⟩) ?_;rintro v A ⟨t,k,rfl,rfl⟩;refine O2 ?_;exact l_ rfl [H8 b s t.2 {c with user:=r.1,pass:=t.1} x] ⟨({c with user:=r.1,pass:=t.1},t.2),by simp only[dx,yi,a,d,e,k,zb,Qz],rfl,rfl⟩ i_
theorem wl(b:Nat)(s:Bs)(hs:s.length<=1000000000):Og 210 b s (fun c p=>(I9 c s p).map fun q=>({q.1 with cond:=I0 s cg q.2},H3 s cg q.2)):=fun c x p hp=>by
 refine B7 10 func210 rfl rfl rfl ?_;intro F hg;refine p_ ?_;refine w6 _ rfl (dY b s hs c x p hp) i_ pre rfl rfl (l6.le_refl _) (fun v h=>⟨(by simp only[h.1,Zm]),h.2⟩) ?_;rintro v A ⟨r,a,rfl,rfl⟩;refine u7 ?_;have d:=lv hp a;refine y8 ?_;refine x4 _ rfl (S6 b s cg r.2 r.1 x qb d.2 y4) i_ qw rfl ?_;rintro v A ⟨rfl,rfl⟩;refine O2 ?_;exact l_ rfl [H8 b s (H3 s cg r.2) {r.1 with cond:=I0 s cg r.2} x] ⟨({r.1 with cond:=I0 s cg r.2},(H3 s cg r.2)),by simp only[a,Qz],rfl,rfl⟩ i_
theorem Me:vR 277 ix:=fun c=>by
 obtain⟨a,b⟩:=o7 (decide (c=37));obtain⟨d,f⟩:=o7 (decide (c=42));have e:ix c=(a||d||P0 c):=by unfold ix;rw[b,f]
 rw[e];refine b_ 13 func277 rfl rfl rfl ?_;intro F _;refine p_ ?_
 cases a<;>cases d
 all_goals (
  refine p_ ?_;refine f_ ((C5 rfl rfl).eq (qn ((show decide ([c]=[37])=decide (c=37) from by simp).trans b.symm))) ?_;refine y8 ?_;(first|refine u_ ?_|(refine v_ ?_;refine f_ ((C5 rfl rfl).eq (qn ((show decide ([c]=[42])=decide (c=42) from by simp).trans f.symm))) ?_));refine E4 ?_;(first|refine u_ ?_|(refine v_ ?_;refine e_ rfl (pf c) qw rfl ?_));refine y8 ?_)
 all_goals (refine A3 ?_;exact d_ rfl rfl [] ⟨by simp,rfl⟩ i_)
theorem Hd(b:Nat)(s:Bs)(hs:s.length<=1000000000):Og 212 b s (fun c p=>jA c s p):=fun c x p hp=>by
 refine B7 22 func212 rfl rfl rfl ?_;intro F hg;refine p_ ?_;refine w6 _ rfl (D7 b s Ob p c x qb hp y4) i_ pre rfl rfl (l6.le_refl _) (fun v h=>⟨(by simp only[jA,h.1,Z0]),h.2⟩) ?_;rintro v A ⟨a,d,rfl,rfl⟩;refine u7 ?_;have f:=C_ d y4;have g:=bQ (q:=ix) f.2.2;refine y8 ?_;refine x4 _ rfl (eO 277 ix Me b s a c x qb f.2.2) i_ qw rfl ?_;rintro v A ⟨rfl,rfl⟩;refine wk 9 ?_;refine f_ (C5 rfl rfl) ?_;refine O1 ?_ ?_<;>intro h
 ·have e:N9 ix s a=[]:=by simpa using h
  rw[e];simp only[z6,Q3];refine y8 ?_;refine w6 _ rfl (R2 b s a {c with a5N:=[]} x qb f.2.2) i_ pre rfl rfl (l6.le_refl _) (fun v h=>⟨(by simp only[jA,d,zb,zu e,h.1,Zm]),h.2⟩) ?_;rintro v A ⟨r,i,rfl,rfl⟩;refine O2 ?_;exact l_ rfl [H8 b s r.2 {c with a5N:=r.1} x] ⟨({c with a5N:=r.1},r.2),by simp only[jA,d,zb,zu e,i,Qz],rfl,rfl⟩ i_
 ·have e:¬N9 ix s a=[]:=by simpa using h
  refine u7 ?_;exact l_ rfl [H8 b s (a+(N9 ix s a).length) {c with a5N:=N9 ix s a} x] ⟨({c with a5N:=N9 ix s a},(a+(N9 ix s a).length)),by simp only[jA,d,zb,zk e],rfl,rfl⟩ i_
theorem wm(b:Nat)(s:Bs)(hs:s.length<=1000000000):Og 288 b s (fun c p=>(dw s p).map fun q=>({c with a5L:=q.1,a5K:=true},q.2)):=fun c x p hp=>by
 refine B7 14 func288 rfl rfl rfl ?_;intro F hg;refine y8 ?_;refine w6 _ rfl (X_ b s D_ p c x qb hp (zr _)) i_ pre rfl rfl (l6.le_refl _) (fun v h=>⟨(by simp only[dw,h.1,Z0,Zm]),h.2⟩) ?_;rintro v A ⟨r,a,rfl,rfl⟩;refine O2 ?_;have d:=cn hp a;refine cQ ?_;refine w6 _ rfl (D7 b s [41] r.2 {c with a5L:=r.1,a5K:=true} x qb d.2.2 y4) i_ pre rfl rfl (l6.le_refl _) (fun v h=>⟨(by simp only[dw,a,h.1,zb,Zm]),h.2⟩) ?_;rintro v A ⟨e,f,rfl,rfl⟩;refine u7 ?_;exact l_ rfl [H8 b s e {c with a5L:=r.1,a5K:=true} x] ⟨({c with a5L:=r.1,a5K:=true},e),by simp only[dw,a,f,zb,Qz],rfl,rfl⟩ i_
abbrev NW:=Bs×Nat×Bool
abbrev Mf:NW:=([],0,false)
abbrev DF(x:NW):List Value:=[B x.1,.int .i64 (x.2.1:Nat),.bool x.2.2,.bool false,.int .u64 0,.int .u64 0]
abbrev DG(l:List NW):List Value:=l.flatMap DF
theorem uk:∀x,(DF x).length=6:=fun _=>rfl
theorem Mg:∀x,∀q∈DF x,q.oneCell'=true:=fun x q a=>by simp at a;rcases a with rfl|rfl|rfl|rfl|rfl|rfl<;>rfl
theorem pu:Ct prog 281 [] (fun _=>True) [] (fun v A=>∃a,v=.slice (some a) 5 5/\A=[.own (.slice (some a) 5 5) 371 6 (DG jt)]):=by
 refine b_ 12 func281 rfl rfl rfl ?_;intro F _;refine wk 11 ?_;refine x5 rfl rfl rfl rfl rfl rfl (xs:=DG jt) rfl rfl ?_;rintro c ⟨b,rfl⟩;refine C8 ?_;exact d_ rfl rfl _ ⟨b,rfl,rfl⟩ i_
theorem DH{l:List NW}{j:Nat}(h:j<l.length):l.getD j Mf∈l:=by
 rw[zd,zj h];exact zx h
theorem Mh{l:List NW}{f:NW->Bool}{j:Nat}(d:j<l.length)(b:∀i,i<j->f (l.getD i Mf)=false)(c:f (l.getD j Mf)=true):l.find? f=some (l.getD j Mf):=by
 induction l generalizing j with
 |nil=>simp at d
 |cons a t ih=>
  cases j with
  |zero=>simp only[List.getD_cons_zero] at c⊢;rw[Wj,c]
  |succ j=>
   have e:=b 0 qb;simp only[List.getD_cons_zero,List.getD_cons_succ] at e c⊢;rw[Wj,e];exact ih (by simpa using d) (fun i g=>by have:=b (i+1) qb;simpa using this) c
theorem He{l:List NW}{f:NW->Bool}(a:∀i,i<l.length->f (l.getD i Mf)=false):l.find? f=none:=by
 rw[Wh];intro x c;obtain⟨i,b,rfl⟩:=Zz c;have:=a i b;rw[zd,zj b] at this;simpa using this
theorem Hf{l:List NW}{s:Bs}{p:Nat}{r:IT×Nat}(hp:p<=s.length)(hl:∀x∈l,x.1≠[])(h:cR l s p=some r):p<r.2/\r.2<=s.length:=by
 unfold cR at h;obtain⟨x,f,b⟩:=zp.1 h;have g:=Kv f;have a:I0 s x.1 p=true:=by have:=List.find?_some f;simpa using this
 have u:=iz a (hl x g);have v:=Z9.mpr (hl x g);split at b
 ·next hc=>
  have i:=iz hc.2 y4;unfold yf at b;obtain⟨w,j,k⟩:=zp.1 b;obtain⟨y,m,n⟩:=zp.1 k;obtain⟨z,o,c⟩:=zp.1 n;simp only[zy,z6] at i;have A:=cn qb j;have q:=C_ m y4;have C:=cn q.2.2 o;split at c
  ·obtain⟨e,t,d⟩:=kg.1 c;have D:=C_ t y4;subst d;simp only;omega
  ·cases c
 ·have:=j8 b;subst this;simp only;omega
theorem a1y{F:l6}{w:World}{H:List As}{a:Option Addr}{l:List NW}{q i:Nat}(b:Hp F w H)(r:o0 F.heap a (DG l))(hq:q=6*i)(c:i<l.length):L_ (hp w) (N1 a q) (DF (l.getD i Mf)):=
 tx (C:=DF) (r.le b.keep) uk qb Mf hq c
theorem DI{h:l9}{a:Option Addr}{l:List NW}{i:Nat}(r:o0 h a (DG l))(b:i<l.length):∃c,a=some c:=vn (C:=DF) r uk qb b
theorem n5{P:Program}{N:Nat}{K R:y6}{E:List (Nat×y6)}{L:F_}{F j:l6}{H:List As}{ops:Array Oper}{rest:List Oper}{ty:TypeId}{pos:String}{af:Array Edge}{Pq b:Value->Prop}{d:Nat}{f:FuncId}{args:List Operand}{g:Array TypeId}{vs:List Value}{c:l9->Prop}{C Rr:List As}{a:Value->List As->Prop}[HF P f](hc:Cx P f vs c C a Pq)(e:∀h,l9.le F.heap h->(∃bs,A2 h Rr bs)->c h)(k:E.lookup 0=some (CN j b))(i:∀v,Pq v->b v)(h:∀v A,a v A->GL P N ops rest K E R ((d,v)::L) F (A++Rr))(hx:rC L args=some vs:=by rfl)(hH:x7 C H Rr:=by exact tk)(hl:j.le F:=by exact fle)(l:Nat.blt d N=true:=by rfl):
  GL P N ops (⟨some d,.call ⟨.value (.func f),args.toArray,g⟩,ty,pos,af,none⟩::rest) K E R L F H:=
 w6 Rr hx hc (fun w m=>hH.hp m) e l k hl i h
def ItP(b:Nat)(s:Bs)(c:CM)(x:CL)(o:Option (IT×Nat))(v:Value)(A:List As):Prop:=∃r a' c',o=some r/\v=.tuple #[]/\A=[H8 b s r.2 {c with a5J:=c.a5J++[r.1]} {x with ia:=a',ic:=c'},bP a' (c.a5J++[r.1]) c']
theorem Bq(b:Nat)(s:Bs)(p:Nat)(c:CM)(x:CL)(l:List NW)(a:Option Addr)(n:Nat)(hs:s.length<=1000000000)(hp:p<=s.length)(hl:∀x∈l,x.1≠[]/\x.1.length<=100/\x.2.1<=100)(q0:l.length<=100)(hi:c.a5J.length<=1000000000):Cx prog 280 [m6 b,.slice a l.length n] (fun h=>Gl h/\o0 h a (DG l)) [H8 b s p c x,bP x.ia c.a5J x.ic] (ItP b s c x (cR l s p)) (fO (cR l s p)):=by
 refine B7 59 func280 rfl rfl rfl ?_;intro F hh;have hg:=hh.1;have M:=hh.2;obtain⟨W,d⟩:=o7 (cR l s p);rw[<-d];unfold cR at d;refine E4 ?_;refine o9 (ι:=Nat×List As) (fun i=>i.1<=l.length/\∀j,j<i.1->I0 s (l.getD j Mf).1 p=false) (fun i=>[(0,m6 b),(6,.slice a l.length n),(7,.int .i64 (l.length:Nat)),(8,.int .i64 (i.1:Nat))]) (fun i=>H8 b s p c x::bP x.ia c.a5J x.ic::i.2) (fun i=>l.length-i.1) (0,[]) ⟨by simp,fun j hj=>by simp at hj⟩ sub i_ ?_;rintro⟨i,Z⟩ ⟨h6,r⟩;simp only at h6 r;refine R6 ?_ ?_<;>intro h
 ·have g:i<l.length:=by have:=qr h;omega
  have h7:=DI M g;have hm:=hl _ (DH g);obtain⟨y,O⟩:=o7 (l.getD i Mf);obtain⟨q,Q⟩:=o7 (I0 s y.1 p);rw[<-O] at hm;refine p_ ?_;refine r_ ((w8 rfl (fun w e=>a1y e M (i:=i) qb g) (by rfl)).eq (v':=.agg [B y.1,.int .i64 (y.2.1:Nat),.bool y.2.2,.bool false,.int .u64 0,.int .u64 0].toArray) (by rw[O])) ?_;refine p_ ?_;intro S;refine O2 ?_;refine c_ (S6 b s y.1 p c x qb hp qb) pre ?_;rintro v A ⟨rfl,rfl⟩;rw[<-Q];refine R6 ?_ ?_<;>intro h2
  ·have T:I0 s y.1 p=false:=(by rw[<-Q];simpa using h2);rw[show H3 s y.1 p=p from by unfold H3;rw[T];rfl];refine y8 ?_;refine l8 (i+1,_::Z) ⟨g,fun j hj=>?_⟩ qg sub (fun w e=>(tk (C:=[_,_,_])).hp e);rcases kr.1 hj with t|rfl
   ·exact r j t
   ·rw[<-O];exact T
  ·have U:I0 s y.1 p=true:=(by rw[<-Q];simpa using h2);have D:l.find? (fun x=>I0 s x.1 p)=some y:=(by rw[O];exact Mh g r (by rw[<-O];exact U));rw[D,zb] at d;have e2:H3 s y.1 p=p+y.1.length:=(by unfold H3;rw[U];rfl);have u:=(gy (s:=s) (w:=y.1) hp).2;rw[e2] at u⊢;obtain⟨P,hP⟩:=o7 (p+y.1.length);rw[<-hP] at d u⊢;obtain⟨q1,k⟩:=o7 (decide (10<=y.2.1));obtain⟨q2,z⟩:=o7 (I0 s [60] P);refine u7 ?_;obtain⟨PE,f⟩:=o7 (if(q1&&q2)=true then P+1 else P);refine x6 [(0,m6 b),(5,m6 S),(24,.bool (q1&&q2))] (H8 b s PE c x::.blk S (.cells (B y.1::cX ⟨y.2.1,y.2.2,false,0,0⟩).toArray 371)::bP x.ia c.a5J x.ic::Z) ?_ ?_
   ·cases q1
    ·refine E4 ?_;refine f_ ((I3 rfl rfl).eq (v':=.bool false) (qn ((qz).trans k.symm))) ?_;refine y8 ?_;(first|refine u_ ?_|(refine v_ ?_;fail));refine p_ ?_;subst f;exact p8 sub (fun w e=>(tk (C:=[_,_,_])).hp e)
    ·refine E4 ?_;refine f_ ((I3 rfl rfl).eq (v':=.bool true) (qn ((qz).trans k.symm))) ?_;refine y8 ?_;(first|refine u_ ?_|(refine v_ ?_;refine c_ (S6 b s [60] P c x qb u qp) pre ?_;rintro v A ⟨rfl,rfl⟩;rw[<-z]));refine p_ ?_;rw[show H3 s [60] P=PE from by rw[f];unfold H3;rw[<-z];rfl];exact p8 sub (fun w e=>(tk (C:=[_,_,_])).hp e)
   refine u7 ?_;refine n7 (ι:=IT×Nat) (fun i=>W=some i) (fun i=>[(0,m6 b),(5,m6 S)]) (fun i=>H8 b s i.2 c x::.blk S (.cells (B y.1::cX i.1).toArray 371)::bP x.ia c.a5J x.ic::Z) ?_ ?_
   ·refine o8 rfl ?_ ?_<;>intro t
    ·rw[zu t] at f;rw[kx] at t;have V:I0 s [60] P=true:=z.symm.trans t.2;rw[zu ⟨qr (k.symm.trans t.1),V⟩] at d;unfold yf at d;have o:=(gy (s:=s) (w:=[60]) u).2;rw[show H3 s [60] P=P+1 from by unfold H3;rw[V];rfl] at o;rw[f];refine O2 ?_;refine n5 (X_ b s 4294967295 (P+1) c x qb o qp) pre rfl (fun v h=>⟨by rw[d,h.1];rfl,h.2⟩) ?_;rintro v A ⟨r1,X,rfl,rfl⟩;refine E4 ?_;have b1:=cn o X;rw[X,zb] at d;refine p_ ?_;refine n5 (D7 b s [46] r1.2 c x qb b1.2.2 qp) pre rfl (fun v h=>⟨by rw[d,h.1];rfl,h.2⟩) ?_;rintro v A ⟨p2,Y,rfl,rfl⟩;refine u7 ?_;have b2:=C_ Y y4;rw[Y,zb] at d;refine p_ ?_;refine n5 (X_ b s 4294967295 p2 c x qb b2.2.2 qp) pre rfl (fun v h=>⟨by rw[d,h.1];rfl,h.2⟩) ?_;rintro v A ⟨r3,h0,rfl,rfl⟩;refine E4 ?_;have b3:=cn b2.2.2 h0;rw[h0,zb] at d;obtain⟨q3,J⟩:=o7 (decide (0<r3.1));refine E4 ?_;refine f_ ((D8 rfl rfl).eq (v':=.bool q3) (qn ((qz).trans J.symm))) ?_;refine n5 (G7 q3) qw rfl (fun v h=>⟨by rw[d,zk (zq (J.symm.trans h.1))],h.2⟩) ?_;rintro v A ⟨Q,rfl,rfl⟩;refine u7 ?_;rw[zu (qr (J.symm.trans Q))] at d;refine p_ ?_;refine n5 (D7 b s [62] r3.2 c x qb b3.2.2 qp) pre rfl (fun v h=>⟨by rw[d,h.1];rfl,h.2⟩) ?_;rintro v A ⟨p4,h8,rfl,rfl⟩;refine u7 ?_;rw[h8,Qz] at d;exact g_ _ d (fun w e=>(tk (C:=[_,_,_])).hp e)
    ·rw[zk (by rw[t];simp)] at f;rw[zk (by rintro⟨h1,h4⟩;rw[jk h1] at k;rw[k,z,h4] at t;cases t)] at d;rw[f];refine u7 ?_;exact g_ _ d (fun w e=>(tk (C:=[_,_,_])).hp e)
   rintro⟨it,P2⟩ h9;refine u7 ?_;refine D9 [5,7] [8,9,13] [H8 b s P2 c x,.blk S (.cells (B y.1::cX it).toArray 371)] 14 ?_;refine wd [0,1,2,3,4,5,6,7] ?_;refine h_ 8 rfl i6 ?_;refine C4 cX it rfl ?_;intro q4 k9;refine F7 ?_;refine dH (.inr (by exact aW (by(first|exact fun _ h=>h|(repeat first|exact tv|refine ol (by repeat first|exact List.Mem.head _|apply List.Mem.tail) ?_|exact fun _ h=>h|refine sub_skip ?_))))) ?_;refine h_ 9 rfl i6 ?_;refine u6 cX (l:=c.a5J) (m:=[it]) am gu (by show(c.a5J.length+1)*32<=_;omega) ?_;intro k0 k8 _;refine E5 [10,11,12,13] ?_;refine A3 ?_;exact l_ rfl _ ⟨(it,P2),k0,k8,h9,rfl,rfl⟩ fun w e=>x7.left tk e
 ·have h5:i=l.length:=by have:=zq h;omega
  subst h5;rw[He r] at d;refine C6 ?_;refine n5 (G7 false) qw rfl (fun v h=>⟨d,h.2⟩) ?_;rintro v A ⟨hl,rfl,rfl⟩;refine u7 ?_
  cases hl
section
variable{ι:Type}(s:Bs)(Rr:ι->Nat->ι->Nat->Prop)(Nn:ι->Nat->Prop)
inductive px:ι->Nat->Nat->ι->Nat->Prop
 |one {i i1:ι} {p p1:Nat}:Rr i p i1 p1->px i p 1 i1 p1
 |more {i i1 i2:ι} {p p1 p2 n:Nat}:px i p n i1 p1->I0 s [32] p1=true->Rr i1 (p1+1) i2 p2->px i p (n+1) i2 p2
def Oh(i:ι)(p:Nat):Prop:=Nn i p\/∃n i1 p1,px s Rr i p n i1 p1/\I0 s [32] p1=true/\Nn i1 (p1+1)
end
theorem nu{ι:Type}(b:Nat)(s:Bs)(hs:s.length<=1000000000)(f:FuncId)[HF prog f](FQ:List Value)(l:l9->Prop)[Mn l](m:ι->CM)(cl:ι->CL)(Z:ι->List As)(ok:ι->Nat->Prop)(Rr:ι->Nat->ι->Nat->Prop)(D:ι->Nat->Prop)(J:∀i p a p',ok i p->p<=s.length->Rr i p a p'->p<=p'/\p'<=s.length/\ok a p')(d:∀i p,ok i p->ok i (p+1))(e:∀i p,ok i p->p<=s.length->Cx prog f FQ l (H8 b s p (m i) (cl i)::Z i) (fun v A=>∃a p',Rr i p a p'/\v=.tuple #[]/\A=H8 b s p' (m a) (cl a)::Z a) (fun v=>D i p/\v=N3))(i:ι)(p:Nat)(M:ok i p)(hp:p<=s.length):Cx prog 278 [m6 b,.func (.func f) #[] FQ.toArray] l (H8 b s p (m i) (cl i)::Z i) (fun v A=>∃n a p',px s Rr i p n a p'/\I0 s [32] p'=false/\v=.int .i64 (n:Nat)/\A=H8 b s p' (m a) (cl a)::Z a) (fun v=>Oh s Rr D i p/\v=N3):=by
 refine B7 15 func278 rfl rfl rfl ?_;intro F g;refine E4 ?_;refine kR (ps:=[]) [] rfl rfl rfl (e i p M hp) (fun w y=>by rw[z8];exact y) (fun h z _=>Mn.le z g) rfl rfl (l6.le_refl _) (fun v h=>⟨.inl h.1,h.2⟩) ?_;rintro v A ⟨T,U,x,rfl,rfl⟩;refine u7 ?_;have O:=J _ _ _ _ M hp x;rw[z8];refine o9 (ι:=Nat×ι×Nat) (fun t=>px s Rr i p t.1 t.2.1 t.2.2/\t.2.2<=s.length/\ok t.2.1 t.2.2/\t.1<=t.2.2+1) (fun t=>[(0,m6 b),(1,.func (.func f) #[] FQ.toArray),(5,.int .i64 (t.1:Nat))]) (fun t=>H8 b s t.2.2 (m t.2.1) (cl t.2.1)::Z t.2.1) (fun t=>s.length-t.2.2) (1,T,U) ⟨.one x,O.2.1,O.2.2,by simp⟩ sub i_ ?_;rintro⟨n,j,q⟩ ⟨c,o,r,C⟩;simp only at c o r C;refine p_ ?_;refine c_ (S6 b s [32] q (m j) (cl j) qb o qp) qw ?_;rintro v A ⟨rfl,rfl⟩;refine O1 ?_ ?_<;>intro h
 ·have u:=(gy (s:=s) (w:=[32]) o).2;rw[show H3 s [32] q=q+1 from by unfold H3;rw[h];rfl] at u⊢;refine p_ ?_;refine kR (ps:=[]) [] rfl rfl rfl (e j (q+1) (d _ _ r) u) (fun w y=>by rw[z8];exact y) (fun h z _=>Mn.le z g) rfl rfl (l6.le_refl _) (fun v k=>⟨.inr ⟨n,j,q,c,h,k.1⟩,k.2⟩) ?_;rintro v A ⟨V,X,Q,rfl,rfl⟩;refine u7 ?_;have S:=J _ _ _ _ (d _ _ r) u Q;refine p_ ?_;refine f_ ((p9 rfl rfl qb).eq (v':=.int .i64 ((n+1:Nat):Int)) (by congr 1)) ?_;refine p_ ?_;rw[z8];exact l8 (n+1,V,X) ⟨.more c h Q,S.2.1,S.2.2,by simp only;omega⟩ qg sub i_
 ·rw[show H3 s [32] q=q from by unfold H3;rw[h];rfl];refine L7 ?_;exact d_ rfl rfl (H8 b s q (m j) (cl j)::Z j) ⟨n,j,q,c,h,rfl,rfl⟩ i_
open Go Go.Sl Go.RowKit Go.Proofs.Tryz
section
variable{ι α β:Type}{s:Bs}{one:Nat->Option (α×Nat)}{acc:ι->β}{app:β->α->β}
def Hg(one:Nat->Option (α×Nat))(acc:ι->β)(app:β->α->β)(i:ι)(p:Nat)(i':ι)(p':Nat):Prop:=∃r,one p=some r/\acc i'=app (acc i) r.1/\p'=r.2
theorem sr{i b:ι}{p n a:Nat}(h:px s (Hg one acc app) i p n b a):∃l,l.length=n/\acc b=l.foldl app (acc i)/\∀k,dS one s (k+n) p=if I0 s [32] a=true then(dS one s k (a+1)).map fun r=>(l++r.1,r.2) else some (l,a):=by
 induction h with
 |one h=>
  obtain⟨r,c,d,rfl⟩:=h;exact⟨[r.1],rfl,d,fun k=>by rw[dS,c,zb];rfl⟩
 |@more b i2 p a p2 n h hl hr ih=>
  obtain⟨l,e,f,g⟩:=ih;obtain⟨r,c,d,rfl⟩:=hr;refine⟨l++[r.1],by simp[e],by rw[d,f,W1];rfl,fun k=>?_⟩;rw[show k+(n+1)=(k+1)+n from by omega,g (k+1),zu hl,dS,c,zb];split
  ·cases dS one s k (r.2+1)<;>simp
  ·simp
theorem nv(c:∀p r,p<=s.length->one p=some r->p<r.2/\r.2<=s.length){i d:ι}{p n a:Nat}(hp:p<=s.length)(h:px s (Hg one acc app) i p n d a):p+n<=a/\a<=s.length:=by
 induction h with
 |one h=>
  obtain⟨r,b,e,rfl⟩:=h;have:=c _ _ hp b;omega
 |more h hl hr ih=>
  obtain⟨r,b,e,rfl⟩:=hr;have:=iz hl y4;simp only[jc] at this;have:=c _ _ this b;have:=ih hp;omega
theorem su(c:∀p r,p<=s.length->one p=some r->p<r.2/\r.2<=s.length){i b:ι}{p n a:Nat}(hp:p<=s.length)(h:px s (Hg one acc app) i p n b a)(hl:I0 s [32] a=false):∃l,l.length=n/\acc b=l.foldl app (acc i)/\dS one s (s.length+1) p=some (l,a):=by
 obtain⟨l,d,e,f⟩:=sr h;have:=nv c hp h;refine⟨l,d,e,?_⟩;rw[show s.length+1=(s.length+1-n)+n from by omega,f,hl];rfl
theorem sv(c:∀p r,p<=s.length->one p=some r->p<r.2/\r.2<=s.length){i:ι}{p:Nat}(hp:p<=s.length)(h:Oh s (Hg one acc app) (fun _ p=>one p=none) i p):dS one s (s.length+1) p=none:=by
 rcases h with h|⟨n,f,g,h,b,d⟩
 ·rw[dS,h,Z0]
 ·obtain⟨l,j,k,e⟩:=sr h;have:=nv c hp h;have a:=iz b y4;simp only[jc] at a;rw[show s.length+1=(s.length-n+1)+n from by omega,e,zu b,dS,d,Z0];rfl
end
theorem py{α:Type}(l:List α):∀a:List α,l.foldl (fun a x=>a++[x]) a=a++l:=by
 induction l with
 |nil=>simp
 |cons x t ih=>intro a;rw[Wq,ih];simp
abbrev IS:=List IT×Option Addr×Nat
abbrev pB(g b:Nat):As:=.blk g (.cells #[m6 b] 209)
abbrev isC(c:CM)(i:IS):CM:={c with a5J:=i.1}
abbrev Br(x:CL)(i:IS):CL:={x with ia:=i.2.1,ic:=i.2.2}
abbrev Ua(g b:Nat)(i:IS):List As:=[bP i.2.1 i.1 i.2.2,pB g b]
abbrev Mi(tbl:List NW)(s:Bs):IS->Nat->IS->Nat->Prop:=Hg (cR tbl s) (fun i:IS=>i.1) (fun a x=>a++[x])
abbrev ItK(f:FuncId)(tbl:List NW)(b g:Nat)(s:Bs)(c:CM)(x:CL):Prop:=∀(i:IS) (p:Nat),i.1.length<=p->p<=s.length->Cx prog f [m6 g] Gl (H8 b s p (isC c i) (Br x i)::Ua g b i) (fun v A=>∃i' p',Mi tbl s i p i' p'/\v=.tuple #[]/\A=H8 b s p' (isC c i') (Br x i')::Ua g b i') (fun v=>cR tbl s p=none/\v=N3)
theorem yN{l:List NW}(h:(l.all fun x=>!x.1.isEmpty&&decide (x.1.length<=100)&&decide (x.2.1<=100))=true):∀x∈l,x.1≠[]/\x.1.length<=100/\x.2.1<=100:=fun x a=>by
 have:=Qv.1 h x a;simp only[kx,jy] at this;refine⟨fun e=>?_,this.1.2,this.2⟩;rw[e] at this;simp at this
theorem DJ(b g:Nat)(s:Bs)(c:CM)(x:CL)(hs:s.length<=1000000000):ItK 279 jt b g s c x:=fun i p m hp=>by
 refine B7 4 func279 rfl rfl rfl ?_;intro F hg;refine u7 ?_;refine D9 [0] [1,2] [pB g b] 3 ?_;refine wd [0] ?_;refine h_ 1 rfl i6 ?_;refine c_ pu qw ?_;rintro v A ⟨a,rfl,rfl⟩;refine ae ?_;refine h_ 2 rfl i6 ?_;refine n5 (Rr:=[.own (.slice (some a) 5 5) 371 6 (DG jt),pB g b]) (Bq b s p (isC c i) (Br x i) jt (some a) 5 hs hp (yN qp) qp qg) (fun h d ⟨n,e⟩=>⟨hg.le d,A2.rd e .del⟩) rfl (fun v h=>h) ?_;rintro v A ⟨r,f,j,k,rfl,rfl⟩;refine E5 [] ?_;exact l_ rfl _ ⟨(i.1++[r.1],f,j),r.2,⟨r,k,rfl,rfl⟩,rfl,rfl⟩ fun w l=>x7.left tk l
open Go Go.Sl Go.RowKit Go.Proofs.Tryz
instance:Mn Gl:=⟨fun l r=>r.le l⟩
abbrev P6(c:CM):CM:={c with cond:=false,set:=[],a5J:=[],keys:=[],how:=0,a5P:=false,a5K:=false,a5L:=0,a5R:=[]}
def sw(c:CM)(x:CL)(Z:List As):Prop:=∀h bs,A2 h Z bs->fj c x h
theorem bi{c:CM}{x:CL}{Z:List As}(hs:c.set=[]\/V3 x.sa c.set x.sc∈Z)(d:c.a5J=[]\/bP x.ia c.a5J x.ic∈Z)(f:c.keys=[])(hf:c.a5R=[]\/A4 x.fa c.a5R x.fc∈Z):sw c x Z:=fun h g b=>
 ⟨by rcases hs with e|a;rw[e];exact o0.nil _ _;exact dQ b a,by rcases d with e|a;rw[e];exact o0.nil _ _;exact dQ b a,⟨[],by rw[f];rfl,o0.nil _ _,fun _ h=>by cases h⟩,by rcases hf with e|a;rw[e];exact o0.nil _ _;exact dQ b a⟩
abbrev sx(f:FuncId)(b:Nat)(s:Bs)(Rd:CM->Nat->Option (CM×Nat)):Prop:=∀(c:CM) (p:Nat),p<=s.length->Cx prog f [m6 b] Gl [H8 b s p (P6 c) G9] (fun v A=>∃r x Z,Rd (P6 c) p=some r/\v=.tuple #[]/\A=H8 b s r.2 r.1 x::Z/\sw r.1 x Z) (fO (Rd (P6 c) p))
theorem sx.of_x{f:FuncId}{b:Nat}{s:Bs}{a:CM->Nat->Option (CM×Nat)}(h:Og f b s a)(e:∀c p r,a (P6 c) p=some r->r.1.set=[]/\r.1.a5J=[]/\r.1.keys=[]/\r.1.a5R=[]):sx f b s a:=fun c p hp=>
 (h (P6 c) G9 p hp).mono (fun _ h=>h) (fun v A ⟨r,d,g,i⟩=>⟨r,G9,[],d,g,i,by
  obtain⟨j,k,a3,a4⟩:=e c p r d;exact bi (.inl j) (.inl k) a3 (.inl a4)⟩) (fun _ h=>h)
theorem cp{c:CM}{s:Bs}{p:Nat}{r:CM×Nat}(h:I9 c s p=some r):∃w e,r=({c with box:=w},e):=by
 unfold I9 at h;obtain⟨q,_,a⟩:=kg.1 h;exact⟨q.1,q.2,a.symm⟩
theorem wo(a:List (Bs×Nat×Bool))(s:Bs)(p:Nat):oD a s p=(dS (cR a s) s (s.length+1) p).bind fun q=>if q.1.length<=8 then(H9 s [41] q.2).map fun e=>(q.1,e) else none:=rfl
theorem di{a:List NW}(b:∀x∈a,x.1≠[]/\x.1.length<=100/\x.2.1<=100)(s:Bs)(p:Nat)(r:IT×Nat)(hp:p<=s.length)(h:cR a s p=some r):p<r.2/\r.2<=s.length:=Hf hp (fun x c=>(b x c).1) h
theorem Bt{a:List NW}(c:∀x∈a,x.1≠[]/\x.1.length<=100/\x.2.1<=100){s:Bs}(i:IS)(p:Nat)(b:IS)(p':Nat)(h:i.1.length<=p)(hp:p<=s.length)(r:Mi a s i p b p'):p<=p'/\p'<=s.length/\b.1.length<=p':=by
 obtain⟨q,d,e,rfl⟩:=r;have:=di c s p q hp d;rw[show b.1=i.1++[q.1] from e,zz,jc];omega
theorem nx:∀x∈jt,x.1≠[]/\x.1.length<=100/\x.2.1<=100:=yN qp
theorem DK(b:Nat)(s:Bs)(hs:s.length<=1000000000):sx 213 b s (fun c p=>jB c s p):=fun c p hp=>by
 refine B7 13 func213 rfl rfl rfl ?_;intro F hg;obtain⟨W,a⟩:=o7 (jB (P6 c) s p);simp only;rw[<-a];unfold jB at a;refine p_ ?_;intro m;refine p_ ?_;refine n5 (dY b s hs (P6 c) G9 p hp) pre rfl (fun v h=>⟨by rw[a,show I9 (P6 c) s p=none from h.1];rfl,h.2⟩) ?_;rintro v A ⟨y,d,rfl,rfl⟩;refine u7 ?_;replace d:I9 (P6 c) s p=some y:=d;have x:=lv hp d;obtain⟨w,z,rfl⟩:=cp d;rw[d,zb] at a;simp only at a x;refine p_ ?_;refine n5 (D7 b s [32,40] z {P6 c with box:=w} G9 qb x.2 qp) pre rfl (fun v h=>⟨by rw[a,h.1];rfl,h.2⟩) ?_;rintro v A ⟨C,e,rfl,rfl⟩;refine u7 ?_;have k:=C_ e y4;rw[e,zb,wo] at a;refine u7 ?_;refine O6 129 5 ?_;refine y8 ?_;refine n5 (nu b s hs 279 [m6 m] Gl (isC {P6 c with box:=w}) (Br G9) (Ua m b) (fun i p=>i.1.length<=p) (Mi jt s) (fun _ p=>cR jt s p=none) (Bt nx) (fun _ _ h=>by omega) (DJ b m s _ _ hs) ([],none,0) C (zw _) k.2.2) pre rfl (fun v h=>⟨by rw[a,sv (di nx s) k.2.2 h.1];rfl,h.2⟩) ?_;rintro v A ⟨n,i,D,f,o,rfl,rfl⟩;obtain⟨l,g,j,J⟩:=su (di nx s) k.2.2 f o;rw[py,j7] at j;rw[J,zb] at a;obtain⟨q,r⟩:∃q,q=decide (n<=8):=⟨_,rfl⟩;refine f_ ((G2 rfl rfl).eq (v':=.bool q) (qn ((qz).trans r.symm))) ?_;refine n5 (G7 q) qw rfl (fun v h=>⟨by rw[a,zk (by rw[g];exact zq (r.symm.trans h.1))];rfl,h.2⟩) ?_;rintro v A ⟨t,rfl,rfl⟩;refine u7 ?_;rw[zu (by rw[g];exact qr (r.symm.trans t))] at a;have M:=nv (di nx s) k.2.2 f;refine p_ ?_;refine n5 (D7 b s [41] D (isC {P6 c with box:=w} i) (Br G9 i) qb M.2 qp) pre rfl (fun v h=>⟨by rw[a,h.1];rfl,h.2⟩) ?_;rintro v A ⟨O,u,rfl,rfl⟩;refine u7 ?_;rw[u,<-j] at a;exact l_ rfl (H8 b s O (isC {P6 c with box:=w} i) (Br G9 i)::[bP i.2.1 i.1 i.2.2]) ⟨_,_,_,a,rfl,rfl,bi (.inl rfl) (.inr (.head _)) rfl (.inl rfl)⟩ fun w Q=>x7.left tk Q
theorem DM(b:Nat)(s:Bs)(hs:s.length<=1000000000):sx 218 b s (fun c p=>cT c s p fun c e=>I9 c s e):=fun c p hp=>by
 refine B7 12 func218 rfl rfl rfl ?_;intro F hg;obtain⟨W,a⟩:=o7 (cT (P6 c) s p fun c e=>I9 c s e);simp only;rw[<-a];unfold cT at a;refine p_ ?_;refine n5 (D7 b s [32] p (P6 c) G9 qb hp qp) pre rfl (fun v h=>⟨by rw[a,h.1];rfl,h.2⟩) ?_;rintro v A ⟨n,g,rfl,rfl⟩;refine u7 ?_;have l:=C_ g y4;rw[g,zb] at a;refine y8 ?_;refine n5 (jZ b s n (P6 c) G9 hs l.2.2) pre rfl (fun v h=>⟨by rw[a,h.1];rfl,h.2⟩) ?_;rintro v A ⟨f,j,k,i,rfl,rfl⟩;refine O2 ?_;have o:=jY l.2.2 i;rw[i,zb] at a;simp only at a;refine p_ ?_;refine n5 (dY b s hs {P6 c with set:=f.1} {G9 with sa:=j,sc:=k} f.2 o.2.1) pre rfl (fun v h=>⟨by rw[a];exact h.1,h.2⟩) ?_;rintro v A ⟨q,d,rfl,rfl⟩;refine u7 ?_;replace d:I9 {P6 c with set:=f.1} s f.2=some q:=d;obtain⟨w,m,rfl⟩:=cp d;exact l_ rfl (H8 b s m {P6 c with set:=f.1,box:=w} {G9 with sa:=j,sc:=k}::[V3 j f.1 k]) ⟨({P6 c with set:=f.1,box:=w},m),_,_,a.trans d,rfl,rfl,bi (.inr (.head _)) (.inl rfl) rfl (.inl rfl)⟩ fun w r=>x7.left tk r
theorem eP{s w:Bs}{p:Nat}(hp:p<=s.length):H3 s w p<=s.length:=(gy hp).2
theorem pz{c:CM}{s:Bs}{p:Nat}{r:CM×Nat}(hp:p<=s.length)(h:(dw s p).map (fun q=>({c with a5L:=q.1,a5K:=true},q.2))=some r):∃n e,dw s p=some (n,e)/\r=({c with a5L:=n,a5K:=true},e)/\e<=s.length:=by
 obtain⟨q,a,b⟩:=kg.1 h;refine⟨q.1,q.2,a,b.symm,?_⟩;unfold dw at a;obtain⟨t,i,d⟩:=zp.1 a;obtain⟨e,f,g⟩:=kg.1 d;have:=C_ f y4;subst g;exact this.2.2
theorem Hh(b:Nat)(s:Bs)(hs:s.length<=1000000000):sx 217 b s (fun c p=>cT c s p (aI s fun c e=>oG c s e)):=fun c p hp=>by
 refine B7 48 func217 rfl rfl rfl ?_;intro F hg;obtain⟨W,a⟩:=o7 (cT (P6 c) s p (aI s fun c e=>oG c s e));simp only;rw[<-a];unfold cT at a;refine p_ ?_;refine n5 (D7 b s [32] p (P6 c) G9 qb hp qp) pre rfl (fun v h=>⟨by rw[a,h.1];rfl,h.2⟩) ?_;rintro v A ⟨e1,C,rfl,rfl⟩;refine u7 ?_;have b1:=C_ C y4;rw[C,zb] at a;refine y8 ?_;refine n5 (jZ b s e1 (P6 c) G9 hs b1.2.2) pre rfl (fun v h=>⟨by rw[a,h.1];rfl,h.2⟩) ?_;rintro v A ⟨d,g,j,D,rfl,rfl⟩;refine O2 ?_;have b2:=jY b1.2.2 D;rw[D,zb] at a;unfold aI at a;simp only at a;obtain⟨x,hx⟩:∃x:CL,x={G9 with sa:=g,sc:=j}:=⟨_,rfl⟩;refine p_ ?_;refine n5 (D7 b s [32] d.2 {P6 c with set:=d.1} {G9 with sa:=g,sc:=j} qb b2.2.1 qp) pre rfl (fun v h=>⟨by rw[a,h.1];rfl,h.2⟩) ?_;rintro v A ⟨u,J,rfl,rfl⟩;refine u7 ?_;have V:=C_ J y4;rw[J,zb] at a;unfold oG Pf at a;refine p_ ?_;refine c_ (S6 b s vE u {P6 c with set:=d.1} {G9 with sa:=g,sc:=j} qb V.2.2 qp) pre ?_;rintro v A ⟨rfl,rfl⟩;refine u7 ?_
 -- since
 refine n7 (ι:=CM×Nat) (fun i=>i.2<=s.length/\(∃n h,i.1={P6 c with set:=d.1,a5L:=n,a5K:=h})/\W=(H9 s yh (vG s i.2).2).bind fun e=>(H9 s [32] (CZ s e).2).bind fun e2=>(oC s e2).map fun f=>({i.1 with how:=(vG s i.2).1,a5P:=(CZ s e).1,a5R:=f.1},f.2)) (fun i=>[(0,m6 b)]) (fun i=>H8 b s i.2 i.1 {G9 with sa:=g,sc:=j}::[V3 g d.1 j]) ?_ ?_
 ·refine o8 rfl ?_ ?_<;>intro h
  ·rw[zu h] at a;have o:=eP (w:=vE) V.2.2;rw[show H3 s vE u=u+16 from by unfold H3;rw[h];rfl] at o⊢;refine p_ ?_;refine n5 (wm b s hs {P6 c with set:=d.1} {G9 with sa:=g,sc:=j} (u+16) o) pre rfl (fun v h=>⟨by rw[a,Option.map_eq_none_iff.1 h.1];rfl,h.2⟩) ?_;rintro v A ⟨r4,X,rfl,rfl⟩;refine u7 ?_;obtain⟨l,k,Y,rfl,r⟩:=pz o X;rw[Y,zb] at a;simp only at a r;refine p_ ?_;refine n5 (D7 b s [32] k {P6 c with set:=d.1,a5L:=l,a5K:=true} {G9 with sa:=g,sc:=j} qb r qp) pre rfl (fun v h=>⟨by rw[a,h.1];rfl,h.2⟩) ?_;rintro v A ⟨Z,M,rfl,rfl⟩;refine u7 ?_;have y:=C_ M y4;rw[M,Qz,zb] at a;exact g_ ({P6 c with set:=d.1,a5L:=l,a5K:=true},Z) ⟨y.2.2,⟨l,true,rfl⟩,a⟩ (fun w m=>x7.left tk m)
  ·rw[zk (by simp[h]),zb] at a;rw[show H3 s vE u=u from by unfold H3;rw[h];rfl];refine u7 ?_;exact g_ ({P6 c with set:=d.1},u) ⟨V.2.2,⟨_,_,rfl⟩,a⟩ (fun w m=>x7.left tk m)
 rintro⟨c4,k⟩ ⟨o,⟨l,t,rfl⟩,a⟩;simp only at o a
 -- plus or minus
 refine I8 0 ?_;refine n7 (ι:=Nat×Nat) (fun i=>i=vG s k/\i.2<=s.length) (fun i=>[(0,m6 b)]) (fun i=>H8 b s i.2 {P6 c with set:=d.1,a5L:=l,a5K:=t,how:=i.1} {G9 with sa:=g,sc:=j}::[V3 g d.1 j]) ?_ ?_
 ·refine p_ ?_;refine c_ (S6 b s [43] k {P6 c with set:=d.1,a5L:=l,a5K:=t} {G9 with sa:=g,sc:=j} qb o qp) pre ?_;rintro v A ⟨rfl,rfl⟩;refine p_ ?_;have r:=eP (w:=[43]) o;refine o8 rfl ?_ ?_<;>intro h
  ·rw[show H3 s [43] k=k+1 from by unfold H3;rw[h];rfl] at r⊢;refine aH ?_;exact g_ (1,k+1) ⟨by unfold vG;rw[zu h],r⟩ (fun w m=>x7.left tk m)
  ·rw[show H3 s [43] k=k from by unfold H3;rw[h];rfl];refine p_ ?_;refine c_ (S6 b s [45] k {P6 c with set:=d.1,a5L:=l,a5K:=t} {G9 with sa:=g,sc:=j} qb o qp) pre ?_;rintro v A ⟨rfl,rfl⟩;refine p_ ?_;have y:=eP (w:=[45]) o;refine o8 rfl ?_ ?_<;>intro U
   ·rw[show H3 s [45] k=k+1 from by unfold H3;rw[U];rfl] at y⊢;refine aH ?_;exact g_ (2,k+1) ⟨by unfold vG;rw[zk (by rw[h];simp),zu U],y⟩ (fun w m=>x7.left tk m)
   ·rw[show H3 s [45] k=k from by unfold H3;rw[U];rfl];refine u7 ?_;exact g_ (0,k) ⟨by unfold vG;rw[zk (by rw[h];simp),zk (by rw[U];simp)],o⟩ (fun w m=>x7.left tk m)
 rintro⟨O,Z⟩ ⟨h0,r⟩;rw[<-h0] at a;simp only at r a;refine p_ ?_;refine n5 (D7 b s yh Z {P6 c with set:=d.1,a5L:=l,a5K:=t,how:=O} {G9 with sa:=g,sc:=j} qb r qp) pre rfl (fun v h=>⟨by rw[a,h.1];rfl,h.2⟩) ?_;rintro v A ⟨z,Q,rfl,rfl⟩;refine u7 ?_;have y:=C_ Q y4;rw[Q,zb] at a;refine y8 ?_;refine c_ (S6 b s cS z {P6 c with set:=d.1,a5L:=l,a5K:=t,how:=O} {G9 with sa:=g,sc:=j} qb y.2.2 qp) pre ?_;rintro v A ⟨rfl,rfl⟩;refine O2 ?_;have S:CZ s z=(I0 s cS z,H3 s cS z):=by
  unfold CZ H3
  cases I0 s cS z<;>rfl
 have b7:=eP (w:=cS) y.2.2;rw[S] at a;obtain⟨e7,h1⟩:=o7 (H3 s cS z);obtain⟨q,hq⟩:=o7 (I0 s cS z);rw[<-h1] at a b7⊢;rw[<-hq] at a⊢;simp only at a;refine p_ ?_;refine n5 (D7 b s [32] e7 {P6 c with set:=d.1,a5L:=l,a5K:=t,how:=O,a5P:=q} {G9 with sa:=g,sc:=j} qb b7 qp) pre rfl (fun v h=>⟨by rw[a,h.1];rfl,h.2⟩) ?_;rintro v A ⟨e8,T,rfl,rfl⟩;refine u7 ?_;have b8:=C_ T y4;rw[T,zb] at a;refine y8 ?_;refine n5 (so b s e8 {P6 c with set:=d.1,a5L:=l,a5K:=t,how:=O,a5P:=q} {G9 with sa:=g,sc:=j} hs b8.2.2) pre rfl (fun v h=>⟨by rw[a,h.1];rfl,h.2⟩) ?_;rintro v A ⟨r9,a9,d9,h3,rfl,rfl⟩;refine O2 ?_;rw[h3,Qz] at a;exact l_ rfl (H8 b s r9.2 {P6 c with set:=d.1,a5L:=l,a5K:=t,how:=O,a5P:=q,a5R:=r9.1} {G9 with sa:=g,sc:=j,fa:=a9,fc:=d9}::[V3 g d.1 j,A4 a9 r9.1 d9]) ⟨_,_,_,a,rfl,rfl,bi (.inr (.head _)) (.inl rfl) rfl (.inr (.tail _ (.head _)))⟩ fun w m=>x7.left tk m
theorem SN(s:Bs)(p:Nat):([40]:Bs).isPrefixOf (s.drop p)=I0 s [40] p:=Py (c:=40) qp
theorem DN(b:Nat)(s:Bs)(hs:s.length<=1000000000):sx 214 b s (fun c p=>jC c s p):=fun c p hp=>by
 refine B7 23 func214 rfl rfl rfl ?_;intro F hg;obtain⟨W,a⟩:=o7 (jC (P6 c) s p);simp only;rw[<-a];unfold jC at a;refine p_ ?_;refine n5 (dY b s hs (P6 c) G9 p hp) pre rfl (fun v h=>⟨by rw[a,show I9 (P6 c) s p=none from h.1];rfl,h.2⟩) ?_;rintro v A ⟨y,d,rfl,rfl⟩;refine u7 ?_;replace d:I9 (P6 c) s p=some y:=d;have x:=lv hp d;obtain⟨w,z,rfl⟩:=cp d;rw[d,zb] at a;simp only at a x;refine p_ ?_;refine n5 (D7 b s [32] z {P6 c with box:=w} G9 qb x.2 qp) pre rfl (fun v h=>⟨by rw[a,h.1];rfl,h.2⟩) ?_;rintro v A ⟨l,f,rfl,rfl⟩;refine u7 ?_;have m:=C_ f y4;rw[f,zb] at a;refine p_ ?_;refine c_ (aN b s l {P6 c with box:=w} G9 qb m.2.2) pre ?_;rintro v A ⟨rfl,rfl⟩;refine e_ rfl (ah (s.drop l) [40]) qw rfl ?_;rw[SN];refine u7 ?_;refine n7 (ι:=(List Bs×Option Addr×Nat)×Nat) (fun i=>i.2<=s.length/\W=(mG s i.2).map fun r=>({P6 c with box:=w,a5R:=i.1.1,data:=r.1},r.2)) (fun i=>[(0,m6 b)]) (fun i=>[H8 b s i.2 {P6 c with box:=w,a5R:=i.1.1} {G9 with fa:=i.1.2.1,fc:=i.1.2.2},A4 i.1.2.1 i.1.1 i.1.2.2]) ?_ ?_
 ·refine o8 rfl ?_ ?_<;>intro h
  ·rw[zu h] at a;refine y8 ?_;refine n5 (so b s l {P6 c with box:=w} G9 hs m.2.2) pre rfl (fun v h=>⟨by rw[a,h.1];rfl,h.2⟩) ?_;rintro v A ⟨o,a3,e,g,rfl,rfl⟩;refine O2 ?_;have C:=Md m.2.2 g;rw[g,zb] at a;refine p_ ?_;refine n5 (D7 b s [32] o.2 {P6 c with box:=w,a5R:=o.1} {G9 with fa:=a3,fc:=e} qb C.2.1 qp) pre rfl (fun v h=>⟨by rw[a,h.1];rfl,h.2⟩) ?_;rintro v A ⟨q,j,rfl,rfl⟩;refine u7 ?_;have n:=C_ j y4;rw[j,zb] at a;exact g_ ((o.1,a3,e),q) ⟨n.2.2,a⟩ (fun w k=>x7.left tk k)
  ·rw[zk (by rw[h];simp)] at a;refine u7 ?_;exact g_ (([],none,0),l) ⟨m.2.2,a⟩ (fun w k=>(k.addNil 9 1).perm (.swap _ _ _))
 rintro⟨⟨t,a3,e⟩,q⟩ ⟨n,a⟩;simp only at n a;refine y8 ?_;refine n5 (mh b s q {P6 c with box:=w,a5R:=t} {G9 with fa:=a3,fc:=e} qb n) pre rfl (fun v h=>⟨by rw[a,h.1];rfl,h.2⟩) ?_;rintro v A ⟨r5,u,rfl,rfl⟩;refine O2 ?_;rw[u,Qz] at a;exact l_ rfl (H8 b s r5.2 {P6 c with box:=w,a5R:=t,data:=r5.1} {G9 with fa:=a3,fc:=e}::[A4 a3 t e]) ⟨_,_,_,a,rfl,rfl,bi (.inl rfl) (.inl rfl) rfl (.inr (.head _))⟩ fun w k=>x7.left tk k
theorem dZ:∀x∈cD,x.1≠[]/\x.1.length<=100/\x.2.1<=100:=yN qp
abbrev Hi(w:Bs)(q:Bool):List NW:=[(w++[91,93],10,q),(w++[91,72,69,65,68,69,82,93],11,q),(w++[91,84,69,88,84,93],12,q)]
theorem rr:Ct prog 287 [] (fun _=>True) [] (fun v A=>∃a c,v=.slice a 10 c/\A=[.own (.slice a 10 c) 371 6 (DG cD)]):=by
 refine b_ 41 func287 rfl rfl rfl ?_;intro F _;refine wk 9 ?_;refine x5 rfl rfl rfl rfl rfl rfl (xs:=DG (cD.take 4)) rfl rfl ?_;rintro z ⟨n,rfl⟩;refine xJ ?_;refine x5 rfl rfl rfl rfl rfl rfl (xs:=[.bool false,.bool true]) rfl rfl ?_;rintro D ⟨b,rfl⟩;refine y8 ?_;refine o9 (ι:=Nat×Option Addr×Nat×List As) (fun i=>i.1<=2) (fun i=>[(1,.slice i.2.1 (cD.take (4+3*i.1)).length i.2.2.1),(14,.slice (some b) 2 2),(15,.int .i64 2),(16,.int .i64 (i.1:Nat))]) (fun i=>.own (.slice i.2.1 (cD.take (4+3*i.1)).length i.2.2.1) 371 6 (DG (cD.take (4+3*i.1)))::.own (.slice (some b) 2 2) 4 1 [.bool false,.bool true]::i.2.2.2) (fun i=>2-i.1) (0,some n,4,[]) y4 sub (fun w f=>x7.left tk f) ?_;rintro⟨j,a,c,Z⟩ J;simp only at J;refine R6 ?_ ?_<;>intro h
 ·have d:j<2:=by have:=qr h;omega
  obtain⟨q,o⟩:=o7 (α:=Bool) (decide (j=1));have p:j<([Value.bool false,Value.bool true]:List Value).length:=d;have M:([Value.bool false,Value.bool true]:List Value)[j]=.bool q:=by
   rcases kr.1 d with O|rfl
   ·obtain rfl:j=0:=(by omega);rw[o];rfl
   ·rw[o];rfl
  obtain⟨W,e⟩:=o7 (α:=Bs) (if q then[66,79,68,89,46,80,69,69,75] else[66,79,68,89]);have g:cD.take (4+3*j)++Hi W q=cD.take (4+3*(j+1)):=by
   rcases kr.1 d with O|rfl
   ·obtain rfl:j=0:=(by omega);rw[e,o];rfl
   ·rw[e,o];rfl
  have u:(cD.take (4+3*j)).length<=10:=by
   rw[z7];exact jd (Nat.min_le_right _ _) qp
  refine C6 ?_;refine f_ (m8 rfl ⟨b,rfl⟩ rfl qb) ?_;refine r_ (i8 rfl (fun w f=>dO (C:=fun v:Value=>[v]) (l:=[.bool false,.bool true]) (i:=j) (j:=0) (v:=.bool q) (f.ownN (t:=4) (a:=some b) ud).2.2.1 (fun _=>rfl) p (jw some M) y4)) ?_;refine E4 ?_;refine x6 [(1,.slice a (cD.take (4+3*j)).length c),(3,.bool q),(4,B W),(14,.slice (some b) 2 2),(15,.int .i64 2),(16,.int .i64 (j:Nat))] (.own (.slice a (cD.take (4+3*j)).length c) 371 6 (DG (cD.take (4+3*j)))::.own (.slice (some b) 2 2) 4 1 [.bool false,.bool true]::Z) ?_ ?_
  ·refine o8 rfl ?_ ?_<;>intro x
   ·refine p_ ?_;rw[x] at e⊢;rw[e];exact p8 sub i_
   ·refine u7 ?_;rw[x] at e⊢;rw[e];exact p8 sub i_
  have k:W.length<=9:=by rw[e];cases q<;>decide
  clear e;refine y8 ?_;refine f_ (G8 rfl rfl (by have:=k;simp only[zy,z6];omega)) ?_;refine p_ ?_;refine f_ ((y7 rfl (by rfl)).eq (v':=.agg (cX ⟨10,q,false,0,0⟩).toArray) rfl) ?_;refine f_ ((y7 rfl (by rfl)).eq (v':=.agg (DF (W++[91,93],10,q)).toArray) rfl) ?_;refine p_ ?_;refine f_ (G8 rfl rfl (by have:=k;simp only[zy,z6];omega)) ?_;refine p_ ?_;refine f_ ((y7 rfl (by rfl)).eq (v':=.agg (cX ⟨11,q,false,0,0⟩).toArray) rfl) ?_;refine f_ ((y7 rfl (by rfl)).eq (v':=.agg (DF (W++[91,72,69,65,68,69,82,93],11,q)).toArray) rfl) ?_;refine p_ ?_;refine f_ (G8 rfl rfl (by have:=k;simp only[zy,z6];omega)) ?_;refine p_ ?_;refine f_ ((y7 rfl (by rfl)).eq (v':=.agg (cX ⟨12,q,false,0,0⟩).toArray) rfl) ?_;refine f_ ((y7 rfl (by rfl)).eq (v':=.agg (DF (W++[91,84,69,88,84,93],12,q)).toArray) rfl) ?_;refine x5 (vs:=[(0,.agg (DF (W++[91,93],10,q)).toArray),(1,.agg (DF (W++[91,72,69,65,68,69,82,93],11,q)).toArray),(2,.agg (DF (W++[91,84,69,88,84,93],12,q)).toArray)]) rfl rfl rfl rfl rfl rfl (xs:=DG (Hi W q)) rfl rfl ?_;rintro a37 ⟨y,rfl⟩;refine u6 DF (l:=cD.take (4+3*j)) (m:=Hi W q) uk Mg (by show((cD.take (4+3*j)).length+3)*48<=_;omega) ?_;intro r s _;refine p_ ?_;rw[g];refine C6 ?_;refine f_ ((p9 rfl rfl qb).eq (v':=.int .i64 ((j+1:Nat):Int)) (by congr 1)) ?_;refine p_ ?_;exact l8 (j+1,r,s,_::Z) qg qg sub (fun w f=>(tk (C:=[_,_,_])).hp f)
 ·have d:j=2:=by have:=zq h;omega
  subst d;refine L7 ?_;exact d_ rfl rfl [.own (.slice a 10 c) 371 6 (DG cD)] ⟨a,c,rfl,rfl⟩ (fun w f=>x7.left tk f)
theorem wq(b g:Nat)(s:Bs)(c:CM)(x:CL)(hs:s.length<=1000000000):ItK 286 cD b g s c x:=fun i p n hp=>by
 refine B7 4 func286 rfl rfl rfl ?_;intro F hg;refine u7 ?_;refine D9 [0] [1,2] [pB g b] 3 ?_;refine wd [0] ?_;refine h_ 1 rfl i6 ?_;refine c_ rr qw ?_;rintro v A ⟨a,d,rfl,rfl⟩;refine ae ?_;refine h_ 2 rfl i6 ?_;refine n5 (Rr:=[.own (.slice a 10 d) 371 6 (DG cD),pB g b]) (Bq b s p (isC c i) (Br x i) cD a d hs hp dZ qp qg) (fun h e ⟨o,f⟩=>⟨hg.le e,A2.rd f .del⟩) rfl (fun v h=>h) ?_;rintro v A ⟨r,j,k,l,rfl,rfl⟩;refine E5 [] ?_;exact l_ rfl _ ⟨(i.1++[r.1],j,k),r.2,⟨r,l,rfl,rfl⟩,rfl,rfl⟩ fun w m=>x7.left tk m
theorem Hj{c:CM}{s:Bs}{p:Nat}(h:I0 s rN p=true)(a:(dw s (p+15)).map (fun q=>({c with a5L:=q.1,a5K:=true},q.2))=none):vF c s p=none:=by unfold vF;rw[zu h];exact a
theorem Hl(b:Nat)(s:Bs)(hs:s.length<=1000000000):sx 216 b s (fun c p=>cT c s p (aI s fun c e=>oE c s e)):=fun c p hp=>by
 refine B7 29 func216 rfl rfl rfl ?_;intro F hg;obtain⟨W,a⟩:=o7 (cT (P6 c) s p (aI s fun c e=>oE c s e));simp only;rw[<-a];unfold cT at a;refine p_ ?_;intro m;refine p_ ?_;refine n5 (D7 b s [32] p (P6 c) G9 qb hp qp) pre rfl (fun v h=>⟨by rw[a,h.1];rfl,h.2⟩) ?_;rintro v A ⟨e1,u,rfl,rfl⟩;refine u7 ?_;have b1:=C_ u y4;rw[u,zb] at a;refine u7 ?_;refine D9 [0,1] [2,6] [pB m b] 7 ?_;refine wd [0,1] ?_;refine h_ 2 rfl i6 ?_;refine n5 (jZ b s e1 (P6 c) G9 hs b1.2.2) pre rfl (fun v h=>⟨by rw[a,h.1];rfl,h.2⟩) ?_;rintro v A ⟨d,f,g,x,rfl,rfl⟩;refine gn [3,4,5,6] ?_;have b2:=jY b1.2.2 x;rw[x,zb] at a;unfold aI at a;simp only at a;refine p_ ?_;refine n5 (D7 b s [32] d.2 {P6 c with set:=d.1} {G9 with sa:=f,sc:=g} qb b2.2.1 qp) pre rfl (fun v h=>⟨by rw[a,h.1];rfl,h.2⟩) ?_;rintro v A ⟨o,y,rfl,rfl⟩;refine u7 ?_;have T:=C_ y y4;rw[y,zb] at a;unfold oE at a;refine E4 ?_;refine c_ (S6 b s [40] o {P6 c with set:=d.1} {G9 with sa:=f,sc:=g} qb T.2.2 qp) pre ?_;rintro v A ⟨rfl,rfl⟩;refine u7 ?_;refine O6 129 5 ?_;refine n7 (ι:=IS×Nat) (fun i=>i.2<=s.length/\W=vF {P6 c with set:=d.1,a5J:=i.1.1} s i.2) (fun i=>[(1,m6 m)]) (fun i=>H8 b s i.2 (isC {P6 c with set:=d.1} i.1) (Br {G9 with sa:=f,sc:=g} i.1)::bP i.1.2.1 i.1.1 i.1.2.2::[pB m b,V3 f d.1 g]) ?_ ?_
 ·refine o8 rfl ?_ ?_<;>intro h
  ·rw[zu h,wo] at a;have z:=eP (w:=[40]) T.2.2;rw[show H3 s [40] o=o+1 from by unfold H3;rw[h];rfl] at z⊢;refine y8 ?_;refine n5 (nu b s hs 286 [m6 m] Gl (isC {P6 c with set:=d.1}) (Br {G9 with sa:=f,sc:=g}) (Ua m b) (fun i p=>i.1.length<=p) (Mi cD s) (fun _ p=>cR cD s p=none) (Bt dZ) (fun _ _ h=>by omega) (wq b m s _ _ hs) ([],none,0) (o+1) (zw _) z) pre rfl (fun v h=>⟨by rw[a,sv (di dZ s) z h.1];rfl,h.2⟩) ?_;rintro v A ⟨n,i,p3,D,U,rfl,rfl⟩;obtain⟨l,J,M,hm⟩:=su (di dZ s) z D U;rw[py,j7] at M;rw[hm,zb] at a;obtain⟨q,V⟩:∃q,q=decide (n<=8):=⟨_,rfl⟩;refine f_ ((G2 rfl rfl).eq (v':=.bool q) (qn ((qz).trans V.symm))) ?_;refine n5 (G7 q) qw rfl (fun v h=>⟨by rw[a,zk (by rw[J];exact zq (V.symm.trans h.1))];rfl,h.2⟩) ?_;rintro v A ⟨X,rfl,rfl⟩;refine u7 ?_;rw[zu (by rw[J];exact qr (V.symm.trans X))] at a;have r:=nv (di dZ s) z D;refine p_ ?_;refine n5 (D7 b s [41] p3 (isC {P6 c with set:=d.1} i) (Br {G9 with sa:=f,sc:=g} i) qb r.2 qp) pre rfl (fun v h=>⟨by rw[a,h.1];rfl,h.2⟩) ?_;rintro v A ⟨e4,O,rfl,rfl⟩;refine u7 ?_;have Q:=C_ O y4;rw[O,<-M] at a;exact g_ (i,e4) ⟨Q.2.2,a⟩ (fun w j=>x7.left tk j)
  ·rw[zk (by rw[h];simp)] at a;rw[show H3 s [40] o=o from by unfold H3;rw[h];rfl];refine p_ ?_;refine kR (ps:=[]) [V3 f d.1 g] rfl rfl rfl (wq b m s {P6 c with set:=d.1} {G9 with sa:=f,sc:=g} hs ([],none,0) o (zw _) T.2.2) (fun w j=>(tk (C:=[_,_,_])).hp j) pre rfl rfl (l6.le_refl _) (fun v h=>⟨by rw[a,h.1];rfl,h.2⟩) ?_;rintro v A ⟨i,p3,S,rfl,rfl⟩;refine u7 ?_;obtain⟨q,h1,h2,rfl⟩:=S;rw[h1,Qz,zb] at a;have r:=di dZ s _ _ T.2.2 h1;exact g_ (i,q.2) ⟨r.2,by rw[show i.1=[q.1] from h2];exact a⟩ (fun w j=>x7.left tk j)
 rintro⟨i,t⟩ ⟨r,a⟩;simp only at r a;refine p_ ?_;refine c_ (S6 b s rN t (isC {P6 c with set:=d.1} i) (Br {G9 with sa:=f,sc:=g} i) qb r qp) pre ?_;rintro v A ⟨rfl,rfl⟩;refine O1 ?_ ?_<;>intro h
 ·have Q:=eP (w:=rN) r;rw[show H3 s rN t=t+15 from by unfold H3;rw[h];rfl] at Q⊢;refine p_ ?_;refine n5 (wm b s hs (isC {P6 c with set:=d.1} i) (Br {G9 with sa:=f,sc:=g} i) (t+15) Q) pre rfl (fun v k=>⟨by rw[a];exact Hj h k.1,k.2⟩) ?_;rintro v A ⟨r6,Y,rfl,rfl⟩;refine u7 ?_;obtain⟨n6,e6,Z,rfl,b7⟩:=pz Q Y;exact l_ rfl (H8 b s e6 {isC {P6 c with set:=d.1} i with a5L:=n6,a5K:=true} (Br {G9 with sa:=f,sc:=g} i)::[bP i.2.1 i.1 i.2.2,V3 f d.1 g]) ⟨_,_,_,by rw[a];unfold vF;rw[zu h,Z];rfl,rfl,rfl,bi (.inr (.tail _ (.head _))) (.inr (.head _)) rfl (.inl rfl)⟩ fun w j=>x7.left tk j
 ·rw[show H3 s rN t=t from by unfold H3;rw[h];rfl];refine u7 ?_;exact l_ rfl (H8 b s t (isC {P6 c with set:=d.1} i) (Br {G9 with sa:=f,sc:=g} i)::[bP i.2.1 i.1 i.2.2,V3 f d.1 g]) ⟨_,_,_,by rw[a];unfold vF;rw[zk (by rw[h];simp)],rfl,rfl,bi (.inr (.tail _ (.head _))) (.inr (.head _)) rfl (.inl rfl)⟩ fun w j=>x7.left tk j
structure KA where
 l:List KM
 a:Option Addr
 c:Nat
abbrev KA.own(y:KA):As:=a1t y.a y.l y.c
structure KT where
 y:KA
 D:List KA
 S:List As
abbrev pA(c:CM)(t:KT):CM:={c with keys:=t.y.l.map KM.k}
abbrev ny(x:CL)(t:KT):CL:={x with ka:=t.y.a,kc:=t.y.c}
abbrev wr(t:KT):List As:=t.y.own::(t.D.map KA.own++t.S)
structure wt(t:KT):Prop where
 len:t.y.l.length<=32
 set:∀m∈t.y.l,EX m.k
 own:∀m∈t.y.l,m.k.set=[]\/V3 m.a m.k.set m.c∈t.S
def KA.le(x y:KA):Prop:=y.a=x.a/\y.c=x.c/\x.l.length<=y.l.length
inductive mQ:List KA->List KA->Prop
 |nil:mQ [] []
 |cons {x y:KA} {l m:List KA}:x.le y->mQ l m->mQ (x::l) (y::m)
theorem mQ.refl:∀l:List KA,mQ l l
 |[]=>.nil
 |x::l=>.cons ⟨rfl,rfl,zr _⟩ (mQ.refl l)
theorem mQ.trans{a b c:List KA}(h:mQ a b)(k:mQ b c):mQ a c:=by
 induction h generalizing c with
 |nil=>exact k
 |cons h _ ih=>
  cases k with
  |cons k1 k2=>exact .cons ⟨k1.1.trans h.1,k1.2.1.trans h.2.1,jd h.2.2 k1.2.2⟩ (ih k2)
theorem mQ.split{a b N:List KA}:∀{M:List KA},mQ (M++a) b->∃N B,b=N++B/\mQ a B
 |[],h=>⟨[],b,rfl,h⟩
 |m::M,h=>by
  cases h with
  |cons h1 h2=>
   obtain⟨N,B,e,k⟩:=mQ.split (N:=[]) h2;exact⟨_::N,B,by rw[e];rfl,k⟩
structure cH(t u:KT):Prop where
 len:t.y.l.length<=u.y.l.length
 arr:∃N B,u.y::u.D=N++B/\mQ (t.y::t.D) B
 rest:∃T,u.S=T++t.S
theorem cH.refl(t:KT):cH t t:=⟨zr _,⟨[],_,rfl,mQ.refl _⟩,⟨[],rfl⟩⟩
theorem cH.trans{t u v:KT}(h:cH t u)(k:cH u v):cH t v:=by
 refine⟨jd h.len k.len,?_,?_⟩
 ·obtain⟨N,B,e,d⟩:=h.arr;obtain⟨f,m,b,a⟩:=k.arr;rw[e] at a;obtain⟨g,i,j,c⟩:=mQ.split (N:=[]) a;exact⟨f++g,i,by rw[b,j,zn],d.trans c⟩
 ·obtain⟨T,e⟩:=h.rest;obtain⟨l,b⟩:=k.rest;exact⟨l++T,by rw[b,e,zn]⟩
abbrev Rc(b:Nat)(s:Bs)(p:Nat)(c:CM)(x:CL)(n:Nat)(ka:Option Addr)(kc:Nat):As:=.blk b (.cells #[B s,.int .i64 (p:Nat),B c.tag,.int .i64 (c.kind:Nat),.bool c.uid,.bool c.cond,B c.box,B c.user,B c.pass,B c.a5N,.slice x.sa c.set.length x.sc,.slice x.ia c.a5J.length x.ic,.slice ka n kc,.int .i64 (c.how:Nat),.bool c.a5P,.bool c.a5K,.int .u64 (c.a5L:Nat),.slice x.fa c.a5R.length x.fc,B c.data] 211)
theorem eQ(b:Nat)(s:Bs)(p:Nat)(c:CM)(x:CL)(t:KT):H8 b s p (pA c t) (ny x t)=Rc b s p c x t.y.l.length t.y.a t.y.c:=by
 unfold H8 Rc pA ny;rw[zm]
abbrev SO(b:Nat)(s:Bs)(p:Nat)(c:CM)(x:CL)(t:KT)(m:KM)(v:Value)(A:List As):Prop:=∃u:KT,v=.int .i64 (t.y.l.length:Nat)/\A=H8 b s p (pA c u) (ny x u)::wr u/\cH t u/\u.S=t.S/\u.y.l=t.y.l++[m]/\t.y.l.length<32
theorem eR(b:Nat)(s:Bs)(p:Nat)(c:CM)(x:CL)(t:KT)(m:KM)(hl:t.y.l.length<=32):Cx prog 343 [m6 b,.agg (bD m).toArray] (fun _=>True) (H8 b s p (pA c t) (ny x t)::wr t) (SO b s p c x t m) (fun v=>v=N3):=by
 refine B7 32 func343 rfl rfl rfl ?_;intro F _;rw[eQ];refine p_ ?_;intro e;refine wk 7 ?_;obtain⟨q,g⟩:∃q,q=decide (t.y.l.length<32):=⟨_,rfl⟩;refine f_ ((E6 rfl rfl).eq (v':=.bool q) (qn ((qz).trans g.symm))) ?_;refine n5 (G7 q) qw rfl (fun v h=>h.2) ?_;rintro v A ⟨f,rfl,rfl⟩;refine u7 ?_;have d:t.y.l.length<32:=qr (g.symm.trans f);have i:(t.y.l++[m]).length=t.y.l.length+1:=by simp
 have j:qM (t.y.l++[m])=qM t.y.l++bD m:=by simp
 by_cases hroom:t.y.l.length+1<=t.y.c
 ·refine u7 ?_;refine D9 [5,6] [7,8,12] [.blk e (.cells (bD m).toArray 127),Rc b s p c x t.y.l.length t.y.a t.y.c] 13 ?_;refine wd [0,1,2,3,4,5,6] ?_;refine h_ 7 rfl i6 ?_;refine C4 bD m rfl ?_;rintro k-;refine ae ?_;refine h_ 8 rfl i6 ?_;refine fw (n:=t.y.l.length) (m:=1) (xs:=qM t.y.l) (news:=bD m) rfl rfl uh (fun w a=>(a.ownN ud).2.2.1) rfl rfl (AB m) hroom rfl ?_;refine E5 [9,10,11,12] ?_;refine NT ?_;exact d_ rfl rfl _ ⟨⟨⟨t.y.l++[m],t.y.a,t.y.c⟩,t.D,t.S⟩,by congr 1;omega,rfl,⟨by simp,⟨[],_,rfl,.cons ⟨rfl,rfl,by simp⟩ (mQ.refl _)⟩,[],rfl⟩,rfl,rfl,d⟩ (fun w a=>by
   rw[eQ];show Hp _ _ (Rc b s p c x (t.y.l++[m]).length _ _::.own (.slice _ (t.y.l++[m]).length _) _ 6 (qM (t.y.l++[m]))::(t.D.map KA.own++t.S));rw[i,j];exact a.drop.drop)
 ·refine u7 ?_;refine D9 [5,6] [7,8,12] [.blk e (.cells (bD m).toArray 127),Rc b s p c x t.y.l.length t.y.a t.y.c] 13 ?_;refine wd [0,1,2,3,4,5,6] ?_;refine h_ 7 rfl i6 ?_;refine C4 bD m rfl ?_;rintro k-;refine ae ?_;refine h_ 8 rfl i6 ?_;refine fC (n:=t.y.l.length) (m:=1) (xs:=qM t.y.l) (news:=bD m) rfl rfl ud (fun w a=>(a.ownN ud).2.2.1) rfl rfl rfl (by show _*80<=_;omega) qb hroom qb rfl ?_;intro l o r;refine E5 [9,10,11,12] ?_;refine NT ?_;exact d_ rfl rfl _ ⟨⟨⟨t.y.l++[m],some ⟨l,0,none⟩,o⟩,t.y::t.D,t.S⟩,by congr 1;omega,rfl,⟨by simp,⟨[_],_,rfl,mQ.refl _⟩,[],rfl⟩,rfl,rfl,d⟩ (fun w a=>by
   rw[eQ];show Hp _ _ (Rc b s p c x (t.y.l++[m]).length _ _::.own (.slice _ (t.y.l++[m]).length _) _ 6 (qM (t.y.l++[m]))::t.y.own::(t.D.map KA.own++t.S));rw[i,j];exact((tk (C:=[As.own (.slice k _ _) _ _ _,As.blk e _])).hp a).drop.drop.perm (.swap _ _ _))
theorem pC(s:Bs)(hs:s.length<=140737488355328)(h:∀c∈s,c.toNat<128):Pu prog 417 [B s] (fun _=>True) (B (s.map Lib.lowerB)):=dR fun w _=>
 Tryz.strings_ToLower_ascii ⟨s.toArray⟩ w hs fun j b a=>h b (J7 a)
theorem Hm(s:Bs)(hs:s.length<=1000000000000):Ct prog 418 [B s] (fun _=>True) [] (fun v A=>A=[]/\∃q:Bool,v=.bool q/\(q=true->∀c∈s,c.toNat<128)):=by
 refine b_ 33 func418 rfl rfl rfl ?_;intro F _;refine O2 ?_;refine o9 (ι:=Nat) (fun i=>i<=s.length/\∀c∈s.take i,c.toNat<128) (fun i=>[(0,B s),(5,.int .i64 (s.length:Nat)),(6,.int .i64 (i:Nat))]) (fun _=>[]) (fun i=>s.length-i) 0 ⟨zw _,by simp⟩ sub i_ ?_;rintro i ⟨x,hc⟩;refine R6 ?_ ?_<;>intro h
 ·have a:i<s.length:=by have:=qr h;omega
  refine y8 ?_;obtain⟨l,m⟩:=o7 (decide (((s.getD i 0).toNat:Int)<33));obtain⟨j,d⟩:=o7 (decide (((s.getD i 0).toNat:Int)>126));obtain⟨r,n⟩:=o7 (decide (((s.getD i 0).toNat:Int)=58));refine x6 [(0,B s),(5,.int .i64 (s.length:Nat)),(6,.int .i64 (i:Nat)),(24,.bool (l||j||r))] [] ?_ ?_
  ·cases l<;>cases j
   all_goals (
    refine y8 ?_;refine f_ ((A6 rfl rfl qb).eq (v':=U8 (s.getD i 0)) (by simp only[jh])) ?_;refine f_ ((E6 rfl rfl).eb m) ?_;refine E4 ?_;(first|refine u_ ?_|(refine v_ ?_;refine f_ ((A6 rfl rfl qb).eq (v':=U8 (s.getD i 0)) (by simp only[jh])) ?_));(first|refine u_ ?_|(refine v_ ?_;refine f_ ((D8 rfl rfl).eb d) ?_));refine O2 ?_;(first|refine u_ ?_|(refine v_ ?_;refine f_ ((A6 rfl rfl qb).eq (v':=U8 (s.getD i 0)) (by simp only[jh])) ?_));(first|refine u_ ?_|(refine v_ ?_;refine f_ ((o_ rfl rfl).eb n) ?_));refine p_ ?_)
   all_goals exact p8 sub i_
  refine O1 ?_ ?_<;>intro t
  ·refine C8 ?_;exact d_ rfl rfl [] ⟨rfl,_,rfl,fun k=>by cases k⟩ i_
  ·refine y8 ?_;have u:j=false:=(by cases l<;>cases j<;>simp at t⊢);have p:(s.getD i 0).toNat<128:=(by have:=zq (d.symm.trans u);omega);refine l8 (i+1) ⟨a,fun c e=>?_⟩ qb sub i_;rw[List.take_add_one] at e;rcases zc.1 e with f|f
   ·exact hc c f
   ·rw[zj a] at f;simp at f;rw[zd,zj a] at p;rw[f];exact p
 ·have g:∀c∈s,c.toNat<128:=by
   have:=zq h;rw[kp qb] at hc;exact hc
  refine u7 ?_;obtain⟨w,o⟩:=o7 (decide (s=[]));refine n7 (ι:=Bool) (fun _=>True) (fun q=>[(2,.bool q)]) (fun _=>[]) ?_ ?_
  ·cases w
   all_goals (
    refine p_ ?_;refine f_ ((E7 rfl rfl).eq (jw (fun b=>Value.bool (!b)) o.symm)) ?_;refine cQ ?_)
   all_goals exact g_ _ trivial i_
  rintro q-;refine oz ?_;exact d_ rfl rfl [] ⟨rfl,_,rfl,fun _=>g⟩ i_
theorem pD{w l:Bs}(h:decide (w=l)=true)(hl:2<=l.length):2<=w.length:=by rw[qr h];exact hl
abbrev a1z(k:KY):Prop:=k.set=[]/\k.text.length<=2000000000/\k.field.length<=2000000000/\k.kids=0
abbrev SP(b:Nat)(s:Bs)(p:Nat)(c:CM)(x:CL)(v:Value)(A:List As):Prop:=∃(k:KY) (p':Nat),p<=p'/\p'<=s.length/\a1z k/\v=.agg (bD ⟨k,none,0⟩).toArray/\A=[H8 b s p' c x]
theorem yO{s:Bs}:((E1 s).getD []).length<=32:=by
 cases h:E1 s with
 |none=>simp
 |some f=>exact sm h
theorem Mj(b:Nat)(s:Bs)(w:Bs)(p:Nat)(c:CM)(x:CL)(hs:s.length<=1000000000)(hp:p<=s.length)(d:w.length<=1000000000)(ha:∀c∈w,c.toNat<128):Cx prog 393 [m6 b,B w] Gl [H8 b s p c x] (SP b s p c x) (fun v=>v=N3):=by
 refine B7 112 func393 rfl rfl rfl ?_;intro F hg;refine p_ ?_;intro f;refine E4 ?_;refine n7 (ι:=Bool) (fun _=>True) (fun q=>[(0,m6 b),(1,B w),(4,m6 f),(13,B w),(14,.bool q)]) (fun _=>[.blk f (.cells (bD ⟨Ay,none,0⟩).toArray 127),H8 b s p c x]) ?_ ?_
 ·refine o8 rfl ?_ ?_<;>intro h
  ·refine u7 ?_;exact g_ _ trivial i_
  refine bd ?_ ?_<;>intro h
  ·refine u7 ?_;exact g_ _ trivial i_
  refine bd ?_ ?_<;>intro h
  ·refine u7 ?_;exact g_ _ trivial i_
  refine bd ?_ ?_<;>intro h
  ·refine u7 ?_;exact g_ _ trivial i_
  refine y8 ?_;exact g_ _ trivial i_
 rintro q-;refine O1 ?_ ?_<;>intro h
 ·refine y8 ?_;refine e_ rfl (dX _ (by show(92::w).length<=_;unfold ln;simp;omega)) qw rfl ?_;refine cQ ?_;refine f_ ((y7 rfl rfl).eq (v':=.agg (bD ⟨⟨7,0,(E1 (92::w)).getD [],[],1,[]⟩,none,0⟩).toArray) rfl) ?_;refine C8 ?_;exact G5 rfl rfl ud rfl [H8 b s p c x] ⟨_,p,zr _,hp,⟨rfl,by simp,jd yO qb,rfl⟩,rfl,rfl⟩ (fun w d=>x7.left tk d)
 refine y8 ?_;refine n7 (ι:=Bool) (fun q=>q=true->2<=w.length) (fun q=>[(0,m6 b),(1,B w),(4,m6 f),(13,B w),(28,.bool q)]) (fun _=>[.blk f (.cells (bD ⟨Ay,none,0⟩).toArray 127),H8 b s p c x]) ?_ ?_
 ·refine o8 rfl ?_ ?_<;>intro h
  ·refine u7 ?_;exact g_ _ (fun _=>pD h qp) i_
  refine bd ?_ ?_<;>intro h
  ·refine u7 ?_;exact g_ _ (fun _=>pD h qp) i_
  refine bd ?_ ?_<;>intro h
  ·refine u7 ?_;exact g_ _ (fun _=>pD h qp) i_
  refine bd ?_ ?_<;>intro h
  ·refine u7 ?_;exact g_ _ (fun _=>pD h qp) i_
  refine y8 ?_;exact g_ (decide (w=[85,78,68,82,65,70,84])) (fun k=>pD k qp) i_
 rintro q m;refine O1 ?_ ?_<;>intro h
 ·have Q:=m h;refine p_ ?_;refine f_ ((H4 rfl rfl rfl qb).eq (v':=B (w.drop 2)) (by rw[kp (by rw[kz];omega)];rfl)) ?_;refine p_ ?_;refine e_ rfl (dX _ (by show(92::w.drop 2).length<=_;unfold ln;simp;omega)) qw rfl ?_;refine cQ ?_;refine f_ ((y7 rfl rfl).eq (v':=.agg (bD ⟨⟨7,0,(E1 (92::w.drop 2)).getD [],[],0,[]⟩,none,0⟩).toArray) rfl) ?_;refine C8 ?_;exact G5 rfl rfl ud rfl [H8 b s p c x] ⟨_,p,zr _,hp,⟨rfl,by simp,jd yO qb,rfl⟩,rfl,rfl⟩ (fun w d=>x7.left tk d)
 refine p_ ?_;refine n5 (D7 b s [32] p c x qb hp qp) pre rfl (fun v h=>h.2) ?_;rintro v A ⟨g,o,rfl,rfl⟩;refine u7 ?_;have D:=C_ o y4;simp only[jc] at D;refine E4 ?_;refine n7 (ι:=Bool) (fun _=>True) (fun q=>[(0,m6 b),(1,B w),(4,m6 f),(45,B w),(46,.bool q)]) (fun _=>[.blk f (.cells (bD ⟨Ay,none,0⟩).toArray 127),H8 b s g c x]) ?_ ?_
 ·refine o8 rfl ?_ ?_<;>intro h
  ·refine u7 ?_;exact g_ _ trivial (fun w d=>x7.left tk d)
  refine y8 ?_;exact g_ _ trivial (fun w d=>x7.left tk d)
 rintro q-;refine O1 ?_ ?_<;>intro h
 ·refine p_ ?_;refine n5 (Bc b s g c x qb qb) pre rfl (fun v h=>h.2) ?_;rintro v A ⟨a,e,rfl,rfl⟩;have i:=Bp qb e;refine e_ rfl (dX _ (by unfold ln;omega)) qw rfl ?_;refine cQ ?_;refine n5 (G7 _) qw rfl (fun v h=>h.2) ?_;rintro v A ⟨r,rfl,rfl⟩;refine p_ ?_;refine f_ ((y7 rfl rfl).eq (v':=.agg (bD ⟨⟨7,0,(E1 a.1).getD [],[],0,[]⟩,none,0⟩).toArray) rfl) ?_;refine p_ ?_;intro j;refine E4 ?_;refine n7 (ι:=Nat) (fun _=>True) (fun _=>[(0,m6 b),(1,B w),(4,m6 f),(11,m6 j)]) (fun n=>[.blk j (.cells (bD ⟨⟨7,0,(E1 a.1).getD [],[],n,[]⟩,none,0⟩).toArray 127),.blk f (.cells (bD ⟨Ay,none,0⟩).toArray 127),H8 b s a.2 c x]) ?_ ?_
  ·refine o8 rfl ?_ ?_<;>intro h
   ·refine y8 ?_;exact g_ 1 trivial (fun w d=>x7.left tk d)
   ·refine u7 ?_;exact g_ 0 trivial (fun w d=>x7.left tk d)
  rintro n-;refine C6 ?_;refine r_ ((lR rfl ud (by rfl)).eq (v':=.agg (bD ⟨⟨7,0,(E1 a.1).getD [],[],n,[]⟩,none,0⟩).toArray) rfl) ?_;refine C8 ?_;exact G5 rfl rfl ud rfl [H8 b s a.2 c x] ⟨_,a.2,by omega,by omega,⟨rfl,by simp,jd yO qb,rfl⟩,rfl,rfl⟩ (fun w d=>x7.left tk d)
 refine bd ?_ ?_<;>intro h
 ·refine p_ ?_;refine n5 (X_ b s 9223372036854775807 g c x qb qb qp) pre rfl (fun v h=>h.2) ?_;rintro v A ⟨a,e,rfl,rfl⟩;refine f_ ((y7 rfl rfl).eq (v':=.agg (bD ⟨⟨8,0,[],[],a.1,[]⟩,none,0⟩).toArray) rfl) ?_;refine p_ ?_;have i:=cn qb e;refine A3 ?_;exact G5 rfl rfl ud rfl [H8 b s a.2 c x] ⟨_,a.2,by omega,by omega,⟨rfl,by simp,by simp,rfl⟩,rfl,rfl⟩ (fun w d=>x7.left tk d)
 refine bd ?_ ?_<;>intro h
 ·refine p_ ?_;refine n5 (X_ b s 9223372036854775807 g c x qb qb qp) pre rfl (fun v h=>h.2) ?_;rintro v A ⟨a,e,rfl,rfl⟩;refine f_ ((y7 rfl rfl).eq (v':=.agg (bD ⟨⟨9,0,[],[],a.1,[]⟩,none,0⟩).toArray) rfl) ?_;refine p_ ?_;have i:=cn qb e;refine A3 ?_;exact G5 rfl rfl ud rfl [H8 b s a.2 c x] ⟨_,a.2,by omega,by omega,⟨rfl,by simp,by simp,rfl⟩,rfl,rfl⟩ (fun w d=>x7.left tk d)
 refine bd ?_ ?_<;>intro h
 ·refine p_ ?_;refine n5 (X_ b s 9223372036854775807 g c x qb qb qp) pre rfl (fun v h=>h.2) ?_;rintro v A ⟨a,e,rfl,rfl⟩;refine f_ ((y7 rfl rfl).eq (v':=.agg (bD ⟨⟨10,0,[],[],a.1,[]⟩,none,0⟩).toArray) rfl) ?_;refine p_ ?_;have i:=cn qb e;refine A3 ?_;exact G5 rfl rfl ud rfl [H8 b s a.2 c x] ⟨_,a.2,by omega,by omega,⟨rfl,by simp,by simp,rfl⟩,rfl,rfl⟩ (fun w d=>x7.left tk d)
 refine bd ?_ ?_<;>intro h
 ·refine p_ ?_;refine n5 (R2 b s g c x qb qb) pre rfl (fun v h=>h.2) ?_;rintro v A ⟨a,e,rfl,rfl⟩;refine f_ ((y7 rfl rfl).eq (v':=.agg (bD ⟨⟨11,0,[],a.1,0,[]⟩,none,0⟩).toArray) rfl) ?_;refine p_ ?_;have i:=dh qb e;refine A3 ?_;exact G5 rfl rfl ud rfl [H8 b s a.2 c x] ⟨_,a.2,by omega,by omega,⟨rfl,by simp only;omega,by simp,rfl⟩,rfl,rfl⟩ (fun w d=>x7.left tk d)
 refine bd ?_ ?_<;>intro h
 ·refine p_ ?_;refine n5 (R2 b s g c x qb qb) pre rfl (fun v h=>h.2) ?_;rintro v A ⟨a,e,rfl,rfl⟩;refine f_ ((y7 rfl rfl).eq (v':=.agg (bD ⟨⟨12,0,[],a.1,0,[]⟩,none,0⟩).toArray) rfl) ?_;refine p_ ?_;have i:=dh qb e;refine A3 ?_;exact G5 rfl rfl ud rfl [H8 b s a.2 c x] ⟨_,a.2,by omega,by omega,⟨rfl,by simp only;omega,by simp,rfl⟩,rfl,rfl⟩ (fun w d=>x7.left tk d)
 refine y8 ?_;refine n7 (ι:=Bool) (fun _=>True) (fun q=>[(0,m6 b),(1,B w),(4,m6 f),(45,B w),(88,.bool q)]) (fun _=>[.blk f (.cells (bD ⟨Ay,none,0⟩).toArray 127),H8 b s g c x]) ?_ ?_
 ·refine o8 rfl ?_ ?_<;>intro h
  ·refine u7 ?_;exact g_ _ trivial (fun w d=>x7.left tk d)
  refine bd ?_ ?_<;>intro h
  ·refine u7 ?_;exact g_ _ trivial (fun w d=>x7.left tk d)
  refine y8 ?_;exact g_ _ trivial (fun w d=>x7.left tk d)
 rintro q-;refine O1 ?_ ?_<;>intro h
 ·refine p_ ?_;refine e_ rfl (pC w qb ha) qw rfl ?_;refine p_ ?_;refine n5 (R2 b s g c x qb qb) pre rfl (fun v h=>h.2) ?_;rintro v A ⟨a,e,rfl,rfl⟩;refine f_ ((y7 rfl rfl).eq (v':=.agg (bD ⟨⟨13,0,w.map Lib.lowerB,a.1,0,[]⟩,none,0⟩).toArray) rfl) ?_;refine p_ ?_;have i:=dh qb e;refine A3 ?_;exact G5 rfl rfl ud rfl [H8 b s a.2 c x] ⟨_,a.2,by omega,by omega,⟨rfl,by simp only;omega,by simp only[zm];omega,rfl⟩,rfl,rfl⟩ (fun w d=>x7.left tk d)
 refine y8 ?_;refine n5 (G7 _) qw rfl (fun v h=>h.2) ?_;rintro v A ⟨r,rfl,rfl⟩;refine p_ ?_;refine n5 (R2 b s g c x qb qb) pre rfl (fun v h=>h.2) ?_;rintro v A ⟨a,e,rfl,rfl⟩;refine p_ ?_;have i:=dh qb e;refine p_ ?_;refine c_ (Hm a.1 qb) qw ?_;rintro v A ⟨rfl,J,rfl,t⟩;refine n5 (G7 J) qw rfl (fun v h=>h.2) ?_;rintro v A ⟨l,rfl,rfl⟩;refine u7 ?_;have u:=t l;refine p_ ?_;refine n5 (D7 b s [32] a.2 c x qb qb qp) pre rfl (fun v h=>h.2) ?_;rintro v A ⟨M,y,rfl,rfl⟩;refine u7 ?_;have O:=C_ y y4;simp only[jc] at O;refine p_ ?_;refine e_ rfl (pC a.1 qb u) qw rfl ?_;refine p_ ?_;refine n5 (R2 b s M c x qb qb) pre rfl (fun v h=>h.2) ?_;rintro v A ⟨z,C,rfl,rfl⟩;refine f_ ((y7 rfl rfl).eq (v':=.agg (bD ⟨⟨13,0,a.1.map Lib.lowerB,z.1,0,[]⟩,none,0⟩).toArray) rfl) ?_;refine p_ ?_;have S:=dh qb C;refine A3 ?_;exact G5 rfl rfl ud rfl [H8 b s z.2 c x] ⟨_,z.2,by omega,by omega,⟨rfl,by simp only;omega,by simp only[zm];omega,rfl⟩,rfl,rfl⟩ (fun w d=>x7.left tk d)
abbrev a1A(b:Nat)(s:Bs)(p:Nat)(c:CM)(x:CL)(t:KT)(v:Value)(A:List As):Prop:=∃(u:KT) (p':Nat),p<=p'/\p'<=s.length/\v=.tuple #[]/\A=H8 b s p' (pA c u) (ny x u)::wr u/\cH t u/\wt u
abbrev rt(f:FuncId)(b:Nat)(s:Bs)(deep:Nat):Prop:=∀(p:Nat) (c:CM) (x:CL) (t:KT),p<=s.length->wt t->Cx prog f [m6 b,.int .i64 (deep:Nat)] Gl (H8 b s p (pA c t) (ny x t)::wr t) (a1A b s p c x t) (fun v=>v=N3)
theorem cq{t u:KT}{m:KM}(h:wt t)(hs:u.S=t.S)(hl:u.y.l=t.y.l++[m])(c:t.y.l.length<32)(d:EX m.k)(e:m.k.set=[]\/V3 m.a m.k.set m.c∈t.S):wt u:=by
 refine⟨by rw[hl,zz,jc];omega,fun k b=>?_,fun k b=>?_⟩
 ·rw[hl] at b;rcases zc.1 b with a|a
  ·exact h.set k a
  ·rw[zg.1 a];exact d
 ·rw[hl] at b;rw[hs];rcases zc.1 b with a|a
  ·exact h.own k a
  ·rw[zg.1 a];exact e
theorem Mk:vR 392 dT:=fun c=>by
 obtain⟨a,b⟩:=o7 (decide (65<=(rJ c).toNat));obtain⟨f,d⟩:=o7 (decide ((rJ c).toNat<=90));have e:dT c=(a&&f):=by rw[b,d];exact yM (p:=dT) (q:=fun c=>decide (65<=(rJ c).toNat)&&decide ((rJ c).toNat<=90)) (by decide+kernel) c
 rw[e];refine b_ 11 func392 rfl rfl rfl ?_;intro F _;refine p_ ?_
 cases a
 all_goals (
  refine p_ ?_;refine e_ rfl (I2 [c] y4) qw rfl ?_;refine f_ ((kV rfl rfl).eq (qn ((show(!Op.bytesLess [rJ c] [65])=decide (65<=(rJ c).toNat) from by rw[lp,<-decide_not];congr 1;simp).trans b.symm))) ?_;refine y8 ?_;(first|refine u_ ?_|(refine v_ ?_;refine e_ rfl (I2 [c] y4) qw rfl ?_));(first|refine u_ ?_|(refine v_ ?_;refine f_ ((kW rfl rfl).eq (qn (rV.trans d.symm))) ?_));refine y8 ?_)
 all_goals (refine A3 ?_;exact d_ rfl rfl [] qh i_)
theorem DO{s:Bs}{p:Nat}:∀c∈R8 (N9 dT s p),c.toNat<128:=fun c hc=>by
 obtain⟨d,a,rfl⟩:=jv.1 hc;have b:dT d=true:=Qv.1 List.all_takeWhile d a;have:=yM (p:=fun d=>!dT d||decide ((rJ d).toNat<128)) (q:=fun _=>true) (by decide+kernel) d;simp only[b,Bool.not_true,K1] at this;exact qr this
abbrev Hn(t:KT)(X:As):KT:={t with S:=X::t.S}
theorem wu{X Q:As}{t:KT}:(X::Q::wr t).Perm (Q::wr (Hn t X)):=
 (List.Perm.swap Q X _).trans (.cons _ ((List.Perm.swap _ _ _).trans (.cons _ Qp.symm)))
theorem wv(t:KT)(X:As):cH t (Hn t X):=⟨zr _,⟨[],_,rfl,mQ.refl _⟩,[X],rfl⟩
theorem Bu{t:KT}(h:wt t)(X:As):wt (Hn t X):=⟨h.len,h.set,fun m a=>(h.own m a).imp id (fun k=>.tail _ k)⟩
theorem sy(b g d:Nat)(s:Bs)(a:Nat)(n:a<=100)(f:rt 345 b s (a+1))(p:Nat)(c:CM)(x:CL)(t:KT)(hp:p<=s.length)(i:wt t):Cx prog 344 [m6 g,m6 d] Gl (H8 b s p (pA c t) (ny x t)::(wr t++[pB g b,.blk d (.cells #[.int .i64 (a:Nat)] 3)])) (fun v A=>∃(u:KT) (p':Nat),p<=p'/\p'<=s.length/\v=.tuple #[]/\A=H8 b s p' (pA c u) (ny x u)::(wr u++[pB g b,.blk d (.cells #[.int .i64 (a:Nat)] 3)])/\cH t u/\wt u) (fun v=>v=N3):=by
 refine B7 6 func344 rfl rfl rfl ?_;intro F hg;refine D5 (fun w e=>e.perm (kj (l₁:=H8 b s p (pA c t) (ny x t)::wr t))) ?_;simp only[Qc,j7];refine y8 ?_;refine f_ ((p9 rfl rfl qb).eq (v':=.int .i64 ((a+1:Nat):Int)) (by congr 1)) ?_;refine w6 [pB g b,.blk d (.cells #[.int .i64 (a:Nat)] 3)] rfl (f p c x t hp i) (fun w e=>e.perm (kj (l₁:=[_,_]))) pre rfl rfl (l6.le_refl _) (fun v h=>h) ?_;rintro v A ⟨u,p',j,k,rfl,rfl,l,m⟩;refine u7 ?_;exact l_ rfl _ ⟨u,p',j,k,rfl,rfl,l,m⟩ fun w e=>e
theorem ww(b:Nat)(s:Bs)(hs:s.length<=1000000000)(d:Nat)(hd:d<=100)(q1:rt 284 b s d)(hk:d<=8->rt 345 b s (d+1)):rt 345 b s d:=fun p c x t hp i=>by
 refine B7 84 func345 rfl rfl rfl ?_;intro F hg;refine p_ ?_;refine c_ (S6 b s [40] p (pA c t) (ny x t) qb hp qp) pre ?_;rintro v A ⟨rfl,rfl⟩;refine O1 ?_ ?_<;>intro h
 ·have b1:=eP (w:=[40]) hp;rw[show H3 s [40] p=p+1 from by unfold H3;rw[h];rfl] at b1⊢;refine y8 ?_;refine w6 [] rfl (q1 (p+1) c x t b1 i) (fun w e=>by rw[z8];exact e) pre rfl rfl (l6.le_refl _) (fun v h=>h) ?_;rintro v A ⟨u,p',h1,h2,rfl,rfl,Q,S⟩;rw[z8];refine p_ ?_;refine n5 (D7 b s [41] p' (pA c u) (ny x u) qb h2 qp) pre rfl (fun v h=>h.2) ?_;rintro v A ⟨e2,j,rfl,rfl⟩;refine u7 ?_;have O:=C_ j y4;simp only[jc] at O;refine A3 ?_;exact l_ rfl _ ⟨u,e2,by omega,O.2.2,rfl,rfl,Q,S⟩ fun w e=>e
 ·rw[show H3 s [40] p=p from by unfold H3;rw[h];rfl];refine p_ ?_;refine c_ (aN b s p (pA c t) (ny x t) qb hp) pre ?_;rintro v A ⟨rfl,rfl⟩;refine p_ ?_;refine n7 (ι:=Bool) (fun _=>True) (fun q=>[(0,m6 b),(1,.int .i64 (d:Nat)),(21,.bool q)]) (fun _=>H8 b s p (pA c t) (ny x t)::wr t) ?_ ?_
  ·obtain⟨z,hz⟩:=o7 (s.drop p);rw[<-hz]
   cases z with
   |nil=>
    refine p_ ?_;refine f_ ((E7 rfl rfl).eq (v':=.bool false) rfl) ?_;refine E4 ?_;(first|refine u_ ?_|(refine v_ ?_;fail));refine p_ ?_;exact g_ _ trivial i_
   |cons a r=>
    refine p_ ?_;refine f_ ((E7 rfl rfl).eq (v':=.bool true) rfl) ?_;refine y8 ?_;(first|refine u_ ?_|(refine v_ ?_;refine f_ ((H4 rfl rfl rfl (by simp;omega)).eq (v':=B [a]) rfl) ?_));(first|refine u_ ?_|(refine v_ ?_;refine e_ rfl (jX _ a) qw rfl ?_));refine p_ ?_;exact g_ _ trivial i_
  rintro q-;refine O1 ?_ ?_<;>intro h
  ·refine y8 ?_;refine n5 (jZ b s p (pA c t) (ny x t) hs hp) pre rfl (fun v h=>h.2) ?_;rintro v A ⟨l,T,U,j,rfl,rfl⟩;refine f_ ((y7 rfl rfl).eq (v':=.agg (bD ⟨⟨5,0,[],[],0,l.1⟩,T,U⟩).toArray) rfl) ?_;refine w6 [] rfl (eR b s l.2 c x (Hn t (V3 T l.1 U)) ⟨⟨5,0,[],[],0,l.1⟩,T,U⟩ i.len) (fun w e=>by rw[z8];exact e.perm wu) qw rfl rfl (l6.le_refl _) (fun v h=>h) ?_;rintro v A ⟨u,rfl,rfl,Z,h4,Q,S⟩;rw[z8];refine u7 ?_;have O:=jY hp j;refine A3 ?_;exact l_ rfl _ ⟨u,l.2,by omega,O.2.1,rfl,rfl,(wv t _).trans Z,cq (Bu i _) h4 Q S ⟨O.2.2,by simp,by simp,by simp⟩ (.inr (.head _))⟩ fun w e=>e
  ·have h0:=bQ (q:=dT) hp;have h7:=DO (s:=s) (p:=p);refine p_ ?_;refine c_ (eO 392 dT Mk b s p (pA c t) (ny x t) qb hp) pre ?_;rintro v A ⟨rfl,rfl⟩;refine e_ rfl (I2 _ qb) qw rfl ?_;refine p_ ?_;have h8:(R8 (N9 dT s p)).length<=1000000000:=(by unfold R8;rw[zm];omega);generalize hpw:p+(N9 dT s p).length=pw at h0⊢;generalize R8 (N9 dT s p)=w at h7 h8⊢;refine eJ ?_ ?_<;>intro h
   ·refine u7 ?_;obtain⟨q,hq⟩:=o7 (decide (d<=8));refine p_ ?_;refine f_ ((G2 rfl rfl).eq (v':=.bool q) (qn ((qz).trans hq.symm))) ?_;refine n5 (G7 q) qw rfl (fun v h=>h.2) ?_;rintro v A ⟨V,rfl,rfl⟩;refine u7 ?_;have M:=qr (hq.symm.trans V);refine p_ ?_;refine f_ ((y7 rfl rfl).eq (v':=.agg (bD ⟨⟨2,0,[],[],0,[]⟩,none,0⟩).toArray) rfl) ?_;refine w6 [] rfl (eR b s pw c x t ⟨⟨2,0,[],[],0,[]⟩,none,0⟩ i.len) (fun w e=>by rw[z8];exact e) qw rfl rfl (l6.le_refl _) (fun v h=>h) ?_;rintro v A ⟨u,rfl,rfl,m,n,o,y⟩;rw[z8];refine u7 ?_;have ku:=cq i n o y ⟨by simp,by simp,by simp,by simp⟩ (.inl rfl);refine p_ ?_;refine n5 (D7 b s [32] pw (pA c u) (ny x u) qb qb qp) pre rfl (fun v h=>h.2) ?_;rintro v A ⟨e1,g,rfl,rfl⟩;refine u7 ?_;have f:=C_ g y4;simp only[jc] at f;refine y8 ?_;refine f_ ((p9 rfl rfl qb).eq (v':=.int .i64 ((d+1:Nat):Int)) (by congr 1)) ?_;refine w6 [] rfl (hk M e1 c x u f.2.2 ku) (fun w e=>by rw[z8];exact e) pre rfl rfl (l6.le_refl _) (fun v h=>h) ?_;rintro v A ⟨u2,Y,h9,C,rfl,rfl,D,X⟩;rw[z8];refine u7 ?_;exact l_ rfl _ ⟨u2,Y,by omega,C,rfl,rfl,m.trans D,X⟩ fun w e=>e
   refine bd ?_ ?_<;>intro h
   ·refine u7 ?_;obtain⟨q,hq⟩:=o7 (decide (d<=8));refine p_ ?_;refine f_ ((G2 rfl rfl).eq (v':=.bool q) (qn ((qz).trans hq.symm))) ?_;refine n5 (G7 q) qw rfl (fun v h=>h.2) ?_;rintro v A ⟨V,rfl,rfl⟩;refine u7 ?_;have M:=qr (hq.symm.trans V);refine p_ ?_;refine f_ ((y7 rfl rfl).eq (v':=.agg (bD ⟨⟨3,0,[],[],0,[]⟩,none,0⟩).toArray) rfl) ?_;refine w6 [] rfl (eR b s pw c x t ⟨⟨3,0,[],[],0,[]⟩,none,0⟩ i.len) (fun w e=>by rw[z8];exact e) qw rfl rfl (l6.le_refl _) (fun v h=>h) ?_;rintro v A ⟨u,rfl,rfl,m,n,o,y⟩;rw[z8];refine u7 ?_;have ku:=cq i n o y ⟨by simp,by simp,by simp,by simp⟩ (.inl rfl);refine p_ ?_;refine n5 (D7 b s [32] pw (pA c u) (ny x u) qb qb qp) pre rfl (fun v h=>h.2) ?_;rintro v A ⟨e1,g,rfl,rfl⟩;refine u7 ?_;have f:=C_ g y4;simp only[jc] at f;refine y8 ?_;refine f_ ((p9 rfl rfl qb).eq (v':=.int .i64 ((d+1:Nat):Int)) (by congr 1)) ?_;refine w6 [] rfl (hk M e1 c x u f.2.2 ku) (fun w e=>by rw[z8];exact e) pre rfl rfl (l6.le_refl _) (fun v h=>h) ?_;rintro v A ⟨u2,Y,h9,C,rfl,rfl,D,X⟩;rw[z8];refine p_ ?_;refine n5 (D7 b s [32] Y (pA c u2) (ny x u2) qb C qp) pre rfl (fun v h=>h.2) ?_;rintro v A ⟨e2,k0,rfl,rfl⟩;refine u7 ?_;have k8:=C_ k0 y4;simp only[jc] at k8;refine y8 ?_;refine f_ ((p9 rfl rfl qb).eq (v':=.int .i64 ((d+1:Nat):Int)) (by congr 1)) ?_;refine w6 [] rfl (hk M e2 c x u2 k8.2.2 X) (fun w e=>by rw[z8];exact e) pre rfl rfl (l6.le_refl _) (fun v h=>h) ?_;rintro v A ⟨u3,p3,q3,k9,rfl,rfl,q0,q2⟩;rw[z8];refine u7 ?_;exact l_ rfl _ ⟨u3,p3,by omega,k9,rfl,rfl,(m.trans D).trans q0,q2⟩ fun w e=>e
   refine bd ?_ ?_<;>intro h
   ·refine p_ ?_;refine f_ ((y7 rfl rfl).eq (v':=.agg (bD ⟨⟨4,0,[],[],0,[]⟩,none,0⟩).toArray) rfl) ?_;refine w6 [] rfl (eR b s pw c x t ⟨⟨4,0,[],[],0,[]⟩,none,0⟩ i.len) (fun w e=>by rw[z8];exact e) qw rfl rfl (l6.le_refl _) (fun v h=>h) ?_;rintro v A ⟨u,rfl,rfl,m,n,o,y⟩;rw[z8];refine u7 ?_;have ku:=cq i n o y ⟨by simp,by simp,by simp,by simp⟩ (.inl rfl);exact l_ rfl _ ⟨u,pw,by omega,h0,rfl,rfl,m,ku⟩ fun w e=>e
   refine bd ?_ ?_<;>intro h
   ·refine p_ ?_;refine n5 (D7 b s [32] pw (pA c t) (ny x t) qb qb qp) pre rfl (fun v h=>h.2) ?_;rintro v A ⟨e1,g,rfl,rfl⟩;refine u7 ?_;have f:=C_ g y4;simp only[jc] at f;refine y8 ?_;refine n5 (jZ b s e1 (pA c t) (ny x t) hs f.2.2) pre rfl (fun v h=>h.2) ?_;rintro v A ⟨l,T,U,j,rfl,rfl⟩;refine f_ ((y7 rfl rfl).eq (v':=.agg (bD ⟨⟨6,0,[],[],0,l.1⟩,T,U⟩).toArray) rfl) ?_;refine w6 [] rfl (eR b s l.2 c x (Hn t (V3 T l.1 U)) ⟨⟨6,0,[],[],0,l.1⟩,T,U⟩ i.len) (fun w e=>by rw[z8];exact e.perm wu) qw rfl rfl (l6.le_refl _) (fun v h=>h) ?_;rintro v A ⟨u,rfl,rfl,Z,h4,Q,S⟩;rw[z8];refine u7 ?_;have O:=jY f.2.2 j;exact l_ rfl _ ⟨u,l.2,by omega,O.2.1,rfl,rfl,(wv t _).trans Z,cq (Bu i _) h4 Q S ⟨O.2.2,by simp,by simp,by simp⟩ (.inr (.head _))⟩ fun w e=>e
   refine E4 ?_;refine n5 (Mj b s w pw (pA c t) (ny x t) hs qb h8 h7) pre rfl (fun v h=>h) ?_;rintro v A ⟨k,Y,h1,h2,J,rfl,rfl⟩;refine w6 [] rfl (eR b s Y c x t ⟨k,none,0⟩ i.len) (fun w e=>by rw[z8];exact e) qw rfl rfl (l6.le_refl _) (fun v h=>h) ?_;rintro v A ⟨u,rfl,rfl,Z,h4,Q,S⟩;rw[z8];refine u7 ?_;exact l_ rfl _ ⟨u,Y,by omega,h2,rfl,rfl,Z,cq i h4 Q S ⟨by rw[J.1];simp,J.2.1,J.2.2.1,by rw[J.2.2.2];simp⟩ (.inl J.1)⟩ fun w e=>e
