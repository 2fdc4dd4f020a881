import Derived.Test.YtmcepdopookilaaGreatDoorubx12
set_option maxHeartbeats 16000000
set_option maxRecDepth 8000
set_option linter.unusedVariables false
set_option linter.unusedSimpArgs false
set_option linter.defProp false
namespace Go.Proofs.YtmcepdopookilaaGreatDoor.Rp
open Go Go.Sl Go.RowKit Go.Proofs.Tryz
theorem SP{d:UInt8}(h:97<=d.toNat/\d.toNat<=122):(d-32).toNat=d.toNat-32:=by
 rw[UInt8.toNat_sub_of_le]
 ·rfl
 ·exact UInt8.le_iff_toNat_le.2 (by show 32<=d.toNat;omega)
theorem LY{c d:UInt8}(hc:c.toNat<=64\/91<=c.toNat/\c.toNat<=96\/123<=c.toNat):rG d=c↔d=c:=by
 unfold rG;split
 ·next h=>
  constructor
  ·intro e;have:=jy UInt8.toNat e;rw[SP h] at this;omega
  ·intro e;subst e;omega
 ·exact Iff.rfl
theorem Pv{s:Bs}{c:UInt8}{p:Nat}(hc:c.toNat<=64\/91<=c.toNat/\c.toNat<=96\/123<=c.toNat):([c]:Bs).isPrefixOf (s.drop p)=I1 s [c] p:=by
 unfold I1
 cases s.drop p with
 |nil=>simp[R9,List.isPrefixOf]
 |cons d t=>
  have:=LY (c:=c) (d:=d) hc;simp only[zx,zn,List.take_succ_cons,Kj,R9,Qu,Jz,List.isPrefixOf,Bool.and_true];by_cases h:d=c
  ·subst h;simp[this.2 rfl]
  ·have a:rG d≠c:=fun e=>h (this.1 e);simp[a,Ne.symm h]
theorem Bi{s:Bs}{p:Nat}{r:Bs×Nat}(hp:p<=s.length)(h:vz s p=some r):p<=r.2/\r.2<=s.length/\r.1.length<=s.length:=by
 unfold vz at h;split at h
 ·cases h
 ·have:=js h;subst this;have:=bN (q:=P3) hp;exact⟨by simp only;omega,this,by simp only;omega⟩
theorem df{s:Bs}{p:Nat}{r:Bs×Nat}(hp:p<=s.length)(h:li s p=some r):p<=r.2/\r.2<=s.length/\r.1.length<=4096+s.length:=by
 unfold li at h;split at h
 ·have:=Lx hp h;omega
 split at h
 ·cases hu:vn (s.drop p) with
  |none=>rw[hu] at h;cases h
  |some q=>
   rw[hu] at h;have:=js h;subst this;have b:=yo (s:=s.drop p);have a:=Bh (s.drop p);rw[hu] at b a;simp only[Zd,z8] at b a;simp only;omega
 ·obtain⟨q,b,a⟩:=zc.1 h;have:=Bi hp b;split at a
  ·have:=js a;subst this;omega
  ·cases a
theorem pr(s:Bs):(T6 s).2.1<=s.length:=by
 unfold T6;simp only;by_cases h:s.head? =some 40/\(s.takeWhile fun c=>c !=41).length<s.length
 ·rw[zg h];have:=h.2;generalize V6 _=m;by_cases hm:m.2=0
  ·rw[zg hm];simp only;omega
  ·rw[zk hm];simp
 ·rw[zk h];simp
theorem R3(b:Nat)(s:Bs)(p:Nat)(c:CM)(x:CL)(hs:s.length<=1000000000000)(hp:p<=s.length):Cx prog 275 [l9 b] Gl [H9 b s p c x] (fun v A=>∃r,li s p=some r/\v=B r.1/\A=[H9 b s r.2 c x]) (fQ (li s p)):=by
 refine B8 42 func275 rfl rfl rfl ?_;intro F hg;have k:=Pv (s:=s) (c:=123) (p:=p) qp;have l:=Pv (s:=s) (c:=34) (p:=p) qp;obtain⟨m,i⟩:=o8 (I1 s [123] p);obtain⟨n,j⟩:=o8 (I1 s [34] p);obtain⟨W,a⟩:=o8 (li s p);rw[<-a];unfold li at a;rw[<-i,<-j] at a;refine A1 ?_;refine x6 _ rfl (aO b s p c x hs hp) i_ qw rfl ?_;rintro v A ⟨rfl,rfl⟩;refine c_ rfl (ah (s.drop p) [123]) qw rfl ?_;rw[k,<-i];refine r7 ?_
 cases m with
 |true=>
  rw[zg rfl] at a;refine r7 ?_;refine x5 _ rfl (mi b s p c x hs hp) i_ pre rfl rfl (l8.le_refl _) (fun v h=>⟨(by rw[a,h.1]),h.2⟩) ?_;rintro v A ⟨r,f,rfl,rfl⟩;refine C5 ?_;exact d_ rfl rfl [H9 b s r.2 c x] ⟨_,a.trans f,rfl,rfl⟩ i_
 |false=>
  rw[zk x4] at a;refine r7 ?_;refine x6 _ rfl (aO b s p c x hs hp) i_ qw rfl ?_;rintro v A ⟨rfl,rfl⟩;refine c_ rfl (ah (s.drop p) [34]) qw rfl ?_;rw[l,<-j];refine r7 ?_
  cases n with
  |true=>
   rw[zg rfl] at a;have d:=yo (s:=s.drop p);rw[z8] at d;refine w8 ?_
   cases hu:vn (s.drop p) with
   |none=>
    rw[hu] at a;refine r7 ?_;refine x6 _ rfl (aO b s p c x hs hp) i_ qw rfl ?_;rintro v A ⟨rfl,rfl⟩;refine c_ rfl (mg (s.drop p) (by rw[z8];unfold lr;omega)) qw rfl ?_;rw[hu];simp only[Pj];refine wk 8 ?_;refine x5 _ rfl (G9 _) i_ pre rfl rfl (l8.le_refl _) (fun v h=>⟨(a),h.2⟩) ?_;rintro v A ⟨e,rfl,rfl⟩;refine w8 ?_
    cases e
   |some q=>
    rw[hu] at a d;simp only[Zd] at d;refine r7 ?_;refine x6 _ rfl (aO b s p c x hs hp) i_ qw rfl ?_;rintro v A ⟨rfl,rfl⟩;refine c_ rfl (mg (s.drop p) (by rw[z8];unfold lr;omega)) qw rfl ?_;rw[hu];simp only[Pj,Zd];refine wk 8 ?_;refine x5 _ rfl (G9 _) i_ pre rfl rfl (l8.le_refl _) (fun v h=>⟨(by cases h.1),h.2⟩) ?_;rintro v A ⟨e,rfl,rfl⟩;refine ap ?_;refine f_ ((p_ rfl rfl qb).eq (v':=.int .i64 ((p+q.2:Nat):Int)) (by congr 1)) ?_;refine JT ?_;exact d_ rfl rfl [H9 b s (p+q.2) c x] ⟨_,a,rfl,rfl⟩ i_
  |false=>
   rw[zk x4] at a;refine r7 ?_;refine x5 _ rfl (AV b s p c x hs hp) i_ pre rfl rfl (l8.le_refl _) (fun v h=>⟨(by rw[a,h.1];rfl),h.2⟩) ?_;rintro v A ⟨r,f,rfl,rfl⟩;refine r7 ?_;rw[f,z6] at a;obtain⟨q,g⟩:=o8 (decide (r.1.length<=4096));refine A1 ?_;refine f_ ((G4 rfl rfl).eq (v':=.bool q) (qn (by rw[g];apply zp.2;omega))) ?_;refine x5 _ rfl (G9 q) i_ pre rfl rfl (l8.le_refl _) (fun v h=>⟨(by rw[a,zk (zq (g.symm.trans h.1))]),h.2⟩) ?_;rintro v A ⟨e,rfl,rfl⟩;refine w8 ?_;rw[zg (qr (g.symm.trans e))] at a;refine L7 ?_;exact d_ rfl rfl [H9 b s r.2 c x] ⟨_,a,rfl,rfl⟩ i_
theorem Pw{s:Bs}{p:Nat}{r:Bs×Nat}(hp:p<=s.length)(h:NT s p=some r):p<=r.2/\r.2<=s.length/\vo r.1=true:=by
 unfold NT at h;obtain⟨q,c,d⟩:=zc.1 h;have a:=df hp c;obtain⟨n,b,e⟩:=kx.1 d;subst e;refine⟨a.1,a.2.1,?_⟩;unfold ji at b;split at b
 ·next f=>
  have:=js b;subst this;split
  ·exact(by decide:vo cP=true)
  ·exact f
 ·cases b
theorem Px(b:Nat)(s:Bs)(p:Nat)(c:CM)(x:CL)(hs:s.length<=1000000000)(hp:p<=s.length):Cx prog 276 [l9 b] Gl [H9 b s p c x] (fun v A=>∃r,NT s p=some r/\v=B r.1/\A=[H9 b s r.2 c x]) (fQ (NT s p)):=by
 refine B8 14 func276 rfl rfl rfl ?_;intro F hg;obtain⟨W,a⟩:=o8 (NT s p);rw[<-a];unfold NT at a;refine A1 ?_;refine x5 _ rfl (R3 b s p c x qb hp) i_ pre rfl rfl (l8.le_refl _) (fun v h=>⟨(by rw[a,h.1];rfl),h.2⟩) ?_;rintro v A ⟨r,d,rfl,rfl⟩;refine c_ rfl (AP r.1 (by have:=df hp d;unfold lr;omega)) qw rfl ?_;refine ap ?_;rw[d,z6] at a;refine r7 ?_;refine x5 _ rfl (G9 _) i_ pre rfl rfl (l8.le_refl _) (fun v h=>⟨(by rw[a];have:=h.1;cases e:ji r.1 with|none=>rfl|some n=>rw[e] at this;cases this),h.2⟩) ?_;rintro v A ⟨f,rfl,rfl⟩;refine w8 ?_;obtain⟨n,g⟩:=Zb.1 f;rw[g] at a⊢;refine L7 ?_;exact d_ rfl rfl [H9 b s r.2 c x] ⟨_,a,rfl,rfl⟩ i_
theorem yK{p q:UInt8->Bool}(h:∀n,n<256->p (UInt8.ofNat n)=q (UInt8.ofNat n))(c:UInt8):p c=q c:=by
 have:=h c.toNat c.toNat_lt
 rwa [UInt8.ofNat_toNat] at this
theorem jX(l:Bs)(c:UInt8):Pu prog 348 [B l,B [c]] (fun _=>True) (.bool (l.contains c)):=U2 fun w _=>by
 have:=Tryz.strings_Contains_one ⟨l.toArray⟩ c w;rw[show(decide (0<=Lib.indexByte (⟨l.toArray⟩:ByteArray).data.toList c))=l.contains c from by
  show decide (0<=Lib.indexByte l c)=_;rw[eN]
  cases h:l.contains c<;>simp] at this
 exact this
theorem ub(c:UInt8):Pu prog 348 [B [48,49,50,51,52,53,54,55,56,57,44,58,42],B [c]] (fun _=>True) (.bool (oA c)):=by
 have:=jX [48,49,50,51,52,53,54,55,56,57,44,58,42] c
 rwa [yK (p:=fun c=>List.contains [48,49,50,51,52,53,54,55,56,57,44,58,42] c) (q:=oA) (by decide+kernel) c] at this
theorem LZ:vQ 347 oA:=fun c=>by
 refine b_ 5 func347 rfl rfl rfl ?_;intro F _;refine A1 ?_;refine c_ rfl (ub c) qw rfl ?_;refine C5 ?_;exact d_ rfl rfl [] qh i_
theorem jY{s:Bs}{p:Nat}{r:List (Nat×Nat)×Nat}(hp:p<=s.length)(h:qW s p=some r):p<=r.2/\r.2<=s.length/\r.1.length<=64:=by
 unfold qW at h;obtain⟨l,a,b⟩:=kx.1 h;subst b;have:=bN (q:=oA) hp;refine⟨by simp only;omega,this,?_⟩;unfold vy at a;split at a
 ·cases a
 ·have:=jU _ _ a;simp only;omega
theorem jZ(b:Nat)(s:Bs)(p:Nat)(c:CM)(x:CL)(hs:s.length<=1000000000)(hp:p<=s.length):Cx prog 285 [l9 b] Gl [H9 b s p c x] (fun v A=>∃r a d,qW s p=some r/\v=.slice a r.1.length d/\A=[V2 a r.1 d,H9 b s r.2 c x]) (fQ (qW s p)):=by
 refine B8 14 func285 rfl rfl rfl ?_;intro F hg;obtain⟨W,f⟩:=o8 (qW s p);rw[<-f];unfold qW at f;have j:=bN (q:=oA) hp;refine A1 ?_;refine x6 _ rfl (eR 347 oA LZ b s p c x qb hp) i_ qw rfl ?_;rintro v A ⟨rfl,rfl⟩;refine x6 _ rfl (Dm (N8 oA s p) qb) i_ (fun h k o=>hg.le k) rfl ?_;rintro v A ⟨a,d,l,rfl,rfl,m⟩;refine aq ?_;refine x5 _ rfl (G9 _) i_ pre rfl rfl (l8.le_refl _) (fun v h=>⟨(by rw[f];have:=h.1;cases e:vy (N8 oA s p) with|none=>rfl|some n=>rw[e] at this;cases this),h.2⟩) ?_;rintro v A ⟨g,rfl,rfl⟩;refine w8 ?_;obtain⟨n,i⟩:=Zb.1 g;have:=m n i;subst this;rw[i] at f;refine L7 ?_;exact d_ rfl rfl [V2 a l d,H9 b s (p+(N8 oA s p).length) c x] ⟨_,a,d,f,rfl,rfl⟩ i_
theorem sh{s c:Bs}(h:E3 s=some c):c.length<=32:=by
 unfold E3 at h;split at h
 ·next f hf=>
  cases h
  have:=Kx hf
  revert this
  have hs:∀f∈R6,f.length<=32:=by decide
  exact hs c
 ·split at h
  ·next a=>
   cases h
   simp only[U_,zh];exact a.2
  ·cases h
theorem Ma{s:Bs}{p:Nat}{r:List Bs×Nat}(hp:p<=s.length)(h:oB s p=some r):p<=r.2/\r.2<=s.length/\r.1.length<=16/\∀f∈r.1,f.length<=32:=by
 unfold oB at h;split at h
 ·next k=>
  have:=js h;subst this;have a:=jl (lW (s:=s.drop p) (l:=(T6 (s.drop p)).1) (n:=(T6 (s.drop p)).2.1) (by rw[<-k]));have b:=pr (s.drop p);rw[z8] at b;refine⟨by simp only;omega,by simp only;omega,a.2.2,fun f hf=>sh (a.1 f hf)⟩
 ·cases h
theorem si(b:Nat)(s:Bs)(p:Nat)(c:CM)(x:CL)(hs:s.length<=1000000000)(hp:p<=s.length):Cx prog 282 [l9 b] Gl [H9 b s p c x] (fun v A=>∃r a d,oB s p=some r/\v=.slice a r.1.length d/\A=[A5 a r.1 d,H9 b s r.2 c x]) (fQ (oB s p)):=by
 refine B8 25 func282 rfl rfl rfl ?_;intro F hg;obtain⟨W,e⟩:=o8 (oB s p);rw[<-e];unfold oB at e;have i:=pr (s.drop p);rw[z8] at i;obtain⟨m,j⟩:=o8 (T6 (s.drop p));have f:=Di (s.drop p) (by rw[z8];omega);rw[<-j] at e i f;obtain⟨q,g⟩:=o8 (decide (m.2.2=0));refine A1 ?_;refine x6 _ rfl (aO b s p c x qb hp) i_ qw rfl ?_;rintro v A ⟨rfl,rfl⟩;refine x6 _ rfl f i_ (fun h k o=>hg.le k) rfl ?_;rintro v A ⟨a,d,rfl,rfl⟩;refine wk 8 ?_;refine f_ ((p7 rfl rfl).eq (v':=.bool q) (qn g.symm)) ?_;refine x5 _ rfl (G9 q) i_ pre rfl rfl (l8.le_refl _) (fun v h=>⟨(by rw[e,zk (zq (g.symm.trans h.1))]),h.2⟩) ?_;rintro v A ⟨l,rfl,rfl⟩;refine w8 ?_;rw[zg (qr (g.symm.trans l))] at e;refine ap ?_;refine f_ ((p_ rfl rfl qb).eq (v':=.int .i64 ((p+m.2.1:Nat):Int)) (by congr 1)) ?_;refine JT ?_;exact d_ rfl rfl [A5 a m.1 d,H9 b s (p+m.2.1) c x] ⟨_,a,d,e,rfl,rfl⟩ fun w n=>y4.left tk n
abbrev Oc(f:FuncId)(b:Nat)(s:Bs)(R:CM->Nat->Option (CM×Nat)):Prop:=∀(c:CM) (x:CL) (p:Nat),p<=s.length->Cx prog f [l9 b] Gl [H9 b s p c x] (fun v A=>∃r,R c p=some r/\v=.tuple #[]/\A=[H9 b s r.2 r.1 x]) (fQ (R c p))
theorem co(b:Nat)(s:Bs):Oc 207 b s (fun c p=>some (c,p)):=fun c x p hp=>by
 refine B8 2 func207 rfl rfl rfl ?_;intro F hg;refine w8 ?_;exact m6 rfl [H9 b s p c x] ⟨(c,p),rfl,rfl,rfl⟩ i_
theorem Dz(b:Nat)(s:Bs)(hs:s.length<=1000000000):Oc 208 b s (fun c p=>(H_ s Au p).map fun e=>(c,e)):=fun c x p hp=>by
 refine B8 4 func208 rfl rfl rfl ?_;intro F hg;refine r7 ?_;refine x5 _ rfl (D8 b s Au p c x qb hp x4) i_ pre rfl rfl (l8.le_refl _) (fun v h=>⟨(by simp only[h.1,Zn]),h.2⟩) ?_;rintro v A ⟨e,a,rfl,rfl⟩;refine w8 ?_;exact m6 rfl [H9 b s e c x] ⟨(c,e),by simp only[a,Qw],rfl,rfl⟩ i_
theorem ed(b:Nat)(s:Bs)(hs:s.length<=1000000000):Oc 211 b s (fun c p=>I_ c s p):=fun c x p hp=>by
 refine B8 10 func211 rfl rfl rfl ?_;intro F hg;refine r7 ?_;refine x5 _ rfl (D8 b s [32] p c x qb hp x4) i_ pre rfl rfl (l8.le_refl _) (fun v h=>⟨(by simp only[I_,iy,h.1,Z1,Zn]),h.2⟩) ?_;rintro v A ⟨d,a,rfl,rfl⟩;refine w8 ?_;have e:=D0 a x4;refine A1 ?_;refine x5 _ rfl (Px b s d c x hs e.2.2) i_ pre rfl rfl (l8.le_refl _) (fun v h=>⟨(by simp only[I_,iy,a,h.1,z6,Zn]),h.2⟩) ?_;rintro v A ⟨r,f,rfl,rfl⟩;refine O3 ?_;exact m6 rfl [H9 b s r.2 {c with box:=r.1} x] ⟨({c with box:=r.1},r.2),by simp only[I_,iy,a,f,z6,Qw],rfl,rfl⟩ i_
theorem ly{s:Bs}{c:CM}{p:Nat}{r:CM×Nat}(hp:p<=s.length)(h:I_ c s p=some r):p<=r.2/\r.2<=s.length:=by
 unfold I_ iy at h;obtain⟨q,a,b⟩:=kx.1 h;obtain⟨e,d,f⟩:=zc.1 a;have g:=D0 d x4;have i:=Pw g.2.2 f;subst b;simp only;omega
theorem GU(b:Nat)(s:Bs)(hs:s.length<=1000000000):Oc 209 b s (fun c p=>dx c s p):=fun c x p hp=>by
 refine B8 18 func209 rfl rfl rfl ?_;intro F hg;refine r7 ?_;refine x5 _ rfl (D8 b s [32] p c x qb hp x4) i_ pre rfl rfl (l8.le_refl _) (fun v h=>⟨(by simp only[dx,yf,h.1,Z1]),h.2⟩) ?_;rintro v A ⟨g,a,rfl,rfl⟩;refine w8 ?_;have f:=D0 a x4;refine A1 ?_;refine x5 _ rfl (R3 b s g c x qb f.2.2) i_ pre rfl rfl (l8.le_refl _) (fun v h=>⟨(by simp only[dx,yf,a,h.1,z6,Z1]),h.2⟩) ?_;rintro v A ⟨r,d,rfl,rfl⟩;refine O3 ?_;have i:=df f.2.2 d;refine r7 ?_;refine x5 _ rfl (D8 b s [32] r.2 {c with user:=r.1} x qb i.2.1 x4) i_ pre rfl rfl (l8.le_refl _) (fun v h=>⟨(by simp only[dx,yf,a,d,h.1,z6,Z1,Zn]),h.2⟩) ?_;rintro v A ⟨j,e,rfl,rfl⟩;refine w8 ?_;have a3:=D0 e x4;refine A1 ?_;refine x5 _ rfl (R3 b s j {c with user:=r.1} x qb a3.2.2) i_ pre rfl rfl (l8.le_refl _) (fun v h=>⟨(by simp only[dx,yf,a,d,e,h.1,z6,Zn]),h.2⟩) ?_;rintro v A ⟨t,k,rfl,rfl⟩;refine O3 ?_;exact m6 rfl [H9 b s t.2 {c with user:=r.1,pass:=t.1} x] ⟨({c with user:=r.1,pass:=t.1},t.2),by simp only[dx,yf,a,d,e,k,z6,Qw],rfl,rfl⟩ i_
theorem wj(b:Nat)(s:Bs)(hs:s.length<=1000000000):Oc 210 b s (fun c p=>(I_ c s p).map fun q=>({q.1 with cond:=I1 s cg q.2},H5 s cg q.2)):=fun c x p hp=>by
 refine B8 10 func210 rfl rfl rfl ?_;intro F hg;refine r7 ?_;refine x5 _ rfl (ed b s hs c x p hp) i_ pre rfl rfl (l8.le_refl _) (fun v h=>⟨(by simp only[h.1,Zn]),h.2⟩) ?_;rintro v A ⟨r,a,rfl,rfl⟩;refine w8 ?_;have d:=ly hp a;refine A1 ?_;refine x6 _ rfl (S7 b s cg r.2 r.1 x qb d.2 x4) i_ qw rfl ?_;rintro v A ⟨rfl,rfl⟩;refine O3 ?_;exact m6 rfl [H9 b s (H5 s cg r.2) {r.1 with cond:=I1 s cg r.2} x] ⟨({r.1 with cond:=I1 s cg r.2},(H5 s cg r.2)),by simp only[a,Qw],rfl,rfl⟩ i_
theorem Mb:vQ 277 ix:=fun c=>by
 obtain⟨a,b⟩:=o8 (decide (c=37));obtain⟨d,f⟩:=o8 (decide (c=42));have e:ix c=(a||d||P3 c):=by unfold ix;rw[b,f]
 rw[e];refine b_ 13 func277 rfl rfl rfl ?_;intro F _;refine r7 ?_
 cases a<;>cases d
 all_goals (
  refine r7 ?_;refine f_ ((C8 rfl rfl).eq (qn ((show decide ([c]=[37])=decide (c=37) from by simp).trans b.symm))) ?_;refine A1 ?_;(first|refine u_ ?_|(refine v_ ?_;refine f_ ((C8 rfl rfl).eq (qn ((show decide ([c]=[42])=decide (c=42) from by simp).trans f.symm))) ?_));refine E7 ?_;(first|refine u_ ?_|(refine v_ ?_;refine c_ rfl (pd c) qw rfl ?_));refine A1 ?_)
 all_goals (refine A4 ?_;exact d_ rfl rfl [] ⟨by simp,rfl⟩ i_)
theorem GV(b:Nat)(s:Bs)(hs:s.length<=1000000000):Oc 212 b s (fun c p=>jA c s p):=fun c x p hp=>by
 refine B8 22 func212 rfl rfl rfl ?_;intro F hg;refine r7 ?_;refine x5 _ rfl (D8 b s NX p c x qb hp x4) i_ pre rfl rfl (l8.le_refl _) (fun v h=>⟨(by simp only[jA,h.1,Z1]),h.2⟩) ?_;rintro v A ⟨a,d,rfl,rfl⟩;refine w8 ?_;have f:=D0 d x4;have g:=bN (q:=ix) f.2.2;refine A1 ?_;refine x6 _ rfl (eR 277 ix Mb b s a c x qb f.2.2) i_ qw rfl ?_;rintro v A ⟨rfl,rfl⟩;refine wk 9 ?_;refine f_ (C8 rfl rfl) ?_;refine O0 ?_ ?_<;>intro h
 ·have e:N8 ix s a=[]:=by simpa using h
  rw[e];simp only[zn,Q3];refine A1 ?_;refine x5 _ rfl (R3 b s a {c with a5U:=[]} x qb f.2.2) i_ pre rfl rfl (l8.le_refl _) (fun v h=>⟨(by simp only[jA,d,z6,zg e,h.1,Zn]),h.2⟩) ?_;rintro v A ⟨r,i,rfl,rfl⟩;refine O3 ?_;exact m6 rfl [H9 b s r.2 {c with a5U:=r.1} x] ⟨({c with a5U:=r.1},r.2),by simp only[jA,d,z6,zg e,i,Qw],rfl,rfl⟩ i_
 ·have e:¬N8 ix s a=[]:=by simpa using h
  refine w8 ?_;exact m6 rfl [H9 b s (a+(N8 ix s a).length) {c with a5U:=N8 ix s a} x] ⟨({c with a5U:=N8 ix s a},(a+(N8 ix s a).length)),by simp only[jA,d,z6,zk e],rfl,rfl⟩ i_
theorem wl(b:Nat)(s:Bs)(hs:s.length<=1000000000):Oc 288 b s (fun c p=>(dw s p).map fun q=>({c with a5S:=q.1,a5R:=true},q.2)):=fun c x p hp=>by
 refine B8 14 func288 rfl rfl rfl ?_;intro F hg;refine A1 ?_;refine x5 _ rfl (X_ b s D9 p c x qb hp (zr _)) i_ pre rfl rfl (l8.le_refl _) (fun v h=>⟨(by simp only[dw,h.1,Z1,Zn]),h.2⟩) ?_;rintro v A ⟨r,a,rfl,rfl⟩;refine O3 ?_;have d:=cn hp a;refine aq ?_;refine x5 _ rfl (D8 b s [41] r.2 {c with a5S:=r.1,a5R:=true} x qb d.2.2 x4) i_ pre rfl rfl (l8.le_refl _) (fun v h=>⟨(by simp only[dw,a,h.1,z6,Zn]),h.2⟩) ?_;rintro v A ⟨e,f,rfl,rfl⟩;refine w8 ?_;exact m6 rfl [H9 b s e {c with a5S:=r.1,a5R:=true} x] ⟨({c with a5S:=r.1,a5R:=true},e),by simp only[dw,a,f,z6,Qw],rfl,rfl⟩ i_
abbrev NW:=Bs×Nat×Bool
abbrev Mc:NW:=([],0,false)
abbrev DA(x:NW):List Value:=[B x.1,.int .i64 (x.2.1:Nat),.bool x.2.2,.bool false,.int .u64 0,.int .u64 0]
abbrev DB(l:List NW):List Value:=l.flatMap DA
theorem ue:∀x,(DA x).length=6:=fun _=>rfl
theorem Md:∀x,∀q∈DA x,q.oneCell'=true:=fun x q a=>by simp at a;rcases a with rfl|rfl|rfl|rfl|rfl|rfl<;>rfl
theorem pt:Ct prog 281 [] (fun _=>True) [] (fun v A=>∃a,v=.slice (some a) 5 5/\A=[.own (.slice (some a) 5 5) 371 6 (DB jt)]):=by
 refine b_ 12 func281 rfl rfl rfl ?_;intro F _;refine wk 11 ?_;refine x7 rfl rfl rfl rfl rfl rfl (xs:=DB jt) rfl rfl ?_;rintro c ⟨b,rfl⟩;refine C5 ?_;exact d_ rfl rfl _ ⟨b,rfl,rfl⟩ i_
theorem DC{l:List NW}{j:Nat}(h:j<l.length):l.getD j Mc∈l:=by
 rw[zd,zj h];exact zy h
theorem Me{l:List NW}{f:NW->Bool}{j:Nat}(d:j<l.length)(b:∀i,i<j->f (l.getD i Mc)=false)(c:f (l.getD j Mc)=true):l.find? f=some (l.getD j Mc):=by
 induction l generalizing j with
 |nil=>simp at d
 |cons a t ih=>
  cases j with
  |zero=>simp only[List.getD_cons_zero] at c⊢;rw[Wj,c]
  |succ j=>
   have e:=b 0 qb;simp only[List.getD_cons_zero,List.getD_cons_succ] at e c⊢;rw[Wj,e];exact ih (by simpa using d) (fun i g=>by have:=b (i+1) qb;simpa using this) c
theorem GW{l:List NW}{f:NW->Bool}(a:∀i,i<l.length->f (l.getD i Mc)=false):l.find? f=none:=by
 rw[Wh];intro x c;obtain⟨i,b,rfl⟩:=Zk c;have:=a i b;rw[zd,zj b] at this;simpa using this
theorem GX{l:List NW}{s:Bs}{p:Nat}{r:IT×Nat}(hp:p<=s.length)(hl:∀x∈l,x.1≠[])(h:cR l s p=some r):p<r.2/\r.2<=s.length:=by
 unfold cR at h;obtain⟨x,f,b⟩:=zc.1 h;have g:=Kx f;have a:I1 s x.1 p=true:=by have:=List.find?_some f;simpa using this
 have u:=iz a (hl x g);have v:=Z8.mpr (hl x g);split at b
 ·next hc=>
  have i:=iz hc.2 x4;unfold yb at b;obtain⟨w,j,k⟩:=zc.1 b;obtain⟨y,m,n⟩:=zc.1 k;obtain⟨z,o,c⟩:=zc.1 n;simp only[zx,zn] at i;have A:=cn qb j;have q:=D0 m x4;have C:=cn q.2.2 o;split at c
  ·obtain⟨e,t,d⟩:=kx.1 c;have D:=D0 t x4;subst d;simp only;omega
  ·cases c
 ·have:=js b;subst this;simp only;omega
theorem a1B{F:l8}{w:World}{H:List As}{a:Option Addr}{l:List NW}{q i:Nat}(b:Hp F w H)(r:n9 F.heap a (DB l))(hq:q=6*i)(c:i<l.length):M0 (hp w) (N0 a q) (DA (l.getD i Mc)):=
 tl (C:=DA) (r.le b.keep) ue qb Mc hq c
theorem DE{h:l_}{a:Option Addr}{l:List NW}{i:Nat}(r:n9 h a (DB l))(b:i<l.length):∃c,a=some c:=vh (C:=DA) r ue qb b
theorem n5{P:Program}{N:Nat}{K R:y7}{E:List (Nat×y7)}{L:G0}{F j:l8}{H:List As}{ops:Array Oper}{rest:List Oper}{ty:TypeId}{pos:String}{af:Array Edge}{Pq b:Value->Prop}{d:Nat}{f:FuncId}{args:List Operand}{g:Array TypeId}{vs:List Value}{c:l_->Prop}{C Rr:List As}{a:Value->List As->Prop}[HF P f](hc:Cx P f vs c C a Pq)(e:∀h,l_.le F.heap h->(∃bs,A3 h Rr bs)->c h)(k:E.lookup 0=some (CH j b))(i:∀v,Pq v->b v)(h:∀v A,a v A->GL P N ops rest K E R ((d,v)::L) F (A++Rr))(hx:rz L args=some vs:=by rfl)(hH:y4 C H Rr:=by exact tk)(hl:j.le F:=by exact fle)(l:Nat.blt d N=true:=by rfl):
  GL P N ops (⟨some d,.call ⟨.value (.func f),args.toArray,g⟩,ty,pos,af,none⟩::rest) K E R L F H:=
 x5 Rr hx hc (fun w m=>hH.hp m) e l k hl i h
def ItP(b:Nat)(s:Bs)(c:CM)(x:CL)(o:Option (IT×Nat))(v:Value)(A:List As):Prop:=∃r a' c',o=some r/\v=.tuple #[]/\A=[H9 b s r.2 {c with a5Q:=c.a5Q++[r.1]} {x with ia:=a',ic:=c'},bM a' (c.a5Q++[r.1]) c']
theorem Bj(b:Nat)(s:Bs)(p:Nat)(c:CM)(x:CL)(l:List NW)(a:Option Addr)(n:Nat)(hs:s.length<=1000000000)(hp:p<=s.length)(hl:∀x∈l,x.1≠[]/\x.1.length<=100/\x.2.1<=100)(q0:l.length<=100)(hi:c.a5Q.length<=1000000000):Cx prog 280 [l9 b,.slice a l.length n] (fun h=>Gl h/\n9 h a (DB l)) [H9 b s p c x,bM x.ia c.a5Q x.ic] (ItP b s c x (cR l s p)) (fQ (cR l s p)):=by
 refine B8 59 func280 rfl rfl rfl ?_;intro F hh;have hg:=hh.1;have M:=hh.2;obtain⟨W,d⟩:=o8 (cR l s p);rw[<-d];unfold cR at d;refine E7 ?_;refine o7 (ι:=Nat×List As) (fun i=>i.1<=l.length/\∀j,j<i.1->I1 s (l.getD j Mc).1 p=false) (fun i=>[(0,l9 b),(6,.slice a l.length n),(7,.int .i64 (l.length:Nat)),(8,.int .i64 (i.1:Nat))]) (fun i=>H9 b s p c x::bM x.ia c.a5Q x.ic::i.2) (fun i=>l.length-i.1) (0,[]) ⟨by simp,fun j hj=>by simp at hj⟩ sub i_ ?_;rintro⟨i,Z⟩ ⟨h6,r⟩;simp only at h6 r;refine R7 ?_ ?_<;>intro h
 ·have g:i<l.length:=by have:=qr h;omega
  have h7:=DE M g;have hm:=hl _ (DC g);obtain⟨y,O⟩:=o8 (l.getD i Mc);obtain⟨q,Q⟩:=o8 (I1 s y.1 p);rw[<-O] at hm;refine r7 ?_;refine r_ ((p8 rfl (fun w e=>a1B e M (i:=i) qb g) (by rfl)).eq (v':=.agg [B y.1,.int .i64 (y.2.1:Nat),.bool y.2.2,.bool false,.int .u64 0,.int .u64 0].toArray) (by rw[O])) ?_;refine r7 ?_;intro S;refine O3 ?_;refine e_ (S7 b s y.1 p c x qb hp qb) pre ?_;rintro v A ⟨rfl,rfl⟩;rw[<-Q];refine R7 ?_ ?_<;>intro h2
  ·have T:I1 s y.1 p=false:=(by rw[<-Q];simpa using h2);rw[show H5 s y.1 p=p from by unfold H5;rw[T];rfl];refine A1 ?_;refine l6 (i+1,_::Z) ⟨g,fun j hj=>?_⟩ qg sub (fun w e=>(tk (C:=[_,_,_])).hp e);rcases kp.1 hj with t|rfl
   ·exact r j t
   ·rw[<-O];exact T
  ·have U:I1 s y.1 p=true:=(by rw[<-Q];simpa using h2);have D:l.find? (fun x=>I1 s x.1 p)=some y:=(by rw[O];exact Me g r (by rw[<-O];exact U));rw[D,z6] at d;have e2:H5 s y.1 p=p+y.1.length:=(by unfold H5;rw[U];rfl);have u:=(gz (s:=s) (w:=y.1) hp).2;rw[e2] at u⊢;obtain⟨P,hP⟩:=o8 (p+y.1.length);rw[<-hP] at d u⊢;obtain⟨q1,k⟩:=o8 (decide (10<=y.2.1));obtain⟨q2,z⟩:=o8 (I1 s [60] P);refine w8 ?_;obtain⟨PE,f⟩:=o8 (if(q1&&q2)=true then P+1 else P);refine x8 [(0,l9 b),(5,l9 S),(24,.bool (q1&&q2))] (H9 b s PE c x::.blk S (.cells (B y.1::bR ⟨y.2.1,y.2.2,false,0,0⟩).toArray 371)::bM x.ia c.a5Q x.ic::Z) ?_ ?_
   ·cases q1
    ·refine E7 ?_;refine f_ ((I5 rfl rfl).eq (v':=.bool false) (qn ((qz).trans k.symm))) ?_;refine A1 ?_;(first|refine u_ ?_|(refine v_ ?_;fail));refine r7 ?_;subst f;exact p9 sub (fun w e=>(tk (C:=[_,_,_])).hp e)
    ·refine E7 ?_;refine f_ ((I5 rfl rfl).eq (v':=.bool true) (qn ((qz).trans k.symm))) ?_;refine A1 ?_;(first|refine u_ ?_|(refine v_ ?_;refine e_ (S7 b s [60] P c x qb u qp) pre ?_;rintro v A ⟨rfl,rfl⟩;rw[<-z]));refine r7 ?_;rw[show H5 s [60] P=PE from by rw[f];unfold H5;rw[<-z];rfl];exact p9 sub (fun w e=>(tk (C:=[_,_,_])).hp e)
   refine w8 ?_;refine n7 (ι:=IT×Nat) (fun i=>W=some i) (fun i=>[(0,l9 b),(5,l9 S)]) (fun i=>H9 b s i.2 c x::.blk S (.cells (B y.1::bR i.1).toArray 371)::bM x.ia c.a5Q x.ic::Z) ?_ ?_
   ·refine o9 rfl ?_ ?_<;>intro t
    ·rw[zg t] at f;rw[ky] at t;have V:I1 s [60] P=true:=z.symm.trans t.2;rw[zg ⟨qr (k.symm.trans t.1),V⟩] at d;unfold yb at d;have o:=(gz (s:=s) (w:=[60]) u).2;rw[show H5 s [60] P=P+1 from by unfold H5;rw[V];rfl] at o;rw[f];refine O3 ?_;refine n5 (X_ b s 4294967295 (P+1) c x qb o qp) pre rfl (fun v h=>⟨by rw[d,h.1];rfl,h.2⟩) ?_;rintro v A ⟨r1,X,rfl,rfl⟩;refine E7 ?_;have b1:=cn o X;rw[X,z6] at d;refine r7 ?_;refine n5 (D8 b s [46] r1.2 c x qb b1.2.2 qp) pre rfl (fun v h=>⟨by rw[d,h.1];rfl,h.2⟩) ?_;rintro v A ⟨p2,Y,rfl,rfl⟩;refine w8 ?_;have b2:=D0 Y x4;rw[Y,z6] at d;refine r7 ?_;refine n5 (X_ b s 4294967295 p2 c x qb b2.2.2 qp) pre rfl (fun v h=>⟨by rw[d,h.1];rfl,h.2⟩) ?_;rintro v A ⟨r3,h0,rfl,rfl⟩;refine E7 ?_;have b3:=cn b2.2.2 h0;rw[h0,z6] at d;obtain⟨q3,J⟩:=o8 (decide (0<r3.1));refine E7 ?_;refine f_ ((E2 rfl rfl).eq (v':=.bool q3) (qn ((qz).trans J.symm))) ?_;refine n5 (G9 q3) qw rfl (fun v h=>⟨by rw[d,zk (zq (J.symm.trans h.1))],h.2⟩) ?_;rintro v A ⟨Q,rfl,rfl⟩;refine w8 ?_;rw[zg (qr (J.symm.trans Q))] at d;refine r7 ?_;refine n5 (D8 b s [62] r3.2 c x qb b3.2.2 qp) pre rfl (fun v h=>⟨by rw[d,h.1];rfl,h.2⟩) ?_;rintro v A ⟨p4,h8,rfl,rfl⟩;refine w8 ?_;rw[h8,Qw] at d;exact g_ _ d (fun w e=>(tk (C:=[_,_,_])).hp e)
    ·rw[zk (by rw[t];simp)] at f;rw[zk (by rintro⟨h1,h4⟩;rw[jk h1] at k;rw[k,z,h4] at t;cases t)] at d;rw[f];refine w8 ?_;exact g_ _ d (fun w e=>(tk (C:=[_,_,_])).hp e)
   rintro⟨it,P2⟩ h9;refine w8 ?_;refine D2 [5,7] [8,9,13] [H9 b s P2 c x,.blk S (.cells (B y.1::bR it).toArray 371)] 14 ?_;refine wd [0,1,2,3,4,5,6,7] ?_;refine h_ 8 rfl i6 ?_;refine C4 bR it rfl ?_;intro q4 k9;refine F8 ?_;refine dH (.inr (by exact aW (by(first|exact fun _ h=>h|(repeat first|exact tj|refine oh (by repeat first|exact List.Mem.head _|apply List.Mem.tail) ?_|exact fun _ h=>h|refine sub_skip ?_))))) ?_;refine h_ 9 rfl i6 ?_;refine w6 bR (l:=c.a5Q) (m:=[it]) Q_ gv (by show(c.a5Q.length+1)*32<=_;omega) ?_;intro k0 k8 _;refine E6 [10,11,12,13] ?_;refine A4 ?_;exact m6 rfl _ ⟨(it,P2),k0,k8,h9,rfl,rfl⟩ fun w e=>y4.left tk e
 ·have h5:i=l.length:=by have:=zq h;omega
  subst h5;rw[GW r] at d;refine C7 ?_;refine n5 (G9 false) qw rfl (fun v h=>⟨d,h.2⟩) ?_;rintro v A ⟨hl,rfl,rfl⟩;refine w8 ?_
  cases hl
section
variable{ι:Type}(s:Bs)(Rr:ι->Nat->ι->Nat->Prop)(Nn:ι->Nat->Prop)
inductive pu:ι->Nat->Nat->ι->Nat->Prop
 |one {i i1:ι} {p p1:Nat}:Rr i p i1 p1->pu i p 1 i1 p1
 |more {i i1 i2:ι} {p p1 p2 n:Nat}:pu i p n i1 p1->I1 s [32] p1=true->Rr i1 (p1+1) i2 p2->pu i p (n+1) i2 p2
def Od(i:ι)(p:Nat):Prop:=Nn i p\/∃n i1 p1,pu s Rr i p n i1 p1/\I1 s [32] p1=true/\Nn i1 (p1+1)
end
theorem nu{ι:Type}(b:Nat)(s:Bs)(hs:s.length<=1000000000)(f:FuncId)[HF prog f](FH:List Value)(l:l_->Prop)[Mn l](m:ι->CM)(cl:ι->CL)(Z:ι->List As)(ok:ι->Nat->Prop)(Rr:ι->Nat->ι->Nat->Prop)(D:ι->Nat->Prop)(J:∀i p a p',ok i p->p<=s.length->Rr i p a p'->p<=p'/\p'<=s.length/\ok a p')(d:∀i p,ok i p->ok i (p+1))(e:∀i p,ok i p->p<=s.length->Cx prog f FH l (H9 b s p (m i) (cl i)::Z i) (fun v A=>∃a p',Rr i p a p'/\v=.tuple #[]/\A=H9 b s p' (m a) (cl a)::Z a) (fun v=>D i p/\v=N1))(i:ι)(p:Nat)(M:ok i p)(hp:p<=s.length):Cx prog 278 [l9 b,.func (.func f) #[] FH.toArray] l (H9 b s p (m i) (cl i)::Z i) (fun v A=>∃n a p',pu s Rr i p n a p'/\I1 s [32] p'=false/\v=.int .i64 (n:Nat)/\A=H9 b s p' (m a) (cl a)::Z a) (fun v=>Od s Rr D i p/\v=N1):=by
 refine B8 15 func278 rfl rfl rfl ?_;intro F g;refine E7 ?_;refine kV (ps:=[]) [] rfl rfl rfl (e i p M hp) (fun w y=>by rw[z7];exact y) (fun h z _=>Mn.le z g) rfl rfl (l8.le_refl _) (fun v h=>⟨.inl h.1,h.2⟩) ?_;rintro v A ⟨T,U,x,rfl,rfl⟩;refine w8 ?_;have O:=J _ _ _ _ M hp x;rw[z7];refine o7 (ι:=Nat×ι×Nat) (fun t=>pu s Rr i p t.1 t.2.1 t.2.2/\t.2.2<=s.length/\ok t.2.1 t.2.2/\t.1<=t.2.2+1) (fun t=>[(0,l9 b),(1,.func (.func f) #[] FH.toArray),(5,.int .i64 (t.1:Nat))]) (fun t=>H9 b s t.2.2 (m t.2.1) (cl t.2.1)::Z t.2.1) (fun t=>s.length-t.2.2) (1,T,U) ⟨.one x,O.2.1,O.2.2,by simp⟩ sub i_ ?_;rintro⟨n,j,q⟩ ⟨c,o,r,C⟩;simp only at c o r C;refine r7 ?_;refine e_ (S7 b s [32] q (m j) (cl j) qb o qp) qw ?_;rintro v A ⟨rfl,rfl⟩;refine O0 ?_ ?_<;>intro h
 ·have u:=(gz (s:=s) (w:=[32]) o).2;rw[show H5 s [32] q=q+1 from by unfold H5;rw[h];rfl] at u⊢;refine r7 ?_;refine kV (ps:=[]) [] rfl rfl rfl (e j (q+1) (d _ _ r) u) (fun w y=>by rw[z7];exact y) (fun h z _=>Mn.le z g) rfl rfl (l8.le_refl _) (fun v k=>⟨.inr ⟨n,j,q,c,h,k.1⟩,k.2⟩) ?_;rintro v A ⟨V,X,Q,rfl,rfl⟩;refine w8 ?_;have S:=J _ _ _ _ (d _ _ r) u Q;refine r7 ?_;refine f_ ((p_ rfl rfl qb).eq (v':=.int .i64 ((n+1:Nat):Int)) (by congr 1)) ?_;refine r7 ?_;rw[z7];exact l6 (n+1,V,X) ⟨.more c h Q,S.2.1,S.2.2,by simp only;omega⟩ qg sub i_
 ·rw[show H5 s [32] q=q from by unfold H5;rw[h];rfl];refine L7 ?_;exact d_ rfl rfl (H9 b s q (m j) (cl j)::Z j) ⟨n,j,q,c,h,rfl,rfl⟩ i_
open Go Go.Sl Go.RowKit Go.Proofs.Tryz
section
variable{ι α β:Type}{s:Bs}{one:Nat->Option (α×Nat)}{acc:ι->β}{app:β->α->β}
def GY(one:Nat->Option (α×Nat))(acc:ι->β)(app:β->α->β)(i:ι)(p:Nat)(i':ι)(p':Nat):Prop:=∃r,one p=some r/\acc i'=app (acc i) r.1/\p'=r.2
theorem sj{i b:ι}{p n a:Nat}(h:pu s (GY one acc app) i p n b a):∃l,l.length=n/\acc b=l.foldl app (acc i)/\∀k,dR one s (k+n) p=if I1 s [32] a=true then(dR one s k (a+1)).map fun r=>(l++r.1,r.2) else some (l,a):=by
 induction h with
 |one h=>
  obtain⟨r,c,d,rfl⟩:=h;exact⟨[r.1],rfl,d,fun k=>by rw[dR,c,z6];rfl⟩
 |@more b i2 p a p2 n h hl hr ih=>
  obtain⟨l,e,f,g⟩:=ih;obtain⟨r,c,d,rfl⟩:=hr;refine⟨l++[r.1],by simp[e],by rw[d,f,Wr];rfl,fun k=>?_⟩;rw[show k+(n+1)=(k+1)+n from by omega,g (k+1),zg hl,dR,c,z6];split
  ·cases dR one s k (r.2+1)<;>simp
  ·simp
theorem nv(c:∀p r,p<=s.length->one p=some r->p<r.2/\r.2<=s.length){i d:ι}{p n a:Nat}(hp:p<=s.length)(h:pu s (GY one acc app) i p n d a):p+n<=a/\a<=s.length:=by
 induction h with
 |one h=>
  obtain⟨r,b,e,rfl⟩:=h;have:=c _ _ hp b;omega
 |more h hl hr ih=>
  obtain⟨r,b,e,rfl⟩:=hr;have:=iz hl x4;simp only[jc] at this;have:=c _ _ this b;have:=ih hp;omega
theorem sm(c:∀p r,p<=s.length->one p=some r->p<r.2/\r.2<=s.length){i b:ι}{p n a:Nat}(hp:p<=s.length)(h:pu s (GY one acc app) i p n b a)(hl:I1 s [32] a=false):∃l,l.length=n/\acc b=l.foldl app (acc i)/\dR one s (s.length+1) p=some (l,a):=by
 obtain⟨l,d,e,f⟩:=sj h;have:=nv c hp h;refine⟨l,d,e,?_⟩;rw[show s.length+1=(s.length+1-n)+n from by omega,f,hl];rfl
theorem so(c:∀p r,p<=s.length->one p=some r->p<r.2/\r.2<=s.length){i:ι}{p:Nat}(hp:p<=s.length)(h:Od s (GY one acc app) (fun _ p=>one p=none) i p):dR one s (s.length+1) p=none:=by
 rcases h with h|⟨n,f,g,h,b,d⟩
 ·rw[dR,h,Z1]
 ·obtain⟨l,j,k,e⟩:=sj h;have:=nv c hp h;have a:=iz b x4;simp only[jc] at a;rw[show s.length+1=(s.length-n+1)+n from by omega,e,zg b,dR,d,Z1];rfl
end
theorem px{α:Type}(l:List α):∀a:List α,l.foldl (fun a x=>a++[x]) a=a++l:=by
 induction l with
 |nil=>simp
 |cons x t ih=>intro a;rw[Wq,ih];simp
abbrev IS:=List IT×Option Addr×Nat
abbrev pB(g b:Nat):As:=.blk g (.cells #[l9 b] 209)
abbrev isC(c:CM)(i:IS):CM:={c with a5Q:=i.1}
abbrev Bk(x:CL)(i:IS):CL:={x with ia:=i.2.1,ic:=i.2.2}
abbrev Uf(g b:Nat)(i:IS):List As:=[bM i.2.1 i.1 i.2.2,pB g b]
abbrev Mf(tbl:List NW)(s:Bs):IS->Nat->IS->Nat->Prop:=GY (cR tbl s) (fun i:IS=>i.1) (fun a x=>a++[x])
abbrev ItK(f:FuncId)(tbl:List NW)(b g:Nat)(s:Bs)(c:CM)(x:CL):Prop:=∀(i:IS) (p:Nat),i.1.length<=p->p<=s.length->Cx prog f [l9 g] Gl (H9 b s p (isC c i) (Bk x i)::Uf g b i) (fun v A=>∃i' p',Mf tbl s i p i' p'/\v=.tuple #[]/\A=H9 b s p' (isC c i') (Bk x i')::Uf g b i') (fun v=>cR tbl s p=none/\v=N1)
theorem yL{l:List NW}(h:(l.all fun x=>!x.1.isEmpty&&decide (x.1.length<=100)&&decide (x.2.1<=100))=true):∀x∈l,x.1≠[]/\x.1.length<=100/\x.2.1<=100:=fun x a=>by
 have:=Qv.1 h x a;simp only[ky,jg] at this;refine⟨fun e=>?_,this.1.2,this.2⟩;rw[e] at this;simp at this
theorem DF(b g:Nat)(s:Bs)(c:CM)(x:CL)(hs:s.length<=1000000000):ItK 279 jt b g s c x:=fun i p m hp=>by
 refine B8 4 func279 rfl rfl rfl ?_;intro F hg;refine w8 ?_;refine D2 [0] [1,2] [pB g b] 3 ?_;refine wd [0] ?_;refine h_ 1 rfl i6 ?_;refine e_ pt qw ?_;rintro v A ⟨a,rfl,rfl⟩;refine Y9 ?_;refine h_ 2 rfl i6 ?_;refine n5 (Rr:=[.own (.slice (some a) 5 5) 371 6 (DB jt),pB g b]) (Bj b s p (isC c i) (Bk x i) jt (some a) 5 hs hp (yL qp) qp qg) (fun h d ⟨n,e⟩=>⟨hg.le d,A3.rd e .del⟩) rfl (fun v h=>h) ?_;rintro v A ⟨r,f,j,k,rfl,rfl⟩;refine E6 [] ?_;exact m6 rfl _ ⟨(i.1++[r.1],f,j),r.2,⟨r,k,rfl,rfl⟩,rfl,rfl⟩ fun w l=>y4.left tk l
open Go Go.Sl Go.RowKit Go.Proofs.Tryz
instance:Mn Gl:=⟨fun l r=>r.le l⟩
abbrev P6(c:CM):CM:={c with cond:=false,set:=[],a5Q:=[],keys:=[],how:=0,a5W:=false,a5R:=false,a5S:=0,a5Y:=[]}
def sr(c:CM)(x:CL)(Z:List As):Prop:=∀h bs,A3 h Z bs->dW c x h
theorem bg{c:CM}{x:CL}{Z:List As}(hs:c.set=[]\/V2 x.sa c.set x.sc∈Z)(d:c.a5Q=[]\/bM x.ia c.a5Q x.ic∈Z)(f:c.keys=[])(hf:c.a5Y=[]\/A5 x.fa c.a5Y x.fc∈Z):sr c x Z:=fun h g b=>
 ⟨by rcases hs with e|a;rw[e];exact n9.nil _ _;exact dP b a,by rcases d with e|a;rw[e];exact n9.nil _ _;exact dP b a,⟨[],by rw[f];rfl,n9.nil _ _,fun _ h=>by cases h⟩,by rcases hf with e|a;rw[e];exact n9.nil _ _;exact dP b a⟩
abbrev su(f:FuncId)(b:Nat)(s:Bs)(Rd:CM->Nat->Option (CM×Nat)):Prop:=∀(c:CM) (p:Nat),p<=s.length->Cx prog f [l9 b] Gl [H9 b s p (P6 c) H3] (fun v A=>∃r x Z,Rd (P6 c) p=some r/\v=.tuple #[]/\A=H9 b s r.2 r.1 x::Z/\sr r.1 x Z) (fQ (Rd (P6 c) p))
theorem su.of_x{f:FuncId}{b:Nat}{s:Bs}{a:CM->Nat->Option (CM×Nat)}(h:Oc f b s a)(e:∀c p r,a (P6 c) p=some r->r.1.set=[]/\r.1.a5Q=[]/\r.1.keys=[]/\r.1.a5Y=[]):su f b s a:=fun c p hp=>
 (h (P6 c) H3 p hp).mono (fun _ h=>h) (fun v A ⟨r,d,g,i⟩=>⟨r,H3,[],d,g,i,by
  obtain⟨j,k,a3,a4⟩:=e c p r d;exact bg (.inl j) (.inl k) a3 (.inl a4)⟩) (fun _ h=>h)
theorem cp{c:CM}{s:Bs}{p:Nat}{r:CM×Nat}(h:I_ c s p=some r):∃w e,r=({c with box:=w},e):=by
 unfold I_ at h;obtain⟨q,_,a⟩:=kx.1 h;exact⟨q.1,q.2,a.symm⟩
theorem wm(a:List (Bs×Nat×Bool))(s:Bs)(p:Nat):oC a s p=(dR (cR a s) s (s.length+1) p).bind fun q=>if q.1.length<=8 then(H_ s [41] q.2).map fun e=>(q.1,e) else none:=rfl
theorem dg{a:List NW}(b:∀x∈a,x.1≠[]/\x.1.length<=100/\x.2.1<=100)(s:Bs)(p:Nat)(r:IT×Nat)(hp:p<=s.length)(h:cR a s p=some r):p<r.2/\r.2<=s.length:=GX hp (fun x c=>(b x c).1) h
theorem Bl{a:List NW}(c:∀x∈a,x.1≠[]/\x.1.length<=100/\x.2.1<=100){s:Bs}(i:IS)(p:Nat)(b:IS)(p':Nat)(h:i.1.length<=p)(hp:p<=s.length)(r:Mf a s i p b p'):p<=p'/\p'<=s.length/\b.1.length<=p':=by
 obtain⟨q,d,e,rfl⟩:=r;have:=dg c s p q hp d;rw[show b.1=i.1++[q.1] from e,zz,jc];omega
theorem nx:∀x∈jt,x.1≠[]/\x.1.length<=100/\x.2.1<=100:=yL qp
theorem DG(b:Nat)(s:Bs)(hs:s.length<=1000000000):su 213 b s (fun c p=>jB c s p):=fun c p hp=>by
 refine B8 13 func213 rfl rfl rfl ?_;intro F hg;obtain⟨W,a⟩:=o8 (jB (P6 c) s p);simp only;rw[<-a];unfold jB at a;refine r7 ?_;intro m;refine r7 ?_;refine n5 (ed b s hs (P6 c) H3 p hp) pre rfl (fun v h=>⟨by rw[a,show I_ (P6 c) s p=none from h.1];rfl,h.2⟩) ?_;rintro v A ⟨y,d,rfl,rfl⟩;refine w8 ?_;replace d:I_ (P6 c) s p=some y:=d;have x:=ly hp d;obtain⟨w,z,rfl⟩:=cp d;rw[d,z6] at a;simp only at a x;refine r7 ?_;refine n5 (D8 b s [32,40] z {P6 c with box:=w} H3 qb x.2 qp) pre rfl (fun v h=>⟨by rw[a,h.1];rfl,h.2⟩) ?_;rintro v A ⟨C,e,rfl,rfl⟩;refine w8 ?_;have k:=D0 e x4;rw[e,z6,wm] at a;refine w8 ?_;refine O8 129 5 ?_;refine A1 ?_;refine n5 (nu b s hs 279 [l9 m] Gl (isC {P6 c with box:=w}) (Bk H3) (Uf m b) (fun i p=>i.1.length<=p) (Mf jt s) (fun _ p=>cR jt s p=none) (Bl nx) (fun _ _ h=>by omega) (DF b m s _ _ hs) ([],none,0) C (zw _) k.2.2) pre rfl (fun v h=>⟨by rw[a,so (dg nx s) k.2.2 h.1];rfl,h.2⟩) ?_;rintro v A ⟨n,i,D,f,o,rfl,rfl⟩;obtain⟨l,g,j,J⟩:=sm (dg nx s) k.2.2 f o;rw[px,j8] at j;rw[J,z6] at a;obtain⟨q,r⟩:∃q,q=decide (n<=8):=⟨_,rfl⟩;refine f_ ((G4 rfl rfl).eq (v':=.bool q) (qn ((qz).trans r.symm))) ?_;refine n5 (G9 q) qw rfl (fun v h=>⟨by rw[a,zk (by rw[g];exact zq (r.symm.trans h.1))];rfl,h.2⟩) ?_;rintro v A ⟨t,rfl,rfl⟩;refine w8 ?_;rw[zg (by rw[g];exact qr (r.symm.trans t))] at a;have M:=nv (dg nx s) k.2.2 f;refine r7 ?_;refine n5 (D8 b s [41] D (isC {P6 c with box:=w} i) (Bk H3 i) qb M.2 qp) pre rfl (fun v h=>⟨by rw[a,h.1];rfl,h.2⟩) ?_;rintro v A ⟨O,u,rfl,rfl⟩;refine w8 ?_;rw[u,<-j] at a;exact m6 rfl (H9 b s O (isC {P6 c with box:=w} i) (Bk H3 i)::[bM i.2.1 i.1 i.2.2]) ⟨_,_,_,a,rfl,rfl,bg (.inl rfl) (.inr (.head _)) rfl (.inl rfl)⟩ fun w Q=>y4.left tk Q
theorem DH(b:Nat)(s:Bs)(hs:s.length<=1000000000):su 218 b s (fun c p=>cT c s p fun c e=>I_ c s e):=fun c p hp=>by
 refine B8 12 func218 rfl rfl rfl ?_;intro F hg;obtain⟨W,a⟩:=o8 (cT (P6 c) s p fun c e=>I_ c s e);simp only;rw[<-a];unfold cT at a;refine r7 ?_;refine n5 (D8 b s [32] p (P6 c) H3 qb hp qp) pre rfl (fun v h=>⟨by rw[a,h.1];rfl,h.2⟩) ?_;rintro v A ⟨n,g,rfl,rfl⟩;refine w8 ?_;have l:=D0 g x4;rw[g,z6] at a;refine A1 ?_;refine n5 (jZ b s n (P6 c) H3 hs l.2.2) pre rfl (fun v h=>⟨by rw[a,h.1];rfl,h.2⟩) ?_;rintro v A ⟨f,j,k,i,rfl,rfl⟩;refine O3 ?_;have o:=jY l.2.2 i;rw[i,z6] at a;simp only at a;refine r7 ?_;refine n5 (ed b s hs {P6 c with set:=f.1} {H3 with sa:=j,sc:=k} f.2 o.2.1) pre rfl (fun v h=>⟨by rw[a];exact h.1,h.2⟩) ?_;rintro v A ⟨q,d,rfl,rfl⟩;refine w8 ?_;replace d:I_ {P6 c with set:=f.1} s f.2=some q:=d;obtain⟨w,m,rfl⟩:=cp d;exact m6 rfl (H9 b s m {P6 c with set:=f.1,box:=w} {H3 with sa:=j,sc:=k}::[V2 j f.1 k]) ⟨({P6 c with set:=f.1,box:=w},m),_,_,a.trans d,rfl,rfl,bg (.inr (.head _)) (.inl rfl) rfl (.inl rfl)⟩ fun w r=>y4.left tk r
theorem eS{s w:Bs}{p:Nat}(hp:p<=s.length):H5 s w p<=s.length:=(gz hp).2
theorem py{c:CM}{s:Bs}{p:Nat}{r:CM×Nat}(hp:p<=s.length)(h:(dw s p).map (fun q=>({c with a5S:=q.1,a5R:=true},q.2))=some r):∃n e,dw s p=some (n,e)/\r=({c with a5S:=n,a5R:=true},e)/\e<=s.length:=by
 obtain⟨q,a,b⟩:=kx.1 h;refine⟨q.1,q.2,a,b.symm,?_⟩;unfold dw at a;obtain⟨t,i,d⟩:=zc.1 a;obtain⟨e,f,g⟩:=kx.1 d;have:=D0 f x4;subst g;exact this.2.2
theorem GZ(b:Nat)(s:Bs)(hs:s.length<=1000000000):su 217 b s (fun c p=>cT c s p (aI s fun c e=>oE c s e)):=fun c p hp=>by
 refine B8 48 func217 rfl rfl rfl ?_;intro F hg;obtain⟨W,a⟩:=o8 (cT (P6 c) s p (aI s fun c e=>oE c s e));simp only;rw[<-a];unfold cT at a;refine r7 ?_;refine n5 (D8 b s [32] p (P6 c) H3 qb hp qp) pre rfl (fun v h=>⟨by rw[a,h.1];rfl,h.2⟩) ?_;rintro v A ⟨e1,C,rfl,rfl⟩;refine w8 ?_;have b1:=D0 C x4;rw[C,z6] at a;refine A1 ?_;refine n5 (jZ b s e1 (P6 c) H3 hs b1.2.2) pre rfl (fun v h=>⟨by rw[a,h.1];rfl,h.2⟩) ?_;rintro v A ⟨d,g,j,D,rfl,rfl⟩;refine O3 ?_;have b2:=jY b1.2.2 D;rw[D,z6] at a;unfold aI at a;simp only at a;obtain⟨x,hx⟩:∃x:CL,x={H3 with sa:=g,sc:=j}:=⟨_,rfl⟩;refine r7 ?_;refine n5 (D8 b s [32] d.2 {P6 c with set:=d.1} {H3 with sa:=g,sc:=j} qb b2.2.1 qp) pre rfl (fun v h=>⟨by rw[a,h.1];rfl,h.2⟩) ?_;rintro v A ⟨u,J,rfl,rfl⟩;refine w8 ?_;have V:=D0 J x4;rw[J,z6] at a;unfold oE Pc at a;refine r7 ?_;refine e_ (S7 b s vC u {P6 c with set:=d.1} {H3 with sa:=g,sc:=j} qb V.2.2 qp) pre ?_;rintro v A ⟨rfl,rfl⟩;refine w8 ?_
 -- since
 refine n7 (ι:=CM×Nat) (fun i=>i.2<=s.length/\(∃n h,i.1={P6 c with set:=d.1,a5S:=n,a5R:=h})/\W=(H_ s ye (vE s i.2).2).bind fun e=>(H_ s [32] (CV s e).2).bind fun e2=>(oB s e2).map fun f=>({i.1 with how:=(vE s i.2).1,a5W:=(CV s e).1,a5Y:=f.1},f.2)) (fun i=>[(0,l9 b)]) (fun i=>H9 b s i.2 i.1 {H3 with sa:=g,sc:=j}::[V2 g d.1 j]) ?_ ?_
 ·refine o9 rfl ?_ ?_<;>intro h
  ·rw[zg h] at a;have o:=eS (w:=vC) V.2.2;rw[show H5 s vC u=u+16 from by unfold H5;rw[h];rfl] at o⊢;refine r7 ?_;refine n5 (wl b s hs {P6 c with set:=d.1} {H3 with sa:=g,sc:=j} (u+16) o) pre rfl (fun v h=>⟨by rw[a,Option.map_eq_none_iff.1 h.1];rfl,h.2⟩) ?_;rintro v A ⟨r4,X,rfl,rfl⟩;refine w8 ?_;obtain⟨l,k,Y,rfl,r⟩:=py o X;rw[Y,z6] at a;simp only at a r;refine r7 ?_;refine n5 (D8 b s [32] k {P6 c with set:=d.1,a5S:=l,a5R:=true} {H3 with sa:=g,sc:=j} qb r qp) pre rfl (fun v h=>⟨by rw[a,h.1];rfl,h.2⟩) ?_;rintro v A ⟨Z,M,rfl,rfl⟩;refine w8 ?_;have y:=D0 M x4;rw[M,Qw,z6] at a;exact g_ ({P6 c with set:=d.1,a5S:=l,a5R:=true},Z) ⟨y.2.2,⟨l,true,rfl⟩,a⟩ (fun w m=>y4.left tk m)
  ·rw[zk (by simp[h]),z6] at a;rw[show H5 s vC u=u from by unfold H5;rw[h];rfl];refine w8 ?_;exact g_ ({P6 c with set:=d.1},u) ⟨V.2.2,⟨_,_,rfl⟩,a⟩ (fun w m=>y4.left tk m)
 rintro⟨c4,k⟩ ⟨o,⟨l,t,rfl⟩,a⟩;simp only at o a
 -- plus or minus
 refine I8 0 ?_;refine n7 (ι:=Nat×Nat) (fun i=>i=vE s k/\i.2<=s.length) (fun i=>[(0,l9 b)]) (fun i=>H9 b s i.2 {P6 c with set:=d.1,a5S:=l,a5R:=t,how:=i.1} {H3 with sa:=g,sc:=j}::[V2 g d.1 j]) ?_ ?_
 ·refine r7 ?_;refine e_ (S7 b s [43] k {P6 c with set:=d.1,a5S:=l,a5R:=t} {H3 with sa:=g,sc:=j} qb o qp) pre ?_;rintro v A ⟨rfl,rfl⟩;refine r7 ?_;have r:=eS (w:=[43]) o;refine o9 rfl ?_ ?_<;>intro h
  ·rw[show H5 s [43] k=k+1 from by unfold H5;rw[h];rfl] at r⊢;refine ap ?_;exact g_ (1,k+1) ⟨by unfold vE;rw[zg h],r⟩ (fun w m=>y4.left tk m)
  ·rw[show H5 s [43] k=k from by unfold H5;rw[h];rfl];refine r7 ?_;refine e_ (S7 b s [45] k {P6 c with set:=d.1,a5S:=l,a5R:=t} {H3 with sa:=g,sc:=j} qb o qp) pre ?_;rintro v A ⟨rfl,rfl⟩;refine r7 ?_;have y:=eS (w:=[45]) o;refine o9 rfl ?_ ?_<;>intro U
   ·rw[show H5 s [45] k=k+1 from by unfold H5;rw[U];rfl] at y⊢;refine ap ?_;exact g_ (2,k+1) ⟨by unfold vE;rw[zk (by rw[h];simp),zg U],y⟩ (fun w m=>y4.left tk m)
   ·rw[show H5 s [45] k=k from by unfold H5;rw[U];rfl];refine w8 ?_;exact g_ (0,k) ⟨by unfold vE;rw[zk (by rw[h];simp),zk (by rw[U];simp)],o⟩ (fun w m=>y4.left tk m)
 rintro⟨O,Z⟩ ⟨h0,r⟩;rw[<-h0] at a;simp only at r a;refine r7 ?_;refine n5 (D8 b s ye Z {P6 c with set:=d.1,a5S:=l,a5R:=t,how:=O} {H3 with sa:=g,sc:=j} qb r qp) pre rfl (fun v h=>⟨by rw[a,h.1];rfl,h.2⟩) ?_;rintro v A ⟨z,Q,rfl,rfl⟩;refine w8 ?_;have y:=D0 Q x4;rw[Q,z6] at a;refine A1 ?_;refine e_ (S7 b s cS z {P6 c with set:=d.1,a5S:=l,a5R:=t,how:=O} {H3 with sa:=g,sc:=j} qb y.2.2 qp) pre ?_;rintro v A ⟨rfl,rfl⟩;refine O3 ?_;have S:CV s z=(I1 s cS z,H5 s cS z):=by
  unfold CV H5
  cases I1 s cS z<;>rfl
 have b7:=eS (w:=cS) y.2.2;rw[S] at a;obtain⟨e7,h1⟩:=o8 (H5 s cS z);obtain⟨q,hq⟩:=o8 (I1 s cS z);rw[<-h1] at a b7⊢;rw[<-hq] at a⊢;simp only at a;refine r7 ?_;refine n5 (D8 b s [32] e7 {P6 c with set:=d.1,a5S:=l,a5R:=t,how:=O,a5W:=q} {H3 with sa:=g,sc:=j} qb b7 qp) pre rfl (fun v h=>⟨by rw[a,h.1];rfl,h.2⟩) ?_;rintro v A ⟨e8,T,rfl,rfl⟩;refine w8 ?_;have b8:=D0 T x4;rw[T,z6] at a;refine A1 ?_;refine n5 (si b s e8 {P6 c with set:=d.1,a5S:=l,a5R:=t,how:=O,a5W:=q} {H3 with sa:=g,sc:=j} hs b8.2.2) pre rfl (fun v h=>⟨by rw[a,h.1];rfl,h.2⟩) ?_;rintro v A ⟨r9,a9,d9,h3,rfl,rfl⟩;refine O3 ?_;rw[h3,Qw] at a;exact m6 rfl (H9 b s r9.2 {P6 c with set:=d.1,a5S:=l,a5R:=t,how:=O,a5W:=q,a5Y:=r9.1} {H3 with sa:=g,sc:=j,fa:=a9,fc:=d9}::[V2 g d.1 j,A5 a9 r9.1 d9]) ⟨_,_,_,a,rfl,rfl,bg (.inr (.head _)) (.inl rfl) rfl (.inr (.tail _ (.head _)))⟩ fun w m=>y4.left tk m
theorem SQ(s:Bs)(p:Nat):([40]:Bs).isPrefixOf (s.drop p)=I1 s [40] p:=Pv (c:=40) qp
theorem DI(b:Nat)(s:Bs)(hs:s.length<=1000000000):su 214 b s (fun c p=>jC c s p):=fun c p hp=>by
 refine B8 23 func214 rfl rfl rfl ?_;intro F hg;obtain⟨W,a⟩:=o8 (jC (P6 c) s p);simp only;rw[<-a];unfold jC at a;refine r7 ?_;refine n5 (ed b s hs (P6 c) H3 p hp) pre rfl (fun v h=>⟨by rw[a,show I_ (P6 c) s p=none from h.1];rfl,h.2⟩) ?_;rintro v A ⟨y,d,rfl,rfl⟩;refine w8 ?_;replace d:I_ (P6 c) s p=some y:=d;have x:=ly hp d;obtain⟨w,z,rfl⟩:=cp d;rw[d,z6] at a;simp only at a x;refine r7 ?_;refine n5 (D8 b s [32] z {P6 c with box:=w} H3 qb x.2 qp) pre rfl (fun v h=>⟨by rw[a,h.1];rfl,h.2⟩) ?_;rintro v A ⟨l,f,rfl,rfl⟩;refine w8 ?_;have m:=D0 f x4;rw[f,z6] at a;refine r7 ?_;refine e_ (aO b s l {P6 c with box:=w} H3 qb m.2.2) pre ?_;rintro v A ⟨rfl,rfl⟩;refine c_ rfl (ah (s.drop l) [40]) qw rfl ?_;rw[SQ];refine w8 ?_;refine n7 (ι:=(List Bs×Option Addr×Nat)×Nat) (fun i=>i.2<=s.length/\W=(mH s i.2).map fun r=>({P6 c with box:=w,a5Y:=i.1.1,data:=r.1},r.2)) (fun i=>[(0,l9 b)]) (fun i=>[H9 b s i.2 {P6 c with box:=w,a5Y:=i.1.1} {H3 with fa:=i.1.2.1,fc:=i.1.2.2},A5 i.1.2.1 i.1.1 i.1.2.2]) ?_ ?_
 ·refine o9 rfl ?_ ?_<;>intro h
  ·rw[zg h] at a;refine A1 ?_;refine n5 (si b s l {P6 c with box:=w} H3 hs m.2.2) pre rfl (fun v h=>⟨by rw[a,h.1];rfl,h.2⟩) ?_;rintro v A ⟨o,a3,e,g,rfl,rfl⟩;refine O3 ?_;have C:=Ma m.2.2 g;rw[g,z6] at a;refine r7 ?_;refine n5 (D8 b s [32] o.2 {P6 c with box:=w,a5Y:=o.1} {H3 with fa:=a3,fc:=e} qb C.2.1 qp) pre rfl (fun v h=>⟨by rw[a,h.1];rfl,h.2⟩) ?_;rintro v A ⟨q,j,rfl,rfl⟩;refine w8 ?_;have n:=D0 j x4;rw[j,z6] at a;exact g_ ((o.1,a3,e),q) ⟨n.2.2,a⟩ (fun w k=>y4.left tk k)
  ·rw[zk (by rw[h];simp)] at a;refine w8 ?_;exact g_ (([],none,0),l) ⟨m.2.2,a⟩ (fun w k=>(k.addNil 9 1).perm (.swap _ _ _))
 rintro⟨⟨t,a3,e⟩,q⟩ ⟨n,a⟩;simp only at n a;refine A1 ?_;refine n5 (mi b s q {P6 c with box:=w,a5Y:=t} {H3 with fa:=a3,fc:=e} qb n) pre rfl (fun v h=>⟨by rw[a,h.1];rfl,h.2⟩) ?_;rintro v A ⟨r5,u,rfl,rfl⟩;refine O3 ?_;rw[u,Qw] at a;exact m6 rfl (H9 b s r5.2 {P6 c with box:=w,a5Y:=t,data:=r5.1} {H3 with fa:=a3,fc:=e}::[A5 a3 t e]) ⟨_,_,_,a,rfl,rfl,bg (.inl rfl) (.inl rfl) rfl (.inr (.head _))⟩ fun w k=>y4.left tk k
theorem ef:∀x∈cE,x.1≠[]/\x.1.length<=100/\x.2.1<=100:=yL qp
abbrev Ha(w:Bs)(q:Bool):List NW:=[(w++[91,93],10,q),(w++[91,72,69,65,68,69,82,93],11,q),(w++[91,84,69,88,84,93],12,q)]
theorem rk:Ct prog 287 [] (fun _=>True) [] (fun v A=>∃a c,v=.slice a 10 c/\A=[.own (.slice a 10 c) 371 6 (DB cE)]):=by
 refine b_ 41 func287 rfl rfl rfl ?_;intro F _;refine wk 9 ?_;refine x7 rfl rfl rfl rfl rfl rfl (xs:=DB (cE.take 4)) rfl rfl ?_;rintro z ⟨n,rfl⟩;refine xG ?_;refine x7 rfl rfl rfl rfl rfl rfl (xs:=[.bool false,.bool true]) rfl rfl ?_;rintro D ⟨b,rfl⟩;refine A1 ?_;refine o7 (ι:=Nat×Option Addr×Nat×List As) (fun i=>i.1<=2) (fun i=>[(1,.slice i.2.1 (cE.take (4+3*i.1)).length i.2.2.1),(14,.slice (some b) 2 2),(15,.int .i64 2),(16,.int .i64 (i.1:Nat))]) (fun i=>.own (.slice i.2.1 (cE.take (4+3*i.1)).length i.2.2.1) 371 6 (DB (cE.take (4+3*i.1)))::.own (.slice (some b) 2 2) 4 1 [.bool false,.bool true]::i.2.2.2) (fun i=>2-i.1) (0,some n,4,[]) x4 sub (fun w f=>y4.left tk f) ?_;rintro⟨j,a,c,Z⟩ J;simp only at J;refine R7 ?_ ?_<;>intro h
 ·have d:j<2:=by have:=qr h;omega
  obtain⟨q,o⟩:=o8 (α:=Bool) (decide (j=1));have p:j<([Value.bool false,Value.bool true]:List Value).length:=d;have M:([Value.bool false,Value.bool true]:List Value)[j]=.bool q:=by
   rcases kp.1 d with O|rfl
   ·obtain rfl:j=0:=(by omega);rw[o];rfl
   ·rw[o];rfl
  obtain⟨W,e⟩:=o8 (α:=Bs) (if q then[66,79,68,89,46,80,69,69,75] else[66,79,68,89]);have g:cE.take (4+3*j)++Ha W q=cE.take (4+3*(j+1)):=by
   rcases kp.1 d with O|rfl
   ·obtain rfl:j=0:=(by omega);rw[e,o];rfl
   ·rw[e,o];rfl
  have u:(cE.take (4+3*j)).length<=10:=by
   rw[z1];exact jd (Nat.min_le_right _ _) qp
  refine C7 ?_;refine f_ (m9 rfl ⟨b,rfl⟩ rfl qb) ?_;refine r_ (i8 rfl (fun w f=>cD (C:=fun v:Value=>[v]) (l:=[.bool false,.bool true]) (i:=j) (j:=0) (v:=.bool q) (f.ownN (t:=4) (a:=some b) ud).2.2.1 (fun _=>rfl) p (jy some M) x4)) ?_;refine E7 ?_;refine x8 [(1,.slice a (cE.take (4+3*j)).length c),(3,.bool q),(4,B W),(14,.slice (some b) 2 2),(15,.int .i64 2),(16,.int .i64 (j:Nat))] (.own (.slice a (cE.take (4+3*j)).length c) 371 6 (DB (cE.take (4+3*j)))::.own (.slice (some b) 2 2) 4 1 [.bool false,.bool true]::Z) ?_ ?_
  ·refine o9 rfl ?_ ?_<;>intro x
   ·refine r7 ?_;rw[x] at e⊢;rw[e];exact p9 sub i_
   ·refine w8 ?_;rw[x] at e⊢;rw[e];exact p9 sub i_
  have k:W.length<=9:=by rw[e];cases q<;>decide
  clear e;refine A1 ?_;refine f_ (G_ rfl rfl (by have:=k;simp only[zx,zn];omega)) ?_;refine r7 ?_;refine f_ ((y8 rfl (by rfl)).eq (v':=.agg (bR ⟨10,q,false,0,0⟩).toArray) rfl) ?_;refine f_ ((y8 rfl (by rfl)).eq (v':=.agg (DA (W++[91,93],10,q)).toArray) rfl) ?_;refine r7 ?_;refine f_ (G_ rfl rfl (by have:=k;simp only[zx,zn];omega)) ?_;refine r7 ?_;refine f_ ((y8 rfl (by rfl)).eq (v':=.agg (bR ⟨11,q,false,0,0⟩).toArray) rfl) ?_;refine f_ ((y8 rfl (by rfl)).eq (v':=.agg (DA (W++[91,72,69,65,68,69,82,93],11,q)).toArray) rfl) ?_;refine r7 ?_;refine f_ (G_ rfl rfl (by have:=k;simp only[zx,zn];omega)) ?_;refine r7 ?_;refine f_ ((y8 rfl (by rfl)).eq (v':=.agg (bR ⟨12,q,false,0,0⟩).toArray) rfl) ?_;refine f_ ((y8 rfl (by rfl)).eq (v':=.agg (DA (W++[91,84,69,88,84,93],12,q)).toArray) rfl) ?_;refine x7 (vs:=[(0,.agg (DA (W++[91,93],10,q)).toArray),(1,.agg (DA (W++[91,72,69,65,68,69,82,93],11,q)).toArray),(2,.agg (DA (W++[91,84,69,88,84,93],12,q)).toArray)]) rfl rfl rfl rfl rfl rfl (xs:=DB (Ha W q)) rfl rfl ?_;rintro a37 ⟨y,rfl⟩;refine w6 DA (l:=cE.take (4+3*j)) (m:=Ha W q) ue Md (by show((cE.take (4+3*j)).length+3)*48<=_;omega) ?_;intro r s _;refine r7 ?_;rw[g];refine C7 ?_;refine f_ ((p_ rfl rfl qb).eq (v':=.int .i64 ((j+1:Nat):Int)) (by congr 1)) ?_;refine r7 ?_;exact l6 (j+1,r,s,_::Z) qg qg sub (fun w f=>(tk (C:=[_,_,_])).hp f)
 ·have d:j=2:=by have:=zq h;omega
  subst d;refine L7 ?_;exact d_ rfl rfl [.own (.slice a 10 c) 371 6 (DB cE)] ⟨a,c,rfl,rfl⟩ (fun w f=>y4.left tk f)
theorem wo(b g:Nat)(s:Bs)(c:CM)(x:CL)(hs:s.length<=1000000000):ItK 286 cE b g s c x:=fun i p n hp=>by
 refine B8 4 func286 rfl rfl rfl ?_;intro F hg;refine w8 ?_;refine D2 [0] [1,2] [pB g b] 3 ?_;refine wd [0] ?_;refine h_ 1 rfl i6 ?_;refine e_ rk qw ?_;rintro v A ⟨a,d,rfl,rfl⟩;refine Y9 ?_;refine h_ 2 rfl i6 ?_;refine n5 (Rr:=[.own (.slice a 10 d) 371 6 (DB cE),pB g b]) (Bj b s p (isC c i) (Bk x i) cE a d hs hp ef qp qg) (fun h e ⟨o,f⟩=>⟨hg.le e,A3.rd f .del⟩) rfl (fun v h=>h) ?_;rintro v A ⟨r,j,k,l,rfl,rfl⟩;refine E6 [] ?_;exact m6 rfl _ ⟨(i.1++[r.1],j,k),r.2,⟨r,l,rfl,rfl⟩,rfl,rfl⟩ fun w m=>y4.left tk m
theorem Hb{c:CM}{s:Bs}{p:Nat}(h:I1 s rK p=true)(a:(dw s (p+15)).map (fun q=>({c with a5S:=q.1,a5R:=true},q.2))=none):vD c s p=none:=by unfold vD;rw[zg h];exact a
theorem Hc(b:Nat)(s:Bs)(hs:s.length<=1000000000):su 216 b s (fun c p=>cT c s p (aI s fun c e=>oD c s e)):=fun c p hp=>by
 refine B8 29 func216 rfl rfl rfl ?_;intro F hg;obtain⟨W,a⟩:=o8 (cT (P6 c) s p (aI s fun c e=>oD c s e));simp only;rw[<-a];unfold cT at a;refine r7 ?_;intro m;refine r7 ?_;refine n5 (D8 b s [32] p (P6 c) H3 qb hp qp) pre rfl (fun v h=>⟨by rw[a,h.1];rfl,h.2⟩) ?_;rintro v A ⟨e1,u,rfl,rfl⟩;refine w8 ?_;have b1:=D0 u x4;rw[u,z6] at a;refine w8 ?_;refine D2 [0,1] [2,6] [pB m b] 7 ?_;refine wd [0,1] ?_;refine h_ 2 rfl i6 ?_;refine n5 (jZ b s e1 (P6 c) H3 hs b1.2.2) pre rfl (fun v h=>⟨by rw[a,h.1];rfl,h.2⟩) ?_;rintro v A ⟨d,f,g,x,rfl,rfl⟩;refine fg [3,4,5,6] ?_;have b2:=jY b1.2.2 x;rw[x,z6] at a;unfold aI at a;simp only at a;refine r7 ?_;refine n5 (D8 b s [32] d.2 {P6 c with set:=d.1} {H3 with sa:=f,sc:=g} qb b2.2.1 qp) pre rfl (fun v h=>⟨by rw[a,h.1];rfl,h.2⟩) ?_;rintro v A ⟨o,y,rfl,rfl⟩;refine w8 ?_;have T:=D0 y x4;rw[y,z6] at a;unfold oD at a;refine E7 ?_;refine e_ (S7 b s [40] o {P6 c with set:=d.1} {H3 with sa:=f,sc:=g} qb T.2.2 qp) pre ?_;rintro v A ⟨rfl,rfl⟩;refine w8 ?_;refine O8 129 5 ?_;refine n7 (ι:=IS×Nat) (fun i=>i.2<=s.length/\W=vD {P6 c with set:=d.1,a5Q:=i.1.1} s i.2) (fun i=>[(1,l9 m)]) (fun i=>H9 b s i.2 (isC {P6 c with set:=d.1} i.1) (Bk {H3 with sa:=f,sc:=g} i.1)::bM i.1.2.1 i.1.1 i.1.2.2::[pB m b,V2 f d.1 g]) ?_ ?_
 ·refine o9 rfl ?_ ?_<;>intro h
  ·rw[zg h,wm] at a;have z:=eS (w:=[40]) T.2.2;rw[show H5 s [40] o=o+1 from by unfold H5;rw[h];rfl] at z⊢;refine A1 ?_;refine n5 (nu b s hs 286 [l9 m] Gl (isC {P6 c with set:=d.1}) (Bk {H3 with sa:=f,sc:=g}) (Uf m b) (fun i p=>i.1.length<=p) (Mf cE s) (fun _ p=>cR cE s p=none) (Bl ef) (fun _ _ h=>by omega) (wo b m s _ _ hs) ([],none,0) (o+1) (zw _) z) pre rfl (fun v h=>⟨by rw[a,so (dg ef s) z h.1];rfl,h.2⟩) ?_;rintro v A ⟨n,i,p3,D,U,rfl,rfl⟩;obtain⟨l,J,M,hm⟩:=sm (dg ef s) z D U;rw[px,j8] at M;rw[hm,z6] at a;obtain⟨q,V⟩:∃q,q=decide (n<=8):=⟨_,rfl⟩;refine f_ ((G4 rfl rfl).eq (v':=.bool q) (qn ((qz).trans V.symm))) ?_;refine n5 (G9 q) qw rfl (fun v h=>⟨by rw[a,zk (by rw[J];exact zq (V.symm.trans h.1))];rfl,h.2⟩) ?_;rintro v A ⟨X,rfl,rfl⟩;refine w8 ?_;rw[zg (by rw[J];exact qr (V.symm.trans X))] at a;have r:=nv (dg ef s) z D;refine r7 ?_;refine n5 (D8 b s [41] p3 (isC {P6 c with set:=d.1} i) (Bk {H3 with sa:=f,sc:=g} i) qb r.2 qp) pre rfl (fun v h=>⟨by rw[a,h.1];rfl,h.2⟩) ?_;rintro v A ⟨e4,O,rfl,rfl⟩;refine w8 ?_;have Q:=D0 O x4;rw[O,<-M] at a;exact g_ (i,e4) ⟨Q.2.2,a⟩ (fun w j=>y4.left tk j)
  ·rw[zk (by rw[h];simp)] at a;rw[show H5 s [40] o=o from by unfold H5;rw[h];rfl];refine r7 ?_;refine kV (ps:=[]) [V2 f d.1 g] rfl rfl rfl (wo b m s {P6 c with set:=d.1} {H3 with sa:=f,sc:=g} hs ([],none,0) o (zw _) T.2.2) (fun w j=>(tk (C:=[_,_,_])).hp j) pre rfl rfl (l8.le_refl _) (fun v h=>⟨by rw[a,h.1];rfl,h.2⟩) ?_;rintro v A ⟨i,p3,S,rfl,rfl⟩;refine w8 ?_;obtain⟨q,h1,h2,rfl⟩:=S;rw[h1,Qw,z6] at a;have r:=dg ef s _ _ T.2.2 h1;exact g_ (i,q.2) ⟨r.2,by rw[show i.1=[q.1] from h2];exact a⟩ (fun w j=>y4.left tk j)
 rintro⟨i,t⟩ ⟨r,a⟩;simp only at r a;refine r7 ?_;refine e_ (S7 b s rK t (isC {P6 c with set:=d.1} i) (Bk {H3 with sa:=f,sc:=g} i) qb r qp) pre ?_;rintro v A ⟨rfl,rfl⟩;refine O0 ?_ ?_<;>intro h
 ·have Q:=eS (w:=rK) r;rw[show H5 s rK t=t+15 from by unfold H5;rw[h];rfl] at Q⊢;refine r7 ?_;refine n5 (wl b s hs (isC {P6 c with set:=d.1} i) (Bk {H3 with sa:=f,sc:=g} i) (t+15) Q) pre rfl (fun v k=>⟨by rw[a];exact Hb h k.1,k.2⟩) ?_;rintro v A ⟨r6,Y,rfl,rfl⟩;refine w8 ?_;obtain⟨n6,e6,Z,rfl,b7⟩:=py Q Y;exact m6 rfl (H9 b s e6 {isC {P6 c with set:=d.1} i with a5S:=n6,a5R:=true} (Bk {H3 with sa:=f,sc:=g} i)::[bM i.2.1 i.1 i.2.2,V2 f d.1 g]) ⟨_,_,_,by rw[a];unfold vD;rw[zg h,Z];rfl,rfl,rfl,bg (.inr (.tail _ (.head _))) (.inr (.head _)) rfl (.inl rfl)⟩ fun w j=>y4.left tk j
 ·rw[show H5 s rK t=t from by unfold H5;rw[h];rfl];refine w8 ?_;exact m6 rfl (H9 b s t (isC {P6 c with set:=d.1} i) (Bk {H3 with sa:=f,sc:=g} i)::[bM i.2.1 i.1 i.2.2,V2 f d.1 g]) ⟨_,_,_,by rw[a];unfold vD;rw[zk (by rw[h];simp)],rfl,rfl,bg (.inr (.tail _ (.head _))) (.inr (.head _)) rfl (.inl rfl)⟩ fun w j=>y4.left tk j
structure KA where
 l:List KM
 a:Option Addr
 c:Nat
abbrev KA.own(y:KA):As:=a1w y.a y.l y.c
structure KT where
 y:KA
 D:List KA
 S:List As
abbrev pz(c:CM)(t:KT):CM:={c with keys:=t.y.l.map KM.k}
abbrev ny(x:CL)(t:KT):CL:={x with ka:=t.y.a,kc:=t.y.c}
abbrev wq(t:KT):List As:=t.y.own::(t.D.map KA.own++t.S)
structure wr(t:KT):Prop where
 len:t.y.l.length<=32
 set:∀m∈t.y.l,EQ m.k
 own:∀m∈t.y.l,m.k.set=[]\/V2 m.a m.k.set m.c∈t.S
def KA.le(x y:KA):Prop:=y.a=x.a/\y.c=x.c/\x.l.length<=y.l.length
inductive mQ:List KA->List KA->Prop
 |nil:mQ [] []
 |cons {x y:KA} {l m:List KA}:x.le y->mQ l m->mQ (x::l) (y::m)
theorem mQ.refl:∀l:List KA,mQ l l
 |[]=>.nil
 |x::l=>.cons ⟨rfl,rfl,zr _⟩ (mQ.refl l)
theorem mQ.trans{a b c:List KA}(h:mQ a b)(k:mQ b c):mQ a c:=by
 induction h generalizing c with
 |nil=>exact k
 |cons h _ ih=>
  cases k with
  |cons k1 k2=>exact .cons ⟨k1.1.trans h.1,k1.2.1.trans h.2.1,jd h.2.2 k1.2.2⟩ (ih k2)
theorem mQ.split{a b N:List KA}:∀{M:List KA},mQ (M++a) b->∃N B,b=N++B/\mQ a B
 |[],h=>⟨[],b,rfl,h⟩
 |m::M,h=>by
  cases h with
  |cons h1 h2=>
   obtain⟨N,B,e,k⟩:=mQ.split (N:=[]) h2;exact⟨_::N,B,by rw[e];rfl,k⟩
structure cI(t u:KT):Prop where
 len:t.y.l.length<=u.y.l.length
 arr:∃N B,u.y::u.D=N++B/\mQ (t.y::t.D) B
 rest:∃T,u.S=T++t.S
theorem cI.refl(t:KT):cI t t:=⟨zr _,⟨[],_,rfl,mQ.refl _⟩,⟨[],rfl⟩⟩
theorem cI.trans{t u v:KT}(h:cI t u)(k:cI u v):cI t v:=by
 refine⟨jd h.len k.len,?_,?_⟩
 ·obtain⟨N,B,e,d⟩:=h.arr;obtain⟨f,m,b,a⟩:=k.arr;rw[e] at a;obtain⟨g,i,j,c⟩:=mQ.split (N:=[]) a;exact⟨f++g,i,by rw[b,j,zm],d.trans c⟩
 ·obtain⟨T,e⟩:=h.rest;obtain⟨l,b⟩:=k.rest;exact⟨l++T,by rw[b,e,zm]⟩
abbrev Rg(b:Nat)(s:Bs)(p:Nat)(c:CM)(x:CL)(n:Nat)(ka:Option Addr)(kc:Nat):As:=.blk b (.cells #[B s,.int .i64 (p:Nat),B c.tag,.int .i64 (c.kind:Nat),.bool c.uid,.bool c.cond,B c.box,B c.user,B c.pass,B c.a5U,.slice x.sa c.set.length x.sc,.slice x.ia c.a5Q.length x.ic,.slice ka n kc,.int .i64 (c.how:Nat),.bool c.a5W,.bool c.a5R,.int .u64 (c.a5S:Nat),.slice x.fa c.a5Y.length x.fc,B c.data] 211)
theorem eT(b:Nat)(s:Bs)(p:Nat)(c:CM)(x:CL)(t:KT):H9 b s p (pz c t) (ny x t)=Rg b s p c x t.y.l.length t.y.a t.y.c:=by
 unfold H9 Rg pz ny;rw[zh]
abbrev SR(b:Nat)(s:Bs)(p:Nat)(c:CM)(x:CL)(t:KT)(m:KM)(v:Value)(A:List As):Prop:=∃u:KT,v=.int .i64 (t.y.l.length:Nat)/\A=H9 b s p (pz c u) (ny x u)::wq u/\cI t u/\u.S=t.S/\u.y.l=t.y.l++[m]/\t.y.l.length<32
theorem eU(b:Nat)(s:Bs)(p:Nat)(c:CM)(x:CL)(t:KT)(m:KM)(hl:t.y.l.length<=32):Cx prog 343 [l9 b,.agg (aJ m).toArray] (fun _=>True) (H9 b s p (pz c t) (ny x t)::wq t) (SR b s p c x t m) (fun v=>v=N1):=by
 refine B8 32 func343 rfl rfl rfl ?_;intro F _;rw[eT];refine r7 ?_;intro e;refine wk 7 ?_;obtain⟨q,g⟩:∃q,q=decide (t.y.l.length<32):=⟨_,rfl⟩;refine f_ ((F6 rfl rfl).eq (v':=.bool q) (qn ((qz).trans g.symm))) ?_;refine n5 (G9 q) qw rfl (fun v h=>h.2) ?_;rintro v A ⟨f,rfl,rfl⟩;refine w8 ?_;have d:t.y.l.length<32:=qr (g.symm.trans f);have i:(t.y.l++[m]).length=t.y.l.length+1:=by simp
 have j:qI (t.y.l++[m])=qI t.y.l++aJ m:=by simp
 by_cases hroom:t.y.l.length+1<=t.y.c
 ·refine w8 ?_;refine D2 [5,6] [7,8,12] [.blk e (.cells (aJ m).toArray 127),Rg b s p c x t.y.l.length t.y.a t.y.c] 13 ?_;refine wd [0,1,2,3,4,5,6] ?_;refine h_ 7 rfl i6 ?_;refine C4 aJ m rfl ?_;rintro k-;refine Y9 ?_;refine h_ 8 rfl i6 ?_;refine fy (n:=t.y.l.length) (m:=1) (xs:=qI t.y.l) (news:=aJ m) rfl rfl uh (fun w a=>(a.ownN ud).2.2.1) rfl rfl (Aw m) hroom rfl ?_;refine E6 [9,10,11,12] ?_;refine NP ?_;exact d_ rfl rfl _ ⟨⟨⟨t.y.l++[m],t.y.a,t.y.c⟩,t.D,t.S⟩,by congr 1;omega,rfl,⟨by simp,⟨[],_,rfl,.cons ⟨rfl,rfl,by simp⟩ (mQ.refl _)⟩,[],rfl⟩,rfl,rfl,d⟩ (fun w a=>by
   rw[eT];show Hp _ _ (Rg b s p c x (t.y.l++[m]).length _ _::.own (.slice _ (t.y.l++[m]).length _) _ 6 (qI (t.y.l++[m]))::(t.D.map KA.own++t.S));rw[i,j];exact a.drop.drop)
 ·refine w8 ?_;refine D2 [5,6] [7,8,12] [.blk e (.cells (aJ m).toArray 127),Rg b s p c x t.y.l.length t.y.a t.y.c] 13 ?_;refine wd [0,1,2,3,4,5,6] ?_;refine h_ 7 rfl i6 ?_;refine C4 aJ m rfl ?_;rintro k-;refine Y9 ?_;refine h_ 8 rfl i6 ?_;refine fE (n:=t.y.l.length) (m:=1) (xs:=qI t.y.l) (news:=aJ m) rfl rfl ud (fun w a=>(a.ownN ud).2.2.1) rfl rfl rfl (by show _*80<=_;omega) qb hroom qb rfl ?_;intro l o r;refine E6 [9,10,11,12] ?_;refine NP ?_;exact d_ rfl rfl _ ⟨⟨⟨t.y.l++[m],some ⟨l,0,none⟩,o⟩,t.y::t.D,t.S⟩,by congr 1;omega,rfl,⟨by simp,⟨[_],_,rfl,mQ.refl _⟩,[],rfl⟩,rfl,rfl,d⟩ (fun w a=>by
   rw[eT];show Hp _ _ (Rg b s p c x (t.y.l++[m]).length _ _::.own (.slice _ (t.y.l++[m]).length _) _ 6 (qI (t.y.l++[m]))::t.y.own::(t.D.map KA.own++t.S));rw[i,j];exact((tk (C:=[As.own (.slice k _ _) _ _ _,As.blk e _])).hp a).drop.drop.perm (.swap _ _ _))
theorem pA(s:Bs)(hs:s.length<=140737488355328)(h:∀c∈s,c.toNat<128):Pu prog 417 [B s] (fun _=>True) (B (s.map Lib.lowerB)):=dQ fun w _=>
 Tryz.strings_ToLower_ascii ⟨s.toArray⟩ w hs fun j b a=>h b (J8 a)
theorem Hd(s:Bs)(hs:s.length<=1000000000000):Ct prog 418 [B s] (fun _=>True) [] (fun v A=>A=[]/\∃q:Bool,v=.bool q/\(q=true->∀c∈s,c.toNat<128)):=by
 refine b_ 33 func418 rfl rfl rfl ?_;intro F _;refine O3 ?_;refine o7 (ι:=Nat) (fun i=>i<=s.length/\∀c∈s.take i,c.toNat<128) (fun i=>[(0,B s),(5,.int .i64 (s.length:Nat)),(6,.int .i64 (i:Nat))]) (fun _=>[]) (fun i=>s.length-i) 0 ⟨zw _,by simp⟩ sub i_ ?_;rintro i ⟨x,hc⟩;refine R7 ?_ ?_<;>intro h
 ·have a:i<s.length:=by have:=qr h;omega
  refine A1 ?_;obtain⟨l,m⟩:=o8 (decide (((s.getD i 0).toNat:Int)<33));obtain⟨j,d⟩:=o8 (decide (((s.getD i 0).toNat:Int)>126));obtain⟨r,n⟩:=o8 (decide (((s.getD i 0).toNat:Int)=58));refine x8 [(0,B s),(5,.int .i64 (s.length:Nat)),(6,.int .i64 (i:Nat)),(24,.bool (l||j||r))] [] ?_ ?_
  ·cases l<;>cases j
   all_goals (
    refine A1 ?_;refine f_ ((A7 rfl rfl qb).eq (v':=U8 (s.getD i 0)) (by simp only[jh])) ?_;refine f_ ((F6 rfl rfl).eb m) ?_;refine E7 ?_;(first|refine u_ ?_|(refine v_ ?_;refine f_ ((A7 rfl rfl qb).eq (v':=U8 (s.getD i 0)) (by simp only[jh])) ?_));(first|refine u_ ?_|(refine v_ ?_;refine f_ ((E2 rfl rfl).eb d) ?_));refine O3 ?_;(first|refine u_ ?_|(refine v_ ?_;refine f_ ((A7 rfl rfl qb).eq (v':=U8 (s.getD i 0)) (by simp only[jh])) ?_));(first|refine u_ ?_|(refine v_ ?_;refine f_ ((p7 rfl rfl).eb n) ?_));refine r7 ?_)
   all_goals exact p9 sub i_
  refine O0 ?_ ?_<;>intro t
  ·refine C5 ?_;exact d_ rfl rfl [] ⟨rfl,_,rfl,fun k=>by cases k⟩ i_
  ·refine A1 ?_;have u:j=false:=(by cases l<;>cases j<;>simp at t⊢);have p:(s.getD i 0).toNat<128:=(by have:=zq (d.symm.trans u);omega);refine l6 (i+1) ⟨a,fun c e=>?_⟩ qb sub i_;rw[List.take_add_one] at e;rcases zb.1 e with f|f
   ·exact hc c f
   ·rw[zj a] at f;simp at f;rw[zd,zj a] at p;rw[f];exact p
 ·have g:∀c∈s,c.toNat<128:=by
   have:=zq h;rw[jq qb] at hc;exact hc
  refine w8 ?_;obtain⟨w,o⟩:=o8 (decide (s=[]));refine n7 (ι:=Bool) (fun _=>True) (fun q=>[(2,.bool q)]) (fun _=>[]) ?_ ?_
  ·cases w
   all_goals (
    refine r7 ?_;refine f_ ((E8 rfl rfl).eq (jy (fun b=>Value.bool (!b)) o.symm)) ?_;refine aq ?_)
   all_goals exact g_ _ trivial i_
  rintro q-;refine ox ?_;exact d_ rfl rfl [] ⟨rfl,_,rfl,fun _=>g⟩ i_
theorem pC{w l:Bs}(h:decide (w=l)=true)(hl:2<=l.length):2<=w.length:=by rw[qr h];exact hl
abbrev a1C(k:KY):Prop:=k.set=[]/\k.text.length<=2000000000/\k.field.length<=2000000000/\k.kids=0
abbrev SS(b:Nat)(s:Bs)(p:Nat)(c:CM)(x:CL)(v:Value)(A:List As):Prop:=∃(k:KY) (p':Nat),p<=p'/\p'<=s.length/\a1C k/\v=.agg (aJ ⟨k,none,0⟩).toArray/\A=[H9 b s p' c x]
theorem yM{s:Bs}:((E3 s).getD []).length<=32:=by
 cases h:E3 s with
 |none=>simp
 |some f=>exact sh h
theorem Mg(b:Nat)(s:Bs)(w:Bs)(p:Nat)(c:CM)(x:CL)(hs:s.length<=1000000000)(hp:p<=s.length)(d:w.length<=1000000000)(ha:∀c∈w,c.toNat<128):Cx prog 393 [l9 b,B w] Gl [H9 b s p c x] (SS b s p c x) (fun v=>v=N1):=by
 refine B8 112 func393 rfl rfl rfl ?_;intro F hg;refine r7 ?_;intro f;refine E7 ?_;refine n7 (ι:=Bool) (fun _=>True) (fun q=>[(0,l9 b),(1,B w),(4,l9 f),(13,B w),(14,.bool q)]) (fun _=>[.blk f (.cells (aJ ⟨Ar,none,0⟩).toArray 127),H9 b s p c x]) ?_ ?_
 ·refine o9 rfl ?_ ?_<;>intro h
  ·refine w8 ?_;exact g_ _ trivial i_
  refine bA ?_ ?_<;>intro h
  ·refine w8 ?_;exact g_ _ trivial i_
  refine bA ?_ ?_<;>intro h
  ·refine w8 ?_;exact g_ _ trivial i_
  refine bA ?_ ?_<;>intro h
  ·refine w8 ?_;exact g_ _ trivial i_
  refine A1 ?_;exact g_ _ trivial i_
 rintro q-;refine O0 ?_ ?_<;>intro h
 ·refine A1 ?_;refine c_ rfl (dZ _ (by show(92::w).length<=_;unfold lr;simp;omega)) qw rfl ?_;refine aq ?_;refine f_ ((y8 rfl rfl).eq (v':=.agg (aJ ⟨⟨7,0,(E3 (92::w)).getD [],[],1,[]⟩,none,0⟩).toArray) rfl) ?_;refine C5 ?_;exact G7 rfl rfl ud rfl [H9 b s p c x] ⟨_,p,zr _,hp,⟨rfl,by simp,jd yM qb,rfl⟩,rfl,rfl⟩ (fun w d=>y4.left tk d)
 refine A1 ?_;refine n7 (ι:=Bool) (fun q=>q=true->2<=w.length) (fun q=>[(0,l9 b),(1,B w),(4,l9 f),(13,B w),(28,.bool q)]) (fun _=>[.blk f (.cells (aJ ⟨Ar,none,0⟩).toArray 127),H9 b s p c x]) ?_ ?_
 ·refine o9 rfl ?_ ?_<;>intro h
  ·refine w8 ?_;exact g_ _ (fun _=>pC h qp) i_
  refine bA ?_ ?_<;>intro h
  ·refine w8 ?_;exact g_ _ (fun _=>pC h qp) i_
  refine bA ?_ ?_<;>intro h
  ·refine w8 ?_;exact g_ _ (fun _=>pC h qp) i_
  refine bA ?_ ?_<;>intro h
  ·refine w8 ?_;exact g_ _ (fun _=>pC h qp) i_
  refine A1 ?_;exact g_ (decide (w=[85,78,68,82,65,70,84])) (fun k=>pC k qp) i_
 rintro q m;refine O0 ?_ ?_<;>intro h
 ·have Q:=m h;refine r7 ?_;refine f_ ((H6 rfl rfl rfl qb).eq (v':=B (w.drop 2)) (by rw[jq (by rw[z8];omega)];rfl)) ?_;refine r7 ?_;refine c_ rfl (dZ _ (by show(92::w.drop 2).length<=_;unfold lr;simp;omega)) qw rfl ?_;refine aq ?_;refine f_ ((y8 rfl rfl).eq (v':=.agg (aJ ⟨⟨7,0,(E3 (92::w.drop 2)).getD [],[],0,[]⟩,none,0⟩).toArray) rfl) ?_;refine C5 ?_;exact G7 rfl rfl ud rfl [H9 b s p c x] ⟨_,p,zr _,hp,⟨rfl,by simp,jd yM qb,rfl⟩,rfl,rfl⟩ (fun w d=>y4.left tk d)
 refine r7 ?_;refine n5 (D8 b s [32] p c x qb hp qp) pre rfl (fun v h=>h.2) ?_;rintro v A ⟨g,o,rfl,rfl⟩;refine w8 ?_;have D:=D0 o x4;simp only[jc] at D;refine E7 ?_;refine n7 (ι:=Bool) (fun _=>True) (fun q=>[(0,l9 b),(1,B w),(4,l9 f),(45,B w),(46,.bool q)]) (fun _=>[.blk f (.cells (aJ ⟨Ar,none,0⟩).toArray 127),H9 b s g c x]) ?_ ?_
 ·refine o9 rfl ?_ ?_<;>intro h
  ·refine w8 ?_;exact g_ _ trivial (fun w d=>y4.left tk d)
  refine A1 ?_;exact g_ _ trivial (fun w d=>y4.left tk d)
 rintro q-;refine O0 ?_ ?_<;>intro h
 ·refine r7 ?_;refine n5 (AV b s g c x qb qb) pre rfl (fun v h=>h.2) ?_;rintro v A ⟨a,e,rfl,rfl⟩;have i:=Bi qb e;refine c_ rfl (dZ _ (by unfold lr;omega)) qw rfl ?_;refine aq ?_;refine n5 (G9 _) qw rfl (fun v h=>h.2) ?_;rintro v A ⟨r,rfl,rfl⟩;refine r7 ?_;refine f_ ((y8 rfl rfl).eq (v':=.agg (aJ ⟨⟨7,0,(E3 a.1).getD [],[],0,[]⟩,none,0⟩).toArray) rfl) ?_;refine r7 ?_;intro j;refine E7 ?_;refine n7 (ι:=Nat) (fun _=>True) (fun _=>[(0,l9 b),(1,B w),(4,l9 f),(11,l9 j)]) (fun n=>[.blk j (.cells (aJ ⟨⟨7,0,(E3 a.1).getD [],[],n,[]⟩,none,0⟩).toArray 127),.blk f (.cells (aJ ⟨Ar,none,0⟩).toArray 127),H9 b s a.2 c x]) ?_ ?_
  ·refine o9 rfl ?_ ?_<;>intro h
   ·refine A1 ?_;exact g_ 1 trivial (fun w d=>y4.left tk d)
   ·refine w8 ?_;exact g_ 0 trivial (fun w d=>y4.left tk d)
  rintro n-;refine C7 ?_;refine r_ ((lT rfl ud (by rfl)).eq (v':=.agg (aJ ⟨⟨7,0,(E3 a.1).getD [],[],n,[]⟩,none,0⟩).toArray) rfl) ?_;refine C5 ?_;exact G7 rfl rfl ud rfl [H9 b s a.2 c x] ⟨_,a.2,by omega,by omega,⟨rfl,by simp,jd yM qb,rfl⟩,rfl,rfl⟩ (fun w d=>y4.left tk d)
 refine bA ?_ ?_<;>intro h
 ·refine r7 ?_;refine n5 (X_ b s 9223372036854775807 g c x qb qb qp) pre rfl (fun v h=>h.2) ?_;rintro v A ⟨a,e,rfl,rfl⟩;refine f_ ((y8 rfl rfl).eq (v':=.agg (aJ ⟨⟨8,0,[],[],a.1,[]⟩,none,0⟩).toArray) rfl) ?_;refine r7 ?_;have i:=cn qb e;refine A4 ?_;exact G7 rfl rfl ud rfl [H9 b s a.2 c x] ⟨_,a.2,by omega,by omega,⟨rfl,by simp,by simp,rfl⟩,rfl,rfl⟩ (fun w d=>y4.left tk d)
 refine bA ?_ ?_<;>intro h
 ·refine r7 ?_;refine n5 (X_ b s 9223372036854775807 g c x qb qb qp) pre rfl (fun v h=>h.2) ?_;rintro v A ⟨a,e,rfl,rfl⟩;refine f_ ((y8 rfl rfl).eq (v':=.agg (aJ ⟨⟨9,0,[],[],a.1,[]⟩,none,0⟩).toArray) rfl) ?_;refine r7 ?_;have i:=cn qb e;refine A4 ?_;exact G7 rfl rfl ud rfl [H9 b s a.2 c x] ⟨_,a.2,by omega,by omega,⟨rfl,by simp,by simp,rfl⟩,rfl,rfl⟩ (fun w d=>y4.left tk d)
 refine bA ?_ ?_<;>intro h
 ·refine r7 ?_;refine n5 (X_ b s 9223372036854775807 g c x qb qb qp) pre rfl (fun v h=>h.2) ?_;rintro v A ⟨a,e,rfl,rfl⟩;refine f_ ((y8 rfl rfl).eq (v':=.agg (aJ ⟨⟨10,0,[],[],a.1,[]⟩,none,0⟩).toArray) rfl) ?_;refine r7 ?_;have i:=cn qb e;refine A4 ?_;exact G7 rfl rfl ud rfl [H9 b s a.2 c x] ⟨_,a.2,by omega,by omega,⟨rfl,by simp,by simp,rfl⟩,rfl,rfl⟩ (fun w d=>y4.left tk d)
 refine bA ?_ ?_<;>intro h
 ·refine r7 ?_;refine n5 (R3 b s g c x qb qb) pre rfl (fun v h=>h.2) ?_;rintro v A ⟨a,e,rfl,rfl⟩;refine f_ ((y8 rfl rfl).eq (v':=.agg (aJ ⟨⟨11,0,[],a.1,0,[]⟩,none,0⟩).toArray) rfl) ?_;refine r7 ?_;have i:=df qb e;refine A4 ?_;exact G7 rfl rfl ud rfl [H9 b s a.2 c x] ⟨_,a.2,by omega,by omega,⟨rfl,by simp only;omega,by simp,rfl⟩,rfl,rfl⟩ (fun w d=>y4.left tk d)
 refine bA ?_ ?_<;>intro h
 ·refine r7 ?_;refine n5 (R3 b s g c x qb qb) pre rfl (fun v h=>h.2) ?_;rintro v A ⟨a,e,rfl,rfl⟩;refine f_ ((y8 rfl rfl).eq (v':=.agg (aJ ⟨⟨12,0,[],a.1,0,[]⟩,none,0⟩).toArray) rfl) ?_;refine r7 ?_;have i:=df qb e;refine A4 ?_;exact G7 rfl rfl ud rfl [H9 b s a.2 c x] ⟨_,a.2,by omega,by omega,⟨rfl,by simp only;omega,by simp,rfl⟩,rfl,rfl⟩ (fun w d=>y4.left tk d)
 refine A1 ?_;refine n7 (ι:=Bool) (fun _=>True) (fun q=>[(0,l9 b),(1,B w),(4,l9 f),(45,B w),(88,.bool q)]) (fun _=>[.blk f (.cells (aJ ⟨Ar,none,0⟩).toArray 127),H9 b s g c x]) ?_ ?_
 ·refine o9 rfl ?_ ?_<;>intro h
  ·refine w8 ?_;exact g_ _ trivial (fun w d=>y4.left tk d)
  refine bA ?_ ?_<;>intro h
  ·refine w8 ?_;exact g_ _ trivial (fun w d=>y4.left tk d)
  refine A1 ?_;exact g_ _ trivial (fun w d=>y4.left tk d)
 rintro q-;refine O0 ?_ ?_<;>intro h
 ·refine r7 ?_;refine c_ rfl (pA w qb ha) qw rfl ?_;refine r7 ?_;refine n5 (R3 b s g c x qb qb) pre rfl (fun v h=>h.2) ?_;rintro v A ⟨a,e,rfl,rfl⟩;refine f_ ((y8 rfl rfl).eq (v':=.agg (aJ ⟨⟨13,0,w.map Lib.lowerB,a.1,0,[]⟩,none,0⟩).toArray) rfl) ?_;refine r7 ?_;have i:=df qb e;refine A4 ?_;exact G7 rfl rfl ud rfl [H9 b s a.2 c x] ⟨_,a.2,by omega,by omega,⟨rfl,by simp only;omega,by simp only[zh];omega,rfl⟩,rfl,rfl⟩ (fun w d=>y4.left tk d)
 refine A1 ?_;refine n5 (G9 _) qw rfl (fun v h=>h.2) ?_;rintro v A ⟨r,rfl,rfl⟩;refine r7 ?_;refine n5 (R3 b s g c x qb qb) pre rfl (fun v h=>h.2) ?_;rintro v A ⟨a,e,rfl,rfl⟩;refine r7 ?_;have i:=df qb e;refine r7 ?_;refine e_ (Hd a.1 qb) qw ?_;rintro v A ⟨rfl,J,rfl,t⟩;refine n5 (G9 J) qw rfl (fun v h=>h.2) ?_;rintro v A ⟨l,rfl,rfl⟩;refine w8 ?_;have u:=t l;refine r7 ?_;refine n5 (D8 b s [32] a.2 c x qb qb qp) pre rfl (fun v h=>h.2) ?_;rintro v A ⟨M,y,rfl,rfl⟩;refine w8 ?_;have O:=D0 y x4;simp only[jc] at O;refine r7 ?_;refine c_ rfl (pA a.1 qb u) qw rfl ?_;refine r7 ?_;refine n5 (R3 b s M c x qb qb) pre rfl (fun v h=>h.2) ?_;rintro v A ⟨z,C,rfl,rfl⟩;refine f_ ((y8 rfl rfl).eq (v':=.agg (aJ ⟨⟨13,0,a.1.map Lib.lowerB,z.1,0,[]⟩,none,0⟩).toArray) rfl) ?_;refine r7 ?_;have S:=df qb C;refine A4 ?_;exact G7 rfl rfl ud rfl [H9 b s z.2 c x] ⟨_,z.2,by omega,by omega,⟨rfl,by simp only;omega,by simp only[zh];omega,rfl⟩,rfl,rfl⟩ (fun w d=>y4.left tk d)
abbrev a1D(b:Nat)(s:Bs)(p:Nat)(c:CM)(x:CL)(t:KT)(v:Value)(A:List As):Prop:=∃(u:KT) (p':Nat),p<=p'/\p'<=s.length/\v=.tuple #[]/\A=H9 b s p' (pz c u) (ny x u)::wq u/\cI t u/\wr u
abbrev rm(f:FuncId)(b:Nat)(s:Bs)(deep:Nat):Prop:=∀(p:Nat) (c:CM) (x:CL) (t:KT),p<=s.length->wr t->Cx prog f [l9 b,.int .i64 (deep:Nat)] Gl (H9 b s p (pz c t) (ny x t)::wq t) (a1D b s p c x t) (fun v=>v=N1)
theorem cq{t u:KT}{m:KM}(h:wr t)(hs:u.S=t.S)(hl:u.y.l=t.y.l++[m])(c:t.y.l.length<32)(d:EQ m.k)(e:m.k.set=[]\/V2 m.a m.k.set m.c∈t.S):wr u:=by
 refine⟨by rw[hl,zz,jc];omega,fun k b=>?_,fun k b=>?_⟩
 ·rw[hl] at b;rcases zb.1 b with a|a
  ·exact h.set k a
  ·rw[zu.1 a];exact d
 ·rw[hl] at b;rw[hs];rcases zb.1 b with a|a
  ·exact h.own k a
  ·rw[zu.1 a];exact e
theorem Mh:vQ 392 dS:=fun c=>by
 obtain⟨a,b⟩:=o8 (decide (65<=(rG c).toNat));obtain⟨f,d⟩:=o8 (decide ((rG c).toNat<=90));have e:dS c=(a&&f):=by rw[b,d];exact yK (p:=dS) (q:=fun c=>decide (65<=(rG c).toNat)&&decide ((rG c).toNat<=90)) (by decide+kernel) c
 rw[e];refine b_ 11 func392 rfl rfl rfl ?_;intro F _;refine r7 ?_
 cases a
 all_goals (
  refine r7 ?_;refine c_ rfl (I4 [c] x4) qw rfl ?_;refine f_ ((kZ rfl rfl).eq (qn ((show(!Op.bytesLess [rG c] [65])=decide (65<=(rG c).toNat) from by rw[lu,<-decide_not];congr 1;simp).trans b.symm))) ?_;refine A1 ?_;(first|refine u_ ?_|(refine v_ ?_;refine c_ rfl (I4 [c] x4) qw rfl ?_));(first|refine u_ ?_|(refine v_ ?_;refine f_ ((ld rfl rfl).eq (qn (rS.trans d.symm))) ?_));refine A1 ?_)
 all_goals (refine A4 ?_;exact d_ rfl rfl [] qh i_)
theorem DJ{s:Bs}{p:Nat}:∀c∈R9 (N8 dS s p),c.toNat<128:=fun c hc=>by
 obtain⟨d,a,rfl⟩:=jv.1 hc;have b:dS d=true:=Qv.1 List.all_takeWhile d a;have:=yK (p:=fun d=>!dS d||decide ((rG d).toNat<128)) (q:=fun _=>true) (by decide+kernel) d;simp only[b,Bool.not_true,K0] at this;exact qr this
abbrev He(t:KT)(X:As):KT:={t with S:=X::t.S}
theorem wt{X Q:As}{t:KT}:(X::Q::wq t).Perm (Q::wq (He t X)):=
 (List.Perm.swap Q X _).trans (.cons _ ((List.Perm.swap _ _ _).trans (.cons _ Qd.symm)))
theorem wu(t:KT)(X:As):cI t (He t X):=⟨zr _,⟨[],_,rfl,mQ.refl _⟩,[X],rfl⟩
theorem Bn{t:KT}(h:wr t)(X:As):wr (He t X):=⟨h.len,h.set,fun m a=>(h.own m a).imp id (fun k=>.tail _ k)⟩
theorem sv(b g d:Nat)(s:Bs)(a:Nat)(n:a<=100)(f:rm 345 b s (a+1))(p:Nat)(c:CM)(x:CL)(t:KT)(hp:p<=s.length)(i:wr t):Cx prog 344 [l9 g,l9 d] Gl (H9 b s p (pz c t) (ny x t)::(wq t++[pB g b,.blk d (.cells #[.int .i64 (a:Nat)] 3)])) (fun v A=>∃(u:KT) (p':Nat),p<=p'/\p'<=s.length/\v=.tuple #[]/\A=H9 b s p' (pz c u) (ny x u)::(wq u++[pB g b,.blk d (.cells #[.int .i64 (a:Nat)] 3)])/\cI t u/\wr u) (fun v=>v=N1):=by
 refine B8 6 func344 rfl rfl rfl ?_;intro F hg;refine D7 (fun w e=>e.perm (kz (l₁:=H9 b s p (pz c t) (ny x t)::wq t))) ?_;simp only[Q8,j8];refine A1 ?_;refine f_ ((p_ rfl rfl qb).eq (v':=.int .i64 ((a+1:Nat):Int)) (by congr 1)) ?_;refine x5 [pB g b,.blk d (.cells #[.int .i64 (a:Nat)] 3)] rfl (f p c x t hp i) (fun w e=>e.perm (kz (l₁:=[_,_]))) pre rfl rfl (l8.le_refl _) (fun v h=>h) ?_;rintro v A ⟨u,p',j,k,rfl,rfl,l,m⟩;refine w8 ?_;exact m6 rfl _ ⟨u,p',j,k,rfl,rfl,l,m⟩ fun w e=>e
theorem wv(b:Nat)(s:Bs)(hs:s.length<=1000000000)(d:Nat)(hd:d<=100)(q1:rm 284 b s d)(hk:d<=8->rm 345 b s (d+1)):rm 345 b s d:=fun p c x t hp i=>by
 refine B8 84 func345 rfl rfl rfl ?_;intro F hg;refine r7 ?_;refine e_ (S7 b s [40] p (pz c t) (ny x t) qb hp qp) pre ?_;rintro v A ⟨rfl,rfl⟩;refine O0 ?_ ?_<;>intro h
 ·have b1:=eS (w:=[40]) hp;rw[show H5 s [40] p=p+1 from by unfold H5;rw[h];rfl] at b1⊢;refine A1 ?_;refine x5 [] rfl (q1 (p+1) c x t b1 i) (fun w e=>by rw[z7];exact e) pre rfl rfl (l8.le_refl _) (fun v h=>h) ?_;rintro v A ⟨u,p',h1,h2,rfl,rfl,Q,S⟩;rw[z7];refine r7 ?_;refine n5 (D8 b s [41] p' (pz c u) (ny x u) qb h2 qp) pre rfl (fun v h=>h.2) ?_;rintro v A ⟨e2,j,rfl,rfl⟩;refine w8 ?_;have O:=D0 j x4;simp only[jc] at O;refine A4 ?_;exact m6 rfl _ ⟨u,e2,by omega,O.2.2,rfl,rfl,Q,S⟩ fun w e=>e
 ·rw[show H5 s [40] p=p from by unfold H5;rw[h];rfl];refine r7 ?_;refine e_ (aO b s p (pz c t) (ny x t) qb hp) pre ?_;rintro v A ⟨rfl,rfl⟩;refine r7 ?_;refine n7 (ι:=Bool) (fun _=>True) (fun q=>[(0,l9 b),(1,.int .i64 (d:Nat)),(21,.bool q)]) (fun _=>H9 b s p (pz c t) (ny x t)::wq t) ?_ ?_
  ·obtain⟨z,hz⟩:=o8 (s.drop p);rw[<-hz]
   cases z with
   |nil=>
    refine r7 ?_;refine f_ ((E8 rfl rfl).eq (v':=.bool false) rfl) ?_;refine E7 ?_;(first|refine u_ ?_|(refine v_ ?_;fail));refine r7 ?_;exact g_ _ trivial i_
   |cons a r=>
    refine r7 ?_;refine f_ ((E8 rfl rfl).eq (v':=.bool true) rfl) ?_;refine A1 ?_;(first|refine u_ ?_|(refine v_ ?_;refine f_ ((H6 rfl rfl rfl (by simp;omega)).eq (v':=B [a]) rfl) ?_));(first|refine u_ ?_|(refine v_ ?_;refine c_ rfl (jX _ a) qw rfl ?_));refine r7 ?_;exact g_ _ trivial i_
  rintro q-;refine O0 ?_ ?_<;>intro h
  ·refine A1 ?_;refine n5 (jZ b s p (pz c t) (ny x t) hs hp) pre rfl (fun v h=>h.2) ?_;rintro v A ⟨l,T,U,j,rfl,rfl⟩;refine f_ ((y8 rfl rfl).eq (v':=.agg (aJ ⟨⟨5,0,[],[],0,l.1⟩,T,U⟩).toArray) rfl) ?_;refine x5 [] rfl (eU b s l.2 c x (He t (V2 T l.1 U)) ⟨⟨5,0,[],[],0,l.1⟩,T,U⟩ i.len) (fun w e=>by rw[z7];exact e.perm wt) qw rfl rfl (l8.le_refl _) (fun v h=>h) ?_;rintro v A ⟨u,rfl,rfl,Z,h4,Q,S⟩;rw[z7];refine w8 ?_;have O:=jY hp j;refine A4 ?_;exact m6 rfl _ ⟨u,l.2,by omega,O.2.1,rfl,rfl,(wu t _).trans Z,cq (Bn i _) h4 Q S ⟨O.2.2,by simp,by simp,by simp⟩ (.inr (.head _))⟩ fun w e=>e
  ·have h0:=bN (q:=dS) hp;have h7:=DJ (s:=s) (p:=p);refine r7 ?_;refine e_ (eR 392 dS Mh b s p (pz c t) (ny x t) qb hp) pre ?_;rintro v A ⟨rfl,rfl⟩;refine c_ rfl (I4 _ qb) qw rfl ?_;refine r7 ?_;have h8:(R9 (N8 dS s p)).length<=1000000000:=(by unfold R9;rw[zh];omega);generalize hpw:p+(N8 dS s p).length=pw at h0⊢;generalize R9 (N8 dS s p)=w at h7 h8⊢;refine eM ?_ ?_<;>intro h
   ·refine w8 ?_;obtain⟨q,hq⟩:=o8 (decide (d<=8));refine r7 ?_;refine f_ ((G4 rfl rfl).eq (v':=.bool q) (qn ((qz).trans hq.symm))) ?_;refine n5 (G9 q) qw rfl (fun v h=>h.2) ?_;rintro v A ⟨V,rfl,rfl⟩;refine w8 ?_;have M:=qr (hq.symm.trans V);refine r7 ?_;refine f_ ((y8 rfl rfl).eq (v':=.agg (aJ ⟨⟨2,0,[],[],0,[]⟩,none,0⟩).toArray) rfl) ?_;refine x5 [] rfl (eU b s pw c x t ⟨⟨2,0,[],[],0,[]⟩,none,0⟩ i.len) (fun w e=>by rw[z7];exact e) qw rfl rfl (l8.le_refl _) (fun v h=>h) ?_;rintro v A ⟨u,rfl,rfl,m,n,o,y⟩;rw[z7];refine w8 ?_;have ku:=cq i n o y ⟨by simp,by simp,by simp,by simp⟩ (.inl rfl);refine r7 ?_;refine n5 (D8 b s [32] pw (pz c u) (ny x u) qb qb qp) pre rfl (fun v h=>h.2) ?_;rintro v A ⟨e1,g,rfl,rfl⟩;refine w8 ?_;have f:=D0 g x4;simp only[jc] at f;refine A1 ?_;refine f_ ((p_ rfl rfl qb).eq (v':=.int .i64 ((d+1:Nat):Int)) (by congr 1)) ?_;refine x5 [] rfl (hk M e1 c x u f.2.2 ku) (fun w e=>by rw[z7];exact e) pre rfl rfl (l8.le_refl _) (fun v h=>h) ?_;rintro v A ⟨u2,Y,h9,C,rfl,rfl,D,X⟩;rw[z7];refine w8 ?_;exact m6 rfl _ ⟨u2,Y,by omega,C,rfl,rfl,m.trans D,X⟩ fun w e=>e
   refine bA ?_ ?_<;>intro h
   ·refine w8 ?_;obtain⟨q,hq⟩:=o8 (decide (d<=8));refine r7 ?_;refine f_ ((G4 rfl rfl).eq (v':=.bool q) (qn ((qz).trans hq.symm))) ?_;refine n5 (G9 q) qw rfl (fun v h=>h.2) ?_;rintro v A ⟨V,rfl,rfl⟩;refine w8 ?_;have M:=qr (hq.symm.trans V);refine r7 ?_;refine f_ ((y8 rfl rfl).eq (v':=.agg (aJ ⟨⟨3,0,[],[],0,[]⟩,none,0⟩).toArray) rfl) ?_;refine x5 [] rfl (eU b s pw c x t ⟨⟨3,0,[],[],0,[]⟩,none,0⟩ i.len) (fun w e=>by rw[z7];exact e) qw rfl rfl (l8.le_refl _) (fun v h=>h) ?_;rintro v A ⟨u,rfl,rfl,m,n,o,y⟩;rw[z7];refine w8 ?_;have ku:=cq i n o y ⟨by simp,by simp,by simp,by simp⟩ (.inl rfl);refine r7 ?_;refine n5 (D8 b s [32] pw (pz c u) (ny x u) qb qb qp) pre rfl (fun v h=>h.2) ?_;rintro v A ⟨e1,g,rfl,rfl⟩;refine w8 ?_;have f:=D0 g x4;simp only[jc] at f;refine A1 ?_;refine f_ ((p_ rfl rfl qb).eq (v':=.int .i64 ((d+1:Nat):Int)) (by congr 1)) ?_;refine x5 [] rfl (hk M e1 c x u f.2.2 ku) (fun w e=>by rw[z7];exact e) pre rfl rfl (l8.le_refl _) (fun v h=>h) ?_;rintro v A ⟨u2,Y,h9,C,rfl,rfl,D,X⟩;rw[z7];refine r7 ?_;refine n5 (D8 b s [32] Y (pz c u2) (ny x u2) qb C qp) pre rfl (fun v h=>h.2) ?_;rintro v A ⟨e2,k0,rfl,rfl⟩;refine w8 ?_;have k8:=D0 k0 x4;simp only[jc] at k8;refine A1 ?_;refine f_ ((p_ rfl rfl qb).eq (v':=.int .i64 ((d+1:Nat):Int)) (by congr 1)) ?_;refine x5 [] rfl (hk M e2 c x u2 k8.2.2 X) (fun w e=>by rw[z7];exact e) pre rfl rfl (l8.le_refl _) (fun v h=>h) ?_;rintro v A ⟨u3,p3,q3,k9,rfl,rfl,q0,q2⟩;rw[z7];refine w8 ?_;exact m6 rfl _ ⟨u3,p3,by omega,k9,rfl,rfl,(m.trans D).trans q0,q2⟩ fun w e=>e
   refine bA ?_ ?_<;>intro h
   ·refine r7 ?_;refine f_ ((y8 rfl rfl).eq (v':=.agg (aJ ⟨⟨4,0,[],[],0,[]⟩,none,0⟩).toArray) rfl) ?_;refine x5 [] rfl (eU b s pw c x t ⟨⟨4,0,[],[],0,[]⟩,none,0⟩ i.len) (fun w e=>by rw[z7];exact e) qw rfl rfl (l8.le_refl _) (fun v h=>h) ?_;rintro v A ⟨u,rfl,rfl,m,n,o,y⟩;rw[z7];refine w8 ?_;have ku:=cq i n o y ⟨by simp,by simp,by simp,by simp⟩ (.inl rfl);exact m6 rfl _ ⟨u,pw,by omega,h0,rfl,rfl,m,ku⟩ fun w e=>e
   refine bA ?_ ?_<;>intro h
   ·refine r7 ?_;refine n5 (D8 b s [32] pw (pz c t) (ny x t) qb qb qp) pre rfl (fun v h=>h.2) ?_;rintro v A ⟨e1,g,rfl,rfl⟩;refine w8 ?_;have f:=D0 g x4;simp only[jc] at f;refine A1 ?_;refine n5 (jZ b s e1 (pz c t) (ny x t) hs f.2.2) pre rfl (fun v h=>h.2) ?_;rintro v A ⟨l,T,U,j,rfl,rfl⟩;refine f_ ((y8 rfl rfl).eq (v':=.agg (aJ ⟨⟨6,0,[],[],0,l.1⟩,T,U⟩).toArray) rfl) ?_;refine x5 [] rfl (eU b s l.2 c x (He t (V2 T l.1 U)) ⟨⟨6,0,[],[],0,l.1⟩,T,U⟩ i.len) (fun w e=>by rw[z7];exact e.perm wt) qw rfl rfl (l8.le_refl _) (fun v h=>h) ?_;rintro v A ⟨u,rfl,rfl,Z,h4,Q,S⟩;rw[z7];refine w8 ?_;have O:=jY f.2.2 j;exact m6 rfl _ ⟨u,l.2,by omega,O.2.1,rfl,rfl,(wu t _).trans Z,cq (Bn i _) h4 Q S ⟨O.2.2,by simp,by simp,by simp⟩ (.inr (.head _))⟩ fun w e=>e
   refine E7 ?_;refine n5 (Mg b s w pw (pz c t) (ny x t) hs qb h8 h7) pre rfl (fun v h=>h) ?_;rintro v A ⟨k,Y,h1,h2,J,rfl,rfl⟩;refine x5 [] rfl (eU b s Y c x t ⟨k,none,0⟩ i.len) (fun w e=>by rw[z7];exact e) qw rfl rfl (l8.le_refl _) (fun v h=>h) ?_;rintro v A ⟨u,rfl,rfl,Z,h4,Q,S⟩;rw[z7];refine w8 ?_;exact m6 rfl _ ⟨u,Y,by omega,h2,rfl,rfl,Z,cq i h4 Q S ⟨by rw[J.1];simp,J.2.1,J.2.2.1,by rw[J.2.2.2];simp⟩ (.inl J.1)⟩ fun w e=>e
