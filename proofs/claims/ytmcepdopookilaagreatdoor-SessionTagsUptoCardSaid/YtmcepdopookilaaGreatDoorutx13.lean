import Derived.Test.YtmcepdopookilaaGreatDoorutx12
set_option maxHeartbeats 16000000
set_option maxRecDepth 8000
set_option linter.unusedVariables false
set_option linter.unusedSimpArgs false
set_option linter.defProp false
namespace Go.Proofs.YtmcepdopookilaaGreatDoor.Rp
open Go Go.Sl Go.RowKit Go.Proofs.Tryz
theorem SK{d:UInt8}(h:97<=d.toNat/\d.toNat<=122):(d-32).toNat=d.toNat-32:=by
 rw[UInt8.toNat_sub_of_le]
 ·rfl
 ·exact UInt8.le_iff_toNat_le.2 (by show 32<=d.toNat;omega)
theorem LU{c d:UInt8}(hc:c.toNat<=64\/91<=c.toNat/\c.toNat<=96\/123<=c.toNat):rB d=c↔d=c:=by
 unfold rB;split
 ·next h=>
  constructor
  ·intro e;have:=jk UInt8.toNat e;rw[SK h] at this;omega
  ·intro e;subst e;omega
 ·exact Iff.rfl
theorem Pt{s:Bs}{c:UInt8}{p:Nat}(hc:c.toNat<=64\/91<=c.toNat/\c.toNat<=96\/123<=c.toNat):([c]:Bs).isPrefixOf (s.drop p)=I1 s [c] p:=by
 unfold I1
 cases s.drop p with
 |nil=>simp[R8,List.isPrefixOf]
 |cons d t=>
  have:=LU (c:=c) (d:=d) hc;simp only[zy,zn,List.take_succ_cons,Kx,R8,Qu,Jj,List.isPrefixOf,Bool.and_true];by_cases h:d=c
  ·subst h;simp[this.2 rfl]
  ·have a:rB d≠c:=fun e=>h (this.1 e);simp[a,Ne.symm h]
theorem Bg{s:Bs}{p:Nat}{r:Bs×Nat}(hp:p<=s.length)(h:vr s p=some r):p<=r.2/\r.2<=s.length/\r.1.length<=s.length:=by
 unfold vr at h;split at h
 ·cases h
 ·have:=j8 h;subst this;have:=bQ (q:=P1) hp;exact⟨by simp only;omega,this,by simp only;omega⟩
theorem dj{s:Bs}{p:Nat}{r:Bs×Nat}(hp:p<=s.length)(h:lf s p=some r):p<=r.2/\r.2<=s.length/\r.1.length<=4096+s.length:=by
 unfold lf at h;split at h
 ·have:=Lt hp h;omega
 split at h
 ·cases hu:vg (s.drop p) with
  |none=>rw[hu] at h;cases h
  |some q=>
   rw[hu] at h;have:=j8 h;subst this;have b:=yj (s:=s.drop p);have a:=Be (s.drop p);rw[hu] at b a;simp only[Zh,z8] at b a;simp only;omega
 ·obtain⟨q,b,a⟩:=zc.1 h;have:=Bg hp b;split at a
  ·have:=j8 a;subst this;omega
  ·cases a
theorem pp(s:Bs):(T4 s).2.1<=s.length:=by
 unfold T4;simp only;by_cases h:s.head? =some 40/\(s.takeWhile fun c=>c !=41).length<s.length
 ·rw[zu h];have:=h.2;generalize V6 _=m;by_cases hm:m.2=0
  ·rw[zu hm];simp only;omega
  ·rw[zk hm];simp
 ·rw[zk h];simp
theorem R3(b:Nat)(s:Bs)(p:Nat)(c:CM)(x:CL)(hs:s.length<=1000000000000)(hp:p<=s.length):Cx prog 275 [l9 b] Gl [H8 b s p c x] (fun v A=>∃r,lf s p=some r/\v=B r.1/\A=[H8 b s r.2 c x]) (fM (lf s p)):=by
 refine B7 42 func275 rfl rfl rfl ?_;intro F hg;have k:=Pt (s:=s) (c:=123) (p:=p) qp;have l:=Pt (s:=s) (c:=34) (p:=p) qp;obtain⟨m,i⟩:=o7 (I1 s [123] p);obtain⟨n,j⟩:=o7 (I1 s [34] p);obtain⟨W,a⟩:=o7 (lf s p);rw[<-a];unfold lf at a;rw[<-i,<-j] at a;refine y9 ?_;refine x5 _ rfl (aN b s p c x hs hp) i_ qw rfl ?_;rintro v A ⟨rfl,rfl⟩;refine e_ rfl (ai (s.drop p) [123]) qw rfl ?_;rw[k,<-i];refine p_ ?_
 cases m with
 |true=>
  rw[zu rfl] at a;refine p_ ?_;refine x4 _ rfl (mf b s p c x hs hp) i_ pre rfl rfl (l6.le_refl _) (fun v h=>⟨(by rw[a,h.1]),h.2⟩) ?_;rintro v A ⟨r,f,rfl,rfl⟩;refine C8 ?_;exact d_ rfl rfl [H8 b s r.2 c x] ⟨_,a.trans f,rfl,rfl⟩ i_
 |false=>
  rw[zk x6] at a;refine p_ ?_;refine x5 _ rfl (aN b s p c x hs hp) i_ qw rfl ?_;rintro v A ⟨rfl,rfl⟩;refine e_ rfl (ai (s.drop p) [34]) qw rfl ?_;rw[l,<-j];refine p_ ?_
  cases n with
  |true=>
   rw[zu rfl] at a;have d:=yj (s:=s.drop p);rw[z8] at d;refine u7 ?_
   cases hu:vg (s.drop p) with
   |none=>
    rw[hu] at a;refine p_ ?_;refine x5 _ rfl (aN b s p c x hs hp) i_ qw rfl ?_;rintro v A ⟨rfl,rfl⟩;refine e_ rfl (md (s.drop p) (by rw[z8];unfold lp;omega)) qw rfl ?_;rw[hu];simp only[Pi];refine wk 8 ?_;refine x4 _ rfl (G8 _) i_ pre rfl rfl (l6.le_refl _) (fun v h=>⟨(a),h.2⟩) ?_;rintro v A ⟨e,rfl,rfl⟩;refine u7 ?_
    cases e
   |some q=>
    rw[hu] at a d;simp only[Zh] at d;refine p_ ?_;refine x5 _ rfl (aN b s p c x hs hp) i_ qw rfl ?_;rintro v A ⟨rfl,rfl⟩;refine e_ rfl (md (s.drop p) (by rw[z8];unfold lp;omega)) qw rfl ?_;rw[hu];simp only[Pi,Zh];refine wk 8 ?_;refine x4 _ rfl (G8 _) i_ pre rfl rfl (l6.le_refl _) (fun v h=>⟨(by cases h.1),h.2⟩) ?_;rintro v A ⟨e,rfl,rfl⟩;refine au ?_;refine f_ ((p9 rfl rfl qb).eq (v':=.int .i64 ((p+q.2:Nat):Int)) (by congr 1)) ?_;refine JP ?_;exact d_ rfl rfl [H8 b s (p+q.2) c x] ⟨_,a,rfl,rfl⟩ i_
  |false=>
   rw[zk x6] at a;refine p_ ?_;refine x4 _ rfl (AT b s p c x hs hp) i_ pre rfl rfl (l6.le_refl _) (fun v h=>⟨(by rw[a,h.1];rfl),h.2⟩) ?_;rintro v A ⟨r,f,rfl,rfl⟩;refine p_ ?_;rw[f,z6] at a;obtain⟨q,g⟩:=o7 (decide (r.1.length<=4096));refine y9 ?_;refine f_ ((F_ rfl rfl).eq (v':=.bool q) (qn (by rw[g];apply zp.2;omega))) ?_;refine x4 _ rfl (G8 q) i_ pre rfl rfl (l6.le_refl _) (fun v h=>⟨(by rw[a,zk (zq (g.symm.trans h.1))]),h.2⟩) ?_;rintro v A ⟨e,rfl,rfl⟩;refine u7 ?_;rw[zu (qr (g.symm.trans e))] at a;refine L7 ?_;exact d_ rfl rfl [H8 b s r.2 c x] ⟨_,a,rfl,rfl⟩ i_
theorem Pv{s:Bs}{p:Nat}{r:Bs×Nat}(hp:p<=s.length)(h:NR s p=some r):p<=r.2/\r.2<=s.length/\vh r.1=true:=by
 unfold NR at h;obtain⟨q,c,d⟩:=zc.1 h;have a:=dj hp c;obtain⟨n,b,e⟩:=kx.1 d;subst e;refine⟨a.1,a.2.1,?_⟩;unfold ja at b;split at b
 ·next f=>
  have:=j8 b;subst this;split
  ·exact(by decide:vh cS=true)
  ·exact f
 ·cases b
theorem Pw(b:Nat)(s:Bs)(p:Nat)(c:CM)(x:CL)(hs:s.length<=1000000000)(hp:p<=s.length):Cx prog 276 [l9 b] Gl [H8 b s p c x] (fun v A=>∃r,NR s p=some r/\v=B r.1/\A=[H8 b s r.2 c x]) (fM (NR s p)):=by
 refine B7 14 func276 rfl rfl rfl ?_;intro F hg;obtain⟨W,a⟩:=o7 (NR s p);rw[<-a];unfold NR at a;refine y9 ?_;refine x4 _ rfl (R3 b s p c x qb hp) i_ pre rfl rfl (l6.le_refl _) (fun v h=>⟨(by rw[a,h.1];rfl),h.2⟩) ?_;rintro v A ⟨r,d,rfl,rfl⟩;refine e_ rfl (AM r.1 (by have:=dj hp d;unfold lp;omega)) qw rfl ?_;refine au ?_;rw[d,z6] at a;refine p_ ?_;refine x4 _ rfl (G8 _) i_ pre rfl rfl (l6.le_refl _) (fun v h=>⟨(by rw[a];have:=h.1;cases e:ja r.1 with|none=>rfl|some n=>rw[e] at this;cases this),h.2⟩) ?_;rintro v A ⟨f,rfl,rfl⟩;refine u7 ?_;obtain⟨n,g⟩:=Zc.1 f;rw[g] at a⊢;refine L7 ?_;exact d_ rfl rfl [H8 b s r.2 c x] ⟨_,a,rfl,rfl⟩ i_
theorem yF{p q:UInt8->Bool}(h:∀n,n<256->p (UInt8.ofNat n)=q (UInt8.ofNat n))(c:UInt8):p c=q c:=by
 have:=h c.toNat c.toNat_lt
 rwa [UInt8.ofNat_toNat] at this
theorem jV(l:Bs)(c:UInt8):Pu prog 348 [B l,B [c]] (fun _=>True) (.bool (l.contains c)):=U0 fun w _=>by
 have:=Tryz.strings_Contains_one ⟨l.toArray⟩ c w;rw[show(decide (0<=Lib.indexByte (⟨l.toArray⟩:ByteArray).data.toList c))=l.contains c from by
  show decide (0<=Lib.indexByte l c)=_;rw[eJ]
  cases h:l.contains c<;>simp] at this
 exact this
theorem tY(c:UInt8):Pu prog 348 [B [48,49,50,51,52,53,54,55,56,57,44,58,42],B [c]] (fun _=>True) (.bool (ox c)):=by
 have:=jV [48,49,50,51,52,53,54,55,56,57,44,58,42] c
 rwa [yF (p:=fun c=>List.contains [48,49,50,51,52,53,54,55,56,57,44,58,42] c) (q:=ox) (by decide+kernel) c] at this
theorem LV:vL 347 ox:=fun c=>by
 refine b_ 5 func347 rfl rfl rfl ?_;intro F _;refine y9 ?_;refine e_ rfl (tY c) qw rfl ?_;refine C8 ?_;exact d_ rfl rfl [] qh i_
theorem jW{s:Bs}{p:Nat}{r:List (Nat×Nat)×Nat}(hp:p<=s.length)(h:qT s p=some r):p<=r.2/\r.2<=s.length/\r.1.length<=64:=by
 unfold qT at h;obtain⟨l,a,b⟩:=kx.1 h;subst b;have:=bQ (q:=ox) hp;refine⟨by simp only;omega,this,?_⟩;unfold vq at a;split at a
 ·cases a
 ·have:=jS _ _ a;simp only;omega
theorem jX(b:Nat)(s:Bs)(p:Nat)(c:CM)(x:CL)(hs:s.length<=1000000000)(hp:p<=s.length):Cx prog 285 [l9 b] Gl [H8 b s p c x] (fun v A=>∃r a d,qT s p=some r/\v=.slice a r.1.length d/\A=[V1 a r.1 d,H8 b s r.2 c x]) (fM (qT s p)):=by
 refine B7 14 func285 rfl rfl rfl ?_;intro F hg;obtain⟨W,f⟩:=o7 (qT s p);rw[<-f];unfold qT at f;have j:=bQ (q:=ox) hp;refine y9 ?_;refine x5 _ rfl (eO 347 ox LV b s p c x qb hp) i_ qw rfl ?_;rintro v A ⟨rfl,rfl⟩;refine x5 _ rfl (Dk (N9 ox s p) qb) i_ (fun h k o=>hg.le k) rfl ?_;rintro v A ⟨a,d,l,rfl,rfl,m⟩;refine cG ?_;refine x4 _ rfl (G8 _) i_ pre rfl rfl (l6.le_refl _) (fun v h=>⟨(by rw[f];have:=h.1;cases e:vq (N9 ox s p) with|none=>rfl|some n=>rw[e] at this;cases this),h.2⟩) ?_;rintro v A ⟨g,rfl,rfl⟩;refine u7 ?_;obtain⟨n,i⟩:=Zc.1 g;have:=m n i;subst this;rw[i] at f;refine L7 ?_;exact d_ rfl rfl [V1 a l d,H8 b s (p+(N9 ox s p).length) c x] ⟨_,a,d,f,rfl,rfl⟩ i_
theorem rZ{s c:Bs}(h:E3 s=some c):c.length<=32:=by
 unfold E3 at h;split at h
 ·next f hf=>
  cases h
  have:=Kg hf
  revert this
  have hs:∀f∈R5,f.length<=32:=by decide
  exact hs c
 ·split at h
  ·next a=>
   cases h
   simp only[U9,zr];exact a.2
  ·cases h
theorem LW{s:Bs}{p:Nat}{r:List Bs×Nat}(hp:p<=s.length)(h:oz s p=some r):p<=r.2/\r.2<=s.length/\r.1.length<=16/\∀f∈r.1,f.length<=32:=by
 unfold oz at h;split at h
 ·next k=>
  have:=j8 h;subst this;have a:=je (lT (s:=s.drop p) (l:=(T4 (s.drop p)).1) (n:=(T4 (s.drop p)).2.1) (by rw[<-k]));have b:=pp (s.drop p);rw[z8] at b;refine⟨by simp only;omega,by simp only;omega,a.2.2,fun f hf=>rZ (a.1 f hf)⟩
 ·cases h
theorem sb(b:Nat)(s:Bs)(p:Nat)(c:CM)(x:CL)(hs:s.length<=1000000000)(hp:p<=s.length):Cx prog 282 [l9 b] Gl [H8 b s p c x] (fun v A=>∃r a d,oz s p=some r/\v=.slice a r.1.length d/\A=[A4 a r.1 d,H8 b s r.2 c x]) (fM (oz s p)):=by
 refine B7 25 func282 rfl rfl rfl ?_;intro F hg;obtain⟨W,e⟩:=o7 (oz s p);rw[<-e];unfold oz at e;have i:=pp (s.drop p);rw[z8] at i;obtain⟨m,j⟩:=o7 (T4 (s.drop p));have f:=Df (s.drop p) (by rw[z8];omega);rw[<-j] at e i f;obtain⟨q,g⟩:=o7 (decide (m.2.2=0));refine y9 ?_;refine x5 _ rfl (aN b s p c x qb hp) i_ qw rfl ?_;rintro v A ⟨rfl,rfl⟩;refine x5 _ rfl f i_ (fun h k o=>hg.le k) rfl ?_;rintro v A ⟨a,d,rfl,rfl⟩;refine wk 8 ?_;refine f_ ((p8 rfl rfl).eq (v':=.bool q) (qn g.symm)) ?_;refine x4 _ rfl (G8 q) i_ pre rfl rfl (l6.le_refl _) (fun v h=>⟨(by rw[e,zk (zq (g.symm.trans h.1))]),h.2⟩) ?_;rintro v A ⟨l,rfl,rfl⟩;refine u7 ?_;rw[zu (qr (g.symm.trans l))] at e;refine au ?_;refine f_ ((p9 rfl rfl qb).eq (v':=.int .i64 ((p+m.2.1:Nat):Int)) (by congr 1)) ?_;refine JP ?_;exact d_ rfl rfl [A4 a m.1 d,H8 b s (p+m.2.1) c x] ⟨_,a,d,e,rfl,rfl⟩ fun w n=>x8.left tk n
abbrev Ob(f:FuncId)(b:Nat)(s:Bs)(R:CM->Nat->Option (CM×Nat)):Prop:=∀(c:CM) (x:CL) (p:Nat),p<=s.length->Cx prog f [l9 b] Gl [H8 b s p c x] (fun v A=>∃r,R c p=some r/\v=.tuple #[]/\A=[H8 b s r.2 r.1 x]) (fM (R c p))
theorem cq(b:Nat)(s:Bs):Ob 207 b s (fun c p=>some (c,p)):=fun c x p hp=>by
 refine B7 2 func207 rfl rfl rfl ?_;intro F hg;refine u7 ?_;exact m6 rfl [H8 b s p c x] ⟨(c,p),rfl,rfl,rfl⟩ i_
theorem Dx(b:Nat)(s:Bs)(hs:s.length<=1000000000):Ob 208 b s (fun c p=>(H_ s Ap p).map fun e=>(c,e)):=fun c x p hp=>by
 refine B7 4 func208 rfl rfl rfl ?_;intro F hg;refine p_ ?_;refine x4 _ rfl (D7 b s Ap p c x qb hp x6) i_ pre rfl rfl (l6.le_refl _) (fun v h=>⟨(by simp only[h.1,Z0]),h.2⟩) ?_;rintro v A ⟨e,a,rfl,rfl⟩;refine u7 ?_;exact m6 rfl [H8 b s e c x] ⟨(c,e),by simp only[a,Qj],rfl,rfl⟩ i_
theorem dY(b:Nat)(s:Bs)(hs:s.length<=1000000000):Ob 211 b s (fun c p=>I9 c s p):=fun c x p hp=>by
 refine B7 10 func211 rfl rfl rfl ?_;intro F hg;refine p_ ?_;refine x4 _ rfl (D7 b s [32] p c x qb hp x6) i_ pre rfl rfl (l6.le_refl _) (fun v h=>⟨(by simp only[I9,iv,h.1,Z6,Z0]),h.2⟩) ?_;rintro v A ⟨d,a,rfl,rfl⟩;refine u7 ?_;have e:=C_ a x6;refine y9 ?_;refine x4 _ rfl (Pw b s d c x hs e.2.2) i_ pre rfl rfl (l6.le_refl _) (fun v h=>⟨(by simp only[I9,iv,a,h.1,z6,Z0]),h.2⟩) ?_;rintro v A ⟨r,f,rfl,rfl⟩;refine O2 ?_;exact m6 rfl [H8 b s r.2 {c with box:=r.1} x] ⟨({c with box:=r.1},r.2),by simp only[I9,iv,a,f,z6,Qj],rfl,rfl⟩ i_
theorem lw{s:Bs}{c:CM}{p:Nat}{r:CM×Nat}(hp:p<=s.length)(h:I9 c s p=some r):p<=r.2/\r.2<=s.length:=by
 unfold I9 iv at h;obtain⟨q,a,b⟩:=kx.1 h;obtain⟨e,d,f⟩:=zc.1 a;have g:=C_ d x6;have i:=Pv g.2.2 f;subst b;simp only;omega
theorem GU(b:Nat)(s:Bs)(hs:s.length<=1000000000):Ob 209 b s (fun c p=>dz c s p):=fun c x p hp=>by
 refine B7 18 func209 rfl rfl rfl ?_;intro F hg;refine p_ ?_;refine x4 _ rfl (D7 b s [32] p c x qb hp x6) i_ pre rfl rfl (l6.le_refl _) (fun v h=>⟨(by simp only[dz,yb,h.1,Z6]),h.2⟩) ?_;rintro v A ⟨g,a,rfl,rfl⟩;refine u7 ?_;have f:=C_ a x6;refine y9 ?_;refine x4 _ rfl (R3 b s g c x qb f.2.2) i_ pre rfl rfl (l6.le_refl _) (fun v h=>⟨(by simp only[dz,yb,a,h.1,z6,Z6]),h.2⟩) ?_;rintro v A ⟨r,d,rfl,rfl⟩;refine O2 ?_;have i:=dj f.2.2 d;refine p_ ?_;refine x4 _ rfl (D7 b s [32] r.2 {c with user:=r.1} x qb i.2.1 x6) i_ pre rfl rfl (l6.le_refl _) (fun v h=>⟨(by simp only[dz,yb,a,d,h.1,z6,Z6,Z0]),h.2⟩) ?_;rintro v A ⟨j,e,rfl,rfl⟩;refine u7 ?_;have a3:=C_ e x6;refine y9 ?_;refine x4 _ rfl (R3 b s j {c with user:=r.1} x qb a3.2.2) i_ pre rfl rfl (l6.le_refl _) (fun v h=>⟨(by simp only[dz,yb,a,d,e,h.1,z6,Z0]),h.2⟩) ?_;rintro v A ⟨t,k,rfl,rfl⟩;refine O2 ?_;exact m6 rfl [H8 b s t.2 {c with user:=r.1,pass:=t.1} x] ⟨({c with user:=r.1,pass:=t.1},t.2),by simp only[dz,yb,a,d,e,k,z6,Qj],rfl,rfl⟩ i_
theorem vZ(b:Nat)(s:Bs)(hs:s.length<=1000000000):Ob 210 b s (fun c p=>(I9 c s p).map fun q=>({q.1 with cond:=I1 s ci q.2},H4 s ci q.2)):=fun c x p hp=>by
 refine B7 10 func210 rfl rfl rfl ?_;intro F hg;refine p_ ?_;refine x4 _ rfl (dY b s hs c x p hp) i_ pre rfl rfl (l6.le_refl _) (fun v h=>⟨(by simp only[h.1,Z0]),h.2⟩) ?_;rintro v A ⟨r,a,rfl,rfl⟩;refine u7 ?_;have d:=lw hp a;refine y9 ?_;refine x5 _ rfl (S5 b s ci r.2 r.1 x qb d.2 x6) i_ qw rfl ?_;rintro v A ⟨rfl,rfl⟩;refine O2 ?_;exact m6 rfl [H8 b s (H4 s ci r.2) {r.1 with cond:=I1 s ci r.2} x] ⟨({r.1 with cond:=I1 s ci r.2},(H4 s ci r.2)),by simp only[a,Qj],rfl,rfl⟩ i_
theorem LX:vL 277 iu:=fun c=>by
 obtain⟨a,b⟩:=o7 (decide (c=37));obtain⟨d,f⟩:=o7 (decide (c=42));have e:iu c=(a||d||P1 c):=by unfold iu;rw[b,f]
 rw[e];refine b_ 13 func277 rfl rfl rfl ?_;intro F _;refine p_ ?_
 cases a<;>cases d
 all_goals (
  refine p_ ?_;refine f_ ((B_ rfl rfl).eq (qn ((show decide ([c]=[37])=decide (c=37) from by simp).trans b.symm))) ?_;refine y9 ?_;(first|refine u_ ?_|(refine v_ ?_;refine f_ ((B_ rfl rfl).eq (qn ((show decide ([c]=[42])=decide (c=42) from by simp).trans f.symm))) ?_));refine E5 ?_;(first|refine u_ ?_|(refine v_ ?_;refine e_ rfl (pb c) qw rfl ?_));refine y9 ?_)
 all_goals (refine A2 ?_;exact d_ rfl rfl [] ⟨by simp,rfl⟩ i_)
theorem GV(b:Nat)(s:Bs)(hs:s.length<=1000000000):Ob 212 b s (fun c p=>jo c s p):=fun c x p hp=>by
 refine B7 22 func212 rfl rfl rfl ?_;intro F hg;refine p_ ?_;refine x4 _ rfl (D7 b s NU p c x qb hp x6) i_ pre rfl rfl (l6.le_refl _) (fun v h=>⟨(by simp only[jo,h.1,Z6]),h.2⟩) ?_;rintro v A ⟨a,d,rfl,rfl⟩;refine u7 ?_;have f:=C_ d x6;have g:=bQ (q:=iu) f.2.2;refine y9 ?_;refine x5 _ rfl (eO 277 iu LX b s a c x qb f.2.2) i_ qw rfl ?_;rintro v A ⟨rfl,rfl⟩;refine wk 9 ?_;refine f_ (B_ rfl rfl) ?_;refine N8 ?_ ?_<;>intro h
 ·have e:N9 iu s a=[]:=by simpa using h
  rw[e];simp only[zn,Q3];refine y9 ?_;refine x4 _ rfl (R3 b s a {c with a5Q:=[]} x qb f.2.2) i_ pre rfl rfl (l6.le_refl _) (fun v h=>⟨(by simp only[jo,d,z6,zu e,h.1,Z0]),h.2⟩) ?_;rintro v A ⟨r,i,rfl,rfl⟩;refine O2 ?_;exact m6 rfl [H8 b s r.2 {c with a5Q:=r.1} x] ⟨({c with a5Q:=r.1},r.2),by simp only[jo,d,z6,zu e,i,Qj],rfl,rfl⟩ i_
 ·have e:¬N9 iu s a=[]:=by simpa using h
  refine u7 ?_;exact m6 rfl [H8 b s (a+(N9 iu s a).length) {c with a5Q:=N9 iu s a} x] ⟨({c with a5Q:=N9 iu s a},(a+(N9 iu s a).length)),by simp only[jo,d,z6,zk e],rfl,rfl⟩ i_
theorem we(b:Nat)(s:Bs)(hs:s.length<=1000000000):Ob 288 b s (fun c p=>(dy s p).map fun q=>({c with a5O:=q.1,a5N:=true},q.2)):=fun c x p hp=>by
 refine B7 14 func288 rfl rfl rfl ?_;intro F hg;refine y9 ?_;refine x4 _ rfl (Y0 b s D9 p c x qb hp (z1 _)) i_ pre rfl rfl (l6.le_refl _) (fun v h=>⟨(by simp only[dy,h.1,Z6,Z0]),h.2⟩) ?_;rintro v A ⟨r,a,rfl,rfl⟩;refine O2 ?_;have d:=cp hp a;refine cG ?_;refine x4 _ rfl (D7 b s [41] r.2 {c with a5O:=r.1,a5N:=true} x qb d.2.2 x6) i_ pre rfl rfl (l6.le_refl _) (fun v h=>⟨(by simp only[dy,a,h.1,z6,Z0]),h.2⟩) ?_;rintro v A ⟨e,f,rfl,rfl⟩;refine u7 ?_;exact m6 rfl [H8 b s e {c with a5O:=r.1,a5N:=true} x] ⟨({c with a5O:=r.1,a5N:=true},e),by simp only[dy,a,f,z6,Qj],rfl,rfl⟩ i_
abbrev NW:=Bs×Nat×Bool
abbrev LY:NW:=([],0,false)
abbrev Dy(x:NW):List Value:=[B x.1,.int .i64 (x.2.1:Nat),.bool x.2.2,.bool false,.int .u64 0,.int .u64 0]
abbrev Dz(l:List NW):List Value:=l.flatMap Dy
theorem tZ:∀x,(Dy x).length=6:=fun _=>rfl
theorem LZ:∀x,∀q∈Dy x,q.oneCell'=true:=fun x q a=>by simp at a;rcases a with rfl|rfl|rfl|rfl|rfl|rfl<;>rfl
theorem pq:Ct prog 281 [] (fun _=>True) [] (fun v A=>∃a,v=.slice (some a) 5 5/\A=[.own (.slice (some a) 5 5) 371 6 (Dz jl)]):=by
 refine b_ 12 func281 rfl rfl rfl ?_;intro F _;refine wk 11 ?_;refine x7 rfl rfl rfl rfl rfl rfl (xs:=Dz jl) rfl rfl ?_;rintro c ⟨b,rfl⟩;refine C8 ?_;exact d_ rfl rfl _ ⟨b,rfl,rfl⟩ i_
theorem DA{l:List NW}{j:Nat}(h:j<l.length):l.getD j LY∈l:=by
 rw[zd,zj h];exact zx h
theorem Ma{l:List NW}{f:NW->Bool}{j:Nat}(d:j<l.length)(b:∀i,i<j->f (l.getD i LY)=false)(c:f (l.getD j LY)=true):l.find? f=some (l.getD j LY):=by
 induction l generalizing j with
 |nil=>simp at d
 |cons a t ih=>
  cases j with
  |zero=>simp only[List.getD_cons_zero] at c⊢;rw[Wj,c]
  |succ j=>
   have e:=b 0 qb;simp only[List.getD_cons_zero,List.getD_cons_succ] at e c⊢;rw[Wj,e];exact ih (by simpa using d) (fun i g=>by have:=b (i+1) qb;simpa using this) c
theorem GW{l:List NW}{f:NW->Bool}(a:∀i,i<l.length->f (l.getD i LY)=false):l.find? f=none:=by
 rw[Wh];intro x c;obtain⟨i,b,rfl⟩:=Zq c;have:=a i b;rw[zd,zj b] at this;simpa using this
theorem GX{l:List NW}{s:Bs}{p:Nat}{r:IT×Nat}(hp:p<=s.length)(hl:∀x∈l,x.1≠[])(h:cT l s p=some r):p<r.2/\r.2<=s.length:=by
 unfold cT at h;obtain⟨x,f,b⟩:=zc.1 h;have g:=Kg f;have a:I1 s x.1 p=true:=by have:=List.find?_some f;simpa using this
 have u:=iw a (hl x g);have v:=Zr.mpr (hl x g);split at b
 ·next hc=>
  have i:=iw hc.2 x6;unfold xX at b;obtain⟨w,j,k⟩:=zc.1 b;obtain⟨y,m,n⟩:=zc.1 k;obtain⟨z,o,c⟩:=zc.1 n;simp only[zy,zn] at i;have A:=cp qb j;have q:=C_ m x6;have C:=cp q.2.2 o;split at c
  ·obtain⟨e,t,d⟩:=kx.1 c;have D:=C_ t x6;subst d;simp only;omega
  ·cases c
 ·have:=j8 b;subst this;simp only;omega
theorem a1z{F:l6}{w:World}{H:List As}{a:Option Addr}{l:List NW}{q i:Nat}(b:Hp F w H)(r:o0 F.heap a (Dz l))(hq:q=6*i)(c:i<l.length):M0 (hp w) (N0 a q) (Dy (l.getD i LY)):=
 tf (C:=Dy) (r.le b.keep) tZ qb LY hq c
theorem DB{h:l_}{a:Option Addr}{l:List NW}{i:Nat}(r:o0 h a (Dz l))(b:i<l.length):∃c,a=some c:=ve (C:=Dy) r tZ qb b
theorem n5{P:Program}{N:Nat}{K R:y6}{E:List (Nat×y6)}{L:G0}{F j:l6}{H:List As}{ops:Array Oper}{rest:List Oper}{ty:TypeId}{pos:String}{af:Array Edge}{Pq b:Value->Prop}{d:Nat}{f:FuncId}{args:List Operand}{g:Array TypeId}{vs:List Value}{c:l_->Prop}{C Rr:List As}{a:Value->List As->Prop}[HF P f](hc:Cx P f vs c C a Pq)(e:∀h,l_.le F.heap h->(∃bs,A3 h Rr bs)->c h)(k:E.lookup 0=some (CE j b))(i:∀v,Pq v->b v)(h:∀v A,a v A->GL P N ops rest K E R ((d,v)::L) F (A++Rr))(hx:rt L args=some vs:=by rfl)(hH:x8 C H Rr:=by exact tk)(hl:j.le F:=by exact fle)(l:Nat.blt d N=true:=by rfl):
  GL P N ops (⟨some d,.call ⟨.value (.func f),args.toArray,g⟩,ty,pos,af,none⟩::rest) K E R L F H:=
 x4 Rr hx hc (fun w m=>hH.hp m) e l k hl i h
def ItP(b:Nat)(s:Bs)(c:CM)(x:CL)(o:Option (IT×Nat))(v:Value)(A:List As):Prop:=∃r a' c',o=some r/\v=.tuple #[]/\A=[H8 b s r.2 {c with a5M:=c.a5M++[r.1]} {x with ia:=a',ic:=c'},bP a' (c.a5M++[r.1]) c']
theorem Bh(b:Nat)(s:Bs)(p:Nat)(c:CM)(x:CL)(l:List NW)(a:Option Addr)(n:Nat)(hs:s.length<=1000000000)(hp:p<=s.length)(hl:∀x∈l,x.1≠[]/\x.1.length<=100/\x.2.1<=100)(q0:l.length<=100)(hi:c.a5M.length<=1000000000):Cx prog 280 [l9 b,.slice a l.length n] (fun h=>Gl h/\o0 h a (Dz l)) [H8 b s p c x,bP x.ia c.a5M x.ic] (ItP b s c x (cT l s p)) (fM (cT l s p)):=by
 refine B7 59 func280 rfl rfl rfl ?_;intro F hh;have hg:=hh.1;have M:=hh.2;obtain⟨W,d⟩:=o7 (cT l s p);rw[<-d];unfold cT at d;refine E5 ?_;refine o9 (ι:=Nat×List As) (fun i=>i.1<=l.length/\∀j,j<i.1->I1 s (l.getD j LY).1 p=false) (fun i=>[(0,l9 b),(6,.slice a l.length n),(7,.int .i64 (l.length:Nat)),(8,.int .i64 (i.1:Nat))]) (fun i=>H8 b s p c x::bP x.ia c.a5M x.ic::i.2) (fun i=>l.length-i.1) (0,[]) ⟨by simp,fun j hj=>by simp at hj⟩ sub i_ ?_;rintro⟨i,Z⟩ ⟨h6,r⟩;simp only at h6 r;refine R6 ?_ ?_<;>intro h
 ·have g:i<l.length:=by have:=qr h;omega
  have h7:=DB M g;have hm:=hl _ (DA g);obtain⟨y,O⟩:=o7 (l.getD i LY);obtain⟨q,Q⟩:=o7 (I1 s y.1 p);rw[<-O] at hm;refine p_ ?_;refine r_ ((w8 rfl (fun w e=>a1z e M (i:=i) qb g) (by rfl)).eq (v':=.agg [B y.1,.int .i64 (y.2.1:Nat),.bool y.2.2,.bool false,.int .u64 0,.int .u64 0].toArray) (by rw[O])) ?_;refine p_ ?_;intro S;refine O2 ?_;refine c_ (S5 b s y.1 p c x qb hp qb) pre ?_;rintro v A ⟨rfl,rfl⟩;rw[<-Q];refine R6 ?_ ?_<;>intro h2
  ·have T:I1 s y.1 p=false:=(by rw[<-Q];simpa using h2);rw[show H4 s y.1 p=p from by unfold H4;rw[T];rfl];refine y9 ?_;refine l8 (i+1,_::Z) ⟨g,fun j hj=>?_⟩ qg sub (fun w e=>(tk (C:=[_,_,_])).hp e);rcases kd.1 hj with t|rfl
   ·exact r j t
   ·rw[<-O];exact T
  ·have U:I1 s y.1 p=true:=(by rw[<-Q];simpa using h2);have D:l.find? (fun x=>I1 s x.1 p)=some y:=(by rw[O];exact Ma g r (by rw[<-O];exact U));rw[D,z6] at d;have e2:H4 s y.1 p=p+y.1.length:=(by unfold H4;rw[U];rfl);have u:=(gv (s:=s) (w:=y.1) hp).2;rw[e2] at u⊢;obtain⟨P,hP⟩:=o7 (p+y.1.length);rw[<-hP] at d u⊢;obtain⟨q1,k⟩:=o7 (decide (10<=y.2.1));obtain⟨q2,z⟩:=o7 (I1 s [60] P);refine u7 ?_;obtain⟨PE,f⟩:=o7 (if(q1&&q2)=true then P+1 else P);refine w6 [(0,l9 b),(5,l9 S),(24,.bool (q1&&q2))] (H8 b s PE c x::.blk S (.cells (B y.1::cZ ⟨y.2.1,y.2.2,false,0,0⟩).toArray 371)::bP x.ia c.a5M x.ic::Z) ?_ ?_
   ·cases q1
    ·refine E5 ?_;refine f_ ((I4 rfl rfl).eq (v':=.bool false) (qn ((qz).trans k.symm))) ?_;refine y9 ?_;(first|refine u_ ?_|(refine v_ ?_;fail));refine p_ ?_;subst f;exact o_ sub (fun w e=>(tk (C:=[_,_,_])).hp e)
    ·refine E5 ?_;refine f_ ((I4 rfl rfl).eq (v':=.bool true) (qn ((qz).trans k.symm))) ?_;refine y9 ?_;(first|refine u_ ?_|(refine v_ ?_;refine c_ (S5 b s [60] P c x qb u qp) pre ?_;rintro v A ⟨rfl,rfl⟩;rw[<-z]));refine p_ ?_;rw[show H4 s [60] P=PE from by rw[f];unfold H4;rw[<-z];rfl];exact o_ sub (fun w e=>(tk (C:=[_,_,_])).hp e)
   refine u7 ?_;refine n7 (ι:=IT×Nat) (fun i=>W=some i) (fun i=>[(0,l9 b),(5,l9 S)]) (fun i=>H8 b s i.2 c x::.blk S (.cells (B y.1::cZ i.1).toArray 371)::bP x.ia c.a5M x.ic::Z) ?_ ?_
   ·refine o8 rfl ?_ ?_<;>intro t
    ·rw[zu t] at f;rw[kw] at t;have V:I1 s [60] P=true:=z.symm.trans t.2;rw[zu ⟨qr (k.symm.trans t.1),V⟩] at d;unfold xX at d;have o:=(gv (s:=s) (w:=[60]) u).2;rw[show H4 s [60] P=P+1 from by unfold H4;rw[V];rfl] at o;rw[f];refine O2 ?_;refine n5 (Y0 b s 4294967295 (P+1) c x qb o qp) pre rfl (fun v h=>⟨by rw[d,h.1];rfl,h.2⟩) ?_;rintro v A ⟨r1,X,rfl,rfl⟩;refine E5 ?_;have b1:=cp o X;rw[X,z6] at d;refine p_ ?_;refine n5 (D7 b s [46] r1.2 c x qb b1.2.2 qp) pre rfl (fun v h=>⟨by rw[d,h.1];rfl,h.2⟩) ?_;rintro v A ⟨p2,Y,rfl,rfl⟩;refine u7 ?_;have b2:=C_ Y x6;rw[Y,z6] at d;refine p_ ?_;refine n5 (Y0 b s 4294967295 p2 c x qb b2.2.2 qp) pre rfl (fun v h=>⟨by rw[d,h.1];rfl,h.2⟩) ?_;rintro v A ⟨r3,h0,rfl,rfl⟩;refine E5 ?_;have b3:=cp b2.2.2 h0;rw[h0,z6] at d;obtain⟨q3,J⟩:=o7 (decide (0<r3.1));refine E5 ?_;refine f_ ((D_ rfl rfl).eq (v':=.bool q3) (qn ((qz).trans J.symm))) ?_;refine n5 (G8 q3) qw rfl (fun v h=>⟨by rw[d,zk (zq (J.symm.trans h.1))],h.2⟩) ?_;rintro v A ⟨Q,rfl,rfl⟩;refine u7 ?_;rw[zu (qr (J.symm.trans Q))] at d;refine p_ ?_;refine n5 (D7 b s [62] r3.2 c x qb b3.2.2 qp) pre rfl (fun v h=>⟨by rw[d,h.1];rfl,h.2⟩) ?_;rintro v A ⟨p4,h8,rfl,rfl⟩;refine u7 ?_;rw[h8,Qj] at d;exact g_ _ d (fun w e=>(tk (C:=[_,_,_])).hp e)
    ·rw[zk (by rw[t];simp)] at f;rw[zk (by rintro⟨h1,h4⟩;rw[kr h1] at k;rw[k,z,h4] at t;cases t)] at d;rw[f];refine u7 ?_;exact g_ _ d (fun w e=>(tk (C:=[_,_,_])).hp e)
   rintro⟨it,P2⟩ h9;refine u7 ?_;refine D8 [5,7] [8,9,13] [H8 b s P2 c x,.blk S (.cells (B y.1::cZ it).toArray 371)] 14 ?_;refine wd [0,1,2,3,4,5,6,7] ?_;refine h_ 8 rfl i6 ?_;refine C4 cZ it rfl ?_;intro q4 k9;refine F7 ?_;refine dJ (.inr (by exact aV (by(first|exact fun _ h=>h|(repeat first|exact sZ|refine oe (by repeat first|exact List.Mem.head _|apply List.Mem.tail) ?_|exact fun _ h=>h|refine sub_skip ?_))))) ?_;refine h_ 9 rfl i6 ?_;refine u6 cZ (l:=c.a5M) (m:=[it]) an gq (by show(c.a5M.length+1)*32<=_;omega) ?_;intro k0 k8 _;refine E6 [10,11,12,13] ?_;refine A2 ?_;exact m6 rfl _ ⟨(it,P2),k0,k8,h9,rfl,rfl⟩ fun w e=>x8.left tk e
 ·have h5:i=l.length:=by have:=zq h;omega
  subst h5;rw[GW r] at d;refine C6 ?_;refine n5 (G8 false) qw rfl (fun v h=>⟨d,h.2⟩) ?_;rintro v A ⟨hl,rfl,rfl⟩;refine u7 ?_
  cases hl
section
variable{ι:Type}(s:Bs)(Rr:ι->Nat->ι->Nat->Prop)(Nn:ι->Nat->Prop)
inductive pr:ι->Nat->Nat->ι->Nat->Prop
 |one {i i1:ι} {p p1:Nat}:Rr i p i1 p1->pr i p 1 i1 p1
 |more {i i1 i2:ι} {p p1 p2 n:Nat}:pr i p n i1 p1->I1 s [32] p1=true->Rr i1 (p1+1) i2 p2->pr i p (n+1) i2 p2
def Oc(i:ι)(p:Nat):Prop:=Nn i p\/∃n i1 p1,pr s Rr i p n i1 p1/\I1 s [32] p1=true/\Nn i1 (p1+1)
end
theorem nr{ι:Type}(b:Nat)(s:Bs)(hs:s.length<=1000000000)(f:FuncId)[HF prog f](FH:List Value)(l:l_->Prop)[Mn l](m:ι->CM)(cl:ι->CL)(Z:ι->List As)(ok:ι->Nat->Prop)(Rr:ι->Nat->ι->Nat->Prop)(D:ι->Nat->Prop)(J:∀i p a p',ok i p->p<=s.length->Rr i p a p'->p<=p'/\p'<=s.length/\ok a p')(d:∀i p,ok i p->ok i (p+1))(e:∀i p,ok i p->p<=s.length->Cx prog f FH l (H8 b s p (m i) (cl i)::Z i) (fun v A=>∃a p',Rr i p a p'/\v=.tuple #[]/\A=H8 b s p' (m a) (cl a)::Z a) (fun v=>D i p/\v=N1))(i:ι)(p:Nat)(M:ok i p)(hp:p<=s.length):Cx prog 278 [l9 b,.func (.func f) #[] FH.toArray] l (H8 b s p (m i) (cl i)::Z i) (fun v A=>∃n a p',pr s Rr i p n a p'/\I1 s [32] p'=false/\v=.int .i64 (n:Nat)/\A=H8 b s p' (m a) (cl a)::Z a) (fun v=>Oc s Rr D i p/\v=N1):=by
 refine B7 15 func278 rfl rfl rfl ?_;intro F g;refine E5 ?_;refine kS (ps:=[]) [] rfl rfl rfl (e i p M hp) (fun w y=>by rw[z7];exact y) (fun h z _=>Mn.le z g) rfl rfl (l6.le_refl _) (fun v h=>⟨.inl h.1,h.2⟩) ?_;rintro v A ⟨T,U,x,rfl,rfl⟩;refine u7 ?_;have O:=J _ _ _ _ M hp x;rw[z7];refine o9 (ι:=Nat×ι×Nat) (fun t=>pr s Rr i p t.1 t.2.1 t.2.2/\t.2.2<=s.length/\ok t.2.1 t.2.2/\t.1<=t.2.2+1) (fun t=>[(0,l9 b),(1,.func (.func f) #[] FH.toArray),(5,.int .i64 (t.1:Nat))]) (fun t=>H8 b s t.2.2 (m t.2.1) (cl t.2.1)::Z t.2.1) (fun t=>s.length-t.2.2) (1,T,U) ⟨.one x,O.2.1,O.2.2,by simp⟩ sub i_ ?_;rintro⟨n,j,q⟩ ⟨c,o,r,C⟩;simp only at c o r C;refine p_ ?_;refine c_ (S5 b s [32] q (m j) (cl j) qb o qp) qw ?_;rintro v A ⟨rfl,rfl⟩;refine N8 ?_ ?_<;>intro h
 ·have u:=(gv (s:=s) (w:=[32]) o).2;rw[show H4 s [32] q=q+1 from by unfold H4;rw[h];rfl] at u⊢;refine p_ ?_;refine kS (ps:=[]) [] rfl rfl rfl (e j (q+1) (d _ _ r) u) (fun w y=>by rw[z7];exact y) (fun h z _=>Mn.le z g) rfl rfl (l6.le_refl _) (fun v k=>⟨.inr ⟨n,j,q,c,h,k.1⟩,k.2⟩) ?_;rintro v A ⟨V,X,Q,rfl,rfl⟩;refine u7 ?_;have S:=J _ _ _ _ (d _ _ r) u Q;refine p_ ?_;refine f_ ((p9 rfl rfl qb).eq (v':=.int .i64 ((n+1:Nat):Int)) (by congr 1)) ?_;refine p_ ?_;rw[z7];exact l8 (n+1,V,X) ⟨.more c h Q,S.2.1,S.2.2,by simp only;omega⟩ qg sub i_
 ·rw[show H4 s [32] q=q from by unfold H4;rw[h];rfl];refine L7 ?_;exact d_ rfl rfl (H8 b s q (m j) (cl j)::Z j) ⟨n,j,q,c,h,rfl,rfl⟩ i_
open Go Go.Sl Go.RowKit Go.Proofs.Tryz
section
variable{ι α β:Type}{s:Bs}{one:Nat->Option (α×Nat)}{acc:ι->β}{app:β->α->β}
def GY(one:Nat->Option (α×Nat))(acc:ι->β)(app:β->α->β)(i:ι)(p:Nat)(i':ι)(p':Nat):Prop:=∃r,one p=some r/\acc i'=app (acc i) r.1/\p'=r.2
theorem sd{i b:ι}{p n a:Nat}(h:pr s (GY one acc app) i p n b a):∃l,l.length=n/\acc b=l.foldl app (acc i)/\∀k,dT one s (k+n) p=if I1 s [32] a=true then(dT one s k (a+1)).map fun r=>(l++r.1,r.2) else some (l,a):=by
 induction h with
 |one h=>
  obtain⟨r,c,d,rfl⟩:=h;exact⟨[r.1],rfl,d,fun k=>by rw[dT,c,z6];rfl⟩
 |@more b i2 p a p2 n h hl hr ih=>
  obtain⟨l,e,f,g⟩:=ih;obtain⟨r,c,d,rfl⟩:=hr;refine⟨l++[r.1],by simp[e],by rw[d,f,W0];rfl,fun k=>?_⟩;rw[show k+(n+1)=(k+1)+n from by omega,g (k+1),zu hl,dT,c,z6];split
  ·cases dT one s k (r.2+1)<;>simp
  ·simp
theorem ns(c:∀p r,p<=s.length->one p=some r->p<r.2/\r.2<=s.length){i d:ι}{p n a:Nat}(hp:p<=s.length)(h:pr s (GY one acc app) i p n d a):p+n<=a/\a<=s.length:=by
 induction h with
 |one h=>
  obtain⟨r,b,e,rfl⟩:=h;have:=c _ _ hp b;omega
 |more h hl hr ih=>
  obtain⟨r,b,e,rfl⟩:=hr;have:=iw hl x6;simp only[jp] at this;have:=c _ _ this b;have:=ih hp;omega
theorem sf(c:∀p r,p<=s.length->one p=some r->p<r.2/\r.2<=s.length){i b:ι}{p n a:Nat}(hp:p<=s.length)(h:pr s (GY one acc app) i p n b a)(hl:I1 s [32] a=false):∃l,l.length=n/\acc b=l.foldl app (acc i)/\dT one s (s.length+1) p=some (l,a):=by
 obtain⟨l,d,e,f⟩:=sd h;have:=ns c hp h;refine⟨l,d,e,?_⟩;rw[show s.length+1=(s.length+1-n)+n from by omega,f,hl];rfl
theorem sg(c:∀p r,p<=s.length->one p=some r->p<r.2/\r.2<=s.length){i:ι}{p:Nat}(hp:p<=s.length)(h:Oc s (GY one acc app) (fun _ p=>one p=none) i p):dT one s (s.length+1) p=none:=by
 rcases h with h|⟨n,f,g,h,b,d⟩
 ·rw[dT,h,Z6]
 ·obtain⟨l,j,k,e⟩:=sd h;have:=ns c hp h;have a:=iw b x6;simp only[jp] at a;rw[show s.length+1=(s.length-n+1)+n from by omega,e,zu b,dT,d,Z6];rfl
end
theorem pt{α:Type}(l:List α):∀a:List α,l.foldl (fun a x=>a++[x]) a=a++l:=by
 induction l with
 |nil=>simp
 |cons x t ih=>intro a;rw[Wq,ih];simp
abbrev IS:=List IT×Option Addr×Nat
abbrev pB(g b:Nat):As:=.blk g (.cells #[l9 b] 209)
abbrev isC(c:CM)(i:IS):CM:={c with a5M:=i.1}
abbrev Bi(x:CL)(i:IS):CL:={x with ia:=i.2.1,ic:=i.2.2}
abbrev Uc(g b:Nat)(i:IS):List As:=[bP i.2.1 i.1 i.2.2,pB g b]
abbrev Mb(tbl:List NW)(s:Bs):IS->Nat->IS->Nat->Prop:=GY (cT tbl s) (fun i:IS=>i.1) (fun a x=>a++[x])
abbrev ItK(f:FuncId)(tbl:List NW)(b g:Nat)(s:Bs)(c:CM)(x:CL):Prop:=∀(i:IS) (p:Nat),i.1.length<=p->p<=s.length->Cx prog f [l9 g] Gl (H8 b s p (isC c i) (Bi x i)::Uc g b i) (fun v A=>∃i' p',Mb tbl s i p i' p'/\v=.tuple #[]/\A=H8 b s p' (isC c i') (Bi x i')::Uc g b i') (fun v=>cT tbl s p=none/\v=N1)
theorem yG{l:List NW}(h:(l.all fun x=>!x.1.isEmpty&&decide (x.1.length<=100)&&decide (x.2.1<=100))=true):∀x∈l,x.1≠[]/\x.1.length<=100/\x.2.1<=100:=fun x a=>by
 have:=Qv.1 h x a;simp only[kw,jw] at this;refine⟨fun e=>?_,this.1.2,this.2⟩;rw[e] at this;simp at this
theorem DC(b g:Nat)(s:Bs)(c:CM)(x:CL)(hs:s.length<=1000000000):ItK 279 jl b g s c x:=fun i p m hp=>by
 refine B7 4 func279 rfl rfl rfl ?_;intro F hg;refine u7 ?_;refine D8 [0] [1,2] [pB g b] 3 ?_;refine wd [0] ?_;refine h_ 1 rfl i6 ?_;refine c_ pq qw ?_;rintro v A ⟨a,rfl,rfl⟩;refine ah ?_;refine h_ 2 rfl i6 ?_;refine n5 (Rr:=[.own (.slice (some a) 5 5) 371 6 (Dz jl),pB g b]) (Bh b s p (isC c i) (Bi x i) jl (some a) 5 hs hp (yG qp) qp qg) (fun h d ⟨n,e⟩=>⟨hg.le d,A3.rd e .del⟩) rfl (fun v h=>h) ?_;rintro v A ⟨r,f,j,k,rfl,rfl⟩;refine E6 [] ?_;exact m6 rfl _ ⟨(i.1++[r.1],f,j),r.2,⟨r,k,rfl,rfl⟩,rfl,rfl⟩ fun w l=>x8.left tk l
open Go Go.Sl Go.RowKit Go.Proofs.Tryz
instance:Mn Gl:=⟨fun l r=>r.le l⟩
abbrev P7(c:CM):CM:={c with cond:=false,set:=[],a5M:=[],keys:=[],how:=0,a5S:=false,a5N:=false,a5O:=0,a5U:=[]}
def sh(c:CM)(x:CL)(Z:List As):Prop:=∀h bs,A3 h Z bs->fh c x h
theorem bi{c:CM}{x:CL}{Z:List As}(hs:c.set=[]\/V1 x.sa c.set x.sc∈Z)(d:c.a5M=[]\/bP x.ia c.a5M x.ic∈Z)(f:c.keys=[])(hf:c.a5U=[]\/A4 x.fa c.a5U x.fc∈Z):sh c x Z:=fun h g b=>
 ⟨by rcases hs with e|a;rw[e];exact o0.nil _ _;exact dR b a,by rcases d with e|a;rw[e];exact o0.nil _ _;exact dR b a,⟨[],by rw[f];rfl,o0.nil _ _,fun _ h=>by cases h⟩,by rcases hf with e|a;rw[e];exact o0.nil _ _;exact dR b a⟩
abbrev si(f:FuncId)(b:Nat)(s:Bs)(Rd:CM->Nat->Option (CM×Nat)):Prop:=∀(c:CM) (p:Nat),p<=s.length->Cx prog f [l9 b] Gl [H8 b s p (P7 c) G_] (fun v A=>∃r x Z,Rd (P7 c) p=some r/\v=.tuple #[]/\A=H8 b s r.2 r.1 x::Z/\sh r.1 x Z) (fM (Rd (P7 c) p))
theorem si.of_x{f:FuncId}{b:Nat}{s:Bs}{a:CM->Nat->Option (CM×Nat)}(h:Ob f b s a)(e:∀c p r,a (P7 c) p=some r->r.1.set=[]/\r.1.a5M=[]/\r.1.keys=[]/\r.1.a5U=[]):si f b s a:=fun c p hp=>
 (h (P7 c) G_ p hp).mono (fun _ h=>h) (fun v A ⟨r,d,g,i⟩=>⟨r,G_,[],d,g,i,by
  obtain⟨j,k,a3,a4⟩:=e c p r d;exact bi (.inl j) (.inl k) a3 (.inl a4)⟩) (fun _ h=>h)
theorem cr{c:CM}{s:Bs}{p:Nat}{r:CM×Nat}(h:I9 c s p=some r):∃w e,r=({c with box:=w},e):=by
 unfold I9 at h;obtain⟨q,_,a⟩:=kx.1 h;exact⟨q.1,q.2,a.symm⟩
theorem wg(a:List (Bs×Nat×Bool))(s:Bs)(p:Nat):oA a s p=(dT (cT a s) s (s.length+1) p).bind fun q=>if q.1.length<=8 then(H_ s [41] q.2).map fun e=>(q.1,e) else none:=rfl
theorem dl{a:List NW}(b:∀x∈a,x.1≠[]/\x.1.length<=100/\x.2.1<=100)(s:Bs)(p:Nat)(r:IT×Nat)(hp:p<=s.length)(h:cT a s p=some r):p<r.2/\r.2<=s.length:=GX hp (fun x c=>(b x c).1) h
theorem Bj{a:List NW}(c:∀x∈a,x.1≠[]/\x.1.length<=100/\x.2.1<=100){s:Bs}(i:IS)(p:Nat)(b:IS)(p':Nat)(h:i.1.length<=p)(hp:p<=s.length)(r:Mb a s i p b p'):p<=p'/\p'<=s.length/\b.1.length<=p':=by
 obtain⟨q,d,e,rfl⟩:=r;have:=dl c s p q hp d;rw[show b.1=i.1++[q.1] from e,zz,jp];omega
theorem nt:∀x∈jl,x.1≠[]/\x.1.length<=100/\x.2.1<=100:=yG qp
theorem DE(b:Nat)(s:Bs)(hs:s.length<=1000000000):si 213 b s (fun c p=>jt c s p):=fun c p hp=>by
 refine B7 13 func213 rfl rfl rfl ?_;intro F hg;obtain⟨W,a⟩:=o7 (jt (P7 c) s p);simp only;rw[<-a];unfold jt at a;refine p_ ?_;intro m;refine p_ ?_;refine n5 (dY b s hs (P7 c) G_ p hp) pre rfl (fun v h=>⟨by rw[a,show I9 (P7 c) s p=none from h.1];rfl,h.2⟩) ?_;rintro v A ⟨y,d,rfl,rfl⟩;refine u7 ?_;replace d:I9 (P7 c) s p=some y:=d;have x:=lw hp d;obtain⟨w,z,rfl⟩:=cr d;rw[d,z6] at a;simp only at a x;refine p_ ?_;refine n5 (D7 b s [32,40] z {P7 c with box:=w} G_ qb x.2 qp) pre rfl (fun v h=>⟨by rw[a,h.1];rfl,h.2⟩) ?_;rintro v A ⟨C,e,rfl,rfl⟩;refine u7 ?_;have k:=C_ e x6;rw[e,z6,wg] at a;refine u7 ?_;refine O7 129 5 ?_;refine y9 ?_;refine n5 (nr b s hs 279 [l9 m] Gl (isC {P7 c with box:=w}) (Bi G_) (Uc m b) (fun i p=>i.1.length<=p) (Mb jl s) (fun _ p=>cT jl s p=none) (Bj nt) (fun _ _ h=>by omega) (DC b m s _ _ hs) ([],none,0) C (zw _) k.2.2) pre rfl (fun v h=>⟨by rw[a,sg (dl nt s) k.2.2 h.1];rfl,h.2⟩) ?_;rintro v A ⟨n,i,D,f,o,rfl,rfl⟩;obtain⟨l,g,j,J⟩:=sf (dl nt s) k.2.2 f o;rw[pt,j7] at j;rw[J,z6] at a;obtain⟨q,r⟩:∃q,q=decide (n<=8):=⟨_,rfl⟩;refine f_ ((F_ rfl rfl).eq (v':=.bool q) (qn ((qz).trans r.symm))) ?_;refine n5 (G8 q) qw rfl (fun v h=>⟨by rw[a,zk (by rw[g];exact zq (r.symm.trans h.1))];rfl,h.2⟩) ?_;rintro v A ⟨t,rfl,rfl⟩;refine u7 ?_;rw[zu (by rw[g];exact qr (r.symm.trans t))] at a;have M:=ns (dl nt s) k.2.2 f;refine p_ ?_;refine n5 (D7 b s [41] D (isC {P7 c with box:=w} i) (Bi G_ i) qb M.2 qp) pre rfl (fun v h=>⟨by rw[a,h.1];rfl,h.2⟩) ?_;rintro v A ⟨O,u,rfl,rfl⟩;refine u7 ?_;rw[u,<-j] at a;exact m6 rfl (H8 b s O (isC {P7 c with box:=w} i) (Bi G_ i)::[bP i.2.1 i.1 i.2.2]) ⟨_,_,_,a,rfl,rfl,bi (.inl rfl) (.inr (.head _)) rfl (.inl rfl)⟩ fun w Q=>x8.left tk Q
theorem DF(b:Nat)(s:Bs)(hs:s.length<=1000000000):si 218 b s (fun c p=>cV c s p fun c e=>I9 c s e):=fun c p hp=>by
 refine B7 12 func218 rfl rfl rfl ?_;intro F hg;obtain⟨W,a⟩:=o7 (cV (P7 c) s p fun c e=>I9 c s e);simp only;rw[<-a];unfold cV at a;refine p_ ?_;refine n5 (D7 b s [32] p (P7 c) G_ qb hp qp) pre rfl (fun v h=>⟨by rw[a,h.1];rfl,h.2⟩) ?_;rintro v A ⟨n,g,rfl,rfl⟩;refine u7 ?_;have l:=C_ g x6;rw[g,z6] at a;refine y9 ?_;refine n5 (jX b s n (P7 c) G_ hs l.2.2) pre rfl (fun v h=>⟨by rw[a,h.1];rfl,h.2⟩) ?_;rintro v A ⟨f,j,k,i,rfl,rfl⟩;refine O2 ?_;have o:=jW l.2.2 i;rw[i,z6] at a;simp only at a;refine p_ ?_;refine n5 (dY b s hs {P7 c with set:=f.1} {G_ with sa:=j,sc:=k} f.2 o.2.1) pre rfl (fun v h=>⟨by rw[a];exact h.1,h.2⟩) ?_;rintro v A ⟨q,d,rfl,rfl⟩;refine u7 ?_;replace d:I9 {P7 c with set:=f.1} s f.2=some q:=d;obtain⟨w,m,rfl⟩:=cr d;exact m6 rfl (H8 b s m {P7 c with set:=f.1,box:=w} {G_ with sa:=j,sc:=k}::[V1 j f.1 k]) ⟨({P7 c with set:=f.1,box:=w},m),_,_,a.trans d,rfl,rfl,bi (.inr (.head _)) (.inl rfl) rfl (.inl rfl)⟩ fun w r=>x8.left tk r
theorem eP{s w:Bs}{p:Nat}(hp:p<=s.length):H4 s w p<=s.length:=(gv hp).2
theorem pu{c:CM}{s:Bs}{p:Nat}{r:CM×Nat}(hp:p<=s.length)(h:(dy s p).map (fun q=>({c with a5O:=q.1,a5N:=true},q.2))=some r):∃n e,dy s p=some (n,e)/\r=({c with a5O:=n,a5N:=true},e)/\e<=s.length:=by
 obtain⟨q,a,b⟩:=kx.1 h;refine⟨q.1,q.2,a,b.symm,?_⟩;unfold dy at a;obtain⟨t,i,d⟩:=zc.1 a;obtain⟨e,f,g⟩:=kx.1 d;have:=C_ f x6;subst g;exact this.2.2
theorem GZ(b:Nat)(s:Bs)(hs:s.length<=1000000000):si 217 b s (fun c p=>cV c s p (aJ s fun c e=>oC c s e)):=fun c p hp=>by
 refine B7 48 func217 rfl rfl rfl ?_;intro F hg;obtain⟨W,a⟩:=o7 (cV (P7 c) s p (aJ s fun c e=>oC c s e));simp only;rw[<-a];unfold cV at a;refine p_ ?_;refine n5 (D7 b s [32] p (P7 c) G_ qb hp qp) pre rfl (fun v h=>⟨by rw[a,h.1];rfl,h.2⟩) ?_;rintro v A ⟨e1,C,rfl,rfl⟩;refine u7 ?_;have b1:=C_ C x6;rw[C,z6] at a;refine y9 ?_;refine n5 (jX b s e1 (P7 c) G_ hs b1.2.2) pre rfl (fun v h=>⟨by rw[a,h.1];rfl,h.2⟩) ?_;rintro v A ⟨d,g,j,D,rfl,rfl⟩;refine O2 ?_;have b2:=jW b1.2.2 D;rw[D,z6] at a;unfold aJ at a;simp only at a;obtain⟨x,hx⟩:∃x:CL,x={G_ with sa:=g,sc:=j}:=⟨_,rfl⟩;refine p_ ?_;refine n5 (D7 b s [32] d.2 {P7 c with set:=d.1} {G_ with sa:=g,sc:=j} qb b2.2.1 qp) pre rfl (fun v h=>⟨by rw[a,h.1];rfl,h.2⟩) ?_;rintro v A ⟨u,J,rfl,rfl⟩;refine u7 ?_;have V:=C_ J x6;rw[J,z6] at a;unfold oC Pb at a;refine p_ ?_;refine c_ (S5 b s vx u {P7 c with set:=d.1} {G_ with sa:=g,sc:=j} qb V.2.2 qp) pre ?_;rintro v A ⟨rfl,rfl⟩;refine u7 ?_
 -- since
 refine n7 (ι:=CM×Nat) (fun i=>i.2<=s.length/\(∃n h,i.1={P7 c with set:=d.1,a5O:=n,a5N:=h})/\W=(H_ s xZ (vz s i.2).2).bind fun e=>(H_ s [32] (CT s e).2).bind fun e2=>(oz s e2).map fun f=>({i.1 with how:=(vz s i.2).1,a5S:=(CT s e).1,a5U:=f.1},f.2)) (fun i=>[(0,l9 b)]) (fun i=>H8 b s i.2 i.1 {G_ with sa:=g,sc:=j}::[V1 g d.1 j]) ?_ ?_
 ·refine o8 rfl ?_ ?_<;>intro h
  ·rw[zu h] at a;have o:=eP (w:=vx) V.2.2;rw[show H4 s vx u=u+16 from by unfold H4;rw[h];rfl] at o⊢;refine p_ ?_;refine n5 (we b s hs {P7 c with set:=d.1} {G_ with sa:=g,sc:=j} (u+16) o) pre rfl (fun v h=>⟨by rw[a,Option.map_eq_none_iff.1 h.1];rfl,h.2⟩) ?_;rintro v A ⟨r4,X,rfl,rfl⟩;refine u7 ?_;obtain⟨l,k,Y,rfl,r⟩:=pu o X;rw[Y,z6] at a;simp only at a r;refine p_ ?_;refine n5 (D7 b s [32] k {P7 c with set:=d.1,a5O:=l,a5N:=true} {G_ with sa:=g,sc:=j} qb r qp) pre rfl (fun v h=>⟨by rw[a,h.1];rfl,h.2⟩) ?_;rintro v A ⟨Z,M,rfl,rfl⟩;refine u7 ?_;have y:=C_ M x6;rw[M,Qj,z6] at a;exact g_ ({P7 c with set:=d.1,a5O:=l,a5N:=true},Z) ⟨y.2.2,⟨l,true,rfl⟩,a⟩ (fun w m=>x8.left tk m)
  ·rw[zk (by simp[h]),z6] at a;rw[show H4 s vx u=u from by unfold H4;rw[h];rfl];refine u7 ?_;exact g_ ({P7 c with set:=d.1},u) ⟨V.2.2,⟨_,_,rfl⟩,a⟩ (fun w m=>x8.left tk m)
 rintro⟨c4,k⟩ ⟨o,⟨l,t,rfl⟩,a⟩;simp only at o a
 -- plus or minus
 refine H9 0 ?_;refine n7 (ι:=Nat×Nat) (fun i=>i=vz s k/\i.2<=s.length) (fun i=>[(0,l9 b)]) (fun i=>H8 b s i.2 {P7 c with set:=d.1,a5O:=l,a5N:=t,how:=i.1} {G_ with sa:=g,sc:=j}::[V1 g d.1 j]) ?_ ?_
 ·refine p_ ?_;refine c_ (S5 b s [43] k {P7 c with set:=d.1,a5O:=l,a5N:=t} {G_ with sa:=g,sc:=j} qb o qp) pre ?_;rintro v A ⟨rfl,rfl⟩;refine p_ ?_;have r:=eP (w:=[43]) o;refine o8 rfl ?_ ?_<;>intro h
  ·rw[show H4 s [43] k=k+1 from by unfold H4;rw[h];rfl] at r⊢;refine au ?_;exact g_ (1,k+1) ⟨by unfold vz;rw[zu h],r⟩ (fun w m=>x8.left tk m)
  ·rw[show H4 s [43] k=k from by unfold H4;rw[h];rfl];refine p_ ?_;refine c_ (S5 b s [45] k {P7 c with set:=d.1,a5O:=l,a5N:=t} {G_ with sa:=g,sc:=j} qb o qp) pre ?_;rintro v A ⟨rfl,rfl⟩;refine p_ ?_;have y:=eP (w:=[45]) o;refine o8 rfl ?_ ?_<;>intro U
   ·rw[show H4 s [45] k=k+1 from by unfold H4;rw[U];rfl] at y⊢;refine au ?_;exact g_ (2,k+1) ⟨by unfold vz;rw[zk (by rw[h];simp),zu U],y⟩ (fun w m=>x8.left tk m)
   ·rw[show H4 s [45] k=k from by unfold H4;rw[U];rfl];refine u7 ?_;exact g_ (0,k) ⟨by unfold vz;rw[zk (by rw[h];simp),zk (by rw[U];simp)],o⟩ (fun w m=>x8.left tk m)
 rintro⟨O,Z⟩ ⟨h0,r⟩;rw[<-h0] at a;simp only at r a;refine p_ ?_;refine n5 (D7 b s xZ Z {P7 c with set:=d.1,a5O:=l,a5N:=t,how:=O} {G_ with sa:=g,sc:=j} qb r qp) pre rfl (fun v h=>⟨by rw[a,h.1];rfl,h.2⟩) ?_;rintro v A ⟨z,Q,rfl,rfl⟩;refine u7 ?_;have y:=C_ Q x6;rw[Q,z6] at a;refine y9 ?_;refine c_ (S5 b s cU z {P7 c with set:=d.1,a5O:=l,a5N:=t,how:=O} {G_ with sa:=g,sc:=j} qb y.2.2 qp) pre ?_;rintro v A ⟨rfl,rfl⟩;refine O2 ?_;have S:CT s z=(I1 s cU z,H4 s cU z):=by
  unfold CT H4
  cases I1 s cU z<;>rfl
 have b7:=eP (w:=cU) y.2.2;rw[S] at a;obtain⟨e7,h1⟩:=o7 (H4 s cU z);obtain⟨q,hq⟩:=o7 (I1 s cU z);rw[<-h1] at a b7⊢;rw[<-hq] at a⊢;simp only at a;refine p_ ?_;refine n5 (D7 b s [32] e7 {P7 c with set:=d.1,a5O:=l,a5N:=t,how:=O,a5S:=q} {G_ with sa:=g,sc:=j} qb b7 qp) pre rfl (fun v h=>⟨by rw[a,h.1];rfl,h.2⟩) ?_;rintro v A ⟨e8,T,rfl,rfl⟩;refine u7 ?_;have b8:=C_ T x6;rw[T,z6] at a;refine y9 ?_;refine n5 (sb b s e8 {P7 c with set:=d.1,a5O:=l,a5N:=t,how:=O,a5S:=q} {G_ with sa:=g,sc:=j} hs b8.2.2) pre rfl (fun v h=>⟨by rw[a,h.1];rfl,h.2⟩) ?_;rintro v A ⟨r9,a9,d9,h3,rfl,rfl⟩;refine O2 ?_;rw[h3,Qj] at a;exact m6 rfl (H8 b s r9.2 {P7 c with set:=d.1,a5O:=l,a5N:=t,how:=O,a5S:=q,a5U:=r9.1} {G_ with sa:=g,sc:=j,fa:=a9,fc:=d9}::[V1 g d.1 j,A4 a9 r9.1 d9]) ⟨_,_,_,a,rfl,rfl,bi (.inr (.head _)) (.inl rfl) rfl (.inr (.tail _ (.head _)))⟩ fun w m=>x8.left tk m
theorem SM(s:Bs)(p:Nat):([40]:Bs).isPrefixOf (s.drop p)=I1 s [40] p:=Pt (c:=40) qp
theorem DG(b:Nat)(s:Bs)(hs:s.length<=1000000000):si 214 b s (fun c p=>jA c s p):=fun c p hp=>by
 refine B7 23 func214 rfl rfl rfl ?_;intro F hg;obtain⟨W,a⟩:=o7 (jA (P7 c) s p);simp only;rw[<-a];unfold jA at a;refine p_ ?_;refine n5 (dY b s hs (P7 c) G_ p hp) pre rfl (fun v h=>⟨by rw[a,show I9 (P7 c) s p=none from h.1];rfl,h.2⟩) ?_;rintro v A ⟨y,d,rfl,rfl⟩;refine u7 ?_;replace d:I9 (P7 c) s p=some y:=d;have x:=lw hp d;obtain⟨w,z,rfl⟩:=cr d;rw[d,z6] at a;simp only at a x;refine p_ ?_;refine n5 (D7 b s [32] z {P7 c with box:=w} G_ qb x.2 qp) pre rfl (fun v h=>⟨by rw[a,h.1];rfl,h.2⟩) ?_;rintro v A ⟨l,f,rfl,rfl⟩;refine u7 ?_;have m:=C_ f x6;rw[f,z6] at a;refine p_ ?_;refine c_ (aN b s l {P7 c with box:=w} G_ qb m.2.2) pre ?_;rintro v A ⟨rfl,rfl⟩;refine e_ rfl (ai (s.drop l) [40]) qw rfl ?_;rw[SM];refine u7 ?_;refine n7 (ι:=(List Bs×Option Addr×Nat)×Nat) (fun i=>i.2<=s.length/\W=(mE s i.2).map fun r=>({P7 c with box:=w,a5U:=i.1.1,data:=r.1},r.2)) (fun i=>[(0,l9 b)]) (fun i=>[H8 b s i.2 {P7 c with box:=w,a5U:=i.1.1} {G_ with fa:=i.1.2.1,fc:=i.1.2.2},A4 i.1.2.1 i.1.1 i.1.2.2]) ?_ ?_
 ·refine o8 rfl ?_ ?_<;>intro h
  ·rw[zu h] at a;refine y9 ?_;refine n5 (sb b s l {P7 c with box:=w} G_ hs m.2.2) pre rfl (fun v h=>⟨by rw[a,h.1];rfl,h.2⟩) ?_;rintro v A ⟨o,a3,e,g,rfl,rfl⟩;refine O2 ?_;have C:=LW m.2.2 g;rw[g,z6] at a;refine p_ ?_;refine n5 (D7 b s [32] o.2 {P7 c with box:=w,a5U:=o.1} {G_ with fa:=a3,fc:=e} qb C.2.1 qp) pre rfl (fun v h=>⟨by rw[a,h.1];rfl,h.2⟩) ?_;rintro v A ⟨q,j,rfl,rfl⟩;refine u7 ?_;have n:=C_ j x6;rw[j,z6] at a;exact g_ ((o.1,a3,e),q) ⟨n.2.2,a⟩ (fun w k=>x8.left tk k)
  ·rw[zk (by rw[h];simp)] at a;refine u7 ?_;exact g_ (([],none,0),l) ⟨m.2.2,a⟩ (fun w k=>(k.addNil 9 1).perm (.swap _ _ _))
 rintro⟨⟨t,a3,e⟩,q⟩ ⟨n,a⟩;simp only at n a;refine y9 ?_;refine n5 (mf b s q {P7 c with box:=w,a5U:=t} {G_ with fa:=a3,fc:=e} qb n) pre rfl (fun v h=>⟨by rw[a,h.1];rfl,h.2⟩) ?_;rintro v A ⟨r5,u,rfl,rfl⟩;refine O2 ?_;rw[u,Qj] at a;exact m6 rfl (H8 b s r5.2 {P7 c with box:=w,a5U:=t,data:=r5.1} {G_ with fa:=a3,fc:=e}::[A4 a3 t e]) ⟨_,_,_,a,rfl,rfl,bi (.inl rfl) (.inl rfl) rfl (.inr (.head _))⟩ fun w k=>x8.left tk k
theorem dZ:∀x∈cI,x.1≠[]/\x.1.length<=100/\x.2.1<=100:=yG qp
abbrev Ha(w:Bs)(q:Bool):List NW:=[(w++[91,93],10,q),(w++[91,72,69,65,68,69,82,93],11,q),(w++[91,84,69,88,84,93],12,q)]
theorem rh:Ct prog 287 [] (fun _=>True) [] (fun v A=>∃a c,v=.slice a 10 c/\A=[.own (.slice a 10 c) 371 6 (Dz cI)]):=by
 refine b_ 41 func287 rfl rfl rfl ?_;intro F _;refine wk 9 ?_;refine x7 rfl rfl rfl rfl rfl rfl (xs:=Dz (cI.take 4)) rfl rfl ?_;rintro z ⟨n,rfl⟩;refine xC ?_;refine x7 rfl rfl rfl rfl rfl rfl (xs:=[.bool false,.bool true]) rfl rfl ?_;rintro D ⟨b,rfl⟩;refine y9 ?_;refine o9 (ι:=Nat×Option Addr×Nat×List As) (fun i=>i.1<=2) (fun i=>[(1,.slice i.2.1 (cI.take (4+3*i.1)).length i.2.2.1),(14,.slice (some b) 2 2),(15,.int .i64 2),(16,.int .i64 (i.1:Nat))]) (fun i=>.own (.slice i.2.1 (cI.take (4+3*i.1)).length i.2.2.1) 371 6 (Dz (cI.take (4+3*i.1)))::.own (.slice (some b) 2 2) 4 1 [.bool false,.bool true]::i.2.2.2) (fun i=>2-i.1) (0,some n,4,[]) x6 sub (fun w f=>x8.left tk f) ?_;rintro⟨j,a,c,Z⟩ J;simp only at J;refine R6 ?_ ?_<;>intro h
 ·have d:j<2:=by have:=qr h;omega
  obtain⟨q,o⟩:=o7 (α:=Bool) (decide (j=1));have p:j<([Value.bool false,Value.bool true]:List Value).length:=d;have M:([Value.bool false,Value.bool true]:List Value)[j]=.bool q:=by
   rcases kd.1 d with O|rfl
   ·obtain rfl:j=0:=(by omega);rw[o];rfl
   ·rw[o];rfl
  obtain⟨W,e⟩:=o7 (α:=Bs) (if q then[66,79,68,89,46,80,69,69,75] else[66,79,68,89]);have g:cI.take (4+3*j)++Ha W q=cI.take (4+3*(j+1)):=by
   rcases kd.1 d with O|rfl
   ·obtain rfl:j=0:=(by omega);rw[e,o];rfl
   ·rw[e,o];rfl
  have u:(cI.take (4+3*j)).length<=10:=by
   rw[zm];exact ju (Nat.min_le_right _ _) qp
  refine C6 ?_;refine f_ (m8 rfl ⟨b,rfl⟩ rfl qb) ?_;refine r_ (i8 rfl (fun w f=>cH (C:=fun v:Value=>[v]) (l:=[.bool false,.bool true]) (i:=j) (j:=0) (v:=.bool q) (f.ownN (t:=4) (a:=some b) ud).2.2.1 (fun _=>rfl) p (jk some M) x6)) ?_;refine E5 ?_;refine w6 [(1,.slice a (cI.take (4+3*j)).length c),(3,.bool q),(4,B W),(14,.slice (some b) 2 2),(15,.int .i64 2),(16,.int .i64 (j:Nat))] (.own (.slice a (cI.take (4+3*j)).length c) 371 6 (Dz (cI.take (4+3*j)))::.own (.slice (some b) 2 2) 4 1 [.bool false,.bool true]::Z) ?_ ?_
  ·refine o8 rfl ?_ ?_<;>intro x
   ·refine p_ ?_;rw[x] at e⊢;rw[e];exact o_ sub i_
   ·refine u7 ?_;rw[x] at e⊢;rw[e];exact o_ sub i_
  have k:W.length<=9:=by rw[e];cases q<;>decide
  clear e;refine y9 ?_;refine f_ (G9 rfl rfl (by have:=k;simp only[zy,zn];omega)) ?_;refine p_ ?_;refine f_ ((y8 rfl (by rfl)).eq (v':=.agg (cZ ⟨10,q,false,0,0⟩).toArray) rfl) ?_;refine f_ ((y8 rfl (by rfl)).eq (v':=.agg (Dy (W++[91,93],10,q)).toArray) rfl) ?_;refine p_ ?_;refine f_ (G9 rfl rfl (by have:=k;simp only[zy,zn];omega)) ?_;refine p_ ?_;refine f_ ((y8 rfl (by rfl)).eq (v':=.agg (cZ ⟨11,q,false,0,0⟩).toArray) rfl) ?_;refine f_ ((y8 rfl (by rfl)).eq (v':=.agg (Dy (W++[91,72,69,65,68,69,82,93],11,q)).toArray) rfl) ?_;refine p_ ?_;refine f_ (G9 rfl rfl (by have:=k;simp only[zy,zn];omega)) ?_;refine p_ ?_;refine f_ ((y8 rfl (by rfl)).eq (v':=.agg (cZ ⟨12,q,false,0,0⟩).toArray) rfl) ?_;refine f_ ((y8 rfl (by rfl)).eq (v':=.agg (Dy (W++[91,84,69,88,84,93],12,q)).toArray) rfl) ?_;refine x7 (vs:=[(0,.agg (Dy (W++[91,93],10,q)).toArray),(1,.agg (Dy (W++[91,72,69,65,68,69,82,93],11,q)).toArray),(2,.agg (Dy (W++[91,84,69,88,84,93],12,q)).toArray)]) rfl rfl rfl rfl rfl rfl (xs:=Dz (Ha W q)) rfl rfl ?_;rintro a37 ⟨y,rfl⟩;refine u6 Dy (l:=cI.take (4+3*j)) (m:=Ha W q) tZ LZ (by show((cI.take (4+3*j)).length+3)*48<=_;omega) ?_;intro r s _;refine p_ ?_;rw[g];refine C6 ?_;refine f_ ((p9 rfl rfl qb).eq (v':=.int .i64 ((j+1:Nat):Int)) (by congr 1)) ?_;refine p_ ?_;exact l8 (j+1,r,s,_::Z) qg qg sub (fun w f=>(tk (C:=[_,_,_])).hp f)
 ·have d:j=2:=by have:=zq h;omega
  subst d;refine L7 ?_;exact d_ rfl rfl [.own (.slice a 10 c) 371 6 (Dz cI)] ⟨a,c,rfl,rfl⟩ (fun w f=>x8.left tk f)
theorem wh(b g:Nat)(s:Bs)(c:CM)(x:CL)(hs:s.length<=1000000000):ItK 286 cI b g s c x:=fun i p n hp=>by
 refine B7 4 func286 rfl rfl rfl ?_;intro F hg;refine u7 ?_;refine D8 [0] [1,2] [pB g b] 3 ?_;refine wd [0] ?_;refine h_ 1 rfl i6 ?_;refine c_ rh qw ?_;rintro v A ⟨a,d,rfl,rfl⟩;refine ah ?_;refine h_ 2 rfl i6 ?_;refine n5 (Rr:=[.own (.slice a 10 d) 371 6 (Dz cI),pB g b]) (Bh b s p (isC c i) (Bi x i) cI a d hs hp dZ qp qg) (fun h e ⟨o,f⟩=>⟨hg.le e,A3.rd f .del⟩) rfl (fun v h=>h) ?_;rintro v A ⟨r,j,k,l,rfl,rfl⟩;refine E6 [] ?_;exact m6 rfl _ ⟨(i.1++[r.1],j,k),r.2,⟨r,l,rfl,rfl⟩,rfl,rfl⟩ fun w m=>x8.left tk m
theorem Hb{c:CM}{s:Bs}{p:Nat}(h:I1 s rF p=true)(a:(dy s (p+15)).map (fun q=>({c with a5O:=q.1,a5N:=true},q.2))=none):vy c s p=none:=by unfold vy;rw[zu h];exact a
theorem Hc(b:Nat)(s:Bs)(hs:s.length<=1000000000):si 216 b s (fun c p=>cV c s p (aJ s fun c e=>oB c s e)):=fun c p hp=>by
 refine B7 29 func216 rfl rfl rfl ?_;intro F hg;obtain⟨W,a⟩:=o7 (cV (P7 c) s p (aJ s fun c e=>oB c s e));simp only;rw[<-a];unfold cV at a;refine p_ ?_;intro m;refine p_ ?_;refine n5 (D7 b s [32] p (P7 c) G_ qb hp qp) pre rfl (fun v h=>⟨by rw[a,h.1];rfl,h.2⟩) ?_;rintro v A ⟨e1,u,rfl,rfl⟩;refine u7 ?_;have b1:=C_ u x6;rw[u,z6] at a;refine u7 ?_;refine D8 [0,1] [2,6] [pB m b] 7 ?_;refine wd [0,1] ?_;refine h_ 2 rfl i6 ?_;refine n5 (jX b s e1 (P7 c) G_ hs b1.2.2) pre rfl (fun v h=>⟨by rw[a,h.1];rfl,h.2⟩) ?_;rintro v A ⟨d,f,g,x,rfl,rfl⟩;refine gj [3,4,5,6] ?_;have b2:=jW b1.2.2 x;rw[x,z6] at a;unfold aJ at a;simp only at a;refine p_ ?_;refine n5 (D7 b s [32] d.2 {P7 c with set:=d.1} {G_ with sa:=f,sc:=g} qb b2.2.1 qp) pre rfl (fun v h=>⟨by rw[a,h.1];rfl,h.2⟩) ?_;rintro v A ⟨o,y,rfl,rfl⟩;refine u7 ?_;have T:=C_ y x6;rw[y,z6] at a;unfold oB at a;refine E5 ?_;refine c_ (S5 b s [40] o {P7 c with set:=d.1} {G_ with sa:=f,sc:=g} qb T.2.2 qp) pre ?_;rintro v A ⟨rfl,rfl⟩;refine u7 ?_;refine O7 129 5 ?_;refine n7 (ι:=IS×Nat) (fun i=>i.2<=s.length/\W=vy {P7 c with set:=d.1,a5M:=i.1.1} s i.2) (fun i=>[(1,l9 m)]) (fun i=>H8 b s i.2 (isC {P7 c with set:=d.1} i.1) (Bi {G_ with sa:=f,sc:=g} i.1)::bP i.1.2.1 i.1.1 i.1.2.2::[pB m b,V1 f d.1 g]) ?_ ?_
 ·refine o8 rfl ?_ ?_<;>intro h
  ·rw[zu h,wg] at a;have z:=eP (w:=[40]) T.2.2;rw[show H4 s [40] o=o+1 from by unfold H4;rw[h];rfl] at z⊢;refine y9 ?_;refine n5 (nr b s hs 286 [l9 m] Gl (isC {P7 c with set:=d.1}) (Bi {G_ with sa:=f,sc:=g}) (Uc m b) (fun i p=>i.1.length<=p) (Mb cI s) (fun _ p=>cT cI s p=none) (Bj dZ) (fun _ _ h=>by omega) (wh b m s _ _ hs) ([],none,0) (o+1) (zw _) z) pre rfl (fun v h=>⟨by rw[a,sg (dl dZ s) z h.1];rfl,h.2⟩) ?_;rintro v A ⟨n,i,p3,D,U,rfl,rfl⟩;obtain⟨l,J,M,hm⟩:=sf (dl dZ s) z D U;rw[pt,j7] at M;rw[hm,z6] at a;obtain⟨q,V⟩:∃q,q=decide (n<=8):=⟨_,rfl⟩;refine f_ ((F_ rfl rfl).eq (v':=.bool q) (qn ((qz).trans V.symm))) ?_;refine n5 (G8 q) qw rfl (fun v h=>⟨by rw[a,zk (by rw[J];exact zq (V.symm.trans h.1))];rfl,h.2⟩) ?_;rintro v A ⟨X,rfl,rfl⟩;refine u7 ?_;rw[zu (by rw[J];exact qr (V.symm.trans X))] at a;have r:=ns (dl dZ s) z D;refine p_ ?_;refine n5 (D7 b s [41] p3 (isC {P7 c with set:=d.1} i) (Bi {G_ with sa:=f,sc:=g} i) qb r.2 qp) pre rfl (fun v h=>⟨by rw[a,h.1];rfl,h.2⟩) ?_;rintro v A ⟨e4,O,rfl,rfl⟩;refine u7 ?_;have Q:=C_ O x6;rw[O,<-M] at a;exact g_ (i,e4) ⟨Q.2.2,a⟩ (fun w j=>x8.left tk j)
  ·rw[zk (by rw[h];simp)] at a;rw[show H4 s [40] o=o from by unfold H4;rw[h];rfl];refine p_ ?_;refine kS (ps:=[]) [V1 f d.1 g] rfl rfl rfl (wh b m s {P7 c with set:=d.1} {G_ with sa:=f,sc:=g} hs ([],none,0) o (zw _) T.2.2) (fun w j=>(tk (C:=[_,_,_])).hp j) pre rfl rfl (l6.le_refl _) (fun v h=>⟨by rw[a,h.1];rfl,h.2⟩) ?_;rintro v A ⟨i,p3,S,rfl,rfl⟩;refine u7 ?_;obtain⟨q,h1,h2,rfl⟩:=S;rw[h1,Qj,z6] at a;have r:=dl dZ s _ _ T.2.2 h1;exact g_ (i,q.2) ⟨r.2,by rw[show i.1=[q.1] from h2];exact a⟩ (fun w j=>x8.left tk j)
 rintro⟨i,t⟩ ⟨r,a⟩;simp only at r a;refine p_ ?_;refine c_ (S5 b s rF t (isC {P7 c with set:=d.1} i) (Bi {G_ with sa:=f,sc:=g} i) qb r qp) pre ?_;rintro v A ⟨rfl,rfl⟩;refine N8 ?_ ?_<;>intro h
 ·have Q:=eP (w:=rF) r;rw[show H4 s rF t=t+15 from by unfold H4;rw[h];rfl] at Q⊢;refine p_ ?_;refine n5 (we b s hs (isC {P7 c with set:=d.1} i) (Bi {G_ with sa:=f,sc:=g} i) (t+15) Q) pre rfl (fun v k=>⟨by rw[a];exact Hb h k.1,k.2⟩) ?_;rintro v A ⟨r6,Y,rfl,rfl⟩;refine u7 ?_;obtain⟨n6,e6,Z,rfl,b7⟩:=pu Q Y;exact m6 rfl (H8 b s e6 {isC {P7 c with set:=d.1} i with a5O:=n6,a5N:=true} (Bi {G_ with sa:=f,sc:=g} i)::[bP i.2.1 i.1 i.2.2,V1 f d.1 g]) ⟨_,_,_,by rw[a];unfold vy;rw[zu h,Z];rfl,rfl,rfl,bi (.inr (.tail _ (.head _))) (.inr (.head _)) rfl (.inl rfl)⟩ fun w j=>x8.left tk j
 ·rw[show H4 s rF t=t from by unfold H4;rw[h];rfl];refine u7 ?_;exact m6 rfl (H8 b s t (isC {P7 c with set:=d.1} i) (Bi {G_ with sa:=f,sc:=g} i)::[bP i.2.1 i.1 i.2.2,V1 f d.1 g]) ⟨_,_,_,by rw[a];unfold vy;rw[zk (by rw[h];simp)],rfl,rfl,bi (.inr (.tail _ (.head _))) (.inr (.head _)) rfl (.inl rfl)⟩ fun w j=>x8.left tk j
structure KA where
 l:List KM
 a:Option Addr
 c:Nat
abbrev KA.own(y:KA):As:=a1u y.a y.l y.c
structure KT where
 y:KA
 D:List KA
 S:List As
abbrev px(c:CM)(t:KT):CM:={c with keys:=t.y.l.map KM.k}
abbrev nu(x:CL)(t:KT):CL:={x with ka:=t.y.a,kc:=t.y.c}
abbrev wi(t:KT):List As:=t.y.own::(t.D.map KA.own++t.S)
structure wj(t:KT):Prop where
 len:t.y.l.length<=32
 set:∀m∈t.y.l,EQ m.k
 own:∀m∈t.y.l,m.k.set=[]\/V1 m.a m.k.set m.c∈t.S
def KA.le(x y:KA):Prop:=y.a=x.a/\y.c=x.c/\x.l.length<=y.l.length
inductive mO:List KA->List KA->Prop
 |nil:mO [] []
 |cons {x y:KA} {l m:List KA}:x.le y->mO l m->mO (x::l) (y::m)
theorem mO.refl:∀l:List KA,mO l l
 |[]=>.nil
 |x::l=>.cons ⟨rfl,rfl,z1 _⟩ (mO.refl l)
theorem mO.trans{a b c:List KA}(h:mO a b)(k:mO b c):mO a c:=by
 induction h generalizing c with
 |nil=>exact k
 |cons h _ ih=>
  cases k with
  |cons k1 k2=>exact .cons ⟨k1.1.trans h.1,k1.2.1.trans h.2.1,ju h.2.2 k1.2.2⟩ (ih k2)
theorem mO.split{a b N:List KA}:∀{M:List KA},mO (M++a) b->∃N B,b=N++B/\mO a B
 |[],h=>⟨[],b,rfl,h⟩
 |m::M,h=>by
  cases h with
  |cons h1 h2=>
   obtain⟨N,B,e,k⟩:=mO.split (N:=[]) h2;exact⟨_::N,B,by rw[e];rfl,k⟩
structure cL(t u:KT):Prop where
 len:t.y.l.length<=u.y.l.length
 arr:∃N B,u.y::u.D=N++B/\mO (t.y::t.D) B
 rest:∃T,u.S=T++t.S
theorem cL.refl(t:KT):cL t t:=⟨z1 _,⟨[],_,rfl,mO.refl _⟩,⟨[],rfl⟩⟩
theorem cL.trans{t u v:KT}(h:cL t u)(k:cL u v):cL t v:=by
 refine⟨ju h.len k.len,?_,?_⟩
 ·obtain⟨N,B,e,d⟩:=h.arr;obtain⟨f,m,b,a⟩:=k.arr;rw[e] at a;obtain⟨g,i,j,c⟩:=mO.split (N:=[]) a;exact⟨f++g,i,by rw[b,j,zh],d.trans c⟩
 ·obtain⟨T,e⟩:=h.rest;obtain⟨l,b⟩:=k.rest;exact⟨l++T,by rw[b,e,zh]⟩
abbrev QZ(b:Nat)(s:Bs)(p:Nat)(c:CM)(x:CL)(n:Nat)(ka:Option Addr)(kc:Nat):As:=.blk b (.cells #[B s,.int .i64 (p:Nat),B c.tag,.int .i64 (c.kind:Nat),.bool c.uid,.bool c.cond,B c.box,B c.user,B c.pass,B c.a5Q,.slice x.sa c.set.length x.sc,.slice x.ia c.a5M.length x.ic,.slice ka n kc,.int .i64 (c.how:Nat),.bool c.a5S,.bool c.a5N,.int .u64 (c.a5O:Nat),.slice x.fa c.a5U.length x.fc,B c.data] 211)
theorem eQ(b:Nat)(s:Bs)(p:Nat)(c:CM)(x:CL)(t:KT):H8 b s p (px c t) (nu x t)=QZ b s p c x t.y.l.length t.y.a t.y.c:=by
 unfold H8 QZ px nu;rw[zr]
abbrev SN(b:Nat)(s:Bs)(p:Nat)(c:CM)(x:CL)(t:KT)(m:KM)(v:Value)(A:List As):Prop:=∃u:KT,v=.int .i64 (t.y.l.length:Nat)/\A=H8 b s p (px c u) (nu x u)::wi u/\cL t u/\u.S=t.S/\u.y.l=t.y.l++[m]/\t.y.l.length<32
theorem eR(b:Nat)(s:Bs)(p:Nat)(c:CM)(x:CL)(t:KT)(m:KM)(hl:t.y.l.length<=32):Cx prog 343 [l9 b,.agg (bE m).toArray] (fun _=>True) (H8 b s p (px c t) (nu x t)::wi t) (SN b s p c x t m) (fun v=>v=N1):=by
 refine B7 32 func343 rfl rfl rfl ?_;intro F _;rw[eQ];refine p_ ?_;intro e;refine wk 7 ?_;obtain⟨q,g⟩:∃q,q=decide (t.y.l.length<32):=⟨_,rfl⟩;refine f_ ((E_ rfl rfl).eq (v':=.bool q) (qn ((qz).trans g.symm))) ?_;refine n5 (G8 q) qw rfl (fun v h=>h.2) ?_;rintro v A ⟨f,rfl,rfl⟩;refine u7 ?_;have d:t.y.l.length<32:=qr (g.symm.trans f);have i:(t.y.l++[m]).length=t.y.l.length+1:=by simp
 have j:qG (t.y.l++[m])=qG t.y.l++bE m:=by simp
 by_cases hroom:t.y.l.length+1<=t.y.c
 ·refine u7 ?_;refine D8 [5,6] [7,8,12] [.blk e (.cells (bE m).toArray 127),QZ b s p c x t.y.l.length t.y.a t.y.c] 13 ?_;refine wd [0,1,2,3,4,5,6] ?_;refine h_ 7 rfl i6 ?_;refine C4 bE m rfl ?_;rintro k-;refine ah ?_;refine h_ 8 rfl i6 ?_;refine fu (n:=t.y.l.length) (m:=1) (xs:=qG t.y.l) (news:=bE m) rfl rfl uh (fun w a=>(a.ownN ud).2.2.1) rfl rfl (Ar m) hroom rfl ?_;refine E6 [9,10,11,12] ?_;refine NN ?_;exact d_ rfl rfl _ ⟨⟨⟨t.y.l++[m],t.y.a,t.y.c⟩,t.D,t.S⟩,by congr 1;omega,rfl,⟨by simp,⟨[],_,rfl,.cons ⟨rfl,rfl,by simp⟩ (mO.refl _)⟩,[],rfl⟩,rfl,rfl,d⟩ (fun w a=>by
   rw[eQ];show Hp _ _ (QZ b s p c x (t.y.l++[m]).length _ _::.own (.slice _ (t.y.l++[m]).length _) _ 6 (qG (t.y.l++[m]))::(t.D.map KA.own++t.S));rw[i,j];exact a.drop.drop)
 ·refine u7 ?_;refine D8 [5,6] [7,8,12] [.blk e (.cells (bE m).toArray 127),QZ b s p c x t.y.l.length t.y.a t.y.c] 13 ?_;refine wd [0,1,2,3,4,5,6] ?_;refine h_ 7 rfl i6 ?_;refine C4 bE m rfl ?_;rintro k-;refine ah ?_;refine h_ 8 rfl i6 ?_;refine fA (n:=t.y.l.length) (m:=1) (xs:=qG t.y.l) (news:=bE m) rfl rfl ud (fun w a=>(a.ownN ud).2.2.1) rfl rfl rfl (by show _*80<=_;omega) qb hroom qb rfl ?_;intro l o r;refine E6 [9,10,11,12] ?_;refine NN ?_;exact d_ rfl rfl _ ⟨⟨⟨t.y.l++[m],some ⟨l,0,none⟩,o⟩,t.y::t.D,t.S⟩,by congr 1;omega,rfl,⟨by simp,⟨[_],_,rfl,mO.refl _⟩,[],rfl⟩,rfl,rfl,d⟩ (fun w a=>by
   rw[eQ];show Hp _ _ (QZ b s p c x (t.y.l++[m]).length _ _::.own (.slice _ (t.y.l++[m]).length _) _ 6 (qG (t.y.l++[m]))::t.y.own::(t.D.map KA.own++t.S));rw[i,j];exact((tk (C:=[As.own (.slice k _ _) _ _ _,As.blk e _])).hp a).drop.drop.perm (.swap _ _ _))
theorem py(s:Bs)(hs:s.length<=140737488355328)(h:∀c∈s,c.toNat<128):Pu prog 417 [B s] (fun _=>True) (B (s.map Lib.lowerB)):=dS fun w _=>
 Tryz.strings_ToLower_ascii ⟨s.toArray⟩ w hs fun j b a=>h b (J8 a)
theorem Hd(s:Bs)(hs:s.length<=1000000000000):Ct prog 418 [B s] (fun _=>True) [] (fun v A=>A=[]/\∃q:Bool,v=.bool q/\(q=true->∀c∈s,c.toNat<128)):=by
 refine b_ 33 func418 rfl rfl rfl ?_;intro F _;refine O2 ?_;refine o9 (ι:=Nat) (fun i=>i<=s.length/\∀c∈s.take i,c.toNat<128) (fun i=>[(0,B s),(5,.int .i64 (s.length:Nat)),(6,.int .i64 (i:Nat))]) (fun _=>[]) (fun i=>s.length-i) 0 ⟨zw _,by simp⟩ sub i_ ?_;rintro i ⟨x,hc⟩;refine R6 ?_ ?_<;>intro h
 ·have a:i<s.length:=by have:=qr h;omega
  refine y9 ?_;obtain⟨l,m⟩:=o7 (decide (((s.getD i 0).toNat:Int)<33));obtain⟨j,d⟩:=o7 (decide (((s.getD i 0).toNat:Int)>126));obtain⟨r,n⟩:=o7 (decide (((s.getD i 0).toNat:Int)=58));refine w6 [(0,B s),(5,.int .i64 (s.length:Nat)),(6,.int .i64 (i:Nat)),(24,.bool (l||j||r))] [] ?_ ?_
  ·cases l<;>cases j
   all_goals (
    refine y9 ?_;refine f_ ((A6 rfl rfl qb).eq (v':=U8 (s.getD i 0)) (by simp only[jm])) ?_;refine f_ ((E_ rfl rfl).eb m) ?_;refine E5 ?_;(first|refine u_ ?_|(refine v_ ?_;refine f_ ((A6 rfl rfl qb).eq (v':=U8 (s.getD i 0)) (by simp only[jm])) ?_));(first|refine u_ ?_|(refine v_ ?_;refine f_ ((D_ rfl rfl).eb d) ?_));refine O2 ?_;(first|refine u_ ?_|(refine v_ ?_;refine f_ ((A6 rfl rfl qb).eq (v':=U8 (s.getD i 0)) (by simp only[jm])) ?_));(first|refine u_ ?_|(refine v_ ?_;refine f_ ((p8 rfl rfl).eb n) ?_));refine p_ ?_)
   all_goals exact o_ sub i_
  refine N8 ?_ ?_<;>intro t
  ·refine C8 ?_;exact d_ rfl rfl [] ⟨rfl,_,rfl,fun k=>by cases k⟩ i_
  ·refine y9 ?_;have u:j=false:=(by cases l<;>cases j<;>simp at t⊢);have p:(s.getD i 0).toNat<128:=(by have:=zq (d.symm.trans u);omega);refine l8 (i+1) ⟨a,fun c e=>?_⟩ qb sub i_;rw[List.take_add_one] at e;rcases zb.1 e with f|f
   ·exact hc c f
   ·rw[zj a] at f;simp at f;rw[zd,zj a] at p;rw[f];exact p
 ·have g:∀c∈s,c.toNat<128:=by
   have:=zq h;rw[jq qb] at hc;exact hc
  refine u7 ?_;obtain⟨w,o⟩:=o7 (decide (s=[]));refine n7 (ι:=Bool) (fun _=>True) (fun q=>[(2,.bool q)]) (fun _=>[]) ?_ ?_
  ·cases w
   all_goals (
    refine p_ ?_;refine f_ ((E1 rfl rfl).eq (jk (fun b=>Value.bool (!b)) o.symm)) ?_;refine cG ?_)
   all_goals exact g_ _ trivial i_
  rintro q-;refine ov ?_;exact d_ rfl rfl [] ⟨rfl,_,rfl,fun _=>g⟩ i_
theorem pz{w l:Bs}(h:decide (w=l)=true)(hl:2<=l.length):2<=w.length:=by rw[qr h];exact hl
abbrev a1A(k:KY):Prop:=k.set=[]/\k.text.length<=2000000000/\k.field.length<=2000000000/\k.kids=0
abbrev SO(b:Nat)(s:Bs)(p:Nat)(c:CM)(x:CL)(v:Value)(A:List As):Prop:=∃(k:KY) (p':Nat),p<=p'/\p'<=s.length/\a1A k/\v=.agg (bE ⟨k,none,0⟩).toArray/\A=[H8 b s p' c x]
theorem yH{s:Bs}:((E3 s).getD []).length<=32:=by
 cases h:E3 s with
 |none=>simp
 |some f=>exact rZ h
theorem Mc(b:Nat)(s:Bs)(w:Bs)(p:Nat)(c:CM)(x:CL)(hs:s.length<=1000000000)(hp:p<=s.length)(d:w.length<=1000000000)(ha:∀c∈w,c.toNat<128):Cx prog 393 [l9 b,B w] Gl [H8 b s p c x] (SO b s p c x) (fun v=>v=N1):=by
 refine B7 112 func393 rfl rfl rfl ?_;intro F hg;refine p_ ?_;intro f;refine E5 ?_;refine n7 (ι:=Bool) (fun _=>True) (fun q=>[(0,l9 b),(1,B w),(4,l9 f),(13,B w),(14,.bool q)]) (fun _=>[.blk f (.cells (bE ⟨Ao,none,0⟩).toArray 127),H8 b s p c x]) ?_ ?_
 ·refine o8 rfl ?_ ?_<;>intro h
  ·refine u7 ?_;exact g_ _ trivial i_
  refine bD ?_ ?_<;>intro h
  ·refine u7 ?_;exact g_ _ trivial i_
  refine bD ?_ ?_<;>intro h
  ·refine u7 ?_;exact g_ _ trivial i_
  refine bD ?_ ?_<;>intro h
  ·refine u7 ?_;exact g_ _ trivial i_
  refine y9 ?_;exact g_ _ trivial i_
 rintro q-;refine N8 ?_ ?_<;>intro h
 ·refine y9 ?_;refine e_ rfl (dX _ (by show(92::w).length<=_;unfold lp;simp;omega)) qw rfl ?_;refine cG ?_;refine f_ ((y8 rfl rfl).eq (v':=.agg (bE ⟨⟨7,0,(E3 (92::w)).getD [],[],1,[]⟩,none,0⟩).toArray) rfl) ?_;refine C8 ?_;exact G6 rfl rfl ud rfl [H8 b s p c x] ⟨_,p,z1 _,hp,⟨rfl,by simp,ju yH qb,rfl⟩,rfl,rfl⟩ (fun w d=>x8.left tk d)
 refine y9 ?_;refine n7 (ι:=Bool) (fun q=>q=true->2<=w.length) (fun q=>[(0,l9 b),(1,B w),(4,l9 f),(13,B w),(28,.bool q)]) (fun _=>[.blk f (.cells (bE ⟨Ao,none,0⟩).toArray 127),H8 b s p c x]) ?_ ?_
 ·refine o8 rfl ?_ ?_<;>intro h
  ·refine u7 ?_;exact g_ _ (fun _=>pz h qp) i_
  refine bD ?_ ?_<;>intro h
  ·refine u7 ?_;exact g_ _ (fun _=>pz h qp) i_
  refine bD ?_ ?_<;>intro h
  ·refine u7 ?_;exact g_ _ (fun _=>pz h qp) i_
  refine bD ?_ ?_<;>intro h
  ·refine u7 ?_;exact g_ _ (fun _=>pz h qp) i_
  refine y9 ?_;exact g_ (decide (w=[85,78,68,82,65,70,84])) (fun k=>pz k qp) i_
 rintro q m;refine N8 ?_ ?_<;>intro h
 ·have Q:=m h;refine p_ ?_;refine f_ ((H5 rfl rfl rfl qb).eq (v':=B (w.drop 2)) (by rw[jq (by rw[z8];omega)];rfl)) ?_;refine p_ ?_;refine e_ rfl (dX _ (by show(92::w.drop 2).length<=_;unfold lp;simp;omega)) qw rfl ?_;refine cG ?_;refine f_ ((y8 rfl rfl).eq (v':=.agg (bE ⟨⟨7,0,(E3 (92::w.drop 2)).getD [],[],0,[]⟩,none,0⟩).toArray) rfl) ?_;refine C8 ?_;exact G6 rfl rfl ud rfl [H8 b s p c x] ⟨_,p,z1 _,hp,⟨rfl,by simp,ju yH qb,rfl⟩,rfl,rfl⟩ (fun w d=>x8.left tk d)
 refine p_ ?_;refine n5 (D7 b s [32] p c x qb hp qp) pre rfl (fun v h=>h.2) ?_;rintro v A ⟨g,o,rfl,rfl⟩;refine u7 ?_;have D:=C_ o x6;simp only[jp] at D;refine E5 ?_;refine n7 (ι:=Bool) (fun _=>True) (fun q=>[(0,l9 b),(1,B w),(4,l9 f),(45,B w),(46,.bool q)]) (fun _=>[.blk f (.cells (bE ⟨Ao,none,0⟩).toArray 127),H8 b s g c x]) ?_ ?_
 ·refine o8 rfl ?_ ?_<;>intro h
  ·refine u7 ?_;exact g_ _ trivial (fun w d=>x8.left tk d)
  refine y9 ?_;exact g_ _ trivial (fun w d=>x8.left tk d)
 rintro q-;refine N8 ?_ ?_<;>intro h
 ·refine p_ ?_;refine n5 (AT b s g c x qb qb) pre rfl (fun v h=>h.2) ?_;rintro v A ⟨a,e,rfl,rfl⟩;have i:=Bg qb e;refine e_ rfl (dX _ (by unfold lp;omega)) qw rfl ?_;refine cG ?_;refine n5 (G8 _) qw rfl (fun v h=>h.2) ?_;rintro v A ⟨r,rfl,rfl⟩;refine p_ ?_;refine f_ ((y8 rfl rfl).eq (v':=.agg (bE ⟨⟨7,0,(E3 a.1).getD [],[],0,[]⟩,none,0⟩).toArray) rfl) ?_;refine p_ ?_;intro j;refine E5 ?_;refine n7 (ι:=Nat) (fun _=>True) (fun _=>[(0,l9 b),(1,B w),(4,l9 f),(11,l9 j)]) (fun n=>[.blk j (.cells (bE ⟨⟨7,0,(E3 a.1).getD [],[],n,[]⟩,none,0⟩).toArray 127),.blk f (.cells (bE ⟨Ao,none,0⟩).toArray 127),H8 b s a.2 c x]) ?_ ?_
  ·refine o8 rfl ?_ ?_<;>intro h
   ·refine y9 ?_;exact g_ 1 trivial (fun w d=>x8.left tk d)
   ·refine u7 ?_;exact g_ 0 trivial (fun w d=>x8.left tk d)
  rintro n-;refine C6 ?_;refine r_ ((lQ rfl ud (by rfl)).eq (v':=.agg (bE ⟨⟨7,0,(E3 a.1).getD [],[],n,[]⟩,none,0⟩).toArray) rfl) ?_;refine C8 ?_;exact G6 rfl rfl ud rfl [H8 b s a.2 c x] ⟨_,a.2,by omega,by omega,⟨rfl,by simp,ju yH qb,rfl⟩,rfl,rfl⟩ (fun w d=>x8.left tk d)
 refine bD ?_ ?_<;>intro h
 ·refine p_ ?_;refine n5 (Y0 b s 9223372036854775807 g c x qb qb qp) pre rfl (fun v h=>h.2) ?_;rintro v A ⟨a,e,rfl,rfl⟩;refine f_ ((y8 rfl rfl).eq (v':=.agg (bE ⟨⟨8,0,[],[],a.1,[]⟩,none,0⟩).toArray) rfl) ?_;refine p_ ?_;have i:=cp qb e;refine A2 ?_;exact G6 rfl rfl ud rfl [H8 b s a.2 c x] ⟨_,a.2,by omega,by omega,⟨rfl,by simp,by simp,rfl⟩,rfl,rfl⟩ (fun w d=>x8.left tk d)
 refine bD ?_ ?_<;>intro h
 ·refine p_ ?_;refine n5 (Y0 b s 9223372036854775807 g c x qb qb qp) pre rfl (fun v h=>h.2) ?_;rintro v A ⟨a,e,rfl,rfl⟩;refine f_ ((y8 rfl rfl).eq (v':=.agg (bE ⟨⟨9,0,[],[],a.1,[]⟩,none,0⟩).toArray) rfl) ?_;refine p_ ?_;have i:=cp qb e;refine A2 ?_;exact G6 rfl rfl ud rfl [H8 b s a.2 c x] ⟨_,a.2,by omega,by omega,⟨rfl,by simp,by simp,rfl⟩,rfl,rfl⟩ (fun w d=>x8.left tk d)
 refine bD ?_ ?_<;>intro h
 ·refine p_ ?_;refine n5 (Y0 b s 9223372036854775807 g c x qb qb qp) pre rfl (fun v h=>h.2) ?_;rintro v A ⟨a,e,rfl,rfl⟩;refine f_ ((y8 rfl rfl).eq (v':=.agg (bE ⟨⟨10,0,[],[],a.1,[]⟩,none,0⟩).toArray) rfl) ?_;refine p_ ?_;have i:=cp qb e;refine A2 ?_;exact G6 rfl rfl ud rfl [H8 b s a.2 c x] ⟨_,a.2,by omega,by omega,⟨rfl,by simp,by simp,rfl⟩,rfl,rfl⟩ (fun w d=>x8.left tk d)
 refine bD ?_ ?_<;>intro h
 ·refine p_ ?_;refine n5 (R3 b s g c x qb qb) pre rfl (fun v h=>h.2) ?_;rintro v A ⟨a,e,rfl,rfl⟩;refine f_ ((y8 rfl rfl).eq (v':=.agg (bE ⟨⟨11,0,[],a.1,0,[]⟩,none,0⟩).toArray) rfl) ?_;refine p_ ?_;have i:=dj qb e;refine A2 ?_;exact G6 rfl rfl ud rfl [H8 b s a.2 c x] ⟨_,a.2,by omega,by omega,⟨rfl,by simp only;omega,by simp,rfl⟩,rfl,rfl⟩ (fun w d=>x8.left tk d)
 refine bD ?_ ?_<;>intro h
 ·refine p_ ?_;refine n5 (R3 b s g c x qb qb) pre rfl (fun v h=>h.2) ?_;rintro v A ⟨a,e,rfl,rfl⟩;refine f_ ((y8 rfl rfl).eq (v':=.agg (bE ⟨⟨12,0,[],a.1,0,[]⟩,none,0⟩).toArray) rfl) ?_;refine p_ ?_;have i:=dj qb e;refine A2 ?_;exact G6 rfl rfl ud rfl [H8 b s a.2 c x] ⟨_,a.2,by omega,by omega,⟨rfl,by simp only;omega,by simp,rfl⟩,rfl,rfl⟩ (fun w d=>x8.left tk d)
 refine y9 ?_;refine n7 (ι:=Bool) (fun _=>True) (fun q=>[(0,l9 b),(1,B w),(4,l9 f),(45,B w),(88,.bool q)]) (fun _=>[.blk f (.cells (bE ⟨Ao,none,0⟩).toArray 127),H8 b s g c x]) ?_ ?_
 ·refine o8 rfl ?_ ?_<;>intro h
  ·refine u7 ?_;exact g_ _ trivial (fun w d=>x8.left tk d)
  refine bD ?_ ?_<;>intro h
  ·refine u7 ?_;exact g_ _ trivial (fun w d=>x8.left tk d)
  refine y9 ?_;exact g_ _ trivial (fun w d=>x8.left tk d)
 rintro q-;refine N8 ?_ ?_<;>intro h
 ·refine p_ ?_;refine e_ rfl (py w qb ha) qw rfl ?_;refine p_ ?_;refine n5 (R3 b s g c x qb qb) pre rfl (fun v h=>h.2) ?_;rintro v A ⟨a,e,rfl,rfl⟩;refine f_ ((y8 rfl rfl).eq (v':=.agg (bE ⟨⟨13,0,w.map Lib.lowerB,a.1,0,[]⟩,none,0⟩).toArray) rfl) ?_;refine p_ ?_;have i:=dj qb e;refine A2 ?_;exact G6 rfl rfl ud rfl [H8 b s a.2 c x] ⟨_,a.2,by omega,by omega,⟨rfl,by simp only;omega,by simp only[zr];omega,rfl⟩,rfl,rfl⟩ (fun w d=>x8.left tk d)
 refine y9 ?_;refine n5 (G8 _) qw rfl (fun v h=>h.2) ?_;rintro v A ⟨r,rfl,rfl⟩;refine p_ ?_;refine n5 (R3 b s g c x qb qb) pre rfl (fun v h=>h.2) ?_;rintro v A ⟨a,e,rfl,rfl⟩;refine p_ ?_;have i:=dj qb e;refine p_ ?_;refine c_ (Hd a.1 qb) qw ?_;rintro v A ⟨rfl,J,rfl,t⟩;refine n5 (G8 J) qw rfl (fun v h=>h.2) ?_;rintro v A ⟨l,rfl,rfl⟩;refine u7 ?_;have u:=t l;refine p_ ?_;refine n5 (D7 b s [32] a.2 c x qb qb qp) pre rfl (fun v h=>h.2) ?_;rintro v A ⟨M,y,rfl,rfl⟩;refine u7 ?_;have O:=C_ y x6;simp only[jp] at O;refine p_ ?_;refine e_ rfl (py a.1 qb u) qw rfl ?_;refine p_ ?_;refine n5 (R3 b s M c x qb qb) pre rfl (fun v h=>h.2) ?_;rintro v A ⟨z,C,rfl,rfl⟩;refine f_ ((y8 rfl rfl).eq (v':=.agg (bE ⟨⟨13,0,a.1.map Lib.lowerB,z.1,0,[]⟩,none,0⟩).toArray) rfl) ?_;refine p_ ?_;have S:=dj qb C;refine A2 ?_;exact G6 rfl rfl ud rfl [H8 b s z.2 c x] ⟨_,z.2,by omega,by omega,⟨rfl,by simp only;omega,by simp only[zr];omega,rfl⟩,rfl,rfl⟩ (fun w d=>x8.left tk d)
abbrev a1B(b:Nat)(s:Bs)(p:Nat)(c:CM)(x:CL)(t:KT)(v:Value)(A:List As):Prop:=∃(u:KT) (p':Nat),p<=p'/\p'<=s.length/\v=.tuple #[]/\A=H8 b s p' (px c u) (nu x u)::wi u/\cL t u/\wj u
abbrev ri(f:FuncId)(b:Nat)(s:Bs)(deep:Nat):Prop:=∀(p:Nat) (c:CM) (x:CL) (t:KT),p<=s.length->wj t->Cx prog f [l9 b,.int .i64 (deep:Nat)] Gl (H8 b s p (px c t) (nu x t)::wi t) (a1B b s p c x t) (fun v=>v=N1)
theorem cv{t u:KT}{m:KM}(h:wj t)(hs:u.S=t.S)(hl:u.y.l=t.y.l++[m])(c:t.y.l.length<32)(d:EQ m.k)(e:m.k.set=[]\/V1 m.a m.k.set m.c∈t.S):wj u:=by
 refine⟨by rw[hl,zz,jp];omega,fun k b=>?_,fun k b=>?_⟩
 ·rw[hl] at b;rcases zb.1 b with a|a
  ·exact h.set k a
  ·rw[zg.1 a];exact d
 ·rw[hl] at b;rw[hs];rcases zb.1 b with a|a
  ·exact h.own k a
  ·rw[zg.1 a];exact e
theorem Md:vL 392 dU:=fun c=>by
 obtain⟨a,b⟩:=o7 (decide (65<=(rB c).toNat));obtain⟨f,d⟩:=o7 (decide ((rB c).toNat<=90));have e:dU c=(a&&f):=by rw[b,d];exact yF (p:=dU) (q:=fun c=>decide (65<=(rB c).toNat)&&decide ((rB c).toNat<=90)) (by decide+kernel) c
 rw[e];refine b_ 11 func392 rfl rfl rfl ?_;intro F _;refine p_ ?_
 cases a
 all_goals (
  refine p_ ?_;refine e_ rfl (I3 [c] x6) qw rfl ?_;refine f_ ((kW rfl rfl).eq (qn ((show(!Op.bytesLess [rB c] [65])=decide (65<=(rB c).toNat) from by rw[lq,<-decide_not];congr 1;simp).trans b.symm))) ?_;refine y9 ?_;(first|refine u_ ?_|(refine v_ ?_;refine e_ rfl (I3 [c] x6) qw rfl ?_));(first|refine u_ ?_|(refine v_ ?_;refine f_ ((kX rfl rfl).eq (qn (rN.trans d.symm))) ?_));refine y9 ?_)
 all_goals (refine A2 ?_;exact d_ rfl rfl [] qh i_)
theorem DH{s:Bs}{p:Nat}:∀c∈R8 (N9 dU s p),c.toNat<128:=fun c hc=>by
 obtain⟨d,a,rfl⟩:=jx.1 hc;have b:dU d=true:=Qv.1 List.all_takeWhile d a;have:=yF (p:=fun d=>!dU d||decide ((rB d).toNat<128)) (q:=fun _=>true) (by decide+kernel) d;simp only[b,Bool.not_true,K2] at this;exact qr this
abbrev He(t:KT)(X:As):KT:={t with S:=X::t.S}
theorem wl{X Q:As}{t:KT}:(X::Q::wi t).Perm (Q::wi (He t X)):=
 (List.Perm.swap Q X _).trans (.cons _ ((List.Perm.swap _ _ _).trans (.cons _ Qd.symm)))
theorem wm(t:KT)(X:As):cL t (He t X):=⟨z1 _,⟨[],_,rfl,mO.refl _⟩,[X],rfl⟩
theorem Bk{t:KT}(h:wj t)(X:As):wj (He t X):=⟨h.len,h.set,fun m a=>(h.own m a).imp id (fun k=>.tail _ k)⟩
theorem sj(b g d:Nat)(s:Bs)(a:Nat)(n:a<=100)(f:ri 345 b s (a+1))(p:Nat)(c:CM)(x:CL)(t:KT)(hp:p<=s.length)(i:wj t):Cx prog 344 [l9 g,l9 d] Gl (H8 b s p (px c t) (nu x t)::(wi t++[pB g b,.blk d (.cells #[.int .i64 (a:Nat)] 3)])) (fun v A=>∃(u:KT) (p':Nat),p<=p'/\p'<=s.length/\v=.tuple #[]/\A=H8 b s p' (px c u) (nu x u)::(wi u++[pB g b,.blk d (.cells #[.int .i64 (a:Nat)] 3)])/\cL t u/\wj u) (fun v=>v=N1):=by
 refine B7 6 func344 rfl rfl rfl ?_;intro F hg;refine D5 (fun w e=>e.perm (kz (l₁:=H8 b s p (px c t) (nu x t)::wi t))) ?_;simp only[Q7,j7];refine y9 ?_;refine f_ ((p9 rfl rfl qb).eq (v':=.int .i64 ((a+1:Nat):Int)) (by congr 1)) ?_;refine x4 [pB g b,.blk d (.cells #[.int .i64 (a:Nat)] 3)] rfl (f p c x t hp i) (fun w e=>e.perm (kz (l₁:=[_,_]))) pre rfl rfl (l6.le_refl _) (fun v h=>h) ?_;rintro v A ⟨u,p',j,k,rfl,rfl,l,m⟩;refine u7 ?_;exact m6 rfl _ ⟨u,p',j,k,rfl,rfl,l,m⟩ fun w e=>e
theorem wo(b:Nat)(s:Bs)(hs:s.length<=1000000000)(d:Nat)(hd:d<=100)(q1:ri 284 b s d)(hk:d<=8->ri 345 b s (d+1)):ri 345 b s d:=fun p c x t hp i=>by
 refine B7 84 func345 rfl rfl rfl ?_;intro F hg;refine p_ ?_;refine c_ (S5 b s [40] p (px c t) (nu x t) qb hp qp) pre ?_;rintro v A ⟨rfl,rfl⟩;refine N8 ?_ ?_<;>intro h
 ·have b1:=eP (w:=[40]) hp;rw[show H4 s [40] p=p+1 from by unfold H4;rw[h];rfl] at b1⊢;refine y9 ?_;refine x4 [] rfl (q1 (p+1) c x t b1 i) (fun w e=>by rw[z7];exact e) pre rfl rfl (l6.le_refl _) (fun v h=>h) ?_;rintro v A ⟨u,p',h1,h2,rfl,rfl,Q,S⟩;rw[z7];refine p_ ?_;refine n5 (D7 b s [41] p' (px c u) (nu x u) qb h2 qp) pre rfl (fun v h=>h.2) ?_;rintro v A ⟨e2,j,rfl,rfl⟩;refine u7 ?_;have O:=C_ j x6;simp only[jp] at O;refine A2 ?_;exact m6 rfl _ ⟨u,e2,by omega,O.2.2,rfl,rfl,Q,S⟩ fun w e=>e
 ·rw[show H4 s [40] p=p from by unfold H4;rw[h];rfl];refine p_ ?_;refine c_ (aN b s p (px c t) (nu x t) qb hp) pre ?_;rintro v A ⟨rfl,rfl⟩;refine p_ ?_;refine n7 (ι:=Bool) (fun _=>True) (fun q=>[(0,l9 b),(1,.int .i64 (d:Nat)),(21,.bool q)]) (fun _=>H8 b s p (px c t) (nu x t)::wi t) ?_ ?_
  ·obtain⟨z,hz⟩:=o7 (s.drop p);rw[<-hz]
   cases z with
   |nil=>
    refine p_ ?_;refine f_ ((E1 rfl rfl).eq (v':=.bool false) rfl) ?_;refine E5 ?_;(first|refine u_ ?_|(refine v_ ?_;fail));refine p_ ?_;exact g_ _ trivial i_
   |cons a r=>
    refine p_ ?_;refine f_ ((E1 rfl rfl).eq (v':=.bool true) rfl) ?_;refine y9 ?_;(first|refine u_ ?_|(refine v_ ?_;refine f_ ((H5 rfl rfl rfl (by simp;omega)).eq (v':=B [a]) rfl) ?_));(first|refine u_ ?_|(refine v_ ?_;refine e_ rfl (jV _ a) qw rfl ?_));refine p_ ?_;exact g_ _ trivial i_
  rintro q-;refine N8 ?_ ?_<;>intro h
  ·refine y9 ?_;refine n5 (jX b s p (px c t) (nu x t) hs hp) pre rfl (fun v h=>h.2) ?_;rintro v A ⟨l,T,U,j,rfl,rfl⟩;refine f_ ((y8 rfl rfl).eq (v':=.agg (bE ⟨⟨5,0,[],[],0,l.1⟩,T,U⟩).toArray) rfl) ?_;refine x4 [] rfl (eR b s l.2 c x (He t (V1 T l.1 U)) ⟨⟨5,0,[],[],0,l.1⟩,T,U⟩ i.len) (fun w e=>by rw[z7];exact e.perm wl) qw rfl rfl (l6.le_refl _) (fun v h=>h) ?_;rintro v A ⟨u,rfl,rfl,Z,h4,Q,S⟩;rw[z7];refine u7 ?_;have O:=jW hp j;refine A2 ?_;exact m6 rfl _ ⟨u,l.2,by omega,O.2.1,rfl,rfl,(wm t _).trans Z,cv (Bk i _) h4 Q S ⟨O.2.2,by simp,by simp,by simp⟩ (.inr (.head _))⟩ fun w e=>e
  ·have h0:=bQ (q:=dU) hp;have h7:=DH (s:=s) (p:=p);refine p_ ?_;refine c_ (eO 392 dU Md b s p (px c t) (nu x t) qb hp) pre ?_;rintro v A ⟨rfl,rfl⟩;refine e_ rfl (I3 _ qb) qw rfl ?_;refine p_ ?_;have h8:(R8 (N9 dU s p)).length<=1000000000:=(by unfold R8;rw[zr];omega);generalize hpw:p+(N9 dU s p).length=pw at h0⊢;generalize R8 (N9 dU s p)=w at h7 h8⊢;refine eI ?_ ?_<;>intro h
   ·refine u7 ?_;obtain⟨q,hq⟩:=o7 (decide (d<=8));refine p_ ?_;refine f_ ((F_ rfl rfl).eq (v':=.bool q) (qn ((qz).trans hq.symm))) ?_;refine n5 (G8 q) qw rfl (fun v h=>h.2) ?_;rintro v A ⟨V,rfl,rfl⟩;refine u7 ?_;have M:=qr (hq.symm.trans V);refine p_ ?_;refine f_ ((y8 rfl rfl).eq (v':=.agg (bE ⟨⟨2,0,[],[],0,[]⟩,none,0⟩).toArray) rfl) ?_;refine x4 [] rfl (eR b s pw c x t ⟨⟨2,0,[],[],0,[]⟩,none,0⟩ i.len) (fun w e=>by rw[z7];exact e) qw rfl rfl (l6.le_refl _) (fun v h=>h) ?_;rintro v A ⟨u,rfl,rfl,m,n,o,y⟩;rw[z7];refine u7 ?_;have ku:=cv i n o y ⟨by simp,by simp,by simp,by simp⟩ (.inl rfl);refine p_ ?_;refine n5 (D7 b s [32] pw (px c u) (nu x u) qb qb qp) pre rfl (fun v h=>h.2) ?_;rintro v A ⟨e1,g,rfl,rfl⟩;refine u7 ?_;have f:=C_ g x6;simp only[jp] at f;refine y9 ?_;refine f_ ((p9 rfl rfl qb).eq (v':=.int .i64 ((d+1:Nat):Int)) (by congr 1)) ?_;refine x4 [] rfl (hk M e1 c x u f.2.2 ku) (fun w e=>by rw[z7];exact e) pre rfl rfl (l6.le_refl _) (fun v h=>h) ?_;rintro v A ⟨u2,Y,h9,C,rfl,rfl,D,X⟩;rw[z7];refine u7 ?_;exact m6 rfl _ ⟨u2,Y,by omega,C,rfl,rfl,m.trans D,X⟩ fun w e=>e
   refine bD ?_ ?_<;>intro h
   ·refine u7 ?_;obtain⟨q,hq⟩:=o7 (decide (d<=8));refine p_ ?_;refine f_ ((F_ rfl rfl).eq (v':=.bool q) (qn ((qz).trans hq.symm))) ?_;refine n5 (G8 q) qw rfl (fun v h=>h.2) ?_;rintro v A ⟨V,rfl,rfl⟩;refine u7 ?_;have M:=qr (hq.symm.trans V);refine p_ ?_;refine f_ ((y8 rfl rfl).eq (v':=.agg (bE ⟨⟨3,0,[],[],0,[]⟩,none,0⟩).toArray) rfl) ?_;refine x4 [] rfl (eR b s pw c x t ⟨⟨3,0,[],[],0,[]⟩,none,0⟩ i.len) (fun w e=>by rw[z7];exact e) qw rfl rfl (l6.le_refl _) (fun v h=>h) ?_;rintro v A ⟨u,rfl,rfl,m,n,o,y⟩;rw[z7];refine u7 ?_;have ku:=cv i n o y ⟨by simp,by simp,by simp,by simp⟩ (.inl rfl);refine p_ ?_;refine n5 (D7 b s [32] pw (px c u) (nu x u) qb qb qp) pre rfl (fun v h=>h.2) ?_;rintro v A ⟨e1,g,rfl,rfl⟩;refine u7 ?_;have f:=C_ g x6;simp only[jp] at f;refine y9 ?_;refine f_ ((p9 rfl rfl qb).eq (v':=.int .i64 ((d+1:Nat):Int)) (by congr 1)) ?_;refine x4 [] rfl (hk M e1 c x u f.2.2 ku) (fun w e=>by rw[z7];exact e) pre rfl rfl (l6.le_refl _) (fun v h=>h) ?_;rintro v A ⟨u2,Y,h9,C,rfl,rfl,D,X⟩;rw[z7];refine p_ ?_;refine n5 (D7 b s [32] Y (px c u2) (nu x u2) qb C qp) pre rfl (fun v h=>h.2) ?_;rintro v A ⟨e2,k0,rfl,rfl⟩;refine u7 ?_;have k8:=C_ k0 x6;simp only[jp] at k8;refine y9 ?_;refine f_ ((p9 rfl rfl qb).eq (v':=.int .i64 ((d+1:Nat):Int)) (by congr 1)) ?_;refine x4 [] rfl (hk M e2 c x u2 k8.2.2 X) (fun w e=>by rw[z7];exact e) pre rfl rfl (l6.le_refl _) (fun v h=>h) ?_;rintro v A ⟨u3,p3,q3,k9,rfl,rfl,q0,q2⟩;rw[z7];refine u7 ?_;exact m6 rfl _ ⟨u3,p3,by omega,k9,rfl,rfl,(m.trans D).trans q0,q2⟩ fun w e=>e
   refine bD ?_ ?_<;>intro h
   ·refine p_ ?_;refine f_ ((y8 rfl rfl).eq (v':=.agg (bE ⟨⟨4,0,[],[],0,[]⟩,none,0⟩).toArray) rfl) ?_;refine x4 [] rfl (eR b s pw c x t ⟨⟨4,0,[],[],0,[]⟩,none,0⟩ i.len) (fun w e=>by rw[z7];exact e) qw rfl rfl (l6.le_refl _) (fun v h=>h) ?_;rintro v A ⟨u,rfl,rfl,m,n,o,y⟩;rw[z7];refine u7 ?_;have ku:=cv i n o y ⟨by simp,by simp,by simp,by simp⟩ (.inl rfl);exact m6 rfl _ ⟨u,pw,by omega,h0,rfl,rfl,m,ku⟩ fun w e=>e
   refine bD ?_ ?_<;>intro h
   ·refine p_ ?_;refine n5 (D7 b s [32] pw (px c t) (nu x t) qb qb qp) pre rfl (fun v h=>h.2) ?_;rintro v A ⟨e1,g,rfl,rfl⟩;refine u7 ?_;have f:=C_ g x6;simp only[jp] at f;refine y9 ?_;refine n5 (jX b s e1 (px c t) (nu x t) hs f.2.2) pre rfl (fun v h=>h.2) ?_;rintro v A ⟨l,T,U,j,rfl,rfl⟩;refine f_ ((y8 rfl rfl).eq (v':=.agg (bE ⟨⟨6,0,[],[],0,l.1⟩,T,U⟩).toArray) rfl) ?_;refine x4 [] rfl (eR b s l.2 c x (He t (V1 T l.1 U)) ⟨⟨6,0,[],[],0,l.1⟩,T,U⟩ i.len) (fun w e=>by rw[z7];exact e.perm wl) qw rfl rfl (l6.le_refl _) (fun v h=>h) ?_;rintro v A ⟨u,rfl,rfl,Z,h4,Q,S⟩;rw[z7];refine u7 ?_;have O:=jW f.2.2 j;exact m6 rfl _ ⟨u,l.2,by omega,O.2.1,rfl,rfl,(wm t _).trans Z,cv (Bk i _) h4 Q S ⟨O.2.2,by simp,by simp,by simp⟩ (.inr (.head _))⟩ fun w e=>e
   refine E5 ?_;refine n5 (Mc b s w pw (px c t) (nu x t) hs qb h8 h7) pre rfl (fun v h=>h) ?_;rintro v A ⟨k,Y,h1,h2,J,rfl,rfl⟩;refine x4 [] rfl (eR b s Y c x t ⟨k,none,0⟩ i.len) (fun w e=>by rw[z7];exact e) qw rfl rfl (l6.le_refl _) (fun v h=>h) ?_;rintro v A ⟨u,rfl,rfl,Z,h4,Q,S⟩;rw[z7];refine u7 ?_;exact m6 rfl _ ⟨u,Y,by omega,h2,rfl,rfl,Z,cv i h4 Q S ⟨by rw[J.1];simp,J.2.1,J.2.2.1,by rw[J.2.2.2];simp⟩ (.inl J.1)⟩ fun w e=>e
