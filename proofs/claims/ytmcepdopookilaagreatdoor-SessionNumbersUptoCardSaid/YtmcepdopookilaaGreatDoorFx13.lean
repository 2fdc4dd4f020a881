import Derived.Test.YtmcepdopookilaaGreatDoorFx12
set_option maxHeartbeats 16000000
set_option maxRecDepth 8000
set_option linter.unusedVariables false
set_option linter.unusedSimpArgs false
set_option linter.defProp false
namespace Go.Proofs.YtmcepdopookilaaGreatDoor.Rp
open Go Go.Sl Go.RowKit Go.Proofs.Tryz
theorem Sa{d:UInt8}(h:97<=d.toNat/\d.toNat<=122):(d-32).toNat=d.toNat-32:=by
 rw[UInt8.toNat_sub_of_le]
 ·rfl
 ·exact UInt8.le_iff_toNat_le.2 (by show 32<=d.toNat;omega)
theorem Lz{c d:UInt8}(hc:c.toNat<=64\/91<=c.toNat/\c.toNat<=96\/123<=c.toNat):ru d=c↔d=c:=by
 unfold ru;split
 ·next h=>
  constructor
  ·intro e;have:=jk UInt8.toNat e;rw[Sa h] at this;omega
  ·intro e;subst e;omega
 ·exact Iff.rfl
theorem OP{s:Bs}{c:UInt8}{p:Nat}(hc:c.toNat<=64\/91<=c.toNat/\c.toNat<=96\/123<=c.toNat):([c]:Bs).isPrefixOf (s.drop p)=I0 s [c] p:=by
 unfold I0
 cases s.drop p with
 |nil=>simp[R8,List.isPrefixOf]
 |cons d t=>
  have:=Lz (c:=c) (d:=d) hc;simp only[zx,z6,List.take_succ_cons,Kk,R8,Qv,K9,List.isPrefixOf,Bool.and_true];by_cases h:d=c
  ·subst h;simp[this.2 rfl]
  ·have a:ru d≠c:=fun e=>h (this.1 e);simp[a,Ne.symm h]
theorem AU{s:Bs}{p:Nat}{r:Bs×Nat}(hp:p<=s.length)(h:vh s p=some r):p<=r.2/\r.2<=s.length/\r.1.length<=s.length:=by
 unfold vh at h;split at h
 ·cases h
 ·have:=j7 h;subst this;have:=bK (q:=P1) hp;exact⟨by simp only;omega,this,by simp only;omega⟩
theorem cX{s:Bs}{p:Nat}{r:Bs×Nat}(hp:p<=s.length)(h:kW s p=some r):p<=r.2/\r.2<=s.length/\r.1.length<=4096+s.length:=by
 unfold kW at h;split at h
 ·have:=Ld hp h;omega
 split at h
 ·cases hu:uW (s.drop p) with
  |none=>rw[hu] at h;cases h
  |some q=>
   rw[hu] at h;have:=j7 h;subst this;have b:=xY (s:=s.drop p);have a:=AT (s.drop p);rw[hu] at b a;simp only[Zb,z8] at b a;simp only;omega
 ·obtain⟨q,b,a⟩:=zd.1 h;have:=AU hp b;split at a
  ·have:=j7 a;subst this;omega
  ·cases a
theorem ph(s:Bs):(T5 s).2.1<=s.length:=by
 unfold T5;simp only;by_cases h:s.head? =some 40/\(s.takeWhile fun c=>c !=41).length<s.length
 ·rw[zu h];have:=h.2;generalize V3 _=m;by_cases hm:m.2=0
  ·rw[zu hm];simp only;omega
  ·rw[zk hm];simp
 ·rw[zk h];simp
theorem R2(b:Nat)(s:Bs)(p:Nat)(c:CM)(x:CL)(hs:s.length<=1000000000000)(hp:p<=s.length):Cx prog 275 [m6 b] Gl [H7 b s p c x] (fun v A=>∃r,kW s p=some r/\v=B r.1/\A=[H7 b s r.2 c x]) (fM (kW s p)):=by
 refine B7 42 func275 rfl rfl rfl ?_;intro F hg;have k:=OP (s:=s) (c:=123) (p:=p) qp;have l:=OP (s:=s) (c:=34) (p:=p) qp;obtain⟨m,i⟩:=o7 (I0 s [123] p);obtain⟨n,j⟩:=o7 (I0 s [34] p);obtain⟨W,a⟩:=o7 (kW s p);rw[<-a];unfold kW at a;rw[<-i,<-j] at a;refine z_ ?_;refine x4 _ rfl (aJ b s p c x hs hp) i_ qw rfl ?_;rintro v A ⟨rfl,rfl⟩;refine e_ rfl (Z_ (s.drop p) [123]) qw rfl ?_;rw[k,<-i];refine p9 ?_
 cases m with
 |true=>
  rw[zu rfl] at a;refine p9 ?_;refine w6 _ rfl (lW b s p c x hs hp) i_ pre rfl rfl (l6.le_refl _) (fun v h=>⟨(by rw[a,h.1]),h.2⟩) ?_;rintro v A ⟨r,f,rfl,rfl⟩;refine C8 ?_;exact d_ rfl rfl [H7 b s r.2 c x] ⟨_,a.trans f,rfl,rfl⟩ i_
 |false=>
  rw[zk x8] at a;refine p9 ?_;refine x4 _ rfl (aJ b s p c x hs hp) i_ qw rfl ?_;rintro v A ⟨rfl,rfl⟩;refine e_ rfl (Z_ (s.drop p) [34]) qw rfl ?_;rw[l,<-j];refine p9 ?_
  cases n with
  |true=>
   rw[zu rfl] at a;have d:=xY (s:=s.drop p);rw[z8] at d;refine u7 ?_
   cases hu:uW (s.drop p) with
   |none=>
    rw[hu] at a;refine p9 ?_;refine x4 _ rfl (aJ b s p c x hs hp) i_ qw rfl ?_;rintro v A ⟨rfl,rfl⟩;refine e_ rfl (lU (s.drop p) (by rw[z8];unfold lh;omega)) qw rfl ?_;rw[hu];simp only[OF];refine wk 8 ?_;refine w6 _ rfl (G6 _) i_ pre rfl rfl (l6.le_refl _) (fun v h=>⟨(a),h.2⟩) ?_;rintro v A ⟨e,rfl,rfl⟩;refine u7 ?_
    cases e
   |some q=>
    rw[hu] at a d;simp only[Zb] at d;refine p9 ?_;refine x4 _ rfl (aJ b s p c x hs hp) i_ qw rfl ?_;rintro v A ⟨rfl,rfl⟩;refine e_ rfl (lU (s.drop p) (by rw[z8];unfold lh;omega)) qw rfl ?_;rw[hu];simp only[OF,Zb];refine wk 8 ?_;refine w6 _ rfl (G6 _) i_ pre rfl rfl (l6.le_refl _) (fun v h=>⟨(by cases h.1),h.2⟩) ?_;rintro v A ⟨e,rfl,rfl⟩;refine aF ?_;refine f_ ((p8 rfl rfl qb).eq (v':=.int .i64 ((p+q.2:Nat):Int)) (by congr 1)) ?_;refine Jo ?_;exact d_ rfl rfl [H7 b s (p+q.2) c x] ⟨_,a,rfl,rfl⟩ i_
  |false=>
   rw[zk x8] at a;refine p9 ?_;refine w6 _ rfl (AH b s p c x hs hp) i_ pre rfl rfl (l6.le_refl _) (fun v h=>⟨(by rw[a,h.1];rfl),h.2⟩) ?_;rintro v A ⟨r,f,rfl,rfl⟩;refine p9 ?_;rw[f,zr] at a;obtain⟨q,g⟩:=o7 (decide (r.1.length<=4096));refine z_ ?_;refine f_ ((G1 rfl rfl).eq (v':=.bool q) (qn (by rw[g];apply zc.2;omega))) ?_;refine w6 _ rfl (G6 q) i_ pre rfl rfl (l6.le_refl _) (fun v h=>⟨(by rw[a,zk (zq (g.symm.trans h.1))]),h.2⟩) ?_;rintro v A ⟨e,rfl,rfl⟩;refine u7 ?_;rw[zu (qr (g.symm.trans e))] at a;refine L6 ?_;exact d_ rfl rfl [H7 b s r.2 c x] ⟨_,a,rfl,rfl⟩ i_
theorem OQ{s:Bs}{p:Nat}{r:Bs×Nat}(hp:p<=s.length)(h:Nu s p=some r):p<=r.2/\r.2<=s.length/\uX r.1=true:=by
 unfold Nu at h;obtain⟨q,c,d⟩:=zd.1 h;have a:=cX hp c;obtain⟨n,b,e⟩:=ky.1 d;subst e;refine⟨a.1,a.2.1,?_⟩;unfold iW at b;split at b
 ·next f=>
  have:=j7 b;subst this;split
  ·exact(by decide:uX cG=true)
  ·exact f
 ·cases b
theorem OR(b:Nat)(s:Bs)(p:Nat)(c:CM)(x:CL)(hs:s.length<=1000000000)(hp:p<=s.length):Cx prog 276 [m6 b] Gl [H7 b s p c x] (fun v A=>∃r,Nu s p=some r/\v=B r.1/\A=[H7 b s r.2 c x]) (fM (Nu s p)):=by
 refine B7 14 func276 rfl rfl rfl ?_;intro F hg;obtain⟨W,a⟩:=o7 (Nu s p);rw[<-a];unfold Nu at a;refine z_ ?_;refine w6 _ rfl (R2 b s p c x qb hp) i_ pre rfl rfl (l6.le_refl _) (fun v h=>⟨(by rw[a,h.1];rfl),h.2⟩) ?_;rintro v A ⟨r,d,rfl,rfl⟩;refine e_ rfl (AB r.1 (by have:=cX hp d;unfold lh;omega)) qw rfl ?_;refine aF ?_;rw[d,zr] at a;refine p9 ?_;refine w6 _ rfl (G6 _) i_ pre rfl rfl (l6.le_refl _) (fun v h=>⟨(by rw[a];have:=h.1;cases e:iW r.1 with|none=>rfl|some n=>rw[e] at this;cases this),h.2⟩) ?_;rintro v A ⟨f,rfl,rfl⟩;refine u7 ?_;obtain⟨n,g⟩:=Zg.1 f;rw[g] at a⊢;refine L6 ?_;exact d_ rfl rfl [H7 b s r.2 c x] ⟨_,a,rfl,rfl⟩ i_
theorem yw{p q:UInt8->Bool}(h:∀n,n<256->p (UInt8.ofNat n)=q (UInt8.ofNat n))(c:UInt8):p c=q c:=by
 have:=h c.toNat c.toNat_lt
 rwa [UInt8.ofNat_toNat] at this
theorem jR(l:Bs)(c:UInt8):Pu prog 348 [B l,B [c]] (fun _=>True) (.bool (l.contains c)):=U0 fun w _=>by
 have:=Tryz.strings_Contains_one ⟨l.toArray⟩ c w;rw[show(decide (0<=Lib.indexByte (⟨l.toArray⟩:ByteArray).data.toList c))=l.contains c from by
  show decide (0<=Lib.indexByte l c)=_;rw[eF]
  cases h:l.contains c<;>simp] at this
 exact this
theorem tP(c:UInt8):Pu prog 348 [B [48,49,50,51,52,53,54,55,56,57,44,58,42],B [c]] (fun _=>True) (.bool (oh c)):=by
 have:=jR [48,49,50,51,52,53,54,55,56,57,44,58,42] c
 rwa [yw (p:=fun c=>List.contains [48,49,50,51,52,53,54,55,56,57,44,58,42] c) (q:=oh) (by decide+kernel) c] at this
theorem LA:vC 347 oh:=fun c=>by
 refine b_ 5 func347 rfl rfl rfl ?_;intro F _;refine z_ ?_;refine e_ rfl (tP c) qw rfl ?_;refine C8 ?_;exact d_ rfl rfl [] qh i_
theorem jS{s:Bs}{p:Nat}{r:List (Nat×Nat)×Nat}(hp:p<=s.length)(h:qP s p=some r):p<=r.2/\r.2<=s.length/\r.1.length<=64:=by
 unfold qP at h;obtain⟨l,a,b⟩:=ky.1 h;subst b;have:=bK (q:=oh) hp;refine⟨by simp only;omega,this,?_⟩;unfold vg at a;split at a
 ·cases a
 ·have:=jO _ _ a;simp only;omega
theorem jT(b:Nat)(s:Bs)(p:Nat)(c:CM)(x:CL)(hs:s.length<=1000000000)(hp:p<=s.length):Cx prog 285 [m6 b] Gl [H7 b s p c x] (fun v A=>∃r a d,qP s p=some r/\v=.slice a r.1.length d/\A=[U7 a r.1 d,H7 b s r.2 c x]) (fM (qP s p)):=by
 refine B7 14 func285 rfl rfl rfl ?_;intro F hg;obtain⟨W,f⟩:=o7 (qP s p);rw[<-f];unfold qP at f;have j:=bK (q:=oh) hp;refine z_ ?_;refine x4 _ rfl (eK 347 oh LA b s p c x qb hp) i_ qw rfl ?_;rintro v A ⟨rfl,rfl⟩;refine x4 _ rfl (Da (N7 oh s p) qb) i_ (fun h k o=>hg.le k) rfl ?_;rintro v A ⟨a,d,l,rfl,rfl,m⟩;refine cH ?_;refine w6 _ rfl (G6 _) i_ pre rfl rfl (l6.le_refl _) (fun v h=>⟨(by rw[f];have:=h.1;cases e:vg (N7 oh s p) with|none=>rfl|some n=>rw[e] at this;cases this),h.2⟩) ?_;rintro v A ⟨g,rfl,rfl⟩;refine u7 ?_;obtain⟨n,i⟩:=Zg.1 g;have:=m n i;subst this;rw[i] at f;refine L6 ?_;exact d_ rfl rfl [U7 a l d,H7 b s (p+(N7 oh s p).length) c x] ⟨_,a,d,f,rfl,rfl⟩ i_
theorem rT{s c:Bs}(h:E2 s=some c):c.length<=32:=by
 unfold E2 at h;split at h
 ·next f hf=>
  cases h
  have:=Ky hf
  revert this
  have hs:∀f∈R5,f.length<=32:=by decide
  exact hs c
 ·split at h
  ·next a=>
   cases h
   simp only[U6,zm];exact a.2
  ·cases h
theorem LB{s:Bs}{p:Nat}{r:List Bs×Nat}(hp:p<=s.length)(h:ol s p=some r):p<=r.2/\r.2<=s.length/\r.1.length<=16/\∀f∈r.1,f.length<=32:=by
 unfold ol at h;split at h
 ·next k=>
  have:=j7 h;subst this;have a:=iX (lO (s:=s.drop p) (l:=(T5 (s.drop p)).1) (n:=(T5 (s.drop p)).2.1) (by rw[<-k]));have b:=ph (s.drop p);rw[z8] at b;refine⟨by simp only;omega,by simp only;omega,a.2.2,fun f hf=>rT (a.1 f hf)⟩
 ·cases h
theorem rU(b:Nat)(s:Bs)(p:Nat)(c:CM)(x:CL)(hs:s.length<=1000000000)(hp:p<=s.length):Cx prog 282 [m6 b] Gl [H7 b s p c x] (fun v A=>∃r a d,ol s p=some r/\v=.slice a r.1.length d/\A=[A4 a r.1 d,H7 b s r.2 c x]) (fM (ol s p)):=by
 refine B7 25 func282 rfl rfl rfl ?_;intro F hg;obtain⟨W,e⟩:=o7 (ol s p);rw[<-e];unfold ol at e;have i:=ph (s.drop p);rw[z8] at i;obtain⟨m,j⟩:=o7 (T5 (s.drop p));have f:=CW (s.drop p) (by rw[z8];omega);rw[<-j] at e i f;obtain⟨q,g⟩:=o7 (decide (m.2.2=0));refine z_ ?_;refine x4 _ rfl (aJ b s p c x qb hp) i_ qw rfl ?_;rintro v A ⟨rfl,rfl⟩;refine x4 _ rfl f i_ (fun h k o=>hg.le k) rfl ?_;rintro v A ⟨a,d,rfl,rfl⟩;refine wk 8 ?_;refine f_ ((p7 rfl rfl).eq (v':=.bool q) (qn g.symm)) ?_;refine w6 _ rfl (G6 q) i_ pre rfl rfl (l6.le_refl _) (fun v h=>⟨(by rw[e,zk (zq (g.symm.trans h.1))]),h.2⟩) ?_;rintro v A ⟨l,rfl,rfl⟩;refine u7 ?_;rw[zu (qr (g.symm.trans l))] at e;refine aF ?_;refine f_ ((p8 rfl rfl qb).eq (v':=.int .i64 ((p+m.2.1:Nat):Int)) (by congr 1)) ?_;refine Jo ?_;exact d_ rfl rfl [A4 a m.1 d,H7 b s (p+m.2.1) c x] ⟨_,a,d,e,rfl,rfl⟩ fun w n=>x6.left tk n
abbrev NA(f:FuncId)(b:Nat)(s:Bs)(R:CM->Nat->Option (CM×Nat)):Prop:=∀(c:CM) (x:CL) (p:Nat),p<=s.length->Cx prog f [m6 b] Gl [H7 b s p c x] (fun v A=>∃r,R c p=some r/\v=.tuple #[]/\A=[H7 b s r.2 r.1 x]) (fM (R c p))
theorem cg(b:Nat)(s:Bs):NA 207 b s (fun c p=>some (c,p)):=fun c x p hp=>by
 refine B7 2 func207 rfl rfl rfl ?_;intro F hg;refine u7 ?_;exact l_ rfl [H7 b s p c x] ⟨(c,p),rfl,rfl,rfl⟩ i_
theorem Do(b:Nat)(s:Bs)(hs:s.length<=1000000000):NA 208 b s (fun c p=>(H8 s Ae p).map fun e=>(c,e)):=fun c x p hp=>by
 refine B7 4 func208 rfl rfl rfl ?_;intro F hg;refine p9 ?_;refine w6 _ rfl (D8 b s Ae p c x qb hp x8) i_ pre rfl rfl (l6.le_refl _) (fun v h=>⟨(by simp only[h.1,Zh]),h.2⟩) ?_;rintro v A ⟨e,a,rfl,rfl⟩;refine u7 ?_;exact l_ rfl [H7 b s e c x] ⟨(c,e),by simp only[a,Qk],rfl,rfl⟩ i_
theorem dT(b:Nat)(s:Bs)(hs:s.length<=1000000000):NA 211 b s (fun c p=>I8 c s p):=fun c x p hp=>by
 refine B7 10 func211 rfl rfl rfl ?_;intro F hg;refine p9 ?_;refine w6 _ rfl (D8 b s [32] p c x qb hp x8) i_ pre rfl rfl (l6.le_refl _) (fun v h=>⟨(by simp only[I8,ir,h.1,Zr,Zh]),h.2⟩) ?_;rintro v A ⟨d,a,rfl,rfl⟩;refine u7 ?_;have e:=D0 a x8;refine z_ ?_;refine w6 _ rfl (OR b s d c x hs e.2.2) i_ pre rfl rfl (l6.le_refl _) (fun v h=>⟨(by simp only[I8,ir,a,h.1,zr,Zh]),h.2⟩) ?_;rintro v A ⟨r,f,rfl,rfl⟩;refine O2 ?_;exact l_ rfl [H7 b s r.2 {c with box:=r.1} x] ⟨({c with box:=r.1},r.2),by simp only[I8,ir,a,f,zr,Qk],rfl,rfl⟩ i_
theorem ln{s:Bs}{c:CM}{p:Nat}{r:CM×Nat}(hp:p<=s.length)(h:I8 c s p=some r):p<=r.2/\r.2<=s.length:=by
 unfold I8 ir at h;obtain⟨q,a,b⟩:=ky.1 h;obtain⟨e,d,f⟩:=zd.1 a;have g:=D0 d x8;have i:=OQ g.2.2 f;subst b;simp only;omega
theorem GJ(b:Nat)(s:Bs)(hs:s.length<=1000000000):NA 209 b s (fun c p=>dq c s p):=fun c x p hp=>by
 refine B7 18 func209 rfl rfl rfl ?_;intro F hg;refine p9 ?_;refine w6 _ rfl (D8 b s [32] p c x qb hp x8) i_ pre rfl rfl (l6.le_refl _) (fun v h=>⟨(by simp only[dq,xQ,h.1,Zr]),h.2⟩) ?_;rintro v A ⟨g,a,rfl,rfl⟩;refine u7 ?_;have f:=D0 a x8;refine z_ ?_;refine w6 _ rfl (R2 b s g c x qb f.2.2) i_ pre rfl rfl (l6.le_refl _) (fun v h=>⟨(by simp only[dq,xQ,a,h.1,zr,Zr]),h.2⟩) ?_;rintro v A ⟨r,d,rfl,rfl⟩;refine O2 ?_;have i:=cX f.2.2 d;refine p9 ?_;refine w6 _ rfl (D8 b s [32] r.2 {c with user:=r.1} x qb i.2.1 x8) i_ pre rfl rfl (l6.le_refl _) (fun v h=>⟨(by simp only[dq,xQ,a,d,h.1,zr,Zr,Zh]),h.2⟩) ?_;rintro v A ⟨j,e,rfl,rfl⟩;refine u7 ?_;have a3:=D0 e x8;refine z_ ?_;refine w6 _ rfl (R2 b s j {c with user:=r.1} x qb a3.2.2) i_ pre rfl rfl (l6.le_refl _) (fun v h=>⟨(by simp only[dq,xQ,a,d,e,h.1,zr,Zh]),h.2⟩) ?_;rintro v A ⟨t,k,rfl,rfl⟩;refine O2 ?_;exact l_ rfl [H7 b s t.2 {c with user:=r.1,pass:=t.1} x] ⟨({c with user:=r.1,pass:=t.1},t.2),by simp only[dq,xQ,a,d,e,k,zr,Qk],rfl,rfl⟩ i_
theorem vQ(b:Nat)(s:Bs)(hs:s.length<=1000000000):NA 210 b s (fun c p=>(I8 c s p).map fun q=>({q.1 with cond:=I0 s bW q.2},H3 s bW q.2)):=fun c x p hp=>by
 refine B7 10 func210 rfl rfl rfl ?_;intro F hg;refine p9 ?_;refine w6 _ rfl (dT b s hs c x p hp) i_ pre rfl rfl (l6.le_refl _) (fun v h=>⟨(by simp only[h.1,Zh]),h.2⟩) ?_;rintro v A ⟨r,a,rfl,rfl⟩;refine u7 ?_;have d:=ln hp a;refine z_ ?_;refine x4 _ rfl (S5 b s bW r.2 r.1 x qb d.2 x8) i_ qw rfl ?_;rintro v A ⟨rfl,rfl⟩;refine O2 ?_;exact l_ rfl [H7 b s (H3 s bW r.2) {r.1 with cond:=I0 s bW r.2} x] ⟨({r.1 with cond:=I0 s bW r.2},(H3 s bW r.2)),by simp only[a,Qk],rfl,rfl⟩ i_
theorem LC:vC 277 iq:=fun c=>by
 obtain⟨a,b⟩:=o7 (decide (c=37));obtain⟨d,f⟩:=o7 (decide (c=42));have e:iq c=(a||d||P1 c):=by unfold iq;rw[b,f]
 rw[e];refine b_ 13 func277 rfl rfl rfl ?_;intro F _;refine p9 ?_
 cases a<;>cases d
 all_goals (
  refine p9 ?_;refine f_ ((C5 rfl rfl).eq (qn ((show decide ([c]=[37])=decide (c=37) from by simp).trans b.symm))) ?_;refine z_ ?_;(first|refine u_ ?_|(refine v_ ?_;refine f_ ((C5 rfl rfl).eq (qn ((show decide ([c]=[42])=decide (c=42) from by simp).trans f.symm))) ?_));refine E6 ?_;(first|refine u_ ?_|(refine v_ ?_;refine e_ rfl (oU c) qw rfl ?_));refine z_ ?_)
 all_goals (refine A3 ?_;exact d_ rfl rfl [] ⟨by simp,rfl⟩ i_)
theorem GK(b:Nat)(s:Bs)(hs:s.length<=1000000000):NA 212 b s (fun c p=>je c s p):=fun c x p hp=>by
 refine B7 22 func212 rfl rfl rfl ?_;intro F hg;refine p9 ?_;refine w6 _ rfl (D8 b s Nx p c x qb hp x8) i_ pre rfl rfl (l6.le_refl _) (fun v h=>⟨(by simp only[je,h.1,Zr]),h.2⟩) ?_;rintro v A ⟨a,d,rfl,rfl⟩;refine u7 ?_;have f:=D0 d x8;have g:=bK (q:=iq) f.2.2;refine z_ ?_;refine x4 _ rfl (eK 277 iq LC b s a c x qb f.2.2) i_ qw rfl ?_;rintro v A ⟨rfl,rfl⟩;refine wk 9 ?_;refine f_ (C5 rfl rfl) ?_;refine O1 ?_ ?_<;>intro h
 ·have e:N7 iq s a=[]:=by simpa using h
  rw[e];simp only[z6,Q2];refine z_ ?_;refine w6 _ rfl (R2 b s a {c with a4Y:=[]} x qb f.2.2) i_ pre rfl rfl (l6.le_refl _) (fun v h=>⟨(by simp only[je,d,zr,zu e,h.1,Zh]),h.2⟩) ?_;rintro v A ⟨r,i,rfl,rfl⟩;refine O2 ?_;exact l_ rfl [H7 b s r.2 {c with a4Y:=r.1} x] ⟨({c with a4Y:=r.1},r.2),by simp only[je,d,zr,zu e,i,Qk],rfl,rfl⟩ i_
 ·have e:¬N7 iq s a=[]:=by simpa using h
  refine u7 ?_;exact l_ rfl [H7 b s (a+(N7 iq s a).length) {c with a4Y:=N7 iq s a} x] ⟨({c with a4Y:=N7 iq s a},(a+(N7 iq s a).length)),by simp only[je,d,zr,zk e],rfl,rfl⟩ i_
theorem vR(b:Nat)(s:Bs)(hs:s.length<=1000000000):NA 288 b s (fun c p=>(dp s p).map fun q=>({c with a4W:=q.1,a4V:=true},q.2)):=fun c x p hp=>by
 refine B7 14 func288 rfl rfl rfl ?_;intro F hg;refine z_ ?_;refine w6 _ rfl (X4 b s D9 p c x qb hp (z1 _)) i_ pre rfl rfl (l6.le_refl _) (fun v h=>⟨(by simp only[dp,h.1,Zr,Zh]),h.2⟩) ?_;rintro v A ⟨r,a,rfl,rfl⟩;refine O2 ?_;have d:=ce hp a;refine cH ?_;refine w6 _ rfl (D8 b s [41] r.2 {c with a4W:=r.1,a4V:=true} x qb d.2.2 x8) i_ pre rfl rfl (l6.le_refl _) (fun v h=>⟨(by simp only[dp,a,h.1,zr,Zh]),h.2⟩) ?_;rintro v A ⟨e,f,rfl,rfl⟩;refine u7 ?_;exact l_ rfl [H7 b s e {c with a4W:=r.1,a4V:=true} x] ⟨({c with a4W:=r.1,a4V:=true},e),by simp only[dp,a,f,zr,Qk],rfl,rfl⟩ i_
abbrev NW:=Bs×Nat×Bool
abbrev LD:NW:=([],0,false)
abbrev Dp(x:NW):List Value:=[B x.1,.int .i64 (x.2.1:Nat),.bool x.2.2,.bool false,.int .u64 0,.int .u64 0]
abbrev Dq(l:List NW):List Value:=l.flatMap Dp
theorem tQ:∀x,(Dp x).length=6:=fun _=>rfl
theorem LE:∀x,∀q∈Dp x,q.oneCell'=true:=fun x q a=>by simp at a;rcases a with rfl|rfl|rfl|rfl|rfl|rfl<;>rfl
theorem pi:Ct prog 281 [] (fun _=>True) [] (fun v A=>∃a,v=.slice (some a) 5 5/\A=[.own (.slice (some a) 5 5) 371 6 (Dq ja)]):=by
 refine b_ 12 func281 rfl rfl rfl ?_;intro F _;refine wk 11 ?_;refine x5 rfl rfl rfl rfl rfl rfl (xs:=Dq ja) rfl rfl ?_;rintro c ⟨b,rfl⟩;refine C8 ?_;exact d_ rfl rfl _ ⟨b,rfl,rfl⟩ i_
theorem Dr{l:List NW}{j:Nat}(h:j<l.length):l.getD j LD∈l:=by
 rw[zb,zj h];exact zy h
theorem LF{l:List NW}{f:NW->Bool}{j:Nat}(d:j<l.length)(b:∀i,i<j->f (l.getD i LD)=false)(c:f (l.getD j LD)=true):l.find? f=some (l.getD j LD):=by
 induction l generalizing j with
 |nil=>simp at d
 |cons a t ih=>
  cases j with
  |zero=>simp only[List.getD_cons_zero] at c⊢;rw[Wz,c]
  |succ j=>
   have e:=b 0 qb;simp only[List.getD_cons_zero,List.getD_cons_succ] at e c⊢;rw[Wz,e];exact ih (by simpa using d) (fun i g=>by have:=b (i+1) qb;simpa using this) c
theorem GM{l:List NW}{f:NW->Bool}(a:∀i,i<l.length->f (l.getD i LD)=false):l.find? f=none:=by
 rw[Wp];intro x c;obtain⟨i,b,rfl⟩:=Q9 c;have:=a i b;rw[zb,zj b] at this;simpa using this
theorem GO{l:List NW}{s:Bs}{p:Nat}{r:IT×Nat}(hp:p<=s.length)(hl:∀x∈l,x.1≠[])(h:cI l s p=some r):p<r.2/\r.2<=s.length:=by
 unfold cI at h;obtain⟨x,f,b⟩:=zd.1 h;have g:=Ky f;have a:I0 s x.1 p=true:=by have:=List.find?_some f;simpa using this
 have u:=iu a (hl x g);have v:=Z7.mpr (hl x g);split at b
 ·next hc=>
  have i:=iu hc.2 x8;unfold xN at b;obtain⟨w,j,k⟩:=zd.1 b;obtain⟨y,m,n⟩:=zd.1 k;obtain⟨z,o,c⟩:=zd.1 n;simp only[zx,z6] at i;have A:=ce qb j;have q:=D0 m x8;have C:=ce q.2.2 o;split at c
  ·obtain⟨e,t,d⟩:=ky.1 c;have D:=D0 t x8;subst d;simp only;omega
  ·cases c
 ·have:=j7 b;subst this;simp only;omega
theorem a0W{F:l6}{w:World}{H:List As}{a:Option Addr}{l:List NW}{q i:Nat}(b:Hp F w H)(r:n9 F.heap a (Dq l))(hq:q=6*i)(c:i<l.length):L4 (hp w) (M8 a q) (Dp (l.getD i LD)):=
 sR (C:=Dp) (r.le b.keep) tQ qb LD hq c
theorem Ds{h:l9}{a:Option Addr}{l:List NW}{i:Nat}(r:n9 h a (Dq l))(b:i<l.length):∃c,a=some c:=uU (C:=Dp) r tQ qb b
theorem n5{P:Program}{N:Nat}{K R:y5}{E:List (Nat×y5)}{L:F_}{F j:l6}{H:List As}{ops:Array Oper}{rest:List Oper}{ty:TypeId}{pos:String}{af:Array Edge}{Pq b:Value->Prop}{d:Nat}{f:FuncId}{args:List Operand}{g:Array TypeId}{vs:List Value}{c:l9->Prop}{C Rr:List As}{a:Value->List As->Prop}[HF P f](hc:Cx P f vs c C a Pq)(e:∀h,l9.le F.heap h->(∃bs,A1 h Rr bs)->c h)(k:E.lookup 0=some (Cv j b))(i:∀v,Pq v->b v)(h:∀v A,a v A->GL P N ops rest K E R ((d,v)::L) F (A++Rr))(hx:ri L args=some vs:=by rfl)(hH:x6 C H Rr:=by exact tk)(hl:j.le F:=by exact fle)(l:Nat.blt d N=true:=by rfl):
  GL P N ops (⟨some d,.call ⟨.value (.func f),args.toArray,g⟩,ty,pos,af,none⟩::rest) K E R L F H:=
 w6 Rr hx hc (fun w m=>hH.hp m) e l k hl i h
def ItP(b:Nat)(s:Bs)(c:CM)(x:CL)(o:Option (IT×Nat))(v:Value)(A:List As):Prop:=∃r a' c',o=some r/\v=.tuple #[]/\A=[H7 b s r.2 {c with a4U:=c.a4U++[r.1]} {x with ia:=a',ic:=c'},bJ a' (c.a4U++[r.1]) c']
theorem AV(b:Nat)(s:Bs)(p:Nat)(c:CM)(x:CL)(l:List NW)(a:Option Addr)(n:Nat)(hs:s.length<=1000000000)(hp:p<=s.length)(hl:∀x∈l,x.1≠[]/\x.1.length<=100/\x.2.1<=100)(q0:l.length<=100)(hi:c.a4U.length<=1000000000):Cx prog 280 [m6 b,.slice a l.length n] (fun h=>Gl h/\n9 h a (Dq l)) [H7 b s p c x,bJ x.ia c.a4U x.ic] (ItP b s c x (cI l s p)) (fM (cI l s p)):=by
 refine B7 59 func280 rfl rfl rfl ?_;intro F hh;have hg:=hh.1;have M:=hh.2;obtain⟨W,d⟩:=o7 (cI l s p);rw[<-d];unfold cI at d;refine E6 ?_;refine o9 (ι:=Nat×List As) (fun i=>i.1<=l.length/\∀j,j<i.1->I0 s (l.getD j LD).1 p=false) (fun i=>[(0,m6 b),(6,.slice a l.length n),(7,.int .i64 (l.length:Nat)),(8,.int .i64 (i.1:Nat))]) (fun i=>H7 b s p c x::bJ x.ia c.a4U x.ic::i.2) (fun i=>l.length-i.1) (0,[]) ⟨by simp,fun j hj=>by simp at hj⟩ sub i_ ?_;rintro⟨i,Z⟩ ⟨h6,r⟩;simp only at h6 r;refine R6 ?_ ?_<;>intro h
 ·have g:i<l.length:=by have:=qr h;omega
  have h7:=Ds M g;have hm:=hl _ (Dr g);obtain⟨y,O⟩:=o7 (l.getD i LD);obtain⟨q,Q⟩:=o7 (I0 s y.1 p);rw[<-O] at hm;refine p9 ?_;refine r_ ((w8 rfl (fun w e=>a0W e M (i:=i) qb g) (by rfl)).eq (v':=.agg [B y.1,.int .i64 (y.2.1:Nat),.bool y.2.2,.bool false,.int .u64 0,.int .u64 0].toArray) (by rw[O])) ?_;refine p9 ?_;intro S;refine O2 ?_;refine c_ (S5 b s y.1 p c x qb hp qb) pre ?_;rintro v A ⟨rfl,rfl⟩;rw[<-Q];refine R6 ?_ ?_<;>intro h2
  ·have T:I0 s y.1 p=false:=(by rw[<-Q];simpa using h2);rw[show H3 s y.1 p=p from by unfold H3;rw[T];rfl];refine z_ ?_;refine l8 (i+1,_::Z) ⟨g,fun j hj=>?_⟩ qg sub (fun w e=>(tk (C:=[_,_,_])).hp e);rcases kd.1 hj with t|rfl
   ·exact r j t
   ·rw[<-O];exact T
  ·have U:I0 s y.1 p=true:=(by rw[<-Q];simpa using h2);have D:l.find? (fun x=>I0 s x.1 p)=some y:=(by rw[O];exact LF g r (by rw[<-O];exact U));rw[D,zr] at d;have e2:H3 s y.1 p=p+y.1.length:=(by unfold H3;rw[U];rfl);have u:=(gv (s:=s) (w:=y.1) hp).2;rw[e2] at u⊢;obtain⟨P,hP⟩:=o7 (p+y.1.length);rw[<-hP] at d u⊢;obtain⟨q1,k⟩:=o7 (decide (10<=y.2.1));obtain⟨q2,z⟩:=o7 (I0 s [60] P);refine u7 ?_;obtain⟨PE,f⟩:=o7 (if(q1&&q2)=true then P+1 else P);refine y6 [(0,m6 b),(5,m6 S),(24,.bool (q1&&q2))] (H7 b s PE c x::.blk S (.cells (B y.1::cO ⟨y.2.1,y.2.2,false,0,0⟩).toArray 371)::bJ x.ia c.a4U x.ic::Z) ?_ ?_
   ·cases q1
    ·refine E6 ?_;refine f_ ((I3 rfl rfl).eq (v':=.bool false) (qn ((qz).trans k.symm))) ?_;refine z_ ?_;(first|refine u_ ?_|(refine v_ ?_;fail));refine p9 ?_;subst f;exact u6 sub (fun w e=>(tk (C:=[_,_,_])).hp e)
    ·refine E6 ?_;refine f_ ((I3 rfl rfl).eq (v':=.bool true) (qn ((qz).trans k.symm))) ?_;refine z_ ?_;(first|refine u_ ?_|(refine v_ ?_;refine c_ (S5 b s [60] P c x qb u qp) pre ?_;rintro v A ⟨rfl,rfl⟩;rw[<-z]));refine p9 ?_;rw[show H3 s [60] P=PE from by rw[f];unfold H3;rw[<-z];rfl];exact u6 sub (fun w e=>(tk (C:=[_,_,_])).hp e)
   refine u7 ?_;refine n7 (ι:=IT×Nat) (fun i=>W=some i) (fun i=>[(0,m6 b),(5,m6 S)]) (fun i=>H7 b s i.2 c x::.blk S (.cells (B y.1::cO i.1).toArray 371)::bJ x.ia c.a4U x.ic::Z) ?_ ?_
   ·refine o8 rfl ?_ ?_<;>intro t
    ·rw[zu t] at f;rw[kw] at t;have V:I0 s [60] P=true:=z.symm.trans t.2;rw[zu ⟨qr (k.symm.trans t.1),V⟩] at d;unfold xN at d;have o:=(gv (s:=s) (w:=[60]) u).2;rw[show H3 s [60] P=P+1 from by unfold H3;rw[V];rfl] at o;rw[f];refine O2 ?_;refine n5 (X4 b s 4294967295 (P+1) c x qb o qp) pre rfl (fun v h=>⟨by rw[d,h.1];rfl,h.2⟩) ?_;rintro v A ⟨r1,X,rfl,rfl⟩;refine E6 ?_;have b1:=ce o X;rw[X,zr] at d;refine p9 ?_;refine n5 (D8 b s [46] r1.2 c x qb b1.2.2 qp) pre rfl (fun v h=>⟨by rw[d,h.1];rfl,h.2⟩) ?_;rintro v A ⟨p2,Y,rfl,rfl⟩;refine u7 ?_;have b2:=D0 Y x8;rw[Y,zr] at d;refine p9 ?_;refine n5 (X4 b s 4294967295 p2 c x qb b2.2.2 qp) pre rfl (fun v h=>⟨by rw[d,h.1];rfl,h.2⟩) ?_;rintro v A ⟨r3,h0,rfl,rfl⟩;refine E6 ?_;have b3:=ce b2.2.2 h0;rw[h0,zr] at d;obtain⟨q3,J⟩:=o7 (decide (0<r3.1));refine E6 ?_;refine f_ ((E1 rfl rfl).eq (v':=.bool q3) (qn ((qz).trans J.symm))) ?_;refine n5 (G6 q3) qw rfl (fun v h=>⟨by rw[d,zk (zq (J.symm.trans h.1))],h.2⟩) ?_;rintro v A ⟨Q,rfl,rfl⟩;refine u7 ?_;rw[zu (qr (J.symm.trans Q))] at d;refine p9 ?_;refine n5 (D8 b s [62] r3.2 c x qb b3.2.2 qp) pre rfl (fun v h=>⟨by rw[d,h.1];rfl,h.2⟩) ?_;rintro v A ⟨p4,h8,rfl,rfl⟩;refine u7 ?_;rw[h8,Qk] at d;exact g_ _ d (fun w e=>(tk (C:=[_,_,_])).hp e)
    ·rw[zk (by rw[t];simp)] at f;rw[zk (by rintro⟨h1,h4⟩;rw[jq h1] at k;rw[k,z,h4] at t;cases t)] at d;rw[f];refine u7 ?_;exact g_ _ d (fun w e=>(tk (C:=[_,_,_])).hp e)
   rintro⟨it,P2⟩ h9;refine u7 ?_;refine D7 [5,7] [8,9,13] [H7 b s P2 c x,.blk S (.cells (B y.1::cO it).toArray 371)] 14 ?_;refine wd [0,1,2,3,4,5,6,7] ?_;refine h_ 8 rfl i6 ?_;refine C4 cO it rfl ?_;intro q4 k9;refine F7 ?_;refine dB (.inr (by exact aS (by(first|exact fun _ h=>h|(repeat first|exact sQ|refine nT (by repeat first|exact List.Mem.head _|apply List.Mem.tail) ?_|exact fun _ h=>h|refine sub_skip ?_))))) ?_;refine h_ 9 rfl i6 ?_;refine r8 cO (l:=c.a4U) (m:=[it]) aj gq (by show(c.a4U.length+1)*32<=_;omega) ?_;intro k0 k8 _;refine E5 [10,11,12,13] ?_;refine A3 ?_;exact l_ rfl _ ⟨(it,P2),k0,k8,h9,rfl,rfl⟩ fun w e=>x6.left tk e
 ·have h5:i=l.length:=by have:=zq h;omega
  subst h5;rw[GM r] at d;refine C6 ?_;refine n5 (G6 false) qw rfl (fun v h=>⟨d,h.2⟩) ?_;rintro v A ⟨hl,rfl,rfl⟩;refine u7 ?_
  cases hl
section
variable{ι:Type}(s:Bs)(Rr:ι->Nat->ι->Nat->Prop)(Nn:ι->Nat->Prop)
inductive pj:ι->Nat->Nat->ι->Nat->Prop
 |one {i i1:ι} {p p1:Nat}:Rr i p i1 p1->pj i p 1 i1 p1
 |more {i i1 i2:ι} {p p1 p2 n:Nat}:pj i p n i1 p1->I0 s [32] p1=true->Rr i1 (p1+1) i2 p2->pj i p (n+1) i2 p2
def NB(i:ι)(p:Nat):Prop:=Nn i p\/∃n i1 p1,pj s Rr i p n i1 p1/\I0 s [32] p1=true/\Nn i1 (p1+1)
end
theorem ni{ι:Type}(b:Nat)(s:Bs)(hs:s.length<=1000000000)(f:FuncId)[HF prog f](Fy:List Value)(l:l9->Prop)[Mn l](m:ι->CM)(cl:ι->CL)(Z:ι->List As)(ok:ι->Nat->Prop)(Rr:ι->Nat->ι->Nat->Prop)(D:ι->Nat->Prop)(J:∀i p a p',ok i p->p<=s.length->Rr i p a p'->p<=p'/\p'<=s.length/\ok a p')(d:∀i p,ok i p->ok i (p+1))(e:∀i p,ok i p->p<=s.length->Cx prog f Fy l (H7 b s p (m i) (cl i)::Z i) (fun v A=>∃a p',Rr i p a p'/\v=.tuple #[]/\A=H7 b s p' (m a) (cl a)::Z a) (fun v=>D i p/\v=N0))(i:ι)(p:Nat)(M:ok i p)(hp:p<=s.length):Cx prog 278 [m6 b,.func (.func f) #[] Fy.toArray] l (H7 b s p (m i) (cl i)::Z i) (fun v A=>∃n a p',pj s Rr i p n a p'/\I0 s [32] p'=false/\v=.int .i64 (n:Nat)/\A=H7 b s p' (m a) (cl a)::Z a) (fun v=>NB s Rr D i p/\v=N0):=by
 refine B7 15 func278 rfl rfl rfl ?_;intro F g;refine E6 ?_;refine kN (ps:=[]) [] rfl rfl rfl (e i p M hp) (fun w y=>by rw[z7];exact y) (fun h z _=>Mn.le z g) rfl rfl (l6.le_refl _) (fun v h=>⟨.inl h.1,h.2⟩) ?_;rintro v A ⟨T,U,x,rfl,rfl⟩;refine u7 ?_;have O:=J _ _ _ _ M hp x;rw[z7];refine o9 (ι:=Nat×ι×Nat) (fun t=>pj s Rr i p t.1 t.2.1 t.2.2/\t.2.2<=s.length/\ok t.2.1 t.2.2/\t.1<=t.2.2+1) (fun t=>[(0,m6 b),(1,.func (.func f) #[] Fy.toArray),(5,.int .i64 (t.1:Nat))]) (fun t=>H7 b s t.2.2 (m t.2.1) (cl t.2.1)::Z t.2.1) (fun t=>s.length-t.2.2) (1,T,U) ⟨.one x,O.2.1,O.2.2,by simp⟩ sub i_ ?_;rintro⟨n,j,q⟩ ⟨c,o,r,C⟩;simp only at c o r C;refine p9 ?_;refine c_ (S5 b s [32] q (m j) (cl j) qb o qp) qw ?_;rintro v A ⟨rfl,rfl⟩;refine O1 ?_ ?_<;>intro h
 ·have u:=(gv (s:=s) (w:=[32]) o).2;rw[show H3 s [32] q=q+1 from by unfold H3;rw[h];rfl] at u⊢;refine p9 ?_;refine kN (ps:=[]) [] rfl rfl rfl (e j (q+1) (d _ _ r) u) (fun w y=>by rw[z7];exact y) (fun h z _=>Mn.le z g) rfl rfl (l6.le_refl _) (fun v k=>⟨.inr ⟨n,j,q,c,h,k.1⟩,k.2⟩) ?_;rintro v A ⟨V,X,Q,rfl,rfl⟩;refine u7 ?_;have S:=J _ _ _ _ (d _ _ r) u Q;refine p9 ?_;refine f_ ((p8 rfl rfl qb).eq (v':=.int .i64 ((n+1:Nat):Int)) (by congr 1)) ?_;refine p9 ?_;rw[z7];exact l8 (n+1,V,X) ⟨.more c h Q,S.2.1,S.2.2,by simp only;omega⟩ qg sub i_
 ·rw[show H3 s [32] q=q from by unfold H3;rw[h];rfl];refine L6 ?_;exact d_ rfl rfl (H7 b s q (m j) (cl j)::Z j) ⟨n,j,q,c,h,rfl,rfl⟩ i_
open Go Go.Sl Go.RowKit Go.Proofs.Tryz
section
variable{ι α β:Type}{s:Bs}{one:Nat->Option (α×Nat)}{acc:ι->β}{app:β->α->β}
def GP(one:Nat->Option (α×Nat))(acc:ι->β)(app:β->α->β)(i:ι)(p:Nat)(i':ι)(p':Nat):Prop:=∃r,one p=some r/\acc i'=app (acc i) r.1/\p'=r.2
theorem rV{i b:ι}{p n a:Nat}(h:pj s (GP one acc app) i p n b a):∃l,l.length=n/\acc b=l.foldl app (acc i)/\∀k,dL one s (k+n) p=if I0 s [32] a=true then(dL one s k (a+1)).map fun r=>(l++r.1,r.2) else some (l,a):=by
 induction h with
 |one h=>
  obtain⟨r,c,d,rfl⟩:=h;exact⟨[r.1],rfl,d,fun k=>by rw[dL,c,zr];rfl⟩
 |@more b i2 p a p2 n h hl hr ih=>
  obtain⟨l,e,f,g⟩:=ih;obtain⟨r,c,d,rfl⟩:=hr;refine⟨l++[r.1],by simp[e],by rw[d,f,Ws];rfl,fun k=>?_⟩;rw[show k+(n+1)=(k+1)+n from by omega,g (k+1),zu hl,dL,c,zr];split
  ·cases dL one s k (r.2+1)<;>simp
  ·simp
theorem nj(c:∀p r,p<=s.length->one p=some r->p<r.2/\r.2<=s.length){i d:ι}{p n a:Nat}(hp:p<=s.length)(h:pj s (GP one acc app) i p n d a):p+n<=a/\a<=s.length:=by
 induction h with
 |one h=>
  obtain⟨r,b,e,rfl⟩:=h;have:=c _ _ hp b;omega
 |more h hl hr ih=>
  obtain⟨r,b,e,rfl⟩:=hr;have:=iu hl x8;simp only[jp] at this;have:=c _ _ this b;have:=ih hp;omega
theorem rW(c:∀p r,p<=s.length->one p=some r->p<r.2/\r.2<=s.length){i b:ι}{p n a:Nat}(hp:p<=s.length)(h:pj s (GP one acc app) i p n b a)(hl:I0 s [32] a=false):∃l,l.length=n/\acc b=l.foldl app (acc i)/\dL one s (s.length+1) p=some (l,a):=by
 obtain⟨l,d,e,f⟩:=rV h;have:=nj c hp h;refine⟨l,d,e,?_⟩;rw[show s.length+1=(s.length+1-n)+n from by omega,f,hl];rfl
theorem rX(c:∀p r,p<=s.length->one p=some r->p<r.2/\r.2<=s.length){i:ι}{p:Nat}(hp:p<=s.length)(h:NB s (GP one acc app) (fun _ p=>one p=none) i p):dL one s (s.length+1) p=none:=by
 rcases h with h|⟨n,f,g,h,b,d⟩
 ·rw[dL,h,Zr]
 ·obtain⟨l,j,k,e⟩:=rV h;have:=nj c hp h;have a:=iu b x8;simp only[jp] at a;rw[show s.length+1=(s.length-n+1)+n from by omega,e,zu b,dL,d,Zr];rfl
end
theorem pm{α:Type}(l:List α):∀a:List α,l.foldl (fun a x=>a++[x]) a=a++l:=by
 induction l with
 |nil=>simp
 |cons x t ih=>intro a;rw[J8,ih];simp
abbrev IS:=List IT×Option Addr×Nat
abbrev pB(g b:Nat):As:=.blk g (.cells #[m6 b] 209)
abbrev isC(c:CM)(i:IS):CM:={c with a4U:=i.1}
abbrev AW(x:CL)(i:IS):CL:={x with ia:=i.2.1,ic:=i.2.2}
abbrev Tr(g b:Nat)(i:IS):List As:=[bJ i.2.1 i.1 i.2.2,pB g b]
abbrev LG(tbl:List NW)(s:Bs):IS->Nat->IS->Nat->Prop:=GP (cI tbl s) (fun i:IS=>i.1) (fun a x=>a++[x])
abbrev ItK(f:FuncId)(tbl:List NW)(b g:Nat)(s:Bs)(c:CM)(x:CL):Prop:=∀(i:IS) (p:Nat),i.1.length<=p->p<=s.length->Cx prog f [m6 g] Gl (H7 b s p (isC c i) (AW x i)::Tr g b i) (fun v A=>∃i' p',LG tbl s i p i' p'/\v=.tuple #[]/\A=H7 b s p' (isC c i') (AW x i')::Tr g b i') (fun v=>cI tbl s p=none/\v=N0)
theorem yx{l:List NW}(h:(l.all fun x=>!x.1.isEmpty&&decide (x.1.length<=100)&&decide (x.2.1<=100))=true):∀x∈l,x.1≠[]/\x.1.length<=100/\x.2.1<=100:=fun x a=>by
 have:=Qx.1 h x a;simp only[kw,jx] at this;refine⟨fun e=>?_,this.1.2,this.2⟩;rw[e] at this;simp at this
theorem Dt(b g:Nat)(s:Bs)(c:CM)(x:CL)(hs:s.length<=1000000000):ItK 279 ja b g s c x:=fun i p m hp=>by
 refine B7 4 func279 rfl rfl rfl ?_;intro F hg;refine u7 ?_;refine D7 [0] [1,2] [pB g b] 3 ?_;refine wd [0] ?_;refine h_ 1 rfl i6 ?_;refine c_ pi qw ?_;rintro v A ⟨a,rfl,rfl⟩;refine Y5 ?_;refine h_ 2 rfl i6 ?_;refine n5 (Rr:=[.own (.slice (some a) 5 5) 371 6 (Dq ja),pB g b]) (AV b s p (isC c i) (AW x i) ja (some a) 5 hs hp (yx qp) qp qg) (fun h d ⟨n,e⟩=>⟨hg.le d,A1.rd e .del⟩) rfl (fun v h=>h) ?_;rintro v A ⟨r,f,j,k,rfl,rfl⟩;refine E5 [] ?_;exact l_ rfl _ ⟨(i.1++[r.1],f,j),r.2,⟨r,k,rfl,rfl⟩,rfl,rfl⟩ fun w l=>x6.left tk l
open Go Go.Sl Go.RowKit Go.Proofs.Tryz
instance:Mn Gl:=⟨fun l r=>r.le l⟩
abbrev P7(c:CM):CM:={c with cond:=false,set:=[],a4U:=[],keys:=[],how:=0,a5a:=false,a4V:=false,a4W:=0,a5c:=[]}
def rY(c:CM)(x:CL)(Z:List As):Prop:=∀h bs,A1 h Z bs->fd c x h
theorem aZ{c:CM}{x:CL}{Z:List As}(hs:c.set=[]\/U7 x.sa c.set x.sc∈Z)(d:c.a4U=[]\/bJ x.ia c.a4U x.ic∈Z)(f:c.keys=[])(hf:c.a5c=[]\/A4 x.fa c.a5c x.fc∈Z):rY c x Z:=fun h g b=>
 ⟨by rcases hs with e|a;rw[e];exact n9.nil _ _;exact dJ b a,by rcases d with e|a;rw[e];exact n9.nil _ _;exact dJ b a,⟨[],by rw[f];rfl,n9.nil _ _,fun _ h=>by cases h⟩,by rcases hf with e|a;rw[e];exact n9.nil _ _;exact dJ b a⟩
abbrev rZ(f:FuncId)(b:Nat)(s:Bs)(Rd:CM->Nat->Option (CM×Nat)):Prop:=∀(c:CM) (p:Nat),p<=s.length->Cx prog f [m6 b] Gl [H7 b s p (P7 c) G8] (fun v A=>∃r x Z,Rd (P7 c) p=some r/\v=.tuple #[]/\A=H7 b s r.2 r.1 x::Z/\rY r.1 x Z) (fM (Rd (P7 c) p))
theorem rZ.of_x{f:FuncId}{b:Nat}{s:Bs}{a:CM->Nat->Option (CM×Nat)}(h:NA f b s a)(e:∀c p r,a (P7 c) p=some r->r.1.set=[]/\r.1.a4U=[]/\r.1.keys=[]/\r.1.a5c=[]):rZ f b s a:=fun c p hp=>
 (h (P7 c) G8 p hp).mono (fun _ h=>h) (fun v A ⟨r,d,g,i⟩=>⟨r,G8,[],d,g,i,by
  obtain⟨j,k,a3,a4⟩:=e c p r d;exact aZ (.inl j) (.inl k) a3 (.inl a4)⟩) (fun _ h=>h)
theorem ci{c:CM}{s:Bs}{p:Nat}{r:CM×Nat}(h:I8 c s p=some r):∃w e,r=({c with box:=w},e):=by
 unfold I8 at h;obtain⟨q,_,a⟩:=ky.1 h;exact⟨q.1,q.2,a.symm⟩
theorem vS(a:List (Bs×Nat×Bool))(s:Bs)(p:Nat):om a s p=(dL (cI a s) s (s.length+1) p).bind fun q=>if q.1.length<=8 then(H8 s [41] q.2).map fun e=>(q.1,e) else none:=rfl
theorem cY{a:List NW}(b:∀x∈a,x.1≠[]/\x.1.length<=100/\x.2.1<=100)(s:Bs)(p:Nat)(r:IT×Nat)(hp:p<=s.length)(h:cI a s p=some r):p<r.2/\r.2<=s.length:=GO hp (fun x c=>(b x c).1) h
theorem AY{a:List NW}(c:∀x∈a,x.1≠[]/\x.1.length<=100/\x.2.1<=100){s:Bs}(i:IS)(p:Nat)(b:IS)(p':Nat)(h:i.1.length<=p)(hp:p<=s.length)(r:LG a s i p b p'):p<=p'/\p'<=s.length/\b.1.length<=p':=by
 obtain⟨q,d,e,rfl⟩:=r;have:=cY c s p q hp d;rw[show b.1=i.1++[q.1] from e,zz,jp];omega
theorem nk:∀x∈ja,x.1≠[]/\x.1.length<=100/\x.2.1<=100:=yx qp
theorem Du(b:Nat)(s:Bs)(hs:s.length<=1000000000):rZ 213 b s (fun c p=>jf c s p):=fun c p hp=>by
 refine B7 13 func213 rfl rfl rfl ?_;intro F hg;obtain⟨W,a⟩:=o7 (jf (P7 c) s p);simp only;rw[<-a];unfold jf at a;refine p9 ?_;intro m;refine p9 ?_;refine n5 (dT b s hs (P7 c) G8 p hp) pre rfl (fun v h=>⟨by rw[a,show I8 (P7 c) s p=none from h.1];rfl,h.2⟩) ?_;rintro v A ⟨y,d,rfl,rfl⟩;refine u7 ?_;replace d:I8 (P7 c) s p=some y:=d;have x:=ln hp d;obtain⟨w,z,rfl⟩:=ci d;rw[d,zr] at a;simp only at a x;refine p9 ?_;refine n5 (D8 b s [32,40] z {P7 c with box:=w} G8 qb x.2 qp) pre rfl (fun v h=>⟨by rw[a,h.1];rfl,h.2⟩) ?_;rintro v A ⟨C,e,rfl,rfl⟩;refine u7 ?_;have k:=D0 e x8;rw[e,zr,vS] at a;refine u7 ?_;refine O7 129 5 ?_;refine z_ ?_;refine n5 (ni b s hs 279 [m6 m] Gl (isC {P7 c with box:=w}) (AW G8) (Tr m b) (fun i p=>i.1.length<=p) (LG ja s) (fun _ p=>cI ja s p=none) (AY nk) (fun _ _ h=>by omega) (Dt b m s _ _ hs) ([],none,0) C (zw _) k.2.2) pre rfl (fun v h=>⟨by rw[a,rX (cY nk s) k.2.2 h.1];rfl,h.2⟩) ?_;rintro v A ⟨n,i,D,f,o,rfl,rfl⟩;obtain⟨l,g,j,J⟩:=rW (cY nk s) k.2.2 f o;rw[pm,j6] at j;rw[J,zr] at a;obtain⟨q,r⟩:∃q,q=decide (n<=8):=⟨_,rfl⟩;refine f_ ((G1 rfl rfl).eq (v':=.bool q) (qn ((qz).trans r.symm))) ?_;refine n5 (G6 q) qw rfl (fun v h=>⟨by rw[a,zk (by rw[g];exact zq (r.symm.trans h.1))];rfl,h.2⟩) ?_;rintro v A ⟨t,rfl,rfl⟩;refine u7 ?_;rw[zu (by rw[g];exact qr (r.symm.trans t))] at a;have M:=nj (cY nk s) k.2.2 f;refine p9 ?_;refine n5 (D8 b s [41] D (isC {P7 c with box:=w} i) (AW G8 i) qb M.2 qp) pre rfl (fun v h=>⟨by rw[a,h.1];rfl,h.2⟩) ?_;rintro v A ⟨O,u,rfl,rfl⟩;refine u7 ?_;rw[u,<-j] at a;exact l_ rfl (H7 b s O (isC {P7 c with box:=w} i) (AW G8 i)::[bJ i.2.1 i.1 i.2.2]) ⟨_,_,_,a,rfl,rfl,aZ (.inl rfl) (.inr (.head _)) rfl (.inl rfl)⟩ fun w Q=>x6.left tk Q
theorem Dv(b:Nat)(s:Bs)(hs:s.length<=1000000000):rZ 218 b s (fun c p=>cK c s p fun c e=>I8 c s e):=fun c p hp=>by
 refine B7 12 func218 rfl rfl rfl ?_;intro F hg;obtain⟨W,a⟩:=o7 (cK (P7 c) s p fun c e=>I8 c s e);simp only;rw[<-a];unfold cK at a;refine p9 ?_;refine n5 (D8 b s [32] p (P7 c) G8 qb hp qp) pre rfl (fun v h=>⟨by rw[a,h.1];rfl,h.2⟩) ?_;rintro v A ⟨n,g,rfl,rfl⟩;refine u7 ?_;have l:=D0 g x8;rw[g,zr] at a;refine z_ ?_;refine n5 (jT b s n (P7 c) G8 hs l.2.2) pre rfl (fun v h=>⟨by rw[a,h.1];rfl,h.2⟩) ?_;rintro v A ⟨f,j,k,i,rfl,rfl⟩;refine O2 ?_;have o:=jS l.2.2 i;rw[i,zr] at a;simp only at a;refine p9 ?_;refine n5 (dT b s hs {P7 c with set:=f.1} {G8 with sa:=j,sc:=k} f.2 o.2.1) pre rfl (fun v h=>⟨by rw[a];exact h.1,h.2⟩) ?_;rintro v A ⟨q,d,rfl,rfl⟩;refine u7 ?_;replace d:I8 {P7 c with set:=f.1} s f.2=some q:=d;obtain⟨w,m,rfl⟩:=ci d;exact l_ rfl (H7 b s m {P7 c with set:=f.1,box:=w} {G8 with sa:=j,sc:=k}::[U7 j f.1 k]) ⟨({P7 c with set:=f.1,box:=w},m),_,_,a.trans d,rfl,rfl,aZ (.inr (.head _)) (.inl rfl) rfl (.inl rfl)⟩ fun w r=>x6.left tk r
theorem eL{s w:Bs}{p:Nat}(hp:p<=s.length):H3 s w p<=s.length:=(gv hp).2
theorem pn{c:CM}{s:Bs}{p:Nat}{r:CM×Nat}(hp:p<=s.length)(h:(dp s p).map (fun q=>({c with a4W:=q.1,a4V:=true},q.2))=some r):∃n e,dp s p=some (n,e)/\r=({c with a4W:=n,a4V:=true},e)/\e<=s.length:=by
 obtain⟨q,a,b⟩:=ky.1 h;refine⟨q.1,q.2,a,b.symm,?_⟩;unfold dp at a;obtain⟨t,i,d⟩:=zd.1 a;obtain⟨e,f,g⟩:=ky.1 d;have:=D0 f x8;subst g;exact this.2.2
theorem GQ(b:Nat)(s:Bs)(hs:s.length<=1000000000):rZ 217 b s (fun c p=>cK c s p (aG s fun c e=>ou c s e)):=fun c p hp=>by
 refine B7 48 func217 rfl rfl rfl ?_;intro F hg;obtain⟨W,a⟩:=o7 (cK (P7 c) s p (aG s fun c e=>ou c s e));simp only;rw[<-a];unfold cK at a;refine p9 ?_;refine n5 (D8 b s [32] p (P7 c) G8 qb hp qp) pre rfl (fun v h=>⟨by rw[a,h.1];rfl,h.2⟩) ?_;rintro v A ⟨e1,C,rfl,rfl⟩;refine u7 ?_;have b1:=D0 C x8;rw[C,zr] at a;refine z_ ?_;refine n5 (jT b s e1 (P7 c) G8 hs b1.2.2) pre rfl (fun v h=>⟨by rw[a,h.1];rfl,h.2⟩) ?_;rintro v A ⟨d,g,j,D,rfl,rfl⟩;refine O2 ?_;have b2:=jS b1.2.2 D;rw[D,zr] at a;unfold aG at a;simp only at a;obtain⟨x,hx⟩:∃x:CL,x={G8 with sa:=g,sc:=j}:=⟨_,rfl⟩;refine p9 ?_;refine n5 (D8 b s [32] d.2 {P7 c with set:=d.1} {G8 with sa:=g,sc:=j} qb b2.2.1 qp) pre rfl (fun v h=>⟨by rw[a,h.1];rfl,h.2⟩) ?_;rintro v A ⟨u,J,rfl,rfl⟩;refine u7 ?_;have V:=D0 J x8;rw[J,zr] at a;unfold ou Ow at a;refine p9 ?_;refine c_ (S5 b s vk u {P7 c with set:=d.1} {G8 with sa:=g,sc:=j} qb V.2.2 qp) pre ?_;rintro v A ⟨rfl,rfl⟩;refine u7 ?_
 -- since
 refine n7 (ι:=CM×Nat) (fun i=>i.2<=s.length/\(∃n h,i.1={P7 c with set:=d.1,a4W:=n,a4V:=h})/\W=(H8 s xP (vo s i.2).2).bind fun e=>(H8 s [32] (CI s e).2).bind fun e2=>(ol s e2).map fun f=>({i.1 with how:=(vo s i.2).1,a5a:=(CI s e).1,a5c:=f.1},f.2)) (fun i=>[(0,m6 b)]) (fun i=>H7 b s i.2 i.1 {G8 with sa:=g,sc:=j}::[U7 g d.1 j]) ?_ ?_
 ·refine o8 rfl ?_ ?_<;>intro h
  ·rw[zu h] at a;have o:=eL (w:=vk) V.2.2;rw[show H3 s vk u=u+16 from by unfold H3;rw[h];rfl] at o⊢;refine p9 ?_;refine n5 (vR b s hs {P7 c with set:=d.1} {G8 with sa:=g,sc:=j} (u+16) o) pre rfl (fun v h=>⟨by rw[a,Option.map_eq_none_iff.1 h.1];rfl,h.2⟩) ?_;rintro v A ⟨r4,X,rfl,rfl⟩;refine u7 ?_;obtain⟨l,k,Y,rfl,r⟩:=pn o X;rw[Y,zr] at a;simp only at a r;refine p9 ?_;refine n5 (D8 b s [32] k {P7 c with set:=d.1,a4W:=l,a4V:=true} {G8 with sa:=g,sc:=j} qb r qp) pre rfl (fun v h=>⟨by rw[a,h.1];rfl,h.2⟩) ?_;rintro v A ⟨Z,M,rfl,rfl⟩;refine u7 ?_;have y:=D0 M x8;rw[M,Qk,zr] at a;exact g_ ({P7 c with set:=d.1,a4W:=l,a4V:=true},Z) ⟨y.2.2,⟨l,true,rfl⟩,a⟩ (fun w m=>x6.left tk m)
  ·rw[zk (by simp[h]),zr] at a;rw[show H3 s vk u=u from by unfold H3;rw[h];rfl];refine u7 ?_;exact g_ ({P7 c with set:=d.1},u) ⟨V.2.2,⟨_,_,rfl⟩,a⟩ (fun w m=>x6.left tk m)
 rintro⟨c4,k⟩ ⟨o,⟨l,t,rfl⟩,a⟩;simp only at o a
 -- plus or minus
 refine J_ 0 ?_;refine n7 (ι:=Nat×Nat) (fun i=>i=vo s k/\i.2<=s.length) (fun i=>[(0,m6 b)]) (fun i=>H7 b s i.2 {P7 c with set:=d.1,a4W:=l,a4V:=t,how:=i.1} {G8 with sa:=g,sc:=j}::[U7 g d.1 j]) ?_ ?_
 ·refine p9 ?_;refine c_ (S5 b s [43] k {P7 c with set:=d.1,a4W:=l,a4V:=t} {G8 with sa:=g,sc:=j} qb o qp) pre ?_;rintro v A ⟨rfl,rfl⟩;refine p9 ?_;have r:=eL (w:=[43]) o;refine o8 rfl ?_ ?_<;>intro h
  ·rw[show H3 s [43] k=k+1 from by unfold H3;rw[h];rfl] at r⊢;refine aF ?_;exact g_ (1,k+1) ⟨by unfold vo;rw[zu h],r⟩ (fun w m=>x6.left tk m)
  ·rw[show H3 s [43] k=k from by unfold H3;rw[h];rfl];refine p9 ?_;refine c_ (S5 b s [45] k {P7 c with set:=d.1,a4W:=l,a4V:=t} {G8 with sa:=g,sc:=j} qb o qp) pre ?_;rintro v A ⟨rfl,rfl⟩;refine p9 ?_;have y:=eL (w:=[45]) o;refine o8 rfl ?_ ?_<;>intro U
   ·rw[show H3 s [45] k=k+1 from by unfold H3;rw[U];rfl] at y⊢;refine aF ?_;exact g_ (2,k+1) ⟨by unfold vo;rw[zk (by rw[h];simp),zu U],y⟩ (fun w m=>x6.left tk m)
   ·rw[show H3 s [45] k=k from by unfold H3;rw[U];rfl];refine u7 ?_;exact g_ (0,k) ⟨by unfold vo;rw[zk (by rw[h];simp),zk (by rw[U];simp)],o⟩ (fun w m=>x6.left tk m)
 rintro⟨O,Z⟩ ⟨h0,r⟩;rw[<-h0] at a;simp only at r a;refine p9 ?_;refine n5 (D8 b s xP Z {P7 c with set:=d.1,a4W:=l,a4V:=t,how:=O} {G8 with sa:=g,sc:=j} qb r qp) pre rfl (fun v h=>⟨by rw[a,h.1];rfl,h.2⟩) ?_;rintro v A ⟨z,Q,rfl,rfl⟩;refine u7 ?_;have y:=D0 Q x8;rw[Q,zr] at a;refine z_ ?_;refine c_ (S5 b s cJ z {P7 c with set:=d.1,a4W:=l,a4V:=t,how:=O} {G8 with sa:=g,sc:=j} qb y.2.2 qp) pre ?_;rintro v A ⟨rfl,rfl⟩;refine O2 ?_;have S:CI s z=(I0 s cJ z,H3 s cJ z):=by
  unfold CI H3
  cases I0 s cJ z<;>rfl
 have b7:=eL (w:=cJ) y.2.2;rw[S] at a;obtain⟨e7,h1⟩:=o7 (H3 s cJ z);obtain⟨q,hq⟩:=o7 (I0 s cJ z);rw[<-h1] at a b7⊢;rw[<-hq] at a⊢;simp only at a;refine p9 ?_;refine n5 (D8 b s [32] e7 {P7 c with set:=d.1,a4W:=l,a4V:=t,how:=O,a5a:=q} {G8 with sa:=g,sc:=j} qb b7 qp) pre rfl (fun v h=>⟨by rw[a,h.1];rfl,h.2⟩) ?_;rintro v A ⟨e8,T,rfl,rfl⟩;refine u7 ?_;have b8:=D0 T x8;rw[T,zr] at a;refine z_ ?_;refine n5 (rU b s e8 {P7 c with set:=d.1,a4W:=l,a4V:=t,how:=O,a5a:=q} {G8 with sa:=g,sc:=j} hs b8.2.2) pre rfl (fun v h=>⟨by rw[a,h.1];rfl,h.2⟩) ?_;rintro v A ⟨r9,a9,d9,h3,rfl,rfl⟩;refine O2 ?_;rw[h3,Qk] at a;exact l_ rfl (H7 b s r9.2 {P7 c with set:=d.1,a4W:=l,a4V:=t,how:=O,a5a:=q,a5c:=r9.1} {G8 with sa:=g,sc:=j,fa:=a9,fc:=d9}::[U7 g d.1 j,A4 a9 r9.1 d9]) ⟨_,_,_,a,rfl,rfl,aZ (.inr (.head _)) (.inl rfl) rfl (.inr (.tail _ (.head _)))⟩ fun w m=>x6.left tk m
theorem Sb(s:Bs)(p:Nat):([40]:Bs).isPrefixOf (s.drop p)=I0 s [40] p:=OP (c:=40) qp
theorem Dw(b:Nat)(s:Bs)(hs:s.length<=1000000000):rZ 214 b s (fun c p=>ji c s p):=fun c p hp=>by
 refine B7 23 func214 rfl rfl rfl ?_;intro F hg;obtain⟨W,a⟩:=o7 (ji (P7 c) s p);simp only;rw[<-a];unfold ji at a;refine p9 ?_;refine n5 (dT b s hs (P7 c) G8 p hp) pre rfl (fun v h=>⟨by rw[a,show I8 (P7 c) s p=none from h.1];rfl,h.2⟩) ?_;rintro v A ⟨y,d,rfl,rfl⟩;refine u7 ?_;replace d:I8 (P7 c) s p=some y:=d;have x:=ln hp d;obtain⟨w,z,rfl⟩:=ci d;rw[d,zr] at a;simp only at a x;refine p9 ?_;refine n5 (D8 b s [32] z {P7 c with box:=w} G8 qb x.2 qp) pre rfl (fun v h=>⟨by rw[a,h.1];rfl,h.2⟩) ?_;rintro v A ⟨l,f,rfl,rfl⟩;refine u7 ?_;have m:=D0 f x8;rw[f,zr] at a;refine p9 ?_;refine c_ (aJ b s l {P7 c with box:=w} G8 qb m.2.2) pre ?_;rintro v A ⟨rfl,rfl⟩;refine e_ rfl (Z_ (s.drop l) [40]) qw rfl ?_;rw[Sb];refine u7 ?_;refine n7 (ι:=(List Bs×Option Addr×Nat)×Nat) (fun i=>i.2<=s.length/\W=(my s i.2).map fun r=>({P7 c with box:=w,a5c:=i.1.1,data:=r.1},r.2)) (fun i=>[(0,m6 b)]) (fun i=>[H7 b s i.2 {P7 c with box:=w,a5c:=i.1.1} {G8 with fa:=i.1.2.1,fc:=i.1.2.2},A4 i.1.2.1 i.1.1 i.1.2.2]) ?_ ?_
 ·refine o8 rfl ?_ ?_<;>intro h
  ·rw[zu h] at a;refine z_ ?_;refine n5 (rU b s l {P7 c with box:=w} G8 hs m.2.2) pre rfl (fun v h=>⟨by rw[a,h.1];rfl,h.2⟩) ?_;rintro v A ⟨o,a3,e,g,rfl,rfl⟩;refine O2 ?_;have C:=LB m.2.2 g;rw[g,zr] at a;refine p9 ?_;refine n5 (D8 b s [32] o.2 {P7 c with box:=w,a5c:=o.1} {G8 with fa:=a3,fc:=e} qb C.2.1 qp) pre rfl (fun v h=>⟨by rw[a,h.1];rfl,h.2⟩) ?_;rintro v A ⟨q,j,rfl,rfl⟩;refine u7 ?_;have n:=D0 j x8;rw[j,zr] at a;exact g_ ((o.1,a3,e),q) ⟨n.2.2,a⟩ (fun w k=>x6.left tk k)
  ·rw[zk (by rw[h];simp)] at a;refine u7 ?_;exact g_ (([],none,0),l) ⟨m.2.2,a⟩ (fun w k=>(k.addNil 9 1).perm (.swap _ _ _))
 rintro⟨⟨t,a3,e⟩,q⟩ ⟨n,a⟩;simp only at n a;refine z_ ?_;refine n5 (lW b s q {P7 c with box:=w,a5c:=t} {G8 with fa:=a3,fc:=e} qb n) pre rfl (fun v h=>⟨by rw[a,h.1];rfl,h.2⟩) ?_;rintro v A ⟨r5,u,rfl,rfl⟩;refine O2 ?_;rw[u,Qk] at a;exact l_ rfl (H7 b s r5.2 {P7 c with box:=w,a5c:=t,data:=r5.1} {G8 with fa:=a3,fc:=e}::[A4 a3 t e]) ⟨_,_,_,a,rfl,rfl,aZ (.inl rfl) (.inl rfl) rfl (.inr (.head _))⟩ fun w k=>x6.left tk k
theorem dU:∀x∈cw,x.1≠[]/\x.1.length<=100/\x.2.1<=100:=yx qp
abbrev GR(w:Bs)(q:Bool):List NW:=[(w++[91,93],10,q),(w++[91,72,69,65,68,69,82,93],11,q),(w++[91,84,69,88,84,93],12,q)]
theorem qY:Ct prog 287 [] (fun _=>True) [] (fun v A=>∃a c,v=.slice a 10 c/\A=[.own (.slice a 10 c) 371 6 (Dq cw)]):=by
 refine b_ 41 func287 rfl rfl rfl ?_;intro F _;refine wk 9 ?_;refine x5 rfl rfl rfl rfl rfl rfl (xs:=Dq (cw.take 4)) rfl rfl ?_;rintro z ⟨n,rfl⟩;refine xp ?_;refine x5 rfl rfl rfl rfl rfl rfl (xs:=[.bool false,.bool true]) rfl rfl ?_;rintro D ⟨b,rfl⟩;refine z_ ?_;refine o9 (ι:=Nat×Option Addr×Nat×List As) (fun i=>i.1<=2) (fun i=>[(1,.slice i.2.1 (cw.take (4+3*i.1)).length i.2.2.1),(14,.slice (some b) 2 2),(15,.int .i64 2),(16,.int .i64 (i.1:Nat))]) (fun i=>.own (.slice i.2.1 (cw.take (4+3*i.1)).length i.2.2.1) 371 6 (Dq (cw.take (4+3*i.1)))::.own (.slice (some b) 2 2) 4 1 [.bool false,.bool true]::i.2.2.2) (fun i=>2-i.1) (0,some n,4,[]) x8 sub (fun w f=>x6.left tk f) ?_;rintro⟨j,a,c,Z⟩ J;simp only at J;refine R6 ?_ ?_<;>intro h
 ·have d:j<2:=by have:=qr h;omega
  obtain⟨q,o⟩:=o7 (α:=Bool) (decide (j=1));have p:j<([Value.bool false,Value.bool true]:List Value).length:=d;have M:([Value.bool false,Value.bool true]:List Value)[j]=.bool q:=by
   rcases kd.1 d with O|rfl
   ·obtain rfl:j=0:=(by omega);rw[o];rfl
   ·rw[o];rfl
  obtain⟨W,e⟩:=o7 (α:=Bs) (if q then[66,79,68,89,46,80,69,69,75] else[66,79,68,89]);have g:cw.take (4+3*j)++GR W q=cw.take (4+3*(j+1)):=by
   rcases kd.1 d with O|rfl
   ·obtain rfl:j=0:=(by omega);rw[e,o];rfl
   ·rw[e,o];rfl
  have u:(cw.take (4+3*j)).length<=10:=by
   rw[zn];exact jg (Nat.min_le_right _ _) qp
  refine C6 ?_;refine f_ (m8 rfl ⟨b,rfl⟩ rfl qb) ?_;refine r_ (i8 rfl (fun w f=>dH (C:=fun v:Value=>[v]) (l:=[.bool false,.bool true]) (i:=j) (j:=0) (v:=.bool q) (f.ownN (t:=4) (a:=some b) ud).2.2.1 (fun _=>rfl) p (jk some M) x8)) ?_;refine E6 ?_;refine y6 [(1,.slice a (cw.take (4+3*j)).length c),(3,.bool q),(4,B W),(14,.slice (some b) 2 2),(15,.int .i64 2),(16,.int .i64 (j:Nat))] (.own (.slice a (cw.take (4+3*j)).length c) 371 6 (Dq (cw.take (4+3*j)))::.own (.slice (some b) 2 2) 4 1 [.bool false,.bool true]::Z) ?_ ?_
  ·refine o8 rfl ?_ ?_<;>intro x
   ·refine p9 ?_;rw[x] at e⊢;rw[e];exact u6 sub i_
   ·refine u7 ?_;rw[x] at e⊢;rw[e];exact u6 sub i_
  have k:W.length<=9:=by rw[e];cases q<;>decide
  clear e;refine z_ ?_;refine f_ (G7 rfl rfl (by have:=k;simp only[zx,z6];omega)) ?_;refine p9 ?_;refine f_ ((y7 rfl (by rfl)).eq (v':=.agg (cO ⟨10,q,false,0,0⟩).toArray) rfl) ?_;refine f_ ((y7 rfl (by rfl)).eq (v':=.agg (Dp (W++[91,93],10,q)).toArray) rfl) ?_;refine p9 ?_;refine f_ (G7 rfl rfl (by have:=k;simp only[zx,z6];omega)) ?_;refine p9 ?_;refine f_ ((y7 rfl (by rfl)).eq (v':=.agg (cO ⟨11,q,false,0,0⟩).toArray) rfl) ?_;refine f_ ((y7 rfl (by rfl)).eq (v':=.agg (Dp (W++[91,72,69,65,68,69,82,93],11,q)).toArray) rfl) ?_;refine p9 ?_;refine f_ (G7 rfl rfl (by have:=k;simp only[zx,z6];omega)) ?_;refine p9 ?_;refine f_ ((y7 rfl (by rfl)).eq (v':=.agg (cO ⟨12,q,false,0,0⟩).toArray) rfl) ?_;refine f_ ((y7 rfl (by rfl)).eq (v':=.agg (Dp (W++[91,84,69,88,84,93],12,q)).toArray) rfl) ?_;refine x5 (vs:=[(0,.agg (Dp (W++[91,93],10,q)).toArray),(1,.agg (Dp (W++[91,72,69,65,68,69,82,93],11,q)).toArray),(2,.agg (Dp (W++[91,84,69,88,84,93],12,q)).toArray)]) rfl rfl rfl rfl rfl rfl (xs:=Dq (GR W q)) rfl rfl ?_;rintro a37 ⟨y,rfl⟩;refine r8 Dp (l:=cw.take (4+3*j)) (m:=GR W q) tQ LE (by show((cw.take (4+3*j)).length+3)*48<=_;omega) ?_;intro r s _;refine p9 ?_;rw[g];refine C6 ?_;refine f_ ((p8 rfl rfl qb).eq (v':=.int .i64 ((j+1:Nat):Int)) (by congr 1)) ?_;refine p9 ?_;exact l8 (j+1,r,s,_::Z) qg qg sub (fun w f=>(tk (C:=[_,_,_])).hp f)
 ·have d:j=2:=by have:=zq h;omega
  subst d;refine L6 ?_;exact d_ rfl rfl [.own (.slice a 10 c) 371 6 (Dq cw)] ⟨a,c,rfl,rfl⟩ (fun w f=>x6.left tk f)
theorem vT(b g:Nat)(s:Bs)(c:CM)(x:CL)(hs:s.length<=1000000000):ItK 286 cw b g s c x:=fun i p n hp=>by
 refine B7 4 func286 rfl rfl rfl ?_;intro F hg;refine u7 ?_;refine D7 [0] [1,2] [pB g b] 3 ?_;refine wd [0] ?_;refine h_ 1 rfl i6 ?_;refine c_ qY qw ?_;rintro v A ⟨a,d,rfl,rfl⟩;refine Y5 ?_;refine h_ 2 rfl i6 ?_;refine n5 (Rr:=[.own (.slice a 10 d) 371 6 (Dq cw),pB g b]) (AV b s p (isC c i) (AW x i) cw a d hs hp dU qp qg) (fun h e ⟨o,f⟩=>⟨hg.le e,A1.rd f .del⟩) rfl (fun v h=>h) ?_;rintro v A ⟨r,j,k,l,rfl,rfl⟩;refine E5 [] ?_;exact l_ rfl _ ⟨(i.1++[r.1],j,k),r.2,⟨r,l,rfl,rfl⟩,rfl,rfl⟩ fun w m=>x6.left tk m
theorem GS{c:CM}{s:Bs}{p:Nat}(h:I0 s rz p=true)(a:(dp s (p+15)).map (fun q=>({c with a4W:=q.1,a4V:=true},q.2))=none):vn c s p=none:=by unfold vn;rw[zu h];exact a
theorem GT(b:Nat)(s:Bs)(hs:s.length<=1000000000):rZ 216 b s (fun c p=>cK c s p (aG s fun c e=>ot c s e)):=fun c p hp=>by
 refine B7 29 func216 rfl rfl rfl ?_;intro F hg;obtain⟨W,a⟩:=o7 (cK (P7 c) s p (aG s fun c e=>ot c s e));simp only;rw[<-a];unfold cK at a;refine p9 ?_;intro m;refine p9 ?_;refine n5 (D8 b s [32] p (P7 c) G8 qb hp qp) pre rfl (fun v h=>⟨by rw[a,h.1];rfl,h.2⟩) ?_;rintro v A ⟨e1,u,rfl,rfl⟩;refine u7 ?_;have b1:=D0 u x8;rw[u,zr] at a;refine u7 ?_;refine D7 [0,1] [2,6] [pB m b] 7 ?_;refine wd [0,1] ?_;refine h_ 2 rfl i6 ?_;refine n5 (jT b s e1 (P7 c) G8 hs b1.2.2) pre rfl (fun v h=>⟨by rw[a,h.1];rfl,h.2⟩) ?_;rintro v A ⟨d,f,g,x,rfl,rfl⟩;refine gk [3,4,5,6] ?_;have b2:=jS b1.2.2 x;rw[x,zr] at a;unfold aG at a;simp only at a;refine p9 ?_;refine n5 (D8 b s [32] d.2 {P7 c with set:=d.1} {G8 with sa:=f,sc:=g} qb b2.2.1 qp) pre rfl (fun v h=>⟨by rw[a,h.1];rfl,h.2⟩) ?_;rintro v A ⟨o,y,rfl,rfl⟩;refine u7 ?_;have T:=D0 y x8;rw[y,zr] at a;unfold ot at a;refine E6 ?_;refine c_ (S5 b s [40] o {P7 c with set:=d.1} {G8 with sa:=f,sc:=g} qb T.2.2 qp) pre ?_;rintro v A ⟨rfl,rfl⟩;refine u7 ?_;refine O7 129 5 ?_;refine n7 (ι:=IS×Nat) (fun i=>i.2<=s.length/\W=vn {P7 c with set:=d.1,a4U:=i.1.1} s i.2) (fun i=>[(1,m6 m)]) (fun i=>H7 b s i.2 (isC {P7 c with set:=d.1} i.1) (AW {G8 with sa:=f,sc:=g} i.1)::bJ i.1.2.1 i.1.1 i.1.2.2::[pB m b,U7 f d.1 g]) ?_ ?_
 ·refine o8 rfl ?_ ?_<;>intro h
  ·rw[zu h,vS] at a;have z:=eL (w:=[40]) T.2.2;rw[show H3 s [40] o=o+1 from by unfold H3;rw[h];rfl] at z⊢;refine z_ ?_;refine n5 (ni b s hs 286 [m6 m] Gl (isC {P7 c with set:=d.1}) (AW {G8 with sa:=f,sc:=g}) (Tr m b) (fun i p=>i.1.length<=p) (LG cw s) (fun _ p=>cI cw s p=none) (AY dU) (fun _ _ h=>by omega) (vT b m s _ _ hs) ([],none,0) (o+1) (zw _) z) pre rfl (fun v h=>⟨by rw[a,rX (cY dU s) z h.1];rfl,h.2⟩) ?_;rintro v A ⟨n,i,p3,D,U,rfl,rfl⟩;obtain⟨l,J,M,hm⟩:=rW (cY dU s) z D U;rw[pm,j6] at M;rw[hm,zr] at a;obtain⟨q,V⟩:∃q,q=decide (n<=8):=⟨_,rfl⟩;refine f_ ((G1 rfl rfl).eq (v':=.bool q) (qn ((qz).trans V.symm))) ?_;refine n5 (G6 q) qw rfl (fun v h=>⟨by rw[a,zk (by rw[J];exact zq (V.symm.trans h.1))];rfl,h.2⟩) ?_;rintro v A ⟨X,rfl,rfl⟩;refine u7 ?_;rw[zu (by rw[J];exact qr (V.symm.trans X))] at a;have r:=nj (cY dU s) z D;refine p9 ?_;refine n5 (D8 b s [41] p3 (isC {P7 c with set:=d.1} i) (AW {G8 with sa:=f,sc:=g} i) qb r.2 qp) pre rfl (fun v h=>⟨by rw[a,h.1];rfl,h.2⟩) ?_;rintro v A ⟨e4,O,rfl,rfl⟩;refine u7 ?_;have Q:=D0 O x8;rw[O,<-M] at a;exact g_ (i,e4) ⟨Q.2.2,a⟩ (fun w j=>x6.left tk j)
  ·rw[zk (by rw[h];simp)] at a;rw[show H3 s [40] o=o from by unfold H3;rw[h];rfl];refine p9 ?_;refine kN (ps:=[]) [U7 f d.1 g] rfl rfl rfl (vT b m s {P7 c with set:=d.1} {G8 with sa:=f,sc:=g} hs ([],none,0) o (zw _) T.2.2) (fun w j=>(tk (C:=[_,_,_])).hp j) pre rfl rfl (l6.le_refl _) (fun v h=>⟨by rw[a,h.1];rfl,h.2⟩) ?_;rintro v A ⟨i,p3,S,rfl,rfl⟩;refine u7 ?_;obtain⟨q,h1,h2,rfl⟩:=S;rw[h1,Qk,zr] at a;have r:=cY dU s _ _ T.2.2 h1;exact g_ (i,q.2) ⟨r.2,by rw[show i.1=[q.1] from h2];exact a⟩ (fun w j=>x6.left tk j)
 rintro⟨i,t⟩ ⟨r,a⟩;simp only at r a;refine p9 ?_;refine c_ (S5 b s rz t (isC {P7 c with set:=d.1} i) (AW {G8 with sa:=f,sc:=g} i) qb r qp) pre ?_;rintro v A ⟨rfl,rfl⟩;refine O1 ?_ ?_<;>intro h
 ·have Q:=eL (w:=rz) r;rw[show H3 s rz t=t+15 from by unfold H3;rw[h];rfl] at Q⊢;refine p9 ?_;refine n5 (vR b s hs (isC {P7 c with set:=d.1} i) (AW {G8 with sa:=f,sc:=g} i) (t+15) Q) pre rfl (fun v k=>⟨by rw[a];exact GS h k.1,k.2⟩) ?_;rintro v A ⟨r6,Y,rfl,rfl⟩;refine u7 ?_;obtain⟨n6,e6,Z,rfl,b7⟩:=pn Q Y;exact l_ rfl (H7 b s e6 {isC {P7 c with set:=d.1} i with a4W:=n6,a4V:=true} (AW {G8 with sa:=f,sc:=g} i)::[bJ i.2.1 i.1 i.2.2,U7 f d.1 g]) ⟨_,_,_,by rw[a];unfold vn;rw[zu h,Z];rfl,rfl,rfl,aZ (.inr (.tail _ (.head _))) (.inr (.head _)) rfl (.inl rfl)⟩ fun w j=>x6.left tk j
 ·rw[show H3 s rz t=t from by unfold H3;rw[h];rfl];refine u7 ?_;exact l_ rfl (H7 b s t (isC {P7 c with set:=d.1} i) (AW {G8 with sa:=f,sc:=g} i)::[bJ i.2.1 i.1 i.2.2,U7 f d.1 g]) ⟨_,_,_,by rw[a];unfold vn;rw[zk (by rw[h];simp)],rfl,rfl,aZ (.inr (.tail _ (.head _))) (.inr (.head _)) rfl (.inl rfl)⟩ fun w j=>x6.left tk j
structure KA where
 l:List KM
 a:Option Addr
 c:Nat
abbrev KA.own(y:KA):As:=a0R y.a y.l y.c
structure KT where
 y:KA
 D:List KA
 S:List As
abbrev po(c:CM)(t:KT):CM:={c with keys:=t.y.l.map KM.k}
abbrev np(x:CL)(t:KT):CL:={x with ka:=t.y.a,kc:=t.y.c}
abbrev vU(t:KT):List As:=t.y.own::(t.D.map KA.own++t.S)
structure vV(t:KT):Prop where
 len:t.y.l.length<=32
 set:∀m∈t.y.l,EJ m.k
 own:∀m∈t.y.l,m.k.set=[]\/U7 m.a m.k.set m.c∈t.S
def KA.le(x y:KA):Prop:=y.a=x.a/\y.c=x.c/\x.l.length<=y.l.length
inductive mI:List KA->List KA->Prop
 |nil:mI [] []
 |cons {x y:KA} {l m:List KA}:x.le y->mI l m->mI (x::l) (y::m)
theorem mI.refl:∀l:List KA,mI l l
 |[]=>.nil
 |x::l=>.cons ⟨rfl,rfl,z1 _⟩ (mI.refl l)
theorem mI.trans{a b c:List KA}(h:mI a b)(k:mI b c):mI a c:=by
 induction h generalizing c with
 |nil=>exact k
 |cons h _ ih=>
  cases k with
  |cons k1 k2=>exact .cons ⟨k1.1.trans h.1,k1.2.1.trans h.2.1,jg h.2.2 k1.2.2⟩ (ih k2)
theorem mI.split{a b N:List KA}:∀{M:List KA},mI (M++a) b->∃N B,b=N++B/\mI a B
 |[],h=>⟨[],b,rfl,h⟩
 |m::M,h=>by
  cases h with
  |cons h1 h2=>
   obtain⟨N,B,e,k⟩:=mI.split (N:=[]) h2;exact⟨_::N,B,by rw[e];rfl,k⟩
structure cz(t u:KT):Prop where
 len:t.y.l.length<=u.y.l.length
 arr:∃N B,u.y::u.D=N++B/\mI (t.y::t.D) B
 rest:∃T,u.S=T++t.S
theorem cz.refl(t:KT):cz t t:=⟨z1 _,⟨[],_,rfl,mI.refl _⟩,⟨[],rfl⟩⟩
theorem cz.trans{t u v:KT}(h:cz t u)(k:cz u v):cz t v:=by
 refine⟨jg h.len k.len,?_,?_⟩
 ·obtain⟨N,B,e,d⟩:=h.arr;obtain⟨f,m,b,a⟩:=k.arr;rw[e] at a;obtain⟨g,i,j,c⟩:=mI.split (N:=[]) a;exact⟨f++g,i,by rw[b,j,zh],d.trans c⟩
 ·obtain⟨T,e⟩:=h.rest;obtain⟨l,b⟩:=k.rest;exact⟨l++T,by rw[b,e,zh]⟩
abbrev Qe(b:Nat)(s:Bs)(p:Nat)(c:CM)(x:CL)(n:Nat)(ka:Option Addr)(kc:Nat):As:=.blk b (.cells #[B s,.int .i64 (p:Nat),B c.tag,.int .i64 (c.kind:Nat),.bool c.uid,.bool c.cond,B c.box,B c.user,B c.pass,B c.a4Y,.slice x.sa c.set.length x.sc,.slice x.ia c.a4U.length x.ic,.slice ka n kc,.int .i64 (c.how:Nat),.bool c.a5a,.bool c.a4V,.int .u64 (c.a4W:Nat),.slice x.fa c.a5c.length x.fc,B c.data] 211)
theorem eM(b:Nat)(s:Bs)(p:Nat)(c:CM)(x:CL)(t:KT):H7 b s p (po c t) (np x t)=Qe b s p c x t.y.l.length t.y.a t.y.c:=by
 unfold H7 Qe po np;rw[zm]
abbrev Sc(b:Nat)(s:Bs)(p:Nat)(c:CM)(x:CL)(t:KT)(m:KM)(v:Value)(A:List As):Prop:=∃u:KT,v=.int .i64 (t.y.l.length:Nat)/\A=H7 b s p (po c u) (np x u)::vU u/\cz t u/\u.S=t.S/\u.y.l=t.y.l++[m]/\t.y.l.length<32
theorem eN(b:Nat)(s:Bs)(p:Nat)(c:CM)(x:CL)(t:KT)(m:KM)(hl:t.y.l.length<=32):Cx prog 343 [m6 b,.agg (bu m).toArray] (fun _=>True) (H7 b s p (po c t) (np x t)::vU t) (Sc b s p c x t m) (fun v=>v=N0):=by
 refine B7 32 func343 rfl rfl rfl ?_;intro F _;rw[eM];refine p9 ?_;intro e;refine wk 7 ?_;obtain⟨q,g⟩:∃q,q=decide (t.y.l.length<32):=⟨_,rfl⟩;refine f_ ((F5 rfl rfl).eq (v':=.bool q) (qn ((qz).trans g.symm))) ?_;refine n5 (G6 q) qw rfl (fun v h=>h.2) ?_;rintro v A ⟨f,rfl,rfl⟩;refine u7 ?_;have d:t.y.l.length<32:=qr (g.symm.trans f);have i:(t.y.l++[m]).length=t.y.l.length+1:=by simp
 have j:qB (t.y.l++[m])=qB t.y.l++bu m:=by simp
 by_cases hroom:t.y.l.length+1<=t.y.c
 ·refine u7 ?_;refine D7 [5,6] [7,8,12] [.blk e (.cells (bu m).toArray 127),Qe b s p c x t.y.l.length t.y.a t.y.c] 13 ?_;refine wd [0,1,2,3,4,5,6] ?_;refine h_ 7 rfl i6 ?_;refine C4 bu m rfl ?_;rintro k-;refine Y5 ?_;refine h_ 8 rfl i6 ?_;refine fq (n:=t.y.l.length) (m:=1) (xs:=qB t.y.l) (news:=bu m) rfl rfl uh (fun w a=>(a.ownN ud).2.2.1) rfl rfl (Ag m) hroom rfl ?_;refine E5 [9,10,11,12] ?_;refine Nq ?_;exact d_ rfl rfl _ ⟨⟨⟨t.y.l++[m],t.y.a,t.y.c⟩,t.D,t.S⟩,by congr 1;omega,rfl,⟨by simp,⟨[],_,rfl,.cons ⟨rfl,rfl,by simp⟩ (mI.refl _)⟩,[],rfl⟩,rfl,rfl,d⟩ (fun w a=>by
   rw[eM];show Hp _ _ (Qe b s p c x (t.y.l++[m]).length _ _::.own (.slice _ (t.y.l++[m]).length _) _ 6 (qB (t.y.l++[m]))::(t.D.map KA.own++t.S));rw[i,j];exact a.drop.drop)
 ·refine u7 ?_;refine D7 [5,6] [7,8,12] [.blk e (.cells (bu m).toArray 127),Qe b s p c x t.y.l.length t.y.a t.y.c] 13 ?_;refine wd [0,1,2,3,4,5,6] ?_;refine h_ 7 rfl i6 ?_;refine C4 bu m rfl ?_;rintro k-;refine Y5 ?_;refine h_ 8 rfl i6 ?_;refine fz (n:=t.y.l.length) (m:=1) (xs:=qB t.y.l) (news:=bu m) rfl rfl ud (fun w a=>(a.ownN ud).2.2.1) rfl rfl rfl (by show _*80<=_;omega) qb hroom qb rfl ?_;intro l o r;refine E5 [9,10,11,12] ?_;refine Nq ?_;exact d_ rfl rfl _ ⟨⟨⟨t.y.l++[m],some ⟨l,0,none⟩,o⟩,t.y::t.D,t.S⟩,by congr 1;omega,rfl,⟨by simp,⟨[_],_,rfl,mI.refl _⟩,[],rfl⟩,rfl,rfl,d⟩ (fun w a=>by
   rw[eM];show Hp _ _ (Qe b s p c x (t.y.l++[m]).length _ _::.own (.slice _ (t.y.l++[m]).length _) _ 6 (qB (t.y.l++[m]))::t.y.own::(t.D.map KA.own++t.S));rw[i,j];exact((tk (C:=[As.own (.slice k _ _) _ _ _,As.blk e _])).hp a).drop.drop.perm (.swap _ _ _))
theorem pp(s:Bs)(hs:s.length<=140737488355328)(h:∀c∈s,c.toNat<128):Pu prog 417 [B s] (fun _=>True) (B (s.map Lib.lowerB)):=dK fun w _=>
 Tryz.strings_ToLower_ascii ⟨s.toArray⟩ w hs fun j b a=>h b (J5 a)
theorem GU(s:Bs)(hs:s.length<=1000000000000):Ct prog 418 [B s] (fun _=>True) [] (fun v A=>A=[]/\∃q:Bool,v=.bool q/\(q=true->∀c∈s,c.toNat<128)):=by
 refine b_ 33 func418 rfl rfl rfl ?_;intro F _;refine O2 ?_;refine o9 (ι:=Nat) (fun i=>i<=s.length/\∀c∈s.take i,c.toNat<128) (fun i=>[(0,B s),(5,.int .i64 (s.length:Nat)),(6,.int .i64 (i:Nat))]) (fun _=>[]) (fun i=>s.length-i) 0 ⟨zw _,by simp⟩ sub i_ ?_;rintro i ⟨x,hc⟩;refine R6 ?_ ?_<;>intro h
 ·have a:i<s.length:=by have:=qr h;omega
  refine z_ ?_;obtain⟨l,m⟩:=o7 (decide (((s.getD i 0).toNat:Int)<33));obtain⟨j,d⟩:=o7 (decide (((s.getD i 0).toNat:Int)>126));obtain⟨r,n⟩:=o7 (decide (((s.getD i 0).toNat:Int)=58));refine y6 [(0,B s),(5,.int .i64 (s.length:Nat)),(6,.int .i64 (i:Nat)),(24,.bool (l||j||r))] [] ?_ ?_
  ·cases l<;>cases j
   all_goals (
    refine z_ ?_;refine f_ ((A6 rfl rfl qb).eq (v':=U8 (s.getD i 0)) (by simp only[jc])) ?_;refine f_ ((F5 rfl rfl).eb m) ?_;refine E6 ?_;(first|refine u_ ?_|(refine v_ ?_;refine f_ ((A6 rfl rfl qb).eq (v':=U8 (s.getD i 0)) (by simp only[jc])) ?_));(first|refine u_ ?_|(refine v_ ?_;refine f_ ((E1 rfl rfl).eb d) ?_));refine O2 ?_;(first|refine u_ ?_|(refine v_ ?_;refine f_ ((A6 rfl rfl qb).eq (v':=U8 (s.getD i 0)) (by simp only[jc])) ?_));(first|refine u_ ?_|(refine v_ ?_;refine f_ ((p7 rfl rfl).eb n) ?_));refine p9 ?_)
   all_goals exact u6 sub i_
  refine O1 ?_ ?_<;>intro t
  ·refine C8 ?_;exact d_ rfl rfl [] ⟨rfl,_,rfl,fun k=>by cases k⟩ i_
  ·refine z_ ?_;have u:j=false:=(by cases l<;>cases j<;>simp at t⊢);have p:(s.getD i 0).toNat<128:=(by have:=zq (d.symm.trans u);omega);refine l8 (i+1) ⟨a,fun c e=>?_⟩ qb sub i_;rw[List.take_add_one] at e;rcases zp.1 e with f|f
   ·exact hc c f
   ·rw[zj a] at f;simp at f;rw[zb,zj a] at p;rw[f];exact p
 ·have g:∀c∈s,c.toNat<128:=by
   have:=zq h;rw[kr qb] at hc;exact hc
  refine u7 ?_;obtain⟨w,o⟩:=o7 (decide (s=[]));refine n7 (ι:=Bool) (fun _=>True) (fun q=>[(2,.bool q)]) (fun _=>[]) ?_ ?_
  ·cases w
   all_goals (
    refine p9 ?_;refine f_ ((E7 rfl rfl).eq (jk (fun b=>Value.bool (!b)) o.symm)) ?_;refine cH ?_)
   all_goals exact g_ _ trivial i_
  rintro q-;refine oe ?_;exact d_ rfl rfl [] ⟨rfl,_,rfl,fun _=>g⟩ i_
theorem pq{w l:Bs}(h:decide (w=l)=true)(hl:2<=l.length):2<=w.length:=by rw[qr h];exact hl
abbrev a0X(k:KY):Prop:=k.set=[]/\k.text.length<=2000000000/\k.field.length<=2000000000/\k.kids=0
abbrev Sd(b:Nat)(s:Bs)(p:Nat)(c:CM)(x:CL)(v:Value)(A:List As):Prop:=∃(k:KY) (p':Nat),p<=p'/\p'<=s.length/\a0X k/\v=.agg (bu ⟨k,none,0⟩).toArray/\A=[H7 b s p' c x]
theorem yy{s:Bs}:((E2 s).getD []).length<=32:=by
 cases h:E2 s with
 |none=>simp
 |some f=>exact rT h
theorem LH(b:Nat)(s:Bs)(w:Bs)(p:Nat)(c:CM)(x:CL)(hs:s.length<=1000000000)(hp:p<=s.length)(d:w.length<=1000000000)(ha:∀c∈w,c.toNat<128):Cx prog 393 [m6 b,B w] Gl [H7 b s p c x] (Sd b s p c x) (fun v=>v=N0):=by
 refine B7 112 func393 rfl rfl rfl ?_;intro F hg;refine p9 ?_;intro f;refine E6 ?_;refine n7 (ι:=Bool) (fun _=>True) (fun q=>[(0,m6 b),(1,B w),(4,m6 f),(13,B w),(14,.bool q)]) (fun _=>[.blk f (.cells (bu ⟨Ad,none,0⟩).toArray 127),H7 b s p c x]) ?_ ?_
 ·refine o8 rfl ?_ ?_<;>intro h
  ·refine u7 ?_;exact g_ _ trivial i_
  refine bt ?_ ?_<;>intro h
  ·refine u7 ?_;exact g_ _ trivial i_
  refine bt ?_ ?_<;>intro h
  ·refine u7 ?_;exact g_ _ trivial i_
  refine bt ?_ ?_<;>intro h
  ·refine u7 ?_;exact g_ _ trivial i_
  refine z_ ?_;exact g_ _ trivial i_
 rintro q-;refine O1 ?_ ?_<;>intro h
 ·refine z_ ?_;refine e_ rfl (dR _ (by show(92::w).length<=_;unfold lh;simp;omega)) qw rfl ?_;refine cH ?_;refine f_ ((y7 rfl rfl).eq (v':=.agg (bu ⟨⟨7,0,(E2 (92::w)).getD [],[],1,[]⟩,none,0⟩).toArray) rfl) ?_;refine C8 ?_;exact G4 rfl rfl ud rfl [H7 b s p c x] ⟨_,p,z1 _,hp,⟨rfl,by simp,jg yy qb,rfl⟩,rfl,rfl⟩ (fun w d=>x6.left tk d)
 refine z_ ?_;refine n7 (ι:=Bool) (fun q=>q=true->2<=w.length) (fun q=>[(0,m6 b),(1,B w),(4,m6 f),(13,B w),(28,.bool q)]) (fun _=>[.blk f (.cells (bu ⟨Ad,none,0⟩).toArray 127),H7 b s p c x]) ?_ ?_
 ·refine o8 rfl ?_ ?_<;>intro h
  ·refine u7 ?_;exact g_ _ (fun _=>pq h qp) i_
  refine bt ?_ ?_<;>intro h
  ·refine u7 ?_;exact g_ _ (fun _=>pq h qp) i_
  refine bt ?_ ?_<;>intro h
  ·refine u7 ?_;exact g_ _ (fun _=>pq h qp) i_
  refine bt ?_ ?_<;>intro h
  ·refine u7 ?_;exact g_ _ (fun _=>pq h qp) i_
  refine z_ ?_;exact g_ (decide (w=[85,78,68,82,65,70,84])) (fun k=>pq k qp) i_
 rintro q m;refine O1 ?_ ?_<;>intro h
 ·have Q:=m h;refine p9 ?_;refine f_ ((H4 rfl rfl rfl qb).eq (v':=B (w.drop 2)) (by rw[kr (by rw[z8];omega)];rfl)) ?_;refine p9 ?_;refine e_ rfl (dR _ (by show(92::w.drop 2).length<=_;unfold lh;simp;omega)) qw rfl ?_;refine cH ?_;refine f_ ((y7 rfl rfl).eq (v':=.agg (bu ⟨⟨7,0,(E2 (92::w.drop 2)).getD [],[],0,[]⟩,none,0⟩).toArray) rfl) ?_;refine C8 ?_;exact G4 rfl rfl ud rfl [H7 b s p c x] ⟨_,p,z1 _,hp,⟨rfl,by simp,jg yy qb,rfl⟩,rfl,rfl⟩ (fun w d=>x6.left tk d)
 refine p9 ?_;refine n5 (D8 b s [32] p c x qb hp qp) pre rfl (fun v h=>h.2) ?_;rintro v A ⟨g,o,rfl,rfl⟩;refine u7 ?_;have D:=D0 o x8;simp only[jp] at D;refine E6 ?_;refine n7 (ι:=Bool) (fun _=>True) (fun q=>[(0,m6 b),(1,B w),(4,m6 f),(45,B w),(46,.bool q)]) (fun _=>[.blk f (.cells (bu ⟨Ad,none,0⟩).toArray 127),H7 b s g c x]) ?_ ?_
 ·refine o8 rfl ?_ ?_<;>intro h
  ·refine u7 ?_;exact g_ _ trivial (fun w d=>x6.left tk d)
  refine z_ ?_;exact g_ _ trivial (fun w d=>x6.left tk d)
 rintro q-;refine O1 ?_ ?_<;>intro h
 ·refine p9 ?_;refine n5 (AH b s g c x qb qb) pre rfl (fun v h=>h.2) ?_;rintro v A ⟨a,e,rfl,rfl⟩;have i:=AU qb e;refine e_ rfl (dR _ (by unfold lh;omega)) qw rfl ?_;refine cH ?_;refine n5 (G6 _) qw rfl (fun v h=>h.2) ?_;rintro v A ⟨r,rfl,rfl⟩;refine p9 ?_;refine f_ ((y7 rfl rfl).eq (v':=.agg (bu ⟨⟨7,0,(E2 a.1).getD [],[],0,[]⟩,none,0⟩).toArray) rfl) ?_;refine p9 ?_;intro j;refine E6 ?_;refine n7 (ι:=Nat) (fun _=>True) (fun _=>[(0,m6 b),(1,B w),(4,m6 f),(11,m6 j)]) (fun n=>[.blk j (.cells (bu ⟨⟨7,0,(E2 a.1).getD [],[],n,[]⟩,none,0⟩).toArray 127),.blk f (.cells (bu ⟨Ad,none,0⟩).toArray 127),H7 b s a.2 c x]) ?_ ?_
  ·refine o8 rfl ?_ ?_<;>intro h
   ·refine z_ ?_;exact g_ 1 trivial (fun w d=>x6.left tk d)
   ·refine u7 ?_;exact g_ 0 trivial (fun w d=>x6.left tk d)
  rintro n-;refine C6 ?_;refine r_ ((lL rfl ud (by rfl)).eq (v':=.agg (bu ⟨⟨7,0,(E2 a.1).getD [],[],n,[]⟩,none,0⟩).toArray) rfl) ?_;refine C8 ?_;exact G4 rfl rfl ud rfl [H7 b s a.2 c x] ⟨_,a.2,by omega,by omega,⟨rfl,by simp,jg yy qb,rfl⟩,rfl,rfl⟩ (fun w d=>x6.left tk d)
 refine bt ?_ ?_<;>intro h
 ·refine p9 ?_;refine n5 (X4 b s 9223372036854775807 g c x qb qb qp) pre rfl (fun v h=>h.2) ?_;rintro v A ⟨a,e,rfl,rfl⟩;refine f_ ((y7 rfl rfl).eq (v':=.agg (bu ⟨⟨8,0,[],[],a.1,[]⟩,none,0⟩).toArray) rfl) ?_;refine p9 ?_;have i:=ce qb e;refine A3 ?_;exact G4 rfl rfl ud rfl [H7 b s a.2 c x] ⟨_,a.2,by omega,by omega,⟨rfl,by simp,by simp,rfl⟩,rfl,rfl⟩ (fun w d=>x6.left tk d)
 refine bt ?_ ?_<;>intro h
 ·refine p9 ?_;refine n5 (X4 b s 9223372036854775807 g c x qb qb qp) pre rfl (fun v h=>h.2) ?_;rintro v A ⟨a,e,rfl,rfl⟩;refine f_ ((y7 rfl rfl).eq (v':=.agg (bu ⟨⟨9,0,[],[],a.1,[]⟩,none,0⟩).toArray) rfl) ?_;refine p9 ?_;have i:=ce qb e;refine A3 ?_;exact G4 rfl rfl ud rfl [H7 b s a.2 c x] ⟨_,a.2,by omega,by omega,⟨rfl,by simp,by simp,rfl⟩,rfl,rfl⟩ (fun w d=>x6.left tk d)
 refine bt ?_ ?_<;>intro h
 ·refine p9 ?_;refine n5 (X4 b s 9223372036854775807 g c x qb qb qp) pre rfl (fun v h=>h.2) ?_;rintro v A ⟨a,e,rfl,rfl⟩;refine f_ ((y7 rfl rfl).eq (v':=.agg (bu ⟨⟨10,0,[],[],a.1,[]⟩,none,0⟩).toArray) rfl) ?_;refine p9 ?_;have i:=ce qb e;refine A3 ?_;exact G4 rfl rfl ud rfl [H7 b s a.2 c x] ⟨_,a.2,by omega,by omega,⟨rfl,by simp,by simp,rfl⟩,rfl,rfl⟩ (fun w d=>x6.left tk d)
 refine bt ?_ ?_<;>intro h
 ·refine p9 ?_;refine n5 (R2 b s g c x qb qb) pre rfl (fun v h=>h.2) ?_;rintro v A ⟨a,e,rfl,rfl⟩;refine f_ ((y7 rfl rfl).eq (v':=.agg (bu ⟨⟨11,0,[],a.1,0,[]⟩,none,0⟩).toArray) rfl) ?_;refine p9 ?_;have i:=cX qb e;refine A3 ?_;exact G4 rfl rfl ud rfl [H7 b s a.2 c x] ⟨_,a.2,by omega,by omega,⟨rfl,by simp only;omega,by simp,rfl⟩,rfl,rfl⟩ (fun w d=>x6.left tk d)
 refine bt ?_ ?_<;>intro h
 ·refine p9 ?_;refine n5 (R2 b s g c x qb qb) pre rfl (fun v h=>h.2) ?_;rintro v A ⟨a,e,rfl,rfl⟩;refine f_ ((y7 rfl rfl).eq (v':=.agg (bu ⟨⟨12,0,[],a.1,0,[]⟩,none,0⟩).toArray) rfl) ?_;refine p9 ?_;have i:=cX qb e;refine A3 ?_;exact G4 rfl rfl ud rfl [H7 b s a.2 c x] ⟨_,a.2,by omega,by omega,⟨rfl,by simp only;omega,by simp,rfl⟩,rfl,rfl⟩ (fun w d=>x6.left tk d)
 refine z_ ?_;refine n7 (ι:=Bool) (fun _=>True) (fun q=>[(0,m6 b),(1,B w),(4,m6 f),(45,B w),(88,.bool q)]) (fun _=>[.blk f (.cells (bu ⟨Ad,none,0⟩).toArray 127),H7 b s g c x]) ?_ ?_
 ·refine o8 rfl ?_ ?_<;>intro h
  ·refine u7 ?_;exact g_ _ trivial (fun w d=>x6.left tk d)
  refine bt ?_ ?_<;>intro h
  ·refine u7 ?_;exact g_ _ trivial (fun w d=>x6.left tk d)
  refine z_ ?_;exact g_ _ trivial (fun w d=>x6.left tk d)
 rintro q-;refine O1 ?_ ?_<;>intro h
 ·refine p9 ?_;refine e_ rfl (pp w qb ha) qw rfl ?_;refine p9 ?_;refine n5 (R2 b s g c x qb qb) pre rfl (fun v h=>h.2) ?_;rintro v A ⟨a,e,rfl,rfl⟩;refine f_ ((y7 rfl rfl).eq (v':=.agg (bu ⟨⟨13,0,w.map Lib.lowerB,a.1,0,[]⟩,none,0⟩).toArray) rfl) ?_;refine p9 ?_;have i:=cX qb e;refine A3 ?_;exact G4 rfl rfl ud rfl [H7 b s a.2 c x] ⟨_,a.2,by omega,by omega,⟨rfl,by simp only;omega,by simp only[zm];omega,rfl⟩,rfl,rfl⟩ (fun w d=>x6.left tk d)
 refine z_ ?_;refine n5 (G6 _) qw rfl (fun v h=>h.2) ?_;rintro v A ⟨r,rfl,rfl⟩;refine p9 ?_;refine n5 (R2 b s g c x qb qb) pre rfl (fun v h=>h.2) ?_;rintro v A ⟨a,e,rfl,rfl⟩;refine p9 ?_;have i:=cX qb e;refine p9 ?_;refine c_ (GU a.1 qb) qw ?_;rintro v A ⟨rfl,J,rfl,t⟩;refine n5 (G6 J) qw rfl (fun v h=>h.2) ?_;rintro v A ⟨l,rfl,rfl⟩;refine u7 ?_;have u:=t l;refine p9 ?_;refine n5 (D8 b s [32] a.2 c x qb qb qp) pre rfl (fun v h=>h.2) ?_;rintro v A ⟨M,y,rfl,rfl⟩;refine u7 ?_;have O:=D0 y x8;simp only[jp] at O;refine p9 ?_;refine e_ rfl (pp a.1 qb u) qw rfl ?_;refine p9 ?_;refine n5 (R2 b s M c x qb qb) pre rfl (fun v h=>h.2) ?_;rintro v A ⟨z,C,rfl,rfl⟩;refine f_ ((y7 rfl rfl).eq (v':=.agg (bu ⟨⟨13,0,a.1.map Lib.lowerB,z.1,0,[]⟩,none,0⟩).toArray) rfl) ?_;refine p9 ?_;have S:=cX qb C;refine A3 ?_;exact G4 rfl rfl ud rfl [H7 b s z.2 c x] ⟨_,z.2,by omega,by omega,⟨rfl,by simp only;omega,by simp only[zm];omega,rfl⟩,rfl,rfl⟩ (fun w d=>x6.left tk d)
abbrev a0Y(b:Nat)(s:Bs)(p:Nat)(c:CM)(x:CL)(t:KT)(v:Value)(A:List As):Prop:=∃(u:KT) (p':Nat),p<=p'/\p'<=s.length/\v=.tuple #[]/\A=H7 b s p' (po c u) (np x u)::vU u/\cz t u/\vV u
abbrev qZ(f:FuncId)(b:Nat)(s:Bs)(deep:Nat):Prop:=∀(p:Nat) (c:CM) (x:CL) (t:KT),p<=s.length->vV t->Cx prog f [m6 b,.int .i64 (deep:Nat)] Gl (H7 b s p (po c t) (np x t)::vU t) (a0Y b s p c x t) (fun v=>v=N0)
theorem cj{t u:KT}{m:KM}(h:vV t)(hs:u.S=t.S)(hl:u.y.l=t.y.l++[m])(c:t.y.l.length<32)(d:EJ m.k)(e:m.k.set=[]\/U7 m.a m.k.set m.c∈t.S):vV u:=by
 refine⟨by rw[hl,zz,jp];omega,fun k b=>?_,fun k b=>?_⟩
 ·rw[hl] at b;rcases zp.1 b with a|a
  ·exact h.set k a
  ·rw[zg.1 a];exact d
 ·rw[hl] at b;rw[hs];rcases zp.1 b with a|a
  ·exact h.own k a
  ·rw[zg.1 a];exact e
theorem LJ:vC 392 dM:=fun c=>by
 obtain⟨a,b⟩:=o7 (decide (65<=(ru c).toNat));obtain⟨f,d⟩:=o7 (decide ((ru c).toNat<=90));have e:dM c=(a&&f):=by rw[b,d];exact yw (p:=dM) (q:=fun c=>decide (65<=(ru c).toNat)&&decide ((ru c).toNat<=90)) (by decide+kernel) c
 rw[e];refine b_ 11 func392 rfl rfl rfl ?_;intro F _;refine p9 ?_
 cases a
 all_goals (
  refine p9 ?_;refine e_ rfl (I2 [c] x8) qw rfl ?_;refine f_ ((kR rfl rfl).eq (qn ((show(!Op.bytesLess [ru c] [65])=decide (65<=(ru c).toNat) from by rw[li,<-decide_not];congr 1;simp).trans b.symm))) ?_;refine z_ ?_;(first|refine u_ ?_|(refine v_ ?_;refine e_ rfl (I2 [c] x8) qw rfl ?_));(first|refine u_ ?_|(refine v_ ?_;refine f_ ((kS rfl rfl).eq (qn (rH.trans d.symm))) ?_));refine z_ ?_)
 all_goals (refine A3 ?_;exact d_ rfl rfl [] qh i_)
theorem Dx{s:Bs}{p:Nat}:∀c∈R8 (N7 dM s p),c.toNat<128:=fun c hc=>by
 obtain⟨d,a,rfl⟩:=jw.1 hc;have b:dM d=true:=Qx.1 List.all_takeWhile d a;have:=yw (p:=fun d=>!dM d||decide ((ru d).toNat<128)) (q:=fun _=>true) (by decide+kernel) d;simp only[b,Bool.not_true,Kr] at this;exact qr this
abbrev GV(t:KT)(X:As):KT:={t with S:=X::t.S}
theorem vW{X Q:As}{t:KT}:(X::Q::vU t).Perm (Q::vU (GV t X)):=
 (List.Perm.swap Q X _).trans (.cons _ ((List.Perm.swap _ _ _).trans (.cons _ Qd.symm)))
theorem vX(t:KT)(X:As):cz t (GV t X):=⟨z1 _,⟨[],_,rfl,mI.refl _⟩,[X],rfl⟩
theorem AZ{t:KT}(h:vV t)(X:As):vV (GV t X):=⟨h.len,h.set,fun m a=>(h.own m a).imp id (fun k=>.tail _ k)⟩
theorem sb(b g d:Nat)(s:Bs)(a:Nat)(n:a<=100)(f:qZ 345 b s (a+1))(p:Nat)(c:CM)(x:CL)(t:KT)(hp:p<=s.length)(i:vV t):Cx prog 344 [m6 g,m6 d] Gl (H7 b s p (po c t) (np x t)::(vU t++[pB g b,.blk d (.cells #[.int .i64 (a:Nat)] 3)])) (fun v A=>∃(u:KT) (p':Nat),p<=p'/\p'<=s.length/\v=.tuple #[]/\A=H7 b s p' (po c u) (np x u)::(vU u++[pB g b,.blk d (.cells #[.int .i64 (a:Nat)] 3)])/\cz t u/\vV u) (fun v=>v=N0):=by
 refine B7 6 func344 rfl rfl rfl ?_;intro F hg;refine D6 (fun w e=>e.perm (kz (l₁:=H7 b s p (po c t) (np x t)::vU t))) ?_;simp only[Qh,j6];refine z_ ?_;refine f_ ((p8 rfl rfl qb).eq (v':=.int .i64 ((a+1:Nat):Int)) (by congr 1)) ?_;refine w6 [pB g b,.blk d (.cells #[.int .i64 (a:Nat)] 3)] rfl (f p c x t hp i) (fun w e=>e.perm (kz (l₁:=[_,_]))) pre rfl rfl (l6.le_refl _) (fun v h=>h) ?_;rintro v A ⟨u,p',j,k,rfl,rfl,l,m⟩;refine u7 ?_;exact l_ rfl _ ⟨u,p',j,k,rfl,rfl,l,m⟩ fun w e=>e
theorem vY(b:Nat)(s:Bs)(hs:s.length<=1000000000)(d:Nat)(hd:d<=100)(q1:qZ 284 b s d)(hk:d<=8->qZ 345 b s (d+1)):qZ 345 b s d:=fun p c x t hp i=>by
 refine B7 84 func345 rfl rfl rfl ?_;intro F hg;refine p9 ?_;refine c_ (S5 b s [40] p (po c t) (np x t) qb hp qp) pre ?_;rintro v A ⟨rfl,rfl⟩;refine O1 ?_ ?_<;>intro h
 ·have b1:=eL (w:=[40]) hp;rw[show H3 s [40] p=p+1 from by unfold H3;rw[h];rfl] at b1⊢;refine z_ ?_;refine w6 [] rfl (q1 (p+1) c x t b1 i) (fun w e=>by rw[z7];exact e) pre rfl rfl (l6.le_refl _) (fun v h=>h) ?_;rintro v A ⟨u,p',h1,h2,rfl,rfl,Q,S⟩;rw[z7];refine p9 ?_;refine n5 (D8 b s [41] p' (po c u) (np x u) qb h2 qp) pre rfl (fun v h=>h.2) ?_;rintro v A ⟨e2,j,rfl,rfl⟩;refine u7 ?_;have O:=D0 j x8;simp only[jp] at O;refine A3 ?_;exact l_ rfl _ ⟨u,e2,by omega,O.2.2,rfl,rfl,Q,S⟩ fun w e=>e
 ·rw[show H3 s [40] p=p from by unfold H3;rw[h];rfl];refine p9 ?_;refine c_ (aJ b s p (po c t) (np x t) qb hp) pre ?_;rintro v A ⟨rfl,rfl⟩;refine p9 ?_;refine n7 (ι:=Bool) (fun _=>True) (fun q=>[(0,m6 b),(1,.int .i64 (d:Nat)),(21,.bool q)]) (fun _=>H7 b s p (po c t) (np x t)::vU t) ?_ ?_
  ·obtain⟨z,hz⟩:=o7 (s.drop p);rw[<-hz]
   cases z with
   |nil=>
    refine p9 ?_;refine f_ ((E7 rfl rfl).eq (v':=.bool false) rfl) ?_;refine E6 ?_;(first|refine u_ ?_|(refine v_ ?_;fail));refine p9 ?_;exact g_ _ trivial i_
   |cons a r=>
    refine p9 ?_;refine f_ ((E7 rfl rfl).eq (v':=.bool true) rfl) ?_;refine z_ ?_;(first|refine u_ ?_|(refine v_ ?_;refine f_ ((H4 rfl rfl rfl (by simp;omega)).eq (v':=B [a]) rfl) ?_));(first|refine u_ ?_|(refine v_ ?_;refine e_ rfl (jR _ a) qw rfl ?_));refine p9 ?_;exact g_ _ trivial i_
  rintro q-;refine O1 ?_ ?_<;>intro h
  ·refine z_ ?_;refine n5 (jT b s p (po c t) (np x t) hs hp) pre rfl (fun v h=>h.2) ?_;rintro v A ⟨l,T,U,j,rfl,rfl⟩;refine f_ ((y7 rfl rfl).eq (v':=.agg (bu ⟨⟨5,0,[],[],0,l.1⟩,T,U⟩).toArray) rfl) ?_;refine w6 [] rfl (eN b s l.2 c x (GV t (U7 T l.1 U)) ⟨⟨5,0,[],[],0,l.1⟩,T,U⟩ i.len) (fun w e=>by rw[z7];exact e.perm vW) qw rfl rfl (l6.le_refl _) (fun v h=>h) ?_;rintro v A ⟨u,rfl,rfl,Z,h4,Q,S⟩;rw[z7];refine u7 ?_;have O:=jS hp j;refine A3 ?_;exact l_ rfl _ ⟨u,l.2,by omega,O.2.1,rfl,rfl,(vX t _).trans Z,cj (AZ i _) h4 Q S ⟨O.2.2,by simp,by simp,by simp⟩ (.inr (.head _))⟩ fun w e=>e
  ·have h0:=bK (q:=dM) hp;have h7:=Dx (s:=s) (p:=p);refine p9 ?_;refine c_ (eK 392 dM LJ b s p (po c t) (np x t) qb hp) pre ?_;rintro v A ⟨rfl,rfl⟩;refine e_ rfl (I2 _ qb) qw rfl ?_;refine p9 ?_;have h8:(R8 (N7 dM s p)).length<=1000000000:=(by unfold R8;rw[zm];omega);generalize hpw:p+(N7 dM s p).length=pw at h0⊢;generalize R8 (N7 dM s p)=w at h7 h8⊢;refine eE ?_ ?_<;>intro h
   ·refine u7 ?_;obtain⟨q,hq⟩:=o7 (decide (d<=8));refine p9 ?_;refine f_ ((G1 rfl rfl).eq (v':=.bool q) (qn ((qz).trans hq.symm))) ?_;refine n5 (G6 q) qw rfl (fun v h=>h.2) ?_;rintro v A ⟨V,rfl,rfl⟩;refine u7 ?_;have M:=qr (hq.symm.trans V);refine p9 ?_;refine f_ ((y7 rfl rfl).eq (v':=.agg (bu ⟨⟨2,0,[],[],0,[]⟩,none,0⟩).toArray) rfl) ?_;refine w6 [] rfl (eN b s pw c x t ⟨⟨2,0,[],[],0,[]⟩,none,0⟩ i.len) (fun w e=>by rw[z7];exact e) qw rfl rfl (l6.le_refl _) (fun v h=>h) ?_;rintro v A ⟨u,rfl,rfl,m,n,o,y⟩;rw[z7];refine u7 ?_;have ku:=cj i n o y ⟨by simp,by simp,by simp,by simp⟩ (.inl rfl);refine p9 ?_;refine n5 (D8 b s [32] pw (po c u) (np x u) qb qb qp) pre rfl (fun v h=>h.2) ?_;rintro v A ⟨e1,g,rfl,rfl⟩;refine u7 ?_;have f:=D0 g x8;simp only[jp] at f;refine z_ ?_;refine f_ ((p8 rfl rfl qb).eq (v':=.int .i64 ((d+1:Nat):Int)) (by congr 1)) ?_;refine w6 [] rfl (hk M e1 c x u f.2.2 ku) (fun w e=>by rw[z7];exact e) pre rfl rfl (l6.le_refl _) (fun v h=>h) ?_;rintro v A ⟨u2,Y,h9,C,rfl,rfl,D,X⟩;rw[z7];refine u7 ?_;exact l_ rfl _ ⟨u2,Y,by omega,C,rfl,rfl,m.trans D,X⟩ fun w e=>e
   refine bt ?_ ?_<;>intro h
   ·refine u7 ?_;obtain⟨q,hq⟩:=o7 (decide (d<=8));refine p9 ?_;refine f_ ((G1 rfl rfl).eq (v':=.bool q) (qn ((qz).trans hq.symm))) ?_;refine n5 (G6 q) qw rfl (fun v h=>h.2) ?_;rintro v A ⟨V,rfl,rfl⟩;refine u7 ?_;have M:=qr (hq.symm.trans V);refine p9 ?_;refine f_ ((y7 rfl rfl).eq (v':=.agg (bu ⟨⟨3,0,[],[],0,[]⟩,none,0⟩).toArray) rfl) ?_;refine w6 [] rfl (eN b s pw c x t ⟨⟨3,0,[],[],0,[]⟩,none,0⟩ i.len) (fun w e=>by rw[z7];exact e) qw rfl rfl (l6.le_refl _) (fun v h=>h) ?_;rintro v A ⟨u,rfl,rfl,m,n,o,y⟩;rw[z7];refine u7 ?_;have ku:=cj i n o y ⟨by simp,by simp,by simp,by simp⟩ (.inl rfl);refine p9 ?_;refine n5 (D8 b s [32] pw (po c u) (np x u) qb qb qp) pre rfl (fun v h=>h.2) ?_;rintro v A ⟨e1,g,rfl,rfl⟩;refine u7 ?_;have f:=D0 g x8;simp only[jp] at f;refine z_ ?_;refine f_ ((p8 rfl rfl qb).eq (v':=.int .i64 ((d+1:Nat):Int)) (by congr 1)) ?_;refine w6 [] rfl (hk M e1 c x u f.2.2 ku) (fun w e=>by rw[z7];exact e) pre rfl rfl (l6.le_refl _) (fun v h=>h) ?_;rintro v A ⟨u2,Y,h9,C,rfl,rfl,D,X⟩;rw[z7];refine p9 ?_;refine n5 (D8 b s [32] Y (po c u2) (np x u2) qb C qp) pre rfl (fun v h=>h.2) ?_;rintro v A ⟨e2,k0,rfl,rfl⟩;refine u7 ?_;have k8:=D0 k0 x8;simp only[jp] at k8;refine z_ ?_;refine f_ ((p8 rfl rfl qb).eq (v':=.int .i64 ((d+1:Nat):Int)) (by congr 1)) ?_;refine w6 [] rfl (hk M e2 c x u2 k8.2.2 X) (fun w e=>by rw[z7];exact e) pre rfl rfl (l6.le_refl _) (fun v h=>h) ?_;rintro v A ⟨u3,p3,q3,k9,rfl,rfl,q0,q2⟩;rw[z7];refine u7 ?_;exact l_ rfl _ ⟨u3,p3,by omega,k9,rfl,rfl,(m.trans D).trans q0,q2⟩ fun w e=>e
   refine bt ?_ ?_<;>intro h
   ·refine p9 ?_;refine f_ ((y7 rfl rfl).eq (v':=.agg (bu ⟨⟨4,0,[],[],0,[]⟩,none,0⟩).toArray) rfl) ?_;refine w6 [] rfl (eN b s pw c x t ⟨⟨4,0,[],[],0,[]⟩,none,0⟩ i.len) (fun w e=>by rw[z7];exact e) qw rfl rfl (l6.le_refl _) (fun v h=>h) ?_;rintro v A ⟨u,rfl,rfl,m,n,o,y⟩;rw[z7];refine u7 ?_;have ku:=cj i n o y ⟨by simp,by simp,by simp,by simp⟩ (.inl rfl);exact l_ rfl _ ⟨u,pw,by omega,h0,rfl,rfl,m,ku⟩ fun w e=>e
   refine bt ?_ ?_<;>intro h
   ·refine p9 ?_;refine n5 (D8 b s [32] pw (po c t) (np x t) qb qb qp) pre rfl (fun v h=>h.2) ?_;rintro v A ⟨e1,g,rfl,rfl⟩;refine u7 ?_;have f:=D0 g x8;simp only[jp] at f;refine z_ ?_;refine n5 (jT b s e1 (po c t) (np x t) hs f.2.2) pre rfl (fun v h=>h.2) ?_;rintro v A ⟨l,T,U,j,rfl,rfl⟩;refine f_ ((y7 rfl rfl).eq (v':=.agg (bu ⟨⟨6,0,[],[],0,l.1⟩,T,U⟩).toArray) rfl) ?_;refine w6 [] rfl (eN b s l.2 c x (GV t (U7 T l.1 U)) ⟨⟨6,0,[],[],0,l.1⟩,T,U⟩ i.len) (fun w e=>by rw[z7];exact e.perm vW) qw rfl rfl (l6.le_refl _) (fun v h=>h) ?_;rintro v A ⟨u,rfl,rfl,Z,h4,Q,S⟩;rw[z7];refine u7 ?_;have O:=jS f.2.2 j;exact l_ rfl _ ⟨u,l.2,by omega,O.2.1,rfl,rfl,(vX t _).trans Z,cj (AZ i _) h4 Q S ⟨O.2.2,by simp,by simp,by simp⟩ (.inr (.head _))⟩ fun w e=>e
   refine E6 ?_;refine n5 (LH b s w pw (po c t) (np x t) hs qb h8 h7) pre rfl (fun v h=>h) ?_;rintro v A ⟨k,Y,h1,h2,J,rfl,rfl⟩;refine w6 [] rfl (eN b s Y c x t ⟨k,none,0⟩ i.len) (fun w e=>by rw[z7];exact e) qw rfl rfl (l6.le_refl _) (fun v h=>h) ?_;rintro v A ⟨u,rfl,rfl,Z,h4,Q,S⟩;rw[z7];refine u7 ?_;exact l_ rfl _ ⟨u,Y,by omega,h2,rfl,rfl,Z,cj i h4 Q S ⟨by rw[J.1];simp,J.2.1,J.2.2.1,by rw[J.2.2.2];simp⟩ (.inl J.1)⟩ fun w e=>e
