import Derived.Test.YtmcepdopookilaaGreatDoorukx12
set_option maxHeartbeats 16000000
set_option maxRecDepth 8000
set_option linter.unusedVariables false
set_option linter.unusedSimpArgs false
set_option linter.defProp false
namespace Go.Proofs.YtmcepdopookilaaGreatDoor.Rp
open Go Go.Sl Go.RowKit Go.Proofs.Tryz
def Tu{d:UInt8}(h:97<=d.toNat/\d.toNat<=122):(d-32).toNat=d.toNat-32:=by
 rw[UInt8.toNat_sub_of_le]
 ·rfl
 ·exact UInt8.le_iff_toNat_le.2 (by show 32<=d.toNat;omega)
def Mv{c d:UInt8}(hc:c.toNat<=64\/91<=c.toNat/\c.toNat<=96\/123<=c.toNat):rP d=c↔d=c:=by
 unfold rP;split
 ·next h=>
  constructor
  ·intro e;have:=jh UInt8.toNat e;rw[Tu h] at this;omega
  ·intro e;subst e;omega
 ·exact Iff.rfl
def PY{s:Bs}{c:UInt8}{p:Nat}(hc:c.toNat<=64\/91<=c.toNat/\c.toNat<=96\/123<=c.toNat):([c]:Bs).isPrefixOf (s.drop p)=I9 s [c] p:=by
 unfold I9
 cases s.drop p with
 |nil=>simp[R3,List.isPrefixOf]
 |cons d t=>
  have:=Mv (c:=c) (d:=d) hc;simp only[z1,kx,List.take_succ_cons,Km,R3,Q2,Jp,List.isPrefixOf,Bool.and_true];by_cases h:d=c
  ·subst h;simp[this.2 rfl]
  ·have a:rP d≠c:=fun e=>h (this.1 e);simp[a,Ne.symm h]
def BF{s:Bs}{p:Nat}{r:Bs×Nat}(hp:p<=s.length)(h:vX s p=some r):p<=r.2/\r.2<=s.length/\r.1.length<=s.length:=by
 unfold vX at h;split at h
 ·cases h
 ·have:=Qz h;subst this;have:=cg (q:=R2) hp;exact⟨by simp only;omega,this,by simp only;omega⟩
def dy{s:Bs}{p:Nat}{r:Bs×Nat}(hp:p<=s.length)(h:lw s p=some r):p<=r.2/\r.2<=s.length/\r.1.length<=4096+s.length:=by
 unfold lw at h;split at h
 ·have:=LY hp h;omega
 split at h
 ·cases hu:vO (s.drop p) with
  |none=>rw[hu] at h;cases h
  |some q=>
   rw[hu] at h;have:=Qz h;subst this;have b:=yH (s:=s.drop p);have a:=BE (s.drop p);rw[hu] at b a;simp only[Z6,jz] at b a;simp only;omega
 ·obtain⟨q,b,a⟩:=kj.1 h;have:=BF hp b;split at a
  ·have:=Qz a;subst this;omega
  ·cases a
def pI(s:Bs):(U6 s).2.1<=s.length:=by
 unfold U6;simp only;by_cases h:s.head? =some 40/\(s.takeWhile fun c=>c !=41).length<s.length
 ·rw[zr h];have:=h.2;generalize X5 _=m;by_cases hm:m.2=0
  ·rw[zr hm];simp only;omega
  ·rw[zb hm];simp
 ·rw[zb h];simp
def S9(b:Nat)(s:Bs)(p:Nat)(c:CM)(x:CL)(hs:s.length<=1000000000000)(hp:p<=s.length):Cx prog 275 [i8 b] Gl [I5 b s p c x] (fun v A=>∃r,lw s p=some r/\v=B r.1/\A=[I5 b s r.2 c x]) (gb (lw s p)):=by
 refine C2 42 func275 rfl rfl rfl ?_;intro F hg;have k:=PY (s:=s) (c:=123) (p:=p) qp;have l:=PY (s:=s) (c:=34) (p:=p) qp;obtain⟨m,i⟩:=o9 (I9 s [123] p);obtain⟨n,j⟩:=o9 (I9 s [34] p);obtain⟨W,a⟩:=o9 (lw s p);rw[<-a];unfold lw at a;rw[<-i,<-j] at a;refine A5 ?_;refine y5 _ rfl (bd b s p c x hs hp) i_ qw rfl ?_;rintro v A ⟨rfl,rfl⟩;refine c_ rfl (au (s.drop p) [123]) qw rfl ?_;rw[k,<-i];refine u6 ?_
 cases m with
 |true=>
  rw[zr rfl] at a;refine u6 ?_;refine y4 _ rfl (mB b s p c x hs hp) i_ pre rfl rfl (l9.le_refl _) (fun v h=>⟨(by rw[a,h.1]),h.2⟩) ?_;rintro v A ⟨r,f,rfl,rfl⟩;refine D0 ?_;exact d_ rfl rfl [I5 b s r.2 c x] ⟨_,a.trans f,rfl,rfl⟩ i_
 |false=>
  rw[zb x7] at a;refine u6 ?_;refine y5 _ rfl (bd b s p c x hs hp) i_ qw rfl ?_;rintro v A ⟨rfl,rfl⟩;refine c_ rfl (au (s.drop p) [34]) qw rfl ?_;rw[l,<-j];refine u6 ?_
  cases n with
  |true=>
   rw[zr rfl] at a;have d:=yH (s:=s.drop p);rw[jz] at d;refine x6 ?_
   cases hu:vO (s.drop p) with
   |none=>
    rw[hu] at a;refine u6 ?_;refine y5 _ rfl (bd b s p c x hs hp) i_ qw rfl ?_;rintro v A ⟨rfl,rfl⟩;refine c_ rfl (mz (s.drop p) (by rw[jz];unfold lD;omega)) qw rfl ?_;rw[hu];simp only[PP];refine wk 8 ?_;refine y4 _ rfl (H9 _) i_ pre rfl rfl (l9.le_refl _) (fun v h=>⟨(a),h.2⟩) ?_;rintro v A ⟨e,rfl,rfl⟩;refine x6 ?_
    cases e
   |some q=>
    rw[hu] at a d;simp only[Z6] at d;refine u6 ?_;refine y5 _ rfl (bd b s p c x hs hp) i_ qw rfl ?_;rintro v A ⟨rfl,rfl⟩;refine c_ rfl (mz (s.drop p) (by rw[jz];unfold lD;omega)) qw rfl ?_;rw[hu];simp only[PP,Z6];refine wk 8 ?_;refine y4 _ rfl (H9 _) i_ pre rfl rfl (l9.le_refl _) (fun v h=>⟨(by cases h.1),h.2⟩) ?_;rintro v A ⟨e,rfl,rfl⟩;refine al ?_;refine f_ ((r8 rfl rfl qb).eq (v':=.int .i64 ((p+q.2:Nat):Int)) (by congr 1)) ?_;refine KI ?_;exact d_ rfl rfl [I5 b s (p+q.2) c x] ⟨_,a,rfl,rfl⟩ i_
  |false=>
   rw[zb x7] at a;refine u6 ?_;refine y4 _ rfl (Bu b s p c x hs hp) i_ pre rfl rfl (l9.le_refl _) (fun v h=>⟨(by rw[a,h.1];rfl),h.2⟩) ?_;rintro v A ⟨r,f,rfl,rfl⟩;refine u6 ?_;rw[f,jq] at a;obtain⟨q,g⟩:=o9 (decide (r.1.length<=4096));refine A5 ?_;refine f_ ((H4 rfl rfl).eq (v':=.bool q) (qn (by rw[g];apply kz.2;omega))) ?_;refine y4 _ rfl (H9 q) i_ pre rfl rfl (l9.le_refl _) (fun v h=>⟨(by rw[a,zb (zu (g.symm.trans h.1))]),h.2⟩) ?_;rintro v A ⟨e,rfl,rfl⟩;refine x6 ?_;rw[zr (zy (g.symm.trans e))] at a;refine M4 ?_;exact d_ rfl rfl [I5 b s r.2 c x] ⟨_,a,rfl,rfl⟩ i_
def PZ{s:Bs}{p:Nat}{r:Bs×Nat}(hp:p<=s.length)(h:Ox s p=some r):p<=r.2/\r.2<=s.length/\vP r.1=true:=by
 unfold Ox at h;obtain⟨q,c,d⟩:=kj.1 h;have a:=dy hp c;obtain⟨n,b,e⟩:=jx.1 d;subst e;refine⟨a.1,a.2.1,?_⟩;unfold jH at b;split at b
 ·next f=>
  have:=Qz b;subst this;split
  ·exact(by decide:vP di=true)
  ·exact f
 ·cases b
def Qa(b:Nat)(s:Bs)(p:Nat)(c:CM)(x:CL)(hs:s.length<=1000000000)(hp:p<=s.length):Cx prog 276 [i8 b] Gl [I5 b s p c x] (fun v A=>∃r,Ox s p=some r/\v=B r.1/\A=[I5 b s r.2 c x]) (gb (Ox s p)):=by
 refine C2 14 func276 rfl rfl rfl ?_;intro F hg;obtain⟨W,a⟩:=o9 (Ox s p);rw[<-a];unfold Ox at a;refine A5 ?_;refine y4 _ rfl (S9 b s p c x qb hp) i_ pre rfl rfl (l9.le_refl _) (fun v h=>⟨(by rw[a,h.1];rfl),h.2⟩) ?_;rintro v A ⟨r,d,rfl,rfl⟩;refine c_ rfl (Bo r.1 (by have:=dy hp d;unfold lD;omega)) qw rfl ?_;refine al ?_;rw[d,jq] at a;refine u6 ?_;refine y4 _ rfl (H9 _) i_ pre rfl rfl (l9.le_refl _) (fun v h=>⟨(by rw[a];have:=h.1;cases e:jH r.1 with|none=>rfl|some n=>rw[e] at this;cases this),h.2⟩) ?_;rintro v A ⟨f,rfl,rfl⟩;refine x6 ?_;obtain⟨n,g⟩:=Z4.1 f;rw[g] at a⊢;refine M4 ?_;exact d_ rfl rfl [I5 b s r.2 c x] ⟨_,a,rfl,rfl⟩ i_
def zf{p q:UInt8->Bool}(h:∀n,n<256->p (UInt8.ofNat n)=q (UInt8.ofNat n))(c:UInt8):p c=q c:=by
 have:=h c.toNat c.toNat_lt
 rwa [UInt8.ofNat_toNat] at this
def kH(l:Bs)(c:UInt8):Pu prog 348 [B l,B [c]] (fun _=>True) (.bool (l.contains c)):=V3 fun w _=>by
 have:=Tryz.strings_Contains_one ⟨l.toArray⟩ c w;rw[show(decide (0<=Lib.indexByte (⟨l.toArray⟩:ByteArray).data.toList c))=l.contains c from by
  show decide (0<=Lib.indexByte l c)=_;rw[eW]
  cases h:l.contains c<;>simp] at this
 exact this
def uz(c:UInt8):Pu prog 348 [B [48,49,50,51,52,53,54,55,56,57,44,58,42],B [c]] (fun _=>True) (.bool (oM c)):=by
 have:=kH [48,49,50,51,52,53,54,55,56,57,44,58,42] c
 rwa [zf (p:=fun c=>List.contains [48,49,50,51,52,53,54,55,56,57,44,58,42] c) (q:=oM) (by decide+kernel) c] at this
def Mw:wy 347 oM:=fun c=>by
 refine b_ 5 func347 rfl rfl rfl ?_;intro F _;refine A5 ?_;refine c_ rfl (uz c) qw rfl ?_;refine D0 ?_;exact d_ rfl rfl [] qh i_
def kI{s:Bs}{p:Nat}{r:List (Nat×Nat)×Nat}(hp:p<=s.length)(h:rn s p=some r):p<=r.2/\r.2<=s.length/\r.1.length<=64:=by
 unfold rn at h;obtain⟨l,a,b⟩:=jx.1 h;subst b;have:=cg (q:=oM) hp;refine⟨by simp only;omega,this,?_⟩;unfold vW at a;split at a
 ·cases a
 ·have:=kE _ _ a;simp only;omega
def kJ(b:Nat)(s:Bs)(p:Nat)(c:CM)(x:CL)(hs:s.length<=1000000000)(hp:p<=s.length):Cx prog 285 [i8 b] Gl [I5 b s p c x] (fun v A=>∃r a d,rn s p=some r/\v=.slice a r.1.length d/\A=[X1 a r.1 d,I5 b s r.2 c x]) (gb (rn s p)):=by
 refine C2 14 func285 rfl rfl rfl ?_;intro F hg;obtain⟨W,f⟩:=o9 (rn s p);rw[<-f];unfold rn at f;have j:=cg (q:=oM) hp;refine A5 ?_;refine y5 _ rfl (fd 347 oM Mw b s p c x qb hp) i_ qw rfl ?_;rintro v A ⟨rfl,rfl⟩;refine y5 _ rfl (DK (O6 oM s p) qb) i_ (fun h k o=>hg.le k) rfl ?_;rintro v A ⟨a,d,l,rfl,rfl,m⟩;refine Y1 ?_;refine y4 _ rfl (H9 _) i_ pre rfl rfl (l9.le_refl _) (fun v h=>⟨(by rw[f];have:=h.1;cases e:vW (O6 oM s p) with|none=>rfl|some n=>rw[e] at this;cases this),h.2⟩) ?_;rintro v A ⟨g,rfl,rfl⟩;refine x6 ?_;obtain⟨n,i⟩:=Z4.1 g;have:=m n i;subst this;rw[i] at f;refine M4 ?_;exact d_ rfl rfl [X1 a l d,I5 b s (p+(O6 oM s p).length) c x] ⟨_,a,d,f,rfl,rfl⟩ i_
def sA{s c:Bs}(h:E_ s=some c):c.length<=32:=by
 unfold E_ at h;split at h
 ·next f hf=>
  cases h
  have:=Ks hf
  revert this
  have hs:∀f∈S5,f.length<=32:=by decide
  exact hs c
 ·split at h
  ·next a=>
   cases h
   simp only[W_,kg];exact a.2
  ·cases h
def Mx{s:Bs}{p:Nat}{r:List Bs×Nat}(hp:p<=s.length)(h:oN s p=some r):p<=r.2/\r.2<=s.length/\r.1.length<=16/\∀f∈r.1,f.length<=32:=by
 unfold oN at h;split at h
 ·next k=>
  have:=Qz h;subst this;have a:=jI (mh (s:=s.drop p) (l:=(U6 (s.drop p)).1) (n:=(U6 (s.drop p)).2.1) (by rw[<-k]));have b:=pI (s.drop p);rw[jz] at b;refine⟨by simp only;omega,by simp only;omega,a.2.2,fun f hf=>sA (a.1 f hf)⟩
 ·cases h
def sB(b:Nat)(s:Bs)(p:Nat)(c:CM)(x:CL)(hs:s.length<=1000000000)(hp:p<=s.length):Cx prog 282 [i8 b] Gl [I5 b s p c x] (fun v A=>∃r a d,oN s p=some r/\v=.slice a r.1.length d/\A=[B0 a r.1 d,I5 b s r.2 c x]) (gb (oN s p)):=by
 refine C2 25 func282 rfl rfl rfl ?_;intro F hg;obtain⟨W,e⟩:=o9 (oN s p);rw[<-e];unfold oN at e;have i:=pI (s.drop p);rw[jz] at i;obtain⟨m,j⟩:=o9 (U6 (s.drop p));have f:=DG (s.drop p) (by rw[jz];omega);rw[<-j] at e i f;obtain⟨q,g⟩:=o9 (decide (m.2.2=0));refine A5 ?_;refine y5 _ rfl (bd b s p c x qb hp) i_ qw rfl ?_;rintro v A ⟨rfl,rfl⟩;refine y5 _ rfl f i_ (fun h k o=>hg.le k) rfl ?_;rintro v A ⟨a,d,rfl,rfl⟩;refine wk 8 ?_;refine f_ ((q_ rfl rfl).eq (v':=.bool q) (qn g.symm)) ?_;refine y4 _ rfl (H9 q) i_ pre rfl rfl (l9.le_refl _) (fun v h=>⟨(by rw[e,zb (zu (g.symm.trans h.1))]),h.2⟩) ?_;rintro v A ⟨l,rfl,rfl⟩;refine x6 ?_;rw[zr (zy (g.symm.trans l))] at e;refine al ?_;refine f_ ((r8 rfl rfl qb).eq (v':=.int .i64 ((p+m.2.1:Nat):Int)) (by congr 1)) ?_;refine KI ?_;exact d_ rfl rfl [B0 a m.1 d,I5 b s (p+m.2.1) c x] ⟨_,a,d,e,rfl,rfl⟩ fun w n=>y9.left tk n
abbrev OF(f:FuncId)(b:Nat)(s:Bs)(R:CM->Nat->Option (CM×Nat)):Prop:=∀(c:CM) (x:CL) (p:Nat),p<=s.length->Cx prog f [i8 b] Gl [I5 b s p c x] (fun v A=>∃r,R c p=some r/\v=.tuple #[]/\A=[I5 b s r.2 r.1 x]) (gb (R c p))
def cH(b:Nat)(s:Bs):OF 207 b s (fun c p=>some (c,p)):=fun c x p hp=>by
 refine C2 2 func207 rfl rfl rfl ?_;intro F hg;refine x6 ?_;exact m6 rfl [I5 b s p c x] ⟨(c,p),rfl,rfl,rfl⟩ i_
def DY(b:Nat)(s:Bs)(hs:s.length<=1000000000):OF 208 b s (fun c p=>(I7 s AS p).map fun e=>(c,e)):=fun c x p hp=>by
 refine C2 4 func208 rfl rfl rfl ?_;intro F hg;refine u6 ?_;refine y4 _ rfl (E4 b s AS p c x qb hp x7) i_ pre rfl rfl (l9.le_refl _) (fun v h=>⟨(by simp only[h.1,Kz]),h.2⟩) ?_;rintro v A ⟨e,a,rfl,rfl⟩;refine x6 ?_;exact m6 rfl [I5 b s e c x] ⟨(c,e),by simp only[a,Qh],rfl,rfl⟩ i_
def eB(b:Nat)(s:Bs)(hs:s.length<=1000000000):OF 211 b s (fun c p=>L5 c s p):=fun c x p hp=>by
 refine C2 10 func211 rfl rfl rfl ?_;intro F hg;refine u6 ?_;refine y4 _ rfl (E4 b s [32] p c x qb hp x7) i_ pre rfl rfl (l9.le_refl _) (fun v h=>⟨(by simp only[L5,iM,h.1,Ky,Kz]),h.2⟩) ?_;rintro v A ⟨d,a,rfl,rfl⟩;refine x6 ?_;have e:=D6 a x7;refine A5 ?_;refine y4 _ rfl (Qa b s d c x hs e.2.2) i_ pre rfl rfl (l9.le_refl _) (fun v h=>⟨(by simp only[L5,iM,a,h.1,jq,Kz]),h.2⟩) ?_;rintro v A ⟨r,f,rfl,rfl⟩;refine P1 ?_;exact m6 rfl [I5 b s r.2 {c with box:=r.1} x] ⟨({c with box:=r.1},r.2),by simp only[L5,iM,a,f,jq,Qh],rfl,rfl⟩ i_
def lI{s:Bs}{c:CM}{p:Nat}{r:CM×Nat}(hp:p<=s.length)(h:L5 c s p=some r):p<=r.2/\r.2<=s.length:=by
 unfold L5 iM at h;obtain⟨q,a,b⟩:=jx.1 h;obtain⟨e,d,f⟩:=kj.1 a;have g:=D6 d x7;have i:=PZ g.2.2 f;subst b;simp only;omega
def Hu(b:Nat)(s:Bs)(hs:s.length<=1000000000):OF 209 b s (fun c p=>dI c s p):=fun c x p hp=>by
 refine C2 18 func209 rfl rfl rfl ?_;intro F hg;refine u6 ?_;refine y4 _ rfl (E4 b s [32] p c x qb hp x7) i_ pre rfl rfl (l9.le_refl _) (fun v h=>⟨(by simp only[dI,yz,h.1,Ky]),h.2⟩) ?_;rintro v A ⟨g,a,rfl,rfl⟩;refine x6 ?_;have f:=D6 a x7;refine A5 ?_;refine y4 _ rfl (S9 b s g c x qb f.2.2) i_ pre rfl rfl (l9.le_refl _) (fun v h=>⟨(by simp only[dI,yz,a,h.1,jq,Ky]),h.2⟩) ?_;rintro v A ⟨r,d,rfl,rfl⟩;refine P1 ?_;have i:=dy f.2.2 d;refine u6 ?_;refine y4 _ rfl (E4 b s [32] r.2 {c with user:=r.1} x qb i.2.1 x7) i_ pre rfl rfl (l9.le_refl _) (fun v h=>⟨(by simp only[dI,yz,a,d,h.1,jq,Ky,Kz]),h.2⟩) ?_;rintro v A ⟨j,e,rfl,rfl⟩;refine x6 ?_;have a3:=D6 e x7;refine A5 ?_;refine y4 _ rfl (S9 b s j {c with user:=r.1} x qb a3.2.2) i_ pre rfl rfl (l9.le_refl _) (fun v h=>⟨(by simp only[dI,yz,a,d,e,h.1,jq,Kz]),h.2⟩) ?_;rintro v A ⟨t,k,rfl,rfl⟩;refine P1 ?_;exact m6 rfl [I5 b s t.2 {c with user:=r.1,pass:=t.1} x] ⟨({c with user:=r.1,pass:=t.1},t.2),by simp only[dI,yz,a,d,e,k,jq,Qh],rfl,rfl⟩ i_
def wM(b:Nat)(s:Bs)(hs:s.length<=1000000000):OF 210 b s (fun c p=>(L5 c s p).map fun q=>({q.1 with cond:=I9 s cC q.2},I1 s cC q.2)):=fun c x p hp=>by
 refine C2 10 func210 rfl rfl rfl ?_;intro F hg;refine u6 ?_;refine y4 _ rfl (eB b s hs c x p hp) i_ pre rfl rfl (l9.le_refl _) (fun v h=>⟨(by simp only[h.1,Kz]),h.2⟩) ?_;rintro v A ⟨r,a,rfl,rfl⟩;refine x6 ?_;have d:=lI hp a;refine A5 ?_;refine y5 _ rfl (T9 b s cC r.2 r.1 x qb d.2 x7) i_ qw rfl ?_;rintro v A ⟨rfl,rfl⟩;refine P1 ?_;exact m6 rfl [I5 b s (I1 s cC r.2) {r.1 with cond:=I9 s cC r.2} x] ⟨({r.1 with cond:=I9 s cC r.2},(I1 s cC r.2)),by simp only[a,Qh],rfl,rfl⟩ i_
def My:wy 277 iL:=fun c=>by
 obtain⟨a,b⟩:=o9 (decide (c=37));obtain⟨d,f⟩:=o9 (decide (c=42));have e:iL c=(a||d||R2 c):=by unfold iL;rw[b,f]
 rw[e];refine b_ 13 func277 rfl rfl rfl ?_;intro F _;refine u6 ?_
 cases a<;>cases d
 all_goals (
  refine u6 ?_;refine f_ ((C9 rfl rfl).eq (qn ((show decide ([c]=[37])=decide (c=37) from by simp).trans b.symm))) ?_;refine A5 ?_;(first|refine u_ ?_|(refine v_ ?_;refine f_ ((C9 rfl rfl).eq (qn ((show decide ([c]=[42])=decide (c=42) from by simp).trans f.symm))) ?_));refine E8 ?_;(first|refine u_ ?_|(refine v_ ?_;refine c_ rfl (pt c) qw rfl ?_));refine A5 ?_)
 all_goals (refine B4 ?_;exact d_ rfl rfl [] ⟨by simp,rfl⟩ i_)
def Hv(b:Nat)(s:Bs)(hs:s.length<=1000000000):OF 212 b s (fun c p=>jL c s p):=fun c x p hp=>by
 refine C2 22 func212 rfl rfl rfl ?_;intro F hg;refine u6 ?_;refine y4 _ rfl (E4 b s OA p c x qb hp x7) i_ pre rfl rfl (l9.le_refl _) (fun v h=>⟨(by simp only[jL,h.1,Ky]),h.2⟩) ?_;rintro v A ⟨a,d,rfl,rfl⟩;refine x6 ?_;have f:=D6 d x7;have g:=cg (q:=iL) f.2.2;refine A5 ?_;refine y5 _ rfl (fd 277 iL My b s a c x qb f.2.2) i_ qw rfl ?_;rintro v A ⟨rfl,rfl⟩;refine wk 9 ?_;refine f_ (C9 rfl rfl) ?_;refine O_ ?_ ?_<;>intro h
 ·have e:O6 iL s a=[]:=by simpa using h
  rw[e];simp only[kx,Zk];refine A5 ?_;refine y4 _ rfl (S9 b s a {c with a6F:=[]} x qb f.2.2) i_ pre rfl rfl (l9.le_refl _) (fun v h=>⟨(by simp only[jL,d,jq,zr e,h.1,Kz]),h.2⟩) ?_;rintro v A ⟨r,i,rfl,rfl⟩;refine P1 ?_;exact m6 rfl [I5 b s r.2 {c with a6F:=r.1} x] ⟨({c with a6F:=r.1},r.2),by simp only[jL,d,jq,zr e,i,Qh],rfl,rfl⟩ i_
 ·have e:¬O6 iL s a=[]:=by simpa using h
  refine x6 ?_;exact m6 rfl [I5 b s (a+(O6 iL s a).length) {c with a6F:=O6 iL s a} x] ⟨({c with a6F:=O6 iL s a},(a+(O6 iL s a).length)),by simp only[jL,d,jq,zb e],rfl,rfl⟩ i_
def wN(b:Nat)(s:Bs)(hs:s.length<=1000000000):OF 288 b s (fun c p=>(dH s p).map fun q=>({c with a6D:=q.1,a6C:=true},q.2)):=fun c x p hp=>by
 refine C2 14 func288 rfl rfl rfl ?_;intro F hg;refine A5 ?_;refine y4 _ rfl (Y7 b s E6 p c x qb hp (kp _)) i_ pre rfl rfl (l9.le_refl _) (fun v h=>⟨(by simp only[dH,h.1,Ky,Kz]),h.2⟩) ?_;rintro v A ⟨r,a,rfl,rfl⟩;refine P1 ?_;have d:=cG hp a;refine Y1 ?_;refine y4 _ rfl (E4 b s [41] r.2 {c with a6D:=r.1,a6C:=true} x qb d.2.2 x7) i_ pre rfl rfl (l9.le_refl _) (fun v h=>⟨(by simp only[dH,a,h.1,jq,Kz]),h.2⟩) ?_;rintro v A ⟨e,f,rfl,rfl⟩;refine x6 ?_;exact m6 rfl [I5 b s e {c with a6D:=r.1,a6C:=true} x] ⟨({c with a6D:=r.1,a6C:=true},e),by simp only[dH,a,f,jq,Qh],rfl,rfl⟩ i_
abbrev NW:=Bs×Nat×Bool
abbrev Mz:NW:=([],0,false)
abbrev DZ(x:NW):zq:=[B x.1,.int .i64 (x.2.1:Nat),.bool x.2.2,.bool false,.int .u64 0,.int .u64 0]
abbrev Ea(l:List NW):zq:=l.flatMap DZ
def uA:∀x,(DZ x).length=6:=fun _=>rfl
def MA:∀x,∀q∈DZ x,q.oneCell'=true:=fun x q a=>by simp at a;rcases a with rfl|rfl|rfl|rfl|rfl|rfl<;>rfl
def pJ:Ct prog 281 [] (fun _=>True) [] (fun v A=>∃a,v=.slice (some a) 5 5/\A=[.own (.slice (some a) 5 5) 371 6 (Ea jK)]):=by
 refine b_ 12 func281 rfl rfl rfl ?_;intro F _;refine wk 11 ?_;refine y6 rfl rfl rfl rfl rfl rfl (xs:=Ea jK) rfl rfl ?_;rintro c ⟨b,rfl⟩;refine D0 ?_;exact d_ rfl rfl _ ⟨b,rfl,rfl⟩ i_
def Eb{l:List NW}{j:Nat}(h:j<l.length):l.getD j Mz∈l:=by
 rw[z8,zd h];exact zm h
def MB{l:List NW}{f:NW->Bool}{j:Nat}(d:j<l.length)(b:∀i,i<j->f (l.getD i Mz)=false)(c:f (l.getD j Mz)=true):l.find? f=some (l.getD j Mz):=by
 induction l generalizing j with
 |nil=>simp at d
 |cons a t ih=>
  cases j with
  |zero=>simp only[List.getD_cons_zero] at c⊢;rw[Wb,c]
  |succ j=>
   have e:=b 0 qb;simp only[List.getD_cons_zero,List.getD_cons_succ] at e c⊢;rw[Wb,e];exact ih (by simpa using d) (fun i g=>by have:=b (i+1) qb;simpa using this) c
def Hw{l:List NW}{f:NW->Bool}(a:∀i,i<l.length->f (l.getD i Mz)=false):l.find? f=none:=by
 rw[W2];intro x c;obtain⟨i,b,rfl⟩:=Zp c;have:=a i b;rw[z8,zd b] at this;simpa using this
def Hx{l:List NW}{s:Bs}{p:Nat}{r:IT×Nat}(hp:p<=s.length)(hl:∀x∈l,x.1≠[])(h:dj l s p=some r):p<r.2/\r.2<=s.length:=by
 unfold dj at h;obtain⟨x,f,b⟩:=kj.1 h;have g:=Ks f;have a:I9 s x.1 p=true:=by have:=List.find?_some f;simpa using this
 have u:=iN a (hl x g);have v:=Kb.mpr (hl x g);split at b
 ·next hc=>
  have i:=iN hc.2 x7;unfold yw at b;obtain⟨w,j,k⟩:=kj.1 b;obtain⟨y,m,n⟩:=kj.1 k;obtain⟨z,o,c⟩:=kj.1 n;simp only[z1,kx] at i;have A:=cG qb j;have q:=D6 m x7;have C:=cG q.2.2 o;split at c
  ·obtain⟨e,t,d⟩:=jx.1 c;have D:=D6 t x7;subst d;simp only;omega
  ·cases c
 ·have:=Qz b;subst this;simp only;omega
def a2k{F:l9}{w:World}{H:List As}{a:qr}{l:List NW}{q i:Nat}(b:Hp F w H)(r:n9 F.heap a (Ea l))(hq:q=6*i)(c:i<l.length):M9 (hp w) (N_ a q) (DZ (l.getD i Mz)):=
 tI (C:=DZ) (r.le b.keep) uA qb Mz hq c
def Ec{h:l_}{a:qr}{l:List NW}{i:Nat}(r:n9 h a (Ea l))(b:i<l.length):∃c,a=some c:=vL (C:=DZ) r uA qb b
def n7{P:zj}{N:Nat}{K R:A1}{E:List (Nat×A1)}{L:G9}{F j:l9}{H:List As}{ops:Array Oper}{rest:List Oper}{ty:zk}{pos:String}{af:Array Edge}{Pq b:Value->Prop}{d:Nat}{f:FuncId}{args:List zw}{g:Array zk}{vs:zq}{c:l_->Prop}{C Rr:List As}{a:Value->List As->Prop}[HF P f](hc:Cx P f vs c C a Pq)(e:∀h,l_.le F.heap h->(∃bs,A_ h Rr bs)->c h)(k:E.lookup 0=some (Dh j b))(i:∀v,Pq v->b v)(h:∀v A,a v A->GL P N ops rest K E R ((d,v)::L) F (A++Rr))(hx:rI L args=some vs:=by rfl)(hH:y9 C H Rr:=by exact tk)(hl:j.le F:=by exact fle)(l:Nat.blt d N=true:=by rfl):
  GL P N ops (⟨some d,.call ⟨.value (.func f),args.toArray,g⟩,ty,pos,af,none⟩::rest) K E R L F H:=
 y4 Rr hx hc (fun w m=>hH.hp m) e l k hl i h
def ItP(b:Nat)(s:Bs)(c:CM)(x:CL)(o:Option (IT×Nat))(v:Value)(A:List As):Prop:=∃r a' c',o=some r/\v=.tuple #[]/\A=[I5 b s r.2 {c with a6B:=c.a6B++[r.1]} {x with ia:=a',ic:=c'},ce a' (c.a6B++[r.1]) c']
def BG(b:Nat)(s:Bs)(p:Nat)(c:CM)(x:CL)(l:List NW)(a:qr)(n:Nat)(hs:s.length<=1000000000)(hp:p<=s.length)(hl:∀x∈l,x.1≠[]/\x.1.length<=100/\x.2.1<=100)(q0:l.length<=100)(hi:c.a6B.length<=1000000000):Cx prog 280 [i8 b,.slice a l.length n] (fun h=>Gl h/\n9 h a (Ea l)) [I5 b s p c x,ce x.ia c.a6B x.ic] (ItP b s c x (dj l s p)) (gb (dj l s p)):=by
 refine C2 59 func280 rfl rfl rfl ?_;intro F hh;have hg:=hh.1;have M:=hh.2;obtain⟨W,d⟩:=o9 (dj l s p);rw[<-d];unfold dj at d;refine E8 ?_;refine o8 (ι:=Nat×List As) (fun i=>i.1<=l.length/\∀j,j<i.1->I9 s (l.getD j Mz).1 p=false) (fun i=>[(0,i8 b),(6,.slice a l.length n),(7,r7 l.length),(8,r7 i.1)]) (fun i=>I5 b s p c x::ce x.ia c.a6B x.ic::i.2) (fun i=>l.length-i.1) (0,[]) ⟨by simp,fun j hj=>by simp at hj⟩ sub i_ ?_;rintro⟨i,Z⟩ ⟨h6,r⟩;simp only at h6 r;refine T2 ?_ ?_<;>intro h
 ·have g:i<l.length:=by have:=zy h;omega
  have h7:=Ec M g;have hm:=hl _ (Eb g);obtain⟨y,O⟩:=o9 (l.getD i Mz);obtain⟨q,Q⟩:=o9 (I9 s y.1 p);rw[<-O] at hm;refine u6 ?_;refine r_ ((p9 rfl (fun w e=>a2k e M (i:=i) qb g) (by rfl)).eq (v':=.agg [B y.1,.int .i64 (y.2.1:Nat),.bool y.2.2,.bool false,.int .u64 0,.int .u64 0].toArray) (by rw[O])) ?_;refine u6 ?_;intro S;refine P1 ?_;refine e_ (T9 b s y.1 p c x qb hp qb) pre ?_;rintro v A ⟨rfl,rfl⟩;rw[<-Q];refine T2 ?_ ?_<;>intro h2
  ·have T:I9 s y.1 p=false:=(by rw[<-Q];simpa using h2);rw[show I1 s y.1 p=p from by unfold I1;rw[T];rfl];refine A5 ?_;refine l8 (i+1,_::Z) ⟨g,fun j hj=>?_⟩ qg sub (fun w e=>(tk (C:=[_,_,_])).hp e);rcases jd.1 hj with t|rfl
   ·exact r j t
   ·rw[<-O];exact T
  ·have U:I9 s y.1 p=true:=(by rw[<-Q];simpa using h2);have D:l.find? (fun x=>I9 s x.1 p)=some y:=(by rw[O];exact MB g r (by rw[<-O];exact U));rw[D,jq] at d;have e2:I1 s y.1 p=p+y.1.length:=(by unfold I1;rw[U];rfl);have u:=(gL (s:=s) (w:=y.1) hp).2;rw[e2] at u⊢;obtain⟨P,hP⟩:=o9 (p+y.1.length);rw[<-hP] at d u⊢;obtain⟨q1,k⟩:=o9 (decide (10<=y.2.1));obtain⟨q2,z⟩:=o9 (I9 s [60] P);refine x6 ?_;obtain⟨PE,f⟩:=o9 (if(q1&&q2)=true then P+1 else P);refine x8 [(0,i8 b),(5,i8 S),(24,.bool (q1&&q2))] (I5 b s PE c x::.blk S (.cells (B y.1::co ⟨y.2.1,y.2.2,false,0,0⟩).toArray 371)::ce x.ia c.a6B x.ic::Z) ?_ ?_
   ·cases q1
    ·refine E8 ?_;refine f_ ((K_ rfl rfl).eq (v':=.bool false) (qn ((qz).trans k.symm))) ?_;refine A5 ?_;(first|refine u_ ?_|(refine v_ ?_;fail));refine u6 ?_;subst f;exact p_ sub (fun w e=>(tk (C:=[_,_,_])).hp e)
    ·refine E8 ?_;refine f_ ((K_ rfl rfl).eq (v':=.bool true) (qn ((qz).trans k.symm))) ?_;refine A5 ?_;(first|refine u_ ?_|(refine v_ ?_;refine e_ (T9 b s [60] P c x qb u qp) pre ?_;rintro v A ⟨rfl,rfl⟩;rw[<-z]));refine u6 ?_;rw[show I1 s [60] P=PE from by rw[f];unfold I1;rw[<-z];rfl];exact p_ sub (fun w e=>(tk (C:=[_,_,_])).hp e)
   refine x6 ?_;refine n8 (ι:=IT×Nat) (fun i=>W=some i) (fun i=>[(0,i8 b),(5,i8 S)]) (fun i=>I5 b s i.2 c x::.blk S (.cells (B y.1::co i.1).toArray 371)::ce x.ia c.a6B x.ic::Z) ?_ ?_
   ·refine p7 rfl ?_ ?_<;>intro t
    ·rw[zr t] at f;rw[jw] at t;have V:I9 s [60] P=true:=z.symm.trans t.2;rw[zr ⟨zy (k.symm.trans t.1),V⟩] at d;unfold yw at d;have o:=(gL (s:=s) (w:=[60]) u).2;rw[show I1 s [60] P=P+1 from by unfold I1;rw[V];rfl] at o;rw[f];refine P1 ?_;refine n7 (Y7 b s 4294967295 (P+1) c x qb o qp) pre rfl (fun v h=>⟨by rw[d,h.1];rfl,h.2⟩) ?_;rintro v A ⟨r1,X,rfl,rfl⟩;refine E8 ?_;have b1:=cG o X;rw[X,jq] at d;refine u6 ?_;refine n7 (E4 b s [46] r1.2 c x qb b1.2.2 qp) pre rfl (fun v h=>⟨by rw[d,h.1];rfl,h.2⟩) ?_;rintro v A ⟨p2,Y,rfl,rfl⟩;refine x6 ?_;have b2:=D6 Y x7;rw[Y,jq] at d;refine u6 ?_;refine n7 (Y7 b s 4294967295 p2 c x qb b2.2.2 qp) pre rfl (fun v h=>⟨by rw[d,h.1];rfl,h.2⟩) ?_;rintro v A ⟨r3,h0,rfl,rfl⟩;refine E8 ?_;have b3:=cG b2.2.2 h0;rw[h0,jq] at d;obtain⟨q3,J⟩:=o9 (decide (0<r3.1));refine E8 ?_;refine f_ ((E9 rfl rfl).eq (v':=.bool q3) (qn ((qz).trans J.symm))) ?_;refine n7 (H9 q3) qw rfl (fun v h=>⟨by rw[d,zb (zu (J.symm.trans h.1))],h.2⟩) ?_;rintro v A ⟨Q,rfl,rfl⟩;refine x6 ?_;rw[zr (zy (J.symm.trans Q))] at d;refine u6 ?_;refine n7 (E4 b s [62] r3.2 c x qb b3.2.2 qp) pre rfl (fun v h=>⟨by rw[d,h.1];rfl,h.2⟩) ?_;rintro v A ⟨p4,h8,rfl,rfl⟩;refine x6 ?_;rw[h8,Qh] at d;exact g_ _ d (fun w e=>(tk (C:=[_,_,_])).hp e)
    ·rw[zb (by rw[t];simp)] at f;rw[zb (by rintro⟨h1,h4⟩;rw[ju h1] at k;rw[k,z,h4] at t;cases t)] at d;rw[f];refine x6 ?_;exact g_ _ d (fun w e=>(tk (C:=[_,_,_])).hp e)
   rintro⟨it,P2⟩ h9;refine x6 ?_;refine D8 [5,7] [8,9,13] [I5 b s P2 c x,.blk S (.cells (B y.1::co it).toArray 371)] 14 ?_;refine wd [0,1,2,3,4,5,6,7] ?_;refine h_ 8 rfl i6 ?_;refine D2 co it rfl ?_;intro q4 k9;refine G5 ?_;refine dU (.inr (by exact bw (by(first|exact fun _ h=>h|(repeat first|exact tH|refine oC (by repeat first|exact List.Mem.head _|apply List.Mem.tail) ?_|exact fun _ h=>h|refine sub_skip ?_))))) ?_;refine h_ 9 rfl i6 ?_;refine u7 co (l:=c.a6B) (m:=[it]) S6 gJ (by show(c.a6B.length+1)*32<=_;omega) ?_;intro k0 k8 _;refine D7 [10,11,12,13] ?_;refine B4 ?_;exact m6 rfl _ ⟨(it,P2),k0,k8,h9,rfl,rfl⟩ fun w e=>y9.left tk e
 ·have h5:i=l.length:=by have:=zu h;omega
  subst h5;rw[Hw r] at d;refine D1 ?_;refine n7 (H9 false) qw rfl (fun v h=>⟨d,h.2⟩) ?_;rintro v A ⟨hl,rfl,rfl⟩;refine x6 ?_
  cases hl
section
variable{ι:Type}(s:Bs)(Rr:ι->Nat->ι->Nat->Prop)(Nn:ι->Nat->Prop)
inductive pK:ι->Nat->Nat->ι->Nat->Prop
 |one {i i1:ι} {p p1:Nat}:Rr i p i1 p1->pK i p 1 i1 p1
 |more {i i1 i2:ι} {p p1 p2 n:Nat}:pK i p n i1 p1->I9 s [32] p1=true->Rr i1 (p1+1) i2 p2->pK i p (n+1) i2 p2
def OG(i:ι)(p:Nat):Prop:=Nn i p\/∃n i1 p1,pK s Rr i p n i1 p1/\I9 s [32] p1=true/\Nn i1 (p1+1)
end
def nI{ι:Type}(b:Nat)(s:Bs)(hs:s.length<=1000000000)(f:FuncId)[HF prog f](Gh:zq)(l:l_->Prop)[Mn l](m:ι->CM)(cl:ι->CL)(Z:ι->List As)(ok:ι->Nat->Prop)(Rr:ι->Nat->ι->Nat->Prop)(D:ι->Nat->Prop)(J:∀i p a p',ok i p->p<=s.length->Rr i p a p'->p<=p'/\p'<=s.length/\ok a p')(d:∀i p,ok i p->ok i (p+1))(e:∀i p,ok i p->p<=s.length->Cx prog f Gh l (I5 b s p (m i) (cl i)::Z i) (fun v A=>∃a p',Rr i p a p'/\v=.tuple #[]/\A=I5 b s p' (m a) (cl a)::Z a) (fun v=>D i p/\v=O0))(i:ι)(p:Nat)(M:ok i p)(hp:p<=s.length):Cx prog 278 [i8 b,.func (.func f) #[] Gh.toArray] l (I5 b s p (m i) (cl i)::Z i) (fun v A=>∃n a p',pK s Rr i p n a p'/\I9 s [32] p'=false/\v=.int .i64 (n:Nat)/\A=I5 b s p' (m a) (cl a)::Z a) (fun v=>OG s Rr D i p/\v=O0):=by
 refine C2 15 func278 rfl rfl rfl ?_;intro F g;refine E8 ?_;refine lj (ps:=[]) [] rfl rfl rfl (e i p M hp) (fun w y=>by rw[jk];exact y) (fun h z _=>Mn.le z g) rfl rfl (l9.le_refl _) (fun v h=>⟨.inl h.1,h.2⟩) ?_;rintro v A ⟨T,U,x,rfl,rfl⟩;refine x6 ?_;have O:=J _ _ _ _ M hp x;rw[jk];refine o8 (ι:=Nat×ι×Nat) (fun t=>pK s Rr i p t.1 t.2.1 t.2.2/\t.2.2<=s.length/\ok t.2.1 t.2.2/\t.1<=t.2.2+1) (fun t=>[(0,i8 b),(1,.func (.func f) #[] Gh.toArray),(5,r7 t.1)]) (fun t=>I5 b s t.2.2 (m t.2.1) (cl t.2.1)::Z t.2.1) (fun t=>s.length-t.2.2) (1,T,U) ⟨.one x,O.2.1,O.2.2,by simp⟩ sub i_ ?_;rintro⟨n,j,q⟩ ⟨c,o,r,C⟩;simp only at c o r C;refine u6 ?_;refine e_ (T9 b s [32] q (m j) (cl j) qb o qp) qw ?_;rintro v A ⟨rfl,rfl⟩;refine O_ ?_ ?_<;>intro h
 ·have u:=(gL (s:=s) (w:=[32]) o).2;rw[show I1 s [32] q=q+1 from by unfold I1;rw[h];rfl] at u⊢;refine u6 ?_;refine lj (ps:=[]) [] rfl rfl rfl (e j (q+1) (d _ _ r) u) (fun w y=>by rw[jk];exact y) (fun h z _=>Mn.le z g) rfl rfl (l9.le_refl _) (fun v k=>⟨.inr ⟨n,j,q,c,h,k.1⟩,k.2⟩) ?_;rintro v A ⟨V,X,Q,rfl,rfl⟩;refine x6 ?_;have S:=J _ _ _ _ (d _ _ r) u Q;refine u6 ?_;refine f_ ((r8 rfl rfl qb).eq (v':=.int .i64 ((n+1:Nat):Int)) (by congr 1)) ?_;refine u6 ?_;rw[jk];exact l8 (n+1,V,X) ⟨.more c h Q,S.2.1,S.2.2,by simp only;omega⟩ qg sub i_
 ·rw[show I1 s [32] q=q from by unfold I1;rw[h];rfl];refine M4 ?_;exact d_ rfl rfl (I5 b s q (m j) (cl j)::Z j) ⟨n,j,q,c,h,rfl,rfl⟩ i_
open Go Go.Sl Go.RowKit Go.Proofs.Tryz
section
variable{ι α β:Type}{s:Bs}{one:Nat->Option (α×Nat)}{acc:ι->β}{app:β->α->β}
def Hy(one:Nat->Option (α×Nat))(acc:ι->β)(app:β->α->β)(i:ι)(p:Nat)(i':ι)(p':Nat):Prop:=∃r,one p=some r/\acc i'=app (acc i) r.1/\p'=r.2
def sC{i b:ι}{p n a:Nat}(h:pK s (Hy one acc app) i p n b a):∃l,l.length=n/\acc b=l.foldl app (acc i)/\∀k,ej one s (k+n) p=if I9 s [32] a=true then(ej one s k (a+1)).map fun r=>(l++r.1,r.2) else some (l,a):=by
 induction h with
 |one h=>
  obtain⟨r,c,d,rfl⟩:=h;exact⟨[r.1],rfl,d,fun k=>by rw[ej,c,jq];rfl⟩
 |@more b i2 p a p2 n h hl hr ih=>
  obtain⟨l,e,f,g⟩:=ih;obtain⟨r,c,d,rfl⟩:=hr;refine⟨l++[r.1],by simp[e],by rw[d,f,W7];rfl,fun k=>?_⟩;rw[show k+(n+1)=(k+1)+n from by omega,g (k+1),zr hl,ej,c,jq];split
  ·cases ej one s k (r.2+1)<;>simp
  ·simp
def nJ(c:∀p r,p<=s.length->one p=some r->p<r.2/\r.2<=s.length){i d:ι}{p n a:Nat}(hp:p<=s.length)(h:pK s (Hy one acc app) i p n d a):p+n<=a/\a<=s.length:=by
 induction h with
 |one h=>
  obtain⟨r,b,e,rfl⟩:=h;have:=c _ _ hp b;omega
 |more h hl hr ih=>
  obtain⟨r,b,e,rfl⟩:=hr;have:=iN hl x7;simp only[Qq] at this;have:=c _ _ this b;have:=ih hp;omega
def sD(c:∀p r,p<=s.length->one p=some r->p<r.2/\r.2<=s.length){i b:ι}{p n a:Nat}(hp:p<=s.length)(h:pK s (Hy one acc app) i p n b a)(hl:I9 s [32] a=false):∃l,l.length=n/\acc b=l.foldl app (acc i)/\ej one s (s.length+1) p=some (l,a):=by
 obtain⟨l,d,e,f⟩:=sC h;have:=nJ c hp h;refine⟨l,d,e,?_⟩;rw[show s.length+1=(s.length+1-n)+n from by omega,f,hl];rfl
def sE(c:∀p r,p<=s.length->one p=some r->p<r.2/\r.2<=s.length){i:ι}{p:Nat}(hp:p<=s.length)(h:OG s (Hy one acc app) (fun _ p=>one p=none) i p):ej one s (s.length+1) p=none:=by
 rcases h with h|⟨n,f,g,h,b,d⟩
 ·rw[ej,h,Ky]
 ·obtain⟨l,j,k,e⟩:=sC h;have:=nJ c hp h;have a:=iN b x7;simp only[Qq] at a;rw[show s.length+1=(s.length-n+1)+n from by omega,e,zr b,ej,d,Ky];rfl
end
def pL{α:Type}(l:List α):∀a:List α,l.foldl (fun a x=>a++[x]) a=a++l:=by
 induction l with
 |nil=>simp
 |cons x t ih=>intro a;rw[Wv,ih];simp
abbrev IS:=List IT×qr×Nat
abbrev pB(g b:Nat):As:=.blk g (.cells #[i8 b] 209)
abbrev isC(c:CM)(i:IS):CM:={c with a6B:=i.1}
abbrev BH(x:CL)(i:IS):CL:={x with ia:=i.2.1,ic:=i.2.2}
abbrev UK(g b:Nat)(i:IS):List As:=[ce i.2.1 i.1 i.2.2,pB g b]
abbrev MC(tbl:List NW)(s:Bs):IS->Nat->IS->Nat->Prop:=Hy (dj tbl s) (fun i:IS=>i.1) (fun a x=>a++[x])
abbrev ItK(f:FuncId)(tbl:List NW)(b g:Nat)(s:Bs)(c:CM)(x:CL):Prop:=∀(i:IS) (p:Nat),i.1.length<=p->p<=s.length->Cx prog f [i8 g] Gl (I5 b s p (isC c i) (BH x i)::UK g b i) (fun v A=>∃i' p',MC tbl s i p i' p'/\v=.tuple #[]/\A=I5 b s p' (isC c i') (BH x i')::UK g b i') (fun v=>dj tbl s p=none/\v=O0)
def zi{l:List NW}(h:(l.all fun x=>!x.1.isEmpty&&decide (x.1.length<=100)&&decide (x.2.1<=100))=true):∀x∈l,x.1≠[]/\x.1.length<=100/\x.2.1<=100:=fun x a=>by
 have:=Q1.1 h x a;simp only[jw,j7] at this;refine⟨fun e=>?_,this.1.2,this.2⟩;rw[e] at this;simp at this
def Ed(b g:Nat)(s:Bs)(c:CM)(x:CL)(hs:s.length<=1000000000):ItK 279 jK b g s c x:=fun i p m hp=>by
 refine C2 4 func279 rfl rfl rfl ?_;intro F hg;refine x6 ?_;refine D8 [0] [1,2] [pB g b] 3 ?_;refine wd [0] ?_;refine h_ 1 rfl i6 ?_;refine e_ pJ qw ?_;rintro v A ⟨a,rfl,rfl⟩;refine V2 ?_;refine h_ 2 rfl i6 ?_;refine n7 (Rr:=[.own (.slice (some a) 5 5) 371 6 (Ea jK),pB g b]) (BG b s p (isC c i) (BH x i) jK (some a) 5 hs hp (zi qp) qp qg) (fun h d ⟨n,e⟩=>⟨hg.le d,A_.rd e .del⟩) rfl (fun v h=>h) ?_;rintro v A ⟨r,f,j,k,rfl,rfl⟩;refine D7 [] ?_;exact m6 rfl _ ⟨(i.1++[r.1],f,j),r.2,⟨r,k,rfl,rfl⟩,rfl,rfl⟩ fun w l=>y9.left tk l
open Go Go.Sl Go.RowKit Go.Proofs.Tryz
instance:Mn Gl:=⟨fun l r=>r.le l⟩
abbrev R8(c:CM):CM:={c with cond:=false,set:=[],a6B:=[],keys:=[],how:=0,a6H:=false,a6C:=false,a6D:=0,a6J:=[]}
def sF(c:CM)(x:CL)(Z:List As):Prop:=∀h bs,A_ h Z bs->eu c x h
def bG{c:CM}{x:CL}{Z:List As}(hs:c.set=[]\/X1 x.sa c.set x.sc∈Z)(d:c.a6B=[]\/ce x.ia c.a6B x.ic∈Z)(f:c.keys=[])(hf:c.a6J=[]\/B0 x.fa c.a6J x.fc∈Z):sF c x Z:=fun h g b=>
 ⟨by rcases hs with e|a;rw[e];exact n9.nil _ _;exact ef b a,by rcases d with e|a;rw[e];exact n9.nil _ _;exact ef b a,⟨[],by rw[f];rfl,n9.nil _ _,fun _ h=>by cases h⟩,by rcases hf with e|a;rw[e];exact n9.nil _ _;exact ef b a⟩
abbrev sG(f:FuncId)(b:Nat)(s:Bs)(Rd:CM->Nat->Option (CM×Nat)):Prop:=∀(c:CM) (p:Nat),p<=s.length->Cx prog f [i8 b] Gl [I5 b s p (R8 c) I0] (fun v A=>∃r x Z,Rd (R8 c) p=some r/\v=.tuple #[]/\A=I5 b s r.2 r.1 x::Z/\sF r.1 x Z) (gb (Rd (R8 c) p))
def sG.of_x{f:FuncId}{b:Nat}{s:Bs}{a:CM->Nat->Option (CM×Nat)}(h:OF f b s a)(e:∀c p r,a (R8 c) p=some r->r.1.set=[]/\r.1.a6B=[]/\r.1.keys=[]/\r.1.a6J=[]):sG f b s a:=fun c p hp=>
 (h (R8 c) I0 p hp).mono (fun _ h=>h) (fun v A ⟨r,d,g,i⟩=>⟨r,I0,[],d,g,i,by
  obtain⟨j,k,a3,a4⟩:=e c p r d;exact bG (.inl j) (.inl k) a3 (.inl a4)⟩) (fun _ h=>h)
def cI{c:CM}{s:Bs}{p:Nat}{r:CM×Nat}(h:L5 c s p=some r):∃w e,r=({c with box:=w},e):=by
 unfold L5 at h;obtain⟨q,_,a⟩:=jx.1 h;exact⟨q.1,q.2,a.symm⟩
def wO(a:List (Bs×Nat×Bool))(s:Bs)(p:Nat):oO a s p=(ej (dj a s) s (s.length+1) p).bind fun q=>if q.1.length<=8 then(I7 s [41] q.2).map fun e=>(q.1,e) else none:=rfl
def dz{a:List NW}(b:∀x∈a,x.1≠[]/\x.1.length<=100/\x.2.1<=100)(s:Bs)(p:Nat)(r:IT×Nat)(hp:p<=s.length)(h:dj a s p=some r):p<r.2/\r.2<=s.length:=Hx hp (fun x c=>(b x c).1) h
def BI{a:List NW}(c:∀x∈a,x.1≠[]/\x.1.length<=100/\x.2.1<=100){s:Bs}(i:IS)(p:Nat)(b:IS)(p':Nat)(h:i.1.length<=p)(hp:p<=s.length)(r:MC a s i p b p'):p<=p'/\p'<=s.length/\b.1.length<=p':=by
 obtain⟨q,d,e,rfl⟩:=r;have:=dz c s p q hp d;rw[show b.1=i.1++[q.1] from e,zg,Qq];omega
def nK:∀x∈jK,x.1≠[]/\x.1.length<=100/\x.2.1<=100:=zi qp
def Ee(b:Nat)(s:Bs)(hs:s.length<=1000000000):sG 213 b s (fun c p=>jM c s p):=fun c p hp=>by
 refine C2 13 func213 rfl rfl rfl ?_;intro F hg;obtain⟨W,a⟩:=o9 (jM (R8 c) s p);simp only;rw[<-a];unfold jM at a;refine u6 ?_;intro m;refine u6 ?_;refine n7 (eB b s hs (R8 c) I0 p hp) pre rfl (fun v h=>⟨by rw[a,show L5 (R8 c) s p=none from h.1];rfl,h.2⟩) ?_;rintro v A ⟨y,d,rfl,rfl⟩;refine x6 ?_;replace d:L5 (R8 c) s p=some y:=d;have x:=lI hp d;obtain⟨w,z,rfl⟩:=cI d;rw[d,jq] at a;simp only at a x;refine u6 ?_;refine n7 (E4 b s [32,40] z {R8 c with box:=w} I0 qb x.2 qp) pre rfl (fun v h=>⟨by rw[a,h.1];rfl,h.2⟩) ?_;rintro v A ⟨C,e,rfl,rfl⟩;refine x6 ?_;have k:=D6 e x7;rw[e,jq,wO] at a;refine x6 ?_;refine P8 129 5 ?_;refine A5 ?_;refine n7 (nI b s hs 279 [i8 m] Gl (isC {R8 c with box:=w}) (BH I0) (UK m b) (fun i p=>i.1.length<=p) (MC jK s) (fun _ p=>dj jK s p=none) (BI nK) (fun _ _ h=>by omega) (Ed b m s _ _ hs) ([],none,0) C (zp _) k.2.2) pre rfl (fun v h=>⟨by rw[a,sE (dz nK s) k.2.2 h.1];rfl,h.2⟩) ?_;rintro v A ⟨n,i,D,f,o,rfl,rfl⟩;obtain⟨l,g,j,J⟩:=sD (dz nK s) k.2.2 f o;rw[pL,Qv] at j;rw[J,jq] at a;obtain⟨q,r⟩:∃q,q=decide (n<=8):=⟨_,rfl⟩;refine f_ ((H4 rfl rfl).eq (v':=.bool q) (qn ((qz).trans r.symm))) ?_;refine n7 (H9 q) qw rfl (fun v h=>⟨by rw[a,zb (by rw[g];exact zu (r.symm.trans h.1))];rfl,h.2⟩) ?_;rintro v A ⟨t,rfl,rfl⟩;refine x6 ?_;rw[zr (by rw[g];exact zy (r.symm.trans t))] at a;have M:=nJ (dz nK s) k.2.2 f;refine u6 ?_;refine n7 (E4 b s [41] D (isC {R8 c with box:=w} i) (BH I0 i) qb M.2 qp) pre rfl (fun v h=>⟨by rw[a,h.1];rfl,h.2⟩) ?_;rintro v A ⟨O,u,rfl,rfl⟩;refine x6 ?_;rw[u,<-j] at a;exact m6 rfl (I5 b s O (isC {R8 c with box:=w} i) (BH I0 i)::[ce i.2.1 i.1 i.2.2]) ⟨_,_,_,a,rfl,rfl,bG (.inl rfl) (.inr (.head _)) rfl (.inl rfl)⟩ fun w Q=>y9.left tk Q
def Ef(b:Nat)(s:Bs)(hs:s.length<=1000000000):sG 218 b s (fun c p=>dm c s p fun c e=>L5 c s e):=fun c p hp=>by
 refine C2 12 func218 rfl rfl rfl ?_;intro F hg;obtain⟨W,a⟩:=o9 (dm (R8 c) s p fun c e=>L5 c s e);simp only;rw[<-a];unfold dm at a;refine u6 ?_;refine n7 (E4 b s [32] p (R8 c) I0 qb hp qp) pre rfl (fun v h=>⟨by rw[a,h.1];rfl,h.2⟩) ?_;rintro v A ⟨n,g,rfl,rfl⟩;refine x6 ?_;have l:=D6 g x7;rw[g,jq] at a;refine A5 ?_;refine n7 (kJ b s n (R8 c) I0 hs l.2.2) pre rfl (fun v h=>⟨by rw[a,h.1];rfl,h.2⟩) ?_;rintro v A ⟨f,j,k,i,rfl,rfl⟩;refine P1 ?_;have o:=kI l.2.2 i;rw[i,jq] at a;simp only at a;refine u6 ?_;refine n7 (eB b s hs {R8 c with set:=f.1} {I0 with sa:=j,sc:=k} f.2 o.2.1) pre rfl (fun v h=>⟨by rw[a];exact h.1,h.2⟩) ?_;rintro v A ⟨q,d,rfl,rfl⟩;refine x6 ?_;replace d:L5 {R8 c with set:=f.1} s f.2=some q:=d;obtain⟨w,m,rfl⟩:=cI d;exact m6 rfl (I5 b s m {R8 c with set:=f.1,box:=w} {I0 with sa:=j,sc:=k}::[X1 j f.1 k]) ⟨({R8 c with set:=f.1,box:=w},m),_,_,a.trans d,rfl,rfl,bG (.inr (.head _)) (.inl rfl) rfl (.inl rfl)⟩ fun w r=>y9.left tk r
def fe{s w:Bs}{p:Nat}(hp:p<=s.length):I1 s w p<=s.length:=(gL hp).2
def pM{c:CM}{s:Bs}{p:Nat}{r:CM×Nat}(hp:p<=s.length)(h:(dH s p).map (fun q=>({c with a6D:=q.1,a6C:=true},q.2))=some r):∃n e,dH s p=some (n,e)/\r=({c with a6D:=n,a6C:=true},e)/\e<=s.length:=by
 obtain⟨q,a,b⟩:=jx.1 h;refine⟨q.1,q.2,a,b.symm,?_⟩;unfold dH at a;obtain⟨t,i,d⟩:=kj.1 a;obtain⟨e,f,g⟩:=jx.1 d;have:=D6 f x7;subst g;exact this.2.2
def Hz(b:Nat)(s:Bs)(hs:s.length<=1000000000):sG 217 b s (fun c p=>dm c s p (aW s fun c e=>oQ c s e)):=fun c p hp=>by
 refine C2 48 func217 rfl rfl rfl ?_;intro F hg;obtain⟨W,a⟩:=o9 (dm (R8 c) s p (aW s fun c e=>oQ c s e));simp only;rw[<-a];unfold dm at a;refine u6 ?_;refine n7 (E4 b s [32] p (R8 c) I0 qb hp qp) pre rfl (fun v h=>⟨by rw[a,h.1];rfl,h.2⟩) ?_;rintro v A ⟨e1,C,rfl,rfl⟩;refine x6 ?_;have b1:=D6 C x7;rw[C,jq] at a;refine A5 ?_;refine n7 (kJ b s e1 (R8 c) I0 hs b1.2.2) pre rfl (fun v h=>⟨by rw[a,h.1];rfl,h.2⟩) ?_;rintro v A ⟨d,g,j,D,rfl,rfl⟩;refine P1 ?_;have b2:=kI b1.2.2 D;rw[D,jq] at a;unfold aW at a;simp only at a;obtain⟨x,hx⟩:∃x:CL,x={I0 with sa:=g,sc:=j}:=⟨_,rfl⟩;refine u6 ?_;refine n7 (E4 b s [32] d.2 {R8 c with set:=d.1} {I0 with sa:=g,sc:=j} qb b2.2.1 qp) pre rfl (fun v h=>⟨by rw[a,h.1];rfl,h.2⟩) ?_;rintro v A ⟨u,J,rfl,rfl⟩;refine x6 ?_;have V:=D6 J x7;rw[J,jq] at a;unfold oQ PG at a;refine u6 ?_;refine e_ (T9 b s we u {R8 c with set:=d.1} {I0 with sa:=g,sc:=j} qb V.2.2 qp) pre ?_;rintro v A ⟨rfl,rfl⟩;refine x6 ?_
 -- since
 refine n8 (ι:=CM×Nat) (fun i=>i.2<=s.length/\(∃n h,i.1={R8 c with set:=d.1,a6D:=n,a6C:=h})/\W=(I7 s yy (wh s i.2).2).bind fun e=>(I7 s [32] (Dt s e).2).bind fun e2=>(oN s e2).map fun f=>({i.1 with how:=(wh s i.2).1,a6H:=(Dt s e).1,a6J:=f.1},f.2)) (fun i=>[(0,i8 b)]) (fun i=>I5 b s i.2 i.1 {I0 with sa:=g,sc:=j}::[X1 g d.1 j]) ?_ ?_
 ·refine p7 rfl ?_ ?_<;>intro h
  ·rw[zr h] at a;have o:=fe (w:=we) V.2.2;rw[show I1 s we u=u+16 from by unfold I1;rw[h];rfl] at o⊢;refine u6 ?_;refine n7 (wN b s hs {R8 c with set:=d.1} {I0 with sa:=g,sc:=j} (u+16) o) pre rfl (fun v h=>⟨by rw[a,Option.map_eq_none_iff.1 h.1];rfl,h.2⟩) ?_;rintro v A ⟨r4,X,rfl,rfl⟩;refine x6 ?_;obtain⟨l,k,Y,rfl,r⟩:=pM o X;rw[Y,jq] at a;simp only at a r;refine u6 ?_;refine n7 (E4 b s [32] k {R8 c with set:=d.1,a6D:=l,a6C:=true} {I0 with sa:=g,sc:=j} qb r qp) pre rfl (fun v h=>⟨by rw[a,h.1];rfl,h.2⟩) ?_;rintro v A ⟨Z,M,rfl,rfl⟩;refine x6 ?_;have y:=D6 M x7;rw[M,Qh,jq] at a;exact g_ ({R8 c with set:=d.1,a6D:=l,a6C:=true},Z) ⟨y.2.2,⟨l,true,rfl⟩,a⟩ (fun w m=>y9.left tk m)
  ·rw[zb (by simp[h]),jq] at a;rw[show I1 s we u=u from by unfold I1;rw[h];rfl];refine x6 ?_;exact g_ ({R8 c with set:=d.1},u) ⟨V.2.2,⟨_,_,rfl⟩,a⟩ (fun w m=>y9.left tk m)
 rintro⟨c4,k⟩ ⟨o,⟨l,t,rfl⟩,a⟩;simp only at o a
 -- plus or minus
 refine I6 0 ?_;refine n8 (ι:=Nat×Nat) (fun i=>i=wh s k/\i.2<=s.length) (fun i=>[(0,i8 b)]) (fun i=>I5 b s i.2 {R8 c with set:=d.1,a6D:=l,a6C:=t,how:=i.1} {I0 with sa:=g,sc:=j}::[X1 g d.1 j]) ?_ ?_
 ·refine u6 ?_;refine e_ (T9 b s [43] k {R8 c with set:=d.1,a6D:=l,a6C:=t} {I0 with sa:=g,sc:=j} qb o qp) pre ?_;rintro v A ⟨rfl,rfl⟩;refine u6 ?_;have r:=fe (w:=[43]) o;refine p7 rfl ?_ ?_<;>intro h
  ·rw[show I1 s [43] k=k+1 from by unfold I1;rw[h];rfl] at r⊢;refine al ?_;exact g_ (1,k+1) ⟨by unfold wh;rw[zr h],r⟩ (fun w m=>y9.left tk m)
  ·rw[show I1 s [43] k=k from by unfold I1;rw[h];rfl];refine u6 ?_;refine e_ (T9 b s [45] k {R8 c with set:=d.1,a6D:=l,a6C:=t} {I0 with sa:=g,sc:=j} qb o qp) pre ?_;rintro v A ⟨rfl,rfl⟩;refine u6 ?_;have y:=fe (w:=[45]) o;refine p7 rfl ?_ ?_<;>intro U
   ·rw[show I1 s [45] k=k+1 from by unfold I1;rw[U];rfl] at y⊢;refine al ?_;exact g_ (2,k+1) ⟨by unfold wh;rw[zb (by rw[h];simp),zr U],y⟩ (fun w m=>y9.left tk m)
   ·rw[show I1 s [45] k=k from by unfold I1;rw[U];rfl];refine x6 ?_;exact g_ (0,k) ⟨by unfold wh;rw[zb (by rw[h];simp),zb (by rw[U];simp)],o⟩ (fun w m=>y9.left tk m)
 rintro⟨O,Z⟩ ⟨h0,r⟩;rw[<-h0] at a;simp only at r a;refine u6 ?_;refine n7 (E4 b s yy Z {R8 c with set:=d.1,a6D:=l,a6C:=t,how:=O} {I0 with sa:=g,sc:=j} qb r qp) pre rfl (fun v h=>⟨by rw[a,h.1];rfl,h.2⟩) ?_;rintro v A ⟨z,Q,rfl,rfl⟩;refine x6 ?_;have y:=D6 Q x7;rw[Q,jq] at a;refine A5 ?_;refine e_ (T9 b s dl z {R8 c with set:=d.1,a6D:=l,a6C:=t,how:=O} {I0 with sa:=g,sc:=j} qb y.2.2 qp) pre ?_;rintro v A ⟨rfl,rfl⟩;refine P1 ?_;have S:Dt s z=(I9 s dl z,I1 s dl z):=by
  unfold Dt I1
  cases I9 s dl z<;>rfl
 have b7:=fe (w:=dl) y.2.2;rw[S] at a;obtain⟨e7,h1⟩:=o9 (I1 s dl z);obtain⟨q,hq⟩:=o9 (I9 s dl z);rw[<-h1] at a b7⊢;rw[<-hq] at a⊢;simp only at a;refine u6 ?_;refine n7 (E4 b s [32] e7 {R8 c with set:=d.1,a6D:=l,a6C:=t,how:=O,a6H:=q} {I0 with sa:=g,sc:=j} qb b7 qp) pre rfl (fun v h=>⟨by rw[a,h.1];rfl,h.2⟩) ?_;rintro v A ⟨e8,T,rfl,rfl⟩;refine x6 ?_;have b8:=D6 T x7;rw[T,jq] at a;refine A5 ?_;refine n7 (sB b s e8 {R8 c with set:=d.1,a6D:=l,a6C:=t,how:=O,a6H:=q} {I0 with sa:=g,sc:=j} hs b8.2.2) pre rfl (fun v h=>⟨by rw[a,h.1];rfl,h.2⟩) ?_;rintro v A ⟨r9,a9,d9,h3,rfl,rfl⟩;refine P1 ?_;rw[h3,Qh] at a;exact m6 rfl (I5 b s r9.2 {R8 c with set:=d.1,a6D:=l,a6C:=t,how:=O,a6H:=q,a6J:=r9.1} {I0 with sa:=g,sc:=j,fa:=a9,fc:=d9}::[X1 g d.1 j,B0 a9 r9.1 d9]) ⟨_,_,_,a,rfl,rfl,bG (.inr (.head _)) (.inl rfl) rfl (.inr (.tail _ (.head _)))⟩ fun w m=>y9.left tk m
def Tv(s:Bs)(p:Nat):([40]:Bs).isPrefixOf (s.drop p)=I9 s [40] p:=PY (c:=40) qp
def Eg(b:Nat)(s:Bs)(hs:s.length<=1000000000):sG 214 b s (fun c p=>jN c s p):=fun c p hp=>by
 refine C2 23 func214 rfl rfl rfl ?_;intro F hg;obtain⟨W,a⟩:=o9 (jN (R8 c) s p);simp only;rw[<-a];unfold jN at a;refine u6 ?_;refine n7 (eB b s hs (R8 c) I0 p hp) pre rfl (fun v h=>⟨by rw[a,show L5 (R8 c) s p=none from h.1];rfl,h.2⟩) ?_;rintro v A ⟨y,d,rfl,rfl⟩;refine x6 ?_;replace d:L5 (R8 c) s p=some y:=d;have x:=lI hp d;obtain⟨w,z,rfl⟩:=cI d;rw[d,jq] at a;simp only at a x;refine u6 ?_;refine n7 (E4 b s [32] z {R8 c with box:=w} I0 qb x.2 qp) pre rfl (fun v h=>⟨by rw[a,h.1];rfl,h.2⟩) ?_;rintro v A ⟨l,f,rfl,rfl⟩;refine x6 ?_;have m:=D6 f x7;rw[f,jq] at a;refine u6 ?_;refine e_ (bd b s l {R8 c with box:=w} I0 qb m.2.2) pre ?_;rintro v A ⟨rfl,rfl⟩;refine c_ rfl (au (s.drop l) [40]) qw rfl ?_;rw[Tv];refine x6 ?_;refine n8 (ι:=(List Bs×qr×Nat)×Nat) (fun i=>i.2<=s.length/\W=(mS s i.2).map fun r=>({R8 c with box:=w,a6J:=i.1.1,data:=r.1},r.2)) (fun i=>[(0,i8 b)]) (fun i=>[I5 b s i.2 {R8 c with box:=w,a6J:=i.1.1} {I0 with fa:=i.1.2.1,fc:=i.1.2.2},B0 i.1.2.1 i.1.1 i.1.2.2]) ?_ ?_
 ·refine p7 rfl ?_ ?_<;>intro h
  ·rw[zr h] at a;refine A5 ?_;refine n7 (sB b s l {R8 c with box:=w} I0 hs m.2.2) pre rfl (fun v h=>⟨by rw[a,h.1];rfl,h.2⟩) ?_;rintro v A ⟨o,a3,e,g,rfl,rfl⟩;refine P1 ?_;have C:=Mx m.2.2 g;rw[g,jq] at a;refine u6 ?_;refine n7 (E4 b s [32] o.2 {R8 c with box:=w,a6J:=o.1} {I0 with fa:=a3,fc:=e} qb C.2.1 qp) pre rfl (fun v h=>⟨by rw[a,h.1];rfl,h.2⟩) ?_;rintro v A ⟨q,j,rfl,rfl⟩;refine x6 ?_;have n:=D6 j x7;rw[j,jq] at a;exact g_ ((o.1,a3,e),q) ⟨n.2.2,a⟩ (fun w k=>y9.left tk k)
  ·rw[zb (by rw[h];simp)] at a;refine x6 ?_;exact g_ (([],none,0),l) ⟨m.2.2,a⟩ (fun w k=>(k.addNil 9 1).perm (.swap _ _ _))
 rintro⟨⟨t,a3,e⟩,q⟩ ⟨n,a⟩;simp only at n a;refine A5 ?_;refine n7 (mB b s q {R8 c with box:=w,a6J:=t} {I0 with fa:=a3,fc:=e} qb n) pre rfl (fun v h=>⟨by rw[a,h.1];rfl,h.2⟩) ?_;rintro v A ⟨r5,u,rfl,rfl⟩;refine P1 ?_;rw[u,Qh] at a;exact m6 rfl (I5 b s r5.2 {R8 c with box:=w,a6J:=t,data:=r5.1} {I0 with fa:=a3,fc:=e}::[B0 a3 t e]) ⟨_,_,_,a,rfl,rfl,bG (.inl rfl) (.inl rfl) rfl (.inr (.head _))⟩ fun w k=>y9.left tk k
def eC:∀x∈cU,x.1≠[]/\x.1.length<=100/\x.2.1<=100:=zi qp
abbrev HB(w:Bs)(q:Bool):List NW:=[(w++[91,93],10,q),(w++[91,72,69,65,68,69,82,93],11,q),(w++[91,84,69,88,84,93],12,q)]
def rB:Ct prog 287 [] (fun _=>True) [] (fun v A=>∃a c,v=.slice a 10 c/\A=[.own (.slice a 10 c) 371 6 (Ea cU)]):=by
 refine b_ 41 func287 rfl rfl rfl ?_;intro F _;refine wk 9 ?_;refine y6 rfl rfl rfl rfl rfl rfl (xs:=Ea (cU.take 4)) rfl rfl ?_;rintro z ⟨n,rfl⟩;refine yu ?_;refine y6 rfl rfl rfl rfl rfl rfl (xs:=[.bool false,.bool true]) rfl rfl ?_;rintro D ⟨b,rfl⟩;refine A5 ?_;refine o8 (ι:=Nat×qr×Nat×List As) (fun i=>i.1<=2) (fun i=>[(1,.slice i.2.1 (cU.take (4+3*i.1)).length i.2.2.1),(14,.slice (some b) 2 2),(15,.int .i64 2),(16,r7 i.1)]) (fun i=>.own (.slice i.2.1 (cU.take (4+3*i.1)).length i.2.2.1) 371 6 (Ea (cU.take (4+3*i.1)))::.own (.slice (some b) 2 2) 4 1 [.bool false,.bool true]::i.2.2.2) (fun i=>2-i.1) (0,some n,4,[]) x7 sub (fun w f=>y9.left tk f) ?_;rintro⟨j,a,c,Z⟩ J;simp only at J;refine T2 ?_ ?_<;>intro h
 ·have d:j<2:=by have:=zy h;omega
  obtain⟨q,o⟩:=o9 (α:=Bool) (decide (j=1));have p:j<([Value.bool false,Value.bool true]:zq).length:=d;have M:([Value.bool false,Value.bool true]:zq)[j]=.bool q:=by
   rcases jd.1 d with O|rfl
   ·obtain rfl:j=0:=(by omega);rw[o];rfl
   ·rw[o];rfl
  obtain⟨W,e⟩:=o9 (α:=Bs) (if q then[66,79,68,89,46,80,69,69,75] else[66,79,68,89]);have g:cU.take (4+3*j)++HB W q=cU.take (4+3*(j+1)):=by
   rcases jd.1 d with O|rfl
   ·obtain rfl:j=0:=(by omega);rw[e,o];rfl
   ·rw[e,o];rfl
  have u:(cU.take (4+3*j)).length<=10:=by
   rw[kr];exact j9 (Nat.min_le_right _ _) qp
  refine D1 ?_;refine f_ (n5 rfl ⟨b,rfl⟩ rfl qb) ?_;refine r_ (l5 rfl (fun w f=>cT (C:=fun v:Value=>[v]) (l:=[.bool false,.bool true]) (i:=j) (j:=0) (v:=.bool q) (f.ownN (t:=4) (a:=some b) ud).2.2.1 (fun _=>rfl) p (jh some M) x7)) ?_;refine E8 ?_;refine x8 [(1,.slice a (cU.take (4+3*j)).length c),(3,.bool q),(4,B W),(14,.slice (some b) 2 2),(15,.int .i64 2),(16,r7 j)] (.own (.slice a (cU.take (4+3*j)).length c) 371 6 (Ea (cU.take (4+3*j)))::.own (.slice (some b) 2 2) 4 1 [.bool false,.bool true]::Z) ?_ ?_
  ·refine p7 rfl ?_ ?_<;>intro x
   ·refine u6 ?_;rw[x] at e⊢;rw[e];exact p_ sub i_
   ·refine x6 ?_;rw[x] at e⊢;rw[e];exact p_ sub i_
  have k:W.length<=9:=by rw[e];cases q<;>decide
  clear e;refine A5 ?_;refine f_ (H_ rfl rfl (by have:=k;simp only[z1,kx];omega)) ?_;refine u6 ?_;refine f_ ((A2 rfl (by rfl)).eq (v':=.agg (co ⟨10,q,false,0,0⟩).toArray) rfl) ?_;refine f_ ((A2 rfl (by rfl)).eq (v':=.agg (DZ (W++[91,93],10,q)).toArray) rfl) ?_;refine u6 ?_;refine f_ (H_ rfl rfl (by have:=k;simp only[z1,kx];omega)) ?_;refine u6 ?_;refine f_ ((A2 rfl (by rfl)).eq (v':=.agg (co ⟨11,q,false,0,0⟩).toArray) rfl) ?_;refine f_ ((A2 rfl (by rfl)).eq (v':=.agg (DZ (W++[91,72,69,65,68,69,82,93],11,q)).toArray) rfl) ?_;refine u6 ?_;refine f_ (H_ rfl rfl (by have:=k;simp only[z1,kx];omega)) ?_;refine u6 ?_;refine f_ ((A2 rfl (by rfl)).eq (v':=.agg (co ⟨12,q,false,0,0⟩).toArray) rfl) ?_;refine f_ ((A2 rfl (by rfl)).eq (v':=.agg (DZ (W++[91,84,69,88,84,93],12,q)).toArray) rfl) ?_;refine y6 (vs:=[(0,.agg (DZ (W++[91,93],10,q)).toArray),(1,.agg (DZ (W++[91,72,69,65,68,69,82,93],11,q)).toArray),(2,.agg (DZ (W++[91,84,69,88,84,93],12,q)).toArray)]) rfl rfl rfl rfl rfl rfl (xs:=Ea (HB W q)) rfl rfl ?_;rintro a37 ⟨y,rfl⟩;refine u7 DZ (l:=cU.take (4+3*j)) (m:=HB W q) uA MA (by show((cU.take (4+3*j)).length+3)*48<=_;omega) ?_;intro r s _;refine u6 ?_;rw[g];refine D1 ?_;refine f_ ((r8 rfl rfl qb).eq (v':=.int .i64 ((j+1:Nat):Int)) (by congr 1)) ?_;refine u6 ?_;exact l8 (j+1,r,s,_::Z) qg qg sub (fun w f=>(tk (C:=[_,_,_])).hp f)
 ·have d:j=2:=by have:=zu h;omega
  subst d;refine M4 ?_;exact d_ rfl rfl [.own (.slice a 10 c) 371 6 (Ea cU)] ⟨a,c,rfl,rfl⟩ (fun w f=>y9.left tk f)
def wP(b g:Nat)(s:Bs)(c:CM)(x:CL)(hs:s.length<=1000000000):ItK 286 cU b g s c x:=fun i p n hp=>by
 refine C2 4 func286 rfl rfl rfl ?_;intro F hg;refine x6 ?_;refine D8 [0] [1,2] [pB g b] 3 ?_;refine wd [0] ?_;refine h_ 1 rfl i6 ?_;refine e_ rB qw ?_;rintro v A ⟨a,d,rfl,rfl⟩;refine V2 ?_;refine h_ 2 rfl i6 ?_;refine n7 (Rr:=[.own (.slice a 10 d) 371 6 (Ea cU),pB g b]) (BG b s p (isC c i) (BH x i) cU a d hs hp eC qp qg) (fun h e ⟨o,f⟩=>⟨hg.le e,A_.rd f .del⟩) rfl (fun v h=>h) ?_;rintro v A ⟨r,j,k,l,rfl,rfl⟩;refine D7 [] ?_;exact m6 rfl _ ⟨(i.1++[r.1],j,k),r.2,⟨r,l,rfl,rfl⟩,rfl,rfl⟩ fun w m=>y9.left tk m
def HC{c:CM}{s:Bs}{p:Nat}(h:I9 s rU p=true)(a:(dH s (p+15)).map (fun q=>({c with a6D:=q.1,a6C:=true},q.2))=none):wg c s p=none:=by unfold wg;rw[zr h];exact a
def HD(b:Nat)(s:Bs)(hs:s.length<=1000000000):sG 216 b s (fun c p=>dm c s p (aW s fun c e=>oP c s e)):=fun c p hp=>by
 refine C2 29 func216 rfl rfl rfl ?_;intro F hg;obtain⟨W,a⟩:=o9 (dm (R8 c) s p (aW s fun c e=>oP c s e));simp only;rw[<-a];unfold dm at a;refine u6 ?_;intro m;refine u6 ?_;refine n7 (E4 b s [32] p (R8 c) I0 qb hp qp) pre rfl (fun v h=>⟨by rw[a,h.1];rfl,h.2⟩) ?_;rintro v A ⟨e1,u,rfl,rfl⟩;refine x6 ?_;have b1:=D6 u x7;rw[u,jq] at a;refine x6 ?_;refine D8 [0,1] [2,6] [pB m b] 7 ?_;refine wd [0,1] ?_;refine h_ 2 rfl i6 ?_;refine n7 (kJ b s e1 (R8 c) I0 hs b1.2.2) pre rfl (fun v h=>⟨by rw[a,h.1];rfl,h.2⟩) ?_;rintro v A ⟨d,f,g,x,rfl,rfl⟩;refine fy [3,4,5,6] ?_;have b2:=kI b1.2.2 x;rw[x,jq] at a;unfold aW at a;simp only at a;refine u6 ?_;refine n7 (E4 b s [32] d.2 {R8 c with set:=d.1} {I0 with sa:=f,sc:=g} qb b2.2.1 qp) pre rfl (fun v h=>⟨by rw[a,h.1];rfl,h.2⟩) ?_;rintro v A ⟨o,y,rfl,rfl⟩;refine x6 ?_;have T:=D6 y x7;rw[y,jq] at a;unfold oP at a;refine E8 ?_;refine e_ (T9 b s [40] o {R8 c with set:=d.1} {I0 with sa:=f,sc:=g} qb T.2.2 qp) pre ?_;rintro v A ⟨rfl,rfl⟩;refine x6 ?_;refine P8 129 5 ?_;refine n8 (ι:=IS×Nat) (fun i=>i.2<=s.length/\W=wg {R8 c with set:=d.1,a6B:=i.1.1} s i.2) (fun i=>[(1,i8 m)]) (fun i=>I5 b s i.2 (isC {R8 c with set:=d.1} i.1) (BH {I0 with sa:=f,sc:=g} i.1)::ce i.1.2.1 i.1.1 i.1.2.2::[pB m b,X1 f d.1 g]) ?_ ?_
 ·refine p7 rfl ?_ ?_<;>intro h
  ·rw[zr h,wO] at a;have z:=fe (w:=[40]) T.2.2;rw[show I1 s [40] o=o+1 from by unfold I1;rw[h];rfl] at z⊢;refine A5 ?_;refine n7 (nI b s hs 286 [i8 m] Gl (isC {R8 c with set:=d.1}) (BH {I0 with sa:=f,sc:=g}) (UK m b) (fun i p=>i.1.length<=p) (MC cU s) (fun _ p=>dj cU s p=none) (BI eC) (fun _ _ h=>by omega) (wP b m s _ _ hs) ([],none,0) (o+1) (zp _) z) pre rfl (fun v h=>⟨by rw[a,sE (dz eC s) z h.1];rfl,h.2⟩) ?_;rintro v A ⟨n,i,p3,D,U,rfl,rfl⟩;obtain⟨l,J,M,hm⟩:=sD (dz eC s) z D U;rw[pL,Qv] at M;rw[hm,jq] at a;obtain⟨q,V⟩:∃q,q=decide (n<=8):=⟨_,rfl⟩;refine f_ ((H4 rfl rfl).eq (v':=.bool q) (qn ((qz).trans V.symm))) ?_;refine n7 (H9 q) qw rfl (fun v h=>⟨by rw[a,zb (by rw[J];exact zu (V.symm.trans h.1))];rfl,h.2⟩) ?_;rintro v A ⟨X,rfl,rfl⟩;refine x6 ?_;rw[zr (by rw[J];exact zy (V.symm.trans X))] at a;have r:=nJ (dz eC s) z D;refine u6 ?_;refine n7 (E4 b s [41] p3 (isC {R8 c with set:=d.1} i) (BH {I0 with sa:=f,sc:=g} i) qb r.2 qp) pre rfl (fun v h=>⟨by rw[a,h.1];rfl,h.2⟩) ?_;rintro v A ⟨e4,O,rfl,rfl⟩;refine x6 ?_;have Q:=D6 O x7;rw[O,<-M] at a;exact g_ (i,e4) ⟨Q.2.2,a⟩ (fun w j=>y9.left tk j)
  ·rw[zb (by rw[h];simp)] at a;rw[show I1 s [40] o=o from by unfold I1;rw[h];rfl];refine u6 ?_;refine lj (ps:=[]) [X1 f d.1 g] rfl rfl rfl (wP b m s {R8 c with set:=d.1} {I0 with sa:=f,sc:=g} hs ([],none,0) o (zp _) T.2.2) (fun w j=>(tk (C:=[_,_,_])).hp j) pre rfl rfl (l9.le_refl _) (fun v h=>⟨by rw[a,h.1];rfl,h.2⟩) ?_;rintro v A ⟨i,p3,S,rfl,rfl⟩;refine x6 ?_;obtain⟨q,h1,h2,rfl⟩:=S;rw[h1,Qh,jq] at a;have r:=dz eC s _ _ T.2.2 h1;exact g_ (i,q.2) ⟨r.2,by rw[show i.1=[q.1] from h2];exact a⟩ (fun w j=>y9.left tk j)
 rintro⟨i,t⟩ ⟨r,a⟩;simp only at r a;refine u6 ?_;refine e_ (T9 b s rU t (isC {R8 c with set:=d.1} i) (BH {I0 with sa:=f,sc:=g} i) qb r qp) pre ?_;rintro v A ⟨rfl,rfl⟩;refine O_ ?_ ?_<;>intro h
 ·have Q:=fe (w:=rU) r;rw[show I1 s rU t=t+15 from by unfold I1;rw[h];rfl] at Q⊢;refine u6 ?_;refine n7 (wN b s hs (isC {R8 c with set:=d.1} i) (BH {I0 with sa:=f,sc:=g} i) (t+15) Q) pre rfl (fun v k=>⟨by rw[a];exact HC h k.1,k.2⟩) ?_;rintro v A ⟨r6,Y,rfl,rfl⟩;refine x6 ?_;obtain⟨n6,e6,Z,rfl,b7⟩:=pM Q Y;exact m6 rfl (I5 b s e6 {isC {R8 c with set:=d.1} i with a6D:=n6,a6C:=true} (BH {I0 with sa:=f,sc:=g} i)::[ce i.2.1 i.1 i.2.2,X1 f d.1 g]) ⟨_,_,_,by rw[a];unfold wg;rw[zr h,Z];rfl,rfl,rfl,bG (.inr (.tail _ (.head _))) (.inr (.head _)) rfl (.inl rfl)⟩ fun w j=>y9.left tk j
 ·rw[show I1 s rU t=t from by unfold I1;rw[h];rfl];refine x6 ?_;exact m6 rfl (I5 b s t (isC {R8 c with set:=d.1} i) (BH {I0 with sa:=f,sc:=g} i)::[ce i.2.1 i.1 i.2.2,X1 f d.1 g]) ⟨_,_,_,by rw[a];unfold wg;rw[zb (by rw[h];simp)],rfl,rfl,bG (.inr (.tail _ (.head _))) (.inr (.head _)) rfl (.inl rfl)⟩ fun w j=>y9.left tk j
structure KA where
 l:List KM
 a:qr
 c:Nat
abbrev KA.own(y:KA):As:=a2f y.a y.l y.c
structure KT where
 y:KA
 D:List KA
 S:List As
abbrev pN(c:CM)(t:KT):CM:={c with keys:=t.y.l.map KM.k}
abbrev nL(x:CL)(t:KT):CL:={x with ka:=t.y.a,kc:=t.y.c}
abbrev wQ(t:KT):List As:=t.y.own::(t.D.map KA.own++t.S)
structure wR(t:KT):Prop where
 len:t.y.l.length<=32
 set:∀m∈t.y.l,Fr m.k
 own:∀m∈t.y.l,m.k.set=[]\/X1 m.a m.k.set m.c∈t.S
def KA.le(x y:KA):Prop:=y.a=x.a/\y.c=x.c/\x.l.length<=y.l.length
inductive nh:List KA->List KA->Prop
 |nil:nh [] []
 |cons {x y:KA} {l m:List KA}:x.le y->nh l m->nh (x::l) (y::m)
def nh.refl:∀l:List KA,nh l l
 |[]=>.nil
 |x::l=>.cons ⟨rfl,rfl,kp _⟩ (nh.refl l)
def nh.trans{a b c:List KA}(h:nh a b)(k:nh b c):nh a c:=by
 induction h generalizing c with
 |nil=>exact k
 |cons h _ ih=>
  cases k with
  |cons k1 k2=>exact .cons ⟨k1.1.trans h.1,k1.2.1.trans h.2.1,j9 h.2.2 k1.2.2⟩ (ih k2)
def nh.split{a b N:List KA}:∀{M:List KA},nh (M++a) b->∃N B,b=N++B/\nh a B
 |[],h=>⟨[],b,rfl,h⟩
 |m::M,h=>by
  cases h with
  |cons h1 h2=>
   obtain⟨N,B,e,k⟩:=nh.split (N:=[]) h2;exact⟨_::N,B,by rw[e];rfl,k⟩
structure cY(t u:KT):Prop where
 len:t.y.l.length<=u.y.l.length
 arr:∃N B,u.y::u.D=N++B/\nh (t.y::t.D) B
 rest:∃T,u.S=T++t.S
def cY.refl(t:KT):cY t t:=⟨kp _,⟨[],_,rfl,nh.refl _⟩,⟨[],rfl⟩⟩
def cY.trans{t u v:KT}(h:cY t u)(k:cY u v):cY t v:=by
 refine⟨j9 h.len k.len,?_,?_⟩
 ·obtain⟨N,B,e,d⟩:=h.arr;obtain⟨f,m,b,a⟩:=k.arr;rw[e] at a;obtain⟨g,i,j,c⟩:=nh.split (N:=[]) a;exact⟨f++g,i,by rw[b,j,ky],d.trans c⟩
 ·obtain⟨T,e⟩:=h.rest;obtain⟨l,b⟩:=k.rest;exact⟨l++T,by rw[b,e,ky]⟩
abbrev RK(b:Nat)(s:Bs)(p:Nat)(c:CM)(x:CL)(n:Nat)(ka:qr)(kc:Nat):As:=.blk b (.cells #[B s,.int .i64 (p:Nat),B c.tag,.int .i64 (c.kind:Nat),.bool c.uid,.bool c.cond,B c.box,B c.user,B c.pass,B c.a6F,.slice x.sa c.set.length x.sc,.slice x.ia c.a6B.length x.ic,.slice ka n kc,.int .i64 (c.how:Nat),.bool c.a6H,.bool c.a6C,.int .u64 (c.a6D:Nat),.slice x.fa c.a6J.length x.fc,B c.data] 211)
def fg(b:Nat)(s:Bs)(p:Nat)(c:CM)(x:CL)(t:KT):I5 b s p (pN c t) (nL x t)=RK b s p c x t.y.l.length t.y.a t.y.c:=by
 unfold I5 RK pN nL;rw[kg]
abbrev Tw(b:Nat)(s:Bs)(p:Nat)(c:CM)(x:CL)(t:KT)(m:KM)(v:Value)(A:List As):Prop:=∃u:KT,v=.int .i64 (t.y.l.length:Nat)/\A=I5 b s p (pN c u) (nL x u)::wQ u/\cY t u/\u.S=t.S/\u.y.l=t.y.l++[m]/\t.y.l.length<32
def fh(b:Nat)(s:Bs)(p:Nat)(c:CM)(x:CL)(t:KT)(m:KM)(hl:t.y.l.length<=32):Cx prog 343 [i8 b,.agg (aX m).toArray] (fun _=>True) (I5 b s p (pN c t) (nL x t)::wQ t) (Tw b s p c x t m) (fun v=>v=O0):=by
 refine C2 32 func343 rfl rfl rfl ?_;intro F _;rw[fg];refine u6 ?_;intro e;refine wk 7 ?_;obtain⟨q,g⟩:∃q,q=decide (t.y.l.length<32):=⟨_,rfl⟩;refine f_ ((F8 rfl rfl).eq (v':=.bool q) (qn ((qz).trans g.symm))) ?_;refine n7 (H9 q) qw rfl (fun v h=>h.2) ?_;rintro v A ⟨f,rfl,rfl⟩;refine x6 ?_;have d:t.y.l.length<32:=zy (g.symm.trans f);have i:(t.y.l++[m]).length=t.y.l.length+1:=by simp
 have j:qV (t.y.l++[m])=qV t.y.l++aX m:=by simp
 by_cases hroom:t.y.l.length+1<=t.y.c
 ·refine x6 ?_;refine D8 [5,6] [7,8,12] [.blk e (.cells (aX m).toArray 127),RK b s p c x t.y.l.length t.y.a t.y.c] 13 ?_;refine wd [0,1,2,3,4,5,6] ?_;refine h_ 7 rfl i6 ?_;refine D2 aX m rfl ?_;rintro k-;refine V2 ?_;refine h_ 8 rfl i6 ?_;refine fH (n:=t.y.l.length) (m:=1) (xs:=qV t.y.l) (news:=aX m) rfl rfl uh (fun w a=>(a.ownN ud).2.2.1) rfl rfl (AU m) hroom rfl ?_;refine D7 [9,10,11,12] ?_;refine Ot ?_;exact d_ rfl rfl _ ⟨⟨⟨t.y.l++[m],t.y.a,t.y.c⟩,t.D,t.S⟩,by congr 1;omega,rfl,⟨by simp,⟨[],_,rfl,.cons ⟨rfl,rfl,by simp⟩ (nh.refl _)⟩,[],rfl⟩,rfl,rfl,d⟩ (fun w a=>by
   rw[fg];show Hp _ _ (RK b s p c x (t.y.l++[m]).length _ _::.own (.slice _ (t.y.l++[m]).length _) _ 6 (qV (t.y.l++[m]))::(t.D.map KA.own++t.S));rw[i,j];exact a.drop.drop)
 ·refine x6 ?_;refine D8 [5,6] [7,8,12] [.blk e (.cells (aX m).toArray 127),RK b s p c x t.y.l.length t.y.a t.y.c] 13 ?_;refine wd [0,1,2,3,4,5,6] ?_;refine h_ 7 rfl i6 ?_;refine D2 aX m rfl ?_;rintro k-;refine V2 ?_;refine h_ 8 rfl i6 ?_;refine fN (n:=t.y.l.length) (m:=1) (xs:=qV t.y.l) (news:=aX m) rfl rfl ud (fun w a=>(a.ownN ud).2.2.1) rfl rfl rfl (by show _*80<=_;omega) qb hroom qb rfl ?_;intro l o r;refine D7 [9,10,11,12] ?_;refine Ot ?_;exact d_ rfl rfl _ ⟨⟨⟨t.y.l++[m],some ⟨l,0,none⟩,o⟩,t.y::t.D,t.S⟩,by congr 1;omega,rfl,⟨by simp,⟨[_],_,rfl,nh.refl _⟩,[],rfl⟩,rfl,rfl,d⟩ (fun w a=>by
   rw[fg];show Hp _ _ (RK b s p c x (t.y.l++[m]).length _ _::.own (.slice _ (t.y.l++[m]).length _) _ 6 (qV (t.y.l++[m]))::t.y.own::(t.D.map KA.own++t.S));rw[i,j];exact((tk (C:=[As.own (.slice k _ _) _ _ _,As.blk e _])).hp a).drop.drop.perm (.swap _ _ _))
def pO(s:Bs)(hs:s.length<=140737488355328)(h:∀c∈s,c.toNat<128):Pu prog 417 [B s] (fun _=>True) (B (s.map Lib.lowerB)):=ei fun w _=>
 Tryz.strings_ToLower_ascii ⟨s.toArray⟩ w hs fun j b a=>h b (Wy a)
def HG(s:Bs)(hs:s.length<=1000000000000):Ct prog 418 [B s] (fun _=>True) [] (fun v A=>A=[]/\∃q:Bool,v=.bool q/\(q=true->∀c∈s,c.toNat<128)):=by
 refine b_ 33 func418 rfl rfl rfl ?_;intro F _;refine P1 ?_;refine o8 (ι:=Nat) (fun i=>i<=s.length/\∀c∈s.take i,c.toNat<128) (fun i=>[(0,B s),(5,r7 s.length),(6,r7 i)]) (fun _=>[]) (fun i=>s.length-i) 0 ⟨zp _,by simp⟩ sub i_ ?_;rintro i ⟨x,hc⟩;refine T2 ?_ ?_<;>intro h
 ·have a:i<s.length:=by have:=zy h;omega
  refine A5 ?_;obtain⟨l,m⟩:=o9 (decide (((s.getD i 0).toNat:Int)<33));obtain⟨j,d⟩:=o9 (decide (((s.getD i 0).toNat:Int)>126));obtain⟨r,n⟩:=o9 (decide (((s.getD i 0).toNat:Int)=58));refine x8 [(0,B s),(5,r7 s.length),(6,r7 i),(24,.bool (l||j||r))] [] ?_ ?_
  ·cases l<;>cases j
   all_goals (
    refine A5 ?_;refine f_ ((B5 rfl rfl qb).eq (v':=U8 (s.getD i 0)) (by simp only[Qy])) ?_;refine f_ ((F8 rfl rfl).eb m) ?_;refine E8 ?_;(first|refine u_ ?_|(refine v_ ?_;refine f_ ((B5 rfl rfl qb).eq (v':=U8 (s.getD i 0)) (by simp only[Qy])) ?_));(first|refine u_ ?_|(refine v_ ?_;refine f_ ((E9 rfl rfl).eb d) ?_));refine P1 ?_;(first|refine u_ ?_|(refine v_ ?_;refine f_ ((B5 rfl rfl qb).eq (v':=U8 (s.getD i 0)) (by simp only[Qy])) ?_));(first|refine u_ ?_|(refine v_ ?_;refine f_ ((q_ rfl rfl).eb n) ?_));refine u6 ?_)
   all_goals exact p_ sub i_
  refine O_ ?_ ?_<;>intro t
  ·refine D0 ?_;exact d_ rfl rfl [] ⟨rfl,_,rfl,fun k=>by cases k⟩ i_
  ·refine A5 ?_;have u:j=false:=(by cases l<;>cases j<;>simp at t⊢);have p:(s.getD i 0).toNat<128:=(by have:=zu (d.symm.trans u);omega);refine l8 (i+1) ⟨a,fun c e=>?_⟩ qb sub i_;rw[List.take_add_one] at e;rcases kw.1 e with f|f
   ·exact hc c f
   ·rw[zd a] at f;simp at f;rw[z8,zd a] at p;rw[f];exact p
 ·have g:∀c∈s,c.toNat<128:=by
   have:=zu h;rw[jm qb] at hc;exact hc
  refine x6 ?_;obtain⟨w,o⟩:=o9 (decide (s=[]));refine n8 (ι:=Bool) (fun _=>True) (fun q=>[(2,.bool q)]) (fun _=>[]) ?_ ?_
  ·cases w
   all_goals (
    refine u6 ?_;refine f_ ((F7 rfl rfl).eq (jh (fun b=>Value.bool (!b)) o.symm)) ?_;refine Y1 ?_)
   all_goals exact g_ _ trivial i_
  rintro q-;refine oK ?_;exact d_ rfl rfl [] ⟨rfl,_,rfl,fun _=>g⟩ i_
def pP{w l:Bs}(h:decide (w=l)=true)(hl:2<=l.length):2<=w.length:=by rw[zy h];exact hl
abbrev a2l(k:KY):Prop:=k.set=[]/\k.text.length<=2000000000/\k.field.length<=2000000000/\k.kids=0
abbrev Tx(b:Nat)(s:Bs)(p:Nat)(c:CM)(x:CL)(v:Value)(A:List As):Prop:=∃(k:KY) (p':Nat),p<=p'/\p'<=s.length/\a2l k/\v=.agg (aX ⟨k,none,0⟩).toArray/\A=[I5 b s p' c x]
def zl{s:Bs}:((E_ s).getD []).length<=32:=by
 cases h:E_ s with
 |none=>simp
 |some f=>exact sA h
def MD(b:Nat)(s:Bs)(w:Bs)(p:Nat)(c:CM)(x:CL)(hs:s.length<=1000000000)(hp:p<=s.length)(d:w.length<=1000000000)(ha:∀c∈w,c.toNat<128):Cx prog 393 [i8 b,B w] Gl [I5 b s p c x] (Tx b s p c x) (fun v=>v=O0):=by
 refine C2 112 func393 rfl rfl rfl ?_;intro F hg;refine u6 ?_;intro f;refine E8 ?_;refine n8 (ι:=Bool) (fun _=>True) (fun q=>[(0,i8 b),(1,B w),(4,i8 f),(13,B w),(14,.bool q)]) (fun _=>[.blk f (.cells (aX ⟨AQ,none,0⟩).toArray 127),I5 b s p c x]) ?_ ?_
 ·refine p7 rfl ?_ ?_<;>intro h
  ·refine x6 ?_;exact g_ _ trivial i_
  refine bQ ?_ ?_<;>intro h
  ·refine x6 ?_;exact g_ _ trivial i_
  refine bQ ?_ ?_<;>intro h
  ·refine x6 ?_;exact g_ _ trivial i_
  refine bQ ?_ ?_<;>intro h
  ·refine x6 ?_;exact g_ _ trivial i_
  refine A5 ?_;exact g_ _ trivial i_
 rintro q-;refine O_ ?_ ?_<;>intro h
 ·refine A5 ?_;refine c_ rfl (eA _ (by show(92::w).length<=_;unfold lD;simp;omega)) qw rfl ?_;refine Y1 ?_;refine f_ ((A2 rfl rfl).eq (v':=.agg (aX ⟨⟨7,0,(E_ (92::w)).getD [],[],1,[]⟩,none,0⟩).toArray) rfl) ?_;refine D0 ?_;exact H7 rfl rfl ud rfl [I5 b s p c x] ⟨_,p,kp _,hp,⟨rfl,by simp,j9 zl qb,rfl⟩,rfl,rfl⟩ (fun w d=>y9.left tk d)
 refine A5 ?_;refine n8 (ι:=Bool) (fun q=>q=true->2<=w.length) (fun q=>[(0,i8 b),(1,B w),(4,i8 f),(13,B w),(28,.bool q)]) (fun _=>[.blk f (.cells (aX ⟨AQ,none,0⟩).toArray 127),I5 b s p c x]) ?_ ?_
 ·refine p7 rfl ?_ ?_<;>intro h
  ·refine x6 ?_;exact g_ _ (fun _=>pP h qp) i_
  refine bQ ?_ ?_<;>intro h
  ·refine x6 ?_;exact g_ _ (fun _=>pP h qp) i_
  refine bQ ?_ ?_<;>intro h
  ·refine x6 ?_;exact g_ _ (fun _=>pP h qp) i_
  refine bQ ?_ ?_<;>intro h
  ·refine x6 ?_;exact g_ _ (fun _=>pP h qp) i_
  refine A5 ?_;exact g_ (decide (w=[85,78,68,82,65,70,84])) (fun k=>pP k qp) i_
 rintro q m;refine O_ ?_ ?_<;>intro h
 ·have Q:=m h;refine u6 ?_;refine f_ ((I2 rfl rfl rfl qb).eq (v':=B (w.drop 2)) (by rw[jm (by rw[jz];omega)];rfl)) ?_;refine u6 ?_;refine c_ rfl (eA _ (by show(92::w.drop 2).length<=_;unfold lD;simp;omega)) qw rfl ?_;refine Y1 ?_;refine f_ ((A2 rfl rfl).eq (v':=.agg (aX ⟨⟨7,0,(E_ (92::w.drop 2)).getD [],[],0,[]⟩,none,0⟩).toArray) rfl) ?_;refine D0 ?_;exact H7 rfl rfl ud rfl [I5 b s p c x] ⟨_,p,kp _,hp,⟨rfl,by simp,j9 zl qb,rfl⟩,rfl,rfl⟩ (fun w d=>y9.left tk d)
 refine u6 ?_;refine n7 (E4 b s [32] p c x qb hp qp) pre rfl (fun v h=>h.2) ?_;rintro v A ⟨g,o,rfl,rfl⟩;refine x6 ?_;have D:=D6 o x7;simp only[Qq] at D;refine E8 ?_;refine n8 (ι:=Bool) (fun _=>True) (fun q=>[(0,i8 b),(1,B w),(4,i8 f),(45,B w),(46,.bool q)]) (fun _=>[.blk f (.cells (aX ⟨AQ,none,0⟩).toArray 127),I5 b s g c x]) ?_ ?_
 ·refine p7 rfl ?_ ?_<;>intro h
  ·refine x6 ?_;exact g_ _ trivial (fun w d=>y9.left tk d)
  refine A5 ?_;exact g_ _ trivial (fun w d=>y9.left tk d)
 rintro q-;refine O_ ?_ ?_<;>intro h
 ·refine u6 ?_;refine n7 (Bu b s g c x qb qb) pre rfl (fun v h=>h.2) ?_;rintro v A ⟨a,e,rfl,rfl⟩;have i:=BF qb e;refine c_ rfl (eA _ (by unfold lD;omega)) qw rfl ?_;refine Y1 ?_;refine n7 (H9 _) qw rfl (fun v h=>h.2) ?_;rintro v A ⟨r,rfl,rfl⟩;refine u6 ?_;refine f_ ((A2 rfl rfl).eq (v':=.agg (aX ⟨⟨7,0,(E_ a.1).getD [],[],0,[]⟩,none,0⟩).toArray) rfl) ?_;refine u6 ?_;intro j;refine E8 ?_;refine n8 (ι:=Nat) (fun _=>True) (fun _=>[(0,i8 b),(1,B w),(4,i8 f),(11,i8 j)]) (fun n=>[.blk j (.cells (aX ⟨⟨7,0,(E_ a.1).getD [],[],n,[]⟩,none,0⟩).toArray 127),.blk f (.cells (aX ⟨AQ,none,0⟩).toArray 127),I5 b s a.2 c x]) ?_ ?_
  ·refine p7 rfl ?_ ?_<;>intro h
   ·refine A5 ?_;exact g_ 1 trivial (fun w d=>y9.left tk d)
   ·refine x6 ?_;exact g_ 0 trivial (fun w d=>y9.left tk d)
  rintro n-;refine D1 ?_;refine r_ ((me rfl ud (by rfl)).eq (v':=.agg (aX ⟨⟨7,0,(E_ a.1).getD [],[],n,[]⟩,none,0⟩).toArray) rfl) ?_;refine D0 ?_;exact H7 rfl rfl ud rfl [I5 b s a.2 c x] ⟨_,a.2,by omega,by omega,⟨rfl,by simp,j9 zl qb,rfl⟩,rfl,rfl⟩ (fun w d=>y9.left tk d)
 refine bQ ?_ ?_<;>intro h
 ·refine u6 ?_;refine n7 (Y7 b s 9223372036854775807 g c x qb qb qp) pre rfl (fun v h=>h.2) ?_;rintro v A ⟨a,e,rfl,rfl⟩;refine f_ ((A2 rfl rfl).eq (v':=.agg (aX ⟨⟨8,0,[],[],a.1,[]⟩,none,0⟩).toArray) rfl) ?_;refine u6 ?_;have i:=cG qb e;refine B4 ?_;exact H7 rfl rfl ud rfl [I5 b s a.2 c x] ⟨_,a.2,by omega,by omega,⟨rfl,by simp,by simp,rfl⟩,rfl,rfl⟩ (fun w d=>y9.left tk d)
 refine bQ ?_ ?_<;>intro h
 ·refine u6 ?_;refine n7 (Y7 b s 9223372036854775807 g c x qb qb qp) pre rfl (fun v h=>h.2) ?_;rintro v A ⟨a,e,rfl,rfl⟩;refine f_ ((A2 rfl rfl).eq (v':=.agg (aX ⟨⟨9,0,[],[],a.1,[]⟩,none,0⟩).toArray) rfl) ?_;refine u6 ?_;have i:=cG qb e;refine B4 ?_;exact H7 rfl rfl ud rfl [I5 b s a.2 c x] ⟨_,a.2,by omega,by omega,⟨rfl,by simp,by simp,rfl⟩,rfl,rfl⟩ (fun w d=>y9.left tk d)
 refine bQ ?_ ?_<;>intro h
 ·refine u6 ?_;refine n7 (Y7 b s 9223372036854775807 g c x qb qb qp) pre rfl (fun v h=>h.2) ?_;rintro v A ⟨a,e,rfl,rfl⟩;refine f_ ((A2 rfl rfl).eq (v':=.agg (aX ⟨⟨10,0,[],[],a.1,[]⟩,none,0⟩).toArray) rfl) ?_;refine u6 ?_;have i:=cG qb e;refine B4 ?_;exact H7 rfl rfl ud rfl [I5 b s a.2 c x] ⟨_,a.2,by omega,by omega,⟨rfl,by simp,by simp,rfl⟩,rfl,rfl⟩ (fun w d=>y9.left tk d)
 refine bQ ?_ ?_<;>intro h
 ·refine u6 ?_;refine n7 (S9 b s g c x qb qb) pre rfl (fun v h=>h.2) ?_;rintro v A ⟨a,e,rfl,rfl⟩;refine f_ ((A2 rfl rfl).eq (v':=.agg (aX ⟨⟨11,0,[],a.1,0,[]⟩,none,0⟩).toArray) rfl) ?_;refine u6 ?_;have i:=dy qb e;refine B4 ?_;exact H7 rfl rfl ud rfl [I5 b s a.2 c x] ⟨_,a.2,by omega,by omega,⟨rfl,by simp only;omega,by simp,rfl⟩,rfl,rfl⟩ (fun w d=>y9.left tk d)
 refine bQ ?_ ?_<;>intro h
 ·refine u6 ?_;refine n7 (S9 b s g c x qb qb) pre rfl (fun v h=>h.2) ?_;rintro v A ⟨a,e,rfl,rfl⟩;refine f_ ((A2 rfl rfl).eq (v':=.agg (aX ⟨⟨12,0,[],a.1,0,[]⟩,none,0⟩).toArray) rfl) ?_;refine u6 ?_;have i:=dy qb e;refine B4 ?_;exact H7 rfl rfl ud rfl [I5 b s a.2 c x] ⟨_,a.2,by omega,by omega,⟨rfl,by simp only;omega,by simp,rfl⟩,rfl,rfl⟩ (fun w d=>y9.left tk d)
 refine A5 ?_;refine n8 (ι:=Bool) (fun _=>True) (fun q=>[(0,i8 b),(1,B w),(4,i8 f),(45,B w),(88,.bool q)]) (fun _=>[.blk f (.cells (aX ⟨AQ,none,0⟩).toArray 127),I5 b s g c x]) ?_ ?_
 ·refine p7 rfl ?_ ?_<;>intro h
  ·refine x6 ?_;exact g_ _ trivial (fun w d=>y9.left tk d)
  refine bQ ?_ ?_<;>intro h
  ·refine x6 ?_;exact g_ _ trivial (fun w d=>y9.left tk d)
  refine A5 ?_;exact g_ _ trivial (fun w d=>y9.left tk d)
 rintro q-;refine O_ ?_ ?_<;>intro h
 ·refine u6 ?_;refine c_ rfl (pO w qb ha) qw rfl ?_;refine u6 ?_;refine n7 (S9 b s g c x qb qb) pre rfl (fun v h=>h.2) ?_;rintro v A ⟨a,e,rfl,rfl⟩;refine f_ ((A2 rfl rfl).eq (v':=.agg (aX ⟨⟨13,0,w.map Lib.lowerB,a.1,0,[]⟩,none,0⟩).toArray) rfl) ?_;refine u6 ?_;have i:=dy qb e;refine B4 ?_;exact H7 rfl rfl ud rfl [I5 b s a.2 c x] ⟨_,a.2,by omega,by omega,⟨rfl,by simp only;omega,by simp only[kg];omega,rfl⟩,rfl,rfl⟩ (fun w d=>y9.left tk d)
 refine A5 ?_;refine n7 (H9 _) qw rfl (fun v h=>h.2) ?_;rintro v A ⟨r,rfl,rfl⟩;refine u6 ?_;refine n7 (S9 b s g c x qb qb) pre rfl (fun v h=>h.2) ?_;rintro v A ⟨a,e,rfl,rfl⟩;refine u6 ?_;have i:=dy qb e;refine u6 ?_;refine e_ (HG a.1 qb) qw ?_;rintro v A ⟨rfl,J,rfl,t⟩;refine n7 (H9 J) qw rfl (fun v h=>h.2) ?_;rintro v A ⟨l,rfl,rfl⟩;refine x6 ?_;have u:=t l;refine u6 ?_;refine n7 (E4 b s [32] a.2 c x qb qb qp) pre rfl (fun v h=>h.2) ?_;rintro v A ⟨M,y,rfl,rfl⟩;refine x6 ?_;have O:=D6 y x7;simp only[Qq] at O;refine u6 ?_;refine c_ rfl (pO a.1 qb u) qw rfl ?_;refine u6 ?_;refine n7 (S9 b s M c x qb qb) pre rfl (fun v h=>h.2) ?_;rintro v A ⟨z,C,rfl,rfl⟩;refine f_ ((A2 rfl rfl).eq (v':=.agg (aX ⟨⟨13,0,a.1.map Lib.lowerB,z.1,0,[]⟩,none,0⟩).toArray) rfl) ?_;refine u6 ?_;have S:=dy qb C;refine B4 ?_;exact H7 rfl rfl ud rfl [I5 b s z.2 c x] ⟨_,z.2,by omega,by omega,⟨rfl,by simp only;omega,by simp only[kg];omega,rfl⟩,rfl,rfl⟩ (fun w d=>y9.left tk d)
abbrev a2m(b:Nat)(s:Bs)(p:Nat)(c:CM)(x:CL)(t:KT)(v:Value)(A:List As):Prop:=∃(u:KT) (p':Nat),p<=p'/\p'<=s.length/\v=.tuple #[]/\A=I5 b s p' (pN c u) (nL x u)::wQ u/\cY t u/\wR u
abbrev rC(f:FuncId)(b:Nat)(s:Bs)(deep:Nat):Prop:=∀(p:Nat) (c:CM) (x:CL) (t:KT),p<=s.length->wR t->Cx prog f [i8 b,.int .i64 (deep:Nat)] Gl (I5 b s p (pN c t) (nL x t)::wQ t) (a2m b s p c x t) (fun v=>v=O0)
def cJ{t u:KT}{m:KM}(h:wR t)(hs:u.S=t.S)(hl:u.y.l=t.y.l++[m])(c:t.y.l.length<32)(d:Fr m.k)(e:m.k.set=[]\/X1 m.a m.k.set m.c∈t.S):wR u:=by
 refine⟨by rw[hl,zg,Qq];omega,fun k b=>?_,fun k b=>?_⟩
 ·rw[hl] at b;rcases kw.1 b with a|a
  ·exact h.set k a
  ·rw[z7.1 a];exact d
 ·rw[hl] at b;rw[hs];rcases kw.1 b with a|a
  ·exact h.own k a
  ·rw[z7.1 a];exact e
def ME:wy 392 eo:=fun c=>by
 obtain⟨a,b⟩:=o9 (decide (65<=(rP c).toNat));obtain⟨f,d⟩:=o9 (decide ((rP c).toNat<=90));have e:eo c=(a&&f):=by rw[b,d];exact zf (p:=eo) (q:=fun c=>decide (65<=(rP c).toNat)&&decide ((rP c).toNat<=90)) (by decide+kernel) c
 rw[e];refine b_ 11 func392 rfl rfl rfl ?_;intro F _;refine u6 ?_
 cases a
 all_goals (
  refine u6 ?_;refine c_ rfl (J_ [c] x7) qw rfl ?_;refine f_ ((lp rfl rfl).eq (qn ((show(!Op.bytesLess [rP c] [65])=decide (65<=(rP c).toNat) from by rw[lE,<-decide_not];congr 1;simp).trans b.symm))) ?_;refine A5 ?_;(first|refine u_ ?_|(refine v_ ?_;refine c_ rfl (J_ [c] x7) qw rfl ?_));(first|refine u_ ?_|(refine v_ ?_;refine f_ ((lq rfl rfl).eq (qn (sf.trans d.symm))) ?_));refine A5 ?_)
 all_goals (refine B4 ?_;exact d_ rfl rfl [] qh i_)
def Eh{s:Bs}{p:Nat}:∀c∈R3 (O6 eo s p),c.toNat<128:=fun c hc=>by
 obtain⟨d,a,rfl⟩:=jr.1 hc;have b:eo d=true:=Q1.1 List.all_takeWhile d a;have:=zf (p:=fun d=>!eo d||decide ((rP d).toNat<128)) (q:=fun _=>true) (by decide+kernel) d;simp only[b,Bool.not_true,Jz] at this;exact zy this
abbrev HH(t:KT)(X:As):KT:={t with S:=X::t.S}
def wS{X Q:As}{t:KT}:(X::Q::wQ t).Perm (Q::wQ (HH t X)):=
 (List.Perm.swap Q X _).trans (.cons _ ((List.Perm.swap _ _ _).trans (.cons _ Qm.symm)))
def wT(t:KT)(X:As):cY t (HH t X):=⟨kp _,⟨[],_,rfl,nh.refl _⟩,[X],rfl⟩
def BJ{t:KT}(h:wR t)(X:As):wR (HH t X):=⟨h.len,h.set,fun m a=>(h.own m a).imp id (fun k=>.tail _ k)⟩
def sH(b g d:Nat)(s:Bs)(a:Nat)(n:a<=100)(f:rC 345 b s (a+1))(p:Nat)(c:CM)(x:CL)(t:KT)(hp:p<=s.length)(i:wR t):Cx prog 344 [i8 g,i8 d] Gl (I5 b s p (pN c t) (nL x t)::(wQ t++[pB g b,.blk d (.cells #[.int .i64 (a:Nat)] 3)])) (fun v A=>∃(u:KT) (p':Nat),p<=p'/\p'<=s.length/\v=.tuple #[]/\A=I5 b s p' (pN c u) (nL x u)::(wQ u++[pB g b,.blk d (.cells #[.int .i64 (a:Nat)] 3)])/\cY t u/\wR u) (fun v=>v=O0):=by
 refine C2 6 func344 rfl rfl rfl ?_;intro F hg;refine C5 (fun w e=>e.perm (jj (l₁:=I5 b s p (pN c t) (nL x t)::wQ t))) ?_;simp only[Zu,Qv];refine A5 ?_;refine f_ ((r8 rfl rfl qb).eq (v':=.int .i64 ((a+1:Nat):Int)) (by congr 1)) ?_;refine y4 [pB g b,.blk d (.cells #[.int .i64 (a:Nat)] 3)] rfl (f p c x t hp i) (fun w e=>e.perm (jj (l₁:=[_,_]))) pre rfl rfl (l9.le_refl _) (fun v h=>h) ?_;rintro v A ⟨u,p',j,k,rfl,rfl,l,m⟩;refine x6 ?_;exact m6 rfl _ ⟨u,p',j,k,rfl,rfl,l,m⟩ fun w e=>e
def wU(b:Nat)(s:Bs)(hs:s.length<=1000000000)(d:Nat)(hd:d<=100)(q1:rC 284 b s d)(hk:d<=8->rC 345 b s (d+1)):rC 345 b s d:=fun p c x t hp i=>by
 refine C2 84 func345 rfl rfl rfl ?_;intro F hg;refine u6 ?_;refine e_ (T9 b s [40] p (pN c t) (nL x t) qb hp qp) pre ?_;rintro v A ⟨rfl,rfl⟩;refine O_ ?_ ?_<;>intro h
 ·have b1:=fe (w:=[40]) hp;rw[show I1 s [40] p=p+1 from by unfold I1;rw[h];rfl] at b1⊢;refine A5 ?_;refine y4 [] rfl (q1 (p+1) c x t b1 i) (fun w e=>by rw[jk];exact e) pre rfl rfl (l9.le_refl _) (fun v h=>h) ?_;rintro v A ⟨u,p',h1,h2,rfl,rfl,Q,S⟩;rw[jk];refine u6 ?_;refine n7 (E4 b s [41] p' (pN c u) (nL x u) qb h2 qp) pre rfl (fun v h=>h.2) ?_;rintro v A ⟨e2,j,rfl,rfl⟩;refine x6 ?_;have O:=D6 j x7;simp only[Qq] at O;refine B4 ?_;exact m6 rfl _ ⟨u,e2,by omega,O.2.2,rfl,rfl,Q,S⟩ fun w e=>e
 ·rw[show I1 s [40] p=p from by unfold I1;rw[h];rfl];refine u6 ?_;refine e_ (bd b s p (pN c t) (nL x t) qb hp) pre ?_;rintro v A ⟨rfl,rfl⟩;refine u6 ?_;refine n8 (ι:=Bool) (fun _=>True) (fun q=>[(0,i8 b),(1,r7 d),(21,.bool q)]) (fun _=>I5 b s p (pN c t) (nL x t)::wQ t) ?_ ?_
  ·obtain⟨z,hz⟩:=o9 (s.drop p);rw[<-hz]
   cases z with
   |nil=>
    refine u6 ?_;refine f_ ((F7 rfl rfl).eq (v':=.bool false) rfl) ?_;refine E8 ?_;(first|refine u_ ?_|(refine v_ ?_;fail));refine u6 ?_;exact g_ _ trivial i_
   |cons a r=>
    refine u6 ?_;refine f_ ((F7 rfl rfl).eq (v':=.bool true) rfl) ?_;refine A5 ?_;(first|refine u_ ?_|(refine v_ ?_;refine f_ ((I2 rfl rfl rfl (by simp;omega)).eq (v':=B [a]) rfl) ?_));(first|refine u_ ?_|(refine v_ ?_;refine c_ rfl (kH _ a) qw rfl ?_));refine u6 ?_;exact g_ _ trivial i_
  rintro q-;refine O_ ?_ ?_<;>intro h
  ·refine A5 ?_;refine n7 (kJ b s p (pN c t) (nL x t) hs hp) pre rfl (fun v h=>h.2) ?_;rintro v A ⟨l,T,U,j,rfl,rfl⟩;refine f_ ((A2 rfl rfl).eq (v':=.agg (aX ⟨⟨5,0,[],[],0,l.1⟩,T,U⟩).toArray) rfl) ?_;refine y4 [] rfl (fh b s l.2 c x (HH t (X1 T l.1 U)) ⟨⟨5,0,[],[],0,l.1⟩,T,U⟩ i.len) (fun w e=>by rw[jk];exact e.perm wS) qw rfl rfl (l9.le_refl _) (fun v h=>h) ?_;rintro v A ⟨u,rfl,rfl,Z,h4,Q,S⟩;rw[jk];refine x6 ?_;have O:=kI hp j;refine B4 ?_;exact m6 rfl _ ⟨u,l.2,by omega,O.2.1,rfl,rfl,(wT t _).trans Z,cJ (BJ i _) h4 Q S ⟨O.2.2,by simp,by simp,by simp⟩ (.inr (.head _))⟩ fun w e=>e
  ·have h0:=cg (q:=eo) hp;have h7:=Eh (s:=s) (p:=p);refine u6 ?_;refine e_ (fd 392 eo ME b s p (pN c t) (nL x t) qb hp) pre ?_;rintro v A ⟨rfl,rfl⟩;refine c_ rfl (J_ _ qb) qw rfl ?_;refine u6 ?_;have h8:(R3 (O6 eo s p)).length<=1000000000:=(by unfold R3;rw[kg];omega);generalize hpw:p+(O6 eo s p).length=pw at h0⊢;generalize R3 (O6 eo s p)=w at h7 h8⊢;refine eV ?_ ?_<;>intro h
   ·refine x6 ?_;obtain⟨q,hq⟩:=o9 (decide (d<=8));refine u6 ?_;refine f_ ((H4 rfl rfl).eq (v':=.bool q) (qn ((qz).trans hq.symm))) ?_;refine n7 (H9 q) qw rfl (fun v h=>h.2) ?_;rintro v A ⟨V,rfl,rfl⟩;refine x6 ?_;have M:=zy (hq.symm.trans V);refine u6 ?_;refine f_ ((A2 rfl rfl).eq (v':=.agg (aX ⟨⟨2,0,[],[],0,[]⟩,none,0⟩).toArray) rfl) ?_;refine y4 [] rfl (fh b s pw c x t ⟨⟨2,0,[],[],0,[]⟩,none,0⟩ i.len) (fun w e=>by rw[jk];exact e) qw rfl rfl (l9.le_refl _) (fun v h=>h) ?_;rintro v A ⟨u,rfl,rfl,m,n,o,y⟩;rw[jk];refine x6 ?_;have ku:=cJ i n o y ⟨by simp,by simp,by simp,by simp⟩ (.inl rfl);refine u6 ?_;refine n7 (E4 b s [32] pw (pN c u) (nL x u) qb qb qp) pre rfl (fun v h=>h.2) ?_;rintro v A ⟨e1,g,rfl,rfl⟩;refine x6 ?_;have f:=D6 g x7;simp only[Qq] at f;refine A5 ?_;refine f_ ((r8 rfl rfl qb).eq (v':=.int .i64 ((d+1:Nat):Int)) (by congr 1)) ?_;refine y4 [] rfl (hk M e1 c x u f.2.2 ku) (fun w e=>by rw[jk];exact e) pre rfl rfl (l9.le_refl _) (fun v h=>h) ?_;rintro v A ⟨u2,Y,h9,C,rfl,rfl,D,X⟩;rw[jk];refine x6 ?_;exact m6 rfl _ ⟨u2,Y,by omega,C,rfl,rfl,m.trans D,X⟩ fun w e=>e
   refine bQ ?_ ?_<;>intro h
   ·refine x6 ?_;obtain⟨q,hq⟩:=o9 (decide (d<=8));refine u6 ?_;refine f_ ((H4 rfl rfl).eq (v':=.bool q) (qn ((qz).trans hq.symm))) ?_;refine n7 (H9 q) qw rfl (fun v h=>h.2) ?_;rintro v A ⟨V,rfl,rfl⟩;refine x6 ?_;have M:=zy (hq.symm.trans V);refine u6 ?_;refine f_ ((A2 rfl rfl).eq (v':=.agg (aX ⟨⟨3,0,[],[],0,[]⟩,none,0⟩).toArray) rfl) ?_;refine y4 [] rfl (fh b s pw c x t ⟨⟨3,0,[],[],0,[]⟩,none,0⟩ i.len) (fun w e=>by rw[jk];exact e) qw rfl rfl (l9.le_refl _) (fun v h=>h) ?_;rintro v A ⟨u,rfl,rfl,m,n,o,y⟩;rw[jk];refine x6 ?_;have ku:=cJ i n o y ⟨by simp,by simp,by simp,by simp⟩ (.inl rfl);refine u6 ?_;refine n7 (E4 b s [32] pw (pN c u) (nL x u) qb qb qp) pre rfl (fun v h=>h.2) ?_;rintro v A ⟨e1,g,rfl,rfl⟩;refine x6 ?_;have f:=D6 g x7;simp only[Qq] at f;refine A5 ?_;refine f_ ((r8 rfl rfl qb).eq (v':=.int .i64 ((d+1:Nat):Int)) (by congr 1)) ?_;refine y4 [] rfl (hk M e1 c x u f.2.2 ku) (fun w e=>by rw[jk];exact e) pre rfl rfl (l9.le_refl _) (fun v h=>h) ?_;rintro v A ⟨u2,Y,h9,C,rfl,rfl,D,X⟩;rw[jk];refine u6 ?_;refine n7 (E4 b s [32] Y (pN c u2) (nL x u2) qb C qp) pre rfl (fun v h=>h.2) ?_;rintro v A ⟨e2,k0,rfl,rfl⟩;refine x6 ?_;have k8:=D6 k0 x7;simp only[Qq] at k8;refine A5 ?_;refine f_ ((r8 rfl rfl qb).eq (v':=.int .i64 ((d+1:Nat):Int)) (by congr 1)) ?_;refine y4 [] rfl (hk M e2 c x u2 k8.2.2 X) (fun w e=>by rw[jk];exact e) pre rfl rfl (l9.le_refl _) (fun v h=>h) ?_;rintro v A ⟨u3,p3,q3,k9,rfl,rfl,q0,q2⟩;rw[jk];refine x6 ?_;exact m6 rfl _ ⟨u3,p3,by omega,k9,rfl,rfl,(m.trans D).trans q0,q2⟩ fun w e=>e
   refine bQ ?_ ?_<;>intro h
   ·refine u6 ?_;refine f_ ((A2 rfl rfl).eq (v':=.agg (aX ⟨⟨4,0,[],[],0,[]⟩,none,0⟩).toArray) rfl) ?_;refine y4 [] rfl (fh b s pw c x t ⟨⟨4,0,[],[],0,[]⟩,none,0⟩ i.len) (fun w e=>by rw[jk];exact e) qw rfl rfl (l9.le_refl _) (fun v h=>h) ?_;rintro v A ⟨u,rfl,rfl,m,n,o,y⟩;rw[jk];refine x6 ?_;have ku:=cJ i n o y ⟨by simp,by simp,by simp,by simp⟩ (.inl rfl);exact m6 rfl _ ⟨u,pw,by omega,h0,rfl,rfl,m,ku⟩ fun w e=>e
   refine bQ ?_ ?_<;>intro h
   ·refine u6 ?_;refine n7 (E4 b s [32] pw (pN c t) (nL x t) qb qb qp) pre rfl (fun v h=>h.2) ?_;rintro v A ⟨e1,g,rfl,rfl⟩;refine x6 ?_;have f:=D6 g x7;simp only[Qq] at f;refine A5 ?_;refine n7 (kJ b s e1 (pN c t) (nL x t) hs f.2.2) pre rfl (fun v h=>h.2) ?_;rintro v A ⟨l,T,U,j,rfl,rfl⟩;refine f_ ((A2 rfl rfl).eq (v':=.agg (aX ⟨⟨6,0,[],[],0,l.1⟩,T,U⟩).toArray) rfl) ?_;refine y4 [] rfl (fh b s l.2 c x (HH t (X1 T l.1 U)) ⟨⟨6,0,[],[],0,l.1⟩,T,U⟩ i.len) (fun w e=>by rw[jk];exact e.perm wS) qw rfl rfl (l9.le_refl _) (fun v h=>h) ?_;rintro v A ⟨u,rfl,rfl,Z,h4,Q,S⟩;rw[jk];refine x6 ?_;have O:=kI f.2.2 j;exact m6 rfl _ ⟨u,l.2,by omega,O.2.1,rfl,rfl,(wT t _).trans Z,cJ (BJ i _) h4 Q S ⟨O.2.2,by simp,by simp,by simp⟩ (.inr (.head _))⟩ fun w e=>e
   refine E8 ?_;refine n7 (MD b s w pw (pN c t) (nL x t) hs qb h8 h7) pre rfl (fun v h=>h) ?_;rintro v A ⟨k,Y,h1,h2,J,rfl,rfl⟩;refine y4 [] rfl (fh b s Y c x t ⟨k,none,0⟩ i.len) (fun w e=>by rw[jk];exact e) qw rfl rfl (l9.le_refl _) (fun v h=>h) ?_;rintro v A ⟨u,rfl,rfl,Z,h4,Q,S⟩;rw[jk];refine x6 ?_;exact m6 rfl _ ⟨u,Y,by omega,h2,rfl,rfl,Z,cJ i h4 Q S ⟨by rw[J.1];simp,J.2.1,J.2.2.1,by rw[J.2.2.2];simp⟩ (.inl J.1)⟩ fun w e=>e
