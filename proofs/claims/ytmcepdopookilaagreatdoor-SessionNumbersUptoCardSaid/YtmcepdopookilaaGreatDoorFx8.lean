import Derived.Test.YtmcepdopookilaaGreatDoorFx7
import Derived.Laws.Cover1
import Derived.Test.YtmcepdopookilaaGreatDoorFx5
import Derived.Test.YtmcepdopookilaaGreatDoorRows
import Derived.WalkKit
import Derived.ProofKit
import Derived.OpenShut
import Derived.MakeChecks
import Derived.Lib.LaidTab
import Derived.Stop.LaidErr
import Derived.Deep.DeepLaidRun
import Derived.Lay
import Derived.Deep.DeepHandedRow
import Derived.Deep.DeepWitnessRowRef
set_option linter.unusedVariables false
set_option linter.unusedSimpArgs false
set_option linter.defProp false
namespace Go.Proofs.YtmcepdopookilaaGreatDoor.Rp
open Go Go.Sl Go.Proofs.Tryz
abbrev Bs:=List UInt8
abbrev D9:Nat:=9223372036854775807
def P0(c:UInt8):Bool:=decide (48<=c.toNat)&&decide (c.toNat<=57)
def zZ(a:Nat)(c:UInt8):Nat:=10*a+(c.toNat-48)
def S8(a:Nat)(s:Bs):Nat:=s.foldl zZ a
theorem rr(a:Nat)(c:UInt8)(t:Bs):S8 a (c::t)=S8 (zZ a c) t:=by unfold S8;rw[J8]
theorem nW(a:Nat):S8 a []=a:=by unfold S8;rw[List.foldl_nil]
def dig(k:Nat):UInt8:=UInt8.ofNat (48+k)
def R4(n:Nat):Bs:=if h:n<10 then[dig n] else R4 (n/10)++[dig (n%10)]
termination_by n
decreasing_by omega
theorem bE{n:Nat}(h:n<10):R4 n=[dig n]:=by rw[R4];simp[h]
theorem gg{n:Nat}(h:¬n<10):R4 n=R4 (n/10)++[dig (n%10)]:=by rw[R4];simp[h]
theorem JP{k:Nat}(h:k<10):(dig k).toNat=48+k:=by
 unfold dig;rw[UInt8.toNat_ofNat'];omega
theorem Fo{k:Nat}(h:k<10):P0 (dig k)=true:=by
 unfold P0;rw[JP h];simp;omega
theorem lM(a:Nat)(x y:Bs):S8 a (x++y)=S8 (S8 a x) y:=by unfold S8;rw[Ws]
theorem JQ(n:Nat):R4 n≠[]:=by
 rcases Qp n 10 with h|h
 ·rw[bE h];simp
 ·rw[gg qb];simp
theorem Fp(n:Nat):(R4 n).all P0=true:=by
 induction n using Nat.strongRecOn with
 |ind n ih=>
  rcases Qp n 10 with h|h
  ·rw[bE h];simp[Fo h]
  ·rw[gg qb,List.all_append,ih (n/10) qb];simp[Fo (Nat.mod_lt n (by omega:0<10))]
def aT(w:Bs):Option Nat:=if R4 (S8 0 w)=w/\S8 0 w<=D9 then some (S8 0 w) else none
theorem rt{w:Bs}{n:Nat}(h:aT w=some n):w=R4 n/\n<=D9:=by
 unfold aT at h;split at h
 ·next k=>simp at h;subst h;exact⟨k.1.symm,k.2⟩
 ·cases h
theorem Fq:aT []=none:=by
 unfold aT;split
 ·next k=>exact absurd k.1 (JQ _)
 ·rfl
theorem bi(p:UInt8->Bool)(s:Bs):s=s.takeWhile p++s.drop (s.takeWhile p).length:=by
 induction s with
 |nil=>rfl
 |cons c t ih=>
  by_cases h:p c=true
  ·simp only[Q8,h,if_true,zx,Ww,Qh];rw[<-ih]
  ·simp[Q8,h]
theorem gQ(p:UInt8->Bool)(s:Bs):∀c∈s.takeWhile p,p c=true:=by
 induction s with
 |nil=>simp
 |cons c t ih=>
  by_cases h:p c=true
  ·simp only[Q8,h,if_true];intro x a;rcases kx.mp a with rfl|a
   ·exact h
   ·exact ih x a
  ·simp[Q8,h]
theorem bF(p:UInt8->Bool):∀(w r:Bs),(∀c∈w,p c=true)->(∀c∈r.head?,p c=false)->(w++r).takeWhile p=w
 |[],[],_,_=>rfl
 |[],c::r,_,h=>by simp[Q8,h c x8]
 |c::w,r,hw,h=>by
  simp only[Qh,Q8,hw c x8,if_true];rw[bF p w r (fun x hx=>hw x (jj _ hx)) h]
theorem fA(p:UInt8->Bool)(s:Bs):∀c∈(s.drop (s.takeWhile p).length).head?,p c=false:=by
 induction s with
 |nil=>simp
 |cons c t ih=>
  by_cases h:p c=true
  ·simpa only[Q8,h,if_true,zx,Ww] using ih
  ·simp[Q8,h]
def P1(c:UInt8):Bool:=decide (33<=c.toNat)&&decide (c.toNat<=126)&&!([40,41,123,37,42,34,92,93]:Bs).contains c
def iU(s:Bs):Bool:=s.all P1&&!s.isEmpty
def ru(c:UInt8):UInt8:=if 97<=c.toNat/\c.toNat<=122 then c-32 else c
def ik(c:UInt8):UInt8:=if 65<=c.toNat/\c.toNat<=90 then c+32 else c
def R8(s:Bs):Bs:=s.map ru
def U6(s:Bs):Bs:=s.map ik
def aU(c:UInt8):Bool:=decide (0<c.toNat)&&decide (c.toNat<128)&&!([10,13]:Bs).contains c
def Aa(b:Bs)(i:Nat):Bs->Option (Bs×Nat)
 |[]=>none
 |c::t=>if 512<b.length then none else if c=34 then some (b,i+1) else if c=92 then
   (match t with|[]=>none|d::t'=>if d=34\/d=92 then Aa (b++[d]) (i+2) t' else none)
  else if aU c then Aa (b++[c]) (i+1) t else none
theorem iV(b:Bs)(i:Nat)(c:UInt8)(t:Bs):Aa b i (c::t)=if 512<b.length then none else if c=34 then some (b,i+1) else if c=92 then
   (match t with|[]=>none|d::t'=>if d=34\/d=92 then Aa (b++[d]) (i+2) t' else none)
  else if aU c then Aa (b++[c]) (i+1) t else none:=Aa.eq_def ..
def uW:Bs->Option (Bs×Nat)
 |[]=>none
 |c::t=>if c=34 then Aa [] 1 t else none
def Cw(c:UInt8):Bool:=decide (32<=c.toNat)&&decide (c.toNat<=126)&&!([37,42,34,92]:Bs).contains c
def uX(s:Bs):Bool:=!s.isEmpty&&s.all Cw&&decide (s.length<=64)&&decide (s.head?≠some 32)&&decide (s.getLast?≠some 32)
abbrev cG:Bs:=[73,78,66,79,88]
def iW(s:Bs):Option Bs:=if uX s then some (if R8 s=cG then cG else s) else none
def gR(a b:Bs):Bool:=Op.bytesLess a b
theorem il:∀a:Bs,gR a a=false
 |[]=>rfl
 |a::l=>by
  have:=il l;simp only[gR] at*;simp[Op.bytesLess,this]
theorem bL:∀{a b c:Bs},gR a b=true->gR b c=true->gR a c=true
 |[],_,[],_,h=>by simp[gR,Op.bytesLess] at h
 |[],_,c::z,_,_=>rfl
 |a::x,[],_,h,_=>by simp[gR,Op.bytesLess] at h
 |a::x,b::y,[],_,h=>by simp[gR,Op.bytesLess] at h
 |a::x,b::y,c::z,h,k=>by
  have d:=@bL x y z;simp only[gR,Op.bytesLess,Zk,jx,kw,W3] at*;rcases h with h|⟨rfl,h⟩<;>rcases k with k|⟨rfl,k⟩
  ·exact .inl (UInt8.lt_trans h k)
  ·exact .inl h
  ·exact .inl k
  ·exact .inr ⟨rfl,d h k⟩
theorem dE:∀{a b:Bs},a≠b->gR a b=false->gR b a=true
 |[],[],h,_=>absurd rfl h
 |[],b::y,_,h=>by simp[gR,Op.bytesLess] at h
 |a::x,[],_,_=>rfl
 |a::x,b::y,hne,h=>by
  have c:=@dE x y;simp only[gR,Op.bytesLess,Q0,Zk,jx,Zd,kw,Bool.and_eq_false_imp,W3] at*;rcases Nat.lt_trichotomy a.toNat b.toNat with k|k|k
  ·exact absurd (UInt8.lt_iff_toNat_lt.mpr k) h.1
  ·have e:=J9.mp k;subst e;exact .inr ⟨rfl,c (fun e=>hne (by rw[e])) (h.2 rfl)⟩
  ·exact .inl (UInt8.lt_iff_toNat_lt.mpr k)
def R5:List Bs:=[[92,65,110,115,119,101,114,101,100],[92,70,108,97,103,103,101,100],[92,68,101,108,101,116,101,100],[92,83,101,101,110],[92,68,114,97,102,116]]
def M7(f:Bs):Nat:=R5.idxOf f
def U5(a b:Bs):Bool:=if M7 a≠M7 b then decide (M7 a<M7 b) else gR a b
theorem T_(a:Bs):U5 a a=false:=by simp[U5,il]
theorem P8{a b c:Bs}(h:U5 a b=true)(k:U5 b c=true):U5 a c=true:=by
 unfold U5 at*;split at h<;>split at k<;>split
 ·simp at*;omega
 ·simp at*;omega
 ·simp at*;omega
 ·next x y z=>simp at*;omega
 ·simp at*;omega
 ·next x y z=>simp at*;omega
 ·next x y z=>simp at*;omega
 ·exact bL h k
theorem aV{a b:Bs}(c:a≠b)(h:U5 a b=false):U5 b a=true:=by
 unfold U5 at*;split at h
 ·next k=>
  rw[zu (fun e=>k e.symm)];simp at*;omega
 ·next k=>
  rw[zk (fun e=>k (fun d=>e d.symm))];exact dE c h
def E2(s:Bs):Option Bs:=match R5.find? (fun f=>R8 f==R8 s) with
 |some f=>some f
 |none=>if iU s=true/\s.length<=32 then some (U6 s) else none
def qN(f:Bs):List Bs->List Bs
 |[]=>[f]
 |x::t=>if U5 f x then f::x::t else x::qN f t
def eU(l:List Bs)(f:Bs):List Bs:=if f∈l then l else qN f l
def S3:List Bs->Option (List Bs)
 |[]=>some []
 |s::t=>match E2 s,S3 t with
  |some c,some l=>some (c::l)
  |_,_=>none
def T4(l:List Bs):List Bs:=l.foldl eU []
def V3(names:List Bs):List Bs×Int:=match S3 names with
 |none=>([],4)
 |some l=>if 16<(T4 l).length then([],7) else(T4 l,0)
abbrev xl(l:List Bs):Prop:=l.Pairwise fun a b=>U5 a b=true
def nX:List Bs->Bool
 |a::b::t=>U5 a b&&nX (b::t)
 |_=>true
def F9(l:List Bs):Bool:=l.all (fun f=>decide (E2 f=some f))&&nX l&&decide (l.length<=16)
theorem kO:∀{l:List Bs},nX l=true->xl l
 |[],_=>.nil
 |[a],_=>by simp
 |a::b::t,h=>by
  simp only[nX,kw] at h;have k:=kO h.2;refine .cons (fun x c=>?_) k;rcases kx.mp c with rfl|c
  ·exact h.1
  ·exact P8 h.1 ((j9.mp k).1 x c)
theorem kP:∀{l:List Bs},xl l->nX l=true
 |[],_=>rfl
 |[a],_=>rfl
 |a::b::t,h=>by
  have k:=j9.mp h;simp only[nX,kw];exact⟨k.1 b x8,kP k.2⟩
theorem sS(f x:Bs):∀l:List Bs,x∈qN f l↔x=f\/x∈l
 |[]=>by simp[qN]
 |y::t=>by
  rw[qN];split
  ·simp
  ·simp only[kx,sS f x t];constructor
   ·rintro(h|h|h)
    ·exact .inr (.inl h)
    ·exact .inl h
    ·exact .inr (.inr h)
   ·rintro(h|h|h)
    ·exact .inr (.inl h)
    ·exact .inl h
    ·exact .inr (.inr h)
theorem Ab(f:Bs):∀{l:List Bs},xl l->f∉l->xl (qN f l)
 |[],_,_=>by simp[qN]
 |y::t,h,hf=>by
  have k:=j9.mp h;simp only[kx,not_or] at hf;rw[qN];split
  ·next b=>
   refine .cons (fun x a=>?_) h;rcases kx.mp a with rfl|a
   ·exact b
   ·exact P8 b (k.1 x a)
  ·next b=>
   refine .cons (fun x a=>?_) (Ab f k.2 hf.2);rcases (sS f x t).mp a with rfl|a
   ·exact aV hf.1 (by simpa using b)
   ·exact k.1 x a
theorem Fr(l:List Bs)(f x:Bs):x∈eU l f↔x=f\/x∈l:=by
 unfold eU;split
 ·next h=>
  constructor
  ·exact .inr
  ·rintro(rfl|a)
   ·exact h
   ·exact a
 ·exact sS f x l
theorem Fs{l:List Bs}(h:xl l)(f:Bs):xl (eU l f):=by
 unfold eU;split
 ·exact h
 ·next k=>exact Ab f h k
theorem mQ:∀(l a:List Bs),xl a->xl (l.foldl eU a)/\∀x,x∈l.foldl eU a↔x∈l\/x∈a
 |[],a,h=>⟨h,fun x=>by simp⟩
 |f::t,a,h=>by
  have k:=mQ t (eU a f) (Fs h f);refine⟨k.1,fun x=>?_⟩;rw[J8,k.2,Fr,kx];constructor
  ·rintro(h|h|h)
   ·exact .inl (.inr h)
   ·exact .inl (.inl h)
   ·exact .inr h
  ·rintro((h|h)|h)
   ·exact .inr (.inl h)
   ·exact .inl h
   ·exact .inr (.inr h)
theorem mR(l:List Bs):xl (T4 l):=(mQ l [] .nil).1
theorem sT(l:List Bs)(x:Bs):x∈T4 l↔x∈l:=by rw[T4,(mQ l [] .nil).2];simp
theorem xJ:∀{a b:List Bs},xl a->xl b->(∀x,x∈a↔x∈b)->a=b
 |[],[],_,_,_=>rfl
 |[],y::t,_,_,h=>by have:=(h y).mpr x8;simp at this
 |x::t,[],_,_,h=>by have:=(h x).mp x8;simp at this
 |x::a,y::b,ha,hb,h=>by
  have d:=j9.mp ha;have f:=j9.mp hb;have e:x=y:=by
   rcases kx.mp ((h x).mp x8) with e|g
   ·exact e
   ·rcases kx.mp ((h y).mpr x8) with e|i
    ·exact e.symm
    ·have j:=f.1 x g;have k:=d.1 y i;have:=P8 j k;rw[T_] at this
     cases this
  subst e;congr 1;refine xJ d.2 f.2 fun z=>?_;constructor
  ·intro hz;rcases kx.mp ((h z).mp (jj _ hz)) with e|c
   ·subst e;have:=d.1 z hz;rw[T_] at this;cases this
   ·exact c
  ·intro hz;rcases kx.mp ((h z).mpr (jj _ hz)) with e|c
   ·subst e;have:=f.1 z hz;rw[T_] at this;cases this
   ·exact c
theorem Cy{l:List Bs}(h:xl l):T4 l=l:=xJ (mR l) h (sT l)
theorem Of(c:UInt8):ru (ik c)=ru c:=by
 unfold ru ik;have:=c.toNat_lt;split
 ·next h=>
  have e:(c+32).toNat=c.toNat+32:=by rw[Wq];simp;omega
  rw[e,zu qb,zk qb];apply J9.mp;rw[UInt8.toNat_sub,e];simp;omega
 ·rfl
theorem JR(c:UInt8):ik (ik c)=ik c:=by
 unfold ik;have:=c.toNat_lt;split
 ·next h=>
  have e:(c+32).toNat=c.toNat+32:=by rw[Wq];simp;omega
  rw[e,zk qb]
 ·rfl
theorem JS(s:Bs):R8 (U6 s)=R8 s:=by simp[R8,U6,Of]
theorem Ft(s:Bs):U6 (U6 s)=U6 s:=by simp[U6,JR]
theorem Fu{c:UInt8}(h:P1 c=true):P1 (ik c)=true:=by
 unfold ik;have:=c.toNat_lt;split
 ·next k=>
  have e:(c+32).toNat=c.toNat+32:=by rw[Wq];simp;omega
  have a:∀d:UInt8,d.toNat<97\/122<d.toNat->c+32≠d:=fun d f b=>by
   have:=jk UInt8.toNat b;rw[e] at this;omega
  unfold P1;simp[e];refine⟨⟨by omega,by omega⟩,?_⟩;refine⟨a _ ?_,a _ ?_,a _ ?_,a _ ?_,a _ ?_,a _ ?_,a _ ?_,a _ ?_⟩<;>decide
 ·exact h
theorem Fv{s:Bs}(h:iU s=true):iU (U6 s)=true:=by
 unfold iU at*;simp only[kw,Qx,Kv,List.isEmpty_eq_false_iff] at*;refine⟨fun c hc=>?_,by simpa[U6] using h.2⟩;obtain⟨d,a,rfl⟩:=jw.mp hc;exact Fu (h.1 d a)
theorem Cz:∀f∈R5,E2 f=some f:=by decide
theorem uY{s c:Bs}(h:E2 s=some c):E2 c=some c:=by
 unfold E2 at h;split at h
 ·next f hf=>
  cases h
  exact Cz _ (Ky hf)
 ·next hf=>
  split at h
  ·next k=>
   cases h
   unfold E2;rw[JS,hf,Ft];exact zu ⟨Fv k.1,by simpa[U6] using k.2⟩
  ·cases h
theorem lN:∀{l cs:List Bs},S3 l=some cs->∀c∈cs,E2 c=some c
 |[],cs,h=>by simp[S3] at h;subst h;simp
 |s::t,cs,h=>by
  rw[S3] at h;split at h
  ·next c l hc hl=>
   cases h
   intro x hx;rcases kx.mp hx with rfl|hx
   ·exact uY hc
   ·exact lN hl x hx
  ·cases h
theorem Fw{l:List Bs}(a:∀f∈l,E2 f=some f)(b:xl l)(c:l.length<=16):F9 l=true:=by
 unfold F9;simp only[kw,Qx,jx];exact⟨⟨a,kP b⟩,c⟩
theorem iX{l:List Bs}(h:F9 l=true):(∀f∈l,E2 f=some f)/\xl l/\l.length<=16:=by
 unfold F9 at h;simp only[kw,Qx,jx] at h;exact⟨h.1.1,kO h.1.2,h.2⟩
theorem xK{a l:List Bs}(h:V3 a=(l,0)):F9 l=true:=by
 unfold V3 at h;split at h
 ·cases h
 ·next b hc=>
  split at h
  ·cases h
  ·next k=>
   simp at h;subst h;exact Fw (fun f hf=>lN hc f ((sT b f).mp hf)) (mR b) qb
def eV(b:Bs):List Bs->Bs
 |[]=>[]
 |[x]=>x
 |x::t=>x++b++eV b t
def H6:Bs->List Bs
 |[]=>[[]]
 |c::t=>if c=32 then[]::H6 t else match H6 t with
  |[]=>[[c]]
  |w::ws=>(c::w)::ws
def T5(s:Bs):List Bs×Nat×Int:=
 let e:=(s.takeWhile fun c=>c !=41).length
 if s.head? =some 40/\e<s.length then
  let inner:=(s.take e).drop 1
  let m:=V3 (if inner=[] then[] else H6 inner)
  if m.2=0 then(m.1,e+1,0) else([],0,m.2)
 else([],0,4)
theorem nY:∀(w:Bs),(∀c∈w,c≠32)->H6 w=[w]
 |[],_=>rfl
 |c::t,h=>by rw[H6,zk (h c x8),nY t fun x hx=>h x (jj _ hx)]
theorem nZ:∀(w r:Bs),(∀c∈w,c≠32)->H6 (w++32::r)=w::H6 r
 |[],r,_=>by simp[H6]
 |c::t,r,h=>by rw[Qh,H6,zk (h c x8),nZ t r fun x hx=>h x (jj _ hx)]
theorem lO{s:Bs}{l:List Bs}{n:Nat}(h:T5 s=(l,n,0)):F9 l=true:=by
 unfold T5 at h
 dsimp only at h
 split at h
 ·generalize hm:V3 _=m at h;split at h
  ·next k=>
   have a:m.1=l:=jk (fun q=>q.1) h;exact xK (hm.trans (Prod.ext a k))
  ·next k=>exact absurd (jk (fun q=>q.2.2) h) k
 ·exact absurd (jk (fun q=>q.2.2) h) x8
/- the reference's reading -/
structure RV where
 kind:Int
 n:Nat
 a5c:List Bs
 text:Bs
 part:Bool
 fr:Nat
abbrev V0:RV:=⟨0,0,[],[],false,0⟩
structure RR where
 kind:Int
 tag:Bs
 code:Bs
 text:Bs
 n:Nat
 nums:List Nat
 mod:Nat
 a5c:List Bs
 box:Bs
 values:List RV
abbrev R0:RR:=⟨0,[],[],[],0,[],0,[],[],[]⟩
def Fx:List Bs:=[[79,75],[78,79],[66,65,68],[66,89,69]]
abbrev Fy:Bs:=[42,32,67,65,80,65,66,73,76,73,84,89,32,73,77,65,80,52,114,101,118,49,32,69,78,65,66,76,69,32,67,79,78,68,83,84,79,82,69]
abbrev a0q:Bs:=[42,32,69,78,65,66,76,69,68,32,67,79,78,68,83,84,79,82,69]
abbrev Og:Bs:=[13,10]
structure RS where
 p:Nat
 ok:Bool
def mv(s w:Bs)(st:RS):Bool×RS:=if st.ok=true/\w.isPrefixOf (s.drop st.p)=true then(true,⟨st.p+w.length,st.ok⟩) else(false,st)
def FA(s w:Bs)(st:RS):RS:=⟨(mv s w st).2.p,(mv s w st).1⟩
def FB(stops:Bs)(r:Bs):Bs:=r.takeWhile fun c=>!stops.contains c
def od(s stops:Bs)(st:RS):Bs×RS:=if st.ok=true then(FB stops (s.drop st.p),⟨st.p+(FB stops (s.drop st.p)).length,st.ok⟩) else([],st)
def gh(c:UInt8):Bool:=decide (32<=c.toNat)&&decide (c.toNat<=126)
def kQ(t:Bs):Bool:=t.all gh&&!t.isEmpty&&decide (t.length<=512)
/- which may be -/
theorem CA(b x:Bs){t:List Bs}(h:t≠[]):eV b (x::t)=x++b++eV b t:=by
 cases t with
 |nil=>exact absurd rfl h
 |cons y t=>rfl
end Go.Proofs.YtmcepdopookilaaGreatDoor.Rp
namespace Go.Sl
open Go Go.RowKit Go.Proofs.Tryz
structure P3(s:List Nat)(p:Prop):Prop where
 out:p
theorem P3.step{i:Nat}{s:List Nat}{p:Prop}(h:P3 (i::s) p):P3 s p:=⟨h.out⟩
theorem P3.chk{s:List Nat}{p:Prop}(h:P3 (0::s) p):True:=trivial
theorem P3.pos{i:Nat}{s:List Nat}{p:Prop}(h:P3 (i::s) p):True:=trivial
theorem P3.chk0{p:Prop}(h:P3 [] p):True:=trivial
theorem P3.nb{p:Prop}(h:P3 [7] p):p:=h.out
theorem P3.last{i:Nat}{p:Prop}(h:P3 [i] p):p:=h.out
theorem P3.none{p:Prop}(h:P3 [] p):p:=h.out
theorem ud{H H' a:List As}{x:As}(u:M1 H x a H':=by(repeat (first|exact .del|apply M1.there))):M1 H x a H':=u
theorem uh{H H' a:List As}{x:As}(u:M1 H x a H':=by(repeat (first|exact .here|apply M1.there))):M1 H x a H':=u
theorem sub{L' L:F_}(h:fk L' L:=by(repeat (first|exact fk.nil _|refine fk.cons rfl ?_))):fk L' L:=h
theorem QO{p:Prop}(h:p:=by(first|omega|(simp only[zz,zx,z6,zn,z8,zm,Kj];omega)|(simp only[zz,zx,z6,zn,z8,zm,Kj] at*;omega))):p:=h
inductive dF:List Value->Nat->List Value->List Value->Prop
 |nil {l:List Value}:dF l 0 [] l
 |here {x v:Value} {l vs l':List Value}:dF l 0 vs l'->dF (x::l) 0 (v::vs) (v::l')
 |there {x:Value} {l vs l':List Value} {n:Nat}:dF l n vs l'->dF (x::l) (n+1) vs (x::l')
theorem dF.put{l vs l':List Value}{n:Nat}(h:dF l n vs l'):n+vs.length<=l.length/\l'=l.take n++vs++l.drop (n+vs.length):=by
 induction h with
 |nil=>simp
 |here _ ih=>simp only[zx,Kk,j6,ju] at ih⊢;exact⟨by omega,by rw[ih.2];simp⟩
 |there _ ih=>
  refine⟨by simp only[zx];omega,?_⟩;rw[ih.2];rename_i x l vs l' n h;have:n+1+vs.length=(n+vs.length)+1:=by omega
  rw[this];simp
inductive dG:List Value->Nat->Nat->List Value->Prop
 |nil {l:List Value}:dG l 0 0 []
 |here {x:Value} {l vs:List Value} {k:Nat}:dG l 0 k vs->dG (x::l) 0 (k+1) (x::vs)
 |there {x:Value} {l vs:List Value} {n k:Nat}:dG l n k vs->dG (x::l) (n+1) k vs
theorem dG.get{l vs:List Value}{n k:Nat}(h:dG l n k vs):n+k<=l.length/\vs=(l.drop n).take k:=by
 induction h with
 |nil=>simp
 |here _ ih=>simp only[zx,Kz,ju] at ih⊢;exact⟨by omega,by rw[ih.2];simp⟩
 |there _ ih=>exact⟨by simp only[zx];omega,by simpa using ih.2⟩
theorem pa{l vs l':List Value}{n:Nat}(h:dF l n vs l':=by(repeat (first|exact .nil|apply dF.here|apply dF.there))):dF l n vs l':=h
theorem ga{l vs:List Value}{n k:Nat}(h:dG l n k vs:=by(repeat (first|exact .nil|apply dG.here|apply dG.there))):dG l n k vs:=h
section
variable{P:Program}{N:Nat}{K R:y5}{E:List (Nat×y5)}{L:F_}{F:l6}{H:List As}{ops:Array Oper}{rest:List Oper}{ty:TypeId}{pos:String}{af:Array Edge}{dst:Option Nat}{gd:Option (Nat×Bool)}
variable{x y:Operand}{t t':TypeId}{d:Nat}
theorem im{b o:Nat}{l:List Value}{te:TypeId}{fr:Nat×Nat}{v:Value}{H':List As}[ha:HA P t false](hx:ev L x=some (.pointer (some ⟨b,o,none⟩)))(u:M1 H (.blk b (.cells l.toArray te fr)) [] H')(hv:l[o]? =some v):eu P ⟨dst,.load t x,ty,pos,af,gd⟩ L F H v:=
 E9 hx u (by simpa using hv)
theorem gj{b o n:Nat}{l vs:List Value}{te:TypeId}{fr:Nat×Nat}{H':List As}[ha:HA P t true][hs:HS P t n](hx:ev L x=some (.pointer (some ⟨b,o,none⟩)))(u:M1 H (.blk b (.cells l.toArray te fr)) [] H')(hv:dG l o n vs):eu P ⟨dst,.load t x,ty,pos,af,gd⟩ L F H (.agg vs.toArray):=by
 have h:=hv.get;have a:=fo (P:=P) (F:=F) (dst:=dst) (ty:=ty) (pos:=pos) (af:=af) (gd:=gd) (t:=t) (n:=n) hx u (by simpa[Jv] using h.1)
 rwa [show sl l.toArray o n=vs from by rw[h.2];simp[sl]] at a
theorem bT{b o:Nat}{l l':List Value}{v:Value}{te:TypeId}{H':List As}[ha:HA P t false][hs:HS P t 1](hx:ev L x=some (.pointer (some ⟨b,o,none⟩)))(c:ev L y=some v)(u:M1 H (.blk b (.cells l.toArray te (0,0))) [.blk b (.cells l'.toArray te (0,0))] H')(hp:dF l o [v] l')(hc:v.cells=#[v])(d:v.oneCell'=true)(h:GL P N ops rest K E R L F H'):GL P N ops (⟨none,.store t x y,ty,pos,af,none⟩::rest) K E R L F H:=by
 have k:=hp.put;refine I5 (cs:=l.toArray) (te:=te) (n:=1) hx c ?_ (by rw[hc];rfl) (fun q a=>by rw[hc] at a;simp at a;subst a;exact d) (by simpa using k.1) h;rw[show ey l.toArray o v.cells.toList=l'.toArray from by rw[hc,k.2];simp[ey]];exact u
theorem FC{b o n:Nat}{l l' vs:List Value}{te:TypeId}{H':List As}[hs:HS P t n](hx:ev L x=some (.pointer (some ⟨b,o,none⟩)))(a:ev L y=some (.agg vs.toArray))(u:M1 H (.blk b (.cells l.toArray te (0,0))) [.blk b (.cells l'.toArray te (0,0))] H')(hp:dF l o vs l')(c:Nat.beq vs.length n=true)(d:(vs.all fun q=>q.oneCell')=true)(h:GL P N ops rest K E R L F H'):GL P N ops (⟨none,.store t x y,ty,pos,af,none⟩::rest) K E R L F H:=by
 have k:=hp.put;have e:=jn c;refine I5 (cs:=l.toArray) (te:=te) (n:=n) hx a ?_ (by simpa[Value.cells] using e) (fun q f=>Qx.1 d q (by simpa[Value.cells] using f)) (by simp;omega) h;rw[show ey l.toArray o (Value.agg vs.toArray).cells.toList=l'.toArray from by rw[k.2];simp[ey,Value.cells]];exact u
theorem kR{l l':List UInt8}(hx:ev L x=some (B l))(a:ev L y=some (B l')):E3 P ⟨dst,.binOp .geq t x y t',ty,pos,af,gd⟩ L (.bool (!Op.bytesLess l l')):=
 L_ hx a (fun w=>by simp only[eqGuard_at_string,binOp_string_geq,ByteArray.toList_mk];rfl)
theorem kS{l l':List UInt8}(hx:ev L x=some (B l))(a:ev L y=some (B l')):E3 P ⟨dst,.binOp .leq t x y t',ty,pos,af,gd⟩ L (.bool (Op.bytesLess l l'||l==l')):=
 L_ hx a (fun w=>by simp only[eqGuard_at_string,binOp_string_leq,ByteArray.toList_mk];rfl)
theorem bU{z:Value}[hz:HZ P t z](hc:z.cells=#[z])(a:Nat.blt d N=true)(h:∀g,GL P N ops rest K E R ((d,.pointer (some ⟨g,0,none⟩))::L) F (.blk g (.cells [z].toArray t)::H)):
  GL P N ops (⟨some d,.alloc t,ty,pos,af,none⟩::rest) K E R L F H:=uJ a (by rw[hc];exact h)
theorem L1{v:Value}(hx:ev L x=some v)(hc:v.cells=#[v])(a:Nat.blt d N=true)(h:∀g,GL P N ops rest K E R ((d,.pointer (some ⟨g,0,none⟩))::L) F (.blk g (.cells [v].toArray t)::H)):
  GL P N ops (⟨some d,.box t x,ty,pos,af,none⟩::rest) K E R L F H:=EV hx a (by rw[hc];exact h)
end
section
variable{P:Program}{L:F_}{v:Value}{dst:Option Nat}{ty:TypeId}{pos:String}{af:Array Edge}{gd:Option (Nat×Bool)}{x y c:Operand}{t t1 t2:TypeId}{i:Nat}{lo hi mx:Option Operand}{fnn:_root_.Go.Fn}{p q:Array Operand}{tys:Array TypeId}{bps:Array (Nat×Operand)}
theorem uZ(h:E3 P ⟨dst,.fieldAddr t x i,ty,pos,af,gd⟩ L v):E3 P ⟨dst,.fieldAddr t x i,ty,pos,af,gd⟩ L v:=h
theorem xL(h:E3 P ⟨dst,.nilCheck x,ty,pos,af,gd⟩ L v):E3 P ⟨dst,.nilCheck x,ty,pos,af,gd⟩ L v:=h
theorem Oh(h:E3 P ⟨dst,.pick c x y,ty,pos,af,gd⟩ L v):E3 P ⟨dst,.pick c x y,ty,pos,af,gd⟩ L v:=h
theorem QP(h:E3 P ⟨dst,.call ⟨.builtin .len,#[x],#[t]⟩,ty,pos,af,gd⟩ L v):E3 P ⟨dst,.call ⟨.builtin .len,#[x],#[t]⟩,ty,pos,af,gd⟩ L v:=h
theorem QQ(h:E3 P ⟨dst,.unOp .neg t x,ty,pos,af,gd⟩ L v):E3 P ⟨dst,.unOp .neg t x,ty,pos,af,gd⟩ L v:=h
theorem vb(h:E3 P ⟨dst,.indexAddr t x y,ty,pos,af,gd⟩ L v):E3 P ⟨dst,.indexAddr t x y,ty,pos,af,gd⟩ L v:=h
theorem JT(h:E3 P ⟨dst,.index t x y,ty,pos,af,gd⟩ L v):E3 P ⟨dst,.index t x y,ty,pos,af,gd⟩ L v:=h
theorem JU(h:E3 P ⟨dst,.slice t x lo hi mx,ty,pos,af,gd⟩ L v):E3 P ⟨dst,.slice t x lo hi mx,ty,pos,af,gd⟩ L v:=h
theorem xM(h:E3 P ⟨dst,.makeFunc fnn p q,ty,pos,af,gd⟩ L v):E3 P ⟨dst,.makeFunc fnn p q,ty,pos,af,gd⟩ L v:=h
theorem CB(h:E3 P ⟨dst,.convert t t1 x,ty,pos,af,gd⟩ L v):E3 P ⟨dst,.convert t t1 x,ty,pos,af,gd⟩ L v:=h
theorem JV(h:E3 P ⟨dst,.build t bps,ty,pos,af,gd⟩ L v):E3 P ⟨dst,.build t bps,ty,pos,af,gd⟩ L v:=h
theorem QR(h:E3 P ⟨dst,.binOp .add t x y t2,ty,pos,af,gd⟩ L v):E3 P ⟨dst,.binOp .add t x y t2,ty,pos,af,gd⟩ L v:=h
theorem QS(h:E3 P ⟨dst,.binOp .sub t x y t2,ty,pos,af,gd⟩ L v):E3 P ⟨dst,.binOp .sub t x y t2,ty,pos,af,gd⟩ L v:=h
theorem QT(h:E3 P ⟨dst,.binOp .mul t x y t2,ty,pos,af,gd⟩ L v):E3 P ⟨dst,.binOp .mul t x y t2,ty,pos,af,gd⟩ L v:=h
theorem QU(h:E3 P ⟨dst,.binOp .quo t x y t2,ty,pos,af,gd⟩ L v):E3 P ⟨dst,.binOp .quo t x y t2,ty,pos,af,gd⟩ L v:=h
theorem QV(h:E3 P ⟨dst,.binOp .rem t x y t2,ty,pos,af,gd⟩ L v):E3 P ⟨dst,.binOp .rem t x y t2,ty,pos,af,gd⟩ L v:=h
theorem QW(h:E3 P ⟨dst,.binOp .xor t x y t2,ty,pos,af,gd⟩ L v):E3 P ⟨dst,.binOp .xor t x y t2,ty,pos,af,gd⟩ L v:=h
theorem QX(h:E3 P ⟨dst,.binOp .shl t x y t2,ty,pos,af,gd⟩ L v):E3 P ⟨dst,.binOp .shl t x y t2,ty,pos,af,gd⟩ L v:=h
theorem QY(h:E3 P ⟨dst,.binOp .shr t x y t2,ty,pos,af,gd⟩ L v):E3 P ⟨dst,.binOp .shr t x y t2,ty,pos,af,gd⟩ L v:=h
theorem QZ(h:E3 P ⟨dst,.binOp .eql t x y t2,ty,pos,af,gd⟩ L v):E3 P ⟨dst,.binOp .eql t x y t2,ty,pos,af,gd⟩ L v:=h
theorem Ra(h:E3 P ⟨dst,.binOp .neq t x y t2,ty,pos,af,gd⟩ L v):E3 P ⟨dst,.binOp .neq t x y t2,ty,pos,af,gd⟩ L v:=h
theorem Rb(h:E3 P ⟨dst,.binOp .lss t x y t2,ty,pos,af,gd⟩ L v):E3 P ⟨dst,.binOp .lss t x y t2,ty,pos,af,gd⟩ L v:=h
theorem Rc(h:E3 P ⟨dst,.binOp .leq t x y t2,ty,pos,af,gd⟩ L v):E3 P ⟨dst,.binOp .leq t x y t2,ty,pos,af,gd⟩ L v:=h
theorem Re(h:E3 P ⟨dst,.binOp .geq t x y t2,ty,pos,af,gd⟩ L v):E3 P ⟨dst,.binOp .geq t x y t2,ty,pos,af,gd⟩ L v:=h
end
section
variable{P:Program}{N:Nat}{K R:y5}{E:List (Nat×y5)}{L:F_}{F:l6}{H:List As}{ops:Array Oper}{rest:List Oper}{ty:TypeId}{pos:String}{af:Array Edge}{dst:Option Nat}{gd:Option (Nat×Bool)}{x y:Operand}{t t':TypeId}{d:Nat}{op:Op}{jb:Nat×Bool}
theorem Oi(h:GL P N ops (⟨some d,.load t x,ty,pos,af,gd⟩::rest) K E R L F H):GL P N ops (⟨some d,.load t x,ty,pos,af,gd⟩::rest) K E R L F H:=h
theorem JW(h:GL P N ops (⟨none,.store t x y,ty,pos,af,none⟩::rest) K E R L F H):GL P N ops (⟨none,.store t x y,ty,pos,af,none⟩::rest) K E R L F H:=h
theorem JX(h:GL P N ops (⟨some d,.alloc t,ty,pos,af,none⟩::rest) K E R L F H):GL P N ops (⟨some d,.alloc t,ty,pos,af,none⟩::rest) K E R L F H:=h
theorem Rf(h:GL P N ops (⟨some d,.box t x,ty,pos,af,none⟩::rest) K E R L F H):GL P N ops (⟨some d,.box t x,ty,pos,af,none⟩::rest) K E R L F H:=h
theorem Rg{n:Nat}{a:Array (Nat×Operand)}(h:GL P N ops (⟨some d,.buildSlice t n a,ty,pos,af,none⟩::rest) K E R L F H):GL P N ops (⟨some d,.buildSlice t n a,ty,pos,af,none⟩::rest) K E R L F H:=h
theorem JY(h:GL P N ops (⟨some d,op,ty,pos,af,some jb⟩::rest) K E R L F H):GL P N ops (⟨some d,op,ty,pos,af,some jb⟩::rest) K E R L F H:=h
theorem JZ(h:GL P N ops (⟨some d,op,ty,pos,af,none⟩::rest) K E R L F H):GL P N ops (⟨some d,op,ty,pos,af,none⟩::rest) K E R L F H:=h
end
class Rh(P:Program)(t:TypeId)(fs:outParam (Array Field))(places:outParam (List (Nat×Nat))):Prop where
 hu:P.underlying t=some (.struct fs)
 hp:fs.toList.map (fun f=>(f.offset,P.cellsOf f.type))=places
 hin:(fs.toList.all fun f=>(P.info? f.type).isSome)=true
theorem y7{P:Program}{L:F_}{dst:Option Tmp}{ty t:TypeId}{pos:String}{af:Array Edge}{gd:Option (Nat×Bool)}{fs:Array Field}{a:List (Nat×Nat)}{z:Value}{ps:List (Nat×Operand)}{vs:List (Nat×Value)}{cells:Array Value}[hb:Rh P t fs a][hz:HZ P t z](hx:zP L ps=some vs)(b:Instr.fill (a[·]?) z.cells vs=some cells):E3 P ⟨dst,.build t ps.toArray,ty,pos,af,gd⟩ L (.agg cells):=
 have:HU P t (.struct fs):=⟨hb.hu⟩
 cB hx (kM (fs:=fs) hb.hp (fun f hf=>Qx.1 hb.hin f hf) b)
section
variable{P:Program}{L:F_}{F:l6}{H:List As}{o:Oper}{v:Value}
theorem oF(h:E3 P o L v:=by(first
 |exact av rfl
 |exact uG rfl
 |exact uZ (by first|exact uH rfl (by rfl) (by infer_instance) qp|exact qG rfl (by assumption) (by rfl) (by infer_instance) qp)
 |exact xL (by first|exact xC rfl|exact sO rfl (by assumption))
 |exact QZ (by first|exact p7 rfl rfl|exact C5 rfl rfl|exact nF rfl rfl|exact Cj rfl rfl|exact lK rfl rfl)
 |exact Oh (by first|exact EY rfl rfl|exact EZ rfl rfl)
 |exact QP (by first|exact Cg rfl|exact EW rfl)
 |exact Rb (by exact F5 rfl rfl)
 |exact QR (by first|exact p8 rfl rfl qb|exact H_ rfl rfl qb|exact G7 rfl rfl QO)
 |exact vb (by first|exact m8 rfl (by assumption) rfl qb|exact be rfl rfl qb)
 |exact QS (by first|exact D_ rfl rfl qb|exact Ca rfl rfl qb)
 |exact QJ rfl
 |exact T8 rfl rfl
 |exact Re (by first|exact I3 rfl rfl|exact kR rfl rfl)
 |exact Ra (by first|exact M2 rfl rfl|exact E7 rfl rfl)
 |exact Rc (by first|exact G1 rfl rfl|exact kS rfl rfl)
 |exact E1 rfl rfl
 |exact CB (by first|exact bf rfl qb|exact y8 rfl qb|exact bP rfl qb)
 |exact JT (by exact A6 rfl rfl qb)
 |exact JU (by exact H4 rfl rfl rfl QO)
 |exact xM (by exact nH rfl rfl)
 |exact JV (by exact y7 rfl (by rfl))
 |exact EX rfl rfl
 |exact nI rfl rfl
 |exact QQ (by exact QI rfl qb)
 |exact QT (by first|exact BZ rfl rfl qb|exact rh rfl rfl qb)
 |exact QU (by exact Ce rfl rfl qb)
 |exact QV (by exact Cf rfl rfl qb)
 |exact QW (by exact kL (.inr (.inr (.inl rfl))) rfl rfl)
 |exact QX (by exact zO rfl rfl qb)
 |exact QY (by exact Nl rfl rfl qb)
 |exact Nm rfl)):E3 P o L v:=h
theorem oR(h:eu P o L F H v:=by(first
 |exact im rfl ud rfl
 |exact gj rfl ud ga
 |exact lL rfl ud (by rfl)
 |exact E9 rfl ud (by rfl)
 |exact fo rfl ud (by rfl)
 |exact i8 rfl (fun w a=>uT a (by assumption) rfl)
 |exact w8 rfl (fun w a=>Ob a (by assumption)) (by rfl))):eu P o L F H v:=h
end
section
variable{P:Program}{N:Nat}{K R:y5}{E:List (Nat×y5)}{L:F_}{F:l6}{H Hk:List As}{ops:Array Oper}{rs:Rs}{done:List Nat}{n d:Nat}{i:Nat}{s:List Nat}{p:Prop}{o oj:Oper}{v:Value}{x:As}{H':List As}{j t:Nat}{b q:Bool}
theorem Oj(h:P3 (i::s) p)(b:ops[i]? =some o)(f:E3 P o L v)(hg:o.guard=none)(a:o.dst=some d)(c:Nat.blt d N=true)(hc:N5 ops rs done i=true)(k:P3 s p->GA P N ops rs Hk n (i::done) K E R ((d,v)::L) F H)(hE:E.lookup 1=none:=by rfl):GA P N ops rs Hk (n+1) done K E R L F H:=zU i b f hg a c hc (k h.step) hE
theorem FD(h:P3 (i::s) p)(c:ops[i]? =some o)(f:E3 P o L v)(hg:o.guard=some (j,b))(e:ops[j]? =some oj)(g:oj.dst=some t)(hv:find L t=some (.bool b))(a:o.dst=some d)(l:Nat.blt d N=true)(hc:N5 ops rs done i=true)(k:P3 s p->GA P N ops rs Hk n (i::done) K E R ((d,v)::L) F H)(hE:E.lookup 1=none:=by rfl):GA P N ops rs Hk (n+1) done K E R L F H:=E0 i c f hg e g hv a l hc (k h.step) hE
theorem Ok(h:P3 (i::s) p)(e:ops[i]? =some o)(hg:o.guard=some (j,b))(f:ops[j]? =some oj)(g:oj.dst=some t)(hv:find L t=some (.bool q))(c:q=!b)(a:o.dst=some d)(l:Nat.blt d N=true)(hc:N5 ops rs done i=true)(k:P3 s p->GA P N ops rs Hk n (i::done) K E R ((d,undef)::L) F H)(hE:E.lookup 1=none:=by rfl):GA P N ops rs Hk (n+1) done K E R L F H:=zV i e hg f g hv c a l hc (k h.step) hE
theorem CC(h:P3 (i::s) p)(c:ops[i]? =some o)(hg:o.guard=some (j,b))(e:ops[j]? =some oj)(f:oj.dst=some t)(hv:find L t=some undef)(a:o.dst=some d)(g:Nat.blt d N=true)(hc:N5 ops rs done i=true)(k:P3 s p->GA P N ops rs Hk n (i::done) K E R ((d,undef)::L) F H)(hE:E.lookup 1=none:=by rfl):GA P N ops rs Hk (n+1) done K E R L F H:=nO i c hg e f hv a g hc (k h.step) hE
theorem FE(h:P3 (i::s) p)(b:ops[i]? =some o)(u:M1 H x [] H')(f:eu P o L F [x] v)(hg:o.guard=none)(a:o.dst=some d)(c:Nat.blt d N=true)(hc:Y8 ops rs done i=true)(k:P3 s p->GA P N ops rs H n (i::done) K E R ((d,v)::L) F H)(hE:E.lookup 1=none:=by rfl):GA P N ops rs H (n+1) done K E R L F H:=bC i b u f hg a c hc (k h.step) hE
theorem vd(h:P3 (i::s) p)(c:ops[i]? =some o)(u:M1 H x [] H')(f:eu P o L F [x] v)(hg:o.guard=some (j,b))(e:ops[j]? =some oj)(g:oj.dst=some t)(hv:find L t=some (.bool b))(a:o.dst=some d)(l:Nat.blt d N=true)(hc:Y8 ops rs done i=true)(k:P3 s p->GA P N ops rs H n (i::done) K E R ((d,v)::L) F H)(hE:E.lookup 1=none:=by rfl):GA P N ops rs H (n+1) done K E R L F H:=Co i c u f hg e g hv a l hc (k h.step) hE
theorem ve(h:P3 (i::s) p)(b:ops[i]? =some o)(hx:x∈Hk)(f:eu P o L F [x] v)(c:∀y∈Hk,y∈H)(hg:o.guard=none)(a:o.dst=some d)(e:Nat.blt d N=true)(hc:Y8 ops rs done i=true)(k:P3 s p->GA P N ops rs Hk n (i::done) K E R ((d,v)::L) F H)(hE:E.lookup 1=none:=by rfl):GA P N ops rs Hk (n+1) done K E R L F H:=n8 i b hx f c hg a e hc (k h.step) hE
theorem rv(h:P3 (i::s) p)(c:ops[i]? =some o)(hx:x∈Hk)(f:eu P o L F [x] v)(e:∀y∈Hk,y∈H)(hg:o.guard=some (j,b))(g:ops[j]? =some oj)(l:oj.dst=some t)(hv:find L t=some (.bool b))(a:o.dst=some d)(m:Nat.blt d N=true)(hc:Y8 ops rs done i=true)(k:P3 s p->GA P N ops rs Hk n (i::done) K E R ((d,v)::L) F H)(hE:E.lookup 1=none:=by rfl):GA P N ops rs Hk (n+1) done K E R L F H:=B0 i c hx f e hg g l hv a m hc (k h.step) hE
theorem Ka(h:P3 (i::s) p)(b:ops[i]? =some o)(f:eu P o L F [] v)(c:∀y∈Hk,y∈H)(hg:o.guard=none)(a:o.dst=some d)(e:Nat.blt d N=true)(hc:Y8 ops rs done i=true)(k:P3 s p->GA P N ops rs Hk n (i::done) K E R ((d,v)::L) F H)(hE:E.lookup 1=none:=by rfl):GA P N ops rs Hk (n+1) done K E R L F H:=M3 i b f c hg a e hc (k h.step) hE
theorem CD(h:P3 (i::s) p)(c:ops[i]? =some o)(f:eu P o L F [] v)(e:∀y∈Hk,y∈H)(hg:o.guard=some (j,b))(g:ops[j]? =some oj)(l:oj.dst=some t)(hv:find L t=some (.bool b))(a:o.dst=some d)(m:Nat.blt d N=true)(hc:Y8 ops rs done i=true)(k:P3 s p->GA P N ops rs Hk n (i::done) K E R ((d,v)::L) F H)(hE:E.lookup 1=none:=by rfl):GA P N ops rs Hk (n+1) done K E R L F H:=ii i c f e hg g l hv a m hc (k h.step) hE
theorem Ri(h:P3 (i::s) p)(b:ops[i]? =some o)(c:(Region.ready .any ops (A7 ops.size done)==[i])=true)(k:GL P N ops [o] (fun a w=>(dl ops rs (A7 ops.size done) i=true->True->U4 F Hk w)/\ig P ops (MQ K E R) (fun w=>U4 F Hk w) (dl ops rs) n (A7 ops.size (i::done)) a w) (pE E) (fun _ _=>False) L F H):GA P N ops rs Hk (n+1) done K E R L F H:=h_ i b c k
theorem I4(h:∀y∈Hk,y∈H:=by(first|exact fun _ h=>h|(repeat (first|exact sQ|refine nT (by repeat (first|exact List.Mem.head _|apply List.Mem.tail)) ?_)))):∀y∈Hk,y∈H:=h
theorem Tm(h:x∈Hk:=by(repeat (first|exact List.Mem.head _|apply List.Mem.tail))):x∈Hk:=h
end
inductive x6:List As->List As->List As->Prop
 |nil {H:List As}:x6 [] H H
 |cons {x:As} {C H H1 R:List As}:M1 H x [] H1->x6 C H1 R->x6 (x::C) H R
theorem x6.hp{C H R:List As}(h:x6 C H R){F:l6}{w:World}(a:Hp F w H):Hp F w (C++R):=by
 have k:H.Perm (C++R):=by
  clear a
  induction h with
  |nil=>exact .refl _
  |cons u _ ih=>exact(u.perm rfl).trans (ih.cons _)
 exact a.perm k
theorem tk{C H R:List As}(h:x6 C H R:=by(repeat (first|exact .nil|(apply x6.cons;exact ud)))):x6 C H R:=h
section
variable{P:Program}{N:Nat}{K R:y5}{E:List (Nat×y5)}{L:F_}{F:l6}{H Hk:List As}{ops:Array Oper}{rest:List Oper}{o:Oper}{c:Code}{rs:Rs}{done:List Nat}{n j d t:Nat}{b:Bool}{op:Op}{ty:TypeId}{pos:String}{af:Array Edge}{dst:Option Nat}{x:Operand}
theorem a0r(h:GL P N ops (o::rest) K E R L F H):GL P N ops (o::rest) K E R L F H:=h
theorem u_g(h:G P N c K E R L F H):G P N c K E R L F H:=h
theorem a0s(h:GA P N ops rs Hk (n+1) done K E R L F H):GA P N ops rs Hk (n+1) done K E R L F H:=h
theorem No{s:List Nat}{p:Prop}{i:Nat}{a:Option (Nat×Bool)}(h:P3 (i::s) p)(b:ops[i]? =some ⟨dst,.load t x,ty,pos,af,a⟩)(k:GA P N ops rs Hk (n+1) done K E R L F H):GA P N ops rs Hk (n+1) done K E R L F H:=k
theorem Rj{s:List Nat}{p:Prop}{i:Nat}{a:Nat×Bool}(h:P3 (i::s) p)(b:ops[i]? =some ⟨dst,op,ty,pos,af,some a⟩)(k:GA P N ops rs Hk (n+1) done K E R L F H):GA P N ops rs Hk (n+1) done K E R L F H:=k
end
theorem iY{s:List Nat}{g a:Prop}(h:P3 s a)(st:P3 s a->g:=by(
 intro h;(repeat' (first
  |(refine a0r ?_;first
   |(refine Oi ?_;refine r_ oR ?_;replace h:=P3.step h)
   |(refine JZ ?_;refine f_ oF ?_;replace h:=P3.step h)
   |(refine JW ?_;(first|refine bT rfl rfl uh pa rfl rfl ?_|refine FC rfl rfl uh pa rfl rfl ?_);replace h:=P3.step h)
   |(refine JY ?_;first|(refine T3 rfl rfl rfl rfl rfl rfl rfl ?_;replace h:=P3.step h)|(refine X7 rfl rfl rfl rfl rfl rfl ?_;replace h:=P3.step h)|(have:=P3.pos h;clear this;refine A0 rfl rfl rfl ?_))
   |(refine JX ?_;first|exact i7 rfl (P3.last h)|exact bU rfl rfl (P3.last h))
   |(refine Rg ?_;exact M4 rfl (P3.last h))
   |(refine Rf ?_;first|exact m9 rfl rfl (P3.last h)|exact L1 rfl rfl rfl (P3.last h)))
  |(refine a0s ?_;first
   |(refine Rj h rfl ?_;first
    |(refine Ok h rfl rfl rfl rfl rfl rfl rfl rfl i6 ?_;clear h;intro h)
    |(refine CC h rfl rfl rfl rfl rfl rfl rfl i6 ?_;clear h;intro h)
    |(refine No h rfl ?_;first
     |(refine vd h rfl ud (im rfl .del (by rfl)) rfl rfl rfl rfl rfl rfl i6 ?_;clear h;intro h)
     |(refine vd h rfl ud (gj rfl .del ga) rfl rfl rfl rfl rfl rfl i6 ?_;clear h;intro h)
     |(refine rv h rfl Tm (im rfl .del (by rfl)) I4 rfl rfl rfl rfl rfl rfl i6 ?_;clear h;intro h)
     |(refine rv h rfl Tm (gj rfl .del ga) I4 rfl rfl rfl rfl rfl rfl i6 ?_;clear h;intro h)
     |(refine CD h rfl oR I4 rfl rfl rfl rfl rfl rfl i6 ?_;clear h;intro h))
    |(refine FD h rfl oF rfl rfl rfl rfl rfl rfl i6 ?_;clear h;intro h))
   |(refine No h rfl ?_;first
    |(refine FE h rfl ud (im rfl .del (by rfl)) rfl rfl rfl i6 ?_;clear h;intro h)
    |(refine FE h rfl ud (gj rfl .del ga) rfl rfl rfl i6 ?_;clear h;intro h)
    |(refine ve h rfl Tm (im rfl .del (by rfl)) I4 rfl rfl rfl i6 ?_;clear h;intro h)
    |(refine ve h rfl Tm (gj rfl .del ga) I4 rfl rfl rfl i6 ?_;clear h;intro h)
    |(refine Ka h rfl oR I4 rfl rfl rfl i6 ?_;clear h;intro h))
   |(refine Oj h rfl oF rfl rfl rfl i6 ?_;clear h;intro h)
   |refine Ri h rfl i6 ?_)
  |refine F7 ?_
  |refine zM ?_
  |refine mO ?_
  |(refine u_g ?_;first
   |(have:=P3.chk h;clear this;refine T1 ?_)
   |refine sL ?_
   |(have:=P3.chk0 h;clear this;refine o0 ?_)
   |(have:=P3.chk h;clear this;refine o0 ?_)
   |refine sM rfl ?_
   |refine iM rfl ?_
   |refine iN rfl ?_)
  |refine dB (.inl (by decide+kernel)) ?_
  |refine dB (.inr (aS I4)) ?_
  |refine JL (by decide+kernel) ?_))
 all_goals (first|exact h.none|exact h.nb))):g:=st h
theorem wd(s:List Nat){g a:Prop}(h:a)(st:P3 s a->g:=by exact fun h=>iY h):g:=st ⟨h⟩
theorem J_(n:Nat){g a:Prop}(h:a)(st:P3 (List.replicate n 0++[7]) a->g:=by exact fun h=>iY h):g:=st ⟨h⟩
theorem wk(n:Nat){g a:Prop}(h:a)(st:P3 (List.replicate n 0) a->g:=by exact fun h=>iY h):g:=st ⟨h⟩
theorem xn{g g1 a:Prop}(h:a)(s1:g1->g:=by exact F7)(b:a->g1:=by exact dB (.inl i6)):g:=s1 (b h)
theorem Y5{g g1 a:Prop}(h:a)(s1:g1->g:=by exact F7)(b:a->g1:=by exact dB (.inr (aS I4))):g:=s1 (b h)
theorem E5(s:List Nat){g g1 a g3:Prop}(h:g3)(s1:g1->g:=by exact F7)(b:a->g1:=by exact dB (.inl i6))(st:P3 s g3->a:=by exact fun h=>iY h):g:=s1 (b (st ⟨h⟩))
theorem gk(s:List Nat){g g1 a g3:Prop}(h:g3)(s1:g1->g:=by exact F7)(b:a->g1:=by exact dB (.inr (aS I4)))(st:P3 s g3->a:=by exact fun h=>iY h):g:=s1 (b (st ⟨h⟩))
theorem O1{g g1 a g3:Prop}(h:a)(b:g3)(st:P3 (List.replicate 0 0) g1->g:=by exact fun h=>iY h)(c:a->g3->g1:=by exact o8 rfl):g:=st ⟨c h b⟩
theorem R6{g g1 a g3:Prop}(h:a)(b:g3)(st:P3 (List.replicate 1 0) g1->g:=by exact fun h=>iY h)(c:a->g3->g1:=by exact o8 rfl):g:=st ⟨c h b⟩
theorem bt{g g1 a g3:Prop}(h:a)(b:g3)(st:P3 (List.replicate 2 0) g1->g:=by exact fun h=>iY h)(c:a->g3->g1:=by exact o8 rfl):g:=st ⟨c h b⟩
theorem eE{g g1 a g3:Prop}(h:a)(b:g3)(st:P3 (List.replicate 3 0) g1->g:=by exact fun h=>iY h)(c:a->g3->g1:=by exact o8 rfl):g:=st ⟨c h b⟩
theorem EH{g g1 a g3:Prop}(h:a)(b:g3)(st:P3 (List.replicate 4 0) g1->g:=by exact fun h=>iY h)(c:a->g3->g1:=by exact o8 rfl):g:=st ⟨c h b⟩
theorem u7{g g1:Prop}(h:g1)(st:P3 (List.replicate 0 0) g1->g:=by exact fun h=>iY h):g:=st ⟨h⟩
theorem p9{g g1:Prop}(h:g1)(st:P3 (List.replicate 1 0) g1->g:=by exact fun h=>iY h):g:=st ⟨h⟩
theorem z_{g g1:Prop}(h:g1)(st:P3 (List.replicate 2 0) g1->g:=by exact fun h=>iY h):g:=st ⟨h⟩
theorem E6{g g1:Prop}(h:g1)(st:P3 (List.replicate 3 0) g1->g:=by exact fun h=>iY h):g:=st ⟨h⟩
theorem O2{g g1:Prop}(h:g1)(st:P3 (List.replicate 4 0) g1->g:=by exact fun h=>iY h):g:=st ⟨h⟩
theorem aF{g g1:Prop}(h:g1)(st:P3 (List.replicate 5 0) g1->g:=by exact fun h=>iY h):g:=st ⟨h⟩
theorem cH{g g1:Prop}(h:g1)(st:P3 (List.replicate 6 0) g1->g:=by exact fun h=>iY h):g:=st ⟨h⟩
theorem oe{g g1 a:Prop}(h:a)(st:P3 (List.replicate 0 0) g1->g:=by exact fun h=>iY h)(b:a->g1:=by exact A3):g:=st ⟨b h⟩
theorem C8{g g1 a:Prop}(h:a)(st:P3 (List.replicate 1 0) g1->g:=by exact fun h=>iY h)(b:a->g1:=by exact A3):g:=st ⟨b h⟩
theorem L6{g g1 a:Prop}(h:a)(st:P3 (List.replicate 2 0) g1->g:=by exact fun h=>iY h)(b:a->g1:=by exact A3):g:=st ⟨b h⟩
theorem bM{g g1 a:Prop}(h:a)(st:P3 (List.replicate 3 0) g1->g:=by exact fun h=>iY h)(b:a->g1:=by exact A3):g:=st ⟨b h⟩
theorem Jl{g g1 a:Prop}(h:a)(st:P3 (List.replicate 4 0) g1->g:=by exact fun h=>iY h)(b:a->g1:=by exact A3):g:=st ⟨b h⟩
theorem Jo{g g1 a:Prop}(h:a)(st:P3 (List.replicate 5 0) g1->g:=by exact fun h=>iY h)(b:a->g1:=by exact A3):g:=st ⟨b h⟩
theorem Np{g g1 a:Prop}(h:a)(st:P3 (List.replicate 6 0) g1->g:=by exact fun h=>iY h)(b:a->g1:=by exact A3):g:=st ⟨b h⟩
theorem Ke{g g1 a:Prop}(h:a)(st:P3 (List.replicate 7 0) g1->g:=by exact fun h=>iY h)(b:a->g1:=by exact A3):g:=st ⟨b h⟩
theorem Nq{g g1 a:Prop}(h:a)(st:P3 (List.replicate 8 0) g1->g:=by exact fun h=>iY h)(b:a->g1:=by exact A3):g:=st ⟨b h⟩
theorem C6{g g1 a:Prop}(h:a)(st:P3 (List.replicate 0 0) g1->g:=by exact fun h=>iY h)(b:a->g1:=by exact T1):g:=st ⟨b h⟩
theorem xp{g g1 a:Prop}(h:a)(st:P3 (List.replicate 1 0) g1->g:=by exact fun h=>iY h)(b:a->g1:=by exact T1):g:=st ⟨b h⟩
theorem PY{g g1 a:Prop}(h:a)(st:P3 (List.replicate 2 0) g1->g:=by exact fun h=>iY h)(b:a->g1:=by exact T1):g:=st ⟨b h⟩
end Go.Sl
namespace Go.Proofs.YtmcepdopookilaaGreatDoor
open Go Go.Sl Go.Proofs.Tryz
theorem W_{P:Program}{t:TypeId}{fs:Array Field}{pl:List (Nat×Nat)}(hu:P.underlying t=some (.struct fs))(hp:fs.toList.map (fun f=>(f.offset,P.cellsOf f.type))=pl)(a:(fs.toList.all fun f=>(P.info? f.type).isSome)=true):Rh P t fs pl:=⟨hu,hp,a⟩
abbrev b30:=W_ (pl:=[(0,1),(1,1),(2,1)]) underlying30 i6 i6
abbrev b36:=W_ (pl:=[(0,1),(1,1),(2,1),(3,1),(4,1),(5,1),(6,1),(7,1),(8,1),(9,1),(10,1),(11,1),(12,1),(13,1),(14,1),(15,1),(16,1)]) underlying36 i6 i6
abbrev b41:=W_ (pl:=[(0,1),(1,1)]) underlying41 i6 i6
abbrev b44:=W_ (pl:=[(0,1),(1,1),(2,1),(3,1),(4,1),(5,1),(6,1),(7,1),(8,1),(9,1),(10,1),(11,1),(12,1),(13,1),(14,1),(15,1),(16,1)]) underlying44 i6 i6
abbrev b48:=W_ (pl:=[(0,27),(27,27),(54,2),(56,1),(57,1),(58,1),(59,23),(82,17)]) underlying48 i6 i6
abbrev b51:=W_ (pl:=[(0,1),(1,1),(2,1),(3,1),(4,1),(5,1),(6,1),(7,1),(8,1),(9,1)]) underlying51 i6 i6
abbrev b62:=W_ (pl:=[(0,1),(1,1),(2,1),(3,1),(4,1),(5,1)]) underlying62 i6 i6
abbrev b65:=W_ (pl:=[(0,27),(27,6),(33,17),(50,1),(51,1)]) underlying65 i6 i6
abbrev b70:=W_ (pl:=[(0,1),(1,2),(3,1),(4,17)]) underlying70 i6 i6
abbrev b72:=W_ (pl:=[(0,1),(1,1)]) underlying72 i6 i6
abbrev b86:=W_ (pl:=[(0,1),(1,1),(2,1),(3,1),(4,1)]) underlying86 i6 i6
abbrev b95:=W_ (pl:=[(0,1),(1,1)]) underlying95 i6 i6
abbrev a0t:=W_ (pl:=[(0,1),(1,1),(2,1),(3,1),(4,1)]) underlying100 i6 i6
abbrev a0u:=W_ (pl:=[(0,1),(1,1),(2,1),(3,1),(4,1)]) underlying102 i6 i6
abbrev a0v:=W_ (pl:=[(0,1),(1,1),(2,1)]) underlying104 i6 i6
abbrev a0w:=W_ (pl:=[(0,1),(1,1),(2,1),(3,1),(4,1),(5,1)]) underlying110 i6 i6
abbrev a0x:=W_ (pl:=[(0,1),(1,1),(2,1),(3,1),(4,1),(5,1)]) underlying127 i6 i6
abbrev a0y:=W_ (pl:=[(0,1),(1,1),(2,1),(3,1),(4,1)]) underlying129 i6 i6
abbrev a0z:=W_ (pl:=[(0,6),(6,17),(23,5)]) underlying136 i6 i6
abbrev a0A:=W_ (pl:=[(0,27),(27,23)]) underlying141 i6 i6
abbrev a0B:=W_ (pl:=[(0,1),(1,17),(18,6),(24,5),(29,5),(34,1),(35,1),(36,10)]) underlying149 i6 i6
abbrev a0C:=W_ (pl:=[(0,1),(1,1),(2,1),(3,1),(4,1)]) underlying156 i6 i6
abbrev a0D:=W_ (pl:=[(0,1),(1,1)]) underlying178 i6 i6
abbrev a0E:=W_ (pl:=[(0,1),(1,1),(2,17)]) underlying211 i6 i6
abbrev a0F:=W_ (pl:=[(0,1),(1,1),(2,1)]) underlying214 i6 i6
abbrev a0G:=W_ (pl:=[]) underlying219 i6 i6
abbrev a0H:=W_ (pl:=[(0,1),(1,1),(2,1)]) underlying225 i6 i6
abbrev a0I:=W_ (pl:=[(0,1),(1,1)]) underlying327 i6 i6
abbrev a0J:=W_ (pl:=[(0,1),(1,1),(2,1)]) underlying333 i6 i6
abbrev a0K:=W_ (pl:=[(0,1),(1,1)]) underlying340 i6 i6
abbrev a0L:=W_ (pl:=[(0,1),(1,5)]) underlying371 i6 i6
attribute [instance] b30 b36 b41 b44 b48 b51 b62 b65 b70 b72 b86 b95 a0t a0u a0v a0w a0x a0y a0z a0A a0B a0C a0D a0E a0F a0G a0H a0I a0J a0K a0L
end Go.Proofs.YtmcepdopookilaaGreatDoor
namespace Go.Sl
open Go Go.RowKit Go.Proofs.Tryz
class Mn(p:l9->Prop):Prop where
 le:∀{h h':l9},l9.le h h'->p h->p h'
instance {a:Option Addr} {xs:List Value}:Mn (fun h=>n9 h a xs):=⟨fun l r=>r.le l⟩
instance {p q:l9->Prop} [a:Mn p] [b:Mn q]:Mn (fun h=>p h/\q h):=⟨fun l r=>⟨a.le l r.1,b.le l r.2⟩⟩
instance {p:Prop}:Mn (fun _=>p):=⟨fun _ r=>r⟩
theorem x6.left{A H R:List As}(h:x6 A H R){F:l6}{w:World}(a:Hp F w H):Hp F w A:=(h.hp a).left
def Cm(P:Program)(f:FuncId)(args:List Value)(Pre:l9->Prop)(C:List As)(Q:l9->Value->List As->Prop):Prop:=
 ∀(F:l6) (R:List As) (w:World),Hp F w (C++R)->Pre F.heap->Calls P f args.toArray w fun e w'=>∃v A F',e=.returned v/\F.le F'/\Q F'.heap v A/\Hp F' w' (A++R)
def CE(P:Program)(fn:Func)(F0:l6)(R:List As)(Q:l9->Value->List As->Prop):y5:=fun a w=>∃v A F',(results fn a.tmps).run P w=.ok v w/\F0.le F'/\Q F'.heap v A/\Hp F' w (A++R)/\a.defers=[]
theorem x7{P:Program}{f:FuncId}{fn:Func}{c:Code}{args:List Value}{d:l9->Prop}{C:List As}{Q:l9->Value->List As->Prop}(N:Nat)(hf:P.funcs[f]? =some fn)(r:fn.body=some c)(s:fn.ntmps=N)(i:Nat.ble args.length N=true)(h:∀(F:l6) (R:List As),d F.heap->G P N c (CE P fn F R Q) [] (CE P fn F R Q) (au 0 args) F (C++R)):Cm P f args d C Q:=by
 intro F R w t g;refine calls_of_wp hf r ?_;rw[s];have b:=h F R g;unfold G at b;refine Code.wp_mono (fun e a u q=>?_) (b _ w (T2 N args i) t)
 cases e with
 |normal=>obtain⟨v,A,j,b,m,n,o,p⟩:=q;exact⟨p,v,b,v,A,j,rfl,m,n,o⟩
 |ret=>obtain⟨v,A,j,b,m,n,o,p⟩:=q;exact⟨p,v,b,v,A,j,rfl,m,n,o⟩
 |exit id=>simp[MQ] at q
 |goto l=>exact q.elim
 |panic ch=>rcases q with⟨k,v,h,_⟩|⟨k,v,h,_⟩<;>cases h
 |outgrown=>exact q.elim
theorem Cm.of_ct{P:Program}{f:FuncId}{args:List Value}{g:l9->Prop}{C:List As}{a:Value->List As->Prop}(h:Ct P f args g C a){Pre':l9->Prop}(l:∀x y,l9.le x y->Pre' x->g y):Cm P f args Pre' C (fun _ v A=>a v A):=by
 intro F R w m i;obtain⟨D,hs,r,j⟩:=m.own;obtain⟨n,J,e,k,p⟩:=A1.split hs;subst e;refine(h w n k (jr.1 r).1 (l _ _ (fun b o q=>?_) i)).mono ?_
 ·have s:=m.keep b o q;have t:b∉n:=fun u=>by rw[j b (by simp[u])] at q;cases q
  have z:E4 w n b=w.heap[b]?:=by simp[E4,t]
  rw[z];exact s
 ·rintro e M ⟨v,A,rfl,c,d⟩;exact⟨v,A,F,rfl,l6.le_refl _,c,m.back k p r j d⟩
theorem G9{P:Program}{N:Nat}{L:F_}{F b:l6}{H R A:List As}{fn:Func}{Q:l9->Value->List As->Prop}{v:Value}(hl:b.le F)(hq:Q F.heap v A)(h:At N (dj P fn F (fun v' c=>v'=v/\c=A++R)) L F H):At N (CE P fn b R Q) L F H:=by
 unfold At at h⊢;intro a w hf d;obtain⟨v',c,e,⟨rfl,rfl⟩,f,g⟩:=h a w hf d;exact⟨_,A,F,e,hl,hq,f,g⟩
section
variable{P:Program}{N:Nat}{K R:y5}{E:List (Nat×y5)}{L:F_}{F:l6}{H:List As}{ops:Array Oper}{rest:List Oper}{ty:TypeId}{pos:String}{af:Array Edge}{dst:Option Nat}{gd:Option (Nat×Bool)}{x:Operand}
theorem rx{o:Oper}{d:Nat}{f:FuncId}{vs:List Value}{b:l9->Prop}{C Rr:List As}{Q:l9->Value->List As->Prop}(hg:o.guard=none)(c:o.dst=some d)(l:Nat.blt d N=true)(g:∀ρ w,EU L ρ->(execOp ρ o).run P w=.ok (.enter f vs.toArray) w)(hc:Cm P f vs b C Q)(hH:x6 C H Rr)(h:b F.heap)(k:∀v A i,F.le i->Q i.heap v A->GL P N ops rest K E R ((d,v)::L) i (A++Rr)):GL P N ops (o::rest) K E R L F H:=by
 unfold GL at k⊢;intro a w hf m;refine wpList_plain hg fun r n=>?_;unfold Oper.wp;rw[g _ w hf.agr,Oper.upon_enter];refine(hc F Rr w (hH.hp m) h).mono ?_;rintro e s ⟨v,A,i,rfl,p,q,j⟩;rw[c];exact n _ _ (k v A i p q _ _ (hf.put l v) j)
theorem A8{d:Nat}{f:FuncId}{args:List Operand}{c:Array TypeId}{vs:List Value}{a:l9->Prop}{C Rr:List As}{Q:l9->Value->List As->Prop}[HF P f](hc:Cm P f vs a C Q)(b:a F.heap)(k:∀v A e,F.le e->Q e.heap v A->GL P N ops rest K E R ((d,v)::L) e (A++Rr))(hx:ri L args=some vs:=by rfl)(hH:x6 C H Rr:=by exact tk)(g:Nat.blt d N=true:=by rfl):
  GL P N ops (⟨some d,.call ⟨.value (.func f),args.toArray,c⟩,ty,pos,af,none⟩::rest) K E R L F H:=
 rx rfl rfl g (fun ρ w hf=>aQ hx hf w) hc hH b k
theorem ry{d:Nat}{f:FuncId}{args:List Operand}{g:Array TypeId}{vs ps qs a:List Value}{b:l9->Prop}{C Rr:List As}{Q:l9->Value->List As->Prop}[hF:HF P f](hc:Cm P f a b C Q)(c:b F.heap)(k:∀v A h,F.le h->Q h.heap v A->GL P N ops rest K E R ((d,v)::L) h (A++Rr))(hv:ev L x=some (.func (.func f) ps.toArray qs.toArray):=by rfl)(hx:ri L args=some vs:=by rfl)(e:ps++vs++qs=a:=by rfl)(hH:x6 C H Rr:=by exact tk)(i:Nat.blt d N=true:=by rfl):
  GL P N ops (⟨some d,.call ⟨.value x,args.toArray,g⟩,ty,pos,af,none⟩::rest) K E R L F H:=
 rx rfl rfl i (fun ρ w hf=>by
  have j:=hf _ _ hv;have l:=aP hf hx;subst e;simp only[execOp,resolve,j,Deferred.ofValue,Zy,l,Sem.run_bind,Sem.run_pure,Result.andThen_ok,invoke];have:(ps.toArray++vs.toArray++qs.toArray:Array Value)=(ps++vs++qs).toArray:=by simp
  rw[this];exact hF.h _ w) hc hH c k
theorem c_{d:Nat}{f:FuncId}{args:List Operand}{e:Array TypeId}{vs:List Value}{b:l9->Prop}{C Rr:List As}{a:Value->List As->Prop}[HF P f](hc:Ct P f vs b C a)(c:∀h,l9.le F.heap h->(∃bs,A1 h Rr bs)->b h)(k:∀v A,a v A->GL P N ops rest K E R ((d,v)::L) F (A++Rr))(hx:ri L args=some vs:=by rfl)(hH:x6 C H Rr:=by exact tk)(g:Nat.blt d N=true:=by rfl):
  GL P N ops (⟨some d,.call ⟨.value (.func f),args.toArray,e⟩,ty,pos,af,none⟩::rest) K E R L F H:=
 x4 Rr hx hc (fun w i=>hH.hp i) c g k
theorem Ac{Z Rr:List As}(hH:x6 Z H Rr)(k:∀a,F.le a->(∃bs,A1 a.heap Z bs)->GL P N ops rest K E R L a Rr):GL P N ops rest K E R L F H:=
 I6 (H':=Rr++Z) (fun w b=>(hH.hp b).perm kz) (rm k)
theorem B8{c:Code}{Z Rr:List As}(hH:x6 Z H Rr)(k:∀a,F.le a->(∃bs,A1 a.heap Z bs)->G P N c K E R L a Rr):G P N c K E R L F H:=
 D6 (H':=Rr++Z) (fun w b=>(hH.hp b).perm kz) (bS k)
end
inductive Nr:List As->List As->Prop
 |nil {R:List As}:Nr R R
 |cons {x:As} {R H:List As}:Nr R H->Nr R (x::H)
theorem Nr.hp{R H:List As}(h:Nr R H){F:l6}{w:World}(a:Hp F w H):Hp F w R:=by
 induction h with
 |nil=>exact a
 |cons _ ih=>exact ih a.drop
theorem sfx{R H:List As}(h:Nr R H:=by(repeat (first|exact .nil|refine .cons ?_))):Nr R H:=h
theorem fle{F a:l6}(h:F.le a:=by(first|exact l6.le_refl _|assumption|exact l6.le.trans (by assumption) (by assumption))):F.le a:=h
section
variable{P:Program}{N:Nat}{K R:y5}{E:List (Nat×y5)}{L:F_}{F F0:l6}{H R0:List As}{ops:Array Oper}{rest:List Oper}{ty:TypeId}{pos:String}{af:Array Edge}{dst:Option Nat}{gd:Option (Nat×Bool)}{x:Operand}{Pq Pq':Value->Prop}
end
section
variable{P:Program}{N:Nat}{K R:y5}{E:List (Nat×y5)}{L:F_}{F:l6}{H R0:List As}{ops:Array Oper}{rest:List Oper}{ty:TypeId}{pos:String}{af:Array Edge}{dst:Option Nat}{gd:Option (Nat×Bool)}{x:Operand}{Pq Pq':Value->Prop}
end
section
variable{P:Program}{N:Nat}{K R:y5}{E:List (Nat×y5)}{L:F_}{F:l6}{H:List As}{ops:Array Oper}{rest:List Oper}{ty:TypeId}{pos:String}{af:Array Edge}{t:TypeId}
theorem r8{α:Type}(C:α->List Value){l m:List α}{d:Nat}{s x:Operand}{a b:Option Addr}{c r sz:Nat}{e:TypeId}{H':Option Addr->Nat->List As}{z:Value}{i:TypeInfo}[hu:HU P t (.slice e)][hz:HZ P e z][hi:HI P e i][hs:HS P e sz](v:∀x,(C x).length=sz)(y:∀x,∀q∈C x,q.oneCell'=true)(g:(l.length+m.length)*i.bytes<=140737488355328)(h:∀j f,(l++m).length<=f->GL P N ops rest K E R ((d,.slice j (l++m).length f)::L) F (H' j f))(k:ev L s=some (.slice a l.length c):=by rfl)(n:ev L x=some (.slice b m.length r):=by rfl)(u:∀j f,M1 H (.own (.slice a l.length c) e sz (l.flatMap C)) [.own (.slice j (l++m).length f) e sz ((l++m).flatMap C)] (H' j f):=by exact fun _ _=>uh)(hsrc:∀w,Hp F w H->JJ (hp w) b (m.flatMap C):=by exact fun w A=>(A.ownN ud).2.2.1)(h63:l.length+m.length<=9223372036854775807:=by(first|omega|(simp only[zx,z6];omega)))(o:Nat.blt 0 sz=true:=by rfl)(p:z.cells.size=sz:=by rfl)(D:Nat.blt d N=true:=by rfl):
  GL P N ops (⟨some d,.call ⟨.builtin .append,#[s,x],#[t,t]⟩,ty,pos,af,none⟩::rest) K E R L F H:=
 B_ k n (H':=H') (fun j f=>by have:=u j f;rw[zz,Z6] at this;exact this) hsrc (M6 v m) o p (cF y m) g h63 D fun j f hc=>by
  have:=h j f (by rw[zz];exact hc);rw[zz] at this;exact this
theorem C4{α:Type}(C:α->List Value)(y:α){d:Nat}{x:Operand}{e:TypeId}{z v:Value}{sz:Nat}[hu:HU P t (.slice e)][hz:HZ P e z][hs:HS P e sz](hv:v.cells.toList=C y)(h:∀a,(∃f,a=some f)->GL P N ops rest K E R ((d,.slice a 1 1)::L) F (.own (.slice a [y].length 1) e sz ([y].flatMap C)::H))(hx:ev L x=some v:=by rfl)(c:Nat.ble (1*sz) 16777216=true:=by rfl)(hp:Nat.blt 0 (1*sz)=true:=by rfl)(b:Nat.beq v.cells.size sz=true:=by rfl)(g:Nat.blt d N=true:=by rfl):
  GL P N ops (⟨some d,.buildSlice t 1 #[(0,x)],ty,pos,af,none⟩::rest) K E R L F H:=
 x5 (ps:=[(0,x)]) (vs:=[(0,v)]) (xs:=[y].flatMap C) (by simp[zP,hx]) c hp rfl (by simp[b]) rfl (by simp[hv]) g h
variable{α:Type}{C:α->List Value}{sz:Nat}
theorem dH{h:l9}{a:Option Addr}{l:List α}{q i j:Nat}{v:Value}(r:n9 h a (l.flatMap C))(c:∀x,(C x).length=sz)(b:i<l.length)(hv:(C l[i])[j]? =some v)(hq:q=i*sz+j):L4 h (M8 a q) [v]:=by
 refine JN r c l[i] (i:=i) (j:=j) (by rw[hq,W4]) b ?_
 rwa [show l.getD i l[i]=l[i] from by simp[List.getD,b]]
theorem fm{h:l9}{a:Option Addr}{l:List α}{q i:Nat}(r:n9 h a (l.flatMap C))(d:∀x,(C x).length=sz)(b:0<sz)(c:i<l.length)(hq:q=i*sz):L4 h (M8 a q) (C l[i]):=by
 have:=sR r d b l[i] (q:=q) (i:=i) (by rw[hq,W4]) c
 rwa [show l.getD i l[i]=l[i] from by simp[List.getD,c]] at this
theorem aw(a:∀x,(C x).length=sz):∀(l:List α) (i:Nat),(l.flatMap C).take (i*sz)=(l.take i).flatMap C
 |l,0=>by simp
 |[],i+1=>by simp
 |x::l,i+1=>by
  rw[Q1,List.take_succ_cons,Q1,show(i+1)*sz=(C x).length+i*sz from by rw[a,Qr];omega,Wy,aw a l i]
theorem kT(a:∀x,(C x).length=sz):∀(l:List α) (i:Nat),(l.flatMap C).drop (i*sz)=(l.drop i).flatMap C
 |l,0=>by simp
 |[],i+1=>by simp
 |x::l,i+1=>by
  rw[Q1,Ww,show(i+1)*sz=(C x).length+i*sz from by rw[a,Qr];omega,K0,kT a l i]
theorem Kf(b:∀x,(C x).length=sz){l:List α}{i j:Nat}{y:α}{vs:List Value}(a:i<l.length)(c:j+vs.length<=sz)(d:C y=L5 (C l[i]) j vs):L5 (l.flatMap C) (i*sz+j) vs=(l.set i y).flatMap C:=by
 have e:l=l.take i++l[i]::l.drop (i+1):=by rw[<-Qu a,js]
 have f:l.set i y=l.take i++y::l.drop (i+1):=by rw[Zp,zu a]
 have g:((l.take i).flatMap C).length=i*sz:=by rw[M6 b,zn,Jy (Jc a)]
 have h:l.flatMap C=(l.take i).flatMap C++C l[i]++(l.drop (i+1)).flatMap C:=by
  conv=>lhs;rw[e]
  rw[Z6,Q1,zh]
 rw[f,Z6,Q1,d,<-zh,h,<-g];exact fp _ _ _ _ _ (by rw[b];exact c)
theorem A9{l:List α}{i j:Nat}(d:α){a:Option Addr}{len c q n:Nat}{te:TypeId}{v:Value}{x y:Operand}{H':List As}[hs:HS P t n](e:∀x,(C x).length=sz)(f:i<l.length)(g:C d=L5 (C l[i]) j v.cells.toList)(h:GL P N ops rest K E R L F H')(hx:ev L x=some (.pointer (M8 a q)):=by rfl)(hv:ev L y=some v:=by rfl)(u:M1 H (.own (.slice a len c) te sz (l.flatMap C)) [.own (.slice a len c) te sz ((l.set i d).flatMap C)] H':=by exact uh)(k:Nat.beq v.cells.size n=true:=by rfl)(b:Nat.blt 0 n=true:=by rfl)(m:(v.cells.toList.all fun q=>q.oneCell')=true:=by rfl)(o:Nat.ble (j+n) sz=true:=by rfl)(hq:q=i*sz+j:=by simp):GL P N ops (⟨none,.store t x y,ty,pos,af,none⟩::rest) K E R L F H:=by
 have p:=jn k;have r:j+n<=sz:=by simpa[Jv] using o
 refine T9 (te:=te) (len:=len) (c:=c) (sz:=sz) (xs:=l.flatMap C) hx hv (H':=H') ?_ p (by simpa[Kb] using b) (fun q hq=>Qx.1 m q hq) ?_ h
 ·rw[hq,Kf e f (by simp;omega) g];exact u
 ·rw[M6 e,hq];have:(i+1)*sz<=l.length*sz:=Qw _ f;rw[Qr] at this;omega
end
end Go.Sl
namespace Go.Proofs.YtmcepdopookilaaGreatDoor.Rp
open Go Go.Sl Go.RowKit Go.Proofs.Tryz
abbrev m6(b:Nat):Value:=.pointer (some ⟨b,0,none⟩)
def fV(l:List Bs):List Value:=l.map fun f=>B f
theorem L7(l:List Bs):(fV l).length=l.length:=by simp[fV]
theorem kU(l:List Bs):∀q∈fV l,q.oneCell'=true:=fun q a=>by
 obtain⟨x,_,rfl⟩:=jw.mp a;rfl
theorem gn(a b:List Bs):fV (a++b)=fV a++fV b:=by simp[fV]
abbrev A4(a:Option Addr)(l:List Bs)(c:Nat):As:=.own (.slice a l.length c) 9 1 (fV l)
theorem bV{h:l9}{a:Option Addr}{l:List Bs}{i:Nat}(r:n9 h a (fV l))(c:i<l.length):∃b,a=some b:=by
 obtain⟨b,e,_⟩:=r (by intro e;have:=jk List.length e;rw[L7] at this;simp at this;subst this;simp at c);exact⟨b,e⟩
theorem Ol{F:l6}{w:World}{H:List As}{a:Option Addr}{l:List Bs}(b:Hp F w H)(r:n9 F.heap a (fV l)){q i:Nat}(h:q=i)(c:i<l.length):L4 (hp w) (M8 a q) [B (l.getD i [])]:=
 mP b r x8 (fun j u hu=>by
  match j,hu with
  |0,hu=>
   simp at hu;subst hu h;simp[fV,c])
theorem Ns{l:List Bs}{k:Nat}(a:k<l.length):l.take (k+1)=l.take k++[l.getD k []]:=by
 rw[kj a,zb,zj a];rfl
theorem dI{l:List Bs}{k:Nat}(a:k<l.length):l.getD k []∈l:=by
 rw[zb,zj a];exact zy a
structure VM where
 v:RV
 a:Option Addr
 c:Nat
abbrev Om:VM:=⟨V0,none,0⟩
abbrev vf(x:VM):List Value:=[.int .i64 x.v.kind,.int .u64 (x.v.n:Nat),.slice x.a x.v.a5c.length x.c,B x.v.text,.bool x.v.part,.int .u64 (x.v.fr:Nat)]
abbrev vmA(x:VM):Value:=.agg #[.int .i64 x.v.kind,.int .u64 (x.v.n:Nat),.slice x.a x.v.a5c.length x.c,B x.v.text,.bool x.v.part,.int .u64 (x.v.fr:Nat)]
abbrev On(l:List VM):List Value:=l.flatMap vf
theorem mS:∀x,(vf x).length=6:=fun _=>rfl
theorem mT:∀x,∀q∈vf x,q.oneCell'=true:=fun x q a=>by simp at a;rcases a with rfl|rfl|rfl|rfl|rfl|rfl<;>rfl
def nV(l:List Nat):List Value:=l.map fun n=>.int .u64 (n:Nat)
theorem sU(l:List Nat):(nV l).length=l.length:=by simp[nV]
theorem io(l:List Nat):∀q∈nV l,q.oneCell'=true:=fun q a=>by
 obtain⟨x,_,rfl⟩:=jw.mp a;rfl
theorem ay(a b:List Nat):nV (a++b)=nV a++nV b:=by simp[nV]
structure RL where
 na:Option Addr
 nc:Nat
 fa:Option Addr
 fc:Nat
 va:Option Addr
 vc:Nat
 vs:List VM
abbrev L0:RL:=⟨none,0,none,0,none,0,[]⟩
abbrev sV(r:RR)(x:RL):List Value:=[.int .i64 r.kind,B r.tag,B r.code,B r.text,.int .u64 (r.n:Nat),.slice x.na r.nums.length x.nc,.int .u64 (r.mod:Nat),.slice x.fa r.a5c.length x.fc,B r.box,.slice x.va x.vs.length x.vc]
abbrev Ki(r:RR)(x:RL):Value:=.agg #[.int .i64 r.kind,B r.tag,B r.code,B r.text,.int .u64 (r.n:Nat),.slice x.na r.nums.length x.nc,.int .u64 (r.mod:Nat),.slice x.fa r.a5c.length x.fc,B r.box,.slice x.va x.vs.length x.vc]
structure fB(r:RR)(x:RL)(h:l9):Prop where
 vals:r.values=x.vs.map VM.v
 nums:n9 h x.na (nV r.nums)
 a5c:n9 h x.fa (fV r.a5c)
 vs:n9 h x.va (On x.vs)
 fs:∀m∈x.vs,n9 h m.a (fV m.v.a5c)
theorem fB.le{r:RR}{x:RL}{h a:l9}(k:fB r x h)(hl:l9.le h a):fB r x a:=⟨k.vals,k.nums.le hl,k.a5c.le hl,k.vs.le hl,fun m b=>(k.fs m b).le hl⟩
theorem dJ{h:l9}{bs:List Nat}{a:Option Addr}{n c sz:Nat}{t:TypeId}{xs:List Value}{H:List As}(hs:A1 h H bs)(b:As.own (.slice a n c) t sz xs∈H):n9 h a xs:=by
 obtain⟨A,C,rfl⟩:=Wb b;obtain⟨e,f,rfl,_,d⟩:=A1.split hs;exact A1.rd d .del
structure Gl(h:l9):Prop where
 m:∃m t fr,h 0=some (.cells #[.int .i64 m] t fr)
 tab:∃t fr,h 1=some (.cells (Lib.pow10Tab.map fun z=>Value.int .u64 z).toArray t fr)
 syn:∃e t fr,h 4=some (.cells #[e] t fr)/\(e=.nilIface\/∃te pe,e=.iface te pe)
 rng:∃e t fr,h 5=some (.cells #[e] t fr)/\(e=.nilIface\/∃te pe,e=.iface te pe)
theorem Gl.le{h n:l9}(g:Gl h)(hl:l9.le h n):Gl n:=by
 obtain⟨⟨a,b,c,o⟩,⟨d,e,p⟩,⟨f,i,j,q,k3⟩,⟨k,l,m,r,k4⟩⟩:=g;exact⟨⟨a,b,c,hl _ _ o⟩,⟨d,e,hl _ _ p⟩,⟨f,i,j,hl _ _ q,k3⟩,⟨k,l,m,hl _ _ r,k4⟩⟩
theorem Gl.tabIs{w:World}(g:Gl (hp w)):Lib.TabIs prog w "internal/strconv.uint64pow10" .u64 Lib.pow10Tab:=by
 obtain⟨t,a,h⟩:=g.tab;have b:prog.globalNamed "internal/strconv.uint64pow10"=some 1:=by kernel_rfl
 have c:w.heap[1]? =some (.cells (Lib.pow10Tab.map fun z=>Value.int .u64 z).toArray t a):=h;unfold Lib.TabIs World.var?;rw[b];simp only[zr,c]
theorem dK{P:Program}{f:FuncId}{args:List Value}{d:l9->Prop}{v:Value}(h:∀w,d (hp w)->Calls P f args.toArray w fun e w'=>e=.returned v/\Below w.heap.size w w'):Pu P f args d v:=by
 intro w k g l c;have m:k=[]:=g;subst m;rw[N1] at c;refine(h w c).mono ?_;rintro e w' ⟨rfl,a⟩;refine⟨v,[],rfl,qh,a.os,a.tape,a.output,fun b o i=>?_,[],rfl,Zj,by simp⟩;have j:w.heap[b]? =some o:=bO w [] b o i;have n:b<w.heap.size:=(kp.1 j).1;show w'.heap[b]? =_;rw[a.block b n];exact j
theorem U0{P:Program}{f:FuncId}{args:List Value}{a:l9->Prop}{v:Value}(h:∀w,a (hp w)->Calls P f args.toArray w fun e w'=>e=.returned v/\w'=w):Pu P f args a v:=
 dK fun w c=>(h w c).mono fun e w' ⟨d,b⟩=>⟨d,b▸Below.refl _ _⟩
theorem Z_(s p:Bs):Pu prog 90 [B s,B p] (fun _=>True) (.bool (p.isPrefixOf s)):=U0 fun w _=>Tryz.strings_HasPrefix ⟨s.toArray⟩ ⟨p.toArray⟩ w
theorem eF(s:Bs)(c:UInt8):Lib.indexByte s c=if s.contains c=true then((s.takeWhile fun x=>x !=c).length:Int) else-1:=by
 induction s with
 |nil=>rfl
 |cons a t ih=>
  rw[Lib.indexByte];by_cases h:a=c
  ·subst h;simp
  ·have d:(a==c)=false:=(by simpa using h);have b:(c==a)=false:=(by simpa using fun e:c=a=>h e.symm);rw[d,ih];simp only[Wg,b,Kr,Q8,bne,d,Bool.not_false,if_true];by_cases hc:t.contains c=true
   ·simp only[hc,if_true];have:((t.takeWhile fun x=>!(x==c)).length:Int)≠ -1:=(by omega);simp[this]
   ·simp only[hc];rfl
theorem aa(s:Bs)(c:UInt8):Pu prog 48 [B s,.int .u8 (c.toNat:Nat)] (fun _=>True) (.int .i64 (Lib.indexByte s c)):=U0 fun w _=>by
 have:=Tryz.strings_IndexByte ⟨s.toArray⟩ (c.toNat:Nat) w;have e:((c.toNat:Nat):Int).toNat.toUInt8=c:=by simp
 rwa [e] at this
theorem iZ(n:Nat):Lib.decDigits n=R4 n:=by
 induction n using Nat.strongRecOn with
 |ind n ih=>
  rw[Lib.decDigits];split
  ·next h=>rw[bE h];rfl
  ·next h=>rw[gg h,ih (n/10) qb];rfl
theorem FF(n:Nat)(h:n<100):Pu prog 241 [.int .i64 (n:Nat)] (fun _=>True) (B (R4 n)):=U0 fun w _=>by
 have:=Tryz.internal_strconv_small n h w
 rwa [iZ] at this
theorem sW(n:Nat)(a:1<=n)(b:n<18446744073709551616):Pu prog 242 [.int .u64 (n:Nat)] Gl (.int .i64 (Lib.nDigits n)):=U0 fun w hg=>Tryz.internal_strconv_numDigits n a b w hg.tabIs
theorem fC(a:Bs):∀l:List Bs,Lib.join l a=eV a l
 |[]=>rfl
 |[x]=>by simp[Lib.join,eV,List.intercalate]
 |x::y::t=>by
  rw[CA _ _ x8,<-fC a (y::t)];simp[Lib.join,List.intercalate]
theorem pre{F:l6}{Rr:List As}{c:l9->Prop}(h:∀h,l9.le F.heap h->(∃bs,A1 h Rr bs)->c h:=by(
 intro h b a
 first
 |trivial
 |exact n9.le (by assumption) b
 |exact Gl.le (by assumption) b
 |(obtain⟨bs,a⟩:=a;exact A1.rd a ud)
 |(refine⟨?_,?_⟩<;>(first|exact n9.le (by assumption) b|exact Gl.le (by assumption) b|(obtain⟨bs,a⟩:=a;exact A1.rd a ud)))
 |(refine⟨?_,?_,?_⟩<;>(first|exact n9.le (by assumption) b|exact Gl.le (by assumption) b|(obtain⟨bs,a⟩:=a;exact A1.rd a ud))))):∀h,l9.le F.heap h->(∃bs,A1 h Rr bs)->c h:=h
abbrev FG:List (String×DataW Unit):=[("math/bits.deBruijn32tab",Rows.laid_math_bits_deBruijn32tab),("math/bits.deBruijn64tab",Rows.laid_math_bits_deBruijn64tab),("internal/strconv.uint64pow10",Rows.laid_internal_strconv_uint64pow10),("unicode/utf8.acceptRanges",Rows.laid_unicode_utf8_acceptRanges),("strconv.ErrRange",Rows.laid_strconv_ErrRange),("strconv.ErrSyntax",Rows.laid_strconv_ErrSyntax),("unicode.CaseRanges",Rows.laid_unicode_CaseRanges),("unicode/utf8.first",Rows.laid_unicode_utf8_first)]
theorem Rk:prog.globalNamed "internal/strconv.uint64pow10"=some 1:=by kernel_rfl
theorem Rl:(prog.globals[1]?).map (·.type)=some 348:=by kernel_rfl
theorem Rm:prog.globalNamed "strconv.ErrSyntax"=some 4:=by kernel_rfl
theorem Rn:(prog.globals[4]?).map (·.type)=some 167:=by kernel_rfl
theorem Ro:prog.globalNamed "strconv.ErrRange"=some 5:=by kernel_rfl
theorem Rq:(prog.globals[5]?).map (·.type)=some 167:=by kernel_rfl
theorem Nt: "*"++ "errors.errorString"= "*errors.errorString":=by decide
theorem FH(u:TypeId)(h:prog.typeName? 3 u=some "*errors.errorString"):u=429:=
 typeName_ptr_named (nm:= "errors.errorString") (by rw[Nt];kernel_rfl) i6 qp u (by rw[Nt];exact h)
theorem kV{P:Program}{W:World}{n:String}{g:Nat}{cs:Array Value}(hg:P.globalNamed n=some g)(h:W.var? P n=some cs):∃t fr,hp W g=some (.cells cs t fr):=by
 unfold World.var? at h;rw[hg] at h;simp only[zr] at h;split at h
 ·next c t fr a=>
  cases h
  exact⟨t,fr,a⟩
 ·cases h
theorem Rt:prog.globalNamed "internal/bytealg.MaxLen"=some 0:=by kernel_rfl
theorem Oo{cs:Array Value}{v:Value}(hs:cs.size=1)(h:cs[0]? =some v):cs=#[v]:=by
 obtain⟨l⟩:=cs
 match l,hs with
 |[u],_=>
  simp at h;subst h;rfl
theorem FJ{W:World}(h:W.ShapedOpen prog):∃m t fr,hp W 0=some (.cells #[.int .i64 m] t fr):=by
 obtain⟨m,i⟩:=cell_of_shapedOpen_int (zero:=#[.int .i64 0]) (t:=3) (g:=0) h (qr i6) i6 rfl i6 i6 underlying3;obtain⟨e,a,b,_⟩:=h.1 0 #[.int .i64 0] 3 (qr i6) i6;have j:W.var? prog "internal/bytealg.MaxLen"=some e:=by
  unfold World.var?;rw[Rt];simp only[zr];rw[a]
 have f:=World.var?_cell Rt j 0;rw[i] at f;have c:e.size=1:=b;have d:=Oo c f.symm;subst d;exact⟨_,_,_,a⟩
theorem Oq:(Rows.laid_internal_strconv_uint64pow10:DataW Unit)=Lib.tabData .u64 Lib.pow10Tab:=rfl
theorem gl_of_laid{W:World}(b:laidMetH prog FG W)(d:W.ShapedOpen prog):Gl (hp W):=by
 rw[MakeChecks.laidMetH_plain _ _ _ i6] at b;have a:=b.tail.tail;have c:=a.tail.tail;rw[Oq] at a;have e:=Lib.tabIs_of_head Rk Rl underlying348 underlying27 i6 i6 a;obtain⟨a3,s3,f,_⟩:=laid_sentinel c Ro Rq underlying167 FH underlying429 underlying431 rfl rfl underlying9 i6 i6;obtain⟨o,p,g,_⟩:=laid_sentinel c.tail Rm Rn underlying167 FH underlying429 underlying431 rfl rfl underlying9 i6 i6;obtain⟨t1,h,i⟩:=kV Rk e;obtain⟨t2,j,k⟩:=kV Rm g;obtain⟨l,m,n⟩:=kV Ro f;exact⟨FJ d,⟨t1,h,i⟩,⟨_,t2,j,k,.inr ⟨_,_,rfl⟩⟩,⟨_,l,m,n,.inr ⟨_,_,rfl⟩⟩⟩
noncomputable def laidWorld (os:Os):World:=World.laidAll prog os FG
set_option maxRecDepth 100000 in
theorem laid_met(a:Os)(args:Array Value):laidMetH prog FG ((laidWorld a).forCall (fun _ _=>0) ⟨#[],args,[]⟩).memory:=by
 rw[MakeChecks.laidMetH_plain _ _ _ i6];exact laidMet_laidAll _ i6 i6
set_option maxRecDepth 100000 in
theorem CF(a:Os)(args:Array Value):((laidWorld a).forCall (fun _ _=>0) ⟨#[],args,[]⟩).variablesZipB prog=true:=by kernel_rfl
set_option maxRecDepth 100000 in
theorem CG(a:Os)(args:Array Value):(((laidWorld a).forCall (fun _ _=>0) ⟨#[],args,[]⟩).heap.toList.drop prog.globals.size).take ((begin prog (fun _ _=>0) default).world.heap.size-prog.globals.size)=
   (begin prog (fun _ _=>0) default).world.heap.toList.drop prog.globals.size:=by kernel_rfl
theorem witness_gen{C:Checked}{H:Type}{enc:TypeId×Value->H}{k:Os}{f:FuncId}{fn:Func}{s:OpenSpec}{b:List PathCond}{c:Bool}{d:List (String×DataW Unit)}(modest:Bool)(w0:World)(args:Array Value)(h:w0.os=k)(j:(w0.forCall (fun _ _=>0) ⟨#[],args,[]⟩).Shaped C.prog)(e:Input.okWideB C.prog (w0.forCall (fun _ _=>0) ⟨#[],args,[]⟩) f ⟨#[],args,[]⟩=true)(g:s.preRow enc C.prog fn b c d (w0.forCall (fun _ _=>0) ⟨#[],args,[]⟩).memory args):
  ∃(w:World) (a:Tape) (i:Input),w.os=k/\(w.forCall a i).Shaped C.prog/\i.vars=[]/\Input.okWide C.prog (w.forCall a i) .any w.heap.size f i/\
   s.preRow enc C.prog fn b c d (w.forCall a i).memory i.args/\({modest:=modest}:Assume).holds C.prog (lone (Frame.enter C.prog f i.args .normal) [] (w.forCall a i)):=
 ⟨w0,fun _ _=>0,⟨#[],args,[]⟩,h,j,(Input.okWide_of_okWideB (base:=0) e).1,(Input.okWide_of_okWideB e).2,g,by
  simp only[Assume.holds];exact⟨by simp,by simp,fun _=>Modest.zero,by simp,by simp⟩⟩
theorem laid_shaped(a:Os)(args:Array Value):((laidWorld a).forCall (fun _ _=>0) ⟨#[],args,[]⟩).Shaped Tryz.checked.prog:=World.shaped_of_ZipB (CF a args) (CG a args)
theorem laid_os(a:Os):(laidWorld a).os=a:=World.laidAll_os _ _ _
open Go Go.Sl Go.Proofs.Tryz
def G5(b:UInt8):Bs->List Bs
 |[]=>[[]]
 |c::t=>if c=b then[]::G5 b t else match G5 b t with
  |[]=>[[c]]
  |w::ws=>(c::w)::ws
theorem CH(b:UInt8):∀s,G5 b s≠[]
 |[]=>by simp[G5]
 |c::t=>by
  rw[G5];split
  ·simp
  ·split<;>simp
theorem og(b:UInt8)(u:Bs):∀w,G5 b (w++b::u)=G5 b w++G5 b u
 |[]=>by simp[G5]
 |c::t=>by
  rw[Qh,G5,G5,og b u t];split
  ·rfl
  ·cases h:G5 b t with
   |nil=>exact absurd h (CH b t)
   |cons w ws=>rfl
theorem fD(b:UInt8):∀(w:Bs),(∀c∈w,c≠b)->G5 b w=[w]
 |[],_=>rfl
 |c::t,h=>by rw[G5,zk (h c x8),fD b t fun x hx=>h x (jj _ hx)]
def fE(w:Bs):Option Nat:=if w=[42] then some 0 else match aT w with
 |none=>none
 |some n=>if 0<n/\n<=4294967295 then some n else none
def qO(p:Bs):Option (Nat×Nat):=
 let a:=p.takeWhile fun c=>c !=58
 let b:=if a.length<p.length then p.drop (a.length+1) else a
 match fE a,fE b with
 |some x,some y=>some (x,y)
 |_,_=>none
def ap:List Bs->Option (List (Nat×Nat))
 |[]=>some []
 |p::t=>match qO p,ap t with
  |some x,some l=>some (x::l)
  |_,_=>none
def vg(s:Bs):Option (List (Nat×Nat)):=if 64<(G5 44 s).length then none else ap (G5 44 s)
structure IT where
 kind:Nat
 peek:Bool
 part:Bool
 fr:Nat
 count:Nat
 deriving DecidableEq
structure KY where
 kind:Nat
 kids:Nat
 field:Bs
 text:Bs
 n:Nat
 set:List (Nat×Nat)
 deriving DecidableEq
abbrev Ad:KY:=⟨0,0,[],[],0,[]⟩
structure CM where
 tag:Bs
 kind:Nat
 uid:Bool
 cond:Bool
 box:Bs
 user:Bs
 pass:Bs
 a4Y:Bs
 set:List (Nat×Nat)
 a4U:List IT
 keys:List KY
 how:Nat
 a5a:Bool
 a4V:Bool
 a4W:Nat
 a5c:List Bs
 data:Bs
 deriving DecidableEq
abbrev ip:CM:=⟨[],0,false,false,[],[],[],[],[],[],[],0,false,false,0,[],[]⟩
def I0(s w:Bs)(p:Nat):Bool:=decide (R8 ((s.drop p).take w.length)=w)
def H8(s w:Bs)(p:Nat):Option Nat:=if I0 s w p=true then some (p+w.length) else none
def N7(may:UInt8->Bool)(s:Bs)(p:Nat):Bs:=(s.drop p).takeWhile may
def mw(s:Bs)(most p:Nat):Option (Nat×Nat):=(aT (N7 P0 s p)).bind fun n=>if n<=most then some (n,p+(N7 P0 s p).length) else none
def my(s:Bs)(p:Nat):Option (Bs×Nat):=(H8 s [123] p).bind fun p1=>(mw s 4096 p1).bind fun q=>(H8 s [125,13,10] q.2).bind fun p3=>
 if p3+q.1<=s.length then some ((s.drop p3).take q.1,p3+q.1) else none
def vh(s:Bs)(p:Nat):Option (Bs×Nat):=if N7 P1 s p=[] then none else some (N7 P1 s p,p+(N7 P1 s p).length)
def kW(s:Bs)(p:Nat):Option (Bs×Nat):=
 if I0 s [123] p=true then my s p
 else if I0 s [34] p=true then(uW (s.drop p)).map fun q=>(q.1,p+q.2)
 else(vh s p).bind fun q=>if q.1.length<=4096 then some q else none
def Nu(s:Bs)(p:Nat):Option (Bs×Nat):=(kW s p).bind fun q=>(iW q.1).map fun b=>(b,q.2)
def oh(c:UInt8):Bool:=P0 c||decide (c=44)||decide (c=58)||decide (c=42)
def qP(s:Bs)(p:Nat):Option (List (Nat×Nat)×Nat):=(vg (N7 oh s p)).map fun l=>(l,p+(N7 oh s p).length)
def ol(s:Bs)(p:Nat):Option (List Bs×Nat):=if(T5 (s.drop p)).2.2=0 then some ((T5 (s.drop p)).1,p+(T5 (s.drop p)).2.1) else none
def dL{α:Type}(one:Nat->Option (α×Nat))(s:Bs):Nat->Nat->Option (List α×Nat)
 |0,_=>none
 |k+1,p=>(one p).bind fun q=>if I0 s [32] q.2=true then(dL one s k (q.2+1)).map fun r=>(q.1::r.1,r.2) else some ([q.1],q.2)
abbrev ja:List (Bs×Nat×Bool):=[([77,69,83,83,65,71,69,83],1,false),([85,73,68,78,69,88,84],2,false),([85,73,68,86,65,76,73,68,73,84,89],3,false),([85,78,83,69,69,78],4,false),([72,73,71,72,69,83,84,77,79,68,83,69,81],5,false)]
abbrev cw:List (Bs×Nat×Bool):=[([70,76,65,71,83],6,false),([85,73,68],7,false),([82,70,67,56,50,50,46,83,73,90,69],8,false),([77,79,68,83,69,81],9,false),([66,79,68,89,91,93],10,false),([66,79,68,89,91,72,69,65,68,69,82,93],11,false),([66,79,68,89,91,84,69,88,84,93],12,false),([66,79,68,89,46,80,69,69,75,91,93],10,true),([66,79,68,89,46,80,69,69,75,91,72,69,65,68,69,82,93],11,true),([66,79,68,89,46,80,69,69,75,91,84,69,88,84,93],12,true)]
def xN(s:Bs)(x:Bs×Nat×Bool)(p:Nat):Option (IT×Nat):=(mw s 4294967295 p).bind fun a=>(H8 s [46] a.2).bind fun p1=>(mw s 4294967295 p1).bind fun c=>
 if 0<c.1 then(H8 s [62] c.2).map fun e=>(⟨x.2.1,x.2.2,true,a.1,c.1⟩,e) else none
def cI(l:List (Bs×Nat×Bool))(s:Bs)(p:Nat):Option (IT×Nat):=(l.find? fun x=>I0 s x.1 p).bind fun x=>
 if 10<=x.2.1/\I0 s [60] (p+x.1.length)=true then xN s x (p+x.1.length+1) else some (⟨x.2.1,x.2.2,false,0,0⟩,p+x.1.length)
def om(l:List (Bs×Nat×Bool))(s:Bs)(p:Nat):Option (List IT×Nat):=(dL (cI l s) s (s.length+1) p).bind fun q=>
 if q.1.length<=8 then(H8 s [41] q.2).map fun e=>(q.1,e) else none
abbrev Ru:List Bs:=[[65,78,83,87,69,82,69,68],[70,76,65,71,71,69,68],[68,69,76,69,84,69,68],[83,69,69,78],[68,82,65,70,84]]
abbrev a0M:Bs:=[78,79,84]
abbrev wOR:Bs:=[79,82]
abbrev a0N:Bs:=[65,76,76]
abbrev a0O:Bs:=[85,73,68]
abbrev vi:Bs:=[75,69,89,87,79,82,68]
abbrev xO:Bs:=[85,78,75,69,89,87,79,82,68]
abbrev Kl:Bs:=[76,65,82,71,69,82]
abbrev FK:Bs:=[83,77,65,76,76,69,82]
abbrev Ko:Bs:=[77,79,68,83,69,81]
abbrev Rv:Bs:=[84,69,88,84]
abbrev Rw:Bs:=[66,79,68,89]
abbrev FL:Bs:=[83,85,66,74,69,67,84]
abbrev Rx:Bs:=[70,82,79,77]
abbrev wTO:Bs:=[84,79]
abbrev Kt:Bs:=[72,69,65,68,69,82]
def dM(c:UInt8):Bool:=decide (65<=c.toNat)&&decide (c.toNat<=90)||decide (97<=c.toNat)&&decide (c.toNat<=122)
def Ot(c:UInt8):Bool:=decide (33<=c.toNat)&&decide (c.toNat<=126)&&!decide (c=58)
def Ou(s:Bs):Bool:=s.all Ot&&!s.isEmpty&&decide (s.length<=32)
def sX(k:Nat)(f:Bs)(s:Bs)(p:Nat):Option (KY×Nat):=(kW s p).map fun q=>({Ad with kind:=k,field:=f,text:=q.1},q.2)
def FM(k:Nat)(s:Bs)(p:Nat):Option (KY×Nat):=(mw s D9 p).map fun q=>({Ad with kind:=k,n:=q.1},q.2)
def Nv(k:Nat)(s:Bs)(p:Nat):Option (KY×Nat):=(qP s p).map fun q=>({Ad with kind:=k,set:=q.1},q.2)
def Ry(s w:Bs)(p:Nat):Option (KY×Nat):=
 if w=vi\/w=xO then(vh s p).bind fun q=>(E2 q.1).map fun f=>({Ad with kind:=7,field:=f,n:=if w=vi then 1 else 0},q.2)
 else if w=Kl then FM 8 s p
 else if w=FK then FM 9 s p
 else if w=Ko then FM 10 s p
 else if w=Rv then sX 11 [] s p
 else if w=Rw then sX 12 [] s p
 else if w=FL\/w=Rx\/w=wTO then sX 13 (U6 w) s p
 else if w=Kt then(kW s p).bind fun q=>if Ou q.1=true then(H8 s [32] q.2).bind fun e=>sX 13 (U6 q.1) s e else none
 else none
def Nw(w:Bs)(n:Nat):KY:={Ad with kind:=7,field:=(E2 (92::w)).getD [],n:=n}
def Rz(s w:Bs)(p:Nat):Option (KY×Nat):=
 if w∈Ru then some (Nw w 1,p)
 else if w.take 2=[85,78]/\w.drop 2∈Ru then some (Nw (w.drop 2) 0,p)
 else(H8 s [32] p).bind fun e=>Ry s w e
def RA(n:Nat):KY:={Ad with kind:=1,kids:=n}
def FN(s:Bs)(sub:Nat->Option (List KY×Nat))(p:Nat):Option (List KY×Nat):=(dL sub s (s.length+1) p).map fun q=>(RA q.1.length::q.1.flatten,q.2)
def a0P(s:Bs)(sub:Nat->Option (List KY×Nat))(w:Bs)(p:Nat):Option (List KY×Nat):=
 if w=a0M then(H8 s [32] p).bind fun e=>(sub e).map fun q=>({Ad with kind:=2}::q.1,q.2)
 else if w=wOR then(H8 s [32] p).bind fun e=>(sub e).bind fun q=>(H8 s [32] q.2).bind fun e2=>(sub e2).map fun r=>({Ad with kind:=3}::(q.1++r.1),r.2)
 else if w=a0N then some ([{Ad with kind:=4}],p)
 else if w=a0O then(H8 s [32] p).bind fun e=>(Nv 6 s e).map fun q=>([q.1],q.2)
 else(Rz s w p).map fun q=>([q.1],q.2)
def RB(s:Bs)(sub grp:Nat->Option (List KY×Nat))(p:Nat):Option (List KY×Nat):=
 if I0 s [40] p=true then(grp (p+1)).bind fun q=>(H8 s [41] q.2).map fun e=>(q.1,e)
 else if((s.drop p).head?.any fun c=>P0 c||decide (c=42))=true then(Nv 5 s p).map fun q=>([q.1],q.2)
 else a0P s sub (R8 (N7 dM s p)) (p+(N7 dM s p).length)
def Ov(s:Bs):Nat->Nat->Option (List KY×Nat)
 |0,p=>RB s (fun _=>none) (fun _=>none) p
 |k+1,p=>RB s (Ov s k) (FN s (Ov s k)) p
def KB(s:Bs)(p:Nat):Option (List KY×Nat):=(FN s (Ov s 7) p).bind fun q=>if q.1.length<=32 then some q else none
abbrev vj:List Bs:=[[67,65,80,65,66,73,76,73,84,89],[78,79,79,80],[76,79,71,79,85,84],[67,76,79,83,69],[69,88,80,85,78,71,69],[69,78,65,66,76,69],[76,79,71,73,78],[83,69,76,69,67,84],[69,88,65,77,73,78,69],[67,82,69,65,84,69],[68,69,76,69,84,69],[76,73,83,84],[83,84,65,84,85,83],[65,80,80,69,78,68],[83,69,65,82,67,72],[70,69,84,67,72],[83,84,79,82,69],[67,79,80,89]]
def H5(w:Bs):Nat:=if w∈vj then vj.idxOf w+1 else 0
abbrev Ae:Bs:=[32,67,79,78,68,83,84,79,82,69]
abbrev bW:Bs:=[32,40,67,79,78,68,83,84,79,82,69,41]
abbrev Nx:Bs:=[32,34,34,32]
abbrev vk:Bs:=[40,85,78,67,72,65,78,71,69,68,83,73,78,67,69,32]
abbrev rz:Bs:=[32,40,67,72,65,78,71,69,68,83,73,78,67,69,32]
abbrev xP:Bs:=[70,76,65,71,83]
abbrev cJ:Bs:=[46,83,73,76,69,78,84]
abbrev RC:Bs:=[85,73,68,32]
def iq(c:UInt8):Bool:=decide (c=37)||decide (c=42)||P1 c
def xQ(s:Bs)(p:Nat):Option (Bs×Nat):=(H8 s [32] p).bind fun e=>kW s e
def ir(s:Bs)(p:Nat):Option (Bs×Nat):=(H8 s [32] p).bind fun e=>Nu s e
def dp(s:Bs)(p:Nat):Option (Nat×Nat):=(mw s D9 p).bind fun q=>(H8 s [41] q.2).map fun e=>(q.1,e)
def dq(c:CM)(s:Bs)(p:Nat):Option (CM×Nat):=(xQ s p).bind fun q=>(xQ s q.2).map fun r=>({c with user:=q.1,pass:=r.1},r.2)
def I8(c:CM)(s:Bs)(p:Nat):Option (CM×Nat):=(ir s p).map fun q=>({c with box:=q.1},q.2)
def kX(c:CM)(s:Bs)(p:Nat):Option (CM×Nat):=(I8 c s p).map fun q=>if I0 s bW q.2=true then({q.1 with cond:=true},q.2+12) else q
def je(c:CM)(s:Bs)(p:Nat):Option (CM×Nat):=(H8 s Nx p).bind fun e=>
 if N7 iq s e=[] then(kW s e).map fun q=>({c with a4Y:=q.1},q.2) else some ({c with a4Y:=N7 iq s e},e+(N7 iq s e).length)
def jf(c:CM)(s:Bs)(p:Nat):Option (CM×Nat):=(I8 c s p).bind fun q=>(H8 s [32,40] q.2).bind fun e=>(om ja s e).map fun r=>({q.1 with a4U:=r.1},r.2)
def ji(c:CM)(s:Bs)(p:Nat):Option (CM×Nat):=(I8 c s p).bind fun q=>(H8 s [32] q.2).bind fun e=>
 if I0 s [40] e=true then(ol s e).bind fun f=>(H8 s [32] f.2).bind fun e2=>(my s e2).map fun r=>({q.1 with a5c:=f.1,data:=r.1},r.2)
 else(my s e).map fun r=>({q.1 with data:=r.1},r.2)
def RD(c:CM)(s:Bs)(p:Nat):Option (CM×Nat):=(H8 s [32] p).bind fun e=>(KB s e).map fun q=>({c with keys:=q.1},q.2)
def vn(c:CM)(s:Bs)(p:Nat):Option (CM×Nat):=if I0 s rz p=true then(dp s (p+15)).map fun q=>({c with a4W:=q.1,a4V:=true},q.2) else some (c,p)
def ot(c:CM)(s:Bs)(p:Nat):Option (CM×Nat):=
 (if I0 s [40] p=true then om cw s (p+1) else(cI cw s p).map fun q=>([q.1],q.2)).bind fun q=>vn {c with a4U:=q.1} s q.2
def Ow(c:CM)(s:Bs)(p:Nat):Option (CM×Nat):=if I0 s vk p=true then(dp s (p+16)).bind fun q=>(H8 s [32] q.2).map fun e=>({c with a4W:=q.1,a4V:=true},e) else some (c,p)
def vo(s:Bs)(p:Nat):Nat×Nat:=if I0 s [43] p=true then(1,p+1) else if I0 s [45] p=true then(2,p+1) else(0,p)
def CI(s:Bs)(p:Nat):Bool×Nat:=if I0 s cJ p=true then(true,p+7) else(false,p)
def ou(c:CM)(s:Bs)(p:Nat):Option (CM×Nat):=(Ow c s p).bind fun q=>(H8 s xP (vo s q.2).2).bind fun e=>(H8 s [32] (CI s e).2).bind fun e2=>
 (ol s e2).map fun f=>({q.1 with how:=(vo s q.2).1,a5a:=(CI s e).1,a5c:=f.1},f.2)
def cK(c:CM)(s:Bs)(p:Nat)(k:CM->Nat->Option (CM×Nat)):Option (CM×Nat):=(H8 s [32] p).bind fun e=>(qP s e).bind fun q=>k {c with set:=q.1} q.2
def aG(s:Bs)(k:CM->Nat->Option (CM×Nat))(c:CM)(p:Nat):Option (CM×Nat):=(H8 s [32] p).bind fun e=>k c e
def T6(c:CM)(s:Bs)(p:Nat):Option (CM×Nat):=
 if c.kind<=5 then some (c,p)
 else if c.kind=6 then(H8 s Ae p).map fun e=>(c,e)
 else if c.kind=7 then dq c s p
 else if c.kind<=9 then kX c s p
 else if c.kind<=11 then I8 c s p
 else if c.kind=12 then je c s p
 else if c.kind=13 then jf c s p
 else if c.kind=14 then ji c s p
 else if c.kind=15 then RD c s p
 else if c.kind=16 then cK c s p (aG s fun c e=>ot c s e)
 else if c.kind=17 then cK c s p (aG s fun c e=>ou c s e)
 else cK c s p fun c e=>I8 c s e
def xR(c:UInt8):Bool:=P1 c&&!decide (c=43)
def dr(s:Bs):Bs:=N7 xR s 0
def eW(s:Bs):Bool:=!(dr s).isEmpty&&decide ((dr s).length<=32)&&I0 s [32] (dr s).length
def qQ(s:Bs):Bool:=I0 s RC ((dr s).length+1)
def sY(s:Bs):Nat:=(dr s).length+1+(if qQ s=true then 4 else 0)
def P9(s:Bs):Bs:=N7 (fun c=>!decide (c=32)) s (sY s)
def first(s:Bs):CM:={ip with tag:=dr s}
theorem iu{s w:Bs}{p:Nat}(h:I0 s w p=true)(b:w≠[]):p+w.length<=s.length:=by
 unfold I0 at h;simp only[jx] at h;have a:=jk List.length h;unfold R8 at a;simp only[zm,zn,z8] at a;have:=Z7.mpr b;omega
theorem Ox(a:UInt8->Bool)(s:Bs)(p:Nat)(hp:p<=s.length):p+(N7 a s p).length<=s.length:=by
 have b:=(Js a (l:=s.drop p)).length_le;unfold N7;rw[z8] at b;omega
theorem D0{s w:Bs}{p e:Nat}(h:H8 s w p=some e)(a:w≠[]):I0 s w p=true/\e=p+w.length/\e<=s.length:=by
 unfold H8 at h;split at h
 ·next k=>
  have b:=j7 h;have:=iu k a;exact⟨k,b.symm,by omega⟩
 ·cases h
structure LT where
 uid:Nat
 a5c:List Bs
 mod:Nat
 hash:Bs
 size:Nat
 deriving DecidableEq
structure BX where
 name:Bs
 val:Nat
 next:Nat
 high:Nat
 lts:List LT
 deriving DecidableEq
abbrev Oy:BX:=⟨[],0,0,0,[]⟩
structure SX where
 ses:Nat
 last:Nat
 node:Int
 life:Nat
 tr:Nat
 deriving DecidableEq
structure HO where
 node:Int
 life:Nat
 tr:Nat
 deriving DecidableEq
abbrev Jt:HO:=⟨0,0,0⟩
structure ML where
 a4N:List BX
 nval:Nat
 a4O:List HO
 a4P:List SX
 nses:Nat
 a4Z:Nat
 deriving DecidableEq
structure RQ where
 op:Int
 ses:Nat
 num:Nat
 node:Int
 life:Nat
 tr:Nat
 box:Bs
 tz:Bs
 val:Nat
 a4T:List (Nat×Nat)
 a5c:List Bs
 how:Int
 hasS:Bool
 a4W:Nat
 hash:Bs
 size:Nat
 a4Z:Nat
 deriving DecidableEq
abbrev cL:RQ:=⟨0,0,0,0,0,0,[],[],0,[],[],0,false,0,[],0,0⟩
structure OC where
 code:Int
 ses:Nat
 val:Nat
 a4T:List Nat
 mods:List Nat
 deriving DecidableEq
abbrev B9:OC:=⟨0,0,0,[],[]⟩
abbrev eG:Nat:=4294967295
abbrev CJ:Nat:=4611686018427387904
def P_(most k:Nat):Nat:=if k=0 then most else k
def gM(l:List (Nat×Nat))(most n:Nat):Bool:=l.any fun r=>decide (min (P_ most r.1) (P_ most r.2)<=n/\n<=max (P_ most r.1) (P_ most r.2))
def F8(l:List Bs)(how:Int)(b:List Bs):List Bs×Int:=
 if F9 l=false\/F9 b=false\/how<0\/3<=how then([],1)
 else
  let o:=if how=0 then T4 b else if how=1 then T4 (l++b) else(T4 l).filter fun f=>!decide (f∈b)
  if 16<o.length then([],7) else(o,0)
def xq(s:ML)(name:Bs):Option Nat:=s.a4N.findIdx? fun b=>decide (b.name=name)
def rA(s:ML)(n:Nat):Option Nat:=s.a4P.findIdx? fun x=>decide (x.ses=n)
def fF(s:ML)(n:Int):Option Nat:=s.a4O.findIdx? fun h=>decide (h.node=n)
def eH(s:ML)(n:Int)(t:Nat):Option Nat:=s.a4P.findIdx? fun x=>decide (x.node=n/\x.tr=t)
def ab(s:ML)(i:Nat):BX:=s.a4N.getD i Oy
def ae(s:ML)(name:Bs):Option BX:=(xq s name).map (ab s)
def named(s:ML)(r:RQ):Option Nat:=(xq s r.box).bind fun i=>if(ab s i).val=r.val then some i else none
def vp(b:BX):Nat:=(b.lts.getLast?.map LT.uid).getD 0
def X0(r:RQ)(b:BX)(x:LT):Bool:=gM r.a4T (vp b) x.uid
abbrev AR:=ML×OC×Int
def dt(h:HO):List HO->List HO
 |[]=>[h]
 |x::t=>if h.node<x.node then h::x::t else x::dt h t
def mU(s:ML)(at_:Option Nat)(h:HO):ML:=match at_ with
 |some i=>{s with a4O:=s.a4O.set i h}
 |none=>{s with a4O:=dt h s.a4O}
def dO(s:ML)(r:RQ):AR:=
 if r.node<1\/5<r.node\/r.life=0\/r.tr=0 then(s,B9,1)
 else
  let k:=fF s r.node
  let h:=(k.map fun i=>s.a4O.getD i Jt).getD Jt
  if r.life<h.life then(s,B9,14)
  else if h.life=r.life/\r.tr<=h.tr then match eH s r.node r.tr with
   |none=>(s,B9,14)
   |some i=>(s,{B9 with ses:=(s.a4P.getD i ⟨0,0,0,0,0⟩).ses},0)
  else
   let a4P:=if h.life<r.life then s.a4P.filter fun x=>!decide (x.node=r.node) else s.a4P
   if 16<=a4P.length\/CJ<=s.nses then(s,B9,7)
   else(mU {s with a4P:=a4P++[⟨s.nses,0,r.node,r.life,r.tr⟩],nses:=s.nses+1} k ⟨r.node,r.life,r.tr⟩,{B9 with ses:=s.nses},0)
def kY(s:ML):AR:=if s.a4Z=D9 then(s,B9,13) else({s with a4Z:=s.a4Z+1},B9,0)
def Oz(s:ML)(r:RQ):AR:=({s with a4P:=s.a4P.filter fun x=>!decide (x.ses=r.ses)},B9,0)
def jl(b:BX):List BX->List BX
 |[]=>[b]
 |x::t=>if gR b.name x.name=true then b::x::t else x::jl b t
def cM(s:ML)(r:RQ):AR:=
 if iW r.box≠some r.box then(s,B9,1)
 else if(xq s r.box).isSome=true then(s,B9,12)
 else if 8<=s.a4N.length then(s,B9,7)
 else if eG<s.nval then(s,B9,13)
 else({s with a4N:=jl ⟨r.box,s.nval,1,1,[]⟩ s.a4N,nval:=s.nval+1},{B9 with val:=s.nval},0)
def bG(s:ML)(r:RQ):AR:=
 if r.box=cG then(s,B9,1) else match xq s r.box with
 |none=>(s,B9,6)
 |some i=>({s with a4N:=s.a4N.eraseIdx i},B9,0)
def jo(s:ML)(i:Nat)(b:BX):ML:={s with a4N:=s.a4N.set i b}
def cN(s:ML)(r:RQ):AR:=match xq s r.box with
 |none=>(s,B9,6)
 |some i=>
  let b:=ab s i
  if F9 r.a5c=false\/r.hash.length≠32\/4096<r.size then(s,B9,1)
  else if r.a4Z≠s.a4Z then(s,B9,15)
  else if 32<=b.lts.length then(s,B9,7)
  else if eG<b.next\/D9<=b.high then(s,B9,13)
  else(jo s i {b with high:=b.high+1,next:=b.next+1,lts:=b.lts++[⟨b.next,r.a5c,b.high+1,r.hash,r.size⟩]},{B9 with val:=b.val,a4T:=[b.next]},0)
def I1(r:RQ)(b:BX):List LT->Option (List LT×List Nat×List Nat×Bool)
 |[]=>some ([],[],[],false)
 |x::t=>
  if X0 r b x=false then(I1 r b t).map fun q=>(x::q.1,q.2.1,q.2.2.1,q.2.2.2)
  else if r.hasS=true/\r.a4W<x.mod then(I1 r b t).map fun q=>(x::q.1,q.2.1,x.uid::q.2.2.1,q.2.2.2)
  else if(F8 x.a5c r.how r.a5c).2≠0 then none
  else(I1 r b t).map fun q=>if(F8 x.a5c r.how r.a5c).1=x.a5c then(x::q.1,x.uid::q.2.1,q.2.2.1,q.2.2.2)
   else({x with a5c:=(F8 x.a5c r.how r.a5c).1,mod:=b.high+1}::q.1,x.uid::q.2.1,q.2.2.1,true)
def du(s:ML)(r:RQ):AR:=match named s r with
 |none=>(s,B9,6)
 |some i=>
  let b:=ab s i
  if F9 r.a5c=false\/r.how<0\/2<r.how then(s,B9,1)
  else match I1 r b b.lts with
   |none=>(s,B9,7)
   |some q=>
    if q.2.2.2=false then(s,{B9 with a4T:=q.2.1,mods:=q.2.2.1},0)
    else if D9<=b.high then(s,B9,13)
    else(jo s i {b with lts:=q.1,high:=b.high+1},{B9 with a4T:=q.2.1,mods:=q.2.2.1},0)
abbrev jt:Bs:=[92,68,101,108,101,116,101,100]
def jA(r:RQ)(b:BX)(x:LT):Bool:=decide (jt∈x.a5c)&&(r.a4T.isEmpty||X0 r b x)
def aW(s:ML)(r:RQ):AR:=match named s r with
 |none=>(s,B9,6)
 |some i=>
  let b:=ab s i
  let u:=(b.lts.filter (jA r b)).map LT.uid
  if u=[] then(s,B9,0)
  else if D9<=b.high then(s,B9,13)
  else(jo s i {b with lts:=b.lts.filter fun x=>!jA r b x,high:=b.high+1},{B9 with a4T:=u},0)
def eZ(n m:Nat):List LT->List LT
 |[]=>[]
 |x::t=>{x with uid:=n,mod:=m}::eZ (n+1) m t
def gS(s:ML)(r:RQ):AR:=match named s r with
 |none=>(s,B9,6)
 |some j=>
  let b:=ab s j
  match xq s r.tz with
  |none=>(s,B9,21)
  |some i=>
   let l:=b.lts.filter (X0 r b)
   let t:=ab s i
   if l=[] then(s,{B9 with val:=t.val},0)
   else if 32<t.lts.length+l.length then(s,{B9 with val:=t.val},7)
   else if eG+1<t.next+l.length\/D9<=t.high then(s,{B9 with val:=t.val},13)
   else(jo s i {t with high:=t.high+1,next:=t.next+l.length,lts:=t.lts++eZ t.next (t.high+1) l},{B9 with val:=t.val,a4T:=(eZ t.next (t.high+1) l).map LT.uid},0)
def EI(s:ML)(r:RQ):AR:=
 if r.op=1 then dO s r else if r.op=2 then Oz s r else if r.op=3 then(s,B9,0) else if r.op=4 then cM s r else if r.op=5 then bG s r
 else if r.op=6 then cN s r else if r.op=7 then du s r else if r.op=8 then aW s r else if r.op=9 then gS s r else kY s
def sZ(q:AR):ML×OC:=(q.1,if q.2.2=0 then q.2.1 else{B9 with code:=q.2.2})
def C9(s:ML)(r:RQ):ML×OC:=
 if r.op<1\/11<=r.op\/64<r.a4T.length then(s,{B9 with code:=1})
 else if r.op=1\/r.op=10 then sZ (EI s r)
 else match rA s r.ses with
  |none=>(s,{B9 with code:=16})
  |some i=>
   let x:=s.a4P.getD i ⟨0,0,0,0,0⟩
   if r.num<=x.last then(s,{B9 with code:=14})
   else sZ (EI {s with a4P:=s.a4P.set i {x with last:=r.num}} r)
def FO:ML:=⟨[⟨cG,1,1,1,[]⟩],2,[],[],1,0⟩
def RE(n:Nat):List Nat->List Nat
 |[]=>[n]
 |x::t=>if n<x then n::x::t else if n=x then x::t else x::RE n t
def RF(l:List Nat):List Nat:=l.foldr RE []
def RG(out:List (Nat×Nat))(n:Nat):List (Nat×Nat):=match out.getLast? with
 |some r=>if r.2=n-1 then out.dropLast++[(r.1,n)] else out++[(n,n)]
 |none=>[(n,n)]
def RH(l:List Nat):List (Nat×Nat):=(RF (l.filter fun n=>decide (0<n))).foldl RG []
def fG(n:Nat):Bs:=if n=0 then[42] else R4 n
def az(r:Nat×Nat):Bs:=if r.2=r.1 then fG r.1 else fG r.1++58::fG r.2
structure VW where
 box:Bs
 val:Nat
 a4Q:List (Nat×Nat)
 deriving DecidableEq
abbrev Af:VW:=⟨[],0,[]⟩
def P4(b:BX):VW:=⟨b.name,b.val,b.lts.map fun x=>(x.uid,x.mod)⟩
def tf(v:VW)(u:Nat):Option Nat:=v.a4Q.findIdx? fun r=>decide (r.1=u)
def cx(v:VW)(u:Nat):Nat:=(tf v u).elim 0 (· +1)
def bX(v:VW)(u m:Nat):VW:=match tf v u with
 |none=>v
 |some i=>{v with a4Q:=v.a4Q.set i ((v.a4Q.getD i (0,0)).1,m)}
def L8(l:List (Nat×Nat)):Nat:=l.foldl (fun m r=>max m r.1) 0
def X1(v:VW)(l:List (Nat×Nat))(byUid:Bool):Option (List Nat):=
 let n:=v.a4Q.length
 if byUid=false/\(l.any fun x=>decide (min (P_ n x.1) (P_ n x.2)<1\/n<max (P_ n x.1) (P_ n x.2)))=true then none
 else some ((v.a4Q.zipIdx.filter fun x=>if byUid then gM l (L8 v.a4Q) x.1.1 else gM l n (x.2+1)).map fun x=>x.1.1)
def a0Q(v:VW)(a4T:List Nat)(byUid:Bool):List (Nat×Nat):=
 RH (a4T.filterMap fun u=>(tf v u).map fun i=>if byUid then u else i+1)
def bH(b:BX)(u:Nat):Option LT:=b.lts.find? fun x=>decide (x.uid=u)
def ah(b:BX):Nat->List (Nat×Nat)->List (Nat×Nat)×List RR
 |0,a4Q=>(a4Q,[])
 |k+1,a4Q=>match bH b (a4Q.getD k (0,0)).1 with
  |some _=>ah b k a4Q
  |none=>((ah b k (a4Q.eraseIdx k)).1,{R0 with kind:=9,n:=k+1}::(ah b k (a4Q.eraseIdx k)).2)
def ti(x:LT)(n:Nat)(cond:Bool):RR:=
 {R0 with kind:=14,n:=n,values:={V0 with kind:=6,a5c:=x.a5c}::if cond then[{V0 with kind:=9,n:=x.mod}] else[]}
def X2(b:BX)(r:Nat×Nat):(Nat×Nat)×Option LT:=match bH b r.1 with
 |none=>(r,none)
 |some x=>if x.mod=r.2 then(r,none) else((r.1,x.mod),some x)
def X9(v:VW)(b:BX)(expunge cond:Bool):VW×List RR:=
 if b.name≠v.box\/b.val≠v.val then(v,[])
 else
  let q:=if expunge then ah b v.a4Q.length v.a4Q else(v.a4Q,[])
  let new:=(b.lts.filter fun x=>decide (L8 q.1<x.uid)).map fun x=>(x.uid,x.mod)
  let had:=q.1.map (X2 b)
  ({v with a4Q:=had.map (·.1)++new},
   q.2++(if new=[] then[] else[{R0 with kind:=8,n:=q.1.length+new.length}])++had.zipIdx.filterMap fun h=>h.1.2.map fun x=>ti x (h.2+1) cond)
structure PL where
 seq:Nat
 mseq:Nat
 muid:Nat
structure SE where
 a4S:Nat
 ses:Nat
 num:Nat
 a4R:VW
 ro:Bool
 cond:Bool
 a4X:Bool
 cmd:CM
 a4T:List Nat
abbrev ov:SE:=⟨0,0,0,Af,false,false,false,ip,[]⟩
structure DD where
 a5b:List RR
 ask:Bool
 req:RQ
 store:Bool
 body:Bs
 want:List Bs
 close:Bool
abbrev G0:DD:=⟨[],false,cL,false,[],[],false⟩
abbrev SD:=SE×DD
abbrev fb(tag:Bs):RR:={R0 with kind:=1,tag:=tag,text:=[100,111,110,101]}
abbrev ow(tag code text:Bs):RR:={R0 with kind:=2,tag:=tag,code:=code,text:=text}
abbrev gN(tag text:Bs):RR:={R0 with kind:=3,tag:=tag,text:=text}
abbrev L2(text:Bs):RR:={R0 with kind:=4,tag:=[42],text:=text}
def V4(q:SD)(r:RR):SD:=(q.1,{q.2 with a5b:=q.2.a5b++[r]})
def KC(q:SD)(text:Bs):SD:=({q.1 with a4S:=3},{q.2 with a5b:=q.2.a5b++[L2 text],close:=true})
def ox(q:SD)(tag:Bs):SD:=V4 (KC q [108,111,103,103,105,110,103,32,111,117,116]) (fb tag)
def G_(q:SD)(c:CM)(r:RQ)(a4T:List Nat):SD:=
 if r.op=1 then({q.1 with a4X:=true,cmd:=c,a4T:=a4T},{q.2 with ask:=true,req:=r})
 else({q.1 with a4X:=true,cmd:=c,a4T:=a4T,num:=q.1.num+1},{q.2 with ask:=true,req:={r with ses:=q.1.ses,num:=q.1.num+1}})
def ai(q:SD)(op:Int):RQ:={cL with op:=op,box:=q.1.a4R.box,val:=q.1.a4R.val}
abbrev aX:RQ:={cL with op:=3}
def lP(q:SD)(c:CM):SD:=G_ q c aX []
def tj(q:SD)(c:CM)(r:RQ)(a4T:List Nat):SD:=
 let l:=a0Q q.1.a4R a4T true
 if l.length<1\/64<l.length then G_ q c aX a4T else G_ q c {r with a4T:=l} a4T
def OA(digest:Bs->Bs)(q:SD)(c:CM):SD:=
 if c.kind=1 then V4 (V4 q {R0 with kind:=6}) (fb c.tag)
 else if c.kind=2 then(if q.1.a4S=0 then V4 q (fb c.tag) else lP q c)
 else if c.kind=3 then(if q.1.a4S=0 then ox q c.tag else G_ q c {cL with op:=2} [])
 else if c.kind=4 then(if q.1.ro then lP q c else G_ q c (ai q 8) [])
 else if c.kind=5 then(if q.1.ro then V4 q (ow c.tag [82,69,65,68,45,79,78,76,89] [105,116,32,109,97,121,32,110,111,116,32,98,101]) else G_ q c (ai q 8) [])
 else if c.kind=6 then V4 (V4 ({q.1 with cond:=true},q.2) {R0 with kind:=7}) (fb c.tag)
 else if c.kind=7 then(if c.pass=[104,111,114,110] then G_ q c {cL with op:=1} [] else V4 q (ow c.tag [65,85,84,72,69,78,84,73,67,65,84,73,79,78,70,65,73,76,69,68] [119,114,111,110,103,32,112,97,115,115,119,111,114,100]))
 else if c.kind<=9 then lP ({q.1 with cond:=q.1.cond||c.cond},q.2) c
 else if c.kind=10 then G_ q c {cL with op:=4,box:=c.box} []
 else if c.kind=11 then G_ q c {cL with op:=5,box:=c.box} []
 else if c.kind<=13\/c.kind=15 then lP q c
 else if c.kind=14 then G_ (q.1,{q.2 with store:=true,body:=c.data}) c {cL with op:=6,box:=c.box,a5c:=c.a5c,hash:=digest c.data,size:=c.data.length} []
 else match (if c.kind=17/\q.1.ro=true then none else some (X1 q.1.a4R c.set c.uid)) with
  |none=>V4 q (ow c.tag [82,69,65,68,45,79,78,76,89] [105,116,32,109,97,121,32,110,111,116,32,98,101])
  |some none=>V4 q (gN c.tag [110,111,32,115,117,99,104,32,109,101,115,115,97,103,101])
  |some (some l)=>
   if c.kind=16 then
    if q.1.ro=true\/c.a4V=true\/(c.a4U.any fun x=>decide (10<=x.kind)&&!x.peek)=false then G_ q c aX l
    else tj q c {ai q 7 with a5c:=[[92,83,101,101,110]],how:=1} l
   else if c.kind=17 then tj q c {ai q 7 with a5c:=c.a5c,how:=c.how,hasS:=c.a4V,a4W:=c.a4W} l
   else tj q c {ai q 9 with tz:=c.box} l
def N8(k:Nat):Nat×Nat:=if k=1\/k=2\/k=3 then(0,2) else if k=4\/k=5\/15<=k then(2,2) else if k=7 then(0,0) else(1,2)
def vq(c:CM):Bs:=if c.tag=[] then[42] else c.tag
def O3(s:SE):SE:={s with a4X:=false,cmd:=ip,a4T:=[]}
def bY(s:SE):SD:=if s.a4X=false then(s,G0) else if s.cmd.kind=3 then ox (O3 s,G0) s.cmd.tag else V4 (O3 s,G0) (ow s.cmd.tag [85,78,65,86,65,73,76,65,66,76,69] [116,114,121,32,97,103,97,105,110])
abbrev BL:=List (Bs×Bs)
def mz(kind:Nat)(e:Int):Bs×Bs:=
 if e=6/\kind=14\/e=21 then([84,82,89,67,82,69,65,84,69],[116,104,101,114,101,32,105,115,32,110,111,110,101]) else if e=6 then([78,79,78,69,88,73,83,84,69,78,84],[116,104,101,114,101,32,105,115,32,110,111,110,101]) else if e=12 then([65,76,82,69,65,68,89,69,88,73,83,84,83],[105,116,32,105,115,32,116,104,101,114,101])
 else if e=7 then([79,86,69,82,81,85,79,84,65],[110,111,32,114,111,111,109]) else if e=13 then([76,73,77,73,84],[110,117,109,98,101,114,115,32,97,114,101,32,117,115,101,100,32,117,112]) else if e=1 then([67,65,78,78,79,84],[105,116,32,109,97,121,32,110,111,116,32,98,101]) else([85,78,65,86,65,73,76,65,66,76,69],[116,114,121,32,97,103,97,105,110])
def mA(s:SE)(st:ML):BX:=((ae st s.a4R.box).bind fun b=>if b.val=s.a4R.val then some b else none).getD Oy
