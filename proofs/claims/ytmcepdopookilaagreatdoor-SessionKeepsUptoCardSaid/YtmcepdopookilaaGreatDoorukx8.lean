import Derived.Test.YtmcepdopookilaaGreatDoorukx7
import Derived.Laws.Cover1
import Derived.Test.YtmcepdopookilaaGreatDoorukx5
import Derived.Test.YtmcepdopookilaaGreatDoorRows
import Derived.OpenShut
import Derived.MakeChecks
import Derived.Stop.LaidErr
import Derived.Lay
import Derived.Deep.DeepWitnessRowRef
set_option linter.unusedVariables false
set_option linter.unusedSimpArgs false
set_option linter.defProp false
namespace Go.Proofs.YtmcepdopookilaaGreatDoor.Rp
open Go Go.Sl Go.Proofs.Tryz
abbrev Bs:=List UInt8
abbrev E6:Nat:=9223372036854775807
def R1(c:UInt8):Bool:=decide (48<=c.toNat)&&decide (c.toNat<=57)
def AK(a:Nat)(c:UInt8):Nat:=10*a+(c.toNat-48)
def T_(a:Nat)(s:Bs):Nat:=s.foldl AK a
theorem rN(a:Nat)(c:UInt8)(t:Bs):T_ a (c::t)=T_ (AK a c) t:=by unfold T_;rw[Wv]
theorem oE(a:Nat):T_ a []=a:=by unfold T_;rw[List.foldl_nil]
def dig(k:Nat):UInt8:=UInt8.ofNat (48+k)
def T1(n:Nat):Bs:=if h:n<10 then[dig n] else T1 (n/10)++[dig (n%10)]
termination_by n
decreasing_by omega
theorem bW{n:Nat}(h:n<10):T1 n=[dig n]:=by rw[T1];simp[h]
theorem gD{n:Nat}(h:¬n<10):T1 n=T1 (n/10)++[dig (n%10)]:=by rw[T1];simp[h]
theorem Le{k:Nat}(h:k<10):(dig k).toNat=48+k:=by
 unfold dig;rw[UInt8.toNat_ofNat'];omega
theorem FW{k:Nat}(h:k<10):R1 (dig k)=true:=by
 unfold R1;rw[Le h];simp;omega
theorem mf(a:Nat)(x y:Bs):T_ a (x++y)=T_ (T_ a x) y:=by unfold T_;rw[W7]
theorem Lf(n:Nat):T1 n≠[]:=by
 rcases Q6 n 10 with h|h
 ·rw[bW h];simp
 ·rw[gD qb];simp
theorem FY(n:Nat):(T1 n).all R1=true:=by
 induction n using Nat.strongRecOn with
 |ind n ih=>
  rcases Q6 n 10 with h|h
  ·rw[bW h];simp[FW h]
  ·rw[gD qb,List.all_append,ih (n/10) qb];simp[FW (Nat.mod_lt n (by omega:0<10))]
def bA(w:Bs):Option Nat:=if T1 (T_ 0 w)=w/\T_ 0 w<=E6 then some (T_ 0 w) else none
theorem rO{w:Bs}{n:Nat}(h:bA w=some n):w=T1 n/\n<=E6:=by
 unfold bA at h;split at h
 ·next k=>simp at h;subst h;exact⟨k.1.symm,k.2⟩
 ·cases h
theorem FZ:bA []=none:=by
 unfold bA;split
 ·next k=>exact absurd k.1 (Lf _)
 ·rfl
theorem bN(p:UInt8->Bool)(s:Bs):s=s.takeWhile p++s.drop (s.takeWhile p).length:=by
 induction s with
 |nil=>rfl
 |cons c t ih=>
  by_cases h:p c=true
  ·simp only[Zd,h,if_true,z1,Wc,Zu];rw[<-ih]
  ·simp[Zd,h]
theorem io(p:UInt8->Bool)(s:Bs):∀c∈s.takeWhile p,p c=true:=by
 induction s with
 |nil=>simp
 |cons c t ih=>
  by_cases h:p c=true
  ·simp only[Zd,h,if_true];intro x a;rcases jv.mp a with rfl|a
   ·exact h
   ·exact ih x a
  ·simp[Zd,h]
theorem bX(p:UInt8->Bool):∀(w r:Bs),(∀c∈w,p c=true)->(∀c∈r.head?,p c=false)->(w++r).takeWhile p=w
 |[],[],_,_=>rfl
 |[],c::r,_,h=>by simp[Zd,h c x7]
 |c::w,r,hw,h=>by
  simp only[Zu,Zd,hw c x7,if_true];rw[bX p w r (fun x hx=>hw x (jn _ hx)) h]
theorem fO(p:UInt8->Bool)(s:Bs):∀c∈(s.drop (s.takeWhile p).length).head?,p c=false:=by
 induction s with
 |nil=>simp
 |cons c t ih=>
  by_cases h:p c=true
  ·simpa only[Zd,h,if_true,z1,Wc] using ih
  ·simp[Zd,h]
def R2(c:UInt8):Bool:=decide (33<=c.toNat)&&decide (c.toNat<=126)&&!([40,41,123,37,42,34,92,93]:Bs).contains c
def jF(s:Bs):Bool:=s.all R2&&!s.isEmpty
def rP(c:UInt8):UInt8:=if 97<=c.toNat/\c.toNat<=122 then c-32 else c
def iG(c:UInt8):UInt8:=if 65<=c.toNat/\c.toNat<=90 then c+32 else c
def R3(s:Bs):Bs:=s.map rP
def W_(s:Bs):Bs:=s.map iG
def bB(c:UInt8):Bool:=decide (0<c.toNat)&&decide (c.toNat<128)&&!([10,13]:Bs).contains c
def AL(b:Bs)(i:Nat):Bs->Option (Bs×Nat)
 |[]=>none
 |c::t=>if 512<b.length then none else if c=34 then some (b,i+1) else if c=92 then
   (match t with|[]=>none|d::t'=>if d=34\/d=92 then AL (b++[d]) (i+2) t' else none)
  else if bB c then AL (b++[c]) (i+1) t else none
theorem jG(b:Bs)(i:Nat)(c:UInt8)(t:Bs):AL b i (c::t)=if 512<b.length then none else if c=34 then some (b,i+1) else if c=92 then
   (match t with|[]=>none|d::t'=>if d=34\/d=92 then AL (b++[d]) (i+2) t' else none)
  else if bB c then AL (b++[c]) (i+1) t else none:=AL.eq_def ..
def vO:Bs->Option (Bs×Nat)
 |[]=>none
 |c::t=>if c=34 then AL [] 1 t else none
def Di(c:UInt8):Bool:=decide (32<=c.toNat)&&decide (c.toNat<=126)&&!([37,42,34,92]:Bs).contains c
def vP(s:Bs):Bool:=!s.isEmpty&&s.all Di&&decide (s.length<=64)&&decide (s.head?≠some 32)&&decide (s.getLast?≠some 32)
abbrev di:Bs:=[73,78,66,79,88]
def jH(s:Bs):Option Bs:=if vP s then some (if R3 s=di then di else s) else none
def ip(a b:Bs):Bool:=Op.bytesLess a b
theorem iH:∀a:Bs,ip a a=false
 |[]=>rfl
 |a::l=>by
  have:=iH l;simp only[ip] at*;simp[Op.bytesLess,this]
theorem ck:∀{a b c:Bs},ip a b=true->ip b c=true->ip a c=true
 |[],_,[],_,h=>by simp[ip,Op.bytesLess] at h
 |[],_,c::z,_,_=>rfl
 |a::x,[],_,h,_=>by simp[ip,Op.bytesLess] at h
 |a::x,b::y,[],_,h=>by simp[ip,Op.bytesLess] at h
 |a::x,b::y,c::z,h,k=>by
  have d:=@ck x y z;simp only[ip,Op.bytesLess,Zh,j7,jw,Wr] at*;rcases h with h|⟨rfl,h⟩<;>rcases k with k|⟨rfl,k⟩
  ·exact .inl (UInt8.lt_trans h k)
  ·exact .inl h
  ·exact .inl k
  ·exact .inr ⟨rfl,d h k⟩
theorem dX:∀{a b:Bs},a≠b->ip a b=false->ip b a=true
 |[],[],h,_=>absurd rfl h
 |[],b::y,_,h=>by simp[ip,Op.bytesLess] at h
 |a::x,[],_,_=>rfl
 |a::x,b::y,hne,h=>by
  have c:=@dX x y;simp only[ip,Op.bytesLess,Zw,Zh,j7,Z7,jw,Bool.and_eq_false_imp,Wr] at*;rcases Nat.lt_trichotomy a.toNat b.toNat with k|k|k
  ·exact absurd (UInt8.lt_iff_toNat_lt.mpr k) h.1
  ·have e:=Wu.mp k;subst e;exact .inr ⟨rfl,c (fun e=>hne (by rw[e])) (h.2 rfl)⟩
  ·exact .inl (UInt8.lt_iff_toNat_lt.mpr k)
def S5:List Bs:=[[92,65,110,115,119,101,114,101,100],[92,70,108,97,103,103,101,100],[92,68,101,108,101,116,101,100],[92,83,101,101,110],[92,68,114,97,102,116]]
def N6(f:Bs):Nat:=S5.idxOf f
def V9(a b:Bs):Bool:=if N6 a≠N6 b then decide (N6 a<N6 b) else ip a b
theorem V1(a:Bs):V9 a a=false:=by simp[V9,iH]
theorem R9{a b c:Bs}(h:V9 a b=true)(k:V9 b c=true):V9 a c=true:=by
 unfold V9 at*;split at h<;>split at k<;>split
 ·simp at*;omega
 ·simp at*;omega
 ·simp at*;omega
 ·next x y z=>simp at*;omega
 ·simp at*;omega
 ·next x y z=>simp at*;omega
 ·next x y z=>simp at*;omega
 ·exact ck h k
theorem bC{a b:Bs}(c:a≠b)(h:V9 a b=false):V9 b a=true:=by
 unfold V9 at*;split at h
 ·next k=>
  rw[zr (fun e=>k e.symm)];simp at*;omega
 ·next k=>
  rw[zb (fun e=>k (fun d=>e d.symm))];exact dX c h
def E_(s:Bs):Option Bs:=match S5.find? (fun f=>R3 f==R3 s) with
 |some f=>some f
 |none=>if jF s=true/\s.length<=32 then some (W_ s) else none
def rk(f:Bs):List Bs->List Bs
 |[]=>[f]
 |x::t=>if V9 f x then f::x::t else x::rk f t
def fq(l:List Bs)(f:Bs):List Bs:=if f∈l then l else rk f l
def T5:List Bs->Option (List Bs)
 |[]=>some []
 |s::t=>match E_ s,T5 t with
  |some c,some l=>some (c::l)
  |_,_=>none
def U5(l:List Bs):List Bs:=l.foldl fq []
def X5(names:List Bs):List Bs×Int:=match T5 names with
 |none=>([],4)
 |some l=>if 16<(U5 l).length then([],7) else(U5 l,0)
abbrev xZ(l:List Bs):Prop:=l.Pairwise fun a b=>V9 a b=true
def oG:List Bs->Bool
 |a::b::t=>V9 a b&&oG (b::t)
 |_=>true
def G_(l:List Bs):Bool:=l.all (fun f=>decide (E_ f=some f))&&oG l&&decide (l.length<=16)
theorem lk:∀{l:List Bs},oG l=true->xZ l
 |[],_=>.nil
 |[a],_=>by simp
 |a::b::t,h=>by
  simp only[oG,jw] at h;have k:=lk h.2;refine .cons (fun x c=>?_) k;rcases jv.mp c with rfl|c
  ·exact h.1
  ·exact R9 h.1 ((Qd.mp k).1 x c)
theorem ll:∀{l:List Bs},xZ l->oG l=true
 |[],_=>rfl
 |[a],_=>rfl
 |a::b::t,h=>by
  have k:=Qd.mp h;simp only[oG,jw];exact⟨k.1 b x7,ll k.2⟩
theorem tJ(f x:Bs):∀l:List Bs,x∈rk f l↔x=f\/x∈l
 |[]=>by simp[rk]
 |y::t=>by
  rw[rk];split
  ·simp
  ·simp only[jv,tJ f x t];constructor
   ·rintro(h|h|h)
    ·exact .inr (.inl h)
    ·exact .inl h
    ·exact .inr (.inr h)
   ·rintro(h|h|h)
    ·exact .inr (.inl h)
    ·exact .inl h
    ·exact .inr (.inr h)
theorem AM(f:Bs):∀{l:List Bs},xZ l->f∉l->xZ (rk f l)
 |[],_,_=>by simp[rk]
 |y::t,h,hf=>by
  have k:=Qd.mp h;simp only[jv,not_or] at hf;rw[rk];split
  ·next b=>
   refine .cons (fun x a=>?_) h;rcases jv.mp a with rfl|a
   ·exact b
   ·exact R9 b (k.1 x a)
  ·next b=>
   refine .cons (fun x a=>?_) (AM f k.2 hf.2);rcases (tJ f x t).mp a with rfl|a
   ·exact bC hf.1 (by simpa using b)
   ·exact k.1 x a
theorem Ga(l:List Bs)(f x:Bs):x∈fq l f↔x=f\/x∈l:=by
 unfold fq;split
 ·next h=>
  constructor
  ·exact .inr
  ·rintro(rfl|a)
   ·exact h
   ·exact a
 ·exact tJ f x l
theorem Gb{l:List Bs}(h:xZ l)(f:Bs):xZ (fq l f):=by
 unfold fq;split
 ·exact h
 ·next k=>exact AM f h k
theorem nt:∀(l a:List Bs),xZ a->xZ (l.foldl fq a)/\∀x,x∈l.foldl fq a↔x∈l\/x∈a
 |[],a,h=>⟨h,fun x=>by simp⟩
 |f::t,a,h=>by
  have k:=nt t (fq a f) (Gb h f);refine⟨k.1,fun x=>?_⟩;rw[Wv,k.2,Ga,jv];constructor
  ·rintro(h|h|h)
   ·exact .inl (.inr h)
   ·exact .inl (.inl h)
   ·exact .inr h
  ·rintro((h|h)|h)
   ·exact .inr (.inl h)
   ·exact .inl h
   ·exact .inr (.inr h)
theorem nu(l:List Bs):xZ (U5 l):=(nt l [] .nil).1
theorem tK(l:List Bs)(x:Bs):x∈U5 l↔x∈l:=by rw[U5,(nt l [] .nil).2];simp
theorem yp:∀{a b:List Bs},xZ a->xZ b->(∀x,x∈a↔x∈b)->a=b
 |[],[],_,_,_=>rfl
 |[],y::t,_,_,h=>by have:=(h y).mpr x7;simp at this
 |x::t,[],_,_,h=>by have:=(h x).mp x7;simp at this
 |x::a,y::b,ha,hb,h=>by
  have d:=Qd.mp ha;have f:=Qd.mp hb;have e:x=y:=by
   rcases jv.mp ((h x).mp x7) with e|g
   ·exact e
   ·rcases jv.mp ((h y).mpr x7) with e|i
    ·exact e.symm
    ·have j:=f.1 x g;have k:=d.1 y i;have:=R9 j k;rw[V1] at this
     cases this
  subst e;congr 1;refine yp d.2 f.2 fun z=>?_;constructor
  ·intro hz;rcases jv.mp ((h z).mp (jn _ hz)) with e|c
   ·subst e;have:=d.1 z hz;rw[V1] at this;cases this
   ·exact c
  ·intro hz;rcases jv.mp ((h z).mpr (jn _ hz)) with e|c
   ·subst e;have:=f.1 z hz;rw[V1] at this;cases this
   ·exact c
theorem Dj{l:List Bs}(h:xZ l):U5 l=l:=yp (nu l) h (tK l)
theorem Po(c:UInt8):rP (iG c)=rP c:=by
 unfold rP iG;have:=c.toNat_lt;split
 ·next h=>
  have e:(c+32).toNat=c.toNat+32:=by rw[Wg];simp;omega
  rw[e,zr qb,zb qb];apply Wu.mp;rw[UInt8.toNat_sub,e];simp;omega
 ·rfl
theorem Lg(c:UInt8):iG (iG c)=iG c:=by
 unfold iG;have:=c.toNat_lt;split
 ·next h=>
  have e:(c+32).toNat=c.toNat+32:=by rw[Wg];simp;omega
  rw[e,zb qb]
 ·rfl
theorem Lh(s:Bs):R3 (W_ s)=R3 s:=by simp[R3,W_,Po]
theorem Gc(s:Bs):W_ (W_ s)=W_ s:=by simp[W_,Lg]
theorem Gd{c:UInt8}(h:R2 c=true):R2 (iG c)=true:=by
 unfold iG;have:=c.toNat_lt;split
 ·next k=>
  have e:(c+32).toNat=c.toNat+32:=by rw[Wg];simp;omega
  have a:∀d:UInt8,d.toNat<97\/122<d.toNat->c+32≠d:=fun d f b=>by
   have:=jh UInt8.toNat b;rw[e] at this;omega
  unfold R2;simp[e];refine⟨⟨by omega,by omega⟩,?_⟩;refine⟨a _ ?_,a _ ?_,a _ ?_,a _ ?_,a _ ?_,a _ ?_,a _ ?_,a _ ?_⟩<;>decide
 ·exact h
theorem Ge{s:Bs}(h:jF s=true):jF (W_ s)=true:=by
 unfold jF at*;simp only[jw,Q1,Kr,List.isEmpty_eq_false_iff] at*;refine⟨fun c hc=>?_,by simpa[W_] using h.2⟩;obtain⟨d,a,rfl⟩:=jr.mp hc;exact Gd (h.1 d a)
theorem Dk:∀f∈S5,E_ f=some f:=by decide
theorem vQ{s c:Bs}(h:E_ s=some c):E_ c=some c:=by
 unfold E_ at h;split at h
 ·next f hf=>
  cases h
  exact Dk _ (Ks hf)
 ·next hf=>
  split at h
  ·next k=>
   cases h
   unfold E_;rw[Lh,hf,Gc];exact zr ⟨Ge k.1,by simpa[W_] using k.2⟩
  ·cases h
theorem mg:∀{l cs:List Bs},T5 l=some cs->∀c∈cs,E_ c=some c
 |[],cs,h=>by simp[T5] at h;subst h;simp
 |s::t,cs,h=>by
  rw[T5] at h;split at h
  ·next c l hc hl=>
   cases h
   intro x hx;rcases jv.mp hx with rfl|hx
   ·exact vQ hc
   ·exact mg hl x hx
  ·cases h
theorem Gf{l:List Bs}(a:∀f∈l,E_ f=some f)(b:xZ l)(c:l.length<=16):G_ l=true:=by
 unfold G_;simp only[jw,Q1,j7];exact⟨⟨a,ll b⟩,c⟩
theorem jI{l:List Bs}(h:G_ l=true):(∀f∈l,E_ f=some f)/\xZ l/\l.length<=16:=by
 unfold G_ at h;simp only[jw,Q1,j7] at h;exact⟨h.1.1,lk h.1.2,h.2⟩
theorem yq{a l:List Bs}(h:X5 a=(l,0)):G_ l=true:=by
 unfold X5 at h;split at h
 ·cases h
 ·next b hc=>
  split at h
  ·cases h
  ·next k=>
   simp at h;subst h;exact Gf (fun f hf=>mg hc f ((tK b f).mp hf)) (nu b) qb
def fu(b:Bs):List Bs->Bs
 |[]=>[]
 |[x]=>x
 |x::t=>x++b++fu b t
def I3:Bs->List Bs
 |[]=>[[]]
 |c::t=>if c=32 then[]::I3 t else match I3 t with
  |[]=>[[c]]
  |w::ws=>(c::w)::ws
def U6(s:Bs):List Bs×Nat×Int:=
 let e:=(s.takeWhile fun c=>c !=41).length
 if s.head? =some 40/\e<s.length then
  let inner:=(s.take e).drop 1
  let m:=X5 (if inner=[] then[] else I3 inner)
  if m.2=0 then(m.1,e+1,0) else([],0,m.2)
 else([],0,4)
theorem oH:∀(w:Bs),(∀c∈w,c≠32)->I3 w=[w]
 |[],_=>rfl
 |c::t,h=>by rw[I3,zb (h c x7),oH t fun x hx=>h x (jn _ hx)]
theorem oI:∀(w r:Bs),(∀c∈w,c≠32)->I3 (w++32::r)=w::I3 r
 |[],r,_=>by simp[I3]
 |c::t,r,h=>by rw[Zu,I3,zb (h c x7),oI t r fun x hx=>h x (jn _ hx)]
theorem mh{s:Bs}{l:List Bs}{n:Nat}(h:U6 s=(l,n,0)):G_ l=true:=by
 unfold U6 at h
 dsimp only at h
 split at h
 ·generalize hm:X5 _=m at h;split at h
  ·next k=>
   have a:m.1=l:=jh (fun q=>q.1) h;exact yq (hm.trans (Prod.ext a k))
  ·next k=>exact absurd (jh (fun q=>q.2.2) h) k
 ·exact absurd (jh (fun q=>q.2.2) h) x7
/- the reference's reading -/
structure RV where
 kind:Int
 n:Nat
 a6J:List Bs
 text:Bs
 part:Bool
 fr:Nat
abbrev V0:RV:=⟨0,0,[],[],false,0⟩
structure RR where
 kind:Int
 tag:Bs
 code:Bs
 text:Bs
 n:Nat
 nums:zz
 mod:Nat
 a6J:List Bs
 box:Bs
 values:List RV
abbrev R0:RR:=⟨0,[],[],[],0,[],0,[],[],[]⟩
def Gg:List Bs:=[[79,75],[78,79],[66,65,68],[66,89,69]]
abbrev Gh:Bs:=[42,32,67,65,80,65,66,73,76,73,84,89,32,73,77,65,80,52,114,101,118,49,32,69,78,65,66,76,69,32,67,79,78,68,83,84,79,82,69]
abbrev a1G:Bs:=[42,32,69,78,65,66,76,69,68,32,67,79,78,68,83,84,79,82,69]
abbrev Pp:Bs:=[13,10]
structure RS where
 p:Nat
 ok:Bool
def mQ(s w:Bs)(st:RS):Bool×RS:=if st.ok=true/\w.isPrefixOf (s.drop st.p)=true then(true,⟨st.p+w.length,st.ok⟩) else(false,st)
def Gi(s w:Bs)(st:RS):RS:=⟨(mQ s w st).2.p,(mQ s w st).1⟩
def Gj(stops:Bs)(r:Bs):Bs:=r.takeWhile fun c=>!stops.contains c
def oJ(s stops:Bs)(st:RS):Bs×RS:=if st.ok=true then(Gj stops (s.drop st.p),⟨st.p+(Gj stops (s.drop st.p)).length,st.ok⟩) else([],st)
def gE(c:UInt8):Bool:=decide (32<=c.toNat)&&decide (c.toNat<=126)
def ln(t:Bs):Bool:=t.all gE&&!t.isEmpty&&decide (t.length<=512)
/- which may be -/
theorem Dl(b x:Bs){t:List Bs}(h:t≠[]):fu b (x::t)=x++b++fu b t:=by
 cases t with
 |nil=>exact absurd rfl h
 |cons y t=>rfl
end Go.Proofs.YtmcepdopookilaaGreatDoor.Rp
namespace Go.Sl
open Go Go.RowKit Go.Proofs.Tryz
structure P5(s:zz)(p:Prop):Prop where
 out:p
theorem P5.step{i:Nat}{s:zz}{p:Prop}(h:P5 (i::s) p):P5 s p:=⟨h.out⟩
theorem P5.chk{s:zz}{p:Prop}(h:P5 (0::s) p):True:=trivial
theorem P5.pos{i:Nat}{s:zz}{p:Prop}(h:P5 (i::s) p):True:=trivial
theorem P5.chk0{p:Prop}(h:P5 [] p):True:=trivial
theorem P5.nb{p:Prop}(h:P5 [7] p):p:=h.out
theorem P5.last{i:Nat}{p:Prop}(h:P5 [i] p):p:=h.out
theorem P5.none{p:Prop}(h:P5 [] p):p:=h.out
theorem ud{H H' a:List As}{x:As}(u:N1 H x a H':=by(repeat (first|exact .del|apply N1.there))):N1 H x a H':=u
theorem uh{H H' a:List As}{x:As}(u:N1 H x a H':=by(repeat (first|exact .here|apply N1.there))):N1 H x a H':=u
theorem sub{L' L:G9}(h:fE L' L:=by(repeat (first|exact fE.nil _|refine fE.cons rfl ?_))):fE L' L:=h
theorem Sk{p:Prop}(h:p:=by(first|omega|(simp only[zg,z1,kx,kr,jz,kg,Zm];omega)|(simp only[zg,z1,kx,kr,jz,kg,Zm] at*;omega))):p:=h
inductive dY:zq->Nat->zq->zq->Prop
 |nil {l:zq}:dY l 0 [] l
 |here {x v:Value} {l vs l':zq}:dY l 0 vs l'->dY (x::l) 0 (v::vs) (v::l')
 |there {x:Value} {l vs l':zq} {n:Nat}:dY l n vs l'->dY (x::l) (n+1) vs (x::l')
theorem dY.put{l vs l':zq}{n:Nat}(h:dY l n vs l'):n+vs.length<=l.length/\l'=l.take n++vs++l.drop (n+vs.length):=by
 induction h with
 |nil=>simp
 |here _ ih=>simp only[z1,Km,Qv,j6] at ih⊢;exact⟨by omega,by rw[ih.2];simp⟩
 |there _ ih=>
  refine⟨by simp only[z1];omega,?_⟩;rw[ih.2];rename_i x l vs l' n h;have:n+1+vs.length=(n+vs.length)+1:=by omega
  rw[this];simp
inductive dZ:zq->Nat->Nat->zq->Prop
 |nil {l:zq}:dZ l 0 0 []
 |here {x:Value} {l vs:zq} {k:Nat}:dZ l 0 k vs->dZ (x::l) 0 (k+1) (x::vs)
 |there {x:Value} {l vs:zq} {n k:Nat}:dZ l n k vs->dZ (x::l) (n+1) k vs
theorem dZ.get{l vs:zq}{n k:Nat}(h:dZ l n k vs):n+k<=l.length/\vs=(l.drop n).take k:=by
 induction h with
 |nil=>simp
 |here _ ih=>simp only[z1,Kh,j6] at ih⊢;exact⟨by omega,by rw[ih.2];simp⟩
 |there _ ih=>exact⟨by simp only[z1];omega,by simpa using ih.2⟩
theorem pa{l vs l':zq}{n:Nat}(h:dY l n vs l':=by(repeat (first|exact .nil|apply dY.here|apply dY.there))):dY l n vs l':=h
theorem ga{l vs:zq}{n k:Nat}(h:dZ l n k vs:=by(repeat (first|exact .nil|apply dZ.here|apply dZ.there))):dZ l n k vs:=h
section
variable{P:zj}{N:Nat}{K R:A1}{E:List (Nat×A1)}{L:G9}{F:l9}{H:List As}{ops:Array Oper}{rest:List Oper}{ty:zk}{pos:String}{af:Array Edge}{dst:Option Nat}{gd:Option (Nat×Bool)}
variable{x y:zw}{t t':zk}{d:Nat}
theorem fP{b o:Nat}{l:zq}{te:zk}{fr:Nat×Nat}{v:Value}{H':List As}[ha:HA P t false](hx:ev L x=some (.pointer (some ⟨b,o,none⟩)))(u:N1 H (.blk b (.cells l.toArray te fr)) [] H')(hv:l[o]? =some v):dF P ⟨dst,.load t x,ty,pos,af,gd⟩ L F H v:=
 G0 hx u (by simpa using hv)
theorem gG{b o n:Nat}{l vs:zq}{te:zk}{fr:Nat×Nat}{H':List As}[ha:HA P t true][hs:HS P t n](hx:ev L x=some (.pointer (some ⟨b,o,none⟩)))(u:N1 H (.blk b (.cells l.toArray te fr)) [] H')(hv:dZ l o n vs):dF P ⟨dst,.load t x,ty,pos,af,gd⟩ L F H (.agg vs.toArray):=by
 have h:=hv.get;have a:=fF (P:=P) (F:=F) (dst:=dst) (ty:=ty) (pos:=pos) (af:=af) (gd:=gd) (t:=t) (n:=n) hx u (by simpa[J0] using h.1)
 rwa [show sl l.toArray o n=vs from by rw[h.2];simp[sl]] at a
theorem cz{b o:Nat}{l l':zq}{v:Value}{te:zk}{H':List As}[ha:HA P t false][hs:HS P t 1](hx:ev L x=some (.pointer (some ⟨b,o,none⟩)))(c:ev L y=some v)(u:N1 H (.blk b (.cells l.toArray te (0,0))) [.blk b (.cells l'.toArray te (0,0))] H')(hp:dY l o [v] l')(hc:v.cells=#[v])(d:v.oneCell'=true)(h:GL P N ops rest K E R L F H'):GL P N ops (⟨none,.store t x y,ty,pos,af,none⟩::rest) K E R L F H:=by
 have k:=hp.put;refine L1 (cs:=l.toArray) (te:=te) (n:=1) hx c ?_ (by rw[hc];rfl) (fun q a=>by rw[hc] at a;simp at a;subst a;exact d) (by simpa using k.1) h;rw[show eQ l.toArray o v.cells.toList=l'.toArray from by rw[hc,k.2];simp[eQ]];exact u
theorem Gk{b o n:Nat}{l l' vs:zq}{te:zk}{H':List As}[hs:HS P t n](hx:ev L x=some (.pointer (some ⟨b,o,none⟩)))(a:ev L y=some (.agg vs.toArray))(u:N1 H (.blk b (.cells l.toArray te (0,0))) [.blk b (.cells l'.toArray te (0,0))] H')(hp:dY l o vs l')(c:Nat.beq vs.length n=true)(d:(vs.all fun q=>q.oneCell')=true)(h:GL P N ops rest K E R L F H'):GL P N ops (⟨none,.store t x y,ty,pos,af,none⟩::rest) K E R L F H:=by
 have k:=hp.put;have e:=Qu c;refine L1 (cs:=l.toArray) (te:=te) (n:=n) hx a ?_ (by simpa[Value.cells] using e) (fun q f=>Q1.1 d q (by simpa[Value.cells] using f)) (by simp;omega) h;rw[show eQ l.toArray o (Value.agg vs.toArray).cells.toList=l'.toArray from by rw[k.2];simp[eQ,Value.cells]];exact u
theorem lp{l l':List UInt8}(hx:ev L x=some (B l))(a:ev L y=some (B l')):E5 P ⟨dst,.binOp .geq t x y t',ty,pos,af,gd⟩ L (.bool (!Op.bytesLess l l')):=
 L8 hx a (fun w=>by simp only[eqGuard_at_string,binOp_string_geq,ByteArray.toList_mk];rfl)
theorem lq{l l':List UInt8}(hx:ev L x=some (B l))(a:ev L y=some (B l')):E5 P ⟨dst,.binOp .leq t x y t',ty,pos,af,gd⟩ L (.bool (Op.bytesLess l l'||l==l')):=
 L8 hx a (fun w=>by simp only[eqGuard_at_string,binOp_string_leq,ByteArray.toList_mk];rfl)
theorem cA{z:Value}[hz:HZ P t z](hc:z.cells=#[z])(a:Nat.blt d N=true)(h:∀g,GL P N ops rest K E R ((d,.pointer (some ⟨g,0,none⟩))::L) F (.blk g (.cells [z].toArray t)::H)):
  GL P N ops (⟨some d,.alloc t,ty,pos,af,none⟩::rest) K E R L F H:=vz a (by rw[hc];exact h)
theorem M1{v:Value}(hx:ev L x=some v)(hc:v.cells=#[v])(a:Nat.blt d N=true)(h:∀g,GL P N ops rest K E R ((d,.pointer (some ⟨g,0,none⟩))::L) F (.blk g (.cells [v].toArray t)::H)):
  GL P N ops (⟨some d,.box t x,ty,pos,af,none⟩::rest) K E R L F H:=FE hx a (by rw[hc];exact h)
end
section
variable{P:zj}{L:G9}{v:Value}{dst:Option Nat}{ty:zk}{pos:String}{af:Array Edge}{gd:Option (Nat×Bool)}{x y c:zw}{t t1 t2:zk}{i:Nat}{lo hi mx:Option zw}{fnn:_root_.Go.Fn}{p q:Array zw}{tys:Array zk}{bps:Array (Nat×zw)}
theorem vR(h:E5 P ⟨dst,.fieldAddr t x i,ty,pos,af,gd⟩ L v):E5 P ⟨dst,.fieldAddr t x i,ty,pos,af,gd⟩ L v:=h
theorem yr(h:E5 P ⟨dst,.nilCheck x,ty,pos,af,gd⟩ L v):E5 P ⟨dst,.nilCheck x,ty,pos,af,gd⟩ L v:=h
theorem Ps(h:E5 P ⟨dst,.pick c x y,ty,pos,af,gd⟩ L v):E5 P ⟨dst,.pick c x y,ty,pos,af,gd⟩ L v:=h
theorem Sn(h:E5 P ⟨dst,.call ⟨.builtin .len,#[x],#[t]⟩,ty,pos,af,gd⟩ L v):E5 P ⟨dst,.call ⟨.builtin .len,#[x],#[t]⟩,ty,pos,af,gd⟩ L v:=h
theorem So(h:E5 P ⟨dst,.unOp .neg t x,ty,pos,af,gd⟩ L v):E5 P ⟨dst,.unOp .neg t x,ty,pos,af,gd⟩ L v:=h
theorem vS(h:E5 P ⟨dst,.indexAddr t x y,ty,pos,af,gd⟩ L v):E5 P ⟨dst,.indexAddr t x y,ty,pos,af,gd⟩ L v:=h
theorem Li(h:E5 P ⟨dst,.index t x y,ty,pos,af,gd⟩ L v):E5 P ⟨dst,.index t x y,ty,pos,af,gd⟩ L v:=h
theorem Lj(h:E5 P ⟨dst,.slice t x lo hi mx,ty,pos,af,gd⟩ L v):E5 P ⟨dst,.slice t x lo hi mx,ty,pos,af,gd⟩ L v:=h
theorem yt(h:E5 P ⟨dst,.makeFunc fnn p q,ty,pos,af,gd⟩ L v):E5 P ⟨dst,.makeFunc fnn p q,ty,pos,af,gd⟩ L v:=h
theorem Dm(h:E5 P ⟨dst,.convert t t1 x,ty,pos,af,gd⟩ L v):E5 P ⟨dst,.convert t t1 x,ty,pos,af,gd⟩ L v:=h
theorem Lk(h:E5 P ⟨dst,.build t bps,ty,pos,af,gd⟩ L v):E5 P ⟨dst,.build t bps,ty,pos,af,gd⟩ L v:=h
theorem Sq(h:E5 P ⟨dst,.binOp .add t x y t2,ty,pos,af,gd⟩ L v):E5 P ⟨dst,.binOp .add t x y t2,ty,pos,af,gd⟩ L v:=h
theorem Sr(h:E5 P ⟨dst,.binOp .sub t x y t2,ty,pos,af,gd⟩ L v):E5 P ⟨dst,.binOp .sub t x y t2,ty,pos,af,gd⟩ L v:=h
theorem Ss(h:E5 P ⟨dst,.binOp .mul t x y t2,ty,pos,af,gd⟩ L v):E5 P ⟨dst,.binOp .mul t x y t2,ty,pos,af,gd⟩ L v:=h
theorem St(h:E5 P ⟨dst,.binOp .quo t x y t2,ty,pos,af,gd⟩ L v):E5 P ⟨dst,.binOp .quo t x y t2,ty,pos,af,gd⟩ L v:=h
theorem Su(h:E5 P ⟨dst,.binOp .rem t x y t2,ty,pos,af,gd⟩ L v):E5 P ⟨dst,.binOp .rem t x y t2,ty,pos,af,gd⟩ L v:=h
theorem Sv(h:E5 P ⟨dst,.binOp .xor t x y t2,ty,pos,af,gd⟩ L v):E5 P ⟨dst,.binOp .xor t x y t2,ty,pos,af,gd⟩ L v:=h
theorem Sw(h:E5 P ⟨dst,.binOp .shl t x y t2,ty,pos,af,gd⟩ L v):E5 P ⟨dst,.binOp .shl t x y t2,ty,pos,af,gd⟩ L v:=h
theorem Sx(h:E5 P ⟨dst,.binOp .shr t x y t2,ty,pos,af,gd⟩ L v):E5 P ⟨dst,.binOp .shr t x y t2,ty,pos,af,gd⟩ L v:=h
theorem Sy(h:E5 P ⟨dst,.binOp .eql t x y t2,ty,pos,af,gd⟩ L v):E5 P ⟨dst,.binOp .eql t x y t2,ty,pos,af,gd⟩ L v:=h
theorem Sz(h:E5 P ⟨dst,.binOp .neq t x y t2,ty,pos,af,gd⟩ L v):E5 P ⟨dst,.binOp .neq t x y t2,ty,pos,af,gd⟩ L v:=h
theorem SA(h:E5 P ⟨dst,.binOp .lss t x y t2,ty,pos,af,gd⟩ L v):E5 P ⟨dst,.binOp .lss t x y t2,ty,pos,af,gd⟩ L v:=h
theorem SB(h:E5 P ⟨dst,.binOp .leq t x y t2,ty,pos,af,gd⟩ L v):E5 P ⟨dst,.binOp .leq t x y t2,ty,pos,af,gd⟩ L v:=h
theorem SC(h:E5 P ⟨dst,.binOp .geq t x y t2,ty,pos,af,gd⟩ L v):E5 P ⟨dst,.binOp .geq t x y t2,ty,pos,af,gd⟩ L v:=h
end
section
variable{P:zj}{N:Nat}{K R:A1}{E:List (Nat×A1)}{L:G9}{F:l9}{H:List As}{ops:Array Oper}{rest:List Oper}{ty:zk}{pos:String}{af:Array Edge}{dst:Option Nat}{gd:Option (Nat×Bool)}{x y:zw}{t t':zk}{d:Nat}{op:Op}{jb:Nat×Bool}
theorem Pt(h:GL P N ops (⟨some d,.load t x,ty,pos,af,gd⟩::rest) K E R L F H):GL P N ops (⟨some d,.load t x,ty,pos,af,gd⟩::rest) K E R L F H:=h
theorem Ll(h:GL P N ops (⟨none,.store t x y,ty,pos,af,none⟩::rest) K E R L F H):GL P N ops (⟨none,.store t x y,ty,pos,af,none⟩::rest) K E R L F H:=h
theorem Lm(h:GL P N ops (⟨some d,.alloc t,ty,pos,af,none⟩::rest) K E R L F H):GL P N ops (⟨some d,.alloc t,ty,pos,af,none⟩::rest) K E R L F H:=h
theorem SF(h:GL P N ops (⟨some d,.box t x,ty,pos,af,none⟩::rest) K E R L F H):GL P N ops (⟨some d,.box t x,ty,pos,af,none⟩::rest) K E R L F H:=h
theorem SG{n:Nat}{a:Array (Nat×zw)}(h:GL P N ops (⟨some d,.buildSlice t n a,ty,pos,af,none⟩::rest) K E R L F H):GL P N ops (⟨some d,.buildSlice t n a,ty,pos,af,none⟩::rest) K E R L F H:=h
theorem Ln(h:GL P N ops (⟨some d,op,ty,pos,af,some jb⟩::rest) K E R L F H):GL P N ops (⟨some d,op,ty,pos,af,some jb⟩::rest) K E R L F H:=h
theorem Lo(h:GL P N ops (⟨some d,op,ty,pos,af,none⟩::rest) K E R L F H):GL P N ops (⟨some d,op,ty,pos,af,none⟩::rest) K E R L F H:=h
end
class SH(P:zj)(t:zk)(fs:outParam (Array Field))(places:outParam (List (Nat×Nat))):Prop where
 hu:P.underlying t=some (.struct fs)
 hp:fs.toList.map (fun f=>(f.offset,P.cellsOf f.type))=places
 hin:(fs.toList.all fun f=>(P.info? f.type).isSome)=true
theorem A2{P:zj}{L:G9}{dst:Option Tmp}{ty t:zk}{pos:String}{af:Array Edge}{gd:Option (Nat×Bool)}{fs:Array Field}{a:List (Nat×Nat)}{z:Value}{ps:List (Nat×zw)}{vs:List (Nat×Value)}{cells:Array Value}[hb:SH P t fs a][hz:HZ P t z](hx:AA L ps=some vs)(b:Instr.fill (a[·]?) z.cells vs=some cells):E5 P ⟨dst,.build t ps.toArray,ty,pos,af,gd⟩ L (.agg cells):=
 have:HU P t (.struct fs):=⟨hb.hu⟩
 db hx (li (fs:=fs) hb.hp (fun f hf=>Q1.1 hb.hin f hf) b)
section
variable{P:zj}{L:G9}{F:l9}{H:List As}{o:Oper}{v:Value}
theorem oF(h:E5 P o L v:=by(first
 |exact aN rfl
 |exact vu rfl
 |exact vR (by first|exact vx rfl (by rfl) (by infer_instance) qp|exact qZ rfl (by assumption) (by rfl) (by infer_instance) qp)
 |exact yr (by first|exact yh rfl|exact tF rfl (by assumption))
 |exact Sy (by first|exact q_ rfl rfl|exact C9 rfl rfl|exact iD rfl rfl|exact CW rfl rfl|exact md rfl rfl)
 |exact Ps (by first|exact FH rfl rfl|exact FJ rfl rfl)
 |exact Sn (by first|exact CT rfl|exact FF rfl)
 |exact SA (by exact F8 rfl rfl)
 |exact Sq (by first|exact r8 rfl rfl qb|exact L9 rfl rfl qb|exact H_ rfl rfl Sk)
 |exact vS (by first|exact n5 rfl (by assumption) rfl qb|exact bL rfl rfl qb)
 |exact Sr (by first|exact E7 rfl rfl qb|exact CN rfl rfl qb)
 |exact Sg rfl
 |exact U9 rfl rfl
 |exact SC (by first|exact K_ rfl rfl|exact lp rfl rfl)
 |exact Sz (by first|exact M2 rfl rfl|exact F7 rfl rfl|exact oe rfl rfl)
 |exact SB (by first|exact H4 rfl rfl|exact lq rfl rfl)
 |exact E9 rfl rfl
 |exact Dm (by first|exact bM rfl qb|exact A3 rfl qb|exact cr rfl qb)
 |exact Li (by exact B5 rfl rfl qb)
 |exact Lj (by exact I2 rfl rfl rfl Sk)
 |exact yt (by exact oh rfl rfl)
 |exact Lk (by exact A2 rfl (by rfl))
 |exact FG rfl rfl
 |exact ol rfl rfl
 |exact So (by exact Sf rfl qb)
 |exact Ss (by first|exact CK rfl rfl qb|exact rH rfl rfl qb)
 |exact St (by exact CR rfl rfl qb)
 |exact Su (by exact CS rfl rfl qb)
 |exact Sv (by exact lh (.inr (.inr (.inl rfl))) rfl rfl)
 |exact Sw (by exact Az rfl rfl qb)
 |exact Sx (by exact Om rfl rfl qb)
 |exact On rfl)):E5 P o L v:=h
theorem oR(h:dF P o L F H v:=by(first
 |exact fP rfl ud rfl
 |exact gG rfl ud ga
 |exact me rfl ud (by rfl)
 |exact G0 rfl ud (by rfl)
 |exact fF rfl ud (by rfl)
 |exact l5 rfl (fun w a=>vK a (by assumption) rfl)
 |exact p9 rfl (fun w a=>Pj a (by assumption)) (by rfl))):dF P o L F H v:=h
end
section
variable{P:zj}{N:Nat}{K R:A1}{E:List (Nat×A1)}{L:G9}{F:l9}{H Hk:List As}{ops:Array Oper}{rs:Rs}{done:zz}{n d:Nat}{i:Nat}{s:zz}{p:Prop}{o oj:Oper}{v:Value}{x:As}{H':List As}{j t:Nat}{b q:Bool}
theorem Pv(h:P5 (i::s) p)(b:ops[i]? =some o)(f:E5 P o L v)(hg:o.guard=none)(a:o.dst=some d)(c:Nat.blt d N=true)(hc:O4 ops rs done i=true)(k:P5 s p->GA P N ops rs Hk n (i::done) K E R ((d,v)::L) F H)(hE:E.lookup 1=none:=by rfl):GA P N ops rs Hk (n+1) done K E R L F H:=AG i b f hg a c hc (k h.step) hE
theorem Gm(h:P5 (i::s) p)(c:ops[i]? =some o)(f:E5 P o L v)(hg:o.guard=some (j,b))(e:ops[j]? =some oj)(g:oj.dst=some t)(hv:find L t=some (.bool b))(a:o.dst=some d)(l:Nat.blt d N=true)(hc:O4 ops rs done i=true)(k:P5 s p->GA P N ops rs Hk n (i::done) K E R ((d,v)::L) F H)(hE:E.lookup 1=none:=by rfl):GA P N ops rs Hk (n+1) done K E R L F H:=G4 i c f hg e g hv a l hc (k h.step) hE
theorem Pw(h:P5 (i::s) p)(e:ops[i]? =some o)(hg:o.guard=some (j,b))(f:ops[j]? =some oj)(g:oj.dst=some t)(hv:find L t=some (.bool q))(c:q=!b)(a:o.dst=some d)(l:Nat.blt d N=true)(hc:O4 ops rs done i=true)(k:P5 s p->GA P N ops rs Hk n (i::done) K E R ((d,undef)::L) F H)(hE:E.lookup 1=none:=by rfl):GA P N ops rs Hk (n+1) done K E R L F H:=AH i e hg f g hv c a l hc (k h.step) hE
theorem Dn(h:P5 (i::s) p)(c:ops[i]? =some o)(hg:o.guard=some (j,b))(e:ops[j]? =some oj)(f:oj.dst=some t)(hv:find L t=some undef)(a:o.dst=some d)(g:Nat.blt d N=true)(hc:O4 ops rs done i=true)(k:P5 s p->GA P N ops rs Hk n (i::done) K E R ((d,undef)::L) F H)(hE:E.lookup 1=none:=by rfl):GA P N ops rs Hk (n+1) done K E R L F H:=ox i c hg e f hv a g hc (k h.step) hE
theorem Gn(h:P5 (i::s) p)(b:ops[i]? =some o)(u:N1 H x [] H')(f:dF P o L F [x] v)(hg:o.guard=none)(a:o.dst=some d)(c:Nat.blt d N=true)(hc:an ops rs done i=true)(k:P5 s p->GA P N ops rs H n (i::done) K E R ((d,v)::L) F H)(hE:E.lookup 1=none:=by rfl):GA P N ops rs H (n+1) done K E R L F H:=bU i b u f hg a c hc (k h.step) hE
theorem vT(h:P5 (i::s) p)(c:ops[i]? =some o)(u:N1 H x [] H')(f:dF P o L F [x] v)(hg:o.guard=some (j,b))(e:ops[j]? =some oj)(g:oj.dst=some t)(hv:find L t=some (.bool b))(a:o.dst=some d)(l:Nat.blt d N=true)(hc:an ops rs done i=true)(k:P5 s p->GA P N ops rs H n (i::done) K E R ((d,v)::L) F H)(hE:E.lookup 1=none:=by rfl):GA P N ops rs H (n+1) done K E R L F H:=Da i c u f hg e g hv a l hc (k h.step) hE
theorem vU(h:P5 (i::s) p)(b:ops[i]? =some o)(hx:x∈Hk)(f:dF P o L F [x] v)(c:∀y∈Hk,y∈H)(hg:o.guard=none)(a:o.dst=some d)(e:Nat.blt d N=true)(hc:an ops rs done i=true)(k:P5 s p->GA P N ops rs Hk n (i::done) K E R ((d,v)::L) F H)(hE:E.lookup 1=none:=by rfl):GA P N ops rs Hk (n+1) done K E R L F H:=o7 i b hx f c hg a e hc (k h.step) hE
theorem rQ(h:P5 (i::s) p)(c:ops[i]? =some o)(hx:x∈Hk)(f:dF P o L F [x] v)(e:∀y∈Hk,y∈H)(hg:o.guard=some (j,b))(g:ops[j]? =some oj)(l:oj.dst=some t)(hv:find L t=some (.bool b))(a:o.dst=some d)(m:Nat.blt d N=true)(hc:an ops rs done i=true)(k:P5 s p->GA P N ops rs Hk n (i::done) K E R ((d,v)::L) F H)(hE:E.lookup 1=none:=by rfl):GA P N ops rs Hk (n+1) done K E R L F H:=B8 i c hx f e hg g l hv a m hc (k h.step) hE
theorem Lp(h:P5 (i::s) p)(b:ops[i]? =some o)(f:dF P o L F [] v)(c:∀y∈Hk,y∈H)(hg:o.guard=none)(a:o.dst=some d)(e:Nat.blt d N=true)(hc:an ops rs done i=true)(k:P5 s p->GA P N ops rs Hk n (i::done) K E R ((d,v)::L) F H)(hE:E.lookup 1=none:=by rfl):GA P N ops rs Hk (n+1) done K E R L F H:=A9 i b f c hg a e hc (k h.step) hE
theorem Do(h:P5 (i::s) p)(c:ops[i]? =some o)(f:dF P o L F [] v)(e:∀y∈Hk,y∈H)(hg:o.guard=some (j,b))(g:ops[j]? =some oj)(l:oj.dst=some t)(hv:find L t=some (.bool b))(a:o.dst=some d)(m:Nat.blt d N=true)(hc:an ops rs done i=true)(k:P5 s p->GA P N ops rs Hk n (i::done) K E R ((d,v)::L) F H)(hE:E.lookup 1=none:=by rfl):GA P N ops rs Hk (n+1) done K E R L F H:=iE i c f e hg g l hv a m hc (k h.step) hE
theorem SI(h:P5 (i::s) p)(b:ops[i]? =some o)(c:(Region.ready .any ops (y8 ops.size done)==[i])=true)(k:GL P N ops [o] (fun a w=>(aO ops rs (y8 ops.size done) i=true->True->P0 F Hk w)/\fx P ops (MQ K E R) (fun w=>P0 F Hk w) (aO ops rs) n (y8 ops.size (i::done)) a w) (pE E) (fun _ _=>False) L F H):GA P N ops rs Hk (n+1) done K E R L F H:=h_ i b c k
theorem G3(h:∀y∈Hk,y∈H:=by(first|exact fun _ h=>h|(repeat (first|exact tH|refine oC (by repeat (first|exact List.Mem.head _|apply List.Mem.tail)) ?_)))):∀y∈Hk,y∈H:=h
theorem UG(h:x∈Hk:=by(repeat (first|exact List.Mem.head _|apply List.Mem.tail))):x∈Hk:=h
end
inductive y9:List As->List As->List As->Prop
 |nil {H:List As}:y9 [] H H
 |cons {x:As} {C H H1 R:List As}:N1 H x [] H1->y9 C H1 R->y9 (x::C) H R
theorem y9.hp{C H R:List As}(h:y9 C H R){F:l9}{w:World}(a:Hp F w H):Hp F w (C++R):=by
 have k:H.Perm (C++R):=by
  clear a
  induction h with
  |nil=>exact .refl _
  |cons u _ ih=>exact(u.perm rfl).trans (ih.cons _)
 exact a.perm k
theorem tk{C H R:List As}(h:y9 C H R:=by(repeat (first|exact .nil|(apply y9.cons;exact ud)))):y9 C H R:=h
section
variable{P:zj}{N:Nat}{K R:A1}{E:List (Nat×A1)}{L:G9}{F:l9}{H Hk:List As}{ops:Array Oper}{rest:List Oper}{o:Oper}{c:Code}{rs:Rs}{done:zz}{n j d t:Nat}{b:Bool}{op:Op}{ty:zk}{pos:String}{af:Array Edge}{dst:Option Nat}{x:zw}
theorem a1H(h:GL P N ops (o::rest) K E R L F H):GL P N ops (o::rest) K E R L F H:=h
theorem u_g(h:G P N c K E R L F H):G P N c K E R L F H:=h
theorem a1I(h:GA P N ops rs Hk (n+1) done K E R L F H):GA P N ops rs Hk (n+1) done K E R L F H:=h
theorem Oo{s:zz}{p:Prop}{i:Nat}{a:Option (Nat×Bool)}(h:P5 (i::s) p)(b:ops[i]? =some ⟨dst,.load t x,ty,pos,af,a⟩)(k:GA P N ops rs Hk (n+1) done K E R L F H):GA P N ops rs Hk (n+1) done K E R L F H:=k
theorem SJ{s:zz}{p:Prop}{i:Nat}{a:Nat×Bool}(h:P5 (i::s) p)(b:ops[i]? =some ⟨dst,op,ty,pos,af,some a⟩)(k:GA P N ops rs Hk (n+1) done K E R L F H):GA P N ops rs Hk (n+1) done K E R L F H:=k
end
theorem jf{s:zz}{g a:Prop}(h:P5 s a)(st:P5 s a->g:=by(
 intro h;(repeat' (first
  |(refine a1H ?_;first
   |(refine Pt ?_;refine r_ oR ?_;replace h:=P5.step h)
   |(refine Lo ?_;refine f_ oF ?_;replace h:=P5.step h)
   |(refine Ll ?_;(first|refine cz rfl rfl uh pa rfl rfl ?_|refine Gk rfl rfl uh pa rfl rfl ?_);replace h:=P5.step h)
   |(refine Ln ?_;first|(refine U4 rfl rfl rfl rfl rfl rfl rfl ?_;replace h:=P5.step h)|(refine Y_ rfl rfl rfl rfl rfl rfl ?_;replace h:=P5.step h)|(have:=P5.pos h;clear this;refine A7 rfl rfl rfl ?_))
   |(refine Lm ?_;first|exact i7 rfl (P5.last h)|exact cA rfl rfl (P5.last h))
   |(refine SG ?_;exact N3 rfl (P5.last h))
   |(refine SF ?_;first|exact m8 rfl rfl (P5.last h)|exact M1 rfl rfl rfl (P5.last h)))
  |(refine a1I ?_;first
   |(refine SJ h rfl ?_;first
    |(refine Pw h rfl rfl rfl rfl rfl rfl rfl rfl i6 ?_;clear h;intro h)
    |(refine Dn h rfl rfl rfl rfl rfl rfl rfl i6 ?_;clear h;intro h)
    |(refine Oo h rfl ?_;first
     |(refine vT h rfl ud (fP rfl .del (by rfl)) rfl rfl rfl rfl rfl rfl i6 ?_;clear h;intro h)
     |(refine vT h rfl ud (gG rfl .del ga) rfl rfl rfl rfl rfl rfl i6 ?_;clear h;intro h)
     |(refine rQ h rfl UG (fP rfl .del (by rfl)) G3 rfl rfl rfl rfl rfl rfl i6 ?_;clear h;intro h)
     |(refine rQ h rfl UG (gG rfl .del ga) G3 rfl rfl rfl rfl rfl rfl i6 ?_;clear h;intro h)
     |(refine Do h rfl oR G3 rfl rfl rfl rfl rfl rfl i6 ?_;clear h;intro h))
    |(refine Gm h rfl oF rfl rfl rfl rfl rfl rfl i6 ?_;clear h;intro h))
   |(refine Oo h rfl ?_;first
    |(refine Gn h rfl ud (fP rfl .del (by rfl)) rfl rfl rfl i6 ?_;clear h;intro h)
    |(refine Gn h rfl ud (gG rfl .del ga) rfl rfl rfl i6 ?_;clear h;intro h)
    |(refine vU h rfl UG (fP rfl .del (by rfl)) G3 rfl rfl rfl i6 ?_;clear h;intro h)
    |(refine vU h rfl UG (gG rfl .del ga) G3 rfl rfl rfl i6 ?_;clear h;intro h)
    |(refine Lp h rfl oR G3 rfl rfl rfl i6 ?_;clear h;intro h))
   |(refine Pv h rfl oF rfl rfl rfl i6 ?_;clear h;intro h)
   |refine SI h rfl i6 ?_)
  |refine G5 ?_
  |refine Ax ?_
  |refine nq ?_
  |(refine u_g ?_;first
   |(have:=P5.chk h;clear this;refine U2 ?_)
   |refine tC ?_
   |(have:=P5.chk0 h;clear this;refine o0 ?_)
   |(have:=P5.chk h;clear this;refine o0 ?_)
   |refine tD rfl ?_
   |refine jl rfl ?_
   |refine jo rfl ?_)
  |refine dU (.inl (by decide+kernel)) ?_
  |refine dU (.inr (bw G3)) ?_
  |refine La (by decide+kernel) ?_))
 all_goals (first|exact h.none|exact h.nb))):g:=st h
theorem wd(s:zz){g a:Prop}(h:a)(st:P5 s a->g:=by exact fun h=>jf h):g:=st ⟨h⟩
theorem I6(n:Nat){g a:Prop}(h:a)(st:P5 (List.replicate n 0++[7]) a->g:=by exact fun h=>jf h):g:=st ⟨h⟩
theorem wk(n:Nat){g a:Prop}(h:a)(st:P5 (List.replicate n 0) a->g:=by exact fun h=>jf h):g:=st ⟨h⟩
theorem rR{g g1 a:Prop}(h:a)(s1:g1->g:=by exact G5)(b:a->g1:=by exact dU (.inl i6)):g:=s1 (b h)
theorem V2{g g1 a:Prop}(h:a)(s1:g1->g:=by exact G5)(b:a->g1:=by exact dU (.inr (bw G3))):g:=s1 (b h)
theorem D7(s:zz){g g1 a g3:Prop}(h:g3)(s1:g1->g:=by exact G5)(b:a->g1:=by exact dU (.inl i6))(st:P5 s g3->a:=by exact fun h=>jf h):g:=s1 (b (st ⟨h⟩))
theorem fy(s:zz){g g1 a g3:Prop}(h:g3)(s1:g1->g:=by exact G5)(b:a->g1:=by exact dU (.inr (bw G3)))(st:P5 s g3->a:=by exact fun h=>jf h):g:=s1 (b (st ⟨h⟩))
theorem O_{g g1 a g3:Prop}(h:a)(b:g3)(st:P5 (List.replicate 0 0) g1->g:=by exact fun h=>jf h)(c:a->g3->g1:=by exact p7 rfl):g:=st ⟨c h b⟩
theorem T2{g g1 a g3:Prop}(h:a)(b:g3)(st:P5 (List.replicate 1 0) g1->g:=by exact fun h=>jf h)(c:a->g3->g1:=by exact p7 rfl):g:=st ⟨c h b⟩
theorem bQ{g g1 a g3:Prop}(h:a)(b:g3)(st:P5 (List.replicate 2 0) g1->g:=by exact fun h=>jf h)(c:a->g3->g1:=by exact p7 rfl):g:=st ⟨c h b⟩
theorem eV{g g1 a g3:Prop}(h:a)(b:g3)(st:P5 (List.replicate 3 0) g1->g:=by exact fun h=>jf h)(c:a->g3->g1:=by exact p7 rfl):g:=st ⟨c h b⟩
theorem AO{g g1 a g3:Prop}(h:a)(b:g3)(st:P5 (List.replicate 4 0) g1->g:=by exact fun h=>jf h)(c:a->g3->g1:=by exact p7 rfl):g:=st ⟨c h b⟩
theorem KG{g g1 a g3:Prop}(h:a)(b:g3)(st:P5 (List.replicate 5 0) g1->g:=by exact fun h=>jf h)(c:a->g3->g1:=by exact p7 rfl):g:=st ⟨c h b⟩
theorem x6{g g1:Prop}(h:g1)(st:P5 (List.replicate 0 0) g1->g:=by exact fun h=>jf h):g:=st ⟨h⟩
theorem u6{g g1:Prop}(h:g1)(st:P5 (List.replicate 1 0) g1->g:=by exact fun h=>jf h):g:=st ⟨h⟩
theorem A5{g g1:Prop}(h:g1)(st:P5 (List.replicate 2 0) g1->g:=by exact fun h=>jf h):g:=st ⟨h⟩
theorem E8{g g1:Prop}(h:g1)(st:P5 (List.replicate 3 0) g1->g:=by exact fun h=>jf h):g:=st ⟨h⟩
theorem P1{g g1:Prop}(h:g1)(st:P5 (List.replicate 4 0) g1->g:=by exact fun h=>jf h):g:=st ⟨h⟩
theorem al{g g1:Prop}(h:g1)(st:P5 (List.replicate 5 0) g1->g:=by exact fun h=>jf h):g:=st ⟨h⟩
theorem Y1{g g1:Prop}(h:g1)(st:P5 (List.replicate 6 0) g1->g:=by exact fun h=>jf h):g:=st ⟨h⟩
theorem oK{g g1 a:Prop}(h:a)(st:P5 (List.replicate 0 0) g1->g:=by exact fun h=>jf h)(b:a->g1:=by exact B4):g:=st ⟨b h⟩
theorem D0{g g1 a:Prop}(h:a)(st:P5 (List.replicate 1 0) g1->g:=by exact fun h=>jf h)(b:a->g1:=by exact B4):g:=st ⟨b h⟩
theorem M4{g g1 a:Prop}(h:a)(st:P5 (List.replicate 2 0) g1->g:=by exact fun h=>jf h)(b:a->g1:=by exact B4):g:=st ⟨b h⟩
theorem cn{g g1 a:Prop}(h:a)(st:P5 (List.replicate 3 0) g1->g:=by exact fun h=>jf h)(b:a->g1:=by exact B4):g:=st ⟨b h⟩
theorem KH{g g1 a:Prop}(h:a)(st:P5 (List.replicate 4 0) g1->g:=by exact fun h=>jf h)(b:a->g1:=by exact B4):g:=st ⟨b h⟩
theorem KI{g g1 a:Prop}(h:a)(st:P5 (List.replicate 5 0) g1->g:=by exact fun h=>jf h)(b:a->g1:=by exact B4):g:=st ⟨b h⟩
theorem Oq{g g1 a:Prop}(h:a)(st:P5 (List.replicate 6 0) g1->g:=by exact fun h=>jf h)(b:a->g1:=by exact B4):g:=st ⟨b h⟩
theorem Lq{g g1 a:Prop}(h:a)(st:P5 (List.replicate 7 0) g1->g:=by exact fun h=>jf h)(b:a->g1:=by exact B4):g:=st ⟨b h⟩
theorem Ot{g g1 a:Prop}(h:a)(st:P5 (List.replicate 8 0) g1->g:=by exact fun h=>jf h)(b:a->g1:=by exact B4):g:=st ⟨b h⟩
theorem D1{g g1 a:Prop}(h:a)(st:P5 (List.replicate 0 0) g1->g:=by exact fun h=>jf h)(b:a->g1:=by exact U2):g:=st ⟨b h⟩
theorem yu{g g1 a:Prop}(h:a)(st:P5 (List.replicate 1 0) g1->g:=by exact fun h=>jf h)(b:a->g1:=by exact U2):g:=st ⟨b h⟩
theorem RG{g g1 a:Prop}(h:a)(st:P5 (List.replicate 2 0) g1->g:=by exact fun h=>jf h)(b:a->g1:=by exact U2):g:=st ⟨b h⟩
end Go.Sl
namespace Go.Proofs.YtmcepdopookilaaGreatDoor
open Go Go.Sl Go.Proofs.Tryz
theorem Y2{P:zj}{t:zk}{fs:Array Field}{pl:List (Nat×Nat)}(hu:P.underlying t=some (.struct fs))(hp:fs.toList.map (fun f=>(f.offset,P.cellsOf f.type))=pl)(a:(fs.toList.all fun f=>(P.info? f.type).isSome)=true):SH P t fs pl:=⟨hu,hp,a⟩
abbrev b30:=Y2 (pl:=[(0,1),(1,1),(2,1)]) underlying30 i6 i6
abbrev b36:=Y2 (pl:=[(0,1),(1,1),(2,1),(3,1),(4,1),(5,1),(6,1),(7,1),(8,1),(9,1),(10,1),(11,1),(12,1),(13,1),(14,1),(15,1),(16,1)]) underlying36 i6 i6
abbrev b41:=Y2 (pl:=[(0,1),(1,1)]) underlying41 i6 i6
abbrev b44:=Y2 (pl:=[(0,1),(1,1),(2,1),(3,1),(4,1),(5,1),(6,1),(7,1),(8,1),(9,1),(10,1),(11,1),(12,1),(13,1),(14,1),(15,1),(16,1)]) underlying44 i6 i6
abbrev b48:=Y2 (pl:=[(0,27),(27,27),(54,2),(56,1),(57,1),(58,1),(59,23),(82,17)]) underlying48 i6 i6
abbrev b51:=Y2 (pl:=[(0,1),(1,1),(2,1),(3,1),(4,1),(5,1),(6,1),(7,1),(8,1),(9,1)]) underlying51 i6 i6
abbrev b62:=Y2 (pl:=[(0,1),(1,1),(2,1),(3,1),(4,1),(5,1)]) underlying62 i6 i6
abbrev b65:=Y2 (pl:=[(0,27),(27,6),(33,17),(50,1),(51,1)]) underlying65 i6 i6
abbrev b70:=Y2 (pl:=[(0,1),(1,2),(3,1),(4,17)]) underlying70 i6 i6
abbrev b72:=Y2 (pl:=[(0,1),(1,1)]) underlying72 i6 i6
abbrev b86:=Y2 (pl:=[(0,1),(1,1),(2,1),(3,1),(4,1)]) underlying86 i6 i6
abbrev b95:=Y2 (pl:=[(0,1),(1,1)]) underlying95 i6 i6
abbrev a1J:=Y2 (pl:=[(0,1),(1,1),(2,1),(3,1),(4,1)]) underlying100 i6 i6
abbrev a1K:=Y2 (pl:=[(0,1),(1,1),(2,1),(3,1),(4,1)]) underlying102 i6 i6
abbrev a1L:=Y2 (pl:=[(0,1),(1,1),(2,1)]) underlying104 i6 i6
abbrev a1M:=Y2 (pl:=[(0,1),(1,1),(2,1),(3,1),(4,1),(5,1)]) underlying110 i6 i6
abbrev a1N:=Y2 (pl:=[(0,1),(1,1),(2,1),(3,1),(4,1),(5,1)]) underlying127 i6 i6
abbrev a1O:=Y2 (pl:=[(0,1),(1,1),(2,1),(3,1),(4,1)]) underlying129 i6 i6
abbrev a1P:=Y2 (pl:=[(0,6),(6,17),(23,5)]) underlying136 i6 i6
abbrev a1Q:=Y2 (pl:=[(0,27),(27,23)]) underlying141 i6 i6
abbrev a1R:=Y2 (pl:=[(0,1),(1,17),(18,6),(24,5),(29,5),(34,1),(35,1),(36,10)]) underlying149 i6 i6
abbrev a1S:=Y2 (pl:=[(0,1),(1,1),(2,1),(3,1),(4,1)]) underlying156 i6 i6
abbrev a1T:=Y2 (pl:=[(0,1),(1,1)]) underlying178 i6 i6
abbrev a1U:=Y2 (pl:=[(0,1),(1,1),(2,17)]) underlying211 i6 i6
abbrev a1V:=Y2 (pl:=[(0,1),(1,1),(2,1)]) underlying214 i6 i6
abbrev a1W:=Y2 (pl:=[]) underlying219 i6 i6
abbrev a1X:=Y2 (pl:=[(0,1),(1,1),(2,1)]) underlying225 i6 i6
abbrev a1Y:=Y2 (pl:=[(0,1),(1,1)]) underlying327 i6 i6
abbrev a1Z:=Y2 (pl:=[(0,1),(1,1),(2,1)]) underlying333 i6 i6
abbrev a15:=Y2 (pl:=[(0,1),(1,1)]) underlying340 i6 i6
abbrev a19:=Y2 (pl:=[(0,1),(1,5)]) underlying371 i6 i6
attribute [instance] b30 b36 b41 b44 b48 b51 b62 b65 b70 b72 b86 b95 a1J a1K a1L a1M a1N a1O a1P a1Q a1R a1S a1T a1U a1V a1W a1X a1Y a1Z a15 a19
end Go.Proofs.YtmcepdopookilaaGreatDoor
namespace Go.Sl
open Go Go.RowKit Go.Proofs.Tryz
class Mn(p:l_->Prop):Prop where
 le:∀{h h':l_},l_.le h h'->p h->p h'
instance {a:qr} {xs:zq}:Mn (fun h=>n9 h a xs):=⟨fun l r=>r.le l⟩
instance {p q:l_->Prop} [a:Mn p] [b:Mn q]:Mn (fun h=>p h/\q h):=⟨fun l r=>⟨a.le l r.1,b.le l r.2⟩⟩
instance {p:Prop}:Mn (fun _=>p):=⟨fun _ r=>r⟩
theorem y9.left{A H R:List As}(h:y9 A H R){F:l9}{w:World}(a:Hp F w H):Hp F w A:=(h.hp a).left
def Cm(P:zj)(f:FuncId)(args:zq)(Pre:l_->Prop)(C:List As)(Q:l_->Value->List As->Prop):Prop:=
 ∀(F:l9) (R:List As) (w:World),Hp F w (C++R)->Pre F.heap->Calls P f args.toArray w fun e w'=>∃v A F',e=.returned v/\F.le F'/\Q F'.heap v A/\Hp F' w' (A++R)
def Dp(P:zj)(fn:Func)(F0:l9)(R:List As)(Q:l_->Value->List As->Prop):A1:=fun a w=>∃v A F',(results fn a.tmps).run P w=.ok v w/\F0.le F'/\Q F'.heap v A/\Hp F' w (A++R)/\a.defers=[]
theorem A0{P:zj}{f:FuncId}{fn:Func}{c:Code}{args:zq}{d:l_->Prop}{C:List As}{Q:l_->Value->List As->Prop}(N:Nat)(hf:P.funcs[f]? =some fn)(r:fn.body=some c)(s:fn.ntmps=N)(i:Nat.ble args.length N=true)(h:∀(F:l9) (R:List As),d F.heap->G P N c (Dp P fn F R Q) [] (Dp P fn F R Q) (aM 0 args) F (C++R)):Cm P f args d C Q:=by
 intro F R w t g;refine calls_of_wp hf r ?_;rw[s];have b:=h F R g;unfold G at b;refine Code.wp_mono (fun e a u q=>?_) (b _ w (U3 N args i) t)
 cases e with
 |normal=>obtain⟨v,A,j,b,m,n,o,p⟩:=q;exact⟨p,v,b,v,A,j,rfl,m,n,o⟩
 |ret=>obtain⟨v,A,j,b,m,n,o,p⟩:=q;exact⟨p,v,b,v,A,j,rfl,m,n,o⟩
 |exit id=>simp[MQ] at q
 |goto l=>exact q.elim
 |panic ch=>rcases q with⟨k,v,h,_⟩|⟨k,v,h,_⟩<;>cases h
 |outgrown=>exact q.elim
theorem Cm.of_ct{P:zj}{f:FuncId}{args:zq}{g:l_->Prop}{C:List As}{a:Value->List As->Prop}(h:Ct P f args g C a){Pre':l_->Prop}(l:∀x y,l_.le x y->Pre' x->g y):Cm P f args Pre' C (fun _ v A=>a v A):=by
 intro F R w m i;obtain⟨D,hs,r,j⟩:=m.own;obtain⟨n,J,e,k,p⟩:=A_.split hs;subst e;refine(h w n k (Qg.1 r).1 (l _ _ (fun b o q=>?_) i)).mono ?_
 ·have s:=m.keep b o q;have t:b∉n:=fun u=>by rw[j b (by simp[u])] at q;cases q
  have z:F6 w n b=w.heap[b]?:=by simp[F6,t]
  rw[z];exact s
 ·rintro e M ⟨v,A,rfl,c,d⟩;exact⟨v,A,F,rfl,l9.le_refl _,c,m.back k p r j d⟩
theorem I4{P:zj}{N:Nat}{L:G9}{F b:l9}{H R A:List As}{fn:Func}{Q:l_->Value->List As->Prop}{v:Value}(hl:b.le F)(hq:Q F.heap v A)(h:At N (dE P fn F (fun v' c=>v'=v/\c=A++R)) L F H):At N (Dp P fn b R Q) L F H:=by
 unfold At at h⊢;intro a w hf d;obtain⟨v',c,e,⟨rfl,rfl⟩,f,g⟩:=h a w hf d;exact⟨_,A,F,e,hl,hq,f,g⟩
section
variable{P:zj}{N:Nat}{K R:A1}{E:List (Nat×A1)}{L:G9}{F:l9}{H:List As}{ops:Array Oper}{rest:List Oper}{ty:zk}{pos:String}{af:Array Edge}{dst:Option Nat}{gd:Option (Nat×Bool)}{x:zw}
theorem rS{o:Oper}{d:Nat}{f:FuncId}{vs:zq}{b:l_->Prop}{C Rr:List As}{Q:l_->Value->List As->Prop}(hg:o.guard=none)(c:o.dst=some d)(l:Nat.blt d N=true)(g:∀ρ w,FD L ρ->(execOp ρ o).run P w=.ok (.enter f vs.toArray) w)(hc:Cm P f vs b C Q)(hH:y9 C H Rr)(h:b F.heap)(k:∀v A i,F.le i->Q i.heap v A->GL P N ops rest K E R ((d,v)::L) i (A++Rr)):GL P N ops (o::rest) K E R L F H:=by
 unfold GL at k⊢;intro a w hf m;refine wpList_plain hg fun r n=>?_;unfold Oper.wp;rw[g _ w hf.agr,Oper.upon_enter];refine(hc F Rr w (hH.hp m) h).mono ?_;rintro e s ⟨v,A,i,rfl,p,q,j⟩;rw[c];exact n _ _ (k v A i p q _ _ (hf.put l v) j)
theorem B_{d:Nat}{f:FuncId}{args:List zw}{c:Array zk}{vs:zq}{a:l_->Prop}{C Rr:List As}{Q:l_->Value->List As->Prop}[HF P f](hc:Cm P f vs a C Q)(b:a F.heap)(k:∀v A e,F.le e->Q e.heap v A->GL P N ops rest K E R ((d,v)::L) e (A++Rr))(hx:rI L args=some vs:=by rfl)(hH:y9 C H Rr:=by exact tk)(g:Nat.blt d N=true:=by rfl):
  GL P N ops (⟨some d,.call ⟨.value (.func f),args.toArray,c⟩,ty,pos,af,none⟩::rest) K E R L F H:=
 rS rfl rfl g (fun ρ w hf=>bu hx hf w) hc hH b k
theorem rT{d:Nat}{f:FuncId}{args:List zw}{g:Array zk}{vs ps qs a:zq}{b:l_->Prop}{C Rr:List As}{Q:l_->Value->List As->Prop}[hF:HF P f](hc:Cm P f a b C Q)(c:b F.heap)(k:∀v A h,F.le h->Q h.heap v A->GL P N ops rest K E R ((d,v)::L) h (A++Rr))(hv:ev L x=some (.func (.func f) ps.toArray qs.toArray):=by rfl)(hx:rI L args=some vs:=by rfl)(e:ps++vs++qs=a:=by rfl)(hH:y9 C H Rr:=by exact tk)(i:Nat.blt d N=true:=by rfl):
  GL P N ops (⟨some d,.call ⟨.value x,args.toArray,g⟩,ty,pos,af,none⟩::rest) K E R L F H:=
 rS rfl rfl i (fun ρ w hf=>by
  have j:=hf _ _ hv;have l:=bt hf hx;subst e;simp only[execOp,resolve,j,Deferred.ofValue,Zr,l,Sem.run_bind,Sem.run_pure,Result.andThen_ok,invoke];have:(ps.toArray++vs.toArray++qs.toArray:Array Value)=(ps++vs++qs).toArray:=by simp
  rw[this];exact hF.h _ w) hc hH c k
theorem e_{d:Nat}{f:FuncId}{args:List zw}{e:Array zk}{vs:zq}{b:l_->Prop}{C Rr:List As}{a:Value->List As->Prop}[HF P f](hc:Ct P f vs b C a)(c:∀h,l_.le F.heap h->(∃bs,A_ h Rr bs)->b h)(k:∀v A,a v A->GL P N ops rest K E R ((d,v)::L) F (A++Rr))(hx:rI L args=some vs:=by rfl)(hH:y9 C H Rr:=by exact tk)(g:Nat.blt d N=true:=by rfl):
  GL P N ops (⟨some d,.call ⟨.value (.func f),args.toArray,e⟩,ty,pos,af,none⟩::rest) K E R L F H:=
 y5 Rr hx hc (fun w i=>hH.hp i) c g k
theorem AP{Z Rr:List As}(hH:y9 Z H Rr)(k:∀a,F.le a->(∃bs,A_ a.heap Z bs)->GL P N ops rest K E R L a Rr):GL P N ops rest K E R L F H:=
 z_ (H':=Rr++Z) (fun w b=>(hH.hp b).perm jj) (rL k)
theorem C6{c:Code}{Z Rr:List As}(hH:y9 Z H Rr)(k:∀a,F.le a->(∃bs,A_ a.heap Z bs)->G P N c K E R L a Rr):G P N c K E R L F H:=
 C5 (H':=Rr++Z) (fun w b=>(hH.hp b).perm jj) (cy k)
end
inductive Ou:List As->List As->Prop
 |nil {R:List As}:Ou R R
 |cons {x:As} {R H:List As}:Ou R H->Ou R (x::H)
theorem Ou.hp{R H:List As}(h:Ou R H){F:l9}{w:World}(a:Hp F w H):Hp F w R:=by
 induction h with
 |nil=>exact a
 |cons _ ih=>exact ih a.drop
theorem sfx{R H:List As}(h:Ou R H:=by(repeat (first|exact .nil|refine .cons ?_))):Ou R H:=h
theorem fle{F a:l9}(h:F.le a:=by(first|exact l9.le_refl _|assumption|exact l9.le.trans (by assumption) (by assumption))):F.le a:=h
section
variable{P:zj}{N:Nat}{K R:A1}{E:List (Nat×A1)}{L:G9}{F F0:l9}{H R0:List As}{ops:Array Oper}{rest:List Oper}{ty:zk}{pos:String}{af:Array Edge}{dst:Option Nat}{gd:Option (Nat×Bool)}{x:zw}{Pq Pq':Value->Prop}
end
section
variable{P:zj}{N:Nat}{K R:A1}{E:List (Nat×A1)}{L:G9}{F:l9}{H R0:List As}{ops:Array Oper}{rest:List Oper}{ty:zk}{pos:String}{af:Array Edge}{dst:Option Nat}{gd:Option (Nat×Bool)}{x:zw}{Pq Pq':Value->Prop}
end
section
variable{P:zj}{N:Nat}{K R:A1}{E:List (Nat×A1)}{L:G9}{F:l9}{H:List As}{ops:Array Oper}{rest:List Oper}{ty:zk}{pos:String}{af:Array Edge}{t:zk}
theorem u7{α:Type}(C:α->zq){l m:List α}{d:Nat}{s x:zw}{a b:qr}{c r sz:Nat}{e:zk}{H':qr->Nat->List As}{z:Value}{i:TypeInfo}[hu:HU P t (.slice e)][hz:HZ P e z][hi:HI P e i][hs:HS P e sz](v:∀x,(C x).length=sz)(y:∀x,∀q∈C x,q.oneCell'=true)(g:(l.length+m.length)*i.bytes<=140737488355328)(h:∀j f,(l++m).length<=f->GL P N ops rest K E R ((d,.slice j (l++m).length f)::L) F (H' j f))(k:ev L s=some (.slice a l.length c):=by rfl)(n:ev L x=some (.slice b m.length r):=by rfl)(u:∀j f,N1 H (.own (.slice a l.length c) e sz (l.flatMap C)) [.own (.slice j (l++m).length f) e sz ((l++m).flatMap C)] (H' j f):=by exact fun _ _=>uh)(hsrc:∀w,Hp F w H->KX (hp w) b (m.flatMap C):=by exact fun w A=>(A.ownN ud).2.2.1)(h63:l.length+m.length<=9223372036854775807:=by(first|omega|(simp only[z1,kx];omega)))(o:Nat.blt 0 sz=true:=by rfl)(p:z.cells.size=sz:=by rfl)(D:Nat.blt d N=true:=by rfl):
  GL P N ops (⟨some d,.call ⟨.builtin .append,#[s,x],#[t,t]⟩,ty,pos,af,none⟩::rest) K E R L F H:=
 C4 k n (H':=H') (fun j f=>by have:=u j f;rw[zg,Kg] at this;exact this) hsrc (N5 v m) o p (dh y m) g h63 D fun j f hc=>by
  have:=h j f (by rw[zg];exact hc);rw[zg] at this;exact this
theorem D2{α:Type}(C:α->zq)(y:α){d:Nat}{x:zw}{e:zk}{z v:Value}{sz:Nat}[hu:HU P t (.slice e)][hz:HZ P e z][hs:HS P e sz](hv:v.cells.toList=C y)(h:∀a,(∃f,a=some f)->GL P N ops rest K E R ((d,.slice a 1 1)::L) F (.own (.slice a [y].length 1) e sz ([y].flatMap C)::H))(hx:ev L x=some v:=by rfl)(c:Nat.ble (1*sz) 16777216=true:=by rfl)(hp:Nat.blt 0 (1*sz)=true:=by rfl)(b:Nat.beq v.cells.size sz=true:=by rfl)(g:Nat.blt d N=true:=by rfl):
  GL P N ops (⟨some d,.buildSlice t 1 #[(0,x)],ty,pos,af,none⟩::rest) K E R L F H:=
 y6 (ps:=[(0,x)]) (vs:=[(0,v)]) (xs:=[y].flatMap C) (by simp[AA,hx]) c hp rfl (by simp[b]) rfl (by simp[hv]) g h
variable{α:Type}{C:α->zq}{sz:Nat}
theorem cT{h:l_}{a:qr}{l:List α}{q i j:Nat}{v:Value}(r:n9 h a (l.flatMap C))(c:∀x,(C x).length=sz)(b:i<l.length)(hv:(C l[i])[j]? =some v)(hq:q=i*sz+j):M9 h (N_ a q) [v]:=by
 refine Lc r c l[i] (i:=i) (j:=j) (by rw[hq,Yk]) b ?_
 rwa [show l.getD i l[i]=l[i] from by simp[List.getD,b]]
theorem bK{h:l_}{a:qr}{l:List α}{q i:Nat}(r:n9 h a (l.flatMap C))(d:∀x,(C x).length=sz)(b:0<sz)(c:i<l.length)(hq:q=i*sz):M9 h (N_ a q) (C l[i]):=by
 have:=tI r d b l[i] (q:=q) (i:=i) (by rw[hq,Yk]) c
 rwa [show l.getD i l[i]=l[i] from by simp[List.getD,c]] at this
theorem aP(a:∀x,(C x).length=sz):∀(l:List α) (i:Nat),(l.flatMap C).take (i*sz)=(l.take i).flatMap C
 |l,0=>by simp
 |[],i+1=>by simp
 |x::l,i+1=>by
  rw[Q4,List.take_succ_cons,Q4,show(i+1)*sz=(C x).length+i*sz from by rw[a,Zj];omega,Wh,aP a l i]
theorem lr(a:∀x,(C x).length=sz):∀(l:List α) (i:Nat),(l.flatMap C).drop (i*sz)=(l.drop i).flatMap C
 |l,0=>by simp
 |[],i+1=>by simp
 |x::l,i+1=>by
  rw[Q4,Wc,show(i+1)*sz=(C x).length+i*sz from by rw[a,Zj];omega,Jk,lr a l i]
theorem Lr(b:∀x,(C x).length=sz){l:List α}{i j:Nat}{y:α}{vs:zq}(a:i<l.length)(c:j+vs.length<=sz)(d:C y=M3 (C l[i]) j vs):M3 (l.flatMap C) (i*sz+j) vs=(l.set i y).flatMap C:=by
 have e:l=l.take i++l[i]::l.drop (i+1):=by rw[<-Qc a,Qp]
 have f:l.set i y=l.take i++y::l.drop (i+1):=by rw[Z8,zr a]
 have g:((l.take i).flatMap C).length=i*sz:=by rw[N5 b,kr,Jr (J5 a)]
 have h:l.flatMap C=(l.take i).flatMap C++C l[i]++(l.drop (i+1)).flatMap C:=by
  conv=>lhs;rw[e]
  rw[Kg,Q4,ky]
 rw[f,Kg,Q4,d,<-ky,h,<-g];exact fG _ _ _ _ _ (by rw[b];exact c)
theorem A6{l:List α}{i j:Nat}(d:α){a:qr}{len c q n:Nat}{te:zk}{v:Value}{x y:zw}{H':List As}[hs:HS P t n](e:∀x,(C x).length=sz)(f:i<l.length)(g:C d=M3 (C l[i]) j v.cells.toList)(h:GL P N ops rest K E R L F H')(hx:ev L x=some (.pointer (N_ a q)):=by rfl)(hv:ev L y=some v:=by rfl)(u:N1 H (.own (.slice a len c) te sz (l.flatMap C)) [.own (.slice a len c) te sz ((l.set i d).flatMap C)] H':=by exact uh)(k:Nat.beq v.cells.size n=true:=by rfl)(b:Nat.blt 0 n=true:=by rfl)(m:(v.cells.toList.all fun q=>q.oneCell')=true:=by rfl)(o:Nat.ble (j+n) sz=true:=by rfl)(hq:q=i*sz+j:=by simp):GL P N ops (⟨none,.store t x y,ty,pos,af,none⟩::rest) K E R L F H:=by
 have p:=Qu k;have r:j+n<=sz:=by simpa[J0] using o
 refine U_ (te:=te) (len:=len) (c:=c) (sz:=sz) (xs:=l.flatMap C) hx hv (H':=H') ?_ p (by simpa[K2] using b) (fun q hq=>Q1.1 m q hq) ?_ h
 ·rw[hq,Lr e f (by simp;omega) g];exact u
 ·rw[N5 e,hq];have:(i+1)*sz<=l.length*sz:=Qr _ f;rw[Zj] at this;omega
end
end Go.Sl
namespace Go.Proofs.YtmcepdopookilaaGreatDoor.Rp
open Go Go.Sl Go.RowKit Go.Proofs.Tryz
abbrev i8(b:Nat):Value:=.pointer (some ⟨b,0,none⟩)
def fV(l:List Bs):zq:=l.map fun f=>B f
theorem M6(l:List Bs):(fV l).length=l.length:=by simp[fV]
theorem lu(l:List Bs):∀q∈fV l,q.oneCell'=true:=fun q a=>by
 obtain⟨x,_,rfl⟩:=jr.mp a;rfl
theorem gH(a b:List Bs):fV (a++b)=fV a++fV b:=by simp[fV]
abbrev B0(a:qr)(l:List Bs)(c:Nat):As:=.own (.slice a l.length c) 9 1 (fV l)
theorem cB{h:l_}{a:qr}{l:List Bs}{i:Nat}(r:n9 h a (fV l))(c:i<l.length):∃b,a=some b:=by
 obtain⟨b,e,_⟩:=r (by intro e;have:=jh List.length e;rw[M6] at this;simp at this;subst this;simp at c);exact⟨b,e⟩
theorem Px{F:l9}{w:World}{H:List As}{a:qr}{l:List Bs}(b:Hp F w H)(r:n9 F.heap a (fV l)){q i:Nat}(h:q=i)(c:i<l.length):M9 (hp w) (N_ a q) [B (l.getD i [])]:=
 nr b r x7 (fun j u hu=>by
  match j,hu with
  |0,hu=>
   simp at hu;subst hu h;simp[fV,c])
theorem Ov{l:List Bs}{k:Nat}(a:k<l.length):l.take (k+1)=l.take k++[l.getD k []]:=by
 rw[jy a,z8,zd a];rfl
theorem ed{l:List Bs}{k:Nat}(a:k<l.length):l.getD k []∈l:=by
 rw[z8,zd a];exact zm a
structure VM where
 v:RV
 a:qr
 c:Nat
abbrev Py:VM:=⟨V0,none,0⟩
abbrev vV(x:VM):zq:=[.int .i64 x.v.kind,.int .u64 (x.v.n:Nat),.slice x.a x.v.a6J.length x.c,B x.v.text,.bool x.v.part,.int .u64 (x.v.fr:Nat)]
abbrev vmA(x:VM):Value:=.agg #[.int .i64 x.v.kind,.int .u64 (x.v.n:Nat),.slice x.a x.v.a6J.length x.c,B x.v.text,.bool x.v.part,.int .u64 (x.v.fr:Nat)]
abbrev Pz(l:List VM):zq:=l.flatMap vV
theorem ny:∀x,(vV x).length=6:=fun _=>rfl
theorem nz:∀x,∀q∈vV x,q.oneCell'=true:=fun x q a=>by simp at a;rcases a with rfl|rfl|rfl|rfl|rfl|rfl<;>rfl
def nV(l:zz):zq:=l.map fun n=>.int .u64 (n:Nat)
theorem tL(l:zz):(nV l).length=l.length:=by simp[nV]
theorem iJ(l:zz):∀q∈nV l,q.oneCell'=true:=fun q a=>by
 obtain⟨x,_,rfl⟩:=jr.mp a;rfl
theorem aQ(a b:zz):nV (a++b)=nV a++nV b:=by simp[nV]
structure RL where
 na:qr
 nc:Nat
 fa:qr
 fc:Nat
 va:qr
 vc:Nat
 vs:List VM
abbrev L0:RL:=⟨none,0,none,0,none,0,[]⟩
abbrev tM(r:RR)(x:RL):zq:=[.int .i64 r.kind,B r.tag,B r.code,B r.text,.int .u64 (r.n:Nat),.slice x.na r.nums.length x.nc,.int .u64 (r.mod:Nat),.slice x.fa r.a6J.length x.fc,B r.box,.slice x.va x.vs.length x.vc]
abbrev Ls(r:RR)(x:RL):Value:=.agg #[.int .i64 r.kind,B r.tag,B r.code,B r.text,.int .u64 (r.n:Nat),.slice x.na r.nums.length x.nc,.int .u64 (r.mod:Nat),.slice x.fa r.a6J.length x.fc,B r.box,.slice x.va x.vs.length x.vc]
structure fQ(r:RR)(x:RL)(h:l_):Prop where
 vals:r.values=x.vs.map VM.v
 nums:n9 h x.na (nV r.nums)
 a6J:n9 h x.fa (fV r.a6J)
 vs:n9 h x.va (Pz x.vs)
 fs:∀m∈x.vs,n9 h m.a (fV m.v.a6J)
theorem fQ.le{r:RR}{x:RL}{h a:l_}(k:fQ r x h)(hl:l_.le h a):fQ r x a:=⟨k.vals,k.nums.le hl,k.a6J.le hl,k.vs.le hl,fun m b=>(k.fs m b).le hl⟩
theorem ef{h:l_}{bs:zz}{a:qr}{n c sz:Nat}{t:zk}{xs:zq}{H:List As}(hs:A_ h H bs)(b:As.own (.slice a n c) t sz xs∈H):n9 h a xs:=by
 obtain⟨A,C,rfl⟩:=W0 b;obtain⟨e,f,rfl,_,d⟩:=A_.split hs;exact A_.rd d .del
structure Gl(h:l_):Prop where
 m:∃m t fr,h 0=some (.cells #[.int .i64 m] t fr)
 tab:∃t fr,h 1=some (.cells (Lib.pow10Tab.map fun z=>Value.int .u64 z).toArray t fr)
 syn:∃e t fr,h 4=some (.cells #[e] t fr)/\(e=.nilIface\/∃te pe,e=.iface te pe)
 rng:∃e t fr,h 5=some (.cells #[e] t fr)/\(e=.nilIface\/∃te pe,e=.iface te pe)
theorem Gl.le{h n:l_}(g:Gl h)(hl:l_.le h n):Gl n:=by
 obtain⟨⟨a,b,c,o⟩,⟨d,e,p⟩,⟨f,i,j,q,k3⟩,⟨k,l,m,r,k4⟩⟩:=g;exact⟨⟨a,b,c,hl _ _ o⟩,⟨d,e,hl _ _ p⟩,⟨f,i,j,hl _ _ q,k3⟩,⟨k,l,m,hl _ _ r,k4⟩⟩
theorem Gl.tabIs{w:World}(g:Gl (hp w)):Lib.TabIs prog w "internal/strconv.uint64pow10" .u64 Lib.pow10Tab:=by
 obtain⟨t,a,h⟩:=g.tab;have b:prog.globalNamed "internal/strconv.uint64pow10"=some 1:=by kernel_rfl
 have c:w.heap[1]? =some (.cells (Lib.pow10Tab.map fun z=>Value.int .u64 z).toArray t a):=h;unfold Lib.TabIs World.var?;rw[b];simp only[jq,c]
theorem ei{P:zj}{f:FuncId}{args:zq}{d:l_->Prop}{v:Value}(h:∀w,d (hp w)->Calls P f args.toArray w fun e w'=>e=.returned v/\Below w.heap.size w w'):Pu P f args d v:=by
 intro w k g l c;have m:k=[]:=g;subst m;rw[O1] at c;refine(h w c).mono ?_;rintro e w' ⟨rfl,a⟩;refine⟨v,[],rfl,qh,a.os,a.tape,a.output,fun b o i=>?_,[],rfl,Zn,by simp⟩;have j:w.heap[b]? =some o:=cq w [] b o i;have n:b<w.heap.size:=(jp.1 j).1;show w'.heap[b]? =_;rw[a.block b n];exact j
theorem V3{P:zj}{f:FuncId}{args:zq}{a:l_->Prop}{v:Value}(h:∀w,a (hp w)->Calls P f args.toArray w fun e w'=>e=.returned v/\w'=w):Pu P f args a v:=
 ei fun w c=>(h w c).mono fun e w' ⟨d,b⟩=>⟨d,b▸Below.refl _ _⟩
theorem au(s p:Bs):Pu prog 90 [B s,B p] (fun _=>True) (.bool (p.isPrefixOf s)):=V3 fun w _=>Tryz.strings_HasPrefix ⟨s.toArray⟩ ⟨p.toArray⟩ w
theorem eW(s:Bs)(c:UInt8):Lib.indexByte s c=if s.contains c=true then((s.takeWhile fun x=>x !=c).length:Int) else-1:=by
 induction s with
 |nil=>rfl
 |cons a t ih=>
  rw[Lib.indexByte];by_cases h:a=c
  ·subst h;simp
  ·have d:(a==c)=false:=(by simpa using h);have b:(c==a)=false:=(by simpa using fun e:c=a=>h e.symm);rw[d,ih];simp only[Ws,b,Jz,Zd,bne,d,Bool.not_false,if_true];by_cases hc:t.contains c=true
   ·simp only[hc,if_true];have:((t.takeWhile fun x=>!(x==c)).length:Int)≠ -1:=(by omega);simp[this]
   ·simp only[hc];rfl
theorem av(s:Bs)(c:UInt8):Pu prog 48 [B s,.int .u8 (c.toNat:Nat)] (fun _=>True) (.int .i64 (Lib.indexByte s c)):=V3 fun w _=>by
 have:=Tryz.strings_IndexByte ⟨s.toArray⟩ (c.toNat:Nat) w;have e:((c.toNat:Nat):Int).toNat.toUInt8=c:=by simp
 rwa [e] at this
theorem jJ(n:Nat):Lib.decDigits n=T1 n:=by
 induction n using Nat.strongRecOn with
 |ind n ih=>
  rw[Lib.decDigits];split
  ·next h=>rw[bW h];rfl
  ·next h=>rw[gD h,ih (n/10) qb];rfl
theorem Gp(n:Nat)(h:n<100):Pu prog 241 [.int .i64 (n:Nat)] (fun _=>True) (B (T1 n)):=V3 fun w _=>by
 have:=Tryz.internal_strconv_small n h w
 rwa [jJ] at this
theorem tN(n:Nat)(a:1<=n)(b:n<18446744073709551616):Pu prog 242 [.int .u64 (n:Nat)] Gl (.int .i64 (Lib.nDigits n)):=V3 fun w hg=>Tryz.internal_strconv_numDigits n a b w hg.tabIs
theorem fR(a:Bs):∀l:List Bs,Lib.join l a=fu a l
 |[]=>rfl
 |[x]=>by simp[Lib.join,fu,List.intercalate]
 |x::y::t=>by
  rw[Dl _ _ x7,<-fR a (y::t)];simp[Lib.join,List.intercalate]
theorem pre{F:l9}{Rr:List As}{c:l_->Prop}(h:∀h,l_.le F.heap h->(∃bs,A_ h Rr bs)->c h:=by(
 intro h b a
 first
 |trivial
 |exact n9.le (by assumption) b
 |exact Gl.le (by assumption) b
 |(obtain⟨bs,a⟩:=a;exact A_.rd a ud)
 |(refine⟨?_,?_⟩<;>(first|exact n9.le (by assumption) b|exact Gl.le (by assumption) b|(obtain⟨bs,a⟩:=a;exact A_.rd a ud)))
 |(refine⟨?_,?_,?_⟩<;>(first|exact n9.le (by assumption) b|exact Gl.le (by assumption) b|(obtain⟨bs,a⟩:=a;exact A_.rd a ud))))):∀h,l_.le F.heap h->(∃bs,A_ h Rr bs)->c h:=h
abbrev Gq:List (String×DataW Unit):=[("math/bits.deBruijn32tab",Rows.laid_math_bits_deBruijn32tab),("math/bits.deBruijn64tab",Rows.laid_math_bits_deBruijn64tab),("internal/strconv.uint64pow10",Rows.laid_internal_strconv_uint64pow10),("unicode/utf8.acceptRanges",Rows.laid_unicode_utf8_acceptRanges),("strconv.ErrRange",Rows.laid_strconv_ErrRange),("strconv.ErrSyntax",Rows.laid_strconv_ErrSyntax),("unicode.CaseRanges",Rows.laid_unicode_CaseRanges),("unicode/utf8.first",Rows.laid_unicode_utf8_first)]
theorem SK:prog.globalNamed "internal/strconv.uint64pow10"=some 1:=by kernel_rfl
theorem SM:(prog.globals[1]?).map (·.type)=some 348:=by kernel_rfl
theorem SN:prog.globalNamed "strconv.ErrSyntax"=some 4:=by kernel_rfl
theorem SO:(prog.globals[4]?).map (·.type)=some 167:=by kernel_rfl
theorem SP:prog.globalNamed "strconv.ErrRange"=some 5:=by kernel_rfl
theorem SQ:(prog.globals[5]?).map (·.type)=some 167:=by kernel_rfl
theorem Ow: "*"++ "errors.errorString"= "*errors.errorString":=by decide
theorem Gr(u:zk)(h:prog.typeName? 3 u=some "*errors.errorString"):u=429:=
 typeName_ptr_named (nm:= "errors.errorString") (by rw[Ow];kernel_rfl) i6 qp u (by rw[Ow];exact h)
theorem lv{P:zj}{W:World}{n:String}{g:Nat}{cs:Array Value}(hg:P.globalNamed n=some g)(h:W.var? P n=some cs):∃t fr,hp W g=some (.cells cs t fr):=by
 unfold World.var? at h;rw[hg] at h;simp only[jq] at h;split at h
 ·next c t fr a=>
  cases h
  exact⟨t,fr,a⟩
 ·cases h
theorem SR:prog.globalNamed "internal/bytealg.MaxLen"=some 0:=by kernel_rfl
theorem PA{cs:Array Value}{v:Value}(hs:cs.size=1)(h:cs[0]? =some v):cs=#[v]:=by
 obtain⟨l⟩:=cs
 match l,hs with
 |[u],_=>
  simp at h;subst h;rfl
theorem Gs{W:World}(h:W.ShapedOpen prog):∃m t fr,hp W 0=some (.cells #[.int .i64 m] t fr):=by
 obtain⟨m,i⟩:=cell_of_shapedOpen_int (zero:=#[.int .i64 0]) (t:=3) (g:=0) h (zy i6) i6 rfl i6 i6 underlying3;obtain⟨e,a,b,_⟩:=h.1 0 #[.int .i64 0] 3 (zy i6) i6;have j:W.var? prog "internal/bytealg.MaxLen"=some e:=by
  unfold World.var?;rw[SR];simp only[jq];rw[a]
 have f:=World.var?_cell SR j 0;rw[i] at f;have c:e.size=1:=b;have d:=PA c f.symm;subst d;exact⟨_,_,_,a⟩
theorem PB:(Rows.laid_internal_strconv_uint64pow10:DataW Unit)=Lib.tabData .u64 Lib.pow10Tab:=rfl
theorem gl_of_laid{W:World}(b:laidMetH prog Gq W)(d:W.ShapedOpen prog):Gl (hp W):=by
 rw[MakeChecks.laidMetH_plain _ _ _ i6] at b;have a:=b.tail.tail;have c:=a.tail.tail;rw[PB] at a;have e:=Lib.tabIs_of_head SK SM underlying348 underlying27 i6 i6 a;obtain⟨a3,s3,f,_⟩:=laid_sentinel c SP SQ underlying167 Gr underlying429 underlying431 rfl rfl underlying9 i6 i6;obtain⟨o,p,g,_⟩:=laid_sentinel c.tail SN SO underlying167 Gr underlying429 underlying431 rfl rfl underlying9 i6 i6;obtain⟨t1,h,i⟩:=lv SK e;obtain⟨t2,j,k⟩:=lv SN g;obtain⟨l,m,n⟩:=lv SP f;exact⟨Gs d,⟨t1,h,i⟩,⟨_,t2,j,k,.inr ⟨_,_,rfl⟩⟩,⟨_,l,m,n,.inr ⟨_,_,rfl⟩⟩⟩
noncomputable def laidWorld (os:Os):World:=World.laidAll prog os Gq
set_option maxRecDepth 100000 in
theorem laid_met(a:Os)(args:Array Value):laidMetH prog Gq ((laidWorld a).forCall (fun _ _=>0) ⟨#[],args,[]⟩).memory:=by
 rw[MakeChecks.laidMetH_plain _ _ _ i6];exact laidMet_laidAll _ i6 i6
set_option maxRecDepth 100000 in
theorem Dq(a:Os)(args:Array Value):((laidWorld a).forCall (fun _ _=>0) ⟨#[],args,[]⟩).variablesZipB prog=true:=by kernel_rfl
set_option maxRecDepth 100000 in
theorem Dr(a:Os)(args:Array Value):(((laidWorld a).forCall (fun _ _=>0) ⟨#[],args,[]⟩).heap.toList.drop prog.globals.size).take ((begin prog (fun _ _=>0) default).world.heap.size-prog.globals.size)=
   (begin prog (fun _ _=>0) default).world.heap.toList.drop prog.globals.size:=by kernel_rfl
theorem witness_gen{C:Checked}{H:Type}{enc:zk×Value->H}{k:Os}{f:FuncId}{fn:Func}{s:OpenSpec}{b:List PathCond}{c:Bool}{d:List (String×DataW Unit)}(modest:Bool)(w0:World)(args:Array Value)(h:w0.os=k)(j:(w0.forCall (fun _ _=>0) ⟨#[],args,[]⟩).Shaped C.prog)(e:Input.okWideB C.prog (w0.forCall (fun _ _=>0) ⟨#[],args,[]⟩) f ⟨#[],args,[]⟩=true)(g:s.preRow enc C.prog fn b c d (w0.forCall (fun _ _=>0) ⟨#[],args,[]⟩).memory args):
  ∃(w:World) (a:Tape) (i:Input),w.os=k/\(w.forCall a i).Shaped C.prog/\i.vars=[]/\Input.okWide C.prog (w.forCall a i) .any w.heap.size f i/\
   s.preRow enc C.prog fn b c d (w.forCall a i).memory i.args/\({modest:=modest}:Assume).holds C.prog (lone (Frame.enter C.prog f i.args .normal) [] (w.forCall a i)):=
 ⟨w0,fun _ _=>0,⟨#[],args,[]⟩,h,j,(Input.okWide_of_okWideB (base:=0) e).1,(Input.okWide_of_okWideB e).2,g,by
  simp only[Assume.holds];exact⟨by simp,by simp,fun _=>Modest.zero,by simp,by simp⟩⟩
theorem laid_shaped(a:Os)(args:Array Value):((laidWorld a).forCall (fun _ _=>0) ⟨#[],args,[]⟩).Shaped Tryz.checked.prog:=World.shaped_of_ZipB (Dq a args) (Dr a args)
theorem laid_os(a:Os):(laidWorld a).os=a:=World.laidAll_os _ _ _
open Go Go.Sl Go.Proofs.Tryz
def H8(b:UInt8):Bs->List Bs
 |[]=>[[]]
 |c::t=>if c=b then[]::H8 b t else match H8 b t with
  |[]=>[[c]]
  |w::ws=>(c::w)::ws
theorem Ds(b:UInt8):∀s,H8 b s≠[]
 |[]=>by simp[H8]
 |c::t=>by
  rw[H8];split
  ·simp
  ·split<;>simp
theorem oL(b:UInt8)(u:Bs):∀w,H8 b (w++b::u)=H8 b w++H8 b u
 |[]=>by simp[H8]
 |c::t=>by
  rw[Zu,H8,H8,oL b u t];split
  ·rfl
  ·cases h:H8 b t with
   |nil=>exact absurd h (Ds b t)
   |cons w ws=>rfl
theorem fS(b:UInt8):∀(w:Bs),(∀c∈w,c≠b)->H8 b w=[w]
 |[],_=>rfl
 |c::t,h=>by rw[H8,zb (h c x7),fS b t fun x hx=>h x (jn _ hx)]
def fT(w:Bs):Option Nat:=if w=[42] then some 0 else match bA w with
 |none=>none
 |some n=>if 0<n/\n<=4294967295 then some n else none
def rm(p:Bs):Option (Nat×Nat):=
 let a:=p.takeWhile fun c=>c !=58
 let b:=if a.length<p.length then p.drop (a.length+1) else a
 match fT a,fT b with
 |some x,some y=>some (x,y)
 |_,_=>none
def aG:List Bs->Option (List (Nat×Nat))
 |[]=>some []
 |p::t=>match rm p,aG t with
  |some x,some l=>some (x::l)
  |_,_=>none
def vW(s:Bs):Option (List (Nat×Nat)):=if 64<(H8 44 s).length then none else aG (H8 44 s)
structure IT where
 kind:Nat
 peek:Bool
 part:Bool
 fr:Nat
 count:Nat
 deriving DecidableEq
structure KY where
 kind:Nat
 kids:Nat
 field:Bs
 text:Bs
 n:Nat
 set:List (Nat×Nat)
 deriving DecidableEq
abbrev AQ:KY:=⟨0,0,[],[],0,[]⟩
structure CM where
 tag:Bs
 kind:Nat
 uid:Bool
 cond:Bool
 box:Bs
 user:Bs
 pass:Bs
 a6F:Bs
 set:List (Nat×Nat)
 a6B:List IT
 keys:List KY
 how:Nat
 a6H:Bool
 a6C:Bool
 a6D:Nat
 a6J:List Bs
 data:Bs
 deriving DecidableEq
abbrev iK:CM:=⟨[],0,false,false,[],[],[],[],[],[],[],0,false,false,0,[],[]⟩
def I9(s w:Bs)(p:Nat):Bool:=decide (R3 ((s.drop p).take w.length)=w)
def I7(s w:Bs)(p:Nat):Option Nat:=if I9 s w p=true then some (p+w.length) else none
def O6(may:UInt8->Bool)(s:Bs)(p:Nat):Bs:=(s.drop p).takeWhile may
def mR(s:Bs)(most p:Nat):Option (Nat×Nat):=(bA (O6 R1 s p)).bind fun n=>if n<=most then some (n,p+(O6 R1 s p).length) else none
def mS(s:Bs)(p:Nat):Option (Bs×Nat):=(I7 s [123] p).bind fun p1=>(mR s 4096 p1).bind fun q=>(I7 s [125,13,10] q.2).bind fun p3=>
 if p3+q.1<=s.length then some ((s.drop p3).take q.1,p3+q.1) else none
def vX(s:Bs)(p:Nat):Option (Bs×Nat):=if O6 R2 s p=[] then none else some (O6 R2 s p,p+(O6 R2 s p).length)
def lw(s:Bs)(p:Nat):Option (Bs×Nat):=
 if I9 s [123] p=true then mS s p
 else if I9 s [34] p=true then(vO (s.drop p)).map fun q=>(q.1,p+q.2)
 else(vX s p).bind fun q=>if q.1.length<=4096 then some q else none
def Ox(s:Bs)(p:Nat):Option (Bs×Nat):=(lw s p).bind fun q=>(jH q.1).map fun b=>(b,q.2)
def oM(c:UInt8):Bool:=R1 c||decide (c=44)||decide (c=58)||decide (c=42)
def rn(s:Bs)(p:Nat):Option (List (Nat×Nat)×Nat):=(vW (O6 oM s p)).map fun l=>(l,p+(O6 oM s p).length)
def oN(s:Bs)(p:Nat):Option (List Bs×Nat):=if(U6 (s.drop p)).2.2=0 then some ((U6 (s.drop p)).1,p+(U6 (s.drop p)).2.1) else none
def ej{α:Type}(one:Nat->Option (α×Nat))(s:Bs):Nat->Nat->Option (List α×Nat)
 |0,_=>none
 |k+1,p=>(one p).bind fun q=>if I9 s [32] q.2=true then(ej one s k (q.2+1)).map fun r=>(q.1::r.1,r.2) else some ([q.1],q.2)
abbrev jK:List (Bs×Nat×Bool):=[([77,69,83,83,65,71,69,83],1,false),([85,73,68,78,69,88,84],2,false),([85,73,68,86,65,76,73,68,73,84,89],3,false),([85,78,83,69,69,78],4,false),([72,73,71,72,69,83,84,77,79,68,83,69,81],5,false)]
abbrev cU:List (Bs×Nat×Bool):=[([70,76,65,71,83],6,false),([85,73,68],7,false),([82,70,67,56,50,50,46,83,73,90,69],8,false),([77,79,68,83,69,81],9,false),([66,79,68,89,91,93],10,false),([66,79,68,89,91,72,69,65,68,69,82,93],11,false),([66,79,68,89,91,84,69,88,84,93],12,false),([66,79,68,89,46,80,69,69,75,91,93],10,true),([66,79,68,89,46,80,69,69,75,91,72,69,65,68,69,82,93],11,true),([66,79,68,89,46,80,69,69,75,91,84,69,88,84,93],12,true)]
def yw(s:Bs)(x:Bs×Nat×Bool)(p:Nat):Option (IT×Nat):=(mR s 4294967295 p).bind fun a=>(I7 s [46] a.2).bind fun p1=>(mR s 4294967295 p1).bind fun c=>
 if 0<c.1 then(I7 s [62] c.2).map fun e=>(⟨x.2.1,x.2.2,true,a.1,c.1⟩,e) else none
def dj(l:List (Bs×Nat×Bool))(s:Bs)(p:Nat):Option (IT×Nat):=(l.find? fun x=>I9 s x.1 p).bind fun x=>
 if 10<=x.2.1/\I9 s [60] (p+x.1.length)=true then yw s x (p+x.1.length+1) else some (⟨x.2.1,x.2.2,false,0,0⟩,p+x.1.length)
def oO(l:List (Bs×Nat×Bool))(s:Bs)(p:Nat):Option (List IT×Nat):=(ej (dj l s) s (s.length+1) p).bind fun q=>
 if q.1.length<=8 then(I7 s [41] q.2).map fun e=>(q.1,e) else none
abbrev SS:List Bs:=[[65,78,83,87,69,82,69,68],[70,76,65,71,71,69,68],[68,69,76,69,84,69,68],[83,69,69,78],[68,82,65,70,84]]
abbrev a2a:Bs:=[78,79,84]
abbrev wOR:Bs:=[79,82]
abbrev a2b:Bs:=[65,76,76]
abbrev a2c:Bs:=[85,73,68]
abbrev vY:Bs:=[75,69,89,87,79,82,68]
abbrev yx:Bs:=[85,78,75,69,89,87,79,82,68]
abbrev Lt:Bs:=[76,65,82,71,69,82]
abbrev Gt:Bs:=[83,77,65,76,76,69,82]
abbrev Lu:Bs:=[77,79,68,83,69,81]
abbrev SU:Bs:=[84,69,88,84]
abbrev SV:Bs:=[66,79,68,89]
abbrev Gu:Bs:=[83,85,66,74,69,67,84]
abbrev SY:Bs:=[70,82,79,77]
abbrev wTO:Bs:=[84,79]
abbrev Lv:Bs:=[72,69,65,68,69,82]
def eo(c:UInt8):Bool:=decide (65<=c.toNat)&&decide (c.toNat<=90)||decide (97<=c.toNat)&&decide (c.toNat<=122)
def PC(c:UInt8):Bool:=decide (33<=c.toNat)&&decide (c.toNat<=126)&&!decide (c=58)
def PD(s:Bs):Bool:=s.all PC&&!s.isEmpty&&decide (s.length<=32)
def tO(k:Nat)(f:Bs)(s:Bs)(p:Nat):Option (KY×Nat):=(lw s p).map fun q=>({AQ with kind:=k,field:=f,text:=q.1},q.2)
def Gv(k:Nat)(s:Bs)(p:Nat):Option (KY×Nat):=(mR s E6 p).map fun q=>({AQ with kind:=k,n:=q.1},q.2)
def Oy(k:Nat)(s:Bs)(p:Nat):Option (KY×Nat):=(rn s p).map fun q=>({AQ with kind:=k,set:=q.1},q.2)
def SZ(s w:Bs)(p:Nat):Option (KY×Nat):=
 if w=vY\/w=yx then(vX s p).bind fun q=>(E_ q.1).map fun f=>({AQ with kind:=7,field:=f,n:=if w=vY then 1 else 0},q.2)
 else if w=Lt then Gv 8 s p
 else if w=Gt then Gv 9 s p
 else if w=Lu then Gv 10 s p
 else if w=SU then tO 11 [] s p
 else if w=SV then tO 12 [] s p
 else if w=Gu\/w=SY\/w=wTO then tO 13 (W_ w) s p
 else if w=Lv then(lw s p).bind fun q=>if PD q.1=true then(I7 s [32] q.2).bind fun e=>tO 13 (W_ q.1) s e else none
 else none
def Oz(w:Bs)(n:Nat):KY:={AQ with kind:=7,field:=(E_ (92::w)).getD [],n:=n}
def Ta(s w:Bs)(p:Nat):Option (KY×Nat):=
 if w∈SS then some (Oz w 1,p)
 else if w.take 2=[85,78]/\w.drop 2∈SS then some (Oz (w.drop 2) 0,p)
 else(I7 s [32] p).bind fun e=>SZ s w e
def Tb(n:Nat):KY:={AQ with kind:=1,kids:=n}
def Gw(s:Bs)(sub:Nat->Option (List KY×Nat))(p:Nat):Option (List KY×Nat):=(ej sub s (s.length+1) p).map fun q=>(Tb q.1.length::q.1.flatten,q.2)
def a2d(s:Bs)(sub:Nat->Option (List KY×Nat))(w:Bs)(p:Nat):Option (List KY×Nat):=
 if w=a2a then(I7 s [32] p).bind fun e=>(sub e).map fun q=>({AQ with kind:=2}::q.1,q.2)
 else if w=wOR then(I7 s [32] p).bind fun e=>(sub e).bind fun q=>(I7 s [32] q.2).bind fun e2=>(sub e2).map fun r=>({AQ with kind:=3}::(q.1++r.1),r.2)
 else if w=a2b then some ([{AQ with kind:=4}],p)
 else if w=a2c then(I7 s [32] p).bind fun e=>(Oy 6 s e).map fun q=>([q.1],q.2)
 else(Ta s w p).map fun q=>([q.1],q.2)
def Tc(s:Bs)(sub grp:Nat->Option (List KY×Nat))(p:Nat):Option (List KY×Nat):=
 if I9 s [40] p=true then(grp (p+1)).bind fun q=>(I7 s [41] q.2).map fun e=>(q.1,e)
 else if((s.drop p).head?.any fun c=>R1 c||decide (c=42))=true then(Oy 5 s p).map fun q=>([q.1],q.2)
 else a2d s sub (R3 (O6 eo s p)) (p+(O6 eo s p).length)
def PF(s:Bs):Nat->Nat->Option (List KY×Nat)
 |0,p=>Tc s (fun _=>none) (fun _=>none) p
 |k+1,p=>Tc s (PF s k) (Gw s (PF s k)) p
def Lw(s:Bs)(p:Nat):Option (List KY×Nat):=(Gw s (PF s 7) p).bind fun q=>if q.1.length<=32 then some q else none
abbrev vZ:List Bs:=[[67,65,80,65,66,73,76,73,84,89],[78,79,79,80],[76,79,71,79,85,84],[67,76,79,83,69],[69,88,80,85,78,71,69],[69,78,65,66,76,69],[76,79,71,73,78],[83,69,76,69,67,84],[69,88,65,77,73,78,69],[67,82,69,65,84,69],[68,69,76,69,84,69],[76,73,83,84],[83,84,65,84,85,83],[65,80,80,69,78,68],[83,69,65,82,67,72],[70,69,84,67,72],[83,84,79,82,69],[67,79,80,89]]
def F_(w:Bs):Nat:=if w∈vZ then vZ.idxOf w+1 else 0
abbrev AS:Bs:=[32,67,79,78,68,83,84,79,82,69]
abbrev cC:Bs:=[32,40,67,79,78,68,83,84,79,82,69,41]
abbrev OA:Bs:=[32,34,34,32]
abbrev we:Bs:=[40,85,78,67,72,65,78,71,69,68,83,73,78,67,69,32]
abbrev rU:Bs:=[32,40,67,72,65,78,71,69,68,83,73,78,67,69,32]
abbrev yy:Bs:=[70,76,65,71,83]
abbrev dl:Bs:=[46,83,73,76,69,78,84]
abbrev Td:Bs:=[85,73,68,32]
def iL(c:UInt8):Bool:=decide (c=37)||decide (c=42)||R2 c
def yz(s:Bs)(p:Nat):Option (Bs×Nat):=(I7 s [32] p).bind fun e=>lw s e
def iM(s:Bs)(p:Nat):Option (Bs×Nat):=(I7 s [32] p).bind fun e=>Ox s e
def dH(s:Bs)(p:Nat):Option (Nat×Nat):=(mR s E6 p).bind fun q=>(I7 s [41] q.2).map fun e=>(q.1,e)
def dI(c:CM)(s:Bs)(p:Nat):Option (CM×Nat):=(yz s p).bind fun q=>(yz s q.2).map fun r=>({c with user:=q.1,pass:=r.1},r.2)
def L5(c:CM)(s:Bs)(p:Nat):Option (CM×Nat):=(iM s p).map fun q=>({c with box:=q.1},q.2)
def lx(c:CM)(s:Bs)(p:Nat):Option (CM×Nat):=(L5 c s p).map fun q=>if I9 s cC q.2=true then({q.1 with cond:=true},q.2+12) else q
def jL(c:CM)(s:Bs)(p:Nat):Option (CM×Nat):=(I7 s OA p).bind fun e=>
 if O6 iL s e=[] then(lw s e).map fun q=>({c with a6F:=q.1},q.2) else some ({c with a6F:=O6 iL s e},e+(O6 iL s e).length)
def jM(c:CM)(s:Bs)(p:Nat):Option (CM×Nat):=(L5 c s p).bind fun q=>(I7 s [32,40] q.2).bind fun e=>(oO jK s e).map fun r=>({q.1 with a6B:=r.1},r.2)
def jN(c:CM)(s:Bs)(p:Nat):Option (CM×Nat):=(L5 c s p).bind fun q=>(I7 s [32] q.2).bind fun e=>
 if I9 s [40] e=true then(oN s e).bind fun f=>(I7 s [32] f.2).bind fun e2=>(mS s e2).map fun r=>({q.1 with a6J:=f.1,data:=r.1},r.2)
 else(mS s e).map fun r=>({q.1 with data:=r.1},r.2)
def Te(c:CM)(s:Bs)(p:Nat):Option (CM×Nat):=(I7 s [32] p).bind fun e=>(Lw s e).map fun q=>({c with keys:=q.1},q.2)
def wg(c:CM)(s:Bs)(p:Nat):Option (CM×Nat):=if I9 s rU p=true then(dH s (p+15)).map fun q=>({c with a6D:=q.1,a6C:=true},q.2) else some (c,p)
def oP(c:CM)(s:Bs)(p:Nat):Option (CM×Nat):=
 (if I9 s [40] p=true then oO cU s (p+1) else(dj cU s p).map fun q=>([q.1],q.2)).bind fun q=>wg {c with a6B:=q.1} s q.2
def PG(c:CM)(s:Bs)(p:Nat):Option (CM×Nat):=if I9 s we p=true then(dH s (p+16)).bind fun q=>(I7 s [32] q.2).map fun e=>({c with a6D:=q.1,a6C:=true},e) else some (c,p)
def wh(s:Bs)(p:Nat):Nat×Nat:=if I9 s [43] p=true then(1,p+1) else if I9 s [45] p=true then(2,p+1) else(0,p)
def Dt(s:Bs)(p:Nat):Bool×Nat:=if I9 s dl p=true then(true,p+7) else(false,p)
def oQ(c:CM)(s:Bs)(p:Nat):Option (CM×Nat):=(PG c s p).bind fun q=>(I7 s yy (wh s q.2).2).bind fun e=>(I7 s [32] (Dt s e).2).bind fun e2=>
 (oN s e2).map fun f=>({q.1 with how:=(wh s q.2).1,a6H:=(Dt s e).1,a6J:=f.1},f.2)
def dm(c:CM)(s:Bs)(p:Nat)(k:CM->Nat->Option (CM×Nat)):Option (CM×Nat):=(I7 s [32] p).bind fun e=>(rn s e).bind fun q=>k {c with set:=q.1} q.2
def aW(s:Bs)(k:CM->Nat->Option (CM×Nat))(c:CM)(p:Nat):Option (CM×Nat):=(I7 s [32] p).bind fun e=>k c e
def T7(c:CM)(s:Bs)(p:Nat):Option (CM×Nat):=
 if c.kind<=5 then some (c,p)
 else if c.kind=6 then(I7 s AS p).map fun e=>(c,e)
 else if c.kind=7 then dI c s p
 else if c.kind<=9 then lx c s p
 else if c.kind<=11 then L5 c s p
 else if c.kind=12 then jL c s p
 else if c.kind=13 then jM c s p
 else if c.kind=14 then jN c s p
 else if c.kind=15 then Te c s p
 else if c.kind=16 then dm c s p (aW s fun c e=>oP c s e)
 else if c.kind=17 then dm c s p (aW s fun c e=>oQ c s e)
 else dm c s p fun c e=>L5 c s e
def yA(c:UInt8):Bool:=R2 c&&!decide (c=43)
def cV(s:Bs):Bs:=O6 yA s 0
def dp(s:Bs):Bool:=!(cV s).isEmpty&&decide ((cV s).length<=32)&&I9 s [32] (cV s).length
def oS(s:Bs):Bool:=I9 s Td ((cV s).length+1)
def tP(s:Bs):Nat:=(cV s).length+1+(if oS s=true then 4 else 0)
def M5(s:Bs):Bs:=O6 (fun c=>!decide (c=32)) s (tP s)
def first(s:Bs):CM:={iK with tag:=cV s}
theorem iN{s w:Bs}{p:Nat}(h:I9 s w p=true)(b:w≠[]):p+w.length<=s.length:=by
 unfold I9 at h;simp only[j7] at h;have a:=jh List.length h;unfold R3 at a;simp only[kg,kr,jz] at a;have:=Kb.mpr b;omega
theorem PH(a:UInt8->Bool)(s:Bs)(p:Nat)(hp:p<=s.length):p+(O6 a s p).length<=s.length:=by
 have b:=(J9 a (l:=s.drop p)).length_le;unfold O6;rw[jz] at b;omega
theorem D6{s w:Bs}{p e:Nat}(h:I7 s w p=some e)(a:w≠[]):I9 s w p=true/\e=p+w.length/\e<=s.length:=by
 unfold I7 at h;split at h
 ·next k=>
  have b:=Qz h;have:=iN k a;exact⟨k,b.symm,by omega⟩
 ·cases h
structure LT where
 uid:Nat
 a6J:List Bs
 mod:Nat
 hash:Bs
 size:Nat
 deriving DecidableEq
structure BX where
 name:Bs
 val:Nat
 next:Nat
 high:Nat
 lts:List LT
 deriving DecidableEq
abbrev PI:BX:=⟨[],0,0,0,[]⟩
structure SX where
 ses:Nat
 last:Nat
 node:Int
 life:Nat
 tr:Nat
 deriving DecidableEq
structure HO where
 node:Int
 life:Nat
 tr:Nat
 deriving DecidableEq
abbrev OB:HO:=⟨0,0,0⟩
structure ML where
 a6u:List BX
 nval:Nat
 a6v:List HO
 a6w:List SX
 nses:Nat
 a6G:Nat
 deriving DecidableEq
structure RQ where
 op:Int
 ses:Nat
 num:Nat
 node:Int
 life:Nat
 tr:Nat
 box:Bs
 tz:Bs
 val:Nat
 a6A:List (Nat×Nat)
 a6J:List Bs
 how:Int
 hasS:Bool
 a6D:Nat
 hash:Bs
 size:Nat
 a6G:Nat
 deriving DecidableEq
abbrev dq:RQ:=⟨0,0,0,0,0,0,[],[],0,[],[],0,false,0,[],0,0⟩
structure OC where
 code:Int
 ses:Nat
 val:Nat
 a6A:zz
 mods:zz
 deriving DecidableEq
abbrev C3:OC:=⟨0,0,0,[],[]⟩
abbrev eX:Nat:=4294967295
abbrev Du:Nat:=4611686018427387904
def R_(most k:Nat):Nat:=if k=0 then most else k
def ii(l:List (Nat×Nat))(most n:Nat):Bool:=l.any fun r=>decide (min (R_ most r.1) (R_ most r.2)<=n/\n<=max (R_ most r.1) (R_ most r.2))
def G8(l:List Bs)(how:Int)(b:List Bs):List Bs×Int:=
 if G_ l=false\/G_ b=false\/how<0\/3<=how then([],1)
 else
  let o:=if how=0 then U5 b else if how=1 then U5 (l++b) else(U5 l).filter fun f=>!decide (f∈b)
  if 16<o.length then([],7) else(o,0)
def yb(s:ML)(name:Bs):Option Nat:=s.a6u.findIdx? fun b=>decide (b.name=name)
def rV(s:ML)(n:Nat):Option Nat:=s.a6w.findIdx? fun x=>decide (x.ses=n)
def iq(s:ML)(n:Int):Option Nat:=s.a6v.findIdx? fun h=>decide (h.node=n)
def gI(s:ML)(n:Int)(t:Nat):Option Nat:=s.a6w.findIdx? fun x=>decide (x.node=n/\x.tr=t)
def aw(s:ML)(i:Nat):BX:=s.a6u.getD i PI
def ay(s:ML)(name:Bs):Option BX:=(yb s name).map (aw s)
def named(s:ML)(r:RQ):Option Nat:=(yb s r.box).bind fun i=>if(aw s i).val=r.val then some i else none
def wi(b:BX):Nat:=(b.lts.getLast?.map LT.uid).getD 0
def Y3(r:RQ)(b:BX)(x:LT):Bool:=ii r.a6A (wi b) x.uid
abbrev AR:=ML×OC×Int
def dJ(h:HO):List HO->List HO
 |[]=>[h]
 |x::t=>if h.node<x.node then h::x::t else x::dJ h t
def nA(s:ML)(at_:Option Nat)(h:HO):ML:=match at_ with
 |some i=>{s with a6v:=s.a6v.set i h}
 |none=>{s with a6v:=dJ h s.a6v}
def mi(s:ML)(r:RQ):AR:=
 if r.node<1\/5<r.node\/r.life=0\/r.tr=0 then(s,C3,1)
 else
  let k:=iq s r.node
  let h:=(k.map fun i=>s.a6v.getD i OB).getD OB
  if r.life<h.life then(s,C3,14)
  else if h.life=r.life/\r.tr<=h.tr then match gI s r.node r.tr with
   |none=>(s,C3,14)
   |some i=>(s,{C3 with ses:=(s.a6w.getD i ⟨0,0,0,0,0⟩).ses},0)
  else
   let a6w:=if h.life<r.life then s.a6w.filter fun x=>!decide (x.node=r.node) else s.a6w
   if 16<=a6w.length\/Du<=s.nses then(s,C3,7)
   else(nA {s with a6w:=a6w++[⟨s.nses,0,r.node,r.life,r.tr⟩],nses:=s.nses+1} k ⟨r.node,r.life,r.tr⟩,{C3 with ses:=s.nses},0)
def ly(s:ML):AR:=if s.a6G=E6 then(s,C3,13) else({s with a6G:=s.a6G+1},C3,0)
def PJ(s:ML)(r:RQ):AR:=({s with a6w:=s.a6w.filter fun x=>!decide (x.ses=r.ses)},C3,0)
def jO(b:BX):List BX->List BX
 |[]=>[b]
 |x::t=>if ip b.name x.name=true then b::x::t else x::jO b t
def dr(s:ML)(r:RQ):AR:=
 if jH r.box≠some r.box then(s,C3,1)
 else if(yb s r.box).isSome=true then(s,C3,12)
 else if 8<=s.a6u.length then(s,C3,7)
 else if eX<s.nval then(s,C3,13)
 else({s with a6u:=jO ⟨r.box,s.nval,1,1,[]⟩ s.a6u,nval:=s.nval+1},{C3 with val:=s.nval},0)
def bY(s:ML)(r:RQ):AR:=
 if r.box=di then(s,C3,1) else match yb s r.box with
 |none=>(s,C3,6)
 |some i=>({s with a6u:=s.a6u.eraseIdx i},C3,0)
def jP(s:ML)(i:Nat)(b:BX):ML:={s with a6u:=s.a6u.set i b}
def dt(s:ML)(r:RQ):AR:=match yb s r.box with
 |none=>(s,C3,6)
 |some i=>
  let b:=aw s i
  if G_ r.a6J=false\/r.hash.length≠32\/4096<r.size then(s,C3,1)
  else if r.a6G≠s.a6G then(s,C3,15)
  else if 32<=b.lts.length then(s,C3,7)
  else if eX<b.next\/E6<=b.high then(s,C3,13)
  else(jP s i {b with high:=b.high+1,next:=b.next+1,lts:=b.lts++[⟨b.next,r.a6J,b.high+1,r.hash,r.size⟩]},{C3 with val:=b.val,a6A:=[b.next]},0)
def I_(r:RQ)(b:BX):List LT->Option (List LT×zz×zz×Bool)
 |[]=>some ([],[],[],false)
 |x::t=>
  if Y3 r b x=false then(I_ r b t).map fun q=>(x::q.1,q.2.1,q.2.2.1,q.2.2.2)
  else if r.hasS=true/\r.a6D<x.mod then(I_ r b t).map fun q=>(x::q.1,q.2.1,x.uid::q.2.2.1,q.2.2.2)
  else if(G8 x.a6J r.how r.a6J).2≠0 then none
  else(I_ r b t).map fun q=>if(G8 x.a6J r.how r.a6J).1=x.a6J then(x::q.1,x.uid::q.2.1,q.2.2.1,q.2.2.2)
   else({x with a6J:=(G8 x.a6J r.how r.a6J).1,mod:=b.high+1}::q.1,x.uid::q.2.1,q.2.2.1,true)
def dK(s:ML)(r:RQ):AR:=match named s r with
 |none=>(s,C3,6)
 |some i=>
  let b:=aw s i
  if G_ r.a6J=false\/r.how<0\/2<r.how then(s,C3,1)
  else match I_ r b b.lts with
   |none=>(s,C3,7)
   |some q=>
    if q.2.2.2=false then(s,{C3 with a6A:=q.2.1,mods:=q.2.2.1},0)
    else if E6<=b.high then(s,C3,13)
    else(jP s i {b with lts:=q.1,high:=b.high+1},{C3 with a6A:=q.2.1,mods:=q.2.2.1},0)
abbrev jQ:Bs:=[92,68,101,108,101,116,101,100]
def jR(r:RQ)(b:BX)(x:LT):Bool:=decide (jQ∈x.a6J)&&(r.a6A.isEmpty||Y3 r b x)
def bD(s:ML)(r:RQ):AR:=match named s r with
 |none=>(s,C3,6)
 |some i=>
  let b:=aw s i
  let u:=(b.lts.filter (jR r b)).map LT.uid
  if u=[] then(s,C3,0)
  else if E6<=b.high then(s,C3,13)
  else(jP s i {b with lts:=b.lts.filter fun x=>!jR r b x,high:=b.high+1},{C3 with a6A:=u},0)
def fz(n m:Nat):List LT->List LT
 |[]=>[]
 |x::t=>{x with uid:=n,mod:=m}::fz (n+1) m t
def ir(s:ML)(r:RQ):AR:=match named s r with
 |none=>(s,C3,6)
 |some j=>
  let b:=aw s j
  match yb s r.tz with
  |none=>(s,C3,21)
  |some i=>
   let l:=b.lts.filter (Y3 r b)
   let t:=aw s i
   if l=[] then(s,{C3 with val:=t.val},0)
   else if 32<t.lts.length+l.length then(s,{C3 with val:=t.val},7)
   else if eX+1<t.next+l.length\/E6<=t.high then(s,{C3 with val:=t.val},13)
   else(jP s i {t with high:=t.high+1,next:=t.next+l.length,lts:=t.lts++fz t.next (t.high+1) l},{C3 with val:=t.val,a6A:=(fz t.next (t.high+1) l).map LT.uid},0)
def KJ(s:ML)(r:RQ):AR:=
 if r.op=1 then mi s r else if r.op=2 then PJ s r else if r.op=3 then(s,C3,0) else if r.op=4 then dr s r else if r.op=5 then bY s r
 else if r.op=6 then dt s r else if r.op=7 then dK s r else if r.op=8 then bD s r else if r.op=9 then ir s r else ly s
def wj(q:AR):ML×OC:=(q.1,if q.2.2=0 then q.2.1 else{C3 with code:=q.2.2})
def E3(s:ML)(r:RQ):ML×OC:=
 if r.op<1\/11<=r.op\/64<r.a6A.length then(s,{C3 with code:=1})
 else if r.op=1\/r.op=10 then wj (KJ s r)
 else match rV s r.ses with
  |none=>(s,{C3 with code:=16})
  |some i=>
   let x:=s.a6w.getD i ⟨0,0,0,0,0⟩
   if r.num<=x.last then(s,{C3 with code:=14})
   else wj (KJ {s with a6w:=s.a6w.set i {x with last:=r.num}} r)
def Gx:ML:=⟨[⟨di,1,1,1,[]⟩],2,[],[],1,0⟩
def Tf(n:Nat):zz->zz
 |[]=>[n]
 |x::t=>if n<x then n::x::t else if n=x then x::t else x::Tf n t
def Tg(l:zz):zz:=l.foldr Tf []
def Th(out:List (Nat×Nat))(n:Nat):List (Nat×Nat):=match out.getLast? with
 |some r=>if r.2=n-1 then out.dropLast++[(r.1,n)] else out++[(n,n)]
 |none=>[(n,n)]
def Ti(l:zz):List (Nat×Nat):=(Tg (l.filter fun n=>decide (0<n))).foldl Th []
def fU(n:Nat):Bs:=if n=0 then[42] else T1 n
def aR(r:Nat×Nat):Bs:=if r.2=r.1 then fU r.1 else fU r.1++58::fU r.2
structure VW where
 box:Bs
 val:Nat
 a6x:List (Nat×Nat)
 deriving DecidableEq
abbrev AT:VW:=⟨[],0,[]⟩
def R4(b:BX):VW:=⟨b.name,b.val,b.lts.map fun x=>(x.uid,x.mod)⟩
def tQ(v:VW)(u:Nat):Option Nat:=v.a6x.findIdx? fun r=>decide (r.1=u)
def cW(v:VW)(u:Nat):Nat:=(tQ v u).elim 0 (· +1)
def cD(v:VW)(u m:Nat):VW:=match tQ v u with
 |none=>v
 |some i=>{v with a6x:=v.a6x.set i ((v.a6x.getD i (0,0)).1,m)}
def M7(l:List (Nat×Nat)):Nat:=l.foldl (fun m r=>max m r.1) 0
def Y4(v:VW)(l:List (Nat×Nat))(byUid:Bool):Option (zz):=
 let n:=v.a6x.length
 if byUid=false/\(l.any fun x=>decide (min (R_ n x.1) (R_ n x.2)<1\/n<max (R_ n x.1) (R_ n x.2)))=true then none
 else some ((v.a6x.zipIdx.filter fun x=>if byUid then ii l (M7 v.a6x) x.1.1 else ii l n (x.2+1)).map fun x=>x.1.1)
def a2e(v:VW)(a6A:zz)(byUid:Bool):List (Nat×Nat):=
 Ti (a6A.filterMap fun u=>(tQ v u).map fun i=>if byUid then u else i+1)
def bZ(b:BX)(u:Nat):Option LT:=b.lts.find? fun x=>decide (x.uid=u)
def az(b:BX):Nat->List (Nat×Nat)->List (Nat×Nat)×List RR
 |0,a6x=>(a6x,[])
 |k+1,a6x=>match bZ b (a6x.getD k (0,0)).1 with
  |some _=>az b k a6x
  |none=>((az b k (a6x.eraseIdx k)).1,{R0 with kind:=9,n:=k+1}::(az b k (a6x.eraseIdx k)).2)
def tR(x:LT)(n:Nat)(cond:Bool):RR:=
 {R0 with kind:=14,n:=n,values:={V0 with kind:=6,a6J:=x.a6J}::if cond then[{V0 with kind:=9,n:=x.mod}] else[]}
def Y5(b:BX)(r:Nat×Nat):(Nat×Nat)×Option LT:=match bZ b r.1 with
 |none=>(r,none)
 |some x=>if x.mod=r.2 then(r,none) else((r.1,x.mod),some x)
def aa(v:VW)(b:BX)(expunge cond:Bool):VW×List RR:=
 if b.name≠v.box\/b.val≠v.val then(v,[])
 else
  let q:=if expunge then az b v.a6x.length v.a6x else(v.a6x,[])
  let new:=(b.lts.filter fun x=>decide (M7 q.1<x.uid)).map fun x=>(x.uid,x.mod)
  let had:=q.1.map (Y5 b)
  ({v with a6x:=had.map (·.1)++new},
   q.2++(if new=[] then[] else[{R0 with kind:=8,n:=q.1.length+new.length}])++had.zipIdx.filterMap fun h=>h.1.2.map fun x=>tR x (h.2+1) cond)
structure PL where
 seq:Nat
 mseq:Nat
 muid:Nat
structure SE where
 a6z:Nat
 ses:Nat
 num:Nat
 a6y:VW
 ro:Bool
 cond:Bool
 a6E:Bool
 cmd:CM
 a6A:zz
abbrev oT:SE:=⟨0,0,0,AT,false,false,false,iK,[]⟩
structure DD where
 a6I:List RR
 ask:Bool
 req:RQ
 store:Bool
 body:Bs
 want:List Bs
 close:Bool
abbrev G7:DD:=⟨[],false,dq,false,[],[],false⟩
abbrev SD:=SE×DD
abbrev ep(tag:Bs):RR:={R0 with kind:=1,tag:=tag,text:=[100,111,110,101]}
abbrev nB(tag code text:Bs):RR:={R0 with kind:=2,tag:=tag,code:=code,text:=text}
abbrev fA(tag text:Bs):RR:={R0 with kind:=3,tag:=tag,text:=text}
abbrev L2(text:Bs):RR:={R0 with kind:=4,tag:=[42],text:=text}
def X0(q:SD)(r:RR):SD:=(q.1,{q.2 with a6I:=q.2.a6I++[r]})
def Gy(q:SD)(text:Bs):SD:=({q.1 with a6z:=3},{q.2 with a6I:=q.2.a6I++[L2 text],close:=true})
def oU(q:SD)(tag:Bs):SD:=X0 (Gy q [108,111,103,103,105,110,103,32,111,117,116]) (ep tag)
def H3(q:SD)(c:CM)(r:RQ)(a6A:zz):SD:=
 if r.op=1 then({q.1 with a6E:=true,cmd:=c,a6A:=a6A},{q.2 with ask:=true,req:=r})
 else({q.1 with a6E:=true,cmd:=c,a6A:=a6A,num:=q.1.num+1},{q.2 with ask:=true,req:={r with ses:=q.1.ses,num:=q.1.num+1}})
def aA(q:SD)(op:Int):RQ:={dq with op:=op,box:=q.1.a6y.box,val:=q.1.a6y.val}
abbrev bE:RQ:={dq with op:=3}
def mj(q:SD)(c:CM):SD:=H3 q c bE []
def tS(q:SD)(c:CM)(r:RQ)(a6A:zz):SD:=
 let l:=a2e q.1.a6y a6A true
 if l.length<1\/64<l.length then H3 q c bE a6A else H3 q c {r with a6A:=l} a6A
def KK(digest:Bs->Bs)(q:SD)(c:CM):SD:=
 if c.kind=1 then X0 (X0 q {R0 with kind:=6}) (ep c.tag)
 else if c.kind=2 then(if q.1.a6z=0 then X0 q (ep c.tag) else mj q c)
 else if c.kind=3 then(if q.1.a6z=0 then oU q c.tag else H3 q c {dq with op:=2} [])
 else if c.kind=4 then(if q.1.ro then mj q c else H3 q c (aA q 8) [])
 else if c.kind=5 then(if q.1.ro then X0 q (nB c.tag [82,69,65,68,45,79,78,76,89] [105,116,32,109,97,121,32,110,111,116,32,98,101]) else H3 q c (aA q 8) [])
 else if c.kind=6 then X0 (X0 ({q.1 with cond:=true},q.2) {R0 with kind:=7}) (ep c.tag)
 else if c.kind=7 then(if c.pass=[104,111,114,110] then H3 q c {dq with op:=1} [] else X0 q (nB c.tag [65,85,84,72,69,78,84,73,67,65,84,73,79,78,70,65,73,76,69,68] [119,114,111,110,103,32,112,97,115,115,119,111,114,100]))
 else if c.kind<=9 then mj ({q.1 with cond:=q.1.cond||c.cond},q.2) c
 else if c.kind=10 then H3 q c {dq with op:=4,box:=c.box} []
 else if c.kind=11 then H3 q c {dq with op:=5,box:=c.box} []
 else if c.kind<=13\/c.kind=15 then mj q c
 else if c.kind=14 then H3 (q.1,{q.2 with store:=true,body:=c.data}) c {dq with op:=6,box:=c.box,a6J:=c.a6J,hash:=digest c.data,size:=c.data.length} []
 else match (if c.kind=17/\q.1.ro=true then none else some (Y4 q.1.a6y c.set c.uid)) with
  |none=>X0 q (nB c.tag [82,69,65,68,45,79,78,76,89] [105,116,32,109,97,121,32,110,111,116,32,98,101])
  |some none=>X0 q (fA c.tag [110,111,32,115,117,99,104,32,109,101,115,115,97,103,101])
  |some (some l)=>
   if c.kind=16 then
    if q.1.ro=true\/c.a6C=true\/(c.a6B.any fun x=>decide (10<=x.kind)&&!x.peek)=false then H3 q c bE l
    else tS q c {aA q 7 with a6J:=[[92,83,101,101,110]],how:=1} l
   else if c.kind=17 then tS q c {aA q 7 with a6J:=c.a6J,how:=c.how,hasS:=c.a6C,a6D:=c.a6D} l
   else tS q c {aA q 9 with tz:=c.box} l
def M_(k:Nat):Nat×Nat:=if k=1\/k=2\/k=3 then(0,2) else if k=4\/k=5\/15<=k then(2,2) else if k=7 then(0,0) else(1,2)
def tT(c:CM):Bs:=if c.tag=[] then[42] else c.tag
def X6(s:SE):SE:={s with a6E:=false,cmd:=iK,a6A:=[]}
def aH(s:SE):SD:=if s.a6E=false then(s,G7) else if s.cmd.kind=3 then oU (X6 s,G7) s.cmd.tag else X0 (X6 s,G7) (nB s.cmd.tag [85,78,65,86,65,73,76,65,66,76,69] [116,114,121,32,97,103,97,105,110])
abbrev BL:=List (Bs×Bs)
def mT(kind:Nat)(e:Int):Bs×Bs:=
 if e=6/\kind=14\/e=21 then([84,82,89,67,82,69,65,84,69],[116,104,101,114,101,32,105,115,32,110,111,110,101]) else if e=6 then([78,79,78,69,88,73,83,84,69,78,84],[116,104,101,114,101,32,105,115,32,110,111,110,101]) else if e=12 then([65,76,82,69,65,68,89,69,88,73,83,84,83],[105,116,32,105,115,32,116,104,101,114,101])
 else if e=7 then([79,86,69,82,81,85,79,84,65],[110,111,32,114,111,111,109]) else if e=13 then([76,73,77,73,84],[110,117,109,98,101,114,115,32,97,114,101,32,117,115,101,100,32,117,112]) else if e=1 then([67,65,78,78,79,84],[105,116,32,109,97,121,32,110,111,116,32,98,101]) else([85,78,65,86,65,73,76,65,66,76,69],[116,114,121,32,97,103,97,105,110])
def mU(s:SE)(st:ML):BX:=((ay st s.a6y.box).bind fun b=>if b.val=s.a6y.val then some b else none).getD PI
