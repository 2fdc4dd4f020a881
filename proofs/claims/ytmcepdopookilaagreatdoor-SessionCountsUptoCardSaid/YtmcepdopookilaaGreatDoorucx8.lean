import Derived.Test.YtmcepdopookilaaGreatDoorucx7
import Derived.Laws.Cover1
import Derived.Test.YtmcepdopookilaaGreatDoorucx5
import Derived.Test.YtmcepdopookilaaGreatDoorRows
import Derived.WalkKit
import Derived.ProofKit
import Derived.OpenShut
import Derived.MakeChecks
import Derived.Lib.LaidTab
import Derived.Stop.LaidErr
import Derived.Deep.DeepLaidRun
import Derived.Lay
import Derived.Deep.DeepHandedRow
import Derived.Deep.DeepWitnessRowRef
set_option linter.unusedVariables false
set_option linter.unusedSimpArgs false
set_option linter.defProp false
namespace Go.Proofs.YtmcepdopookilaaGreatDoor.Rp
open Go Go.Sl Go.Proofs.Tryz
abbrev Bs:=List UInt8
abbrev D_:Nat:=9223372036854775807
def O_(c:UInt8):Bool:=decide (48<=c.toNat)&&decide (c.toNat<=57)
def Au(a:Nat)(c:UInt8):Nat:=10*a+(c.toNat-48)
def S8(a:Nat)(s:Bs):Nat:=s.foldl Au a
theorem rH(a:Nat)(c:UInt8)(t:Bs):S8 a (c::t)=S8 (Au a c) t:=by unfold S8;rw[Wq]
theorem ot(a:Nat):S8 a []=a:=by unfold S8;rw[List.foldl_nil]
def dig(k:Nat):UInt8:=UInt8.ofNat (48+k)
def R4(n:Nat):Bs:=if h:n<10 then[dig n] else R4 (n/10)++[dig (n%10)]
termination_by n
decreasing_by omega
theorem bK{n:Nat}(h:n<10):R4 n=[dig n]:=by rw[R4];simp[h]
theorem gh{n:Nat}(h:¬n<10):R4 n=R4 (n/10)++[dig (n%10)]:=by rw[R4];simp[h]
theorem KH{k:Nat}(h:k<10):(dig k).toNat=48+k:=by
 unfold dig;rw[UInt8.toNat_ofNat'];omega
theorem FF{k:Nat}(h:k<10):O_ (dig k)=true:=by
 unfold O_;rw[KH h];simp;omega
theorem lS(a:Nat)(x y:Bs):S8 a (x++y)=S8 (S8 a x) y:=by unfold S8;rw[W1]
theorem KI(n:Nat):R4 n≠[]:=by
 rcases Qh n 10 with h|h
 ·rw[bK h];simp
 ·rw[gh qb];simp
theorem FG(n:Nat):(R4 n).all O_=true:=by
 induction n using Nat.strongRecOn with
 |ind n ih=>
  rcases Qh n 10 with h|h
  ·rw[bK h];simp[FF h]
  ·rw[gh qb,List.all_append,ih (n/10) qb];simp[FF (Nat.mod_lt n (by omega:0<10))]
def aX(w:Bs):Option Nat:=if R4 (S8 0 w)=w/\S8 0 w<=D_ then some (S8 0 w) else none
theorem rI{w:Bs}{n:Nat}(h:aX w=some n):w=R4 n/\n<=D_:=by
 unfold aX at h;split at h
 ·next k=>simp at h;subst h;exact⟨k.1.symm,k.2⟩
 ·cases h
theorem FH:aX []=none:=by
 unfold aX;split
 ·next k=>exact absurd k.1 (KI _)
 ·rfl
theorem bw(p:UInt8->Bool)(s:Bs):s=s.takeWhile p++s.drop (s.takeWhile p).length:=by
 induction s with
 |nil=>rfl
 |cons c t ih=>
  by_cases h:p c=true
  ·simp only[Zq,h,if_true,zy,Wx,Qc];rw[<-ih]
  ·simp[Zq,h]
theorem gU(p:UInt8->Bool)(s:Bs):∀c∈s.takeWhile p,p c=true:=by
 induction s with
 |nil=>simp
 |cons c t ih=>
  by_cases h:p c=true
  ·simp only[Zq,h,if_true];intro x a;rcases ky.mp a with rfl|a
   ·exact h
   ·exact ih x a
  ·simp[Zq,h]
theorem bL(p:UInt8->Bool):∀(w r:Bs),(∀c∈w,p c=true)->(∀c∈r.head?,p c=false)->(w++r).takeWhile p=w
 |[],[],_,_=>rfl
 |[],c::r,_,h=>by simp[Zq,h c y4]
 |c::w,r,hw,h=>by
  simp only[Qc,Zq,hw c y4,if_true];rw[bL p w r (fun x hx=>hw x (jj _ hx)) h]
theorem fD(p:UInt8->Bool)(s:Bs):∀c∈(s.drop (s.takeWhile p).length).head?,p c=false:=by
 induction s with
 |nil=>simp
 |cons c t ih=>
  by_cases h:p c=true
  ·simpa only[Zq,h,if_true,zy,Wx] using ih
  ·simp[Zq,h]
def P0(c:UInt8):Bool:=decide (33<=c.toNat)&&decide (c.toNat<=126)&&!([40,41,123,37,42,34,92,93]:Bs).contains c
def ja(s:Bs):Bool:=s.all P0&&!s.isEmpty
def rJ(c:UInt8):UInt8:=if 97<=c.toNat/\c.toNat<=122 then c-32 else c
def iq(c:UInt8):UInt8:=if 65<=c.toNat/\c.toNat<=90 then c+32 else c
def R8(s:Bs):Bs:=s.map rJ
def U_(s:Bs):Bs:=s.map iq
def aY(c:UInt8):Bool:=decide (0<c.toNat)&&decide (c.toNat<128)&&!([10,13]:Bs).contains c
def Av(b:Bs)(i:Nat):Bs->Option (Bs×Nat)
 |[]=>none
 |c::t=>if 512<b.length then none else if c=34 then some (b,i+1) else if c=92 then
   (match t with|[]=>none|d::t'=>if d=34\/d=92 then Av (b++[d]) (i+2) t' else none)
  else if aY c then Av (b++[c]) (i+1) t else none
theorem je(b:Bs)(i:Nat)(c:UInt8)(t:Bs):Av b i (c::t)=if 512<b.length then none else if c=34 then some (b,i+1) else if c=92 then
   (match t with|[]=>none|d::t'=>if d=34\/d=92 then Av (b++[d]) (i+2) t' else none)
  else if aY c then Av (b++[c]) (i+1) t else none:=Av.eq_def ..
def vp:Bs->Option (Bs×Nat)
 |[]=>none
 |c::t=>if c=34 then Av [] 1 t else none
def CO(c:UInt8):Bool:=decide (32<=c.toNat)&&decide (c.toNat<=126)&&!([37,42,34,92]:Bs).contains c
def vq(s:Bs):Bool:=!s.isEmpty&&s.all CO&&decide (s.length<=64)&&decide (s.head?≠some 32)&&decide (s.getLast?≠some 32)
abbrev cP:Bs:=[73,78,66,79,88]
def jf(s:Bs):Option Bs:=if vq s then some (if R8 s=cP then cP else s) else none
def gV(a b:Bs):Bool:=Op.bytesLess a b
theorem ir:∀a:Bs,gV a a=false
 |[]=>rfl
 |a::l=>by
  have:=ir l;simp only[gV] at*;simp[Op.bytesLess,this]
theorem bS:∀{a b c:Bs},gV a b=true->gV b c=true->gV a c=true
 |[],_,[],_,h=>by simp[gV,Op.bytesLess] at h
 |[],_,c::z,_,_=>rfl
 |a::x,[],_,h,_=>by simp[gV,Op.bytesLess] at h
 |a::x,b::y,[],_,h=>by simp[gV,Op.bytesLess] at h
 |a::x,b::y,c::z,h,k=>by
  have d:=@bS x y z;simp only[gV,Op.bytesLess,Q7,jy,kx,W6] at*;rcases h with h|⟨rfl,h⟩<;>rcases k with k|⟨rfl,k⟩
  ·exact .inl (UInt8.lt_trans h k)
  ·exact .inl h
  ·exact .inl k
  ·exact .inr ⟨rfl,d h k⟩
theorem dK:∀{a b:Bs},a≠b->gV a b=false->gV b a=true
 |[],[],h,_=>absurd rfl h
 |[],b::y,_,h=>by simp[gV,Op.bytesLess] at h
 |a::x,[],_,_=>rfl
 |a::x,b::y,hne,h=>by
  have c:=@dK x y;simp only[gV,Op.bytesLess,Q1,Q7,jy,Zp,kx,Bool.and_eq_false_imp,W6] at*;rcases Nat.lt_trichotomy a.toNat b.toNat with k|k|k
  ·exact absurd (UInt8.lt_iff_toNat_lt.mpr k) h.1
  ·have e:=Wz.mp k;subst e;exact .inr ⟨rfl,c (fun e=>hne (by rw[e])) (h.2 rfl)⟩
  ·exact .inl (UInt8.lt_iff_toNat_lt.mpr k)
def R5:List Bs:=[[92,65,110,115,119,101,114,101,100],[92,70,108,97,103,103,101,100],[92,68,101,108,101,116,101,100],[92,83,101,101,110],[92,68,114,97,102,116]]
def M7(f:Bs):Nat:=R5.idxOf f
def U9(a b:Bs):Bool:=if M7 a≠M7 b then decide (M7 a<M7 b) else gV a b
theorem U0(a:Bs):U9 a a=false:=by simp[U9,ir]
theorem P8{a b c:Bs}(h:U9 a b=true)(k:U9 b c=true):U9 a c=true:=by
 unfold U9 at*;split at h<;>split at k<;>split
 ·simp at*;omega
 ·simp at*;omega
 ·simp at*;omega
 ·next x y z=>simp at*;omega
 ·simp at*;omega
 ·next x y z=>simp at*;omega
 ·next x y z=>simp at*;omega
 ·exact bS h k
theorem aZ{a b:Bs}(c:a≠b)(h:U9 a b=false):U9 b a=true:=by
 unfold U9 at*;split at h
 ·next k=>
  rw[zu (fun e=>k e.symm)];simp at*;omega
 ·next k=>
  rw[zk (fun e=>k (fun d=>e d.symm))];exact dK c h
def E1(s:Bs):Option Bs:=match R5.find? (fun f=>R8 f==R8 s) with
 |some f=>some f
 |none=>if ja s=true/\s.length<=32 then some (U_ s) else none
def qX(f:Bs):List Bs->List Bs
 |[]=>[f]
 |x::t=>if U9 f x then f::x::t else x::qX f t
def eY(l:List Bs)(f:Bs):List Bs:=if f∈l then l else qX f l
def S3:List Bs->Option (List Bs)
 |[]=>some []
 |s::t=>match E1 s,S3 t with
  |some c,some l=>some (c::l)
  |_,_=>none
def T4(l:List Bs):List Bs:=l.foldl eY []
def V8(names:List Bs):List Bs×Int:=match S3 names with
 |none=>([],4)
 |some l=>if 16<(T4 l).length then([],7) else(T4 l,0)
abbrev xH(l:List Bs):Prop:=l.Pairwise fun a b=>U9 a b=true
def ou:List Bs->Bool
 |a::b::t=>U9 a b&&ou (b::t)
 |_=>true
def G0(l:List Bs):Bool:=l.all (fun f=>decide (E1 f=some f))&&ou l&&decide (l.length<=16)
theorem kS:∀{l:List Bs},ou l=true->xH l
 |[],_=>.nil
 |[a],_=>by simp
 |a::b::t,h=>by
  simp only[ou,kx] at h;have k:=kS h.2;refine .cons (fun x c=>?_) k;rcases ky.mp c with rfl|c
  ·exact h.1
  ·exact P8 h.1 ((Qq.mp k).1 x c)
theorem kT:∀{l:List Bs},xH l->ou l=true
 |[],_=>rfl
 |[a],_=>rfl
 |a::b::t,h=>by
  have k:=Qq.mp h;simp only[ou,kx];exact⟨k.1 b y4,kT k.2⟩
theorem tA(f x:Bs):∀l:List Bs,x∈qX f l↔x=f\/x∈l
 |[]=>by simp[qX]
 |y::t=>by
  rw[qX];split
  ·simp
  ·simp only[ky,tA f x t];constructor
   ·rintro(h|h|h)
    ·exact .inr (.inl h)
    ·exact .inl h
    ·exact .inr (.inr h)
   ·rintro(h|h|h)
    ·exact .inr (.inl h)
    ·exact .inl h
    ·exact .inr (.inr h)
theorem Aw(f:Bs):∀{l:List Bs},xH l->f∉l->xH (qX f l)
 |[],_,_=>by simp[qX]
 |y::t,h,hf=>by
  have k:=Qq.mp h;simp only[ky,not_or] at hf;rw[qX];split
  ·next b=>
   refine .cons (fun x a=>?_) h;rcases ky.mp a with rfl|a
   ·exact b
   ·exact P8 b (k.1 x a)
  ·next b=>
   refine .cons (fun x a=>?_) (Aw f k.2 hf.2);rcases (tA f x t).mp a with rfl|a
   ·exact aZ hf.1 (by simpa using b)
   ·exact k.1 x a
theorem FJ(l:List Bs)(f x:Bs):x∈eY l f↔x=f\/x∈l:=by
 unfold eY;split
 ·next h=>
  constructor
  ·exact .inr
  ·rintro(rfl|a)
   ·exact h
   ·exact a
 ·exact tA f x l
theorem FK{l:List Bs}(h:xH l)(f:Bs):xH (eY l f):=by
 unfold eY;split
 ·exact h
 ·next k=>exact Aw f h k
theorem mY:∀(l a:List Bs),xH a->xH (l.foldl eY a)/\∀x,x∈l.foldl eY a↔x∈l\/x∈a
 |[],a,h=>⟨h,fun x=>by simp⟩
 |f::t,a,h=>by
  have k:=mY t (eY a f) (FK h f);refine⟨k.1,fun x=>?_⟩;rw[Wq,k.2,FJ,ky];constructor
  ·rintro(h|h|h)
   ·exact .inl (.inr h)
   ·exact .inl (.inl h)
   ·exact .inr h
  ·rintro((h|h)|h)
   ·exact .inr (.inl h)
   ·exact .inl h
   ·exact .inr (.inr h)
theorem mZ(l:List Bs):xH (T4 l):=(mY l [] .nil).1
theorem tB(l:List Bs)(x:Bs):x∈T4 l↔x∈l:=by rw[T4,(mY l [] .nil).2];simp
theorem xZ:∀{a b:List Bs},xH a->xH b->(∀x,x∈a↔x∈b)->a=b
 |[],[],_,_,_=>rfl
 |[],y::t,_,_,h=>by have:=(h y).mpr y4;simp at this
 |x::t,[],_,_,h=>by have:=(h x).mp y4;simp at this
 |x::a,y::b,ha,hb,h=>by
  have d:=Qq.mp ha;have f:=Qq.mp hb;have e:x=y:=by
   rcases ky.mp ((h x).mp y4) with e|g
   ·exact e
   ·rcases ky.mp ((h y).mpr y4) with e|i
    ·exact e.symm
    ·have j:=f.1 x g;have k:=d.1 y i;have:=P8 j k;rw[U0] at this
     cases this
  subst e;congr 1;refine xZ d.2 f.2 fun z=>?_;constructor
  ·intro hz;rcases ky.mp ((h z).mp (jj _ hz)) with e|c
   ·subst e;have:=d.1 z hz;rw[U0] at this;cases this
   ·exact c
  ·intro hz;rcases ky.mp ((h z).mpr (jj _ hz)) with e|c
   ·subst e;have:=f.1 z hz;rw[U0] at this;cases this
   ·exact c
theorem CP{l:List Bs}(h:xH l):T4 l=l:=xZ (mZ l) h (tB l)
theorem OR(c:UInt8):rJ (iq c)=rJ c:=by
 unfold rJ iq;have:=c.toNat_lt;split
 ·next h=>
  have e:(c+32).toNat=c.toNat+32:=by rw[Wk];simp;omega
  rw[e,zu qb,zk qb];apply Wz.mp;rw[UInt8.toNat_sub,e];simp;omega
 ·rfl
theorem KJ(c:UInt8):iq (iq c)=iq c:=by
 unfold iq;have:=c.toNat_lt;split
 ·next h=>
  have e:(c+32).toNat=c.toNat+32:=by rw[Wk];simp;omega
  rw[e,zk qb]
 ·rfl
theorem KK(s:Bs):R8 (U_ s)=R8 s:=by simp[R8,U_,OR]
theorem FL(s:Bs):U_ (U_ s)=U_ s:=by simp[U_,KJ]
theorem FM{c:UInt8}(h:P0 c=true):P0 (iq c)=true:=by
 unfold iq;have:=c.toNat_lt;split
 ·next k=>
  have e:(c+32).toNat=c.toNat+32:=by rw[Wk];simp;omega
  have a:∀d:UInt8,d.toNat<97\/122<d.toNat->c+32≠d:=fun d f b=>by
   have:=jw UInt8.toNat b;rw[e] at this;omega
  unfold P0;simp[e];refine⟨⟨by omega,by omega⟩,?_⟩;refine⟨a _ ?_,a _ ?_,a _ ?_,a _ ?_,a _ ?_,a _ ?_,a _ ?_,a _ ?_⟩<;>decide
 ·exact h
theorem FN{s:Bs}(h:ja s=true):ja (U_ s)=true:=by
 unfold ja at*;simp only[kx,Qv,Z6,List.isEmpty_eq_false_iff] at*;refine⟨fun c hc=>?_,by simpa[U_] using h.2⟩;obtain⟨d,a,rfl⟩:=jv.mp hc;exact FM (h.1 d a)
theorem CQ:∀f∈R5,E1 f=some f:=by decide
theorem vr{s c:Bs}(h:E1 s=some c):E1 c=some c:=by
 unfold E1 at h;split at h
 ·next f hf=>
  cases h
  exact CQ _ (Kv hf)
 ·next hf=>
  split at h
  ·next k=>
   cases h
   unfold E1;rw[KK,hf,FL];exact zu ⟨FN k.1,by simpa[U_] using k.2⟩
  ·cases h
theorem lT:∀{l cs:List Bs},S3 l=some cs->∀c∈cs,E1 c=some c
 |[],cs,h=>by simp[S3] at h;subst h;simp
 |s::t,cs,h=>by
  rw[S3] at h;split at h
  ·next c l hc hl=>
   cases h
   intro x hx;rcases ky.mp hx with rfl|hx
   ·exact vr hc
   ·exact lT hl x hx
  ·cases h
theorem FO{l:List Bs}(a:∀f∈l,E1 f=some f)(b:xH l)(c:l.length<=16):G0 l=true:=by
 unfold G0;simp only[kx,Qv,jy];exact⟨⟨a,kT b⟩,c⟩
theorem ji{l:List Bs}(h:G0 l=true):(∀f∈l,E1 f=some f)/\xH l/\l.length<=16:=by
 unfold G0 at h;simp only[kx,Qv,jy] at h;exact⟨h.1.1,kS h.1.2,h.2⟩
theorem yb{a l:List Bs}(h:V8 a=(l,0)):G0 l=true:=by
 unfold V8 at h;split at h
 ·cases h
 ·next b hc=>
  split at h
  ·cases h
  ·next k=>
   simp at h;subst h;exact FO (fun f hf=>lT hc f ((tB b f).mp hf)) (mZ b) qb
def eZ(b:Bs):List Bs->Bs
 |[]=>[]
 |[x]=>x
 |x::t=>x++b++eZ b t
def H6:Bs->List Bs
 |[]=>[[]]
 |c::t=>if c=32 then[]::H6 t else match H6 t with
  |[]=>[[c]]
  |w::ws=>(c::w)::ws
def T5(s:Bs):List Bs×Nat×Int:=
 let e:=(s.takeWhile fun c=>c !=41).length
 if s.head? =some 40/\e<s.length then
  let inner:=(s.take e).drop 1
  let m:=V8 (if inner=[] then[] else H6 inner)
  if m.2=0 then(m.1,e+1,0) else([],0,m.2)
 else([],0,4)
theorem ov:∀(w:Bs),(∀c∈w,c≠32)->H6 w=[w]
 |[],_=>rfl
 |c::t,h=>by rw[H6,zk (h c y4),ov t fun x hx=>h x (jj _ hx)]
theorem ow:∀(w r:Bs),(∀c∈w,c≠32)->H6 (w++32::r)=w::H6 r
 |[],r,_=>by simp[H6]
 |c::t,r,h=>by rw[Qc,H6,zk (h c y4),ow t r fun x hx=>h x (jj _ hx)]
theorem lU{s:Bs}{l:List Bs}{n:Nat}(h:T5 s=(l,n,0)):G0 l=true:=by
 unfold T5 at h
 dsimp only at h
 split at h
 ·generalize hm:V8 _=m at h;split at h
  ·next k=>
   have a:m.1=l:=jw (fun q=>q.1) h;exact yb (hm.trans (Prod.ext a k))
  ·next k=>exact absurd (jw (fun q=>q.2.2) h) k
 ·exact absurd (jw (fun q=>q.2.2) h) y4
/- the reference's reading -/
structure RV where
 kind:Int
 n:Nat
 a5R:List Bs
 text:Bs
 part:Bool
 fr:Nat
abbrev V0:RV:=⟨0,0,[],[],false,0⟩
structure RR where
 kind:Int
 tag:Bs
 code:Bs
 text:Bs
 n:Nat
 nums:List Nat
 mod:Nat
 a5R:List Bs
 box:Bs
 values:List RV
abbrev R0:RR:=⟨0,[],[],[],0,[],0,[],[],[]⟩
def FP:List Bs:=[[79,75],[78,79],[66,65,68],[66,89,69]]
abbrev FQ:Bs:=[42,32,67,65,80,65,66,73,76,73,84,89,32,73,77,65,80,52,114,101,118,49,32,69,78,65,66,76,69,32,67,79,78,68,83,84,79,82,69]
abbrev a02:Bs:=[42,32,69,78,65,66,76,69,68,32,67,79,78,68,83,84,79,82,69]
abbrev OS:Bs:=[13,10]
structure RS where
 p:Nat
 ok:Bool
def mE(s w:Bs)(st:RS):Bool×RS:=if st.ok=true/\w.isPrefixOf (s.drop st.p)=true then(true,⟨st.p+w.length,st.ok⟩) else(false,st)
def FR(s w:Bs)(st:RS):RS:=⟨(mE s w st).2.p,(mE s w st).1⟩
def FS(stops:Bs)(r:Bs):Bs:=r.takeWhile fun c=>!stops.contains c
def ox(s stops:Bs)(st:RS):Bs×RS:=if st.ok=true then(FS stops (s.drop st.p),⟨st.p+(FS stops (s.drop st.p)).length,st.ok⟩) else([],st)
def gj(c:UInt8):Bool:=decide (32<=c.toNat)&&decide (c.toNat<=126)
def kU(t:Bs):Bool:=t.all gj&&!t.isEmpty&&decide (t.length<=512)
/- which may be -/
theorem CR(b x:Bs){t:List Bs}(h:t≠[]):eZ b (x::t)=x++b++eZ b t:=by
 cases t with
 |nil=>exact absurd rfl h
 |cons y t=>rfl
end Go.Proofs.YtmcepdopookilaaGreatDoor.Rp
namespace Go.Sl
open Go Go.RowKit Go.Proofs.Tryz
structure P1(s:List Nat)(p:Prop):Prop where
 out:p
theorem P1.step{i:Nat}{s:List Nat}{p:Prop}(h:P1 (i::s) p):P1 s p:=⟨h.out⟩
theorem P1.chk{s:List Nat}{p:Prop}(h:P1 (0::s) p):True:=trivial
theorem P1.pos{i:Nat}{s:List Nat}{p:Prop}(h:P1 (i::s) p):True:=trivial
theorem P1.chk0{p:Prop}(h:P1 [] p):True:=trivial
theorem P1.nb{p:Prop}(h:P1 [7] p):p:=h.out
theorem P1.last{i:Nat}{p:Prop}(h:P1 [i] p):p:=h.out
theorem P1.none{p:Prop}(h:P1 [] p):p:=h.out
theorem ud{H H' a:List As}{x:As}(u:M2 H x a H':=by(repeat (first|exact .del|apply M2.there))):M2 H x a H':=u
theorem uh{H H' a:List As}{x:As}(u:M2 H x a H':=by(repeat (first|exact .here|apply M2.there))):M2 H x a H':=u
theorem sub{L' L:F_}(h:fp L' L:=by(repeat (first|exact fp.nil _|refine fp.cons rfl ?_))):fp L' L:=h
theorem Ry{p:Prop}(h:p:=by(first|omega|(simp only[zz,zy,z6,z7,kz,zm,Ky];omega)|(simp only[zz,zy,z6,z7,kz,zm,Ky] at*;omega))):p:=h
inductive dL:List Value->Nat->List Value->List Value->Prop
 |nil {l:List Value}:dL l 0 [] l
 |here {x v:Value} {l vs l':List Value}:dL l 0 vs l'->dL (x::l) 0 (v::vs) (v::l')
 |there {x:Value} {l vs l':List Value} {n:Nat}:dL l n vs l'->dL (x::l) (n+1) vs (x::l')
theorem dL.put{l vs l':List Value}{n:Nat}(h:dL l n vs l'):n+vs.length<=l.length/\l'=l.take n++vs++l.drop (n+vs.length):=by
 induction h with
 |nil=>simp
 |here _ ih=>simp only[zy,Kw,j7,ju] at ih⊢;exact⟨by omega,by rw[ih.2];simp⟩
 |there _ ih=>
  refine⟨by simp only[zy];omega,?_⟩;rw[ih.2];rename_i x l vs l' n h;have:n+1+vs.length=(n+vs.length)+1:=by omega
  rw[this];simp
inductive dM:List Value->Nat->Nat->List Value->Prop
 |nil {l:List Value}:dM l 0 0 []
 |here {x:Value} {l vs:List Value} {k:Nat}:dM l 0 k vs->dM (x::l) 0 (k+1) (x::vs)
 |there {x:Value} {l vs:List Value} {n k:Nat}:dM l n k vs->dM (x::l) (n+1) k vs
theorem dM.get{l vs:List Value}{n k:Nat}(h:dM l n k vs):n+k<=l.length/\vs=(l.drop n).take k:=by
 induction h with
 |nil=>simp
 |here _ ih=>simp only[zy,Kj,ju] at ih⊢;exact⟨by omega,by rw[ih.2];simp⟩
 |there _ ih=>exact⟨by simp only[zy];omega,by simpa using ih.2⟩
theorem pa{l vs l':List Value}{n:Nat}(h:dL l n vs l':=by(repeat (first|exact .nil|apply dL.here|apply dL.there))):dL l n vs l':=h
theorem ga{l vs:List Value}{n k:Nat}(h:dM l n k vs:=by(repeat (first|exact .nil|apply dM.here|apply dM.there))):dM l n k vs:=h
section
variable{P:Program}{N:Nat}{K R:y6}{E:List (Nat×y6)}{L:F_}{F:l6}{H:List As}{ops:Array Oper}{rest:List Oper}{ty:TypeId}{pos:String}{af:Array Edge}{dst:Option Nat}{gd:Option (Nat×Bool)}
variable{x y:Operand}{t t':TypeId}{d:Nat}
theorem iu{b o:Nat}{l:List Value}{te:TypeId}{fr:Nat×Nat}{v:Value}{H':List As}[ha:HA P t false](hx:ev L x=some (.pointer (some ⟨b,o,none⟩)))(u:M2 H (.blk b (.cells l.toArray te fr)) [] H')(hv:l[o]? =some v):dt P ⟨dst,.load t x,ty,pos,af,gd⟩ L F H v:=
 E9 hx u (by simpa using hv)
theorem gk{b o n:Nat}{l vs:List Value}{te:TypeId}{fr:Nat×Nat}{H':List As}[ha:HA P t true][hs:HS P t n](hx:ev L x=some (.pointer (some ⟨b,o,none⟩)))(u:M2 H (.blk b (.cells l.toArray te fr)) [] H')(hv:dM l o n vs):dt P ⟨dst,.load t x,ty,pos,af,gd⟩ L F H (.agg vs.toArray):=by
 have h:=hv.get;have a:=fu (P:=P) (F:=F) (dst:=dst) (ty:=ty) (pos:=pos) (af:=af) (gd:=gd) (t:=t) (n:=n) hx u (by simpa[Jd] using h.1)
 rwa [show sl l.toArray o n=vs from by rw[h.2];simp[sl]] at a
theorem bZ{b o:Nat}{l l':List Value}{v:Value}{te:TypeId}{H':List As}[ha:HA P t false][hs:HS P t 1](hx:ev L x=some (.pointer (some ⟨b,o,none⟩)))(c:ev L y=some v)(u:M2 H (.blk b (.cells l.toArray te (0,0))) [.blk b (.cells l'.toArray te (0,0))] H')(hp:dL l o [v] l')(hc:v.cells=#[v])(d:v.oneCell'=true)(h:GL P N ops rest K E R L F H'):GL P N ops (⟨none,.store t x y,ty,pos,af,none⟩::rest) K E R L F H:=by
 have k:=hp.put;refine I5 (cs:=l.toArray) (te:=te) (n:=1) hx c ?_ (by rw[hc];rfl) (fun q a=>by rw[hc] at a;simp at a;subst a;exact d) (by simpa using k.1) h;rw[show eE l.toArray o v.cells.toList=l'.toArray from by rw[hc,k.2];simp[eE]];exact u
theorem FT{b o n:Nat}{l l' vs:List Value}{te:TypeId}{H':List As}[hs:HS P t n](hx:ev L x=some (.pointer (some ⟨b,o,none⟩)))(a:ev L y=some (.agg vs.toArray))(u:M2 H (.blk b (.cells l.toArray te (0,0))) [.blk b (.cells l'.toArray te (0,0))] H')(hp:dL l o vs l')(c:Nat.beq vs.length n=true)(d:(vs.all fun q=>q.oneCell')=true)(h:GL P N ops rest K E R L F H'):GL P N ops (⟨none,.store t x y,ty,pos,af,none⟩::rest) K E R L F H:=by
 have k:=hp.put;have e:=jr c;refine I5 (cs:=l.toArray) (te:=te) (n:=n) hx a ?_ (by simpa[Value.cells] using e) (fun q f=>Qv.1 d q (by simpa[Value.cells] using f)) (by simp;omega) h;rw[show eE l.toArray o (Value.agg vs.toArray).cells.toList=l'.toArray from by rw[k.2];simp[eE,Value.cells]];exact u
theorem kV{l l':List UInt8}(hx:ev L x=some (B l))(a:ev L y=some (B l')):E2 P ⟨dst,.binOp .geq t x y t',ty,pos,af,gd⟩ L (.bool (!Op.bytesLess l l')):=
 M0 hx a (fun w=>by simp only[eqGuard_at_string,binOp_string_geq,ByteArray.toList_mk];rfl)
theorem kW{l l':List UInt8}(hx:ev L x=some (B l))(a:ev L y=some (B l')):E2 P ⟨dst,.binOp .leq t x y t',ty,pos,af,gd⟩ L (.bool (Op.bytesLess l l'||l==l')):=
 M0 hx a (fun w=>by simp only[eqGuard_at_string,binOp_string_leq,ByteArray.toList_mk];rfl)
theorem cd{z:Value}[hz:HZ P t z](hc:z.cells=#[z])(a:Nat.blt d N=true)(h:∀g,GL P N ops rest K E R ((d,.pointer (some ⟨g,0,none⟩))::L) F (.blk g (.cells [z].toArray t)::H)):
  GL P N ops (⟨some d,.alloc t,ty,pos,af,none⟩::rest) K E R L F H:=uY a (by rw[hc];exact h)
theorem L2{v:Value}(hx:ev L x=some v)(hc:v.cells=#[v])(a:Nat.blt d N=true)(h:∀g,GL P N ops rest K E R ((d,.pointer (some ⟨g,0,none⟩))::L) F (.blk g (.cells [v].toArray t)::H)):
  GL P N ops (⟨some d,.box t x,ty,pos,af,none⟩::rest) K E R L F H:=Fm hx a (by rw[hc];exact h)
end
section
variable{P:Program}{L:F_}{v:Value}{dst:Option Nat}{ty:TypeId}{pos:String}{af:Array Edge}{gd:Option (Nat×Bool)}{x y c:Operand}{t t1 t2:TypeId}{i:Nat}{lo hi mx:Option Operand}{fnn:_root_.Go.Fn}{p q:Array Operand}{tys:Array TypeId}{bps:Array (Nat×Operand)}
theorem vt(h:E2 P ⟨dst,.fieldAddr t x i,ty,pos,af,gd⟩ L v):E2 P ⟨dst,.fieldAddr t x i,ty,pos,af,gd⟩ L v:=h
theorem yd(h:E2 P ⟨dst,.nilCheck x,ty,pos,af,gd⟩ L v):E2 P ⟨dst,.nilCheck x,ty,pos,af,gd⟩ L v:=h
theorem OT(h:E2 P ⟨dst,.pick c x y,ty,pos,af,gd⟩ L v):E2 P ⟨dst,.pick c x y,ty,pos,af,gd⟩ L v:=h
theorem Rz(h:E2 P ⟨dst,.call ⟨.builtin .len,#[x],#[t]⟩,ty,pos,af,gd⟩ L v):E2 P ⟨dst,.call ⟨.builtin .len,#[x],#[t]⟩,ty,pos,af,gd⟩ L v:=h
theorem RA(h:E2 P ⟨dst,.unOp .neg t x,ty,pos,af,gd⟩ L v):E2 P ⟨dst,.unOp .neg t x,ty,pos,af,gd⟩ L v:=h
theorem vu(h:E2 P ⟨dst,.indexAddr t x y,ty,pos,af,gd⟩ L v):E2 P ⟨dst,.indexAddr t x y,ty,pos,af,gd⟩ L v:=h
theorem KL(h:E2 P ⟨dst,.index t x y,ty,pos,af,gd⟩ L v):E2 P ⟨dst,.index t x y,ty,pos,af,gd⟩ L v:=h
theorem KN(h:E2 P ⟨dst,.slice t x lo hi mx,ty,pos,af,gd⟩ L v):E2 P ⟨dst,.slice t x lo hi mx,ty,pos,af,gd⟩ L v:=h
theorem ye(h:E2 P ⟨dst,.makeFunc fnn p q,ty,pos,af,gd⟩ L v):E2 P ⟨dst,.makeFunc fnn p q,ty,pos,af,gd⟩ L v:=h
theorem CS(h:E2 P ⟨dst,.convert t t1 x,ty,pos,af,gd⟩ L v):E2 P ⟨dst,.convert t t1 x,ty,pos,af,gd⟩ L v:=h
theorem KO(h:E2 P ⟨dst,.build t bps,ty,pos,af,gd⟩ L v):E2 P ⟨dst,.build t bps,ty,pos,af,gd⟩ L v:=h
theorem RB(h:E2 P ⟨dst,.binOp .add t x y t2,ty,pos,af,gd⟩ L v):E2 P ⟨dst,.binOp .add t x y t2,ty,pos,af,gd⟩ L v:=h
theorem RC(h:E2 P ⟨dst,.binOp .sub t x y t2,ty,pos,af,gd⟩ L v):E2 P ⟨dst,.binOp .sub t x y t2,ty,pos,af,gd⟩ L v:=h
theorem RD(h:E2 P ⟨dst,.binOp .mul t x y t2,ty,pos,af,gd⟩ L v):E2 P ⟨dst,.binOp .mul t x y t2,ty,pos,af,gd⟩ L v:=h
theorem RE(h:E2 P ⟨dst,.binOp .quo t x y t2,ty,pos,af,gd⟩ L v):E2 P ⟨dst,.binOp .quo t x y t2,ty,pos,af,gd⟩ L v:=h
theorem RF(h:E2 P ⟨dst,.binOp .rem t x y t2,ty,pos,af,gd⟩ L v):E2 P ⟨dst,.binOp .rem t x y t2,ty,pos,af,gd⟩ L v:=h
theorem RG(h:E2 P ⟨dst,.binOp .xor t x y t2,ty,pos,af,gd⟩ L v):E2 P ⟨dst,.binOp .xor t x y t2,ty,pos,af,gd⟩ L v:=h
theorem RH(h:E2 P ⟨dst,.binOp .shl t x y t2,ty,pos,af,gd⟩ L v):E2 P ⟨dst,.binOp .shl t x y t2,ty,pos,af,gd⟩ L v:=h
theorem RI(h:E2 P ⟨dst,.binOp .shr t x y t2,ty,pos,af,gd⟩ L v):E2 P ⟨dst,.binOp .shr t x y t2,ty,pos,af,gd⟩ L v:=h
theorem RJ(h:E2 P ⟨dst,.binOp .eql t x y t2,ty,pos,af,gd⟩ L v):E2 P ⟨dst,.binOp .eql t x y t2,ty,pos,af,gd⟩ L v:=h
theorem RK(h:E2 P ⟨dst,.binOp .neq t x y t2,ty,pos,af,gd⟩ L v):E2 P ⟨dst,.binOp .neq t x y t2,ty,pos,af,gd⟩ L v:=h
theorem RN(h:E2 P ⟨dst,.binOp .lss t x y t2,ty,pos,af,gd⟩ L v):E2 P ⟨dst,.binOp .lss t x y t2,ty,pos,af,gd⟩ L v:=h
theorem RO(h:E2 P ⟨dst,.binOp .leq t x y t2,ty,pos,af,gd⟩ L v):E2 P ⟨dst,.binOp .leq t x y t2,ty,pos,af,gd⟩ L v:=h
theorem RP(h:E2 P ⟨dst,.binOp .geq t x y t2,ty,pos,af,gd⟩ L v):E2 P ⟨dst,.binOp .geq t x y t2,ty,pos,af,gd⟩ L v:=h
end
section
variable{P:Program}{N:Nat}{K R:y6}{E:List (Nat×y6)}{L:F_}{F:l6}{H:List As}{ops:Array Oper}{rest:List Oper}{ty:TypeId}{pos:String}{af:Array Edge}{dst:Option Nat}{gd:Option (Nat×Bool)}{x y:Operand}{t t':TypeId}{d:Nat}{op:Op}{jb:Nat×Bool}
theorem OU(h:GL P N ops (⟨some d,.load t x,ty,pos,af,gd⟩::rest) K E R L F H):GL P N ops (⟨some d,.load t x,ty,pos,af,gd⟩::rest) K E R L F H:=h
theorem KP(h:GL P N ops (⟨none,.store t x y,ty,pos,af,none⟩::rest) K E R L F H):GL P N ops (⟨none,.store t x y,ty,pos,af,none⟩::rest) K E R L F H:=h
theorem KQ(h:GL P N ops (⟨some d,.alloc t,ty,pos,af,none⟩::rest) K E R L F H):GL P N ops (⟨some d,.alloc t,ty,pos,af,none⟩::rest) K E R L F H:=h
theorem RT(h:GL P N ops (⟨some d,.box t x,ty,pos,af,none⟩::rest) K E R L F H):GL P N ops (⟨some d,.box t x,ty,pos,af,none⟩::rest) K E R L F H:=h
theorem RU{n:Nat}{a:Array (Nat×Operand)}(h:GL P N ops (⟨some d,.buildSlice t n a,ty,pos,af,none⟩::rest) K E R L F H):GL P N ops (⟨some d,.buildSlice t n a,ty,pos,af,none⟩::rest) K E R L F H:=h
theorem KR(h:GL P N ops (⟨some d,op,ty,pos,af,some jb⟩::rest) K E R L F H):GL P N ops (⟨some d,op,ty,pos,af,some jb⟩::rest) K E R L F H:=h
theorem KS(h:GL P N ops (⟨some d,op,ty,pos,af,none⟩::rest) K E R L F H):GL P N ops (⟨some d,op,ty,pos,af,none⟩::rest) K E R L F H:=h
end
class RW(P:Program)(t:TypeId)(fs:outParam (Array Field))(places:outParam (List (Nat×Nat))):Prop where
 hu:P.underlying t=some (.struct fs)
 hp:fs.toList.map (fun f=>(f.offset,P.cellsOf f.type))=places
 hin:(fs.toList.all fun f=>(P.info? f.type).isSome)=true
theorem y7{P:Program}{L:F_}{dst:Option Tmp}{ty t:TypeId}{pos:String}{af:Array Edge}{gd:Option (Nat×Bool)}{fs:Array Field}{a:List (Nat×Nat)}{z:Value}{ps:List (Nat×Operand)}{vs:List (Nat×Value)}{cells:Array Value}[hb:RW P t fs a][hz:HZ P t z](hx:Ai L ps=some vs)(b:Instr.fill (a[·]?) z.cells vs=some cells):E2 P ⟨dst,.build t ps.toArray,ty,pos,af,gd⟩ L (.agg cells):=
 have:HU P t (.struct fs):=⟨hb.hu⟩
 cK hx (kQ (fs:=fs) hb.hp (fun f hf=>Qv.1 hb.hin f hf) b)
section
variable{P:Program}{L:F_}{F:l6}{H:List As}{o:Oper}{v:Value}
theorem oF(h:E2 P o L v:=by(first
 |exact aw rfl
 |exact uV rfl
 |exact vt (by first|exact uW rfl (by rfl) (by infer_instance) qp|exact qQ rfl (by assumption) (by rfl) (by infer_instance) qp)
 |exact yd (by first|exact xS rfl|exact tq rfl (by assumption))
 |exact RJ (by first|exact o_ rfl rfl|exact C5 rfl rfl|exact nP rfl rfl|exact CB rfl rfl|exact lQ rfl rfl)
 |exact OT (by first|exact Fq rfl rfl|exact Fr rfl rfl)
 |exact Rz (by first|exact Cy rfl|exact Fo rfl)
 |exact RN (by exact E6 rfl rfl)
 |exact RB (by first|exact p9 rfl rfl qb|exact K_ rfl rfl qb|exact G8 rfl rfl Ry)
 |exact vu (by first|exact m8 rfl (by assumption) rfl qb|exact bt rfl rfl qb)
 |exact RC (by first|exact E0 rfl rfl qb|exact rA rfl rfl qb)
 |exact Ru rfl
 |exact T9 rfl rfl
 |exact RP (by first|exact I3 rfl rfl|exact kV rfl rfl)
 |exact RK (by first|exact M9 rfl rfl|exact E7 rfl rfl)
 |exact RO (by first|exact G2 rfl rfl|exact kW rfl rfl)
 |exact D8 rfl rfl
 |exact CS (by first|exact bu rfl qb|exact y9 rfl qb|exact bV rfl qb)
 |exact KL (by exact A6 rfl rfl qb)
 |exact KN (by exact H4 rfl rfl rfl Ry)
 |exact ye (by exact nR rfl rfl)
 |exact KO (by exact y7 rfl (by rfl))
 |exact Fp rfl rfl
 |exact nS rfl rfl
 |exact RA (by exact Rt rfl qb)
 |exact RD (by first|exact Cq rfl rfl qb|exact rB rfl rfl qb)
 |exact RE (by exact Cv rfl rfl qb)
 |exact RF (by exact Cw rfl rfl qb)
 |exact RG (by exact kP (.inr (.inr (.inl rfl))) rfl rfl)
 |exact RH (by exact Ah rfl rfl qb)
 |exact RI (by exact NP rfl rfl qb)
 |exact NQ rfl)):E2 P o L v:=h
theorem oR(h:dt P o L F H v:=by(first
 |exact iu rfl ud rfl
 |exact gk rfl ud ga
 |exact lR rfl ud (by rfl)
 |exact E9 rfl ud (by rfl)
 |exact fu rfl ud (by rfl)
 |exact i8 rfl (fun w a=>vk a (by assumption) rfl)
 |exact w8 rfl (fun w a=>ON a (by assumption)) (by rfl))):dt P o L F H v:=h
end
section
variable{P:Program}{N:Nat}{K R:y6}{E:List (Nat×y6)}{L:F_}{F:l6}{H Hk:List As}{ops:Array Oper}{rs:Rs}{done:List Nat}{n d:Nat}{i:Nat}{s:List Nat}{p:Prop}{o oj:Oper}{v:Value}{x:As}{H':List As}{j t:Nat}{b q:Bool}
theorem OV(h:P1 (i::s) p)(b:ops[i]? =some o)(f:E2 P o L v)(hg:o.guard=none)(a:o.dst=some d)(c:Nat.blt d N=true)(hc:N7 ops rs done i=true)(k:P1 s p->GA P N ops rs Hk n (i::done) K E R ((d,v)::L) F H)(hE:E.lookup 1=none:=by rfl):GA P N ops rs Hk (n+1) done K E R L F H:=An i b f hg a c hc (k h.step) hE
theorem FU(h:P1 (i::s) p)(c:ops[i]? =some o)(f:E2 P o L v)(hg:o.guard=some (j,b))(e:ops[j]? =some oj)(g:oj.dst=some t)(hv:find L t=some (.bool b))(a:o.dst=some d)(l:Nat.blt d N=true)(hc:N7 ops rs done i=true)(k:P1 s p->GA P N ops rs Hk n (i::done) K E R ((d,v)::L) F H)(hE:E.lookup 1=none:=by rfl):GA P N ops rs Hk (n+1) done K E R L F H:=F6 i c f hg e g hv a l hc (k h.step) hE
theorem OW(h:P1 (i::s) p)(e:ops[i]? =some o)(hg:o.guard=some (j,b))(f:ops[j]? =some oj)(g:oj.dst=some t)(hv:find L t=some (.bool q))(c:q=!b)(a:o.dst=some d)(l:Nat.blt d N=true)(hc:N7 ops rs done i=true)(k:P1 s p->GA P N ops rs Hk n (i::done) K E R ((d,undef)::L) F H)(hE:E.lookup 1=none:=by rfl):GA P N ops rs Hk (n+1) done K E R L F H:=Ao i e hg f g hv c a l hc (k h.step) hE
theorem CT(h:P1 (i::s) p)(c:ops[i]? =some o)(hg:o.guard=some (j,b))(e:ops[j]? =some oj)(f:oj.dst=some t)(hv:find L t=some undef)(a:o.dst=some d)(g:Nat.blt d N=true)(hc:N7 ops rs done i=true)(k:P1 s p->GA P N ops rs Hk n (i::done) K E R ((d,undef)::L) F H)(hE:E.lookup 1=none:=by rfl):GA P N ops rs Hk (n+1) done K E R L F H:=nZ i c hg e f hv a g hc (k h.step) hE
theorem FV(h:P1 (i::s) p)(b:ops[i]? =some o)(u:M2 H x [] H')(f:dt P o L F [x] v)(hg:o.guard=none)(a:o.dst=some d)(c:Nat.blt d N=true)(hc:Z_ ops rs done i=true)(k:P1 s p->GA P N ops rs H n (i::done) K E R ((d,v)::L) F H)(hE:E.lookup 1=none:=by rfl):GA P N ops rs H (n+1) done K E R L F H:=bI i b u f hg a c hc (k h.step) hE
theorem vx(h:P1 (i::s) p)(c:ops[i]? =some o)(u:M2 H x [] H')(f:dt P o L F [x] v)(hg:o.guard=some (j,b))(e:ops[j]? =some oj)(g:oj.dst=some t)(hv:find L t=some (.bool b))(a:o.dst=some d)(l:Nat.blt d N=true)(hc:Z_ ops rs done i=true)(k:P1 s p->GA P N ops rs H n (i::done) K E R ((d,v)::L) F H)(hE:E.lookup 1=none:=by rfl):GA P N ops rs H (n+1) done K E R L F H:=CF i c u f hg e g hv a l hc (k h.step) hE
theorem vy(h:P1 (i::s) p)(b:ops[i]? =some o)(hx:x∈Hk)(f:dt P o L F [x] v)(c:∀y∈Hk,y∈H)(hg:o.guard=none)(a:o.dst=some d)(e:Nat.blt d N=true)(hc:Z_ ops rs done i=true)(k:P1 s p->GA P N ops rs Hk n (i::done) K E R ((d,v)::L) F H)(hE:E.lookup 1=none:=by rfl):GA P N ops rs Hk (n+1) done K E R L F H:=n8 i b hx f c hg a e hc (k h.step) hE
theorem rK(h:P1 (i::s) p)(c:ops[i]? =some o)(hx:x∈Hk)(f:dt P o L F [x] v)(e:∀y∈Hk,y∈H)(hg:o.guard=some (j,b))(g:ops[j]? =some oj)(l:oj.dst=some t)(hv:find L t=some (.bool b))(a:o.dst=some d)(m:Nat.blt d N=true)(hc:Z_ ops rs done i=true)(k:P1 s p->GA P N ops rs Hk n (i::done) K E R ((d,v)::L) F H)(hE:E.lookup 1=none:=by rfl):GA P N ops rs Hk (n+1) done K E R L F H:=B0 i c hx f e hg g l hv a m hc (k h.step) hE
theorem KU(h:P1 (i::s) p)(b:ops[i]? =some o)(f:dt P o L F [] v)(c:∀y∈Hk,y∈H)(hg:o.guard=none)(a:o.dst=some d)(e:Nat.blt d N=true)(hc:Z_ ops rs done i=true)(k:P1 s p->GA P N ops rs Hk n (i::done) K E R ((d,v)::L) F H)(hE:E.lookup 1=none:=by rfl):GA P N ops rs Hk (n+1) done K E R L F H:=M3 i b f c hg a e hc (k h.step) hE
theorem CU(h:P1 (i::s) p)(c:ops[i]? =some o)(f:dt P o L F [] v)(e:∀y∈Hk,y∈H)(hg:o.guard=some (j,b))(g:ops[j]? =some oj)(l:oj.dst=some t)(hv:find L t=some (.bool b))(a:o.dst=some d)(m:Nat.blt d N=true)(hc:Z_ ops rs done i=true)(k:P1 s p->GA P N ops rs Hk n (i::done) K E R ((d,v)::L) F H)(hE:E.lookup 1=none:=by rfl):GA P N ops rs Hk (n+1) done K E R L F H:=io i c f e hg g l hv a m hc (k h.step) hE
theorem RX(h:P1 (i::s) p)(b:ops[i]? =some o)(c:(Region.ready .any ops (A7 ops.size done)==[i])=true)(k:GL P N ops [o] (fun a w=>(du ops rs (A7 ops.size done) i=true->True->U7 F Hk w)/\im P ops (MQ K E R) (fun w=>U7 F Hk w) (du ops rs) n (A7 ops.size (i::done)) a w) (pE E) (fun _ _=>False) L F H):GA P N ops rs Hk (n+1) done K E R L F H:=h_ i b c k
theorem I4(h:∀y∈Hk,y∈H:=by(first|exact fun _ h=>h|(repeat (first|exact tv|refine ol (by repeat (first|exact List.Mem.head _|apply List.Mem.tail)) ?_)))):∀y∈Hk,y∈H:=h
theorem TV(h:x∈Hk:=by(repeat (first|exact List.Mem.head _|apply List.Mem.tail))):x∈Hk:=h
end
inductive x7:List As->List As->List As->Prop
 |nil {H:List As}:x7 [] H H
 |cons {x:As} {C H H1 R:List As}:M2 H x [] H1->x7 C H1 R->x7 (x::C) H R
theorem x7.hp{C H R:List As}(h:x7 C H R){F:l6}{w:World}(a:Hp F w H):Hp F w (C++R):=by
 have k:H.Perm (C++R):=by
  clear a
  induction h with
  |nil=>exact .refl _
  |cons u _ ih=>exact(u.perm rfl).trans (ih.cons _)
 exact a.perm k
theorem tk{C H R:List As}(h:x7 C H R:=by(repeat (first|exact .nil|(apply x7.cons;exact ud)))):x7 C H R:=h
section
variable{P:Program}{N:Nat}{K R:y6}{E:List (Nat×y6)}{L:F_}{F:l6}{H Hk:List As}{ops:Array Oper}{rest:List Oper}{o:Oper}{c:Code}{rs:Rs}{done:List Nat}{n j d t:Nat}{b:Bool}{op:Op}{ty:TypeId}{pos:String}{af:Array Edge}{dst:Option Nat}{x:Operand}
theorem a03(h:GL P N ops (o::rest) K E R L F H):GL P N ops (o::rest) K E R L F H:=h
theorem u_g(h:G P N c K E R L F H):G P N c K E R L F H:=h
theorem a04(h:GA P N ops rs Hk (n+1) done K E R L F H):GA P N ops rs Hk (n+1) done K E R L F H:=h
theorem NR{s:List Nat}{p:Prop}{i:Nat}{a:Option (Nat×Bool)}(h:P1 (i::s) p)(b:ops[i]? =some ⟨dst,.load t x,ty,pos,af,a⟩)(k:GA P N ops rs Hk (n+1) done K E R L F H):GA P N ops rs Hk (n+1) done K E R L F H:=k
theorem RY{s:List Nat}{p:Prop}{i:Nat}{a:Nat×Bool}(h:P1 (i::s) p)(b:ops[i]? =some ⟨dst,op,ty,pos,af,some a⟩)(k:GA P N ops rs Hk (n+1) done K E R L F H):GA P N ops rs Hk (n+1) done K E R L F H:=k
end
theorem jl{s:List Nat}{g a:Prop}(h:P1 s a)(st:P1 s a->g:=by(
 intro h;(repeat' (first
  |(refine a03 ?_;first
   |(refine OU ?_;refine r_ oR ?_;replace h:=P1.step h)
   |(refine KS ?_;refine f_ oF ?_;replace h:=P1.step h)
   |(refine KP ?_;(first|refine bZ rfl rfl uh pa rfl rfl ?_|refine FT rfl rfl uh pa rfl rfl ?_);replace h:=P1.step h)
   |(refine KR ?_;first|(refine T3 rfl rfl rfl rfl rfl rfl rfl ?_;replace h:=P1.step h)|(refine Y2 rfl rfl rfl rfl rfl rfl ?_;replace h:=P1.step h)|(have:=P1.pos h;clear this;refine A1 rfl rfl rfl ?_))
   |(refine KQ ?_;first|exact i7 rfl (P1.last h)|exact cd rfl rfl (P1.last h))
   |(refine RU ?_;exact M4 rfl (P1.last h))
   |(refine RT ?_;first|exact m9 rfl rfl (P1.last h)|exact L2 rfl rfl rfl (P1.last h)))
  |(refine a04 ?_;first
   |(refine RY h rfl ?_;first
    |(refine OW h rfl rfl rfl rfl rfl rfl rfl rfl i6 ?_;clear h;intro h)
    |(refine CT h rfl rfl rfl rfl rfl rfl rfl i6 ?_;clear h;intro h)
    |(refine NR h rfl ?_;first
     |(refine vx h rfl ud (iu rfl .del (by rfl)) rfl rfl rfl rfl rfl rfl i6 ?_;clear h;intro h)
     |(refine vx h rfl ud (gk rfl .del ga) rfl rfl rfl rfl rfl rfl i6 ?_;clear h;intro h)
     |(refine rK h rfl TV (iu rfl .del (by rfl)) I4 rfl rfl rfl rfl rfl rfl i6 ?_;clear h;intro h)
     |(refine rK h rfl TV (gk rfl .del ga) I4 rfl rfl rfl rfl rfl rfl i6 ?_;clear h;intro h)
     |(refine CU h rfl oR I4 rfl rfl rfl rfl rfl rfl i6 ?_;clear h;intro h))
    |(refine FU h rfl oF rfl rfl rfl rfl rfl rfl i6 ?_;clear h;intro h))
   |(refine NR h rfl ?_;first
    |(refine FV h rfl ud (iu rfl .del (by rfl)) rfl rfl rfl i6 ?_;clear h;intro h)
    |(refine FV h rfl ud (gk rfl .del ga) rfl rfl rfl i6 ?_;clear h;intro h)
    |(refine vy h rfl TV (iu rfl .del (by rfl)) I4 rfl rfl rfl i6 ?_;clear h;intro h)
    |(refine vy h rfl TV (gk rfl .del ga) I4 rfl rfl rfl i6 ?_;clear h;intro h)
    |(refine KU h rfl oR I4 rfl rfl rfl i6 ?_;clear h;intro h))
   |(refine OV h rfl oF rfl rfl rfl i6 ?_;clear h;intro h)
   |refine RX h rfl i6 ?_)
  |refine F7 ?_
  |refine Af ?_
  |refine mW ?_
  |(refine u_g ?_;first
   |(have:=P1.chk h;clear this;refine T1 ?_)
   |refine tj ?_
   |(have:=P1.chk0 h;clear this;refine n9 ?_)
   |(have:=P1.chk h;clear this;refine n9 ?_)
   |refine tl rfl ?_
   |refine iS rfl ?_
   |refine iT rfl ?_)
  |refine dH (.inl (by decide+kernel)) ?_
  |refine dH (.inr (aW I4)) ?_
  |refine KD (by decide+kernel) ?_))
 all_goals (first|exact h.none|exact h.nb))):g:=st h
theorem wd(s:List Nat){g a:Prop}(h:a)(st:P1 s a->g:=by exact fun h=>jl h):g:=st ⟨h⟩
theorem I8(n:Nat){g a:Prop}(h:a)(st:P1 (List.replicate n 0++[7]) a->g:=by exact fun h=>jl h):g:=st ⟨h⟩
theorem wk(n:Nat){g a:Prop}(h:a)(st:P1 (List.replicate n 0) a->g:=by exact fun h=>jl h):g:=st ⟨h⟩
theorem xI{g g1 a:Prop}(h:a)(s1:g1->g:=by exact F7)(b:a->g1:=by exact dH (.inl i6)):g:=s1 (b h)
theorem ae{g g1 a:Prop}(h:a)(s1:g1->g:=by exact F7)(b:a->g1:=by exact dH (.inr (aW I4))):g:=s1 (b h)
theorem E5(s:List Nat){g g1 a g3:Prop}(h:g3)(s1:g1->g:=by exact F7)(b:a->g1:=by exact dH (.inl i6))(st:P1 s g3->a:=by exact fun h=>jl h):g:=s1 (b (st ⟨h⟩))
theorem gn(s:List Nat){g g1 a g3:Prop}(h:g3)(s1:g1->g:=by exact F7)(b:a->g1:=by exact dH (.inr (aW I4)))(st:P1 s g3->a:=by exact fun h=>jl h):g:=s1 (b (st ⟨h⟩))
theorem O1{g g1 a g3:Prop}(h:a)(b:g3)(st:P1 (List.replicate 0 0) g1->g:=by exact fun h=>jl h)(c:a->g3->g1:=by exact o8 rfl):g:=st ⟨c h b⟩
theorem R6{g g1 a g3:Prop}(h:a)(b:g3)(st:P1 (List.replicate 1 0) g1->g:=by exact fun h=>jl h)(c:a->g3->g1:=by exact o8 rfl):g:=st ⟨c h b⟩
theorem bd{g g1 a g3:Prop}(h:a)(b:g3)(st:P1 (List.replicate 2 0) g1->g:=by exact fun h=>jl h)(c:a->g3->g1:=by exact o8 rfl):g:=st ⟨c h b⟩
theorem eJ{g g1 a g3:Prop}(h:a)(b:g3)(st:P1 (List.replicate 3 0) g1->g:=by exact fun h=>jl h)(c:a->g3->g1:=by exact o8 rfl):g:=st ⟨c h b⟩
theorem EW{g g1 a g3:Prop}(h:a)(b:g3)(st:P1 (List.replicate 4 0) g1->g:=by exact fun h=>jl h)(c:a->g3->g1:=by exact o8 rfl):g:=st ⟨c h b⟩
theorem u7{g g1:Prop}(h:g1)(st:P1 (List.replicate 0 0) g1->g:=by exact fun h=>jl h):g:=st ⟨h⟩
theorem p_{g g1:Prop}(h:g1)(st:P1 (List.replicate 1 0) g1->g:=by exact fun h=>jl h):g:=st ⟨h⟩
theorem y8{g g1:Prop}(h:g1)(st:P1 (List.replicate 2 0) g1->g:=by exact fun h=>jl h):g:=st ⟨h⟩
theorem E4{g g1:Prop}(h:g1)(st:P1 (List.replicate 3 0) g1->g:=by exact fun h=>jl h):g:=st ⟨h⟩
theorem O2{g g1:Prop}(h:g1)(st:P1 (List.replicate 4 0) g1->g:=by exact fun h=>jl h):g:=st ⟨h⟩
theorem aH{g g1:Prop}(h:g1)(st:P1 (List.replicate 5 0) g1->g:=by exact fun h=>jl h):g:=st ⟨h⟩
theorem cQ{g g1:Prop}(h:g1)(st:P1 (List.replicate 6 0) g1->g:=by exact fun h=>jl h):g:=st ⟨h⟩
theorem oz{g g1 a:Prop}(h:a)(st:P1 (List.replicate 0 0) g1->g:=by exact fun h=>jl h)(b:a->g1:=by exact A3):g:=st ⟨b h⟩
theorem C8{g g1 a:Prop}(h:a)(st:P1 (List.replicate 1 0) g1->g:=by exact fun h=>jl h)(b:a->g1:=by exact A3):g:=st ⟨b h⟩
theorem L7{g g1 a:Prop}(h:a)(st:P1 (List.replicate 2 0) g1->g:=by exact fun h=>jl h)(b:a->g1:=by exact A3):g:=st ⟨b h⟩
theorem bT{g g1 a:Prop}(h:a)(st:P1 (List.replicate 3 0) g1->g:=by exact fun h=>jl h)(b:a->g1:=by exact A3):g:=st ⟨b h⟩
theorem JV{g g1 a:Prop}(h:a)(st:P1 (List.replicate 4 0) g1->g:=by exact fun h=>jl h)(b:a->g1:=by exact A3):g:=st ⟨b h⟩
theorem JW{g g1 a:Prop}(h:a)(st:P1 (List.replicate 5 0) g1->g:=by exact fun h=>jl h)(b:a->g1:=by exact A3):g:=st ⟨b h⟩
theorem NS{g g1 a:Prop}(h:a)(st:P1 (List.replicate 6 0) g1->g:=by exact fun h=>jl h)(b:a->g1:=by exact A3):g:=st ⟨b h⟩
theorem KW{g g1 a:Prop}(h:a)(st:P1 (List.replicate 7 0) g1->g:=by exact fun h=>jl h)(b:a->g1:=by exact A3):g:=st ⟨b h⟩
theorem NT{g g1 a:Prop}(h:a)(st:P1 (List.replicate 8 0) g1->g:=by exact fun h=>jl h)(b:a->g1:=by exact A3):g:=st ⟨b h⟩
theorem C6{g g1 a:Prop}(h:a)(st:P1 (List.replicate 0 0) g1->g:=by exact fun h=>jl h)(b:a->g1:=by exact T1):g:=st ⟨b h⟩
theorem xJ{g g1 a:Prop}(h:a)(st:P1 (List.replicate 1 0) g1->g:=by exact fun h=>jl h)(b:a->g1:=by exact T1):g:=st ⟨b h⟩
theorem QZ{g g1 a:Prop}(h:a)(st:P1 (List.replicate 2 0) g1->g:=by exact fun h=>jl h)(b:a->g1:=by exact T1):g:=st ⟨b h⟩
end Go.Sl
namespace Go.Proofs.YtmcepdopookilaaGreatDoor
open Go Go.Sl Go.Proofs.Tryz
theorem X4{P:Program}{t:TypeId}{fs:Array Field}{pl:List (Nat×Nat)}(hu:P.underlying t=some (.struct fs))(hp:fs.toList.map (fun f=>(f.offset,P.cellsOf f.type))=pl)(a:(fs.toList.all fun f=>(P.info? f.type).isSome)=true):RW P t fs pl:=⟨hu,hp,a⟩
abbrev b30:=X4 (pl:=[(0,1),(1,1),(2,1)]) underlying30 i6 i6
abbrev b36:=X4 (pl:=[(0,1),(1,1),(2,1),(3,1),(4,1),(5,1),(6,1),(7,1),(8,1),(9,1),(10,1),(11,1),(12,1),(13,1),(14,1),(15,1),(16,1)]) underlying36 i6 i6
abbrev b41:=X4 (pl:=[(0,1),(1,1)]) underlying41 i6 i6
abbrev b44:=X4 (pl:=[(0,1),(1,1),(2,1),(3,1),(4,1),(5,1),(6,1),(7,1),(8,1),(9,1),(10,1),(11,1),(12,1),(13,1),(14,1),(15,1),(16,1)]) underlying44 i6 i6
abbrev b48:=X4 (pl:=[(0,27),(27,27),(54,2),(56,1),(57,1),(58,1),(59,23),(82,17)]) underlying48 i6 i6
abbrev b51:=X4 (pl:=[(0,1),(1,1),(2,1),(3,1),(4,1),(5,1),(6,1),(7,1),(8,1),(9,1)]) underlying51 i6 i6
abbrev b62:=X4 (pl:=[(0,1),(1,1),(2,1),(3,1),(4,1),(5,1)]) underlying62 i6 i6
abbrev b65:=X4 (pl:=[(0,27),(27,6),(33,17),(50,1),(51,1)]) underlying65 i6 i6
abbrev b70:=X4 (pl:=[(0,1),(1,2),(3,1),(4,17)]) underlying70 i6 i6
abbrev b72:=X4 (pl:=[(0,1),(1,1)]) underlying72 i6 i6
abbrev b86:=X4 (pl:=[(0,1),(1,1),(2,1),(3,1),(4,1)]) underlying86 i6 i6
abbrev b95:=X4 (pl:=[(0,1),(1,1)]) underlying95 i6 i6
abbrev a05:=X4 (pl:=[(0,1),(1,1),(2,1),(3,1),(4,1)]) underlying100 i6 i6
abbrev a06:=X4 (pl:=[(0,1),(1,1),(2,1),(3,1),(4,1)]) underlying102 i6 i6
abbrev a07:=X4 (pl:=[(0,1),(1,1),(2,1)]) underlying104 i6 i6
abbrev a08:=X4 (pl:=[(0,1),(1,1),(2,1),(3,1),(4,1),(5,1)]) underlying110 i6 i6
abbrev a09:=X4 (pl:=[(0,1),(1,1),(2,1),(3,1),(4,1),(5,1)]) underlying127 i6 i6
abbrev a1a:=X4 (pl:=[(0,1),(1,1),(2,1),(3,1),(4,1)]) underlying129 i6 i6
abbrev a1b:=X4 (pl:=[(0,6),(6,17),(23,5)]) underlying136 i6 i6
abbrev a1c:=X4 (pl:=[(0,27),(27,23)]) underlying141 i6 i6
abbrev a1d:=X4 (pl:=[(0,1),(1,17),(18,6),(24,5),(29,5),(34,1),(35,1),(36,10)]) underlying149 i6 i6
abbrev a1e:=X4 (pl:=[(0,1),(1,1),(2,1),(3,1),(4,1)]) underlying156 i6 i6
abbrev a1f:=X4 (pl:=[(0,1),(1,1)]) underlying178 i6 i6
abbrev a1g:=X4 (pl:=[(0,1),(1,1),(2,17)]) underlying211 i6 i6
abbrev a1h:=X4 (pl:=[(0,1),(1,1),(2,1)]) underlying214 i6 i6
abbrev a1i:=X4 (pl:=[]) underlying219 i6 i6
abbrev a1j:=X4 (pl:=[(0,1),(1,1),(2,1)]) underlying225 i6 i6
abbrev a1k:=X4 (pl:=[(0,1),(1,1)]) underlying327 i6 i6
abbrev a1l:=X4 (pl:=[(0,1),(1,1),(2,1)]) underlying333 i6 i6
abbrev a1m:=X4 (pl:=[(0,1),(1,1)]) underlying340 i6 i6
abbrev a1n:=X4 (pl:=[(0,1),(1,5)]) underlying371 i6 i6
attribute [instance] b30 b36 b41 b44 b48 b51 b62 b65 b70 b72 b86 b95 a05 a06 a07 a08 a09 a1a a1b a1c a1d a1e a1f a1g a1h a1i a1j a1k a1l a1m a1n
end Go.Proofs.YtmcepdopookilaaGreatDoor
namespace Go.Sl
open Go Go.RowKit Go.Proofs.Tryz
class Mn(p:l9->Prop):Prop where
 le:∀{h h':l9},l9.le h h'->p h->p h'
instance {a:Option Addr} {xs:List Value}:Mn (fun h=>o0 h a xs):=⟨fun l r=>r.le l⟩
instance {p q:l9->Prop} [a:Mn p] [b:Mn q]:Mn (fun h=>p h/\q h):=⟨fun l r=>⟨a.le l r.1,b.le l r.2⟩⟩
instance {p:Prop}:Mn (fun _=>p):=⟨fun _ r=>r⟩
theorem x7.left{A H R:List As}(h:x7 A H R){F:l6}{w:World}(a:Hp F w H):Hp F w A:=(h.hp a).left
def Cm(P:Program)(f:FuncId)(args:List Value)(Pre:l9->Prop)(C:List As)(Q:l9->Value->List As->Prop):Prop:=
 ∀(F:l6) (R:List As) (w:World),Hp F w (C++R)->Pre F.heap->Calls P f args.toArray w fun e w'=>∃v A F',e=.returned v/\F.le F'/\Q F'.heap v A/\Hp F' w' (A++R)
def CV(P:Program)(fn:Func)(F0:l6)(R:List As)(Q:l9->Value->List As->Prop):y6:=fun a w=>∃v A F',(results fn a.tmps).run P w=.ok v w/\F0.le F'/\Q F'.heap v A/\Hp F' w (A++R)/\a.defers=[]
theorem x8{P:Program}{f:FuncId}{fn:Func}{c:Code}{args:List Value}{d:l9->Prop}{C:List As}{Q:l9->Value->List As->Prop}(N:Nat)(hf:P.funcs[f]? =some fn)(r:fn.body=some c)(s:fn.ntmps=N)(i:Nat.ble args.length N=true)(h:∀(F:l6) (R:List As),d F.heap->G P N c (CV P fn F R Q) [] (CV P fn F R Q) (av 0 args) F (C++R)):Cm P f args d C Q:=by
 intro F R w t g;refine calls_of_wp hf r ?_;rw[s];have b:=h F R g;unfold G at b;refine Code.wp_mono (fun e a u q=>?_) (b _ w (T2 N args i) t)
 cases e with
 |normal=>obtain⟨v,A,j,b,m,n,o,p⟩:=q;exact⟨p,v,b,v,A,j,rfl,m,n,o⟩
 |ret=>obtain⟨v,A,j,b,m,n,o,p⟩:=q;exact⟨p,v,b,v,A,j,rfl,m,n,o⟩
 |exit id=>simp[MQ] at q
 |goto l=>exact q.elim
 |panic ch=>rcases q with⟨k,v,h,_⟩|⟨k,v,h,_⟩<;>cases h
 |outgrown=>exact q.elim
theorem Cm.of_ct{P:Program}{f:FuncId}{args:List Value}{g:l9->Prop}{C:List As}{a:Value->List As->Prop}(h:Ct P f args g C a){Pre':l9->Prop}(l:∀x y,l9.le x y->Pre' x->g y):Cm P f args Pre' C (fun _ v A=>a v A):=by
 intro F R w m i;obtain⟨D,hs,r,j⟩:=m.own;obtain⟨n,J,e,k,p⟩:=A2.split hs;subst e;refine(h w n k (j6.1 r).1 (l _ _ (fun b o q=>?_) i)).mono ?_
 ·have s:=m.keep b o q;have t:b∉n:=fun u=>by rw[j b (by simp[u])] at q;cases q
  have z:E3 w n b=w.heap[b]?:=by simp[E3,t]
  rw[z];exact s
 ·rintro e M ⟨v,A,rfl,c,d⟩;exact⟨v,A,F,rfl,l6.le_refl _,c,m.back k p r j d⟩
theorem G_{P:Program}{N:Nat}{L:F_}{F b:l6}{H R A:List As}{fn:Func}{Q:l9->Value->List As->Prop}{v:Value}(hl:b.le F)(hq:Q F.heap v A)(h:At N (dr P fn F (fun v' c=>v'=v/\c=A++R)) L F H):At N (CV P fn b R Q) L F H:=by
 unfold At at h⊢;intro a w hf d;obtain⟨v',c,e,⟨rfl,rfl⟩,f,g⟩:=h a w hf d;exact⟨_,A,F,e,hl,hq,f,g⟩
section
variable{P:Program}{N:Nat}{K R:y6}{E:List (Nat×y6)}{L:F_}{F:l6}{H:List As}{ops:Array Oper}{rest:List Oper}{ty:TypeId}{pos:String}{af:Array Edge}{dst:Option Nat}{gd:Option (Nat×Bool)}{x:Operand}
theorem rL{o:Oper}{d:Nat}{f:FuncId}{vs:List Value}{b:l9->Prop}{C Rr:List As}{Q:l9->Value->List As->Prop}(hg:o.guard=none)(c:o.dst=some d)(l:Nat.blt d N=true)(g:∀ρ w,Fl L ρ->(execOp ρ o).run P w=.ok (.enter f vs.toArray) w)(hc:Cm P f vs b C Q)(hH:x7 C H Rr)(h:b F.heap)(k:∀v A i,F.le i->Q i.heap v A->GL P N ops rest K E R ((d,v)::L) i (A++Rr)):GL P N ops (o::rest) K E R L F H:=by
 unfold GL at k⊢;intro a w hf m;refine wpList_plain hg fun r n=>?_;unfold Oper.wp;rw[g _ w hf.agr,Oper.upon_enter];refine(hc F Rr w (hH.hp m) h).mono ?_;rintro e s ⟨v,A,i,rfl,p,q,j⟩;rw[c];exact n _ _ (k v A i p q _ _ (hf.put l v) j)
theorem A8{d:Nat}{f:FuncId}{args:List Operand}{c:Array TypeId}{vs:List Value}{a:l9->Prop}{C Rr:List As}{Q:l9->Value->List As->Prop}[HF P f](hc:Cm P f vs a C Q)(b:a F.heap)(k:∀v A e,F.le e->Q e.heap v A->GL P N ops rest K E R ((d,v)::L) e (A++Rr))(hx:rC L args=some vs:=by rfl)(hH:x7 C H Rr:=by exact tk)(g:Nat.blt d N=true:=by rfl):
  GL P N ops (⟨some d,.call ⟨.value (.func f),args.toArray,c⟩,ty,pos,af,none⟩::rest) K E R L F H:=
 rL rfl rfl g (fun ρ w hf=>aU hx hf w) hc hH b k
theorem rM{d:Nat}{f:FuncId}{args:List Operand}{g:Array TypeId}{vs ps qs a:List Value}{b:l9->Prop}{C Rr:List As}{Q:l9->Value->List As->Prop}[hF:HF P f](hc:Cm P f a b C Q)(c:b F.heap)(k:∀v A h,F.le h->Q h.heap v A->GL P N ops rest K E R ((d,v)::L) h (A++Rr))(hv:ev L x=some (.func (.func f) ps.toArray qs.toArray):=by rfl)(hx:rC L args=some vs:=by rfl)(e:ps++vs++qs=a:=by rfl)(hH:x7 C H Rr:=by exact tk)(i:Nat.blt d N=true:=by rfl):
  GL P N ops (⟨some d,.call ⟨.value x,args.toArray,g⟩,ty,pos,af,none⟩::rest) K E R L F H:=
 rL rfl rfl i (fun ρ w hf=>by
  have j:=hf _ _ hv;have l:=aT hf hx;subst e;simp only[execOp,resolve,j,Deferred.ofValue,Zx,l,Sem.run_bind,Sem.run_pure,Result.andThen_ok,invoke];have:(ps.toArray++vs.toArray++qs.toArray:Array Value)=(ps++vs++qs).toArray:=by simp
  rw[this];exact hF.h _ w) hc hH c k
theorem c_{d:Nat}{f:FuncId}{args:List Operand}{e:Array TypeId}{vs:List Value}{b:l9->Prop}{C Rr:List As}{a:Value->List As->Prop}[HF P f](hc:Ct P f vs b C a)(c:∀h,l9.le F.heap h->(∃bs,A2 h Rr bs)->b h)(k:∀v A,a v A->GL P N ops rest K E R ((d,v)::L) F (A++Rr))(hx:rC L args=some vs:=by rfl)(hH:x7 C H Rr:=by exact tk)(g:Nat.blt d N=true:=by rfl):
  GL P N ops (⟨some d,.call ⟨.value (.func f),args.toArray,e⟩,ty,pos,af,none⟩::rest) K E R L F H:=
 x4 Rr hx hc (fun w i=>hH.hp i) c g k
theorem Ax{Z Rr:List As}(hH:x7 Z H Rr)(k:∀a,F.le a->(∃bs,A2 a.heap Z bs)->GL P N ops rest K E R L a Rr):GL P N ops rest K E R L F H:=
 I6 (H':=Rr++Z) (fun w b=>(hH.hp b).perm kj) (rF k)
theorem B8{c:Code}{Z Rr:List As}(hH:x7 Z H Rr)(k:∀a,F.le a->(∃bs,A2 a.heap Z bs)->G P N c K E R L a Rr):G P N c K E R L F H:=
 D5 (H':=Rr++Z) (fun w b=>(hH.hp b).perm kj) (bY k)
end
inductive NU:List As->List As->Prop
 |nil {R:List As}:NU R R
 |cons {x:As} {R H:List As}:NU R H->NU R (x::H)
theorem NU.hp{R H:List As}(h:NU R H){F:l6}{w:World}(a:Hp F w H):Hp F w R:=by
 induction h with
 |nil=>exact a
 |cons _ ih=>exact ih a.drop
theorem sfx{R H:List As}(h:NU R H:=by(repeat (first|exact .nil|refine .cons ?_))):NU R H:=h
theorem fle{F a:l6}(h:F.le a:=by(first|exact l6.le_refl _|assumption|exact l6.le.trans (by assumption) (by assumption))):F.le a:=h
section
variable{P:Program}{N:Nat}{K R:y6}{E:List (Nat×y6)}{L:F_}{F F0:l6}{H R0:List As}{ops:Array Oper}{rest:List Oper}{ty:TypeId}{pos:String}{af:Array Edge}{dst:Option Nat}{gd:Option (Nat×Bool)}{x:Operand}{Pq Pq':Value->Prop}
end
section
variable{P:Program}{N:Nat}{K R:y6}{E:List (Nat×y6)}{L:F_}{F:l6}{H R0:List As}{ops:Array Oper}{rest:List Oper}{ty:TypeId}{pos:String}{af:Array Edge}{dst:Option Nat}{gd:Option (Nat×Bool)}{x:Operand}{Pq Pq':Value->Prop}
end
section
variable{P:Program}{N:Nat}{K R:y6}{E:List (Nat×y6)}{L:F_}{F:l6}{H:List As}{ops:Array Oper}{rest:List Oper}{ty:TypeId}{pos:String}{af:Array Edge}{t:TypeId}
theorem u6{α:Type}(C:α->List Value){l m:List α}{d:Nat}{s x:Operand}{a b:Option Addr}{c r sz:Nat}{e:TypeId}{H':Option Addr->Nat->List As}{z:Value}{i:TypeInfo}[hu:HU P t (.slice e)][hz:HZ P e z][hi:HI P e i][hs:HS P e sz](v:∀x,(C x).length=sz)(y:∀x,∀q∈C x,q.oneCell'=true)(g:(l.length+m.length)*i.bytes<=140737488355328)(h:∀j f,(l++m).length<=f->GL P N ops rest K E R ((d,.slice j (l++m).length f)::L) F (H' j f))(k:ev L s=some (.slice a l.length c):=by rfl)(n:ev L x=some (.slice b m.length r):=by rfl)(u:∀j f,M2 H (.own (.slice a l.length c) e sz (l.flatMap C)) [.own (.slice j (l++m).length f) e sz ((l++m).flatMap C)] (H' j f):=by exact fun _ _=>uh)(hsrc:∀w,Hp F w H->KB (hp w) b (m.flatMap C):=by exact fun w A=>(A.ownN ud).2.2.1)(h63:l.length+m.length<=9223372036854775807:=by(first|omega|(simp only[zy,z6];omega)))(o:Nat.blt 0 sz=true:=by rfl)(p:z.cells.size=sz:=by rfl)(D:Nat.blt d N=true:=by rfl):
  GL P N ops (⟨some d,.call ⟨.builtin .append,#[s,x],#[t,t]⟩,ty,pos,af,none⟩::rest) K E R L F H:=
 B_ k n (H':=H') (fun j f=>by have:=u j f;rw[zz,Z8] at this;exact this) hsrc (M6 v m) o p (cO y m) g h63 D fun j f hc=>by
  have:=h j f (by rw[zz];exact hc);rw[zz] at this;exact this
theorem C4{α:Type}(C:α->List Value)(y:α){d:Nat}{x:Operand}{e:TypeId}{z v:Value}{sz:Nat}[hu:HU P t (.slice e)][hz:HZ P e z][hs:HS P e sz](hv:v.cells.toList=C y)(h:∀a,(∃f,a=some f)->GL P N ops rest K E R ((d,.slice a 1 1)::L) F (.own (.slice a [y].length 1) e sz ([y].flatMap C)::H))(hx:ev L x=some v:=by rfl)(c:Nat.ble (1*sz) 16777216=true:=by rfl)(hp:Nat.blt 0 (1*sz)=true:=by rfl)(b:Nat.beq v.cells.size sz=true:=by rfl)(g:Nat.blt d N=true:=by rfl):
  GL P N ops (⟨some d,.buildSlice t 1 #[(0,x)],ty,pos,af,none⟩::rest) K E R L F H:=
 x5 (ps:=[(0,x)]) (vs:=[(0,v)]) (xs:=[y].flatMap C) (by simp[Ai,hx]) c hp rfl (by simp[b]) rfl (by simp[hv]) g h
variable{α:Type}{C:α->List Value}{sz:Nat}
theorem dO{h:l9}{a:Option Addr}{l:List α}{q i j:Nat}{v:Value}(r:o0 h a (l.flatMap C))(c:∀x,(C x).length=sz)(b:i<l.length)(hv:(C l[i])[j]? =some v)(hq:q=i*sz+j):L_ h (N1 a q) [v]:=by
 refine KF r c l[i] (i:=i) (j:=j) (by rw[hq,W7]) b ?_
 rwa [show l.getD i l[i]=l[i] from by simp[List.getD,b]]
theorem fq{h:l9}{a:Option Addr}{l:List α}{q i:Nat}(r:o0 h a (l.flatMap C))(d:∀x,(C x).length=sz)(b:0<sz)(c:i<l.length)(hq:q=i*sz):L_ h (N1 a q) (C l[i]):=by
 have:=tx r d b l[i] (q:=q) (i:=i) (by rw[hq,W7]) c
 rwa [show l.getD i l[i]=l[i] from by simp[List.getD,c]] at this
theorem ay(a:∀x,(C x).length=sz):∀(l:List α) (i:Nat),(l.flatMap C).take (i*sz)=(l.take i).flatMap C
 |l,0=>by simp
 |[],i+1=>by simp
 |x::l,i+1=>by
  rw[Q2,List.take_succ_cons,Q2,show(i+1)*sz=(C x).length+i*sz from by rw[a,Q0];omega,Wv,ay a l i]
theorem kX(a:∀x,(C x).length=sz):∀(l:List α) (i:Nat),(l.flatMap C).drop (i*sz)=(l.drop i).flatMap C
 |l,0=>by simp
 |[],i+1=>by simp
 |x::l,i+1=>by
  rw[Q2,Wx,show(i+1)*sz=(C x).length+i*sz from by rw[a,Q0];omega,K3,kX a l i]
theorem KX(b:∀x,(C x).length=sz){l:List α}{i j:Nat}{y:α}{vs:List Value}(a:i<l.length)(c:j+vs.length<=sz)(d:C y=L5 (C l[i]) j vs):L5 (l.flatMap C) (i*sz+j) vs=(l.set i y).flatMap C:=by
 have e:l=l.take i++l[i]::l.drop (i+1):=by rw[<-Qg a,jn]
 have f:l.set i y=l.take i++y::l.drop (i+1):=by rw[Zc,zu a]
 have g:((l.take i).flatMap C).length=i*sz:=by rw[M6 b,z7,Jb (Js a)]
 have h:l.flatMap C=(l.take i).flatMap C++C l[i]++(l.drop (i+1)).flatMap C:=by
  conv=>lhs;rw[e]
  rw[Z8,Q2,zn]
 rw[f,Z8,Q2,d,<-zn,h,<-g];exact fv _ _ _ _ _ (by rw[b];exact c)
theorem A9{l:List α}{i j:Nat}(d:α){a:Option Addr}{len c q n:Nat}{te:TypeId}{v:Value}{x y:Operand}{H':List As}[hs:HS P t n](e:∀x,(C x).length=sz)(f:i<l.length)(g:C d=L5 (C l[i]) j v.cells.toList)(h:GL P N ops rest K E R L F H')(hx:ev L x=some (.pointer (N1 a q)):=by rfl)(hv:ev L y=some v:=by rfl)(u:M2 H (.own (.slice a len c) te sz (l.flatMap C)) [.own (.slice a len c) te sz ((l.set i d).flatMap C)] H':=by exact uh)(k:Nat.beq v.cells.size n=true:=by rfl)(b:Nat.blt 0 n=true:=by rfl)(m:(v.cells.toList.all fun q=>q.oneCell')=true:=by rfl)(o:Nat.ble (j+n) sz=true:=by rfl)(hq:q=i*sz+j:=by simp):GL P N ops (⟨none,.store t x y,ty,pos,af,none⟩::rest) K E R L F H:=by
 have p:=jr k;have r:j+n<=sz:=by simpa[Jd] using o
 refine T_ (te:=te) (len:=len) (c:=c) (sz:=sz) (xs:=l.flatMap C) hx hv (H':=H') ?_ p (by simpa[Kd] using b) (fun q hq=>Qv.1 m q hq) ?_ h
 ·rw[hq,KX e f (by simp;omega) g];exact u
 ·rw[M6 e,hq];have:(i+1)*sz<=l.length*sz:=Qy _ f;rw[Q0] at this;omega
end
end Go.Sl
namespace Go.Proofs.YtmcepdopookilaaGreatDoor.Rp
open Go Go.Sl Go.RowKit Go.Proofs.Tryz
abbrev m6(b:Nat):Value:=.pointer (some ⟨b,0,none⟩)
def fV(l:List Bs):List Value:=l.map fun f=>B f
theorem L8(l:List Bs):(fV l).length=l.length:=by simp[fV]
theorem kY(l:List Bs):∀q∈fV l,q.oneCell'=true:=fun q a=>by
 obtain⟨x,_,rfl⟩:=jv.mp a;rfl
theorem gq(a b:List Bs):fV (a++b)=fV a++fV b:=by simp[fV]
abbrev A4(a:Option Addr)(l:List Bs)(c:Nat):As:=.own (.slice a l.length c) 9 1 (fV l)
theorem ce{h:l9}{a:Option Addr}{l:List Bs}{i:Nat}(r:o0 h a (fV l))(c:i<l.length):∃b,a=some b:=by
 obtain⟨b,e,_⟩:=r (by intro e;have:=jw List.length e;rw[L8] at this;simp at this;subst this;simp at c);exact⟨b,e⟩
theorem OX{F:l6}{w:World}{H:List As}{a:Option Addr}{l:List Bs}(b:Hp F w H)(r:o0 F.heap a (fV l)){q i:Nat}(h:q=i)(c:i<l.length):L_ (hp w) (N1 a q) [B (l.getD i [])]:=
 mX b r y4 (fun j u hu=>by
  match j,hu with
  |0,hu=>
   simp at hu;subst hu h;simp[fV,c])
theorem NV{l:List Bs}{k:Nat}(a:k<l.length):l.take (k+1)=l.take k++[l.getD k []]:=by
 rw[kw a,zd,zj a];rfl
theorem dP{l:List Bs}{k:Nat}(a:k<l.length):l.getD k []∈l:=by
 rw[zd,zj a];exact zx a
structure VM where
 v:RV
 a:Option Addr
 c:Nat
abbrev OY:VM:=⟨V0,none,0⟩
abbrev vz(x:VM):List Value:=[.int .i64 x.v.kind,.int .u64 (x.v.n:Nat),.slice x.a x.v.a5R.length x.c,B x.v.text,.bool x.v.part,.int .u64 (x.v.fr:Nat)]
abbrev vmA(x:VM):Value:=.agg #[.int .i64 x.v.kind,.int .u64 (x.v.n:Nat),.slice x.a x.v.a5R.length x.c,B x.v.text,.bool x.v.part,.int .u64 (x.v.fr:Nat)]
abbrev OZ(l:List VM):List Value:=l.flatMap vz
theorem nf:∀x,(vz x).length=6:=fun _=>rfl
theorem ng:∀x,∀q∈vz x,q.oneCell'=true:=fun x q a=>by simp at a;rcases a with rfl|rfl|rfl|rfl|rfl|rfl<;>rfl
def nV(l:List Nat):List Value:=l.map fun n=>.int .u64 (n:Nat)
theorem tC(l:List Nat):(nV l).length=l.length:=by simp[nV]
theorem iv(l:List Nat):∀q∈nV l,q.oneCell'=true:=fun q a=>by
 obtain⟨x,_,rfl⟩:=jv.mp a;rfl
theorem az(a b:List Nat):nV (a++b)=nV a++nV b:=by simp[nV]
structure RL where
 na:Option Addr
 nc:Nat
 fa:Option Addr
 fc:Nat
 va:Option Addr
 vc:Nat
 vs:List VM
abbrev L0:RL:=⟨none,0,none,0,none,0,[]⟩
abbrev tD(r:RR)(x:RL):List Value:=[.int .i64 r.kind,B r.tag,B r.code,B r.text,.int .u64 (r.n:Nat),.slice x.na r.nums.length x.nc,.int .u64 (r.mod:Nat),.slice x.fa r.a5R.length x.fc,B r.box,.slice x.va x.vs.length x.vc]
abbrev KZ(r:RR)(x:RL):Value:=.agg #[.int .i64 r.kind,B r.tag,B r.code,B r.text,.int .u64 (r.n:Nat),.slice x.na r.nums.length x.nc,.int .u64 (r.mod:Nat),.slice x.fa r.a5R.length x.fc,B r.box,.slice x.va x.vs.length x.vc]
structure fE(r:RR)(x:RL)(h:l9):Prop where
 vals:r.values=x.vs.map VM.v
 nums:o0 h x.na (nV r.nums)
 a5R:o0 h x.fa (fV r.a5R)
 vs:o0 h x.va (OZ x.vs)
 fs:∀m∈x.vs,o0 h m.a (fV m.v.a5R)
theorem fE.le{r:RR}{x:RL}{h a:l9}(k:fE r x h)(hl:l9.le h a):fE r x a:=⟨k.vals,k.nums.le hl,k.a5R.le hl,k.vs.le hl,fun m b=>(k.fs m b).le hl⟩
theorem dQ{h:l9}{bs:List Nat}{a:Option Addr}{n c sz:Nat}{t:TypeId}{xs:List Value}{H:List As}(hs:A2 h H bs)(b:As.own (.slice a n c) t sz xs∈H):o0 h a xs:=by
 obtain⟨A,C,rfl⟩:=Wp b;obtain⟨e,f,rfl,_,d⟩:=A2.split hs;exact A2.rd d .del
structure Gl(h:l9):Prop where
 m:∃m t fr,h 0=some (.cells #[.int .i64 m] t fr)
 tab:∃t fr,h 1=some (.cells (Lib.pow10Tab.map fun z=>Value.int .u64 z).toArray t fr)
 syn:∃e t fr,h 4=some (.cells #[e] t fr)/\(e=.nilIface\/∃te pe,e=.iface te pe)
 rng:∃e t fr,h 5=some (.cells #[e] t fr)/\(e=.nilIface\/∃te pe,e=.iface te pe)
theorem Gl.le{h n:l9}(g:Gl h)(hl:l9.le h n):Gl n:=by
 obtain⟨⟨a,b,c,o⟩,⟨d,e,p⟩,⟨f,i,j,q,k3⟩,⟨k,l,m,r,k4⟩⟩:=g;exact⟨⟨a,b,c,hl _ _ o⟩,⟨d,e,hl _ _ p⟩,⟨f,i,j,hl _ _ q,k3⟩,⟨k,l,m,hl _ _ r,k4⟩⟩
theorem Gl.tabIs{w:World}(g:Gl (hp w)):Lib.TabIs prog w "internal/strconv.uint64pow10" .u64 Lib.pow10Tab:=by
 obtain⟨t,a,h⟩:=g.tab;have b:prog.globalNamed "internal/strconv.uint64pow10"=some 1:=by kernel_rfl
 have c:w.heap[1]? =some (.cells (Lib.pow10Tab.map fun z=>Value.int .u64 z).toArray t a):=h;unfold Lib.TabIs World.var?;rw[b];simp only[zb,c]
theorem dR{P:Program}{f:FuncId}{args:List Value}{d:l9->Prop}{v:Value}(h:∀w,d (hp w)->Calls P f args.toArray w fun e w'=>e=.returned v/\Below w.heap.size w w'):Pu P f args d v:=by
 intro w k g l c;have m:k=[]:=g;subst m;rw[N4] at c;refine(h w c).mono ?_;rintro e w' ⟨rfl,a⟩;refine⟨v,[],rfl,qh,a.os,a.tape,a.output,fun b o i=>?_,[],rfl,Zj,by simp⟩;have j:w.heap[b]? =some o:=bU w [] b o i;have n:b<w.heap.size:=(jq.1 j).1;show w'.heap[b]? =_;rw[a.block b n];exact j
theorem U1{P:Program}{f:FuncId}{args:List Value}{a:l9->Prop}{v:Value}(h:∀w,a (hp w)->Calls P f args.toArray w fun e w'=>e=.returned v/\w'=w):Pu P f args a v:=
 dR fun w c=>(h w c).mono fun e w' ⟨d,b⟩=>⟨d,b▸Below.refl _ _⟩
theorem ah(s p:Bs):Pu prog 90 [B s,B p] (fun _=>True) (.bool (p.isPrefixOf s)):=U1 fun w _=>Tryz.strings_HasPrefix ⟨s.toArray⟩ ⟨p.toArray⟩ w
theorem eK(s:Bs)(c:UInt8):Lib.indexByte s c=if s.contains c=true then((s.takeWhile fun x=>x !=c).length:Int) else-1:=by
 induction s with
 |nil=>rfl
 |cons a t ih=>
  rw[Lib.indexByte];by_cases h:a=c
  ·subst h;simp
  ·have d:(a==c)=false:=(by simpa using h);have b:(c==a)=false:=(by simpa using fun e:c=a=>h e.symm);rw[d,ih];simp only[Wd,b,K1,Zq,bne,d,Bool.not_false,if_true];by_cases hc:t.contains c=true
   ·simp only[hc,if_true];have:((t.takeWhile fun x=>!(x==c)).length:Int)≠ -1:=(by omega);simp[this]
   ·simp only[hc];rfl
theorem ai(s:Bs)(c:UInt8):Pu prog 48 [B s,.int .u8 (c.toNat:Nat)] (fun _=>True) (.int .i64 (Lib.indexByte s c)):=U1 fun w _=>by
 have:=Tryz.strings_IndexByte ⟨s.toArray⟩ (c.toNat:Nat) w;have e:((c.toNat:Nat):Int).toNat.toUInt8=c:=by simp
 rwa [e] at this
theorem jo(n:Nat):Lib.decDigits n=R4 n:=by
 induction n using Nat.strongRecOn with
 |ind n ih=>
  rw[Lib.decDigits];split
  ·next h=>rw[bK h];rfl
  ·next h=>rw[gh h,ih (n/10) qb];rfl
theorem FW(n:Nat)(h:n<100):Pu prog 241 [.int .i64 (n:Nat)] (fun _=>True) (B (R4 n)):=U1 fun w _=>by
 have:=Tryz.internal_strconv_small n h w
 rwa [jo] at this
theorem tE(n:Nat)(a:1<=n)(b:n<18446744073709551616):Pu prog 242 [.int .u64 (n:Nat)] Gl (.int .i64 (Lib.nDigits n)):=U1 fun w hg=>Tryz.internal_strconv_numDigits n a b w hg.tabIs
theorem fF(a:Bs):∀l:List Bs,Lib.join l a=eZ a l
 |[]=>rfl
 |[x]=>by simp[Lib.join,eZ,List.intercalate]
 |x::y::t=>by
  rw[CR _ _ y4,<-fF a (y::t)];simp[Lib.join,List.intercalate]
theorem pre{F:l6}{Rr:List As}{c:l9->Prop}(h:∀h,l9.le F.heap h->(∃bs,A2 h Rr bs)->c h:=by(
 intro h b a
 first
 |trivial
 |exact o0.le (by assumption) b
 |exact Gl.le (by assumption) b
 |(obtain⟨bs,a⟩:=a;exact A2.rd a ud)
 |(refine⟨?_,?_⟩<;>(first|exact o0.le (by assumption) b|exact Gl.le (by assumption) b|(obtain⟨bs,a⟩:=a;exact A2.rd a ud)))
 |(refine⟨?_,?_,?_⟩<;>(first|exact o0.le (by assumption) b|exact Gl.le (by assumption) b|(obtain⟨bs,a⟩:=a;exact A2.rd a ud))))):∀h,l9.le F.heap h->(∃bs,A2 h Rr bs)->c h:=h
abbrev FY:List (String×DataW Unit):=[("math/bits.deBruijn32tab",Rows.laid_math_bits_deBruijn32tab),("math/bits.deBruijn64tab",Rows.laid_math_bits_deBruijn64tab),("internal/strconv.uint64pow10",Rows.laid_internal_strconv_uint64pow10),("unicode/utf8.acceptRanges",Rows.laid_unicode_utf8_acceptRanges),("strconv.ErrRange",Rows.laid_strconv_ErrRange),("strconv.ErrSyntax",Rows.laid_strconv_ErrSyntax),("unicode.CaseRanges",Rows.laid_unicode_CaseRanges),("unicode/utf8.first",Rows.laid_unicode_utf8_first)]
theorem RZ:prog.globalNamed "internal/strconv.uint64pow10"=some 1:=by kernel_rfl
theorem Sa:(prog.globals[1]?).map (·.type)=some 348:=by kernel_rfl
theorem Sb:prog.globalNamed "strconv.ErrSyntax"=some 4:=by kernel_rfl
theorem Sc:(prog.globals[4]?).map (·.type)=some 167:=by kernel_rfl
theorem Sd:prog.globalNamed "strconv.ErrRange"=some 5:=by kernel_rfl
theorem Se:(prog.globals[5]?).map (·.type)=some 167:=by kernel_rfl
theorem NX: "*"++ "errors.errorString"= "*errors.errorString":=by decide
theorem FZ(u:TypeId)(h:prog.typeName? 3 u=some "*errors.errorString"):u=429:=
 typeName_ptr_named (nm:= "errors.errorString") (by rw[NX];kernel_rfl) i6 qp u (by rw[NX];exact h)
theorem kZ{P:Program}{W:World}{n:String}{g:Nat}{cs:Array Value}(hg:P.globalNamed n=some g)(h:W.var? P n=some cs):∃t fr,hp W g=some (.cells cs t fr):=by
 unfold World.var? at h;rw[hg] at h;simp only[zb] at h;split at h
 ·next c t fr a=>
  cases h
  exact⟨t,fr,a⟩
 ·cases h
theorem Sf:prog.globalNamed "internal/bytealg.MaxLen"=some 0:=by kernel_rfl
theorem Pa{cs:Array Value}{v:Value}(hs:cs.size=1)(h:cs[0]? =some v):cs=#[v]:=by
 obtain⟨l⟩:=cs
 match l,hs with
 |[u],_=>
  simp at h;subst h;rfl
theorem Ga{W:World}(h:W.ShapedOpen prog):∃m t fr,hp W 0=some (.cells #[.int .i64 m] t fr):=by
 obtain⟨m,i⟩:=cell_of_shapedOpen_int (zero:=#[.int .i64 0]) (t:=3) (g:=0) h (qr i6) i6 rfl i6 i6 underlying3;obtain⟨e,a,b,_⟩:=h.1 0 #[.int .i64 0] 3 (qr i6) i6;have j:W.var? prog "internal/bytealg.MaxLen"=some e:=by
  unfold World.var?;rw[Sf];simp only[zb];rw[a]
 have f:=World.var?_cell Sf j 0;rw[i] at f;have c:e.size=1:=b;have d:=Pa c f.symm;subst d;exact⟨_,_,_,a⟩
theorem Pb:(Rows.laid_internal_strconv_uint64pow10:DataW Unit)=Lib.tabData .u64 Lib.pow10Tab:=rfl
theorem gl_of_laid{W:World}(b:laidMetH prog FY W)(d:W.ShapedOpen prog):Gl (hp W):=by
 rw[MakeChecks.laidMetH_plain _ _ _ i6] at b;have a:=b.tail.tail;have c:=a.tail.tail;rw[Pb] at a;have e:=Lib.tabIs_of_head RZ Sa underlying348 underlying27 i6 i6 a;obtain⟨a3,s3,f,_⟩:=laid_sentinel c Sd Se underlying167 FZ underlying429 underlying431 rfl rfl underlying9 i6 i6;obtain⟨o,p,g,_⟩:=laid_sentinel c.tail Sb Sc underlying167 FZ underlying429 underlying431 rfl rfl underlying9 i6 i6;obtain⟨t1,h,i⟩:=kZ RZ e;obtain⟨t2,j,k⟩:=kZ Sb g;obtain⟨l,m,n⟩:=kZ Sd f;exact⟨Ga d,⟨t1,h,i⟩,⟨_,t2,j,k,.inr ⟨_,_,rfl⟩⟩,⟨_,l,m,n,.inr ⟨_,_,rfl⟩⟩⟩
noncomputable def laidWorld (os:Os):World:=World.laidAll prog os FY
set_option maxRecDepth 100000 in
theorem laid_met(a:Os)(args:Array Value):laidMetH prog FY ((laidWorld a).forCall (fun _ _=>0) ⟨#[],args,[]⟩).memory:=by
 rw[MakeChecks.laidMetH_plain _ _ _ i6];exact laidMet_laidAll _ i6 i6
set_option maxRecDepth 100000 in
theorem CW(a:Os)(args:Array Value):((laidWorld a).forCall (fun _ _=>0) ⟨#[],args,[]⟩).variablesZipB prog=true:=by kernel_rfl
set_option maxRecDepth 100000 in
theorem CX(a:Os)(args:Array Value):(((laidWorld a).forCall (fun _ _=>0) ⟨#[],args,[]⟩).heap.toList.drop prog.globals.size).take ((begin prog (fun _ _=>0) default).world.heap.size-prog.globals.size)=
   (begin prog (fun _ _=>0) default).world.heap.toList.drop prog.globals.size:=by kernel_rfl
theorem witness_gen{C:Checked}{H:Type}{enc:TypeId×Value->H}{k:Os}{f:FuncId}{fn:Func}{s:OpenSpec}{b:List PathCond}{c:Bool}{d:List (String×DataW Unit)}(modest:Bool)(w0:World)(args:Array Value)(h:w0.os=k)(j:(w0.forCall (fun _ _=>0) ⟨#[],args,[]⟩).Shaped C.prog)(e:Input.okWideB C.prog (w0.forCall (fun _ _=>0) ⟨#[],args,[]⟩) f ⟨#[],args,[]⟩=true)(g:s.preRow enc C.prog fn b c d (w0.forCall (fun _ _=>0) ⟨#[],args,[]⟩).memory args):
  ∃(w:World) (a:Tape) (i:Input),w.os=k/\(w.forCall a i).Shaped C.prog/\i.vars=[]/\Input.okWide C.prog (w.forCall a i) .any w.heap.size f i/\
   s.preRow enc C.prog fn b c d (w.forCall a i).memory i.args/\({modest:=modest}:Assume).holds C.prog (lone (Frame.enter C.prog f i.args .normal) [] (w.forCall a i)):=
 ⟨w0,fun _ _=>0,⟨#[],args,[]⟩,h,j,(Input.okWide_of_okWideB (base:=0) e).1,(Input.okWide_of_okWideB e).2,g,by
  simp only[Assume.holds];exact⟨by simp,by simp,fun _=>Modest.zero,by simp,by simp⟩⟩
theorem laid_shaped(a:Os)(args:Array Value):((laidWorld a).forCall (fun _ _=>0) ⟨#[],args,[]⟩).Shaped Tryz.checked.prog:=World.shaped_of_ZipB (CW a args) (CX a args)
theorem laid_os(a:Os):(laidWorld a).os=a:=World.laidAll_os _ _ _
open Go Go.Sl Go.Proofs.Tryz
def G6(b:UInt8):Bs->List Bs
 |[]=>[[]]
 |c::t=>if c=b then[]::G6 b t else match G6 b t with
  |[]=>[[c]]
  |w::ws=>(c::w)::ws
theorem CY(b:UInt8):∀s,G6 b s≠[]
 |[]=>by simp[G6]
 |c::t=>by
  rw[G6];split
  ·simp
  ·split<;>simp
theorem oA(b:UInt8)(u:Bs):∀w,G6 b (w++b::u)=G6 b w++G6 b u
 |[]=>by simp[G6]
 |c::t=>by
  rw[Qc,G6,G6,oA b u t];split
  ·rfl
  ·cases h:G6 b t with
   |nil=>exact absurd h (CY b t)
   |cons w ws=>rfl
theorem fG(b:UInt8):∀(w:Bs),(∀c∈w,c≠b)->G6 b w=[w]
 |[],_=>rfl
 |c::t,h=>by rw[G6,zk (h c y4),fG b t fun x hx=>h x (jj _ hx)]
def fH(w:Bs):Option Nat:=if w=[42] then some 0 else match aX w with
 |none=>none
 |some n=>if 0<n/\n<=4294967295 then some n else none
def qY(p:Bs):Option (Nat×Nat):=
 let a:=p.takeWhile fun c=>c !=58
 let b:=if a.length<p.length then p.drop (a.length+1) else a
 match fH a,fH b with
 |some x,some y=>some (x,y)
 |_,_=>none
def aq:List Bs->Option (List (Nat×Nat))
 |[]=>some []
 |p::t=>match qY p,aq t with
  |some x,some l=>some (x::l)
  |_,_=>none
def vA(s:Bs):Option (List (Nat×Nat)):=if 64<(G6 44 s).length then none else aq (G6 44 s)
structure IT where
 kind:Nat
 peek:Bool
 part:Bool
 fr:Nat
 count:Nat
 deriving DecidableEq
structure KY where
 kind:Nat
 kids:Nat
 field:Bs
 text:Bs
 n:Nat
 set:List (Nat×Nat)
 deriving DecidableEq
abbrev Ay:KY:=⟨0,0,[],[],0,[]⟩
structure CM where
 tag:Bs
 kind:Nat
 uid:Bool
 cond:Bool
 box:Bs
 user:Bs
 pass:Bs
 a5N:Bs
 set:List (Nat×Nat)
 a5J:List IT
 keys:List KY
 how:Nat
 a5P:Bool
 a5K:Bool
 a5L:Nat
 a5R:List Bs
 data:Bs
 deriving DecidableEq
abbrev iw:CM:=⟨[],0,false,false,[],[],[],[],[],[],[],0,false,false,0,[],[]⟩
def I0(s w:Bs)(p:Nat):Bool:=decide (R8 ((s.drop p).take w.length)=w)
def H9(s w:Bs)(p:Nat):Option Nat:=if I0 s w p=true then some (p+w.length) else none
def N9(may:UInt8->Bool)(s:Bs)(p:Nat):Bs:=(s.drop p).takeWhile may
def mF(s:Bs)(most p:Nat):Option (Nat×Nat):=(aX (N9 O_ s p)).bind fun n=>if n<=most then some (n,p+(N9 O_ s p).length) else none
def mG(s:Bs)(p:Nat):Option (Bs×Nat):=(H9 s [123] p).bind fun p1=>(mF s 4096 p1).bind fun q=>(H9 s [125,13,10] q.2).bind fun p3=>
 if p3+q.1<=s.length then some ((s.drop p3).take q.1,p3+q.1) else none
def vB(s:Bs)(p:Nat):Option (Bs×Nat):=if N9 P0 s p=[] then none else some (N9 P0 s p,p+(N9 P0 s p).length)
def ld(s:Bs)(p:Nat):Option (Bs×Nat):=
 if I0 s [123] p=true then mG s p
 else if I0 s [34] p=true then(vp (s.drop p)).map fun q=>(q.1,p+q.2)
 else(vB s p).bind fun q=>if q.1.length<=4096 then some q else none
def NY(s:Bs)(p:Nat):Option (Bs×Nat):=(ld s p).bind fun q=>(jf q.1).map fun b=>(b,q.2)
def oB(c:UInt8):Bool:=O_ c||decide (c=44)||decide (c=58)||decide (c=42)
def qZ(s:Bs)(p:Nat):Option (List (Nat×Nat)×Nat):=(vA (N9 oB s p)).map fun l=>(l,p+(N9 oB s p).length)
def oC(s:Bs)(p:Nat):Option (List Bs×Nat):=if(T5 (s.drop p)).2.2=0 then some ((T5 (s.drop p)).1,p+(T5 (s.drop p)).2.1) else none
def dS{α:Type}(one:Nat->Option (α×Nat))(s:Bs):Nat->Nat->Option (List α×Nat)
 |0,_=>none
 |k+1,p=>(one p).bind fun q=>if I0 s [32] q.2=true then(dS one s k (q.2+1)).map fun r=>(q.1::r.1,r.2) else some ([q.1],q.2)
abbrev jt:List (Bs×Nat×Bool):=[([77,69,83,83,65,71,69,83],1,false),([85,73,68,78,69,88,84],2,false),([85,73,68,86,65,76,73,68,73,84,89],3,false),([85,78,83,69,69,78],4,false),([72,73,71,72,69,83,84,77,79,68,83,69,81],5,false)]
abbrev cD:List (Bs×Nat×Bool):=[([70,76,65,71,83],6,false),([85,73,68],7,false),([82,70,67,56,50,50,46,83,73,90,69],8,false),([77,79,68,83,69,81],9,false),([66,79,68,89,91,93],10,false),([66,79,68,89,91,72,69,65,68,69,82,93],11,false),([66,79,68,89,91,84,69,88,84,93],12,false),([66,79,68,89,46,80,69,69,75,91,93],10,true),([66,79,68,89,46,80,69,69,75,91,72,69,65,68,69,82,93],11,true),([66,79,68,89,46,80,69,69,75,91,84,69,88,84,93],12,true)]
def yf(s:Bs)(x:Bs×Nat×Bool)(p:Nat):Option (IT×Nat):=(mF s 4294967295 p).bind fun a=>(H9 s [46] a.2).bind fun p1=>(mF s 4294967295 p1).bind fun c=>
 if 0<c.1 then(H9 s [62] c.2).map fun e=>(⟨x.2.1,x.2.2,true,a.1,c.1⟩,e) else none
def cR(l:List (Bs×Nat×Bool))(s:Bs)(p:Nat):Option (IT×Nat):=(l.find? fun x=>I0 s x.1 p).bind fun x=>
 if 10<=x.2.1/\I0 s [60] (p+x.1.length)=true then yf s x (p+x.1.length+1) else some (⟨x.2.1,x.2.2,false,0,0⟩,p+x.1.length)
def oD(l:List (Bs×Nat×Bool))(s:Bs)(p:Nat):Option (List IT×Nat):=(dS (cR l s) s (s.length+1) p).bind fun q=>
 if q.1.length<=8 then(H9 s [41] q.2).map fun e=>(q.1,e) else none
abbrev Sg:List Bs:=[[65,78,83,87,69,82,69,68],[70,76,65,71,71,69,68],[68,69,76,69,84,69,68],[83,69,69,78],[68,82,65,70,84]]
abbrev a1o:Bs:=[78,79,84]
abbrev wOR:Bs:=[79,82]
abbrev a1p:Bs:=[65,76,76]
abbrev a1q:Bs:=[85,73,68]
abbrev vC:Bs:=[75,69,89,87,79,82,68]
abbrev yg:Bs:=[85,78,75,69,89,87,79,82,68]
abbrev La:Bs:=[76,65,82,71,69,82]
abbrev Gb:Bs:=[83,77,65,76,76,69,82]
abbrev Lb:Bs:=[77,79,68,83,69,81]
abbrev Sh:Bs:=[84,69,88,84]
abbrev Si:Bs:=[66,79,68,89]
abbrev Gc:Bs:=[83,85,66,74,69,67,84]
abbrev Sj:Bs:=[70,82,79,77]
abbrev wTO:Bs:=[84,79]
abbrev Lc:Bs:=[72,69,65,68,69,82]
def dT(c:UInt8):Bool:=decide (65<=c.toNat)&&decide (c.toNat<=90)||decide (97<=c.toNat)&&decide (c.toNat<=122)
def Pc(c:UInt8):Bool:=decide (33<=c.toNat)&&decide (c.toNat<=126)&&!decide (c=58)
def Pd(s:Bs):Bool:=s.all Pc&&!s.isEmpty&&decide (s.length<=32)
def tF(k:Nat)(f:Bs)(s:Bs)(p:Nat):Option (KY×Nat):=(ld s p).map fun q=>({Ay with kind:=k,field:=f,text:=q.1},q.2)
def Gd(k:Nat)(s:Bs)(p:Nat):Option (KY×Nat):=(mF s D_ p).map fun q=>({Ay with kind:=k,n:=q.1},q.2)
def NZ(k:Nat)(s:Bs)(p:Nat):Option (KY×Nat):=(qZ s p).map fun q=>({Ay with kind:=k,set:=q.1},q.2)
def Sk(s w:Bs)(p:Nat):Option (KY×Nat):=
 if w=vC\/w=yg then(vB s p).bind fun q=>(E1 q.1).map fun f=>({Ay with kind:=7,field:=f,n:=if w=vC then 1 else 0},q.2)
 else if w=La then Gd 8 s p
 else if w=Gb then Gd 9 s p
 else if w=Lb then Gd 10 s p
 else if w=Sh then tF 11 [] s p
 else if w=Si then tF 12 [] s p
 else if w=Gc\/w=Sj\/w=wTO then tF 13 (U_ w) s p
 else if w=Lc then(ld s p).bind fun q=>if Pd q.1=true then(H9 s [32] q.2).bind fun e=>tF 13 (U_ q.1) s e else none
 else none
def Oa(w:Bs)(n:Nat):KY:={Ay with kind:=7,field:=(E1 (92::w)).getD [],n:=n}
def Sn(s w:Bs)(p:Nat):Option (KY×Nat):=
 if w∈Sg then some (Oa w 1,p)
 else if w.take 2=[85,78]/\w.drop 2∈Sg then some (Oa (w.drop 2) 0,p)
 else(H9 s [32] p).bind fun e=>Sk s w e
def So(n:Nat):KY:={Ay with kind:=1,kids:=n}
def Ge(s:Bs)(sub:Nat->Option (List KY×Nat))(p:Nat):Option (List KY×Nat):=(dS sub s (s.length+1) p).map fun q=>(So q.1.length::q.1.flatten,q.2)
def a1r(s:Bs)(sub:Nat->Option (List KY×Nat))(w:Bs)(p:Nat):Option (List KY×Nat):=
 if w=a1o then(H9 s [32] p).bind fun e=>(sub e).map fun q=>({Ay with kind:=2}::q.1,q.2)
 else if w=wOR then(H9 s [32] p).bind fun e=>(sub e).bind fun q=>(H9 s [32] q.2).bind fun e2=>(sub e2).map fun r=>({Ay with kind:=3}::(q.1++r.1),r.2)
 else if w=a1p then some ([{Ay with kind:=4}],p)
 else if w=a1q then(H9 s [32] p).bind fun e=>(NZ 6 s e).map fun q=>([q.1],q.2)
 else(Sn s w p).map fun q=>([q.1],q.2)
def Sq(s:Bs)(sub grp:Nat->Option (List KY×Nat))(p:Nat):Option (List KY×Nat):=
 if I0 s [40] p=true then(grp (p+1)).bind fun q=>(H9 s [41] q.2).map fun e=>(q.1,e)
 else if((s.drop p).head?.any fun c=>O_ c||decide (c=42))=true then(NZ 5 s p).map fun q=>([q.1],q.2)
 else a1r s sub (R8 (N9 dT s p)) (p+(N9 dT s p).length)
def Pe(s:Bs):Nat->Nat->Option (List KY×Nat)
 |0,p=>Sq s (fun _=>none) (fun _=>none) p
 |k+1,p=>Sq s (Pe s k) (Ge s (Pe s k)) p
def Ld(s:Bs)(p:Nat):Option (List KY×Nat):=(Ge s (Pe s 7) p).bind fun q=>if q.1.length<=32 then some q else none
abbrev vD:List Bs:=[[67,65,80,65,66,73,76,73,84,89],[78,79,79,80],[76,79,71,79,85,84],[67,76,79,83,69],[69,88,80,85,78,71,69],[69,78,65,66,76,69],[76,79,71,73,78],[83,69,76,69,67,84],[69,88,65,77,73,78,69],[67,82,69,65,84,69],[68,69,76,69,84,69],[76,73,83,84],[83,84,65,84,85,83],[65,80,80,69,78,68],[83,69,65,82,67,72],[70,69,84,67,72],[83,84,79,82,69],[67,79,80,89]]
def H5(w:Bs):Nat:=if w∈vD then vD.idxOf w+1 else 0
abbrev Az:Bs:=[32,67,79,78,68,83,84,79,82,69]
abbrev cg:Bs:=[32,40,67,79,78,68,83,84,79,82,69,41]
abbrev Ob:Bs:=[32,34,34,32]
abbrev vE:Bs:=[40,85,78,67,72,65,78,71,69,68,83,73,78,67,69,32]
abbrev rN:Bs:=[32,40,67,72,65,78,71,69,68,83,73,78,67,69,32]
abbrev yh:Bs:=[70,76,65,71,83]
abbrev cS:Bs:=[46,83,73,76,69,78,84]
abbrev Sr:Bs:=[85,73,68,32]
def ix(c:UInt8):Bool:=decide (c=37)||decide (c=42)||P0 c
def yi(s:Bs)(p:Nat):Option (Bs×Nat):=(H9 s [32] p).bind fun e=>ld s e
def iy(s:Bs)(p:Nat):Option (Bs×Nat):=(H9 s [32] p).bind fun e=>NY s e
def dw(s:Bs)(p:Nat):Option (Nat×Nat):=(mF s D_ p).bind fun q=>(H9 s [41] q.2).map fun e=>(q.1,e)
def dx(c:CM)(s:Bs)(p:Nat):Option (CM×Nat):=(yi s p).bind fun q=>(yi s q.2).map fun r=>({c with user:=q.1,pass:=r.1},r.2)
def I9(c:CM)(s:Bs)(p:Nat):Option (CM×Nat):=(iy s p).map fun q=>({c with box:=q.1},q.2)
def lf(c:CM)(s:Bs)(p:Nat):Option (CM×Nat):=(I9 c s p).map fun q=>if I0 s cg q.2=true then({q.1 with cond:=true},q.2+12) else q
def jA(c:CM)(s:Bs)(p:Nat):Option (CM×Nat):=(H9 s Ob p).bind fun e=>
 if N9 ix s e=[] then(ld s e).map fun q=>({c with a5N:=q.1},q.2) else some ({c with a5N:=N9 ix s e},e+(N9 ix s e).length)
def jB(c:CM)(s:Bs)(p:Nat):Option (CM×Nat):=(I9 c s p).bind fun q=>(H9 s [32,40] q.2).bind fun e=>(oD jt s e).map fun r=>({q.1 with a5J:=r.1},r.2)
def jC(c:CM)(s:Bs)(p:Nat):Option (CM×Nat):=(I9 c s p).bind fun q=>(H9 s [32] q.2).bind fun e=>
 if I0 s [40] e=true then(oC s e).bind fun f=>(H9 s [32] f.2).bind fun e2=>(mG s e2).map fun r=>({q.1 with a5R:=f.1,data:=r.1},r.2)
 else(mG s e).map fun r=>({q.1 with data:=r.1},r.2)
def Ss(c:CM)(s:Bs)(p:Nat):Option (CM×Nat):=(H9 s [32] p).bind fun e=>(Ld s e).map fun q=>({c with keys:=q.1},q.2)
def vF(c:CM)(s:Bs)(p:Nat):Option (CM×Nat):=if I0 s rN p=true then(dw s (p+15)).map fun q=>({c with a5L:=q.1,a5K:=true},q.2) else some (c,p)
def oE(c:CM)(s:Bs)(p:Nat):Option (CM×Nat):=
 (if I0 s [40] p=true then oD cD s (p+1) else(cR cD s p).map fun q=>([q.1],q.2)).bind fun q=>vF {c with a5J:=q.1} s q.2
def Pf(c:CM)(s:Bs)(p:Nat):Option (CM×Nat):=if I0 s vE p=true then(dw s (p+16)).bind fun q=>(H9 s [32] q.2).map fun e=>({c with a5L:=q.1,a5K:=true},e) else some (c,p)
def vG(s:Bs)(p:Nat):Nat×Nat:=if I0 s [43] p=true then(1,p+1) else if I0 s [45] p=true then(2,p+1) else(0,p)
def CZ(s:Bs)(p:Nat):Bool×Nat:=if I0 s cS p=true then(true,p+7) else(false,p)
def oG(c:CM)(s:Bs)(p:Nat):Option (CM×Nat):=(Pf c s p).bind fun q=>(H9 s yh (vG s q.2).2).bind fun e=>(H9 s [32] (CZ s e).2).bind fun e2=>
 (oC s e2).map fun f=>({q.1 with how:=(vG s q.2).1,a5P:=(CZ s e).1,a5R:=f.1},f.2)
def cT(c:CM)(s:Bs)(p:Nat)(k:CM->Nat->Option (CM×Nat)):Option (CM×Nat):=(H9 s [32] p).bind fun e=>(qZ s e).bind fun q=>k {c with set:=q.1} q.2
def aI(s:Bs)(k:CM->Nat->Option (CM×Nat))(c:CM)(p:Nat):Option (CM×Nat):=(H9 s [32] p).bind fun e=>k c e
def T6(c:CM)(s:Bs)(p:Nat):Option (CM×Nat):=
 if c.kind<=5 then some (c,p)
 else if c.kind=6 then(H9 s Az p).map fun e=>(c,e)
 else if c.kind=7 then dx c s p
 else if c.kind<=9 then lf c s p
 else if c.kind<=11 then I9 c s p
 else if c.kind=12 then jA c s p
 else if c.kind=13 then jB c s p
 else if c.kind=14 then jC c s p
 else if c.kind=15 then Ss c s p
 else if c.kind=16 then cT c s p (aI s fun c e=>oE c s e)
 else if c.kind=17 then cT c s p (aI s fun c e=>oG c s e)
 else cT c s p fun c e=>I9 c s e
def yj(c:UInt8):Bool:=P0 c&&!decide (c=43)
def cE(s:Bs):Bs:=N9 yj s 0
def dU(s:Bs):Bool:=!(cE s).isEmpty&&decide ((cE s).length<=32)&&I0 s [32] (cE s).length
def rb(s:Bs):Bool:=I0 s Sr ((cE s).length+1)
def tG(s:Bs):Nat:=(cE s).length+1+(if rb s=true then 4 else 0)
def P9(s:Bs):Bs:=N9 (fun c=>!decide (c=32)) s (tG s)
def first(s:Bs):CM:={iw with tag:=cE s}
theorem iz{s w:Bs}{p:Nat}(h:I0 s w p=true)(b:w≠[]):p+w.length<=s.length:=by
 unfold I0 at h;simp only[jy] at h;have a:=jw List.length h;unfold R8 at a;simp only[zm,z7,kz] at a;have:=Z9.mpr b;omega
theorem Pg(a:UInt8->Bool)(s:Bs)(p:Nat)(hp:p<=s.length):p+(N9 a s p).length<=s.length:=by
 have b:=(J2 a (l:=s.drop p)).length_le;unfold N9;rw[kz] at b;omega
theorem C_{s w:Bs}{p e:Nat}(h:H9 s w p=some e)(a:w≠[]):I0 s w p=true/\e=p+w.length/\e<=s.length:=by
 unfold H9 at h;split at h
 ·next k=>
  have b:=j8 h;have:=iz k a;exact⟨k,b.symm,by omega⟩
 ·cases h
structure LT where
 uid:Nat
 a5R:List Bs
 mod:Nat
 hash:Bs
 size:Nat
 deriving DecidableEq
structure BX where
 name:Bs
 val:Nat
 next:Nat
 high:Nat
 lts:List LT
 deriving DecidableEq
abbrev Ph:BX:=⟨[],0,0,0,[]⟩
structure SX where
 ses:Nat
 last:Nat
 node:Int
 life:Nat
 tr:Nat
 deriving DecidableEq
structure HO where
 node:Int
 life:Nat
 tr:Nat
 deriving DecidableEq
abbrev Oc:HO:=⟨0,0,0⟩
structure ML where
 a5C:List BX
 nval:Nat
 a5D:List HO
 a5E:List SX
 nses:Nat
 a5O:Nat
 deriving DecidableEq
structure RQ where
 op:Int
 ses:Nat
 num:Nat
 node:Int
 life:Nat
 tr:Nat
 box:Bs
 tz:Bs
 val:Nat
 a5I:List (Nat×Nat)
 a5R:List Bs
 how:Int
 hasS:Bool
 a5L:Nat
 hash:Bs
 size:Nat
 a5O:Nat
 deriving DecidableEq
abbrev cU:RQ:=⟨0,0,0,0,0,0,[],[],0,[],[],0,false,0,[],0,0⟩
structure OC where
 code:Int
 ses:Nat
 val:Nat
 a5I:List Nat
 mods:List Nat
 deriving DecidableEq
abbrev B9:OC:=⟨0,0,0,[],[]⟩
abbrev eL:Nat:=4294967295
abbrev Da:Nat:=4611686018427387904
def P_(most k:Nat):Nat:=if k=0 then most else k
def gR(l:List (Nat×Nat))(most n:Nat):Bool:=l.any fun r=>decide (min (P_ most r.1) (P_ most r.2)<=n/\n<=max (P_ most r.1) (P_ most r.2))
def F8(l:List Bs)(how:Int)(b:List Bs):List Bs×Int:=
 if G0 l=false\/G0 b=false\/how<0\/3<=how then([],1)
 else
  let o:=if how=0 then T4 b else if how=1 then T4 (l++b) else(T4 l).filter fun f=>!decide (f∈b)
  if 16<o.length then([],7) else(o,0)
def xK(s:ML)(name:Bs):Option Nat:=s.a5C.findIdx? fun b=>decide (b.name=name)
def rO(s:ML)(n:Nat):Option Nat:=s.a5E.findIdx? fun x=>decide (x.ses=n)
def gW(s:ML)(n:Int):Option Nat:=s.a5D.findIdx? fun h=>decide (h.node=n)
def gr(s:ML)(n:Int)(t:Nat):Option Nat:=s.a5E.findIdx? fun x=>decide (x.node=n/\x.tr=t)
def aj(s:ML)(i:Nat):BX:=s.a5C.getD i Ph
def ak(s:ML)(name:Bs):Option BX:=(xK s name).map (aj s)
def named(s:ML)(r:RQ):Option Nat:=(xK s r.box).bind fun i=>if(aj s i).val=r.val then some i else none
def vH(b:BX):Nat:=(b.lts.getLast?.map LT.uid).getD 0
def X5(r:RQ)(b:BX)(x:LT):Bool:=gR r.a5I (vH b) x.uid
abbrev AR:=ML×OC×Int
def dy(h:HO):List HO->List HO
 |[]=>[h]
 |x::t=>if h.node<x.node then h::x::t else x::dy h t
def nh(s:ML)(at_:Option Nat)(h:HO):ML:=match at_ with
 |some i=>{s with a5D:=s.a5D.set i h}
 |none=>{s with a5D:=dy h s.a5D}
def lV(s:ML)(r:RQ):AR:=
 if r.node<1\/5<r.node\/r.life=0\/r.tr=0 then(s,B9,1)
 else
  let k:=gW s r.node
  let h:=(k.map fun i=>s.a5D.getD i Oc).getD Oc
  if r.life<h.life then(s,B9,14)
  else if h.life=r.life/\r.tr<=h.tr then match gr s r.node r.tr with
   |none=>(s,B9,14)
   |some i=>(s,{B9 with ses:=(s.a5E.getD i ⟨0,0,0,0,0⟩).ses},0)
  else
   let a5E:=if h.life<r.life then s.a5E.filter fun x=>!decide (x.node=r.node) else s.a5E
   if 16<=a5E.length\/Da<=s.nses then(s,B9,7)
   else(nh {s with a5E:=a5E++[⟨s.nses,0,r.node,r.life,r.tr⟩],nses:=s.nses+1} k ⟨r.node,r.life,r.tr⟩,{B9 with ses:=s.nses},0)
def lg(s:ML):AR:=if s.a5O=D_ then(s,B9,13) else({s with a5O:=s.a5O+1},B9,0)
def Pi(s:ML)(r:RQ):AR:=({s with a5E:=s.a5E.filter fun x=>!decide (x.ses=r.ses)},B9,0)
def jD(b:BX):List BX->List BX
 |[]=>[b]
 |x::t=>if gV b.name x.name=true then b::x::t else x::jD b t
def cV(s:ML)(r:RQ):AR:=
 if jf r.box≠some r.box then(s,B9,1)
 else if(xK s r.box).isSome=true then(s,B9,12)
 else if 8<=s.a5C.length then(s,B9,7)
 else if eL<s.nval then(s,B9,13)
 else({s with a5C:=jD ⟨r.box,s.nval,1,1,[]⟩ s.a5C,nval:=s.nval+1},{B9 with val:=s.nval},0)
def bM(s:ML)(r:RQ):AR:=
 if r.box=cP then(s,B9,1) else match xK s r.box with
 |none=>(s,B9,6)
 |some i=>({s with a5C:=s.a5C.eraseIdx i},B9,0)
def jE(s:ML)(i:Nat)(b:BX):ML:={s with a5C:=s.a5C.set i b}
def cW(s:ML)(r:RQ):AR:=match xK s r.box with
 |none=>(s,B9,6)
 |some i=>
  let b:=aj s i
  if G0 r.a5R=false\/r.hash.length≠32\/4096<r.size then(s,B9,1)
  else if r.a5O≠s.a5O then(s,B9,15)
  else if 32<=b.lts.length then(s,B9,7)
  else if eL<b.next\/D_<=b.high then(s,B9,13)
  else(jE s i {b with high:=b.high+1,next:=b.next+1,lts:=b.lts++[⟨b.next,r.a5R,b.high+1,r.hash,r.size⟩]},{B9 with val:=b.val,a5I:=[b.next]},0)
def I1(r:RQ)(b:BX):List LT->Option (List LT×List Nat×List Nat×Bool)
 |[]=>some ([],[],[],false)
 |x::t=>
  if X5 r b x=false then(I1 r b t).map fun q=>(x::q.1,q.2.1,q.2.2.1,q.2.2.2)
  else if r.hasS=true/\r.a5L<x.mod then(I1 r b t).map fun q=>(x::q.1,q.2.1,x.uid::q.2.2.1,q.2.2.2)
  else if(F8 x.a5R r.how r.a5R).2≠0 then none
  else(I1 r b t).map fun q=>if(F8 x.a5R r.how r.a5R).1=x.a5R then(x::q.1,x.uid::q.2.1,q.2.2.1,q.2.2.2)
   else({x with a5R:=(F8 x.a5R r.how r.a5R).1,mod:=b.high+1}::q.1,x.uid::q.2.1,q.2.2.1,true)
def dz(s:ML)(r:RQ):AR:=match named s r with
 |none=>(s,B9,6)
 |some i=>
  let b:=aj s i
  if G0 r.a5R=false\/r.how<0\/2<r.how then(s,B9,1)
  else match I1 r b b.lts with
   |none=>(s,B9,7)
   |some q=>
    if q.2.2.2=false then(s,{B9 with a5I:=q.2.1,mods:=q.2.2.1},0)
    else if D_<=b.high then(s,B9,13)
    else(jE s i {b with lts:=q.1,high:=b.high+1},{B9 with a5I:=q.2.1,mods:=q.2.2.1},0)
abbrev jF:Bs:=[92,68,101,108,101,116,101,100]
def jG(r:RQ)(b:BX)(x:LT):Bool:=decide (jF∈x.a5R)&&(r.a5I.isEmpty||X5 r b x)
def be(s:ML)(r:RQ):AR:=match named s r with
 |none=>(s,B9,6)
 |some i=>
  let b:=aj s i
  let u:=(b.lts.filter (jG r b)).map LT.uid
  if u=[] then(s,B9,0)
  else if D_<=b.high then(s,B9,13)
  else(jE s i {b with lts:=b.lts.filter fun x=>!jG r b x,high:=b.high+1},{B9 with a5I:=u},0)
def fg(n m:Nat):List LT->List LT
 |[]=>[]
 |x::t=>{x with uid:=n,mod:=m}::fg (n+1) m t
def gX(s:ML)(r:RQ):AR:=match named s r with
 |none=>(s,B9,6)
 |some j=>
  let b:=aj s j
  match xK s r.tz with
  |none=>(s,B9,21)
  |some i=>
   let l:=b.lts.filter (X5 r b)
   let t:=aj s i
   if l=[] then(s,{B9 with val:=t.val},0)
   else if 32<t.lts.length+l.length then(s,{B9 with val:=t.val},7)
   else if eL+1<t.next+l.length\/D_<=t.high then(s,{B9 with val:=t.val},13)
   else(jE s i {t with high:=t.high+1,next:=t.next+l.length,lts:=t.lts++fg t.next (t.high+1) l},{B9 with val:=t.val,a5I:=(fg t.next (t.high+1) l).map LT.uid},0)
def JX(s:ML)(r:RQ):AR:=
 if r.op=1 then lV s r else if r.op=2 then Pi s r else if r.op=3 then(s,B9,0) else if r.op=4 then cV s r else if r.op=5 then bM s r
 else if r.op=6 then cW s r else if r.op=7 then dz s r else if r.op=8 then be s r else if r.op=9 then gX s r else lg s
def vI(q:AR):ML×OC:=(q.1,if q.2.2=0 then q.2.1 else{B9 with code:=q.2.2})
def D6(s:ML)(r:RQ):ML×OC:=
 if r.op<1\/11<=r.op\/64<r.a5I.length then(s,{B9 with code:=1})
 else if r.op=1\/r.op=10 then vI (JX s r)
 else match rO s r.ses with
  |none=>(s,{B9 with code:=16})
  |some i=>
   let x:=s.a5E.getD i ⟨0,0,0,0,0⟩
   if r.num<=x.last then(s,{B9 with code:=14})
   else vI (JX {s with a5E:=s.a5E.set i {x with last:=r.num}} r)
def Gf:ML:=⟨[⟨cP,1,1,1,[]⟩],2,[],[],1,0⟩
def St(n:Nat):List Nat->List Nat
 |[]=>[n]
 |x::t=>if n<x then n::x::t else if n=x then x::t else x::St n t
def Su(l:List Nat):List Nat:=l.foldr St []
def Sv(out:List (Nat×Nat))(n:Nat):List (Nat×Nat):=match out.getLast? with
 |some r=>if r.2=n-1 then out.dropLast++[(r.1,n)] else out++[(n,n)]
 |none=>[(n,n)]
def Sw(l:List Nat):List (Nat×Nat):=(Su (l.filter fun n=>decide (0<n))).foldl Sv []
def fI(n:Nat):Bs:=if n=0 then[42] else R4 n
def aA(r:Nat×Nat):Bs:=if r.2=r.1 then fI r.1 else fI r.1++58::fI r.2
structure VW where
 box:Bs
 val:Nat
 a5F:List (Nat×Nat)
 deriving DecidableEq
abbrev AA:VW:=⟨[],0,[]⟩
def P3(b:BX):VW:=⟨b.name,b.val,b.lts.map fun x=>(x.uid,x.mod)⟩
def re(v:VW)(u:Nat):Option Nat:=v.a5F.findIdx? fun r=>decide (r.1=u)
def X6(v:VW)(u:Nat):Nat:=(re v u).elim 0 (· +1)
def ci(v:VW)(u m:Nat):VW:=match re v u with
 |none=>v
 |some i=>{v with a5F:=v.a5F.set i ((v.a5F.getD i (0,0)).1,m)}
def L4(l:List (Nat×Nat)):Nat:=l.foldl (fun m r=>max m r.1) 0
def X7(v:VW)(l:List (Nat×Nat))(byUid:Bool):Option (List Nat):=
 let n:=v.a5F.length
 if byUid=false/\(l.any fun x=>decide (min (P_ n x.1) (P_ n x.2)<1\/n<max (P_ n x.1) (P_ n x.2)))=true then none
 else some ((v.a5F.zipIdx.filter fun x=>if byUid then gR l (L4 v.a5F) x.1.1 else gR l n (x.2+1)).map fun x=>x.1.1)
def a1s(v:VW)(a5I:List Nat)(byUid:Bool):List (Nat×Nat):=
 Sw (a5I.filterMap fun u=>(re v u).map fun i=>if byUid then u else i+1)
def bN(b:BX)(u:Nat):Option LT:=b.lts.find? fun x=>decide (x.uid=u)
def V1(b:BX):Nat->List (Nat×Nat)->List (Nat×Nat)×List RR
 |0,a5F=>(a5F,[])
 |k+1,a5F=>match bN b (a5F.getD k (0,0)).1 with
  |some _=>V1 b k a5F
  |none=>((V1 b k (a5F.eraseIdx k)).1,{R0 with kind:=9,n:=k+1}::(V1 b k (a5F.eraseIdx k)).2)
def tH(x:LT)(n:Nat)(cond:Bool):RR:=
 {R0 with kind:=14,n:=n,values:={V0 with kind:=6,a5R:=x.a5R}::if cond then[{V0 with kind:=9,n:=x.mod}] else[]}
def X8(b:BX)(r:Nat×Nat):(Nat×Nat)×Option LT:=match bN b r.1 with
 |none=>(r,none)
 |some x=>if x.mod=r.2 then(r,none) else((r.1,x.mod),some x)
def T7(v:VW)(b:BX)(expunge cond:Bool):VW×List RR:=
 if b.name≠v.box\/b.val≠v.val then(v,[])
 else
  let q:=if expunge then V1 b v.a5F.length v.a5F else(v.a5F,[])
  let new:=(b.lts.filter fun x=>decide (L4 q.1<x.uid)).map fun x=>(x.uid,x.mod)
  let had:=q.1.map (X8 b)
  ({v with a5F:=had.map (·.1)++new},
   q.2++(if new=[] then[] else[{R0 with kind:=8,n:=q.1.length+new.length}])++had.zipIdx.filterMap fun h=>h.1.2.map fun x=>tH x (h.2+1) cond)
structure PL where
 seq:Nat
 mseq:Nat
 muid:Nat
structure SE where
 a5H:Nat
 ses:Nat
 num:Nat
 a5G:VW
 ro:Bool
 cond:Bool
 a5M:Bool
 cmd:CM
 a5I:List Nat
abbrev oH:SE:=⟨0,0,0,AA,false,false,false,iw,[]⟩
structure DD where
 a5Q:List RR
 ask:Bool
 req:RQ
 store:Bool
 body:Bs
 want:List Bs
 close:Bool
abbrev F9:DD:=⟨[],false,cU,false,[],[],false⟩
abbrev SD:=SE×DD
abbrev dA(tag:Bs):RR:={R0 with kind:=1,tag:=tag,text:=[100,111,110,101]}
abbrev lW(tag code text:Bs):RR:={R0 with kind:=2,tag:=tag,code:=code,text:=text}
abbrev fh(tag text:Bs):RR:={R0 with kind:=3,tag:=tag,text:=text}
abbrev H7(text:Bs):RR:={R0 with kind:=4,tag:=[42],text:=text}
def V2(q:SD)(r:RR):SD:=(q.1,{q.2 with a5Q:=q.2.a5Q++[r]})
def Gg(q:SD)(text:Bs):SD:=({q.1 with a5H:=3},{q.2 with a5Q:=q.2.a5Q++[H7 text],close:=true})
def oI(q:SD)(tag:Bs):SD:=V2 (Gg q [108,111,103,103,105,110,103,32,111,117,116]) (dA tag)
def G1(q:SD)(c:CM)(r:RQ)(a5I:List Nat):SD:=
 if r.op=1 then({q.1 with a5M:=true,cmd:=c,a5I:=a5I},{q.2 with ask:=true,req:=r})
 else({q.1 with a5M:=true,cmd:=c,a5I:=a5I,num:=q.1.num+1},{q.2 with ask:=true,req:={r with ses:=q.1.ses,num:=q.1.num+1}})
def al(q:SD)(op:Int):RQ:={cU with op:=op,box:=q.1.a5G.box,val:=q.1.a5G.val}
abbrev bf:RQ:={cU with op:=3}
def lX(q:SD)(c:CM):SD:=G1 q c bf []
def tI(q:SD)(c:CM)(r:RQ)(a5I:List Nat):SD:=
 let l:=a1s q.1.a5G a5I true
 if l.length<1\/64<l.length then G1 q c bf a5I else G1 q c {r with a5I:=l} a5I
def Od(digest:Bs->Bs)(q:SD)(c:CM):SD:=
 if c.kind=1 then V2 (V2 q {R0 with kind:=6}) (dA c.tag)
 else if c.kind=2 then(if q.1.a5H=0 then V2 q (dA c.tag) else lX q c)
 else if c.kind=3 then(if q.1.a5H=0 then oI q c.tag else G1 q c {cU with op:=2} [])
 else if c.kind=4 then(if q.1.ro then lX q c else G1 q c (al q 8) [])
 else if c.kind=5 then(if q.1.ro then V2 q (lW c.tag [82,69,65,68,45,79,78,76,89] [105,116,32,109,97,121,32,110,111,116,32,98,101]) else G1 q c (al q 8) [])
 else if c.kind=6 then V2 (V2 ({q.1 with cond:=true},q.2) {R0 with kind:=7}) (dA c.tag)
 else if c.kind=7 then(if c.pass=[104,111,114,110] then G1 q c {cU with op:=1} [] else V2 q (lW c.tag [65,85,84,72,69,78,84,73,67,65,84,73,79,78,70,65,73,76,69,68] [119,114,111,110,103,32,112,97,115,115,119,111,114,100]))
 else if c.kind<=9 then lX ({q.1 with cond:=q.1.cond||c.cond},q.2) c
 else if c.kind=10 then G1 q c {cU with op:=4,box:=c.box} []
 else if c.kind=11 then G1 q c {cU with op:=5,box:=c.box} []
 else if c.kind<=13\/c.kind=15 then lX q c
 else if c.kind=14 then G1 (q.1,{q.2 with store:=true,body:=c.data}) c {cU with op:=6,box:=c.box,a5R:=c.a5R,hash:=digest c.data,size:=c.data.length} []
 else match (if c.kind=17/\q.1.ro=true then none else some (X7 q.1.a5G c.set c.uid)) with
  |none=>V2 q (lW c.tag [82,69,65,68,45,79,78,76,89] [105,116,32,109,97,121,32,110,111,116,32,98,101])
  |some none=>V2 q (fh c.tag [110,111,32,115,117,99,104,32,109,101,115,115,97,103,101])
  |some (some l)=>
   if c.kind=16 then
    if q.1.ro=true\/c.a5K=true\/(c.a5J.any fun x=>decide (10<=x.kind)&&!x.peek)=false then G1 q c bf l
    else tI q c {al q 7 with a5R:=[[92,83,101,101,110]],how:=1} l
   else if c.kind=17 then tI q c {al q 7 with a5R:=c.a5R,how:=c.how,hasS:=c.a5K,a5L:=c.a5L} l
   else tI q c {al q 9 with tz:=c.box} l
def M_(k:Nat):Nat×Nat:=if k=1\/k=2\/k=3 then(0,2) else if k=4\/k=5\/15<=k then(2,2) else if k=7 then(0,0) else(1,2)
def tJ(c:CM):Bs:=if c.tag=[] then[42] else c.tag
def V9(s:SE):SE:={s with a5M:=false,cmd:=iw,a5I:=[]}
def S4(s:SE):SD:=if s.a5M=false then(s,F9) else if s.cmd.kind=3 then oI (V9 s,F9) s.cmd.tag else V2 (V9 s,F9) (lW s.cmd.tag [85,78,65,86,65,73,76,65,66,76,69] [116,114,121,32,97,103,97,105,110])
abbrev BL:=List (Bs×Bs)
def mH(kind:Nat)(e:Int):Bs×Bs:=
 if e=6/\kind=14\/e=21 then([84,82,89,67,82,69,65,84,69],[116,104,101,114,101,32,105,115,32,110,111,110,101]) else if e=6 then([78,79,78,69,88,73,83,84,69,78,84],[116,104,101,114,101,32,105,115,32,110,111,110,101]) else if e=12 then([65,76,82,69,65,68,89,69,88,73,83,84,83],[105,116,32,105,115,32,116,104,101,114,101])
 else if e=7 then([79,86,69,82,81,85,79,84,65],[110,111,32,114,111,111,109]) else if e=13 then([76,73,77,73,84],[110,117,109,98,101,114,115,32,97,114,101,32,117,115,101,100,32,117,112]) else if e=1 then([67,65,78,78,79,84],[105,116,32,109,97,121,32,110,111,116,32,98,101]) else([85,78,65,86,65,73,76,65,66,76,69],[116,114,121,32,97,103,97,105,110])
def mI(s:SE)(st:ML):BX:=((ak st s.a5G.box).bind fun b=>if b.val=s.a5G.val then some b else none).getD Ph
