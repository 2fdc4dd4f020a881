import Derived.Test.YtmcepdopookilaaGreatDoorutx7
import Derived.Laws.Cover1
import Derived.Test.YtmcepdopookilaaGreatDoorutx5
import Derived.Test.YtmcepdopookilaaGreatDoorRows
import Derived.WalkKit
import Derived.ProofKit
import Derived.OpenShut
import Derived.MakeChecks
import Derived.Lib.LaidTab
import Derived.Stop.LaidErr
import Derived.Deep.DeepLaidRun
import Derived.Lay
import Derived.Deep.DeepHandedRow
import Derived.Deep.DeepWitnessRowRef
set_option linter.unusedVariables false
set_option linter.unusedSimpArgs false
set_option linter.defProp false
namespace Go.Proofs.YtmcepdopookilaaGreatDoor.Rp
open Go Go.Sl Go.Proofs.Tryz
abbrev Bs:=List UInt8
abbrev D9:Nat:=9223372036854775807
def P0(c:UInt8):Bool:=decide (48<=c.toNat)&&decide (c.toNat<=57)
def Ak(a:Nat)(c:UInt8):Nat:=10*a+(c.toNat-48)
def S7(a:Nat)(s:Bs):Nat:=s.foldl Ak a
theorem rz(a:Nat)(c:UInt8)(t:Bs):S7 a (c::t)=S7 (Ak a c) t:=by unfold S7;rw[Wq]
theorem oh(a:Nat):S7 a []=a:=by unfold S7;rw[List.foldl_nil]
def dig(k:Nat):UInt8:=UInt8.ofNat (48+k)
def R1(n:Nat):Bs:=if h:n<10 then[dig n] else R1 (n/10)++[dig (n%10)]
termination_by n
decreasing_by omega
theorem bK{n:Nat}(h:n<10):R1 n=[dig n]:=by rw[R1];simp[h]
theorem gf{n:Nat}(h:¬n<10):R1 n=R1 (n/10)++[dig (n%10)]:=by rw[R1];simp[h]
theorem Kt{k:Nat}(h:k<10):(dig k).toNat=48+k:=by
 unfold dig;rw[UInt8.toNat_ofNat'];omega
theorem Fw{k:Nat}(h:k<10):P0 (dig k)=true:=by
 unfold P0;rw[Kt h];simp;omega
theorem lR(a:Nat)(x y:Bs):S7 a (x++y)=S7 (S7 a x) y:=by unfold S7;rw[W0]
theorem KB(n:Nat):R1 n≠[]:=by
 rcases Qp n 10 with h|h
 ·rw[bK h];simp
 ·rw[gf qb];simp
theorem Fx(n:Nat):(R1 n).all P0=true:=by
 induction n using Nat.strongRecOn with
 |ind n ih=>
  rcases Qp n 10 with h|h
  ·rw[bK h];simp[Fw h]
  ·rw[gf qb,List.all_append,ih (n/10) qb];simp[Fw (Nat.mod_lt n (by omega:0<10))]
def aW(w:Bs):Option Nat:=if R1 (S7 0 w)=w/\S7 0 w<=D9 then some (S7 0 w) else none
theorem rA{w:Bs}{n:Nat}(h:aW w=some n):w=R1 n/\n<=D9:=by
 unfold aW at h;split at h
 ·next k=>simp at h;subst h;exact⟨k.1.symm,k.2⟩
 ·cases h
theorem Fy:aW []=none:=by
 unfold aW;split
 ·next k=>exact absurd k.1 (KB _)
 ·rfl
theorem bw(p:UInt8->Bool)(s:Bs):s=s.takeWhile p++s.drop (s.takeWhile p).length:=by
 induction s with
 |nil=>rfl
 |cons c t ih=>
  by_cases h:p c=true
  ·simp only[Q4,h,if_true,zy,Wx,Q7];rw[<-ih]
  ·simp[Q4,h]
theorem gQ(p:UInt8->Bool)(s:Bs):∀c∈s.takeWhile p,p c=true:=by
 induction s with
 |nil=>simp
 |cons c t ih=>
  by_cases h:p c=true
  ·simp only[Q4,h,if_true];intro x a;rcases ky.mp a with rfl|a
   ·exact h
   ·exact ih x a
  ·simp[Q4,h]
theorem bL(p:UInt8->Bool):∀(w r:Bs),(∀c∈w,p c=true)->(∀c∈r.head?,p c=false)->(w++r).takeWhile p=w
 |[],[],_,_=>rfl
 |[],c::r,_,h=>by simp[Q4,h c x6]
 |c::w,r,hw,h=>by
  simp only[Q7,Q4,hw c x6,if_true];rw[bL p w r (fun x hx=>hw x (jj _ hx)) h]
theorem fB(p:UInt8->Bool)(s:Bs):∀c∈(s.drop (s.takeWhile p).length).head?,p c=false:=by
 induction s with
 |nil=>simp
 |cons c t ih=>
  by_cases h:p c=true
  ·simpa only[Q4,h,if_true,zy,Wx] using ih
  ·simp[Q4,h]
def P1(c:UInt8):Bool:=decide (33<=c.toNat)&&decide (c.toNat<=126)&&!([40,41,123,37,42,34,92,93]:Bs).contains c
def iY(s:Bs):Bool:=s.all P1&&!s.isEmpty
def rB(c:UInt8):UInt8:=if 97<=c.toNat/\c.toNat<=122 then c-32 else c
def io(c:UInt8):UInt8:=if 65<=c.toNat/\c.toNat<=90 then c+32 else c
def R8(s:Bs):Bs:=s.map rB
def U9(s:Bs):Bs:=s.map io
def aX(c:UInt8):Bool:=decide (0<c.toNat)&&decide (c.toNat<128)&&!([10,13]:Bs).contains c
def Al(b:Bs)(i:Nat):Bs->Option (Bs×Nat)
 |[]=>none
 |c::t=>if 512<b.length then none else if c=34 then some (b,i+1) else if c=92 then
   (match t with|[]=>none|d::t'=>if d=34\/d=92 then Al (b++[d]) (i+2) t' else none)
  else if aX c then Al (b++[c]) (i+1) t else none
theorem iZ(b:Bs)(i:Nat)(c:UInt8)(t:Bs):Al b i (c::t)=if 512<b.length then none else if c=34 then some (b,i+1) else if c=92 then
   (match t with|[]=>none|d::t'=>if d=34\/d=92 then Al (b++[d]) (i+2) t' else none)
  else if aX c then Al (b++[c]) (i+1) t else none:=Al.eq_def ..
def vg:Bs->Option (Bs×Nat)
 |[]=>none
 |c::t=>if c=34 then Al [] 1 t else none
def CF(c:UInt8):Bool:=decide (32<=c.toNat)&&decide (c.toNat<=126)&&!([37,42,34,92]:Bs).contains c
def vh(s:Bs):Bool:=!s.isEmpty&&s.all CF&&decide (s.length<=64)&&decide (s.head?≠some 32)&&decide (s.getLast?≠some 32)
abbrev cS:Bs:=[73,78,66,79,88]
def ja(s:Bs):Option Bs:=if vh s then some (if R8 s=cS then cS else s) else none
def gR(a b:Bs):Bool:=Op.bytesLess a b
theorem ip:∀a:Bs,gR a a=false
 |[]=>rfl
 |a::l=>by
  have:=ip l;simp only[gR] at*;simp[Op.bytesLess,this]
theorem bR:∀{a b c:Bs},gR a b=true->gR b c=true->gR a c=true
 |[],_,[],_,h=>by simp[gR,Op.bytesLess] at h
 |[],_,c::z,_,_=>rfl
 |a::x,[],_,h,_=>by simp[gR,Op.bytesLess] at h
 |a::x,b::y,[],_,h=>by simp[gR,Op.bytesLess] at h
 |a::x,b::y,c::z,h,k=>by
  have d:=@bR x y z;simp only[gR,Op.bytesLess,Zk,jw,kw,W6] at*;rcases h with h|⟨rfl,h⟩<;>rcases k with k|⟨rfl,k⟩
  ·exact .inl (UInt8.lt_trans h k)
  ·exact .inl h
  ·exact .inl k
  ·exact .inr ⟨rfl,d h k⟩
theorem dM:∀{a b:Bs},a≠b->gR a b=false->gR b a=true
 |[],[],h,_=>absurd rfl h
 |[],b::y,_,h=>by simp[gR,Op.bytesLess] at h
 |a::x,[],_,_=>rfl
 |a::x,b::y,hne,h=>by
  have c:=@dM x y;simp only[gR,Op.bytesLess,Q1,Zk,jw,Zw,kw,Bool.and_eq_false_imp,W6] at*;rcases Nat.lt_trichotomy a.toNat b.toNat with k|k|k
  ·exact absurd (UInt8.lt_iff_toNat_lt.mpr k) h.1
  ·have e:=Wz.mp k;subst e;exact .inr ⟨rfl,c (fun e=>hne (by rw[e])) (h.2 rfl)⟩
  ·exact .inl (UInt8.lt_iff_toNat_lt.mpr k)
def R5:List Bs:=[[92,65,110,115,119,101,114,101,100],[92,70,108,97,103,103,101,100],[92,68,101,108,101,116,101,100],[92,83,101,101,110],[92,68,114,97,102,116]]
def M8(f:Bs):Nat:=R5.idxOf f
def U6(a b:Bs):Bool:=if M8 a≠M8 b then decide (M8 a<M8 b) else gR a b
theorem T_(a:Bs):U6 a a=false:=by simp[U6,ip]
theorem P8{a b c:Bs}(h:U6 a b=true)(k:U6 b c=true):U6 a c=true:=by
 unfold U6 at*;split at h<;>split at k<;>split
 ·simp at*;omega
 ·simp at*;omega
 ·simp at*;omega
 ·next x y z=>simp at*;omega
 ·simp at*;omega
 ·next x y z=>simp at*;omega
 ·next x y z=>simp at*;omega
 ·exact bR h k
theorem aY{a b:Bs}(c:a≠b)(h:U6 a b=false):U6 b a=true:=by
 unfold U6 at*;split at h
 ·next k=>
  rw[zu (fun e=>k e.symm)];simp at*;omega
 ·next k=>
  rw[zk (fun e=>k (fun d=>e d.symm))];exact dM c h
def E3(s:Bs):Option Bs:=match R5.find? (fun f=>R8 f==R8 s) with
 |some f=>some f
 |none=>if iY s=true/\s.length<=32 then some (U9 s) else none
def qR(f:Bs):List Bs->List Bs
 |[]=>[f]
 |x::t=>if U6 f x then f::x::t else x::qR f t
def eY(l:List Bs)(f:Bs):List Bs:=if f∈l then l else qR f l
def S3:List Bs->Option (List Bs)
 |[]=>some []
 |s::t=>match E3 s,S3 t with
  |some c,some l=>some (c::l)
  |_,_=>none
def T3(l:List Bs):List Bs:=l.foldl eY []
def V6(names:List Bs):List Bs×Int:=match S3 names with
 |none=>([],4)
 |some l=>if 16<(T3 l).length then([],7) else(T3 l,0)
abbrev xA(l:List Bs):Prop:=l.Pairwise fun a b=>U6 a b=true
def ol:List Bs->Bool
 |a::b::t=>U6 a b&&ol (b::t)
 |_=>true
def G1(l:List Bs):Bool:=l.all (fun f=>decide (E3 f=some f))&&ol l&&decide (l.length<=16)
theorem kT:∀{l:List Bs},ol l=true->xA l
 |[],_=>.nil
 |[a],_=>by simp
 |a::b::t,h=>by
  simp only[ol,kw] at h;have k:=kT h.2;refine .cons (fun x c=>?_) k;rcases ky.mp c with rfl|c
  ·exact h.1
  ·exact P8 h.1 ((Qz.mp k).1 x c)
theorem kU:∀{l:List Bs},xA l->ol l=true
 |[],_=>rfl
 |[a],_=>rfl
 |a::b::t,h=>by
  have k:=Qz.mp h;simp only[ol,kw];exact⟨k.1 b x6,kU k.2⟩
theorem ti(f x:Bs):∀l:List Bs,x∈qR f l↔x=f\/x∈l
 |[]=>by simp[qR]
 |y::t=>by
  rw[qR];split
  ·simp
  ·simp only[ky,ti f x t];constructor
   ·rintro(h|h|h)
    ·exact .inr (.inl h)
    ·exact .inl h
    ·exact .inr (.inr h)
   ·rintro(h|h|h)
    ·exact .inr (.inl h)
    ·exact .inl h
    ·exact .inr (.inr h)
theorem Am(f:Bs):∀{l:List Bs},xA l->f∉l->xA (qR f l)
 |[],_,_=>by simp[qR]
 |y::t,h,hf=>by
  have k:=Qz.mp h;simp only[ky,not_or] at hf;rw[qR];split
  ·next b=>
   refine .cons (fun x a=>?_) h;rcases ky.mp a with rfl|a
   ·exact b
   ·exact P8 b (k.1 x a)
  ·next b=>
   refine .cons (fun x a=>?_) (Am f k.2 hf.2);rcases (ti f x t).mp a with rfl|a
   ·exact aY hf.1 (by simpa using b)
   ·exact k.1 x a
theorem FA(l:List Bs)(f x:Bs):x∈eY l f↔x=f\/x∈l:=by
 unfold eY;split
 ·next h=>
  constructor
  ·exact .inr
  ·rintro(rfl|a)
   ·exact h
   ·exact a
 ·exact ti f x l
theorem FB{l:List Bs}(h:xA l)(f:Bs):xA (eY l f):=by
 unfold eY;split
 ·exact h
 ·next k=>exact Am f h k
theorem mV:∀(l a:List Bs),xA a->xA (l.foldl eY a)/\∀x,x∈l.foldl eY a↔x∈l\/x∈a
 |[],a,h=>⟨h,fun x=>by simp⟩
 |f::t,a,h=>by
  have k:=mV t (eY a f) (FB h f);refine⟨k.1,fun x=>?_⟩;rw[Wq,k.2,FA,ky];constructor
  ·rintro(h|h|h)
   ·exact .inl (.inr h)
   ·exact .inl (.inl h)
   ·exact .inr h
  ·rintro((h|h)|h)
   ·exact .inr (.inl h)
   ·exact .inl h
   ·exact .inr (.inr h)
theorem mW(l:List Bs):xA (T3 l):=(mV l [] .nil).1
theorem tj(l:List Bs)(x:Bs):x∈T3 l↔x∈l:=by rw[T3,(mV l [] .nil).2];simp
theorem xT:∀{a b:List Bs},xA a->xA b->(∀x,x∈a↔x∈b)->a=b
 |[],[],_,_,_=>rfl
 |[],y::t,_,_,h=>by have:=(h y).mpr x6;simp at this
 |x::t,[],_,_,h=>by have:=(h x).mp x6;simp at this
 |x::a,y::b,ha,hb,h=>by
  have d:=Qz.mp ha;have f:=Qz.mp hb;have e:x=y:=by
   rcases ky.mp ((h x).mp x6) with e|g
   ·exact e
   ·rcases ky.mp ((h y).mpr x6) with e|i
    ·exact e.symm
    ·have j:=f.1 x g;have k:=d.1 y i;have:=P8 j k;rw[T_] at this
     cases this
  subst e;congr 1;refine xT d.2 f.2 fun z=>?_;constructor
  ·intro hz;rcases ky.mp ((h z).mp (jj _ hz)) with e|c
   ·subst e;have:=d.1 z hz;rw[T_] at this;cases this
   ·exact c
  ·intro hz;rcases ky.mp ((h z).mpr (jj _ hz)) with e|c
   ·subst e;have:=f.1 z hz;rw[T_] at this;cases this
   ·exact c
theorem CG{l:List Bs}(h:xA l):T3 l=l:=xT (mW l) h (tj l)
theorem ON(c:UInt8):rB (io c)=rB c:=by
 unfold rB io;have:=c.toNat_lt;split
 ·next h=>
  have e:(c+32).toNat=c.toNat+32:=by rw[Wk];simp;omega
  rw[e,zu qb,zk qb];apply Wz.mp;rw[UInt8.toNat_sub,e];simp;omega
 ·rfl
theorem KC(c:UInt8):io (io c)=io c:=by
 unfold io;have:=c.toNat_lt;split
 ·next h=>
  have e:(c+32).toNat=c.toNat+32:=by rw[Wk];simp;omega
  rw[e,zk qb]
 ·rfl
theorem KD(s:Bs):R8 (U9 s)=R8 s:=by simp[R8,U9,ON]
theorem FC(s:Bs):U9 (U9 s)=U9 s:=by simp[U9,KC]
theorem FD{c:UInt8}(h:P1 c=true):P1 (io c)=true:=by
 unfold io;have:=c.toNat_lt;split
 ·next k=>
  have e:(c+32).toNat=c.toNat+32:=by rw[Wk];simp;omega
  have a:∀d:UInt8,d.toNat<97\/122<d.toNat->c+32≠d:=fun d f b=>by
   have:=jk UInt8.toNat b;rw[e] at this;omega
  unfold P1;simp[e];refine⟨⟨by omega,by omega⟩,?_⟩;refine⟨a _ ?_,a _ ?_,a _ ?_,a _ ?_,a _ ?_,a _ ?_,a _ ?_,a _ ?_⟩<;>decide
 ·exact h
theorem FE{s:Bs}(h:iY s=true):iY (U9 s)=true:=by
 unfold iY at*;simp only[kw,Qv,Zn,List.isEmpty_eq_false_iff] at*;refine⟨fun c hc=>?_,by simpa[U9] using h.2⟩;obtain⟨d,a,rfl⟩:=jx.mp hc;exact FD (h.1 d a)
theorem CH:∀f∈R5,E3 f=some f:=by decide
theorem vi{s c:Bs}(h:E3 s=some c):E3 c=some c:=by
 unfold E3 at h;split at h
 ·next f hf=>
  cases h
  exact CH _ (Kg hf)
 ·next hf=>
  split at h
  ·next k=>
   cases h
   unfold E3;rw[KD,hf,FC];exact zu ⟨FE k.1,by simpa[U9] using k.2⟩
  ·cases h
theorem lS:∀{l cs:List Bs},S3 l=some cs->∀c∈cs,E3 c=some c
 |[],cs,h=>by simp[S3] at h;subst h;simp
 |s::t,cs,h=>by
  rw[S3] at h;split at h
  ·next c l hc hl=>
   cases h
   intro x hx;rcases ky.mp hx with rfl|hx
   ·exact vi hc
   ·exact lS hl x hx
  ·cases h
theorem FF{l:List Bs}(a:∀f∈l,E3 f=some f)(b:xA l)(c:l.length<=16):G1 l=true:=by
 unfold G1;simp only[kw,Qv,jw];exact⟨⟨a,kU b⟩,c⟩
theorem je{l:List Bs}(h:G1 l=true):(∀f∈l,E3 f=some f)/\xA l/\l.length<=16:=by
 unfold G1 at h;simp only[kw,Qv,jw] at h;exact⟨h.1.1,kT h.1.2,h.2⟩
theorem xU{a l:List Bs}(h:V6 a=(l,0)):G1 l=true:=by
 unfold V6 at h;split at h
 ·cases h
 ·next b hc=>
  split at h
  ·cases h
  ·next k=>
   simp at h;subst h;exact FF (fun f hf=>lS hc f ((tj b f).mp hf)) (mW b) qb
def eZ(b:Bs):List Bs->Bs
 |[]=>[]
 |[x]=>x
 |x::t=>x++b++eZ b t
def H7:Bs->List Bs
 |[]=>[[]]
 |c::t=>if c=32 then[]::H7 t else match H7 t with
  |[]=>[[c]]
  |w::ws=>(c::w)::ws
def T4(s:Bs):List Bs×Nat×Int:=
 let e:=(s.takeWhile fun c=>c !=41).length
 if s.head? =some 40/\e<s.length then
  let inner:=(s.take e).drop 1
  let m:=V6 (if inner=[] then[] else H7 inner)
  if m.2=0 then(m.1,e+1,0) else([],0,m.2)
 else([],0,4)
theorem om:∀(w:Bs),(∀c∈w,c≠32)->H7 w=[w]
 |[],_=>rfl
 |c::t,h=>by rw[H7,zk (h c x6),om t fun x hx=>h x (jj _ hx)]
theorem ot:∀(w r:Bs),(∀c∈w,c≠32)->H7 (w++32::r)=w::H7 r
 |[],r,_=>by simp[H7]
 |c::t,r,h=>by rw[Q7,H7,zk (h c x6),ot t r fun x hx=>h x (jj _ hx)]
theorem lT{s:Bs}{l:List Bs}{n:Nat}(h:T4 s=(l,n,0)):G1 l=true:=by
 unfold T4 at h
 dsimp only at h
 split at h
 ·generalize hm:V6 _=m at h;split at h
  ·next k=>
   have a:m.1=l:=jk (fun q=>q.1) h;exact xU (hm.trans (Prod.ext a k))
  ·next k=>exact absurd (jk (fun q=>q.2.2) h) k
 ·exact absurd (jk (fun q=>q.2.2) h) x6
/- the reference's reading -/
structure RV where
 kind:Int
 n:Nat
 a5U:List Bs
 text:Bs
 part:Bool
 fr:Nat
abbrev V0:RV:=⟨0,0,[],[],false,0⟩
structure RR where
 kind:Int
 tag:Bs
 code:Bs
 text:Bs
 n:Nat
 nums:List Nat
 mod:Nat
 a5U:List Bs
 box:Bs
 values:List RV
abbrev R0:RR:=⟨0,[],[],[],0,[],0,[],[],[]⟩
def Rv:List Bs:=[[77,69,83,83,65,71,69,83],[85,73,68,78,69,88,84],[85,73,68,86,65,76,73,68,73,84,89],[85,78,83,69,69,78],[72,73,71,72,69,83,84,77,79,68,83,69,81],[70,76,65,71,83],[85,73,68],[82,70,67,56,50,50,46,83,73,90,69],[77,79,68,83,69,81],[66,79,68,89,91,93],[66,79,68,89,91,72,69,65,68,69,82,93],[66,79,68,89,91,84,69,88,84,93]]
def FG:List Bs:=[[79,75],[78,79],[66,65,68],[66,89,69]]
abbrev FH:Bs:=[42,32,67,65,80,65,66,73,76,73,84,89,32,73,77,65,80,52,114,101,118,49,32,69,78,65,66,76,69,32,67,79,78,68,83,84,79,82,69]
abbrev a03:Bs:=[42,32,69,78,65,66,76,69,68,32,67,79,78,68,83,84,79,82,69]
abbrev OO:Bs:=[13,10]
structure RS where
 p:Nat
 ok:Bool
def mC(s w:Bs)(st:RS):Bool×RS:=if st.ok=true/\w.isPrefixOf (s.drop st.p)=true then(true,⟨st.p+w.length,st.ok⟩) else(false,st)
def FJ(s w:Bs)(st:RS):RS:=⟨(mC s w st).2.p,(mC s w st).1⟩
def FK(stops:Bs)(r:Bs):Bs:=r.takeWhile fun c=>!stops.contains c
def ou(s stops:Bs)(st:RS):Bs×RS:=if st.ok=true then(FK stops (s.drop st.p),⟨st.p+(FK stops (s.drop st.p)).length,st.ok⟩) else([],st)
def gg(c:UInt8):Bool:=decide (32<=c.toNat)&&decide (c.toNat<=126)
def kV(t:Bs):Bool:=t.all gg&&!t.isEmpty&&decide (t.length<=512)
def Rw(k:Nat):Bs:=Rv.getD (k-1) []
def countP(v:RV):Bs:=Rw v.kind.toNat++32::R1 v.n
/- which may be -/
theorem CI(b x:Bs){t:List Bs}(h:t≠[]):eZ b (x::t)=x++b++eZ b t:=by
 cases t with
 |nil=>exact absurd rfl h
 |cons y t=>rfl
end Go.Proofs.YtmcepdopookilaaGreatDoor.Rp
namespace Go.Sl
open Go Go.RowKit Go.Proofs.Tryz
structure P3(s:List Nat)(p:Prop):Prop where
 out:p
theorem P3.step{i:Nat}{s:List Nat}{p:Prop}(h:P3 (i::s) p):P3 s p:=⟨h.out⟩
theorem P3.chk{s:List Nat}{p:Prop}(h:P3 (0::s) p):True:=trivial
theorem P3.pos{i:Nat}{s:List Nat}{p:Prop}(h:P3 (i::s) p):True:=trivial
theorem P3.chk0{p:Prop}(h:P3 [] p):True:=trivial
theorem P3.nb{p:Prop}(h:P3 [7] p):p:=h.out
theorem P3.last{i:Nat}{p:Prop}(h:P3 [i] p):p:=h.out
theorem P3.none{p:Prop}(h:P3 [] p):p:=h.out
theorem ud{H H' a:List As}{x:As}(u:M3 H x a H':=by(repeat (first|exact .del|apply M3.there))):M3 H x a H':=u
theorem uh{H H' a:List As}{x:As}(u:M3 H x a H':=by(repeat (first|exact .here|apply M3.there))):M3 H x a H':=u
theorem sub{L' L:G0}(h:fo L' L:=by(repeat (first|exact fo.nil _|refine fo.cons rfl ?_))):fo L' L:=h
theorem Rx{p:Prop}(h:p:=by(first|omega|(simp only[zz,zy,zn,zm,z8,zr,Kv];omega)|(simp only[zz,zy,zn,zm,z8,zr,Kv] at*;omega))):p:=h
inductive dO:List Value->Nat->List Value->List Value->Prop
 |nil {l:List Value}:dO l 0 [] l
 |here {x v:Value} {l vs l':List Value}:dO l 0 vs l'->dO (x::l) 0 (v::vs) (v::l')
 |there {x:Value} {l vs l':List Value} {n:Nat}:dO l n vs l'->dO (x::l) (n+1) vs (x::l')
theorem dO.put{l vs l':List Value}{n:Nat}(h:dO l n vs l'):n+vs.length<=l.length/\l'=l.take n++vs++l.drop (n+vs.length):=by
 induction h with
 |nil=>simp
 |here _ ih=>simp only[zy,Kx,j7,jv] at ih⊢;exact⟨by omega,by rw[ih.2];simp⟩
 |there _ ih=>
  refine⟨by simp only[zy];omega,?_⟩;rw[ih.2];rename_i x l vs l' n h;have:n+1+vs.length=(n+vs.length)+1:=by omega
  rw[this];simp
inductive dP:List Value->Nat->Nat->List Value->Prop
 |nil {l:List Value}:dP l 0 0 []
 |here {x:Value} {l vs:List Value} {k:Nat}:dP l 0 k vs->dP (x::l) 0 (k+1) (x::vs)
 |there {x:Value} {l vs:List Value} {n k:Nat}:dP l n k vs->dP (x::l) (n+1) k vs
theorem dP.get{l vs:List Value}{n k:Nat}(h:dP l n k vs):n+k<=l.length/\vs=(l.drop n).take k:=by
 induction h with
 |nil=>simp
 |here _ ih=>simp only[zy,Ky,jv] at ih⊢;exact⟨by omega,by rw[ih.2];simp⟩
 |there _ ih=>exact⟨by simp only[zy];omega,by simpa using ih.2⟩
theorem pa{l vs l':List Value}{n:Nat}(h:dO l n vs l':=by(repeat (first|exact .nil|apply dO.here|apply dO.there))):dO l n vs l':=h
theorem ga{l vs:List Value}{n k:Nat}(h:dP l n k vs:=by(repeat (first|exact .nil|apply dP.here|apply dP.there))):dP l n k vs:=h
section
variable{P:Program}{N:Nat}{K R:y6}{E:List (Nat×y6)}{L:G0}{F:l6}{H:List As}{ops:Array Oper}{rest:List Oper}{ty:TypeId}{pos:String}{af:Array Edge}{dst:Option Nat}{gd:Option (Nat×Bool)}
variable{x y:Operand}{t t':TypeId}{d:Nat}
theorem X5{b o:Nat}{l:List Value}{te:TypeId}{fr:Nat×Nat}{v:Value}{H':List As}[ha:HA P t false](hx:ev L x=some (.pointer (some ⟨b,o,none⟩)))(u:M3 H (.blk b (.cells l.toArray te fr)) [] H')(hv:l[o]? =some v):dv P ⟨dst,.load t x,ty,pos,af,gd⟩ L F H v:=
 E8 hx u (by simpa using hv)
theorem gh{b o n:Nat}{l vs:List Value}{te:TypeId}{fr:Nat×Nat}{H':List As}[ha:HA P t true][hs:HS P t n](hx:ev L x=some (.pointer (some ⟨b,o,none⟩)))(u:M3 H (.blk b (.cells l.toArray te fr)) [] H')(hv:dP l o n vs):dv P ⟨dst,.load t x,ty,pos,af,gd⟩ L F H (.agg vs.toArray):=by
 have h:=hv.get;have a:=fp (P:=P) (F:=F) (dst:=dst) (ty:=ty) (pos:=pos) (af:=af) (gd:=gd) (t:=t) (n:=n) hx u (by simpa[Jd] using h.1)
 rwa [show sl l.toArray o n=vs from by rw[h.2];simp[sl]] at a
theorem cd{b o:Nat}{l l':List Value}{v:Value}{te:TypeId}{H':List As}[ha:HA P t false][hs:HS P t 1](hx:ev L x=some (.pointer (some ⟨b,o,none⟩)))(c:ev L y=some v)(u:M3 H (.blk b (.cells l.toArray te (0,0))) [.blk b (.cells l'.toArray te (0,0))] H')(hp:dO l o [v] l')(hc:v.cells=#[v])(d:v.oneCell'=true)(h:GL P N ops rest K E R L F H'):GL P N ops (⟨none,.store t x y,ty,pos,af,none⟩::rest) K E R L F H:=by
 have k:=hp.put;refine I6 (cs:=l.toArray) (te:=te) (n:=1) hx c ?_ (by rw[hc];rfl) (fun q a=>by rw[hc] at a;simp at a;subst a;exact d) (by simpa using k.1) h;rw[show eC l.toArray o v.cells.toList=l'.toArray from by rw[hc,k.2];simp[eC]];exact u
theorem FL{b o n:Nat}{l l' vs:List Value}{te:TypeId}{H':List As}[hs:HS P t n](hx:ev L x=some (.pointer (some ⟨b,o,none⟩)))(a:ev L y=some (.agg vs.toArray))(u:M3 H (.blk b (.cells l.toArray te (0,0))) [.blk b (.cells l'.toArray te (0,0))] H')(hp:dO l o vs l')(c:Nat.beq vs.length n=true)(d:(vs.all fun q=>q.oneCell')=true)(h:GL P N ops rest K E R L F H'):GL P N ops (⟨none,.store t x y,ty,pos,af,none⟩::rest) K E R L F H:=by
 have k:=hp.put;have e:=jr c;refine I6 (cs:=l.toArray) (te:=te) (n:=n) hx a ?_ (by simpa[Value.cells] using e) (fun q f=>Qv.1 d q (by simpa[Value.cells] using f)) (by simp;omega) h;rw[show eC l.toArray o (Value.agg vs.toArray).cells.toList=l'.toArray from by rw[k.2];simp[eC,Value.cells]];exact u
theorem kW{l l':List UInt8}(hx:ev L x=some (B l))(a:ev L y=some (B l')):E2 P ⟨dst,.binOp .geq t x y t',ty,pos,af,gd⟩ L (.bool (!Op.bytesLess l l')):=
 L4 hx a (fun w=>by simp only[eqGuard_at_string,binOp_string_geq,ByteArray.toList_mk];rfl)
theorem kX{l l':List UInt8}(hx:ev L x=some (B l))(a:ev L y=some (B l')):E2 P ⟨dst,.binOp .leq t x y t',ty,pos,af,gd⟩ L (.bool (Op.bytesLess l l'||l==l')):=
 L4 hx a (fun w=>by simp only[eqGuard_at_string,binOp_string_leq,ByteArray.toList_mk];rfl)
theorem ce{z:Value}[hz:HZ P t z](hc:z.cells=#[z])(a:Nat.blt d N=true)(h:∀g,GL P N ops rest K E R ((d,.pointer (some ⟨g,0,none⟩))::L) F (.blk g (.cells [z].toArray t)::H)):
  GL P N ops (⟨some d,.alloc t,ty,pos,af,none⟩::rest) K E R L F H:=uR a (by rw[hc];exact h)
theorem L2{v:Value}(hx:ev L x=some v)(hc:v.cells=#[v])(a:Nat.blt d N=true)(h:∀g,GL P N ops rest K E R ((d,.pointer (some ⟨g,0,none⟩))::L) F (.blk g (.cells [v].toArray t)::H)):
  GL P N ops (⟨some d,.box t x,ty,pos,af,none⟩::rest) K E R L F H:=Fc hx a (by rw[hc];exact h)
end
section
variable{P:Program}{L:G0}{v:Value}{dst:Option Nat}{ty:TypeId}{pos:String}{af:Array Edge}{gd:Option (Nat×Bool)}{x y c:Operand}{t t1 t2:TypeId}{i:Nat}{lo hi mx:Option Operand}{fnn:_root_.Go.Fn}{p q:Array Operand}{tys:Array TypeId}{bps:Array (Nat×Operand)}
theorem vj(h:E2 P ⟨dst,.fieldAddr t x i,ty,pos,af,gd⟩ L v):E2 P ⟨dst,.fieldAddr t x i,ty,pos,af,gd⟩ L v:=h
theorem xV(h:E2 P ⟨dst,.nilCheck x,ty,pos,af,gd⟩ L v):E2 P ⟨dst,.nilCheck x,ty,pos,af,gd⟩ L v:=h
theorem OP(h:E2 P ⟨dst,.pick c x y,ty,pos,af,gd⟩ L v):E2 P ⟨dst,.pick c x y,ty,pos,af,gd⟩ L v:=h
theorem Ry(h:E2 P ⟨dst,.call ⟨.builtin .len,#[x],#[t]⟩,ty,pos,af,gd⟩ L v):E2 P ⟨dst,.call ⟨.builtin .len,#[x],#[t]⟩,ty,pos,af,gd⟩ L v:=h
theorem Rz(h:E2 P ⟨dst,.unOp .neg t x,ty,pos,af,gd⟩ L v):E2 P ⟨dst,.unOp .neg t x,ty,pos,af,gd⟩ L v:=h
theorem vk(h:E2 P ⟨dst,.indexAddr t x y,ty,pos,af,gd⟩ L v):E2 P ⟨dst,.indexAddr t x y,ty,pos,af,gd⟩ L v:=h
theorem KE(h:E2 P ⟨dst,.index t x y,ty,pos,af,gd⟩ L v):E2 P ⟨dst,.index t x y,ty,pos,af,gd⟩ L v:=h
theorem KF(h:E2 P ⟨dst,.slice t x lo hi mx,ty,pos,af,gd⟩ L v):E2 P ⟨dst,.slice t x lo hi mx,ty,pos,af,gd⟩ L v:=h
theorem xW(h:E2 P ⟨dst,.makeFunc fnn p q,ty,pos,af,gd⟩ L v):E2 P ⟨dst,.makeFunc fnn p q,ty,pos,af,gd⟩ L v:=h
theorem CJ(h:E2 P ⟨dst,.convert t t1 x,ty,pos,af,gd⟩ L v):E2 P ⟨dst,.convert t t1 x,ty,pos,af,gd⟩ L v:=h
theorem KG(h:E2 P ⟨dst,.build t bps,ty,pos,af,gd⟩ L v):E2 P ⟨dst,.build t bps,ty,pos,af,gd⟩ L v:=h
theorem RA(h:E2 P ⟨dst,.binOp .add t x y t2,ty,pos,af,gd⟩ L v):E2 P ⟨dst,.binOp .add t x y t2,ty,pos,af,gd⟩ L v:=h
theorem RB(h:E2 P ⟨dst,.binOp .sub t x y t2,ty,pos,af,gd⟩ L v):E2 P ⟨dst,.binOp .sub t x y t2,ty,pos,af,gd⟩ L v:=h
theorem RC(h:E2 P ⟨dst,.binOp .mul t x y t2,ty,pos,af,gd⟩ L v):E2 P ⟨dst,.binOp .mul t x y t2,ty,pos,af,gd⟩ L v:=h
theorem RD(h:E2 P ⟨dst,.binOp .quo t x y t2,ty,pos,af,gd⟩ L v):E2 P ⟨dst,.binOp .quo t x y t2,ty,pos,af,gd⟩ L v:=h
theorem RE(h:E2 P ⟨dst,.binOp .rem t x y t2,ty,pos,af,gd⟩ L v):E2 P ⟨dst,.binOp .rem t x y t2,ty,pos,af,gd⟩ L v:=h
theorem RF(h:E2 P ⟨dst,.binOp .xor t x y t2,ty,pos,af,gd⟩ L v):E2 P ⟨dst,.binOp .xor t x y t2,ty,pos,af,gd⟩ L v:=h
theorem RG(h:E2 P ⟨dst,.binOp .shl t x y t2,ty,pos,af,gd⟩ L v):E2 P ⟨dst,.binOp .shl t x y t2,ty,pos,af,gd⟩ L v:=h
theorem RH(h:E2 P ⟨dst,.binOp .shr t x y t2,ty,pos,af,gd⟩ L v):E2 P ⟨dst,.binOp .shr t x y t2,ty,pos,af,gd⟩ L v:=h
theorem RI(h:E2 P ⟨dst,.binOp .eql t x y t2,ty,pos,af,gd⟩ L v):E2 P ⟨dst,.binOp .eql t x y t2,ty,pos,af,gd⟩ L v:=h
theorem RJ(h:E2 P ⟨dst,.binOp .neq t x y t2,ty,pos,af,gd⟩ L v):E2 P ⟨dst,.binOp .neq t x y t2,ty,pos,af,gd⟩ L v:=h
theorem RK(h:E2 P ⟨dst,.binOp .lss t x y t2,ty,pos,af,gd⟩ L v):E2 P ⟨dst,.binOp .lss t x y t2,ty,pos,af,gd⟩ L v:=h
theorem RN(h:E2 P ⟨dst,.binOp .leq t x y t2,ty,pos,af,gd⟩ L v):E2 P ⟨dst,.binOp .leq t x y t2,ty,pos,af,gd⟩ L v:=h
theorem RO(h:E2 P ⟨dst,.binOp .geq t x y t2,ty,pos,af,gd⟩ L v):E2 P ⟨dst,.binOp .geq t x y t2,ty,pos,af,gd⟩ L v:=h
end
section
variable{P:Program}{N:Nat}{K R:y6}{E:List (Nat×y6)}{L:G0}{F:l6}{H:List As}{ops:Array Oper}{rest:List Oper}{ty:TypeId}{pos:String}{af:Array Edge}{dst:Option Nat}{gd:Option (Nat×Bool)}{x y:Operand}{t t':TypeId}{d:Nat}{op:Op}{jb:Nat×Bool}
theorem OQ(h:GL P N ops (⟨some d,.load t x,ty,pos,af,gd⟩::rest) K E R L F H):GL P N ops (⟨some d,.load t x,ty,pos,af,gd⟩::rest) K E R L F H:=h
theorem KH(h:GL P N ops (⟨none,.store t x y,ty,pos,af,none⟩::rest) K E R L F H):GL P N ops (⟨none,.store t x y,ty,pos,af,none⟩::rest) K E R L F H:=h
theorem KI(h:GL P N ops (⟨some d,.alloc t,ty,pos,af,none⟩::rest) K E R L F H):GL P N ops (⟨some d,.alloc t,ty,pos,af,none⟩::rest) K E R L F H:=h
theorem RP(h:GL P N ops (⟨some d,.box t x,ty,pos,af,none⟩::rest) K E R L F H):GL P N ops (⟨some d,.box t x,ty,pos,af,none⟩::rest) K E R L F H:=h
theorem RT{n:Nat}{a:Array (Nat×Operand)}(h:GL P N ops (⟨some d,.buildSlice t n a,ty,pos,af,none⟩::rest) K E R L F H):GL P N ops (⟨some d,.buildSlice t n a,ty,pos,af,none⟩::rest) K E R L F H:=h
theorem KJ(h:GL P N ops (⟨some d,op,ty,pos,af,some jb⟩::rest) K E R L F H):GL P N ops (⟨some d,op,ty,pos,af,some jb⟩::rest) K E R L F H:=h
theorem KK(h:GL P N ops (⟨some d,op,ty,pos,af,none⟩::rest) K E R L F H):GL P N ops (⟨some d,op,ty,pos,af,none⟩::rest) K E R L F H:=h
end
class RU(P:Program)(t:TypeId)(fs:outParam (Array Field))(places:outParam (List (Nat×Nat))):Prop where
 hu:P.underlying t=some (.struct fs)
 hp:fs.toList.map (fun f=>(f.offset,P.cellsOf f.type))=places
 hin:(fs.toList.all fun f=>(P.info? f.type).isSome)=true
theorem y8{P:Program}{L:G0}{dst:Option Tmp}{ty t:TypeId}{pos:String}{af:Array Edge}{gd:Option (Nat×Bool)}{fs:Array Field}{a:List (Nat×Nat)}{z:Value}{ps:List (Nat×Operand)}{vs:List (Nat×Value)}{cells:Array Value}[hb:RU P t fs a][hz:HZ P t z](hx:Aa L ps=some vs)(b:Instr.fill (a[·]?) z.cells vs=some cells):E2 P ⟨dst,.build t ps.toArray,ty,pos,af,gd⟩ L (.agg cells):=
 have:HU P t (.struct fs):=⟨hb.hu⟩
 cN hx (kR (fs:=fs) hb.hp (fun f hf=>Qv.1 hb.hin f hf) b)
section
variable{P:Program}{L:G0}{F:l6}{H:List As}{o:Oper}{v:Value}
theorem oF(h:E2 P o L v:=by(first
 |exact az rfl
 |exact uO rfl
 |exact vj (by first|exact uP rfl (by rfl) (by infer_instance) qp|exact qK rfl (by assumption) (by rfl) (by infer_instance) qp)
 |exact xV (by first|exact xM rfl|exact sX rfl (by assumption))
 |exact RI (by first|exact p8 rfl rfl|exact B_ rfl rfl|exact nL rfl rfl|exact Cs rfl rfl|exact lP rfl rfl)
 |exact OP (by first|exact Fg rfl rfl|exact Fh rfl rfl)
 |exact Ry (by first|exact Cp rfl|exact Fe rfl)
 |exact RK (by exact E_ rfl rfl)
 |exact RA (by first|exact p9 rfl rfl qb|exact K_ rfl rfl qb|exact G9 rfl rfl Rx)
 |exact vk (by first|exact m8 rfl (by assumption) rfl qb|exact bt rfl rfl qb)
 |exact RB (by first|exact E0 rfl rfl qb|exact Ci rfl rfl qb)
 |exact Ro rfl
 |exact T8 rfl rfl
 |exact RO (by first|exact I4 rfl rfl|exact kW rfl rfl)
 |exact RJ (by first|exact M1 rfl rfl|exact E1 rfl rfl|exact nM rfl rfl)
 |exact RN (by first|exact F_ rfl rfl|exact kX rfl rfl)
 |exact D_ rfl rfl
 |exact CJ (by first|exact bu rfl qb|exact z_ rfl qb|exact bW rfl qb)
 |exact KE (by exact A6 rfl rfl qb)
 |exact KF (by exact H5 rfl rfl rfl Rx)
 |exact xW (by exact nO rfl rfl)
 |exact KG (by exact y8 rfl (by rfl))
 |exact Ff rfl rfl
 |exact nP rfl rfl
 |exact Rz (by exact Rn rfl qb)
 |exact RC (by first|exact Ch rfl rfl qb|exact rr rfl rfl qb)
 |exact RD (by exact Cn rfl rfl qb)
 |exact RE (by exact Co rfl rfl qb)
 |exact RF (by exact kQ (.inr (.inr (.inl rfl))) rfl rfl)
 |exact RG (by exact zZ rfl rfl qb)
 |exact RH (by exact NJ rfl rfl qb)
 |exact NK rfl)):E2 P o L v:=h
theorem oR(h:dv P o L F H v:=by(first
 |exact X5 rfl ud rfl
 |exact gh rfl ud ga
 |exact lQ rfl ud (by rfl)
 |exact E8 rfl ud (by rfl)
 |exact fp rfl ud (by rfl)
 |exact i8 rfl (fun w a=>vd a (by assumption) rfl)
 |exact w8 rfl (fun w a=>OI a (by assumption)) (by rfl))):dv P o L F H v:=h
end
section
variable{P:Program}{N:Nat}{K R:y6}{E:List (Nat×y6)}{L:G0}{F:l6}{H Hk:List As}{ops:Array Oper}{rs:Rs}{done:List Nat}{n d:Nat}{i:Nat}{s:List Nat}{p:Prop}{o oj:Oper}{v:Value}{x:As}{H':List As}{j t:Nat}{b q:Bool}
theorem OR(h:P3 (i::s) p)(b:ops[i]? =some o)(f:E2 P o L v)(hg:o.guard=none)(a:o.dst=some d)(c:Nat.blt d N=true)(hc:N6 ops rs done i=true)(k:P3 s p->GA P N ops rs Hk n (i::done) K E R ((d,v)::L) F H)(hE:E.lookup 1=none:=by rfl):GA P N ops rs Hk (n+1) done K E R L F H:=Af i b f hg a c hc (k h.step) hE
theorem FM(h:P3 (i::s) p)(c:ops[i]? =some o)(f:E2 P o L v)(hg:o.guard=some (j,b))(e:ops[j]? =some oj)(g:oj.dst=some t)(hv:find L t=some (.bool b))(a:o.dst=some d)(l:Nat.blt d N=true)(hc:N6 ops rs done i=true)(k:P3 s p->GA P N ops rs Hk n (i::done) K E R ((d,v)::L) F H)(hE:E.lookup 1=none:=by rfl):GA P N ops rs Hk (n+1) done K E R L F H:=F6 i c f hg e g hv a l hc (k h.step) hE
theorem OS(h:P3 (i::s) p)(e:ops[i]? =some o)(hg:o.guard=some (j,b))(f:ops[j]? =some oj)(g:oj.dst=some t)(hv:find L t=some (.bool q))(c:q=!b)(a:o.dst=some d)(l:Nat.blt d N=true)(hc:N6 ops rs done i=true)(k:P3 s p->GA P N ops rs Hk n (i::done) K E R ((d,undef)::L) F H)(hE:E.lookup 1=none:=by rfl):GA P N ops rs Hk (n+1) done K E R L F H:=Ag i e hg f g hv c a l hc (k h.step) hE
theorem CK(h:P3 (i::s) p)(c:ops[i]? =some o)(hg:o.guard=some (j,b))(e:ops[j]? =some oj)(f:oj.dst=some t)(hv:find L t=some undef)(a:o.dst=some d)(g:Nat.blt d N=true)(hc:N6 ops rs done i=true)(k:P3 s p->GA P N ops rs Hk n (i::done) K E R ((d,undef)::L) F H)(hE:E.lookup 1=none:=by rfl):GA P N ops rs Hk (n+1) done K E R L F H:=nW i c hg e f hv a g hc (k h.step) hE
theorem FN(h:P3 (i::s) p)(b:ops[i]? =some o)(u:M3 H x [] H')(f:dv P o L F [x] v)(hg:o.guard=none)(a:o.dst=some d)(c:Nat.blt d N=true)(hc:aa ops rs done i=true)(k:P3 s p->GA P N ops rs H n (i::done) K E R ((d,v)::L) F H)(hE:E.lookup 1=none:=by rfl):GA P N ops rs H (n+1) done K E R L F H:=bI i b u f hg a c hc (k h.step) hE
theorem vn(h:P3 (i::s) p)(c:ops[i]? =some o)(u:M3 H x [] H')(f:dv P o L F [x] v)(hg:o.guard=some (j,b))(e:ops[j]? =some oj)(g:oj.dst=some t)(hv:find L t=some (.bool b))(a:o.dst=some d)(l:Nat.blt d N=true)(hc:aa ops rs done i=true)(k:P3 s p->GA P N ops rs H n (i::done) K E R ((d,v)::L) F H)(hE:E.lookup 1=none:=by rfl):GA P N ops rs H (n+1) done K E R L F H:=Cy i c u f hg e g hv a l hc (k h.step) hE
theorem vo(h:P3 (i::s) p)(b:ops[i]? =some o)(hx:x∈Hk)(f:dv P o L F [x] v)(c:∀y∈Hk,y∈H)(hg:o.guard=none)(a:o.dst=some d)(e:Nat.blt d N=true)(hc:aa ops rs done i=true)(k:P3 s p->GA P N ops rs Hk n (i::done) K E R ((d,v)::L) F H)(hE:E.lookup 1=none:=by rfl):GA P N ops rs Hk (n+1) done K E R L F H:=n9 i b hx f c hg a e hc (k h.step) hE
theorem rC(h:P3 (i::s) p)(c:ops[i]? =some o)(hx:x∈Hk)(f:dv P o L F [x] v)(e:∀y∈Hk,y∈H)(hg:o.guard=some (j,b))(g:ops[j]? =some oj)(l:oj.dst=some t)(hv:find L t=some (.bool b))(a:o.dst=some d)(m:Nat.blt d N=true)(hc:aa ops rs done i=true)(k:P3 s p->GA P N ops rs Hk n (i::done) K E R ((d,v)::L) F H)(hE:E.lookup 1=none:=by rfl):GA P N ops rs Hk (n+1) done K E R L F H:=B0 i c hx f e hg g l hv a m hc (k h.step) hE
theorem KL(h:P3 (i::s) p)(b:ops[i]? =some o)(f:dv P o L F [] v)(c:∀y∈Hk,y∈H)(hg:o.guard=none)(a:o.dst=some d)(e:Nat.blt d N=true)(hc:aa ops rs done i=true)(k:P3 s p->GA P N ops rs Hk n (i::done) K E R ((d,v)::L) F H)(hE:E.lookup 1=none:=by rfl):GA P N ops rs Hk (n+1) done K E R L F H:=M4 i b f c hg a e hc (k h.step) hE
theorem CN(h:P3 (i::s) p)(c:ops[i]? =some o)(f:dv P o L F [] v)(e:∀y∈Hk,y∈H)(hg:o.guard=some (j,b))(g:ops[j]? =some oj)(l:oj.dst=some t)(hv:find L t=some (.bool b))(a:o.dst=some d)(m:Nat.blt d N=true)(hc:aa ops rs done i=true)(k:P3 s p->GA P N ops rs Hk n (i::done) K E R ((d,v)::L) F H)(hE:E.lookup 1=none:=by rfl):GA P N ops rs Hk (n+1) done K E R L F H:=il i c f e hg g l hv a m hc (k h.step) hE
theorem RW(h:P3 (i::s) p)(b:ops[i]? =some o)(c:(Region.ready .any ops (A7 ops.size done)==[i])=true)(k:GL P N ops [o] (fun a w=>(dw ops rs (A7 ops.size done) i=true->True->U5 F Hk w)/\ik P ops (MQ K E R) (fun w=>U5 F Hk w) (dw ops rs) n (A7 ops.size (i::done)) a w) (pE E) (fun _ _=>False) L F H):GA P N ops rs Hk (n+1) done K E R L F H:=h_ i b c k
theorem I5(h:∀y∈Hk,y∈H:=by(first|exact fun _ h=>h|(repeat (first|exact sZ|refine oe (by repeat (first|exact List.Mem.head _|apply List.Mem.tail)) ?_)))):∀y∈Hk,y∈H:=h
theorem TY(h:x∈Hk:=by(repeat (first|exact List.Mem.head _|apply List.Mem.tail))):x∈Hk:=h
end
inductive x8:List As->List As->List As->Prop
 |nil {H:List As}:x8 [] H H
 |cons {x:As} {C H H1 R:List As}:M3 H x [] H1->x8 C H1 R->x8 (x::C) H R
theorem x8.hp{C H R:List As}(h:x8 C H R){F:l6}{w:World}(a:Hp F w H):Hp F w (C++R):=by
 have k:H.Perm (C++R):=by
  clear a
  induction h with
  |nil=>exact .refl _
  |cons u _ ih=>exact(u.perm rfl).trans (ih.cons _)
 exact a.perm k
theorem tk{C H R:List As}(h:x8 C H R:=by(repeat (first|exact .nil|(apply x8.cons;exact ud)))):x8 C H R:=h
section
variable{P:Program}{N:Nat}{K R:y6}{E:List (Nat×y6)}{L:G0}{F:l6}{H Hk:List As}{ops:Array Oper}{rest:List Oper}{o:Oper}{c:Code}{rs:Rs}{done:List Nat}{n j d t:Nat}{b:Bool}{op:Op}{ty:TypeId}{pos:String}{af:Array Edge}{dst:Option Nat}{x:Operand}
theorem a04(h:GL P N ops (o::rest) K E R L F H):GL P N ops (o::rest) K E R L F H:=h
theorem u_g(h:G P N c K E R L F H):G P N c K E R L F H:=h
theorem a05(h:GA P N ops rs Hk (n+1) done K E R L F H):GA P N ops rs Hk (n+1) done K E R L F H:=h
theorem NL{s:List Nat}{p:Prop}{i:Nat}{a:Option (Nat×Bool)}(h:P3 (i::s) p)(b:ops[i]? =some ⟨dst,.load t x,ty,pos,af,a⟩)(k:GA P N ops rs Hk (n+1) done K E R L F H):GA P N ops rs Hk (n+1) done K E R L F H:=k
theorem RX{s:List Nat}{p:Prop}{i:Nat}{a:Nat×Bool}(h:P3 (i::s) p)(b:ops[i]? =some ⟨dst,op,ty,pos,af,some a⟩)(k:GA P N ops rs Hk (n+1) done K E R L F H):GA P N ops rs Hk (n+1) done K E R L F H:=k
end
theorem jf{s:List Nat}{g a:Prop}(h:P3 s a)(st:P3 s a->g:=by(
 intro h;(repeat' (first
  |(refine a04 ?_;first
   |(refine OQ ?_;refine r_ oR ?_;replace h:=P3.step h)
   |(refine KK ?_;refine f_ oF ?_;replace h:=P3.step h)
   |(refine KH ?_;(first|refine cd rfl rfl uh pa rfl rfl ?_|refine FL rfl rfl uh pa rfl rfl ?_);replace h:=P3.step h)
   |(refine KJ ?_;first|(refine T2 rfl rfl rfl rfl rfl rfl rfl ?_;replace h:=P3.step h)|(refine Y3 rfl rfl rfl rfl rfl rfl ?_;replace h:=P3.step h)|(have:=P3.pos h;clear this;refine A1 rfl rfl rfl ?_))
   |(refine KI ?_;first|exact i7 rfl (P3.last h)|exact ce rfl rfl (P3.last h))
   |(refine RT ?_;exact M5 rfl (P3.last h))
   |(refine RP ?_;first|exact m9 rfl rfl (P3.last h)|exact L2 rfl rfl rfl (P3.last h)))
  |(refine a05 ?_;first
   |(refine RX h rfl ?_;first
    |(refine OS h rfl rfl rfl rfl rfl rfl rfl rfl i6 ?_;clear h;intro h)
    |(refine CK h rfl rfl rfl rfl rfl rfl rfl i6 ?_;clear h;intro h)
    |(refine NL h rfl ?_;first
     |(refine vn h rfl ud (X5 rfl .del (by rfl)) rfl rfl rfl rfl rfl rfl i6 ?_;clear h;intro h)
     |(refine vn h rfl ud (gh rfl .del ga) rfl rfl rfl rfl rfl rfl i6 ?_;clear h;intro h)
     |(refine rC h rfl TY (X5 rfl .del (by rfl)) I5 rfl rfl rfl rfl rfl rfl i6 ?_;clear h;intro h)
     |(refine rC h rfl TY (gh rfl .del ga) I5 rfl rfl rfl rfl rfl rfl i6 ?_;clear h;intro h)
     |(refine CN h rfl oR I5 rfl rfl rfl rfl rfl rfl i6 ?_;clear h;intro h))
    |(refine FM h rfl oF rfl rfl rfl rfl rfl rfl i6 ?_;clear h;intro h))
   |(refine NL h rfl ?_;first
    |(refine FN h rfl ud (X5 rfl .del (by rfl)) rfl rfl rfl i6 ?_;clear h;intro h)
    |(refine FN h rfl ud (gh rfl .del ga) rfl rfl rfl i6 ?_;clear h;intro h)
    |(refine vo h rfl TY (X5 rfl .del (by rfl)) I5 rfl rfl rfl i6 ?_;clear h;intro h)
    |(refine vo h rfl TY (gh rfl .del ga) I5 rfl rfl rfl i6 ?_;clear h;intro h)
    |(refine KL h rfl oR I5 rfl rfl rfl i6 ?_;clear h;intro h))
   |(refine OR h rfl oF rfl rfl rfl i6 ?_;clear h;intro h)
   |refine RW h rfl i6 ?_)
  |refine F7 ?_
  |refine zX ?_
  |refine mT ?_
  |(refine u_g ?_;first
   |(have:=P3.chk h;clear this;refine T0 ?_)
   |refine sU ?_
   |(have:=P3.chk0 h;clear this;refine n8 ?_)
   |(have:=P3.chk h;clear this;refine n8 ?_)
   |refine sV rfl ?_
   |refine iQ rfl ?_
   |refine iR rfl ?_)
  |refine dJ (.inl (by decide+kernel)) ?_
  |refine dJ (.inr (aV I5)) ?_
  |refine Kf (by decide+kernel) ?_))
 all_goals (first|exact h.none|exact h.nb))):g:=st h
theorem wd(s:List Nat){g a:Prop}(h:a)(st:P3 s a->g:=by exact fun h=>jf h):g:=st ⟨h⟩
theorem H9(n:Nat){g a:Prop}(h:a)(st:P3 (List.replicate n 0++[7]) a->g:=by exact fun h=>jf h):g:=st ⟨h⟩
theorem wk(n:Nat){g a:Prop}(h:a)(st:P3 (List.replicate n 0) a->g:=by exact fun h=>jf h):g:=st ⟨h⟩
theorem xB{g g1 a:Prop}(h:a)(s1:g1->g:=by exact F7)(b:a->g1:=by exact dJ (.inl i6)):g:=s1 (b h)
theorem ah{g g1 a:Prop}(h:a)(s1:g1->g:=by exact F7)(b:a->g1:=by exact dJ (.inr (aV I5))):g:=s1 (b h)
theorem E6(s:List Nat){g g1 a g3:Prop}(h:g3)(s1:g1->g:=by exact F7)(b:a->g1:=by exact dJ (.inl i6))(st:P3 s g3->a:=by exact fun h=>jf h):g:=s1 (b (st ⟨h⟩))
theorem gj(s:List Nat){g g1 a g3:Prop}(h:g3)(s1:g1->g:=by exact F7)(b:a->g1:=by exact dJ (.inr (aV I5)))(st:P3 s g3->a:=by exact fun h=>jf h):g:=s1 (b (st ⟨h⟩))
theorem N8{g g1 a g3:Prop}(h:a)(b:g3)(st:P3 (List.replicate 0 0) g1->g:=by exact fun h=>jf h)(c:a->g3->g1:=by exact o8 rfl):g:=st ⟨c h b⟩
theorem R6{g g1 a g3:Prop}(h:a)(b:g3)(st:P3 (List.replicate 1 0) g1->g:=by exact fun h=>jf h)(c:a->g3->g1:=by exact o8 rfl):g:=st ⟨c h b⟩
theorem bD{g g1 a g3:Prop}(h:a)(b:g3)(st:P3 (List.replicate 2 0) g1->g:=by exact fun h=>jf h)(c:a->g3->g1:=by exact o8 rfl):g:=st ⟨c h b⟩
theorem eI{g g1 a g3:Prop}(h:a)(b:g3)(st:P3 (List.replicate 3 0) g1->g:=by exact fun h=>jf h)(c:a->g3->g1:=by exact o8 rfl):g:=st ⟨c h b⟩
theorem CO{g g1 a g3:Prop}(h:a)(b:g3)(st:P3 (List.replicate 4 0) g1->g:=by exact fun h=>jf h)(c:a->g3->g1:=by exact o8 rfl):g:=st ⟨c h b⟩
theorem u7{g g1:Prop}(h:g1)(st:P3 (List.replicate 0 0) g1->g:=by exact fun h=>jf h):g:=st ⟨h⟩
theorem p_{g g1:Prop}(h:g1)(st:P3 (List.replicate 1 0) g1->g:=by exact fun h=>jf h):g:=st ⟨h⟩
theorem y9{g g1:Prop}(h:g1)(st:P3 (List.replicate 2 0) g1->g:=by exact fun h=>jf h):g:=st ⟨h⟩
theorem E5{g g1:Prop}(h:g1)(st:P3 (List.replicate 3 0) g1->g:=by exact fun h=>jf h):g:=st ⟨h⟩
theorem O2{g g1:Prop}(h:g1)(st:P3 (List.replicate 4 0) g1->g:=by exact fun h=>jf h):g:=st ⟨h⟩
theorem au{g g1:Prop}(h:g1)(st:P3 (List.replicate 5 0) g1->g:=by exact fun h=>jf h):g:=st ⟨h⟩
theorem cG{g g1:Prop}(h:g1)(st:P3 (List.replicate 6 0) g1->g:=by exact fun h=>jf h):g:=st ⟨h⟩
theorem ov{g g1 a:Prop}(h:a)(st:P3 (List.replicate 0 0) g1->g:=by exact fun h=>jf h)(b:a->g1:=by exact A2):g:=st ⟨b h⟩
theorem C8{g g1 a:Prop}(h:a)(st:P3 (List.replicate 1 0) g1->g:=by exact fun h=>jf h)(b:a->g1:=by exact A2):g:=st ⟨b h⟩
theorem L7{g g1 a:Prop}(h:a)(st:P3 (List.replicate 2 0) g1->g:=by exact fun h=>jf h)(b:a->g1:=by exact A2):g:=st ⟨b h⟩
theorem bS{g g1 a:Prop}(h:a)(st:P3 (List.replicate 3 0) g1->g:=by exact fun h=>jf h)(b:a->g1:=by exact A2):g:=st ⟨b h⟩
theorem JO{g g1 a:Prop}(h:a)(st:P3 (List.replicate 4 0) g1->g:=by exact fun h=>jf h)(b:a->g1:=by exact A2):g:=st ⟨b h⟩
theorem JP{g g1 a:Prop}(h:a)(st:P3 (List.replicate 5 0) g1->g:=by exact fun h=>jf h)(b:a->g1:=by exact A2):g:=st ⟨b h⟩
theorem NM{g g1 a:Prop}(h:a)(st:P3 (List.replicate 6 0) g1->g:=by exact fun h=>jf h)(b:a->g1:=by exact A2):g:=st ⟨b h⟩
theorem KN{g g1 a:Prop}(h:a)(st:P3 (List.replicate 7 0) g1->g:=by exact fun h=>jf h)(b:a->g1:=by exact A2):g:=st ⟨b h⟩
theorem NN{g g1 a:Prop}(h:a)(st:P3 (List.replicate 8 0) g1->g:=by exact fun h=>jf h)(b:a->g1:=by exact A2):g:=st ⟨b h⟩
theorem C6{g g1 a:Prop}(h:a)(st:P3 (List.replicate 0 0) g1->g:=by exact fun h=>jf h)(b:a->g1:=by exact T0):g:=st ⟨b h⟩
theorem xC{g g1 a:Prop}(h:a)(st:P3 (List.replicate 1 0) g1->g:=by exact fun h=>jf h)(b:a->g1:=by exact T0):g:=st ⟨b h⟩
theorem QW{g g1 a:Prop}(h:a)(st:P3 (List.replicate 2 0) g1->g:=by exact fun h=>jf h)(b:a->g1:=by exact T0):g:=st ⟨b h⟩
end Go.Sl
namespace Go.Proofs.YtmcepdopookilaaGreatDoor
open Go Go.Sl Go.Proofs.Tryz
theorem X6{P:Program}{t:TypeId}{fs:Array Field}{pl:List (Nat×Nat)}(hu:P.underlying t=some (.struct fs))(hp:fs.toList.map (fun f=>(f.offset,P.cellsOf f.type))=pl)(a:(fs.toList.all fun f=>(P.info? f.type).isSome)=true):RU P t fs pl:=⟨hu,hp,a⟩
abbrev b30:=X6 (pl:=[(0,1),(1,1),(2,1)]) underlying30 i6 i6
abbrev b36:=X6 (pl:=[(0,1),(1,1),(2,1),(3,1),(4,1),(5,1),(6,1),(7,1),(8,1),(9,1),(10,1),(11,1),(12,1),(13,1),(14,1),(15,1),(16,1)]) underlying36 i6 i6
abbrev b41:=X6 (pl:=[(0,1),(1,1)]) underlying41 i6 i6
abbrev b44:=X6 (pl:=[(0,1),(1,1),(2,1),(3,1),(4,1),(5,1),(6,1),(7,1),(8,1),(9,1),(10,1),(11,1),(12,1),(13,1),(14,1),(15,1),(16,1)]) underlying44 i6 i6
abbrev b48:=X6 (pl:=[(0,27),(27,27),(54,2),(56,1),(57,1),(58,1),(59,23),(82,17)]) underlying48 i6 i6
abbrev b51:=X6 (pl:=[(0,1),(1,1),(2,1),(3,1),(4,1),(5,1),(6,1),(7,1),(8,1),(9,1)]) underlying51 i6 i6
abbrev b62:=X6 (pl:=[(0,1),(1,1),(2,1),(3,1),(4,1),(5,1)]) underlying62 i6 i6
abbrev b65:=X6 (pl:=[(0,27),(27,6),(33,17),(50,1),(51,1)]) underlying65 i6 i6
abbrev b70:=X6 (pl:=[(0,1),(1,2),(3,1),(4,17)]) underlying70 i6 i6
abbrev b72:=X6 (pl:=[(0,1),(1,1)]) underlying72 i6 i6
abbrev b86:=X6 (pl:=[(0,1),(1,1),(2,1),(3,1),(4,1)]) underlying86 i6 i6
abbrev b95:=X6 (pl:=[(0,1),(1,1)]) underlying95 i6 i6
abbrev a06:=X6 (pl:=[(0,1),(1,1),(2,1),(3,1),(4,1)]) underlying100 i6 i6
abbrev a07:=X6 (pl:=[(0,1),(1,1),(2,1),(3,1),(4,1)]) underlying102 i6 i6
abbrev a08:=X6 (pl:=[(0,1),(1,1),(2,1)]) underlying104 i6 i6
abbrev a09:=X6 (pl:=[(0,1),(1,1),(2,1),(3,1),(4,1),(5,1)]) underlying110 i6 i6
abbrev a1a:=X6 (pl:=[(0,1),(1,1),(2,1),(3,1),(4,1),(5,1)]) underlying127 i6 i6
abbrev a1b:=X6 (pl:=[(0,1),(1,1),(2,1),(3,1),(4,1)]) underlying129 i6 i6
abbrev a1c:=X6 (pl:=[(0,6),(6,17),(23,5)]) underlying136 i6 i6
abbrev a1d:=X6 (pl:=[(0,27),(27,23)]) underlying141 i6 i6
abbrev a1e:=X6 (pl:=[(0,1),(1,17),(18,6),(24,5),(29,5),(34,1),(35,1),(36,10)]) underlying149 i6 i6
abbrev a1f:=X6 (pl:=[(0,1),(1,1),(2,1),(3,1),(4,1)]) underlying156 i6 i6
abbrev a1g:=X6 (pl:=[(0,1),(1,1)]) underlying178 i6 i6
abbrev a1h:=X6 (pl:=[(0,1),(1,1),(2,17)]) underlying211 i6 i6
abbrev a1i:=X6 (pl:=[(0,1),(1,1),(2,1)]) underlying214 i6 i6
abbrev a1j:=X6 (pl:=[]) underlying219 i6 i6
abbrev a1k:=X6 (pl:=[(0,1),(1,1),(2,1)]) underlying225 i6 i6
abbrev a1l:=X6 (pl:=[(0,1),(1,1)]) underlying327 i6 i6
abbrev a1m:=X6 (pl:=[(0,1),(1,1),(2,1)]) underlying333 i6 i6
abbrev a1n:=X6 (pl:=[(0,1),(1,1)]) underlying340 i6 i6
abbrev a1o:=X6 (pl:=[(0,1),(1,5)]) underlying371 i6 i6
attribute [instance] b30 b36 b41 b44 b48 b51 b62 b65 b70 b72 b86 b95 a06 a07 a08 a09 a1a a1b a1c a1d a1e a1f a1g a1h a1i a1j a1k a1l a1m a1n a1o
end Go.Proofs.YtmcepdopookilaaGreatDoor
namespace Go.Sl
open Go Go.RowKit Go.Proofs.Tryz
class Mn(p:l_->Prop):Prop where
 le:∀{h h':l_},l_.le h h'->p h->p h'
instance {a:Option Addr} {xs:List Value}:Mn (fun h=>o0 h a xs):=⟨fun l r=>r.le l⟩
instance {p q:l_->Prop} [a:Mn p] [b:Mn q]:Mn (fun h=>p h/\q h):=⟨fun l r=>⟨a.le l r.1,b.le l r.2⟩⟩
instance {p:Prop}:Mn (fun _=>p):=⟨fun _ r=>r⟩
theorem x8.left{A H R:List As}(h:x8 A H R){F:l6}{w:World}(a:Hp F w H):Hp F w A:=(h.hp a).left
def Cm(P:Program)(f:FuncId)(args:List Value)(Pre:l_->Prop)(C:List As)(Q:l_->Value->List As->Prop):Prop:=
 ∀(F:l6) (R:List As) (w:World),Hp F w (C++R)->Pre F.heap->Calls P f args.toArray w fun e w'=>∃v A F',e=.returned v/\F.le F'/\Q F'.heap v A/\Hp F' w' (A++R)
def CP(P:Program)(fn:Func)(F0:l6)(R:List As)(Q:l_->Value->List As->Prop):y6:=fun a w=>∃v A F',(results fn a.tmps).run P w=.ok v w/\F0.le F'/\Q F'.heap v A/\Hp F' w (A++R)/\a.defers=[]
theorem y4{P:Program}{f:FuncId}{fn:Func}{c:Code}{args:List Value}{d:l_->Prop}{C:List As}{Q:l_->Value->List As->Prop}(N:Nat)(hf:P.funcs[f]? =some fn)(r:fn.body=some c)(s:fn.ntmps=N)(i:Nat.ble args.length N=true)(h:∀(F:l6) (R:List As),d F.heap->G P N c (CP P fn F R Q) [] (CP P fn F R Q) (ay 0 args) F (C++R)):Cm P f args d C Q:=by
 intro F R w t g;refine calls_of_wp hf r ?_;rw[s];have b:=h F R g;unfold G at b;refine Code.wp_mono (fun e a u q=>?_) (b _ w (T1 N args i) t)
 cases e with
 |normal=>obtain⟨v,A,j,b,m,n,o,p⟩:=q;exact⟨p,v,b,v,A,j,rfl,m,n,o⟩
 |ret=>obtain⟨v,A,j,b,m,n,o,p⟩:=q;exact⟨p,v,b,v,A,j,rfl,m,n,o⟩
 |exit id=>simp[MQ] at q
 |goto l=>exact q.elim
 |panic ch=>rcases q with⟨k,v,h,_⟩|⟨k,v,h,_⟩<;>cases h
 |outgrown=>exact q.elim
theorem Cm.of_ct{P:Program}{f:FuncId}{args:List Value}{g:l_->Prop}{C:List As}{a:Value->List As->Prop}(h:Ct P f args g C a){Pre':l_->Prop}(l:∀x y,l_.le x y->Pre' x->g y):Cm P f args Pre' C (fun _ v A=>a v A):=by
 intro F R w m i;obtain⟨D,hs,r,j⟩:=m.own;obtain⟨n,J,e,k,p⟩:=A3.split hs;subst e;refine(h w n k (j6.1 r).1 (l _ _ (fun b o q=>?_) i)).mono ?_
 ·have s:=m.keep b o q;have t:b∉n:=fun u=>by rw[j b (by simp[u])] at q;cases q
  have z:E4 w n b=w.heap[b]?:=by simp[E4,t]
  rw[z];exact s
 ·rintro e M ⟨v,A,rfl,c,d⟩;exact⟨v,A,F,rfl,l6.le_refl _,c,m.back k p r j d⟩
theorem H3{P:Program}{N:Nat}{L:G0}{F b:l6}{H R A:List As}{fn:Func}{Q:l_->Value->List As->Prop}{v:Value}(hl:b.le F)(hq:Q F.heap v A)(h:At N (du P fn F (fun v' c=>v'=v/\c=A++R)) L F H):At N (CP P fn b R Q) L F H:=by
 unfold At at h⊢;intro a w hf d;obtain⟨v',c,e,⟨rfl,rfl⟩,f,g⟩:=h a w hf d;exact⟨_,A,F,e,hl,hq,f,g⟩
section
variable{P:Program}{N:Nat}{K R:y6}{E:List (Nat×y6)}{L:G0}{F:l6}{H:List As}{ops:Array Oper}{rest:List Oper}{ty:TypeId}{pos:String}{af:Array Edge}{dst:Option Nat}{gd:Option (Nat×Bool)}{x:Operand}
theorem rD{o:Oper}{d:Nat}{f:FuncId}{vs:List Value}{b:l_->Prop}{C Rr:List As}{Q:l_->Value->List As->Prop}(hg:o.guard=none)(c:o.dst=some d)(l:Nat.blt d N=true)(g:∀ρ w,Fb L ρ->(execOp ρ o).run P w=.ok (.enter f vs.toArray) w)(hc:Cm P f vs b C Q)(hH:x8 C H Rr)(h:b F.heap)(k:∀v A i,F.le i->Q i.heap v A->GL P N ops rest K E R ((d,v)::L) i (A++Rr)):GL P N ops (o::rest) K E R L F H:=by
 unfold GL at k⊢;intro a w hf m;refine wpList_plain hg fun r n=>?_;unfold Oper.wp;rw[g _ w hf.agr,Oper.upon_enter];refine(hc F Rr w (hH.hp m) h).mono ?_;rintro e s ⟨v,A,i,rfl,p,q,j⟩;rw[c];exact n _ _ (k v A i p q _ _ (hf.put l v) j)
theorem A8{d:Nat}{f:FuncId}{args:List Operand}{c:Array TypeId}{vs:List Value}{a:l_->Prop}{C Rr:List As}{Q:l_->Value->List As->Prop}[HF P f](hc:Cm P f vs a C Q)(b:a F.heap)(k:∀v A e,F.le e->Q e.heap v A->GL P N ops rest K E R ((d,v)::L) e (A++Rr))(hx:rt L args=some vs:=by rfl)(hH:x8 C H Rr:=by exact tk)(g:Nat.blt d N=true:=by rfl):
  GL P N ops (⟨some d,.call ⟨.value (.func f),args.toArray,c⟩,ty,pos,af,none⟩::rest) K E R L F H:=
 rD rfl rfl g (fun ρ w hf=>aT hx hf w) hc hH b k
theorem rE{d:Nat}{f:FuncId}{args:List Operand}{g:Array TypeId}{vs ps qs a:List Value}{b:l_->Prop}{C Rr:List As}{Q:l_->Value->List As->Prop}[hF:HF P f](hc:Cm P f a b C Q)(c:b F.heap)(k:∀v A h,F.le h->Q h.heap v A->GL P N ops rest K E R ((d,v)::L) h (A++Rr))(hv:ev L x=some (.func (.func f) ps.toArray qs.toArray):=by rfl)(hx:rt L args=some vs:=by rfl)(e:ps++vs++qs=a:=by rfl)(hH:x8 C H Rr:=by exact tk)(i:Nat.blt d N=true:=by rfl):
  GL P N ops (⟨some d,.call ⟨.value x,args.toArray,g⟩,ty,pos,af,none⟩::rest) K E R L F H:=
 rD rfl rfl i (fun ρ w hf=>by
  have j:=hf _ _ hv;have l:=aS hf hx;subst e;simp only[execOp,resolve,j,Deferred.ofValue,Zg,l,Sem.run_bind,Sem.run_pure,Result.andThen_ok,invoke];have:(ps.toArray++vs.toArray++qs.toArray:Array Value)=(ps++vs++qs).toArray:=by simp
  rw[this];exact hF.h _ w) hc hH c k
theorem c_{d:Nat}{f:FuncId}{args:List Operand}{e:Array TypeId}{vs:List Value}{b:l_->Prop}{C Rr:List As}{a:Value->List As->Prop}[HF P f](hc:Ct P f vs b C a)(c:∀h,l_.le F.heap h->(∃bs,A3 h Rr bs)->b h)(k:∀v A,a v A->GL P N ops rest K E R ((d,v)::L) F (A++Rr))(hx:rt L args=some vs:=by rfl)(hH:x8 C H Rr:=by exact tk)(g:Nat.blt d N=true:=by rfl):
  GL P N ops (⟨some d,.call ⟨.value (.func f),args.toArray,e⟩,ty,pos,af,none⟩::rest) K E R L F H:=
 x5 Rr hx hc (fun w i=>hH.hp i) c g k
theorem An{Z Rr:List As}(hH:x8 Z H Rr)(k:∀a,F.le a->(∃bs,A3 a.heap Z bs)->GL P N ops rest K E R L a Rr):GL P N ops rest K E R L F H:=
 I7 (H':=Rr++Z) (fun w b=>(hH.hp b).perm kz) (rx k)
theorem B8{c:Code}{Z Rr:List As}(hH:x8 Z H Rr)(k:∀a,F.le a->(∃bs,A3 a.heap Z bs)->G P N c K E R L a Rr):G P N c K E R L F H:=
 D5 (H':=Rr++Z) (fun w b=>(hH.hp b).perm kz) (bZ k)
end
inductive NO:List As->List As->Prop
 |nil {R:List As}:NO R R
 |cons {x:As} {R H:List As}:NO R H->NO R (x::H)
theorem NO.hp{R H:List As}(h:NO R H){F:l6}{w:World}(a:Hp F w H):Hp F w R:=by
 induction h with
 |nil=>exact a
 |cons _ ih=>exact ih a.drop
theorem sfx{R H:List As}(h:NO R H:=by(repeat (first|exact .nil|refine .cons ?_))):NO R H:=h
theorem fle{F a:l6}(h:F.le a:=by(first|exact l6.le_refl _|assumption|exact l6.le.trans (by assumption) (by assumption))):F.le a:=h
section
variable{P:Program}{N:Nat}{K R:y6}{E:List (Nat×y6)}{L:G0}{F F0:l6}{H R0:List As}{ops:Array Oper}{rest:List Oper}{ty:TypeId}{pos:String}{af:Array Edge}{dst:Option Nat}{gd:Option (Nat×Bool)}{x:Operand}{Pq Pq':Value->Prop}
end
section
variable{P:Program}{N:Nat}{K R:y6}{E:List (Nat×y6)}{L:G0}{F:l6}{H R0:List As}{ops:Array Oper}{rest:List Oper}{ty:TypeId}{pos:String}{af:Array Edge}{dst:Option Nat}{gd:Option (Nat×Bool)}{x:Operand}{Pq Pq':Value->Prop}
end
section
variable{P:Program}{N:Nat}{K R:y6}{E:List (Nat×y6)}{L:G0}{F:l6}{H:List As}{ops:Array Oper}{rest:List Oper}{ty:TypeId}{pos:String}{af:Array Edge}{t:TypeId}
theorem u6{α:Type}(C:α->List Value){l m:List α}{d:Nat}{s x:Operand}{a b:Option Addr}{c r sz:Nat}{e:TypeId}{H':Option Addr->Nat->List As}{z:Value}{i:TypeInfo}[hu:HU P t (.slice e)][hz:HZ P e z][hi:HI P e i][hs:HS P e sz](v:∀x,(C x).length=sz)(y:∀x,∀q∈C x,q.oneCell'=true)(g:(l.length+m.length)*i.bytes<=140737488355328)(h:∀j f,(l++m).length<=f->GL P N ops rest K E R ((d,.slice j (l++m).length f)::L) F (H' j f))(k:ev L s=some (.slice a l.length c):=by rfl)(n:ev L x=some (.slice b m.length r):=by rfl)(u:∀j f,M3 H (.own (.slice a l.length c) e sz (l.flatMap C)) [.own (.slice j (l++m).length f) e sz ((l++m).flatMap C)] (H' j f):=by exact fun _ _=>uh)(hsrc:∀w,Hp F w H->Ka (hp w) b (m.flatMap C):=by exact fun w A=>(A.ownN ud).2.2.1)(h63:l.length+m.length<=9223372036854775807:=by(first|omega|(simp only[zy,zn];omega)))(o:Nat.blt 0 sz=true:=by rfl)(p:z.cells.size=sz:=by rfl)(D:Nat.blt d N=true:=by rfl):
  GL P N ops (⟨some d,.call ⟨.builtin .append,#[s,x],#[t,t]⟩,ty,pos,af,none⟩::rest) K E R L F H:=
 C0 k n (H':=H') (fun j f=>by have:=u j f;rw[zz,Kk] at this;exact this) hsrc (M7 v m) o p (cR y m) g h63 D fun j f hc=>by
  have:=h j f (by rw[zz];exact hc);rw[zz] at this;exact this
theorem C4{α:Type}(C:α->List Value)(y:α){d:Nat}{x:Operand}{e:TypeId}{z v:Value}{sz:Nat}[hu:HU P t (.slice e)][hz:HZ P e z][hs:HS P e sz](hv:v.cells.toList=C y)(h:∀a,(∃f,a=some f)->GL P N ops rest K E R ((d,.slice a 1 1)::L) F (.own (.slice a [y].length 1) e sz ([y].flatMap C)::H))(hx:ev L x=some v:=by rfl)(c:Nat.ble (1*sz) 16777216=true:=by rfl)(hp:Nat.blt 0 (1*sz)=true:=by rfl)(b:Nat.beq v.cells.size sz=true:=by rfl)(g:Nat.blt d N=true:=by rfl):
  GL P N ops (⟨some d,.buildSlice t 1 #[(0,x)],ty,pos,af,none⟩::rest) K E R L F H:=
 x7 (ps:=[(0,x)]) (vs:=[(0,v)]) (xs:=[y].flatMap C) (by simp[Aa,hx]) c hp rfl (by simp[b]) rfl (by simp[hv]) g h
variable{α:Type}{C:α->List Value}{sz:Nat}
theorem cH{h:l_}{a:Option Addr}{l:List α}{q i j:Nat}{v:Value}(r:o0 h a (l.flatMap C))(c:∀x,(C x).length=sz)(b:i<l.length)(hv:(C l[i])[j]? =some v)(hq:q=i*sz+j):M0 h (N0 a q) [v]:=by
 refine Kl r c l[i] (i:=i) (j:=j) (by rw[hq,W7]) b ?_
 rwa [show l.getD i l[i]=l[i] from by simp[List.getD,b]]
theorem fe{h:l_}{a:Option Addr}{l:List α}{q i:Nat}(r:o0 h a (l.flatMap C))(d:∀x,(C x).length=sz)(b:0<sz)(c:i<l.length)(hq:q=i*sz):M0 h (N0 a q) (C l[i]):=by
 have:=tf r d b l[i] (q:=q) (i:=i) (by rw[hq,W7]) c
 rwa [show l.getD i l[i]=l[i] from by simp[List.getD,c]] at this
theorem aA(a:∀x,(C x).length=sz):∀(l:List α) (i:Nat),(l.flatMap C).take (i*sz)=(l.take i).flatMap C
 |l,0=>by simp
 |[],i+1=>by simp
 |x::l,i+1=>by
  rw[Q2,List.take_succ_cons,Q2,show(i+1)*sz=(C x).length+i*sz from by rw[a,Q0];omega,Wv,aA a l i]
theorem kY(a:∀x,(C x).length=sz):∀(l:List α) (i:Nat),(l.flatMap C).drop (i*sz)=(l.drop i).flatMap C
 |l,0=>by simp
 |[],i+1=>by simp
 |x::l,i+1=>by
  rw[Q2,Wx,show(i+1)*sz=(C x).length+i*sz from by rw[a,Q0];omega,K4,kY a l i]
theorem KO(b:∀x,(C x).length=sz){l:List α}{i j:Nat}{y:α}{vs:List Value}(a:i<l.length)(c:j+vs.length<=sz)(d:C y=L5 (C l[i]) j vs):L5 (l.flatMap C) (i*sz+j) vs=(l.set i y).flatMap C:=by
 have e:l=l.take i++l[i]::l.drop (i+1):=by rw[<-Qg a,Qk]
 have f:l.set i y=l.take i++y::l.drop (i+1):=by rw[Zm,zu a]
 have g:((l.take i).flatMap C).length=i*sz:=by rw[M7 b,zm,Jb (Js a)]
 have h:l.flatMap C=(l.take i).flatMap C++C l[i]++(l.drop (i+1)).flatMap C:=by
  conv=>lhs;rw[e]
  rw[Kk,Q2,zh]
 rw[f,Kk,Q2,d,<-zh,h,<-g];exact fq _ _ _ _ _ (by rw[b];exact c)
theorem A9{l:List α}{i j:Nat}(d:α){a:Option Addr}{len c q n:Nat}{te:TypeId}{v:Value}{x y:Operand}{H':List As}[hs:HS P t n](e:∀x,(C x).length=sz)(f:i<l.length)(g:C d=L5 (C l[i]) j v.cells.toList)(h:GL P N ops rest K E R L F H')(hx:ev L x=some (.pointer (N0 a q)):=by rfl)(hv:ev L y=some v:=by rfl)(u:M3 H (.own (.slice a len c) te sz (l.flatMap C)) [.own (.slice a len c) te sz ((l.set i d).flatMap C)] H':=by exact uh)(k:Nat.beq v.cells.size n=true:=by rfl)(b:Nat.blt 0 n=true:=by rfl)(m:(v.cells.toList.all fun q=>q.oneCell')=true:=by rfl)(o:Nat.ble (j+n) sz=true:=by rfl)(hq:q=i*sz+j:=by simp):GL P N ops (⟨none,.store t x y,ty,pos,af,none⟩::rest) K E R L F H:=by
 have p:=jr k;have r:j+n<=sz:=by simpa[Jd] using o
 refine T9 (te:=te) (len:=len) (c:=c) (sz:=sz) (xs:=l.flatMap C) hx hv (H':=H') ?_ p (by simpa[Kh] using b) (fun q hq=>Qv.1 m q hq) ?_ h
 ·rw[hq,KO e f (by simp;omega) g];exact u
 ·rw[M7 e,hq];have:(i+1)*sz<=l.length*sz:=Qy _ f;rw[Q0] at this;omega
end
end Go.Sl
namespace Go.Proofs.YtmcepdopookilaaGreatDoor.Rp
open Go Go.Sl Go.RowKit Go.Proofs.Tryz
abbrev l9(b:Nat):Value:=.pointer (some ⟨b,0,none⟩)
def fV(l:List Bs):List Value:=l.map fun f=>B f
theorem L8(l:List Bs):(fV l).length=l.length:=by simp[fV]
theorem kZ(l:List Bs):∀q∈fV l,q.oneCell'=true:=fun q a=>by
 obtain⟨x,_,rfl⟩:=jx.mp a;rfl
theorem gk(a b:List Bs):fV (a++b)=fV a++fV b:=by simp[fV]
abbrev A4(a:Option Addr)(l:List Bs)(c:Nat):As:=.own (.slice a l.length c) 9 1 (fV l)
theorem cg{h:l_}{a:Option Addr}{l:List Bs}{i:Nat}(r:o0 h a (fV l))(c:i<l.length):∃b,a=some b:=by
 obtain⟨b,e,_⟩:=r (by intro e;have:=jk List.length e;rw[L8] at this;simp at this;subst this;simp at c);exact⟨b,e⟩
theorem OT{F:l6}{w:World}{H:List As}{a:Option Addr}{l:List Bs}(b:Hp F w H)(r:o0 F.heap a (fV l)){q i:Nat}(h:q=i)(c:i<l.length):M0 (hp w) (N0 a q) [B (l.getD i [])]:=
 mU b r x6 (fun j u hu=>by
  match j,hu with
  |0,hu=>
   simp at hu;subst hu h;simp[fV,c])
theorem NP{l:List Bs}{k:Nat}(a:k<l.length):l.take (k+1)=l.take k++[l.getD k []]:=by
 rw[kj a,zd,zj a];rfl
theorem dQ{l:List Bs}{k:Nat}(a:k<l.length):l.getD k []∈l:=by
 rw[zd,zj a];exact zx a
structure VM where
 v:RV
 a:Option Addr
 c:Nat
abbrev OU:VM:=⟨V0,none,0⟩
abbrev vp(x:VM):List Value:=[.int .i64 x.v.kind,.int .u64 (x.v.n:Nat),.slice x.a x.v.a5U.length x.c,B x.v.text,.bool x.v.part,.int .u64 (x.v.fr:Nat)]
abbrev vmA(x:VM):Value:=.agg #[.int .i64 x.v.kind,.int .u64 (x.v.n:Nat),.slice x.a x.v.a5U.length x.c,B x.v.text,.bool x.v.part,.int .u64 (x.v.fr:Nat)]
abbrev OV(l:List VM):List Value:=l.flatMap vp
theorem mX:∀x,(vp x).length=6:=fun _=>rfl
theorem mY:∀x,∀q∈vp x,q.oneCell'=true:=fun x q a=>by simp at a;rcases a with rfl|rfl|rfl|rfl|rfl|rfl<;>rfl
def nV(l:List Nat):List Value:=l.map fun n=>.int .u64 (n:Nat)
theorem tl(l:List Nat):(nV l).length=l.length:=by simp[nV]
theorem iq(l:List Nat):∀q∈nV l,q.oneCell'=true:=fun q a=>by
 obtain⟨x,_,rfl⟩:=jx.mp a;rfl
theorem aB(a b:List Nat):nV (a++b)=nV a++nV b:=by simp[nV]
structure RL where
 na:Option Addr
 nc:Nat
 fa:Option Addr
 fc:Nat
 va:Option Addr
 vc:Nat
 vs:List VM
abbrev L0:RL:=⟨none,0,none,0,none,0,[]⟩
abbrev tp(r:RR)(x:RL):List Value:=[.int .i64 r.kind,B r.tag,B r.code,B r.text,.int .u64 (r.n:Nat),.slice x.na r.nums.length x.nc,.int .u64 (r.mod:Nat),.slice x.fa r.a5U.length x.fc,B r.box,.slice x.va x.vs.length x.vc]
abbrev KP(r:RR)(x:RL):Value:=.agg #[.int .i64 r.kind,B r.tag,B r.code,B r.text,.int .u64 (r.n:Nat),.slice x.na r.nums.length x.nc,.int .u64 (r.mod:Nat),.slice x.fa r.a5U.length x.fc,B r.box,.slice x.va x.vs.length x.vc]
structure fC(r:RR)(x:RL)(h:l_):Prop where
 vals:r.values=x.vs.map VM.v
 nums:o0 h x.na (nV r.nums)
 a5U:o0 h x.fa (fV r.a5U)
 vs:o0 h x.va (OV x.vs)
 fs:∀m∈x.vs,o0 h m.a (fV m.v.a5U)
theorem fC.le{r:RR}{x:RL}{h a:l_}(k:fC r x h)(hl:l_.le h a):fC r x a:=⟨k.vals,k.nums.le hl,k.a5U.le hl,k.vs.le hl,fun m b=>(k.fs m b).le hl⟩
theorem dR{h:l_}{bs:List Nat}{a:Option Addr}{n c sz:Nat}{t:TypeId}{xs:List Value}{H:List As}(hs:A3 h H bs)(b:As.own (.slice a n c) t sz xs∈H):o0 h a xs:=by
 obtain⟨A,C,rfl⟩:=Wp b;obtain⟨e,f,rfl,_,d⟩:=A3.split hs;exact A3.rd d .del
structure Gl(h:l_):Prop where
 m:∃m t fr,h 0=some (.cells #[.int .i64 m] t fr)
 tab:∃t fr,h 1=some (.cells (Lib.pow10Tab.map fun z=>Value.int .u64 z).toArray t fr)
 syn:∃e t fr,h 4=some (.cells #[e] t fr)/\(e=.nilIface\/∃te pe,e=.iface te pe)
 rng:∃e t fr,h 5=some (.cells #[e] t fr)/\(e=.nilIface\/∃te pe,e=.iface te pe)
theorem Gl.le{h n:l_}(g:Gl h)(hl:l_.le h n):Gl n:=by
 obtain⟨⟨a,b,c,o⟩,⟨d,e,p⟩,⟨f,i,j,q,k3⟩,⟨k,l,m,r,k4⟩⟩:=g;exact⟨⟨a,b,c,hl _ _ o⟩,⟨d,e,hl _ _ p⟩,⟨f,i,j,hl _ _ q,k3⟩,⟨k,l,m,hl _ _ r,k4⟩⟩
theorem Gl.tabIs{w:World}(g:Gl (hp w)):Lib.TabIs prog w "internal/strconv.uint64pow10" .u64 Lib.pow10Tab:=by
 obtain⟨t,a,h⟩:=g.tab;have b:prog.globalNamed "internal/strconv.uint64pow10"=some 1:=by kernel_rfl
 have c:w.heap[1]? =some (.cells (Lib.pow10Tab.map fun z=>Value.int .u64 z).toArray t a):=h;unfold Lib.TabIs World.var?;rw[b];simp only[z6,c]
theorem dS{P:Program}{f:FuncId}{args:List Value}{d:l_->Prop}{v:Value}(h:∀w,d (hp w)->Calls P f args.toArray w fun e w'=>e=.returned v/\Below w.heap.size w w'):Pu P f args d v:=by
 intro w k g l c;have m:k=[]:=g;subst m;rw[N3] at c;refine(h w c).mono ?_;rintro e w' ⟨rfl,a⟩;refine⟨v,[],rfl,qh,a.os,a.tape,a.output,fun b o i=>?_,[],rfl,Zx,by simp⟩;have j:w.heap[b]? =some o:=bV w [] b o i;have n:b<w.heap.size:=(kp.1 j).1;show w'.heap[b]? =_;rw[a.block b n];exact j
theorem U0{P:Program}{f:FuncId}{args:List Value}{a:l_->Prop}{v:Value}(h:∀w,a (hp w)->Calls P f args.toArray w fun e w'=>e=.returned v/\w'=w):Pu P f args a v:=
 dS fun w c=>(h w c).mono fun e w' ⟨d,b⟩=>⟨d,b▸Below.refl _ _⟩
theorem ai(s p:Bs):Pu prog 90 [B s,B p] (fun _=>True) (.bool (p.isPrefixOf s)):=U0 fun w _=>Tryz.strings_HasPrefix ⟨s.toArray⟩ ⟨p.toArray⟩ w
theorem eJ(s:Bs)(c:UInt8):Lib.indexByte s c=if s.contains c=true then((s.takeWhile fun x=>x !=c).length:Int) else-1:=by
 induction s with
 |nil=>rfl
 |cons a t ih=>
  rw[Lib.indexByte];by_cases h:a=c
  ·subst h;simp
  ·have d:(a==c)=false:=(by simpa using h);have b:(c==a)=false:=(by simpa using fun e:c=a=>h e.symm);rw[d,ih];simp only[Wd,b,K2,Q4,bne,d,Bool.not_false,if_true];by_cases hc:t.contains c=true
   ·simp only[hc,if_true];have:((t.takeWhile fun x=>!(x==c)).length:Int)≠ -1:=(by omega);simp[this]
   ·simp only[hc];rfl
theorem aj(s:Bs)(c:UInt8):Pu prog 48 [B s,.int .u8 (c.toNat:Nat)] (fun _=>True) (.int .i64 (Lib.indexByte s c)):=U0 fun w _=>by
 have:=Tryz.strings_IndexByte ⟨s.toArray⟩ (c.toNat:Nat) w;have e:((c.toNat:Nat):Int).toNat.toUInt8=c:=by simp
 rwa [e] at this
theorem ji(n:Nat):Lib.decDigits n=R1 n:=by
 induction n using Nat.strongRecOn with
 |ind n ih=>
  rw[Lib.decDigits];split
  ·next h=>rw[bK h];rfl
  ·next h=>rw[gf h,ih (n/10) qb];rfl
theorem FO(n:Nat)(h:n<100):Pu prog 241 [.int .i64 (n:Nat)] (fun _=>True) (B (R1 n)):=U0 fun w _=>by
 have:=Tryz.internal_strconv_small n h w
 rwa [ji] at this
theorem tq(n:Nat)(a:1<=n)(b:n<18446744073709551616):Pu prog 242 [.int .u64 (n:Nat)] Gl (.int .i64 (Lib.nDigits n)):=U0 fun w hg=>Tryz.internal_strconv_numDigits n a b w hg.tabIs
theorem fD(a:Bs):∀l:List Bs,Lib.join l a=eZ a l
 |[]=>rfl
 |[x]=>by simp[Lib.join,eZ,List.intercalate]
 |x::y::t=>by
  rw[CI _ _ x6,<-fD a (y::t)];simp[Lib.join,List.intercalate]
theorem pre{F:l6}{Rr:List As}{c:l_->Prop}(h:∀h,l_.le F.heap h->(∃bs,A3 h Rr bs)->c h:=by(
 intro h b a
 first
 |trivial
 |exact o0.le (by assumption) b
 |exact Gl.le (by assumption) b
 |(obtain⟨bs,a⟩:=a;exact A3.rd a ud)
 |(refine⟨?_,?_⟩<;>(first|exact o0.le (by assumption) b|exact Gl.le (by assumption) b|(obtain⟨bs,a⟩:=a;exact A3.rd a ud)))
 |(refine⟨?_,?_,?_⟩<;>(first|exact o0.le (by assumption) b|exact Gl.le (by assumption) b|(obtain⟨bs,a⟩:=a;exact A3.rd a ud))))):∀h,l_.le F.heap h->(∃bs,A3 h Rr bs)->c h:=h
abbrev FP:List (String×DataW Unit):=[("math/bits.deBruijn32tab",Rows.laid_math_bits_deBruijn32tab),("math/bits.deBruijn64tab",Rows.laid_math_bits_deBruijn64tab),("internal/strconv.uint64pow10",Rows.laid_internal_strconv_uint64pow10),("unicode/utf8.acceptRanges",Rows.laid_unicode_utf8_acceptRanges),("strconv.ErrRange",Rows.laid_strconv_ErrRange),("strconv.ErrSyntax",Rows.laid_strconv_ErrSyntax),("unicode.CaseRanges",Rows.laid_unicode_CaseRanges),("unicode/utf8.first",Rows.laid_unicode_utf8_first)]
theorem RY:prog.globalNamed "internal/strconv.uint64pow10"=some 1:=by kernel_rfl
theorem RZ:(prog.globals[1]?).map (·.type)=some 348:=by kernel_rfl
theorem Sa:prog.globalNamed "strconv.ErrSyntax"=some 4:=by kernel_rfl
theorem Sb:(prog.globals[4]?).map (·.type)=some 167:=by kernel_rfl
theorem Sc:prog.globalNamed "strconv.ErrRange"=some 5:=by kernel_rfl
theorem Sd:(prog.globals[5]?).map (·.type)=some 167:=by kernel_rfl
theorem NQ: "*"++ "errors.errorString"= "*errors.errorString":=by decide
theorem FQ(u:TypeId)(h:prog.typeName? 3 u=some "*errors.errorString"):u=429:=
 typeName_ptr_named (nm:= "errors.errorString") (by rw[NQ];kernel_rfl) i6 qp u (by rw[NQ];exact h)
theorem ld{P:Program}{W:World}{n:String}{g:Nat}{cs:Array Value}(hg:P.globalNamed n=some g)(h:W.var? P n=some cs):∃t fr,hp W g=some (.cells cs t fr):=by
 unfold World.var? at h;rw[hg] at h;simp only[z6] at h;split at h
 ·next c t fr a=>
  cases h
  exact⟨t,fr,a⟩
 ·cases h
theorem Se:prog.globalNamed "internal/bytealg.MaxLen"=some 0:=by kernel_rfl
theorem OW{cs:Array Value}{v:Value}(hs:cs.size=1)(h:cs[0]? =some v):cs=#[v]:=by
 obtain⟨l⟩:=cs
 match l,hs with
 |[u],_=>
  simp at h;subst h;rfl
theorem FR{W:World}(h:W.ShapedOpen prog):∃m t fr,hp W 0=some (.cells #[.int .i64 m] t fr):=by
 obtain⟨m,i⟩:=cell_of_shapedOpen_int (zero:=#[.int .i64 0]) (t:=3) (g:=0) h (qr i6) i6 rfl i6 i6 underlying3;obtain⟨e,a,b,_⟩:=h.1 0 #[.int .i64 0] 3 (qr i6) i6;have j:W.var? prog "internal/bytealg.MaxLen"=some e:=by
  unfold World.var?;rw[Se];simp only[z6];rw[a]
 have f:=World.var?_cell Se j 0;rw[i] at f;have c:e.size=1:=b;have d:=OW c f.symm;subst d;exact⟨_,_,_,a⟩
theorem OX:(Rows.laid_internal_strconv_uint64pow10:DataW Unit)=Lib.tabData .u64 Lib.pow10Tab:=rfl
theorem gl_of_laid{W:World}(b:laidMetH prog FP W)(d:W.ShapedOpen prog):Gl (hp W):=by
 rw[MakeChecks.laidMetH_plain _ _ _ i6] at b;have a:=b.tail.tail;have c:=a.tail.tail;rw[OX] at a;have e:=Lib.tabIs_of_head RY RZ underlying348 underlying27 i6 i6 a;obtain⟨a3,s3,f,_⟩:=laid_sentinel c Sc Sd underlying167 FQ underlying429 underlying431 rfl rfl underlying9 i6 i6;obtain⟨o,p,g,_⟩:=laid_sentinel c.tail Sa Sb underlying167 FQ underlying429 underlying431 rfl rfl underlying9 i6 i6;obtain⟨t1,h,i⟩:=ld RY e;obtain⟨t2,j,k⟩:=ld Sa g;obtain⟨l,m,n⟩:=ld Sc f;exact⟨FR d,⟨t1,h,i⟩,⟨_,t2,j,k,.inr ⟨_,_,rfl⟩⟩,⟨_,l,m,n,.inr ⟨_,_,rfl⟩⟩⟩
noncomputable def laidWorld (os:Os):World:=World.laidAll prog os FP
set_option maxRecDepth 100000 in
theorem laid_met(a:Os)(args:Array Value):laidMetH prog FP ((laidWorld a).forCall (fun _ _=>0) ⟨#[],args,[]⟩).memory:=by
 rw[MakeChecks.laidMetH_plain _ _ _ i6];exact laidMet_laidAll _ i6 i6
set_option maxRecDepth 100000 in
theorem CQ(a:Os)(args:Array Value):((laidWorld a).forCall (fun _ _=>0) ⟨#[],args,[]⟩).variablesZipB prog=true:=by kernel_rfl
set_option maxRecDepth 100000 in
theorem CR(a:Os)(args:Array Value):(((laidWorld a).forCall (fun _ _=>0) ⟨#[],args,[]⟩).heap.toList.drop prog.globals.size).take ((begin prog (fun _ _=>0) default).world.heap.size-prog.globals.size)=
   (begin prog (fun _ _=>0) default).world.heap.toList.drop prog.globals.size:=by kernel_rfl
theorem witness_gen{C:Checked}{H:Type}{enc:TypeId×Value->H}{k:Os}{f:FuncId}{fn:Func}{s:OpenSpec}{b:List PathCond}{c:Bool}{d:List (String×DataW Unit)}(modest:Bool)(w0:World)(args:Array Value)(h:w0.os=k)(j:(w0.forCall (fun _ _=>0) ⟨#[],args,[]⟩).Shaped C.prog)(e:Input.okWideB C.prog (w0.forCall (fun _ _=>0) ⟨#[],args,[]⟩) f ⟨#[],args,[]⟩=true)(g:s.preRow enc C.prog fn b c d (w0.forCall (fun _ _=>0) ⟨#[],args,[]⟩).memory args):
  ∃(w:World) (a:Tape) (i:Input),w.os=k/\(w.forCall a i).Shaped C.prog/\i.vars=[]/\Input.okWide C.prog (w.forCall a i) .any w.heap.size f i/\
   s.preRow enc C.prog fn b c d (w.forCall a i).memory i.args/\({modest:=modest}:Assume).holds C.prog (lone (Frame.enter C.prog f i.args .normal) [] (w.forCall a i)):=
 ⟨w0,fun _ _=>0,⟨#[],args,[]⟩,h,j,(Input.okWide_of_okWideB (base:=0) e).1,(Input.okWide_of_okWideB e).2,g,by
  simp only[Assume.holds];exact⟨by simp,by simp,fun _=>Modest.zero,by simp,by simp⟩⟩
theorem laid_shaped(a:Os)(args:Array Value):((laidWorld a).forCall (fun _ _=>0) ⟨#[],args,[]⟩).Shaped Tryz.checked.prog:=World.shaped_of_ZipB (CQ a args) (CR a args)
theorem laid_os(a:Os):(laidWorld a).os=a:=World.laidAll_os _ _ _
open Go Go.Sl Go.Proofs.Tryz
def G7(b:UInt8):Bs->List Bs
 |[]=>[[]]
 |c::t=>if c=b then[]::G7 b t else match G7 b t with
  |[]=>[[c]]
  |w::ws=>(c::w)::ws
theorem CS(b:UInt8):∀s,G7 b s≠[]
 |[]=>by simp[G7]
 |c::t=>by
  rw[G7];split
  ·simp
  ·split<;>simp
theorem ow(b:UInt8)(u:Bs):∀w,G7 b (w++b::u)=G7 b w++G7 b u
 |[]=>by simp[G7]
 |c::t=>by
  rw[Q7,G7,G7,ow b u t];split
  ·rfl
  ·cases h:G7 b t with
   |nil=>exact absurd h (CS b t)
   |cons w ws=>rfl
theorem fE(b:UInt8):∀(w:Bs),(∀c∈w,c≠b)->G7 b w=[w]
 |[],_=>rfl
 |c::t,h=>by rw[G7,zk (h c x6),fE b t fun x hx=>h x (jj _ hx)]
def fF(w:Bs):Option Nat:=if w=[42] then some 0 else match aW w with
 |none=>none
 |some n=>if 0<n/\n<=4294967295 then some n else none
def qS(p:Bs):Option (Nat×Nat):=
 let a:=p.takeWhile fun c=>c !=58
 let b:=if a.length<p.length then p.drop (a.length+1) else a
 match fF a,fF b with
 |some x,some y=>some (x,y)
 |_,_=>none
def av:List Bs->Option (List (Nat×Nat))
 |[]=>some []
 |p::t=>match qS p,av t with
  |some x,some l=>some (x::l)
  |_,_=>none
def vq(s:Bs):Option (List (Nat×Nat)):=if 64<(G7 44 s).length then none else av (G7 44 s)
structure IT where
 kind:Nat
 peek:Bool
 part:Bool
 fr:Nat
 count:Nat
 deriving DecidableEq
structure KY where
 kind:Nat
 kids:Nat
 field:Bs
 text:Bs
 n:Nat
 set:List (Nat×Nat)
 deriving DecidableEq
abbrev Ao:KY:=⟨0,0,[],[],0,[]⟩
structure CM where
 tag:Bs
 kind:Nat
 uid:Bool
 cond:Bool
 box:Bs
 user:Bs
 pass:Bs
 a5Q:Bs
 set:List (Nat×Nat)
 a5M:List IT
 keys:List KY
 how:Nat
 a5S:Bool
 a5N:Bool
 a5O:Nat
 a5U:List Bs
 data:Bs
 deriving DecidableEq
abbrev ir:CM:=⟨[],0,false,false,[],[],[],[],[],[],[],0,false,false,0,[],[]⟩
def I1(s w:Bs)(p:Nat):Bool:=decide (R8 ((s.drop p).take w.length)=w)
def H_(s w:Bs)(p:Nat):Option Nat:=if I1 s w p=true then some (p+w.length) else none
def N9(may:UInt8->Bool)(s:Bs)(p:Nat):Bs:=(s.drop p).takeWhile may
def mD(s:Bs)(most p:Nat):Option (Nat×Nat):=(aW (N9 P0 s p)).bind fun n=>if n<=most then some (n,p+(N9 P0 s p).length) else none
def mE(s:Bs)(p:Nat):Option (Bs×Nat):=(H_ s [123] p).bind fun p1=>(mD s 4096 p1).bind fun q=>(H_ s [125,13,10] q.2).bind fun p3=>
 if p3+q.1<=s.length then some ((s.drop p3).take q.1,p3+q.1) else none
def vr(s:Bs)(p:Nat):Option (Bs×Nat):=if N9 P1 s p=[] then none else some (N9 P1 s p,p+(N9 P1 s p).length)
def lf(s:Bs)(p:Nat):Option (Bs×Nat):=
 if I1 s [123] p=true then mE s p
 else if I1 s [34] p=true then(vg (s.drop p)).map fun q=>(q.1,p+q.2)
 else(vr s p).bind fun q=>if q.1.length<=4096 then some q else none
def NR(s:Bs)(p:Nat):Option (Bs×Nat):=(lf s p).bind fun q=>(ja q.1).map fun b=>(b,q.2)
def ox(c:UInt8):Bool:=P0 c||decide (c=44)||decide (c=58)||decide (c=42)
def qT(s:Bs)(p:Nat):Option (List (Nat×Nat)×Nat):=(vq (N9 ox s p)).map fun l=>(l,p+(N9 ox s p).length)
def oz(s:Bs)(p:Nat):Option (List Bs×Nat):=if(T4 (s.drop p)).2.2=0 then some ((T4 (s.drop p)).1,p+(T4 (s.drop p)).2.1) else none
def dT{α:Type}(one:Nat->Option (α×Nat))(s:Bs):Nat->Nat->Option (List α×Nat)
 |0,_=>none
 |k+1,p=>(one p).bind fun q=>if I1 s [32] q.2=true then(dT one s k (q.2+1)).map fun r=>(q.1::r.1,r.2) else some ([q.1],q.2)
abbrev jl:List (Bs×Nat×Bool):=[([77,69,83,83,65,71,69,83],1,false),([85,73,68,78,69,88,84],2,false),([85,73,68,86,65,76,73,68,73,84,89],3,false),([85,78,83,69,69,78],4,false),([72,73,71,72,69,83,84,77,79,68,83,69,81],5,false)]
abbrev cI:List (Bs×Nat×Bool):=[([70,76,65,71,83],6,false),([85,73,68],7,false),([82,70,67,56,50,50,46,83,73,90,69],8,false),([77,79,68,83,69,81],9,false),([66,79,68,89,91,93],10,false),([66,79,68,89,91,72,69,65,68,69,82,93],11,false),([66,79,68,89,91,84,69,88,84,93],12,false),([66,79,68,89,46,80,69,69,75,91,93],10,true),([66,79,68,89,46,80,69,69,75,91,72,69,65,68,69,82,93],11,true),([66,79,68,89,46,80,69,69,75,91,84,69,88,84,93],12,true)]
def xX(s:Bs)(x:Bs×Nat×Bool)(p:Nat):Option (IT×Nat):=(mD s 4294967295 p).bind fun a=>(H_ s [46] a.2).bind fun p1=>(mD s 4294967295 p1).bind fun c=>
 if 0<c.1 then(H_ s [62] c.2).map fun e=>(⟨x.2.1,x.2.2,true,a.1,c.1⟩,e) else none
def cT(l:List (Bs×Nat×Bool))(s:Bs)(p:Nat):Option (IT×Nat):=(l.find? fun x=>I1 s x.1 p).bind fun x=>
 if 10<=x.2.1/\I1 s [60] (p+x.1.length)=true then xX s x (p+x.1.length+1) else some (⟨x.2.1,x.2.2,false,0,0⟩,p+x.1.length)
def oA(l:List (Bs×Nat×Bool))(s:Bs)(p:Nat):Option (List IT×Nat):=(dT (cT l s) s (s.length+1) p).bind fun q=>
 if q.1.length<=8 then(H_ s [41] q.2).map fun e=>(q.1,e) else none
abbrev Sf:List Bs:=[[65,78,83,87,69,82,69,68],[70,76,65,71,71,69,68],[68,69,76,69,84,69,68],[83,69,69,78],[68,82,65,70,84]]
abbrev a1p:Bs:=[78,79,84]
abbrev wOR:Bs:=[79,82]
abbrev a1q:Bs:=[65,76,76]
abbrev a1r:Bs:=[85,73,68]
abbrev vt:Bs:=[75,69,89,87,79,82,68]
abbrev xY:Bs:=[85,78,75,69,89,87,79,82,68]
abbrev KQ:Bs:=[76,65,82,71,69,82]
abbrev FS:Bs:=[83,77,65,76,76,69,82]
abbrev KR:Bs:=[77,79,68,83,69,81]
abbrev Sg:Bs:=[84,69,88,84]
abbrev Sh:Bs:=[66,79,68,89]
abbrev FT:Bs:=[83,85,66,74,69,67,84]
abbrev Si:Bs:=[70,82,79,77]
abbrev wTO:Bs:=[84,79]
abbrev KS:Bs:=[72,69,65,68,69,82]
def dU(c:UInt8):Bool:=decide (65<=c.toNat)&&decide (c.toNat<=90)||decide (97<=c.toNat)&&decide (c.toNat<=122)
def OY(c:UInt8):Bool:=decide (33<=c.toNat)&&decide (c.toNat<=126)&&!decide (c=58)
def OZ(s:Bs):Bool:=s.all OY&&!s.isEmpty&&decide (s.length<=32)
def tu(k:Nat)(f:Bs)(s:Bs)(p:Nat):Option (KY×Nat):=(lf s p).map fun q=>({Ao with kind:=k,field:=f,text:=q.1},q.2)
def FU(k:Nat)(s:Bs)(p:Nat):Option (KY×Nat):=(mD s D9 p).map fun q=>({Ao with kind:=k,n:=q.1},q.2)
def NS(k:Nat)(s:Bs)(p:Nat):Option (KY×Nat):=(qT s p).map fun q=>({Ao with kind:=k,set:=q.1},q.2)
def Sj(s w:Bs)(p:Nat):Option (KY×Nat):=
 if w=vt\/w=xY then(vr s p).bind fun q=>(E3 q.1).map fun f=>({Ao with kind:=7,field:=f,n:=if w=vt then 1 else 0},q.2)
 else if w=KQ then FU 8 s p
 else if w=FS then FU 9 s p
 else if w=KR then FU 10 s p
 else if w=Sg then tu 11 [] s p
 else if w=Sh then tu 12 [] s p
 else if w=FT\/w=Si\/w=wTO then tu 13 (U9 w) s p
 else if w=KS then(lf s p).bind fun q=>if OZ q.1=true then(H_ s [32] q.2).bind fun e=>tu 13 (U9 q.1) s e else none
 else none
def NT(w:Bs)(n:Nat):KY:={Ao with kind:=7,field:=(E3 (92::w)).getD [],n:=n}
def Sk(s w:Bs)(p:Nat):Option (KY×Nat):=
 if w∈Sf then some (NT w 1,p)
 else if w.take 2=[85,78]/\w.drop 2∈Sf then some (NT (w.drop 2) 0,p)
 else(H_ s [32] p).bind fun e=>Sj s w e
def Sn(n:Nat):KY:={Ao with kind:=1,kids:=n}
def FV(s:Bs)(sub:Nat->Option (List KY×Nat))(p:Nat):Option (List KY×Nat):=(dT sub s (s.length+1) p).map fun q=>(Sn q.1.length::q.1.flatten,q.2)
def a1s(s:Bs)(sub:Nat->Option (List KY×Nat))(w:Bs)(p:Nat):Option (List KY×Nat):=
 if w=a1p then(H_ s [32] p).bind fun e=>(sub e).map fun q=>({Ao with kind:=2}::q.1,q.2)
 else if w=wOR then(H_ s [32] p).bind fun e=>(sub e).bind fun q=>(H_ s [32] q.2).bind fun e2=>(sub e2).map fun r=>({Ao with kind:=3}::(q.1++r.1),r.2)
 else if w=a1q then some ([{Ao with kind:=4}],p)
 else if w=a1r then(H_ s [32] p).bind fun e=>(NS 6 s e).map fun q=>([q.1],q.2)
 else(Sk s w p).map fun q=>([q.1],q.2)
def So(s:Bs)(sub grp:Nat->Option (List KY×Nat))(p:Nat):Option (List KY×Nat):=
 if I1 s [40] p=true then(grp (p+1)).bind fun q=>(H_ s [41] q.2).map fun e=>(q.1,e)
 else if((s.drop p).head?.any fun c=>P0 c||decide (c=42))=true then(NS 5 s p).map fun q=>([q.1],q.2)
 else a1s s sub (R8 (N9 dU s p)) (p+(N9 dU s p).length)
def Pa(s:Bs):Nat->Nat->Option (List KY×Nat)
 |0,p=>So s (fun _=>none) (fun _=>none) p
 |k+1,p=>So s (Pa s k) (FV s (Pa s k)) p
def KU(s:Bs)(p:Nat):Option (List KY×Nat):=(FV s (Pa s 7) p).bind fun q=>if q.1.length<=32 then some q else none
abbrev vu:List Bs:=[[67,65,80,65,66,73,76,73,84,89],[78,79,79,80],[76,79,71,79,85,84],[67,76,79,83,69],[69,88,80,85,78,71,69],[69,78,65,66,76,69],[76,79,71,73,78],[83,69,76,69,67,84],[69,88,65,77,73,78,69],[67,82,69,65,84,69],[68,69,76,69,84,69],[76,73,83,84],[83,84,65,84,85,83],[65,80,80,69,78,68],[83,69,65,82,67,72],[70,69,84,67,72],[83,84,79,82,69],[67,79,80,89]]
def H6(w:Bs):Nat:=if w∈vu then vu.idxOf w+1 else 0
abbrev Ap:Bs:=[32,67,79,78,68,83,84,79,82,69]
abbrev ci:Bs:=[32,40,67,79,78,68,83,84,79,82,69,41]
abbrev NU:Bs:=[32,34,34,32]
abbrev vx:Bs:=[40,85,78,67,72,65,78,71,69,68,83,73,78,67,69,32]
abbrev rF:Bs:=[32,40,67,72,65,78,71,69,68,83,73,78,67,69,32]
abbrev xZ:Bs:=[70,76,65,71,83]
abbrev cU:Bs:=[46,83,73,76,69,78,84]
abbrev Sq:Bs:=[85,73,68,32]
def iu(c:UInt8):Bool:=decide (c=37)||decide (c=42)||P1 c
def yb(s:Bs)(p:Nat):Option (Bs×Nat):=(H_ s [32] p).bind fun e=>lf s e
def iv(s:Bs)(p:Nat):Option (Bs×Nat):=(H_ s [32] p).bind fun e=>NR s e
def dy(s:Bs)(p:Nat):Option (Nat×Nat):=(mD s D9 p).bind fun q=>(H_ s [41] q.2).map fun e=>(q.1,e)
def dz(c:CM)(s:Bs)(p:Nat):Option (CM×Nat):=(yb s p).bind fun q=>(yb s q.2).map fun r=>({c with user:=q.1,pass:=r.1},r.2)
def I9(c:CM)(s:Bs)(p:Nat):Option (CM×Nat):=(iv s p).map fun q=>({c with box:=q.1},q.2)
def lg(c:CM)(s:Bs)(p:Nat):Option (CM×Nat):=(I9 c s p).map fun q=>if I1 s ci q.2=true then({q.1 with cond:=true},q.2+12) else q
def jo(c:CM)(s:Bs)(p:Nat):Option (CM×Nat):=(H_ s NU p).bind fun e=>
 if N9 iu s e=[] then(lf s e).map fun q=>({c with a5Q:=q.1},q.2) else some ({c with a5Q:=N9 iu s e},e+(N9 iu s e).length)
def jt(c:CM)(s:Bs)(p:Nat):Option (CM×Nat):=(I9 c s p).bind fun q=>(H_ s [32,40] q.2).bind fun e=>(oA jl s e).map fun r=>({q.1 with a5M:=r.1},r.2)
def jA(c:CM)(s:Bs)(p:Nat):Option (CM×Nat):=(I9 c s p).bind fun q=>(H_ s [32] q.2).bind fun e=>
 if I1 s [40] e=true then(oz s e).bind fun f=>(H_ s [32] f.2).bind fun e2=>(mE s e2).map fun r=>({q.1 with a5U:=f.1,data:=r.1},r.2)
 else(mE s e).map fun r=>({q.1 with data:=r.1},r.2)
def Sr(c:CM)(s:Bs)(p:Nat):Option (CM×Nat):=(H_ s [32] p).bind fun e=>(KU s e).map fun q=>({c with keys:=q.1},q.2)
def vy(c:CM)(s:Bs)(p:Nat):Option (CM×Nat):=if I1 s rF p=true then(dy s (p+15)).map fun q=>({c with a5O:=q.1,a5N:=true},q.2) else some (c,p)
def oB(c:CM)(s:Bs)(p:Nat):Option (CM×Nat):=
 (if I1 s [40] p=true then oA cI s (p+1) else(cT cI s p).map fun q=>([q.1],q.2)).bind fun q=>vy {c with a5M:=q.1} s q.2
def Pb(c:CM)(s:Bs)(p:Nat):Option (CM×Nat):=if I1 s vx p=true then(dy s (p+16)).bind fun q=>(H_ s [32] q.2).map fun e=>({c with a5O:=q.1,a5N:=true},e) else some (c,p)
def vz(s:Bs)(p:Nat):Nat×Nat:=if I1 s [43] p=true then(1,p+1) else if I1 s [45] p=true then(2,p+1) else(0,p)
def CT(s:Bs)(p:Nat):Bool×Nat:=if I1 s cU p=true then(true,p+7) else(false,p)
def oC(c:CM)(s:Bs)(p:Nat):Option (CM×Nat):=(Pb c s p).bind fun q=>(H_ s xZ (vz s q.2).2).bind fun e=>(H_ s [32] (CT s e).2).bind fun e2=>
 (oz s e2).map fun f=>({q.1 with how:=(vz s q.2).1,a5S:=(CT s e).1,a5U:=f.1},f.2)
def cV(c:CM)(s:Bs)(p:Nat)(k:CM->Nat->Option (CM×Nat)):Option (CM×Nat):=(H_ s [32] p).bind fun e=>(qT s e).bind fun q=>k {c with set:=q.1} q.2
def aJ(s:Bs)(k:CM->Nat->Option (CM×Nat))(c:CM)(p:Nat):Option (CM×Nat):=(H_ s [32] p).bind fun e=>k c e
def T5(c:CM)(s:Bs)(p:Nat):Option (CM×Nat):=
 if c.kind<=5 then some (c,p)
 else if c.kind=6 then(H_ s Ap p).map fun e=>(c,e)
 else if c.kind=7 then dz c s p
 else if c.kind<=9 then lg c s p
 else if c.kind<=11 then I9 c s p
 else if c.kind=12 then jo c s p
 else if c.kind=13 then jt c s p
 else if c.kind=14 then jA c s p
 else if c.kind=15 then Sr c s p
 else if c.kind=16 then cV c s p (aJ s fun c e=>oB c s e)
 else if c.kind=17 then cV c s p (aJ s fun c e=>oC c s e)
 else cV c s p fun c e=>I9 c s e
def vA(c:UInt8):Bool:=P1 c&&!decide (c=43)
def aZ(s:Bs):Bs:=N9 vA s 0
def cj(s:Bs):Bool:=!(aZ s).isEmpty&&decide ((aZ s).length<=32)&&I1 s [32] (aZ s).length
def qU(s:Bs):Bool:=I1 s Sq ((aZ s).length+1)
def tv(s:Bs):Nat:=(aZ s).length+1+(if qU s=true then 4 else 0)
def P9(s:Bs):Bs:=N9 (fun c=>!decide (c=32)) s (tv s)
def first(s:Bs):CM:={ir with tag:=aZ s}
theorem iw{s w:Bs}{p:Nat}(h:I1 s w p=true)(b:w≠[]):p+w.length<=s.length:=by
 unfold I1 at h;simp only[jw] at h;have a:=jk List.length h;unfold R8 at a;simp only[zr,zm,z8] at a;have:=Zr.mpr b;omega
theorem Pc(a:UInt8->Bool)(s:Bs)(p:Nat)(hp:p<=s.length):p+(N9 a s p).length<=s.length:=by
 have b:=(J2 a (l:=s.drop p)).length_le;unfold N9;rw[z8] at b;omega
theorem C_{s w:Bs}{p e:Nat}(h:H_ s w p=some e)(a:w≠[]):I1 s w p=true/\e=p+w.length/\e<=s.length:=by
 unfold H_ at h;split at h
 ·next k=>
  have b:=j8 h;have:=iw k a;exact⟨k,b.symm,by omega⟩
 ·cases h
structure LT where
 uid:Nat
 a5U:List Bs
 mod:Nat
 hash:Bs
 size:Nat
 deriving DecidableEq
structure BX where
 name:Bs
 val:Nat
 next:Nat
 high:Nat
 lts:List LT
 deriving DecidableEq
abbrev Pd:BX:=⟨[],0,0,0,[]⟩
structure SX where
 ses:Nat
 last:Nat
 node:Int
 life:Nat
 tr:Nat
 deriving DecidableEq
structure HO where
 node:Int
 life:Nat
 tr:Nat
 deriving DecidableEq
abbrev NV:HO:=⟨0,0,0⟩
structure ML where
 a5F:List BX
 nval:Nat
 a5G:List HO
 a5H:List SX
 nses:Nat
 a5R:Nat
 deriving DecidableEq
structure RQ where
 op:Int
 ses:Nat
 num:Nat
 node:Int
 life:Nat
 tr:Nat
 box:Bs
 tz:Bs
 val:Nat
 a5L:List (Nat×Nat)
 a5U:List Bs
 how:Int
 hasS:Bool
 a5O:Nat
 hash:Bs
 size:Nat
 a5R:Nat
 deriving DecidableEq
abbrev cW:RQ:=⟨0,0,0,0,0,0,[],[],0,[],[],0,false,0,[],0,0⟩
structure OC where
 code:Int
 ses:Nat
 val:Nat
 a5L:List Nat
 mods:List Nat
 deriving DecidableEq
abbrev B9:OC:=⟨0,0,0,[],[]⟩
abbrev eK:Nat:=4294967295
abbrev CU:Nat:=4611686018427387904
def P_(most k:Nat):Nat:=if k=0 then most else k
def gN(l:List (Nat×Nat))(most n:Nat):Bool:=l.any fun r=>decide (min (P_ most r.1) (P_ most r.2)<=n/\n<=max (P_ most r.1) (P_ most r.2))
def F9(l:List Bs)(how:Int)(b:List Bs):List Bs×Int:=
 if G1 l=false\/G1 b=false\/how<0\/3<=how then([],1)
 else
  let o:=if how=0 then T3 b else if how=1 then T3 (l++b) else(T3 l).filter fun f=>!decide (f∈b)
  if 16<o.length then([],7) else(o,0)
def xD(s:ML)(name:Bs):Option Nat:=s.a5F.findIdx? fun b=>decide (b.name=name)
def rG(s:ML)(n:Nat):Option Nat:=s.a5H.findIdx? fun x=>decide (x.ses=n)
def gS(s:ML)(n:Int):Option Nat:=s.a5G.findIdx? fun h=>decide (h.node=n)
def gn(s:ML)(n:Int)(t:Nat):Option Nat:=s.a5H.findIdx? fun x=>decide (x.node=n/\x.tr=t)
def ak(s:ML)(i:Nat):BX:=s.a5F.getD i Pd
def al(s:ML)(name:Bs):Option BX:=(xD s name).map (ak s)
def named(s:ML)(r:RQ):Option Nat:=(xD s r.box).bind fun i=>if(ak s i).val=r.val then some i else none
def vB(b:BX):Nat:=(b.lts.getLast?.map LT.uid).getD 0
def X7(r:RQ)(b:BX)(x:LT):Bool:=gN r.a5L (vB b) x.uid
abbrev AR:=ML×OC×Int
def dA(h:HO):List HO->List HO
 |[]=>[h]
 |x::t=>if h.node<x.node then h::x::t else x::dA h t
def mZ(s:ML)(at_:Option Nat)(h:HO):ML:=match at_ with
 |some i=>{s with a5G:=s.a5G.set i h}
 |none=>{s with a5G:=dA h s.a5G}
def lU(s:ML)(r:RQ):AR:=
 if r.node<1\/5<r.node\/r.life=0\/r.tr=0 then(s,B9,1)
 else
  let k:=gS s r.node
  let h:=(k.map fun i=>s.a5G.getD i NV).getD NV
  if r.life<h.life then(s,B9,14)
  else if h.life=r.life/\r.tr<=h.tr then match gn s r.node r.tr with
   |none=>(s,B9,14)
   |some i=>(s,{B9 with ses:=(s.a5H.getD i ⟨0,0,0,0,0⟩).ses},0)
  else
   let a5H:=if h.life<r.life then s.a5H.filter fun x=>!decide (x.node=r.node) else s.a5H
   if 16<=a5H.length\/CU<=s.nses then(s,B9,7)
   else(mZ {s with a5H:=a5H++[⟨s.nses,0,r.node,r.life,r.tr⟩],nses:=s.nses+1} k ⟨r.node,r.life,r.tr⟩,{B9 with ses:=s.nses},0)
def lh(s:ML):AR:=if s.a5R=D9 then(s,B9,13) else({s with a5R:=s.a5R+1},B9,0)
def Pe(s:ML)(r:RQ):AR:=({s with a5H:=s.a5H.filter fun x=>!decide (x.ses=r.ses)},B9,0)
def jB(b:BX):List BX->List BX
 |[]=>[b]
 |x::t=>if gR b.name x.name=true then b::x::t else x::jB b t
def cX(s:ML)(r:RQ):AR:=
 if ja r.box≠some r.box then(s,B9,1)
 else if(xD s r.box).isSome=true then(s,B9,12)
 else if 8<=s.a5F.length then(s,B9,7)
 else if eK<s.nval then(s,B9,13)
 else({s with a5F:=jB ⟨r.box,s.nval,1,1,[]⟩ s.a5F,nval:=s.nval+1},{B9 with val:=s.nval},0)
def bM(s:ML)(r:RQ):AR:=
 if r.box=cS then(s,B9,1) else match xD s r.box with
 |none=>(s,B9,6)
 |some i=>({s with a5F:=s.a5F.eraseIdx i},B9,0)
def jC(s:ML)(i:Nat)(b:BX):ML:={s with a5F:=s.a5F.set i b}
def cY(s:ML)(r:RQ):AR:=match xD s r.box with
 |none=>(s,B9,6)
 |some i=>
  let b:=ak s i
  if G1 r.a5U=false\/r.hash.length≠32\/4096<r.size then(s,B9,1)
  else if r.a5R≠s.a5R then(s,B9,15)
  else if 32<=b.lts.length then(s,B9,7)
  else if eK<b.next\/D9<=b.high then(s,B9,13)
  else(jC s i {b with high:=b.high+1,next:=b.next+1,lts:=b.lts++[⟨b.next,r.a5U,b.high+1,r.hash,r.size⟩]},{B9 with val:=b.val,a5L:=[b.next]},0)
def I2(r:RQ)(b:BX):List LT->Option (List LT×List Nat×List Nat×Bool)
 |[]=>some ([],[],[],false)
 |x::t=>
  if X7 r b x=false then(I2 r b t).map fun q=>(x::q.1,q.2.1,q.2.2.1,q.2.2.2)
  else if r.hasS=true/\r.a5O<x.mod then(I2 r b t).map fun q=>(x::q.1,q.2.1,x.uid::q.2.2.1,q.2.2.2)
  else if(F9 x.a5U r.how r.a5U).2≠0 then none
  else(I2 r b t).map fun q=>if(F9 x.a5U r.how r.a5U).1=x.a5U then(x::q.1,x.uid::q.2.1,q.2.2.1,q.2.2.2)
   else({x with a5U:=(F9 x.a5U r.how r.a5U).1,mod:=b.high+1}::q.1,x.uid::q.2.1,q.2.2.1,true)
def dB(s:ML)(r:RQ):AR:=match named s r with
 |none=>(s,B9,6)
 |some i=>
  let b:=ak s i
  if G1 r.a5U=false\/r.how<0\/2<r.how then(s,B9,1)
  else match I2 r b b.lts with
   |none=>(s,B9,7)
   |some q=>
    if q.2.2.2=false then(s,{B9 with a5L:=q.2.1,mods:=q.2.2.1},0)
    else if D9<=b.high then(s,B9,13)
    else(jC s i {b with lts:=q.1,high:=b.high+1},{B9 with a5L:=q.2.1,mods:=q.2.2.1},0)
abbrev jD:Bs:=[92,68,101,108,101,116,101,100]
def jE(r:RQ)(b:BX)(x:LT):Bool:=decide (jD∈x.a5U)&&(r.a5L.isEmpty||X7 r b x)
def bd(s:ML)(r:RQ):AR:=match named s r with
 |none=>(s,B9,6)
 |some i=>
  let b:=ak s i
  let u:=(b.lts.filter (jE r b)).map LT.uid
  if u=[] then(s,B9,0)
  else if D9<=b.high then(s,B9,13)
  else(jC s i {b with lts:=b.lts.filter fun x=>!jE r b x,high:=b.high+1},{B9 with a5L:=u},0)
def fg(n m:Nat):List LT->List LT
 |[]=>[]
 |x::t=>{x with uid:=n,mod:=m}::fg (n+1) m t
def gT(s:ML)(r:RQ):AR:=match named s r with
 |none=>(s,B9,6)
 |some j=>
  let b:=ak s j
  match xD s r.tz with
  |none=>(s,B9,21)
  |some i=>
   let l:=b.lts.filter (X7 r b)
   let t:=ak s i
   if l=[] then(s,{B9 with val:=t.val},0)
   else if 32<t.lts.length+l.length then(s,{B9 with val:=t.val},7)
   else if eK+1<t.next+l.length\/D9<=t.high then(s,{B9 with val:=t.val},13)
   else(jC s i {t with high:=t.high+1,next:=t.next+l.length,lts:=t.lts++fg t.next (t.high+1) l},{B9 with val:=t.val,a5L:=(fg t.next (t.high+1) l).map LT.uid},0)
def JQ(s:ML)(r:RQ):AR:=
 if r.op=1 then lU s r else if r.op=2 then Pe s r else if r.op=3 then(s,B9,0) else if r.op=4 then cX s r else if r.op=5 then bM s r
 else if r.op=6 then cY s r else if r.op=7 then dB s r else if r.op=8 then bd s r else if r.op=9 then gT s r else lh s
def vC(q:AR):ML×OC:=(q.1,if q.2.2=0 then q.2.1 else{B9 with code:=q.2.2})
def D6(s:ML)(r:RQ):ML×OC:=
 if r.op<1\/11<=r.op\/64<r.a5L.length then(s,{B9 with code:=1})
 else if r.op=1\/r.op=10 then vC (JQ s r)
 else match rG s r.ses with
  |none=>(s,{B9 with code:=16})
  |some i=>
   let x:=s.a5H.getD i ⟨0,0,0,0,0⟩
   if r.num<=x.last then(s,{B9 with code:=14})
   else vC (JQ {s with a5H:=s.a5H.set i {x with last:=r.num}} r)
def FW:ML:=⟨[⟨cS,1,1,1,[]⟩],2,[],[],1,0⟩
def Ss(n:Nat):List Nat->List Nat
 |[]=>[n]
 |x::t=>if n<x then n::x::t else if n=x then x::t else x::Ss n t
def St(l:List Nat):List Nat:=l.foldr Ss []
def Su(out:List (Nat×Nat))(n:Nat):List (Nat×Nat):=match out.getLast? with
 |some r=>if r.2=n-1 then out.dropLast++[(r.1,n)] else out++[(n,n)]
 |none=>[(n,n)]
def Sv(l:List Nat):List (Nat×Nat):=(St (l.filter fun n=>decide (0<n))).foldl Su []
def fG(n:Nat):Bs:=if n=0 then[42] else R1 n
def aD(r:Nat×Nat):Bs:=if r.2=r.1 then fG r.1 else fG r.1++58::fG r.2
structure VW where
 box:Bs
 val:Nat
 a5I:List (Nat×Nat)
 deriving DecidableEq
abbrev Aq:VW:=⟨[],0,[]⟩
def P4(b:BX):VW:=⟨b.name,b.val,b.lts.map fun x=>(x.uid,x.mod)⟩
def tx(v:VW)(u:Nat):Option Nat:=v.a5I.findIdx? fun r=>decide (r.1=u)
def cJ(v:VW)(u:Nat):Nat:=(tx v u).elim 0 (· +1)
def ck(v:VW)(u m:Nat):VW:=match tx v u with
 |none=>v
 |some i=>{v with a5I:=v.a5I.set i ((v.a5I.getD i (0,0)).1,m)}
def L9(l:List (Nat×Nat)):Nat:=l.foldl (fun m r=>max m r.1) 0
def X8(v:VW)(l:List (Nat×Nat))(byUid:Bool):Option (List Nat):=
 let n:=v.a5I.length
 if byUid=false/\(l.any fun x=>decide (min (P_ n x.1) (P_ n x.2)<1\/n<max (P_ n x.1) (P_ n x.2)))=true then none
 else some ((v.a5I.zipIdx.filter fun x=>if byUid then gN l (L9 v.a5I) x.1.1 else gN l n (x.2+1)).map fun x=>x.1.1)
def a1t(v:VW)(a5L:List Nat)(byUid:Bool):List (Nat×Nat):=
 Sv (a5L.filterMap fun u=>(tx v u).map fun i=>if byUid then u else i+1)
def bN(b:BX)(u:Nat):Option LT:=b.lts.find? fun x=>decide (x.uid=u)
def V7(b:BX):Nat->List (Nat×Nat)->List (Nat×Nat)×List RR
 |0,a5I=>(a5I,[])
 |k+1,a5I=>match bN b (a5I.getD k (0,0)).1 with
  |some _=>V7 b k a5I
  |none=>((V7 b k (a5I.eraseIdx k)).1,{R0 with kind:=9,n:=k+1}::(V7 b k (a5I.eraseIdx k)).2)
def tA(x:LT)(n:Nat)(cond:Bool):RR:=
 {R0 with kind:=14,n:=n,values:={V0 with kind:=6,a5U:=x.a5U}::if cond then[{V0 with kind:=9,n:=x.mod}] else[]}
def X9(b:BX)(r:Nat×Nat):(Nat×Nat)×Option LT:=match bN b r.1 with
 |none=>(r,none)
 |some x=>if x.mod=r.2 then(r,none) else((r.1,x.mod),some x)
def U7(v:VW)(b:BX)(expunge cond:Bool):VW×List RR:=
 if b.name≠v.box\/b.val≠v.val then(v,[])
 else
  let q:=if expunge then V7 b v.a5I.length v.a5I else(v.a5I,[])
  let new:=(b.lts.filter fun x=>decide (L9 q.1<x.uid)).map fun x=>(x.uid,x.mod)
  let had:=q.1.map (X9 b)
  ({v with a5I:=had.map (·.1)++new},
   q.2++(if new=[] then[] else[{R0 with kind:=8,n:=q.1.length+new.length}])++had.zipIdx.filterMap fun h=>h.1.2.map fun x=>tA x (h.2+1) cond)
structure PL where
 seq:Nat
 mseq:Nat
 muid:Nat
structure SE where
 a5K:Nat
 ses:Nat
 num:Nat
 a5J:VW
 ro:Bool
 cond:Bool
 a5P:Bool
 cmd:CM
 a5L:List Nat
abbrev oD:SE:=⟨0,0,0,Aq,false,false,false,ir,[]⟩
structure DD where
 a5T:List RR
 ask:Bool
 req:RQ
 store:Bool
 body:Bs
 want:List Bs
 close:Bool
abbrev F8:DD:=⟨[],false,cW,false,[],[],false⟩
abbrev SD:=SE×DD
abbrev bT(tag:Bs):RR:={R0 with kind:=1,tag:=tag,text:=[100,111,110,101]}
abbrev kP(tag code text:Bs):RR:={R0 with kind:=2,tag:=tag,code:=code,text:=text}
abbrev eL(tag text:Bs):RR:={R0 with kind:=3,tag:=tag,text:=text}
abbrev G2(text:Bs):RR:={R0 with kind:=4,tag:=[42],text:=text}
def U_(q:SD)(r:RR):SD:=(q.1,{q.2 with a5T:=q.2.a5T++[r]})
def FY(q:SD)(text:Bs):SD:=({q.1 with a5K:=3},{q.2 with a5T:=q.2.a5T++[G2 text],close:=true})
def oE(q:SD)(tag:Bs):SD:=U_ (FY q [108,111,103,103,105,110,103,32,111,117,116]) (bT tag)
def G3(q:SD)(c:CM)(r:RQ)(a5L:List Nat):SD:=
 if r.op=1 then({q.1 with a5P:=true,cmd:=c,a5L:=a5L},{q.2 with ask:=true,req:=r})
 else({q.1 with a5P:=true,cmd:=c,a5L:=a5L,num:=q.1.num+1},{q.2 with ask:=true,req:={r with ses:=q.1.ses,num:=q.1.num+1}})
def am(q:SD)(op:Int):RQ:={cW with op:=op,box:=q.1.a5J.box,val:=q.1.a5J.val}
abbrev be:RQ:={cW with op:=3}
def lV(q:SD)(c:CM):SD:=G3 q c be []
def tB(q:SD)(c:CM)(r:RQ)(a5L:List Nat):SD:=
 let l:=a1t q.1.a5J a5L true
 if l.length<1\/64<l.length then G3 q c be a5L else G3 q c {r with a5L:=l} a5L
def NX(digest:Bs->Bs)(q:SD)(c:CM):SD:=
 if c.kind=1 then U_ (U_ q {R0 with kind:=6}) (bT c.tag)
 else if c.kind=2 then(if q.1.a5K=0 then U_ q (bT c.tag) else lV q c)
 else if c.kind=3 then(if q.1.a5K=0 then oE q c.tag else G3 q c {cW with op:=2} [])
 else if c.kind=4 then(if q.1.ro then lV q c else G3 q c (am q 8) [])
 else if c.kind=5 then(if q.1.ro then U_ q (kP c.tag [82,69,65,68,45,79,78,76,89] [105,116,32,109,97,121,32,110,111,116,32,98,101]) else G3 q c (am q 8) [])
 else if c.kind=6 then U_ (U_ ({q.1 with cond:=true},q.2) {R0 with kind:=7}) (bT c.tag)
 else if c.kind=7 then(if c.pass=[104,111,114,110] then G3 q c {cW with op:=1} [] else U_ q (kP c.tag [65,85,84,72,69,78,84,73,67,65,84,73,79,78,70,65,73,76,69,68] [119,114,111,110,103,32,112,97,115,115,119,111,114,100]))
 else if c.kind<=9 then lV ({q.1 with cond:=q.1.cond||c.cond},q.2) c
 else if c.kind=10 then G3 q c {cW with op:=4,box:=c.box} []
 else if c.kind=11 then G3 q c {cW with op:=5,box:=c.box} []
 else if c.kind<=13\/c.kind=15 then lV q c
 else if c.kind=14 then G3 (q.1,{q.2 with store:=true,body:=c.data}) c {cW with op:=6,box:=c.box,a5U:=c.a5U,hash:=digest c.data,size:=c.data.length} []
 else match (if c.kind=17/\q.1.ro=true then none else some (X8 q.1.a5J c.set c.uid)) with
  |none=>U_ q (kP c.tag [82,69,65,68,45,79,78,76,89] [105,116,32,109,97,121,32,110,111,116,32,98,101])
  |some none=>U_ q (eL c.tag [110,111,32,115,117,99,104,32,109,101,115,115,97,103,101])
  |some (some l)=>
   if c.kind=16 then
    if q.1.ro=true\/c.a5N=true\/(c.a5M.any fun x=>decide (10<=x.kind)&&!x.peek)=false then G3 q c be l
    else tB q c {am q 7 with a5U:=[[92,83,101,101,110]],how:=1} l
   else if c.kind=17 then tB q c {am q 7 with a5U:=c.a5U,how:=c.how,hasS:=c.a5N,a5O:=c.a5O} l
   else tB q c {am q 9 with tz:=c.box} l
def O3(k:Nat):Nat×Nat:=if k=1\/k=2\/k=3 then(0,2) else if k=4\/k=5\/15<=k then(2,2) else if k=7 then(0,0) else(1,2)
def tC(c:CM):Bs:=if c.tag=[] then[42] else c.tag
def V8(s:SE):SE:={s with a5P:=false,cmd:=ir,a5L:=[]}
def T6(s:SE):SD:=if s.a5P=false then(s,F8) else if s.cmd.kind=3 then oE (V8 s,F8) s.cmd.tag else U_ (V8 s,F8) (kP s.cmd.tag [85,78,65,86,65,73,76,65,66,76,69] [116,114,121,32,97,103,97,105,110])
abbrev BL:=List (Bs×Bs)
def mF(kind:Nat)(e:Int):Bs×Bs:=
 if e=6/\kind=14\/e=21 then([84,82,89,67,82,69,65,84,69],[116,104,101,114,101,32,105,115,32,110,111,110,101]) else if e=6 then([78,79,78,69,88,73,83,84,69,78,84],[116,104,101,114,101,32,105,115,32,110,111,110,101]) else if e=12 then([65,76,82,69,65,68,89,69,88,73,83,84,83],[105,116,32,105,115,32,116,104,101,114,101])
 else if e=7 then([79,86,69,82,81,85,79,84,65],[110,111,32,114,111,111,109]) else if e=13 then([76,73,77,73,84],[110,117,109,98,101,114,115,32,97,114,101,32,117,115,101,100,32,117,112]) else if e=1 then([67,65,78,78,79,84],[105,116,32,109,97,121,32,110,111,116,32,98,101]) else([85,78,65,86,65,73,76,65,66,76,69],[116,114,121,32,97,103,97,105,110])
def mG(s:SE)(st:ML):BX:=((al st s.a5J.box).bind fun b=>if b.val=s.a5J.val then some b else none).getD Pd
