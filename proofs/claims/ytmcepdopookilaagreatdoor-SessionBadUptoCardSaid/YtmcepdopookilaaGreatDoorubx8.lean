import Derived.Test.YtmcepdopookilaaGreatDoorubx7
import Derived.Laws.Cover1
import Derived.Test.YtmcepdopookilaaGreatDoorubx5
import Derived.Test.YtmcepdopookilaaGreatDoorRows
import Derived.WalkKit
import Derived.ProofKit
import Derived.OpenShut
import Derived.MakeChecks
import Derived.Lib.LaidTab
import Derived.Stop.LaidErr
import Derived.Deep.DeepLaidRun
import Derived.Lay
import Derived.Deep.DeepHandedRow
import Derived.Deep.DeepWitnessRowRef
set_option linter.unusedVariables false
set_option linter.unusedSimpArgs false
set_option linter.defProp false
namespace Go.Proofs.YtmcepdopookilaaGreatDoor.Rp
open Go Go.Sl Go.Proofs.Tryz
abbrev Bs:=List UInt8
abbrev D9:Nat:=9223372036854775807
def P1(c:UInt8):Bool:=decide (48<=c.toNat)&&decide (c.toNat<=57)
def An(a:Nat)(c:UInt8):Nat:=10*a+(c.toNat-48)
def S9(a:Nat)(s:Bs):Nat:=s.foldl An a
theorem rE(a:Nat)(c:UInt8)(t:Bs):S9 a (c::t)=S9 (An a c) t:=by unfold S9;rw[Wq]
theorem om(a:Nat):S9 a []=a:=by unfold S9;rw[List.foldl_nil]
def dig(k:Nat):UInt8:=UInt8.ofNat (48+k)
def R5(n:Nat):Bs:=if h:n<10 then[dig n] else R5 (n/10)++[dig (n%10)]
termination_by n
decreasing_by omega
theorem bH{n:Nat}(h:n<10):R5 n=[dig n]:=by rw[R5];simp[h]
theorem gk{n:Nat}(h:¬n<10):R5 n=R5 (n/10)++[dig (n%10)]:=by rw[R5];simp[h]
theorem KE{k:Nat}(h:k<10):(dig k).toNat=48+k:=by
 unfold dig;rw[UInt8.toNat_ofNat'];omega
theorem Fw{k:Nat}(h:k<10):P1 (dig k)=true:=by
 unfold P1;rw[KE h];simp;omega
theorem lU(a:Nat)(x y:Bs):S9 a (x++y)=S9 (S9 a x) y:=by unfold S9;rw[Wr]
theorem KF(n:Nat):R5 n≠[]:=by
 rcases Qp n 10 with h|h
 ·rw[bH h];simp
 ·rw[gk qb];simp
theorem Fx(n:Nat):(R5 n).all P1=true:=by
 induction n using Nat.strongRecOn with
 |ind n ih=>
  rcases Qp n 10 with h|h
  ·rw[bH h];simp[Fw h]
  ·rw[gk qb,List.all_append,ih (n/10) qb];simp[Fw (Nat.mod_lt n (by omega:0<10))]
def aX(w:Bs):Option Nat:=if R5 (S9 0 w)=w/\S9 0 w<=D9 then some (S9 0 w) else none
theorem rF{w:Bs}{n:Nat}(h:aX w=some n):w=R5 n/\n<=D9:=by
 unfold aX at h;split at h
 ·next k=>simp at h;subst h;exact⟨k.1.symm,k.2⟩
 ·cases h
theorem Fy:aX []=none:=by
 unfold aX;split
 ·next k=>exact absurd k.1 (KF _)
 ·rfl
theorem bt(p:UInt8->Bool)(s:Bs):s=s.takeWhile p++s.drop (s.takeWhile p).length:=by
 induction s with
 |nil=>rfl
 |cons c t ih=>
  by_cases h:p c=true
  ·simp only[Zz,h,if_true,zx,Wx,Q8];rw[<-ih]
  ·simp[Zz,h]
theorem gT(p:UInt8->Bool)(s:Bs):∀c∈s.takeWhile p,p c=true:=by
 induction s with
 |nil=>simp
 |cons c t ih=>
  by_cases h:p c=true
  ·simp only[Zz,h,if_true];intro x a;rcases kw.mp a with rfl|a
   ·exact h
   ·exact ih x a
  ·simp[Zz,h]
theorem bI(p:UInt8->Bool):∀(w r:Bs),(∀c∈w,p c=true)->(∀c∈r.head?,p c=false)->(w++r).takeWhile p=w
 |[],[],_,_=>rfl
 |[],c::r,_,h=>by simp[Zz,h c x4]
 |c::w,r,hw,h=>by
  simp only[Q8,Zz,hw c x4,if_true];rw[bI p w r (fun x hx=>hw x (jw _ hx)) h]
theorem fF(p:UInt8->Bool)(s:Bs):∀c∈(s.drop (s.takeWhile p).length).head?,p c=false:=by
 induction s with
 |nil=>simp
 |cons c t ih=>
  by_cases h:p c=true
  ·simpa only[Zz,h,if_true,zx,Wx] using ih
  ·simp[Zz,h]
def P3(c:UInt8):Bool:=decide (33<=c.toNat)&&decide (c.toNat<=126)&&!([40,41,123,37,42,34,92,93]:Bs).contains c
def je(s:Bs):Bool:=s.all P3&&!s.isEmpty
def rG(c:UInt8):UInt8:=if 97<=c.toNat/\c.toNat<=122 then c-32 else c
def ir(c:UInt8):UInt8:=if 65<=c.toNat/\c.toNat<=90 then c+32 else c
def R9(s:Bs):Bs:=s.map rG
def U_(s:Bs):Bs:=s.map ir
def aY(c:UInt8):Bool:=decide (0<c.toNat)&&decide (c.toNat<128)&&!([10,13]:Bs).contains c
def Ao(b:Bs)(i:Nat):Bs->Option (Bs×Nat)
 |[]=>none
 |c::t=>if 512<b.length then none else if c=34 then some (b,i+1) else if c=92 then
   (match t with|[]=>none|d::t'=>if d=34\/d=92 then Ao (b++[d]) (i+2) t' else none)
  else if aY c then Ao (b++[c]) (i+1) t else none
theorem jf(b:Bs)(i:Nat)(c:UInt8)(t:Bs):Ao b i (c::t)=if 512<b.length then none else if c=34 then some (b,i+1) else if c=92 then
   (match t with|[]=>none|d::t'=>if d=34\/d=92 then Ao (b++[d]) (i+2) t' else none)
  else if aY c then Ao (b++[c]) (i+1) t else none:=Ao.eq_def ..
def vn:Bs->Option (Bs×Nat)
 |[]=>none
 |c::t=>if c=34 then Ao [] 1 t else none
def CI(c:UInt8):Bool:=decide (32<=c.toNat)&&decide (c.toNat<=126)&&!([37,42,34,92]:Bs).contains c
def vo(s:Bs):Bool:=!s.isEmpty&&s.all CI&&decide (s.length<=64)&&decide (s.head?≠some 32)&&decide (s.getLast?≠some 32)
abbrev cP:Bs:=[73,78,66,79,88]
def ji(s:Bs):Option Bs:=if vo s then some (if R9 s=cP then cP else s) else none
def gU(a b:Bs):Bool:=Op.bytesLess a b
theorem iu:∀a:Bs,gU a a=false
 |[]=>rfl
 |a::l=>by
  have:=iu l;simp only[gU] at*;simp[Op.bytesLess,this]
theorem bP:∀{a b c:Bs},gU a b=true->gU b c=true->gU a c=true
 |[],_,[],_,h=>by simp[gU,Op.bytesLess] at h
 |[],_,c::z,_,_=>rfl
 |a::x,[],_,h,_=>by simp[gU,Op.bytesLess] at h
 |a::x,b::y,[],_,h=>by simp[gU,Op.bytesLess] at h
 |a::x,b::y,c::z,h,k=>by
  have d:=@bP x y z;simp only[gU,Op.bytesLess,Zw,jg,ky,W4] at*;rcases h with h|⟨rfl,h⟩<;>rcases k with k|⟨rfl,k⟩
  ·exact .inl (UInt8.lt_trans h k)
  ·exact .inl h
  ·exact .inl k
  ·exact .inr ⟨rfl,d h k⟩
theorem dK:∀{a b:Bs},a≠b->gU a b=false->gU b a=true
 |[],[],h,_=>absurd rfl h
 |[],b::y,_,h=>by simp[gU,Op.bytesLess] at h
 |a::x,[],_,_=>rfl
 |a::x,b::y,hne,h=>by
  have c:=@dK x y;simp only[gU,Op.bytesLess,Q1,Zw,jg,Zp,ky,Bool.and_eq_false_imp,W4] at*;rcases Nat.lt_trichotomy a.toNat b.toNat with k|k|k
  ·exact absurd (UInt8.lt_iff_toNat_lt.mpr k) h.1
  ·have e:=Wz.mp k;subst e;exact .inr ⟨rfl,c (fun e=>hne (by rw[e])) (h.2 rfl)⟩
  ·exact .inl (UInt8.lt_iff_toNat_lt.mpr k)
def R6:List Bs:=[[92,65,110,115,119,101,114,101,100],[92,70,108,97,103,103,101,100],[92,68,101,108,101,116,101,100],[92,83,101,101,110],[92,68,114,97,102,116]]
def M7(f:Bs):Nat:=R6.idxOf f
def U7(a b:Bs):Bool:=if M7 a≠M7 b then decide (M7 a<M7 b) else gU a b
theorem U1(a:Bs):U7 a a=false:=by simp[U7,iu]
theorem P7{a b c:Bs}(h:U7 a b=true)(k:U7 b c=true):U7 a c=true:=by
 unfold U7 at*;split at h<;>split at k<;>split
 ·simp at*;omega
 ·simp at*;omega
 ·simp at*;omega
 ·next x y z=>simp at*;omega
 ·simp at*;omega
 ·next x y z=>simp at*;omega
 ·next x y z=>simp at*;omega
 ·exact bP h k
theorem aZ{a b:Bs}(c:a≠b)(h:U7 a b=false):U7 b a=true:=by
 unfold U7 at*;split at h
 ·next k=>
  rw[zg (fun e=>k e.symm)];simp at*;omega
 ·next k=>
  rw[zk (fun e=>k (fun d=>e d.symm))];exact dK c h
def E3(s:Bs):Option Bs:=match R6.find? (fun f=>R9 f==R9 s) with
 |some f=>some f
 |none=>if je s=true/\s.length<=32 then some (U_ s) else none
def qU(f:Bs):List Bs->List Bs
 |[]=>[f]
 |x::t=>if U7 f x then f::x::t else x::qU f t
def fd(l:List Bs)(f:Bs):List Bs:=if f∈l then l else qU f l
def S4:List Bs->Option (List Bs)
 |[]=>some []
 |s::t=>match E3 s,S4 t with
  |some c,some l=>some (c::l)
  |_,_=>none
def T5(l:List Bs):List Bs:=l.foldl fd []
def V6(names:List Bs):List Bs×Int:=match S4 names with
 |none=>([],4)
 |some l=>if 16<(T5 l).length then([],7) else(T5 l,0)
abbrev xE(l:List Bs):Prop:=l.Pairwise fun a b=>U7 a b=true
def ot:List Bs->Bool
 |a::b::t=>U7 a b&&ot (b::t)
 |_=>true
def G1(l:List Bs):Bool:=l.all (fun f=>decide (E3 f=some f))&&ot l&&decide (l.length<=16)
theorem kW:∀{l:List Bs},ot l=true->xE l
 |[],_=>.nil
 |[a],_=>by simp
 |a::b::t,h=>by
  simp only[ot,ky] at h;have k:=kW h.2;refine .cons (fun x c=>?_) k;rcases kw.mp c with rfl|c
  ·exact h.1
  ·exact P7 h.1 ((Qq.mp k).1 x c)
theorem kX:∀{l:List Bs},xE l->ot l=true
 |[],_=>rfl
 |[a],_=>rfl
 |a::b::t,h=>by
  have k:=Qq.mp h;simp only[ot,ky];exact⟨k.1 b x4,kX k.2⟩
theorem tp(f x:Bs):∀l:List Bs,x∈qU f l↔x=f\/x∈l
 |[]=>by simp[qU]
 |y::t=>by
  rw[qU];split
  ·simp
  ·simp only[kw,tp f x t];constructor
   ·rintro(h|h|h)
    ·exact .inr (.inl h)
    ·exact .inl h
    ·exact .inr (.inr h)
   ·rintro(h|h|h)
    ·exact .inr (.inl h)
    ·exact .inl h
    ·exact .inr (.inr h)
theorem Ap(f:Bs):∀{l:List Bs},xE l->f∉l->xE (qU f l)
 |[],_,_=>by simp[qU]
 |y::t,h,hf=>by
  have k:=Qq.mp h;simp only[kw,not_or] at hf;rw[qU];split
  ·next b=>
   refine .cons (fun x a=>?_) h;rcases kw.mp a with rfl|a
   ·exact b
   ·exact P7 b (k.1 x a)
  ·next b=>
   refine .cons (fun x a=>?_) (Ap f k.2 hf.2);rcases (tp f x t).mp a with rfl|a
   ·exact aZ hf.1 (by simpa using b)
   ·exact k.1 x a
theorem FA(l:List Bs)(f x:Bs):x∈fd l f↔x=f\/x∈l:=by
 unfold fd;split
 ·next h=>
  constructor
  ·exact .inr
  ·rintro(rfl|a)
   ·exact h
   ·exact a
 ·exact tp f x l
theorem FB{l:List Bs}(h:xE l)(f:Bs):xE (fd l f):=by
 unfold fd;split
 ·exact h
 ·next k=>exact Ap f h k
theorem mX:∀(l a:List Bs),xE a->xE (l.foldl fd a)/\∀x,x∈l.foldl fd a↔x∈l\/x∈a
 |[],a,h=>⟨h,fun x=>by simp⟩
 |f::t,a,h=>by
  have k:=mX t (fd a f) (FB h f);refine⟨k.1,fun x=>?_⟩;rw[Wq,k.2,FA,kw];constructor
  ·rintro(h|h|h)
   ·exact .inl (.inr h)
   ·exact .inl (.inl h)
   ·exact .inr h
  ·rintro((h|h)|h)
   ·exact .inr (.inl h)
   ·exact .inl h
   ·exact .inr (.inr h)
theorem mY(l:List Bs):xE (T5 l):=(mX l [] .nil).1
theorem tq(l:List Bs)(x:Bs):x∈T5 l↔x∈l:=by rw[T5,(mX l [] .nil).2];simp
theorem xV:∀{a b:List Bs},xE a->xE b->(∀x,x∈a↔x∈b)->a=b
 |[],[],_,_,_=>rfl
 |[],y::t,_,_,h=>by have:=(h y).mpr x4;simp at this
 |x::t,[],_,_,h=>by have:=(h x).mp x4;simp at this
 |x::a,y::b,ha,hb,h=>by
  have d:=Qq.mp ha;have f:=Qq.mp hb;have e:x=y:=by
   rcases kw.mp ((h x).mp x4) with e|g
   ·exact e
   ·rcases kw.mp ((h y).mpr x4) with e|i
    ·exact e.symm
    ·have j:=f.1 x g;have k:=d.1 y i;have:=P7 j k;rw[U1] at this
     cases this
  subst e;congr 1;refine xV d.2 f.2 fun z=>?_;constructor
  ·intro hz;rcases kw.mp ((h z).mp (jw _ hz)) with e|c
   ·subst e;have:=d.1 z hz;rw[U1] at this;cases this
   ·exact c
  ·intro hz;rcases kw.mp ((h z).mpr (jw _ hz)) with e|c
   ·subst e;have:=f.1 z hz;rw[U1] at this;cases this
   ·exact c
theorem CJ{l:List Bs}(h:xE l):T5 l=l:=xV (mY l) h (tq l)
theorem ON(c:UInt8):rG (ir c)=rG c:=by
 unfold rG ir;have:=c.toNat_lt;split
 ·next h=>
  have e:(c+32).toNat=c.toNat+32:=by rw[Wk];simp;omega
  rw[e,zg qb,zk qb];apply Wz.mp;rw[UInt8.toNat_sub,e];simp;omega
 ·rfl
theorem KG(c:UInt8):ir (ir c)=ir c:=by
 unfold ir;have:=c.toNat_lt;split
 ·next h=>
  have e:(c+32).toNat=c.toNat+32:=by rw[Wk];simp;omega
  rw[e,zk qb]
 ·rfl
theorem KH(s:Bs):R9 (U_ s)=R9 s:=by simp[R9,U_,ON]
theorem FC(s:Bs):U_ (U_ s)=U_ s:=by simp[U_,KG]
theorem FD{c:UInt8}(h:P3 c=true):P3 (ir c)=true:=by
 unfold ir;have:=c.toNat_lt;split
 ·next k=>
  have e:(c+32).toNat=c.toNat+32:=by rw[Wk];simp;omega
  have a:∀d:UInt8,d.toNat<97\/122<d.toNat->c+32≠d:=fun d f b=>by
   have:=jy UInt8.toNat b;rw[e] at this;omega
  unfold P3;simp[e];refine⟨⟨by omega,by omega⟩,?_⟩;refine⟨a _ ?_,a _ ?_,a _ ?_,a _ ?_,a _ ?_,a _ ?_,a _ ?_,a _ ?_⟩<;>decide
 ·exact h
theorem FE{s:Bs}(h:je s=true):je (U_ s)=true:=by
 unfold je at*;simp only[ky,Qv,Kv,List.isEmpty_eq_false_iff] at*;refine⟨fun c hc=>?_,by simpa[U_] using h.2⟩;obtain⟨d,a,rfl⟩:=jv.mp hc;exact FD (h.1 d a)
theorem CK:∀f∈R6,E3 f=some f:=by decide
theorem vp{s c:Bs}(h:E3 s=some c):E3 c=some c:=by
 unfold E3 at h;split at h
 ·next f hf=>
  cases h
  exact CK _ (Kx hf)
 ·next hf=>
  split at h
  ·next k=>
   cases h
   unfold E3;rw[KH,hf,FC];exact zg ⟨FE k.1,by simpa[U_] using k.2⟩
  ·cases h
theorem lV:∀{l cs:List Bs},S4 l=some cs->∀c∈cs,E3 c=some c
 |[],cs,h=>by simp[S4] at h;subst h;simp
 |s::t,cs,h=>by
  rw[S4] at h;split at h
  ·next c l hc hl=>
   cases h
   intro x hx;rcases kw.mp hx with rfl|hx
   ·exact vp hc
   ·exact lV hl x hx
  ·cases h
theorem FF{l:List Bs}(a:∀f∈l,E3 f=some f)(b:xE l)(c:l.length<=16):G1 l=true:=by
 unfold G1;simp only[ky,Qv,jg];exact⟨⟨a,kX b⟩,c⟩
theorem jl{l:List Bs}(h:G1 l=true):(∀f∈l,E3 f=some f)/\xE l/\l.length<=16:=by
 unfold G1 at h;simp only[ky,Qv,jg] at h;exact⟨h.1.1,kW h.1.2,h.2⟩
theorem xW{a l:List Bs}(h:V6 a=(l,0)):G1 l=true:=by
 unfold V6 at h;split at h
 ·cases h
 ·next b hc=>
  split at h
  ·cases h
  ·next k=>
   simp at h;subst h;exact FF (fun f hf=>lV hc f ((tq b f).mp hf)) (mY b) qb
def fe(b:Bs):List Bs->Bs
 |[]=>[]
 |[x]=>x
 |x::t=>x++b++fe b t
def H8:Bs->List Bs
 |[]=>[[]]
 |c::t=>if c=32 then[]::H8 t else match H8 t with
  |[]=>[[c]]
  |w::ws=>(c::w)::ws
def T6(s:Bs):List Bs×Nat×Int:=
 let e:=(s.takeWhile fun c=>c !=41).length
 if s.head? =some 40/\e<s.length then
  let inner:=(s.take e).drop 1
  let m:=V6 (if inner=[] then[] else H8 inner)
  if m.2=0 then(m.1,e+1,0) else([],0,m.2)
 else([],0,4)
theorem ou:∀(w:Bs),(∀c∈w,c≠32)->H8 w=[w]
 |[],_=>rfl
 |c::t,h=>by rw[H8,zk (h c x4),ou t fun x hx=>h x (jw _ hx)]
theorem ov:∀(w r:Bs),(∀c∈w,c≠32)->H8 (w++32::r)=w::H8 r
 |[],r,_=>by simp[H8]
 |c::t,r,h=>by rw[Q8,H8,zk (h c x4),ov t r fun x hx=>h x (jw _ hx)]
theorem lW{s:Bs}{l:List Bs}{n:Nat}(h:T6 s=(l,n,0)):G1 l=true:=by
 unfold T6 at h
 dsimp only at h
 split at h
 ·generalize hm:V6 _=m at h;split at h
  ·next k=>
   have a:m.1=l:=jy (fun q=>q.1) h;exact xW (hm.trans (Prod.ext a k))
  ·next k=>exact absurd (jy (fun q=>q.2.2) h) k
 ·exact absurd (jy (fun q=>q.2.2) h) x4
/- the reference's reading -/
structure RV where
 kind:Int
 n:Nat
 a5Y:List Bs
 text:Bs
 part:Bool
 fr:Nat
abbrev V0:RV:=⟨0,0,[],[],false,0⟩
structure RR where
 kind:Int
 tag:Bs
 code:Bs
 text:Bs
 n:Nat
 nums:List Nat
 mod:Nat
 a5Y:List Bs
 box:Bs
 values:List RV
abbrev R0:RR:=⟨0,[],[],[],0,[],0,[],[],[]⟩
def FG:List Bs:=[[79,75],[78,79],[66,65,68],[66,89,69]]
abbrev FH:Bs:=[42,32,67,65,80,65,66,73,76,73,84,89,32,73,77,65,80,52,114,101,118,49,32,69,78,65,66,76,69,32,67,79,78,68,83,84,79,82,69]
abbrev a05:Bs:=[42,32,69,78,65,66,76,69,68,32,67,79,78,68,83,84,79,82,69]
abbrev OO:Bs:=[13,10]
structure RS where
 p:Nat
 ok:Bool
def mF(s w:Bs)(st:RS):Bool×RS:=if st.ok=true/\w.isPrefixOf (s.drop st.p)=true then(true,⟨st.p+w.length,st.ok⟩) else(false,st)
def FJ(s w:Bs)(st:RS):RS:=⟨(mF s w st).2.p,(mF s w st).1⟩
def FK(stops:Bs)(r:Bs):Bs:=r.takeWhile fun c=>!stops.contains c
def ow(s stops:Bs)(st:RS):Bs×RS:=if st.ok=true then(FK stops (s.drop st.p),⟨st.p+(FK stops (s.drop st.p)).length,st.ok⟩) else([],st)
def gn(c:UInt8):Bool:=decide (32<=c.toNat)&&decide (c.toNat<=126)
def kY(t:Bs):Bool:=t.all gn&&!t.isEmpty&&decide (t.length<=512)
/- which may be -/
theorem CN(b x:Bs){t:List Bs}(h:t≠[]):fe b (x::t)=x++b++fe b t:=by
 cases t with
 |nil=>exact absurd rfl h
 |cons y t=>rfl
end Go.Proofs.YtmcepdopookilaaGreatDoor.Rp
namespace Go.Sl
open Go Go.RowKit Go.Proofs.Tryz
structure O5(s:List Nat)(p:Prop):Prop where
 out:p
theorem O5.step{i:Nat}{s:List Nat}{p:Prop}(h:O5 (i::s) p):O5 s p:=⟨h.out⟩
theorem O5.chk{s:List Nat}{p:Prop}(h:O5 (0::s) p):True:=trivial
theorem O5.pos{i:Nat}{s:List Nat}{p:Prop}(h:O5 (i::s) p):True:=trivial
theorem O5.chk0{p:Prop}(h:O5 [] p):True:=trivial
theorem O5.nb{p:Prop}(h:O5 [7] p):p:=h.out
theorem O5.last{i:Nat}{p:Prop}(h:O5 [i] p):p:=h.out
theorem O5.none{p:Prop}(h:O5 [] p):p:=h.out
theorem ud{H H' a:List As}{x:As}(u:M2 H x a H':=by(repeat (first|exact .del|apply M2.there))):M2 H x a H':=u
theorem uh{H H' a:List As}{x:As}(u:M2 H x a H':=by(repeat (first|exact .here|apply M2.there))):M2 H x a H':=u
theorem sub{L' L:G0}(h:fv L' L:=by(repeat (first|exact fv.nil _|refine fv.cons rfl ?_))):fv L' L:=h
theorem RC{p:Prop}(h:p:=by(first|omega|(simp only[zz,zx,zn,z1,z8,zh,Kw];omega)|(simp only[zz,zx,zn,z1,z8,zh,Kw] at*;omega))):p:=h
inductive dL:List Value->Nat->List Value->List Value->Prop
 |nil {l:List Value}:dL l 0 [] l
 |here {x v:Value} {l vs l':List Value}:dL l 0 vs l'->dL (x::l) 0 (v::vs) (v::l')
 |there {x:Value} {l vs l':List Value} {n:Nat}:dL l n vs l'->dL (x::l) (n+1) vs (x::l')
theorem dL.put{l vs l':List Value}{n:Nat}(h:dL l n vs l'):n+vs.length<=l.length/\l'=l.take n++vs++l.drop (n+vs.length):=by
 induction h with
 |nil=>simp
 |here _ ih=>simp only[zx,Kj,j8,ju] at ih⊢;exact⟨by omega,by rw[ih.2];simp⟩
 |there _ ih=>
  refine⟨by simp only[zx];omega,?_⟩;rw[ih.2];rename_i x l vs l' n h;have:n+1+vs.length=(n+vs.length)+1:=by omega
  rw[this];simp
inductive dM:List Value->Nat->Nat->List Value->Prop
 |nil {l:List Value}:dM l 0 0 []
 |here {x:Value} {l vs:List Value} {k:Nat}:dM l 0 k vs->dM (x::l) 0 (k+1) (x::vs)
 |there {x:Value} {l vs:List Value} {n k:Nat}:dM l n k vs->dM (x::l) (n+1) k vs
theorem dM.get{l vs:List Value}{n k:Nat}(h:dM l n k vs):n+k<=l.length/\vs=(l.drop n).take k:=by
 induction h with
 |nil=>simp
 |here _ ih=>simp only[zx,Kk,ju] at ih⊢;exact⟨by omega,by rw[ih.2];simp⟩
 |there _ ih=>exact⟨by simp only[zx];omega,by simpa using ih.2⟩
theorem pa{l vs l':List Value}{n:Nat}(h:dL l n vs l':=by(repeat (first|exact .nil|apply dL.here|apply dL.there))):dL l n vs l':=h
theorem ga{l vs:List Value}{n k:Nat}(h:dM l n k vs:=by(repeat (first|exact .nil|apply dM.here|apply dM.there))):dM l n k vs:=h
section
variable{P:Program}{N:Nat}{K R:y7}{E:List (Nat×y7)}{L:G0}{F:l8}{H:List As}{ops:Array Oper}{rest:List Oper}{ty:TypeId}{pos:String}{af:Array Edge}{dst:Option Nat}{gd:Option (Nat×Bool)}
variable{x y:Operand}{t t':TypeId}{d:Nat}
theorem dv{b o:Nat}{l:List Value}{te:TypeId}{fr:Nat×Nat}{v:Value}{H':List As}[ha:HA P t false](hx:ev L x=some (.pointer (some ⟨b,o,none⟩)))(u:M2 H (.blk b (.cells l.toArray te fr)) [] H')(hv:l[o]? =some v):dr P ⟨dst,.load t x,ty,pos,af,gd⟩ L F H v:=
 E_ hx u (by simpa using hv)
theorem gq{b o n:Nat}{l vs:List Value}{te:TypeId}{fr:Nat×Nat}{H':List As}[ha:HA P t true][hs:HS P t n](hx:ev L x=some (.pointer (some ⟨b,o,none⟩)))(u:M2 H (.blk b (.cells l.toArray te fr)) [] H')(hv:dM l o n vs):dr P ⟨dst,.load t x,ty,pos,af,gd⟩ L F H (.agg vs.toArray):=by
 have h:=hv.get;have a:=fw (P:=P) (F:=F) (dst:=dst) (ty:=ty) (pos:=pos) (af:=af) (gd:=gd) (t:=t) (n:=n) hx u (by simpa[Jb] using h.1)
 rwa [show sl l.toArray o n=vs from by rw[h.2];simp[sl]] at a
theorem bZ{b o:Nat}{l l':List Value}{v:Value}{te:TypeId}{H':List As}[ha:HA P t false][hs:HS P t 1](hx:ev L x=some (.pointer (some ⟨b,o,none⟩)))(c:ev L y=some v)(u:M2 H (.blk b (.cells l.toArray te (0,0))) [.blk b (.cells l'.toArray te (0,0))] H')(hp:dL l o [v] l')(hc:v.cells=#[v])(d:v.oneCell'=true)(h:GL P N ops rest K E R L F H'):GL P N ops (⟨none,.store t x y,ty,pos,af,none⟩::rest) K E R L F H:=by
 have k:=hp.put;refine I6 (cs:=l.toArray) (te:=te) (n:=1) hx c ?_ (by rw[hc];rfl) (fun q a=>by rw[hc] at a;simp at a;subst a;exact d) (by simpa using k.1) h;rw[show eG l.toArray o v.cells.toList=l'.toArray from by rw[hc,k.2];simp[eG]];exact u
theorem FL{b o n:Nat}{l l' vs:List Value}{te:TypeId}{H':List As}[hs:HS P t n](hx:ev L x=some (.pointer (some ⟨b,o,none⟩)))(a:ev L y=some (.agg vs.toArray))(u:M2 H (.blk b (.cells l.toArray te (0,0))) [.blk b (.cells l'.toArray te (0,0))] H')(hp:dL l o vs l')(c:Nat.beq vs.length n=true)(d:(vs.all fun q=>q.oneCell')=true)(h:GL P N ops rest K E R L F H'):GL P N ops (⟨none,.store t x y,ty,pos,af,none⟩::rest) K E R L F H:=by
 have k:=hp.put;have e:=j6 c;refine I6 (cs:=l.toArray) (te:=te) (n:=n) hx a ?_ (by simpa[Value.cells] using e) (fun q f=>Qv.1 d q (by simpa[Value.cells] using f)) (by simp;omega) h;rw[show eG l.toArray o (Value.agg vs.toArray).cells.toList=l'.toArray from by rw[k.2];simp[eG,Value.cells]];exact u
theorem kZ{l l':List UInt8}(hx:ev L x=some (B l))(a:ev L y=some (B l')):D_ P ⟨dst,.binOp .geq t x y t',ty,pos,af,gd⟩ L (.bool (!Op.bytesLess l l')):=
 L1 hx a (fun w=>by simp only[eqGuard_at_string,binOp_string_geq,ByteArray.toList_mk];rfl)
theorem ld{l l':List UInt8}(hx:ev L x=some (B l))(a:ev L y=some (B l')):D_ P ⟨dst,.binOp .leq t x y t',ty,pos,af,gd⟩ L (.bool (Op.bytesLess l l'||l==l')):=
 L1 hx a (fun w=>by simp only[eqGuard_at_string,binOp_string_leq,ByteArray.toList_mk];rfl)
theorem cd{z:Value}[hz:HZ P t z](hc:z.cells=#[z])(a:Nat.blt d N=true)(h:∀g,GL P N ops rest K E R ((d,.pointer (some ⟨g,0,none⟩))::L) F (.blk g (.cells [z].toArray t)::H)):
  GL P N ops (⟨some d,.alloc t,ty,pos,af,none⟩::rest) K E R L F H:=uU a (by rw[hc];exact h)
theorem L5{v:Value}(hx:ev L x=some v)(hc:v.cells=#[v])(a:Nat.blt d N=true)(h:∀g,GL P N ops rest K E R ((d,.pointer (some ⟨g,0,none⟩))::L) F (.blk g (.cells [v].toArray t)::H)):
  GL P N ops (⟨some d,.box t x,ty,pos,af,none⟩::rest) K E R L F H:=Fc hx a (by rw[hc];exact h)
end
section
variable{P:Program}{L:G0}{v:Value}{dst:Option Nat}{ty:TypeId}{pos:String}{af:Array Edge}{gd:Option (Nat×Bool)}{x y c:Operand}{t t1 t2:TypeId}{i:Nat}{lo hi mx:Option Operand}{fnn:_root_.Go.Fn}{p q:Array Operand}{tys:Array TypeId}{bps:Array (Nat×Operand)}
theorem vq(h:D_ P ⟨dst,.fieldAddr t x i,ty,pos,af,gd⟩ L v):D_ P ⟨dst,.fieldAddr t x i,ty,pos,af,gd⟩ L v:=h
theorem xX(h:D_ P ⟨dst,.nilCheck x,ty,pos,af,gd⟩ L v):D_ P ⟨dst,.nilCheck x,ty,pos,af,gd⟩ L v:=h
theorem OP(h:D_ P ⟨dst,.pick c x y,ty,pos,af,gd⟩ L v):D_ P ⟨dst,.pick c x y,ty,pos,af,gd⟩ L v:=h
theorem RD(h:D_ P ⟨dst,.call ⟨.builtin .len,#[x],#[t]⟩,ty,pos,af,gd⟩ L v):D_ P ⟨dst,.call ⟨.builtin .len,#[x],#[t]⟩,ty,pos,af,gd⟩ L v:=h
theorem RE(h:D_ P ⟨dst,.unOp .neg t x,ty,pos,af,gd⟩ L v):D_ P ⟨dst,.unOp .neg t x,ty,pos,af,gd⟩ L v:=h
theorem vr(h:D_ P ⟨dst,.indexAddr t x y,ty,pos,af,gd⟩ L v):D_ P ⟨dst,.indexAddr t x y,ty,pos,af,gd⟩ L v:=h
theorem KI(h:D_ P ⟨dst,.index t x y,ty,pos,af,gd⟩ L v):D_ P ⟨dst,.index t x y,ty,pos,af,gd⟩ L v:=h
theorem KJ(h:D_ P ⟨dst,.slice t x lo hi mx,ty,pos,af,gd⟩ L v):D_ P ⟨dst,.slice t x lo hi mx,ty,pos,af,gd⟩ L v:=h
theorem xY(h:D_ P ⟨dst,.makeFunc fnn p q,ty,pos,af,gd⟩ L v):D_ P ⟨dst,.makeFunc fnn p q,ty,pos,af,gd⟩ L v:=h
theorem CO(h:D_ P ⟨dst,.convert t t1 x,ty,pos,af,gd⟩ L v):D_ P ⟨dst,.convert t t1 x,ty,pos,af,gd⟩ L v:=h
theorem KK(h:D_ P ⟨dst,.build t bps,ty,pos,af,gd⟩ L v):D_ P ⟨dst,.build t bps,ty,pos,af,gd⟩ L v:=h
theorem RF(h:D_ P ⟨dst,.binOp .add t x y t2,ty,pos,af,gd⟩ L v):D_ P ⟨dst,.binOp .add t x y t2,ty,pos,af,gd⟩ L v:=h
theorem RG(h:D_ P ⟨dst,.binOp .sub t x y t2,ty,pos,af,gd⟩ L v):D_ P ⟨dst,.binOp .sub t x y t2,ty,pos,af,gd⟩ L v:=h
theorem RH(h:D_ P ⟨dst,.binOp .mul t x y t2,ty,pos,af,gd⟩ L v):D_ P ⟨dst,.binOp .mul t x y t2,ty,pos,af,gd⟩ L v:=h
theorem RI(h:D_ P ⟨dst,.binOp .quo t x y t2,ty,pos,af,gd⟩ L v):D_ P ⟨dst,.binOp .quo t x y t2,ty,pos,af,gd⟩ L v:=h
theorem RJ(h:D_ P ⟨dst,.binOp .rem t x y t2,ty,pos,af,gd⟩ L v):D_ P ⟨dst,.binOp .rem t x y t2,ty,pos,af,gd⟩ L v:=h
theorem RK(h:D_ P ⟨dst,.binOp .xor t x y t2,ty,pos,af,gd⟩ L v):D_ P ⟨dst,.binOp .xor t x y t2,ty,pos,af,gd⟩ L v:=h
theorem RN(h:D_ P ⟨dst,.binOp .shl t x y t2,ty,pos,af,gd⟩ L v):D_ P ⟨dst,.binOp .shl t x y t2,ty,pos,af,gd⟩ L v:=h
theorem RO(h:D_ P ⟨dst,.binOp .shr t x y t2,ty,pos,af,gd⟩ L v):D_ P ⟨dst,.binOp .shr t x y t2,ty,pos,af,gd⟩ L v:=h
theorem RP(h:D_ P ⟨dst,.binOp .eql t x y t2,ty,pos,af,gd⟩ L v):D_ P ⟨dst,.binOp .eql t x y t2,ty,pos,af,gd⟩ L v:=h
theorem RT(h:D_ P ⟨dst,.binOp .neq t x y t2,ty,pos,af,gd⟩ L v):D_ P ⟨dst,.binOp .neq t x y t2,ty,pos,af,gd⟩ L v:=h
theorem RU(h:D_ P ⟨dst,.binOp .lss t x y t2,ty,pos,af,gd⟩ L v):D_ P ⟨dst,.binOp .lss t x y t2,ty,pos,af,gd⟩ L v:=h
theorem RW(h:D_ P ⟨dst,.binOp .leq t x y t2,ty,pos,af,gd⟩ L v):D_ P ⟨dst,.binOp .leq t x y t2,ty,pos,af,gd⟩ L v:=h
theorem RX(h:D_ P ⟨dst,.binOp .geq t x y t2,ty,pos,af,gd⟩ L v):D_ P ⟨dst,.binOp .geq t x y t2,ty,pos,af,gd⟩ L v:=h
end
section
variable{P:Program}{N:Nat}{K R:y7}{E:List (Nat×y7)}{L:G0}{F:l8}{H:List As}{ops:Array Oper}{rest:List Oper}{ty:TypeId}{pos:String}{af:Array Edge}{dst:Option Nat}{gd:Option (Nat×Bool)}{x y:Operand}{t t':TypeId}{d:Nat}{op:Op}{jb:Nat×Bool}
theorem OQ(h:GL P N ops (⟨some d,.load t x,ty,pos,af,gd⟩::rest) K E R L F H):GL P N ops (⟨some d,.load t x,ty,pos,af,gd⟩::rest) K E R L F H:=h
theorem KL(h:GL P N ops (⟨none,.store t x y,ty,pos,af,none⟩::rest) K E R L F H):GL P N ops (⟨none,.store t x y,ty,pos,af,none⟩::rest) K E R L F H:=h
theorem KN(h:GL P N ops (⟨some d,.alloc t,ty,pos,af,none⟩::rest) K E R L F H):GL P N ops (⟨some d,.alloc t,ty,pos,af,none⟩::rest) K E R L F H:=h
theorem RY(h:GL P N ops (⟨some d,.box t x,ty,pos,af,none⟩::rest) K E R L F H):GL P N ops (⟨some d,.box t x,ty,pos,af,none⟩::rest) K E R L F H:=h
theorem RZ{n:Nat}{a:Array (Nat×Operand)}(h:GL P N ops (⟨some d,.buildSlice t n a,ty,pos,af,none⟩::rest) K E R L F H):GL P N ops (⟨some d,.buildSlice t n a,ty,pos,af,none⟩::rest) K E R L F H:=h
theorem KO(h:GL P N ops (⟨some d,op,ty,pos,af,some jb⟩::rest) K E R L F H):GL P N ops (⟨some d,op,ty,pos,af,some jb⟩::rest) K E R L F H:=h
theorem KP(h:GL P N ops (⟨some d,op,ty,pos,af,none⟩::rest) K E R L F H):GL P N ops (⟨some d,op,ty,pos,af,none⟩::rest) K E R L F H:=h
end
class Sa(P:Program)(t:TypeId)(fs:outParam (Array Field))(places:outParam (List (Nat×Nat))):Prop where
 hu:P.underlying t=some (.struct fs)
 hp:fs.toList.map (fun f=>(f.offset,P.cellsOf f.type))=places
 hin:(fs.toList.all fun f=>(P.info? f.type).isSome)=true
theorem y8{P:Program}{L:G0}{dst:Option Tmp}{ty t:TypeId}{pos:String}{af:Array Edge}{gd:Option (Nat×Bool)}{fs:Array Field}{a:List (Nat×Nat)}{z:Value}{ps:List (Nat×Operand)}{vs:List (Nat×Value)}{cells:Array Value}[hb:Sa P t fs a][hz:HZ P t z](hx:Ae L ps=some vs)(b:Instr.fill (a[·]?) z.cells vs=some cells):D_ P ⟨dst,.build t ps.toArray,ty,pos,af,gd⟩ L (.agg cells):=
 have:HU P t (.struct fs):=⟨hb.hu⟩
 cK hx (kU (fs:=fs) hb.hp (fun f hf=>Qv.1 hb.hin f hf) b)
section
variable{P:Program}{L:G0}{F:l8}{H:List As}{o:Oper}{v:Value}
theorem oF(h:D_ P o L v:=by(first
 |exact ay rfl
 |exact uR rfl
 |exact vq (by first|exact uS rfl (by rfl) (by infer_instance) qp|exact qN rfl (by assumption) (by rfl) (by infer_instance) qp)
 |exact xX (by first|exact xO rfl|exact tf rfl (by assumption))
 |exact RP (by first|exact p7 rfl rfl|exact C8 rfl rfl|exact io rfl rfl|exact Cw rfl rfl|exact lS rfl rfl)
 |exact OP (by first|exact Fg rfl rfl|exact Fh rfl rfl)
 |exact RD (by first|exact Cs rfl|exact Fe rfl)
 |exact RU (by exact F6 rfl rfl)
 |exact RF (by first|exact p_ rfl rfl qb|exact L2 rfl rfl qb|exact G_ rfl rfl RC)
 |exact vr (by first|exact m9 rfl (by assumption) rfl qb|exact bn rfl rfl qb)
 |exact RG (by first|exact E0 rfl rfl qb|exact Cl rfl rfl qb)
 |exact Ry rfl
 |exact T_ rfl rfl
 |exact RX (by first|exact I5 rfl rfl|exact kZ rfl rfl)
 |exact RT (by first|exact M3 rfl rfl|exact E8 rfl rfl|exact nO rfl rfl)
 |exact RW (by first|exact G4 rfl rfl|exact ld rfl rfl)
 |exact E2 rfl rfl
 |exact CO (by first|exact bq rfl qb|exact y9 rfl qb|exact bU rfl qb)
 |exact KI (by exact A7 rfl rfl qb)
 |exact KJ (by exact H6 rfl rfl rfl RC)
 |exact xY (by exact nQ rfl rfl)
 |exact KK (by exact y8 rfl (by rfl))
 |exact Ff rfl rfl
 |exact nR rfl rfl
 |exact RE (by exact Rx rfl qb)
 |exact RH (by first|exact Ck rfl rfl qb|exact ry rfl rfl qb)
 |exact RI (by exact Cq rfl rfl qb)
 |exact RJ (by exact Cr rfl rfl qb)
 |exact RK (by exact kT (.inr (.inr (.inl rfl))) rfl rfl)
 |exact RN (by exact Ad rfl rfl qb)
 |exact RO (by exact NL rfl rfl qb)
 |exact NM rfl)):D_ P o L v:=h
theorem oR(h:dr P o L F H v:=by(first
 |exact dv rfl ud rfl
 |exact gq rfl ud ga
 |exact lT rfl ud (by rfl)
 |exact E_ rfl ud (by rfl)
 |exact fw rfl ud (by rfl)
 |exact i8 rfl (fun w a=>vg a (by assumption) rfl)
 |exact p8 rfl (fun w a=>OI a (by assumption)) (by rfl))):dr P o L F H v:=h
end
section
variable{P:Program}{N:Nat}{K R:y7}{E:List (Nat×y7)}{L:G0}{F:l8}{H Hk:List As}{ops:Array Oper}{rs:Rs}{done:List Nat}{n d:Nat}{i:Nat}{s:List Nat}{p:Prop}{o oj:Oper}{v:Value}{x:As}{H':List As}{j t:Nat}{b q:Bool}
theorem OR(h:O5 (i::s) p)(b:ops[i]? =some o)(f:D_ P o L v)(hg:o.guard=none)(a:o.dst=some d)(c:Nat.blt d N=true)(hc:N6 ops rs done i=true)(k:O5 s p->GA P N ops rs Hk n (i::done) K E R ((d,v)::L) F H)(hE:E.lookup 1=none:=by rfl):GA P N ops rs Hk (n+1) done K E R L F H:=Aj i b f hg a c hc (k h.step) hE
theorem FM(h:O5 (i::s) p)(c:ops[i]? =some o)(f:D_ P o L v)(hg:o.guard=some (j,b))(e:ops[j]? =some oj)(g:oj.dst=some t)(hv:find L t=some (.bool b))(a:o.dst=some d)(l:Nat.blt d N=true)(hc:N6 ops rs done i=true)(k:O5 s p->GA P N ops rs Hk n (i::done) K E R ((d,v)::L) F H)(hE:E.lookup 1=none:=by rfl):GA P N ops rs Hk (n+1) done K E R L F H:=E1 i c f hg e g hv a l hc (k h.step) hE
theorem OS(h:O5 (i::s) p)(e:ops[i]? =some o)(hg:o.guard=some (j,b))(f:ops[j]? =some oj)(g:oj.dst=some t)(hv:find L t=some (.bool q))(c:q=!b)(a:o.dst=some d)(l:Nat.blt d N=true)(hc:N6 ops rs done i=true)(k:O5 s p->GA P N ops rs Hk n (i::done) K E R ((d,undef)::L) F H)(hE:E.lookup 1=none:=by rfl):GA P N ops rs Hk (n+1) done K E R L F H:=Ak i e hg f g hv c a l hc (k h.step) hE
theorem CP(h:O5 (i::s) p)(c:ops[i]? =some o)(hg:o.guard=some (j,b))(e:ops[j]? =some oj)(f:oj.dst=some t)(hv:find L t=some undef)(a:o.dst=some d)(g:Nat.blt d N=true)(hc:N6 ops rs done i=true)(k:O5 s p->GA P N ops rs Hk n (i::done) K E R ((d,undef)::L) F H)(hE:E.lookup 1=none:=by rfl):GA P N ops rs Hk (n+1) done K E R L F H:=nY i c hg e f hv a g hc (k h.step) hE
theorem FN(h:O5 (i::s) p)(b:ops[i]? =some o)(u:M2 H x [] H')(f:dr P o L F [x] v)(hg:o.guard=none)(a:o.dst=some d)(c:Nat.blt d N=true)(hc:aa ops rs done i=true)(k:O5 s p->GA P N ops rs H n (i::done) K E R ((d,v)::L) F H)(hE:E.lookup 1=none:=by rfl):GA P N ops rs H (n+1) done K E R L F H:=bF i b u f hg a c hc (k h.step) hE
theorem vt(h:O5 (i::s) p)(c:ops[i]? =some o)(u:M2 H x [] H')(f:dr P o L F [x] v)(hg:o.guard=some (j,b))(e:ops[j]? =some oj)(g:oj.dst=some t)(hv:find L t=some (.bool b))(a:o.dst=some d)(l:Nat.blt d N=true)(hc:aa ops rs done i=true)(k:O5 s p->GA P N ops rs H n (i::done) K E R ((d,v)::L) F H)(hE:E.lookup 1=none:=by rfl):GA P N ops rs H (n+1) done K E R L F H:=CB i c u f hg e g hv a l hc (k h.step) hE
theorem vu(h:O5 (i::s) p)(b:ops[i]? =some o)(hx:x∈Hk)(f:dr P o L F [x] v)(c:∀y∈Hk,y∈H)(hg:o.guard=none)(a:o.dst=some d)(e:Nat.blt d N=true)(hc:aa ops rs done i=true)(k:O5 s p->GA P N ops rs Hk n (i::done) K E R ((d,v)::L) F H)(hE:E.lookup 1=none:=by rfl):GA P N ops rs Hk (n+1) done K E R L F H:=o0 i b hx f c hg a e hc (k h.step) hE
theorem rH(h:O5 (i::s) p)(c:ops[i]? =some o)(hx:x∈Hk)(f:dr P o L F [x] v)(e:∀y∈Hk,y∈H)(hg:o.guard=some (j,b))(g:ops[j]? =some oj)(l:oj.dst=some t)(hv:find L t=some (.bool b))(a:o.dst=some d)(m:Nat.blt d N=true)(hc:aa ops rs done i=true)(k:O5 s p->GA P N ops rs Hk n (i::done) K E R ((d,v)::L) F H)(hE:E.lookup 1=none:=by rfl):GA P N ops rs Hk (n+1) done K E R L F H:=A0 i c hx f e hg g l hv a m hc (k h.step) hE
theorem KQ(h:O5 (i::s) p)(b:ops[i]? =some o)(f:dr P o L F [] v)(c:∀y∈Hk,y∈H)(hg:o.guard=none)(a:o.dst=some d)(e:Nat.blt d N=true)(hc:aa ops rs done i=true)(k:O5 s p->GA P N ops rs Hk n (i::done) K E R ((d,v)::L) F H)(hE:E.lookup 1=none:=by rfl):GA P N ops rs Hk (n+1) done K E R L F H:=D1 i b f c hg a e hc (k h.step) hE
theorem CQ(h:O5 (i::s) p)(c:ops[i]? =some o)(f:dr P o L F [] v)(e:∀y∈Hk,y∈H)(hg:o.guard=some (j,b))(g:ops[j]? =some oj)(l:oj.dst=some t)(hv:find L t=some (.bool b))(a:o.dst=some d)(m:Nat.blt d N=true)(hc:aa ops rs done i=true)(k:O5 s p->GA P N ops rs Hk n (i::done) K E R ((d,v)::L) F H)(hE:E.lookup 1=none:=by rfl):GA P N ops rs Hk (n+1) done K E R L F H:=bW i c f e hg g l hv a m hc (k h.step) hE
theorem Sb(h:O5 (i::s) p)(b:ops[i]? =some o)(c:(Region.ready .any ops (A8 ops.size done)==[i])=true)(k:GL P N ops [o] (fun a w=>(dt ops rs (A8 ops.size done) i=true->True->U6 F Hk w)/\ip P ops (MQ K E R) (fun w=>U6 F Hk w) (dt ops rs) n (A8 ops.size (i::done)) a w) (pE E) (fun _ _=>False) L F H):GA P N ops rs Hk (n+1) done K E R L F H:=h_ i b c k
theorem G2(h:∀y∈Hk,y∈H:=by(first|exact fun _ h=>h|(repeat (first|exact tj|refine oh (by repeat (first|exact List.Mem.head _|apply List.Mem.tail)) ?_)))):∀y∈Hk,y∈H:=h
theorem Ua(h:x∈Hk:=by(repeat (first|exact List.Mem.head _|apply List.Mem.tail))):x∈Hk:=h
end
inductive y4:List As->List As->List As->Prop
 |nil {H:List As}:y4 [] H H
 |cons {x:As} {C H H1 R:List As}:M2 H x [] H1->y4 C H1 R->y4 (x::C) H R
theorem y4.hp{C H R:List As}(h:y4 C H R){F:l8}{w:World}(a:Hp F w H):Hp F w (C++R):=by
 have k:H.Perm (C++R):=by
  clear a
  induction h with
  |nil=>exact .refl _
  |cons u _ ih=>exact(u.perm rfl).trans (ih.cons _)
 exact a.perm k
theorem tk{C H R:List As}(h:y4 C H R:=by(repeat (first|exact .nil|(apply y4.cons;exact ud)))):y4 C H R:=h
section
variable{P:Program}{N:Nat}{K R:y7}{E:List (Nat×y7)}{L:G0}{F:l8}{H Hk:List As}{ops:Array Oper}{rest:List Oper}{o:Oper}{c:Code}{rs:Rs}{done:List Nat}{n j d t:Nat}{b:Bool}{op:Op}{ty:TypeId}{pos:String}{af:Array Edge}{dst:Option Nat}{x:Operand}
theorem a06(h:GL P N ops (o::rest) K E R L F H):GL P N ops (o::rest) K E R L F H:=h
theorem u_g(h:G P N c K E R L F H):G P N c K E R L F H:=h
theorem a07(h:GA P N ops rs Hk (n+1) done K E R L F H):GA P N ops rs Hk (n+1) done K E R L F H:=h
theorem NN{s:List Nat}{p:Prop}{i:Nat}{a:Option (Nat×Bool)}(h:O5 (i::s) p)(b:ops[i]? =some ⟨dst,.load t x,ty,pos,af,a⟩)(k:GA P N ops rs Hk (n+1) done K E R L F H):GA P N ops rs Hk (n+1) done K E R L F H:=k
theorem Sc{s:List Nat}{p:Prop}{i:Nat}{a:Nat×Bool}(h:O5 (i::s) p)(b:ops[i]? =some ⟨dst,op,ty,pos,af,some a⟩)(k:GA P N ops rs Hk (n+1) done K E R L F H):GA P N ops rs Hk (n+1) done K E R L F H:=k
end
theorem iS{s:List Nat}{g a:Prop}(h:O5 s a)(st:O5 s a->g:=by(
 intro h;(repeat' (first
  |(refine a06 ?_;first
   |(refine OQ ?_;refine r_ oR ?_;replace h:=O5.step h)
   |(refine KP ?_;refine f_ oF ?_;replace h:=O5.step h)
   |(refine KL ?_;(first|refine bZ rfl rfl uh pa rfl rfl ?_|refine FL rfl rfl uh pa rfl rfl ?_);replace h:=O5.step h)
   |(refine KO ?_;first|(refine T4 rfl rfl rfl rfl rfl rfl rfl ?_;replace h:=O5.step h)|(refine Y2 rfl rfl rfl rfl rfl rfl ?_;replace h:=O5.step h)|(have:=O5.pos h;clear this;refine A2 rfl rfl rfl ?_))
   |(refine KN ?_;first|exact i7 rfl (O5.last h)|exact cd rfl rfl (O5.last h))
   |(refine RZ ?_;exact M4 rfl (O5.last h))
   |(refine RY ?_;first|exact m8 rfl rfl (O5.last h)|exact L5 rfl rfl rfl (O5.last h)))
  |(refine a07 ?_;first
   |(refine Sc h rfl ?_;first
    |(refine OS h rfl rfl rfl rfl rfl rfl rfl rfl i6 ?_;clear h;intro h)
    |(refine CP h rfl rfl rfl rfl rfl rfl rfl i6 ?_;clear h;intro h)
    |(refine NN h rfl ?_;first
     |(refine vt h rfl ud (dv rfl .del (by rfl)) rfl rfl rfl rfl rfl rfl i6 ?_;clear h;intro h)
     |(refine vt h rfl ud (gq rfl .del ga) rfl rfl rfl rfl rfl rfl i6 ?_;clear h;intro h)
     |(refine rH h rfl Ua (dv rfl .del (by rfl)) G2 rfl rfl rfl rfl rfl rfl i6 ?_;clear h;intro h)
     |(refine rH h rfl Ua (gq rfl .del ga) G2 rfl rfl rfl rfl rfl rfl i6 ?_;clear h;intro h)
     |(refine CQ h rfl oR G2 rfl rfl rfl rfl rfl rfl i6 ?_;clear h;intro h))
    |(refine FM h rfl oF rfl rfl rfl rfl rfl rfl i6 ?_;clear h;intro h))
   |(refine NN h rfl ?_;first
    |(refine FN h rfl ud (dv rfl .del (by rfl)) rfl rfl rfl i6 ?_;clear h;intro h)
    |(refine FN h rfl ud (gq rfl .del ga) rfl rfl rfl i6 ?_;clear h;intro h)
    |(refine vu h rfl Ua (dv rfl .del (by rfl)) G2 rfl rfl rfl i6 ?_;clear h;intro h)
    |(refine vu h rfl Ua (gq rfl .del ga) G2 rfl rfl rfl i6 ?_;clear h;intro h)
    |(refine KQ h rfl oR G2 rfl rfl rfl i6 ?_;clear h;intro h))
   |(refine OR h rfl oF rfl rfl rfl i6 ?_;clear h;intro h)
   |refine Sb h rfl i6 ?_)
  |refine F8 ?_
  |refine Ab ?_
  |refine mV ?_
  |(refine u_g ?_;first
   |(have:=O5.chk h;clear this;refine T2 ?_)
   |refine sX ?_
   |(have:=O5.chk0 h;clear this;refine n8 ?_)
   |(have:=O5.chk h;clear this;refine n8 ?_)
   |refine sY rfl ?_
   |refine iT rfl ?_
   |refine iU rfl ?_)
  |refine dH (.inl (by decide+kernel)) ?_
  |refine dH (.inr (aW G2)) ?_
  |refine Kt (by decide+kernel) ?_))
 all_goals (first|exact h.none|exact h.nb))):g:=st h
theorem wd(s:List Nat){g a:Prop}(h:a)(st:O5 s a->g:=by exact fun h=>iS h):g:=st ⟨h⟩
theorem I8(n:Nat){g a:Prop}(h:a)(st:O5 (List.replicate n 0++[7]) a->g:=by exact fun h=>iS h):g:=st ⟨h⟩
theorem wk(n:Nat){g a:Prop}(h:a)(st:O5 (List.replicate n 0) a->g:=by exact fun h=>iS h):g:=st ⟨h⟩
theorem xF{g g1 a:Prop}(h:a)(s1:g1->g:=by exact F8)(b:a->g1:=by exact dH (.inl i6)):g:=s1 (b h)
theorem Y9{g g1 a:Prop}(h:a)(s1:g1->g:=by exact F8)(b:a->g1:=by exact dH (.inr (aW G2))):g:=s1 (b h)
theorem E6(s:List Nat){g g1 a g3:Prop}(h:g3)(s1:g1->g:=by exact F8)(b:a->g1:=by exact dH (.inl i6))(st:O5 s g3->a:=by exact fun h=>iS h):g:=s1 (b (st ⟨h⟩))
theorem fg(s:List Nat){g g1 a g3:Prop}(h:g3)(s1:g1->g:=by exact F8)(b:a->g1:=by exact dH (.inr (aW G2)))(st:O5 s g3->a:=by exact fun h=>iS h):g:=s1 (b (st ⟨h⟩))
theorem O0{g g1 a g3:Prop}(h:a)(b:g3)(st:O5 (List.replicate 0 0) g1->g:=by exact fun h=>iS h)(c:a->g3->g1:=by exact o9 rfl):g:=st ⟨c h b⟩
theorem R7{g g1 a g3:Prop}(h:a)(b:g3)(st:O5 (List.replicate 1 0) g1->g:=by exact fun h=>iS h)(c:a->g3->g1:=by exact o9 rfl):g:=st ⟨c h b⟩
theorem bA{g g1 a g3:Prop}(h:a)(b:g3)(st:O5 (List.replicate 2 0) g1->g:=by exact fun h=>iS h)(c:a->g3->g1:=by exact o9 rfl):g:=st ⟨c h b⟩
theorem eM{g g1 a g3:Prop}(h:a)(b:g3)(st:O5 (List.replicate 3 0) g1->g:=by exact fun h=>iS h)(c:a->g3->g1:=by exact o9 rfl):g:=st ⟨c h b⟩
theorem xZ{g g1 a g3:Prop}(h:a)(b:g3)(st:O5 (List.replicate 4 0) g1->g:=by exact fun h=>iS h)(c:a->g3->g1:=by exact o9 rfl):g:=st ⟨c h b⟩
theorem OT{g g1 a g3:Prop}(h:a)(b:g3)(st:O5 (List.replicate 5 0) g1->g:=by exact fun h=>iS h)(c:a->g3->g1:=by exact o9 rfl):g:=st ⟨c h b⟩
theorem w8{g g1:Prop}(h:g1)(st:O5 (List.replicate 0 0) g1->g:=by exact fun h=>iS h):g:=st ⟨h⟩
theorem r7{g g1:Prop}(h:g1)(st:O5 (List.replicate 1 0) g1->g:=by exact fun h=>iS h):g:=st ⟨h⟩
theorem A1{g g1:Prop}(h:g1)(st:O5 (List.replicate 2 0) g1->g:=by exact fun h=>iS h):g:=st ⟨h⟩
theorem E7{g g1:Prop}(h:g1)(st:O5 (List.replicate 3 0) g1->g:=by exact fun h=>iS h):g:=st ⟨h⟩
theorem O3{g g1:Prop}(h:g1)(st:O5 (List.replicate 4 0) g1->g:=by exact fun h=>iS h):g:=st ⟨h⟩
theorem ap{g g1:Prop}(h:g1)(st:O5 (List.replicate 5 0) g1->g:=by exact fun h=>iS h):g:=st ⟨h⟩
theorem aq{g g1:Prop}(h:g1)(st:O5 (List.replicate 6 0) g1->g:=by exact fun h=>iS h):g:=st ⟨h⟩
theorem ox{g g1 a:Prop}(h:a)(st:O5 (List.replicate 0 0) g1->g:=by exact fun h=>iS h)(b:a->g1:=by exact A4):g:=st ⟨b h⟩
theorem C5{g g1 a:Prop}(h:a)(st:O5 (List.replicate 1 0) g1->g:=by exact fun h=>iS h)(b:a->g1:=by exact A4):g:=st ⟨b h⟩
theorem L7{g g1 a:Prop}(h:a)(st:O5 (List.replicate 2 0) g1->g:=by exact fun h=>iS h)(b:a->g1:=by exact A4):g:=st ⟨b h⟩
theorem bQ{g g1 a:Prop}(h:a)(st:O5 (List.replicate 3 0) g1->g:=by exact fun h=>iS h)(b:a->g1:=by exact A4):g:=st ⟨b h⟩
theorem JS{g g1 a:Prop}(h:a)(st:O5 (List.replicate 4 0) g1->g:=by exact fun h=>iS h)(b:a->g1:=by exact A4):g:=st ⟨b h⟩
theorem JT{g g1 a:Prop}(h:a)(st:O5 (List.replicate 5 0) g1->g:=by exact fun h=>iS h)(b:a->g1:=by exact A4):g:=st ⟨b h⟩
theorem NO{g g1 a:Prop}(h:a)(st:O5 (List.replicate 6 0) g1->g:=by exact fun h=>iS h)(b:a->g1:=by exact A4):g:=st ⟨b h⟩
theorem KR{g g1 a:Prop}(h:a)(st:O5 (List.replicate 7 0) g1->g:=by exact fun h=>iS h)(b:a->g1:=by exact A4):g:=st ⟨b h⟩
theorem NP{g g1 a:Prop}(h:a)(st:O5 (List.replicate 8 0) g1->g:=by exact fun h=>iS h)(b:a->g1:=by exact A4):g:=st ⟨b h⟩
theorem C7{g g1 a:Prop}(h:a)(st:O5 (List.replicate 0 0) g1->g:=by exact fun h=>iS h)(b:a->g1:=by exact T2):g:=st ⟨b h⟩
theorem xG{g g1 a:Prop}(h:a)(st:O5 (List.replicate 1 0) g1->g:=by exact fun h=>iS h)(b:a->g1:=by exact T2):g:=st ⟨b h⟩
theorem Rc{g g1 a:Prop}(h:a)(st:O5 (List.replicate 2 0) g1->g:=by exact fun h=>iS h)(b:a->g1:=by exact T2):g:=st ⟨b h⟩
end Go.Sl
namespace Go.Proofs.YtmcepdopookilaaGreatDoor
open Go Go.Sl Go.Proofs.Tryz
theorem X5{P:Program}{t:TypeId}{fs:Array Field}{pl:List (Nat×Nat)}(hu:P.underlying t=some (.struct fs))(hp:fs.toList.map (fun f=>(f.offset,P.cellsOf f.type))=pl)(a:(fs.toList.all fun f=>(P.info? f.type).isSome)=true):Sa P t fs pl:=⟨hu,hp,a⟩
abbrev b30:=X5 (pl:=[(0,1),(1,1),(2,1)]) underlying30 i6 i6
abbrev b36:=X5 (pl:=[(0,1),(1,1),(2,1),(3,1),(4,1),(5,1),(6,1),(7,1),(8,1),(9,1),(10,1),(11,1),(12,1),(13,1),(14,1),(15,1),(16,1)]) underlying36 i6 i6
abbrev b41:=X5 (pl:=[(0,1),(1,1)]) underlying41 i6 i6
abbrev b44:=X5 (pl:=[(0,1),(1,1),(2,1),(3,1),(4,1),(5,1),(6,1),(7,1),(8,1),(9,1),(10,1),(11,1),(12,1),(13,1),(14,1),(15,1),(16,1)]) underlying44 i6 i6
abbrev b48:=X5 (pl:=[(0,27),(27,27),(54,2),(56,1),(57,1),(58,1),(59,23),(82,17)]) underlying48 i6 i6
abbrev b51:=X5 (pl:=[(0,1),(1,1),(2,1),(3,1),(4,1),(5,1),(6,1),(7,1),(8,1),(9,1)]) underlying51 i6 i6
abbrev b62:=X5 (pl:=[(0,1),(1,1),(2,1),(3,1),(4,1),(5,1)]) underlying62 i6 i6
abbrev b65:=X5 (pl:=[(0,27),(27,6),(33,17),(50,1),(51,1)]) underlying65 i6 i6
abbrev b70:=X5 (pl:=[(0,1),(1,2),(3,1),(4,17)]) underlying70 i6 i6
abbrev b72:=X5 (pl:=[(0,1),(1,1)]) underlying72 i6 i6
abbrev b86:=X5 (pl:=[(0,1),(1,1),(2,1),(3,1),(4,1)]) underlying86 i6 i6
abbrev b95:=X5 (pl:=[(0,1),(1,1)]) underlying95 i6 i6
abbrev a08:=X5 (pl:=[(0,1),(1,1),(2,1),(3,1),(4,1)]) underlying100 i6 i6
abbrev a09:=X5 (pl:=[(0,1),(1,1),(2,1),(3,1),(4,1)]) underlying102 i6 i6
abbrev a1a:=X5 (pl:=[(0,1),(1,1),(2,1)]) underlying104 i6 i6
abbrev a1b:=X5 (pl:=[(0,1),(1,1),(2,1),(3,1),(4,1),(5,1)]) underlying110 i6 i6
abbrev a1c:=X5 (pl:=[(0,1),(1,1),(2,1),(3,1),(4,1),(5,1)]) underlying127 i6 i6
abbrev a1d:=X5 (pl:=[(0,1),(1,1),(2,1),(3,1),(4,1)]) underlying129 i6 i6
abbrev a1e:=X5 (pl:=[(0,6),(6,17),(23,5)]) underlying136 i6 i6
abbrev a1f:=X5 (pl:=[(0,27),(27,23)]) underlying141 i6 i6
abbrev a1g:=X5 (pl:=[(0,1),(1,17),(18,6),(24,5),(29,5),(34,1),(35,1),(36,10)]) underlying149 i6 i6
abbrev a1h:=X5 (pl:=[(0,1),(1,1),(2,1),(3,1),(4,1)]) underlying156 i6 i6
abbrev a1i:=X5 (pl:=[(0,1),(1,1)]) underlying178 i6 i6
abbrev a1j:=X5 (pl:=[(0,1),(1,1),(2,17)]) underlying211 i6 i6
abbrev a1k:=X5 (pl:=[(0,1),(1,1),(2,1)]) underlying214 i6 i6
abbrev a1l:=X5 (pl:=[]) underlying219 i6 i6
abbrev a1m:=X5 (pl:=[(0,1),(1,1),(2,1)]) underlying225 i6 i6
abbrev a1n:=X5 (pl:=[(0,1),(1,1)]) underlying327 i6 i6
abbrev a1o:=X5 (pl:=[(0,1),(1,1),(2,1)]) underlying333 i6 i6
abbrev a1p:=X5 (pl:=[(0,1),(1,1)]) underlying340 i6 i6
abbrev a1q:=X5 (pl:=[(0,1),(1,5)]) underlying371 i6 i6
attribute [instance] b30 b36 b41 b44 b48 b51 b62 b65 b70 b72 b86 b95 a08 a09 a1a a1b a1c a1d a1e a1f a1g a1h a1i a1j a1k a1l a1m a1n a1o a1p a1q
end Go.Proofs.YtmcepdopookilaaGreatDoor
namespace Go.Sl
open Go Go.RowKit Go.Proofs.Tryz
class Mn(p:l_->Prop):Prop where
 le:∀{h h':l_},l_.le h h'->p h->p h'
instance {a:Option Addr} {xs:List Value}:Mn (fun h=>n9 h a xs):=⟨fun l r=>r.le l⟩
instance {p q:l_->Prop} [a:Mn p] [b:Mn q]:Mn (fun h=>p h/\q h):=⟨fun l r=>⟨a.le l r.1,b.le l r.2⟩⟩
instance {p:Prop}:Mn (fun _=>p):=⟨fun _ r=>r⟩
theorem y4.left{A H R:List As}(h:y4 A H R){F:l8}{w:World}(a:Hp F w H):Hp F w A:=(h.hp a).left
def Cm(P:Program)(f:FuncId)(args:List Value)(Pre:l_->Prop)(C:List As)(Q:l_->Value->List As->Prop):Prop:=
 ∀(F:l8) (R:List As) (w:World),Hp F w (C++R)->Pre F.heap->Calls P f args.toArray w fun e w'=>∃v A F',e=.returned v/\F.le F'/\Q F'.heap v A/\Hp F' w' (A++R)
def CR(P:Program)(fn:Func)(F0:l8)(R:List As)(Q:l_->Value->List As->Prop):y7:=fun a w=>∃v A F',(results fn a.tmps).run P w=.ok v w/\F0.le F'/\Q F'.heap v A/\Hp F' w (A++R)/\a.defers=[]
theorem y5{P:Program}{f:FuncId}{fn:Func}{c:Code}{args:List Value}{d:l_->Prop}{C:List As}{Q:l_->Value->List As->Prop}(N:Nat)(hf:P.funcs[f]? =some fn)(r:fn.body=some c)(s:fn.ntmps=N)(i:Nat.ble args.length N=true)(h:∀(F:l8) (R:List As),d F.heap->G P N c (CR P fn F R Q) [] (CR P fn F R Q) (aw 0 args) F (C++R)):Cm P f args d C Q:=by
 intro F R w t g;refine calls_of_wp hf r ?_;rw[s];have b:=h F R g;unfold G at b;refine Code.wp_mono (fun e a u q=>?_) (b _ w (T3 N args i) t)
 cases e with
 |normal=>obtain⟨v,A,j,b,m,n,o,p⟩:=q;exact⟨p,v,b,v,A,j,rfl,m,n,o⟩
 |ret=>obtain⟨v,A,j,b,m,n,o,p⟩:=q;exact⟨p,v,b,v,A,j,rfl,m,n,o⟩
 |exit id=>simp[MQ] at q
 |goto l=>exact q.elim
 |panic ch=>rcases q with⟨k,v,h,_⟩|⟨k,v,h,_⟩<;>cases h
 |outgrown=>exact q.elim
theorem Cm.of_ct{P:Program}{f:FuncId}{args:List Value}{g:l_->Prop}{C:List As}{a:Value->List As->Prop}(h:Ct P f args g C a){Pre':l_->Prop}(l:∀x y,l_.le x y->Pre' x->g y):Cm P f args Pre' C (fun _ v A=>a v A):=by
 intro F R w m i;obtain⟨D,hs,r,j⟩:=m.own;obtain⟨n,J,e,k,p⟩:=A3.split hs;subst e;refine(h w n k (j7.1 r).1 (l _ _ (fun b o q=>?_) i)).mono ?_
 ·have s:=m.keep b o q;have t:b∉n:=fun u=>by rw[j b (by simp[u])] at q;cases q
  have z:E5 w n b=w.heap[b]?:=by simp[E5,t]
  rw[z];exact s
 ·rintro e M ⟨v,A,rfl,c,d⟩;exact⟨v,A,F,rfl,l8.le_refl _,c,m.back k p r j d⟩
theorem H4{P:Program}{N:Nat}{L:G0}{F b:l8}{H R A:List As}{fn:Func}{Q:l_->Value->List As->Prop}{v:Value}(hl:b.le F)(hq:Q F.heap v A)(h:At N (dq P fn F (fun v' c=>v'=v/\c=A++R)) L F H):At N (CR P fn b R Q) L F H:=by
 unfold At at h⊢;intro a w hf d;obtain⟨v',c,e,⟨rfl,rfl⟩,f,g⟩:=h a w hf d;exact⟨_,A,F,e,hl,hq,f,g⟩
section
variable{P:Program}{N:Nat}{K R:y7}{E:List (Nat×y7)}{L:G0}{F:l8}{H:List As}{ops:Array Oper}{rest:List Oper}{ty:TypeId}{pos:String}{af:Array Edge}{dst:Option Nat}{gd:Option (Nat×Bool)}{x:Operand}
theorem rI{o:Oper}{d:Nat}{f:FuncId}{vs:List Value}{b:l_->Prop}{C Rr:List As}{Q:l_->Value->List As->Prop}(hg:o.guard=none)(c:o.dst=some d)(l:Nat.blt d N=true)(g:∀ρ w,Fb L ρ->(execOp ρ o).run P w=.ok (.enter f vs.toArray) w)(hc:Cm P f vs b C Q)(hH:y4 C H Rr)(h:b F.heap)(k:∀v A i,F.le i->Q i.heap v A->GL P N ops rest K E R ((d,v)::L) i (A++Rr)):GL P N ops (o::rest) K E R L F H:=by
 unfold GL at k⊢;intro a w hf m;refine wpList_plain hg fun r n=>?_;unfold Oper.wp;rw[g _ w hf.agr,Oper.upon_enter];refine(hc F Rr w (hH.hp m) h).mono ?_;rintro e s ⟨v,A,i,rfl,p,q,j⟩;rw[c];exact n _ _ (k v A i p q _ _ (hf.put l v) j)
theorem A9{d:Nat}{f:FuncId}{args:List Operand}{c:Array TypeId}{vs:List Value}{a:l_->Prop}{C Rr:List As}{Q:l_->Value->List As->Prop}[HF P f](hc:Cm P f vs a C Q)(b:a F.heap)(k:∀v A e,F.le e->Q e.heap v A->GL P N ops rest K E R ((d,v)::L) e (A++Rr))(hx:rz L args=some vs:=by rfl)(hH:y4 C H Rr:=by exact tk)(g:Nat.blt d N=true:=by rfl):
  GL P N ops (⟨some d,.call ⟨.value (.func f),args.toArray,c⟩,ty,pos,af,none⟩::rest) K E R L F H:=
 rI rfl rfl g (fun ρ w hf=>aU hx hf w) hc hH b k
theorem rJ{d:Nat}{f:FuncId}{args:List Operand}{g:Array TypeId}{vs ps qs a:List Value}{b:l_->Prop}{C Rr:List As}{Q:l_->Value->List As->Prop}[hF:HF P f](hc:Cm P f a b C Q)(c:b F.heap)(k:∀v A h,F.le h->Q h.heap v A->GL P N ops rest K E R ((d,v)::L) h (A++Rr))(hv:ev L x=some (.func (.func f) ps.toArray qs.toArray):=by rfl)(hx:rz L args=some vs:=by rfl)(e:ps++vs++qs=a:=by rfl)(hH:y4 C H Rr:=by exact tk)(i:Nat.blt d N=true:=by rfl):
  GL P N ops (⟨some d,.call ⟨.value x,args.toArray,g⟩,ty,pos,af,none⟩::rest) K E R L F H:=
 rI rfl rfl i (fun ρ w hf=>by
  have j:=hf _ _ hv;have l:=aT hf hx;subst e;simp only[execOp,resolve,j,Deferred.ofValue,Zv,l,Sem.run_bind,Sem.run_pure,Result.andThen_ok,invoke];have:(ps.toArray++vs.toArray++qs.toArray:Array Value)=(ps++vs++qs).toArray:=by simp
  rw[this];exact hF.h _ w) hc hH c k
theorem e_{d:Nat}{f:FuncId}{args:List Operand}{e:Array TypeId}{vs:List Value}{b:l_->Prop}{C Rr:List As}{a:Value->List As->Prop}[HF P f](hc:Ct P f vs b C a)(c:∀h,l_.le F.heap h->(∃bs,A3 h Rr bs)->b h)(k:∀v A,a v A->GL P N ops rest K E R ((d,v)::L) F (A++Rr))(hx:rz L args=some vs:=by rfl)(hH:y4 C H Rr:=by exact tk)(g:Nat.blt d N=true:=by rfl):
  GL P N ops (⟨some d,.call ⟨.value (.func f),args.toArray,e⟩,ty,pos,af,none⟩::rest) K E R L F H:=
 x6 Rr hx hc (fun w i=>hH.hp i) c g k
theorem Aq{Z Rr:List As}(hH:y4 Z H Rr)(k:∀a,F.le a->(∃bs,A3 a.heap Z bs)->GL P N ops rest K E R L a Rr):GL P N ops rest K E R L F H:=
 I7 (H':=Rr++Z) (fun w b=>(hH.hp b).perm kz) (rC k)
theorem B9{c:Code}{Z Rr:List As}(hH:y4 Z H Rr)(k:∀a,F.le a->(∃bs,A3 a.heap Z bs)->G P N c K E R L a Rr):G P N c K E R L F H:=
 D7 (H':=Rr++Z) (fun w b=>(hH.hp b).perm kz) (bY k)
end
inductive NQ:List As->List As->Prop
 |nil {R:List As}:NQ R R
 |cons {x:As} {R H:List As}:NQ R H->NQ R (x::H)
theorem NQ.hp{R H:List As}(h:NQ R H){F:l8}{w:World}(a:Hp F w H):Hp F w R:=by
 induction h with
 |nil=>exact a
 |cons _ ih=>exact ih a.drop
theorem sfx{R H:List As}(h:NQ R H:=by(repeat (first|exact .nil|refine .cons ?_))):NQ R H:=h
theorem fle{F a:l8}(h:F.le a:=by(first|exact l8.le_refl _|assumption|exact l8.le.trans (by assumption) (by assumption))):F.le a:=h
section
variable{P:Program}{N:Nat}{K R:y7}{E:List (Nat×y7)}{L:G0}{F F0:l8}{H R0:List As}{ops:Array Oper}{rest:List Oper}{ty:TypeId}{pos:String}{af:Array Edge}{dst:Option Nat}{gd:Option (Nat×Bool)}{x:Operand}{Pq Pq':Value->Prop}
end
section
variable{P:Program}{N:Nat}{K R:y7}{E:List (Nat×y7)}{L:G0}{F:l8}{H R0:List As}{ops:Array Oper}{rest:List Oper}{ty:TypeId}{pos:String}{af:Array Edge}{dst:Option Nat}{gd:Option (Nat×Bool)}{x:Operand}{Pq Pq':Value->Prop}
end
section
variable{P:Program}{N:Nat}{K R:y7}{E:List (Nat×y7)}{L:G0}{F:l8}{H:List As}{ops:Array Oper}{rest:List Oper}{ty:TypeId}{pos:String}{af:Array Edge}{t:TypeId}
theorem w6{α:Type}(C:α->List Value){l m:List α}{d:Nat}{s x:Operand}{a b:Option Addr}{c r sz:Nat}{e:TypeId}{H':Option Addr->Nat->List As}{z:Value}{i:TypeInfo}[hu:HU P t (.slice e)][hz:HZ P e z][hi:HI P e i][hs:HS P e sz](v:∀x,(C x).length=sz)(y:∀x,∀q∈C x,q.oneCell'=true)(g:(l.length+m.length)*i.bytes<=140737488355328)(h:∀j f,(l++m).length<=f->GL P N ops rest K E R ((d,.slice j (l++m).length f)::L) F (H' j f))(k:ev L s=some (.slice a l.length c):=by rfl)(n:ev L x=some (.slice b m.length r):=by rfl)(u:∀j f,M2 H (.own (.slice a l.length c) e sz (l.flatMap C)) [.own (.slice j (l++m).length f) e sz ((l++m).flatMap C)] (H' j f):=by exact fun _ _=>uh)(hsrc:∀w,Hp F w H->Kl (hp w) b (m.flatMap C):=by exact fun w A=>(A.ownN ud).2.2.1)(h63:l.length+m.length<=9223372036854775807:=by(first|omega|(simp only[zx,zn];omega)))(o:Nat.blt 0 sz=true:=by rfl)(p:z.cells.size=sz:=by rfl)(D:Nat.blt d N=true:=by rfl):
  GL P N ops (⟨some d,.call ⟨.builtin .append,#[s,x],#[t,t]⟩,ty,pos,af,none⟩::rest) K E R L F H:=
 C0 k n (H':=H') (fun j f=>by have:=u j f;rw[zz,Z7] at this;exact this) hsrc (M6 v m) o p (cO y m) g h63 D fun j f hc=>by
  have:=h j f (by rw[zz];exact hc);rw[zz] at this;exact this
theorem C4{α:Type}(C:α->List Value)(y:α){d:Nat}{x:Operand}{e:TypeId}{z v:Value}{sz:Nat}[hu:HU P t (.slice e)][hz:HZ P e z][hs:HS P e sz](hv:v.cells.toList=C y)(h:∀a,(∃f,a=some f)->GL P N ops rest K E R ((d,.slice a 1 1)::L) F (.own (.slice a [y].length 1) e sz ([y].flatMap C)::H))(hx:ev L x=some v:=by rfl)(c:Nat.ble (1*sz) 16777216=true:=by rfl)(hp:Nat.blt 0 (1*sz)=true:=by rfl)(b:Nat.beq v.cells.size sz=true:=by rfl)(g:Nat.blt d N=true:=by rfl):
  GL P N ops (⟨some d,.buildSlice t 1 #[(0,x)],ty,pos,af,none⟩::rest) K E R L F H:=
 x7 (ps:=[(0,x)]) (vs:=[(0,v)]) (xs:=[y].flatMap C) (by simp[Ae,hx]) c hp rfl (by simp[b]) rfl (by simp[hv]) g h
variable{α:Type}{C:α->List Value}{sz:Nat}
theorem cD{h:l_}{a:Option Addr}{l:List α}{q i j:Nat}{v:Value}(r:n9 h a (l.flatMap C))(c:∀x,(C x).length=sz)(b:i<l.length)(hv:(C l[i])[j]? =some v)(hq:q=i*sz+j):M0 h (N0 a q) [v]:=by
 refine KC r c l[i] (i:=i) (j:=j) (by rw[hq,W5]) b ?_
 rwa [show l.getD i l[i]=l[i] from by simp[List.getD,b]]
theorem cQ{h:l_}{a:Option Addr}{l:List α}{q i:Nat}(r:n9 h a (l.flatMap C))(d:∀x,(C x).length=sz)(b:0<sz)(c:i<l.length)(hq:q=i*sz):M0 h (N0 a q) (C l[i]):=by
 have:=tl r d b l[i] (q:=q) (i:=i) (by rw[hq,W5]) c
 rwa [show l.getD i l[i]=l[i] from by simp[List.getD,c]] at this
theorem aA(a:∀x,(C x).length=sz):∀(l:List α) (i:Nat),(l.flatMap C).take (i*sz)=(l.take i).flatMap C
 |l,0=>by simp
 |[],i+1=>by simp
 |x::l,i+1=>by
  rw[Qm,List.take_succ_cons,Qm,show(i+1)*sz=(C x).length+i*sz from by rw[a,Q0];omega,Wv,aA a l i]
theorem lf(a:∀x,(C x).length=sz):∀(l:List α) (i:Nat),(l.flatMap C).drop (i*sz)=(l.drop i).flatMap C
 |l,0=>by simp
 |[],i+1=>by simp
 |x::l,i+1=>by
  rw[Qm,Wx,show(i+1)*sz=(C x).length+i*sz from by rw[a,Q0];omega,K2,lf a l i]
theorem KS(b:∀x,(C x).length=sz){l:List α}{i j:Nat}{y:α}{vs:List Value}(a:i<l.length)(c:j+vs.length<=sz)(d:C y=L6 (C l[i]) j vs):L6 (l.flatMap C) (i*sz+j) vs=(l.set i y).flatMap C:=by
 have e:l=l.take i++l[i]::l.drop (i+1):=by rw[<-Qg a,Qk]
 have f:l.set i y=l.take i++y::l.drop (i+1):=by rw[Zc,zg a]
 have g:((l.take i).flatMap C).length=i*sz:=by rw[M6 b,z1,Jg (Js a)]
 have h:l.flatMap C=(l.take i).flatMap C++C l[i]++(l.drop (i+1)).flatMap C:=by
  conv=>lhs;rw[e]
  rw[Z7,Qm,zm]
 rw[f,Z7,Qm,d,<-zm,h,<-g];exact fx _ _ _ _ _ (by rw[b];exact c)
theorem A_{l:List α}{i j:Nat}(d:α){a:Option Addr}{len c q n:Nat}{te:TypeId}{v:Value}{x y:Operand}{H':List As}[hs:HS P t n](e:∀x,(C x).length=sz)(f:i<l.length)(g:C d=L6 (C l[i]) j v.cells.toList)(h:GL P N ops rest K E R L F H')(hx:ev L x=some (.pointer (N0 a q)):=by rfl)(hv:ev L y=some v:=by rfl)(u:M2 H (.own (.slice a len c) te sz (l.flatMap C)) [.own (.slice a len c) te sz ((l.set i d).flatMap C)] H':=by exact uh)(k:Nat.beq v.cells.size n=true:=by rfl)(b:Nat.blt 0 n=true:=by rfl)(m:(v.cells.toList.all fun q=>q.oneCell')=true:=by rfl)(o:Nat.ble (j+n) sz=true:=by rfl)(hq:q=i*sz+j:=by simp):GL P N ops (⟨none,.store t x y,ty,pos,af,none⟩::rest) K E R L F H:=by
 have p:=j6 k;have r:j+n<=sz:=by simpa[Jb] using o
 refine U0 (te:=te) (len:=len) (c:=c) (sz:=sz) (xs:=l.flatMap C) hx hv (H':=H') ?_ p (by simpa[Kd] using b) (fun q hq=>Qv.1 m q hq) ?_ h
 ·rw[hq,KS e f (by simp;omega) g];exact u
 ·rw[M6 e,hq];have:(i+1)*sz<=l.length*sz:=Qy _ f;rw[Q0] at this;omega
end
end Go.Sl
namespace Go.Proofs.YtmcepdopookilaaGreatDoor.Rp
open Go Go.Sl Go.RowKit Go.Proofs.Tryz
abbrev l9(b:Nat):Value:=.pointer (some ⟨b,0,none⟩)
def fV(l:List Bs):List Value:=l.map fun f=>B f
theorem L8(l:List Bs):(fV l).length=l.length:=by simp[fV]
theorem lg(l:List Bs):∀q∈fV l,q.oneCell'=true:=fun q a=>by
 obtain⟨x,_,rfl⟩:=jv.mp a;rfl
theorem gr(a b:List Bs):fV (a++b)=fV a++fV b:=by simp[fV]
abbrev A5(a:Option Addr)(l:List Bs)(c:Nat):As:=.own (.slice a l.length c) 9 1 (fV l)
theorem ce{h:l_}{a:Option Addr}{l:List Bs}{i:Nat}(r:n9 h a (fV l))(c:i<l.length):∃b,a=some b:=by
 obtain⟨b,e,_⟩:=r (by intro e;have:=jy List.length e;rw[L8] at this;simp at this;subst this;simp at c);exact⟨b,e⟩
theorem OU{F:l8}{w:World}{H:List As}{a:Option Addr}{l:List Bs}(b:Hp F w H)(r:n9 F.heap a (fV l)){q i:Nat}(h:q=i)(c:i<l.length):M0 (hp w) (N0 a q) [B (l.getD i [])]:=
 mW b r x4 (fun j u hu=>by
  match j,hu with
  |0,hu=>
   simp at hu;subst hu h;simp[fV,c])
theorem NR{l:List Bs}{k:Nat}(a:k<l.length):l.take (k+1)=l.take k++[l.getD k []]:=by
 rw[kj a,zd,zj a];rfl
theorem dO{l:List Bs}{k:Nat}(a:k<l.length):l.getD k []∈l:=by
 rw[zd,zj a];exact zy a
structure VM where
 v:RV
 a:Option Addr
 c:Nat
abbrev OV:VM:=⟨V0,none,0⟩
abbrev vx(x:VM):List Value:=[.int .i64 x.v.kind,.int .u64 (x.v.n:Nat),.slice x.a x.v.a5Y.length x.c,B x.v.text,.bool x.v.part,.int .u64 (x.v.fr:Nat)]
abbrev vmA(x:VM):Value:=.agg #[.int .i64 x.v.kind,.int .u64 (x.v.n:Nat),.slice x.a x.v.a5Y.length x.c,B x.v.text,.bool x.v.part,.int .u64 (x.v.fr:Nat)]
abbrev OW(l:List VM):List Value:=l.flatMap vx
theorem mZ:∀x,(vx x).length=6:=fun _=>rfl
theorem nf:∀x,∀q∈vx x,q.oneCell'=true:=fun x q a=>by simp at a;rcases a with rfl|rfl|rfl|rfl|rfl|rfl<;>rfl
def nV(l:List Nat):List Value:=l.map fun n=>.int .u64 (n:Nat)
theorem tu(l:List Nat):(nV l).length=l.length:=by simp[nV]
theorem iv(l:List Nat):∀q∈nV l,q.oneCell'=true:=fun q a=>by
 obtain⟨x,_,rfl⟩:=jv.mp a;rfl
theorem aB(a b:List Nat):nV (a++b)=nV a++nV b:=by simp[nV]
structure RL where
 na:Option Addr
 nc:Nat
 fa:Option Addr
 fc:Nat
 va:Option Addr
 vc:Nat
 vs:List VM
abbrev L0:RL:=⟨none,0,none,0,none,0,[]⟩
abbrev tv(r:RR)(x:RL):List Value:=[.int .i64 r.kind,B r.tag,B r.code,B r.text,.int .u64 (r.n:Nat),.slice x.na r.nums.length x.nc,.int .u64 (r.mod:Nat),.slice x.fa r.a5Y.length x.fc,B r.box,.slice x.va x.vs.length x.vc]
abbrev KU(r:RR)(x:RL):Value:=.agg #[.int .i64 r.kind,B r.tag,B r.code,B r.text,.int .u64 (r.n:Nat),.slice x.na r.nums.length x.nc,.int .u64 (r.mod:Nat),.slice x.fa r.a5Y.length x.fc,B r.box,.slice x.va x.vs.length x.vc]
structure fG(r:RR)(x:RL)(h:l_):Prop where
 vals:r.values=x.vs.map VM.v
 nums:n9 h x.na (nV r.nums)
 a5Y:n9 h x.fa (fV r.a5Y)
 vs:n9 h x.va (OW x.vs)
 fs:∀m∈x.vs,n9 h m.a (fV m.v.a5Y)
theorem fG.le{r:RR}{x:RL}{h a:l_}(k:fG r x h)(hl:l_.le h a):fG r x a:=⟨k.vals,k.nums.le hl,k.a5Y.le hl,k.vs.le hl,fun m b=>(k.fs m b).le hl⟩
theorem dP{h:l_}{bs:List Nat}{a:Option Addr}{n c sz:Nat}{t:TypeId}{xs:List Value}{H:List As}(hs:A3 h H bs)(b:As.own (.slice a n c) t sz xs∈H):n9 h a xs:=by
 obtain⟨A,C,rfl⟩:=Wp b;obtain⟨e,f,rfl,_,d⟩:=A3.split hs;exact A3.rd d .del
structure Gl(h:l_):Prop where
 m:∃m t fr,h 0=some (.cells #[.int .i64 m] t fr)
 tab:∃t fr,h 1=some (.cells (Lib.pow10Tab.map fun z=>Value.int .u64 z).toArray t fr)
 syn:∃e t fr,h 4=some (.cells #[e] t fr)/\(e=.nilIface\/∃te pe,e=.iface te pe)
 rng:∃e t fr,h 5=some (.cells #[e] t fr)/\(e=.nilIface\/∃te pe,e=.iface te pe)
theorem Gl.le{h n:l_}(g:Gl h)(hl:l_.le h n):Gl n:=by
 obtain⟨⟨a,b,c,o⟩,⟨d,e,p⟩,⟨f,i,j,q,k3⟩,⟨k,l,m,r,k4⟩⟩:=g;exact⟨⟨a,b,c,hl _ _ o⟩,⟨d,e,hl _ _ p⟩,⟨f,i,j,hl _ _ q,k3⟩,⟨k,l,m,hl _ _ r,k4⟩⟩
theorem Gl.tabIs{w:World}(g:Gl (hp w)):Lib.TabIs prog w "internal/strconv.uint64pow10" .u64 Lib.pow10Tab:=by
 obtain⟨t,a,h⟩:=g.tab;have b:prog.globalNamed "internal/strconv.uint64pow10"=some 1:=by kernel_rfl
 have c:w.heap[1]? =some (.cells (Lib.pow10Tab.map fun z=>Value.int .u64 z).toArray t a):=h;unfold Lib.TabIs World.var?;rw[b];simp only[z6,c]
theorem dQ{P:Program}{f:FuncId}{args:List Value}{d:l_->Prop}{v:Value}(h:∀w,d (hp w)->Calls P f args.toArray w fun e w'=>e=.returned v/\Below w.heap.size w w'):Pu P f args d v:=by
 intro w k g l c;have m:k=[]:=g;subst m;rw[N3] at c;refine(h w c).mono ?_;rintro e w' ⟨rfl,a⟩;refine⟨v,[],rfl,qh,a.os,a.tape,a.output,fun b o i=>?_,[],rfl,Zy,by simp⟩;have j:w.heap[b]? =some o:=bT w [] b o i;have n:b<w.heap.size:=(kr.1 j).1;show w'.heap[b]? =_;rw[a.block b n];exact j
theorem U2{P:Program}{f:FuncId}{args:List Value}{a:l_->Prop}{v:Value}(h:∀w,a (hp w)->Calls P f args.toArray w fun e w'=>e=.returned v/\w'=w):Pu P f args a v:=
 dQ fun w c=>(h w c).mono fun e w' ⟨d,b⟩=>⟨d,b▸Below.refl _ _⟩
theorem ah(s p:Bs):Pu prog 90 [B s,B p] (fun _=>True) (.bool (p.isPrefixOf s)):=U2 fun w _=>Tryz.strings_HasPrefix ⟨s.toArray⟩ ⟨p.toArray⟩ w
theorem eN(s:Bs)(c:UInt8):Lib.indexByte s c=if s.contains c=true then((s.takeWhile fun x=>x !=c).length:Int) else-1:=by
 induction s with
 |nil=>rfl
 |cons a t ih=>
  rw[Lib.indexByte];by_cases h:a=c
  ·subst h;simp
  ·have d:(a==c)=false:=(by simpa using h);have b:(c==a)=false:=(by simpa using fun e:c=a=>h e.symm);rw[d,ih];simp only[Wd,b,K0,Zz,bne,d,Bool.not_false,if_true];by_cases hc:t.contains c=true
   ·simp only[hc,if_true];have:((t.takeWhile fun x=>!(x==c)).length:Int)≠ -1:=(by omega);simp[this]
   ·simp only[hc];rfl
theorem ai(s:Bs)(c:UInt8):Pu prog 48 [B s,.int .u8 (c.toNat:Nat)] (fun _=>True) (.int .i64 (Lib.indexByte s c)):=U2 fun w _=>by
 have:=Tryz.strings_IndexByte ⟨s.toArray⟩ (c.toNat:Nat) w;have e:((c.toNat:Nat):Int).toNat.toUInt8=c:=by simp
 rwa [e] at this
theorem jo(n:Nat):Lib.decDigits n=R5 n:=by
 induction n using Nat.strongRecOn with
 |ind n ih=>
  rw[Lib.decDigits];split
  ·next h=>rw[bH h];rfl
  ·next h=>rw[gk h,ih (n/10) qb];rfl
theorem FO(n:Nat)(h:n<100):Pu prog 241 [.int .i64 (n:Nat)] (fun _=>True) (B (R5 n)):=U2 fun w _=>by
 have:=Tryz.internal_strconv_small n h w
 rwa [jo] at this
theorem tx(n:Nat)(a:1<=n)(b:n<18446744073709551616):Pu prog 242 [.int .u64 (n:Nat)] Gl (.int .i64 (Lib.nDigits n)):=U2 fun w hg=>Tryz.internal_strconv_numDigits n a b w hg.tabIs
theorem fH(a:Bs):∀l:List Bs,Lib.join l a=fe a l
 |[]=>rfl
 |[x]=>by simp[Lib.join,fe,List.intercalate]
 |x::y::t=>by
  rw[CN _ _ x4,<-fH a (y::t)];simp[Lib.join,List.intercalate]
theorem pre{F:l8}{Rr:List As}{c:l_->Prop}(h:∀h,l_.le F.heap h->(∃bs,A3 h Rr bs)->c h:=by(
 intro h b a
 first
 |trivial
 |exact n9.le (by assumption) b
 |exact Gl.le (by assumption) b
 |(obtain⟨bs,a⟩:=a;exact A3.rd a ud)
 |(refine⟨?_,?_⟩<;>(first|exact n9.le (by assumption) b|exact Gl.le (by assumption) b|(obtain⟨bs,a⟩:=a;exact A3.rd a ud)))
 |(refine⟨?_,?_,?_⟩<;>(first|exact n9.le (by assumption) b|exact Gl.le (by assumption) b|(obtain⟨bs,a⟩:=a;exact A3.rd a ud))))):∀h,l_.le F.heap h->(∃bs,A3 h Rr bs)->c h:=h
abbrev FP:List (String×DataW Unit):=[("math/bits.deBruijn32tab",Rows.laid_math_bits_deBruijn32tab),("math/bits.deBruijn64tab",Rows.laid_math_bits_deBruijn64tab),("internal/strconv.uint64pow10",Rows.laid_internal_strconv_uint64pow10),("unicode/utf8.acceptRanges",Rows.laid_unicode_utf8_acceptRanges),("strconv.ErrRange",Rows.laid_strconv_ErrRange),("strconv.ErrSyntax",Rows.laid_strconv_ErrSyntax),("unicode.CaseRanges",Rows.laid_unicode_CaseRanges),("unicode/utf8.first",Rows.laid_unicode_utf8_first)]
theorem Sd:prog.globalNamed "internal/strconv.uint64pow10"=some 1:=by kernel_rfl
theorem Se:(prog.globals[1]?).map (·.type)=some 348:=by kernel_rfl
theorem Sf:prog.globalNamed "strconv.ErrSyntax"=some 4:=by kernel_rfl
theorem Sg:(prog.globals[4]?).map (·.type)=some 167:=by kernel_rfl
theorem Sh:prog.globalNamed "strconv.ErrRange"=some 5:=by kernel_rfl
theorem Si:(prog.globals[5]?).map (·.type)=some 167:=by kernel_rfl
theorem NS: "*"++ "errors.errorString"= "*errors.errorString":=by decide
theorem FQ(u:TypeId)(h:prog.typeName? 3 u=some "*errors.errorString"):u=429:=
 typeName_ptr_named (nm:= "errors.errorString") (by rw[NS];kernel_rfl) i6 qp u (by rw[NS];exact h)
theorem lh{P:Program}{W:World}{n:String}{g:Nat}{cs:Array Value}(hg:P.globalNamed n=some g)(h:W.var? P n=some cs):∃t fr,hp W g=some (.cells cs t fr):=by
 unfold World.var? at h;rw[hg] at h;simp only[z6] at h;split at h
 ·next c t fr a=>
  cases h
  exact⟨t,fr,a⟩
 ·cases h
theorem Sj:prog.globalNamed "internal/bytealg.MaxLen"=some 0:=by kernel_rfl
theorem OX{cs:Array Value}{v:Value}(hs:cs.size=1)(h:cs[0]? =some v):cs=#[v]:=by
 obtain⟨l⟩:=cs
 match l,hs with
 |[u],_=>
  simp at h;subst h;rfl
theorem FR{W:World}(h:W.ShapedOpen prog):∃m t fr,hp W 0=some (.cells #[.int .i64 m] t fr):=by
 obtain⟨m,i⟩:=cell_of_shapedOpen_int (zero:=#[.int .i64 0]) (t:=3) (g:=0) h (qr i6) i6 rfl i6 i6 underlying3;obtain⟨e,a,b,_⟩:=h.1 0 #[.int .i64 0] 3 (qr i6) i6;have j:W.var? prog "internal/bytealg.MaxLen"=some e:=by
  unfold World.var?;rw[Sj];simp only[z6];rw[a]
 have f:=World.var?_cell Sj j 0;rw[i] at f;have c:e.size=1:=b;have d:=OX c f.symm;subst d;exact⟨_,_,_,a⟩
theorem OY:(Rows.laid_internal_strconv_uint64pow10:DataW Unit)=Lib.tabData .u64 Lib.pow10Tab:=rfl
theorem gl_of_laid{W:World}(b:laidMetH prog FP W)(d:W.ShapedOpen prog):Gl (hp W):=by
 rw[MakeChecks.laidMetH_plain _ _ _ i6] at b;have a:=b.tail.tail;have c:=a.tail.tail;rw[OY] at a;have e:=Lib.tabIs_of_head Sd Se underlying348 underlying27 i6 i6 a;obtain⟨a3,s3,f,_⟩:=laid_sentinel c Sh Si underlying167 FQ underlying429 underlying431 rfl rfl underlying9 i6 i6;obtain⟨o,p,g,_⟩:=laid_sentinel c.tail Sf Sg underlying167 FQ underlying429 underlying431 rfl rfl underlying9 i6 i6;obtain⟨t1,h,i⟩:=lh Sd e;obtain⟨t2,j,k⟩:=lh Sf g;obtain⟨l,m,n⟩:=lh Sh f;exact⟨FR d,⟨t1,h,i⟩,⟨_,t2,j,k,.inr ⟨_,_,rfl⟩⟩,⟨_,l,m,n,.inr ⟨_,_,rfl⟩⟩⟩
noncomputable def laidWorld (os:Os):World:=World.laidAll prog os FP
set_option maxRecDepth 100000 in
theorem laid_met(a:Os)(args:Array Value):laidMetH prog FP ((laidWorld a).forCall (fun _ _=>0) ⟨#[],args,[]⟩).memory:=by
 rw[MakeChecks.laidMetH_plain _ _ _ i6];exact laidMet_laidAll _ i6 i6
set_option maxRecDepth 100000 in
theorem CS(a:Os)(args:Array Value):((laidWorld a).forCall (fun _ _=>0) ⟨#[],args,[]⟩).variablesZipB prog=true:=by kernel_rfl
set_option maxRecDepth 100000 in
theorem CT(a:Os)(args:Array Value):(((laidWorld a).forCall (fun _ _=>0) ⟨#[],args,[]⟩).heap.toList.drop prog.globals.size).take ((begin prog (fun _ _=>0) default).world.heap.size-prog.globals.size)=
   (begin prog (fun _ _=>0) default).world.heap.toList.drop prog.globals.size:=by kernel_rfl
theorem witness_gen{C:Checked}{H:Type}{enc:TypeId×Value->H}{k:Os}{f:FuncId}{fn:Func}{s:OpenSpec}{b:List PathCond}{c:Bool}{d:List (String×DataW Unit)}(modest:Bool)(w0:World)(args:Array Value)(h:w0.os=k)(j:(w0.forCall (fun _ _=>0) ⟨#[],args,[]⟩).Shaped C.prog)(e:Input.okWideB C.prog (w0.forCall (fun _ _=>0) ⟨#[],args,[]⟩) f ⟨#[],args,[]⟩=true)(g:s.preRow enc C.prog fn b c d (w0.forCall (fun _ _=>0) ⟨#[],args,[]⟩).memory args):
  ∃(w:World) (a:Tape) (i:Input),w.os=k/\(w.forCall a i).Shaped C.prog/\i.vars=[]/\Input.okWide C.prog (w.forCall a i) .any w.heap.size f i/\
   s.preRow enc C.prog fn b c d (w.forCall a i).memory i.args/\({modest:=modest}:Assume).holds C.prog (lone (Frame.enter C.prog f i.args .normal) [] (w.forCall a i)):=
 ⟨w0,fun _ _=>0,⟨#[],args,[]⟩,h,j,(Input.okWide_of_okWideB (base:=0) e).1,(Input.okWide_of_okWideB e).2,g,by
  simp only[Assume.holds];exact⟨by simp,by simp,fun _=>Modest.zero,by simp,by simp⟩⟩
theorem laid_shaped(a:Os)(args:Array Value):((laidWorld a).forCall (fun _ _=>0) ⟨#[],args,[]⟩).Shaped Tryz.checked.prog:=World.shaped_of_ZipB (CS a args) (CT a args)
theorem laid_os(a:Os):(laidWorld a).os=a:=World.laidAll_os _ _ _
open Go Go.Sl Go.Proofs.Tryz
def G8(b:UInt8):Bs->List Bs
 |[]=>[[]]
 |c::t=>if c=b then[]::G8 b t else match G8 b t with
  |[]=>[[c]]
  |w::ws=>(c::w)::ws
theorem CU(b:UInt8):∀s,G8 b s≠[]
 |[]=>by simp[G8]
 |c::t=>by
  rw[G8];split
  ·simp
  ·split<;>simp
theorem oz(b:UInt8)(u:Bs):∀w,G8 b (w++b::u)=G8 b w++G8 b u
 |[]=>by simp[G8]
 |c::t=>by
  rw[Q8,G8,G8,oz b u t];split
  ·rfl
  ·cases h:G8 b t with
   |nil=>exact absurd h (CU b t)
   |cons w ws=>rfl
theorem fI(b:UInt8):∀(w:Bs),(∀c∈w,c≠b)->G8 b w=[w]
 |[],_=>rfl
 |c::t,h=>by rw[G8,zk (h c x4),fI b t fun x hx=>h x (jw _ hx)]
def fJ(w:Bs):Option Nat:=if w=[42] then some 0 else match aX w with
 |none=>none
 |some n=>if 0<n/\n<=4294967295 then some n else none
def qV(p:Bs):Option (Nat×Nat):=
 let a:=p.takeWhile fun c=>c !=58
 let b:=if a.length<p.length then p.drop (a.length+1) else a
 match fJ a,fJ b with
 |some x,some y=>some (x,y)
 |_,_=>none
def au:List Bs->Option (List (Nat×Nat))
 |[]=>some []
 |p::t=>match qV p,au t with
  |some x,some l=>some (x::l)
  |_,_=>none
def vy(s:Bs):Option (List (Nat×Nat)):=if 64<(G8 44 s).length then none else au (G8 44 s)
structure IT where
 kind:Nat
 peek:Bool
 part:Bool
 fr:Nat
 count:Nat
 deriving DecidableEq
structure KY where
 kind:Nat
 kids:Nat
 field:Bs
 text:Bs
 n:Nat
 set:List (Nat×Nat)
 deriving DecidableEq
abbrev Ar:KY:=⟨0,0,[],[],0,[]⟩
structure CM where
 tag:Bs
 kind:Nat
 uid:Bool
 cond:Bool
 box:Bs
 user:Bs
 pass:Bs
 a5U:Bs
 set:List (Nat×Nat)
 a5Q:List IT
 keys:List KY
 how:Nat
 a5W:Bool
 a5R:Bool
 a5S:Nat
 a5Y:List Bs
 data:Bs
 deriving DecidableEq
abbrev iw:CM:=⟨[],0,false,false,[],[],[],[],[],[],[],0,false,false,0,[],[]⟩
def I1(s w:Bs)(p:Nat):Bool:=decide (R9 ((s.drop p).take w.length)=w)
def H_(s w:Bs)(p:Nat):Option Nat:=if I1 s w p=true then some (p+w.length) else none
def N8(may:UInt8->Bool)(s:Bs)(p:Nat):Bs:=(s.drop p).takeWhile may
def mG(s:Bs)(most p:Nat):Option (Nat×Nat):=(aX (N8 P1 s p)).bind fun n=>if n<=most then some (n,p+(N8 P1 s p).length) else none
def mH(s:Bs)(p:Nat):Option (Bs×Nat):=(H_ s [123] p).bind fun p1=>(mG s 4096 p1).bind fun q=>(H_ s [125,13,10] q.2).bind fun p3=>
 if p3+q.1<=s.length then some ((s.drop p3).take q.1,p3+q.1) else none
def vz(s:Bs)(p:Nat):Option (Bs×Nat):=if N8 P3 s p=[] then none else some (N8 P3 s p,p+(N8 P3 s p).length)
def li(s:Bs)(p:Nat):Option (Bs×Nat):=
 if I1 s [123] p=true then mH s p
 else if I1 s [34] p=true then(vn (s.drop p)).map fun q=>(q.1,p+q.2)
 else(vz s p).bind fun q=>if q.1.length<=4096 then some q else none
def NT(s:Bs)(p:Nat):Option (Bs×Nat):=(li s p).bind fun q=>(ji q.1).map fun b=>(b,q.2)
def oA(c:UInt8):Bool:=P1 c||decide (c=44)||decide (c=58)||decide (c=42)
def qW(s:Bs)(p:Nat):Option (List (Nat×Nat)×Nat):=(vy (N8 oA s p)).map fun l=>(l,p+(N8 oA s p).length)
def oB(s:Bs)(p:Nat):Option (List Bs×Nat):=if(T6 (s.drop p)).2.2=0 then some ((T6 (s.drop p)).1,p+(T6 (s.drop p)).2.1) else none
def dR{α:Type}(one:Nat->Option (α×Nat))(s:Bs):Nat->Nat->Option (List α×Nat)
 |0,_=>none
 |k+1,p=>(one p).bind fun q=>if I1 s [32] q.2=true then(dR one s k (q.2+1)).map fun r=>(q.1::r.1,r.2) else some ([q.1],q.2)
abbrev jt:List (Bs×Nat×Bool):=[([77,69,83,83,65,71,69,83],1,false),([85,73,68,78,69,88,84],2,false),([85,73,68,86,65,76,73,68,73,84,89],3,false),([85,78,83,69,69,78],4,false),([72,73,71,72,69,83,84,77,79,68,83,69,81],5,false)]
abbrev cE:List (Bs×Nat×Bool):=[([70,76,65,71,83],6,false),([85,73,68],7,false),([82,70,67,56,50,50,46,83,73,90,69],8,false),([77,79,68,83,69,81],9,false),([66,79,68,89,91,93],10,false),([66,79,68,89,91,72,69,65,68,69,82,93],11,false),([66,79,68,89,91,84,69,88,84,93],12,false),([66,79,68,89,46,80,69,69,75,91,93],10,true),([66,79,68,89,46,80,69,69,75,91,72,69,65,68,69,82,93],11,true),([66,79,68,89,46,80,69,69,75,91,84,69,88,84,93],12,true)]
def yb(s:Bs)(x:Bs×Nat×Bool)(p:Nat):Option (IT×Nat):=(mG s 4294967295 p).bind fun a=>(H_ s [46] a.2).bind fun p1=>(mG s 4294967295 p1).bind fun c=>
 if 0<c.1 then(H_ s [62] c.2).map fun e=>(⟨x.2.1,x.2.2,true,a.1,c.1⟩,e) else none
def cR(l:List (Bs×Nat×Bool))(s:Bs)(p:Nat):Option (IT×Nat):=(l.find? fun x=>I1 s x.1 p).bind fun x=>
 if 10<=x.2.1/\I1 s [60] (p+x.1.length)=true then yb s x (p+x.1.length+1) else some (⟨x.2.1,x.2.2,false,0,0⟩,p+x.1.length)
def oC(l:List (Bs×Nat×Bool))(s:Bs)(p:Nat):Option (List IT×Nat):=(dR (cR l s) s (s.length+1) p).bind fun q=>
 if q.1.length<=8 then(H_ s [41] q.2).map fun e=>(q.1,e) else none
abbrev Sk:List Bs:=[[65,78,83,87,69,82,69,68],[70,76,65,71,71,69,68],[68,69,76,69,84,69,68],[83,69,69,78],[68,82,65,70,84]]
abbrev a1r:Bs:=[78,79,84]
abbrev wOR:Bs:=[79,82]
abbrev a1s:Bs:=[65,76,76]
abbrev a1t:Bs:=[85,73,68]
abbrev vA:Bs:=[75,69,89,87,79,82,68]
abbrev yd:Bs:=[85,78,75,69,89,87,79,82,68]
abbrev KW:Bs:=[76,65,82,71,69,82]
abbrev FS:Bs:=[83,77,65,76,76,69,82]
abbrev KX:Bs:=[77,79,68,83,69,81]
abbrev Sn:Bs:=[84,69,88,84]
abbrev So:Bs:=[66,79,68,89]
abbrev FT:Bs:=[83,85,66,74,69,67,84]
abbrev Sq:Bs:=[70,82,79,77]
abbrev wTO:Bs:=[84,79]
abbrev KZ:Bs:=[72,69,65,68,69,82]
def dS(c:UInt8):Bool:=decide (65<=c.toNat)&&decide (c.toNat<=90)||decide (97<=c.toNat)&&decide (c.toNat<=122)
def OZ(c:UInt8):Bool:=decide (33<=c.toNat)&&decide (c.toNat<=126)&&!decide (c=58)
def Pa(s:Bs):Bool:=s.all OZ&&!s.isEmpty&&decide (s.length<=32)
def tA(k:Nat)(f:Bs)(s:Bs)(p:Nat):Option (KY×Nat):=(li s p).map fun q=>({Ar with kind:=k,field:=f,text:=q.1},q.2)
def FU(k:Nat)(s:Bs)(p:Nat):Option (KY×Nat):=(mG s D9 p).map fun q=>({Ar with kind:=k,n:=q.1},q.2)
def NU(k:Nat)(s:Bs)(p:Nat):Option (KY×Nat):=(qW s p).map fun q=>({Ar with kind:=k,set:=q.1},q.2)
def Sr(s w:Bs)(p:Nat):Option (KY×Nat):=
 if w=vA\/w=yd then(vz s p).bind fun q=>(E3 q.1).map fun f=>({Ar with kind:=7,field:=f,n:=if w=vA then 1 else 0},q.2)
 else if w=KW then FU 8 s p
 else if w=FS then FU 9 s p
 else if w=KX then FU 10 s p
 else if w=Sn then tA 11 [] s p
 else if w=So then tA 12 [] s p
 else if w=FT\/w=Sq\/w=wTO then tA 13 (U_ w) s p
 else if w=KZ then(li s p).bind fun q=>if Pa q.1=true then(H_ s [32] q.2).bind fun e=>tA 13 (U_ q.1) s e else none
 else none
def NV(w:Bs)(n:Nat):KY:={Ar with kind:=7,field:=(E3 (92::w)).getD [],n:=n}
def Ss(s w:Bs)(p:Nat):Option (KY×Nat):=
 if w∈Sk then some (NV w 1,p)
 else if w.take 2=[85,78]/\w.drop 2∈Sk then some (NV (w.drop 2) 0,p)
 else(H_ s [32] p).bind fun e=>Sr s w e
def St(n:Nat):KY:={Ar with kind:=1,kids:=n}
def FV(s:Bs)(sub:Nat->Option (List KY×Nat))(p:Nat):Option (List KY×Nat):=(dR sub s (s.length+1) p).map fun q=>(St q.1.length::q.1.flatten,q.2)
def a1u(s:Bs)(sub:Nat->Option (List KY×Nat))(w:Bs)(p:Nat):Option (List KY×Nat):=
 if w=a1r then(H_ s [32] p).bind fun e=>(sub e).map fun q=>({Ar with kind:=2}::q.1,q.2)
 else if w=wOR then(H_ s [32] p).bind fun e=>(sub e).bind fun q=>(H_ s [32] q.2).bind fun e2=>(sub e2).map fun r=>({Ar with kind:=3}::(q.1++r.1),r.2)
 else if w=a1s then some ([{Ar with kind:=4}],p)
 else if w=a1t then(H_ s [32] p).bind fun e=>(NU 6 s e).map fun q=>([q.1],q.2)
 else(Ss s w p).map fun q=>([q.1],q.2)
def Su(s:Bs)(sub grp:Nat->Option (List KY×Nat))(p:Nat):Option (List KY×Nat):=
 if I1 s [40] p=true then(grp (p+1)).bind fun q=>(H_ s [41] q.2).map fun e=>(q.1,e)
 else if((s.drop p).head?.any fun c=>P1 c||decide (c=42))=true then(NU 5 s p).map fun q=>([q.1],q.2)
 else a1u s sub (R9 (N8 dS s p)) (p+(N8 dS s p).length)
def Pb(s:Bs):Nat->Nat->Option (List KY×Nat)
 |0,p=>Su s (fun _=>none) (fun _=>none) p
 |k+1,p=>Su s (Pb s k) (FV s (Pb s k)) p
def La(s:Bs)(p:Nat):Option (List KY×Nat):=(FV s (Pb s 7) p).bind fun q=>if q.1.length<=32 then some q else none
abbrev vB:List Bs:=[[67,65,80,65,66,73,76,73,84,89],[78,79,79,80],[76,79,71,79,85,84],[67,76,79,83,69],[69,88,80,85,78,71,69],[69,78,65,66,76,69],[76,79,71,73,78],[83,69,76,69,67,84],[69,88,65,77,73,78,69],[67,82,69,65,84,69],[68,69,76,69,84,69],[76,73,83,84],[83,84,65,84,85,83],[65,80,80,69,78,68],[83,69,65,82,67,72],[70,69,84,67,72],[83,84,79,82,69],[67,79,80,89]]
def H7(w:Bs):Nat:=if w∈vB then vB.idxOf w+1 else 0
abbrev Au:Bs:=[32,67,79,78,68,83,84,79,82,69]
abbrev cg:Bs:=[32,40,67,79,78,68,83,84,79,82,69,41]
abbrev NX:Bs:=[32,34,34,32]
abbrev vC:Bs:=[40,85,78,67,72,65,78,71,69,68,83,73,78,67,69,32]
abbrev rK:Bs:=[32,40,67,72,65,78,71,69,68,83,73,78,67,69,32]
abbrev ye:Bs:=[70,76,65,71,83]
abbrev cS:Bs:=[46,83,73,76,69,78,84]
abbrev Sv:Bs:=[85,73,68,32]
def ix(c:UInt8):Bool:=decide (c=37)||decide (c=42)||P3 c
def yf(s:Bs)(p:Nat):Option (Bs×Nat):=(H_ s [32] p).bind fun e=>li s e
def iy(s:Bs)(p:Nat):Option (Bs×Nat):=(H_ s [32] p).bind fun e=>NT s e
def dw(s:Bs)(p:Nat):Option (Nat×Nat):=(mG s D9 p).bind fun q=>(H_ s [41] q.2).map fun e=>(q.1,e)
def dx(c:CM)(s:Bs)(p:Nat):Option (CM×Nat):=(yf s p).bind fun q=>(yf s q.2).map fun r=>({c with user:=q.1,pass:=r.1},r.2)
def I_(c:CM)(s:Bs)(p:Nat):Option (CM×Nat):=(iy s p).map fun q=>({c with box:=q.1},q.2)
def lj(c:CM)(s:Bs)(p:Nat):Option (CM×Nat):=(I_ c s p).map fun q=>if I1 s cg q.2=true then({q.1 with cond:=true},q.2+12) else q
def jA(c:CM)(s:Bs)(p:Nat):Option (CM×Nat):=(H_ s NX p).bind fun e=>
 if N8 ix s e=[] then(li s e).map fun q=>({c with a5U:=q.1},q.2) else some ({c with a5U:=N8 ix s e},e+(N8 ix s e).length)
def jB(c:CM)(s:Bs)(p:Nat):Option (CM×Nat):=(I_ c s p).bind fun q=>(H_ s [32,40] q.2).bind fun e=>(oC jt s e).map fun r=>({q.1 with a5Q:=r.1},r.2)
def jC(c:CM)(s:Bs)(p:Nat):Option (CM×Nat):=(I_ c s p).bind fun q=>(H_ s [32] q.2).bind fun e=>
 if I1 s [40] e=true then(oB s e).bind fun f=>(H_ s [32] f.2).bind fun e2=>(mH s e2).map fun r=>({q.1 with a5Y:=f.1,data:=r.1},r.2)
 else(mH s e).map fun r=>({q.1 with data:=r.1},r.2)
def Sw(c:CM)(s:Bs)(p:Nat):Option (CM×Nat):=(H_ s [32] p).bind fun e=>(La s e).map fun q=>({c with keys:=q.1},q.2)
def vD(c:CM)(s:Bs)(p:Nat):Option (CM×Nat):=if I1 s rK p=true then(dw s (p+15)).map fun q=>({c with a5S:=q.1,a5R:=true},q.2) else some (c,p)
def oD(c:CM)(s:Bs)(p:Nat):Option (CM×Nat):=
 (if I1 s [40] p=true then oC cE s (p+1) else(cR cE s p).map fun q=>([q.1],q.2)).bind fun q=>vD {c with a5Q:=q.1} s q.2
def Pc(c:CM)(s:Bs)(p:Nat):Option (CM×Nat):=if I1 s vC p=true then(dw s (p+16)).bind fun q=>(H_ s [32] q.2).map fun e=>({c with a5S:=q.1,a5R:=true},e) else some (c,p)
def vE(s:Bs)(p:Nat):Nat×Nat:=if I1 s [43] p=true then(1,p+1) else if I1 s [45] p=true then(2,p+1) else(0,p)
def CV(s:Bs)(p:Nat):Bool×Nat:=if I1 s cS p=true then(true,p+7) else(false,p)
def oE(c:CM)(s:Bs)(p:Nat):Option (CM×Nat):=(Pc c s p).bind fun q=>(H_ s ye (vE s q.2).2).bind fun e=>(H_ s [32] (CV s e).2).bind fun e2=>
 (oB s e2).map fun f=>({q.1 with how:=(vE s q.2).1,a5W:=(CV s e).1,a5Y:=f.1},f.2)
def cT(c:CM)(s:Bs)(p:Nat)(k:CM->Nat->Option (CM×Nat)):Option (CM×Nat):=(H_ s [32] p).bind fun e=>(qW s e).bind fun q=>k {c with set:=q.1} q.2
def aI(s:Bs)(k:CM->Nat->Option (CM×Nat))(c:CM)(p:Nat):Option (CM×Nat):=(H_ s [32] p).bind fun e=>k c e
def T7(c:CM)(s:Bs)(p:Nat):Option (CM×Nat):=
 if c.kind<=5 then some (c,p)
 else if c.kind=6 then(H_ s Au p).map fun e=>(c,e)
 else if c.kind=7 then dx c s p
 else if c.kind<=9 then lj c s p
 else if c.kind<=11 then I_ c s p
 else if c.kind=12 then jA c s p
 else if c.kind=13 then jB c s p
 else if c.kind=14 then jC c s p
 else if c.kind=15 then Sw c s p
 else if c.kind=16 then cT c s p (aI s fun c e=>oD c s e)
 else if c.kind=17 then cT c s p (aI s fun c e=>oE c s e)
 else cT c s p fun c e=>I_ c s e
def yg(c:UInt8):Bool:=P3 c&&!decide (c=43)
def cF(s:Bs):Bs:=N8 yg s 0
def dT(s:Bs):Bool:=!(cF s).isEmpty&&decide ((cF s).length<=32)&&I1 s [32] (cF s).length
def qX(s:Bs):Bool:=I1 s Sv ((cF s).length+1)
def tB(s:Bs):Nat:=(cF s).length+1+(if qX s=true then 4 else 0)
def P8(s:Bs):Bs:=N8 (fun c=>!decide (c=32)) s (tB s)
def first(s:Bs):CM:={iw with tag:=cF s}
theorem iz{s w:Bs}{p:Nat}(h:I1 s w p=true)(b:w≠[]):p+w.length<=s.length:=by
 unfold I1 at h;simp only[jg] at h;have a:=jy List.length h;unfold R9 at a;simp only[zh,z1,z8] at a;have:=Z8.mpr b;omega
theorem Pd(a:UInt8->Bool)(s:Bs)(p:Nat)(hp:p<=s.length):p+(N8 a s p).length<=s.length:=by
 have b:=(J2 a (l:=s.drop p)).length_le;unfold N8;rw[z8] at b;omega
theorem D0{s w:Bs}{p e:Nat}(h:H_ s w p=some e)(a:w≠[]):I1 s w p=true/\e=p+w.length/\e<=s.length:=by
 unfold H_ at h;split at h
 ·next k=>
  have b:=js h;have:=iz k a;exact⟨k,b.symm,by omega⟩
 ·cases h
structure LT where
 uid:Nat
 a5Y:List Bs
 mod:Nat
 hash:Bs
 size:Nat
 deriving DecidableEq
structure BX where
 name:Bs
 val:Nat
 next:Nat
 high:Nat
 lts:List LT
 deriving DecidableEq
abbrev Pe:BX:=⟨[],0,0,0,[]⟩
structure SX where
 ses:Nat
 last:Nat
 node:Int
 life:Nat
 tr:Nat
 deriving DecidableEq
structure HO where
 node:Int
 life:Nat
 tr:Nat
 deriving DecidableEq
abbrev NY:HO:=⟨0,0,0⟩
structure ML where
 a5J:List BX
 nval:Nat
 a5K:List HO
 a5L:List SX
 nses:Nat
 a5V:Nat
 deriving DecidableEq
structure RQ where
 op:Int
 ses:Nat
 num:Nat
 node:Int
 life:Nat
 tr:Nat
 box:Bs
 tz:Bs
 val:Nat
 a5P:List (Nat×Nat)
 a5Y:List Bs
 how:Int
 hasS:Bool
 a5S:Nat
 hash:Bs
 size:Nat
 a5V:Nat
 deriving DecidableEq
abbrev cU:RQ:=⟨0,0,0,0,0,0,[],[],0,[],[],0,false,0,[],0,0⟩
structure OC where
 code:Int
 ses:Nat
 val:Nat
 a5P:List Nat
 mods:List Nat
 deriving DecidableEq
abbrev B_:OC:=⟨0,0,0,[],[]⟩
abbrev eO:Nat:=4294967295
abbrev CW:Nat:=4611686018427387904
def P9(most k:Nat):Nat:=if k=0 then most else k
def gQ(l:List (Nat×Nat))(most n:Nat):Bool:=l.any fun r=>decide (min (P9 most r.1) (P9 most r.2)<=n/\n<=max (P9 most r.1) (P9 most r.2))
def F9(l:List Bs)(how:Int)(b:List Bs):List Bs×Int:=
 if G1 l=false\/G1 b=false\/how<0\/3<=how then([],1)
 else
  let o:=if how=0 then T5 b else if how=1 then T5 (l++b) else(T5 l).filter fun f=>!decide (f∈b)
  if 16<o.length then([],7) else(o,0)
def xH(s:ML)(name:Bs):Option Nat:=s.a5J.findIdx? fun b=>decide (b.name=name)
def rL(s:ML)(n:Nat):Option Nat:=s.a5L.findIdx? fun x=>decide (x.ses=n)
def gV(s:ML)(n:Int):Option Nat:=s.a5K.findIdx? fun h=>decide (h.node=n)
def gu(s:ML)(n:Int)(t:Nat):Option Nat:=s.a5L.findIdx? fun x=>decide (x.node=n/\x.tr=t)
def aj(s:ML)(i:Nat):BX:=s.a5J.getD i Pe
def ak(s:ML)(name:Bs):Option BX:=(xH s name).map (aj s)
def named(s:ML)(r:RQ):Option Nat:=(xH s r.box).bind fun i=>if(aj s i).val=r.val then some i else none
def vF(b:BX):Nat:=(b.lts.getLast?.map LT.uid).getD 0
def X6(r:RQ)(b:BX)(x:LT):Bool:=gQ r.a5P (vF b) x.uid
abbrev AR:=ML×OC×Int
def dy(h:HO):List HO->List HO
 |[]=>[h]
 |x::t=>if h.node<x.node then h::x::t else x::dy h t
def ng(s:ML)(at_:Option Nat)(h:HO):ML:=match at_ with
 |some i=>{s with a5K:=s.a5K.set i h}
 |none=>{s with a5K:=dy h s.a5K}
def lX(s:ML)(r:RQ):AR:=
 if r.node<1\/5<r.node\/r.life=0\/r.tr=0 then(s,B_,1)
 else
  let k:=gV s r.node
  let h:=(k.map fun i=>s.a5K.getD i NY).getD NY
  if r.life<h.life then(s,B_,14)
  else if h.life=r.life/\r.tr<=h.tr then match gu s r.node r.tr with
   |none=>(s,B_,14)
   |some i=>(s,{B_ with ses:=(s.a5L.getD i ⟨0,0,0,0,0⟩).ses},0)
  else
   let a5L:=if h.life<r.life then s.a5L.filter fun x=>!decide (x.node=r.node) else s.a5L
   if 16<=a5L.length\/CW<=s.nses then(s,B_,7)
   else(ng {s with a5L:=a5L++[⟨s.nses,0,r.node,r.life,r.tr⟩],nses:=s.nses+1} k ⟨r.node,r.life,r.tr⟩,{B_ with ses:=s.nses},0)
def lk(s:ML):AR:=if s.a5V=D9 then(s,B_,13) else({s with a5V:=s.a5V+1},B_,0)
def Pf(s:ML)(r:RQ):AR:=({s with a5L:=s.a5L.filter fun x=>!decide (x.ses=r.ses)},B_,0)
def jD(b:BX):List BX->List BX
 |[]=>[b]
 |x::t=>if gU b.name x.name=true then b::x::t else x::jD b t
def cV(s:ML)(r:RQ):AR:=
 if ji r.box≠some r.box then(s,B_,1)
 else if(xH s r.box).isSome=true then(s,B_,12)
 else if 8<=s.a5J.length then(s,B_,7)
 else if eO<s.nval then(s,B_,13)
 else({s with a5J:=jD ⟨r.box,s.nval,1,1,[]⟩ s.a5J,nval:=s.nval+1},{B_ with val:=s.nval},0)
def bJ(s:ML)(r:RQ):AR:=
 if r.box=cP then(s,B_,1) else match xH s r.box with
 |none=>(s,B_,6)
 |some i=>({s with a5J:=s.a5J.eraseIdx i},B_,0)
def jE(s:ML)(i:Nat)(b:BX):ML:={s with a5J:=s.a5J.set i b}
def cW(s:ML)(r:RQ):AR:=match xH s r.box with
 |none=>(s,B_,6)
 |some i=>
  let b:=aj s i
  if G1 r.a5Y=false\/r.hash.length≠32\/4096<r.size then(s,B_,1)
  else if r.a5V≠s.a5V then(s,B_,15)
  else if 32<=b.lts.length then(s,B_,7)
  else if eO<b.next\/D9<=b.high then(s,B_,13)
  else(jE s i {b with high:=b.high+1,next:=b.next+1,lts:=b.lts++[⟨b.next,r.a5Y,b.high+1,r.hash,r.size⟩]},{B_ with val:=b.val,a5P:=[b.next]},0)
def I2(r:RQ)(b:BX):List LT->Option (List LT×List Nat×List Nat×Bool)
 |[]=>some ([],[],[],false)
 |x::t=>
  if X6 r b x=false then(I2 r b t).map fun q=>(x::q.1,q.2.1,q.2.2.1,q.2.2.2)
  else if r.hasS=true/\r.a5S<x.mod then(I2 r b t).map fun q=>(x::q.1,q.2.1,x.uid::q.2.2.1,q.2.2.2)
  else if(F9 x.a5Y r.how r.a5Y).2≠0 then none
  else(I2 r b t).map fun q=>if(F9 x.a5Y r.how r.a5Y).1=x.a5Y then(x::q.1,x.uid::q.2.1,q.2.2.1,q.2.2.2)
   else({x with a5Y:=(F9 x.a5Y r.how r.a5Y).1,mod:=b.high+1}::q.1,x.uid::q.2.1,q.2.2.1,true)
def dz(s:ML)(r:RQ):AR:=match named s r with
 |none=>(s,B_,6)
 |some i=>
  let b:=aj s i
  if G1 r.a5Y=false\/r.how<0\/2<r.how then(s,B_,1)
  else match I2 r b b.lts with
   |none=>(s,B_,7)
   |some q=>
    if q.2.2.2=false then(s,{B_ with a5P:=q.2.1,mods:=q.2.2.1},0)
    else if D9<=b.high then(s,B_,13)
    else(jE s i {b with lts:=q.1,high:=b.high+1},{B_ with a5P:=q.2.1,mods:=q.2.2.1},0)
abbrev jF:Bs:=[92,68,101,108,101,116,101,100]
def jG(r:RQ)(b:BX)(x:LT):Bool:=decide (jF∈x.a5Y)&&(r.a5P.isEmpty||X6 r b x)
def bd(s:ML)(r:RQ):AR:=match named s r with
 |none=>(s,B_,6)
 |some i=>
  let b:=aj s i
  let u:=(b.lts.filter (jG r b)).map LT.uid
  if u=[] then(s,B_,0)
  else if D9<=b.high then(s,B_,13)
  else(jE s i {b with lts:=b.lts.filter fun x=>!jG r b x,high:=b.high+1},{B_ with a5P:=u},0)
def fm(n m:Nat):List LT->List LT
 |[]=>[]
 |x::t=>{x with uid:=n,mod:=m}::fm (n+1) m t
def gW(s:ML)(r:RQ):AR:=match named s r with
 |none=>(s,B_,6)
 |some j=>
  let b:=aj s j
  match xH s r.tz with
  |none=>(s,B_,21)
  |some i=>
   let l:=b.lts.filter (X6 r b)
   let t:=aj s i
   if l=[] then(s,{B_ with val:=t.val},0)
   else if 32<t.lts.length+l.length then(s,{B_ with val:=t.val},7)
   else if eO+1<t.next+l.length\/D9<=t.high then(s,{B_ with val:=t.val},13)
   else(jE s i {t with high:=t.high+1,next:=t.next+l.length,lts:=t.lts++fm t.next (t.high+1) l},{B_ with val:=t.val,a5P:=(fm t.next (t.high+1) l).map LT.uid},0)
def JU(s:ML)(r:RQ):AR:=
 if r.op=1 then lX s r else if r.op=2 then Pf s r else if r.op=3 then(s,B_,0) else if r.op=4 then cV s r else if r.op=5 then bJ s r
 else if r.op=6 then cW s r else if r.op=7 then dz s r else if r.op=8 then bd s r else if r.op=9 then gW s r else lk s
def vG(q:AR):ML×OC:=(q.1,if q.2.2=0 then q.2.1 else{B_ with code:=q.2.2})
def E4(s:ML)(r:RQ):ML×OC:=
 if r.op<1\/11<=r.op\/64<r.a5P.length then(s,{B_ with code:=1})
 else if r.op=1\/r.op=10 then vG (JU s r)
 else match rL s r.ses with
  |none=>(s,{B_ with code:=16})
  |some i=>
   let x:=s.a5L.getD i ⟨0,0,0,0,0⟩
   if r.num<=x.last then(s,{B_ with code:=14})
   else vG (JU {s with a5L:=s.a5L.set i {x with last:=r.num}} r)
def FW:ML:=⟨[⟨cP,1,1,1,[]⟩],2,[],[],1,0⟩
def Sx(n:Nat):List Nat->List Nat
 |[]=>[n]
 |x::t=>if n<x then n::x::t else if n=x then x::t else x::Sx n t
def Sy(l:List Nat):List Nat:=l.foldr Sx []
def Sz(out:List (Nat×Nat))(n:Nat):List (Nat×Nat):=match out.getLast? with
 |some r=>if r.2=n-1 then out.dropLast++[(r.1,n)] else out++[(n,n)]
 |none=>[(n,n)]
def SA(l:List Nat):List (Nat×Nat):=(Sy (l.filter fun n=>decide (0<n))).foldl Sz []
def fK(n:Nat):Bs:=if n=0 then[42] else R5 n
def aD(r:Nat×Nat):Bs:=if r.2=r.1 then fK r.1 else fK r.1++58::fK r.2
structure VW where
 box:Bs
 val:Nat
 a5M:List (Nat×Nat)
 deriving DecidableEq
abbrev Av:VW:=⟨[],0,[]⟩
def P4(b:BX):VW:=⟨b.name,b.val,b.lts.map fun x=>(x.uid,x.mod)⟩
def tC(v:VW)(u:Nat):Option Nat:=v.a5M.findIdx? fun r=>decide (r.1=u)
def cG(v:VW)(u:Nat):Nat:=(tC v u).elim 0 (· +1)
def ci(v:VW)(u m:Nat):VW:=match tC v u with
 |none=>v
 |some i=>{v with a5M:=v.a5M.set i ((v.a5M.getD i (0,0)).1,m)}
def L9(l:List (Nat×Nat)):Nat:=l.foldl (fun m r=>max m r.1) 0
def X7(v:VW)(l:List (Nat×Nat))(byUid:Bool):Option (List Nat):=
 let n:=v.a5M.length
 if byUid=false/\(l.any fun x=>decide (min (P9 n x.1) (P9 n x.2)<1\/n<max (P9 n x.1) (P9 n x.2)))=true then none
 else some ((v.a5M.zipIdx.filter fun x=>if byUid then gQ l (L9 v.a5M) x.1.1 else gQ l n (x.2+1)).map fun x=>x.1.1)
def a1v(v:VW)(a5P:List Nat)(byUid:Bool):List (Nat×Nat):=
 SA (a5P.filterMap fun u=>(tC v u).map fun i=>if byUid then u else i+1)
def bK(b:BX)(u:Nat):Option LT:=b.lts.find? fun x=>decide (x.uid=u)
def V7(b:BX):Nat->List (Nat×Nat)->List (Nat×Nat)×List RR
 |0,a5M=>(a5M,[])
 |k+1,a5M=>match bK b (a5M.getD k (0,0)).1 with
  |some _=>V7 b k a5M
  |none=>((V7 b k (a5M.eraseIdx k)).1,{R0 with kind:=9,n:=k+1}::(V7 b k (a5M.eraseIdx k)).2)
def tD(x:LT)(n:Nat)(cond:Bool):RR:=
 {R0 with kind:=14,n:=n,values:={V0 with kind:=6,a5Y:=x.a5Y}::if cond then[{V0 with kind:=9,n:=x.mod}] else[]}
def X8(b:BX)(r:Nat×Nat):(Nat×Nat)×Option LT:=match bK b r.1 with
 |none=>(r,none)
 |some x=>if x.mod=r.2 then(r,none) else((r.1,x.mod),some x)
def U9(v:VW)(b:BX)(expunge cond:Bool):VW×List RR:=
 if b.name≠v.box\/b.val≠v.val then(v,[])
 else
  let q:=if expunge then V7 b v.a5M.length v.a5M else(v.a5M,[])
  let new:=(b.lts.filter fun x=>decide (L9 q.1<x.uid)).map fun x=>(x.uid,x.mod)
  let had:=q.1.map (X8 b)
  ({v with a5M:=had.map (·.1)++new},
   q.2++(if new=[] then[] else[{R0 with kind:=8,n:=q.1.length+new.length}])++had.zipIdx.filterMap fun h=>h.1.2.map fun x=>tD x (h.2+1) cond)
structure PL where
 seq:Nat
 mseq:Nat
 muid:Nat
structure SE where
 a5O:Nat
 ses:Nat
 num:Nat
 a5N:VW
 ro:Bool
 cond:Bool
 a5T:Bool
 cmd:CM
 a5P:List Nat
abbrev oG:SE:=⟨0,0,0,Av,false,false,false,iw,[]⟩
structure DD where
 a5X:List RR
 ask:Bool
 req:RQ
 store:Bool
 body:Bs
 want:List Bs
 close:Bool
abbrev F_:DD:=⟨[],false,cU,false,[],[],false⟩
abbrev SD:=SE×DD
abbrev dU(tag:Bs):RR:={R0 with kind:=1,tag:=tag,text:=[100,111,110,101]}
abbrev nh(tag code text:Bs):RR:={R0 with kind:=2,tag:=tag,code:=code,text:=text}
abbrev fo(tag text:Bs):RR:={R0 with kind:=3,tag:=tag,text:=text}
abbrev I3(text:Bs):RR:={R0 with kind:=4,tag:=[42],text:=text}
def V1(q:SD)(r:RR):SD:=(q.1,{q.2 with a5X:=q.2.a5X++[r]})
def FY(q:SD)(text:Bs):SD:=({q.1 with a5O:=3},{q.2 with a5X:=q.2.a5X++[I3 text],close:=true})
def oH(q:SD)(tag:Bs):SD:=V1 (FY q [108,111,103,103,105,110,103,32,111,117,116]) (dU tag)
def G3(q:SD)(c:CM)(r:RQ)(a5P:List Nat):SD:=
 if r.op=1 then({q.1 with a5T:=true,cmd:=c,a5P:=a5P},{q.2 with ask:=true,req:=r})
 else({q.1 with a5T:=true,cmd:=c,a5P:=a5P,num:=q.1.num+1},{q.2 with ask:=true,req:={r with ses:=q.1.ses,num:=q.1.num+1}})
def al(q:SD)(op:Int):RQ:={cU with op:=op,box:=q.1.a5N.box,val:=q.1.a5N.val}
abbrev be:RQ:={cU with op:=3}
def lY(q:SD)(c:CM):SD:=G3 q c be []
def tE(q:SD)(c:CM)(r:RQ)(a5P:List Nat):SD:=
 let l:=a1v q.1.a5N a5P true
 if l.length<1\/64<l.length then G3 q c be a5P else G3 q c {r with a5P:=l} a5P
def NZ(digest:Bs->Bs)(q:SD)(c:CM):SD:=
 if c.kind=1 then V1 (V1 q {R0 with kind:=6}) (dU c.tag)
 else if c.kind=2 then(if q.1.a5O=0 then V1 q (dU c.tag) else lY q c)
 else if c.kind=3 then(if q.1.a5O=0 then oH q c.tag else G3 q c {cU with op:=2} [])
 else if c.kind=4 then(if q.1.ro then lY q c else G3 q c (al q 8) [])
 else if c.kind=5 then(if q.1.ro then V1 q (nh c.tag [82,69,65,68,45,79,78,76,89] [105,116,32,109,97,121,32,110,111,116,32,98,101]) else G3 q c (al q 8) [])
 else if c.kind=6 then V1 (V1 ({q.1 with cond:=true},q.2) {R0 with kind:=7}) (dU c.tag)
 else if c.kind=7 then(if c.pass=[104,111,114,110] then G3 q c {cU with op:=1} [] else V1 q (nh c.tag [65,85,84,72,69,78,84,73,67,65,84,73,79,78,70,65,73,76,69,68] [119,114,111,110,103,32,112,97,115,115,119,111,114,100]))
 else if c.kind<=9 then lY ({q.1 with cond:=q.1.cond||c.cond},q.2) c
 else if c.kind=10 then G3 q c {cU with op:=4,box:=c.box} []
 else if c.kind=11 then G3 q c {cU with op:=5,box:=c.box} []
 else if c.kind<=13\/c.kind=15 then lY q c
 else if c.kind=14 then G3 (q.1,{q.2 with store:=true,body:=c.data}) c {cU with op:=6,box:=c.box,a5Y:=c.a5Y,hash:=digest c.data,size:=c.data.length} []
 else match (if c.kind=17/\q.1.ro=true then none else some (X7 q.1.a5N c.set c.uid)) with
  |none=>V1 q (nh c.tag [82,69,65,68,45,79,78,76,89] [105,116,32,109,97,121,32,110,111,116,32,98,101])
  |some none=>V1 q (fo c.tag [110,111,32,115,117,99,104,32,109,101,115,115,97,103,101])
  |some (some l)=>
   if c.kind=16 then
    if q.1.ro=true\/c.a5R=true\/(c.a5Q.any fun x=>decide (10<=x.kind)&&!x.peek)=false then G3 q c be l
    else tE q c {al q 7 with a5Y:=[[92,83,101,101,110]],how:=1} l
   else if c.kind=17 then tE q c {al q 7 with a5Y:=c.a5Y,how:=c.how,hasS:=c.a5R,a5S:=c.a5S} l
   else tE q c {al q 9 with tz:=c.box} l
def O1(k:Nat):Nat×Nat:=if k=1\/k=2\/k=3 then(0,2) else if k=4\/k=5\/15<=k then(2,2) else if k=7 then(0,0) else(1,2)
def tF(c:CM):Bs:=if c.tag=[] then[42] else c.tag
def V8(s:SE):SE:={s with a5T:=false,cmd:=iw,a5P:=[]}
def am(s:SE):SD:=if s.a5T=false then(s,F_) else if s.cmd.kind=3 then oH (V8 s,F_) s.cmd.tag else V1 (V8 s,F_) (nh s.cmd.tag [85,78,65,86,65,73,76,65,66,76,69] [116,114,121,32,97,103,97,105,110])
abbrev BL:=List (Bs×Bs)
def mI(kind:Nat)(e:Int):Bs×Bs:=
 if e=6/\kind=14\/e=21 then([84,82,89,67,82,69,65,84,69],[116,104,101,114,101,32,105,115,32,110,111,110,101]) else if e=6 then([78,79,78,69,88,73,83,84,69,78,84],[116,104,101,114,101,32,105,115,32,110,111,110,101]) else if e=12 then([65,76,82,69,65,68,89,69,88,73,83,84,83],[105,116,32,105,115,32,116,104,101,114,101])
 else if e=7 then([79,86,69,82,81,85,79,84,65],[110,111,32,114,111,111,109]) else if e=13 then([76,73,77,73,84],[110,117,109,98,101,114,115,32,97,114,101,32,117,115,101,100,32,117,112]) else if e=1 then([67,65,78,78,79,84],[105,116,32,109,97,121,32,110,111,116,32,98,101]) else([85,78,65,86,65,73,76,65,66,76,69],[116,114,121,32,97,103,97,105,110])
def mJ(s:SE)(st:ML):BX:=((ak st s.a5N.box).bind fun b=>if b.val=s.a5N.val then some b else none).getD Pe
