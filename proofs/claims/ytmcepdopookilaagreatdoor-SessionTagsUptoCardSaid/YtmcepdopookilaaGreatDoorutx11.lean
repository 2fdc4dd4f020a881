import Derived.Test.YtmcepdopookilaaGreatDoorutx10
set_option maxHeartbeats 16000000
set_option maxRecDepth 8000
set_option linter.unusedVariables false
set_option linter.unusedSimpArgs false
set_option linter.defProp false
namespace Go.Proofs.YtmcepdopookilaaGreatDoor.Rp
open Go Go.Sl Go.RowKit Go.Proofs.Tryz
theorem De(s:Bs)(hl:s.length<=9223372036854775806):Pu prog 264 [B s] (fun _=>True) (B (U9 s)):=by
 refine b_ 29 func264 rfl rfl rfl ?_;intro F _;refine y9 ?_;refine nR rfl rfl ?_;intro o p U;refine O2 ?_;refine o9 (ι:=Nat) (fun k=>k<=s.length) (fun k=>[(3,.slice o s.length p),(8,.slice o s.length p),(9,.int .i64 (s.length:Nat)),(10,.int .i64 (k:Nat))]) (fun k=>[.own (.slice o s.length p) 5 1 (A5 (U9 (s.take k)++s.drop k))]) (fun k=>s.length-k) 0 qb ?_ ?_ ?_
 ·exact sub
 ·intro w f;exact f
 rintro k X;refine R6 ?_ ?_<;>intro h
 ·have t:k<s.length:=by simp at h;omega
  have j:=vI io t;have g:=co t;have m:(U9 (s.take k)).length=k:=by unfold U9;rw[zr,zm];omega
  obtain⟨c,hc⟩:=o7 (s.getD k 0);rw[<-hc] at j g;have y:(U9 (s.take k)++s.drop k).getD k 0=c:=by
   rw[zd,jz qb,m,Wg,g];rfl
  have A:(U9 (s.take k)++s.drop k).length=s.length:=by rw[zz,m,z8];omega
  have C:=c.toNat_lt;refine p_ ?_;refine r_ (R4 rfl ud rfl qb) ?_;refine r_ ((i8 rfl (fun w f=>tN f ud (i:=k) qb qb)).eq (v':=U8 c) (by rw[y])) ?_;refine y9 ?_;obtain⟨D,J⟩:=o7 (decide ((c.toNat:Int)≥65));obtain⟨S,M⟩:=o7 (decide ((c.toNat:Int)<=90));refine u7 ?_;refine w6 [(3,.slice o s.length p),(4,.int .i64 (k:Nat)),(5,U8 c),(8,.slice o s.length p),(9,.int .i64 (s.length:Nat)),(10,.int .i64 (k:Nat)),(20,.bool (D&&S))] [.own (.slice o s.length p) 5 1 (A5 (U9 (s.take k)++s.drop k))] ?_ ?_
  ·cases D
   all_goals (
    refine p_ ?_;refine f_ ((I4 rfl rfl).eb J) ?_;refine y9 ?_;(first|refine u_ ?_|(refine v_ ?_;refine f_ ((F_ rfl rfl).eb M) ?_));refine p_ ?_)
   all_goals exact o_ sub i_
  refine N8 ?_ ?_<;>intro u
  ·have O:65<=c.toNat/\c.toNat<=90:=by
    simp only[kw] at u;have a:=qr (J.symm.trans u.1);have b:=qr (M.symm.trans u.2);omega
   have n:io c=c+32:=(by unfold io;rw[zu O]);have T:(c.toNat:Int)+32=((c+32).toNat:Nat):=by
    rw[Wk];simp;omega
   refine E5 ?_;refine f_ ((iT rfl rfl (z:=((c+32).toNat:Nat)) (by rw[IntKind.wrap_u8];omega))) ?_;refine r_ (R4 rfl ud rfl qb) ?_;refine T9 (q:=k*1) rfl rfl uh (by rfl) qp (by(intro q x;simp[Value.cells] at x;first|(subst x;rfl)|(rcases x with rfl|rfl|rfl|rfl|rfl|rfl|rfl|rfl<;>rfl)|(rcases x with rfl|rfl|rfl|rfl|rfl|rfl|rfl|rfl|rfl|rfl|rfl|rfl|rfl|rfl|rfl|rfl|rfl|rfl|rfl|rfl<;>rfl))) (by rw[iC,A];omega) ?_;refine y9 ?_;refine l8 (k+1) qb qb ?_ ?_
   ·exact sub
   ·intro w f;have e:L5 (A5 (U9 (s.take k)++s.drop k)) (k*1) [U8 (c+32)]=A5 (U9 (s.take (k+1))++s.drop (k+1)):=by
     have v:U9 (s.take (k+1))++s.drop (k+1)=U9 (s.take k)++(c+32)::s.drop (k+1):=(by rw[<-n];exact j);rw[v,g,Zd];have V:=rJ (a:=U9 (s.take k)) (r:=s.drop (k+1)) (d:=c) (c:=c+32)
     rwa [m] at V
    rw[<-e];exact f
  ·have n:io c=c:=by
    unfold io;refine zk fun Y=>?_;have a:D=true:=J.trans qk;have b:S=true:=M.trans qk;rw[a,b] at u
    cases u
   refine y9 ?_;refine l8 (k+1) qb qb ?_ ?_
   ·exact sub
   ·intro w f;have e:U9 (s.take k)++s.drop k=U9 (s.take (k+1))++s.drop (k+1):=by
     have v:U9 (s.take (k+1))++s.drop (k+1)=U9 (s.take k)++io c::s.drop (k+1):=j;rw[v,n,g]
    rw[<-e];exact f
 ·have Q:k=s.length:=by simp at h;omega
  subst Q;refine p_ ?_;refine r_ (bX (l:=U9 s) rfl (by simp[U9]) (fun w f=>by have v:=(f.ownN .del).2.2.1;rwa [j9,J7,z7] at v)) ?_;refine C8 ?_;exact d_ rfl rfl [] qh (fun _ h=>h.dropAll)
theorem yo(w:World)(q:Nat)(a:Array Obj):Below w.heap.size w (Sort.grow (w.drewN q) a):=
 ⟨rfl,rfl,rfl,by show w.heap.size<=(w.heap++a).size;simp,fun k b=>by show(w.heap++a)[k]? =_;rw[Zv b]⟩
theorem yp:Pu prog 263 [] (fun _=>True) (.agg (fV R5).toArray):=dS fun w _=>by
 refine(oV w).mono ?_;rintro e b ⟨rfl,q,a,rfl⟩;exact⟨rfl,yo w q a⟩
theorem Lq{j:Nat}(a:j<5):(fV R5).toArray[j]? =some (B (R5.getD j [])):=by
 have b:j<R5.length:=a;simp[fV,b]
theorem dX(s:Bs)(hl:s.length<=lp):Pu prog 193 [B s] (fun _=>True) (SA (E3 s)):=by
 unfold lp at hl;have t:R5.length=5:=rfl;refine b_ 27 func193 rfl rfl rfl ?_;intro F _;refine QW ?_;refine e_ rfl yp qw rfl ?_;refine p_ ?_;refine o9 (ι:=Nat) (fun j=>j<=5/\∀i,i<j->(R8 (R5.getD i [])==R8 s)=false) (fun j=>[(0,B s),(6,.agg (fV R5).toArray),(7,.int .i64 (j:Nat))]) (fun _=>[]) (fun j=>5-j) 0 ⟨by omega,fun i h=>by omega⟩ ?_ ?_ ?_
 ·exact sub
 ·intro w k;exact k
 rintro j ⟨v,a⟩;refine R6 ?_ ?_<;>intro h
 ·have b:j<5:=by simp at h;omega
  have u:=Lf b;refine C6 ?_;refine f_ (eE j rfl rfl qb b (Lq b)) ?_;refine y9 ?_;refine e_ rfl (I3 (R5.getD j []) qb) qw rfl ?_;refine p_ ?_;refine e_ rfl (I3 s qb) qw rfl ?_;refine f_ ((B_ rfl rfl).eq (v':=.bool (R8 (R5.getD j [])==R8 s)) (qn (by rw[Kz];simp))) ?_;refine N8 ?_ ?_<;>intro c
  ·have e:E3 s=some (R5.getD j []):=by
    unfold E3;rw[AH (p:=fun f=>R8 f==R8 s) qb a c]
   rw[e];refine bS ?_;exact r7 rfl rfl rfl [] qh (fun _ h=>h)
  ·refine y9 ?_;refine l8 (j+1) ⟨by omega,fun i q=>?_⟩ qb ?_ ?_
   ·rcases kd.1 q with l|rfl
    ·exact a i l
    ·exact c
   ·exact sub
   ·intro w k;exact k
 ·have m:j=5:=by simp at h;omega
  subst m;obtain⟨d,n⟩:=o7 (iY s);obtain⟨g,c⟩:=o7 (decide ((s.length:Int)>32));have e:E3 s=if(!d||g)=true then none else some (U9 s):=by
   unfold E3;rw[Le (p:=fun f=>R8 f==R8 s) (fun i q=>a i qb)];simp only;by_cases hh:(!d||g)=true
   ·rw[zu hh];refine zk fun x=>?_;rw[n,c,x.1] at hh;simp at hh;omega
   ·rw[zk hh];refine zu ?_;have o:(!d||g)=false:=(by simpa using hh);rw[Q1] at o;have l:d=true:=(by simpa using o.1);have t:=zq (c.symm.trans o.2);exact⟨n.symm.trans l,by omega⟩
  rw[e];refine u7 ?_;refine w6 [(0,B s),(24,.bool (!d||g))] [] ?_ ?_
  ·cases d
   all_goals (
    refine p_ ?_;refine e_ rfl (oT s qb) qw rfl ?_;rw[<-n];refine O2 ?_;(first|refine u_ ?_|(refine v_ ?_;refine f_ ((D_ rfl rfl).eb c) ?_));refine p_ ?_)
   all_goals exact o_ sub i_
  refine N8 ?_ ?_<;>intro r
  ·rw[zu r];refine L7 ?_;exact r7 rfl rfl rfl [] qh (fun _ h=>h)
  ·rw[zk (by rw[r];simp)];refine p_ ?_;refine e_ rfl (De s qb) qw rfl ?_;refine L7 ?_;exact r7 rfl rfl rfl [] qh (fun _ h=>h)
theorem oY(l:List Bs)(a:Option Addr)(c:Nat)(hl:l.length<=lp)(p:∀f∈l,f.length<=lp):Ct prog 249 [.slice a l.length c] (fun h=>o0 h a (fV l)) [] (SB (V6 l)):=by
 unfold lp at hl;refine b_ 33 func249 rfl rfl rfl ?_;intro F o;refine cG ?_;refine O7 9 1 ?_;refine o9 (ι:=Nat×List Bs×Option Addr×Nat) (fun i=>i.1<=l.length/\S3 (l.take i.1)=some i.2.1) (fun i=>[(4,.slice i.2.2.1 i.2.1.length i.2.2.2),(9,.slice a l.length c),(10,.int .i64 (l.length:Nat)),(11,.int .i64 (i.1:Nat))]) (fun i=>[A4 i.2.2.1 i.2.1 i.2.2.2]) (fun i=>l.length-i.1) (0,[],none,0) ⟨by simp,by simp[S3]⟩ ?_ ?_ ?_
 ·exact sub
 ·intro w g;exact g
 rintro⟨k,m,b,d⟩ ⟨D,hc⟩;simp only at D hc;have q:=oQ hc;rw[zm] at q;refine R6 ?_ ?_<;>intro h
 ·have j:k<l.length:=by simp at h;omega
  have n:=cg o j;have r:=p _ (dQ j);have s:l.take (k+1)=l.take k++[l.getD k []]:=NP j;refine C6 ?_;refine f_ (m8 rfl n rfl qb) ?_;refine r_ (i8 rfl (fun w g=>OT g o (i:=k) qb j)) ?_;refine y9 ?_;refine e_ rfl (dX (l.getD k []) r) qw rfl ?_;refine au ?_
  cases hq:E3 (l.getD k []) with
  |none=>
   have e:V6 l=([],4):=(by unfold V6;rw[oP hq (dQ j)]);rw[e];refine JO ?_;exact r7 rfl rfl rfl [A4 none [] 0] ⟨none,0,rfl,rfl⟩ (fun w g=>g.dropAll.addNil _ _)
  |some z=>
   refine O2 ?_;refine x7 rfl rfl rfl rfl rfl rfl (xs:=fV [z]) rfl rfl ?_;intro a46 u;refine C0 rfl rfl (fun Q S=>.there .here) (fun w g=>(g.ownN ud).2.2.1) rfl rfl rfl (kZ _) (by show(m.length+1)*16<=_;omega) qg rfl ?_;intro a5 J M;refine E5 ?_;refine l8 (k+1,m++[z],a5,J) ⟨by simp only;omega,by simp only;rw[s];exact lX hq hc⟩ qg ?_ ?_
   ·simp only[zz,jp];exact sub
   ·intro w g;simp only[A4,zz,jp];rw[gk];exact g.drop
 ·have t:k=l.length:=by simp at h;omega
  rw[t,j9] at hc;have O:=AJ m;refine p_ ?_;refine x5 _ rfl (oX m b d qb) i_ (fun h T ⟨U,p⟩=>A3.rd p ud) rfl ?_;rintro v A ⟨x,y,rfl,rfl⟩;refine E5 ?_;refine f_ ((D_ rfl rfl).eq (v':=.bool (decide (16<(T3 m).length))) (qn (zp.mpr qb))) ?_;refine N8 ?_ ?_<;>intro C
  ·have e:V6 l=([],7):=(by unfold V6;rw[hc];simp only;rw[zu (qr C)]);rw[e];refine L7 ?_;exact r7 rfl rfl rfl [A4 none [] 0] ⟨none,0,rfl,rfl⟩ (fun w g=>g.dropAll.addNil _ _)
  ·have e:V6 l=(T3 m,0):=(by unfold V6;rw[hc];simp only;rw[zk (zq C)]);rw[e];refine bS ?_;exact r7 rfl rfl rfl [A4 x (T3 m) y] ⟨x,y,rfl,rfl⟩ (fun w g=>g.left (A:=[_]))
abbrev C7(l:Bs):ByteArray:=⟨l.toArray⟩
theorem Lr{h:l_}{a:Option Addr}{l:List Bs}(r:o0 h a (fV l))(c:l≠[]):∃b o,a=some ⟨b,o,none⟩/\∀j,j<l.length->h.cell? ⟨b,o+j,none⟩=some (B (l.getD j [])):=by
 obtain⟨⟨b,o,d⟩,rfl,hc⟩:=r (by intro e;have:=jk List.length e;rw[L8] at this;exact c (jy this))
 cases d with
 |none=>
  refine⟨b,o,rfl,fun j f=>?_⟩;have:=hc j (B (l.getD j [])) (by simp[fV,f])
  rwa [Addr.add_lit] at this
 |some x=>
  exfalso
  cases l with
  |nil=>exact c rfl
  |cons y t=>
   have:=hc 0 (B y) rfl;simp[Addr.add,l_.cell?] at this;split at this<;>simp at this
theorem Ls(l:List Bs)(a:Option Addr)(c:Nat)(d:Bs)(hc:l.length<=c)(hl:l.length<=140737488355328)(r:(eZ d l).length<=140737488355328):Pu prog 41 [.slice a l.length c,B d] (fun h=>o0 h a (fV l)) (B (eZ d l)):=dS fun w s=>by
 by_cases h0:l=[]
 ·subst h0;refine(Tryz.strings_Join_none a c (C7 d) w).mono ?_;rintro e u ⟨rfl,rfl⟩;exact⟨rfl,Below.refl _ _⟩
 ·obtain⟨b,o,rfl,g⟩:=Lr s h0;have f:∀j,j<l.length->w.cell? ⟨b,o+j,none⟩=some (B (l.getD j [])):=g;have t:b<w.heap.size:=by
   have:=f 0 (Zr.mpr h0);unfold World.cell? at this
   cases hh:w.heap[b]? with
   |none=>simp only[hh] at this;cases this
   |some ob=>exact(kp.1 hh).1
  have k:(l.map C7).length=l.length:=by simp
  have p:(l.map C7).map (·.data.toList)=l:=by simp[Z9]
  have q:(C7 d).data.toList=d:=rfl;have m:∀(j:Nat) x,(l.map C7)[j]? =some x->w.cell? ⟨b,o+j,none⟩=some (.string x):=fun j x i=>by
   rw[Zb] at i
   cases hj2:l[j]? with
   |none=>rw[hj2] at i;cases i
   |some y=>
    rw[hj2] at i
    cases i
    have n:j<l.length:=(Qw.1 hj2).1;rw[f j n,zd,hj2];rfl
  have:=Tryz.strings_Join b o c (l.map C7) (C7 d) w m t qb qb (by rw[p,q,fD];exact r);rw[p,q,fD,k] at this;exact this
theorem oZ:∀(w r:Bs),(∀c∈w,c≠32)->Lib.index (w++32::r) [32]=((w.length:Nat):Int)
 |[],r,_=>by rw[j7,Lib.index];simp[List.isPrefixOf]
 |b::w,r,h=>by
  have a:=oZ w r (fun c hc=>h c (by simp[hc]));have d:b≠32:=h b x6;have hp:([32]:List UInt8).isPrefixOf (b::(w++32::r))=false:=by simp[List.isPrefixOf,Ne.symm d]
  rw[Q7,Lib.index,hp,a];have e:(((w.length:Nat):Int)== -1)=false:=beq_eq_false_iff_ne.mpr qb;simp[e]
theorem rL:∀(k:Nat) (s:Bs),s.count 32=k->Lib.splitK [32] 0 k s=H7 s
 |0,s,h=>by
  rw[om s (fun c hc e=>by subst e;have:=List.count_pos_iff.mpr hc;omega)];rfl
 |k+1,s,h=>by
  have hs:=bw (fun c=>c !=32) s;obtain⟨w,g⟩:=o7 (s.takeWhile fun c=>c !=32);have a:∀c∈w,c≠32:=fun c hc=>by
   rw[g] at hc;have:=gQ (fun c=>c !=32) s c hc;simpa using this
  have b:=fB (fun c=>c !=32) s;rw[<-g] at hs b
  cases hd:s.drop w.length with
  |nil=>
   rw[hd,z7] at hs;have:s.count 32=0:=Jp.mpr (fun hc=>a 32 (hs▸hc) rfl);omega
  |cons d r=>
   rw[hd] at hs b;have f:d=32:=(by have:=b d x6;simpa using this);subst f;have i:=oZ w r a;have hc:r.count 32=k:=by
    rw[hs,List.count_append,List.count_cons_self] at h;have:w.count 32=0:=Jp.mpr (fun hc=>a 32 hc rfl);omega
   rw[hs,ot w r a,Lib.splitK,i];have j:(((w.length:Nat):Int)== -1)=false:=beq_eq_false_iff_ne.mpr qb;rw[j];simp only[Kw,if_false,jm,Q3,K9];rw[show(w++32::r).drop (w.length+[(32:UInt8)].length)=r by simp,rL k r hc]
def Pn(s:Bs)(v:Value)(A:List As):Prop:=∃a c,v=.slice a (H7 s).length c/\A=[A4 a (H7 s) c]
theorem GD(s:Bs)(hs:s.length<4294967281):Ct prog 248 [B s,B [32]] Gl [] (Pn s):=by
 intro w g c h b;have i:g=[]:=c;subst i;rw[N3] at b;obtain⟨m,t,j,k⟩:=b.m;have hc:=Tryz.strings_Split (C7 s) (C7 [32]) m w (by simpa[ByteArray.size] using hs) (lZ k) qp;refine hc.mono ?_;rintro e r ⟨rfl,rfl⟩;have d:Lib.countB (C7 s) (C7 [32])=s.count 32:=Lib.count_one 32 s;have f:=Lib.splitB_data (C7 [32]) 0 (Lib.countB (C7 s) (C7 [32])) (C7 s);have l:(C7 [32]).data.toList=[32]:=rfl;have n:(C7 s).data.toList=s:=rfl;rw[l,n,d,rL _ s rfl] at f;have o:(Lib.splitB (C7 [32]) 0 (Lib.countB (C7 s) (C7 [32])) (C7 s)).length=Lib.countB (C7 s) (C7 [32])+1:=Lib.splitB_all _ qp 0 _ _ rfl;have a:(Lib.splitB (C7 [32]) 0 (Lib.countB (C7 s) (C7 [32])) (C7 s)).map Value.string=fV (H7 s):=by
  rw[d,<-f];simp[fV,Z9]
 have p:Lib.countB (C7 s) (C7 [32])+1=(H7 s).length:=by
  rw[<-o,d,<-f,zr]
 rw[a,p];refine⟨_,[A4 (some ⟨w.heap.size,0,none⟩) (H7 s) (H7 s).length],rfl,⟨_,_,rfl,rfl⟩,?_⟩;have q:Hp (q_ w []) w []:=Hp.start (C:=[]) (bs:=[]) rfl Zx;exact O8 (xs:=fV (H7 s)) (post:=[]) (fr:=(0,0)) q (by rw[L8];omega) (by rw[z7,L8];omega) (z1 _) (.inl (z1 _)) x6
theorem rM:∀s:Bs,(H7 s).length<=s.length+1/\∀f∈H7 s,f.length<=s.length
 |[]=>by simp[H7]
 |c::t=>by
  have a:=rM t;unfold H7;split
  ·refine⟨by simp;omega,fun f hf=>?_⟩;rcases ky.mp hf with rfl|hf
   ·simp
   ·have:=a.2 f hf;simp;omega
  ·split
   ·simp
   ·next w b h=>
    rw[h] at a;refine⟨by simpa using by have:=a.1;simp at this;omega,fun f hf=>?_⟩;rcases ky.mp hf with rfl|hf
    ·have:=a.2 w x6;simp;omega
    ·have:=a.2 f (by simp[hf]);simp;omega
theorem tU(s:Bs):s.contains 41=decide ((s.takeWhile fun c=>c !=41).length<s.length):=by
 induction s with
 |nil=>rfl
 |cons c t ih=>
  by_cases h:c=41
  ·subst h;simp
  ·have a:((41:UInt8)==c)=false:=beq_eq_false_iff_ne.mpr (fun e=>h e.symm);rw[Wd,a,K2,ih,Q4];simp[h]
theorem Df(s:Bs)(hs:s.length<4294967281):Ct prog 177 [B s] Gl [] (Pj (T4 s)):=by
 obtain⟨e,j⟩:=o7 ((s.takeWhile fun c=>c !=41).length);have d:=eJ s 41;rw[tU,<-j] at d;obtain⟨z,hz⟩:=o7 (Lib.indexByte s 41);rw[<-hz] at d;obtain⟨n,D⟩:=o7 (decide (z<1));obtain⟨o,J⟩:=o7 (decide (s.getD 0 0=40));have h7:e<=s.length:=by
  have:=jk List.length (bw (fun c=>c !=41) s);rw[zz] at this;omega
 have M:(n||!o)=true->T4 s=([],0,4):=fun h=>by
  unfold T4;simp only;rw[<-j];refine zk fun l=>?_;rw[zu (by simpa using l.2)] at d;have k:1<=s.length:=by omega
  rw[oO k] at l;have m:s.getD 0 0=40:=by simpa using l.1
  have O:o=true:=J.trans (kr m);have Q:1<=e:=by
   cases s with
   |nil=>simp at k
   |cons c t=>
    have hc:c=40:=m;subst hc;rw[j];simp
  have S:n=false:=D.trans qj;rw[S,O] at h
  cases h
 have p:(n||!o)=false->z=(e:Int)/\1<=e/\e<s.length/\s.head? =some 40:=fun h=>by
  rw[Q1] at h;have m:=zq (D.symm.trans h.1);have T:o=true:=by simpa using h.2
  have h5:s.getD 0 0=40:=qr (J.symm.trans T);by_cases hc:e<s.length
  ·rw[zu (by simpa using hc)] at d;refine⟨d,by omega,hc,?_⟩;rw[oO qb,h5]
  ·rw[zk (by simpa using hc)] at d;omega
 refine b_ 35 func177 rfl rfl rfl ?_;intro F hg;refine O2 ?_;refine e_ rfl (aj s 41) qw rfl ?_;rw[<-hz];refine p_ ?_;refine w6 [(0,B s),(5,.int .i64 z),(17,.bool (n||!o))] [] ?_ ?_
 ·cases n
  all_goals (
   refine p_ ?_;refine f_ ((E_ rfl rfl).eb D) ?_;refine y9 ?_;(first|refine u_ ?_|(refine v_ ?_;refine f_ ((A6 rfl rfl (by have:=zq D.symm;split at d<;>omega)).eq (v':=U8 (s.getD 0 0)) rfl) ?_));(first|refine u_ ?_|(refine v_ ?_;refine f_ ((M1 rfl rfl).eq ((jk (fun b=>Value.bool (!b)) (gV (b:=40))).trans (jk (fun b=>Value.bool (!b)) J.symm))) ?_));refine p_ ?_)
  all_goals exact o_ sub i_
 refine N8 ?_ ?_<;>intro h
 ·rw[M h];refine bS ?_;exact cO rfl rfl rfl rfl [A4 none [] 0] ⟨none,0,rfl,rfl⟩ (fun w q=>q.addNil _ _)
 obtain⟨U,Q,V,X⟩:=p h;rw[U];have Y:(s.take e).drop 1=(s.drop 1).take (e-1):=by rw[List.drop_take]
 obtain⟨a,g⟩:=o7 ((s.take e).drop 1);have r:a.length=e-1:=by rw[g,z8,zm];omega
 have i:T4 s=if(V6 (if a=[] then[] else H7 a)).2=0 then((V6 (if a=[] then[] else H7 a)).1,e+1,0) else([],0,(V6 (if a=[] then[] else H7 a)).2):=by
  unfold T4;simp only;rw[<-j,zu ⟨X,V⟩,<-g]
 refine y9 ?_;refine f_ ((D_ rfl rfl).eq (v':=.bool (decide (1<e))) (qn (zp.mpr qb))) ?_;refine N8 ?_ ?_<;>intro m
 ·have T:=qr m;have Z:a≠[]:=by intro x;rw[x] at r;simp at r;omega
  rw[zk Z] at i;have h0:=rM a;refine y9 ?_;refine f_ ((H5 rfl rfl rfl qb).eq (v':=B a) (by rw[g,Y];simp only[jm];rfl)) ?_;refine x5 _ rfl (GD a qb) i_ (fun h l hb=>hg.le l) rfl ?_;rintro v A ⟨TX,h6,rfl,rfl⟩;refine y9 ?_;refine x5 _ rfl (oY (H7 a) TX h6 (by unfold lp;omega) (fun f hf=>by have:=h0.2 f hf;unfold lp;omega)) i_ (fun h l ⟨bs,hb⟩=>A3.rd hb ud) rfl ?_;rintro v A ⟨u,y,rfl,rfl⟩;refine wk 7 ?_;refine o8 rfl ?_ ?_<;>intro h9
  ·have j:¬(V6 (H7 a)).2=0:=(by simpa using h9);rw[i,zk j];refine JO ?_;exact cO rfl rfl rfl rfl [A4 none [] 0] ⟨none,0,rfl,rfl⟩ (fun w q=>q.dropAll.addNil _ _)
  ·have j:(V6 (H7 a)).2=0:=(by simpa using h9);rw[i,zu j];refine y9 ?_;refine f_ ((p9 rfl rfl qb).eq (v':=.int .i64 ((e+1:Nat):Int)) (by congr 1)) ?_;refine bS ?_;exact cO rfl rfl rfl rfl [A4 u (V6 (H7 a)).1 y] ⟨u,y,rfl,rfl⟩ (fun w q=>q.left (A:=[_]))
 ·have T:=zq m;have C:a=[]:=jy qb;rw[zu C] at i;refine p_ ?_;refine x5 _ rfl (oY [] none 0 x6 x6) i_ (fun h l hb=>fun x=>absurd rfl x) rfl ?_;rintro v A ⟨u,y,rfl,rfl⟩;refine wk 7 ?_;have j:(V6 []).2=0:=rfl;rw[i,zu j];refine y9 ?_;refine f_ ((p9 rfl rfl qb).eq (v':=.int .i64 ((e+1:Nat):Int)) (by congr 1)) ?_;refine bS ?_;exact cO rfl rfl rfl rfl [A4 u (V6 []).1 y] ⟨u,y,rfl,rfl⟩ i_
abbrev H8(b:Nat)(s:Bs)(p:Nat)(c:CM)(x:CL):As:=.blk b (.cells #[B s,.int .i64 (p:Nat),B c.tag,.int .i64 (c.kind:Nat),.bool c.uid,.bool c.cond,B c.box,B c.user,B c.pass,B c.a5Q,.slice x.sa c.set.length x.sc,.slice x.ia c.a5M.length x.ic,.slice x.ka c.keys.length x.kc,.int .i64 (c.how:Nat),.bool c.a5S,.bool c.a5N,.int .u64 (c.a5O:Nat),.slice x.fa c.a5U.length x.fc,B c.data] 211)
abbrev N1:Value:=.iface 219 (.agg #[])
abbrev fM{α:Type}(o:Option α)(v:Value):Prop:=o=none/\v=N1
theorem G8(ok:Bool):Cx prog 137 [.bool ok] (fun _=>True) [] (fun v A=>ok=true/\v=.tuple #[]/\A=[]) (fun v=>ok=false/\v=N1):=by
 refine B7 6 func137 rfl rfl rfl ?_;intro F _
 cases ok with
 |true=>
  refine y9 ?_;exact m6 rfl [] qm i_
 |false=>
  refine QW ?_;refine f_ (y8 rfl rfl) ?_;refine f_ (Y4 (by intro a h;cases h) rfl) ?_;exact Fv rfl rfl (l6.le_refl _) qh
theorem aN(b:Nat)(s:Bs)(p:Nat)(c:CM)(x:CL)(hs:s.length<=1000000000000)(hp:p<=s.length):Ct prog 206 [l9 b] (fun _=>True) [H8 b s p c x] (fun v A=>v=B (s.drop p)/\A=[H8 b s p c x]):=by
 refine b_ 12 func206 rfl rfl rfl ?_;intro F _;refine p_ ?_;refine Aj [3,7] [] 10 ?_;refine wd [0,1,2,3,4,5,6,7] ?_;refine w_ 8 rfl ((H5 rfl rfl rfl qb).eq (v':=B (s.drop p)) (by rw[jq (by rw[z8];omega),jm])) ?_;refine wd [9] ?_;refine A2 ?_;exact d_ rfl rfl [H8 b s p c x] qh i_
def H4(s w:Bs)(p:Nat):Nat:=if I1 s w p=true then p+w.length else p
theorem AQ{s w:Bs}{p:Nat}:I1 s w p=true↔R8 ((s.drop p).take w.length)=w:=by unfold I1;simp
theorem gv{s w:Bs}{p:Nat}(hp:p<=s.length):p<=H4 s w p/\H4 s w p<=s.length:=by
 unfold H4;split
 ·next h=>
  by_cases hw:w=[]
  ·subst hw;simp;omega
  ·have:=iw h hw;omega
 ·omega
theorem S5(b:Nat)(s w:Bs)(p:Nat)(c:CM)(x:CL)(hs:s.length<=1000000000000)(hp:p<=s.length)(l:w.length<=1000000000000):Ct prog 132 [l9 b,B w] (fun _=>True) [H8 b s p c x] (fun v A=>v=.bool (I1 s w p)/\A=[H8 b s (H4 s w p) c x]):=by
 obtain⟨j,d⟩:=o7 (decide (((s.drop p).length:Int)<(w.length:Nat)));obtain⟨k,f⟩:=o7 (!decide (R8 ((s.drop p).take w.length)=w));refine b_ 30 func132 rfl rfl rfl ?_;intro F _;refine p_ ?_;refine w6 [(0,l9 b),(1,B w),(20,.bool (j||k))] [H8 b s p c x] ?_ ?_
 ·cases j
  all_goals (
   refine p_ ?_;refine x5 _ rfl (aN b s p c x hs hp) i_ qw rfl ?_;rintro v A ⟨rfl,rfl⟩;refine E5 ?_;refine f_ ((E_ rfl rfl).eb d) ?_;refine y9 ?_;(first|refine u_ ?_|(refine v_ ?_;refine x5 _ rfl (aN b s p c x hs hp) i_ qw rfl ?_;rintro v A ⟨rfl,rfl⟩));refine y9 ?_;(first|refine u_ ?_|(refine v_ ?_;refine f_ ((H5 rfl rfl rfl (by have:=zq d.symm;omega)).eq (v':=B ((s.drop p).take w.length)) x6) ?_));(first|refine u_ ?_|(refine v_ ?_;refine e_ rfl (I3 ((s.drop p).take w.length) (by rw[zm];omega)) qw rfl ?_));refine p_ ?_;(first|refine u_ ?_|(refine v_ ?_;refine f_ ((E1 rfl rfl).eb f) ?_));refine p_ ?_)
  all_goals exact o_ sub i_
 refine N8 ?_ ?_<;>intro h
 ·have e:I1 s w p=false:=by
   rw[Bool.eq_false_iff];intro g;rw[AQ] at g;rw[Zk] at h;rcases h with h|h
   ·have m:=qr (d.symm.trans h);have:=jk List.length g;unfold R8 at this;rw[zr,zm] at this;omega
   ·rw[f,g] at h;simp at h
  have a:H4 s w p=p:=by unfold H4;rw[e];rfl
  rw[e,a];refine C8 ?_;exact d_ rfl rfl [H8 b s p c x] qh i_
 ·rw[Q1] at h;have e:I1 s w p=true:=AQ.2 (by have:=f.symm.trans h.2;simpa using this);have a:H4 s w p=p+w.length:=by unfold H4;rw[e];rfl
  have i:=gv (s:=s) (w:=w) hp;rw[a] at i;rw[e,a];refine cG ?_;refine f_ ((p9 rfl rfl qb).eq (v':=.int .i64 ((p+w.length:Nat):Int)) (by congr 1)) ?_;refine JO ?_;exact d_ rfl rfl [H8 b s (p+w.length) c x] qh i_
theorem D7(b:Nat)(s w:Bs)(p:Nat)(c:CM)(x:CL)(hs:s.length<=1000000000000)(hp:p<=s.length)(f:w.length<=1000000000000):Cx prog 274 [l9 b,B w] (fun _=>True) [H8 b s p c x] (fun v A=>∃e,H_ s w p=some e/\v=.tuple #[]/\A=[H8 b s e c x]) (fM (H_ s w p)):=by
 refine B7 8 func274 rfl rfl rfl ?_;intro F _;obtain⟨W,a⟩:=o7 (H_ s w p);rw[<-a];unfold H_ at a;refine y9 ?_;refine x5 _ rfl (S5 b s w p c x hs hp f) i_ qw rfl ?_;rintro v A ⟨rfl,rfl⟩;refine x4 _ rfl (G8 (I1 s w p)) i_ pre rfl rfl (l6.le_refl _) (fun v h=>⟨(by rw[a,h.1];rfl),h.2⟩) ?_;rintro v A ⟨d,rfl,rfl⟩;refine u7 ?_;rw[zu d] at a;have g:H4 s w p=p+w.length:=by unfold H4;rw[d];rfl
 rw[g];exact m6 rfl [H8 b s (p+w.length) c x] ⟨_,a,rfl,rfl⟩ i_
abbrev vL(f:FuncId)(q:UInt8->Bool):Prop:=∀c,Pu prog f [B [c]] (fun _=>True) (.bool (q c))
theorem yq{s:Bs}{j:Nat}(a:j<s.length):(s.drop j).take 1=[s.getD j 0]:=by
 rw[Qg a,zd,zj a];rfl
theorem eO(f:FuncId)[hF:HF prog f](q:UInt8->Bool)(u:vL f q)(b:Nat)(s:Bs)(p:Nat)(c:CM)(x:CL)(hs:s.length<=1000000000000)(hp:p<=s.length):Ct prog 134 [l9 b,.func (.func f) #[] #[]] (fun _=>True) [H8 b s p c x] (fun v A=>v=B (N9 q s p)/\A=[H8 b s (p+(N9 q s p).length) c x]):=by
 refine b_ 55 func134 rfl rfl rfl ?_;intro F _;refine cG ?_;refine o9 (ι:=Nat) (fun j=>p<=j/\j<=s.length/\∀i,p<=i->i<j->q (s.getD i 0)=true) (fun j=>[(0,l9 b),(1,.func (.func f) #[] #[]),(5,.int .i64 (p:Nat))]) (fun j=>[H8 b s j c x]) (fun j=>s.length-j) p ⟨z1 _,hp,fun i h t=>by omega⟩ ?_ ?_ ?_
 ·exact sub
 ·intro w m;exact m
 rintro j ⟨e,n,g⟩;obtain⟨o,a⟩:=o7 (decide ((j:Int)<(s.length:Nat)));obtain⟨y,d⟩:=o7 (q (s.getD j 0));refine u7 ?_;refine w6 [(0,l9 b),(1,.func (.func f) #[] #[]),(5,.int .i64 (p:Nat)),(37,.bool (o&&y))] [H8 b s j c x] ?_ ?_
 ·cases o
  all_goals (
   refine u7 ?_;refine Aj [3,7,15,19,23] [] 28 ?_;refine wd [0,1,2,3,4,5,6,7,8] ?_;refine w_ 9 rfl ((E_ rfl rfl).eb a) ?_;refine wd [10,11,12,13,14,15,16,17,18,19,20,21,22,23] ?_;(first|refine s_ 24 ?_|refine t_ 24 ?_|refine F6 24 rfl ((p9 rfl rfl (by have:=qr a.symm;omega)).eq (v':=.int .i64 ((j+1:Nat):Int)) (by congr 1)) rfl rfl rfl rfl rfl rfl i6 ?_);(first|refine s_ 25 ?_|refine t_ 25 ?_|refine F6 25 rfl ((H5 rfl rfl rfl (by have:=qr a.symm;omega)).eq (v':=B [s.getD j 0]) (by have O:=qr a.symm;rw[jN qb,Nat.add_sub_cancel_left,yq qb])) rfl rfl rfl rfl rfl rfl i6 ?_);refine h_ 26 rfl i6 ?_;(first|refine u_ ?_|(refine v_ ?_;refine A0 (ps:=[]) (qs:=[]) _ rfl rfl rfl (u (s.getD j 0)) i_ qw rfl ?_;rintro v A ⟨rfl,rfl⟩;rw[<-d]));refine xB ?_;refine wd [27] ?_)
  all_goals exact o_ sub i_
 refine N8 ?_ ?_<;>intro k
 ·simp only[kw] at k;have z:j<s.length:=by have:=qr (a.symm.trans k.1);omega
  refine O2 ?_;refine f_ ((p9 rfl rfl qb).eq (v':=.int .i64 ((j+1:Nat):Int)) (by congr 1)) ?_;refine E5 ?_;refine l8 (j+1) ⟨by omega,by omega,fun i h t=>?_⟩ qb ?_ ?_
  ·rcases kd.1 t with C|rfl
   ·exact g i h C
   ·rw[<-d];exact k.2
  ·exact sub
  ·intro w m;exact m
 ·have l:j<s.length->q (s.getD j 0)=false:=fun Q=>by
   have:o=true:=a.trans qk;rw[this,Km] at k;rw[<-d];exact k
  obtain⟨r,D⟩:=AK (f:=q) e (.inl n) g l;have J:N9 q s p=(s.drop p).take (j-p):=r;have M:p+(N9 q s p).length=j:=D.symm;rw[M,J];refine u7 ?_;refine Aj [3,8] [] 11 ?_;refine wd [0,1,2,3,4,5,6,7,8] ?_;refine w_ 9 rfl ((H5 rfl rfl rfl qb).eq (v':=B ((s.drop p).take (j-p))) (jk B (jN e))) ?_;refine wd [10] ?_;refine A2 ?_;exact d_ rfl rfl [H8 b s j c x] qh i_
theorem pb:vL 47 P1:=fun c=>by
 have h:=oT [c] x6;have e:iY [c]=P1 c:=by simp[iY]
 rw[e] at h;exact h
theorem lq{a c:UInt8}:Op.bytesLess [a] [c]=decide (a.toNat<c.toNat):=by
 simp only[Op.bytesLess];by_cases h:a<c
 ·have:a.toNat<c.toNat:=h;simp[h,this]
 ·have:¬a.toNat<c.toNat:=h;simp[h,this]
theorem rN{a c:UInt8}:(Op.bytesLess [a] [c]||[a]==[c])=decide (a.toNat<=c.toNat):=by
 rw[lq];by_cases h:a=c
 ·subst h;simp
 ·have b:a.toNat≠c.toNat:=fun e=>h (Wz.mp e);simp only[List.cons_beq_cons,List.nil_beq_eq,beq_eq_false_iff_ne.mpr h,Bool.false_and,Bool.or_false];exact zp.mpr qb
theorem AS:vL 391 P0:=fun c=>by
 obtain⟨a,b⟩:=o7 (decide (48<=c.toNat));obtain⟨f,d⟩:=o7 (decide (c.toNat<=57));have e:P0 c=(a&&f):=by unfold P0;rw[b,d]
 rw[e];refine b_ 9 func391 rfl rfl rfl ?_;intro F _;refine p_ ?_
 cases a
 all_goals (
  refine p_ ?_;refine f_ ((kW rfl rfl).eq (qn ((show(!Op.bytesLess [c] [48])=decide (48<=c.toNat) from by rw[lq,<-decide_not];congr 1;simp).trans b.symm))) ?_;refine y9 ?_;(first|refine u_ ?_|(refine v_ ?_;refine f_ ((kX rfl rfl).eq (qn (rN.trans d.symm))) ?_));refine y9 ?_)
 all_goals (refine A2 ?_;exact d_ rfl rfl [] qh i_)
theorem bQ{q:UInt8->Bool}{s:Bs}{p:Nat}(hp:p<=s.length):p+(N9 q s p).length<=s.length:=Pc q s p hp
theorem AT(b:Nat)(s:Bs)(p:Nat)(c:CM)(x:CL)(hs:s.length<=1000000000000)(hp:p<=s.length):Cx prog 341 [l9 b] (fun _=>True) [H8 b s p c x] (fun v A=>∃r,vr s p=some r/\v=B r.1/\A=[H8 b s r.2 c x]) (fM (vr s p)):=by
 refine B7 10 func341 rfl rfl rfl ?_;intro F _;obtain⟨W,a⟩:=o7 (vr s p);rw[<-a];unfold vr at a;refine y9 ?_;refine x5 _ rfl (eO 47 P1 pb b s p c x hs hp) i_ qw rfl ?_;rintro v A ⟨rfl,rfl⟩;refine y9 ?_;refine f_ (E1 rfl rfl) ?_;refine x4 _ rfl (G8 _) i_ pre rfl rfl (l6.le_refl _) (fun v h=>⟨(by rw[a,zu (by have:=h.1;simpa using this)]),h.2⟩) ?_;rintro v A ⟨d,rfl,rfl⟩;refine u7 ?_;rw[zk (by simpa using d)] at a;refine L7 ?_;exact d_ rfl rfl [H8 b s (p+(N9 P1 s p).length) c x] ⟨_,a,rfl,rfl⟩ i_
theorem cp{s:Bs}{m p:Nat}{r:Nat×Nat}(hp:p<=s.length)(h:mD s m p=some r):r.1<=m/\p<=r.2/\r.2<=s.length:=by
 unfold mD at h;obtain⟨n,b,a⟩:=zc.1 h;split at a
 ·have:=j8 a;subst this;have:=bQ (q:=P0) hp;exact⟨by assumption,by simp only;omega,this⟩
 ·cases a
theorem Y0(b:Nat)(s:Bs)(m p:Nat)(c:CM)(x:CL)(hs:s.length<=1000000000000)(hp:p<=s.length)(j:m<=D9):Cx prog 342 [l9 b,.int .u64 (m:Nat)] Gl [H8 b s p c x] (fun v A=>∃r,mD s m p=some r/\v=.int .u64 (r.1:Nat)/\A=[H8 b s r.2 c x]) (fM (mD s m p)):=by
 refine B7 21 func342 rfl rfl rfl ?_;intro F hg;obtain⟨W,a⟩:=o7 (mD s m p);rw[<-a];unfold mD at a;have g:=bQ (q:=P0) hp
 cases hn:aW (N9 P0 s p) with
 |none=>
  rw[hn] at a;refine y9 ?_;refine x5 _ rfl (eO 391 P0 AS b s p c x hs hp) i_ qw rfl ?_;rintro v A ⟨rfl,rfl⟩;refine e_ rfl (eN (N9 P0 s p) qb) (fun h d i=>hg.le d) rfl ?_;rw[hn];simp only[Gg];refine wk 11 ?_;refine x4 _ rfl (G8 _) i_ pre rfl rfl (l6.le_refl _) (fun v h=>⟨(a),h.2⟩) ?_;rintro v A ⟨e,rfl,rfl⟩;refine u7 ?_
  cases e
 |some n=>
  rw[hn] at a;obtain⟨q,f⟩:=o7 (decide (n<=m));refine y9 ?_;refine x5 _ rfl (eO 391 P0 AS b s p c x hs hp) i_ qw rfl ?_;rintro v A ⟨rfl,rfl⟩;refine e_ rfl (eN (N9 P0 s p) qb) (fun h d i=>hg.le d) rfl ?_;rw[hn];simp only[Gg];refine wk 9 ?_;(first|refine u_ ?_|(refine v_ ?_;refine f_ ((F_ rfl rfl).eq (v':=.bool q) (qn (by rw[f];simp))) ?_));refine p_ ?_;refine x4 _ rfl (G8 q) i_ pre rfl rfl (l6.le_refl _) (fun v h=>⟨(by rw[a,z6,zk (zq (f.symm.trans h.1))]),h.2⟩) ?_;rintro v A ⟨e,rfl,rfl⟩;refine u7 ?_;rw[z6,zu (qr (f.symm.trans e))] at a;refine L7 ?_;exact d_ rfl rfl [H8 b s (p+(N9 P0 s p).length) c x] ⟨_,a,rfl,rfl⟩ i_
theorem Lt{s:Bs}{p:Nat}{r:Bs×Nat}(hp:p<=s.length)(h:mE s p=some r):p<=r.2/\r.2<=s.length/\r.1.length<=4096:=by
 unfold mE at h;obtain⟨e,a,h⟩:=zc.1 h;obtain⟨⟨n,f⟩,b,h⟩:=zc.1 h;obtain⟨g,c,h⟩:=zc.1 h;have d:=C_ a x6;have i:=cp d.2.2 b;have a3:=C_ c x6;split at h
 ·have:=j8 h;subst this;have j:([123]:Bs).length=1:=rfl;have k:([125,13,10]:Bs).length=3:=rfl;simp only[zm,z8] at*;omega
 ·cases h
theorem mf(b:Nat)(s:Bs)(p:Nat)(c:CM)(x:CL)(hs:s.length<=1000000000000)(hp:p<=s.length):Cx prog 283 [l9 b] Gl [H8 b s p c x] (fun v A=>∃r,mE s p=some r/\v=B r.1/\A=[H8 b s r.2 c x]) (fM (mE s p)):=by
 refine B7 40 func283 rfl rfl rfl ?_;intro F hg;obtain⟨W,a⟩:=o7 (mE s p);rw[<-a];unfold mE at a;refine y9 ?_;refine x4 _ rfl (D7 b s [123] p c x hs hp x6) i_ pre rfl rfl (l6.le_refl _) (fun v h=>⟨(by rw[a,h.1];rfl),h.2⟩) ?_;rintro v A ⟨m,j,rfl,rfl⟩;refine u7 ?_;rw[j,z6] at a;have e:=C_ j x6;refine p_ ?_;refine x4 _ rfl (Y0 b s 4096 m c x hs e.2.2 qp) i_ pre rfl rfl (l6.le_refl _) (fun v h=>⟨(by rw[a,h.1];rfl),h.2⟩) ?_;rintro v A ⟨⟨n,o⟩,f,rfl,rfl⟩;refine f_ (bu rfl (by have:=(cp e.2.2 f).1;simp only at this;omega)) ?_;refine p_ ?_;rw[f,z6] at a;have k:=cp e.2.2 f;simp only at k a;refine p_ ?_;refine x4 _ rfl (D7 b s [125,13,10] o c x hs k.2.2 x6) i_ pre rfl rfl (l6.le_refl _) (fun v h=>⟨(by rw[a,h.1];rfl),h.2⟩) ?_;rintro v A ⟨d,l,rfl,rfl⟩;refine u7 ?_;rw[l,z6] at a;have a3:=C_ l x6;obtain⟨q,g⟩:=o7 (decide (d+n<=s.length));refine p_ ?_;refine x5 _ rfl (aN b s d c x hs a3.2.2) i_ qw rfl ?_;rintro v A ⟨rfl,rfl⟩;refine y9 ?_;refine f_ ((I4 rfl rfl).eq (v':=.bool q) (qn (by rw[g,z8];apply zp.2;omega))) ?_;refine x4 _ rfl (G8 q) i_ pre rfl rfl (l6.le_refl _) (fun v h=>⟨(by rw[a,zk (zq (g.symm.trans h.1))]),h.2⟩) ?_;rintro v A ⟨t,rfl,rfl⟩;refine u7 ?_;have i:=qr (g.symm.trans t);rw[zu i] at a;refine au ?_;refine f_ ((p9 rfl rfl qb).eq (v':=.int .i64 ((d+n:Nat):Int)) (by congr 1)) ?_;refine E5 ?_;refine Aj [3,7,13] [] 16 ?_;refine wd [0,1,2,3,4,5,6,7,8] ?_;refine w_ 9 rfl ((E0 rfl rfl qb).eq (v':=.int .i64 (d:Nat)) (by congr 1;omega)) ?_;refine wd [10,11,12,13] ?_;refine w_ 14 rfl ((H5 rfl rfl rfl qb).eq (v':=B ((s.drop d).take n)) (by rw[jN qb,Nat.add_sub_cancel_left])) ?_;refine wd [15] ?_;refine A2 ?_;exact d_ rfl rfl [H8 b s (d+n) c x] ⟨_,a,rfl,rfl⟩ i_
open Go Go.Sl Go.Proofs.Tryz
theorem pc{b:UInt8}(r:Bs):∀(w:Bs),(∀c∈w,c≠b)->Lib.index (w++b::r) [b]=(w.length:Nat)
 |[],_=>by simp[Lib.index]
 |c::w,h=>by
  have a:=pc (b:=b) r w fun x d=>h x (jj _ d);have hc:((b==c)=false):=beq_eq_false_iff_ne.mpr (fun e=>h c x6 e.symm);have hp:([b]:Bs).isPrefixOf (c::(w++b::r))=false:=by simp[List.isPrefixOf,hc]
  rw[Q7,Lib.index,hp,a];have f:(((w.length:Nat):Int)== -1)=false:=beq_eq_false_iff_ne.mpr qb;simp[f]
theorem vM{b:UInt8}:∀(w:Bs),(∀c∈w,c≠b)->Lib.index w [b]= -1
 |[],_=>by simp[Lib.index]
 |c::w,h=>by
  have a:=vM (b:=b) w fun x d=>h x (jj _ d);have hc:((b==c)=false):=beq_eq_false_iff_ne.mpr (fun e=>h c x6 e.symm);have hp:([b]:Bs).isPrefixOf (c::w)=false:=by simp[List.isPrefixOf,hc]
  rw[Lib.index,hp,a];simp
theorem mg(b:UInt8)(s:Bs):(∀c∈s,c≠b)\/∃w r,s=w++b::r/\∀c∈w,c≠b:=by
 by_cases h:b∈s
 ·refine .inr ?_;have hs:=bw (fun c=>c !=b) s;have f:=gQ (fun c=>c !=b) s;have a:=fB (fun c=>c !=b) s
  cases hd:s.drop (s.takeWhile fun c=>c !=b).length with
  |nil=>
   rw[hd,z7] at hs;rw[hs] at h;have:=f b h;simp at this
  |cons d r=>
   rw[hd] at hs a;have:d=b:=(by have:=a d x6;simpa using this);subst this;exact⟨_,r,hs,fun c hc=>by simpa using f c hc⟩
 ·exact .inl fun c hc e=>h (e▸hc)
theorem jR(b:UInt8):∀(k:Nat) (s:Bs),s.count b=k->Lib.splitK [b] 0 k s=G7 b s
 |0,s,h=>by
  rw[fE b s (fun c hc e=>by subst e;have:=List.count_pos_iff.mpr hc;omega)];rfl
 |k+1,s,h=>by
  rcases mg b s with a|⟨w,r,rfl,a⟩
  ·have:s.count b=0:=Jp.mpr (fun hc=>a b hc rfl);omega
  ·have hc:r.count b=k:=by
    rw[List.count_append,List.count_cons_self] at h;have:w.count b=0:=Jp.mpr (fun hc=>a b hc rfl);omega
   rw[ow,fE b w a,Lib.splitK,pc r w a];have d:(((w.length:Nat):Int)== -1)=false:=beq_eq_false_iff_ne.mpr qb;rw[d];simp only[Kw,if_false,jm,Q3,K9];rw[show(w++b::r).drop (w.length+[b].length)=r by simp,jR b k r hc];rfl
theorem Dh(b:UInt8)(s:Bs):(G7 b s).length<=s.length+1/\∀f∈G7 b s,f.length<=s.length:=by
 induction s with
 |nil=>simp[G7]
 |cons c t ih=>
  unfold G7;split
  ·refine⟨by simp;omega,fun f hf=>?_⟩;rcases ky.mp hf with rfl|hf
   ·simp
   ·have:=ih.2 f hf;simp;omega
  ·split
   ·simp
   ·next w a h=>
    rw[h] at ih;refine⟨by simpa using by have:=ih.1;simp at this;omega,fun f hf=>?_⟩;rcases ky.mp hf with rfl|hf
    ·have:=ih.2 w x6;simp;omega
    ·have:=ih.2 f (by simp[hf]);simp;omega
theorem Di(p:Bs):Lib.cut p [58]=(p.takeWhile (fun c=>c !=58),if(p.takeWhile fun c=>c !=58).length<p.length then p.drop ((p.takeWhile fun c=>c !=58).length+1) else[],decide ((p.takeWhile fun c=>c !=58).length<p.length)):=by
 unfold Lib.cut;rcases mg 58 p with h|⟨w,r,rfl,h⟩
 ·have e:p.takeWhile (fun c=>c !=58)=p:=by
   have:=bL (fun c=>c !=58) p [] (fun c hc=>by simpa using h c hc) x6;simpa using this
  rw[vM p h,e];simp
 ·have e:(w++58::r).takeWhile (fun c=>c !=58)=w:=bL (fun c=>c !=58) w (58::r) (fun c hc=>by simpa using h c hc) x6;rw[pc r w h,e];have a:((w.length:Nat):Int).toNat=w.length:=jm _;rw[zu qb,a,K9];simp
open Go Go.Sl Go.RowKit Go.Proofs.Tryz
def yr(w:Bs):Nat:=if w=[42] then 0 else(aW w).getD 0
theorem rO{w:Bs}{n:Nat}(h:fF w=some n):yr w=n:=by
 unfold fF at h;unfold yr;split at h
 ·next e=>rw[zu e];exact j8 h
 ·next e=>
  rw[zk e]
  cases e2:aW w with
  |none=>rw[e2] at h;cases h
  |some m=>
   rw[e2] at h;simp only at h;split at h
   ·exact j8 h
   ·cases h
theorem GE(w:Bs)(d:w.length<=281474976710656):Pu prog 395 [B w] Gl (.tuple #[.int .u64 (yr w:Nat),.bool (fF w).isSome]):=by
 refine b_ 23 func395 rfl rfl rfl ?_;intro F hg;refine E5 ?_;refine f_ (B_ rfl rfl) ?_;refine N8 ?_ ?_<;>intro h
 ·have e:w=[42]:=by simpa using h
  subst e;refine L7 ?_;exact r7 rfl rfl rfl [] qh i_
 ·have e:w≠[42]:=by simpa using h
  have j:yr w=(aW w).getD 0:=by unfold yr;rw[zk e]
  have k:fF w=match aW w with|none=>none|some n=>if 0<n/\n<=4294967295 then some n else none:=by unfold fF;rw[zk e];cases aW w<;>rfl
  rw[j,k];refine u7 ?_
  cases hn:aW w with
  |none=>
   refine p_ ?_;refine e_ rfl (eN w d) (fun h c l=>hg.le c) rfl ?_;rw[hn];simp only[Gg];refine wk 17 ?_;refine A2 ?_;exact r7 rfl rfl rfl [] qh i_
  |some n=>
   obtain⟨f,g⟩:=o7 (decide (0<n));obtain⟨m,i⟩:=o7 (decide (n<=4294967295));have o:(if 0<n/\n<=4294967295 then some n else none).isSome=(f&&m):=by
    rw[g,i];by_cases a:0<n<;>by_cases b:n<=4294967295<;>simp[a,b]
   simp only[Zh];rw[o];refine p_ ?_;refine e_ rfl (eN w d) (fun h c l=>hg.le c) rfl ?_;rw[hn];simp only[Gg,Zh];refine au ?_
   cases f
   all_goals (
    refine O2 ?_;(first|refine u_ ?_|(refine v_ ?_;refine f_ ((D_ rfl rfl).eq (qn ((qz).trans g.symm))) ?_));refine E5 ?_;(first|refine u_ ?_|(refine v_ ?_;refine f_ ((F_ rfl rfl).eq (qn ((qz).trans i.symm))) ?_));refine E5 ?_)
   all_goals (refine A2 ?_;exact r7 rfl rfl rfl [] qh i_)
theorem rP:∀(l:List Bs) (p:Bs) (a:List (Nat×Nat)),av l=some a->av (l++[p])=(qS p).map fun r=>a++[r]
 |[],p,a,h=>by
  have:=j8 h;subst this;simp only[j7,av]
  cases qS p<;>rfl
 |x::l,p,a,h=>by
  rw[av] at h;rw[Q7,av]
  cases h1:qS x with
  |none=>rw[h1] at h;cases h
  |some r=>
   rw[h1] at h
   cases h2:av l with
   |none=>rw[h2] at h;cases h
   |some b=>
    rw[h2] at h;have:=j8 h;subst this;rw[rP l p b h2]
    cases qS p<;>rfl
theorem rQ:∀(l m:List Bs),av l=none->av (l++m)=none
 |[],m,h=>by cases h
 |x::l,m,h=>by
  rw[av] at h;rw[Q7,av]
  cases h1:qS x with
  |none=>rfl
  |some r=>
   rw[h1] at h
   cases h2:av l with
   |none=>rw[rQ l m h2]
   |some b=>rw[h2] at h;cases h
theorem jS:∀(l:List Bs) (a:List (Nat×Nat)),av l=some a->a.length=l.length
 |[],a,h=>by have:=j8 h;subst this;rfl
 |x::l,a,h=>by
  rw[av] at h
  cases h1:qS x with
  |none=>rw[h1] at h;cases h
  |some r=>
   rw[h1] at h
   cases h2:av l with
   |none=>rw[h2] at h;cases h
   |some b=>
    rw[h2] at h;have:=j8 h;subst this;simp[jS l b h2]
theorem Dj(s:Bs)(hs:s.length<4294967281):Ct prog 248 [B s,B [44]] Gl [] (fun v A=>∃a c,v=.slice a (G7 44 s).length c/\A=[A4 a (G7 44 s) c]):=by
 intro w i f j d;have k:i=[]:=f;subst k;rw[N3] at d;obtain⟨m,t,l,n⟩:=d.m;have hc:=Tryz.strings_Split (C7 s) (C7 [44]) m w (by simpa[ByteArray.size] using hs) (lZ n) qp;refine hc.mono ?_;rintro e x ⟨rfl,rfl⟩;have g:Lib.countB (C7 s) (C7 [44])=s.count 44:=Lib.count_one 44 s;have h:=Lib.splitB_data (C7 [44]) 0 (Lib.countB (C7 s) (C7 [44])) (C7 s);have o:(C7 [44]).data.toList=[44]:=rfl;have p:(C7 s).data.toList=s:=rfl;rw[o,p,g,jR 44 _ s rfl] at h;have q:(Lib.splitB (C7 [44]) 0 (Lib.countB (C7 s) (C7 [44])) (C7 s)).length=Lib.countB (C7 s) (C7 [44])+1:=Lib.splitB_all _ qp 0 _ _ rfl;have b:(Lib.splitB (C7 [44]) 0 (Lib.countB (C7 s) (C7 [44])) (C7 s)).map Value.string=fV (G7 44 s):=by
  rw[g,<-h];simp[fV,Z9]
 have r:Lib.countB (C7 s) (C7 [44])+1=(G7 44 s).length:=by
  rw[<-q,g,<-h,zr]
 rw[b,r];refine⟨_,[A4 (some ⟨w.heap.size,0,none⟩) (G7 44 s) (G7 44 s).length],rfl,⟨_,_,rfl,rfl⟩,?_⟩;have u:Hp (q_ w []) w []:=Hp.start (C:=[]) (bs:=[]) rfl Zx;exact O8 (xs:=fV (G7 44 s)) (post:=[]) (fr:=(0,0)) u (by rw[L8];omega) (by rw[z7,L8];omega) (z1 _) (.inl (z1 _)) x6
theorem GF(s:Bs)(hs:s.length<4294967281):Pu prog 394 [B s,B [58]] Gl (.tuple #[B (s.takeWhile fun c=>c !=58),B (if(s.takeWhile fun c=>c !=58).length<s.length then s.drop ((s.takeWhile fun c=>c !=58).length+1) else[]),.bool (decide ((s.takeWhile fun c=>c !=58).length<s.length))]):=dS fun w hg=>by
 obtain⟨m,t,d,a⟩:=hg.m;have hc:=Tryz.strings_Cut (C7 s) (C7 [58]) m w (by simpa[ByteArray.size] using hs) (lZ a);rw[show Lib.cut (C7 s).data.toList (C7 [58]).data.toList=_ from Di s] at hc;refine hc.mono ?_;rintro e f ⟨b,n,rfl⟩;exact⟨b,rfl,rfl,rfl,z1 _,fun _ _=>rfl⟩
theorem rR(f:UInt8->Bool)(s:Bs):(s.takeWhile f).length<=s.length:=(J2 f).length_le
theorem Dk(s:Bs)(hs:s.length<=4000000000):Ct prog 346 [B s] Gl [] (fun v A=>∃a c l,v=.tuple #[.slice a l.length c,.bool (vq s).isSome]/\A=[V1 a l c]/\∀r,vq s=some r->l=r):=by
 refine b_ 59 func346 rfl rfl rfl ?_;intro F hg;have S:=Dh 44 s;obtain⟨W,n⟩:=o7 (vq s);rw[<-n];unfold vq at n;refine E5 ?_;refine x5 _ rfl (Dj s qb) i_ (fun h D J=>hg.le D) rfl ?_;rintro v A ⟨a4,V,rfl,rfl⟩;refine p_ ?_;obtain⟨f,X⟩:=o7 (G7 44 s);rw[<-X] at n S⊢;refine eI ?_ ?_<;>intro h
 ·rw[zu (by simp at h;omega)] at n;rw[n];refine L7 ?_;exact r7 rfl rfl rfl [V1 none [] 0] ⟨none,0,[],rfl,rfl,fun r h=>by cases h⟩ (fun w j=>j.drop.addNil _ _)
 ·rw[zk (by simp at h;omega)] at n;refine bZ (H:=[]) (Z:=[A4 a4 f V]) fun F' Y J=>?_;obtain⟨bs,J⟩:=J;have T:o0 F'.heap a4 (fV f):=A3.rd J .del;have M:Gl F'.heap:=hg.le Y.heap;have h0:f.length<=64:=by simp at h;omega
  refine O2 ?_;refine O7 178 2 ?_;refine o9 (ι:=Nat×List (Nat×Nat)×Option Addr×Nat) (fun i=>i.1<=f.length/\av (f.take i.1)=some i.2.1) (fun i=>[(5,.slice i.2.2.1 i.2.1.length i.2.2.2),(20,.slice a4 f.length V),(21,.int .i64 (f.length:Nat)),(22,.int .i64 (i.1:Nat))]) (fun i=>[V1 i.2.2.1 i.2.1 i.2.2.2]) (fun i=>f.length-i.1) (0,[],none,0) ⟨by simp,by simp[av]⟩ ?_ ?_ ?_
  ·exact sub
  ·intro w j;exact j
  rintro⟨k,o,b,d⟩ ⟨hk,hc⟩;simp only at hk hc;have h1:=jS _ _ hc;rw[zm] at h1;refine R6 ?_ ?_<;>intro h
  ·have p:k<f.length:=(by simp at h;omega);have O:=cg T p;have h4:=S.2 _ (dQ p);have h5:f.take (k+1)=f.take k++[f.getD k []]:=NP p;have m:=rP (f.take k) (f.getD k []) o hc;rw[<-h5] at m;obtain⟨w,j⟩:=o7 (f.getD k []);obtain⟨g,Q⟩:=o7 (w.takeWhile fun c=>c !=58);obtain⟨q,hq⟩:=o7 (decide (g.length<w.length));obtain⟨wb,t⟩:=o7 (if g.length<w.length then w.drop (g.length+1) else g);rw[<-j] at h4 m;have h6:g.length<=w.length:=(by rw[Q];exact rR _ _);have h9:wb.length<=w.length:=by
    rw[t];split
    ·rw[z8];omega
    ·exact h6
   have U:qS w=match fF g,fF wb with|some x,some y=>some (x,y)|_,_=>none:=by
    unfold qS;simp only;rw[<-Q,<-t]
    cases fF g<;>cases fF wb<;>rfl
   refine C6 ?_;refine f_ (m8 rfl O rfl qb) ?_;refine r_ ((i8 rfl (fun w j=>OT j T (i:=k) qb p)).eq (v':=B w) (by rw[j])) ?_;refine y9 ?_;refine e_ rfl (GF w qb) (fun h D J=>M.le D) rfl ?_;rw[<-Q,<-hq];refine wk 9 ?_;refine w6 [(5,.slice b o.length d),(8,B g),(9,B wb),(20,.slice a4 f.length V),(21,.int .i64 (f.length:Nat)),(22,.int .i64 (k:Nat))] [V1 b o d] ?_ ?_
   ·refine o8 rfl ?_ ?_<;>intro C
    ·have e:wb=g:=(by rw[t,zk (zq (hq.symm.trans (by simpa using C)))]);rw[e];refine y9 ?_;exact o_ sub i_
    ·have e:(if g.length<w.length then w.drop (g.length+1) else[])=wb:=by
      have h3:=qr (hq.symm.trans (by simpa using C));rw[t,zu h3,zu h3]
     rw[e];refine u7 ?_;exact o_ sub i_
   obtain⟨q1,u⟩:=o7 ((fF g).isSome);obtain⟨q2,z⟩:=o7 ((fF wb).isSome);refine p_ ?_;refine e_ rfl (GE g qb) (fun h D J=>M.le D) rfl ?_;rw[<-u];refine cG ?_;refine e_ rfl (GE wb qb) (fun h D J=>M.le D) rfl ?_;rw[<-z];refine au ?_;refine w6 [(5,.slice b o.length d),(11,.int .u64 (yr g:Nat)),(13,.int .u64 (yr wb:Nat)),(20,.slice a4 f.length V),(21,.int .i64 (f.length:Nat)),(22,.int .i64 (k:Nat)),(50,.bool (!q1||!q2))] [V1 b o d] ?_ ?_
   ·cases q1
    all_goals (
     refine cG ?_)
    all_goals exact o_ sub i_
   refine N8 ?_ ?_<;>intro C
   ·have e:qS w=none:=by
     rw[U]
     cases e1:fF g with
     |none=>rfl
     |some x=>
      cases e2:fF wb with
      |none=>rfl
      |some y=>rw[e1] at u;rw[e2] at z;rw[u,z] at C;cases C
    have e2:W=none:=by
     rw[e] at m;have:=rQ _ (f.drop (k+1)) m;rw[Qk] at this;rw[n,this]
    rw[e2];refine L7 ?_;refine Fq Y ?_;exact r7 rfl rfl rfl [V1 none [] 0] ⟨none,0,[],rfl,rfl,fun r h=>by cases h⟩ (fun w j=>j.drop.addNil _ _)
   ·rw[Q1] at C;obtain⟨x,hx⟩:∃x,fF g=some x:=Zc.1 (by rw[<-u];simpa using C.1);obtain⟨y,hy⟩:∃x,fF wb=some x:=Zc.1 (by rw[<-z];simpa using C.2);rw[U,hx,hy] at m;rw[rO hx,rO hy];refine O2 ?_;refine x7 rfl rfl rfl rfl rfl rfl (xs:=V5 [(x,y)]) rfl rfl ?_;intro a46 h8;refine C0 rfl rfl (fun a' c'=>.there .here) (fun w j=>(j.ownN ud).2.2.1) rfl rfl rfl (eM _) (by show(o.length+1)*16<=_;omega) qb rfl ?_;intro a5 c5 k0;refine E5 ?_;refine l8 (k+1,o++[(x,y)],a5,c5) ⟨by simp only;omega,by simp only;rw[m];rfl⟩ qg ?_ ?_
    ·simp only[zz,jp];exact sub
    ·intro w j;simp only[V1,zz,jp];rw[oG];exact j.drop
  ·have h7:k=f.length:=(by simp at h;omega);rw[h7,j9] at hc;rw[hc] at n;rw[n];refine bS ?_;refine Fq Y ?_;exact r7 rfl rfl rfl [V1 b o d] ⟨b,d,o,rfl,rfl,fun r h=>j8 h⟩ i_
theorem GG(s p:Bs)(hs:s.length<4294967281):Pu prog 372 [B s,B p] Gl (.int .i64 (Lib.index s p)):=U0 fun w hg=>by
 obtain⟨m,t,b,a⟩:=hg.m;exact Tryz.strings_Index (C7 s) (C7 p) m w (by simpa[ByteArray.size] using hs) (lZ a)
theorem vN(s p:Bs)(hs:s.length<4294967281):Pu prog 348 [B s,B p] Gl (.bool (Lib.contains s p)):=U0 fun w hg=>by
 obtain⟨m,t,b,a⟩:=hg.m;exact Tryz.strings_Contains (C7 s) (C7 p) m w (by simpa[ByteArray.size] using hs) (lZ a)
theorem pd(a:Bs):∀(k:Nat) (s:Bs),(Lib.splitK a 0 k s).flatten.length<=s.length
 |0,s=>by show([s]:List Bs).flatten.length<=_;simp
 |k+1,s=>by
  unfold Lib.splitK;split
  ·simp
  ·rw[K6,zz];have:=pd a k (s.drop ((Lib.index s a).toNat+a.length));rw[z8] at this;rw[zm];omega
theorem Dl(s p:Bs)(hs:s.length<4294967281)(hp:1<=p.length):Ct prog 248 [B s,B p] Gl [] (fun v A=>∃a l,v=.slice a l.length l.length/\A=[A4 a l l.length]/\l.length<=s.length+1/\l.flatten.length<=s.length):=by
 intro w i f j c;have k:i=[]:=f;subst k;rw[N3] at c;obtain⟨m,t,n,o⟩:=c.m;have d:1<=(C7 p).size:=by simpa[ByteArray.size] using hp
 have hc:=Tryz.strings_Split (C7 s) (C7 p) m w (by simpa[ByteArray.size] using hs) (lZ o) d;refine hc.mono ?_;rintro e D ⟨rfl,rfl⟩;have J:=Lib.countB_le (C7 p) d _ (C7 s) (z1 _);have q:(C7 s).size=s.length:=by simp[ByteArray.size]
 have h:=Lib.splitB_data (C7 p) 0 (Lib.countB (C7 s) (C7 p)) (C7 s);have r:(C7 p).data.toList=p:=rfl;have u:(C7 s).data.toList=s:=rfl;rw[r,u] at h;have x:(Lib.splitB (C7 p) 0 (Lib.countB (C7 s) (C7 p)) (C7 s)).length=Lib.countB (C7 s) (C7 p)+1:=Lib.splitB_all _ d 0 _ _ rfl;obtain⟨l,g⟩:=o7 (Lib.splitK p 0 (Lib.countB (C7 s) (C7 p)) s);rw[<-g] at h;have b:(Lib.splitB (C7 p) 0 (Lib.countB (C7 s) (C7 p)) (C7 s)).map Value.string=fV l:=by
  rw[<-h];simp[fV,Z9]
 have y:Lib.countB (C7 s) (C7 p)+1=l.length:=by
  rw[<-x,<-h,zr]
 rw[b,y];refine⟨_,[A4 (some ⟨w.heap.size,0,none⟩) l l.length],rfl,⟨_,l,rfl,rfl,by omega,by rw[g];exact pd p _ s⟩,?_⟩;have z:Hp (q_ w []) w []:=Hp.start (C:=[]) (bs:=[]) rfl Zx;exact O8 (xs:=fV l) (post:=[]) (fr:=(0,0)) z (by rw[L8];omega) (by rw[z7,L8];omega) (z1 _) (.inl (z1 _)) x6
abbrev GH(l:Bs):Obj:=.cells (Lib.setCells l) 458 (0,0)
theorem yt(l:Bs)(hs:l.length<4294967281)(ha:∀b∈l,b.toNat<128):Pu prog 454 [B l] (fun _=>True) (.tuple #[.agg (Lib.setCells l),.bool true]):=dS fun w _=>by
 refine(Tryz.strings_makeASCIISet (fun w=>by kernel_rfl) (C7 l) w (by simpa[ByteArray.size] using hs) (fun j b h=>ha b (J8 h))).mono ?_;rintro e d ⟨c,rfl⟩;exact⟨c,rfl,rfl,rfl,by show _<=(w.heap.push _).size;simp,fun k a=>by show(w.heap.push _)[k]? =_;rw[Array.getElem?_push_lt a,Qr a]⟩
theorem rS(l:Bs)(g:Nat)(c:UInt8):Pu prog 465 [l9 g,.int .u8 (c.toNat:Nat)] (fun h=>h g=some (GH l)) (.bool (l.contains c)):=U0 fun w hg=>by
 refine Tryz.asciiSet_contains g c (l.contains c) w ?_;have a:w.heap[g]? =some (GH l):=hg;have b:=Lib.setCells_at l c;simp[World.cell?,l_.cell?,a,b]
abbrev Ua(c:UInt8):Value:=.int .u8 (c.toNat:Nat)
theorem Dm(cs s:Bs)(g:Nat)(hs:s.length<=1000000000):Ct prog 455 [B s,l9 g] (fun h=>h g=some (GH cs)) [] (fun v A=>(∃t,v=B t/\t.length<=s.length)/\A=[]):=by
 refine b_ 16 func455 rfl rfl rfl ?_;intro F hg;refine H9 1 ?_;refine n7 (ι:=Bs) (fun t=>t.length<=s.length) (fun t=>[(0,B t)]) (fun _=>[]) ?_ ?_
 ·refine n8 ?_;refine o9 (ι:=Bs) (fun t=>t.length<=s.length) (fun t=>[(0,B t),(1,l9 g)]) (fun _=>[]) (fun t=>t.length) s (z1 _) sub i_ ?_;intro t a;refine eI ?_ ?_<;>intro h
  ·have c:0<t.length:=(by simpa using h);refine E5 ?_;refine e_ rfl (rS cs g (t.getD 0 0)) (fun h b _=>b _ _ hg) rfl ?_;refine p_ ?_
   cases cs.contains (t.getD 0 0)
   ·refine u7 ?_;exact g_ t a i_
   ·refine E5 ?_;exact l8 (List.take ((t.length:Int).toNat-Int.toNat 1) (List.drop (Int.toNat 1) t)) (by rw[zm,z8];omega) (by rw[zm,z8];simp;omega) sub i_
  ·refine u7 ?_;exact g_ t a i_
 intro t a;refine L7 ?_;exact d_ rfl rfl [] ⟨⟨t,rfl,a⟩,rfl⟩ i_
theorem Dn(cs s:Bs)(g:Nat)(hs:s.length<=1000000000):Ct prog 456 [B s,l9 g] (fun h=>h g=some (GH cs)) [] (fun v A=>(∃t,v=B t/\t.length<=s.length)/\A=[]):=by
 refine b_ 22 func456 rfl rfl rfl ?_;intro F hg;refine H9 1 ?_;refine n7 (ι:=Bs) (fun t=>t.length<=s.length) (fun t=>[(0,B t)]) (fun _=>[]) ?_ ?_
 ·refine n8 ?_;refine o9 (ι:=Bs) (fun t=>t.length<=s.length) (fun t=>[(0,B t),(1,l9 g)]) (fun _=>[]) (fun t=>t.length) s (z1 _) sub i_ ?_;intro t a;refine eI ?_ ?_<;>intro h
  ·have c:0<t.length:=(by simpa using h);refine cG ?_;refine e_ rfl (rS cs g (t.getD ((t.length:Int)-1).toNat 0)) (fun h b _=>b _ _ hg) rfl ?_;refine p_ ?_
   cases cs.contains (t.getD ((t.length:Int)-1).toNat 0)
   ·refine u7 ?_;exact g_ t a i_
   ·refine cG ?_;exact l8 (List.take (((t.length:Int)-1).toNat-0) (List.drop 0 t)) (by rw[zm,z8];omega) (by rw[zm,z8];omega) sub i_
  ·refine u7 ?_;exact g_ t a i_
 intro t a;refine L7 ?_;exact d_ rfl rfl [] ⟨⟨t,rfl,a⟩,rfl⟩ i_
theorem Lu(g:Nat)(cs S:Array Value)(hc:cs.size=256)(a:S.size=256):M3 [.blk g (.cells cs 458 (0,0))] (.blk g (.cells cs 458 (0,0))) [.blk g (.cells (eC cs 0 (Value.agg (S)).cells.toList) 458 (0,0))] [.blk g (.cells S 458 (0,0))]:=by
 have h:eC cs 0 (Value.agg (S)).cells.toList=S:=by
  unfold eC;simp only[Value.cells,Kx,j7,Zs,a];rw[Qc (by simp;omega),z7]
 rw[h];exact .here
theorem Oa{h:l_}{g:Nat}{o:Obj}{bs:List Nat}(a:A3 h [.blk g o] bs):h g=some o:=by
 obtain⟨c,d,e,⟨f,b⟩,_⟩:=a;exact b
theorem Lv(s:Bs)(hs:s.length<=1000000000):Ct prog 437 [B s,B [32,9]] (fun _=>True) [] (fun v A=>(∃t,v=B t/\t.length<=s.length)/\A=[]):=by
 obtain⟨q,d⟩:=o7 (decide (s=[]));obtain⟨S,e⟩:=o7 (Lib.setCells [32,9]);have a:=yt [32,9] qp qp;have b:=Lib.setCells_size [32,9];have c:=Lib.setCells_one [32,9];rw[<-e] at a b c;have f:=Dn [32,9];have g:=Dm [32,9];unfold GH at f g;rw[<-e] at f g;clear e;refine b_ 43 func437 rfl rfl rfl ?_;intro F _;refine p_ ?_;refine w6 [(0,B s),(1,B [32,9]),(12,.bool q)] [] ?_ ?_
 ·cases q
  all_goals (
   refine p_ ?_;refine f_ ((B_ rfl rfl).eb d) ?_;refine O2 ?_)
  all_goals exact o_ sub i_
 refine N8 ?_ ?_<;>intro h
 ·refine L7 ?_;exact d_ rfl rfl [] ⟨⟨s,rfl,z1 _⟩,rfl⟩ i_
 refine wk 9 ?_;refine e_ rfl a qw rfl ?_;refine E5 ?_;refine i7 (cs:=Array.replicate 256 (.bool false)) (hz:=⟨fun w=>by kernel_rfl⟩) rfl ?_;intro i;refine I6 (te:=458) (n:=256) (cs:=Array.replicate 256 (.bool false)) (H':=[.blk i (.cells S 458 (0,0))]) rfl rfl ?u b (fun q d=>(Array.all_eq_true'.1 c) q (Array.mem_toList_iff.1 d)) x6 ?_;(case u=>exact Lu _ _ _ x6 b);refine E5 ?_;refine c_ (f s i hs) ?pre ?_;(case pre=>exact fun h l ⟨m,j⟩=>Oa j);rintro v A ⟨⟨t,rfl,o⟩,rfl⟩;refine c_ (g t i qb) ?pre2 ?_;(case pre2=>exact fun h l ⟨m,j⟩=>Oa j);rintro v A ⟨⟨t2,rfl,k⟩,rfl⟩;refine C8 ?_;exact d_ rfl rfl [] ⟨⟨t2,rfl,ju k o⟩,rfl⟩ (fun w p=>p.dropAll)
abbrev TxQ(n:Nat)(v:Value)(A:List As):Prop:=(∃t:Bs,v=B t/\t.length<=n)/\A=[]
abbrev Ub(v:Value)(A:List As):Prop:=(∃q:Bool,v=.bool q)/\A=[]
theorem Do{p s:Bs}(h:p.isPrefixOf s=true):p.length<=s.length:=(List.isPrefixOf_iff_prefix.1 h).length_le
theorem yu(s:Bs)(f c:Nat)(hs:s.length<=1000000000):Ct prog 364 [B s,.int .u64 (f:Nat),.int .u64 (c:Nat)] (fun _=>True) [] (TxQ s.length):=by
 refine b_ 21 func364 rfl rfl rfl ?_;intro F _;refine wk 9 ?_;have a:(List.take ((s.length:Int).toNat-(min (f:Int) (s.length:Int)).toNat) (List.drop (min (f:Int) (s.length:Int)).toNat s)).length<=s.length:=by rw[zm,z8];omega
 revert a
 generalize List.take ((s.length:Int).toNat-(min (f:Int) (s.length:Int)).toNat) (List.drop (min (f:Int) (s.length:Int)).toNat s)=t;intro a;refine NN ?_;exact d_ rfl rfl [] ⟨⟨_,rfl,by rw[zm];simp only[z8];omega⟩,rfl⟩ i_
theorem rT(m:Bs)(hs:m.length<=1000000000):Ct prog 406 [B m] Gl [] (fun v A=>(∃h t:Bs,v=.tuple #[B h,B t]/\h.length<=m.length/\t.length<=m.length)/\A=[]):=by
 refine b_ 22 func406 rfl rfl rfl ?_;intro F hg;refine E5 ?_;refine e_ rfl (ai m [13,10]) qw rfl ?_;refine N8 ?_ ?_<;>intro h
 ·have c:=Do h;have d:2<=m.length:=c;refine u7 ?_;refine fZ ([],[],[]) 4 rfl ?_;refine wd [0,1,2,3] ?_;refine A2 ?_;exact r7 rfl rfl rfl [] ⟨⟨_,_,rfl,d,by rw[zm,z8];omega⟩,rfl⟩ i_
 refine u7 ?_;obtain⟨i,b⟩:=o7 (Lib.index m [13,10,13,10]);have a:=Lib.index_room m [13,10,13,10];rw[<-b] at a;refine p_ ?_;refine e_ rfl (GG m [13,10,13,10] qb) (fun h e _=>hg.le e) rfl ?_;rw[<-b];refine eI ?_ ?_<;>intro h
 ·have f:0<=i:=qr h;have g:i+4<=m.length:=a f;refine u7 ?_;refine fZ ([],[],[]) 10 rfl ?_;refine wd [0,1,2,3,4,5,6,7,8,9] ?_;refine A2 ?_;exact r7 rfl rfl rfl [] ⟨⟨_,_,rfl,by rw[zm,z8];omega,by rw[zm,z8];omega⟩,rfl⟩ i_
 refine bS ?_;exact r7 rfl rfl rfl [] ⟨⟨m,[],rfl,z1 _,zw _⟩,rfl⟩ i_
theorem pf(s p:Bs)(hs:s.length<=1000000000)(hp:p.length<=2000000000):Ct prog 403 [B s,B p] Gl [] Ub:=by
 have b:(R8 s).length<=1000000000:=by unfold R8;rw[zr];exact hs
 refine b_ 10 func403 rfl rfl rfl ?_;intro F hg;refine y9 ?_;refine e_ rfl (I3 s qb) qw rfl ?_;refine p_ ?_;refine e_ rfl (I3 p qb) qw rfl ?_;refine e_ rfl (vN (R8 s) (R8 p) qb) (fun h a _=>hg.le a) rfl ?_;refine C8 ?_;exact d_ rfl rfl [] ⟨⟨_,rfl⟩,rfl⟩ i_
theorem pg(m:Bs)(k:Nat)(hs:m.length<=1000000000):Ct prog 363 [B m,.int .i64 (k:Nat)] Gl [] (TxQ m.length):=by
 obtain⟨b,e⟩:=o7 (decide (k=10));obtain⟨c,f⟩:=o7 (decide (k=11));obtain⟨d,g⟩:=o7 (decide (k=12));refine b_ 22 func363 rfl rfl rfl ?_;intro F hg;refine y9 ?_;refine c_ (C:=[]) (rT m hs) (fun h a _=>hg.le a) ?_;rintro v A ⟨⟨h,t,rfl,a,i⟩,rfl⟩;refine cG ?_;refine T0 ?_;refine f_ ((p8 rfl rfl).eq (v':=.bool b) (qn ((qz).trans e.symm))) ?_;refine p_ ?_
 cases b
 case true=>
  refine L7 ?_;exact d_ rfl rfl [] ⟨⟨m,rfl,z1 _⟩,rfl⟩ i_
 refine C6 ?_;refine f_ ((p8 rfl rfl).eq (v':=.bool c) (qn ((qz).trans f.symm))) ?_;refine p_ ?_
 cases c
 case true=>
  refine L7 ?_;exact d_ rfl rfl [] ⟨⟨h,rfl,a⟩,rfl⟩ i_
 refine C6 ?_;refine f_ ((p8 rfl rfl).eq (v':=.bool d) (qn ((qz).trans g.symm))) ?_;refine p_ ?_
 cases d
 case true=>
  refine L7 ?_;exact d_ rfl rfl [] ⟨⟨t,rfl,i⟩,rfl⟩ i_
 refine C8 ?_;exact d_ rfl rfl [] ⟨⟨[],rfl,zw _⟩,rfl⟩ i_
theorem jT(b:Nat)(s:SE)(x:SL)(d:DD)(y:DL)(op:Int):Ct prog 220 [l9 b,.int .i64 op] (fun _=>True) (O4 b s x d y) (fun v A=>v=QX (am (s,d) op) db/\A=O4 b s x d y):=by
 refine b_ 19 func220 rfl rfl rfl ?_;intro F _;refine C6 ?_;refine i7 rfl ?_;intro c;refine u7 ?_;refine D8 [6,12] [14] [E7 b s x d y] 15 ?_;refine wd [0,1,2,3,4,5,6,7,8,9,10,11,12] ?_;refine w_ 13 rfl (y8 (ps:=[(0,.tmp 5),(6,.tmp 11),(8,.tmp 17)]) (vs:=[(0,.int .i64 op),(6,B s.a5J.box),(8,.int .u64 (s.a5J.val:Nat))]) (cells:=(eA (am (s,d) op) db).toArray) rfl i6) ?_;refine wd [14] ?_;refine A2 ?_;exact G6 rfl rfl ud rfl _ qh (fun w a=>a.drop)
theorem dE(b:Nat)(s:SE)(x:SL)(d:DD)(y:DL)(c:CM)(k:CL)(r:RQ)(z:QL)(a:List Nat)(ua:Option Addr)(uc:Nat)(n:s.num<18446744073709551615):Ct prog 219 [l9 b,xE c k,QX r z,.slice ua a.length uc] (fun _=>True) (O4 b s x d y) (fun v A=>v=.tuple #[]/\A=O4 b (G3 (s,d) c r a).1 {x with cl:=k,ua:=ua,uc:=uc} (G3 (s,d) c r a).2 {y with ql:=z}):=by
 refine b_ 55 func219 rfl rfl rfl ?_;intro F _;obtain⟨i,f⟩:=o7 (decide (r.op=1));refine C6 ?_;refine m9 rfl rfl ?_;intro l;refine m9 rfl rfl ?_;intro j;refine u7 ?_;refine D8 [3] [8,12,16] [.blk l (.cells (li c k).toArray 36)] 17 ?_;refine wd [0,1,2,3,4,5,6,7,8,9,10,11,12,13,14,15,16] ?_;refine y9 ?_;refine f_ ((M1 rfl rfl).eq (v':=.bool (!i)) (jk (fun x=>Value.bool (!x)) f.symm)) ?_;refine u7 ?_
 cases i
 ·have g:¬r.op=1:=zq f.symm;have e:G3 (s,d) c r a=({s with a5P:=true,cmd:=c,a5L:=a,num:=s.num+1},{d with ask:=true,req:={r with ses:=s.ses,num:=s.num+1}}):=zk g;rw[e];refine au ?_;refine f_ ((K_ rfl rfl qb).eq (v':=.int .u64 ((s.num+1:Nat):Int)) (by congr 1)) ?_;refine O2 ?_;refine D8 [4,9] [11,13] [E7 b {s with a5P:=true,cmd:=c,a5L:=a,num:=s.num+1} {x with cl:=k,ua:=ua,uc:=uc} d y] 14 ?_;refine wd [0,1,2,3,4,5,6,7,8,9,10,11,12,13] ?_;refine u7 ?_;refine D8 [2] [6,10] [.blk j (.cells (eA {r with ses:=s.ses,num:=s.num+1} z).toArray 44)] 11 ?_;refine wd [0,1,2,3,4,5,6,7,8,9,10] ?_;exact m6 rfl _ qh fun w h=>h.drop.drop
 ·have m:r.op=1:=qr f.symm;have e:G3 (s,d) c r a=({s with a5P:=true,cmd:=c,a5L:=a},{d with ask:=true,req:=r}):=zu m;rw[e];refine u7 ?_;refine D8 [2] [6,10] [.blk j (.cells (eA r z).toArray 44)] 11 ?_;refine wd [0,1,2,3,4,5,6,7,8,9,10] ?_;exact m6 rfl _ qh fun w h=>h.drop.drop
abbrev GI(f:FuncId)(b:Nat)(s:SE)(x:SL)(d:DD)(y:DL)(c:CM)(k:CL)(q:SD):Prop:=Ct prog f [l9 b,xE c k] (fun _=>True) (O4 b s x d y) (fun v A=>v=.tuple #[]/\A=O4 b q.1 {x with cl:=k,ua:=none,uc:=0} q.2 {y with ql:=db})
theorem gw(b:Nat)(s:SE)(x:SL)(d:DD)(y:DL)(c:CM)(k:CL)(a:s.num<18446744073709551615):GI 148 b s x d y c k (lV (s,d) c):=by
 refine b_ 8 func148 rfl rfl rfl ?_;intro F _;refine C6 ?_;refine m9 rfl rfl ?_;intro f;refine y9 ?_;refine f_ (y8 (ps:=[(0,.const (.int .i64 3))]) (vs:=[(0,.int .i64 3)]) (cells:=(eA be db).toArray) rfl i6) ?_;refine c_ (dE b s x d y c k be db [] none 0 a) qw ?_;rintro v A ⟨rfl,rfl⟩;refine u7 ?_;exact m6 rfl _ qh fun w e=>x8.left tk e
theorem yw(b:Nat)(s:SE)(x:SL)(d:DD)(y:DL)(c:CM)(k:CL)(a:s.num<18446744073709551615):GI 146 b s x d y c k (G3 (s,d) c {cW with op:=4,box:=c.box} []):=by
 refine b_ 10 func146 rfl rfl rfl ?_;intro F _;refine C6 ?_;refine m9 rfl rfl ?_;intro f;refine O2 ?_;refine f_ (y8 (ps:=[(0,.const (.int .i64 4)),(6,.tmp 7)]) (vs:=[(0,.int .i64 4),(6,B c.box)]) (cells:=(eA {cW with op:=4,box:=c.box} db).toArray) rfl i6) ?_;refine c_ (dE b s x d y c k {cW with op:=4,box:=c.box} db [] none 0 a) qw ?_;rintro v A ⟨rfl,rfl⟩;refine u7 ?_;exact m6 rfl _ qh fun w e=>x8.left tk e
theorem yx(b:Nat)(s:SE)(x:SL)(d:DD)(y:DL)(c:CM)(k:CL)(a:s.num<18446744073709551615):GI 147 b s x d y c k (G3 (s,d) c {cW with op:=5,box:=c.box} []):=by
 refine b_ 10 func147 rfl rfl rfl ?_;intro F _;refine C6 ?_;refine m9 rfl rfl ?_;intro f;refine O2 ?_;refine f_ (y8 (ps:=[(0,.const (.int .i64 5)),(6,.tmp 7)]) (vs:=[(0,.int .i64 5),(6,B c.box)]) (cells:=(eA {cW with op:=5,box:=c.box} db).toArray) rfl i6) ?_;refine c_ (dE b s x d y c k {cW with op:=5,box:=c.box} db [] none 0 a) qw ?_;rintro v A ⟨rfl,rfl⟩;refine u7 ?_;exact m6 rfl _ qh fun w e=>x8.left tk e
def re(y y':DL):Prop:=y'.rl.length<=y.rl.length+2/\∀m∈y'.rl,m∈y.rl\/m.2=L0
theorem re.refl{y a:DL}(h:a.rl=y.rl):re y a:=⟨by rw[h];omega,fun m b=>.inl (h▸b)⟩
theorem re.one{y b:DL}{r:RR}(h:b.rl=y.rl++[(r,L0)]):re y b:=⟨by rw[h];simp,fun m a=>by rw[h] at a;rcases zb.1 a with a|a;exact .inl a;(rw[zg.1 a];exact .inr rfl)⟩
theorem re.two{y b:DL}{r r2:RR}(h:b.rl=y.rl++[(r,L0),(r2,L0)]):re y b:=⟨by rw[h];simp,fun m a=>by
 rw[h] at a;rcases zb.1 a with a|a;exact .inl a;rcases ky.1 a with rfl|a;exact .inr rfl;(rw[zg.1 a];exact .inr rfl)⟩
def vO(b:Nat)(s:SE)(x:SL)(d:DD)(y:DL)(c:CM)(k:CL)(q:SD)(v:Value)(A:List As):Prop:=v=.tuple #[]/\∃x' y',A=O4 b q.1 x' q.2 y'/\(x'.ra=x.ra/\x'.rc=x.rc)/\re y y'/\∀h,iy s x d y h->fh c k h->iy q.1 x' q.2 y' h
abbrev bA(f:FuncId)(b:Nat)(s:SE)(x:SL)(d:DD)(y:DL)(c:CM)(k:CL)(q:SD):Prop:=Ct prog f [l9 b,xE c k] (fun _=>True) (O4 b s x d y) (vO b s x d y c k q)
theorem mh(b:Nat)(s:SE)(x:SL)(d:DD)(y:DL)(c:CM)(k:CL)(r:RQ)(hu:r.a5L=[])(hf:r.a5U=[]):vO b s x d y c k (G3 (s,d) c r []) (.tuple #[]) (O4 b (G3 (s,d) c r []).1 {x with cl:=k,ua:=none,uc:=0} (G3 (s,d) c r []).2 {y with ql:=db}):=by
 refine⟨rfl,_,_,rfl,qh,.refl rfl,fun h e hc=>?_⟩;have f:∀a b,dC {r with ses:=a,num:=b} db h:=fun a b=>⟨by show o0 h _ (V5 r.a5L);rw[hu];exact o0.nil _ _,by show o0 h _ (fV r.a5U);rw[hf];exact o0.nil _ _⟩;unfold G3;split
 ·exact⟨⟨o0.nil _ _,hc⟩,⟨e.dd.a5T,e.dd.rep,f _ _,e.dd.want⟩⟩
 ·exact⟨⟨o0.nil _ _,hc⟩,⟨e.dd.a5T,e.dd.rep,f _ _,e.dd.want⟩⟩
theorem cK{r:RR}(a:r.nums=[])(b:r.a5U=[])(c:r.values=[])(h:l_):fC r L0 h:=⟨c,by rw[a];exact o0.nil _ _,by rw[b];exact o0.nil _ _,o0.nil _ _,fun _ h=>by cases h⟩
theorem AU(b:Nat)(s:SE)(x:SL)(d:DD)(y:DL)(c:CM)(k:CL)(r:RR)(a:Option Addr)(g:Nat)(i:∀h,fC r L0 h):vO b s x d y c k (U_ (s,d) r) (.tuple #[]) (O4 b s x d (E9 y (r,L0) a g)):=by
 refine⟨rfl,x,E9 y (r,L0) a g,rfl,qh,.one rfl,fun h e hc=>⟨e.se,⟨?_,fun m f=>?_,e.dd.req,e.dd.want⟩⟩⟩
 ·show d.a5T++[r]=(y.rl++[(r,L0)]).map Prod.fst;rw[e.dd.a5T,jn];rfl
 ·rcases zb.1 (show m∈y.rl++[(r,L0)] from f) with f|f
  ·exact e.dd.rep m f
  ·rw[zg.1 f];exact i h
theorem Lw(b:Nat)(s:SE)(x:SL)(d:DD)(y:DL)(c:CM)(k:CL)(h:s.num<18446744073709551615)(hl:y.rl.length<=1000000):bA 139 b s x d y c k (if s.a5K=0 then U_ (s,d) (bT c.tag) else lV (s,d) c):=by
 refine b_ 17 func139 rfl rfl rfl ?_;intro F _;obtain⟨g,e⟩:=o7 (decide (s.a5K=0));refine C6 ?_;refine m9 rfl rfl ?_;intro j;refine au ?_;refine f_ ((p8 rfl rfl).eq (v':=.bool g) (qn ((qz).trans e.symm))) ?_;refine u7 ?_
 cases g
 ·rw[zk (zq e.symm)];refine y9 ?_;refine c_ (gw b s x d y c k h) qw ?_;rintro v A ⟨rfl,rfl⟩;refine u7 ?_;exact m6 rfl _ (mh b s x d y c k be rfl rfl) fun w f=>x8.left tk f
 ·rw[zu (qr e.symm)];refine E5 ?_;refine c_ (nk b s x d y c.tag qb) qw ?_;rintro v A ⟨rfl,a,i,rfl⟩;refine ov ?_;exact m6 rfl _ (AU b s x d y c k (bT c.tag) a i (cK rfl rfl rfl)) fun w f=>x8.left tk f
theorem GJ(b:Nat)(s:SE)(x:SL)(d:DD)(y:DL)(c:CM)(k:CL)(h:s.num<18446744073709551615)(hl:y.rl.length<=1000000):bA 144 b s x d y c k (if c.pass=[104,111,114,110] then G3 (s,d) c {cW with op:=1} [] else U_ (s,d) (kP c.tag [65,85,84,72,69,78,84,73,67,65,84,73,79,78,70,65,73,76,69,68] [119,114,111,110,103,32,112,97,115,115,119,111,114,100])):=by
 refine b_ 15 func144 rfl rfl rfl ?_;intro F _;obtain⟨g,e⟩:=o7 (decide (c.pass=[104,111,114,110]));refine C6 ?_;refine m9 rfl rfl ?_;intro j;refine y9 ?_;refine f_ ((E1 rfl rfl).eq (v':=.bool (!g)) (jk (fun b=>Value.bool (!b)) e.symm)) ?_;refine u7 ?_
 cases g
 ·rw[zk (zq e.symm)];refine E5 ?_;refine c_ (Gb b s x d y c.tag [65,85,84,72,69,78,84,73,67,65,84,73,79,78,70,65,73,76,69,68] [119,114,111,110,103,32,112,97,115,115,119,111,114,100] qb) qw ?_;rintro v A ⟨rfl,a,i,rfl⟩;refine ov ?_;exact m6 rfl _ (AU b s x d y c k (kP c.tag [65,85,84,72,69,78,84,73,67,65,84,73,79,78,70,65,73,76,69,68] [119,114,111,110,103,32,112,97,115,115,119,111,114,100]) a i (cK rfl rfl rfl)) fun w f=>x8.left tk f
 ·rw[zu (qr e.symm)];refine y9 ?_;refine f_ (y8 (ps:=[(0,.const (.int .i64 1))]) (vs:=[(0,.int .i64 1)]) (cells:=(eA {cW with op:=1} db).toArray) rfl i6) ?_;refine c_ (dE b s x d y c k {cW with op:=1} db [] none 0 h) qw ?_;rintro v A ⟨rfl,rfl⟩;refine u7 ?_;exact m6 rfl _ (mh b s x d y c k {cW with op:=1} rfl rfl) fun w f=>x8.left tk f
abbrev bg:Bs:=[108,111,103,103,105,110,103,32,111,117,116]
theorem Lx(b:Nat)(s:SE)(x:SL)(d:DD)(y:DL)(c:CM)(k:CL)(tag:Bs)(a:Option Addr)(g:Nat):vO b s x d y c k (oE (s,d) tag) (.tuple #[]) (O4 b {s with a5K:=3} x {d with close:=true} {y with da:=a,dc:=g,rl:=y.rl++[(G2 bg,L0),(bT tag,L0)]}):=by
 refine⟨rfl,x,{y with da:=a,dc:=g,rl:=y.rl++[(G2 bg,L0),(bT tag,L0)]},rfl,qh,.two rfl,fun h f hc=>⟨⟨f.se.a5L,f.se.cmd⟩,⟨?_,fun m e=>?_,f.dd.req,f.dd.want⟩⟩⟩
 ·show(d.a5T++[G2 bg])++[bT tag]=(y.rl++[(G2 bg,L0),(bT tag,L0)]).map Prod.fst;rw[f.dd.a5T,jn,zh];rfl
 ·rcases zb.1 (show m∈y.rl++[(G2 bg,L0),(bT tag,L0)] from e) with e|e
  ·exact f.dd.rep m e
  ·rcases ky.1 e with rfl|e
   ·exact cK rfl rfl rfl h
   ·rw[zg.1 e];exact cK rfl rfl rfl h
theorem Dp(b:Nat)(s:SE)(x:SL)(d:DD)(y:DL)(c:CM)(k:CL)(h:s.num<18446744073709551615)(hl:y.rl.length<=1000000):bA 140 b s x d y c k (if s.a5K=0 then oE (s,d) c.tag else G3 (s,d) c {cW with op:=2} []):=by
 refine b_ 18 func140 rfl rfl rfl ?_;intro F _;obtain⟨g,e⟩:=o7 (decide (s.a5K=0));refine C6 ?_;refine m9 rfl rfl ?_;intro j;refine au ?_;refine f_ ((p8 rfl rfl).eq (v':=.bool g) (qn ((qz).trans e.symm))) ?_;refine u7 ?_
 cases g
 ·rw[zk (zq e.symm)];refine y9 ?_;refine f_ (y8 (ps:=[(0,.const (.int .i64 2))]) (vs:=[(0,.int .i64 2)]) (cells:=(eA {cW with op:=2} db).toArray) rfl i6) ?_;refine c_ (dE b s x d y c k {cW with op:=2} db [] none 0 h) qw ?_;rintro v A ⟨rfl,rfl⟩;refine u7 ?_;exact m6 rfl _ (mh b s x d y c k {cW with op:=2} rfl rfl) fun w f=>x8.left tk f
 ·rw[zu (qr e.symm)];refine E5 ?_;refine c_ (oI b s x d y c.tag qb) qw ?_;rintro v A ⟨rfl,a,i,rfl⟩;refine ov ?_;exact m6 rfl _ (Lx b s x d y c k c.tag a i) fun w f=>x8.left tk f
theorem GK(b:Nat)(s g:SE)(x:SL)(d:DD)(y:DL)(c:CM)(k:CL)(r r2:RR)(a a2:Option Addr)(i c2:Nat)(hs:∀h,U2 s x h->U2 g x h)(l:∀h,fC r L0 h)(j:∀h,fC r2 L0 h):vO b s x d y c k (U_ (U_ (g,d) r) r2) (.tuple #[]) (O4 b g x d (E9 (E9 y (r,L0) a i) (r2,L0) a2 c2)):=by
 obtain⟨_,n,o,p,_,q,k1⟩:=AU b g x d y c k r a i l;refine⟨rfl,x,E9 (E9 y (r,L0) a i) (r2,L0) a2 c2,rfl,qh,.two (r:=r) (r2:=r2) (by simp[E9]),fun h f hc=>⟨hs h f.se,⟨?_,fun m e=>?_,f.dd.req,f.dd.want⟩⟩⟩
 ·show(d.a5T++[r])++[r2]=((y.rl++[(r,L0)])++[(r2,L0)]).map Prod.fst;rw[f.dd.a5T];simp
 ·rcases zb.1 (show m∈(y.rl++[(r,L0)])++[(r2,L0)] from e) with e|e
  ·rcases zb.1 e with e|e
   ·exact f.dd.rep m e
   ·rw[zg.1 e];exact l h
  ·rw[zg.1 e];exact j h
theorem rf(b:Nat)(s:SE)(x:SL)(d:DD)(y:DL)(c:CM)(k:CL)(hl:y.rl.length<=1000000):bA 138 b s x d y c k (U_ (U_ (s,d) {R0 with kind:=6}) (bT c.tag)):=by
 refine b_ 11 func138 rfl rfl rfl ?_;intro F _;refine C6 ?_;refine m9 rfl rfl ?_;intro j;refine p_ ?_;refine f_ (y8 (ps:=[(0,.const (.int .i64 6))]) (vs:=[(0,.int .i64 6)]) (cells:=(tp {R0 with kind:=6} L0).toArray) rfl i6) ?_;refine c_ (V2 b s x d y {R0 with kind:=6} L0 qb) qw ?_;rintro v A ⟨rfl,a,e,rfl⟩;refine E5 ?_;refine c_ (nk b s x d (E9 y ({R0 with kind:=6},L0) a e) c.tag (by simp;omega)) qw ?_;rintro v A ⟨rfl,f,g,rfl⟩;refine u7 ?_;exact m6 rfl _ (GK b s s x d y c k {R0 with kind:=6} (bT c.tag) a f e g (fun _ h=>h) (cK rfl rfl rfl) (cK rfl rfl rfl)) fun w i=>x8.left tk i
theorem Dq(b:Nat)(s:SE)(x:SL)(d:DD)(y:DL)(c:CM)(k:CL)(hl:y.rl.length<=1000000):bA 143 b s x d y c k (U_ (U_ ({s with cond:=true},d) {R0 with kind:=7}) (bT c.tag)):=by
 refine b_ 15 func143 rfl rfl rfl ?_;intro F _;refine C6 ?_;refine m9 rfl rfl ?_;intro j;refine cG ?_;refine f_ (y8 (ps:=[(0,.const (.int .i64 7))]) (vs:=[(0,.int .i64 7)]) (cells:=(tp {R0 with kind:=7} L0).toArray) rfl i6) ?_;refine c_ (V2 b {s with cond:=true} x d y {R0 with kind:=7} L0 qb) qw ?_;rintro v A ⟨rfl,a,e,rfl⟩;refine E5 ?_;refine c_ (nk b {s with cond:=true} x d (E9 y ({R0 with kind:=7},L0) a e) c.tag (by simp;omega)) qw ?_;rintro v A ⟨rfl,f,g,rfl⟩;refine u7 ?_;exact m6 rfl _ (GK b s {s with cond:=true} x d y c k {R0 with kind:=7} (bT c.tag) a f e g (fun _ h=>⟨h.a5L,h.cmd⟩) (cK rfl rfl rfl) (cK rfl rfl rfl)) fun w i=>x8.left tk i
theorem vO.of{b:Nat}{s a:SE}{x:SL}{d:DD}{y:DL}{c:CM}{k:CL}{q:SD}{v:Value}{A:List As}(h:vO b a x d y c k q v A)(hs:∀h,U2 s x h->U2 a x h):vO b s x d y c k q v A:=by
 obtain⟨e,g,i,j,l,m,k1⟩:=h;exact⟨e,g,i,j,l,m,fun h f hc=>k1 h ⟨hs h f.se,f.dd⟩ hc⟩
theorem ph(b:Nat)(s:SE)(x:SL)(d:DD)(y:DL)(c:CM)(k:CL)(p:s.num<18446744073709551615):bA 145 b s x d y c k (lV ({s with cond:=s.cond||c.cond},d) c):=by
 obtain⟨a,e,f,g,m,cond,i,j,l⟩:=s;refine b_ 20 func145 rfl rfl rfl ?_;intro F _;refine C6 ?_;refine m9 rfl rfl ?_;intro o;refine u7 ?_;refine w6 [(0,l9 b),(3,l9 o)] [E7 b ⟨a,e,f,g,m,cond||c.cond,i,j,l⟩ x d y,r8 y.da y.rl y.dc,.blk o (.cells (li c k).toArray 36)] ?_ ?_
 ·cases cond
  all_goals (
   refine wk 14 ?_)
  all_goals exact o_ sub (fun w n=>(tk (C:=[.blk b _,r8 _ _ _])).hp n)
 refine y9 ?_;refine c_ (gw b ⟨a,e,f,g,m,cond||c.cond,i,j,l⟩ x d y c k p) qw ?_;rintro v A ⟨rfl,rfl⟩;refine u7 ?_;exact m6 rfl _ ((mh b ⟨a,e,f,g,m,cond||c.cond,i,j,l⟩ x d y c k be rfl rfl).of fun _ h=>⟨h.a5L,h.cmd⟩) fun w n=>x8.left tk n
abbrev ER(tag:Bs):RR:=kP tag [82,69,65,68,45,79,78,76,89] [105,116,32,109,97,121,32,110,111,116,32,98,101]
theorem rU(b:Nat)(s:SE)(x:SL)(d:DD)(y:DL)(c:CM)(k:CL)(hl:y.rl.length<=1000000):Ct prog 221 [l9 b,xE c k] (fun _=>True) (O4 b s x d y) (fun v A=>v=.bool s.ro/\(s.ro=true/\(∃a f,A=O4 b s x d (E9 y (ER c.tag,L0) a f))\/s.ro=false/\A=O4 b s x d y)):=by
 obtain⟨g,i,j,l,q,e,m,n,o⟩:=s;refine b_ 19 func221 rfl rfl rfl ?_;intro F _;refine C6 ?_;refine m9 rfl rfl ?_;intro r;refine cG ?_
 cases q
 ·refine o8 rfl qx (fun h=>?_);refine NM ?_;exact d_ rfl rfl _ ⟨rfl,.inr qh⟩ (fun w p=>x8.left tk p)
 ·refine o8 rfl (fun h=>?_) qx;refine E5 ?_;refine c_ (Gb b ⟨g,i,j,l,true,e,m,n,o⟩ x d y c.tag [82,69,65,68,45,79,78,76,89] [105,116,32,109,97,121,32,110,111,116,32,98,101] qb) qw ?_;rintro v A ⟨rfl,a,f,rfl⟩;refine NM ?_;exact d_ rfl rfl _ ⟨rfl,.inl ⟨rfl,a,f,rfl⟩⟩ (fun w p=>x8.left tk p)
theorem vP(b:Nat)(s:SE)(x:SL)(d:DD)(y:DL)(c:CM)(k:CL)(o:s.num<18446744073709551615)(hl:y.rl.length<=1000000):bA 142 b s x d y c k (if s.ro=true then U_ (s,d) (ER c.tag) else G3 (s,d) c (am (s,d) 8) []):=by
 refine b_ 13 func142 rfl rfl rfl ?_;intro F _;refine C6 ?_;refine m9 rfl rfl ?_;intro l;refine u7 ?_;refine n7 (ι:=DL) (fun e=>s.ro=true/\(∃a i,e=E9 y (ER c.tag,L0) a i)\/s.ro=false/\e=y) (fun _=>[(0,l9 b),(3,l9 l),(7,.bool (!s.ro))]) (fun e=>[E7 b s x d e,r8 e.da e.rl e.dc,.blk l (.cells (li c k).toArray 36)]) ?_ ?_
 ·refine y9 ?_;refine c_ (rU b s x d y c k hl) qw ?_;rintro v A ⟨rfl,p⟩;refine p_ ?_;rcases p with⟨m,a,i,rfl⟩|⟨m,rfl⟩
  ·exact g_ (E9 y (ER c.tag,L0) a i) (.inl ⟨m,a,i,rfl⟩) i_
  ·exact g_ y (.inr ⟨m,rfl⟩) i_
 rintro e j;refine N8 ?_ ?_<;>intro h
 ·have f:s.ro=false:=by simpa using h
  obtain rfl:e=y:=by rcases j with⟨g,_⟩|⟨_,g⟩;(rw[f] at g;cases g);exact g
  rw[zk (by rw[f];simp)];refine u7 ?_;refine D8 [1] [3,4] [.blk l (.cells (li c k).toArray 36)] 5 ?_;refine wd [0,1,2] ?_;refine h_ 3 rfl i6 ?_;refine c_ (jT b s x d e 8) qw ?_;rintro v A ⟨rfl,rfl⟩;refine ah ?_;refine h_ 4 rfl i6 ?_;refine c_ (dE b s x d e c k (am (s,d) 8) db [] none 0 o) qw ?_;rintro v A ⟨rfl,rfl⟩;refine E6 [] ?_;exact m6 rfl _ (mh b s x d e c k (am (s,d) 8) rfl rfl) fun w n=>x8.left tk n
 ·have f:s.ro=true:=by simpa using h
  obtain⟨a,i,rfl⟩:∃a i,e=E9 y (ER c.tag,L0) a i:=by rcases j with⟨_,g⟩|⟨g,_⟩;exact g;(rw[f] at g;cases g)
  rw[zu f];refine u7 ?_;exact m6 rfl _ (AU b s x d y c k (ER c.tag) a i (cK rfl rfl rfl)) fun w n=>x8.left tk n
theorem Dr(b:Nat)(s:SE)(x:SL)(d:DD)(y:DL)(c:CM)(k:CL)(e:s.num<18446744073709551615):bA 141 b s x d y c k (if s.ro=true then lV (s,d) c else G3 (s,d) c (am (s,d) 8) []):=by
 refine b_ 17 func141 rfl rfl rfl ?_;intro F _;refine C6 ?_;refine m9 rfl rfl ?_;intro f;refine au ?_;refine o8 rfl ?_ ?_<;>intro h
 ·rw[zu h];refine y9 ?_;refine c_ (gw b s x d y c k e) qw ?_;rintro v A ⟨rfl,rfl⟩;refine ov ?_;exact m6 rfl _ (mh b s x d y c k be rfl rfl) fun w a=>x8.left tk a
 ·rw[zk (by rw[h];simp)];refine u7 ?_;refine D8 [1] [3,4] [.blk f (.cells (li c k).toArray 36)] 5 ?_;refine wd [0,1,2] ?_;refine h_ 3 rfl i6 ?_;refine c_ (jT b s x d y 8) qw ?_;rintro v A ⟨rfl,rfl⟩;refine ah ?_;refine h_ 4 rfl i6 ?_;refine c_ (dE b s x d y c k (am (s,d) 8) db [] none 0 e) qw ?_;rintro v A ⟨rfl,rfl⟩;refine E6 [] ?_;exact m6 rfl _ (mh b s x d y c k (am (s,d) 8) rfl rfl) fun w a=>x8.left tk a
structure xG{α:Type}(l:List α)(f:α->α->Int):Prop where
 asym:∀x∈l,∀y∈l,f x y<0->¬f y x<0
 ntr:∀x∈l,∀y∈l,∀z∈l,¬f x y<0->¬f y z<0->¬f x z<0
def fN{α:Type}(f:α->α->Int)(l:List α):Prop:=l.Pairwise fun x y=>¬f y x<0
def QY{α:Type}(f:α->α->Int)(m:List α)(i j:Nat):Prop:=∀p q (hp:p<m.length) (hq:q<m.length),p<q->q<=i->q≠j->¬f m[q] m[p]<0
def Ly{α:Type}(m:List α)(j:Nat)(h:j<m.length):List α:=(m.set j (m[j-1]'(by omega))).set (j-1) m[j]
theorem tV{α:Type}(m:List α)(j:Nat)(h:j<m.length):(Ly m j h).length=m.length:=by simp[Ly]
theorem AV{α:Type}(m:List α)(j:Nat)(h:j<m.length)(a:0<j)(p:Nat)(hp:p<m.length):(Ly m j h)[p]'(by rw[tV];exact hp)=if p=j then m[j-1] else if p=j-1 then m[j] else m[p]:=by
 unfold Ly;rw[List.getElem_set,List.getElem_set];by_cases h1:j-1=p
 ·subst h1;rw[zu rfl,zk qb,zu rfl]
 ·rw[zk h1];by_cases h2:j=p
  ·subst h2;simp
  ·rw[zk h2,zk (fun e=>h2 e.symm),zk (fun e=>h1 e.symm)]
theorem vQ{α:Type}(m:List α)(j:Nat)(h:j<m.length)(a:0<j):(Ly m j h).Perm m:=by
 unfold Ly;exact List.set_set_perm h qb
theorem vR{α:Type}{f:α->α->Int}{m:List α}{i j:Nat}(hc:xG m f)(l:0<j)(b:j<m.length)(n:j<=i)(c:QY f m i j)(hl:f m[j] m[j-1]<0):QY f (Ly m j b) i (j-1):=fun p q e g h a k=>by
 have hp:p<m.length:=by rwa [tV] at e
 have d:q<m.length:=by rwa [tV] at g
 rw[AV m j b l p hp,AV m j b l q d];rw[zk k];by_cases h1:q=j
 ·subst h1;rw[zu rfl,zk qb];by_cases h2:p=q-1
  ·subst h2;rw[zu rfl];exact hc.asym _ (zx _) _ (zx _) hl
  ·rw[zk h2];exact c p (q-1) hp qb qb qb qb
 ·rw[zk h1];by_cases h2:p=j
  ·rw[zu h2];exact c (j-1) q qb d qb a h1
  ·rw[zk h2];by_cases h3:p=j-1
   ·rw[zu h3];exact c j q b d qb a h1
   ·rw[zk h3];exact c p q hp d h a h1
theorem nq{α:Type}{f:α->α->Int}{m:List α}{i j:Nat}(hc:xG m f)(h:j<m.length)(d:j<=i)(e:i<m.length)(b:QY f m i j)(hl:j=0\/¬f m[j] (m[j-1]'(by omega))<0):fN f (m.take (i+1)):=by
 unfold fN;rw[Z1];intro p q hp g a;rw[zm] at hp g;rw[K5,K5];by_cases h1:q=j
 ·subst h1;have c:=hl.resolve_left qb;by_cases h3:p=q-1
  ·subst h3;exact c
  ·exact hc.ntr _ (zx _) _ (zx _) _ (zx _) c (b p (q-1) qb qb qb qb qb)
 ·exact b p q qb qb a qb h1
theorem rV{α:Type}{f:α->α->Int}{m:List α}{i:Nat}(b:i<m.length)(hs:fN f (m.take i)):QY f m i i:=fun p q hp e a c d=>by
 unfold fN at hs;rw[Z1] at hs;have:=hs p q (by rw[zm];omega) (by rw[zm];omega) a
 rwa [K5,K5] at this
theorem xG.perm{α:Type}{l m:List α}{f:α->α->Int}(h:xG l f)(hp:m.Perm l):xG m f:=⟨fun x a y b=>h.asym x (hp.subset a) y (hp.subset b),fun x a y b z hz=>h.ntr x (hp.subset a) y (hp.subset b) z (hp.subset hz)⟩
theorem Ds(l:List BM)(a:Option Addr)(c:Nat)(f:FuncId)[HF prog f](r:BM->BM->Int)(hc:xG l r)(O:∀x∈l,∀y∈l,Pu prog f [.agg (de x).toArray,.agg (de y).toArray] (fun _=>True) (.int .i64 (r x y)))(hl:l.length<=1000000000):Ct prog 252 [.slice a l.length c,.int .i64 0,.int .i64 (l.length:Nat),.func (.func f) #[] #[]] (fun _=>True) [.own (.slice a l.length c) 100 5 (l.flatMap de)] (fun v A=>v=.tuple #[]/\∃m:List BM,m.Perm l/\fN r m/\A=[.own (.slice a l.length c) 100 5 (m.flatMap de)]):=by
 refine b_ 53 func252 rfl rfl rfl ?_;intro F _;refine B4 (a:=a) (n:=l.length) (c:=c) (sz:=5) (xs:=l.flatMap de) (te:=100) ud fun _ Q d=>?_;refine E5 ?_;refine o9 (ι:=Nat×List BM) (fun i=>1<=i.1/\(i.1<=l.length\/l.length=0)/\i.2.Perm l/\fN r (i.2.take i.1)) (fun i=>[(0,.slice a l.length c),(1,.int .i64 0),(2,.int .i64 (l.length:Nat)),(3,.func (.func f) #[] #[]),(8,.int .i64 (i.1:Nat))]) (fun i=>[.own (.slice a l.length c) 100 5 (i.2.flatMap de)]) (fun i=>l.length-i.1) (1,l) ⟨z1 _,by simp only;omega,.refl _,?_⟩ sub i_ ?_
 ·cases l with
  |nil=>exact .nil
  |cons x t=>exact K0 _ _
 rintro⟨i,m⟩ ⟨S,T,g,o⟩;simp only at S T g o;have U:m.length=l.length:=g.length_eq;refine eI ?_ ?_<;>intro h
 ·have z:i<l.length:=by have:=qr h;omega
  have d:=d qb;refine y9 ?_;refine O6 (fun j (k:List BM) (_:Unit)=>j<=i/\k.Perm l/\QY r k i j) (fun j k _=>[(0,.slice a l.length c),(1,.int .i64 0),(2,.int .i64 (l.length:Nat)),(3,.func (.func f) #[] #[]),(8,.int .i64 (i:Nat)),(9,.int .i64 (j:Nat))]) (fun j k _=>[.own (.slice a l.length c) 100 5 (k.flatMap de)]) (fun j k _=>j) i m () ⟨z1 _,g,rV qb o⟩ sub i_ ?_;rintro j k _ ⟨D,C5,J⟩;have V:k.length=l.length:=C5.length_eq;by_cases hj0:j=0
  ·subst hj0;refine u7 ?_;refine D8 [8,13] [] [.own (.slice a l.length c) 100 5 (k.flatMap de)] 17 ?_;refine wd [0,1] ?_;refine w_ 2 rfl ((D_ rfl rfl).eq (v':=.bool false) rfl) ?_;refine wd [3,4,5,6,7,8,9,10,11,12,13] ?_;refine h_ 14 rfl i6 ?_;(first|refine u_ ?_|(refine v_ ?_;fail));refine E6 [15,16] ?_;refine E5 ?_;have e:fN r (k.take (i+1)):=nq (i:=i) (j:=0) (hc.perm C5) qb qb qb J (.inl rfl);refine l8 (i:=(i,m)) (i+1,k) ⟨by simp only;omega,by simp only;omega,C5,e⟩ qg sub i_
  have b:j<k.length:=by omega
  have p:j-1<k.length:=by omega
  obtain⟨q,M⟩:=o7 (decide (r k[j] k[j-1]<0));have u:=hc.perm C5;refine u7 ?_;refine D8 [8,13] [] [.own (.slice a l.length c) 100 5 (k.flatMap de)] 17 ?_;refine wd [0,1] ?_;refine w_ 2 rfl ((D_ rfl rfl).eq (v':=.bool true) (qn qk)) ?_;refine wd [3,4,5,6,7] ?_;(first|refine s_ 8 ?_|refine t_ 8 ?_|refine B0 8 rfl P6 (w8 rfl (fun w s=>fe (s.ownN (t:=100) ud).2.2.1 p7 qp b x6) (p7 _)) I5 rfl rfl rfl rfl rfl rfl i6 ?_);refine wd [9,10] ?_;(first|refine s_ 11 ?_|refine t_ 11 ?_|refine F6 11 rfl ((E0 rfl rfl qb).eq (v':=.int .i64 ((j-1:Nat):Int)) (by congr 1;omega)) rfl rfl rfl rfl rfl rfl i6 ?_);refine wd [12] ?_;(first|refine s_ 13 ?_|refine t_ 13 ?_|refine B0 13 rfl P6 (w8 rfl (fun w s=>fe (s.ownN (t:=100) ud).2.2.1 p7 qp p x6) (p7 _)) I5 rfl rfl rfl rfl rfl rfl i6 ?_);refine h_ 14 rfl i6 ?_;(first|refine u_ ?_|(refine v_ ?_;refine A0 (ps:=[]) _ rfl rfl rfl (O _ (C5.subset (zx b)) _ (C5.subset (zx p))) i_ qw rfl ?_;rintro v A ⟨rfl,rfl⟩));refine xB ?_;(first|refine s_ 15 ?_|refine t_ 15 ?_|refine F6 15 rfl ((E_ rfl rfl).eq (v':=.bool q) (qn M.symm)) rfl rfl rfl rfl rfl rfl i6 ?_);refine wd [16] ?_
  cases q
  ·refine E5 ?_;have e:fN r (k.take (i+1)):=nq (i:=i) (j:=j) u b qb qb J (.inr (zq M.symm));refine l8 (i:=(i,m)) (i+1,k) ⟨by simp only;omega,by simp only;omega,C5,e⟩ qg sub i_
  ·refine u7 ?_;refine D8 [9,13] [15,17] [.own (.slice a l.length c) 100 5 (k.flatMap de)] 18 ?_;refine wd [0,1,2,3] ?_;refine w_ 4 rfl ((E0 rfl rfl qb).eq (v':=.int .i64 ((j-1:Nat):Int)) (by congr 1;omega)) ?_;refine wd [5,6] ?_;refine w_ 7 rfl ((E0 rfl rfl qb).eq (v':=.int .i64 ((j-1:Nat):Int)) (by congr 1;omega)) ?_;refine wd [8] ?_;refine n9 9 rfl P6 (w8 rfl (fun w s=>fe (s.ownN (t:=100) ud).2.2.1 p7 qp p x6) (p7 _)) I5 rfl rfl rfl i6 ?_;refine wd [10,11,12] ?_;refine n9 13 rfl P6 (w8 rfl (fun w s=>fe (s.ownN (t:=100) ud).2.2.1 p7 qp b x6) (p7 _)) I5 rfl rfl rfl i6 ?_;refine wd [14] ?_;refine h_ 15 rfl i6 ?_;refine A9 (C:=de) k[j-1] p7 b (j:=0) rfl ?_;refine E6 [16] ?_;refine h_ 17 rfl i6 ?_;refine A9 (C:=de) k[j] p7 (l:=k.set j k[j-1]) (i:=j-1) (by simpa using p) (j:=0) rfl ?_;refine E6 [] ?_;refine p_ ?_;refine f_ ((E0 rfl rfl qb).eq (v':=.int .i64 ((j-1:Nat):Int)) (by congr 1;omega)) ?_;refine p_ ?_;exact l8 (i:=(j,k,())) (j-1,Ly k j b,()) ⟨by simp only;omega,(vQ k j b qb).trans C5,vR u qb b D J (qr M.symm)⟩ qg sub i_
 ·refine u7 ?_;have z:l.length<=i:=by have:=zq h;omega
  rw[jq qb] at o;exact m6 rfl _ ⟨rfl,m,g,o,rfl⟩ i_
theorem yy(l:List HO)(a:Option Addr)(c:Nat)(f:FuncId)[HF prog f](r:HO->HO->Int)(hc:xG l r)(O:∀x∈l,∀y∈l,Pu prog f [.agg (gr x).toArray,.agg (gr y).toArray] (fun _=>True) (.int .i64 (r x y)))(hl:l.length<=1000000000):Ct prog 323 [.slice a l.length c,.int .i64 0,.int .i64 (l.length:Nat),.func (.func f) #[] #[]] (fun _=>True) [.own (.slice a l.length c) 104 3 (l.flatMap gr)] (fun v A=>v=.tuple #[]/\∃m:List HO,m.Perm l/\fN r m/\A=[.own (.slice a l.length c) 104 3 (m.flatMap gr)]):=by
 refine b_ 53 func323 rfl rfl rfl ?_;intro F _;refine B4 (a:=a) (n:=l.length) (c:=c) (sz:=3) (xs:=l.flatMap gr) (te:=104) ud fun _ Q d=>?_;refine E5 ?_;refine o9 (ι:=Nat×List HO) (fun i=>1<=i.1/\(i.1<=l.length\/l.length=0)/\i.2.Perm l/\fN r (i.2.take i.1)) (fun i=>[(0,.slice a l.length c),(1,.int .i64 0),(2,.int .i64 (l.length:Nat)),(3,.func (.func f) #[] #[]),(8,.int .i64 (i.1:Nat))]) (fun i=>[.own (.slice a l.length c) 104 3 (i.2.flatMap gr)]) (fun i=>l.length-i.1) (1,l) ⟨z1 _,by simp only;omega,.refl _,?_⟩ sub i_ ?_
 ·cases l with
  |nil=>exact .nil
  |cons x t=>exact K0 _ _
 rintro⟨i,m⟩ ⟨S,T,g,o⟩;simp only at S T g o;have U:m.length=l.length:=g.length_eq;refine eI ?_ ?_<;>intro h
 ·have z:i<l.length:=by have:=qr h;omega
  have d:=d qb;refine y9 ?_;refine O6 (fun j (k:List HO) (_:Unit)=>j<=i/\k.Perm l/\QY r k i j) (fun j k _=>[(0,.slice a l.length c),(1,.int .i64 0),(2,.int .i64 (l.length:Nat)),(3,.func (.func f) #[] #[]),(8,.int .i64 (i:Nat)),(9,.int .i64 (j:Nat))]) (fun j k _=>[.own (.slice a l.length c) 104 3 (k.flatMap gr)]) (fun j k _=>j) i m () ⟨z1 _,g,rV qb o⟩ sub i_ ?_;rintro j k _ ⟨D,C5,J⟩;have V:k.length=l.length:=C5.length_eq;by_cases hj0:j=0
  ·subst hj0;refine u7 ?_;refine D8 [8,13] [] [.own (.slice a l.length c) 104 3 (k.flatMap gr)] 17 ?_;refine wd [0,1] ?_;refine w_ 2 rfl ((D_ rfl rfl).eq (v':=.bool false) rfl) ?_;refine wd [3,4,5,6,7,8,9,10,11,12,13] ?_;refine h_ 14 rfl i6 ?_;(first|refine u_ ?_|(refine v_ ?_;fail));refine E6 [15,16] ?_;refine E5 ?_;have e:fN r (k.take (i+1)):=nq (i:=i) (j:=0) (hc.perm C5) qb qb qb J (.inl rfl);refine l8 (i:=(i,m)) (i+1,k) ⟨by simp only;omega,by simp only;omega,C5,e⟩ qg sub i_
  have b:j<k.length:=by omega
  have p:j-1<k.length:=by omega
  obtain⟨q,M⟩:=o7 (decide (r k[j] k[j-1]<0));have u:=hc.perm C5;refine u7 ?_;refine D8 [8,13] [] [.own (.slice a l.length c) 104 3 (k.flatMap gr)] 17 ?_;refine wd [0,1] ?_;refine w_ 2 rfl ((D_ rfl rfl).eq (v':=.bool true) (qn qk)) ?_;refine wd [3,4,5,6,7] ?_;(first|refine s_ 8 ?_|refine t_ 8 ?_|refine B0 8 rfl P6 (w8 rfl (fun w s=>fe (s.ownN (t:=104) ud).2.2.1 O5 qp b x6) (O5 _)) I5 rfl rfl rfl rfl rfl rfl i6 ?_);refine wd [9,10] ?_;(first|refine s_ 11 ?_|refine t_ 11 ?_|refine F6 11 rfl ((E0 rfl rfl qb).eq (v':=.int .i64 ((j-1:Nat):Int)) (by congr 1;omega)) rfl rfl rfl rfl rfl rfl i6 ?_);refine wd [12] ?_;(first|refine s_ 13 ?_|refine t_ 13 ?_|refine B0 13 rfl P6 (w8 rfl (fun w s=>fe (s.ownN (t:=104) ud).2.2.1 O5 qp p x6) (O5 _)) I5 rfl rfl rfl rfl rfl rfl i6 ?_);refine h_ 14 rfl i6 ?_;(first|refine u_ ?_|(refine v_ ?_;refine A0 (ps:=[]) _ rfl rfl rfl (O _ (C5.subset (zx b)) _ (C5.subset (zx p))) i_ qw rfl ?_;rintro v A ⟨rfl,rfl⟩));refine xB ?_;(first|refine s_ 15 ?_|refine t_ 15 ?_|refine F6 15 rfl ((E_ rfl rfl).eq (v':=.bool q) (qn M.symm)) rfl rfl rfl rfl rfl rfl i6 ?_);refine wd [16] ?_
  cases q
  ·refine E5 ?_;have e:fN r (k.take (i+1)):=nq (i:=i) (j:=j) u b qb qb J (.inr (zq M.symm));refine l8 (i:=(i,m)) (i+1,k) ⟨by simp only;omega,by simp only;omega,C5,e⟩ qg sub i_
  ·refine u7 ?_;refine D8 [9,13] [15,17] [.own (.slice a l.length c) 104 3 (k.flatMap gr)] 18 ?_;refine wd [0,1,2,3] ?_;refine w_ 4 rfl ((E0 rfl rfl qb).eq (v':=.int .i64 ((j-1:Nat):Int)) (by congr 1;omega)) ?_;refine wd [5,6] ?_;refine w_ 7 rfl ((E0 rfl rfl qb).eq (v':=.int .i64 ((j-1:Nat):Int)) (by congr 1;omega)) ?_;refine wd [8] ?_;refine n9 9 rfl P6 (w8 rfl (fun w s=>fe (s.ownN (t:=104) ud).2.2.1 O5 qp p x6) (O5 _)) I5 rfl rfl rfl i6 ?_;refine wd [10,11,12] ?_;refine n9 13 rfl P6 (w8 rfl (fun w s=>fe (s.ownN (t:=104) ud).2.2.1 O5 qp b x6) (O5 _)) I5 rfl rfl rfl i6 ?_;refine wd [14] ?_;refine h_ 15 rfl i6 ?_;refine A9 (C:=gr) k[j-1] O5 b (j:=0) rfl ?_;refine E6 [16] ?_;refine h_ 17 rfl i6 ?_;refine A9 (C:=gr) k[j] O5 (l:=k.set j k[j-1]) (i:=j-1) (by simpa using p) (j:=0) rfl ?_;refine E6 [] ?_;refine p_ ?_;refine f_ ((E0 rfl rfl qb).eq (v':=.int .i64 ((j-1:Nat):Int)) (by congr 1;omega)) ?_;refine p_ ?_;exact l8 (i:=(j,k,())) (j-1,Ly k j b,()) ⟨by simp only;omega,(vQ k j b qb).trans C5,vR u qb b D J (qr M.symm)⟩ qg sub i_
 ·refine u7 ?_;have z:l.length<=i:=by have:=zq h;omega
  rw[jq qb] at o;exact m6 rfl _ ⟨rfl,m,g,o,rfl⟩ i_
