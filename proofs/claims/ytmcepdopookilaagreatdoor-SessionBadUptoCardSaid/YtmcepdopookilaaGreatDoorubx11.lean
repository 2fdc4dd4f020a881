import Derived.Test.YtmcepdopookilaaGreatDoorubx10
set_option maxHeartbeats 16000000
set_option maxRecDepth 8000
set_option linter.unusedVariables false
set_option linter.unusedSimpArgs false
set_option linter.defProp false
namespace Go.Proofs.YtmcepdopookilaaGreatDoor.Rp
open Go Go.Sl Go.RowKit Go.Proofs.Tryz
theorem Dh(s:Bs)(hl:s.length<=9223372036854775806):Pu prog 264 [B s] (fun _=>True) (B (U_ s)):=by
 refine b_ 29 func264 rfl rfl rfl ?_;intro F _;refine A1 ?_;refine nT rfl rfl ?_;intro o p U;refine O3 ?_;refine o7 (ι:=Nat) (fun k=>k<=s.length) (fun k=>[(3,.slice o s.length p),(8,.slice o s.length p),(9,.int .i64 (s.length:Nat)),(10,.int .i64 (k:Nat))]) (fun k=>[.own (.slice o s.length p) 5 1 (A6 (U_ (s.take k)++s.drop k))]) (fun k=>s.length-k) 0 qb ?_ ?_ ?_
 ·exact sub
 ·intro w f;exact f
 rintro k X;refine R7 ?_ ?_<;>intro h
 ·have t:k<s.length:=by simp at h;omega
  have j:=vN ir t;have g:=ck t;have m:(U_ (s.take k)).length=k:=by unfold U_;rw[zh,z1];omega
  obtain⟨c,hc⟩:=o8 (s.getD k 0);rw[<-hc] at j g;have y:(U_ (s.take k)++s.drop k).getD k 0=c:=by
   rw[zd,jz qb,m,Wg,g];rfl
  have A:(U_ (s.take k)++s.drop k).length=s.length:=by rw[zz,m,z8];omega
  have C:=c.toNat_lt;refine r7 ?_;refine r_ (R4 rfl ud rfl qb) ?_;refine r_ ((i8 rfl (fun w f=>tP f ud (i:=k) qb qb)).eq (v':=U8 c) (by rw[y])) ?_;refine A1 ?_;obtain⟨D,J⟩:=o8 (decide ((c.toNat:Int)≥65));obtain⟨S,M⟩:=o8 (decide ((c.toNat:Int)<=90));refine w8 ?_;refine x8 [(3,.slice o s.length p),(4,.int .i64 (k:Nat)),(5,U8 c),(8,.slice o s.length p),(9,.int .i64 (s.length:Nat)),(10,.int .i64 (k:Nat)),(20,.bool (D&&S))] [.own (.slice o s.length p) 5 1 (A6 (U_ (s.take k)++s.drop k))] ?_ ?_
  ·cases D
   all_goals (
    refine r7 ?_;refine f_ ((I5 rfl rfl).eb J) ?_;refine A1 ?_;(first|refine u_ ?_|(refine v_ ?_;refine f_ ((G4 rfl rfl).eb M) ?_));refine r7 ?_)
   all_goals exact p9 sub i_
  refine O0 ?_ ?_<;>intro u
  ·have O:65<=c.toNat/\c.toNat<=90:=by
    simp only[ky] at u;have a:=qr (J.symm.trans u.1);have b:=qr (M.symm.trans u.2);omega
   have n:ir c=c+32:=(by unfold ir;rw[zg O]);have T:(c.toNat:Int)+32=((c+32).toNat:Nat):=by
    rw[Wk];simp;omega
   refine E7 ?_;refine f_ ((iW rfl rfl (z:=((c+32).toNat:Nat)) (by rw[IntKind.wrap_u8];omega))) ?_;refine r_ (R4 rfl ud rfl qb) ?_;refine U0 (q:=k*1) rfl rfl uh (by rfl) qp (by(intro q x;simp[Value.cells] at x;first|(subst x;rfl)|(rcases x with rfl|rfl|rfl|rfl|rfl|rfl|rfl|rfl<;>rfl)|(rcases x with rfl|rfl|rfl|rfl|rfl|rfl|rfl|rfl|rfl|rfl|rfl|rfl|rfl|rfl|rfl|rfl|rfl|rfl|rfl|rfl<;>rfl))) (by rw[iF,A];omega) ?_;refine A1 ?_;refine l6 (k+1) qb qb ?_ ?_
   ·exact sub
   ·intro w f;have e:L6 (A6 (U_ (s.take k)++s.drop k)) (k*1) [U8 (c+32)]=A6 (U_ (s.take (k+1))++s.drop (k+1)):=by
     have v:U_ (s.take (k+1))++s.drop (k+1)=U_ (s.take k)++(c+32)::s.drop (k+1):=(by rw[<-n];exact j);rw[v,g,Zu];have V:=rO (a:=U_ (s.take k)) (r:=s.drop (k+1)) (d:=c) (c:=c+32)
     rwa [m] at V
    rw[<-e];exact f
  ·have n:ir c=c:=by
    unfold ir;refine zk fun Y=>?_;have a:D=true:=J.trans qk;have b:S=true:=M.trans qk;rw[a,b] at u
    cases u
   refine A1 ?_;refine l6 (k+1) qb qb ?_ ?_
   ·exact sub
   ·intro w f;have e:U_ (s.take k)++s.drop k=U_ (s.take (k+1))++s.drop (k+1):=by
     have v:U_ (s.take (k+1))++s.drop (k+1)=U_ (s.take k)++ir c::s.drop (k+1):=j;rw[v,n,g]
    rw[<-e];exact f
 ·have Q:k=s.length:=by simp at h;omega
  subst Q;refine r7 ?_;refine r_ (bV (l:=U_ s) rfl (by simp[U_]) (fun w f=>by have v:=(f.ownN .del).2.2.1;rwa [Qj,J7,z7] at v)) ?_;refine C5 ?_;exact d_ rfl rfl [] qh (fun _ h=>h.dropAll)
theorem yu(w:World)(q:Nat)(a:Array Obj):Below w.heap.size w (Sort.grow (w.drewN q) a):=
 ⟨rfl,rfl,rfl,by show w.heap.size<=(w.heap++a).size;simp,fun k b=>by show(w.heap++a)[k]? =_;rw[Zx b]⟩
theorem yw:Pu prog 263 [] (fun _=>True) (.agg (fV R6).toArray):=dQ fun w _=>by
 refine(oX w).mono ?_;rintro e b ⟨rfl,q,a,rfl⟩;exact⟨rfl,yu w q a⟩
theorem Lu{j:Nat}(a:j<5):(fV R6).toArray[j]? =some (B (R6.getD j [])):=by
 have b:j<R6.length:=a;simp[fV,b]
theorem dZ(s:Bs)(hl:s.length<=lr):Pu prog 193 [B s] (fun _=>True) (SG (E3 s)):=by
 unfold lr at hl;have t:R6.length=5:=rfl;refine b_ 27 func193 rfl rfl rfl ?_;intro F _;refine Rc ?_;refine c_ rfl yw qw rfl ?_;refine r7 ?_;refine o7 (ι:=Nat) (fun j=>j<=5/\∀i,i<j->(R9 (R6.getD i [])==R9 s)=false) (fun j=>[(0,B s),(6,.agg (fV R6).toArray),(7,.int .i64 (j:Nat))]) (fun _=>[]) (fun j=>5-j) 0 ⟨by omega,fun i h=>by omega⟩ ?_ ?_ ?_
 ·exact sub
 ·intro w k;exact k
 rintro j ⟨v,a⟩;refine R7 ?_ ?_<;>intro h
 ·have b:j<5:=by simp at h;omega
  have u:=Lj b;refine C7 ?_;refine f_ (eH j rfl rfl qb b (Lu b)) ?_;refine A1 ?_;refine c_ rfl (I4 (R6.getD j []) qb) qw rfl ?_;refine r7 ?_;refine c_ rfl (I4 s qb) qw rfl ?_;refine f_ ((C8 rfl rfl).eq (v':=.bool (R9 (R6.getD j [])==R9 s)) (qn (by rw[Zm];simp))) ?_;refine O0 ?_ ?_<;>intro c
  ·have e:E3 s=some (R6.getD j []):=by
    unfold E3;rw[AJ (p:=fun f=>R9 f==R9 s) qb a c]
   rw[e];refine bQ ?_;exact u6 rfl rfl rfl [] qh (fun _ h=>h)
  ·refine A1 ?_;refine l6 (j+1) ⟨by omega,fun i q=>?_⟩ qb ?_ ?_
   ·rcases kp.1 q with l|rfl
    ·exact a i l
    ·exact c
   ·exact sub
   ·intro w k;exact k
 ·have m:j=5:=by simp at h;omega
  subst m;obtain⟨d,n⟩:=o8 (je s);obtain⟨g,c⟩:=o8 (decide ((s.length:Int)>32));have e:E3 s=if(!d||g)=true then none else some (U_ s):=by
   unfold E3;rw[Li (p:=fun f=>R9 f==R9 s) (fun i q=>a i qb)];simp only;by_cases hh:(!d||g)=true
   ·rw[zg hh];refine zk fun x=>?_;rw[n,c,x.1] at hh;simp at hh;omega
   ·rw[zk hh];refine zg ?_;have o:(!d||g)=false:=(by simpa using hh);rw[Q1] at o;have l:d=true:=(by simpa using o.1);have t:=zq (c.symm.trans o.2);exact⟨n.symm.trans l,by omega⟩
  rw[e];refine w8 ?_;refine x8 [(0,B s),(24,.bool (!d||g))] [] ?_ ?_
  ·cases d
   all_goals (
    refine r7 ?_;refine c_ rfl (oV s qb) qw rfl ?_;rw[<-n];refine O3 ?_;(first|refine u_ ?_|(refine v_ ?_;refine f_ ((E2 rfl rfl).eb c) ?_));refine r7 ?_)
   all_goals exact p9 sub i_
  refine O0 ?_ ?_<;>intro r
  ·rw[zg r];refine L7 ?_;exact u6 rfl rfl rfl [] qh (fun _ h=>h)
  ·rw[zk (by rw[r];simp)];refine r7 ?_;refine c_ rfl (Dh s qb) qw rfl ?_;refine L7 ?_;exact u6 rfl rfl rfl [] qh (fun _ h=>h)
theorem pb(l:List Bs)(a:Option Addr)(c:Nat)(hl:l.length<=lr)(p:∀f∈l,f.length<=lr):Ct prog 249 [.slice a l.length c] (fun h=>n9 h a (fV l)) [] (SH (V6 l)):=by
 unfold lr at hl;refine b_ 33 func249 rfl rfl rfl ?_;intro F o;refine aq ?_;refine O8 9 1 ?_;refine o7 (ι:=Nat×List Bs×Option Addr×Nat) (fun i=>i.1<=l.length/\S4 (l.take i.1)=some i.2.1) (fun i=>[(4,.slice i.2.2.1 i.2.1.length i.2.2.2),(9,.slice a l.length c),(10,.int .i64 (l.length:Nat)),(11,.int .i64 (i.1:Nat))]) (fun i=>[A5 i.2.2.1 i.2.1 i.2.2.2]) (fun i=>l.length-i.1) (0,[],none,0) ⟨by simp,by simp[S4]⟩ ?_ ?_ ?_
 ·exact sub
 ·intro w g;exact g
 rintro⟨k,m,b,d⟩ ⟨D,hc⟩;simp only at D hc;have q:=oT hc;rw[z1] at q;refine R7 ?_ ?_<;>intro h
 ·have j:k<l.length:=by simp at h;omega
  have n:=ce o j;have r:=p _ (dO j);have s:l.take (k+1)=l.take k++[l.getD k []]:=NR j;refine C7 ?_;refine f_ (m9 rfl n rfl qb) ?_;refine r_ (i8 rfl (fun w g=>OU g o (i:=k) qb j)) ?_;refine A1 ?_;refine c_ rfl (dZ (l.getD k []) r) qw rfl ?_;refine ap ?_
  cases hq:E3 (l.getD k []) with
  |none=>
   have e:V6 l=([],4):=(by unfold V6;rw[oS hq (dO j)]);rw[e];refine JS ?_;exact u6 rfl rfl rfl [A5 none [] 0] ⟨none,0,rfl,rfl⟩ (fun w g=>g.dropAll.addNil _ _)
  |some z=>
   refine O3 ?_;refine x7 rfl rfl rfl rfl rfl rfl (xs:=fV [z]) rfl rfl ?_;intro a46 u;refine C0 rfl rfl (fun Q S=>.there .here) (fun w g=>(g.ownN ud).2.2.1) rfl rfl rfl (lg _) (by show(m.length+1)*16<=_;omega) qg rfl ?_;intro a5 J M;refine E7 ?_;refine l6 (k+1,m++[z],a5,J) ⟨by simp only;omega,by simp only;rw[s];exact md hq hc⟩ qg ?_ ?_
   ·simp only[zz,jc];exact sub
   ·intro w g;simp only[A5,zz,jc];rw[gr];exact g.drop
 ·have t:k=l.length:=by simp at h;omega
  rw[t,Qj] at hc;have O:=AL m;refine r7 ?_;refine x6 _ rfl (oZ m b d qb) i_ (fun h T ⟨U,p⟩=>A3.rd p ud) rfl ?_;rintro v A ⟨x,y,rfl,rfl⟩;refine E7 ?_;refine f_ ((E2 rfl rfl).eq (v':=.bool (decide (16<(T5 m).length))) (qn (zp.mpr qb))) ?_;refine O0 ?_ ?_<;>intro C
  ·have e:V6 l=([],7):=(by unfold V6;rw[hc];simp only;rw[zg (qr C)]);rw[e];refine L7 ?_;exact u6 rfl rfl rfl [A5 none [] 0] ⟨none,0,rfl,rfl⟩ (fun w g=>g.dropAll.addNil _ _)
  ·have e:V6 l=(T5 m,0):=(by unfold V6;rw[hc];simp only;rw[zk (zq C)]);rw[e];refine bQ ?_;exact u6 rfl rfl rfl [A5 x (T5 m) y] ⟨x,y,rfl,rfl⟩ (fun w g=>g.left (A:=[_]))
abbrev C9(l:Bs):ByteArray:=⟨l.toArray⟩
theorem Lv{h:l_}{a:Option Addr}{l:List Bs}(r:n9 h a (fV l))(c:l≠[]):∃b o,a=some ⟨b,o,none⟩/\∀j,j<l.length->h.cell? ⟨b,o+j,none⟩=some (B (l.getD j [])):=by
 obtain⟨⟨b,o,d⟩,rfl,hc⟩:=r (by intro e;have:=jy List.length e;rw[L8] at this;exact c (jx this))
 cases d with
 |none=>
  refine⟨b,o,rfl,fun j f=>?_⟩;have:=hc j (B (l.getD j [])) (by simp[fV,f])
  rwa [Addr.add_lit] at this
 |some x=>
  exfalso
  cases l with
  |nil=>exact c rfl
  |cons y t=>
   have:=hc 0 (B y) rfl;simp[Addr.add,l_.cell?] at this;split at this<;>simp at this
theorem Lw(l:List Bs)(a:Option Addr)(c:Nat)(d:Bs)(hc:l.length<=c)(hl:l.length<=140737488355328)(r:(fe d l).length<=140737488355328):Pu prog 41 [.slice a l.length c,B d] (fun h=>n9 h a (fV l)) (B (fe d l)):=dQ fun w s=>by
 by_cases h0:l=[]
 ·subst h0;refine(Tryz.strings_Join_none a c (C9 d) w).mono ?_;rintro e u ⟨rfl,rfl⟩;exact⟨rfl,Below.refl _ _⟩
 ·obtain⟨b,o,rfl,g⟩:=Lv s h0;have f:∀j,j<l.length->w.cell? ⟨b,o+j,none⟩=some (B (l.getD j [])):=g;have t:b<w.heap.size:=by
   have:=f 0 (Z8.mpr h0);unfold World.cell? at this
   cases hh:w.heap[b]? with
   |none=>simp only[hh] at this;cases this
   |some ob=>exact(kr.1 hh).1
  have k:(l.map C9).length=l.length:=by simp
  have p:(l.map C9).map (·.data.toList)=l:=by simp[Z6]
  have q:(C9 d).data.toList=d:=rfl;have m:∀(j:Nat) x,(l.map C9)[j]? =some x->w.cell? ⟨b,o+j,none⟩=some (.string x):=fun j x i=>by
   rw[Zj] at i
   cases hj2:l[j]? with
   |none=>rw[hj2] at i;cases i
   |some y=>
    rw[hj2] at i
    cases i
    have n:j<l.length:=(jn.1 hj2).1;rw[f j n,zd,hj2];rfl
  have:=Tryz.strings_Join b o c (l.map C9) (C9 d) w m t qb qb (by rw[p,q,fH];exact r);rw[p,q,fH,k] at this;exact this
theorem pc:∀(w r:Bs),(∀c∈w,c≠32)->Lib.index (w++32::r) [32]=((w.length:Nat):Int)
 |[],r,_=>by rw[j8,Lib.index];simp[List.isPrefixOf]
 |b::w,r,h=>by
  have a:=pc w r (fun c hc=>h c (by simp[hc]));have d:b≠32:=h b x4;have hp:([32]:List UInt8).isPrefixOf (b::(w++32::r))=false:=by simp[List.isPrefixOf,Ne.symm d]
  rw[Q8,Lib.index,hp,a];have e:(((w.length:Nat):Int)== -1)=false:=beq_eq_false_iff_ne.mpr qb;simp[e]
theorem rQ:∀(k:Nat) (s:Bs),s.count 32=k->Lib.splitK [32] 0 k s=H8 s
 |0,s,h=>by
  rw[ou s (fun c hc e=>by subst e;have:=List.count_pos_iff.mpr hc;omega)];rfl
 |k+1,s,h=>by
  have hs:=bt (fun c=>c !=32) s;obtain⟨w,g⟩:=o8 (s.takeWhile fun c=>c !=32);have a:∀c∈w,c≠32:=fun c hc=>by
   rw[g] at hc;have:=gT (fun c=>c !=32) s c hc;simpa using this
  have b:=fF (fun c=>c !=32) s;rw[<-g] at hs b
  cases hd:s.drop w.length with
  |nil=>
   rw[hd,z7] at hs;have:s.count 32=0:=Jd.mpr (fun hc=>a 32 (hs▸hc) rfl);omega
  |cons d r=>
   rw[hd] at hs b;have f:d=32:=(by have:=b d x4;simpa using this);subst f;have i:=pc w r a;have hc:r.count 32=k:=by
    rw[hs,List.count_append,List.count_cons_self] at h;have:w.count 32=0:=Jd.mpr (fun hc=>a 32 hc rfl);omega
   rw[hs,ov w r a,Lib.splitK,i];have j:(((w.length:Nat):Int)== -1)=false:=beq_eq_false_iff_ne.mpr qb;rw[j];simp only[Kz,if_false,jh,Q3,K7];rw[show(w++32::r).drop (w.length+[(32:UInt8)].length)=r by simp,rQ k r hc]
def Po(s:Bs)(v:Value)(A:List As):Prop:=∃a c,v=.slice a (H8 s).length c/\A=[A5 a (H8 s) c]
theorem GD(s:Bs)(hs:s.length<4294967281):Ct prog 248 [B s,B [32]] Gl [] (Po s):=by
 intro w g c h b;have i:g=[]:=c;subst i;rw[N3] at b;obtain⟨m,t,j,k⟩:=b.m;have hc:=Tryz.strings_Split (C9 s) (C9 [32]) m w (by simpa[ByteArray.size] using hs) (mf k) qp;refine hc.mono ?_;rintro e r ⟨rfl,rfl⟩;have d:Lib.countB (C9 s) (C9 [32])=s.count 32:=Lib.count_one 32 s;have f:=Lib.splitB_data (C9 [32]) 0 (Lib.countB (C9 s) (C9 [32])) (C9 s);have l:(C9 [32]).data.toList=[32]:=rfl;have n:(C9 s).data.toList=s:=rfl;rw[l,n,d,rQ _ s rfl] at f;have o:(Lib.splitB (C9 [32]) 0 (Lib.countB (C9 s) (C9 [32])) (C9 s)).length=Lib.countB (C9 s) (C9 [32])+1:=Lib.splitB_all _ qp 0 _ _ rfl;have a:(Lib.splitB (C9 [32]) 0 (Lib.countB (C9 s) (C9 [32])) (C9 s)).map Value.string=fV (H8 s):=by
  rw[d,<-f];simp[fV,Z6]
 have p:Lib.countB (C9 s) (C9 [32])+1=(H8 s).length:=by
  rw[<-o,d,<-f,zh]
 rw[a,p];refine⟨_,[A5 (some ⟨w.heap.size,0,none⟩) (H8 s) (H8 s).length],rfl,⟨_,_,rfl,rfl⟩,?_⟩;have q:Hp (r8 w []) w []:=Hp.start (C:=[]) (bs:=[]) rfl Zy;exact O9 (xs:=fV (H8 s)) (post:=[]) (fr:=(0,0)) q (by rw[L8];omega) (by rw[z7,L8];omega) (zr _) (.inl (zr _)) x4
theorem rR:∀s:Bs,(H8 s).length<=s.length+1/\∀f∈H8 s,f.length<=s.length
 |[]=>by simp[H8]
 |c::t=>by
  have a:=rR t;unfold H8;split
  ·refine⟨by simp;omega,fun f hf=>?_⟩;rcases kw.mp hf with rfl|hf
   ·simp
   ·have:=a.2 f hf;simp;omega
  ·split
   ·simp
   ·next w b h=>
    rw[h] at a;refine⟨by simpa using by have:=a.1;simp at this;omega,fun f hf=>?_⟩;rcases kw.mp hf with rfl|hf
    ·have:=a.2 w x4;simp;omega
    ·have:=a.2 f (by simp[hf]);simp;omega
theorem tW(s:Bs):s.contains 41=decide ((s.takeWhile fun c=>c !=41).length<s.length):=by
 induction s with
 |nil=>rfl
 |cons c t ih=>
  by_cases h:c=41
  ·subst h;simp
  ·have a:((41:UInt8)==c)=false:=beq_eq_false_iff_ne.mpr (fun e=>h e.symm);rw[Wd,a,K0,ih,Zz];simp[h]
theorem Di(s:Bs)(hs:s.length<4294967281):Ct prog 177 [B s] Gl [] (Pk (T6 s)):=by
 obtain⟨e,j⟩:=o8 ((s.takeWhile fun c=>c !=41).length);have d:=eN s 41;rw[tW,<-j] at d;obtain⟨z,hz⟩:=o8 (Lib.indexByte s 41);rw[<-hz] at d;obtain⟨n,D⟩:=o8 (decide (z<1));obtain⟨o,J⟩:=o8 (decide (s.getD 0 0=40));have h7:e<=s.length:=by
  have:=jy List.length (bt (fun c=>c !=41) s);rw[zz] at this;omega
 have M:(n||!o)=true->T6 s=([],0,4):=fun h=>by
  unfold T6;simp only;rw[<-j];refine zk fun l=>?_;rw[zg (by simpa using l.2)] at d;have k:1<=s.length:=by omega
  rw[oQ k] at l;have m:s.getD 0 0=40:=by simpa using l.1
  have O:o=true:=J.trans (jk m);have Q:1<=e:=by
   cases s with
   |nil=>simp at k
   |cons c t=>
    have hc:c=40:=m;subst hc;rw[j];simp
  have S:n=false:=D.trans qj;rw[S,O] at h
  cases h
 have p:(n||!o)=false->z=(e:Int)/\1<=e/\e<s.length/\s.head? =some 40:=fun h=>by
  rw[Q1] at h;have m:=zq (D.symm.trans h.1);have T:o=true:=by simpa using h.2
  have h5:s.getD 0 0=40:=qr (J.symm.trans T);by_cases hc:e<s.length
  ·rw[zg (by simpa using hc)] at d;refine⟨d,by omega,hc,?_⟩;rw[oQ qb,h5]
  ·rw[zk (by simpa using hc)] at d;omega
 refine b_ 35 func177 rfl rfl rfl ?_;intro F hg;refine O3 ?_;refine c_ rfl (ai s 41) qw rfl ?_;rw[<-hz];refine r7 ?_;refine x8 [(0,B s),(5,.int .i64 z),(17,.bool (n||!o))] [] ?_ ?_
 ·cases n
  all_goals (
   refine r7 ?_;refine f_ ((F6 rfl rfl).eb D) ?_;refine A1 ?_;(first|refine u_ ?_|(refine v_ ?_;refine f_ ((A7 rfl rfl (by have:=zq D.symm;split at d<;>omega)).eq (v':=U8 (s.getD 0 0)) rfl) ?_));(first|refine u_ ?_|(refine v_ ?_;refine f_ ((M3 rfl rfl).eq ((jy (fun b=>Value.bool (!b)) (gY (b:=40))).trans (jy (fun b=>Value.bool (!b)) J.symm))) ?_));refine r7 ?_)
  all_goals exact p9 sub i_
 refine O0 ?_ ?_<;>intro h
 ·rw[M h];refine bQ ?_;exact cL rfl rfl rfl rfl [A5 none [] 0] ⟨none,0,rfl,rfl⟩ (fun w q=>q.addNil _ _)
 obtain⟨U,Q,V,X⟩:=p h;rw[U];have Y:(s.take e).drop 1=(s.drop 1).take (e-1):=by rw[List.drop_take]
 obtain⟨a,g⟩:=o8 ((s.take e).drop 1);have r:a.length=e-1:=by rw[g,z8,z1];omega
 have i:T6 s=if(V6 (if a=[] then[] else H8 a)).2=0 then((V6 (if a=[] then[] else H8 a)).1,e+1,0) else([],0,(V6 (if a=[] then[] else H8 a)).2):=by
  unfold T6;simp only;rw[<-j,zg ⟨X,V⟩,<-g]
 refine A1 ?_;refine f_ ((E2 rfl rfl).eq (v':=.bool (decide (1<e))) (qn (zp.mpr qb))) ?_;refine O0 ?_ ?_<;>intro m
 ·have T:=qr m;have Z:a≠[]:=by intro x;rw[x] at r;simp at r;omega
  rw[zk Z] at i;have h0:=rR a;refine A1 ?_;refine f_ ((H6 rfl rfl rfl qb).eq (v':=B a) (by rw[g,Y];simp only[jh];rfl)) ?_;refine x6 _ rfl (GD a qb) i_ (fun h l hb=>hg.le l) rfl ?_;rintro v A ⟨TZ,h6,rfl,rfl⟩;refine A1 ?_;refine x6 _ rfl (pb (H8 a) TZ h6 (by unfold lr;omega) (fun f hf=>by have:=h0.2 f hf;unfold lr;omega)) i_ (fun h l ⟨bs,hb⟩=>A3.rd hb ud) rfl ?_;rintro v A ⟨u,y,rfl,rfl⟩;refine wk 7 ?_;refine o9 rfl ?_ ?_<;>intro h9
  ·have j:¬(V6 (H8 a)).2=0:=(by simpa using h9);rw[i,zk j];refine JS ?_;exact cL rfl rfl rfl rfl [A5 none [] 0] ⟨none,0,rfl,rfl⟩ (fun w q=>q.dropAll.addNil _ _)
  ·have j:(V6 (H8 a)).2=0:=(by simpa using h9);rw[i,zg j];refine A1 ?_;refine f_ ((p_ rfl rfl qb).eq (v':=.int .i64 ((e+1:Nat):Int)) (by congr 1)) ?_;refine bQ ?_;exact cL rfl rfl rfl rfl [A5 u (V6 (H8 a)).1 y] ⟨u,y,rfl,rfl⟩ (fun w q=>q.left (A:=[_]))
 ·have T:=zq m;have C:a=[]:=jx qb;rw[zg C] at i;refine r7 ?_;refine x6 _ rfl (pb [] none 0 x4 x4) i_ (fun h l hb=>fun x=>absurd rfl x) rfl ?_;rintro v A ⟨u,y,rfl,rfl⟩;refine wk 7 ?_;have j:(V6 []).2=0:=rfl;rw[i,zg j];refine A1 ?_;refine f_ ((p_ rfl rfl qb).eq (v':=.int .i64 ((e+1:Nat):Int)) (by congr 1)) ?_;refine bQ ?_;exact cL rfl rfl rfl rfl [A5 u (V6 []).1 y] ⟨u,y,rfl,rfl⟩ i_
abbrev H9(b:Nat)(s:Bs)(p:Nat)(c:CM)(x:CL):As:=.blk b (.cells #[B s,.int .i64 (p:Nat),B c.tag,.int .i64 (c.kind:Nat),.bool c.uid,.bool c.cond,B c.box,B c.user,B c.pass,B c.a5U,.slice x.sa c.set.length x.sc,.slice x.ia c.a5Q.length x.ic,.slice x.ka c.keys.length x.kc,.int .i64 (c.how:Nat),.bool c.a5W,.bool c.a5R,.int .u64 (c.a5S:Nat),.slice x.fa c.a5Y.length x.fc,B c.data] 211)
abbrev N1:Value:=.iface 219 (.agg #[])
abbrev fQ{α:Type}(o:Option α)(v:Value):Prop:=o=none/\v=N1
theorem G9(ok:Bool):Cx prog 137 [.bool ok] (fun _=>True) [] (fun v A=>ok=true/\v=.tuple #[]/\A=[]) (fun v=>ok=false/\v=N1):=by
 refine B8 6 func137 rfl rfl rfl ?_;intro F _
 cases ok with
 |true=>
  refine A1 ?_;exact m6 rfl [] qm i_
 |false=>
  refine Rc ?_;refine f_ (y8 rfl rfl) ?_;refine f_ (Y3 (by intro a h;cases h) rfl) ?_;exact Fv rfl rfl (l8.le_refl _) qh
theorem aO(b:Nat)(s:Bs)(p:Nat)(c:CM)(x:CL)(hs:s.length<=1000000000000)(hp:p<=s.length):Ct prog 206 [l9 b] (fun _=>True) [H9 b s p c x] (fun v A=>v=B (s.drop p)/\A=[H9 b s p c x]):=by
 refine b_ 12 func206 rfl rfl rfl ?_;intro F _;refine r7 ?_;refine vi [3,7] [] 10 ?_;refine wd [0,1,2,3,4,5,6,7] ?_;refine w_ 8 rfl ((H6 rfl rfl rfl qb).eq (v':=B (s.drop p)) (by rw[jq (by rw[z8];omega),jh])) ?_;refine wd [9] ?_;refine A4 ?_;exact d_ rfl rfl [H9 b s p c x] qh i_
def H5(s w:Bs)(p:Nat):Nat:=if I1 s w p=true then p+w.length else p
theorem AT{s w:Bs}{p:Nat}:I1 s w p=true↔R9 ((s.drop p).take w.length)=w:=by unfold I1;simp
theorem gz{s w:Bs}{p:Nat}(hp:p<=s.length):p<=H5 s w p/\H5 s w p<=s.length:=by
 unfold H5;split
 ·next h=>
  by_cases hw:w=[]
  ·subst hw;simp;omega
  ·have:=iz h hw;omega
 ·omega
theorem S7(b:Nat)(s w:Bs)(p:Nat)(c:CM)(x:CL)(hs:s.length<=1000000000000)(hp:p<=s.length)(l:w.length<=1000000000000):Ct prog 132 [l9 b,B w] (fun _=>True) [H9 b s p c x] (fun v A=>v=.bool (I1 s w p)/\A=[H9 b s (H5 s w p) c x]):=by
 obtain⟨j,d⟩:=o8 (decide (((s.drop p).length:Int)<(w.length:Nat)));obtain⟨k,f⟩:=o8 (!decide (R9 ((s.drop p).take w.length)=w));refine b_ 30 func132 rfl rfl rfl ?_;intro F _;refine r7 ?_;refine x8 [(0,l9 b),(1,B w),(20,.bool (j||k))] [H9 b s p c x] ?_ ?_
 ·cases j
  all_goals (
   refine r7 ?_;refine x6 _ rfl (aO b s p c x hs hp) i_ qw rfl ?_;rintro v A ⟨rfl,rfl⟩;refine E7 ?_;refine f_ ((F6 rfl rfl).eb d) ?_;refine A1 ?_;(first|refine u_ ?_|(refine v_ ?_;refine x6 _ rfl (aO b s p c x hs hp) i_ qw rfl ?_;rintro v A ⟨rfl,rfl⟩));refine A1 ?_;(first|refine u_ ?_|(refine v_ ?_;refine f_ ((H6 rfl rfl rfl (by have:=zq d.symm;omega)).eq (v':=B ((s.drop p).take w.length)) x4) ?_));(first|refine u_ ?_|(refine v_ ?_;refine c_ rfl (I4 ((s.drop p).take w.length) (by rw[z1];omega)) qw rfl ?_));refine r7 ?_;(first|refine u_ ?_|(refine v_ ?_;refine f_ ((E8 rfl rfl).eb f) ?_));refine r7 ?_)
  all_goals exact p9 sub i_
 refine O0 ?_ ?_<;>intro h
 ·have e:I1 s w p=false:=by
   rw[Bool.eq_false_iff];intro g;rw[AT] at g;rw[Zw] at h;rcases h with h|h
   ·have m:=qr (d.symm.trans h);have:=jy List.length g;unfold R9 at this;rw[zh,z1] at this;omega
   ·rw[f,g] at h;simp at h
  have a:H5 s w p=p:=by unfold H5;rw[e];rfl
  rw[e,a];refine C5 ?_;exact d_ rfl rfl [H9 b s p c x] qh i_
 ·rw[Q1] at h;have e:I1 s w p=true:=AT.2 (by have:=f.symm.trans h.2;simpa using this);have a:H5 s w p=p+w.length:=by unfold H5;rw[e];rfl
  have i:=gz (s:=s) (w:=w) hp;rw[a] at i;rw[e,a];refine aq ?_;refine f_ ((p_ rfl rfl qb).eq (v':=.int .i64 ((p+w.length:Nat):Int)) (by congr 1)) ?_;refine JS ?_;exact d_ rfl rfl [H9 b s (p+w.length) c x] qh i_
theorem D8(b:Nat)(s w:Bs)(p:Nat)(c:CM)(x:CL)(hs:s.length<=1000000000000)(hp:p<=s.length)(f:w.length<=1000000000000):Cx prog 274 [l9 b,B w] (fun _=>True) [H9 b s p c x] (fun v A=>∃e,H_ s w p=some e/\v=.tuple #[]/\A=[H9 b s e c x]) (fQ (H_ s w p)):=by
 refine B8 8 func274 rfl rfl rfl ?_;intro F _;obtain⟨W,a⟩:=o8 (H_ s w p);rw[<-a];unfold H_ at a;refine A1 ?_;refine x6 _ rfl (S7 b s w p c x hs hp f) i_ qw rfl ?_;rintro v A ⟨rfl,rfl⟩;refine x5 _ rfl (G9 (I1 s w p)) i_ pre rfl rfl (l8.le_refl _) (fun v h=>⟨(by rw[a,h.1];rfl),h.2⟩) ?_;rintro v A ⟨d,rfl,rfl⟩;refine w8 ?_;rw[zg d] at a;have g:H5 s w p=p+w.length:=by unfold H5;rw[d];rfl
 rw[g];exact m6 rfl [H9 b s (p+w.length) c x] ⟨_,a,rfl,rfl⟩ i_
abbrev vQ(f:FuncId)(q:UInt8->Bool):Prop:=∀c,Pu prog f [B [c]] (fun _=>True) (.bool (q c))
theorem yx{s:Bs}{j:Nat}(a:j<s.length):(s.drop j).take 1=[s.getD j 0]:=by
 rw[Qg a,zd,zj a];rfl
theorem eR(f:FuncId)[hF:HF prog f](q:UInt8->Bool)(u:vQ f q)(b:Nat)(s:Bs)(p:Nat)(c:CM)(x:CL)(hs:s.length<=1000000000000)(hp:p<=s.length):Ct prog 134 [l9 b,.func (.func f) #[] #[]] (fun _=>True) [H9 b s p c x] (fun v A=>v=B (N8 q s p)/\A=[H9 b s (p+(N8 q s p).length) c x]):=by
 refine b_ 55 func134 rfl rfl rfl ?_;intro F _;refine aq ?_;refine o7 (ι:=Nat) (fun j=>p<=j/\j<=s.length/\∀i,p<=i->i<j->q (s.getD i 0)=true) (fun j=>[(0,l9 b),(1,.func (.func f) #[] #[]),(5,.int .i64 (p:Nat))]) (fun j=>[H9 b s j c x]) (fun j=>s.length-j) p ⟨zr _,hp,fun i h t=>by omega⟩ ?_ ?_ ?_
 ·exact sub
 ·intro w m;exact m
 rintro j ⟨e,n,g⟩;obtain⟨o,a⟩:=o8 (decide ((j:Int)<(s.length:Nat)));obtain⟨y,d⟩:=o8 (q (s.getD j 0));refine w8 ?_;refine x8 [(0,l9 b),(1,.func (.func f) #[] #[]),(5,.int .i64 (p:Nat)),(37,.bool (o&&y))] [H9 b s j c x] ?_ ?_
 ·cases o
  all_goals (
   refine w8 ?_;refine vi [3,7,15,19,23] [] 28 ?_;refine wd [0,1,2,3,4,5,6,7,8] ?_;refine w_ 9 rfl ((F6 rfl rfl).eb a) ?_;refine wd [10,11,12,13,14,15,16,17,18,19,20,21,22,23] ?_;(first|refine s_ 24 ?_|refine t_ 24 ?_|refine E1 24 rfl ((p_ rfl rfl (by have:=qr a.symm;omega)).eq (v':=.int .i64 ((j+1:Nat):Int)) (by congr 1)) rfl rfl rfl rfl rfl rfl i6 ?_);(first|refine s_ 25 ?_|refine t_ 25 ?_|refine E1 25 rfl ((H6 rfl rfl rfl (by have:=qr a.symm;omega)).eq (v':=B [s.getD j 0]) (by have O:=qr a.symm;rw[jP qb,Nat.add_sub_cancel_left,yx qb])) rfl rfl rfl rfl rfl rfl i6 ?_);refine h_ 26 rfl i6 ?_;(first|refine u_ ?_|(refine v_ ?_;refine z_ (ps:=[]) (qs:=[]) _ rfl rfl rfl (u (s.getD j 0)) i_ qw rfl ?_;rintro v A ⟨rfl,rfl⟩;rw[<-d]));refine xF ?_;refine wd [27] ?_)
  all_goals exact p9 sub i_
 refine O0 ?_ ?_<;>intro k
 ·simp only[ky] at k;have z:j<s.length:=by have:=qr (a.symm.trans k.1);omega
  refine O3 ?_;refine f_ ((p_ rfl rfl qb).eq (v':=.int .i64 ((j+1:Nat):Int)) (by congr 1)) ?_;refine E7 ?_;refine l6 (j+1) ⟨by omega,by omega,fun i h t=>?_⟩ qb ?_ ?_
  ·rcases kp.1 t with C|rfl
   ·exact g i h C
   ·rw[<-d];exact k.2
  ·exact sub
  ·intro w m;exact m
 ·have l:j<s.length->q (s.getD j 0)=false:=fun Q=>by
   have:o=true:=a.trans qk;rw[this,Kc] at k;rw[<-d];exact k
  obtain⟨r,D⟩:=AM (f:=q) e (.inl n) g l;have J:N8 q s p=(s.drop p).take (j-p):=r;have M:p+(N8 q s p).length=j:=D.symm;rw[M,J];refine w8 ?_;refine vi [3,8] [] 11 ?_;refine wd [0,1,2,3,4,5,6,7,8] ?_;refine w_ 9 rfl ((H6 rfl rfl rfl qb).eq (v':=B ((s.drop p).take (j-p))) (jy B (jP e))) ?_;refine wd [10] ?_;refine A4 ?_;exact d_ rfl rfl [H9 b s j c x] qh i_
theorem pd:vQ 47 P3:=fun c=>by
 have h:=oV [c] x4;have e:je [c]=P3 c:=by simp[je]
 rw[e] at h;exact h
theorem lu{a c:UInt8}:Op.bytesLess [a] [c]=decide (a.toNat<c.toNat):=by
 simp only[Op.bytesLess];by_cases h:a<c
 ·have:a.toNat<c.toNat:=h;simp[h,this]
 ·have:¬a.toNat<c.toNat:=h;simp[h,this]
theorem rS{a c:UInt8}:(Op.bytesLess [a] [c]||[a]==[c])=decide (a.toNat<=c.toNat):=by
 rw[lu];by_cases h:a=c
 ·subst h;simp
 ·have b:a.toNat≠c.toNat:=fun e=>h (Wz.mp e);simp only[List.cons_beq_cons,List.nil_beq_eq,beq_eq_false_iff_ne.mpr h,Bool.false_and,Bool.or_false];exact zp.mpr qb
theorem AU:vQ 391 P1:=fun c=>by
 obtain⟨a,b⟩:=o8 (decide (48<=c.toNat));obtain⟨f,d⟩:=o8 (decide (c.toNat<=57));have e:P1 c=(a&&f):=by unfold P1;rw[b,d]
 rw[e];refine b_ 9 func391 rfl rfl rfl ?_;intro F _;refine r7 ?_
 cases a
 all_goals (
  refine r7 ?_;refine f_ ((kZ rfl rfl).eq (qn ((show(!Op.bytesLess [c] [48])=decide (48<=c.toNat) from by rw[lu,<-decide_not];congr 1;simp).trans b.symm))) ?_;refine A1 ?_;(first|refine u_ ?_|(refine v_ ?_;refine f_ ((ld rfl rfl).eq (qn (rS.trans d.symm))) ?_));refine A1 ?_)
 all_goals (refine A4 ?_;exact d_ rfl rfl [] qh i_)
theorem bN{q:UInt8->Bool}{s:Bs}{p:Nat}(hp:p<=s.length):p+(N8 q s p).length<=s.length:=Pd q s p hp
theorem AV(b:Nat)(s:Bs)(p:Nat)(c:CM)(x:CL)(hs:s.length<=1000000000000)(hp:p<=s.length):Cx prog 341 [l9 b] (fun _=>True) [H9 b s p c x] (fun v A=>∃r,vz s p=some r/\v=B r.1/\A=[H9 b s r.2 c x]) (fQ (vz s p)):=by
 refine B8 10 func341 rfl rfl rfl ?_;intro F _;obtain⟨W,a⟩:=o8 (vz s p);rw[<-a];unfold vz at a;refine A1 ?_;refine x6 _ rfl (eR 47 P3 pd b s p c x hs hp) i_ qw rfl ?_;rintro v A ⟨rfl,rfl⟩;refine A1 ?_;refine f_ (E8 rfl rfl) ?_;refine x5 _ rfl (G9 _) i_ pre rfl rfl (l8.le_refl _) (fun v h=>⟨(by rw[a,zg (by have:=h.1;simpa using this)]),h.2⟩) ?_;rintro v A ⟨d,rfl,rfl⟩;refine w8 ?_;rw[zk (by simpa using d)] at a;refine L7 ?_;exact d_ rfl rfl [H9 b s (p+(N8 P3 s p).length) c x] ⟨_,a,rfl,rfl⟩ i_
theorem cn{s:Bs}{m p:Nat}{r:Nat×Nat}(hp:p<=s.length)(h:mG s m p=some r):r.1<=m/\p<=r.2/\r.2<=s.length:=by
 unfold mG at h;obtain⟨n,b,a⟩:=zc.1 h;split at a
 ·have:=js a;subst this;have:=bN (q:=P1) hp;exact⟨by assumption,by simp only;omega,this⟩
 ·cases a
theorem X_(b:Nat)(s:Bs)(m p:Nat)(c:CM)(x:CL)(hs:s.length<=1000000000000)(hp:p<=s.length)(j:m<=D9):Cx prog 342 [l9 b,.int .u64 (m:Nat)] Gl [H9 b s p c x] (fun v A=>∃r,mG s m p=some r/\v=.int .u64 (r.1:Nat)/\A=[H9 b s r.2 c x]) (fQ (mG s m p)):=by
 refine B8 21 func342 rfl rfl rfl ?_;intro F hg;obtain⟨W,a⟩:=o8 (mG s m p);rw[<-a];unfold mG at a;have g:=bN (q:=P1) hp
 cases hn:aX (N8 P1 s p) with
 |none=>
  rw[hn] at a;refine A1 ?_;refine x6 _ rfl (eR 391 P1 AU b s p c x hs hp) i_ qw rfl ?_;rintro v A ⟨rfl,rfl⟩;refine c_ rfl (eQ (N8 P1 s p) qb) (fun h d i=>hg.le d) rfl ?_;rw[hn];simp only[Gg];refine wk 11 ?_;refine x5 _ rfl (G9 _) i_ pre rfl rfl (l8.le_refl _) (fun v h=>⟨(a),h.2⟩) ?_;rintro v A ⟨e,rfl,rfl⟩;refine w8 ?_
  cases e
 |some n=>
  rw[hn] at a;obtain⟨q,f⟩:=o8 (decide (n<=m));refine A1 ?_;refine x6 _ rfl (eR 391 P1 AU b s p c x hs hp) i_ qw rfl ?_;rintro v A ⟨rfl,rfl⟩;refine c_ rfl (eQ (N8 P1 s p) qb) (fun h d i=>hg.le d) rfl ?_;rw[hn];simp only[Gg];refine wk 9 ?_;(first|refine u_ ?_|(refine v_ ?_;refine f_ ((G4 rfl rfl).eq (v':=.bool q) (qn (by rw[f];simp))) ?_));refine r7 ?_;refine x5 _ rfl (G9 q) i_ pre rfl rfl (l8.le_refl _) (fun v h=>⟨(by rw[a,z6,zk (zq (f.symm.trans h.1))]),h.2⟩) ?_;rintro v A ⟨e,rfl,rfl⟩;refine w8 ?_;rw[z6,zg (qr (f.symm.trans e))] at a;refine L7 ?_;exact d_ rfl rfl [H9 b s (p+(N8 P1 s p).length) c x] ⟨_,a,rfl,rfl⟩ i_
theorem Lx{s:Bs}{p:Nat}{r:Bs×Nat}(hp:p<=s.length)(h:mH s p=some r):p<=r.2/\r.2<=s.length/\r.1.length<=4096:=by
 unfold mH at h;obtain⟨e,a,h⟩:=zc.1 h;obtain⟨⟨n,f⟩,b,h⟩:=zc.1 h;obtain⟨g,c,h⟩:=zc.1 h;have d:=D0 a x4;have i:=cn d.2.2 b;have a3:=D0 c x4;split at h
 ·have:=js h;subst this;have j:([123]:Bs).length=1:=rfl;have k:([125,13,10]:Bs).length=3:=rfl;simp only[z1,z8] at*;omega
 ·cases h
theorem mi(b:Nat)(s:Bs)(p:Nat)(c:CM)(x:CL)(hs:s.length<=1000000000000)(hp:p<=s.length):Cx prog 283 [l9 b] Gl [H9 b s p c x] (fun v A=>∃r,mH s p=some r/\v=B r.1/\A=[H9 b s r.2 c x]) (fQ (mH s p)):=by
 refine B8 40 func283 rfl rfl rfl ?_;intro F hg;obtain⟨W,a⟩:=o8 (mH s p);rw[<-a];unfold mH at a;refine A1 ?_;refine x5 _ rfl (D8 b s [123] p c x hs hp x4) i_ pre rfl rfl (l8.le_refl _) (fun v h=>⟨(by rw[a,h.1];rfl),h.2⟩) ?_;rintro v A ⟨m,j,rfl,rfl⟩;refine w8 ?_;rw[j,z6] at a;have e:=D0 j x4;refine r7 ?_;refine x5 _ rfl (X_ b s 4096 m c x hs e.2.2 qp) i_ pre rfl rfl (l8.le_refl _) (fun v h=>⟨(by rw[a,h.1];rfl),h.2⟩) ?_;rintro v A ⟨⟨n,o⟩,f,rfl,rfl⟩;refine f_ (bq rfl (by have:=(cn e.2.2 f).1;simp only at this;omega)) ?_;refine r7 ?_;rw[f,z6] at a;have k:=cn e.2.2 f;simp only at k a;refine r7 ?_;refine x5 _ rfl (D8 b s [125,13,10] o c x hs k.2.2 x4) i_ pre rfl rfl (l8.le_refl _) (fun v h=>⟨(by rw[a,h.1];rfl),h.2⟩) ?_;rintro v A ⟨d,l,rfl,rfl⟩;refine w8 ?_;rw[l,z6] at a;have a3:=D0 l x4;obtain⟨q,g⟩:=o8 (decide (d+n<=s.length));refine r7 ?_;refine x6 _ rfl (aO b s d c x hs a3.2.2) i_ qw rfl ?_;rintro v A ⟨rfl,rfl⟩;refine A1 ?_;refine f_ ((I5 rfl rfl).eq (v':=.bool q) (qn (by rw[g,z8];apply zp.2;omega))) ?_;refine x5 _ rfl (G9 q) i_ pre rfl rfl (l8.le_refl _) (fun v h=>⟨(by rw[a,zk (zq (g.symm.trans h.1))]),h.2⟩) ?_;rintro v A ⟨t,rfl,rfl⟩;refine w8 ?_;have i:=qr (g.symm.trans t);rw[zg i] at a;refine ap ?_;refine f_ ((p_ rfl rfl qb).eq (v':=.int .i64 ((d+n:Nat):Int)) (by congr 1)) ?_;refine E7 ?_;refine vi [3,7,13] [] 16 ?_;refine wd [0,1,2,3,4,5,6,7,8] ?_;refine w_ 9 rfl ((E0 rfl rfl qb).eq (v':=.int .i64 (d:Nat)) (by congr 1;omega)) ?_;refine wd [10,11,12,13] ?_;refine w_ 14 rfl ((H6 rfl rfl rfl qb).eq (v':=B ((s.drop d).take n)) (by rw[jP qb,Nat.add_sub_cancel_left])) ?_;refine wd [15] ?_;refine A4 ?_;exact d_ rfl rfl [H9 b s (d+n) c x] ⟨_,a,rfl,rfl⟩ i_
open Go Go.Sl Go.Proofs.Tryz
theorem pf{b:UInt8}(r:Bs):∀(w:Bs),(∀c∈w,c≠b)->Lib.index (w++b::r) [b]=(w.length:Nat)
 |[],_=>by simp[Lib.index]
 |c::w,h=>by
  have a:=pf (b:=b) r w fun x d=>h x (jw _ d);have hc:((b==c)=false):=beq_eq_false_iff_ne.mpr (fun e=>h c x4 e.symm);have hp:([b]:Bs).isPrefixOf (c::(w++b::r))=false:=by simp[List.isPrefixOf,hc]
  rw[Q8,Lib.index,hp,a];have f:(((w.length:Nat):Int)== -1)=false:=beq_eq_false_iff_ne.mpr qb;simp[f]
theorem vR{b:UInt8}:∀(w:Bs),(∀c∈w,c≠b)->Lib.index w [b]= -1
 |[],_=>by simp[Lib.index]
 |c::w,h=>by
  have a:=vR (b:=b) w fun x d=>h x (jw _ d);have hc:((b==c)=false):=beq_eq_false_iff_ne.mpr (fun e=>h c x4 e.symm);have hp:([b]:Bs).isPrefixOf (c::w)=false:=by simp[List.isPrefixOf,hc]
  rw[Lib.index,hp,a];simp
theorem mj(b:UInt8)(s:Bs):(∀c∈s,c≠b)\/∃w r,s=w++b::r/\∀c∈w,c≠b:=by
 by_cases h:b∈s
 ·refine .inr ?_;have hs:=bt (fun c=>c !=b) s;have f:=gT (fun c=>c !=b) s;have a:=fF (fun c=>c !=b) s
  cases hd:s.drop (s.takeWhile fun c=>c !=b).length with
  |nil=>
   rw[hd,z7] at hs;rw[hs] at h;have:=f b h;simp at this
  |cons d r=>
   rw[hd] at hs a;have:d=b:=(by have:=a d x4;simpa using this);subst this;exact⟨_,r,hs,fun c hc=>by simpa using f c hc⟩
 ·exact .inl fun c hc e=>h (e▸hc)
theorem jT(b:UInt8):∀(k:Nat) (s:Bs),s.count b=k->Lib.splitK [b] 0 k s=G8 b s
 |0,s,h=>by
  rw[fI b s (fun c hc e=>by subst e;have:=List.count_pos_iff.mpr hc;omega)];rfl
 |k+1,s,h=>by
  rcases mj b s with a|⟨w,r,rfl,a⟩
  ·have:s.count b=0:=Jd.mpr (fun hc=>a b hc rfl);omega
  ·have hc:r.count b=k:=by
    rw[List.count_append,List.count_cons_self] at h;have:w.count b=0:=Jd.mpr (fun hc=>a b hc rfl);omega
   rw[oz,fI b w a,Lib.splitK,pf r w a];have d:(((w.length:Nat):Int)== -1)=false:=beq_eq_false_iff_ne.mpr qb;rw[d];simp only[Kz,if_false,jh,Q3,K7];rw[show(w++b::r).drop (w.length+[b].length)=r by simp,jT b k r hc];rfl
theorem Dj(b:UInt8)(s:Bs):(G8 b s).length<=s.length+1/\∀f∈G8 b s,f.length<=s.length:=by
 induction s with
 |nil=>simp[G8]
 |cons c t ih=>
  unfold G8;split
  ·refine⟨by simp;omega,fun f hf=>?_⟩;rcases kw.mp hf with rfl|hf
   ·simp
   ·have:=ih.2 f hf;simp;omega
  ·split
   ·simp
   ·next w a h=>
    rw[h] at ih;refine⟨by simpa using by have:=ih.1;simp at this;omega,fun f hf=>?_⟩;rcases kw.mp hf with rfl|hf
    ·have:=ih.2 w x4;simp;omega
    ·have:=ih.2 f (by simp[hf]);simp;omega
theorem Dk(p:Bs):Lib.cut p [58]=(p.takeWhile (fun c=>c !=58),if(p.takeWhile fun c=>c !=58).length<p.length then p.drop ((p.takeWhile fun c=>c !=58).length+1) else[],decide ((p.takeWhile fun c=>c !=58).length<p.length)):=by
 unfold Lib.cut;rcases mj 58 p with h|⟨w,r,rfl,h⟩
 ·have e:p.takeWhile (fun c=>c !=58)=p:=by
   have:=bI (fun c=>c !=58) p [] (fun c hc=>by simpa using h c hc) x4;simpa using this
  rw[vR p h,e];simp
 ·have e:(w++58::r).takeWhile (fun c=>c !=58)=w:=bI (fun c=>c !=58) w (58::r) (fun c hc=>by simpa using h c hc) x4;rw[pf r w h,e];have a:((w.length:Nat):Int).toNat=w.length:=jh _;rw[zg qb,a,K7];simp
open Go Go.Sl Go.RowKit Go.Proofs.Tryz
def yy(w:Bs):Nat:=if w=[42] then 0 else(aX w).getD 0
theorem rT{w:Bs}{n:Nat}(h:fJ w=some n):yy w=n:=by
 unfold fJ at h;unfold yy;split at h
 ·next e=>rw[zg e];exact js h
 ·next e=>
  rw[zk e]
  cases e2:aX w with
  |none=>rw[e2] at h;cases h
  |some m=>
   rw[e2] at h;simp only at h;split at h
   ·exact js h
   ·cases h
theorem GE(w:Bs)(d:w.length<=281474976710656):Pu prog 395 [B w] Gl (.tuple #[.int .u64 (yy w:Nat),.bool (fJ w).isSome]):=by
 refine b_ 23 func395 rfl rfl rfl ?_;intro F hg;refine E7 ?_;refine f_ (C8 rfl rfl) ?_;refine O0 ?_ ?_<;>intro h
 ·have e:w=[42]:=by simpa using h
  subst e;refine L7 ?_;exact u6 rfl rfl rfl [] qh i_
 ·have e:w≠[42]:=by simpa using h
  have j:yy w=(aX w).getD 0:=by unfold yy;rw[zk e]
  have k:fJ w=match aX w with|none=>none|some n=>if 0<n/\n<=4294967295 then some n else none:=by unfold fJ;rw[zk e];cases aX w<;>rfl
  rw[j,k];refine w8 ?_
  cases hn:aX w with
  |none=>
   refine r7 ?_;refine c_ rfl (eQ w d) (fun h c l=>hg.le c) rfl ?_;rw[hn];simp only[Gg];refine wk 17 ?_;refine A4 ?_;exact u6 rfl rfl rfl [] qh i_
  |some n=>
   obtain⟨f,g⟩:=o8 (decide (0<n));obtain⟨m,i⟩:=o8 (decide (n<=4294967295));have o:(if 0<n/\n<=4294967295 then some n else none).isSome=(f&&m):=by
    rw[g,i];by_cases a:0<n<;>by_cases b:n<=4294967295<;>simp[a,b]
   simp only[Zd];rw[o];refine r7 ?_;refine c_ rfl (eQ w d) (fun h c l=>hg.le c) rfl ?_;rw[hn];simp only[Gg,Zd];refine ap ?_
   cases f
   all_goals (
    refine O3 ?_;(first|refine u_ ?_|(refine v_ ?_;refine f_ ((E2 rfl rfl).eq (qn ((qz).trans g.symm))) ?_));refine E7 ?_;(first|refine u_ ?_|(refine v_ ?_;refine f_ ((G4 rfl rfl).eq (qn ((qz).trans i.symm))) ?_));refine E7 ?_)
   all_goals (refine A4 ?_;exact u6 rfl rfl rfl [] qh i_)
theorem rU:∀(l:List Bs) (p:Bs) (a:List (Nat×Nat)),au l=some a->au (l++[p])=(qV p).map fun r=>a++[r]
 |[],p,a,h=>by
  have:=js h;subst this;simp only[j8,au]
  cases qV p<;>rfl
 |x::l,p,a,h=>by
  rw[au] at h;rw[Q8,au]
  cases h1:qV x with
  |none=>rw[h1] at h;cases h
  |some r=>
   rw[h1] at h
   cases h2:au l with
   |none=>rw[h2] at h;cases h
   |some b=>
    rw[h2] at h;have:=js h;subst this;rw[rU l p b h2]
    cases qV p<;>rfl
theorem rV:∀(l m:List Bs),au l=none->au (l++m)=none
 |[],m,h=>by cases h
 |x::l,m,h=>by
  rw[au] at h;rw[Q8,au]
  cases h1:qV x with
  |none=>rfl
  |some r=>
   rw[h1] at h
   cases h2:au l with
   |none=>rw[rV l m h2]
   |some b=>rw[h2] at h;cases h
theorem jU:∀(l:List Bs) (a:List (Nat×Nat)),au l=some a->a.length=l.length
 |[],a,h=>by have:=js h;subst this;rfl
 |x::l,a,h=>by
  rw[au] at h
  cases h1:qV x with
  |none=>rw[h1] at h;cases h
  |some r=>
   rw[h1] at h
   cases h2:au l with
   |none=>rw[h2] at h;cases h
   |some b=>
    rw[h2] at h;have:=js h;subst this;simp[jU l b h2]
theorem Dl(s:Bs)(hs:s.length<4294967281):Ct prog 248 [B s,B [44]] Gl [] (fun v A=>∃a c,v=.slice a (G8 44 s).length c/\A=[A5 a (G8 44 s) c]):=by
 intro w i f j d;have k:i=[]:=f;subst k;rw[N3] at d;obtain⟨m,t,l,n⟩:=d.m;have hc:=Tryz.strings_Split (C9 s) (C9 [44]) m w (by simpa[ByteArray.size] using hs) (mf n) qp;refine hc.mono ?_;rintro e x ⟨rfl,rfl⟩;have g:Lib.countB (C9 s) (C9 [44])=s.count 44:=Lib.count_one 44 s;have h:=Lib.splitB_data (C9 [44]) 0 (Lib.countB (C9 s) (C9 [44])) (C9 s);have o:(C9 [44]).data.toList=[44]:=rfl;have p:(C9 s).data.toList=s:=rfl;rw[o,p,g,jT 44 _ s rfl] at h;have q:(Lib.splitB (C9 [44]) 0 (Lib.countB (C9 s) (C9 [44])) (C9 s)).length=Lib.countB (C9 s) (C9 [44])+1:=Lib.splitB_all _ qp 0 _ _ rfl;have b:(Lib.splitB (C9 [44]) 0 (Lib.countB (C9 s) (C9 [44])) (C9 s)).map Value.string=fV (G8 44 s):=by
  rw[g,<-h];simp[fV,Z6]
 have r:Lib.countB (C9 s) (C9 [44])+1=(G8 44 s).length:=by
  rw[<-q,g,<-h,zh]
 rw[b,r];refine⟨_,[A5 (some ⟨w.heap.size,0,none⟩) (G8 44 s) (G8 44 s).length],rfl,⟨_,_,rfl,rfl⟩,?_⟩;have u:Hp (r8 w []) w []:=Hp.start (C:=[]) (bs:=[]) rfl Zy;exact O9 (xs:=fV (G8 44 s)) (post:=[]) (fr:=(0,0)) u (by rw[L8];omega) (by rw[z7,L8];omega) (zr _) (.inl (zr _)) x4
theorem GF(s:Bs)(hs:s.length<4294967281):Pu prog 394 [B s,B [58]] Gl (.tuple #[B (s.takeWhile fun c=>c !=58),B (if(s.takeWhile fun c=>c !=58).length<s.length then s.drop ((s.takeWhile fun c=>c !=58).length+1) else[]),.bool (decide ((s.takeWhile fun c=>c !=58).length<s.length))]):=dQ fun w hg=>by
 obtain⟨m,t,d,a⟩:=hg.m;have hc:=Tryz.strings_Cut (C9 s) (C9 [58]) m w (by simpa[ByteArray.size] using hs) (mf a);rw[show Lib.cut (C9 s).data.toList (C9 [58]).data.toList=_ from Dk s] at hc;refine hc.mono ?_;rintro e f ⟨b,n,rfl⟩;exact⟨b,rfl,rfl,rfl,zr _,fun _ _=>rfl⟩
theorem rW(f:UInt8->Bool)(s:Bs):(s.takeWhile f).length<=s.length:=(J2 f).length_le
theorem Dm(s:Bs)(hs:s.length<=4000000000):Ct prog 346 [B s] Gl [] (fun v A=>∃a c l,v=.tuple #[.slice a l.length c,.bool (vy s).isSome]/\A=[V2 a l c]/\∀r,vy s=some r->l=r):=by
 refine b_ 59 func346 rfl rfl rfl ?_;intro F hg;have S:=Dj 44 s;obtain⟨W,n⟩:=o8 (vy s);rw[<-n];unfold vy at n;refine E7 ?_;refine x6 _ rfl (Dl s qb) i_ (fun h D J=>hg.le D) rfl ?_;rintro v A ⟨a4,V,rfl,rfl⟩;refine r7 ?_;obtain⟨f,X⟩:=o8 (G8 44 s);rw[<-X] at n S⊢;refine eM ?_ ?_<;>intro h
 ·rw[zg (by simp at h;omega)] at n;rw[n];refine L7 ?_;exact u6 rfl rfl rfl [V2 none [] 0] ⟨none,0,[],rfl,rfl,fun r h=>by cases h⟩ (fun w j=>j.drop.addNil _ _)
 ·rw[zk (by simp at h;omega)] at n;refine bY (H:=[]) (Z:=[A5 a4 f V]) fun F' Y J=>?_;obtain⟨bs,J⟩:=J;have T:n9 F'.heap a4 (fV f):=A3.rd J .del;have M:Gl F'.heap:=hg.le Y.heap;have h0:f.length<=64:=by simp at h;omega
  refine O3 ?_;refine O8 178 2 ?_;refine o7 (ι:=Nat×List (Nat×Nat)×Option Addr×Nat) (fun i=>i.1<=f.length/\au (f.take i.1)=some i.2.1) (fun i=>[(5,.slice i.2.2.1 i.2.1.length i.2.2.2),(20,.slice a4 f.length V),(21,.int .i64 (f.length:Nat)),(22,.int .i64 (i.1:Nat))]) (fun i=>[V2 i.2.2.1 i.2.1 i.2.2.2]) (fun i=>f.length-i.1) (0,[],none,0) ⟨by simp,by simp[au]⟩ ?_ ?_ ?_
  ·exact sub
  ·intro w j;exact j
  rintro⟨k,o,b,d⟩ ⟨hk,hc⟩;simp only at hk hc;have h1:=jU _ _ hc;rw[z1] at h1;refine R7 ?_ ?_<;>intro h
  ·have p:k<f.length:=(by simp at h;omega);have O:=ce T p;have h4:=S.2 _ (dO p);have h5:f.take (k+1)=f.take k++[f.getD k []]:=NR p;have m:=rU (f.take k) (f.getD k []) o hc;rw[<-h5] at m;obtain⟨w,j⟩:=o8 (f.getD k []);obtain⟨g,Q⟩:=o8 (w.takeWhile fun c=>c !=58);obtain⟨q,hq⟩:=o8 (decide (g.length<w.length));obtain⟨wb,t⟩:=o8 (if g.length<w.length then w.drop (g.length+1) else g);rw[<-j] at h4 m;have h6:g.length<=w.length:=(by rw[Q];exact rW _ _);have h9:wb.length<=w.length:=by
    rw[t];split
    ·rw[z8];omega
    ·exact h6
   have U:qV w=match fJ g,fJ wb with|some x,some y=>some (x,y)|_,_=>none:=by
    unfold qV;simp only;rw[<-Q,<-t]
    cases fJ g<;>cases fJ wb<;>rfl
   refine C7 ?_;refine f_ (m9 rfl O rfl qb) ?_;refine r_ ((i8 rfl (fun w j=>OU j T (i:=k) qb p)).eq (v':=B w) (by rw[j])) ?_;refine A1 ?_;refine c_ rfl (GF w qb) (fun h D J=>M.le D) rfl ?_;rw[<-Q,<-hq];refine wk 9 ?_;refine x8 [(5,.slice b o.length d),(8,B g),(9,B wb),(20,.slice a4 f.length V),(21,.int .i64 (f.length:Nat)),(22,.int .i64 (k:Nat))] [V2 b o d] ?_ ?_
   ·refine o9 rfl ?_ ?_<;>intro C
    ·have e:wb=g:=(by rw[t,zk (zq (hq.symm.trans (by simpa using C)))]);rw[e];refine A1 ?_;exact p9 sub i_
    ·have e:(if g.length<w.length then w.drop (g.length+1) else[])=wb:=by
      have h3:=qr (hq.symm.trans (by simpa using C));rw[t,zg h3,zg h3]
     rw[e];refine w8 ?_;exact p9 sub i_
   obtain⟨q1,u⟩:=o8 ((fJ g).isSome);obtain⟨q2,z⟩:=o8 ((fJ wb).isSome);refine r7 ?_;refine c_ rfl (GE g qb) (fun h D J=>M.le D) rfl ?_;rw[<-u];refine aq ?_;refine c_ rfl (GE wb qb) (fun h D J=>M.le D) rfl ?_;rw[<-z];refine ap ?_;refine x8 [(5,.slice b o.length d),(11,.int .u64 (yy g:Nat)),(13,.int .u64 (yy wb:Nat)),(20,.slice a4 f.length V),(21,.int .i64 (f.length:Nat)),(22,.int .i64 (k:Nat)),(50,.bool (!q1||!q2))] [V2 b o d] ?_ ?_
   ·cases q1
    all_goals (
     refine aq ?_)
    all_goals exact p9 sub i_
   refine O0 ?_ ?_<;>intro C
   ·have e:qV w=none:=by
     rw[U]
     cases e1:fJ g with
     |none=>rfl
     |some x=>
      cases e2:fJ wb with
      |none=>rfl
      |some y=>rw[e1] at u;rw[e2] at z;rw[u,z] at C;cases C
    have e2:W=none:=by
     rw[e] at m;have:=rV _ (f.drop (k+1)) m;rw[Qk] at this;rw[n,this]
    rw[e2];refine L7 ?_;refine Fq Y ?_;exact u6 rfl rfl rfl [V2 none [] 0] ⟨none,0,[],rfl,rfl,fun r h=>by cases h⟩ (fun w j=>j.drop.addNil _ _)
   ·rw[Q1] at C;obtain⟨x,hx⟩:∃x,fJ g=some x:=Zb.1 (by rw[<-u];simpa using C.1);obtain⟨y,hy⟩:∃x,fJ wb=some x:=Zb.1 (by rw[<-z];simpa using C.2);rw[U,hx,hy] at m;rw[rT hx,rT hy];refine O3 ?_;refine x7 rfl rfl rfl rfl rfl rfl (xs:=T8 [(x,y)]) rfl rfl ?_;intro a46 h8;refine C0 rfl rfl (fun a' c'=>.there .here) (fun w j=>(j.ownN ud).2.2.1) rfl rfl rfl (eP _) (by show(o.length+1)*16<=_;omega) qb rfl ?_;intro a5 c5 k0;refine E7 ?_;refine l6 (k+1,o++[(x,y)],a5,c5) ⟨by simp only;omega,by simp only;rw[m];rfl⟩ qg ?_ ?_
    ·simp only[zz,jc];exact sub
    ·intro w j;simp only[V2,zz,jc];rw[oI];exact j.drop
  ·have h7:k=f.length:=(by simp at h;omega);rw[h7,Qj] at hc;rw[hc] at n;rw[n];refine bQ ?_;refine Fq Y ?_;exact u6 rfl rfl rfl [V2 b o d] ⟨b,d,o,rfl,rfl,fun r h=>js h⟩ i_
theorem GG(s p:Bs)(hs:s.length<4294967281):Pu prog 372 [B s,B p] Gl (.int .i64 (Lib.index s p)):=U2 fun w hg=>by
 obtain⟨m,t,b,a⟩:=hg.m;exact Tryz.strings_Index (C9 s) (C9 p) m w (by simpa[ByteArray.size] using hs) (mf a)
theorem vS(s p:Bs)(hs:s.length<4294967281):Pu prog 348 [B s,B p] Gl (.bool (Lib.contains s p)):=U2 fun w hg=>by
 obtain⟨m,t,b,a⟩:=hg.m;exact Tryz.strings_Contains (C9 s) (C9 p) m w (by simpa[ByteArray.size] using hs) (mf a)
theorem pg(a:Bs):∀(k:Nat) (s:Bs),(Lib.splitK a 0 k s).flatten.length<=s.length
 |0,s=>by show([s]:List Bs).flatten.length<=_;simp
 |k+1,s=>by
  unfold Lib.splitK;split
  ·simp
  ·rw[K4,zz];have:=pg a k (s.drop ((Lib.index s a).toNat+a.length));rw[z8] at this;rw[z1];omega
theorem Dn(s p:Bs)(hs:s.length<4294967281)(hp:1<=p.length):Ct prog 248 [B s,B p] Gl [] (fun v A=>∃a l,v=.slice a l.length l.length/\A=[A5 a l l.length]/\l.length<=s.length+1/\l.flatten.length<=s.length):=by
 intro w i f j c;have k:i=[]:=f;subst k;rw[N3] at c;obtain⟨m,t,n,o⟩:=c.m;have d:1<=(C9 p).size:=by simpa[ByteArray.size] using hp
 have hc:=Tryz.strings_Split (C9 s) (C9 p) m w (by simpa[ByteArray.size] using hs) (mf o) d;refine hc.mono ?_;rintro e D ⟨rfl,rfl⟩;have J:=Lib.countB_le (C9 p) d _ (C9 s) (zr _);have q:(C9 s).size=s.length:=by simp[ByteArray.size]
 have h:=Lib.splitB_data (C9 p) 0 (Lib.countB (C9 s) (C9 p)) (C9 s);have r:(C9 p).data.toList=p:=rfl;have u:(C9 s).data.toList=s:=rfl;rw[r,u] at h;have x:(Lib.splitB (C9 p) 0 (Lib.countB (C9 s) (C9 p)) (C9 s)).length=Lib.countB (C9 s) (C9 p)+1:=Lib.splitB_all _ d 0 _ _ rfl;obtain⟨l,g⟩:=o8 (Lib.splitK p 0 (Lib.countB (C9 s) (C9 p)) s);rw[<-g] at h;have b:(Lib.splitB (C9 p) 0 (Lib.countB (C9 s) (C9 p)) (C9 s)).map Value.string=fV l:=by
  rw[<-h];simp[fV,Z6]
 have y:Lib.countB (C9 s) (C9 p)+1=l.length:=by
  rw[<-x,<-h,zh]
 rw[b,y];refine⟨_,[A5 (some ⟨w.heap.size,0,none⟩) l l.length],rfl,⟨_,l,rfl,rfl,by omega,by rw[g];exact pg p _ s⟩,?_⟩;have z:Hp (r8 w []) w []:=Hp.start (C:=[]) (bs:=[]) rfl Zy;exact O9 (xs:=fV l) (post:=[]) (fr:=(0,0)) z (by rw[L8];omega) (by rw[z7,L8];omega) (zr _) (.inl (zr _)) x4
abbrev GH(l:Bs):Obj:=.cells (Lib.setCells l) 458 (0,0)
theorem yz(l:Bs)(hs:l.length<4294967281)(ha:∀b∈l,b.toNat<128):Pu prog 454 [B l] (fun _=>True) (.tuple #[.agg (Lib.setCells l),.bool true]):=dQ fun w _=>by
 refine(Tryz.strings_makeASCIISet (fun w=>by kernel_rfl) (C9 l) w (by simpa[ByteArray.size] using hs) (fun j b h=>ha b (J8 h))).mono ?_;rintro e d ⟨c,rfl⟩;exact⟨c,rfl,rfl,rfl,by show _<=(w.heap.push _).size;simp,fun k a=>by show(w.heap.push _)[k]? =_;rw[Array.getElem?_push_lt a,Qr a]⟩
theorem rX(l:Bs)(g:Nat)(c:UInt8):Pu prog 465 [l9 g,.int .u8 (c.toNat:Nat)] (fun h=>h g=some (GH l)) (.bool (l.contains c)):=U2 fun w hg=>by
 refine Tryz.asciiSet_contains g c (l.contains c) w ?_;have a:w.heap[g]? =some (GH l):=hg;have b:=Lib.setCells_at l c;simp[World.cell?,l_.cell?,a,b]
abbrev Ud(c:UInt8):Value:=.int .u8 (c.toNat:Nat)
theorem Do(cs s:Bs)(g:Nat)(hs:s.length<=1000000000):Ct prog 455 [B s,l9 g] (fun h=>h g=some (GH cs)) [] (fun v A=>(∃t,v=B t/\t.length<=s.length)/\A=[]):=by
 refine b_ 16 func455 rfl rfl rfl ?_;intro F hg;refine I8 1 ?_;refine n7 (ι:=Bs) (fun t=>t.length<=s.length) (fun t=>[(0,B t)]) (fun _=>[]) ?_ ?_
 ·refine n8 ?_;refine o7 (ι:=Bs) (fun t=>t.length<=s.length) (fun t=>[(0,B t),(1,l9 g)]) (fun _=>[]) (fun t=>t.length) s (zr _) sub i_ ?_;intro t a;refine eM ?_ ?_<;>intro h
  ·have c:0<t.length:=(by simpa using h);refine E7 ?_;refine c_ rfl (rX cs g (t.getD 0 0)) (fun h b _=>b _ _ hg) rfl ?_;refine r7 ?_
   cases cs.contains (t.getD 0 0)
   ·refine w8 ?_;exact g_ t a i_
   ·refine E7 ?_;exact l6 (List.take ((t.length:Int).toNat-Int.toNat 1) (List.drop (Int.toNat 1) t)) (by rw[z1,z8];omega) (by rw[z1,z8];simp;omega) sub i_
  ·refine w8 ?_;exact g_ t a i_
 intro t a;refine L7 ?_;exact d_ rfl rfl [] ⟨⟨t,rfl,a⟩,rfl⟩ i_
theorem Dp(cs s:Bs)(g:Nat)(hs:s.length<=1000000000):Ct prog 456 [B s,l9 g] (fun h=>h g=some (GH cs)) [] (fun v A=>(∃t,v=B t/\t.length<=s.length)/\A=[]):=by
 refine b_ 22 func456 rfl rfl rfl ?_;intro F hg;refine I8 1 ?_;refine n7 (ι:=Bs) (fun t=>t.length<=s.length) (fun t=>[(0,B t)]) (fun _=>[]) ?_ ?_
 ·refine n8 ?_;refine o7 (ι:=Bs) (fun t=>t.length<=s.length) (fun t=>[(0,B t),(1,l9 g)]) (fun _=>[]) (fun t=>t.length) s (zr _) sub i_ ?_;intro t a;refine eM ?_ ?_<;>intro h
  ·have c:0<t.length:=(by simpa using h);refine aq ?_;refine c_ rfl (rX cs g (t.getD ((t.length:Int)-1).toNat 0)) (fun h b _=>b _ _ hg) rfl ?_;refine r7 ?_
   cases cs.contains (t.getD ((t.length:Int)-1).toNat 0)
   ·refine w8 ?_;exact g_ t a i_
   ·refine aq ?_;exact l6 (List.take (((t.length:Int)-1).toNat-0) (List.drop 0 t)) (by rw[z1,z8];omega) (by rw[z1,z8];omega) sub i_
  ·refine w8 ?_;exact g_ t a i_
 intro t a;refine L7 ?_;exact d_ rfl rfl [] ⟨⟨t,rfl,a⟩,rfl⟩ i_
theorem Ly(g:Nat)(cs S:Array Value)(hc:cs.size=256)(a:S.size=256):M2 [.blk g (.cells cs 458 (0,0))] (.blk g (.cells cs 458 (0,0))) [.blk g (.cells (eG cs 0 (Value.agg (S)).cells.toList) 458 (0,0))] [.blk g (.cells S 458 (0,0))]:=by
 have h:eG cs 0 (Value.agg (S)).cells.toList=S:=by
  unfold eG;simp only[Value.cells,Kj,j8,Zh,a];rw[Qc (by simp;omega),z7]
 rw[h];exact .here
theorem Ob{h:l_}{g:Nat}{o:Obj}{bs:List Nat}(a:A3 h [.blk g o] bs):h g=some o:=by
 obtain⟨c,d,e,⟨f,b⟩,_⟩:=a;exact b
theorem Lz(s:Bs)(hs:s.length<=1000000000):Ct prog 437 [B s,B [32,9]] (fun _=>True) [] (fun v A=>(∃t,v=B t/\t.length<=s.length)/\A=[]):=by
 obtain⟨q,d⟩:=o8 (decide (s=[]));obtain⟨S,e⟩:=o8 (Lib.setCells [32,9]);have a:=yz [32,9] qp qp;have b:=Lib.setCells_size [32,9];have c:=Lib.setCells_one [32,9];rw[<-e] at a b c;have f:=Dp [32,9];have g:=Do [32,9];unfold GH at f g;rw[<-e] at f g;clear e;refine b_ 43 func437 rfl rfl rfl ?_;intro F _;refine r7 ?_;refine x8 [(0,B s),(1,B [32,9]),(12,.bool q)] [] ?_ ?_
 ·cases q
  all_goals (
   refine r7 ?_;refine f_ ((C8 rfl rfl).eb d) ?_;refine O3 ?_)
  all_goals exact p9 sub i_
 refine O0 ?_ ?_<;>intro h
 ·refine L7 ?_;exact d_ rfl rfl [] ⟨⟨s,rfl,zr _⟩,rfl⟩ i_
 refine wk 9 ?_;refine c_ rfl a qw rfl ?_;refine E7 ?_;refine i7 (cs:=Array.replicate 256 (.bool false)) (hz:=⟨fun w=>by kernel_rfl⟩) rfl ?_;intro i;refine I6 (te:=458) (n:=256) (cs:=Array.replicate 256 (.bool false)) (H':=[.blk i (.cells S 458 (0,0))]) rfl rfl ?u b (fun q d=>(Array.all_eq_true'.1 c) q (Array.mem_toList_iff.1 d)) x4 ?_;(case u=>exact Ly _ _ _ x4 b);refine E7 ?_;refine e_ (f s i hs) ?pre ?_;(case pre=>exact fun h l ⟨m,j⟩=>Ob j);rintro v A ⟨⟨t,rfl,o⟩,rfl⟩;refine e_ (g t i qb) ?pre2 ?_;(case pre2=>exact fun h l ⟨m,j⟩=>Ob j);rintro v A ⟨⟨t2,rfl,k⟩,rfl⟩;refine C5 ?_;exact d_ rfl rfl [] ⟨⟨t2,rfl,jd k o⟩,rfl⟩ (fun w p=>p.dropAll)
abbrev TxQ(n:Nat)(v:Value)(A:List As):Prop:=(∃t:Bs,v=B t/\t.length<=n)/\A=[]
abbrev Ue(v:Value)(A:List As):Prop:=(∃q:Bool,v=.bool q)/\A=[]
theorem Dq{p s:Bs}(h:p.isPrefixOf s=true):p.length<=s.length:=(List.isPrefixOf_iff_prefix.1 h).length_le
theorem yA(s:Bs)(f c:Nat)(hs:s.length<=1000000000):Ct prog 364 [B s,.int .u64 (f:Nat),.int .u64 (c:Nat)] (fun _=>True) [] (TxQ s.length):=by
 refine b_ 21 func364 rfl rfl rfl ?_;intro F _;refine wk 9 ?_;have a:(List.take ((s.length:Int).toNat-(min (f:Int) (s.length:Int)).toNat) (List.drop (min (f:Int) (s.length:Int)).toNat s)).length<=s.length:=by rw[z1,z8];omega
 revert a
 generalize List.take ((s.length:Int).toNat-(min (f:Int) (s.length:Int)).toNat) (List.drop (min (f:Int) (s.length:Int)).toNat s)=t;intro a;refine NP ?_;exact d_ rfl rfl [] ⟨⟨_,rfl,by rw[z1];simp only[z8];omega⟩,rfl⟩ i_
theorem rY(m:Bs)(hs:m.length<=1000000000):Ct prog 406 [B m] Gl [] (fun v A=>(∃h t:Bs,v=.tuple #[B h,B t]/\h.length<=m.length/\t.length<=m.length)/\A=[]):=by
 refine b_ 22 func406 rfl rfl rfl ?_;intro F hg;refine E7 ?_;refine c_ rfl (ah m [13,10]) qw rfl ?_;refine O0 ?_ ?_<;>intro h
 ·have c:=Dq h;have d:2<=m.length:=c;refine w8 ?_;refine gg ([],[],[]) 4 rfl ?_;refine wd [0,1,2,3] ?_;refine A4 ?_;exact u6 rfl rfl rfl [] ⟨⟨_,_,rfl,d,by rw[z1,z8];omega⟩,rfl⟩ i_
 refine w8 ?_;obtain⟨i,b⟩:=o8 (Lib.index m [13,10,13,10]);have a:=Lib.index_room m [13,10,13,10];rw[<-b] at a;refine r7 ?_;refine c_ rfl (GG m [13,10,13,10] qb) (fun h e _=>hg.le e) rfl ?_;rw[<-b];refine eM ?_ ?_<;>intro h
 ·have f:0<=i:=qr h;have g:i+4<=m.length:=a f;refine w8 ?_;refine gg ([],[],[]) 10 rfl ?_;refine wd [0,1,2,3,4,5,6,7,8,9] ?_;refine A4 ?_;exact u6 rfl rfl rfl [] ⟨⟨_,_,rfl,by rw[z1,z8];omega,by rw[z1,z8];omega⟩,rfl⟩ i_
 refine bQ ?_;exact u6 rfl rfl rfl [] ⟨⟨m,[],rfl,zr _,zw _⟩,rfl⟩ i_
theorem ph(s p:Bs)(hs:s.length<=1000000000)(hp:p.length<=2000000000):Ct prog 403 [B s,B p] Gl [] Ue:=by
 have b:(R9 s).length<=1000000000:=by unfold R9;rw[zh];exact hs
 refine b_ 10 func403 rfl rfl rfl ?_;intro F hg;refine A1 ?_;refine c_ rfl (I4 s qb) qw rfl ?_;refine r7 ?_;refine c_ rfl (I4 p qb) qw rfl ?_;refine c_ rfl (vS (R9 s) (R9 p) qb) (fun h a _=>hg.le a) rfl ?_;refine C5 ?_;exact d_ rfl rfl [] ⟨⟨_,rfl⟩,rfl⟩ i_
theorem pi(m:Bs)(k:Nat)(hs:m.length<=1000000000):Ct prog 363 [B m,.int .i64 (k:Nat)] Gl [] (TxQ m.length):=by
 obtain⟨b,e⟩:=o8 (decide (k=10));obtain⟨c,f⟩:=o8 (decide (k=11));obtain⟨d,g⟩:=o8 (decide (k=12));refine b_ 22 func363 rfl rfl rfl ?_;intro F hg;refine A1 ?_;refine e_ (C:=[]) (rY m hs) (fun h a _=>hg.le a) ?_;rintro v A ⟨⟨h,t,rfl,a,i⟩,rfl⟩;refine aq ?_;refine T2 ?_;refine f_ ((p7 rfl rfl).eq (v':=.bool b) (qn ((qz).trans e.symm))) ?_;refine r7 ?_
 cases b
 case true=>
  refine L7 ?_;exact d_ rfl rfl [] ⟨⟨m,rfl,zr _⟩,rfl⟩ i_
 refine C7 ?_;refine f_ ((p7 rfl rfl).eq (v':=.bool c) (qn ((qz).trans f.symm))) ?_;refine r7 ?_
 cases c
 case true=>
  refine L7 ?_;exact d_ rfl rfl [] ⟨⟨h,rfl,a⟩,rfl⟩ i_
 refine C7 ?_;refine f_ ((p7 rfl rfl).eq (v':=.bool d) (qn ((qz).trans g.symm))) ?_;refine r7 ?_
 cases d
 case true=>
  refine L7 ?_;exact d_ rfl rfl [] ⟨⟨t,rfl,i⟩,rfl⟩ i_
 refine C5 ?_;exact d_ rfl rfl [] ⟨⟨[],rfl,zw _⟩,rfl⟩ i_
theorem jV(b:Nat)(s:SE)(x:SL)(d:DD)(y:DL)(op:Int):Ct prog 220 [l9 b,.int .i64 op] (fun _=>True) (O2 b s x d y) (fun v A=>v=Re (al (s,d) op) cX/\A=O2 b s x d y):=by
 refine b_ 19 func220 rfl rfl rfl ?_;intro F _;refine C7 ?_;refine i7 rfl ?_;intro c;refine w8 ?_;refine D2 [6,12] [14] [E9 b s x d y] 15 ?_;refine wd [0,1,2,3,4,5,6,7,8,9,10,11,12] ?_;refine w_ 13 rfl (y8 (ps:=[(0,.tmp 5),(6,.tmp 11),(8,.tmp 17)]) (vs:=[(0,.int .i64 op),(6,B s.a5N.box),(8,.int .u64 (s.a5N.val:Nat))]) (cells:=(eE (al (s,d) op) cX).toArray) rfl i6) ?_;refine wd [14] ?_;refine A4 ?_;exact G7 rfl rfl ud rfl _ qh (fun w a=>a.drop)
theorem dC(b:Nat)(s:SE)(x:SL)(d:DD)(y:DL)(c:CM)(k:CL)(r:RQ)(z:QL)(a:List Nat)(ua:Option Addr)(uc:Nat)(n:s.num<18446744073709551615):Ct prog 219 [l9 b,uM c k,Re r z,.slice ua a.length uc] (fun _=>True) (O2 b s x d y) (fun v A=>v=.tuple #[]/\A=O2 b (G3 (s,d) c r a).1 {x with cl:=k,ua:=ua,uc:=uc} (G3 (s,d) c r a).2 {y with ql:=z}):=by
 refine b_ 55 func219 rfl rfl rfl ?_;intro F _;obtain⟨i,f⟩:=o8 (decide (r.op=1));refine C7 ?_;refine m8 rfl rfl ?_;intro l;refine m8 rfl rfl ?_;intro j;refine w8 ?_;refine D2 [3] [8,12,16] [.blk l (.cells (iA c k).toArray 36)] 17 ?_;refine wd [0,1,2,3,4,5,6,7,8,9,10,11,12,13,14,15,16] ?_;refine A1 ?_;refine f_ ((M3 rfl rfl).eq (v':=.bool (!i)) (jy (fun x=>Value.bool (!x)) f.symm)) ?_;refine w8 ?_
 cases i
 ·have g:¬r.op=1:=zq f.symm;have e:G3 (s,d) c r a=({s with a5T:=true,cmd:=c,a5P:=a,num:=s.num+1},{d with ask:=true,req:={r with ses:=s.ses,num:=s.num+1}}):=zk g;rw[e];refine ap ?_;refine f_ ((L2 rfl rfl qb).eq (v':=.int .u64 ((s.num+1:Nat):Int)) (by congr 1)) ?_;refine O3 ?_;refine D2 [4,9] [11,13] [E9 b {s with a5T:=true,cmd:=c,a5P:=a,num:=s.num+1} {x with cl:=k,ua:=ua,uc:=uc} d y] 14 ?_;refine wd [0,1,2,3,4,5,6,7,8,9,10,11,12,13] ?_;refine w8 ?_;refine D2 [2] [6,10] [.blk j (.cells (eE {r with ses:=s.ses,num:=s.num+1} z).toArray 44)] 11 ?_;refine wd [0,1,2,3,4,5,6,7,8,9,10] ?_;exact m6 rfl _ qh fun w h=>h.drop.drop
 ·have m:r.op=1:=qr f.symm;have e:G3 (s,d) c r a=({s with a5T:=true,cmd:=c,a5P:=a},{d with ask:=true,req:=r}):=zg m;rw[e];refine w8 ?_;refine D2 [2] [6,10] [.blk j (.cells (eE r z).toArray 44)] 11 ?_;refine wd [0,1,2,3,4,5,6,7,8,9,10] ?_;exact m6 rfl _ qh fun w h=>h.drop.drop
abbrev GI(f:FuncId)(b:Nat)(s:SE)(x:SL)(d:DD)(y:DL)(c:CM)(k:CL)(q:SD):Prop:=Ct prog f [l9 b,uM c k] (fun _=>True) (O2 b s x d y) (fun v A=>v=.tuple #[]/\A=O2 b q.1 {x with cl:=k,ua:=none,uc:=0} q.2 {y with ql:=cX})
theorem gB(b:Nat)(s:SE)(x:SL)(d:DD)(y:DL)(c:CM)(k:CL)(a:s.num<18446744073709551615):GI 148 b s x d y c k (lY (s,d) c):=by
 refine b_ 8 func148 rfl rfl rfl ?_;intro F _;refine C7 ?_;refine m8 rfl rfl ?_;intro f;refine A1 ?_;refine f_ (y8 (ps:=[(0,.const (.int .i64 3))]) (vs:=[(0,.int .i64 3)]) (cells:=(eE be cX).toArray) rfl i6) ?_;refine e_ (dC b s x d y c k be cX [] none 0 a) qw ?_;rintro v A ⟨rfl,rfl⟩;refine w8 ?_;exact m6 rfl _ qh fun w e=>y4.left tk e
theorem yB(b:Nat)(s:SE)(x:SL)(d:DD)(y:DL)(c:CM)(k:CL)(a:s.num<18446744073709551615):GI 146 b s x d y c k (G3 (s,d) c {cU with op:=4,box:=c.box} []):=by
 refine b_ 10 func146 rfl rfl rfl ?_;intro F _;refine C7 ?_;refine m8 rfl rfl ?_;intro f;refine O3 ?_;refine f_ (y8 (ps:=[(0,.const (.int .i64 4)),(6,.tmp 7)]) (vs:=[(0,.int .i64 4),(6,B c.box)]) (cells:=(eE {cU with op:=4,box:=c.box} cX).toArray) rfl i6) ?_;refine e_ (dC b s x d y c k {cU with op:=4,box:=c.box} cX [] none 0 a) qw ?_;rintro v A ⟨rfl,rfl⟩;refine w8 ?_;exact m6 rfl _ qh fun w e=>y4.left tk e
theorem yC(b:Nat)(s:SE)(x:SL)(d:DD)(y:DL)(c:CM)(k:CL)(a:s.num<18446744073709551615):GI 147 b s x d y c k (G3 (s,d) c {cU with op:=5,box:=c.box} []):=by
 refine b_ 10 func147 rfl rfl rfl ?_;intro F _;refine C7 ?_;refine m8 rfl rfl ?_;intro f;refine O3 ?_;refine f_ (y8 (ps:=[(0,.const (.int .i64 5)),(6,.tmp 7)]) (vs:=[(0,.int .i64 5),(6,B c.box)]) (cells:=(eE {cU with op:=5,box:=c.box} cX).toArray) rfl i6) ?_;refine e_ (dC b s x d y c k {cU with op:=5,box:=c.box} cX [] none 0 a) qw ?_;rintro v A ⟨rfl,rfl⟩;refine w8 ?_;exact m6 rfl _ qh fun w e=>y4.left tk e
def ri(y y':DL):Prop:=y'.rl.length<=y.rl.length+2/\∀m∈y'.rl,m∈y.rl\/m.2=L0
theorem ri.refl{y a:DL}(h:a.rl=y.rl):ri y a:=⟨by rw[h];omega,fun m b=>.inl (h▸b)⟩
theorem ri.one{y b:DL}{r:RR}(h:b.rl=y.rl++[(r,L0)]):ri y b:=⟨by rw[h];simp,fun m a=>by rw[h] at a;rcases zb.1 a with a|a;exact .inl a;(rw[zu.1 a];exact .inr rfl)⟩
theorem ri.two{y b:DL}{r r2:RR}(h:b.rl=y.rl++[(r,L0),(r2,L0)]):ri y b:=⟨by rw[h];simp,fun m a=>by
 rw[h] at a;rcases zb.1 a with a|a;exact .inl a;rcases kw.1 a with rfl|a;exact .inr rfl;(rw[zu.1 a];exact .inr rfl)⟩
def vT(b:Nat)(s:SE)(x:SL)(d:DD)(y:DL)(c:CM)(k:CL)(q:SD)(v:Value)(A:List As):Prop:=v=.tuple #[]/\∃x' y',A=O2 b q.1 x' q.2 y'/\(x'.ra=x.ra/\x'.rc=x.rc)/\ri y y'/\∀h,iB s x d y h->dW c k h->iB q.1 x' q.2 y' h
abbrev bu(f:FuncId)(b:Nat)(s:SE)(x:SL)(d:DD)(y:DL)(c:CM)(k:CL)(q:SD):Prop:=Ct prog f [l9 b,uM c k] (fun _=>True) (O2 b s x d y) (vT b s x d y c k q)
theorem mn(b:Nat)(s:SE)(x:SL)(d:DD)(y:DL)(c:CM)(k:CL)(r:RQ)(hu:r.a5P=[])(hf:r.a5Y=[]):vT b s x d y c k (G3 (s,d) c r []) (.tuple #[]) (O2 b (G3 (s,d) c r []).1 {x with cl:=k,ua:=none,uc:=0} (G3 (s,d) c r []).2 {y with ql:=cX}):=by
 refine⟨rfl,_,_,rfl,qh,.refl rfl,fun h e hc=>?_⟩;have f:∀a b,dA {r with ses:=a,num:=b} cX h:=fun a b=>⟨by show n9 h _ (T8 r.a5P);rw[hu];exact n9.nil _ _,by show n9 h _ (fV r.a5Y);rw[hf];exact n9.nil _ _⟩;unfold G3;split
 ·exact⟨⟨n9.nil _ _,hc⟩,⟨e.dd.a5X,e.dd.rep,f _ _,e.dd.want⟩⟩
 ·exact⟨⟨n9.nil _ _,hc⟩,⟨e.dd.a5X,e.dd.rep,f _ _,e.dd.want⟩⟩
theorem cH{r:RR}(a:r.nums=[])(b:r.a5Y=[])(c:r.values=[])(h:l_):fG r L0 h:=⟨c,by rw[a];exact n9.nil _ _,by rw[b];exact n9.nil _ _,n9.nil _ _,fun _ h=>by cases h⟩
theorem AW(b:Nat)(s:SE)(x:SL)(d:DD)(y:DL)(c:CM)(k:CL)(r:RR)(a:Option Addr)(g:Nat)(i:∀h,fG r L0 h):vT b s x d y c k (V1 (s,d) r) (.tuple #[]) (O2 b s x d (F5 y (r,L0) a g)):=by
 refine⟨rfl,x,F5 y (r,L0) a g,rfl,qh,.one rfl,fun h e hc=>⟨e.se,⟨?_,fun m f=>?_,e.dd.req,e.dd.want⟩⟩⟩
 ·show d.a5X++[r]=(y.rl++[(r,L0)]).map Prod.fst;rw[e.dd.a5X,jm];rfl
 ·rcases zb.1 (show m∈y.rl++[(r,L0)] from f) with f|f
  ·exact e.dd.rep m f
  ·rw[zu.1 f];exact i h
theorem LA(b:Nat)(s:SE)(x:SL)(d:DD)(y:DL)(c:CM)(k:CL)(h:s.num<18446744073709551615)(hl:y.rl.length<=1000000):bu 139 b s x d y c k (if s.a5O=0 then V1 (s,d) (dU c.tag) else lY (s,d) c):=by
 refine b_ 17 func139 rfl rfl rfl ?_;intro F _;obtain⟨g,e⟩:=o8 (decide (s.a5O=0));refine C7 ?_;refine m8 rfl rfl ?_;intro j;refine ap ?_;refine f_ ((p7 rfl rfl).eq (v':=.bool g) (qn ((qz).trans e.symm))) ?_;refine w8 ?_
 cases g
 ·rw[zk (zq e.symm)];refine A1 ?_;refine e_ (gB b s x d y c k h) qw ?_;rintro v A ⟨rfl,rfl⟩;refine w8 ?_;exact m6 rfl _ (mn b s x d y c k be rfl rfl) fun w f=>y4.left tk f
 ·rw[zg (qr e.symm)];refine E7 ?_;refine e_ (nr b s x d y c.tag qb) qw ?_;rintro v A ⟨rfl,a,i,rfl⟩;refine ox ?_;exact m6 rfl _ (AW b s x d y c k (dU c.tag) a i (cH rfl rfl rfl)) fun w f=>y4.left tk f
theorem GJ(b:Nat)(s:SE)(x:SL)(d:DD)(y:DL)(c:CM)(k:CL)(h:s.num<18446744073709551615)(hl:y.rl.length<=1000000):bu 144 b s x d y c k (if c.pass=[104,111,114,110] then G3 (s,d) c {cU with op:=1} [] else V1 (s,d) (nh c.tag [65,85,84,72,69,78,84,73,67,65,84,73,79,78,70,65,73,76,69,68] [119,114,111,110,103,32,112,97,115,115,119,111,114,100])):=by
 refine b_ 15 func144 rfl rfl rfl ?_;intro F _;obtain⟨g,e⟩:=o8 (decide (c.pass=[104,111,114,110]));refine C7 ?_;refine m8 rfl rfl ?_;intro j;refine A1 ?_;refine f_ ((E8 rfl rfl).eq (v':=.bool (!g)) (jy (fun b=>Value.bool (!b)) e.symm)) ?_;refine w8 ?_
 cases g
 ·rw[zk (zq e.symm)];refine E7 ?_;refine e_ (Gb b s x d y c.tag [65,85,84,72,69,78,84,73,67,65,84,73,79,78,70,65,73,76,69,68] [119,114,111,110,103,32,112,97,115,115,119,111,114,100] qb) qw ?_;rintro v A ⟨rfl,a,i,rfl⟩;refine ox ?_;exact m6 rfl _ (AW b s x d y c k (nh c.tag [65,85,84,72,69,78,84,73,67,65,84,73,79,78,70,65,73,76,69,68] [119,114,111,110,103,32,112,97,115,115,119,111,114,100]) a i (cH rfl rfl rfl)) fun w f=>y4.left tk f
 ·rw[zg (qr e.symm)];refine A1 ?_;refine f_ (y8 (ps:=[(0,.const (.int .i64 1))]) (vs:=[(0,.int .i64 1)]) (cells:=(eE {cU with op:=1} cX).toArray) rfl i6) ?_;refine e_ (dC b s x d y c k {cU with op:=1} cX [] none 0 h) qw ?_;rintro v A ⟨rfl,rfl⟩;refine w8 ?_;exact m6 rfl _ (mn b s x d y c k {cU with op:=1} rfl rfl) fun w f=>y4.left tk f
abbrev dD:Bs:=[108,111,103,103,105,110,103,32,111,117,116]
theorem LB(b:Nat)(s:SE)(x:SL)(d:DD)(y:DL)(c:CM)(k:CL)(tag:Bs)(a:Option Addr)(g:Nat):vT b s x d y c k (oH (s,d) tag) (.tuple #[]) (O2 b {s with a5O:=3} x {d with close:=true} {y with da:=a,dc:=g,rl:=y.rl++[(I3 dD,L0),(dU tag,L0)]}):=by
 refine⟨rfl,x,{y with da:=a,dc:=g,rl:=y.rl++[(I3 dD,L0),(dU tag,L0)]},rfl,qh,.two rfl,fun h f hc=>⟨⟨f.se.a5P,f.se.cmd⟩,⟨?_,fun m e=>?_,f.dd.req,f.dd.want⟩⟩⟩
 ·show(d.a5X++[I3 dD])++[dU tag]=(y.rl++[(I3 dD,L0),(dU tag,L0)]).map Prod.fst;rw[f.dd.a5X,jm,zm];rfl
 ·rcases zb.1 (show m∈y.rl++[(I3 dD,L0),(dU tag,L0)] from e) with e|e
  ·exact f.dd.rep m e
  ·rcases kw.1 e with rfl|e
   ·exact cH rfl rfl rfl h
   ·rw[zu.1 e];exact cH rfl rfl rfl h
theorem Dr(b:Nat)(s:SE)(x:SL)(d:DD)(y:DL)(c:CM)(k:CL)(h:s.num<18446744073709551615)(hl:y.rl.length<=1000000):bu 140 b s x d y c k (if s.a5O=0 then oH (s,d) c.tag else G3 (s,d) c {cU with op:=2} []):=by
 refine b_ 18 func140 rfl rfl rfl ?_;intro F _;obtain⟨g,e⟩:=o8 (decide (s.a5O=0));refine C7 ?_;refine m8 rfl rfl ?_;intro j;refine ap ?_;refine f_ ((p7 rfl rfl).eq (v':=.bool g) (qn ((qz).trans e.symm))) ?_;refine w8 ?_
 cases g
 ·rw[zk (zq e.symm)];refine A1 ?_;refine f_ (y8 (ps:=[(0,.const (.int .i64 2))]) (vs:=[(0,.int .i64 2)]) (cells:=(eE {cU with op:=2} cX).toArray) rfl i6) ?_;refine e_ (dC b s x d y c k {cU with op:=2} cX [] none 0 h) qw ?_;rintro v A ⟨rfl,rfl⟩;refine w8 ?_;exact m6 rfl _ (mn b s x d y c k {cU with op:=2} rfl rfl) fun w f=>y4.left tk f
 ·rw[zg (qr e.symm)];refine E7 ?_;refine e_ (oK b s x d y c.tag qb) qw ?_;rintro v A ⟨rfl,a,i,rfl⟩;refine ox ?_;exact m6 rfl _ (LB b s x d y c k c.tag a i) fun w f=>y4.left tk f
theorem GK(b:Nat)(s g:SE)(x:SL)(d:DD)(y:DL)(c:CM)(k:CL)(r r2:RR)(a a2:Option Addr)(i c2:Nat)(hs:∀h,S5 s x h->S5 g x h)(l:∀h,fG r L0 h)(j:∀h,fG r2 L0 h):vT b s x d y c k (V1 (V1 (g,d) r) r2) (.tuple #[]) (O2 b g x d (F5 (F5 y (r,L0) a i) (r2,L0) a2 c2)):=by
 obtain⟨_,n,o,p,_,q,k1⟩:=AW b g x d y c k r a i l;refine⟨rfl,x,F5 (F5 y (r,L0) a i) (r2,L0) a2 c2,rfl,qh,.two (r:=r) (r2:=r2) (by simp[F5]),fun h f hc=>⟨hs h f.se,⟨?_,fun m e=>?_,f.dd.req,f.dd.want⟩⟩⟩
 ·show(d.a5X++[r])++[r2]=((y.rl++[(r,L0)])++[(r2,L0)]).map Prod.fst;rw[f.dd.a5X];simp
 ·rcases zb.1 (show m∈(y.rl++[(r,L0)])++[(r2,L0)] from e) with e|e
  ·rcases zb.1 e with e|e
   ·exact f.dd.rep m e
   ·rw[zu.1 e];exact l h
  ·rw[zu.1 e];exact j h
theorem rj(b:Nat)(s:SE)(x:SL)(d:DD)(y:DL)(c:CM)(k:CL)(hl:y.rl.length<=1000000):bu 138 b s x d y c k (V1 (V1 (s,d) {R0 with kind:=6}) (dU c.tag)):=by
 refine b_ 11 func138 rfl rfl rfl ?_;intro F _;refine C7 ?_;refine m8 rfl rfl ?_;intro j;refine r7 ?_;refine f_ (y8 (ps:=[(0,.const (.int .i64 6))]) (vs:=[(0,.int .i64 6)]) (cells:=(tv {R0 with kind:=6} L0).toArray) rfl i6) ?_;refine e_ (V3 b s x d y {R0 with kind:=6} L0 qb) qw ?_;rintro v A ⟨rfl,a,e,rfl⟩;refine E7 ?_;refine e_ (nr b s x d (F5 y ({R0 with kind:=6},L0) a e) c.tag (by simp;omega)) qw ?_;rintro v A ⟨rfl,f,g,rfl⟩;refine w8 ?_;exact m6 rfl _ (GK b s s x d y c k {R0 with kind:=6} (dU c.tag) a f e g (fun _ h=>h) (cH rfl rfl rfl) (cH rfl rfl rfl)) fun w i=>y4.left tk i
theorem Ds(b:Nat)(s:SE)(x:SL)(d:DD)(y:DL)(c:CM)(k:CL)(hl:y.rl.length<=1000000):bu 143 b s x d y c k (V1 (V1 ({s with cond:=true},d) {R0 with kind:=7}) (dU c.tag)):=by
 refine b_ 15 func143 rfl rfl rfl ?_;intro F _;refine C7 ?_;refine m8 rfl rfl ?_;intro j;refine aq ?_;refine f_ (y8 (ps:=[(0,.const (.int .i64 7))]) (vs:=[(0,.int .i64 7)]) (cells:=(tv {R0 with kind:=7} L0).toArray) rfl i6) ?_;refine e_ (V3 b {s with cond:=true} x d y {R0 with kind:=7} L0 qb) qw ?_;rintro v A ⟨rfl,a,e,rfl⟩;refine E7 ?_;refine e_ (nr b {s with cond:=true} x d (F5 y ({R0 with kind:=7},L0) a e) c.tag (by simp;omega)) qw ?_;rintro v A ⟨rfl,f,g,rfl⟩;refine w8 ?_;exact m6 rfl _ (GK b s {s with cond:=true} x d y c k {R0 with kind:=7} (dU c.tag) a f e g (fun _ h=>⟨h.a5P,h.cmd⟩) (cH rfl rfl rfl) (cH rfl rfl rfl)) fun w i=>y4.left tk i
theorem vT.of{b:Nat}{s a:SE}{x:SL}{d:DD}{y:DL}{c:CM}{k:CL}{q:SD}{v:Value}{A:List As}(h:vT b a x d y c k q v A)(hs:∀h,S5 s x h->S5 a x h):vT b s x d y c k q v A:=by
 obtain⟨e,g,i,j,l,m,k1⟩:=h;exact⟨e,g,i,j,l,m,fun h f hc=>k1 h ⟨hs h f.se,f.dd⟩ hc⟩
theorem pj(b:Nat)(s:SE)(x:SL)(d:DD)(y:DL)(c:CM)(k:CL)(p:s.num<18446744073709551615):bu 145 b s x d y c k (lY ({s with cond:=s.cond||c.cond},d) c):=by
 obtain⟨a,e,f,g,m,cond,i,j,l⟩:=s;refine b_ 20 func145 rfl rfl rfl ?_;intro F _;refine C7 ?_;refine m8 rfl rfl ?_;intro o;refine w8 ?_;refine x8 [(0,l9 b),(3,l9 o)] [E9 b ⟨a,e,f,g,m,cond||c.cond,i,j,l⟩ x d y,u7 y.da y.rl y.dc,.blk o (.cells (iA c k).toArray 36)] ?_ ?_
 ·cases cond
  all_goals (
   refine wk 14 ?_)
  all_goals exact p9 sub (fun w n=>(tk (C:=[.blk b _,u7 _ _ _])).hp n)
 refine A1 ?_;refine e_ (gB b ⟨a,e,f,g,m,cond||c.cond,i,j,l⟩ x d y c k p) qw ?_;rintro v A ⟨rfl,rfl⟩;refine w8 ?_;exact m6 rfl _ ((mn b ⟨a,e,f,g,m,cond||c.cond,i,j,l⟩ x d y c k be rfl rfl).of fun _ h=>⟨h.a5P,h.cmd⟩) fun w n=>y4.left tk n
abbrev ER(tag:Bs):RR:=nh tag [82,69,65,68,45,79,78,76,89] [105,116,32,109,97,121,32,110,111,116,32,98,101]
theorem rZ(b:Nat)(s:SE)(x:SL)(d:DD)(y:DL)(c:CM)(k:CL)(hl:y.rl.length<=1000000):Ct prog 221 [l9 b,uM c k] (fun _=>True) (O2 b s x d y) (fun v A=>v=.bool s.ro/\(s.ro=true/\(∃a f,A=O2 b s x d (F5 y (ER c.tag,L0) a f))\/s.ro=false/\A=O2 b s x d y)):=by
 obtain⟨g,i,j,l,q,e,m,n,o⟩:=s;refine b_ 19 func221 rfl rfl rfl ?_;intro F _;refine C7 ?_;refine m8 rfl rfl ?_;intro r;refine aq ?_
 cases q
 ·refine o9 rfl qx (fun h=>?_);refine NO ?_;exact d_ rfl rfl _ ⟨rfl,.inr qh⟩ (fun w p=>y4.left tk p)
 ·refine o9 rfl (fun h=>?_) qx;refine E7 ?_;refine e_ (Gb b ⟨g,i,j,l,true,e,m,n,o⟩ x d y c.tag [82,69,65,68,45,79,78,76,89] [105,116,32,109,97,121,32,110,111,116,32,98,101] qb) qw ?_;rintro v A ⟨rfl,a,f,rfl⟩;refine NO ?_;exact d_ rfl rfl _ ⟨rfl,.inl ⟨rfl,a,f,rfl⟩⟩ (fun w p=>y4.left tk p)
theorem vU(b:Nat)(s:SE)(x:SL)(d:DD)(y:DL)(c:CM)(k:CL)(o:s.num<18446744073709551615)(hl:y.rl.length<=1000000):bu 142 b s x d y c k (if s.ro=true then V1 (s,d) (ER c.tag) else G3 (s,d) c (al (s,d) 8) []):=by
 refine b_ 13 func142 rfl rfl rfl ?_;intro F _;refine C7 ?_;refine m8 rfl rfl ?_;intro l;refine w8 ?_;refine n7 (ι:=DL) (fun e=>s.ro=true/\(∃a i,e=F5 y (ER c.tag,L0) a i)\/s.ro=false/\e=y) (fun _=>[(0,l9 b),(3,l9 l),(7,.bool (!s.ro))]) (fun e=>[E9 b s x d e,u7 e.da e.rl e.dc,.blk l (.cells (iA c k).toArray 36)]) ?_ ?_
 ·refine A1 ?_;refine e_ (rZ b s x d y c k hl) qw ?_;rintro v A ⟨rfl,p⟩;refine r7 ?_;rcases p with⟨m,a,i,rfl⟩|⟨m,rfl⟩
  ·exact g_ (F5 y (ER c.tag,L0) a i) (.inl ⟨m,a,i,rfl⟩) i_
  ·exact g_ y (.inr ⟨m,rfl⟩) i_
 rintro e j;refine O0 ?_ ?_<;>intro h
 ·have f:s.ro=false:=by simpa using h
  obtain rfl:e=y:=by rcases j with⟨g,_⟩|⟨_,g⟩;(rw[f] at g;cases g);exact g
  rw[zk (by rw[f];simp)];refine w8 ?_;refine D2 [1] [3,4] [.blk l (.cells (iA c k).toArray 36)] 5 ?_;refine wd [0,1,2] ?_;refine h_ 3 rfl i6 ?_;refine e_ (jV b s x d e 8) qw ?_;rintro v A ⟨rfl,rfl⟩;refine Y9 ?_;refine h_ 4 rfl i6 ?_;refine e_ (dC b s x d e c k (al (s,d) 8) cX [] none 0 o) qw ?_;rintro v A ⟨rfl,rfl⟩;refine E6 [] ?_;exact m6 rfl _ (mn b s x d e c k (al (s,d) 8) rfl rfl) fun w n=>y4.left tk n
 ·have f:s.ro=true:=by simpa using h
  obtain⟨a,i,rfl⟩:∃a i,e=F5 y (ER c.tag,L0) a i:=by rcases j with⟨_,g⟩|⟨g,_⟩;exact g;(rw[f] at g;cases g)
  rw[zg f];refine w8 ?_;exact m6 rfl _ (AW b s x d y c k (ER c.tag) a i (cH rfl rfl rfl)) fun w n=>y4.left tk n
theorem Dt(b:Nat)(s:SE)(x:SL)(d:DD)(y:DL)(c:CM)(k:CL)(e:s.num<18446744073709551615):bu 141 b s x d y c k (if s.ro=true then lY (s,d) c else G3 (s,d) c (al (s,d) 8) []):=by
 refine b_ 17 func141 rfl rfl rfl ?_;intro F _;refine C7 ?_;refine m8 rfl rfl ?_;intro f;refine OT ?_ ?_<;>intro h
 ·rw[zg h];refine A1 ?_;refine e_ (gB b s x d y c k e) qw ?_;rintro v A ⟨rfl,rfl⟩;refine ox ?_;exact m6 rfl _ (mn b s x d y c k be rfl rfl) fun w a=>y4.left tk a
 ·rw[zk (by rw[h];simp)];refine w8 ?_;refine D2 [1] [3,4] [.blk f (.cells (iA c k).toArray 36)] 5 ?_;refine wd [0,1,2] ?_;refine h_ 3 rfl i6 ?_;refine e_ (jV b s x d y 8) qw ?_;rintro v A ⟨rfl,rfl⟩;refine Y9 ?_;refine h_ 4 rfl i6 ?_;refine e_ (dC b s x d y c k (al (s,d) 8) cX [] none 0 e) qw ?_;rintro v A ⟨rfl,rfl⟩;refine E6 [] ?_;exact m6 rfl _ (mn b s x d y c k (al (s,d) 8) rfl rfl) fun w a=>y4.left tk a
structure xI{α:Type}(l:List α)(f:α->α->Int):Prop where
 asym:∀x∈l,∀y∈l,f x y<0->¬f y x<0
 ntr:∀x∈l,∀y∈l,∀z∈l,¬f x y<0->¬f y z<0->¬f x z<0
def fR{α:Type}(f:α->α->Int)(l:List α):Prop:=l.Pairwise fun x y=>¬f y x<0
def Rf{α:Type}(f:α->α->Int)(m:List α)(i j:Nat):Prop:=∀p q (hp:p<m.length) (hq:q<m.length),p<q->q<=i->q≠j->¬f m[q] m[p]<0
def LC{α:Type}(m:List α)(j:Nat)(h:j<m.length):List α:=(m.set j (m[j-1]'(by omega))).set (j-1) m[j]
theorem tX{α:Type}(m:List α)(j:Nat)(h:j<m.length):(LC m j h).length=m.length:=by simp[LC]
theorem AY{α:Type}(m:List α)(j:Nat)(h:j<m.length)(a:0<j)(p:Nat)(hp:p<m.length):(LC m j h)[p]'(by rw[tX];exact hp)=if p=j then m[j-1] else if p=j-1 then m[j] else m[p]:=by
 unfold LC;rw[List.getElem_set,List.getElem_set];by_cases h1:j-1=p
 ·subst h1;rw[zg rfl,zk qb,zg rfl]
 ·rw[zk h1];by_cases h2:j=p
  ·subst h2;simp
  ·rw[zk h2,zk (fun e=>h2 e.symm),zk (fun e=>h1 e.symm)]
theorem vV{α:Type}(m:List α)(j:Nat)(h:j<m.length)(a:0<j):(LC m j h).Perm m:=by
 unfold LC;exact List.set_set_perm h qb
theorem vW{α:Type}{f:α->α->Int}{m:List α}{i j:Nat}(hc:xI m f)(l:0<j)(b:j<m.length)(n:j<=i)(c:Rf f m i j)(hl:f m[j] m[j-1]<0):Rf f (LC m j b) i (j-1):=fun p q e g h a k=>by
 have hp:p<m.length:=by rwa [tX] at e
 have d:q<m.length:=by rwa [tX] at g
 rw[AY m j b l p hp,AY m j b l q d];rw[zk k];by_cases h1:q=j
 ·subst h1;rw[zg rfl,zk qb];by_cases h2:p=q-1
  ·subst h2;rw[zg rfl];exact hc.asym _ (zy _) _ (zy _) hl
  ·rw[zk h2];exact c p (q-1) hp qb qb qb qb
 ·rw[zk h1];by_cases h2:p=j
  ·rw[zg h2];exact c (j-1) q qb d qb a h1
  ·rw[zk h2];by_cases h3:p=j-1
   ·rw[zg h3];exact c j q b d qb a h1
   ·rw[zk h3];exact c p q hp d h a h1
theorem nt{α:Type}{f:α->α->Int}{m:List α}{i j:Nat}(hc:xI m f)(h:j<m.length)(d:j<=i)(e:i<m.length)(b:Rf f m i j)(hl:j=0\/¬f m[j] (m[j-1]'(by omega))<0):fR f (m.take (i+1)):=by
 unfold fR;rw[Zs];intro p q hp g a;rw[z1] at hp g;rw[K3,K3];by_cases h1:q=j
 ·subst h1;have c:=hl.resolve_left qb;by_cases h3:p=q-1
  ·subst h3;exact c
  ·exact hc.ntr _ (zy _) _ (zy _) _ (zy _) c (b p (q-1) qb qb qb qb qb)
 ·exact b p q qb qb a qb h1
theorem sb{α:Type}{f:α->α->Int}{m:List α}{i:Nat}(b:i<m.length)(hs:fR f (m.take i)):Rf f m i i:=fun p q hp e a c d=>by
 unfold fR at hs;rw[Zs] at hs;have:=hs p q (by rw[z1];omega) (by rw[z1];omega) a
 rwa [K3,K3] at this
theorem xI.perm{α:Type}{l m:List α}{f:α->α->Int}(h:xI l f)(hp:m.Perm l):xI m f:=⟨fun x a y b=>h.asym x (hp.subset a) y (hp.subset b),fun x a y b z hz=>h.ntr x (hp.subset a) y (hp.subset b) z (hp.subset hz)⟩
theorem Du(l:List BM)(a:Option Addr)(c:Nat)(f:FuncId)[HF prog f](r:BM->BM->Int)(hc:xI l r)(O:∀x∈l,∀y∈l,Pu prog f [.agg (cY x).toArray,.agg (cY y).toArray] (fun _=>True) (.int .i64 (r x y)))(hl:l.length<=1000000000):Ct prog 252 [.slice a l.length c,.int .i64 0,.int .i64 (l.length:Nat),.func (.func f) #[] #[]] (fun _=>True) [.own (.slice a l.length c) 100 5 (l.flatMap cY)] (fun v A=>v=.tuple #[]/\∃m:List BM,m.Perm l/\fR r m/\A=[.own (.slice a l.length c) 100 5 (m.flatMap cY)]):=by
 refine b_ 53 func252 rfl rfl rfl ?_;intro F _;refine B5 (a:=a) (n:=l.length) (c:=c) (sz:=5) (xs:=l.flatMap cY) (te:=100) ud fun _ Q d=>?_;refine E7 ?_;refine o7 (ι:=Nat×List BM) (fun i=>1<=i.1/\(i.1<=l.length\/l.length=0)/\i.2.Perm l/\fR r (i.2.take i.1)) (fun i=>[(0,.slice a l.length c),(1,.int .i64 0),(2,.int .i64 (l.length:Nat)),(3,.func (.func f) #[] #[]),(8,.int .i64 (i.1:Nat))]) (fun i=>[.own (.slice a l.length c) 100 5 (i.2.flatMap cY)]) (fun i=>l.length-i.1) (1,l) ⟨zr _,by simp only;omega,.refl _,?_⟩ sub i_ ?_
 ·cases l with
  |nil=>exact .nil
  |cons x t=>exact Ks _ _
 rintro⟨i,m⟩ ⟨S,T,g,o⟩;simp only at S T g o;have U:m.length=l.length:=g.length_eq;refine eM ?_ ?_<;>intro h
 ·have z:i<l.length:=by have:=qr h;omega
  have d:=d qb;refine A1 ?_;refine O7 (fun j (k:List BM) (_:Unit)=>j<=i/\k.Perm l/\Rf r k i j) (fun j k _=>[(0,.slice a l.length c),(1,.int .i64 0),(2,.int .i64 (l.length:Nat)),(3,.func (.func f) #[] #[]),(8,.int .i64 (i:Nat)),(9,.int .i64 (j:Nat))]) (fun j k _=>[.own (.slice a l.length c) 100 5 (k.flatMap cY)]) (fun j k _=>j) i m () ⟨zr _,g,sb qb o⟩ sub i_ ?_;rintro j k _ ⟨D,C6,J⟩;have V:k.length=l.length:=C6.length_eq;by_cases hj0:j=0
  ·subst hj0;refine w8 ?_;refine D2 [8,13] [] [.own (.slice a l.length c) 100 5 (k.flatMap cY)] 17 ?_;refine wd [0,1] ?_;refine w_ 2 rfl ((E2 rfl rfl).eq (v':=.bool false) rfl) ?_;refine wd [3,4,5,6,7,8,9,10,11,12,13] ?_;refine h_ 14 rfl i6 ?_;(first|refine u_ ?_|(refine v_ ?_;fail));refine E6 [15,16] ?_;refine E7 ?_;have e:fR r (k.take (i+1)):=nt (i:=i) (j:=0) (hc.perm C6) qb qb qb J (.inl rfl);refine l6 (i:=(i,m)) (i+1,k) ⟨by simp only;omega,by simp only;omega,C6,e⟩ qg sub i_
  have b:j<k.length:=by omega
  have p:j-1<k.length:=by omega
  obtain⟨q,M⟩:=o8 (decide (r k[j] k[j-1]<0));have u:=hc.perm C6;refine w8 ?_;refine D2 [8,13] [] [.own (.slice a l.length c) 100 5 (k.flatMap cY)] 17 ?_;refine wd [0,1] ?_;refine w_ 2 rfl ((E2 rfl rfl).eq (v':=.bool true) (qn qk)) ?_;refine wd [3,4,5,6,7] ?_;(first|refine s_ 8 ?_|refine t_ 8 ?_|refine A0 8 rfl O4 (p8 rfl (fun w s=>cQ (s.ownN (t:=100) ud).2.2.1 o_ qp b x4) (o_ _)) G2 rfl rfl rfl rfl rfl rfl i6 ?_);refine wd [9,10] ?_;(first|refine s_ 11 ?_|refine t_ 11 ?_|refine E1 11 rfl ((E0 rfl rfl qb).eq (v':=.int .i64 ((j-1:Nat):Int)) (by congr 1;omega)) rfl rfl rfl rfl rfl rfl i6 ?_);refine wd [12] ?_;(first|refine s_ 13 ?_|refine t_ 13 ?_|refine A0 13 rfl O4 (p8 rfl (fun w s=>cQ (s.ownN (t:=100) ud).2.2.1 o_ qp p x4) (o_ _)) G2 rfl rfl rfl rfl rfl rfl i6 ?_);refine h_ 14 rfl i6 ?_;(first|refine u_ ?_|(refine v_ ?_;refine z_ (ps:=[]) _ rfl rfl rfl (O _ (C6.subset (zy b)) _ (C6.subset (zy p))) i_ qw rfl ?_;rintro v A ⟨rfl,rfl⟩));refine xF ?_;(first|refine s_ 15 ?_|refine t_ 15 ?_|refine E1 15 rfl ((F6 rfl rfl).eq (v':=.bool q) (qn M.symm)) rfl rfl rfl rfl rfl rfl i6 ?_);refine wd [16] ?_
  cases q
  ·refine E7 ?_;have e:fR r (k.take (i+1)):=nt (i:=i) (j:=j) u b qb qb J (.inr (zq M.symm));refine l6 (i:=(i,m)) (i+1,k) ⟨by simp only;omega,by simp only;omega,C6,e⟩ qg sub i_
  ·refine w8 ?_;refine D2 [9,13] [15,17] [.own (.slice a l.length c) 100 5 (k.flatMap cY)] 18 ?_;refine wd [0,1,2,3] ?_;refine w_ 4 rfl ((E0 rfl rfl qb).eq (v':=.int .i64 ((j-1:Nat):Int)) (by congr 1;omega)) ?_;refine wd [5,6] ?_;refine w_ 7 rfl ((E0 rfl rfl qb).eq (v':=.int .i64 ((j-1:Nat):Int)) (by congr 1;omega)) ?_;refine wd [8] ?_;refine o0 9 rfl O4 (p8 rfl (fun w s=>cQ (s.ownN (t:=100) ud).2.2.1 o_ qp p x4) (o_ _)) G2 rfl rfl rfl i6 ?_;refine wd [10,11,12] ?_;refine o0 13 rfl O4 (p8 rfl (fun w s=>cQ (s.ownN (t:=100) ud).2.2.1 o_ qp b x4) (o_ _)) G2 rfl rfl rfl i6 ?_;refine wd [14] ?_;refine h_ 15 rfl i6 ?_;refine A_ (C:=cY) k[j-1] o_ b (j:=0) rfl ?_;refine E6 [16] ?_;refine h_ 17 rfl i6 ?_;refine A_ (C:=cY) k[j] o_ (l:=k.set j k[j-1]) (i:=j-1) (by simpa using p) (j:=0) rfl ?_;refine E6 [] ?_;refine r7 ?_;refine f_ ((E0 rfl rfl qb).eq (v':=.int .i64 ((j-1:Nat):Int)) (by congr 1;omega)) ?_;refine r7 ?_;exact l6 (i:=(j,k,())) (j-1,LC k j b,()) ⟨by simp only;omega,(vV k j b qb).trans C6,vW u qb b D J (qr M.symm)⟩ qg sub i_
 ·refine w8 ?_;have z:l.length<=i:=by have:=zq h;omega
  rw[jq qb] at o;exact m6 rfl _ ⟨rfl,m,g,o,rfl⟩ i_
theorem yD(l:List HO)(a:Option Addr)(c:Nat)(f:FuncId)[HF prog f](r:HO->HO->Int)(hc:xI l r)(O:∀x∈l,∀y∈l,Pu prog f [.agg (gw x).toArray,.agg (gw y).toArray] (fun _=>True) (.int .i64 (r x y)))(hl:l.length<=1000000000):Ct prog 323 [.slice a l.length c,.int .i64 0,.int .i64 (l.length:Nat),.func (.func f) #[] #[]] (fun _=>True) [.own (.slice a l.length c) 104 3 (l.flatMap gw)] (fun v A=>v=.tuple #[]/\∃m:List HO,m.Perm l/\fR r m/\A=[.own (.slice a l.length c) 104 3 (m.flatMap gw)]):=by
 refine b_ 53 func323 rfl rfl rfl ?_;intro F _;refine B5 (a:=a) (n:=l.length) (c:=c) (sz:=3) (xs:=l.flatMap gw) (te:=104) ud fun _ Q d=>?_;refine E7 ?_;refine o7 (ι:=Nat×List HO) (fun i=>1<=i.1/\(i.1<=l.length\/l.length=0)/\i.2.Perm l/\fR r (i.2.take i.1)) (fun i=>[(0,.slice a l.length c),(1,.int .i64 0),(2,.int .i64 (l.length:Nat)),(3,.func (.func f) #[] #[]),(8,.int .i64 (i.1:Nat))]) (fun i=>[.own (.slice a l.length c) 104 3 (i.2.flatMap gw)]) (fun i=>l.length-i.1) (1,l) ⟨zr _,by simp only;omega,.refl _,?_⟩ sub i_ ?_
 ·cases l with
  |nil=>exact .nil
  |cons x t=>exact Ks _ _
 rintro⟨i,m⟩ ⟨S,T,g,o⟩;simp only at S T g o;have U:m.length=l.length:=g.length_eq;refine eM ?_ ?_<;>intro h
 ·have z:i<l.length:=by have:=qr h;omega
  have d:=d qb;refine A1 ?_;refine O7 (fun j (k:List HO) (_:Unit)=>j<=i/\k.Perm l/\Rf r k i j) (fun j k _=>[(0,.slice a l.length c),(1,.int .i64 0),(2,.int .i64 (l.length:Nat)),(3,.func (.func f) #[] #[]),(8,.int .i64 (i:Nat)),(9,.int .i64 (j:Nat))]) (fun j k _=>[.own (.slice a l.length c) 104 3 (k.flatMap gw)]) (fun j k _=>j) i m () ⟨zr _,g,sb qb o⟩ sub i_ ?_;rintro j k _ ⟨D,C6,J⟩;have V:k.length=l.length:=C6.length_eq;by_cases hj0:j=0
  ·subst hj0;refine w8 ?_;refine D2 [8,13] [] [.own (.slice a l.length c) 104 3 (k.flatMap gw)] 17 ?_;refine wd [0,1] ?_;refine w_ 2 rfl ((E2 rfl rfl).eq (v':=.bool false) rfl) ?_;refine wd [3,4,5,6,7,8,9,10,11,12,13] ?_;refine h_ 14 rfl i6 ?_;(first|refine u_ ?_|(refine v_ ?_;fail));refine E6 [15,16] ?_;refine E7 ?_;have e:fR r (k.take (i+1)):=nt (i:=i) (j:=0) (hc.perm C6) qb qb qb J (.inl rfl);refine l6 (i:=(i,m)) (i+1,k) ⟨by simp only;omega,by simp only;omega,C6,e⟩ qg sub i_
  have b:j<k.length:=by omega
  have p:j-1<k.length:=by omega
  obtain⟨q,M⟩:=o8 (decide (r k[j] k[j-1]<0));have u:=hc.perm C6;refine w8 ?_;refine D2 [8,13] [] [.own (.slice a l.length c) 104 3 (k.flatMap gw)] 17 ?_;refine wd [0,1] ?_;refine w_ 2 rfl ((E2 rfl rfl).eq (v':=.bool true) (qn qk)) ?_;refine wd [3,4,5,6,7] ?_;(first|refine s_ 8 ?_|refine t_ 8 ?_|refine A0 8 rfl O4 (p8 rfl (fun w s=>cQ (s.ownN (t:=104) ud).2.2.1 O6 qp b x4) (O6 _)) G2 rfl rfl rfl rfl rfl rfl i6 ?_);refine wd [9,10] ?_;(first|refine s_ 11 ?_|refine t_ 11 ?_|refine E1 11 rfl ((E0 rfl rfl qb).eq (v':=.int .i64 ((j-1:Nat):Int)) (by congr 1;omega)) rfl rfl rfl rfl rfl rfl i6 ?_);refine wd [12] ?_;(first|refine s_ 13 ?_|refine t_ 13 ?_|refine A0 13 rfl O4 (p8 rfl (fun w s=>cQ (s.ownN (t:=104) ud).2.2.1 O6 qp p x4) (O6 _)) G2 rfl rfl rfl rfl rfl rfl i6 ?_);refine h_ 14 rfl i6 ?_;(first|refine u_ ?_|(refine v_ ?_;refine z_ (ps:=[]) _ rfl rfl rfl (O _ (C6.subset (zy b)) _ (C6.subset (zy p))) i_ qw rfl ?_;rintro v A ⟨rfl,rfl⟩));refine xF ?_;(first|refine s_ 15 ?_|refine t_ 15 ?_|refine E1 15 rfl ((F6 rfl rfl).eq (v':=.bool q) (qn M.symm)) rfl rfl rfl rfl rfl rfl i6 ?_);refine wd [16] ?_
  cases q
  ·refine E7 ?_;have e:fR r (k.take (i+1)):=nt (i:=i) (j:=j) u b qb qb J (.inr (zq M.symm));refine l6 (i:=(i,m)) (i+1,k) ⟨by simp only;omega,by simp only;omega,C6,e⟩ qg sub i_
  ·refine w8 ?_;refine D2 [9,13] [15,17] [.own (.slice a l.length c) 104 3 (k.flatMap gw)] 18 ?_;refine wd [0,1,2,3] ?_;refine w_ 4 rfl ((E0 rfl rfl qb).eq (v':=.int .i64 ((j-1:Nat):Int)) (by congr 1;omega)) ?_;refine wd [5,6] ?_;refine w_ 7 rfl ((E0 rfl rfl qb).eq (v':=.int .i64 ((j-1:Nat):Int)) (by congr 1;omega)) ?_;refine wd [8] ?_;refine o0 9 rfl O4 (p8 rfl (fun w s=>cQ (s.ownN (t:=104) ud).2.2.1 O6 qp p x4) (O6 _)) G2 rfl rfl rfl i6 ?_;refine wd [10,11,12] ?_;refine o0 13 rfl O4 (p8 rfl (fun w s=>cQ (s.ownN (t:=104) ud).2.2.1 O6 qp b x4) (O6 _)) G2 rfl rfl rfl i6 ?_;refine wd [14] ?_;refine h_ 15 rfl i6 ?_;refine A_ (C:=gw) k[j-1] O6 b (j:=0) rfl ?_;refine E6 [16] ?_;refine h_ 17 rfl i6 ?_;refine A_ (C:=gw) k[j] O6 (l:=k.set j k[j-1]) (i:=j-1) (by simpa using p) (j:=0) rfl ?_;refine E6 [] ?_;refine r7 ?_;refine f_ ((E0 rfl rfl qb).eq (v':=.int .i64 ((j-1:Nat):Int)) (by congr 1;omega)) ?_;refine r7 ?_;exact l6 (i:=(j,k,())) (j-1,LC k j b,()) ⟨by simp only;omega,(vV k j b qb).trans C6,vW u qb b D J (qr M.symm)⟩ qg sub i_
 ·refine w8 ?_;have z:l.length<=i:=by have:=zq h;omega
  rw[jq qb] at o;exact m6 rfl _ ⟨rfl,m,g,o,rfl⟩ i_
