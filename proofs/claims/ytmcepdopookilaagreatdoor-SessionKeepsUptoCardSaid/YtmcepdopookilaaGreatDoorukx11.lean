import Derived.Test.YtmcepdopookilaaGreatDoorukx10
set_option maxHeartbeats 16000000
set_option maxRecDepth 8000
set_option linter.unusedVariables false
set_option linter.unusedSimpArgs false
set_option linter.defProp false
namespace Go.Proofs.YtmcepdopookilaaGreatDoor.Rp
open Go Go.Sl Go.RowKit Go.Proofs.Tryz
def DF(s:Bs)(hl:s.length<=9223372036854775806):Pu prog 264 [B s] (fun _=>True) (B (W_ s)):=by
 refine b_ 29 func264 rfl rfl rfl ?_;intro F _;refine A5 ?_;refine ot rfl rfl ?_;intro o p T;refine P1 ?_;refine o8 (ι:=Nat) (fun k=>k<=s.length) (fun k=>[(3,.slice o s.length p),(8,.slice o s.length p),(9,r7 s.length),(10,r7 k)]) (fun k=>[.own (.slice o s.length p) 5 1 (B3 (W_ (s.take k)++s.drop k))]) (fun k=>s.length-k) 0 qb ?_ ?_ ?_
 ·exact sub
 ·intro w f;exact f
 rintro k V;refine T2 ?_ ?_<;>intro h
 ·have t:k<s.length:=by simp at h;omega
  have j:=wv iG t;have g:=cF t;have m:(W_ (s.take k)).length=k:=by unfold W_;rw[kg,kr];omega
  obtain⟨c,hc⟩:=o9 (s.getD k 0);rw[<-hc] at j g;have x:(W_ (s.take k)++s.drop k).getD k 0=c:=by
   rw[z8,jc qb,m,Jc,g];rfl
  have y:(W_ (s.take k)++s.drop k).length=s.length:=by rw[zg,m,jz];omega
  have A:=c.toNat_lt;refine u6 ?_;refine r_ (T0 rfl ud rfl qb) ?_;refine r_ ((l5 rfl (fun w f=>ug f ud (i:=k) qb qb)).eq (v':=U8 c) (by rw[x])) ?_;refine A5 ?_;obtain⟨C,D⟩:=o9 (decide ((c.toNat:Int)≥65));obtain⟨Q,J⟩:=o9 (decide ((c.toNat:Int)<=90));refine x6 ?_;refine x8 [(3,.slice o s.length p),(4,r7 k),(5,U8 c),(8,.slice o s.length p),(9,r7 s.length),(10,r7 k),(20,.bool (C&&Q))] [.own (.slice o s.length p) 5 1 (B3 (W_ (s.take k)++s.drop k))] ?_ ?_
  ·cases C
   all_goals (
    refine u6 ?_;refine f_ ((K_ rfl rfl).eb D) ?_;refine A5 ?_;(first|refine u_ ?_|(refine v_ ?_;refine f_ ((H4 rfl rfl).eb J) ?_));refine u6 ?_)
   all_goals exact p_ sub i_
  refine O_ ?_ ?_<;>intro u
  ·have M:65<=c.toNat/\c.toNat<=90:=by
    simp only[jw] at u;have a:=zy (D.symm.trans u.1);have b:=zy (J.symm.trans u.2);omega
   have n:iG c=c+32:=(by unfold iG;rw[zr M]);have S:(c.toNat:Int)+32=((c+32).toNat:Nat):=by
    rw[Wg];simp;omega
   refine E8 ?_;refine f_ ((jA rfl rfl (z:=((c+32).toNat:Nat)) (by rw[IntKind.wrap_u8];omega))) ?_;refine r_ (T0 rfl ud rfl qb) ?_;refine U_ (q:=k*1) rfl rfl uh (by rfl) qp Pk (by rw[iR,y];omega) ?_;refine A5 ?_;refine l8 (k+1) qb qb ?_ ?_
   ·exact sub
   ·intro w f;have e:M3 (B3 (W_ (s.take k)++s.drop k)) (k*1) [U8 (c+32)]=B3 (W_ (s.take (k+1))++s.drop (k+1)):=by
     have v:W_ (s.take (k+1))++s.drop (k+1)=W_ (s.take k)++(c+32)::s.drop (k+1):=(by rw[<-n];exact j);rw[v,g,Z0];have U:=rY (a:=W_ (s.take k)) (r:=s.drop (k+1)) (d:=c) (c:=c+32)
     rwa [m] at U
    rw[<-e];exact f
  ·have n:iG c=c:=by
    unfold iG;refine zb fun X=>?_;have a:C=true:=D.trans qk;have b:Q=true:=J.trans qk;rw[a,b] at u
    cases u
   refine A5 ?_;refine l8 (k+1) qb qb ?_ ?_
   ·exact sub
   ·intro w f;have e:W_ (s.take k)++s.drop k=W_ (s.take (k+1))++s.drop (k+1):=by
     have v:W_ (s.take (k+1))++s.drop (k+1)=W_ (s.take k)++iG c::s.drop (k+1):=j;rw[v,n,g]
    rw[<-e];exact f
 ·have O:k=s.length:=by simp at h;omega
  subst O;refine u6 ?_;refine r_ (cv (l:=W_ s) rfl (by simp[W_]) (fun w f=>by have v:=(f.ownN .del).2.2.1;rwa [Qn,Ww,jk] at v)) ?_;refine D0 ?_;exact d_ rfl rfl [] qh (fun _ h=>h.dropAll)
def yM(w:World)(q:Nat)(a:Array Obj):Below w.heap.size w (Sort.grow (w.drewN q) a):=
 ⟨rfl,rfl,rfl,by show w.heap.size<=(w.heap++a).size;simp,fun k b=>by show(w.heap++a)[k]? =_;rw[Zs b]⟩
def yN:Pu prog 263 [] (fun _=>True) (.agg (fV S5).toArray):=ei fun w _=>by
 refine(pn w).mono ?_;rintro e b ⟨rfl,q,a,rfl⟩;exact⟨rfl,yM w q a⟩
def LV{j:Nat}(a:j<5):(fV S5).toArray[j]? =some (B (S5.getD j [])):=by
 have b:j<S5.length:=a;simp[fV,b]
def eA(s:Bs)(hl:s.length<=lD):Pu prog 193 [B s] (fun _=>True) (Tm (E_ s)):=by
 unfold lD at hl;have t:S5.length=5:=rfl;refine b_ 27 func193 rfl rfl rfl ?_;intro F _;refine RG ?_;refine c_ rfl yN qw rfl ?_;refine u6 ?_;refine o8 (ι:=Nat) (fun j=>j<=5/\∀i,i<j->(R3 (S5.getD i [])==R3 s)=false) (fun j=>[(0,B s),(6,.agg (fV S5).toArray),(7,r7 j)]) (fun _=>[]) (fun j=>5-j) 0 ⟨by omega,fun i h=>by omega⟩ ?_ ?_ ?_
 ·exact sub
 ·intro w k;exact k
 rintro j ⟨v,a⟩;refine T2 ?_ ?_<;>intro h
 ·have b:j<5:=by simp at h;omega
  have u:=LG b;refine D1 ?_;refine f_ (eR j rfl rfl qb b (LV b)) ?_;refine A5 ?_;refine c_ rfl (J_ (S5.getD j []) qb) qw rfl ?_;refine u6 ?_;refine c_ rfl (J_ s qb) qw rfl ?_;refine f_ ((C9 rfl rfl).eq (v':=.bool (R3 (S5.getD j [])==R3 s)) (qn (by rw[Z5];simp))) ?_;refine O_ ?_ ?_<;>intro c
  ·have e:E_ s=some (S5.getD j []):=by
    unfold E_;rw[Bi (p:=fun f=>R3 f==R3 s) qb a c]
   rw[e];refine cn ?_;exact w8 rfl rfl rfl [] qh (fun _ h=>h)
  ·refine A5 ?_;refine l8 (j+1) ⟨by omega,fun i q=>?_⟩ qb ?_ ?_
   ·rcases jd.1 q with l|rfl
    ·exact a i l
    ·exact c
   ·exact sub
   ·intro w k;exact k
 ·have m:j=5:=by simp at h;omega
  subst m;obtain⟨d,n⟩:=o9 (jF s);obtain⟨g,c⟩:=o9 (decide ((s.length:Int)>32));have e:E_ s=if(!d||g)=true then none else some (W_ s):=by
   unfold E_;rw[LF (p:=fun f=>R3 f==R3 s) (fun i q=>a i qb)];simp only;by_cases hh:(!d||g)=true
   ·rw[zr hh];refine zb fun x=>?_;rw[n,c,x.1] at hh;simp at hh;omega
   ·rw[zb hh];refine zr ?_;have o:(!d||g)=false:=(by simpa using hh);rw[Zw] at o;have l:d=true:=(by simpa using o.1);have t:=zu (c.symm.trans o.2);exact⟨n.symm.trans l,by omega⟩
  rw[e];refine x6 ?_;refine x8 [(0,B s),(24,.bool (!d||g))] [] ?_ ?_
  ·cases d
   all_goals (
    refine u6 ?_;refine c_ rfl (pj s qb) qw rfl ?_;rw[<-n];refine P1 ?_;(first|refine u_ ?_|(refine v_ ?_;refine f_ ((E9 rfl rfl).eb c) ?_));refine u6 ?_)
   all_goals exact p_ sub i_
  refine O_ ?_ ?_<;>intro r
  ·rw[zr r];refine M4 ?_;exact w8 rfl rfl rfl [] qh (fun _ h=>h)
  ·rw[zb (by rw[r];simp)];refine u6 ?_;refine c_ rfl (DF s qb) qw rfl ?_;refine M4 ?_;exact w8 rfl rfl rfl [] qh (fun _ h=>h)
def pq(l:List Bs)(a:qr)(c:Nat)(hl:l.length<=lD)(p:∀f∈l,f.length<=lD):Ct prog 249 [.slice a l.length c] (fun h=>n9 h a (fV l)) [] (Tn (X5 l)):=by
 unfold lD at hl;refine b_ 33 func249 rfl rfl rfl ?_;intro F o;refine Y1 ?_;refine P8 9 1 ?_;refine o8 (ι:=Nat×List Bs×qr×Nat) (fun i=>i.1<=l.length/\T5 (l.take i.1)=some i.2.1) (fun i=>[(4,.slice i.2.2.1 i.2.1.length i.2.2.2),(9,.slice a l.length c),(10,r7 l.length),(11,r7 i.1)]) (fun i=>[B0 i.2.2.1 i.2.1 i.2.2.2]) (fun i=>l.length-i.1) (0,[],none,0) ⟨by simp,by simp[T5]⟩ ?_ ?_ ?_
 ·exact sub
 ·intro w g;exact g
 rintro⟨k,m,b,d⟩ ⟨D,hc⟩;simp only at D hc;have q:=ph hc;rw[kr] at q;refine T2 ?_ ?_<;>intro h
 ·have j:k<l.length:=by simp at h;omega
  have n:=cB o j;have r:=p _ (ed j);have s:l.take (k+1)=l.take k++[l.getD k []]:=Ov j;refine D1 ?_;refine f_ (n5 rfl n rfl qb) ?_;refine r_ (l5 rfl (fun w g=>Px g o (i:=k) qb j)) ?_;refine A5 ?_;refine c_ rfl (eA (l.getD k []) r) qw rfl ?_;refine al ?_
  cases hq:E_ (l.getD k []) with
  |none=>
   have e:X5 l=([],4):=(by unfold X5;rw[pg hq (ed j)]);rw[e];refine KH ?_;exact w8 rfl rfl rfl [B0 none [] 0] ⟨none,0,rfl,rfl⟩ (fun w g=>g.dropAll.addNil _ _)
  |some z=>
   refine P1 ?_;refine y6 rfl rfl rfl rfl rfl rfl (xs:=fV [z]) rfl rfl ?_;intro a46 u;refine C4 rfl rfl (fun Q S=>.there .here) (fun w g=>(g.ownN ud).2.2.1) rfl rfl rfl (lu _) (by show(m.length+1)*16<=_;omega) qg rfl ?_;intro a5 J M;refine E8 ?_;refine l8 (k+1,m++[z],a5,J) ⟨by simp only;omega,by simp only;rw[s];exact mv hq hc⟩ qg ?_ ?_
   ·simp only[zg,Qq];exact sub
   ·intro w g;simp only[B0,zg,Qq];rw[gH];exact g.drop
 ·have t:k=l.length:=by simp at h;omega
  rw[t,Qn] at hc;have O:=Bk m;refine u6 ?_;refine y5 _ rfl (pp m b d qb) i_ (fun h T ⟨U,p⟩=>A_.rd p ud) rfl ?_;rintro v A ⟨x,y,rfl,rfl⟩;refine E8 ?_;refine f_ ((E9 rfl rfl).eq (v':=.bool (decide (16<(U5 m).length))) (qn (kz.mpr qb))) ?_;refine O_ ?_ ?_<;>intro C
  ·have e:X5 l=([],7):=(by unfold X5;rw[hc];simp only;rw[zr (zy C)]);rw[e];refine M4 ?_;exact w8 rfl rfl rfl [B0 none [] 0] ⟨none,0,rfl,rfl⟩ (fun w g=>g.dropAll.addNil _ _)
  ·have e:X5 l=(U5 m,0):=(by unfold X5;rw[hc];simp only;rw[zb (zu C)]);rw[e];refine cn ?_;exact w8 rfl rfl rfl [B0 x (U5 m) y] ⟨x,y,rfl,rfl⟩ (fun w g=>g.left (A:=[_]))
abbrev D4(l:Bs):ByteArray:=⟨l.toArray⟩
def LW{h:l_}{a:qr}{l:List Bs}(r:n9 h a (fV l))(c:l≠[]):∃b o,a=some ⟨b,o,none⟩/\∀j,j<l.length->h.cell? ⟨b,o+j,none⟩=some (B (l.getD j [])):=by
 obtain⟨⟨b,o,d⟩,rfl,hc⟩:=r (by intro e;have:=jh List.length e;rw[M6] at this;exact c (js this))
 cases d with
 |none=>
  refine⟨b,o,rfl,fun j f=>?_⟩;have:=hc j (B (l.getD j [])) (by simp[fV,f])
  rwa [Addr.add_lit] at this
 |some x=>
  exfalso
  cases l with
  |nil=>exact c rfl
  |cons y t=>
   have:=hc 0 (B y) rfl;simp[Addr.add,l_.cell?] at this;split at this<;>simp at this
def LX(l:List Bs)(a:qr)(c:Nat)(d:Bs)(hc:l.length<=c)(hl:l.length<=140737488355328)(r:(fu d l).length<=140737488355328):Pu prog 41 [.slice a l.length c,B d] (fun h=>n9 h a (fV l)) (B (fu d l)):=ei fun w s=>by
 by_cases h0:l=[]
 ·subst h0;refine(Tryz.strings_Join_none a c (D4 d) w).mono ?_;rintro e u ⟨rfl,rfl⟩;exact⟨rfl,Below.refl _ _⟩
 ·obtain⟨b,o,rfl,g⟩:=LW s h0;have f:∀j,j<l.length->w.cell? ⟨b,o+j,none⟩=some (B (l.getD j [])):=g;have t:b<w.heap.size:=by
   have:=f 0 (Kb.mpr h0);unfold World.cell? at this
   cases hh:w.heap[b]? with
   |none=>simp only[hh] at this;cases this
   |some ob=>exact(jp.1 hh).1
  have k:(l.map D4).length=l.length:=by simp
  have p:(l.map D4).map (·.data.toList)=l:=by simp[Ku]
  have q:(D4 d).data.toList=d:=rfl;have m:∀(j:Nat) x,(l.map D4)[j]? =some x->w.cell? ⟨b,o+j,none⟩=some (.string x):=fun j x i=>by
   rw[Q3] at i
   cases hj2:l[j]? with
   |none=>rw[hj2] at i;cases i
   |some y=>
    rw[hj2] at i
    cases i
    have n:j<l.length:=(Qs.1 hj2).1;rw[f j n,z8,hj2];rfl
  have:=Tryz.strings_Join b o c (l.map D4) (D4 d) w m t qb qb (by rw[p,q,fR];exact r);rw[p,q,fR,k] at this;exact this
def pr:∀(w r:Bs),(∀c∈w,c≠32)->Lib.index (w++32::r) [32]=((w.length:Nat):Int)
 |[],r,_=>by rw[Qv,Lib.index];simp[List.isPrefixOf]
 |b::w,r,h=>by
  have a:=pr w r (fun c hc=>h c (by simp[hc]));have d:b≠32:=h b x7;have hp:([32]:List UInt8).isPrefixOf (b::(w++32::r))=false:=by simp[List.isPrefixOf,Ne.symm d]
  rw[Zu,Lib.index,hp,a];have e:(((w.length:Nat):Int)== -1)=false:=beq_eq_false_iff_ne.mpr qb;simp[e]
def sb:∀(k:Nat) (s:Bs),s.count 32=k->Lib.splitK [32] 0 k s=I3 s
 |0,s,h=>by
  rw[oH s (fun c hc e=>by subst e;have:=List.count_pos_iff.mpr hc;omega)];rfl
 |k+1,s,h=>by
  have hs:=bN (fun c=>c !=32) s;obtain⟨w,g⟩:=o9 (s.takeWhile fun c=>c !=32);have a:∀c∈w,c≠32:=fun c hc=>by
   rw[g] at hc;have:=io (fun c=>c !=32) s c hc;simpa using this
  have b:=fO (fun c=>c !=32) s;rw[<-g] at hs b
  cases hd:s.drop w.length with
  |nil=>
   rw[hd,jk] at hs;have:s.count 32=0:=J1.mpr (fun hc=>a 32 (hs▸hc) rfl);omega
  |cons d r=>
   rw[hd] at hs b;have f:d=32:=(by have:=b d x7;simpa using this);subst f;have i:=pr w r a;have hc:r.count 32=k:=by
    rw[hs,List.count_append,List.count_cons_self] at h;have:w.count 32=0:=J1.mpr (fun hc=>a 32 hc rfl);omega
   rw[hs,oI w r a,Lib.splitK,i];have j:(((w.length:Nat):Int)== -1)=false:=beq_eq_false_iff_ne.mpr qb;rw[j];simp only[Kc,if_false,Qy,Zk,Ju];rw[show(w++32::r).drop (w.length+[(32:UInt8)].length)=r by simp,sb k r hc]
def PU(s:Bs)(v:Value)(A:List As):Prop:=∃a c,v=.slice a (I3 s).length c/\A=[B0 a (I3 s) c]
def Hc(s:Bs)(hs:s.length<4294967281):Ct prog 248 [B s,B [32]] Gl [] (PU s):=by
 intro w g c h b;have i:g=[]:=c;subst i;rw[O1] at b;obtain⟨m,t,j,k⟩:=b.m;have hc:=Tryz.strings_Split (D4 s) (D4 [32]) m w (by simpa[ByteArray.size] using hs) (my k) qp;refine hc.mono ?_;rintro e r ⟨rfl,rfl⟩;have d:Lib.countB (D4 s) (D4 [32])=s.count 32:=Lib.count_one 32 s;have f:=Lib.splitB_data (D4 [32]) 0 (Lib.countB (D4 s) (D4 [32])) (D4 s);have l:(D4 [32]).data.toList=[32]:=rfl;have n:(D4 s).data.toList=s:=rfl;rw[l,n,d,sb _ s rfl] at f;have o:(Lib.splitB (D4 [32]) 0 (Lib.countB (D4 s) (D4 [32])) (D4 s)).length=Lib.countB (D4 s) (D4 [32])+1:=Lib.splitB_all _ qp 0 _ _ rfl;have a:(Lib.splitB (D4 [32]) 0 (Lib.countB (D4 s) (D4 [32])) (D4 s)).map Value.string=fV (I3 s):=by
  rw[d,<-f];simp[fV,Ku]
 have p:Lib.countB (D4 s) (D4 [32])+1=(I3 s).length:=by
  rw[<-o,d,<-f,kg]
 rw[a,p];refine⟨_,[B0 (some ⟨w.heap.size,0,none⟩) (I3 s) (I3 s).length],rfl,⟨_,_,rfl,rfl⟩,?_⟩;have q:Hp (w6 w []) w []:=Hp.start (C:=[]) (bs:=[]) rfl Zn;exact P9 (xs:=fV (I3 s)) (post:=[]) (fr:=(0,0)) q (by rw[M6];omega) (by rw[jk,M6];omega) (kp _) (.inl (kp _)) x7
def sd:∀s:Bs,(I3 s).length<=s.length+1/\∀f∈I3 s,f.length<=s.length
 |[]=>by simp[I3]
 |c::t=>by
  have a:=sd t;unfold I3;split
  ·refine⟨by simp;omega,fun f hf=>?_⟩;rcases jv.mp hf with rfl|hf
   ·simp
   ·have:=a.2 f hf;simp;omega
  ·split
   ·simp
   ·next w b h=>
    rw[h] at a;refine⟨by simpa using by have:=a.1;simp at this;omega,fun f hf=>?_⟩;rcases jv.mp hf with rfl|hf
    ·have:=a.2 w x7;simp;omega
    ·have:=a.2 f (by simp[hf]);simp;omega
def ur(s:Bs):s.contains 41=decide ((s.takeWhile fun c=>c !=41).length<s.length):=by
 induction s with
 |nil=>rfl
 |cons c t ih=>
  by_cases h:c=41
  ·subst h;simp
  ·have a:((41:UInt8)==c)=false:=beq_eq_false_iff_ne.mpr (fun e=>h e.symm);rw[Ws,a,Jz,ih,Zd];simp[h]
def DG(s:Bs)(hs:s.length<4294967281):Ct prog 177 [B s] Gl [] (PQ (U6 s)):=by
 obtain⟨e,j⟩:=o9 ((s.takeWhile fun c=>c !=41).length);have d:=eW s 41;rw[ur,<-j] at d;obtain⟨z,hz⟩:=o9 (Lib.indexByte s 41);rw[<-hz] at d;obtain⟨n,D⟩:=o9 (decide (z<1));obtain⟨o,J⟩:=o9 (decide (s.getD 0 0=40));have h7:e<=s.length:=by
  have:=jh List.length (bN (fun c=>c !=41) s);rw[zg] at this;omega
 have M:(n||!o)=true->U6 s=([],0,4):=fun h=>by
  unfold U6;simp only;rw[<-j];refine zb fun l=>?_;rw[zr (by simpa using l.2)] at d;have k:1<=s.length:=by omega
  rw[pf k] at l;have m:s.getD 0 0=40:=by simpa using l.1
  have O:o=true:=J.trans (ju m);have Q:1<=e:=by
   cases s with
   |nil=>simp at k
   |cons c t=>
    have hc:c=40:=m;subst hc;rw[j];simp
  have S:n=false:=D.trans qj;rw[S,O] at h
  cases h
 have p:(n||!o)=false->z=(e:Int)/\1<=e/\e<s.length/\s.head? =some 40:=fun h=>by
  rw[Zw] at h;have m:=zu (D.symm.trans h.1);have T:o=true:=by simpa using h.2
  have h5:s.getD 0 0=40:=zy (J.symm.trans T);by_cases hc:e<s.length
  ·rw[zr (by simpa using hc)] at d;refine⟨d,by omega,hc,?_⟩;rw[pf qb,h5]
  ·rw[zb (by simpa using hc)] at d;omega
 refine b_ 35 func177 rfl rfl rfl ?_;intro F hg;refine P1 ?_;refine c_ rfl (av s 41) qw rfl ?_;rw[<-hz];refine u6 ?_;refine x8 [(0,B s),(5,.int .i64 z),(17,.bool (n||!o))] [] ?_ ?_
 ·cases n
  all_goals (
   refine u6 ?_;refine f_ ((F8 rfl rfl).eb D) ?_;refine A5 ?_;(first|refine u_ ?_|(refine v_ ?_;refine f_ ((B5 rfl rfl (by have:=zu D.symm;split at d<;>omega)).eq (v':=U8 (s.getD 0 0)) rfl) ?_));(first|refine u_ ?_|(refine v_ ?_;refine f_ ((M2 rfl rfl).eq ((jh (fun b=>Value.bool (!b)) (iv (b:=40))).trans (jh (fun b=>Value.bool (!b)) J.symm))) ?_));refine u6 ?_)
  all_goals exact p_ sub i_
 refine O_ ?_ ?_<;>intro h
 ·rw[M h];refine cn ?_;exact de rfl rfl rfl rfl [B0 none [] 0] ⟨none,0,rfl,rfl⟩ (fun w q=>q.addNil _ _)
 obtain⟨U,Q,V,X⟩:=p h;rw[U];have Y:(s.take e).drop 1=(s.drop 1).take (e-1):=by rw[List.drop_take]
 obtain⟨a,g⟩:=o9 ((s.take e).drop 1);have r:a.length=e-1:=by rw[g,jz,kr];omega
 have i:U6 s=if(X5 (if a=[] then[] else I3 a)).2=0 then((X5 (if a=[] then[] else I3 a)).1,e+1,0) else([],0,(X5 (if a=[] then[] else I3 a)).2):=by
  unfold U6;simp only;rw[<-j,zr ⟨X,V⟩,<-g]
 refine A5 ?_;refine f_ ((E9 rfl rfl).eq (v':=.bool (decide (1<e))) (qn (kz.mpr qb))) ?_;refine O_ ?_ ?_<;>intro m
 ·have T:=zy m;have Z:a≠[]:=by intro x;rw[x] at r;simp at r;omega
  rw[zb Z] at i;have h0:=sd a;refine A5 ?_;refine f_ ((I2 rfl rfl rfl qb).eq (v':=B a) (by rw[g,Y];simp only[Qy];rfl)) ?_;refine y5 _ rfl (Hc a qb) i_ (fun h l hb=>hg.le l) rfl ?_;rintro v A ⟨UF,h6,rfl,rfl⟩;refine A5 ?_;refine y5 _ rfl (pq (I3 a) UF h6 (by unfold lD;omega) (fun f hf=>by have:=h0.2 f hf;unfold lD;omega)) i_ (fun h l ⟨bs,hb⟩=>A_.rd hb ud) rfl ?_;rintro v A ⟨u,y,rfl,rfl⟩;refine wk 7 ?_;refine p7 rfl ?_ ?_<;>intro h9
  ·have j:¬(X5 (I3 a)).2=0:=(by simpa using h9);rw[i,zb j];refine KH ?_;exact de rfl rfl rfl rfl [B0 none [] 0] ⟨none,0,rfl,rfl⟩ (fun w q=>q.dropAll.addNil _ _)
  ·have j:(X5 (I3 a)).2=0:=(by simpa using h9);rw[i,zr j];refine A5 ?_;refine f_ ((r8 rfl rfl qb).eq (v':=.int .i64 ((e+1:Nat):Int)) (by congr 1)) ?_;refine cn ?_;exact de rfl rfl rfl rfl [B0 u (X5 (I3 a)).1 y] ⟨u,y,rfl,rfl⟩ (fun w q=>q.left (A:=[_]))
 ·have T:=zu m;have C:a=[]:=js qb;rw[zr C] at i;refine u6 ?_;refine y5 _ rfl (pq [] none 0 x7 x7) i_ (fun h l hb=>fun x=>absurd rfl x) rfl ?_;rintro v A ⟨u,y,rfl,rfl⟩;refine wk 7 ?_;have j:(X5 []).2=0:=rfl;rw[i,zr j];refine A5 ?_;refine f_ ((r8 rfl rfl qb).eq (v':=.int .i64 ((e+1:Nat):Int)) (by congr 1)) ?_;refine cn ?_;exact de rfl rfl rfl rfl [B0 u (X5 []).1 y] ⟨u,y,rfl,rfl⟩ i_
abbrev I5(b:Nat)(s:Bs)(p:Nat)(c:CM)(x:CL):As:=.blk b (.cells #[B s,.int .i64 (p:Nat),B c.tag,.int .i64 (c.kind:Nat),.bool c.uid,.bool c.cond,B c.box,B c.user,B c.pass,B c.a6F,.slice x.sa c.set.length x.sc,.slice x.ia c.a6B.length x.ic,.slice x.ka c.keys.length x.kc,.int .i64 (c.how:Nat),.bool c.a6H,.bool c.a6C,.int .u64 (c.a6D:Nat),.slice x.fa c.a6J.length x.fc,B c.data] 211)
abbrev O0:Value:=.iface 219 (.agg #[])
abbrev gb{α:Type}(o:Option α)(v:Value):Prop:=o=none/\v=O0
def H9(ok:Bool):Cx prog 137 [.bool ok] (fun _=>True) [] (fun v A=>ok=true/\v=.tuple #[]/\A=[]) (fun v=>ok=false/\v=O0):=by
 refine C2 6 func137 rfl rfl rfl ?_;intro F _
 cases ok with
 |true=>
  refine A5 ?_;exact m6 rfl [] qm i_
 |false=>
  refine RG ?_;refine f_ (A2 rfl rfl) ?_;refine f_ (Z_ (by intro a h;cases h) rfl) ?_;exact FV rfl rfl (l9.le_refl _) qh
def bd(b:Nat)(s:Bs)(p:Nat)(c:CM)(x:CL)(hs:s.length<=1000000000000)(hp:p<=s.length):Ct prog 206 [i8 b] (fun _=>True) [I5 b s p c x] (fun v A=>v=B (s.drop p)/\A=[I5 b s p c x]):=by
 refine b_ 12 func206 rfl rfl rfl ?_;intro F _;refine u6 ?_;refine vM [3,7] [] 10 ?_;refine wd [0,1,2,3,4,5,6,7] ?_;refine w_ 8 rfl ((I2 rfl rfl rfl qb).eq (v':=B (s.drop p)) (by rw[jm (by rw[jz];omega),Qy])) ?_;refine wd [9] ?_;refine B4 ?_;exact d_ rfl rfl [I5 b s p c x] qh i_
def I1(s w:Bs)(p:Nat):Nat:=if I9 s w p=true then p+w.length else p
def Br{s w:Bs}{p:Nat}:I9 s w p=true↔R3 ((s.drop p).take w.length)=w:=by unfold I9;simp
def gL{s w:Bs}{p:Nat}(hp:p<=s.length):p<=I1 s w p/\I1 s w p<=s.length:=by
 unfold I1;split
 ·next h=>
  by_cases hw:w=[]
  ·subst hw;simp;omega
  ·have:=iN h hw;omega
 ·omega
def T9(b:Nat)(s w:Bs)(p:Nat)(c:CM)(x:CL)(hs:s.length<=1000000000000)(hp:p<=s.length)(l:w.length<=1000000000000):Ct prog 132 [i8 b,B w] (fun _=>True) [I5 b s p c x] (fun v A=>v=.bool (I9 s w p)/\A=[I5 b s (I1 s w p) c x]):=by
 obtain⟨j,d⟩:=o9 (decide (((s.drop p).length:Int)<(w.length:Nat)));obtain⟨k,f⟩:=o9 (!decide (R3 ((s.drop p).take w.length)=w));refine b_ 30 func132 rfl rfl rfl ?_;intro F _;refine u6 ?_;refine x8 [(0,i8 b),(1,B w),(20,.bool (j||k))] [I5 b s p c x] ?_ ?_
 ·cases j
  all_goals (
   refine u6 ?_;refine y5 _ rfl (bd b s p c x hs hp) i_ qw rfl ?_;rintro v A ⟨rfl,rfl⟩;refine E8 ?_;refine f_ ((F8 rfl rfl).eb d) ?_;refine A5 ?_;(first|refine u_ ?_|(refine v_ ?_;refine y5 _ rfl (bd b s p c x hs hp) i_ qw rfl ?_;rintro v A ⟨rfl,rfl⟩));refine A5 ?_;(first|refine u_ ?_|(refine v_ ?_;refine f_ ((I2 rfl rfl rfl (by have:=zu d.symm;omega)).eq (v':=B ((s.drop p).take w.length)) x7) ?_));(first|refine u_ ?_|(refine v_ ?_;refine c_ rfl (J_ ((s.drop p).take w.length) (by rw[kr];omega)) qw rfl ?_));refine u6 ?_;(first|refine u_ ?_|(refine v_ ?_;refine f_ ((F7 rfl rfl).eb f) ?_));refine u6 ?_)
  all_goals exact p_ sub i_
 refine O_ ?_ ?_<;>intro h
 ·have e:I9 s w p=false:=by
   rw[Bool.eq_false_iff];intro g;rw[Br] at g;rw[Zh] at h;rcases h with h|h
   ·have m:=zy (d.symm.trans h);have:=jh List.length g;unfold R3 at this;rw[kg,kr] at this;omega
   ·rw[f,g] at h;simp at h
  have a:I1 s w p=p:=by unfold I1;rw[e];rfl
  rw[e,a];refine D0 ?_;exact d_ rfl rfl [I5 b s p c x] qh i_
 ·rw[Zw] at h;have e:I9 s w p=true:=Br.2 (by have:=f.symm.trans h.2;simpa using this);have a:I1 s w p=p+w.length:=by unfold I1;rw[e];rfl
  have i:=gL (s:=s) (w:=w) hp;rw[a] at i;rw[e,a];refine Y1 ?_;refine f_ ((r8 rfl rfl qb).eq (v':=.int .i64 ((p+w.length:Nat):Int)) (by congr 1)) ?_;refine KH ?_;exact d_ rfl rfl [I5 b s (p+w.length) c x] qh i_
def E4(b:Nat)(s w:Bs)(p:Nat)(c:CM)(x:CL)(hs:s.length<=1000000000000)(hp:p<=s.length)(f:w.length<=1000000000000):Cx prog 274 [i8 b,B w] (fun _=>True) [I5 b s p c x] (fun v A=>∃e,I7 s w p=some e/\v=.tuple #[]/\A=[I5 b s e c x]) (gb (I7 s w p)):=by
 refine C2 8 func274 rfl rfl rfl ?_;intro F _;obtain⟨W,a⟩:=o9 (I7 s w p);rw[<-a];unfold I7 at a;refine A5 ?_;refine y5 _ rfl (T9 b s w p c x hs hp f) i_ qw rfl ?_;rintro v A ⟨rfl,rfl⟩;refine y4 _ rfl (H9 (I9 s w p)) i_ pre rfl rfl (l9.le_refl _) (fun v h=>⟨(by rw[a,h.1];rfl),h.2⟩) ?_;rintro v A ⟨d,rfl,rfl⟩;refine x6 ?_;rw[zr d] at a;have g:I1 s w p=p+w.length:=by unfold I1;rw[d];rfl
 rw[g];exact m6 rfl [I5 b s (p+w.length) c x] ⟨_,a,rfl,rfl⟩ i_
abbrev wy(f:FuncId)(q:UInt8->Bool):Prop:=∀c,Pu prog f [B [c]] (fun _=>True) (.bool (q c))
def yO{s:Bs}{j:Nat}(a:j<s.length):(s.drop j).take 1=[s.getD j 0]:=by
 rw[Qc a,z8,zd a];rfl
def fd(f:FuncId)[hF:HF prog f](q:UInt8->Bool)(u:wy f q)(b:Nat)(s:Bs)(p:Nat)(c:CM)(x:CL)(hs:s.length<=1000000000000)(hp:p<=s.length):Ct prog 134 [i8 b,.func (.func f) #[] #[]] (fun _=>True) [I5 b s p c x] (fun v A=>v=B (O6 q s p)/\A=[I5 b s (p+(O6 q s p).length) c x]):=by
 refine b_ 55 func134 rfl rfl rfl ?_;intro F _;refine Y1 ?_;refine o8 (ι:=Nat) (fun j=>p<=j/\j<=s.length/\∀i,p<=i->i<j->q (s.getD i 0)=true) (fun j=>[(0,i8 b),(1,.func (.func f) #[] #[]),(5,r7 p)]) (fun j=>[I5 b s j c x]) (fun j=>s.length-j) p ⟨kp _,hp,fun i h t=>by omega⟩ ?_ ?_ ?_
 ·exact sub
 ·intro w m;exact m
 rintro j ⟨e,n,g⟩;obtain⟨o,a⟩:=o9 (decide ((j:Int)<(s.length:Nat)));obtain⟨y,d⟩:=o9 (q (s.getD j 0));refine x6 ?_;refine x8 [(0,i8 b),(1,.func (.func f) #[] #[]),(5,r7 p),(37,.bool (o&&y))] [I5 b s j c x] ?_ ?_
 ·cases o
  all_goals (
   refine x6 ?_;refine vM [3,7,15,19,23] [] 28 ?_;refine wd [0,1,2,3,4,5,6,7,8] ?_;refine w_ 9 rfl ((F8 rfl rfl).eb a) ?_;refine wd [10,11,12,13,14,15,16,17,18,19,20,21,22,23] ?_;(first|refine s_ 24 ?_|refine t_ 24 ?_|refine G4 24 rfl ((r8 rfl rfl (by have:=zy a.symm;omega)).eq (v':=.int .i64 ((j+1:Nat):Int)) (by congr 1)) rfl rfl rfl rfl rfl rfl i6 ?_);(first|refine s_ 25 ?_|refine t_ 25 ?_|refine G4 25 rfl ((I2 rfl rfl rfl (by have:=zy a.symm;omega)).eq (v':=B [s.getD j 0]) (by have O:=zy a.symm;rw[ko qb,Nat.add_sub_cancel_left,yO qb])) rfl rfl rfl rfl rfl rfl i6 ?_);refine h_ 26 rfl i6 ?_;(first|refine u_ ?_|(refine v_ ?_;refine A4 (ps:=[]) (qs:=[]) _ rfl rfl rfl (u (s.getD j 0)) i_ qw rfl ?_;rintro v A ⟨rfl,rfl⟩;rw[<-d]));refine rR ?_;refine wd [27] ?_)
  all_goals exact p_ sub i_
 refine O_ ?_ ?_<;>intro k
 ·simp only[jw] at k;have z:j<s.length:=by have:=zy (a.symm.trans k.1);omega
  refine P1 ?_;refine f_ ((r8 rfl rfl qb).eq (v':=.int .i64 ((j+1:Nat):Int)) (by congr 1)) ?_;refine E8 ?_;refine l8 (j+1) ⟨by omega,by omega,fun i h t=>?_⟩ qb ?_ ?_
  ·rcases jd.1 t with C|rfl
   ·exact g i h C
   ·rw[<-d];exact k.2
  ·exact sub
  ·intro w m;exact m
 ·have l:j<s.length->q (s.getD j 0)=false:=fun Q=>by
   have:o=true:=a.trans qk;rw[this,K3] at k;rw[<-d];exact k
  obtain⟨r,D⟩:=Bl (f:=q) e (.inl n) g l;have J:O6 q s p=(s.drop p).take (j-p):=r;have M:p+(O6 q s p).length=j:=D.symm;rw[M,J];refine x6 ?_;refine vM [3,8] [] 11 ?_;refine wd [0,1,2,3,4,5,6,7,8] ?_;refine w_ 9 rfl ((I2 rfl rfl rfl qb).eq (v':=B ((s.drop p).take (j-p))) (jh B (ko e))) ?_;refine wd [10] ?_;refine B4 ?_;exact d_ rfl rfl [I5 b s j c x] qh i_
def pt:wy 47 R2:=fun c=>by
 have h:=pj [c] x7;have e:jF [c]=R2 c:=by simp[jF]
 rw[e] at h;exact h
def lE{a c:UInt8}:Op.bytesLess [a] [c]=decide (a.toNat<c.toNat):=by
 simp only[Op.bytesLess];by_cases h:a<c
 ·have:a.toNat<c.toNat:=h;simp[h,this]
 ·have:¬a.toNat<c.toNat:=h;simp[h,this]
def sf{a c:UInt8}:(Op.bytesLess [a] [c]||[a]==[c])=decide (a.toNat<=c.toNat):=by
 rw[lE];by_cases h:a=c
 ·subst h;simp
 ·have b:a.toNat≠c.toNat:=fun e=>h (Wu.mp e);simp only[List.cons_beq_cons,List.nil_beq_eq,beq_eq_false_iff_ne.mpr h,Bool.false_and,Bool.or_false];exact kz.mpr qb
def Bt:wy 391 R1:=fun c=>by
 obtain⟨a,b⟩:=o9 (decide (48<=c.toNat));obtain⟨f,d⟩:=o9 (decide (c.toNat<=57));have e:R1 c=(a&&f):=by unfold R1;rw[b,d]
 rw[e];refine b_ 9 func391 rfl rfl rfl ?_;intro F _;refine u6 ?_
 cases a
 all_goals (
  refine u6 ?_;refine f_ ((lp rfl rfl).eq (qn ((show(!Op.bytesLess [c] [48])=decide (48<=c.toNat) from by rw[lE,<-decide_not];congr 1;simp).trans b.symm))) ?_;refine A5 ?_;(first|refine u_ ?_|(refine v_ ?_;refine f_ ((lq rfl rfl).eq (qn (sf.trans d.symm))) ?_));refine A5 ?_)
 all_goals (refine B4 ?_;exact d_ rfl rfl [] qh i_)
def cg{q:UInt8->Bool}{s:Bs}{p:Nat}(hp:p<=s.length):p+(O6 q s p).length<=s.length:=PH q s p hp
def Bu(b:Nat)(s:Bs)(p:Nat)(c:CM)(x:CL)(hs:s.length<=1000000000000)(hp:p<=s.length):Cx prog 341 [i8 b] (fun _=>True) [I5 b s p c x] (fun v A=>∃r,vX s p=some r/\v=B r.1/\A=[I5 b s r.2 c x]) (gb (vX s p)):=by
 refine C2 10 func341 rfl rfl rfl ?_;intro F _;obtain⟨W,a⟩:=o9 (vX s p);rw[<-a];unfold vX at a;refine A5 ?_;refine y5 _ rfl (fd 47 R2 pt b s p c x hs hp) i_ qw rfl ?_;rintro v A ⟨rfl,rfl⟩;refine A5 ?_;refine f_ (F7 rfl rfl) ?_;refine y4 _ rfl (H9 _) i_ pre rfl rfl (l9.le_refl _) (fun v h=>⟨(by rw[a,zr (by have:=h.1;simpa using this)]),h.2⟩) ?_;rintro v A ⟨d,rfl,rfl⟩;refine x6 ?_;rw[zb (by simpa using d)] at a;refine M4 ?_;exact d_ rfl rfl [I5 b s (p+(O6 R2 s p).length) c x] ⟨_,a,rfl,rfl⟩ i_
def cG{s:Bs}{m p:Nat}{r:Nat×Nat}(hp:p<=s.length)(h:mR s m p=some r):r.1<=m/\p<=r.2/\r.2<=s.length:=by
 unfold mR at h;obtain⟨n,b,a⟩:=kj.1 h;split at a
 ·have:=Qz a;subst this;have:=cg (q:=R1) hp;exact⟨by assumption,by simp only;omega,this⟩
 ·cases a
def Y7(b:Nat)(s:Bs)(m p:Nat)(c:CM)(x:CL)(hs:s.length<=1000000000000)(hp:p<=s.length)(j:m<=E6):Cx prog 342 [i8 b,.int .u64 (m:Nat)] Gl [I5 b s p c x] (fun v A=>∃r,mR s m p=some r/\v=.int .u64 (r.1:Nat)/\A=[I5 b s r.2 c x]) (gb (mR s m p)):=by
 refine C2 21 func342 rfl rfl rfl ?_;intro F hg;obtain⟨W,a⟩:=o9 (mR s m p);rw[<-a];unfold mR at a;have g:=cg (q:=R1) hp
 cases hn:bA (O6 R1 s p) with
 |none=>
  rw[hn] at a;refine A5 ?_;refine y5 _ rfl (fd 391 R1 Bt b s p c x hs hp) i_ qw rfl ?_;rintro v A ⟨rfl,rfl⟩;refine c_ rfl (fb (O6 R1 s p) qb) (fun h d i=>hg.le d) rfl ?_;rw[hn];simp only[GG];refine wk 11 ?_;refine y4 _ rfl (H9 _) i_ pre rfl rfl (l9.le_refl _) (fun v h=>⟨(a),h.2⟩) ?_;rintro v A ⟨e,rfl,rfl⟩;refine x6 ?_
  cases e
 |some n=>
  rw[hn] at a;obtain⟨q,f⟩:=o9 (decide (n<=m));refine A5 ?_;refine y5 _ rfl (fd 391 R1 Bt b s p c x hs hp) i_ qw rfl ?_;rintro v A ⟨rfl,rfl⟩;refine c_ rfl (fb (O6 R1 s p) qb) (fun h d i=>hg.le d) rfl ?_;rw[hn];simp only[GG];refine wk 9 ?_;(first|refine u_ ?_|(refine v_ ?_;refine f_ ((H4 rfl rfl).eq (v':=.bool q) (qn (by rw[f];simp))) ?_));refine u6 ?_;refine y4 _ rfl (H9 q) i_ pre rfl rfl (l9.le_refl _) (fun v h=>⟨(by rw[a,jq,zb (zu (f.symm.trans h.1))]),h.2⟩) ?_;rintro v A ⟨e,rfl,rfl⟩;refine x6 ?_;rw[jq,zr (zy (f.symm.trans e))] at a;refine M4 ?_;exact d_ rfl rfl [I5 b s (p+(O6 R1 s p).length) c x] ⟨_,a,rfl,rfl⟩ i_
def LY{s:Bs}{p:Nat}{r:Bs×Nat}(hp:p<=s.length)(h:mS s p=some r):p<=r.2/\r.2<=s.length/\r.1.length<=4096:=by
 unfold mS at h;obtain⟨e,a,h⟩:=kj.1 h;obtain⟨⟨n,f⟩,b,h⟩:=kj.1 h;obtain⟨g,c,h⟩:=kj.1 h;have d:=D6 a x7;have i:=cG d.2.2 b;have a3:=D6 c x7;split at h
 ·have:=Qz h;subst this;have j:([123]:Bs).length=1:=rfl;have k:([125,13,10]:Bs).length=3:=rfl;simp only[kr,jz] at*;omega
 ·cases h
def mB(b:Nat)(s:Bs)(p:Nat)(c:CM)(x:CL)(hs:s.length<=1000000000000)(hp:p<=s.length):Cx prog 283 [i8 b] Gl [I5 b s p c x] (fun v A=>∃r,mS s p=some r/\v=B r.1/\A=[I5 b s r.2 c x]) (gb (mS s p)):=by
 refine C2 40 func283 rfl rfl rfl ?_;intro F hg;obtain⟨W,a⟩:=o9 (mS s p);rw[<-a];unfold mS at a;refine A5 ?_;refine y4 _ rfl (E4 b s [123] p c x hs hp x7) i_ pre rfl rfl (l9.le_refl _) (fun v h=>⟨(by rw[a,h.1];rfl),h.2⟩) ?_;rintro v A ⟨m,j,rfl,rfl⟩;refine x6 ?_;rw[j,jq] at a;have e:=D6 j x7;refine u6 ?_;refine y4 _ rfl (Y7 b s 4096 m c x hs e.2.2 qp) i_ pre rfl rfl (l9.le_refl _) (fun v h=>⟨(by rw[a,h.1];rfl),h.2⟩) ?_;rintro v A ⟨⟨n,o⟩,f,rfl,rfl⟩;refine f_ (bM rfl (by have:=(cG e.2.2 f).1;simp only at this;omega)) ?_;refine u6 ?_;rw[f,jq] at a;have k:=cG e.2.2 f;simp only at k a;refine u6 ?_;refine y4 _ rfl (E4 b s [125,13,10] o c x hs k.2.2 x7) i_ pre rfl rfl (l9.le_refl _) (fun v h=>⟨(by rw[a,h.1];rfl),h.2⟩) ?_;rintro v A ⟨d,l,rfl,rfl⟩;refine x6 ?_;rw[l,jq] at a;have a3:=D6 l x7;obtain⟨q,g⟩:=o9 (decide (d+n<=s.length));refine u6 ?_;refine y5 _ rfl (bd b s d c x hs a3.2.2) i_ qw rfl ?_;rintro v A ⟨rfl,rfl⟩;refine A5 ?_;refine f_ ((K_ rfl rfl).eq (v':=.bool q) (qn (by rw[g,jz];apply kz.2;omega))) ?_;refine y4 _ rfl (H9 q) i_ pre rfl rfl (l9.le_refl _) (fun v h=>⟨(by rw[a,zb (zu (g.symm.trans h.1))]),h.2⟩) ?_;rintro v A ⟨t,rfl,rfl⟩;refine x6 ?_;have i:=zy (g.symm.trans t);rw[zr i] at a;refine al ?_;refine f_ ((r8 rfl rfl qb).eq (v':=.int .i64 ((d+n:Nat):Int)) (by congr 1)) ?_;refine E8 ?_;refine vM [3,7,13] [] 16 ?_;refine wd [0,1,2,3,4,5,6,7,8] ?_;refine w_ 9 rfl ((E7 rfl rfl qb).eq (v':=.int .i64 (d:Nat)) (by congr 1;omega)) ?_;refine wd [10,11,12,13] ?_;refine w_ 14 rfl ((I2 rfl rfl rfl qb).eq (v':=B ((s.drop d).take n)) (by rw[ko qb,Nat.add_sub_cancel_left])) ?_;refine wd [15] ?_;refine B4 ?_;exact d_ rfl rfl [I5 b s (d+n) c x] ⟨_,a,rfl,rfl⟩ i_
open Go Go.Sl Go.Proofs.Tryz
def pu{b:UInt8}(r:Bs):∀(w:Bs),(∀c∈w,c≠b)->Lib.index (w++b::r) [b]=(w.length:Nat)
 |[],_=>by simp[Lib.index]
 |c::w,h=>by
  have a:=pu (b:=b) r w fun x d=>h x (jn _ d);have hc:((b==c)=false):=beq_eq_false_iff_ne.mpr (fun e=>h c x7 e.symm);have hp:([b]:Bs).isPrefixOf (c::(w++b::r))=false:=by simp[List.isPrefixOf,hc]
  rw[Zu,Lib.index,hp,a];have f:(((w.length:Nat):Int)== -1)=false:=beq_eq_false_iff_ne.mpr qb;simp[f]
def wz{b:UInt8}:∀(w:Bs),(∀c∈w,c≠b)->Lib.index w [b]= -1
 |[],_=>by simp[Lib.index]
 |c::w,h=>by
  have a:=wz (b:=b) w fun x d=>h x (jn _ d);have hc:((b==c)=false):=beq_eq_false_iff_ne.mpr (fun e=>h c x7 e.symm);have hp:([b]:Bs).isPrefixOf (c::w)=false:=by simp[List.isPrefixOf,hc]
  rw[Lib.index,hp,a];simp
def mC(b:UInt8)(s:Bs):(∀c∈s,c≠b)\/∃w r,s=w++b::r/\∀c∈w,c≠b:=by
 by_cases h:b∈s
 ·refine .inr ?_;have hs:=bN (fun c=>c !=b) s;have f:=io (fun c=>c !=b) s;have a:=fO (fun c=>c !=b) s
  cases hd:s.drop (s.takeWhile fun c=>c !=b).length with
  |nil=>
   rw[hd,jk] at hs;rw[hs] at h;have:=f b h;simp at this
  |cons d r=>
   rw[hd] at hs a;have:d=b:=(by have:=a d x7;simpa using this);subst this;exact⟨_,r,hs,fun c hc=>by simpa using f c hc⟩
 ·exact .inl fun c hc e=>h (e▸hc)
def kD(b:UInt8):∀(k:Nat) (s:Bs),s.count b=k->Lib.splitK [b] 0 k s=H8 b s
 |0,s,h=>by
  rw[fS b s (fun c hc e=>by subst e;have:=List.count_pos_iff.mpr hc;omega)];rfl
 |k+1,s,h=>by
  rcases mC b s with a|⟨w,r,rfl,a⟩
  ·have:s.count b=0:=J1.mpr (fun hc=>a b hc rfl);omega
  ·have hc:r.count b=k:=by
    rw[List.count_append,List.count_cons_self] at h;have:w.count b=0:=J1.mpr (fun hc=>a b hc rfl);omega
   rw[oL,fS b w a,Lib.splitK,pu r w a];have d:(((w.length:Nat):Int)== -1)=false:=beq_eq_false_iff_ne.mpr qb;rw[d];simp only[Kc,if_false,Qy,Zk,Ju];rw[show(w++b::r).drop (w.length+[b].length)=r by simp,kD b k r hc];rfl
def DH(b:UInt8)(s:Bs):(H8 b s).length<=s.length+1/\∀f∈H8 b s,f.length<=s.length:=by
 induction s with
 |nil=>simp[H8]
 |cons c t ih=>
  unfold H8;split
  ·refine⟨by simp;omega,fun f hf=>?_⟩;rcases jv.mp hf with rfl|hf
   ·simp
   ·have:=ih.2 f hf;simp;omega
  ·split
   ·simp
   ·next w a h=>
    rw[h] at ih;refine⟨by simpa using by have:=ih.1;simp at this;omega,fun f hf=>?_⟩;rcases jv.mp hf with rfl|hf
    ·have:=ih.2 w x7;simp;omega
    ·have:=ih.2 f (by simp[hf]);simp;omega
def DI(p:Bs):Lib.cut p [58]=(p.takeWhile (fun c=>c !=58),if(p.takeWhile fun c=>c !=58).length<p.length then p.drop ((p.takeWhile fun c=>c !=58).length+1) else[],decide ((p.takeWhile fun c=>c !=58).length<p.length)):=by
 unfold Lib.cut;rcases mC 58 p with h|⟨w,r,rfl,h⟩
 ·have e:p.takeWhile (fun c=>c !=58)=p:=by
   have:=bX (fun c=>c !=58) p [] (fun c hc=>by simpa using h c hc) x7;simpa using this
  rw[wz p h,e];simp
 ·have e:(w++58::r).takeWhile (fun c=>c !=58)=w:=bX (fun c=>c !=58) w (58::r) (fun c hc=>by simpa using h c hc) x7;rw[pu r w h,e];have a:((w.length:Nat):Int).toNat=w.length:=Qy _;rw[zr qb,a,Ju];simp
open Go Go.Sl Go.RowKit Go.Proofs.Tryz
def yP(w:Bs):Nat:=if w=[42] then 0 else(bA w).getD 0
def sg{w:Bs}{n:Nat}(h:fT w=some n):yP w=n:=by
 unfold fT at h;unfold yP;split at h
 ·next e=>rw[zr e];exact Qz h
 ·next e=>
  rw[zb e]
  cases e2:bA w with
  |none=>rw[e2] at h;cases h
  |some m=>
   rw[e2] at h;simp only at h;split at h
   ·exact Qz h
   ·cases h
def Hd(w:Bs)(d:w.length<=281474976710656):Pu prog 395 [B w] Gl (.tuple #[.int .u64 (yP w:Nat),.bool (fT w).isSome]):=by
 refine b_ 23 func395 rfl rfl rfl ?_;intro F hg;refine E8 ?_;refine f_ (C9 rfl rfl) ?_;refine O_ ?_ ?_<;>intro h
 ·have e:w=[42]:=by simpa using h
  subst e;refine M4 ?_;exact w8 rfl rfl rfl [] qh i_
 ·have e:w≠[42]:=by simpa using h
  have j:yP w=(bA w).getD 0:=by unfold yP;rw[zb e]
  have k:fT w=match bA w with|none=>none|some n=>if 0<n/\n<=4294967295 then some n else none:=by unfold fT;rw[zb e];cases bA w<;>rfl
  rw[j,k];refine x6 ?_
  cases hn:bA w with
  |none=>
   refine u6 ?_;refine c_ rfl (fb w d) (fun h c l=>hg.le c) rfl ?_;rw[hn];simp only[GG];refine wk 17 ?_;refine B4 ?_;exact w8 rfl rfl rfl [] qh i_
  |some n=>
   obtain⟨f,g⟩:=o9 (decide (0<n));obtain⟨m,i⟩:=o9 (decide (n<=4294967295));have o:(if 0<n/\n<=4294967295 then some n else none).isSome=(f&&m):=by
    rw[g,i];by_cases a:0<n<;>by_cases b:n<=4294967295<;>simp[a,b]
   simp only[Z6];rw[o];refine u6 ?_;refine c_ rfl (fb w d) (fun h c l=>hg.le c) rfl ?_;rw[hn];simp only[GG,Z6];refine al ?_
   cases f
   all_goals (
    refine P1 ?_;(first|refine u_ ?_|(refine v_ ?_;refine f_ ((E9 rfl rfl).eq (qn ((qz).trans g.symm))) ?_));refine E8 ?_;(first|refine u_ ?_|(refine v_ ?_;refine f_ ((H4 rfl rfl).eq (qn ((qz).trans i.symm))) ?_));refine E8 ?_)
   all_goals (refine B4 ?_;exact w8 rfl rfl rfl [] qh i_)
def sh:∀(l:List Bs) (p:Bs) (a:List (Nat×Nat)),aG l=some a->aG (l++[p])=(rm p).map fun r=>a++[r]
 |[],p,a,h=>by
  have:=Qz h;subst this;simp only[Qv,aG]
  cases rm p<;>rfl
 |x::l,p,a,h=>by
  rw[aG] at h;rw[Zu,aG]
  cases h1:rm x with
  |none=>rw[h1] at h;cases h
  |some r=>
   rw[h1] at h
   cases h2:aG l with
   |none=>rw[h2] at h;cases h
   |some b=>
    rw[h2] at h;have:=Qz h;subst this;rw[sh l p b h2]
    cases rm p<;>rfl
def si:∀(l m:List Bs),aG l=none->aG (l++m)=none
 |[],m,h=>by cases h
 |x::l,m,h=>by
  rw[aG] at h;rw[Zu,aG]
  cases h1:rm x with
  |none=>rfl
  |some r=>
   rw[h1] at h
   cases h2:aG l with
   |none=>rw[si l m h2]
   |some b=>rw[h2] at h;cases h
def kE:∀(l:List Bs) (a:List (Nat×Nat)),aG l=some a->a.length=l.length
 |[],a,h=>by have:=Qz h;subst this;rfl
 |x::l,a,h=>by
  rw[aG] at h
  cases h1:rm x with
  |none=>rw[h1] at h;cases h
  |some r=>
   rw[h1] at h
   cases h2:aG l with
   |none=>rw[h2] at h;cases h
   |some b=>
    rw[h2] at h;have:=Qz h;subst this;simp[kE l b h2]
def DJ(s:Bs)(hs:s.length<4294967281):Ct prog 248 [B s,B [44]] Gl [] (fun v A=>∃a c,v=.slice a (H8 44 s).length c/\A=[B0 a (H8 44 s) c]):=by
 intro w i f j d;have k:i=[]:=f;subst k;rw[O1] at d;obtain⟨m,t,l,n⟩:=d.m;have hc:=Tryz.strings_Split (D4 s) (D4 [44]) m w (by simpa[ByteArray.size] using hs) (my n) qp;refine hc.mono ?_;rintro e x ⟨rfl,rfl⟩;have g:Lib.countB (D4 s) (D4 [44])=s.count 44:=Lib.count_one 44 s;have h:=Lib.splitB_data (D4 [44]) 0 (Lib.countB (D4 s) (D4 [44])) (D4 s);have o:(D4 [44]).data.toList=[44]:=rfl;have p:(D4 s).data.toList=s:=rfl;rw[o,p,g,kD 44 _ s rfl] at h;have q:(Lib.splitB (D4 [44]) 0 (Lib.countB (D4 s) (D4 [44])) (D4 s)).length=Lib.countB (D4 s) (D4 [44])+1:=Lib.splitB_all _ qp 0 _ _ rfl;have b:(Lib.splitB (D4 [44]) 0 (Lib.countB (D4 s) (D4 [44])) (D4 s)).map Value.string=fV (H8 44 s):=by
  rw[g,<-h];simp[fV,Ku]
 have r:Lib.countB (D4 s) (D4 [44])+1=(H8 44 s).length:=by
  rw[<-q,g,<-h,kg]
 rw[b,r];refine⟨_,[B0 (some ⟨w.heap.size,0,none⟩) (H8 44 s) (H8 44 s).length],rfl,⟨_,_,rfl,rfl⟩,?_⟩;have u:Hp (w6 w []) w []:=Hp.start (C:=[]) (bs:=[]) rfl Zn;exact P9 (xs:=fV (H8 44 s)) (post:=[]) (fr:=(0,0)) u (by rw[M6];omega) (by rw[jk,M6];omega) (kp _) (.inl (kp _)) x7
def He(s:Bs)(hs:s.length<4294967281):Pu prog 394 [B s,B [58]] Gl (.tuple #[B (s.takeWhile fun c=>c !=58),B (if(s.takeWhile fun c=>c !=58).length<s.length then s.drop ((s.takeWhile fun c=>c !=58).length+1) else[]),.bool (decide ((s.takeWhile fun c=>c !=58).length<s.length))]):=ei fun w hg=>by
 obtain⟨m,t,d,a⟩:=hg.m;have hc:=Tryz.strings_Cut (D4 s) (D4 [58]) m w (by simpa[ByteArray.size] using hs) (my a);rw[show Lib.cut (D4 s).data.toList (D4 [58]).data.toList=_ from DI s] at hc;refine hc.mono ?_;rintro e f ⟨b,n,rfl⟩;exact⟨b,rfl,rfl,rfl,kp _,fun _ _=>rfl⟩
def sj(f:UInt8->Bool)(s:Bs):(s.takeWhile f).length<=s.length:=(J9 f).length_le
def DK(s:Bs)(hs:s.length<=4000000000):Ct prog 346 [B s] Gl [] (fun v A=>∃a c l,v=.tuple #[.slice a l.length c,.bool (vW s).isSome]/\A=[X1 a l c]/\∀r,vW s=some r->l=r):=by
 refine b_ 59 func346 rfl rfl rfl ?_;intro F hg;have S:=DH 44 s;obtain⟨W,n⟩:=o9 (vW s);rw[<-n];unfold vW at n;refine E8 ?_;refine y5 _ rfl (DJ s qb) i_ (fun h D J=>hg.le D) rfl ?_;rintro v A ⟨a4,V,rfl,rfl⟩;refine u6 ?_;obtain⟨f,X⟩:=o9 (H8 44 s);rw[<-X] at n S⊢;refine eV ?_ ?_<;>intro h
 ·rw[zr (by simp at h;omega)] at n;rw[n];refine M4 ?_;exact w8 rfl rfl rfl [X1 none [] 0] ⟨none,0,[],rfl,rfl,fun r h=>by cases h⟩ (fun w j=>j.drop.addNil _ _)
 ·rw[zb (by simp at h;omega)] at n;refine cy (H:=[]) (Z:=[B0 a4 f V]) fun F' Y J=>?_;obtain⟨bs,J⟩:=J;have T:n9 F'.heap a4 (fV f):=A_.rd J .del;have M:Gl F'.heap:=hg.le Y.heap;have h0:f.length<=64:=by simp at h;omega
  refine P1 ?_;refine P8 178 2 ?_;refine o8 (ι:=Nat×List (Nat×Nat)×qr×Nat) (fun i=>i.1<=f.length/\aG (f.take i.1)=some i.2.1) (fun i=>[(5,.slice i.2.2.1 i.2.1.length i.2.2.2),(20,.slice a4 f.length V),(21,r7 f.length),(22,r7 i.1)]) (fun i=>[X1 i.2.2.1 i.2.1 i.2.2.2]) (fun i=>f.length-i.1) (0,[],none,0) ⟨by simp,by simp[aG]⟩ ?_ ?_ ?_
  ·exact sub
  ·intro w j;exact j
  rintro⟨k,o,b,d⟩ ⟨hk,hc⟩;simp only at hk hc;have h1:=kE _ _ hc;rw[kr] at h1;refine T2 ?_ ?_<;>intro h
  ·have p:k<f.length:=(by simp at h;omega);have O:=cB T p;have h4:=S.2 _ (ed p);have h5:f.take (k+1)=f.take k++[f.getD k []]:=Ov p;have m:=sh (f.take k) (f.getD k []) o hc;rw[<-h5] at m;obtain⟨w,j⟩:=o9 (f.getD k []);obtain⟨g,Q⟩:=o9 (w.takeWhile fun c=>c !=58);obtain⟨q,hq⟩:=o9 (decide (g.length<w.length));obtain⟨wb,t⟩:=o9 (if g.length<w.length then w.drop (g.length+1) else g);rw[<-j] at h4 m;have h6:g.length<=w.length:=(by rw[Q];exact sj _ _);have h9:wb.length<=w.length:=by
    rw[t];split
    ·rw[jz];omega
    ·exact h6
   have U:rm w=match fT g,fT wb with|some x,some y=>some (x,y)|_,_=>none:=by
    unfold rm;simp only;rw[<-Q,<-t]
    cases fT g<;>cases fT wb<;>rfl
   refine D1 ?_;refine f_ (n5 rfl O rfl qb) ?_;refine r_ ((l5 rfl (fun w j=>Px j T (i:=k) qb p)).eq (v':=B w) (by rw[j])) ?_;refine A5 ?_;refine c_ rfl (He w qb) (fun h D J=>M.le D) rfl ?_;rw[<-Q,<-hq];refine wk 9 ?_;refine x8 [(5,.slice b o.length d),(8,B g),(9,B wb),(20,.slice a4 f.length V),(21,r7 f.length),(22,r7 k)] [X1 b o d] ?_ ?_
   ·refine p7 rfl ?_ ?_<;>intro C
    ·have e:wb=g:=(by rw[t,zb (zu (hq.symm.trans (by simpa using C)))]);rw[e];refine A5 ?_;exact p_ sub i_
    ·have e:(if g.length<w.length then w.drop (g.length+1) else[])=wb:=by
      have h3:=zy (hq.symm.trans (by simpa using C));rw[t,zr h3,zr h3]
     rw[e];refine x6 ?_;exact p_ sub i_
   obtain⟨q1,u⟩:=o9 ((fT g).isSome);obtain⟨q2,z⟩:=o9 ((fT wb).isSome);refine u6 ?_;refine c_ rfl (Hd g qb) (fun h D J=>M.le D) rfl ?_;rw[<-u];refine Y1 ?_;refine c_ rfl (Hd wb qb) (fun h D J=>M.le D) rfl ?_;rw[<-z];refine al ?_;refine x8 [(5,.slice b o.length d),(11,.int .u64 (yP g:Nat)),(13,.int .u64 (yP wb:Nat)),(20,.slice a4 f.length V),(21,r7 f.length),(22,r7 k),(50,.bool (!q1||!q2))] [X1 b o d] ?_ ?_
   ·cases q1
    all_goals (
     refine Y1 ?_)
    all_goals exact p_ sub i_
   refine O_ ?_ ?_<;>intro C
   ·have e:rm w=none:=by
     rw[U]
     cases e1:fT g with
     |none=>rfl
     |some x=>
      cases e2:fT wb with
      |none=>rfl
      |some y=>rw[e1] at u;rw[e2] at z;rw[u,z] at C;cases C
    have e2:W=none:=by
     rw[e] at m;have:=si _ (f.drop (k+1)) m;rw[Qp] at this;rw[n,this]
    rw[e2];refine M4 ?_;refine FQ Y ?_;exact w8 rfl rfl rfl [X1 none [] 0] ⟨none,0,[],rfl,rfl,fun r h=>by cases h⟩ (fun w j=>j.drop.addNil _ _)
   ·rw[Zw] at C;obtain⟨x,hx⟩:∃x,fT g=some x:=Z4.1 (by rw[<-u];simpa using C.1);obtain⟨y,hy⟩:∃x,fT wb=some x:=Z4.1 (by rw[<-z];simpa using C.2);rw[U,hx,hy] at m;rw[sg hx,sg hy];refine P1 ?_;refine y6 rfl rfl rfl rfl rfl rfl (xs:=S_ [(x,y)]) rfl rfl ?_;intro a46 h8;refine C4 rfl rfl (fun a' c'=>.there .here) (fun w j=>(j.ownN ud).2.2.1) rfl rfl rfl (eY _) (by show(o.length+1)*16<=_;omega) qb rfl ?_;intro a5 c5 k0;refine E8 ?_;refine l8 (k+1,o++[(x,y)],a5,c5) ⟨by simp only;omega,by simp only;rw[m];rfl⟩ qg ?_ ?_
    ·simp only[zg,Qq];exact sub
    ·intro w j;simp only[X1,zg,Qq];rw[oV];exact j.drop
  ·have h7:k=f.length:=(by simp at h;omega);rw[h7,Qn] at hc;rw[hc] at n;rw[n];refine cn ?_;refine FQ Y ?_;exact w8 rfl rfl rfl [X1 b o d] ⟨b,d,o,rfl,rfl,fun r h=>Qz h⟩ i_
def Hf(s p:Bs)(hs:s.length<4294967281):Pu prog 372 [B s,B p] Gl (.int .i64 (Lib.index s p)):=V3 fun w hg=>by
 obtain⟨m,t,b,a⟩:=hg.m;exact Tryz.strings_Index (D4 s) (D4 p) m w (by simpa[ByteArray.size] using hs) (my a)
def wA(s p:Bs)(hs:s.length<4294967281):Pu prog 348 [B s,B p] Gl (.bool (Lib.contains s p)):=V3 fun w hg=>by
 obtain⟨m,t,b,a⟩:=hg.m;exact Tryz.strings_Contains (D4 s) (D4 p) m w (by simpa[ByteArray.size] using hs) (my a)
def px(a:Bs):∀(k:Nat) (s:Bs),(Lib.splitK a 0 k s).flatten.length<=s.length
 |0,s=>by show([s]:List Bs).flatten.length<=_;simp
 |k+1,s=>by
  unfold Lib.splitK;split
  ·simp
  ·rw[Jw,zg];have:=px a k (s.drop ((Lib.index s a).toNat+a.length));rw[jz] at this;rw[kr];omega
def DM(s p:Bs)(hs:s.length<4294967281)(hp:1<=p.length):Ct prog 248 [B s,B p] Gl [] (fun v A=>∃a l,v=.slice a l.length l.length/\A=[B0 a l l.length]/\l.length<=s.length+1/\l.flatten.length<=s.length):=by
 intro w i f j c;have k:i=[]:=f;subst k;rw[O1] at c;obtain⟨m,t,n,o⟩:=c.m;have d:1<=(D4 p).size:=by simpa[ByteArray.size] using hp
 have hc:=Tryz.strings_Split (D4 s) (D4 p) m w (by simpa[ByteArray.size] using hs) (my o) d;refine hc.mono ?_;rintro e D ⟨rfl,rfl⟩;have J:=Lib.countB_le (D4 p) d _ (D4 s) (kp _);have q:(D4 s).size=s.length:=by simp[ByteArray.size]
 have h:=Lib.splitB_data (D4 p) 0 (Lib.countB (D4 s) (D4 p)) (D4 s);have r:(D4 p).data.toList=p:=rfl;have u:(D4 s).data.toList=s:=rfl;rw[r,u] at h;have x:(Lib.splitB (D4 p) 0 (Lib.countB (D4 s) (D4 p)) (D4 s)).length=Lib.countB (D4 s) (D4 p)+1:=Lib.splitB_all _ d 0 _ _ rfl;obtain⟨l,g⟩:=o9 (Lib.splitK p 0 (Lib.countB (D4 s) (D4 p)) s);rw[<-g] at h;have b:(Lib.splitB (D4 p) 0 (Lib.countB (D4 s) (D4 p)) (D4 s)).map Value.string=fV l:=by
  rw[<-h];simp[fV,Ku]
 have y:Lib.countB (D4 s) (D4 p)+1=l.length:=by
  rw[<-x,<-h,kg]
 rw[b,y];refine⟨_,[B0 (some ⟨w.heap.size,0,none⟩) l l.length],rfl,⟨_,l,rfl,rfl,by omega,by rw[g];exact px p _ s⟩,?_⟩;have z:Hp (w6 w []) w []:=Hp.start (C:=[]) (bs:=[]) rfl Zn;exact P9 (xs:=fV l) (post:=[]) (fr:=(0,0)) z (by rw[M6];omega) (by rw[jk,M6];omega) (kp _) (.inl (kp _)) x7
abbrev Hg(l:Bs):Obj:=.cells (Lib.setCells l) 458 (0,0)
def yQ(l:Bs)(hs:l.length<4294967281)(ha:∀b∈l,b.toNat<128):Pu prog 454 [B l] (fun _=>True) (.tuple #[.agg (Lib.setCells l),.bool true]):=ei fun w _=>by
 refine(Tryz.strings_makeASCIISet (fun w=>by kernel_rfl) (D4 l) w (by simpa[ByteArray.size] using hs) (fun j b h=>ha b (Wy h))).mono ?_;rintro e d ⟨c,rfl⟩;exact⟨c,rfl,rfl,rfl,by show _<=(w.heap.push _).size;simp,fun k a=>by show(w.heap.push _)[k]? =_;rw[Array.getElem?_push_lt a,Zz a]⟩
def sm(l:Bs)(g:Nat)(c:UInt8):Pu prog 465 [i8 g,.int .u8 (c.toNat:Nat)] (fun h=>h g=some (Hg l)) (.bool (l.contains c)):=V3 fun w hg=>by
 refine Tryz.asciiSet_contains g c (l.contains c) w ?_;have a:w.heap[g]? =some (Hg l):=hg;have b:=Lib.setCells_at l c;simp[World.cell?,l_.cell?,a,b]
abbrev UI(c:UInt8):Value:=.int .u8 (c.toNat:Nat)
def DN(cs s:Bs)(g:Nat)(hs:s.length<=1000000000):Ct prog 455 [B s,i8 g] (fun h=>h g=some (Hg cs)) [] (fun v A=>(∃t,v=B t/\t.length<=s.length)/\A=[]):=by
 refine b_ 16 func455 rfl rfl rfl ?_;intro F hg;refine I6 1 ?_;refine n8 (ι:=Bs) (fun t=>t.length<=s.length) (fun t=>[(0,B t)]) (fun _=>[]) ?_ ?_
 ·refine o0 ?_;refine o8 (ι:=Bs) (fun t=>t.length<=s.length) (fun t=>[(0,B t),(1,i8 g)]) (fun _=>[]) (fun t=>t.length) s (kp _) sub i_ ?_;intro t a;refine eV ?_ ?_<;>intro h
  ·have c:0<t.length:=(by simpa using h);refine E8 ?_;refine c_ rfl (sm cs g (t.getD 0 0)) (fun h b _=>b _ _ hg) rfl ?_;refine u6 ?_
   cases cs.contains (t.getD 0 0)
   ·refine x6 ?_;exact g_ t a i_
   ·refine E8 ?_;exact l8 (List.take ((t.length:Int).toNat-Int.toNat 1) (List.drop (Int.toNat 1) t)) (by rw[kr,jz];omega) (by rw[kr,jz];simp;omega) sub i_
  ·refine x6 ?_;exact g_ t a i_
 intro t a;refine M4 ?_;exact d_ rfl rfl [] ⟨⟨t,rfl,a⟩,rfl⟩ i_
def DO(cs s:Bs)(g:Nat)(hs:s.length<=1000000000):Ct prog 456 [B s,i8 g] (fun h=>h g=some (Hg cs)) [] (fun v A=>(∃t,v=B t/\t.length<=s.length)/\A=[]):=by
 refine b_ 22 func456 rfl rfl rfl ?_;intro F hg;refine I6 1 ?_;refine n8 (ι:=Bs) (fun t=>t.length<=s.length) (fun t=>[(0,B t)]) (fun _=>[]) ?_ ?_
 ·refine o0 ?_;refine o8 (ι:=Bs) (fun t=>t.length<=s.length) (fun t=>[(0,B t),(1,i8 g)]) (fun _=>[]) (fun t=>t.length) s (kp _) sub i_ ?_;intro t a;refine eV ?_ ?_<;>intro h
  ·have c:0<t.length:=(by simpa using h);refine Y1 ?_;refine c_ rfl (sm cs g (t.getD ((t.length:Int)-1).toNat 0)) (fun h b _=>b _ _ hg) rfl ?_;refine u6 ?_
   cases cs.contains (t.getD ((t.length:Int)-1).toNat 0)
   ·refine x6 ?_;exact g_ t a i_
   ·refine Y1 ?_;exact l8 (List.take (((t.length:Int)-1).toNat-0) (List.drop 0 t)) (by rw[kr,jz];omega) (by rw[kr,jz];omega) sub i_
  ·refine x6 ?_;exact g_ t a i_
 intro t a;refine M4 ?_;exact d_ rfl rfl [] ⟨⟨t,rfl,a⟩,rfl⟩ i_
def LZ(g:Nat)(cs S:Array Value)(hc:cs.size=256)(a:S.size=256):N1 [.blk g (.cells cs 458 (0,0))] (.blk g (.cells cs 458 (0,0))) [.blk g (.cells (eQ cs 0 (Value.agg (S)).cells.toList) 458 (0,0))] [.blk g (.cells S 458 (0,0))]:=by
 have h:eQ cs 0 (Value.agg (S)).cells.toList=S:=by
  unfold eQ;simp only[Value.cells,Km,Qv,Z9,a];rw[Q7 (by simp;omega),jk]
 rw[h];exact .here
def OE{h:l_}{g:Nat}{o:Obj}{bs:zz}(a:A_ h [.blk g o] bs):h g=some o:=by
 obtain⟨c,d,e,⟨f,b⟩,_⟩:=a;exact b
def Ma(s:Bs)(hs:s.length<=1000000000):Ct prog 437 [B s,B [32,9]] (fun _=>True) [] (fun v A=>(∃t,v=B t/\t.length<=s.length)/\A=[]):=by
 obtain⟨q,d⟩:=o9 (decide (s=[]));obtain⟨S,e⟩:=o9 (Lib.setCells [32,9]);have a:=yQ [32,9] qp qp;have b:=Lib.setCells_size [32,9];have c:=Lib.setCells_one [32,9];rw[<-e] at a b c;have f:=DO [32,9];have g:=DN [32,9];unfold Hg at f g;rw[<-e] at f g;clear e;refine b_ 43 func437 rfl rfl rfl ?_;intro F _;refine u6 ?_;refine x8 [(0,B s),(1,B [32,9]),(12,.bool q)] [] ?_ ?_
 ·cases q
  all_goals (
   refine u6 ?_;refine f_ ((C9 rfl rfl).eb d) ?_;refine P1 ?_)
  all_goals exact p_ sub i_
 refine O_ ?_ ?_<;>intro h
 ·refine M4 ?_;exact d_ rfl rfl [] ⟨⟨s,rfl,kp _⟩,rfl⟩ i_
 refine wk 9 ?_;refine c_ rfl a qw rfl ?_;refine E8 ?_;refine i7 (cs:=Array.replicate 256 (.bool false)) (hz:=⟨fun w=>by kernel_rfl⟩) rfl ?_;intro i;refine L1 (te:=458) (n:=256) (cs:=Array.replicate 256 (.bool false)) (H':=[.blk i (.cells S 458 (0,0))]) rfl rfl ?u b (fun q d=>(Array.all_eq_true'.1 c) q (Array.mem_toList_iff.1 d)) x7 ?_;(case u=>exact LZ _ _ _ x7 b);refine E8 ?_;refine e_ (f s i hs) ?pre ?_;(case pre=>exact fun h l ⟨m,j⟩=>OE j);rintro v A ⟨⟨t,rfl,o⟩,rfl⟩;refine e_ (g t i qb) ?pre2 ?_;(case pre2=>exact fun h l ⟨m,j⟩=>OE j);rintro v A ⟨⟨t2,rfl,k⟩,rfl⟩;refine D0 ?_;exact d_ rfl rfl [] ⟨⟨t2,rfl,j9 k o⟩,rfl⟩ (fun w p=>p.dropAll)
abbrev TxQ(n:Nat)(v:Value)(A:List As):Prop:=(∃t:Bs,v=B t/\t.length<=n)/\A=[]
abbrev UJ(v:Value)(A:List As):Prop:=(∃q:Bool,v=.bool q)/\A=[]
def DP{p s:Bs}(h:p.isPrefixOf s=true):p.length<=s.length:=(List.isPrefixOf_iff_prefix.1 h).length_le
def yR(s:Bs)(f c:Nat)(hs:s.length<=1000000000):Ct prog 364 [B s,.int .u64 (f:Nat),.int .u64 (c:Nat)] (fun _=>True) [] (TxQ s.length):=by
 refine b_ 21 func364 rfl rfl rfl ?_;intro F _;refine wk 9 ?_;have a:(List.take ((s.length:Int).toNat-(min (f:Int) (s.length:Int)).toNat) (List.drop (min (f:Int) (s.length:Int)).toNat s)).length<=s.length:=by rw[kr,jz];omega
 revert a
 generalize List.take ((s.length:Int).toNat-(min (f:Int) (s.length:Int)).toNat) (List.drop (min (f:Int) (s.length:Int)).toNat s)=t;intro a;refine Ot ?_;exact d_ rfl rfl [] ⟨⟨_,rfl,by rw[kr];simp only[jz];omega⟩,rfl⟩ i_
def so(m:Bs)(hs:m.length<=1000000000):Ct prog 406 [B m] Gl [] (fun v A=>(∃h t:Bs,v=.tuple #[B h,B t]/\h.length<=m.length/\t.length<=m.length)/\A=[]):=by
 refine b_ 22 func406 rfl rfl rfl ?_;intro F hg;refine E8 ?_;refine c_ rfl (au m [13,10]) qw rfl ?_;refine O_ ?_ ?_<;>intro h
 ·have c:=DP h;have d:2<=m.length:=c;refine x6 ?_;refine gz ([],[],[]) 4 rfl ?_;refine wd [0,1,2,3] ?_;refine B4 ?_;exact w8 rfl rfl rfl [] ⟨⟨_,_,rfl,d,by rw[kr,jz];omega⟩,rfl⟩ i_
 refine x6 ?_;obtain⟨i,b⟩:=o9 (Lib.index m [13,10,13,10]);have a:=Lib.index_room m [13,10,13,10];rw[<-b] at a;refine u6 ?_;refine c_ rfl (Hf m [13,10,13,10] qb) (fun h e _=>hg.le e) rfl ?_;rw[<-b];refine eV ?_ ?_<;>intro h
 ·have f:0<=i:=zy h;have g:i+4<=m.length:=a f;refine x6 ?_;refine gz ([],[],[]) 10 rfl ?_;refine wd [0,1,2,3,4,5,6,7,8,9] ?_;refine B4 ?_;exact w8 rfl rfl rfl [] ⟨⟨_,_,rfl,by rw[kr,jz];omega,by rw[kr,jz];omega⟩,rfl⟩ i_
 refine cn ?_;exact w8 rfl rfl rfl [] ⟨⟨m,[],rfl,kp _,zp _⟩,rfl⟩ i_
def py(s p:Bs)(hs:s.length<=1000000000)(hp:p.length<=2000000000):Ct prog 403 [B s,B p] Gl [] UJ:=by
 have b:(R3 s).length<=1000000000:=by unfold R3;rw[kg];exact hs
 refine b_ 10 func403 rfl rfl rfl ?_;intro F hg;refine A5 ?_;refine c_ rfl (J_ s qb) qw rfl ?_;refine u6 ?_;refine c_ rfl (J_ p qb) qw rfl ?_;refine c_ rfl (wA (R3 s) (R3 p) qb) (fun h a _=>hg.le a) rfl ?_;refine D0 ?_;exact d_ rfl rfl [] ⟨⟨_,rfl⟩,rfl⟩ i_
def pz(m:Bs)(k:Nat)(hs:m.length<=1000000000):Ct prog 363 [B m,.int .i64 (k:Nat)] Gl [] (TxQ m.length):=by
 obtain⟨b,e⟩:=o9 (decide (k=10));obtain⟨c,f⟩:=o9 (decide (k=11));obtain⟨d,g⟩:=o9 (decide (k=12));refine b_ 22 func363 rfl rfl rfl ?_;intro F hg;refine A5 ?_;refine e_ (C:=[]) (so m hs) (fun h a _=>hg.le a) ?_;rintro v A ⟨⟨h,t,rfl,a,i⟩,rfl⟩;refine Y1 ?_;refine U2 ?_;refine f_ ((q_ rfl rfl).eq (v':=.bool b) (qn ((qz).trans e.symm))) ?_;refine u6 ?_
 cases b
 case true=>
  refine M4 ?_;exact d_ rfl rfl [] ⟨⟨m,rfl,kp _⟩,rfl⟩ i_
 refine D1 ?_;refine f_ ((q_ rfl rfl).eq (v':=.bool c) (qn ((qz).trans f.symm))) ?_;refine u6 ?_
 cases c
 case true=>
  refine M4 ?_;exact d_ rfl rfl [] ⟨⟨h,rfl,a⟩,rfl⟩ i_
 refine D1 ?_;refine f_ ((q_ rfl rfl).eq (v':=.bool d) (qn ((qz).trans g.symm))) ?_;refine u6 ?_
 cases d
 case true=>
  refine M4 ?_;exact d_ rfl rfl [] ⟨⟨t,rfl,i⟩,rfl⟩ i_
 refine D0 ?_;exact d_ rfl rfl [] ⟨⟨[],rfl,zp _⟩,rfl⟩ i_
def kF(b:Nat)(s:SE)(x:SL)(d:DD)(y:DL)(op:Int):Ct prog 220 [i8 b,.int .i64 op] (fun _=>True) (P3 b s x d y) (fun v A=>v=RH (aA (s,d) op) du/\A=P3 b s x d y):=by
 refine b_ 19 func220 rfl rfl rfl ?_;intro F _;refine D1 ?_;refine i7 rfl ?_;intro c;refine x6 ?_;refine D8 [6,12] [14] [F9 b s x d y] 15 ?_;refine wd [0,1,2,3,4,5,6,7,8,9,10,11,12] ?_;refine w_ 13 rfl (A2 (ps:=[(0,.tmp 5),(6,.tmp 11),(8,.tmp 17)]) (vs:=[(0,.int .i64 op),(6,B s.a6y.box),(8,.int .u64 (s.a6y.val:Nat))]) (cells:=(eN (aA (s,d) op) du).toArray) rfl i6) ?_;refine wd [14] ?_;refine B4 ?_;exact H7 rfl rfl ud rfl _ qh (fun w a=>a.drop)
def dP(b:Nat)(s:SE)(x:SL)(d:DD)(y:DL)(c:CM)(k:CL)(r:RQ)(z:QL)(a:zz)(ua:qr)(uc:Nat)(n:s.num<18446744073709551615):Ct prog 219 [i8 b,vo c k,RH r z,.slice ua a.length uc] (fun _=>True) (P3 b s x d y) (fun v A=>v=.tuple #[]/\A=P3 b (H3 (s,d) c r a).1 {x with cl:=k,ua:=ua,uc:=uc} (H3 (s,d) c r a).2 {y with ql:=z}):=by
 refine b_ 55 func219 rfl rfl rfl ?_;intro F _;obtain⟨i,f⟩:=o9 (decide (r.op=1));refine D1 ?_;refine m8 rfl rfl ?_;intro l;refine m8 rfl rfl ?_;intro j;refine x6 ?_;refine D8 [3] [8,12,16] [.blk l (.cells (lg c k).toArray 36)] 17 ?_;refine wd [0,1,2,3,4,5,6,7,8,9,10,11,12,13,14,15,16] ?_;refine A5 ?_;refine f_ ((M2 rfl rfl).eq (v':=.bool (!i)) (jh (fun x=>Value.bool (!x)) f.symm)) ?_;refine x6 ?_
 cases i
 ·have g:¬r.op=1:=zu f.symm;have e:H3 (s,d) c r a=({s with a6E:=true,cmd:=c,a6A:=a,num:=s.num+1},{d with ask:=true,req:={r with ses:=s.ses,num:=s.num+1}}):=zb g;rw[e];refine al ?_;refine f_ ((L9 rfl rfl qb).eq (v':=.int .u64 ((s.num+1:Nat):Int)) (by congr 1)) ?_;refine P1 ?_;refine D8 [4,9] [11,13] [F9 b {s with a6E:=true,cmd:=c,a6A:=a,num:=s.num+1} {x with cl:=k,ua:=ua,uc:=uc} d y] 14 ?_;refine wd [0,1,2,3,4,5,6,7,8,9,10,11,12,13] ?_;refine x6 ?_;refine D8 [2] [6,10] [.blk j (.cells (eN {r with ses:=s.ses,num:=s.num+1} z).toArray 44)] 11 ?_;refine wd [0,1,2,3,4,5,6,7,8,9,10] ?_;exact m6 rfl _ qh fun w h=>h.drop.drop
 ·have m:r.op=1:=zy f.symm;have e:H3 (s,d) c r a=({s with a6E:=true,cmd:=c,a6A:=a},{d with ask:=true,req:=r}):=zr m;rw[e];refine x6 ?_;refine D8 [2] [6,10] [.blk j (.cells (eN r z).toArray 44)] 11 ?_;refine wd [0,1,2,3,4,5,6,7,8,9,10] ?_;exact m6 rfl _ qh fun w h=>h.drop.drop
abbrev Hh(f:FuncId)(b:Nat)(s:SE)(x:SL)(d:DD)(y:DL)(c:CM)(k:CL)(q:SD):Prop:=Ct prog f [i8 b,vo c k] (fun _=>True) (P3 b s x d y) (fun v A=>v=.tuple #[]/\A=P3 b q.1 {x with cl:=k,ua:=none,uc:=0} q.2 {y with ql:=du})
def gM(b:Nat)(s:SE)(x:SL)(d:DD)(y:DL)(c:CM)(k:CL)(a:s.num<18446744073709551615):Hh 148 b s x d y c k (mj (s,d) c):=by
 refine b_ 8 func148 rfl rfl rfl ?_;intro F _;refine D1 ?_;refine m8 rfl rfl ?_;intro f;refine A5 ?_;refine f_ (A2 (ps:=[(0,.const (.int .i64 3))]) (vs:=[(0,.int .i64 3)]) (cells:=(eN bE du).toArray) rfl i6) ?_;refine e_ (dP b s x d y c k bE du [] none 0 a) qw ?_;rintro v A ⟨rfl,rfl⟩;refine x6 ?_;exact m6 rfl _ qh fun w e=>y9.left tk e
def yS(b:Nat)(s:SE)(x:SL)(d:DD)(y:DL)(c:CM)(k:CL)(a:s.num<18446744073709551615):Hh 146 b s x d y c k (H3 (s,d) c {dq with op:=4,box:=c.box} []):=by
 refine b_ 10 func146 rfl rfl rfl ?_;intro F _;refine D1 ?_;refine m8 rfl rfl ?_;intro f;refine P1 ?_;refine f_ (A2 (ps:=[(0,.const (.int .i64 4)),(6,.tmp 7)]) (vs:=[(0,.int .i64 4),(6,B c.box)]) (cells:=(eN {dq with op:=4,box:=c.box} du).toArray) rfl i6) ?_;refine e_ (dP b s x d y c k {dq with op:=4,box:=c.box} du [] none 0 a) qw ?_;rintro v A ⟨rfl,rfl⟩;refine x6 ?_;exact m6 rfl _ qh fun w e=>y9.left tk e
def yT(b:Nat)(s:SE)(x:SL)(d:DD)(y:DL)(c:CM)(k:CL)(a:s.num<18446744073709551615):Hh 147 b s x d y c k (H3 (s,d) c {dq with op:=5,box:=c.box} []):=by
 refine b_ 10 func147 rfl rfl rfl ?_;intro F _;refine D1 ?_;refine m8 rfl rfl ?_;intro f;refine P1 ?_;refine f_ (A2 (ps:=[(0,.const (.int .i64 5)),(6,.tmp 7)]) (vs:=[(0,.int .i64 5),(6,B c.box)]) (cells:=(eN {dq with op:=5,box:=c.box} du).toArray) rfl i6) ?_;refine e_ (dP b s x d y c k {dq with op:=5,box:=c.box} du [] none 0 a) qw ?_;rintro v A ⟨rfl,rfl⟩;refine x6 ?_;exact m6 rfl _ qh fun w e=>y9.left tk e
def rz(y y':DL):Prop:=y'.rl.length<=y.rl.length+2/\∀m∈y'.rl,m∈y.rl\/m.2=L0
def rz.refl{y a:DL}(h:a.rl=y.rl):rz y a:=⟨by rw[h];omega,fun m b=>.inl (h▸b)⟩
def rz.one{y b:DL}{r:RR}(h:b.rl=y.rl++[(r,L0)]):rz y b:=⟨by rw[h];simp,fun m a=>by rw[h] at a;rcases kw.1 a with a|a;exact .inl a;(rw[z7.1 a];exact .inr rfl)⟩
def rz.two{y b:DL}{r r2:RR}(h:b.rl=y.rl++[(r,L0),(r2,L0)]):rz y b:=⟨by rw[h];simp,fun m a=>by
 rw[h] at a;rcases kw.1 a with a|a;exact .inl a;rcases jv.1 a with rfl|a;exact .inr rfl;(rw[z7.1 a];exact .inr rfl)⟩
def wB(b:Nat)(s:SE)(x:SL)(d:DD)(y:DL)(c:CM)(k:CL)(q:SD)(v:Value)(A:List As):Prop:=v=.tuple #[]/\∃x' y',A=P3 b q.1 x' q.2 y'/\(x'.ra=x.ra/\x'.rc=x.rc)/\rz y y'/\∀h,iO s x d y h->eu c k h->iO q.1 x' q.2 y' h
abbrev bO(f:FuncId)(b:Nat)(s:SE)(x:SL)(d:DD)(y:DL)(c:CM)(k:CL)(q:SD):Prop:=Ct prog f [i8 b,vo c k] (fun _=>True) (P3 b s x d y) (wB b s x d y c k q)
def mD(b:Nat)(s:SE)(x:SL)(d:DD)(y:DL)(c:CM)(k:CL)(r:RQ)(hu:r.a6A=[])(hf:r.a6J=[]):wB b s x d y c k (H3 (s,d) c r []) (.tuple #[]) (P3 b (H3 (s,d) c r []).1 {x with cl:=k,ua:=none,uc:=0} (H3 (s,d) c r []).2 {y with ql:=du}):=by
 refine⟨rfl,_,_,rfl,qh,.refl rfl,fun h e hc=>?_⟩;have f:∀a b,dM {r with ses:=a,num:=b} du h:=fun a b=>⟨by show n9 h _ (S_ r.a6A);rw[hu];exact n9.nil _ _,by show n9 h _ (fV r.a6J);rw[hf];exact n9.nil _ _⟩;unfold H3;split
 ·exact⟨⟨n9.nil _ _,hc⟩,⟨e.dd.a6I,e.dd.rep,f _ _,e.dd.want⟩⟩
 ·exact⟨⟨n9.nil _ _,hc⟩,⟨e.dd.a6I,e.dd.rep,f _ _,e.dd.want⟩⟩
def cX{r:RR}(a:r.nums=[])(b:r.a6J=[])(c:r.values=[])(h:l_):fQ r L0 h:=⟨c,by rw[a];exact n9.nil _ _,by rw[b];exact n9.nil _ _,n9.nil _ _,fun _ h=>by cases h⟩
def Bv(b:Nat)(s:SE)(x:SL)(d:DD)(y:DL)(c:CM)(k:CL)(r:RR)(a:qr)(g:Nat)(i:∀h,fQ r L0 h):wB b s x d y c k (X0 (s,d) r) (.tuple #[]) (P3 b s x d (G1 y (r,L0) a g)):=by
 refine⟨rfl,x,G1 y (r,L0) a g,rfl,qh,.one rfl,fun h e hc=>⟨e.se,⟨?_,fun m f=>?_,e.dd.req,e.dd.want⟩⟩⟩
 ·show d.a6I++[r]=(y.rl++[(r,L0)]).map Prod.fst;rw[e.dd.a6I,Qx];rfl
 ·rcases kw.1 (show m∈y.rl++[(r,L0)] from f) with f|f
  ·exact e.dd.rep m f
  ·rw[z7.1 f];exact i h
def Mb(b:Nat)(s:SE)(x:SL)(d:DD)(y:DL)(c:CM)(k:CL)(h:s.num<18446744073709551615)(hl:y.rl.length<=1000000):bO 139 b s x d y c k (if s.a6z=0 then X0 (s,d) (ep c.tag) else mj (s,d) c):=by
 refine b_ 17 func139 rfl rfl rfl ?_;intro F _;obtain⟨g,e⟩:=o9 (decide (s.a6z=0));refine D1 ?_;refine m8 rfl rfl ?_;intro j;refine al ?_;refine f_ ((q_ rfl rfl).eq (v':=.bool g) (qn ((qz).trans e.symm))) ?_;refine x6 ?_
 cases g
 ·rw[zb (zu e.symm)];refine A5 ?_;refine e_ (gM b s x d y c k h) qw ?_;rintro v A ⟨rfl,rfl⟩;refine x6 ?_;exact m6 rfl _ (mD b s x d y c k bE rfl rfl) fun w f=>y9.left tk f
 ·rw[zr (zy e.symm)];refine E8 ?_;refine e_ (nF b s x d y c.tag qb) qw ?_;rintro v A ⟨rfl,a,i,rfl⟩;refine oK ?_;exact m6 rfl _ (Bv b s x d y c k (ep c.tag) a i (cX rfl rfl rfl)) fun w f=>y9.left tk f
def Hi(b:Nat)(s:SE)(x:SL)(d:DD)(y:DL)(c:CM)(k:CL)(h:s.num<18446744073709551615)(hl:y.rl.length<=1000000):bO 144 b s x d y c k (if c.pass=[104,111,114,110] then H3 (s,d) c {dq with op:=1} [] else X0 (s,d) (nB c.tag [65,85,84,72,69,78,84,73,67,65,84,73,79,78,70,65,73,76,69,68] [119,114,111,110,103,32,112,97,115,115,119,111,114,100])):=by
 refine b_ 15 func144 rfl rfl rfl ?_;intro F _;obtain⟨g,e⟩:=o9 (decide (c.pass=[104,111,114,110]));refine D1 ?_;refine m8 rfl rfl ?_;intro j;refine A5 ?_;refine f_ ((F7 rfl rfl).eq (v':=.bool (!g)) (jh (fun b=>Value.bool (!b)) e.symm)) ?_;refine x6 ?_
 cases g
 ·rw[zb (zu e.symm)];refine E8 ?_;refine e_ (GB b s x d y c.tag [65,85,84,72,69,78,84,73,67,65,84,73,79,78,70,65,73,76,69,68] [119,114,111,110,103,32,112,97,115,115,119,111,114,100] qb) qw ?_;rintro v A ⟨rfl,a,i,rfl⟩;refine oK ?_;exact m6 rfl _ (Bv b s x d y c k (nB c.tag [65,85,84,72,69,78,84,73,67,65,84,73,79,78,70,65,73,76,69,68] [119,114,111,110,103,32,112,97,115,115,119,111,114,100]) a i (cX rfl rfl rfl)) fun w f=>y9.left tk f
 ·rw[zr (zy e.symm)];refine A5 ?_;refine f_ (A2 (ps:=[(0,.const (.int .i64 1))]) (vs:=[(0,.int .i64 1)]) (cells:=(eN {dq with op:=1} du).toArray) rfl i6) ?_;refine e_ (dP b s x d y c k {dq with op:=1} du [] none 0 h) qw ?_;rintro v A ⟨rfl,rfl⟩;refine x6 ?_;exact m6 rfl _ (mD b s x d y c k {dq with op:=1} rfl rfl) fun w f=>y9.left tk f
abbrev dQ:Bs:=[108,111,103,103,105,110,103,32,111,117,116]
def Mc(b:Nat)(s:SE)(x:SL)(d:DD)(y:DL)(c:CM)(k:CL)(tag:Bs)(a:qr)(g:Nat):wB b s x d y c k (oU (s,d) tag) (.tuple #[]) (P3 b {s with a6z:=3} x {d with close:=true} {y with da:=a,dc:=g,rl:=y.rl++[(L2 dQ,L0),(ep tag,L0)]}):=by
 refine⟨rfl,x,{y with da:=a,dc:=g,rl:=y.rl++[(L2 dQ,L0),(ep tag,L0)]},rfl,qh,.two rfl,fun h f hc=>⟨⟨f.se.a6A,f.se.cmd⟩,⟨?_,fun m e=>?_,f.dd.req,f.dd.want⟩⟩⟩
 ·show(d.a6I++[L2 dQ])++[ep tag]=(y.rl++[(L2 dQ,L0),(ep tag,L0)]).map Prod.fst;rw[f.dd.a6I,Qx,ky];rfl
 ·rcases kw.1 (show m∈y.rl++[(L2 dQ,L0),(ep tag,L0)] from e) with e|e
  ·exact f.dd.rep m e
  ·rcases jv.1 e with rfl|e
   ·exact cX rfl rfl rfl h
   ·rw[z7.1 e];exact cX rfl rfl rfl h
def DQ(b:Nat)(s:SE)(x:SL)(d:DD)(y:DL)(c:CM)(k:CL)(h:s.num<18446744073709551615)(hl:y.rl.length<=1000000):bO 140 b s x d y c k (if s.a6z=0 then oU (s,d) c.tag else H3 (s,d) c {dq with op:=2} []):=by
 refine b_ 18 func140 rfl rfl rfl ?_;intro F _;obtain⟨g,e⟩:=o9 (decide (s.a6z=0));refine D1 ?_;refine m8 rfl rfl ?_;intro j;refine al ?_;refine f_ ((q_ rfl rfl).eq (v':=.bool g) (qn ((qz).trans e.symm))) ?_;refine x6 ?_
 cases g
 ·rw[zb (zu e.symm)];refine A5 ?_;refine f_ (A2 (ps:=[(0,.const (.int .i64 2))]) (vs:=[(0,.int .i64 2)]) (cells:=(eN {dq with op:=2} du).toArray) rfl i6) ?_;refine e_ (dP b s x d y c k {dq with op:=2} du [] none 0 h) qw ?_;rintro v A ⟨rfl,rfl⟩;refine x6 ?_;exact m6 rfl _ (mD b s x d y c k {dq with op:=2} rfl rfl) fun w f=>y9.left tk f
 ·rw[zr (zy e.symm)];refine E8 ?_;refine e_ (oX b s x d y c.tag qb) qw ?_;rintro v A ⟨rfl,a,i,rfl⟩;refine oK ?_;exact m6 rfl _ (Mc b s x d y c k c.tag a i) fun w f=>y9.left tk f
def Hj(b:Nat)(s g:SE)(x:SL)(d:DD)(y:DL)(c:CM)(k:CL)(r r2:RR)(a a2:qr)(i c2:Nat)(hs:∀h,P4 s x h->P4 g x h)(l:∀h,fQ r L0 h)(j:∀h,fQ r2 L0 h):wB b s x d y c k (X0 (X0 (g,d) r) r2) (.tuple #[]) (P3 b g x d (G1 (G1 y (r,L0) a i) (r2,L0) a2 c2)):=by
 obtain⟨_,n,o,p,_,q,k1⟩:=Bv b g x d y c k r a i l;refine⟨rfl,x,G1 (G1 y (r,L0) a i) (r2,L0) a2 c2,rfl,qh,.two (r:=r) (r2:=r2) (by simp[G1]),fun h f hc=>⟨hs h f.se,⟨?_,fun m e=>?_,f.dd.req,f.dd.want⟩⟩⟩
 ·show(d.a6I++[r])++[r2]=((y.rl++[(r,L0)])++[(r2,L0)]).map Prod.fst;rw[f.dd.a6I];simp
 ·rcases kw.1 (show m∈(y.rl++[(r,L0)])++[(r2,L0)] from e) with e|e
  ·rcases kw.1 e with e|e
   ·exact f.dd.rep m e
   ·rw[z7.1 e];exact l h
  ·rw[z7.1 e];exact j h
def rA(b:Nat)(s:SE)(x:SL)(d:DD)(y:DL)(c:CM)(k:CL)(hl:y.rl.length<=1000000):bO 138 b s x d y c k (X0 (X0 (s,d) {R0 with kind:=6}) (ep c.tag)):=by
 refine b_ 11 func138 rfl rfl rfl ?_;intro F _;refine D1 ?_;refine m8 rfl rfl ?_;intro j;refine u6 ?_;refine f_ (A2 (ps:=[(0,.const (.int .i64 6))]) (vs:=[(0,.int .i64 6)]) (cells:=(tM {R0 with kind:=6} L0).toArray) rfl i6) ?_;refine e_ (X2 b s x d y {R0 with kind:=6} L0 qb) qw ?_;rintro v A ⟨rfl,a,e,rfl⟩;refine E8 ?_;refine e_ (nF b s x d (G1 y ({R0 with kind:=6},L0) a e) c.tag (by simp;omega)) qw ?_;rintro v A ⟨rfl,f,g,rfl⟩;refine x6 ?_;exact m6 rfl _ (Hj b s s x d y c k {R0 with kind:=6} (ep c.tag) a f e g (fun _ h=>h) (cX rfl rfl rfl) (cX rfl rfl rfl)) fun w i=>y9.left tk i
def DR(b:Nat)(s:SE)(x:SL)(d:DD)(y:DL)(c:CM)(k:CL)(hl:y.rl.length<=1000000):bO 143 b s x d y c k (X0 (X0 ({s with cond:=true},d) {R0 with kind:=7}) (ep c.tag)):=by
 refine b_ 15 func143 rfl rfl rfl ?_;intro F _;refine D1 ?_;refine m8 rfl rfl ?_;intro j;refine Y1 ?_;refine f_ (A2 (ps:=[(0,.const (.int .i64 7))]) (vs:=[(0,.int .i64 7)]) (cells:=(tM {R0 with kind:=7} L0).toArray) rfl i6) ?_;refine e_ (X2 b {s with cond:=true} x d y {R0 with kind:=7} L0 qb) qw ?_;rintro v A ⟨rfl,a,e,rfl⟩;refine E8 ?_;refine e_ (nF b {s with cond:=true} x d (G1 y ({R0 with kind:=7},L0) a e) c.tag (by simp;omega)) qw ?_;rintro v A ⟨rfl,f,g,rfl⟩;refine x6 ?_;exact m6 rfl _ (Hj b s {s with cond:=true} x d y c k {R0 with kind:=7} (ep c.tag) a f e g (fun _ h=>⟨h.a6A,h.cmd⟩) (cX rfl rfl rfl) (cX rfl rfl rfl)) fun w i=>y9.left tk i
def wB.of{b:Nat}{s a:SE}{x:SL}{d:DD}{y:DL}{c:CM}{k:CL}{q:SD}{v:Value}{A:List As}(h:wB b a x d y c k q v A)(hs:∀h,P4 s x h->P4 a x h):wB b s x d y c k q v A:=by
 obtain⟨e,g,i,j,l,m,k1⟩:=h;exact⟨e,g,i,j,l,m,fun h f hc=>k1 h ⟨hs h f.se,f.dd⟩ hc⟩
def pA(b:Nat)(s:SE)(x:SL)(d:DD)(y:DL)(c:CM)(k:CL)(p:s.num<18446744073709551615):bO 145 b s x d y c k (mj ({s with cond:=s.cond||c.cond},d) c):=by
 obtain⟨a,e,f,g,m,cond,i,j,l⟩:=s;refine b_ 20 func145 rfl rfl rfl ?_;intro F _;refine D1 ?_;refine m8 rfl rfl ?_;intro o;refine x6 ?_;refine x8 [(0,i8 b),(3,i8 o)] [F9 b ⟨a,e,f,g,m,cond||c.cond,i,j,l⟩ x d y,x4 y.da y.rl y.dc,.blk o (.cells (lg c k).toArray 36)] ?_ ?_
 ·cases cond
  all_goals (
   refine wk 14 ?_)
  all_goals exact p_ sub (fun w n=>(tk (C:=[.blk b _,x4 _ _ _])).hp n)
 refine A5 ?_;refine e_ (gM b ⟨a,e,f,g,m,cond||c.cond,i,j,l⟩ x d y c k p) qw ?_;rintro v A ⟨rfl,rfl⟩;refine x6 ?_;exact m6 rfl _ ((mD b ⟨a,e,f,g,m,cond||c.cond,i,j,l⟩ x d y c k bE rfl rfl).of fun _ h=>⟨h.a6A,h.cmd⟩) fun w n=>y9.left tk n
abbrev Fs(tag:Bs):RR:=nB tag [82,69,65,68,45,79,78,76,89] [105,116,32,109,97,121,32,110,111,116,32,98,101]
def sr(b:Nat)(s:SE)(x:SL)(d:DD)(y:DL)(c:CM)(k:CL)(hl:y.rl.length<=1000000):Ct prog 221 [i8 b,vo c k] (fun _=>True) (P3 b s x d y) (fun v A=>v=.bool s.ro/\(s.ro=true/\(∃a f,A=P3 b s x d (G1 y (Fs c.tag,L0) a f))\/s.ro=false/\A=P3 b s x d y)):=by
 obtain⟨g,i,j,l,q,e,m,n,o⟩:=s;refine b_ 19 func221 rfl rfl rfl ?_;intro F _;refine D1 ?_;refine m8 rfl rfl ?_;intro r;refine Y1 ?_
 cases q
 ·refine p7 rfl qx (fun h=>?_);refine Oq ?_;exact d_ rfl rfl _ ⟨rfl,.inr qh⟩ (fun w p=>y9.left tk p)
 ·refine p7 rfl (fun h=>?_) qx;refine E8 ?_;refine e_ (GB b ⟨g,i,j,l,true,e,m,n,o⟩ x d y c.tag [82,69,65,68,45,79,78,76,89] [105,116,32,109,97,121,32,110,111,116,32,98,101] qb) qw ?_;rintro v A ⟨rfl,a,f,rfl⟩;refine Oq ?_;exact d_ rfl rfl _ ⟨rfl,.inl ⟨rfl,a,f,rfl⟩⟩ (fun w p=>y9.left tk p)
def wC(b:Nat)(s:SE)(x:SL)(d:DD)(y:DL)(c:CM)(k:CL)(o:s.num<18446744073709551615)(hl:y.rl.length<=1000000):bO 142 b s x d y c k (if s.ro=true then X0 (s,d) (Fs c.tag) else H3 (s,d) c (aA (s,d) 8) []):=by
 refine b_ 13 func142 rfl rfl rfl ?_;intro F _;refine D1 ?_;refine m8 rfl rfl ?_;intro l;refine x6 ?_;refine n8 (ι:=DL) (fun e=>s.ro=true/\(∃a i,e=G1 y (Fs c.tag,L0) a i)\/s.ro=false/\e=y) (fun _=>[(0,i8 b),(3,i8 l),(7,.bool (!s.ro))]) (fun e=>[F9 b s x d e,x4 e.da e.rl e.dc,.blk l (.cells (lg c k).toArray 36)]) ?_ ?_
 ·refine A5 ?_;refine e_ (sr b s x d y c k hl) qw ?_;rintro v A ⟨rfl,p⟩;refine u6 ?_;rcases p with⟨m,a,i,rfl⟩|⟨m,rfl⟩
  ·exact g_ (G1 y (Fs c.tag,L0) a i) (.inl ⟨m,a,i,rfl⟩) i_
  ·exact g_ y (.inr ⟨m,rfl⟩) i_
 rintro e j;refine O_ ?_ ?_<;>intro h
 ·have f:s.ro=false:=by simpa using h
  obtain rfl:e=y:=by rcases j with⟨g,_⟩|⟨_,g⟩;(rw[f] at g;cases g);exact g
  rw[zb (by rw[f];simp)];refine x6 ?_;refine D8 [1] [3,4] [.blk l (.cells (lg c k).toArray 36)] 5 ?_;refine wd [0,1,2] ?_;refine h_ 3 rfl i6 ?_;refine e_ (kF b s x d e 8) qw ?_;rintro v A ⟨rfl,rfl⟩;refine V2 ?_;refine h_ 4 rfl i6 ?_;refine e_ (dP b s x d e c k (aA (s,d) 8) du [] none 0 o) qw ?_;rintro v A ⟨rfl,rfl⟩;refine D7 [] ?_;exact m6 rfl _ (mD b s x d e c k (aA (s,d) 8) rfl rfl) fun w n=>y9.left tk n
 ·have f:s.ro=true:=by simpa using h
  obtain⟨a,i,rfl⟩:∃a i,e=G1 y (Fs c.tag,L0) a i:=by rcases j with⟨_,g⟩|⟨g,_⟩;exact g;(rw[f] at g;cases g)
  rw[zr f];refine x6 ?_;exact m6 rfl _ (Bv b s x d y c k (Fs c.tag) a i (cX rfl rfl rfl)) fun w n=>y9.left tk n
def DS(b:Nat)(s:SE)(x:SL)(d:DD)(y:DL)(c:CM)(k:CL)(e:s.num<18446744073709551615):bO 141 b s x d y c k (if s.ro=true then mj (s,d) c else H3 (s,d) c (aA (s,d) 8) []):=by
 refine b_ 17 func141 rfl rfl rfl ?_;intro F _;refine D1 ?_;refine m8 rfl rfl ?_;intro f;refine KG ?_ ?_<;>intro h
 ·rw[zr h];refine A5 ?_;refine e_ (gM b s x d y c k e) qw ?_;rintro v A ⟨rfl,rfl⟩;refine oK ?_;exact m6 rfl _ (mD b s x d y c k bE rfl rfl) fun w a=>y9.left tk a
 ·rw[zb (by rw[h];simp)];refine x6 ?_;refine D8 [1] [3,4] [.blk f (.cells (lg c k).toArray 36)] 5 ?_;refine wd [0,1,2] ?_;refine h_ 3 rfl i6 ?_;refine e_ (kF b s x d y 8) qw ?_;rintro v A ⟨rfl,rfl⟩;refine V2 ?_;refine h_ 4 rfl i6 ?_;refine e_ (dP b s x d y c k (aA (s,d) 8) du [] none 0 e) qw ?_;rintro v A ⟨rfl,rfl⟩;refine D7 [] ?_;exact m6 rfl _ (mD b s x d y c k (aA (s,d) 8) rfl rfl) fun w a=>y9.left tk a
structure yd{α:Type}(l:List α)(f:α->α->Int):Prop where
 asym:∀x∈l,∀y∈l,f x y<0->¬f y x<0
 ntr:∀x∈l,∀y∈l,∀z∈l,¬f x y<0->¬f y z<0->¬f x z<0
def gc{α:Type}(f:α->α->Int)(l:List α):Prop:=l.Pairwise fun x y=>¬f y x<0
def RJ{α:Type}(f:α->α->Int)(m:List α)(i j:Nat):Prop:=∀p q (hp:p<m.length) (hq:q<m.length),p<q->q<=i->q≠j->¬f m[q] m[p]<0
def Md{α:Type}(m:List α)(j:Nat)(h:j<m.length):List α:=(m.set j (m[j-1]'(by omega))).set (j-1) m[j]
def uu{α:Type}(m:List α)(j:Nat)(h:j<m.length):(Md m j h).length=m.length:=by simp[Md]
def Bw{α:Type}(m:List α)(j:Nat)(h:j<m.length)(a:0<j)(p:Nat)(hp:p<m.length):(Md m j h)[p]'(by rw[uu];exact hp)=if p=j then m[j-1] else if p=j-1 then m[j] else m[p]:=by
 unfold Md;rw[List.getElem_set,List.getElem_set];by_cases h1:j-1=p
 ·subst h1;rw[zr rfl,zb qb,zr rfl]
 ·rw[zb h1];by_cases h2:j=p
  ·subst h2;simp
  ·rw[zb h2,zb (fun e=>h2 e.symm),zb (fun e=>h1 e.symm)]
def wD{α:Type}(m:List α)(j:Nat)(h:j<m.length)(a:0<j):(Md m j h).Perm m:=by
 unfold Md;exact List.set_set_perm h qb
def wE{α:Type}{f:α->α->Int}{m:List α}{i j:Nat}(hc:yd m f)(l:0<j)(b:j<m.length)(n:j<=i)(c:RJ f m i j)(hl:f m[j] m[j-1]<0):RJ f (Md m j b) i (j-1):=fun p q e g h a k=>by
 have hp:p<m.length:=by rwa [uu] at e
 have d:q<m.length:=by rwa [uu] at g
 rw[Bw m j b l p hp,Bw m j b l q d];rw[zb k];by_cases h1:q=j
 ·subst h1;rw[zr rfl,zb qb];by_cases h2:p=q-1
  ·subst h2;rw[zr rfl];exact hc.asym _ (zm _) _ (zm _) hl
  ·rw[zb h2];exact c p (q-1) hp qb qb qb qb
 ·rw[zb h1];by_cases h2:p=j
  ·rw[zr h2];exact c (j-1) q qb d qb a h1
  ·rw[zb h2];by_cases h3:p=j-1
   ·rw[zr h3];exact c j q b d qb a h1
   ·rw[zb h3];exact c p q hp d h a h1
def nH{α:Type}{f:α->α->Int}{m:List α}{i j:Nat}(hc:yd m f)(h:j<m.length)(d:j<=i)(e:i<m.length)(b:RJ f m i j)(hl:j=0\/¬f m[j] (m[j-1]'(by omega))<0):gc f (m.take (i+1)):=by
 unfold gc;rw[Kk];intro p q hp g a;rw[kr] at hp g;rw[Jj,Jj];by_cases h1:q=j
 ·subst h1;have c:=hl.resolve_left qb;by_cases h3:p=q-1
  ·subst h3;exact c
  ·exact hc.ntr _ (zm _) _ (zm _) _ (zm _) c (b p (q-1) qb qb qb qb qb)
 ·exact b p q qb qb a qb h1
def su{α:Type}{f:α->α->Int}{m:List α}{i:Nat}(b:i<m.length)(hs:gc f (m.take i)):RJ f m i i:=fun p q hp e a c d=>by
 unfold gc at hs;rw[Kk] at hs;have:=hs p q (by rw[kr];omega) (by rw[kr];omega) a
 rwa [Jj,Jj] at this
def yd.perm{α:Type}{l m:List α}{f:α->α->Int}(h:yd l f)(hp:m.Perm l):yd m f:=⟨fun x a y b=>h.asym x (hp.subset a) y (hp.subset b),fun x a y b z hz=>h.ntr x (hp.subset a) y (hp.subset b) z (hp.subset hz)⟩
def DT(l:List BM)(a:qr)(c:Nat)(f:FuncId)[HF prog f](r:BM->BM->Int)(hc:yd l r)(O:∀x∈l,∀y∈l,Pu prog f [.agg (bR x).toArray,.agg (bR y).toArray] (fun _=>True) (.int .i64 (r x y)))(hl:l.length<=1000000000):Ct prog 252 [.slice a l.length c,.int .i64 0,.int .i64 (l.length:Nat),.func (.func f) #[] #[]] (fun _=>True) [.own (.slice a l.length c) 100 5 (l.flatMap bR)] (fun v A=>v=.tuple #[]/\∃m:List BM,m.Perm l/\gc r m/\A=[.own (.slice a l.length c) 100 5 (m.flatMap bR)]):=by
 refine b_ 53 func252 rfl rfl rfl ?_;intro F _;refine B7 (a:=a) (n:=l.length) (c:=c) (sz:=5) (xs:=l.flatMap bR) (te:=100) ud fun _ Q d=>?_;refine E8 ?_;refine o8 (ι:=Nat×List BM) (fun i=>1<=i.1/\(i.1<=l.length\/l.length=0)/\i.2.Perm l/\gc r (i.2.take i.1)) (fun i=>[(0,.slice a l.length c),(1,.int .i64 0),(2,r7 l.length),(3,.func (.func f) #[] #[]),(8,r7 i.1)]) (fun i=>[.own (.slice a l.length c) 100 5 (i.2.flatMap bR)]) (fun i=>l.length-i.1) (1,l) ⟨kp _,by simp only;omega,.refl _,?_⟩ sub i_ ?_
 ·cases l with
  |nil=>exact .nil
  |cons x t=>exact K7 _ _
 rintro⟨i,m⟩ ⟨S,T,g,o⟩;simp only at S T g o;have U:m.length=l.length:=g.length_eq;refine eV ?_ ?_<;>intro h
 ·have z:i<l.length:=by have:=zy h;omega
  have d:=d qb;refine A5 ?_;refine P7 (fun j (k:List BM) (_:Unit)=>j<=i/\k.Perm l/\RJ r k i j) (fun j k _=>[(0,.slice a l.length c),(1,.int .i64 0),(2,r7 l.length),(3,.func (.func f) #[] #[]),(8,r7 i),(9,r7 j)]) (fun j k _=>[.own (.slice a l.length c) 100 5 (k.flatMap bR)]) (fun j k _=>j) i m () ⟨kp _,g,su qb o⟩ sub i_ ?_;rintro j k _ ⟨D,D3,J⟩;have V:k.length=l.length:=D3.length_eq;by_cases hj0:j=0
  ·subst hj0;refine x6 ?_;refine D8 [8,13] [] [.own (.slice a l.length c) 100 5 (k.flatMap bR)] 17 ?_;refine wd [0,1] ?_;refine w_ 2 rfl ((E9 rfl rfl).eq (v':=.bool false) rfl) ?_;refine wd [3,4,5,6,7,8,9,10,11,12,13] ?_;refine h_ 14 rfl i6 ?_;(first|refine u_ ?_|(refine v_ ?_;fail));refine D7 [15,16] ?_;refine E8 ?_;have e:gc r (k.take (i+1)):=nH (i:=i) (j:=0) (hc.perm D3) qb qb qb J (.inl rfl);refine l8 (i:=(i,m)) (i+1,k) ⟨by simp only;omega,by simp only;omega,D3,e⟩ qg sub i_
  have b:j<k.length:=by omega
  have p:j-1<k.length:=by omega
  obtain⟨q,M⟩:=o9 (decide (r k[j] k[j-1]<0));have u:=hc.perm D3;refine x6 ?_;refine D8 [8,13] [] [.own (.slice a l.length c) 100 5 (k.flatMap bR)] 17 ?_;refine wd [0,1] ?_;refine w_ 2 rfl ((E9 rfl rfl).eq (v':=.bool true) (qn qk)) ?_;refine wd [3,4,5,6,7] ?_;(first|refine s_ 8 ?_|refine t_ 8 ?_|refine B8 8 rfl R6 (p9 rfl (fun w s=>bK (s.ownN (t:=100) ud).2.2.1 o_ qp b x7) (o_ _)) G3 rfl rfl rfl rfl rfl rfl i6 ?_);refine wd [9,10] ?_;(first|refine s_ 11 ?_|refine t_ 11 ?_|refine G4 11 rfl ((E7 rfl rfl qb).eq (v':=.int .i64 ((j-1:Nat):Int)) (by congr 1;omega)) rfl rfl rfl rfl rfl rfl i6 ?_);refine wd [12] ?_;(first|refine s_ 13 ?_|refine t_ 13 ?_|refine B8 13 rfl R6 (p9 rfl (fun w s=>bK (s.ownN (t:=100) ud).2.2.1 o_ qp p x7) (o_ _)) G3 rfl rfl rfl rfl rfl rfl i6 ?_);refine h_ 14 rfl i6 ?_;(first|refine u_ ?_|(refine v_ ?_;refine A4 (ps:=[]) _ rfl rfl rfl (O _ (D3.subset (zm b)) _ (D3.subset (zm p))) i_ qw rfl ?_;rintro v A ⟨rfl,rfl⟩));refine rR ?_;(first|refine s_ 15 ?_|refine t_ 15 ?_|refine G4 15 rfl ((F8 rfl rfl).eq (v':=.bool q) (qn M.symm)) rfl rfl rfl rfl rfl rfl i6 ?_);refine wd [16] ?_
  cases q
  ·refine E8 ?_;have e:gc r (k.take (i+1)):=nH (i:=i) (j:=j) u b qb qb J (.inr (zu M.symm));refine l8 (i:=(i,m)) (i+1,k) ⟨by simp only;omega,by simp only;omega,D3,e⟩ qg sub i_
  ·refine x6 ?_;refine D8 [9,13] [15,17] [.own (.slice a l.length c) 100 5 (k.flatMap bR)] 18 ?_;refine wd [0,1,2,3] ?_;refine w_ 4 rfl ((E7 rfl rfl qb).eq (v':=.int .i64 ((j-1:Nat):Int)) (by congr 1;omega)) ?_;refine wd [5,6] ?_;refine w_ 7 rfl ((E7 rfl rfl qb).eq (v':=.int .i64 ((j-1:Nat):Int)) (by congr 1;omega)) ?_;refine wd [8] ?_;refine o7 9 rfl R6 (p9 rfl (fun w s=>bK (s.ownN (t:=100) ud).2.2.1 o_ qp p x7) (o_ _)) G3 rfl rfl rfl i6 ?_;refine wd [10,11,12] ?_;refine o7 13 rfl R6 (p9 rfl (fun w s=>bK (s.ownN (t:=100) ud).2.2.1 o_ qp b x7) (o_ _)) G3 rfl rfl rfl i6 ?_;refine wd [14] ?_;refine h_ 15 rfl i6 ?_;refine A6 (C:=bR) k[j-1] o_ b (j:=0) rfl ?_;refine D7 [16] ?_;refine h_ 17 rfl i6 ?_;refine A6 (C:=bR) k[j] o_ (l:=k.set j k[j-1]) (i:=j-1) (by simpa using p) (j:=0) rfl ?_;refine D7 [] ?_;refine u6 ?_;refine f_ ((E7 rfl rfl qb).eq (v':=.int .i64 ((j-1:Nat):Int)) (by congr 1;omega)) ?_;refine u6 ?_;exact l8 (i:=(j,k,())) (j-1,Md k j b,()) ⟨by simp only;omega,(wD k j b qb).trans D3,wE u qb b D J (zy M.symm)⟩ qg sub i_
 ·refine x6 ?_;have z:l.length<=i:=by have:=zu h;omega
  rw[jm qb] at o;exact m6 rfl _ ⟨rfl,m,g,o,rfl⟩ i_
def yU(l:List HO)(a:qr)(c:Nat)(f:FuncId)[HF prog f](r:HO->HO->Int)(hc:yd l r)(O:∀x∈l,∀y∈l,Pu prog f [.agg (eO x).toArray,.agg (eO y).toArray] (fun _=>True) (.int .i64 (r x y)))(hl:l.length<=1000000000):Ct prog 323 [.slice a l.length c,.int .i64 0,.int .i64 (l.length:Nat),.func (.func f) #[] #[]] (fun _=>True) [.own (.slice a l.length c) 104 3 (l.flatMap eO)] (fun v A=>v=.tuple #[]/\∃m:List HO,m.Perm l/\gc r m/\A=[.own (.slice a l.length c) 104 3 (m.flatMap eO)]):=by
 refine b_ 53 func323 rfl rfl rfl ?_;intro F _;refine B7 (a:=a) (n:=l.length) (c:=c) (sz:=3) (xs:=l.flatMap eO) (te:=104) ud fun _ Q d=>?_;refine E8 ?_;refine o8 (ι:=Nat×List HO) (fun i=>1<=i.1/\(i.1<=l.length\/l.length=0)/\i.2.Perm l/\gc r (i.2.take i.1)) (fun i=>[(0,.slice a l.length c),(1,.int .i64 0),(2,r7 l.length),(3,.func (.func f) #[] #[]),(8,r7 i.1)]) (fun i=>[.own (.slice a l.length c) 104 3 (i.2.flatMap eO)]) (fun i=>l.length-i.1) (1,l) ⟨kp _,by simp only;omega,.refl _,?_⟩ sub i_ ?_
 ·cases l with
  |nil=>exact .nil
  |cons x t=>exact K7 _ _
 rintro⟨i,m⟩ ⟨S,T,g,o⟩;simp only at S T g o;have U:m.length=l.length:=g.length_eq;refine eV ?_ ?_<;>intro h
 ·have z:i<l.length:=by have:=zy h;omega
  have d:=d qb;refine A5 ?_;refine P7 (fun j (k:List HO) (_:Unit)=>j<=i/\k.Perm l/\RJ r k i j) (fun j k _=>[(0,.slice a l.length c),(1,.int .i64 0),(2,r7 l.length),(3,.func (.func f) #[] #[]),(8,r7 i),(9,r7 j)]) (fun j k _=>[.own (.slice a l.length c) 104 3 (k.flatMap eO)]) (fun j k _=>j) i m () ⟨kp _,g,su qb o⟩ sub i_ ?_;rintro j k _ ⟨D,D3,J⟩;have V:k.length=l.length:=D3.length_eq;by_cases hj0:j=0
  ·subst hj0;refine x6 ?_;refine D8 [8,13] [] [.own (.slice a l.length c) 104 3 (k.flatMap eO)] 17 ?_;refine wd [0,1] ?_;refine w_ 2 rfl ((E9 rfl rfl).eq (v':=.bool false) rfl) ?_;refine wd [3,4,5,6,7,8,9,10,11,12,13] ?_;refine h_ 14 rfl i6 ?_;(first|refine u_ ?_|(refine v_ ?_;fail));refine D7 [15,16] ?_;refine E8 ?_;have e:gc r (k.take (i+1)):=nH (i:=i) (j:=0) (hc.perm D3) qb qb qb J (.inl rfl);refine l8 (i:=(i,m)) (i+1,k) ⟨by simp only;omega,by simp only;omega,D3,e⟩ qg sub i_
  have b:j<k.length:=by omega
  have p:j-1<k.length:=by omega
  obtain⟨q,M⟩:=o9 (decide (r k[j] k[j-1]<0));have u:=hc.perm D3;refine x6 ?_;refine D8 [8,13] [] [.own (.slice a l.length c) 104 3 (k.flatMap eO)] 17 ?_;refine wd [0,1] ?_;refine w_ 2 rfl ((E9 rfl rfl).eq (v':=.bool true) (qn qk)) ?_;refine wd [3,4,5,6,7] ?_;(first|refine s_ 8 ?_|refine t_ 8 ?_|refine B8 8 rfl R6 (p9 rfl (fun w s=>bK (s.ownN (t:=104) ud).2.2.1 L_ qp b x7) (L_ _)) G3 rfl rfl rfl rfl rfl rfl i6 ?_);refine wd [9,10] ?_;(first|refine s_ 11 ?_|refine t_ 11 ?_|refine G4 11 rfl ((E7 rfl rfl qb).eq (v':=.int .i64 ((j-1:Nat):Int)) (by congr 1;omega)) rfl rfl rfl rfl rfl rfl i6 ?_);refine wd [12] ?_;(first|refine s_ 13 ?_|refine t_ 13 ?_|refine B8 13 rfl R6 (p9 rfl (fun w s=>bK (s.ownN (t:=104) ud).2.2.1 L_ qp p x7) (L_ _)) G3 rfl rfl rfl rfl rfl rfl i6 ?_);refine h_ 14 rfl i6 ?_;(first|refine u_ ?_|(refine v_ ?_;refine A4 (ps:=[]) _ rfl rfl rfl (O _ (D3.subset (zm b)) _ (D3.subset (zm p))) i_ qw rfl ?_;rintro v A ⟨rfl,rfl⟩));refine rR ?_;(first|refine s_ 15 ?_|refine t_ 15 ?_|refine G4 15 rfl ((F8 rfl rfl).eq (v':=.bool q) (qn M.symm)) rfl rfl rfl rfl rfl rfl i6 ?_);refine wd [16] ?_
  cases q
  ·refine E8 ?_;have e:gc r (k.take (i+1)):=nH (i:=i) (j:=j) u b qb qb J (.inr (zu M.symm));refine l8 (i:=(i,m)) (i+1,k) ⟨by simp only;omega,by simp only;omega,D3,e⟩ qg sub i_
  ·refine x6 ?_;refine D8 [9,13] [15,17] [.own (.slice a l.length c) 104 3 (k.flatMap eO)] 18 ?_;refine wd [0,1,2,3] ?_;refine w_ 4 rfl ((E7 rfl rfl qb).eq (v':=.int .i64 ((j-1:Nat):Int)) (by congr 1;omega)) ?_;refine wd [5,6] ?_;refine w_ 7 rfl ((E7 rfl rfl qb).eq (v':=.int .i64 ((j-1:Nat):Int)) (by congr 1;omega)) ?_;refine wd [8] ?_;refine o7 9 rfl R6 (p9 rfl (fun w s=>bK (s.ownN (t:=104) ud).2.2.1 L_ qp p x7) (L_ _)) G3 rfl rfl rfl i6 ?_;refine wd [10,11,12] ?_;refine o7 13 rfl R6 (p9 rfl (fun w s=>bK (s.ownN (t:=104) ud).2.2.1 L_ qp b x7) (L_ _)) G3 rfl rfl rfl i6 ?_;refine wd [14] ?_;refine h_ 15 rfl i6 ?_;refine A6 (C:=eO) k[j-1] L_ b (j:=0) rfl ?_;refine D7 [16] ?_;refine h_ 17 rfl i6 ?_;refine A6 (C:=eO) k[j] L_ (l:=k.set j k[j-1]) (i:=j-1) (by simpa using p) (j:=0) rfl ?_;refine D7 [] ?_;refine u6 ?_;refine f_ ((E7 rfl rfl qb).eq (v':=.int .i64 ((j-1:Nat):Int)) (by congr 1;omega)) ?_;refine u6 ?_;exact l8 (i:=(j,k,())) (j-1,Md k j b,()) ⟨by simp only;omega,(wD k j b qb).trans D3,wE u qb b D J (zy M.symm)⟩ qg sub i_
 ·refine x6 ?_;have z:l.length<=i:=by have:=zu h;omega
  rw[jm qb] at o;exact m6 rfl _ ⟨rfl,m,g,o,rfl⟩ i_
