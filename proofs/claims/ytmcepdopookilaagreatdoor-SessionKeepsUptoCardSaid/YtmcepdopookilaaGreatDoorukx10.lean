import Derived.Test.YtmcepdopookilaaGreatDoorukx9
import Derived.Lib.AppendZerosOnto
import Derived.Lib.Overlaps
set_option maxHeartbeats 16000000
set_option maxRecDepth 8000
set_option linter.unusedVariables false
set_option linter.unusedSimpArgs false
set_option linter.defProp false
namespace Go.Sl
open Go Go.RowKit Go.Proofs.Tryz
section
variable{P:zj}{N:Nat}{K R:A1}{E:List (Nat×A1)}{L:G9}{F:l9}{H:List As}{ops:Array Oper}{rest:List Oper}{ty:zk}{pos:String}{af:Array Edge}{t tn t2:zk}{s x:zw}{dst:Option Nat}{gd:Option (Nat×Bool)}
def Tl{a:qr}{n c:Nat}{e:zk}[hu:HU P t (.slice e)](hx:ev L x=some (.slice a n c)):E5 P ⟨dst,.call ⟨.builtin .cap,#[x],#[t]⟩,ty,pos,af,gd⟩ L (.int .i64 (c:Nat)):=by
 unfold E5;intro ρ w hf;simp[execOp,resolve,invoke,builtin,Builtin.cap_,hf _ _ hx,run_underlying hu.h,goInt]
def pc{d:Nat}{ps:List (Nat×zw)}{vs:List (Nat×Value)}{e:zk}{z:Value}{sz len:Nat}{cells:Array Value}[hu:HU P t (.slice e)][hz:HZ P e z][hs:HS P e sz](hx:AA L ps=some vs)(a:Nat.ble (len*sz) 16777216=true)(c:Nat.blt 0 (len*sz)=true)(b:Instr.fill (fun i=>some (i*sz,sz)) ((Array.range (len*sz)).map (z.cells[· %z.cells.size]!)) vs=some cells)(f:Nat.blt d N=true)(h:∀g,GL P N ops rest K E R ((d,.slice (some ⟨g,0,none⟩) len len)::L) F (.blk g (.cells cells e)::H)):GL P N ops (⟨some d,.buildSlice t len ps.toArray,ty,pos,af,none⟩::rest) K E R L F H:=
 T4 rfl rfl f fun n w hf j=>by
  have k:=jt hf.agr hx;have l:¬(len*sz>2^24):=by
   have:len*sz<=16777216:=(by simpa[J0] using a);omega
  have m:len*sz≠0:=by
   have:0<len*sz:=(by simpa[K2] using c);omega
  refine⟨.slice (some ⟨w.heap.size,0,none⟩) len len,w.alloc (.cells cells e),_,?_,j.alloc _,h _⟩;simp only[execOp,Zr];rw[k];simp only[Instr.buildSlice,Sem.run_bind,run_underlying hu.h,hs.h,Result.andThen_ok,zb l,zb m,hz.h,Sem.run_pure,b];simp[newRow]
def GF{α:Type}(C:α->zq)(y:α){d:Nat}{e:zk}{z v:Value}{sz:Nat}[hu:HU P t (.slice e)][hz:HZ P e z][hs:HS P e sz](hv:v.cells.toList=C y)(h:∀g,GL P N ops rest K E R ((d,.slice (some ⟨g,0,none⟩) 1 1)::L) F (.blk g (.cells (C y).toArray e)::H))(hx:ev L x=some v:=by rfl)(b:Nat.ble (1*sz) 16777216=true:=by rfl)(hp:Nat.blt 0 (1*sz)=true:=by rfl)(a:Nat.beq v.cells.size sz=true:=by rfl)(k:Nat.blt d N=true:=by rfl):
  GL P N ops (⟨some d,.buildSlice t 1 #[(0,x)],ty,pos,af,none⟩::rest) K E R L F H:=by
 have l:0<1*sz:=by simpa[K2] using hp
 have c:0<sz:=by omega
 have f:∀q∈[v],q.cells.size=sz:=fun q m=>by
  rw[z7.1 m];exact Qu a
 have i:[v].length*sz=((Array.range (1*sz)).map (z.cells[· %z.cells.size]!)).size:=by simp
 have hf:=Great.fill_whole c [v] ((Array.range (1*sz)).map (z.cells[· %z.cells.size]!)) f i;have j:([v].flatMap fun v=>v.cells.toList).toArray=(C y).toArray:=by simp[hv]
 rw[j] at hf;exact pc (ps:=[(0,x)]) (vs:=[(0,v)]) (by simp[AA,hx]) b hp hf k h
def nG{d:Nat}{a b:qr}{n c k j m O dc sz:Nat}{xs news:zq}{e:zk}{H':List As}[hu:HU P t (.slice e)][hs:HS P e sz](Q:ev L s=some (.slice (ak a c k sz) j dc))(S:ev L x=some (.slice b m O))(u:N1 H (.own (.slice a n c) e sz xs) [.own (.slice a n c) e sz (M3 xs (k*sz) news)] H')(hsrc:∀w,Hp F w H->KX (hp w) b news)(hl:news.length=min m j*sz)(T:0<sz)(h0:0<min m j)(hk:k+min m j<=n)(h1:∀q∈news,q.oneCell'=true)(hd:Nat.blt d N=true)(h:GL P N ops rest K E R ((d,.int .i64 (min m j:Nat))::L) F H'):
  GL P N ops (⟨some d,.call ⟨.builtin .copy,#[s,x],#[t,t2]⟩,ty,pos,af,none⟩::rest) K E R L F H:=
 T4 rfl rfl hd fun w0 w hf hw=>by
  have v:∀U V,(Builtin.copy_ #[t,t2] ty #[.slice (ak a c k sz) j dc,.slice b m O]).run P w=.ok U V->
    (execOp w0.eval ⟨some d,.call ⟨.builtin .copy,#[s,x],#[t,t2]⟩,ty,pos,af,none⟩).run P w=.ok (.value U) V:=fun U V C=>by
   simp[execOp,resolve,invoke,builtin,hf.eval Q,hf.eval S,C]
  obtain⟨b2,D,h6,h7,kk⟩:=hw.focus u;have X:news≠[]:=by
   rintro rfl;have:0<min m j*sz:=Jv h0 T;simp at hl;omega
  obtain⟨ad,rfl,p⟩:=hsrc w hw X;have i:∀j u,news[j]? =some u->w.cell? (ad.add j)=some u:=p;rcases D with⟨y,rfl,rfl⟩|⟨g,rfl,⟨o,n',h8,pre,f,fr,y,hg,Y,Z,h2,h3,z⟩⟩
  ·injection y with e1 e2 e3;omega
  ·injection y with e1 e2 e3;subst e1 e2 e3;have J:ak (some ⟨g,o,none⟩) c k sz=some ⟨g,o+k*sz,none⟩:=by
    unfold ak;rw[zb qb];simp[Addr.add_lit]
   have h4:k*sz+news.length<=xs.length:=by
    have:(k+min m j)*sz<=n*sz:=Qr _ hk;rw[Zj] at this;omega
   have l:=H6 (P:=P) g (o+k*sz) e fr news 0 (pre++xs++f).toArray w hg (by simpa using z) (by simp;omega) h1;have r:=run_firstCells_some (P:=P) w sz (min m j) ad m O news hl i;simp only[Zk,<-Y] at l;rw[fG pre xs f news (k*sz) h4] at l;have A:(M3 xs (k*sz) news).length=xs.length:=by
    simp only[M3,zg,kr,jz];omega
   refine⟨.int .i64 (min m j:Nat),w.setRow g (pre++M3 xs (k*sz) news++f).toArray,H',v _ _ ?_,?_,h⟩
   ·rw[Y] at l;rw[J];have M:Nat.min m j=min m j:=rfl;simp[Builtin.copy_,run_underlying hu.h,hs.h,Builtin.lenOf,M,r,goInt];simp at l;simp[l]
   ·refine kk _ [g] rfl rfl rfl (fun q hq h5=>setRow_other w g q _ (by simpa using h5)) ⟨[g],[],rfl,.inr ⟨g,rfl,⟨o,n,c,pre,f,fr,rfl,setRow_heap w g _ _ e _ hg,Y,by rw[A];exact Z,?_,h3,?_⟩⟩,rfl⟩ x7 (fun q hq=>.inl hq)
    ·simp only[zg,A];simpa using h2
    ·simp only[zg,A] at z⊢;exact z
def Dz{a:qr}{n c m sz:Nat}{xs:zq}{te:zk}{H':zq->List As}{t:Code}(u:∀i,N1 H (.own (.slice a n c) te sz xs) [.own (.slice a m c) te sz (xs++i)] (H' i))(h0:0<n)(hn:n<=m)(v:m<=c)(h:∀i,i.length=(m-n)*sz->G P N t K E R L F (H' i)):G P N t K E R L F H:=by
 unfold G at h⊢;intro D w hf x;obtain⟨b2,j,J,M,kk⟩:=x.focus (u []);rcases j with⟨d,rfl,rfl⟩|⟨g,rfl,⟨o,n',O,pre,b,Q,d,hg,S,T,k,U,p⟩⟩
 ·injection d with e1 e2 e3;omega
 ·injection d with e1 e2 e3;subst e1 e2 e3;have V:n*sz+(m-n)*sz=m*sz:=by rw[<-Zj];congr 1;omega
  have X:m*sz<=c*sz:=Qr _ v;have l:(b.take ((m-n)*sz)).length=(m-n)*sz:=by
   rw[zg] at k;rw[kr];omega
  refine h (b.take ((m-n)*sz)) l D w hf ?_;obtain⟨b3,e,y,z,r⟩:=x.focus (u (b.take ((m-n)*sz)));rcases e with⟨f,_,_⟩|⟨g3,rfl,⟨o3,n3,A,C,s,Y,f,_⟩⟩
  ·cases f
  ·injection f with e1 e2 e3;injection e1 with e1;injection e1 with e1 e4;subst e1;refine r w [g] rfl rfl rfl (fun _ _ _=>rfl) ⟨[g],[],rfl,.inr ⟨g,rfl,⟨o,m,c,pre,b.drop ((m-n)*sz),Q,rfl,?_,S,?_,?_,v,?_⟩⟩,rfl⟩ x7 (fun q Z=>.inl Z)
   ·show w.heap[g]? =_;rw[show pre++(xs++b.take ((m-n)*sz))++b.drop ((m-n)*sz)=pre++xs++b from by simp only[ky,Qp]];exact hg
   ·rw[zg,l];omega
   ·rw[ky,Qp];exact k
   ·rw[show pre++(xs++b.take ((m-n)*sz))++b.drop ((m-n)*sz)=pre++xs++b from by simp only[ky,Qp]];exact p
def ng{d k c sz:Nat}{a:qr}{v y:IntKind}{e:zk}{z:Value}{i:TypeInfo}[hu:HU P t (.slice e)][hn:HU P tn (.int v)][hz:HZ P e z][hi:HI P e i][hs:HS P e sz](o:ev L s=some (.slice a 0 c))(p:ev L x=some (.int y (k:Nat)))(A:0<k)(hc:c<k)(q:0<sz)(j:z.cells.size=sz)(b:k*i.bytes<=140737488355328)(h63:k<=9223372036854775807)(C:Nat.blt d N=true)(h:∀g c,k<=c->GL P N ops rest K E R ((d,.slice (some ⟨g,0,none⟩) k c)::L) F (.own (.slice (some ⟨g,0,none⟩) k c) e sz (Builtin.zeroCells z.cells k).toList::H)):
  GL P N ops (⟨some d,.call ⟨.builtin .append,#[s,x],#[t,tn]⟩,ty,pos,af,none⟩::rest) K E R L F H:=
 T4 rfl rfl C fun J w hf D=>by
  have l:i.size=sz:=by
   have f:=hs.h w;simp[sizeOf,typeInfo,hi.h] at f;exact f
  have r:i.zero=some z:=by
   have f:=hz.h w;simp only[zeroValue,Sem.run_bind,typeInfo] at f
   cases hq:i.zero with
   |none=>simp[hi.h,hq] at f
   |some z'=>simp[hi.h,hq] at f;rw[f]
  have m:(Builtin.firstCells i.size 0 (.slice a 0 c)).run P w.drew=.ok ([]:zq).toArray w.drew:=by cases a<;>simp[Builtin.firstCells,loadCells,loadCellsFrom]
  have u:=Go.Lib.run_append_grow_zeros (P:=P) w t tn ty e i z y v hu.h hn.h hi.h r a 0 c [] m k A (by rw[l];exact q) qb qb qb (growslice_fits qb (by rw[j6];exact b));simp only[j6] at u;have n:=grownCap_ge w k c e;refine⟨.slice (some ⟨w.heap.size,0,none⟩) k (grownCap w k c e),w.drew.alloc (.cells (([]:zq).toArray++Builtin.zeroCells z.cells k++Builtin.zeroCells z.cells (grownCap w k c e-k)) e),_,?_,?_,h w.heap.size (grownCap w k c e) n⟩
  ·simp[execOp,resolve,invoke,builtin,hf.eval o,hf.eval p];simp at u;simp[u]
  ·refine P9 (w:=w.drew) (post:=(Builtin.zeroCells z.cells (grownCap w k c e-k)).toList) (fr:=(0,0)) D.drew' ?_ ?_ n (.inl (kp _)) ?_
   ·simp[size_zeroCells,j]
   ·simp only[zg,Z9,size_zeroCells,j,<-Zj];congr 1;omega
   ·congr 2;apply Zv.1;simp
def yD{f:Nat}{fn:Func}{g:Nat}{v x y z m c k sz:Nat}{cells:Array Value}{te:zk}{p q:zw}{a:qr}{A:Array zk}{xs:zq}{Rr:List As}[hu:HU P t (.slice te)][hs:HS P te sz](C:P.funcs[f]? =some fn)(h:(fn.name== "runtime.NumGoroutine")=false)(S:fn.body.isNone=true)(T:Extern.findNext fn=none)(U:Extern.find fn=some (Extern.SlicesOverlaps.overlaps #[t,t] #[t2]))(hp:ev L p=some (.slice (some ⟨g,0,none⟩) v x))(hq:ev L q=some (.slice (ak a c k sz) y z))(hH:∀w,Hp F w H->Hp F w (.blk g (.cells cells te)::.own (.slice a m c) te sz xs::Rr))(V:0<m)(X:k<c)(Y:cells.size≠0)(D:0<sz):
  dF P ⟨dst,.call ⟨.value (.func f),#[p,q],A⟩,ty,pos,af,gd⟩ L F H (.bool false):=by
 unfold dF;intro ρ w i Z;obtain⟨bs,⟨b1,b2,rfl,⟨rfl,hg⟩,b3,b4,rfl,r,_⟩,J,_⟩:=(hH w Z).own;rcases r with⟨j,rfl,rfl⟩|⟨n,rfl,⟨o,n',h1,pre,d,fr,j,M,ho,O,h2,h3,h4⟩⟩
 ·injection j with e1 e2 e3;omega
 ·injection j with e1 e2 e3;subst e1 e2 e3;have Q:g≠n:=by
   rintro rfl;simp at J
  have s:ak (some ⟨n,o,none⟩) c k sz=some ⟨n,o+k*sz,none⟩:=by
   unfold ak;rw[zb qb];simp[Addr.add_lit]
  rw[s] at hq;have h5:0<xs.length:=by rw[O];exact Jv V D
  have l:w.heap[g]? =some (.cells cells te):=hg;have u:w.heap[n]? =some (.cells (pre++xs++d).toArray te fr):=M;have hr:=Go.Lib.run_overlaps_apart (P:=P) w t t2 te hu.h sz hs.h ⟨g,0,none⟩ ⟨n,o+k*sz,none⟩ v x y z Q te te cells.size (pre++xs++d).length (by simp[World.shape?,l]) (by simp[World.shape?,u]) (by simp only[zg];omega) (by simp[World.frozen?,l]) (by simp[World.frozen?,l]);have e:ρ (.func f)=.func (.func f) #[] #[]:=i _ _ rfl;have b:=run_callFunc_extern C h S T U #[.slice (some ⟨g,0,none⟩) v x,.slice (some ⟨n,o+k*sz,none⟩) y z] w;rw[hr] at b;simp only[execOp,resolve,e,Deferred.ofValue,Zr,Q2,Jp,i _ _ hp,i _ _ hq,Sem.run_bind,Sem.run_pure,Result.andThen_ok,invoke];exact b
end
end Go.Sl
namespace Go.Proofs.YtmcepdopookilaaGreatDoor.Rp
open Go Go.Sl Go.RowKit Go.Proofs.Tryz
def Bg(A x y:zq)(q:Nat)(hq:A.length=q+x.length):M3 A q x=A.take q++x:=by
 unfold M3;rw[Q7 qb,jk]
def DA{h:l_}{a:qr}{xs c:zq}(r:n9 h a (xs++c)):n9 h a xs:=fun b=>by
 obtain⟨d,f,g⟩:=r (fun e=>b (List.append_eq_nil_iff.1 e).1);exact⟨d,f,fun j u hu=>g j u (by rw[j8 (Qs.1 hu).1];exact hu)⟩
def DB(x y z:zq)(h:x.length=y.length):M3 (x++z) 0 y=y++z:=by
 unfold M3;rw[Km,Qv,j6,<-h,List.drop_left]
def yE(l:List IT)(a:qr)(c:Nat)(i:IT)(g:Nat)(hl:l.length<=1000000):Ct prog 306 [.slice a l.length c,.int .i64 0,.slice (some ⟨g,0,none⟩) 1 1] (fun _=>True) [ce a l c,.blk g (.cells (co i).toArray 129)] (fun v A=>∃s x,v=.slice s (i::l).length x/\A=[ce s (i::l) x]):=by
 refine b_ 95 func306 rfl rfl rfl ?_;rintro F _;refine B7 (a:=a) (n:=l.length) (c:=c) (sz:=5) (xs:=oW l) ud ?_;intro O hc D;have f:=tU l;refine E8 ?_;refine f_ (C0 rfl rfl rfl qb) ?_;refine P1 ?_;refine f_ ((q_ rfl rfl).eq (v':=.bool false) rfl) ?_;refine Y1 ?_;refine p7 rfl ?_ ?_<;>intro h
 ·have Q:l=[]:=by
   have:=zy h;exact js qb
  subst Q;refine A5 ?_;refine C4 (xs:=oW []) (n:=0) (news:=co i) rfl rfl (H':=fun s x=>[.own (.slice s (0+1) x) 129 5 (oW []++co i),.blk g (.cells (co i).toArray 129)]) (fun s x=>.here) (fun w b=>b.rdBlk ud (co i) (fun j u h=>by simpa using h)) rfl rfl rfl (gJ i) (by show(0+1)*32<=_;omega) qb rfl ?_;intro p q _;refine D0 ?_;exact d_ rfl rfl [ce p [i] q] ⟨p,q,rfl,rfl⟩ (fun w b=>(tk (C:=[ce p [i] q])).hp b|>.left)
 have J:0<l.length:=by have:=zu h;omega
 refine A5 ?_;refine f_ ((r8 rfl rfl (by simp;omega)).eq (v':=.int .i64 ((l.length+1:Nat):Int)) x7) ?_;refine u6 ?_;refine f_ (Tl rfl) ?_;refine T2 ?_ ?_<;>intro h
 ·have r:c<l.length+1:=by have:=zy h;omega
  refine A5 ?_;refine f_ ((C0 rfl rfl rfl qb).eq (v':=.slice a 0 c) (by simp[ez])) ?_;refine A5 ?_;refine f_ ((r8 rfl rfl (by simp;omega)).eq (v':=.int .i64 ((l.length+1:Nat):Int)) x7) ?_;refine u6 ?_;refine f_ ((E7 rfl rfl (by simp;omega)).eq (v':=.int .i64 ((l.length+1:Nat):Int)) x7) ?_;refine ng (k:=l.length+1) rfl rfl qb r qp rfl (by show(l.length+1)*32<=_;omega) qb rfl ?_;intro o d M;generalize hZ:(Builtin.zeroCells _ (l.length+1)).toList=Z;refine u6 ?_;refine B7 (a:=some ⟨o,0,none⟩) (n:=l.length+1) (c:=d) (sz:=5) (xs:=Z) ud ?_;intro S _ _;refine A5 ?_;refine f_ ((C0 rfl rfl rfl qb).eq (v':=.slice (ak (some ⟨o,0,none⟩) d 0 5) (l.length+1) d) x7) ?_;refine u6 ?_;refine nG (k:=0) (news:=co i) rfl rfl uh (fun w b=>b.rdBlk ud (co i) (fun j u h=>by simpa using h)) (by rw[show min 1 (l.length+1)=1 by omega];rfl) qp qb qb (gJ i) rfl ?_;refine x6 ?_;refine gz ([],[],[]) 9 rfl ?_;refine wd [0,1,2] ?_;refine w_ 3 rfl ((r8 rfl rfl x7).eq (v':=.int .i64 ((1:Nat):Int)) x7) ?_;refine w_ 4 rfl ((C0 rfl rfl rfl qb).eq (v':=.slice (ak (some ⟨o,0,none⟩) d 1 5) l.length (d-1)) x7) ?_;refine wd [5,6] ?_;refine w_ 7 rfl ((C0 rfl rfl rfl qb).eq (v':=.slice a l.length c) (by simp[ez])) ?_;refine h_ 8 rfl i6 ?_;refine nG (k:=1) (news:=oW l) rfl rfl uh (fun w b=>(b.ownN (a:=a) (xs:=oW l) ud).2.2.1) (by rw[Nat.min_self,f]) qp qb qb (nC l) rfl ?_;refine D7 [] ?_;all_goals
   refine M4 ?_;exact d_ rfl rfl [ce (some ⟨o,0,none⟩) (i::l) d] ⟨_,d,rfl,rfl⟩ (fun w b=>by
    have e:M3 (M3 Z (0*5) (co i)) (1*5) (oW l)=oW (i::l):=by
     have T:M3 Z (0*5) (co i)=co i++Z.drop 5:=(by unfold M3;simp);rw[T,Bg _ _ [] _ (by simp only[zg,jz,f];show 5+_=_;omega),Kv (kp 5)];rfl
    rw[e] at b;exact y9.left tk b)
 have r:l.length+1<=c:=by have:=zu h;omega
 refine x6 ?_;refine Dz (a:=a) (n:=l.length) (c:=c) (m:=l.length+1) (sz:=5) (xs:=oW l) (te:=129) (H':=fun z=>.own (.slice a (l.length+1) c) 129 5 (oW l++z)::.blk g (.cells (co i).toArray 129)::[]) (fun _=>.here) J qb r ?_;intro z y;refine E8 ?_;refine f_ ((r8 rfl rfl (by simp;omega)).eq (v':=.int .i64 ((l.length+1:Nat):Int)) x7) ?_;refine f_ ((C0 rfl rfl rfl qb).eq (v':=.slice a (l.length+1) c) (by simp[ez])) ?_;refine al ?_;refine f_ ((r8 rfl rfl x7).eq (v':=.int .i64 ((1:Nat):Int)) x7) ?_;refine f_ ((C0 rfl rfl rfl qb).eq (v':=.slice (ak a c 1 5) l.length (c-1)) x7) ?_;refine r_ (yD (t:=32) (t2:=4) rfl i6 i6 i6 i6 rfl rfl (m:=l.length+1) (fun w b=>b.perm (.swap _ _ _)) qb qb x7 qp) ?_;refine u6 ?_;refine gz ([],[],[]) 9 rfl ?_;refine wd [0,1,2] ?_;refine w_ 3 rfl ((r8 rfl rfl x7).eq (v':=.int .i64 ((1:Nat):Int)) x7) ?_;refine w_ 4 rfl ((C0 rfl rfl rfl qb).eq (v':=.slice (ak a c 1 5) l.length (c-1)) x7) ?_;refine wd [5,6] ?_;refine w_ 7 rfl ((C0 rfl rfl rfl qb).eq (v':=.slice a (l.length+1) c) (by simp[ez])) ?_;refine h_ 8 rfl i6 ?_;refine nG (k:=1) (news:=oW l) rfl rfl uh (fun w b=>DA (b.ownN (a:=a) (xs:=oW l++z) ud).2.2.1) (by rw[show min (l.length+1) l.length=l.length by omega,f]) qp qb qb (nC l) rfl ?_;refine D7 [] ?_;all_goals
  refine A5 ?_;refine f_ ((C0 rfl rfl rfl qb).eq (v':=.slice (ak a c 0 5) (l.length+1) c) x7) ?_;refine u6 ?_;refine nG (k:=0) (news:=co i) rfl rfl uh (fun w b=>b.rdBlk ud (co i) (fun j u h=>by simpa using h)) (by rw[show min 1 (l.length+1)=1 by omega];rfl) qp qb qb (gJ i) rfl ?_;refine M4 ?_;exact d_ rfl rfl [ce a (i::l) c] ⟨_,c,rfl,rfl⟩ (fun w b=>by
   have e:M3 (M3 (oW l++z) (1*5) (oW l)) (0*5) (co i)=oW (i::l):=by
    rw[Bg _ _ [] (1*5) (by rw[zg,y];omega)];exact DB _ _ _ (by rw[kr,zg,y];show _=5;omega)
   rw[e] at b;exact y9.left tk b)
open Go Go.Sl Go.Proofs.Tryz
abbrev U8(c:UInt8):Value:=.int .u8 (c.toNat:Nat)
def iv{a b:UInt8}:decide ((a.toNat:Int)=(b.toNat:Int))=decide (a=b):=by
 by_cases h:a=b
 ·subst h;simp
 ·have:¬((a.toNat:Int)=(b.toNat:Int)):=fun e=>h (Wu.mp qb);simp[h,this]
def yF{p:UInt8->Bool}{s:Bs}{k:Nat}(a:k<s.length)(h:p (s.getD k 0)=false):s.all p=false:=by
 cases e:s.all p with
 |false=>rfl
 |true=>
  have:=Q1.mp e (s.getD k 0) (by rw[z8,zd a];exact zm a);rw[h] at this
  cases this
def Bh{p:UInt8->Bool}{s:Bs}(h:∀j,j<s.length->p (s.getD j 0)=true):s.all p=true:=by
 refine Q1.mpr fun c hc=>?_;obtain⟨j,a,rfl⟩:=Zp hc;simpa[a] using h j a
def wu:∀(k n:Nat),1<=k->n<10^k->(T1 n).length<=k
 |0,_,h,_=>by omega
 |1,n,_,h=>by rw[bW qb];simp
 |k+2,n,_,h=>by
  by_cases hl:n<10
  ·rw[bW hl];simp
  ·rw[gD hl];have:=wu (k+1) (n/10) qb (by rw[Yj] at h;omega);simp;omega
def pd{n:Nat}(h:n<=18446744073709551615):(T1 n).length<=20:=wu 20 n qb qb
def rv(f:UInt8->UInt8){s:Bs}{k:Nat}(a:k<s.length):(s.take (k+1)).map f=(s.take k).map f++[f (s.getD k 0)]:=by
 rw[jy a,Qx,z8,zd a];rfl
abbrev GG(o:Option Nat):Value:=.tuple #[.int .u64 ((o.getD 0:Nat):Int),.bool o.isSome]
def GH{s:Bs}(h:∀n,n<=E6->s≠T1 n):bA s=none:=by
 cases e:bA s with
 |none=>rfl
 |some n=>exact absurd (rO e).1 (h n (rO e).2)
def DC{s:Bs}{k:Nat}(a:k<s.length)(h:R1 (s.getD k 0)=false):bA s=none:=GH fun n b e=>by
 have:=FY n;rw[<-e,yF a h] at this
 cases this
def GI{s:Bs}{k:Nat}(a:k<s.length):T_ 0 (s.take (k+1))=10*T_ 0 (s.take k)+((s.getD k 0).toNat-48):=by
 rw[jy a,mf,rN,oE,z8,zd a];rfl
abbrev Tm(o:Option Bs):Value:=.tuple #[B (o.getD []),.bool o.isSome]
abbrev lD:Nat:=1000000000000
def pf{s:Bs}(h:1<=s.length):s.head? =some (s.getD 0 0):=by
 cases s with
 |nil=>simp at h
 |cons a t=>rfl
def GJ{s:Bs}(h:1<=s.length):s.getLast? =some (s.getD (s.length-1) 0):=by
 rw[Jh,z8,zd qb];rfl
abbrev PP(o:Option (Bs×Nat)):Value:=.tuple #[B (o.getD ([],0)).1,.int .i64 ((o.getD ([],0)).2:Nat),.bool o.isSome]
def cF{s:Bs}{k:Nat}(a:k<s.length):s.drop k=s.getD k 0::s.drop (k+1):=by
 rw[Qc a,z8,zd a];rfl
def Bi:∀{l:List Bs} {p:Bs->Bool} {k:Nat},k<l.length->(∀j,j<k->p (l.getD j [])=false)->p (l.getD k [])=true->l.find? p=some (l.getD k [])
 |[],_,_,h,_,_=>by simp at h
 |x::t,p,0,_,_,h=>by
  have h:p x=true:=h;simp[Wb,h]
 |x::t,p,k+1,hk,hno,h=>by
  have a:p x=false:=hno 0 qb;have:=Bi (l:=t) (p:=p) (k:=k) (by simpa using hk) (fun j b=>by have:=hno (j+1) qb;simpa using this) (by simpa using h);rw[Wb,a];simpa using this
def LF{l:List Bs}{p:Bs->Bool}(h:∀j,j<l.length->p (l.getD j [])=false):l.find? p=none:=by
 rw[W2];intro x b;obtain⟨j,a,rfl⟩:=Zp b;have:=h j a;rw[z8,zd a] at this;simp at this;simp[this]
def LG{k:Nat}(a:k<5):(S5.getD k []).length<=9:=by
 have:∀k,k<5->(S5.getD k []).length<=9:=by decide
 exact this k a
def Bj(f:Bs):∀l:List Bs,(rk f l).length=l.length+1
 |[]=>rfl
 |x::t=>by
  rw[rk];split
  ·simp
  ·simp[Bj f t]
def mv{x c:Bs}(hx:E_ x=some c):∀{l cs:List Bs},T5 l=some cs->T5 (l++[x])=some (cs++[c])
 |[],cs,h=>by
  simp[T5] at h;subst h;simp[T5,hx]
 |s::t,cs,h=>by
  rw[T5] at h;split at h
  ·next d l a hl=>
   cases h
   rw[Zu,T5,a,mv hx hl];rfl
  ·cases h
def pg{x:Bs}(hx:E_ x=none):∀{l:List Bs},x∈l->T5 l=none
 |[],h=>by simp at h
 |s::t,h=>by
  rw[T5];rcases jv.mp h with rfl|h
  ·rw[hx]
  ·rw[pg hx h]
   cases E_ s<;>rfl
def ph:∀{l cs:List Bs},T5 l=some cs->cs.length=l.length
 |[],cs,h=>by simp[T5] at h;subst h;rfl
 |s::t,cs,h=>by
  rw[T5] at h;split at h
  ·next d l a hl=>
   cases h
   simp[ph hl]
  ·cases h
def GK(l:List Bs)(f:Bs):(fq l f).length<=l.length+1:=by
 unfold fq;split
 ·omega
 ·rw[Bj];omega
def Bk(l:List Bs):(U5 l).length<=l.length:=by
 have:∀(l a:List Bs),(l.foldl fq a).length<=a.length+l.length:=by
  intro l
  induction l with
  |nil=>intro a;simp
  |cons f t ih=>
   intro a;have b:=ih (fq a f);have c:=GK a f;simp only[Wv,z1];omega
 have:=this l [];simpa[U5] using this
def Tn(m:List Bs×Int)(v:Value)(A:List As):Prop:=∃a c,v=.tuple #[.slice a m.1.length c,.int .i64 m.2]/\A=[B0 a m.1 c]
def PQ(q:List Bs×Nat×Int)(v:Value)(A:List As):Prop:=∃a c,v=.tuple #[.slice a q.1.length c,.int .i64 (q.2.1:Nat),.int .i64 q.2.2]/\A=[B0 a q.1 c]
def ko{s:Bs}{p j:Nat}(h:p<=j):(s.drop ((p:Nat):Int).toNat).take (((j:Nat):Int).toNat-((p:Nat):Int).toNat)=(s.drop p).take (j-p):=by simp only[Qy]
def GM(w t:Bs):w.isPrefixOf t=(decide (w.length<=t.length)&&decide (t.take w.length=w)):=by
 rw[Z5,List.isPrefixOf_iff_prefix,List.prefix_iff_eq_take];simp only[jw,j7];constructor
 ·intro h;refine⟨?_,h.symm⟩;have:=jh List.length h;rw[kr] at this;omega
 ·rintro⟨_,h⟩;exact h.symm
def Bl{f:UInt8->Bool}{s:Bs}{p j:Nat}(h:p<=j)(k:j<=s.length\/j=p)(a:∀i,p<=i->i<j->f (s.getD i 0)=true)(d:j<s.length->f (s.getD j 0)=false):
  (s.drop p).takeWhile f=(s.drop p).take (j-p)/\j=p+((s.drop p).takeWhile f).length:=by
 have e:s.drop p=(s.drop p).take (j-p)++s.drop j:=by
  have:=(Qp (j-p) (s.drop p)).symm;rw[K6,show p+(j-p)=j by omega] at this;exact this
 have b:(s.drop p).takeWhile f=(s.drop p).take (j-p):=by
  rw[e];rw[bX f _ _ (fun c hc=>?_) (fun c hc=>?_)]
  ·rw[<-e]
  ·obtain⟨i,g,rfl⟩:=Zp hc;rw[kr,jz] at g;have:=a (p+i) qb qb;rw[z8,zd qb] at this;simpa using this
  ·by_cases hj:j<s.length
   ·rw[cF hj] at hc;simp at hc;subst hc;exact d hj
   ·rw[Q7 qb] at hc;simp at hc
 refine⟨b,?_⟩;rw[b,kr,jz];omega
def yG:∀(n:Nat) (s b:Bs) (i:Nat) (t:Bs) (m:Nat),s.length<=n->AL b i s=some (t,m)->m<=i+s.length
 |_,[],_,_,_,_,_,h=>by simp[AL] at h
 |0,c::s,_,_,_,_,hn,_=>by simp at hn
 |n+1,c::s,b,i,t,m,hn,h=>by
  simp only[z1] at hn⊢;rw[jG] at h;split at h
  ·cases h
  split at h
  ·simp at h;omega
  split at h
  ·split at h
   ·cases h
   ·next d t'=>
    split at h
    ·simp only[z1] at hn⊢;have:=yG n t' _ _ t m qb h;omega
    ·cases h
  split at h
  ·have:=yG n s _ _ t m qb h;omega
  ·cases h
def yH{s:Bs}:((vO s).getD ([],0)).2<=s.length:=by
 cases h:vO s with
 |none=>simp
 |some q=>
  obtain⟨t,m⟩:=q
  cases s with
  |nil=>cases h
  |cons c v=>
   unfold vO at h;simp only at h;split at h
   ·have:=yG v.length v [] 1 t m (kp _) h;simp;omega
   ·cases h
def GO{l m:List Bs}(a:l.length=m.length)(h:∀i,i<l.length->l.getD i []=m.getD i []):l=m:=by
 apply List.ext_getElem a;intro i b c;have:=h i b;rw[z8,z8,zd b,zd c] at this;exact this
open Go Go.Sl Go.RowKit Go.Proofs.Tryz
section
variable{P:zj}{L:G9}{N:Nat}{dst:Option Tmp}{t:zk}{x:zw}{ty:zk}{pos:String}{af:Array Edge}{gd:Option (Nat×Bool)}
def kA{b len e c:Nat}{d:zw}{kk:IntKind}{j:Nat}[hu:HU P t (.array len e)][hs:HS P e c](hx:ev L x=some (.pointer (some ⟨b,0,none⟩)))(a:ev L d=some (.int kk j))(f:j<=len):E5 P ⟨dst,.slice t x none (some d) none,ty,pos,af,gd⟩ L (.slice (some ⟨b,0,none⟩) j len):=by
 unfold E5;intro ρ w hf;have g:(⟨b,0,none⟩:Addr).add (0*c)=⟨b,0,none⟩:=by simp[Addr.add]
 have h:¬max (j:Int) 0<0:=by omega
 simp[execOp,Instr.sliceAt,Instr.sureAddr,Instr.sliceBounds,Instr.sliceBound,asIntOf,hf _ _ hx,hf _ _ a,run_underlying hu.h,hs.h,Addr.add,f]
end
abbrev LH:UInt8->Value:=fun b=>Value.int .u8 (b.toNat:Int)
def LJ(u b:Nat)(Q:1<=u)(hu:u<18446744073709551616):Ct prog 243 [.slice (some ⟨b,0,none⟩) (Lib.nDigits u) 24,.int .u64 (u:Nat)] (fun _=>True) [.blk b (.cells (Array.replicate 24 (.int .u8 0)) 282)]
  (fun v A=>v=.tuple #[]/\∃cs:Array Value,(∀(j:Nat) (l:j<(T1 u).length),cs[j]? =some (.int .u8 ((T1 u)[j].toNat:Nat)))/\A=[.blk b (.cells cs 282)]):=by
 intro w S d t _;obtain⟨T,U,rfl,⟨rfl,x⟩,rfl⟩:=d;have a:w.heap[b]? =some (.cells (Array.replicate 24 (.int .u8 0)) 282):=x;have r:Lib.nDigits u<=24:=by
  have:=pd (n:=u) qb;rw[<-jJ,Lib.decDigits_length] at this;omega
 have y:Sort.Holds LH w b 0 (Array.replicate (Lib.nDigits u) (0:UInt8)):=fun j l=>by
  have p:j<Lib.nDigits u:=by simpa using l
  constructor
  ·simp[World.cell?,a,getElem!_pos,p,show j<24 by omega]
  ·simp[World.frozen?,a]
 have hs:(Array.replicate (Lib.nDigits u) (0:UInt8)).size=Lib.nDigits u:=by simp
 have f:u<10^(Array.replicate (Lib.nDigits u) (0:UInt8)).size:=by
  rw[hs];exact Lib.lt_pow_nDigits u
 have hc:=Tryz.internal_strconv_formatBase10 b 0 24 u (Array.replicate (Lib.nDigits u) (0:UInt8)) w y f hu (by rw[hs];omega);rw[hs] at hc;refine hc.mono ?_;rintro e V ⟨rfl,n,X,m,rfl,s⟩;have z:((Sort.putRow LH w b 0 m).drewN n).heap[b]? =some (.cells (Sort.putCells LH 0 m (Array.replicate 24 (.int .u8 0))) 282):=by
  show(Sort.mapBlock w b _).heap[b]? =_;unfold Sort.mapBlock;simp[Zg,a,Sort.onCells]
 refine⟨.tuple #[],[.blk b (.cells (Sort.putCells LH 0 m (Array.replicate 24 (.int .u8 0))) 282)],rfl,⟨rfl,_,fun j l=>?_,rfl⟩,rfl,rfl,rfl,fun g o i=>?_,[b],⟨[b],[],rfl,⟨rfl,z⟩,rfl⟩,by simp,fun g k=>?_⟩
 ·have c:j<(Lib.decDigits u).length:=by rw[jJ];exact l
  have C:j<Lib.nDigits u:=by rw[Lib.decDigits_length] at c;exact c
  have D:=Lib.row_is_numeral s j c;have J:(T1 u)[j]=(Lib.decDigits u)[j]:=by congr 1;exact(jJ u).symm
  rw[J,D];have M:=s.size;simp[Sort.putCells,show j<24 by omega,show j<m.size by omega]
 ·have q:g≠b:=by
   rintro rfl;simp[w6,F6] at i
  have O:w.heap[g]? =some o:=cq w _ g o i;show(Sort.mapBlock w b _).heap[g]? =_;unfold Sort.mapBlock;rw[Zg,zb (fun h=>q h.symm)];exact O
 ·simp at k;subst k;simp[w6,F6]
def GP{l:Bs}{cs:Array Value}(h:∀(j:Nat) (b:j<l.length),cs[j]? =some (.int .u8 (l[j].toNat:Nat))):∀(j:Nat) (u:Value),(B3 l)[j]? =some u->cs[j]? =some u:=fun j u hu=>by
 obtain⟨b,rfl⟩:=Qs.1 hu;have a:j<l.length:=by simpa[B3] using b
 rw[h j a];simp[B3]
def rx(n:Nat)(h:n<18446744073709551616):Pu prog 171 [.int .u64 (n:Nat),.int .i64 10] Gl (B (T1 n)):=by
 refine b_ 32 func171 rfl rfl rfl ?_;intro F hg;refine P1 ?_;refine f_ ((F8 rfl rfl).eq (v':=.bool (decide (n<100))) (qn (kz.mpr qb))) ?_;refine O_ ?_ ?_<;>intro b
 ·have c:=zy b;refine u6 ?_;refine f_ (bM rfl qb) ?_;refine c_ rfl (Gp n c) qw rfl ?_;refine D0 ?_;exact d_ rfl rfl [] qh (fun _ h=>h)
 ·have c:=zu b;have e:(T1 n).length=Lib.nDigits n:=by rw[<-jJ,Lib.decDigits_length]
  have d:=pd (n:=n) qb;refine x6 ?_;refine u6 ?_;intro f;refine u6 ?_;refine c_ rfl (tN n qb h) (fun h g j=>hg.le g) rfl ?_;refine A5 ?_;refine f_ (kA rfl rfl qb) ?_;refine u6 ?_;refine y5 _ rfl (LJ n f qb h) i_ qw rfl ?_;rintro v A ⟨rfl,k,a,rfl⟩;refine u6 ?_;refine f_ (kA rfl rfl qb) ?_;refine r_ (cv (l:=T1 n) rfl qb (fun w i=>i.rdBlk ud _ (GP a))) ?_;refine D0 ?_;exact d_ rfl rfl [] qh (fun _ h=>h.dropAll)
def pi(n:Nat)(h:n<18446744073709551616):Pu prog 83 [.int .u64 (n:Nat),.int .i64 10] Gl (B (T1 n)):=by
 refine b_ 8 func83 rfl rfl rfl ?_;intro F hg;refine E8 ?_;refine c_ rfl (rx n h) (fun h a b=>hg.le a) rfl ?_;refine D0 ?_;exact d_ rfl rfl [] qh (fun _ h=>h)
def aT(n:Nat)(h:n<18446744073709551616):Pu prog 36 [.int .u64 (n:Nat)] Gl (B (T1 n)):=by
 refine b_ 5 func36 rfl rfl rfl ?_;intro F hg;refine A5 ?_;refine c_ rfl (pi n h) (fun h a b=>hg.le a) rfl ?_;refine D0 ?_;exact d_ rfl rfl [] qh (fun _ h=>h)
open Go Go.Sl Go.RowKit Go.Proofs.Tryz
def GQ(c:Int):Pu prog 373 [.int .u8 c] (fun _=>True) (.int .u8 (bits .or .u8 c 32)):=V3 fun w _=>Tryz.internal_strconv_lower c w
def Bn:∀(t:Bs) (a:Nat),a<=T_ a t
 |[],a=>by rw[oE];exact kp _
 |c::t,a=>by
  rw[rN];have:=Bn t (AK a c);unfold AK at this⊢;omega
def GR(s:Bs)(k:Nat):T_ 0 (s.take k)<=T_ 0 s:=by
 have:T_ 0 s=T_ (T_ 0 (s.take k)) (s.drop k):=by rw[<-mf,Qp]
 rw[this];exact Bn _ _
def rX{s:Bs}{k:Nat}(h:E6<T_ 0 (s.take k)):bA s=none:=by
 have:=GR s k;unfold bA;exact zb fun a=>by omega
structure GS(s:Bs):Prop where
 ne:s≠[]
 dig:∀j,j<s.length->R1 (s.getD j 0)=true
 le:T_ 0 s<=E6
def UP(s:Bs)(v:Value)(A:List As):Prop:=A=[]/\((v=.tuple #[.int .u64 (T_ 0 s:Nat),.nilIface]/\GS s)\/∃(n k:Int),v=.tuple #[.int .u64 n,.iface 386 (.int .i64 k)]/\(k=1\/k=2)/\bA s=none)
def iR(l:Bs):(B3 l).length=l.length:=by simp[B3]
def ug{F:l9}{w:World}{H H':List As}{b:List As}{a:qr}{n c:Nat}{te:zk}{l:Bs}(d:Hp F w H)(u:N1 H (.own (.slice a n c) te 1 (B3 l)) b H'){q i:Nat}(h:q=i)(e:i<l.length):M9 (hp w) (N_ a q) [U8 (l.getD i 0)]:=
 jB d u x7 (fun j u hu=>by
  match j,hu with
  |0,hu=>
   simp at hu;subst hu h;simp[B3,e])
def ry(s:Bs)(hs:s.length<=9223372036854775806):Ct prog 321 [B s,.int .i64 10,.int .i64 63] (fun _=>True) [] (UP s):=by
 refine b_ 172 func321 rfl rfl rfl ?_;intro F _;refine E8 ?_;refine f_ ((C9 rfl rfl).eq (v':=.bool (decide (s=[]))) rfl) ?_;refine O_ ?_ ?_<;>intro h
 ·have h0:=zy h;refine D1 ?_;refine f_ (Z_ x7 rfl) ?_;refine M4 ?_;exact w8 rfl rfl rfl [] ⟨rfl,.inr ⟨0,2,rfl,.inr rfl,by rw[h0];exact FZ⟩⟩ (fun w e=>e.dropAll)
 have O:=zu h;refine wk 27 ?_;refine f_ ((Az rfl rfl qb).eq (v':=.int .u64 9223372036854775808) (by congr 1)) ?_;refine al ?_;refine ot rfl rfl ?_;intro b d h7;refine A5 ?_;refine o8 (ι:=Nat) (fun k=>k<=s.length/\(∀j,j<k->R1 (s.getD j 0)=true)/\T_ 0 (s.take k)<=E6) (fun k=>[(0,B s),(1,.int .i64 10),(8,.bool false),(10,.int .u64 1844674407370955162),(11,.int .u64 9223372036854775807),(12,.bool false),(13,.int .u64 (T_ 0 (s.take k):Nat)),(99,.slice b s.length d),(100,r7 s.length),(101,r7 k)]) (fun _=>[.own (.slice b s.length d) 5 1 (B3 s)]) (fun k=>s.length-k) 0 ⟨by omega,fun j h=>by omega,by simp[oE]⟩ ?_ ?_ ?_
 ·exact sub
 ·intro w e;exact e
 rintro k ⟨hk,r,l⟩;refine T2 ?_ ?_<;>intro h
 ·have p:k<s.length:=by simp at h;omega
  obtain⟨c,hc⟩:=o9 (s.getD k 0);have Q:c.toNat<256:=c.toNat_lt;have S:∃ad,b=some ad\/True:=⟨⟨0,0,none⟩,.inr trivial⟩;refine D1 ?_;refine r_ (T0 rfl ud rfl qb) ?_;refine r_ ((l5 rfl (fun w e=>ug e ud (i:=k) qb p)).eq (v':=U8 c) (by rw[hc])) ?_;refine A5 ?_;obtain⟨u0,T⟩:=o9 (decide ((c.toNat:Int)=95));refine x6 ?_;refine x8 [(0,B s),(1,.int .i64 10),(8,.bool false),(10,.int .u64 1844674407370955162),(11,.int .u64 9223372036854775807),(12,.bool false),(13,.int .u64 (T_ 0 (s.take k):Nat)),(15,U8 c),(99,.slice b s.length d),(100,r7 s.length),(101,r7 k),(106,.bool false)] [.own (.slice b s.length d) 5 1 (B3 s)] ?_ ?_
  ·cases u0
   all_goals (
    refine u6 ?_;refine f_ ((q_ rfl rfl).eb T) ?_;refine P1 ?_)
   all_goals exact p_ sub i_
  refine x6 ?_;obtain⟨U,t⟩:=o9 (decide ((48:Int)<=c.toNat));obtain⟨d2,u⟩:=o9 (decide ((c.toNat:Int)<=57));have v:R1 c=(U&&d2):=by
   unfold R1;rw[t,u];congr 1
   ·exact kz.mpr qb
   ·exact kz.mpr qb
  refine x8 [(0,B s),(1,.int .i64 10),(8,.bool false),(10,.int .u64 1844674407370955162),(11,.int .u64 9223372036854775807),(12,.bool false),(13,.int .u64 (T_ 0 (s.take k):Nat)),(15,U8 c),(99,.slice b s.length d),(100,r7 s.length),(101,r7 k),(112,.bool (U&&d2))] [.own (.slice b s.length d) 5 1 (B3 s)] ?_ ?_
  ·cases U
   all_goals (
    refine u6 ?_;refine f_ ((H4 rfl rfl).eb t) ?_;refine A5 ?_;(first|refine u_ ?_|(refine v_ ?_;refine f_ ((H4 rfl rfl).eb u) ?_));refine A5 ?_)
   all_goals exact p_ sub i_
  refine O_ ?_ ?_<;>intro h2
  ·have f:R1 c=true:=v.trans h2;have h8:48<=c.toNat/\c.toNat<=57:=by
    unfold R1 at f;simp only[jw,j7] at f;exact f
   have V:∀j,j<k+1->R1 (s.getD j 0)=true:=fun j hj=>by
    rcases jd.1 hj with X|rfl
    ·exact r j X
    ·rw[<-hc];exact f
   have g:=GI p;rw[<-hc] at g;obtain⟨n,hn⟩:=o9 (T_ 0 (s.take k));rw[<-hn] at g l⊢;unfold E6 at l;refine u6 ?_;refine f_ ((og rfl rfl (z:=((c.toNat-48:Nat):Int)) (by rw[IntKind.wrap_u8];omega))) ?_;refine E8 ?_;refine f_ (cr rfl qb) ?_;refine f_ ((K_ rfl rfl).eq (v':=.bool false) (qn qj)) ?_;refine A5 ?_;refine f_ ((K_ rfl rfl).eq (v':=.bool (decide (1844674407370955162<=n))) (qn (kz.mpr qb))) ?_;refine O_ ?_ ?_<;>intro q
   ·have X:=zy q;have a:bA s=none:=rX (k:=k+1) (by rw[g];unfold E6;omega);refine u6 ?_;refine f_ (Z_ x7 rfl) ?_;refine M4 ?_;exact w8 rfl rfl rfl [] ⟨rfl,.inr ⟨9223372036854775807,1,rfl,.inl rfl,a⟩⟩ (fun w e=>e.dropAll)
   have X:=zu q;obtain⟨z,hz⟩:=o9 (α:=Nat) ((n*10+(c.toNat-48))%18446744073709551616);refine A5 ?_;refine f_ (A3 rfl qb) ?_;refine f_ ((rH rfl rfl qb).eq (v':=.int .u64 ((n*10:Nat):Int)) (by congr 1)) ?_;refine E8 ?_;refine f_ (A3 rfl qb) ?_;refine f_ ((jA rfl rfl (z:=((z:Nat):Int)) (by rw[IntKind.wrap_u64];omega))) ?_;refine u6 ?_;obtain⟨Y,y⟩:=o9 (decide ((z:Int)<((n*10:Nat):Int)));obtain⟨e2,A⟩:=o9 (decide ((z:Int)>9223372036854775807));have C:(Y||e2)=true↔9223372036854775807<n*10+(c.toNat-48):=by
    rw[Zh,y,A,j7,j7];omega
   refine x6 ?_;refine x8 [(0,B s),(1,.int .i64 10),(8,.bool false),(10,.int .u64 1844674407370955162),(11,.int .u64 9223372036854775807),(12,.bool false),(17,.int .u64 (z:Nat)),(99,.slice b s.length d),(100,r7 s.length),(101,r7 k),(159,.bool (Y||e2))] [.own (.slice b s.length d) 5 1 (B3 s)] ?_ ?_
   ·cases Y
    all_goals (
     refine A5 ?_;refine f_ ((F8 rfl rfl).eb y) ?_;refine E8 ?_;(first|refine u_ ?_|(refine v_ ?_;refine f_ ((E9 rfl rfl).eb A) ?_));refine u6 ?_)
    all_goals exact p_ sub i_
   refine O_ ?_ ?_<;>intro Z
   ·have h6:=C.1 Z;have a:bA s=none:=rX (k:=k+1) (by rw[g];unfold E6;omega);refine u6 ?_;refine f_ (Z_ x7 rfl) ?_;refine M4 ?_;exact w8 rfl rfl rfl [] ⟨rfl,.inr ⟨9223372036854775807,1,rfl,.inl rfl,a⟩⟩ (fun w e=>e.dropAll)
   ·have h6:¬9223372036854775807<n*10+(c.toNat-48):=fun x=>(by rw[C.2 x] at Z;cases Z);have D:z=T_ 0 (s.take (k+1)):=(by rw[g,hz];omega);refine P1 ?_;refine l8 (k+1) ⟨by omega,V,by rw[<-D,hz];unfold E6;omega⟩ qb ?_ ?_
    ·rw[<-D];exact sub
    ·intro w e;exact e
  ·have f:R1 c=false:=v.trans h2;have a:bA s=none:=DC p (by rw[<-hc];exact f);obtain⟨m,hm⟩:=o9 (bits .or .u8 (c.toNat:Nat) 32);obtain⟨l1,J⟩:=o9 (decide ((97:Int)<=m));obtain⟨l2,M⟩:=o9 (decide (m<=122));have o:=GQ (c.toNat:Nat);rw[<-hm] at o;refine x6 ?_;refine x8 [(0,B s),(1,.int .i64 10),(15,U8 c),(101,r7 k),(121,.bool (l1&&l2))] [.own (.slice b s.length d) 5 1 (B3 s)] ?_ ?_
   ·cases l1
    all_goals (
     refine u6 ?_;refine c_ rfl o qw rfl ?_;refine f_ ((H4 rfl rfl).eb J) ?_;refine A5 ?_;(first|refine u_ ?_|(refine v_ ?_;refine c_ rfl o qw rfl ?_));(first|refine u_ ?_|(refine v_ ?_;refine f_ ((H4 rfl rfl).eb M) ?_));refine A5 ?_)
    all_goals exact p_ sub i_
   refine O_ ?_ ?_<;>intro q
   ·have h9:97<=m/\m<=122:=by
     simp only[jw] at q;exact⟨zy (J.symm.trans q.1),zy (M.symm.trans q.2)⟩
    refine u6 ?_;refine c_ rfl o qw rfl ?_;refine f_ ((og rfl rfl (z:=m-97) (by rw[IntKind.wrap_u8];omega))) ?_;refine f_ ((jA rfl rfl (z:=m-97+10) (by rw[IntKind.wrap_u8];omega))) ?_;refine E8 ?_;refine f_ (cr rfl qb) ?_;refine f_ ((K_ rfl rfl).eq (v':=.bool true) (qn qk)) ?_;refine D1 ?_;refine f_ (Z_ x7 rfl) ?_;refine M4 ?_;exact w8 rfl rfl rfl [] ⟨rfl,.inr ⟨0,2,rfl,.inr rfl,a⟩⟩ (fun w e=>e.dropAll)
   ·refine D1 ?_;refine f_ (Z_ x7 rfl) ?_;refine M4 ?_;exact w8 rfl rfl rfl [] ⟨rfl,.inr ⟨0,2,rfl,.inr rfl,a⟩⟩ (fun w e=>e.dropAll)
 ·have h1:k=s.length:=by simp at h;omega
  subst h1;rw[Qn] at l;rw[Qn];refine E8 ?_;(first|refine u_ ?_|(refine v_ ?_;fail));refine KI ?_;exact w8 rfl rfl rfl [] ⟨rfl,.inl ⟨rfl,O,r,l⟩⟩ (fun w e=>e.dropAll)
section
variable{P:zj}{L:G9}{dst:Option Tmp}{t t':zk}{x y:zw}{ty:zk}{pos:String}{af:Array Edge}{gd:Option (Nat×Bool)}
def mw{a:Array (String×zk)}{u:zk}{v:Value}[hu:HU P t (.interface a)](hx:ev L x=some (.iface u v))(b:ev L y=some .nilIface):E5 P ⟨dst,.binOp .neq t x y t',ty,pos,af,gd⟩ L (.bool true):=by
 have c:P.underlying t=some (.interface (P.methodsAt t)):=by unfold Program.methodsAt;rw[hu.h]
 exact L8 hx b (fun w=>by
  rw[eqGuard_at_iface];exact run_neq_held_nil w t u v c)
def kB{a:Array (String×zk)}{c:Value}[hu:HU P t (.interface a)](hx:ev L x=some .nilIface)(b:ev L (.const c)=some .nilIface):E5 P ⟨dst,.binOp .neq t x (.const c) t',ty,pos,af,gd⟩ L (.bool false):=by
 have d:P.underlying t=some (.interface (P.methodsAt t)):=by unfold Program.methodsAt;rw[hu.h]
 exact L8 hx b (fun w=>by
  rw[eqGuard_nil_constR];exact run_neq_nil_nil w t d)
end
def my{w:World}{b:Nat}{v:Value}{t:zk}{fr:Nat×Nat}(h:hp w b=some (.cells #[v] t fr)):w.cell? ⟨b,0,none⟩=some v:=by
 have a:w.heap[b]? =some (.cells #[v] t fr):=h;simp[World.cell?,a]
def a2h(v:Value)(A:List As):Prop:=A=[]/\∃N:Nat,v=.iface 388 (.pointer (some ⟨N,0,none⟩))
def GT{P:zj}{f:FuncId}{args:zq}{d:l_->Prop}{Q:Value->Prop}(h:∀w,d (hp w)->Calls P f args.toArray w fun e w'=>∃v,e=.returned v/\Q v/\Below w.heap.size w w'):Ct P f args d [] (fun v A=>A=[]/\Q v):=by
 intro w k g l c;have m:k=[]:=g;subst m;rw[O1] at c;refine(h w c).mono ?_;rintro e w' ⟨v,rfl,n,a⟩;refine⟨v,[],rfl,⟨rfl,n⟩,a.os,a.tape,a.output,fun b o i=>?_,[],rfl,Zn,by simp⟩;have j:w.heap[b]? =some o:=cq w [] b o i;have p:b<w.heap.size:=(jp.1 j).1;show w'.heap[b]? =_;rw[a.block b p];exact j
def yI(fn s:Bs)(base a k:Int)(hs:s.length<=281474976710656)(f:k=1\/k=2):Ct prog 322 [B fn,B s,.int .i64 base,.int .i64 a,.iface 386 (.int .i64 k)] Gl [] a2h:=by
 refine GT fun w hg=>?_;rcases f with rfl|rfl
 ·obtain⟨e,t,g,b,c⟩:=hg.rng;refine(Tryz.strconv_toError_range ⟨fn.toArray⟩ ⟨s.toArray⟩ base a e w (by simpa[ByteArray.size] using hs) (my b) c).mono ?_;rintro e h ⟨N,rfl,_,_,d⟩;exact⟨_,rfl,⟨N,rfl⟩,d⟩
 ·obtain⟨e,t,g,b,c⟩:=hg.syn;refine(Tryz.strconv_toError_syntax ⟨fn.toArray⟩ ⟨s.toArray⟩ base a e w (by simpa[ByteArray.size] using hs) (my b) c).mono ?_;rintro e h ⟨N,rfl,_,_,d⟩;exact⟨_,rfl,⟨N,rfl⟩,d⟩
def UP2(s:Bs)(v:Value)(A:List As):Prop:=A=[]/\((v=.tuple #[.int .u64 (T_ 0 s:Nat),.nilIface]/\GS s)\/∃(n:Int) (N:Nat),v=.tuple #[.int .u64 n,.iface 388 (.pointer (some ⟨N,0,none⟩))]/\bA s=none)
def ui(s:Bs)(hs:s.length<=281474976710656):Ct prog 250 [B s,.int .i64 10,.int .i64 63] Gl [] (UP2 s):=by
 refine b_ 26 func250 rfl rfl rfl ?_;intro F hg;refine RG ?_;refine m_ ?_;refine m_ ?_;refine m_ ?_;refine y5 _ rfl (ry s qb) i_ qw rfl ?_;rintro v A ⟨rfl,⟨rfl,b⟩|⟨n,k,rfl,c,a⟩⟩
 ·skip
  refine m_ ?_;refine f_ (U9 rfl rfl) ?_;refine f_ (U9 rfl rfl) ?_;refine a_ ?_;refine a_ ?_;refine G5 ?_;refine u6 ?_;refine f_ (kB rfl rfl) ?_;refine cn ?_;exact w8 rfl rfl rfl [] ⟨rfl,.inl ⟨rfl,b⟩⟩ i_
 ·skip
  refine m_ ?_;refine f_ (U9 rfl rfl) ?_;refine f_ (U9 rfl rfl) ?_;refine a_ ?_;refine a_ ?_;refine G5 ?_;refine u6 ?_;refine f_ (mw rfl rfl) ?_;refine al ?_;refine y5 _ rfl (yI _ s 10 63 k hs c) i_ (fun h d e=>hg.le d) rfl ?_;rintro v A ⟨rfl,N,rfl⟩;refine M4 ?_;exact w8 rfl rfl rfl [] ⟨rfl,.inr ⟨n,N,rfl,a⟩⟩ i_
def LK{s:Bs}(h:GS s):bA s=if T1 (T_ 0 s)=s then some (T_ 0 s) else none:=by
 unfold bA;by_cases h1:T1 (T_ 0 s)=s
 ·rw[zr ⟨h1,h.le⟩,zr h1]
 ·rw[zb (fun x=>h1 x.1),zb h1]
def fb(s:Bs)(hs:s.length<=281474976710656):Pu prog 179 [B s] Gl (GG (bA s)):=by
 refine b_ 20 func179 rfl rfl rfl ?_;intro F hg;refine RG ?_;refine m_ ?_;refine y5 _ rfl (ui s hs) i_ (fun h c d=>hg.le c) rfl ?_;rintro v A ⟨rfl,⟨rfl,a⟩|⟨n,N,rfl,b⟩⟩
 ·skip
  refine m_ ?_;refine f_ (U9 rfl rfl) ?_;refine f_ (U9 rfl rfl) ?_;refine a_ ?_;refine a_ ?_;refine G5 ?_;rw[LK a];have e:T_ 0 s<18446744073709551616:=by have:=a.le;unfold E6 at this;omega
  refine u6 ?_;refine f_ (kB rfl rfl) ?_;refine A5 ?_;(first|refine u_ ?_|(refine v_ ?_;refine c_ rfl (aT (T_ 0 s) e) (fun h c d=>hg.le c) rfl ?_));refine u6 ?_;(first|refine u_ ?_|(refine v_ ?_;refine f_ ((F7 rfl rfl).eq (v':=.bool (!decide (T1 (T_ 0 s)=s))) rfl) ?_));refine T2 ?_ ?_<;>intro h
  ·rw[zb (by simpa using h)];refine M4 ?_;exact w8 rfl rfl rfl [] qh i_
  ·rw[zr (by simpa using h)];refine cn ?_;exact w8 rfl rfl rfl [] qh i_
 ·skip
  refine m_ ?_;refine f_ (U9 rfl rfl) ?_;refine f_ (U9 rfl rfl) ?_;refine a_ ?_;refine a_ ?_;refine G5 ?_;rw[b];refine u6 ?_;refine f_ (mw rfl rfl) ?_;refine A5 ?_;(first|refine u_ ?_|(refine v_ ?_;fail));refine KI ?_;exact w8 rfl rfl rfl [] qh i_
open Go Go.Sl Go.RowKit Go.Proofs.Tryz
def uj(c:UInt8):Pu prog 172 [U8 c] (fun _=>True) (.bool (bB c)):=by
 obtain⟨d,f⟩:=o9 (decide ((c.toNat:Int)>0));obtain⟨g,i⟩:=o9 (decide ((c.toNat:Int)<128));obtain⟨j,k⟩:=o9 (!decide (c=10));obtain⟨m,l⟩:=o9 (!decide (c=13));have e:bB c=(d&&g&&j&&m):=by
  rw[f,i,k,l];unfold bB;have n:decide (0<c.toNat)=decide ((c.toNat:Int)>0):=kz.mpr qb;have o:decide (c.toNat<128)=decide ((c.toNat:Int)<128):=kz.mpr qb;rw[n,o];by_cases a:c=10<;>by_cases b:c=13<;>simp[a,b]
 rw[e];clear e;refine b_ 17 func172 rfl rfl rfl ?_;intro F _;refine u6 ?_
 cases d<;>cases g<;>cases j
 all_goals (
  refine u6 ?_;refine f_ ((E9 rfl rfl).eb f) ?_;refine A5 ?_;(first|refine u_ ?_|(refine v_ ?_;refine f_ ((F8 rfl rfl).eb i) ?_));refine E8 ?_;(first|refine u_ ?_|(refine v_ ?_;refine f_ ((M2 rfl rfl).eq ((jh (fun b=>Value.bool (!b)) (iv (b:=10))).trans (qn k.symm))) ?_));refine E8 ?_;(first|refine u_ ?_|(refine v_ ?_;refine f_ ((M2 rfl rfl).eq ((jh (fun b=>Value.bool (!b)) (iv (b:=13))).trans (qn l.symm))) ?_));refine A5 ?_)
 all_goals (refine B4 ?_;exact d_ rfl rfl [] qh (fun _ h=>h))
def yJ(s:Bs)(c:UInt8):decide (Lib.indexByte s c<0)=!s.contains c:=by
 rw[eW]
 cases s.contains c with
 |true=>simp
 |false=>simp
def GU(c:UInt8):Pu prog 99 [U8 c] (fun _=>True) (.bool (R2 c)):=by
 obtain⟨a,b⟩:=o9 (decide ((c.toNat:Int)>32));obtain⟨d,f⟩:=o9 (decide ((c.toNat:Int)<127));obtain⟨i,g⟩:=o9 (!([40,41,123,37,42,34,92,93]:Bs).contains c);have e:R2 c=(a&&d&&i):=by
  rw[b,f,g];unfold R2;have j:decide (33<=c.toNat)=decide ((c.toNat:Int)>32):=kz.mpr qb;have k:decide (c.toNat<=126)=decide ((c.toNat:Int)<127):=kz.mpr qb;rw[j,k]
 rw[e];clear e;refine b_ 14 func99 rfl rfl rfl ?_;intro F _;refine u6 ?_
 cases a<;>cases d
 all_goals (
  refine u6 ?_;refine f_ ((E9 rfl rfl).eb b) ?_;refine A5 ?_;(first|refine u_ ?_|(refine v_ ?_;refine f_ ((F8 rfl rfl).eb f) ?_));refine E8 ?_;(first|refine u_ ?_|(refine v_ ?_;refine c_ rfl (av [40,41,123,37,42,34,92,93] c) qw rfl ?_));(first|refine u_ ?_|(refine v_ ?_;refine f_ ((F8 rfl rfl).eq (qn ((yJ _ c).trans g.symm))) ?_));refine A5 ?_)
 all_goals (refine B4 ?_;exact d_ rfl rfl [] qh (fun _ h=>h))
def LL(c:UInt8):Pu prog 187 [U8 c] (fun _=>True) (.bool (Di c)):=by
 obtain⟨a,b⟩:=o9 (decide ((c.toNat:Int)≥32));obtain⟨d,f⟩:=o9 (decide ((c.toNat:Int)<127));obtain⟨i,g⟩:=o9 (!([37,42,34,92]:Bs).contains c);have e:Di c=(a&&d&&i):=by
  rw[b,f,g];unfold Di;have j:decide (32<=c.toNat)=decide ((c.toNat:Int)≥32):=kz.mpr qb;have k:decide (c.toNat<=126)=decide ((c.toNat:Int)<127):=kz.mpr qb;rw[j,k]
 rw[e];clear e;refine b_ 14 func187 rfl rfl rfl ?_;intro F _;refine u6 ?_
 cases a<;>cases d
 all_goals (
  refine u6 ?_;refine f_ ((K_ rfl rfl).eb b) ?_;refine A5 ?_;(first|refine u_ ?_|(refine v_ ?_;refine f_ ((F8 rfl rfl).eb f) ?_));refine E8 ?_;(first|refine u_ ?_|(refine v_ ?_;refine c_ rfl (av [37,42,34,92] c) qw rfl ?_));(first|refine u_ ?_|(refine v_ ?_;refine f_ ((F8 rfl rfl).eq (qn ((yJ _ c).trans g.symm))) ?_));refine A5 ?_)
 all_goals (refine B4 ?_;exact d_ rfl rfl [] qh (fun _ h=>h))
def GV(f:FuncId)(p:UInt8->Bool)(hp:∀c,Pu prog f [U8 c] (fun _=>True) (.bool (p c)))[hF:HF prog f](s:Bs)(hs:s.length<=9223372036854775806):Pu prog 98 [B s,.func (.func f) #[] #[]] (fun _=>True) (.bool (s.all p&&!s.isEmpty)):=by
 refine b_ 20 func98 rfl rfl rfl ?_;intro F _;refine P1 ?_;refine o8 (ι:=Nat) (fun k=>k<=s.length/\∀j,j<k->p (s.getD j 0)=true) (fun k=>[(0,B s),(1,.func (.func f) #[] #[]),(7,r7 s.length),(8,r7 k)]) (fun _=>[]) (fun k=>s.length-k) 0 ⟨by omega,fun j h=>by omega⟩ ?_ ?_ ?_
 ·exact sub
 ·intro w b;exact b
 rintro k ⟨n,a⟩;refine T2 ?_ ?_<;>intro h
 ·have d:k<s.length:=by simp at h;omega
  refine al ?_;refine f_ ((B5 rfl rfl qb).eq (v':=U8 (s.getD k 0)) (by simp only[Qy])) ?_;refine A4 [] rfl rfl (ps:=[]) (qs:=[]) rfl (hp (s.getD k 0)) i_ qw rfl ?_;rintro v A ⟨rfl,rfl⟩;refine T2 ?_ ?_<;>intro i
  ·have e:p (s.getD k 0)=false:=(by simpa using i);rw[yF d e,Bool.false_and];refine D0 ?_;exact d_ rfl rfl [] qh (fun _ h=>h)
  ·have e:p (s.getD k 0)=true:=(by simpa using i);refine A5 ?_;refine l8 (k+1) ⟨by omega,fun j l=>?_⟩ qb ?_ ?_
   ·rcases jd.1 l with m|rfl
    ·exact a j m
    ·exact e
   ·exact sub
   ·intro w b;exact b
 ·have g:k=s.length:=by simp at h;omega
  subst g;rw[Bh a,K3];refine u6 ?_;refine f_ ((F7 rfl rfl).eq (v':=.bool (!s.isEmpty)) (by cases s<;>simp)) ?_;refine D0 ?_;exact d_ rfl rfl [] qh (fun _ h=>h)
def pj(s:Bs)(hs:s.length<=9223372036854775806):Pu prog 47 [B s] (fun _=>True) (.bool (jF s)):=by
 refine b_ 5 func47 rfl rfl rfl ?_;intro F _;refine A5 ?_;refine c_ rfl (GV 99 R2 GU s hs) qw rfl ?_;refine D0 ?_;exact d_ rfl rfl [] qh (fun _ h=>h)
def aZ(a b:Bs):B3 (a++b)=B3 a++B3 b:=by simp[B3]
def rY{a r:Bs}{d c:UInt8}:M3 (B3 (a++d::r)) a.length [U8 c]=B3 (a++c::r):=by
 unfold M3;rw[aZ,aZ];have b:(B3 a).length=a.length:=iR a;rw[Yy b,Qq,<-b,Jk];simp[B3]
def wv(f:UInt8->UInt8){s:Bs}{k:Nat}(a:k<s.length):(s.take (k+1)).map f++s.drop (k+1)=(s.take k).map f++f (s.getD k 0)::s.drop (k+1):=by
 rw[rv f a];simp
def J_(s:Bs)(hl:s.length<=9223372036854775806):Pu prog 84 [B s] (fun _=>True) (B (R3 s)):=by
 refine b_ 29 func84 rfl rfl rfl ?_;intro F _;refine A5 ?_;refine ot rfl rfl ?_;intro o p T;refine P1 ?_;refine o8 (ι:=Nat) (fun k=>k<=s.length) (fun k=>[(3,.slice o s.length p),(8,.slice o s.length p),(9,r7 s.length),(10,r7 k)]) (fun k=>[.own (.slice o s.length p) 5 1 (B3 (R3 (s.take k)++s.drop k))]) (fun k=>s.length-k) 0 qb ?_ ?_ ?_
 ·exact sub
 ·intro w f;exact f
 rintro k V;refine T2 ?_ ?_<;>intro h
 ·have t:k<s.length:=by simp at h;omega
  have j:=wv rP t;have g:=cF t;have m:(R3 (s.take k)).length=k:=by unfold R3;rw[kg,kr];omega
  obtain⟨c,hc⟩:=o9 (s.getD k 0);rw[<-hc] at j g;have x:(R3 (s.take k)++s.drop k).getD k 0=c:=by
   rw[z8,jc qb,m,Jc,g];rfl
  have y:(R3 (s.take k)++s.drop k).length=s.length:=by rw[zg,m,jz];omega
  have A:=c.toNat_lt;refine u6 ?_;refine r_ (T0 rfl ud rfl qb) ?_;refine r_ ((l5 rfl (fun w f=>ug f ud (i:=k) qb qb)).eq (v':=U8 c) (by rw[x])) ?_;refine A5 ?_;obtain⟨C,D⟩:=o9 (decide ((c.toNat:Int)≥97));obtain⟨Q,J⟩:=o9 (decide ((c.toNat:Int)<=122));refine x6 ?_;refine x8 [(3,.slice o s.length p),(4,r7 k),(5,U8 c),(8,.slice o s.length p),(9,r7 s.length),(10,r7 k),(20,.bool (C&&Q))] [.own (.slice o s.length p) 5 1 (B3 (R3 (s.take k)++s.drop k))] ?_ ?_
  ·cases C
   all_goals (
    refine u6 ?_;refine f_ ((K_ rfl rfl).eb D) ?_;refine A5 ?_;(first|refine u_ ?_|(refine v_ ?_;refine f_ ((H4 rfl rfl).eb J) ?_));refine u6 ?_)
   all_goals exact p_ sub i_
  refine O_ ?_ ?_<;>intro u
  ·have M:97<=c.toNat/\c.toNat<=122:=by
    simp only[jw] at u;have a:=zy (D.symm.trans u.1);have b:=zy (J.symm.trans u.2);omega
   have n:rP c=c-32:=(by unfold rP;rw[zr M]);have S:(c.toNat:Int)-32=((c-32).toNat:Nat):=by
    rw[UInt8.toNat_sub];simp;omega
   refine E8 ?_;refine f_ ((og rfl rfl (z:=((c-32).toNat:Nat)) (by rw[IntKind.wrap_u8];omega))) ?_;refine r_ (T0 rfl ud rfl qb) ?_;refine U_ (q:=k*1) rfl rfl uh (by rfl) qp Pk (by rw[iR,y];omega) ?_;refine A5 ?_;refine l8 (k+1) qb qb ?_ ?_
   ·exact sub
   ·intro w f;have e:M3 (B3 (R3 (s.take k)++s.drop k)) (k*1) [U8 (c-32)]=B3 (R3 (s.take (k+1))++s.drop (k+1)):=by
     have v:R3 (s.take (k+1))++s.drop (k+1)=R3 (s.take k)++(c-32)::s.drop (k+1):=(by rw[<-n];exact j);rw[v,g,Z0];have U:=rY (a:=R3 (s.take k)) (r:=s.drop (k+1)) (d:=c) (c:=c-32)
     rwa [m] at U
    rw[<-e];exact f
  ·have n:rP c=c:=by
    unfold rP;refine zb fun X=>?_;have a:C=true:=D.trans qk;have b:Q=true:=J.trans qk;rw[a,b] at u
    cases u
   refine A5 ?_;refine l8 (k+1) qb qb ?_ ?_
   ·exact sub
   ·intro w f;have e:R3 (s.take k)++s.drop k=R3 (s.take (k+1))++s.drop (k+1):=by
     have v:R3 (s.take (k+1))++s.drop (k+1)=R3 (s.take k)++rP c::s.drop (k+1):=j;rw[v,n,g]
    rw[<-e];exact f
 ·have O:k=s.length:=by simp at h;omega
  subst O;refine u6 ?_;refine r_ (cv (l:=R3 s) rfl (by simp[R3]) (fun w f=>by have v:=(f.ownN .del).2.2.1;rwa [Qn,Ww,jk] at v)) ?_;refine D0 ?_;exact d_ rfl rfl [] qh (fun _ h=>h.dropAll)
def pm(l:Bs):∀q∈B3 l,q.oneCell'=true:=fun q a=>by
 obtain⟨x,_,rfl⟩:=jr.mp a;rfl
def PR{b:Bs}{i:Nat}{c:UInt8}{t:Bs}(h:bB c=false\/512<b.length):AL b i (c::t)=none:=by
 rw[jG];rcases h with h|h
 ·split
  ·rfl
  split
  ·next a=>subst a;cases h
  split
  ·next a=>subst a;cases h
  ·simp[h]
 ·rw[zr h]
def mz(s:Bs)(hl:s.length<=lD):Pu prog 178 [B s] (fun _=>True) (PP (vO s)):=by
 unfold lD at hl;obtain⟨u,y⟩:=o9 (decide (s=[]));obtain⟨A,O⟩:=o9 (decide (s.getD 0 0=34));have hq:(u||!A)=true->vO s=none:=fun h=>by
  cases s with
  |nil=>rfl
  |cons c t=>
   have g:u=false:=y.trans (Qk x7);rw[g,Jz] at h;have Q:A=false:=(by simpa using h);have a3:¬c=34:=zu (O.symm.trans Q);unfold vO;simp only;rw[zb a3]
 have S:(u||!A)=false->vO s=AL [] 1 (s.drop 1)/\1<=s.length:=fun h=>by
  cases s with
  |nil=>
   have g:u=true:=y.trans (ju rfl);rw[g] at h
   cases h
  |cons c t=>
   have g:u=false:=y.trans (Qk x7);rw[g,Jz] at h;have Q:A=true:=(by simpa using h);have a3:c=34:=zy (O.symm.trans Q);unfold vO;simp only;rw[zr a3];exact⟨rfl,by simp⟩
 refine b_ 74 func178 rfl rfl rfl ?_;intro F _;refine E8 ?_;refine x8 [(0,B s),(14,.bool (u||!A))] [] ?_ ?_
 ·cases u
  all_goals (
   refine u6 ?_;refine f_ ((C9 rfl rfl).eb y) ?_;refine A5 ?_;(first|refine u_ ?_|(refine v_ ?_;refine f_ ((B5 rfl rfl (by have:s≠[]:=zu y.symm;have:=Kb.mpr this;omega)).eq (v':=U8 (s.getD 0 0)) rfl) ?_));(first|refine u_ ?_|(refine v_ ?_;refine f_ ((M2 rfl rfl).eq ((jh (fun b=>Value.bool (!b)) (iv (b:=34))).trans (jh (fun b=>Value.bool (!b)) O.symm))) ?_));refine u6 ?_)
  all_goals exact p_ sub i_
 refine O_ ?_ ?_<;>intro h
 ·rw[hq h];refine cn ?_;exact de rfl rfl rfl rfl [] qh (fun _ h=>h)
 obtain⟨T,U⟩:=S h;refine A5 ?_;refine P8 5 1 ?_;refine o8 (ι:=Nat×Bs×qr×Nat) (fun i=>1<=i.1/\i.1<=s.length/\i.2.1.length<=513/\vO s=AL i.2.1 i.1 (s.drop i.1)) (fun i=>[(0,B s),(5,.slice i.2.2.1 i.2.1.length i.2.2.2),(6,r7 i.1)]) (fun i=>[.own (.slice i.2.2.1 i.2.1.length i.2.2.2) 5 1 (B3 i.2.1)]) (fun i=>s.length-i.1) (1,[],none,0) ⟨by simp,U,by simp,T⟩ ?_ ?_ ?_
 ·exact sub
 ·intro w j;exact j
 rintro⟨k,b,a,c⟩ ⟨V,hk,X,f⟩;simp only at V hk X f;obtain⟨Y,o⟩:=o9 (decide ((k:Int)<(s.length:Nat)));obtain⟨d,C⟩:=o9 (s.getD k 0);obtain⟨Z,v⟩:=o9 (bB d);obtain⟨p3,p⟩:=o9 (decide ((b.length:Int)<=512));refine x6 ?_;refine x8 [(0,B s),(5,.slice a b.length c),(6,r7 k),(29,.bool (Y&&(Z&&p3)))] [.own (.slice a b.length c) 5 1 (B3 b)] ?_ ?_
 ·cases Y<;>cases Z
  all_goals (
   refine E8 ?_;refine f_ ((F8 rfl rfl).eb o) ?_;refine E8 ?_;(first|refine u_ ?_|(refine v_ ?_;refine f_ ((B5 rfl rfl (by have:=zy o.symm;omega)).eq (v':=U8 d) (by rw[C];simp only[Qy])) ?_));(first|refine u_ ?_|(refine v_ ?_;refine c_ rfl (uj d) qw rfl ?_;rw[<-v]));refine P1 ?_;(first|refine u_ ?_|(refine v_ ?_;refine f_ ((H4 rfl rfl).eb p) ?_));refine u6 ?_)
  all_goals exact p_ sub i_
 refine O_ ?_ ?_<;>intro h
 rotate_left
 ·have e:vO s=none:=by
   rw[f];rcases Q6 k s.length with m|m
   ·rw[cF m,<-C];have g:Y=true:=o.trans qk;rw[g,K3] at h;refine PR ?_
    cases Z with
    |false=>exact .inl v.symm
    |true=>
     rw[K3] at h;rw[h] at p;have:=zu p.symm;exact .inr qb
   ·rw[Q7 m];rfl
  rw[e];refine cn ?_;exact de rfl rfl rfl rfl [] qh (fun _ h=>h.dropAll)
 simp only[jw] at h;have h0:k<s.length:=by have:=zy (o.symm.trans h.1);omega
 have h7:bB d=true:=v.symm.trans h.2.1;have k8:b.length<=512:=by have:=zy (p.symm.trans h.2.2);omega
 rw[cF h0,<-C,jG,zb qb] at f;refine A5 ?_;refine f_ ((B5 rfl rfl qb).eq (v':=U8 d) (by rw[C];simp only[Qy])) ?_;refine u6 ?_;obtain⟨r1,x⟩:=o9 (decide (d=34));refine x6 ?_;refine x8 [(0,B s),(5,.slice a b.length c),(6,r7 k),(7,U8 d),(35,.bool r1)] [.own (.slice a b.length c) 5 1 (B3 b)] ?_ ?_
 ·cases r1
  all_goals (
   refine u6 ?_;refine f_ ((q_ rfl rfl).eq ((qn (iv (b:=34))).trans (qn x.symm))) ?_;refine E8 ?_;(first|refine u_ ?_|(refine v_ ?_;refine f_ ((H4 rfl rfl).eq (v':=.bool true) (qn qk)) ?_));refine A5 ?_)
  all_goals exact p_ sub i_
 refine O_ ?_ ?_<;>intro h3
 ·rw[zr (zy (x.symm.trans h3))] at f;rw[f];refine u6 ?_;refine r_ (cv (l:=b) rfl rfl (fun w j=>(j.ownN ud).2.2.1)) ?_;refine KI ?_;exact de rfl rfl rfl rfl [] qh (fun _ h=>h.dropAll)
 rw[zb (zu (x.symm.trans h3))] at f;refine u6 ?_;refine f_ ((q_ rfl rfl).eq (v':=.bool (decide (d=92))) (qn (iv (b:=92)))) ?_;refine T2 ?_ ?_<;>intro h4
 ·rw[zr (zy h4)] at f;refine E8 ?_;obtain⟨z,hz⟩:=o9 (s.getD (k+1) 0);obtain⟨D,n⟩:=o9 (decide (((k:Int)+1)≥(s.length:Nat)));obtain⟨u2,q⟩:=o9 (decide (z=34));obtain⟨u3,r⟩:=o9 (decide (z=92));refine x6 ?_;refine x8 [(0,B s),(5,.slice a b.length c),(6,.int .i64 ((k:Int)+1)),(67,.bool (D||(!u2&&!u3)))] [.own (.slice a b.length c) 5 1 (B3 b)] ?_ ?_
  ·cases D<;>cases u2
   all_goals (
    refine E8 ?_;refine f_ ((K_ rfl rfl).eb n) ?_;refine E8 ?_;(first|refine u_ ?_|(refine v_ ?_;refine f_ ((B5 rfl rfl (by have:=zu n.symm;omega)).eq (v':=U8 z) (by rw[hz];rfl)) ?_));(first|refine u_ ?_|(refine v_ ?_;refine f_ ((M2 rfl rfl).eq ((jh (fun b=>Value.bool (!b)) (iv (b:=34))).trans (jh (fun b=>Value.bool (!b)) q.symm))) ?_));refine E8 ?_;(first|refine u_ ?_|(refine v_ ?_;refine f_ ((B5 rfl rfl (by have:=zu n.symm;omega)).eq (v':=U8 z) (by rw[hz];rfl)) ?_));(first|refine u_ ?_|(refine v_ ?_;refine f_ ((M2 rfl rfl).eq ((jh (fun b=>Value.bool (!b)) (iv (b:=92))).trans (jh (fun b=>Value.bool (!b)) r.symm))) ?_));refine A5 ?_)
   all_goals exact p_ sub i_
  refine O_ ?_ ?_<;>intro m
  ·have e:vO s=none:=by
    rw[f];rcases Q6 (k+1) s.length with h6|h6
    ·rw[cF h6,<-hz];simp only;refine zb fun J=>?_;have g:D=false:=n.trans qj;rw[g,Jz] at m;simp only[jw,Kr] at m;rcases J with J|J
     ·rw[J,m.1] at q;cases q
     ·rw[J,m.2] at r;cases r
    ·rw[Q7 h6]
   rw[e];refine cn ?_;exact de rfl rfl rfl rfl [] qh (fun _ h=>h.dropAll)
  ·have g:D=false:=(by cases D with|false=>rfl|true=>cases m);have h8:k+1<s.length:=(by have:=zu (n.symm.trans g);omega);have h9:z=34\/z=92:=by
    rw[g,Jz] at m
    cases u2 with
    |true=>exact .inl (zy q.symm)
    |false=>
     cases u3 with
     |true=>exact .inr (zy r.symm)
     |false=>cases m
   rw[cF h8,<-hz] at f;simp only at f;rw[zr h9] at f;refine E8 ?_;refine f_ ((B5 rfl rfl qb).eq (v':=U8 z) (by rw[hz];rfl)) ?_;refine y6 rfl rfl rfl rfl rfl rfl (xs:=B3 [z]) rfl rfl ?_;intro Si M;refine C4 rfl rfl (fun a' c'=>.there .here) (fun w j=>(j.ownN ud).2.2.1) rfl rfl rfl (pm _) (by show(b.length+1)*1<=_;omega) qb rfl ?_;intro a6 c6 k0;refine A5 ?_;refine f_ ((r8 rfl rfl qb).eq (v':=.int .i64 ((k+2:Nat):Int)) (by congr 1)) ?_;refine u6 ?_;refine l8 (k+2,b++[z],a6,c6) ⟨by simp only;omega,by simp only;omega,by simp;omega,f⟩ qg ?_ ?_
   ·simp only;rw[zg];exact sub
   ·intro w j;simp only;rw[zg,aZ];exact j.drop
 ·rw[zb (zu h4),zr h7] at f;refine E8 ?_;refine f_ ((B5 rfl rfl qb).eq (v':=U8 d) (by rw[C];simp only[Qy])) ?_;refine y6 rfl rfl rfl rfl rfl rfl (xs:=B3 [d]) rfl rfl ?_;intro Si M;refine C4 rfl rfl (fun a' c'=>.there .here) (fun w j=>(j.ownN ud).2.2.1) rfl rfl rfl (pm _) (by show(b.length+1)*1<=_;omega) qb rfl ?_;intro a6 c6 k0;refine A5 ?_;refine f_ ((r8 rfl rfl qb).eq (v':=.int .i64 ((k+1:Nat):Int)) (by congr 1)) ?_;refine u6 ?_;refine l8 (k+1,b++[d],a6,c6) ⟨by simp only;omega,by simp only;omega,by simp;omega,f⟩ qg ?_ ?_
  ·simp only;rw[zg];exact sub
  ·intro w j;simp only;rw[zg,aZ];exact j.drop
def sc4(a b c:Bool):a=false\/(a=true/\b=true)\/(a=true/\b=false/\c=true)\/(a=true/\b=false/\c=false):=by
 cases a<;>cases b<;>cases c<;>simp
def Bo(s:Bs)(hl:s.length<=lD):Pu prog 108 [B s] (fun _=>True) (Tm (jH s)):=by
 unfold lD at hl;obtain⟨d,f⟩:=o9 ((s.all Di&&!s.isEmpty));obtain⟨g,j⟩:=o9 (decide ((s.length:Int)>64));obtain⟨i,k⟩:=o9 (decide (s.getD 0 0=32));obtain⟨l,m⟩:=o9 (decide (s.getD (s.length-1) 0=32));have c:d=true->1<=s.length:=fun h=>by
  rw[f] at h;simp only[jw,Kr,List.isEmpty_eq_false_iff] at h;exact Kb.mpr h.2
 have n:vP s=!(!d||(g||(i||l))):=by
  cases hq:d with
  |false=>
   unfold vP;rw[f] at hq;rw[Yq] at hq;rw[hq];rfl
  |true=>
   have hp:=c hq;unfold vP;rw[f,Yq] at hq;rw[hq,pf hp,GJ hp,j,k,m];have o:decide (s.length<=64)=!decide ((s.length:Int)>64):=by
    by_cases h:s.length<=64
    ·rw[ju h,Qk qb];rfl
    ·rw[Qk h,ju qb];rfl
   rw[o];generalize decide ((s.length:Int)>64)=x;by_cases a:s.getD 0 0=32<;>by_cases b:s.getD (s.length-1) 0=32<;>cases x<;>simp[a,b]
 refine b_ 31 func108 rfl rfl rfl ?_;intro F _;refine E8 ?_;refine x8 [(0,B s),(26,.bool (!d||(g||(i||l))))] [] ?_ ?_
 ·rcases sc4 d g i with rfl|⟨rfl,rfl⟩|⟨rfl,rfl,rfl⟩|⟨rfl,rfl,rfl⟩;all_goals (
   refine A5 ?_;refine c_ rfl (GV 187 Di LL s qb) qw rfl ?_;rw[<-f];refine P1 ?_;(first|refine u_ ?_|(refine v_ ?_;refine f_ ((E9 rfl rfl).eb j) ?_));refine E8 ?_;(first|refine u_ ?_|(refine v_ ?_;refine f_ ((B5 rfl rfl (by have:=c rfl;omega)).eq (v':=U8 (s.getD 0 0)) rfl) ?_));(first|refine u_ ?_|(refine v_ ?_;refine f_ ((q_ rfl rfl).eq ((qn (iv (b:=32))).trans (qn k.symm))) ?_));refine al ?_;(first|refine u_ ?_|(refine v_ ?_;refine f_ ((E7 rfl rfl (by have:=c rfl;omega)).eq (v':=.int .i64 ((s.length-1:Nat):Int)) (by have:=c rfl;congr 1;omega)) ?_));(first|refine u_ ?_|(refine v_ ?_;refine f_ ((B5 rfl rfl (by have:=c rfl;omega)).eq (v':=U8 (s.getD (s.length-1) 0)) (by simp only[Qy])) ?_));(first|refine u_ ?_|(refine v_ ?_;refine f_ ((q_ rfl rfl).eq ((qn (iv (b:=32))).trans (qn m.symm))) ?_));refine u6 ?_)
  all_goals exact p_ sub i_
 refine O_ ?_ ?_<;>intro h
 ·have e:jH s=none:=by unfold jH;rw[n,h];rfl
  rw[e];refine M4 ?_;exact w8 rfl rfl rfl [] qh (fun _ h=>h)
 have e:jH s=some (if R3 s=di then di else s):=by unfold jH;rw[n,h];rfl
 rw[e];refine u6 ?_;refine c_ rfl (J_ s qb) qw rfl ?_;refine f_ ((C9 rfl rfl).eq (v':=.bool (decide (R3 s=di))) rfl) ?_;refine O_ ?_ ?_<;>intro h
 ·rw[zr (zy h)];refine M4 ?_;exact w8 rfl rfl rfl [] qh (fun _ h=>h)
 ·rw[zb (zu h)];refine cn ?_;exact w8 rfl rfl rfl [] qh (fun _ h=>h)
open Go Go.RowKit Go.Proofs.Tryz
def iS(W:World)(w':World):Prop:=∃q os,w'=Sort.grow (W.drewN q) os
abbrev LN:Obj:=.cells #[.string ⟨#[92,65,110,115,119,101,114,101,100]⟩,.string ⟨#[92,70,108,97,103,103,101,100]⟩,.string ⟨#[92,68,101,108,101,116,101,100]⟩,.string ⟨#[92,83,101,101,110]⟩,.string ⟨#[92,68,114,97,102,116]⟩] 304
def pn(W:World):Calls prog 263 #[] W fun e w'=>e=.returned (.agg #[.string ⟨#[92,65,110,115,119,101,114,101,100]⟩,.string ⟨#[92,70,108,97,103,103,101,100]⟩,.string ⟨#[92,68,101,108,101,116,101,100]⟩,.string ⟨#[92,83,101,101,110]⟩,.string ⟨#[92,68,114,97,102,116]⟩])/\iS W w':=by
 go_enter func263,Tryz.ntmps263
 go_wp2
 refine bodyPost_ret (results_cell_row (d:=.array 5 9) rfl _ _ W.heap.size 304 _ (0,0) rfl (heap_alloc_new _ _) underlying304 rfl qd) rfl ?_;exact⟨rfl,0,_,Sort.alloc_eq_grow _ _⟩
abbrev DE:List ByteArray:=S5.map fun l=>(⟨l.toArray⟩:ByteArray)
def GW(w:World):∀j,j<DE.length->(w.alloc LN).cell? ⟨w.heap.size,0+j,none⟩=some (.string (DE.getD j ByteArray.empty)):=fun j a=>by
 rw[World.cell?_alloc_new];have:j<5:=a;have c:j=0\/j=1\/j=2\/j=3\/j=4:=by omega
 rcases c with rfl|rfl|rfl|rfl|rfl<;>rfl
def To{a b:Bs}:((⟨a.toArray⟩:ByteArray)=⟨b.toArray⟩)↔a=b:=by
 constructor
 ·intro h;have:a.toArray=b.toArray:=jh ByteArray.data h;simpa using this
 ·rintro rfl;rfl
def GX{a f:Bs}{t:List Bs}(h:¬a=f):(a::t).idxOf f=t.idxOf f+1:=by
 rw[List.idxOf_cons,show(a==f)=false from beq_eq_false_iff_ne.mpr h];rfl
def Tp(f:Bs):∀(l:List Bs) (i:Nat),Lib.idxFromS (l.map fun l=>(⟨l.toArray⟩:ByteArray)) ⟨f.toArray⟩ i=if l.idxOf f<l.length then((i+l.idxOf f:Nat):Int) else-1
 |[],i=>rfl
 |a::t,i=>by
  rw[Q2,Lib.idxFromS];by_cases h:a=f
  ·subst h;rw[zr rfl,List.idxOf_cons_self,zr qc];rfl
  ·rw[zb (fun x=>h (To.1 x)),Tp f t (i+1),GX h,z1];by_cases h2:t.idxOf f<t.length
   ·rw[zr h2,zr qb];congr 1;omega
   ·rw[zb h2,zb qb]
def LO(f:Bs):Lib.idxOfS (DE.take 5) ⟨f.toArray⟩=if N6 f<5 then(N6 f:Int) else-1:=by
 have e:DE.take 5=DE:=rfl;rw[e];have:=Tp f S5 0;rw[j6] at this;exact this
def rZ(f:Bs)(W:World)(q:Nat)(a:Array Obj):Calls prog 273 #[.slice (some ⟨W.heap.size+a.size,0,none⟩) 5 5,Sl.B f] ((Sort.grow (W.drewN q) a).alloc LN) fun e w'=>e=.returned (.int .i64 (if N6 f<5 then(N6 f:Int) else-1))/\w'=(Sort.grow (W.drewN q) a).alloc LN:=by
 have h:=Tryz.slices_Index_string (Sort.grow (W.drewN q) a).heap.size 0 5 5 DE ⟨f.toArray⟩ ((Sort.grow (W.drewN q) a).alloc LN) (kp 5) qb (GW _);rw[LO,Sort.size_grow] at h;exact h
def GY(W:World)(q:Nat)(a:Array Obj)(o:Obj):iS W ((Sort.grow (W.drewN q) a).alloc o):=⟨q,a++#[o],by rw[Sort.alloc_eq_grow,Sort.grow_grow]⟩
def Bp(f:Bs)(W:World):Calls prog 337 #[Sl.B f] W fun e w'=>e=.returned (.int .i64 (N6 f:Nat))/\iS W w':=by
 have hp:N6 f<=5:=Wx;by_cases h5:N6 f<5
 ·obtain⟨z,hz⟩:∃z:Int,z=(N6 f:Nat):=⟨_,rfl⟩;have d:0<=z:=by omega
  have a:=rZ f;rw[zr h5,<-hz] at a;rw[<-hz]
  go_enter func337,Tryz.ntmps337
  go_wp2_with (first|(go_at_call 263;refine(pn _).mono ?_;rintro e w' ⟨rfl,q,b,rfl⟩)|(go_at_call 273;refine(a W q b).mono ?_;rintro e w' ⟨rfl,rfl⟩))
  go_ret
  exact⟨by rw[hz];rfl,GY _ _ _ _⟩
 ·have c:N6 f=5:=by omega
  have a:=rZ f;rw[zb h5] at a;rw[c]
  go_enter func337,Tryz.ntmps337
  go_wp2_with (first|(go_at_call 263;refine(pn _).mono ?_;rintro e w' ⟨rfl,q,b,rfl⟩)|(go_at_call 273;refine(a W q b).mono ?_;rintro e w' ⟨rfl,rfl⟩))
  go_ret
  exact⟨rfl,GY _ _ _ _⟩
def iT(a b:Bs):Int:=if N6 a≠N6 b then(N6 a:Int)-N6 b else Lib.compareBytes a b
def mA{a b c:World}(h:iS a b)(k:iS b c):iS a c:=by
 obtain⟨q,e,rfl⟩:=h;obtain⟨f,d,rfl⟩:=k;exact⟨q+f,e++d,by rw[<-Sort.grow_grow];show _=Sort.grow (Sort.grow (a.drewN (q+f)) e) d;rw[<-World.drewN_drewN];rfl⟩
def LP(a b:Bs)(W:World):Calls prog 266 #[Sl.B a,Sl.B b] W fun e w'=>e=.returned (.int .i64 (iT a b))/\iS W w':=by
 have ha:N6 a<=5:=Wx;have d:N6 b<=5:=Wx;unfold iT;by_cases h:N6 a=N6 b
 ·rw[zb (by simpa using h)]
  go_enter func266,Tryz.ntmps266
  go_wp2_with (first|(go_at_call 337;refine(Bp _ _).mono ?_;rintro e w' ⟨rfl,q,c,rfl⟩)|(go_at_call 112;refine(Tryz.strings_Compare ⟨a.toArray⟩ ⟨b.toArray⟩ _).mono ?_;rintro e w' ⟨rfl,rfl⟩))
  go_ret
  exact⟨rfl,mA ⟨_,_,rfl⟩ ⟨_,_,rfl⟩⟩
 ·rw[zr h]
  go_enter func266,Tryz.ntmps266
  go_wp2_with (first|(go_at_call 337;refine(Bp _ _).mono ?_;rintro e w' ⟨rfl,q,c,rfl⟩)|(go_at_call 112;refine(Tryz.strings_Compare ⟨a.toArray⟩ ⟨b.toArray⟩ _).mono ?_;rintro e w' ⟨rfl,rfl⟩))
  go_ret
  exact⟨rfl,mA ⟨_,_,rfl⟩ ⟨_,_,rfl⟩⟩
open Go Go.Sl Go.RowKit Go.Proofs.Tryz
def yK:∀(a b:Bs),decide (Lib.compareBytes a b<0)=ip a b
 |[],[]=>rfl
 |[],_::_=>rfl
 |_::_,[]=>rfl
 |a::s,b::t=>by
  have d:=yK s t;unfold ip at d⊢;rw[Lib.compareBytes,Op.bytesLess];by_cases h1:a<b
  ·rw[zr h1];simp[h1]
  ·rw[zb h1];by_cases h2:b<a
   ·have c:¬a=b:=fun e=>(by subst e;exact h1 h2);rw[zr h2];simp[h1,c]
   ·have c:a=b:=UInt8.le_antisymm (UInt8.not_lt.1 h2) (UInt8.not_lt.1 h1);rw[zb h2,d];simp[h1,c]
def kC(a b:Bs):ltOf iT a b=V9 a b:=by
 unfold ltOf iT V9;by_cases h:N6 a=N6 b
 ·rw[zb (by simpa using h),zb (by simpa using h),yK]
 ·rw[zr h,zr h];exact kz.mpr qb
def GZ:Sort.SWO (ltOf iT) where
 irrefl x:=by rw[kC];exact V1 x
 trans x y z h k:=by rw[kC] at*;exact R9 h k
 ntrans x y z h k:=by
  rw[kC] at*
  cases e:V9 x z with
  |false=>rfl
  |true=>
   exfalso;by_cases h1:x=y
   ·subst h1;rw[e] at k;cases k
   ·have a:=bC h1 h;by_cases h3:y=z
    ·subst h3;have:=R9 e a;rw[V1] at this
     cases this
    ·have b:=bC h3 k;have:=R9 (R9 e b) a;rw[V1] at this
     cases this
def yL:Pu prog 191 [.int .u64 0] (fun _=>True) (.int .i64 0):=V3 fun w _=>Tryz.bits_Len 0 w qb qb
def LQ:Pu prog 383 [.slice none 0 0,.int .i64 0,.int .i64 0,.func (.func 266) #[] #[]] (fun _=>True) (.tuple #[]):=by
 refine b_ 53 func383 rfl rfl rfl ?_;intro F _;refine E8 ?_;refine o8 (ι:=Unit) (fun _=>True) (fun _=>[(2,.int .i64 0),(8,.int .i64 1)]) (fun _=>[]) (fun _=>0) () trivial ?_ ?_ ?_
 ·exact sub
 ·intro w a;exact a
 rintro _ _;refine E8 ?_;exact m6 rfl [] qh (fun _ h=>h)
def LR:Pu prog 336 [.slice none 0 0,.int .i64 0,.int .i64 0,.int .i64 0,.func (.func 266) #[] #[]] (fun _=>True) (.tuple #[]):=by
 refine b_ 148 func336 rfl rfl rfl ?_;intro F _;refine A5 ?_;refine o8 (ι:=Unit) (fun _=>True) (fun _=>[(0,.slice none 0 0),(1,.int .i64 0),(2,.int .i64 0),(4,.func (.func 266) #[] #[])]) (fun _=>[]) (fun _=>0) () trivial ?_ ?_ ?_
 ·exact sub
 ·intro w a;exact a
 rintro _ _;refine wk 10 ?_;refine c_ rfl LQ qw rfl ?_;refine oK ?_;exact m6 rfl [] qh (fun _ h=>h)
def Ha:Pu prog 265 [.slice none 0 0,.func (.func 266) #[] #[]] (fun _=>True) (.tuple #[]):=by
 refine b_ 14 func265 rfl rfl rfl ?_;intro F _;refine Y1 ?_;refine f_ (A3 rfl qb) ?_;refine c_ rfl yL qw rfl ?_;refine u6 ?_;refine c_ rfl LR qw rfl ?_;refine x6 ?_;exact m6 rfl [] qh (fun _ h=>h)
def uk{pre post:zq}{l l':List Bs}(h:l'.length=l.length):Sort.putCells (fun(x:Bs)=>B x) pre.length l'.toArray (pre++fV l++post).toArray=(pre++fV l'++post).toArray:=by
 apply Array.ext_getElem?;intro k;have c:(fV l).length=l.length:=M6 l;have d:(fV l').length=l'.length:=M6 l';simp only[Sort.putCells,Array.getElem?_mapIdx,Kn,List.size_toArray];rcases Q6 k pre.length with a|a
 ·rw[ky,ky,j8 a,j8 a,zd a];simp only[Qh];rw[zb qb]
 ·rcases Q6 k (pre.length+l.length) with b|b
  ·rw[ky,ky,jc a,jc a,j8 qb,j8 qb];have f:k-pre.length<l.length:=(by omega);have e:k-pre.length<l'.length:=(by omega);rw[zd qb,zd qb];simp only[Qh];rw[zr ⟨a,by omega⟩];simp[fV,e]
  ·rw[ky,ky,jc a,jc a,jc qb,jc qb,c,d,h]
   cases post[k-pre.length-l.length]? with
   |none=>rfl
   |some v=>
    simp only[Qh];rw[zb qb]
def Tq(l:List Bs)(a:qr)(c:Nat)(v:Value)(A:List As):Prop:=v=.tuple #[]/\∃l',List.Perm l' l/\l'.Pairwise (fun x y=>V9 y x=false)/\A=[B0 a l' c]
def LU(l:List Bs)(a:qr)(c:Nat)(hl:l.length<4611686018427387904):Ct prog 265 [.slice a l.length c,.func (.func 266) #[] #[]] (fun _=>True) [B0 a l c] (Tq l a c):=by
 intro w bs O q3 q2;obtain⟨b1,b2,rfl,Q,rfl⟩:=O;rcases Q with⟨hv,hx,rfl⟩|⟨g,rfl,⟨o,n,q4,pre,b,r,hv,hg,ho,q5,S,q6,s⟩⟩
 ·injection hv with f T e3;subst f e3;have h8:l=[]:=js T;subst h8;refine(Ha w [] rfl Zn trivial).mono ?_;rintro e w' ⟨v,A,rfl,⟨rfl,rfl⟩,hp⟩;refine⟨_,[B0 none [] 0],rfl,⟨rfl,[],.nil,.nil,rfl⟩,?_⟩;exact hp.addNil _ _
 ·injection hv with f T e3;subst f T e3;have k:w.heap[g]? =some (.cells (pre++fV l++b).toArray 9 r):=hg;have U:g<w.heap.size:=(jp.1 k).1;have q7:=M6 l;have hH:Sort.Holds (fun(x:Bs)=>B x) w g o l.toArray:=fun j hj=>by
   have t:j<l.length:=(by simpa using hj);constructor
   ·simp only[World.cell?,k];simp only[W3,Kc,if_false,Kn];rw[ky,jc qb,j8 qb];simp[fV,<-ho,t]
   ·simp only[World.frozen?,k];simp only[zg] at s;rw[Wq];rcases s with h|h
    ·by_cases hh:r.1<=o+j
     ·exact .inr (by simp;omega)
     ·exact .inl (by simpa using hh)
    ·exact .inl (by simp;omega)
  have V:CmpLays1 prog 266 #[] (fun(x:Bs)=>B x) iT g o l.toArray.size w:=fun m X dk hs x y=>by
   refine(LP x y _).mono ?_;rintro e w' ⟨rfl,q,h9,rfl⟩;exact⟨rfl,q,h9,rfl⟩
  have hc:=Any.slices_SortFunc Tryz.sortL (fun(x:Bs)=>B x) (fun _=>rfl) iT GZ 266 #[] g o c l.toArray w (fun Y w=>(inferInstance:HF prog 266).h Y w) V hH U (by simpa using hl);have Z:l.toArray.size=l.length:=by simp
  rw[Z] at hc;refine hc.mono ?_;rintro e w' ⟨rfl,d,n,X,u,z,rfl⟩;obtain⟨C,_,h0⟩:=u;rw[Z] at C;have k0:List.Perm d.toList l:=by
   have f:(d.extract 0 l.length).toList=d.toList:=(by simp[<-C]);have T:(l.toArray.extract 0 l.length).toList=l:=(by simp);rw[f,T] at h0;exact h0
  have k8:d.toList.length=l.length:=by simpa using C
  have D:d.toList.Pairwise (fun x y=>V9 y x=false):=by
   rw[Kk];intro i j hi hj k9;have:=z i j (zp _) k9 qb;rw[kC] at this;have q0:i<d.size:=(by simpa using hi);have t:j<d.size:=(by simpa using hj);rw[getElem!_pos d i q0,getElem!_pos d j t] at this;simpa using this
  have hh:(sortWorld (fun(x:Bs)=>B x) w g o n d X).heap[g]? =some (.cells (pre++fV d.toList++b).toArray 9 r):=by
   show((Sort.mapBlock _ g _).heap++X)[g]? =_;unfold Sort.mapBlock;have f:(Sort.ahead w n).heap=w.heap:=rfl;rw[Zs (by rw[J6,f];exact U),Zg,zr rfl,f,k];simp only[Qh,Sort.onCells];have:=uk (pre:=pre) (post:=b) k8;rw[ho] at this;rw[<-this]
  have q8:=M6 d.toList;have h1:(fV d.toList).length=(fV l).length:=by omega
  have J:c*1<=(fV d.toList++b).length:=by
   rw[zg,h1,<-zg];exact S
  have h4:r.2<=r.1\/(pre++fV d.toList++b).length<=r.1:=by
   rw[zg,zg,h1,<-zg,<-zg];exact s
  have M:l_.le (w6 w [g]).heap (hp (sortWorld (fun(x:Bs)=>B x) w g o n d X)):=fun p o' h5=>by
   have q1:p≠g:=by
    rintro rfl;simp[w6,F6] at h5
   have h2:w.heap[p]? =some o':=cq w _ p o' h5;have h3:p<w.heap.size:=(jp.1 h2).1;show((Sort.mapBlock _ g _).heap++X)[p]? =_;unfold Sort.mapBlock;have f:(Sort.ahead w n).heap=w.heap:=rfl;rw[Zs (by rw[J6,f];exact h3),Zg,zb (fun h=>q1 h.symm),f];exact h2
  have h6:∀p∈[g],(w6 w [g]).heap p=none:=fun p h7=>by
   simp at h7;subst h7;simp[w6,F6]
  refine⟨.tuple #[],[B0 (some ⟨g,o,none⟩) d.toList c],rfl,⟨rfl,d.toList,k0,D,rfl⟩,?_⟩;exact⟨rfl,rfl,rfl,M,[g],⟨[g],[],rfl,.inr ⟨g,rfl,⟨o,d.toList.length,c,pre,b,r,rfl,hh,ho,by omega,J,by omega,h4⟩⟩,rfl⟩,by simp,h6⟩
def PS(l:List Bs)(v:Value)(A:List As):Prop:=∃a c,v=.slice a l.length c/\A=[B0 a l c]
def Hb(l:List Bs)(a:qr)(c:Nat)(hl:l.length<=8000000000000):Ct prog 115 [.slice a l.length c] (fun h=>n9 h a (fV l)) [] (PS l):=by
 refine b_ 8 func115 rfl rfl rfl ?_;intro F d;refine A5 ?_;refine f_ ((md rfl rfl).eq (v':=.bool a.isNone) rfl) ?_;refine x6 ?_
 cases a with
 |none=>
  have i:l=[]:=by
   cases l with
   |nil=>rfl
   |cons x t=>
    obtain⟨j,e,_⟩:=d (by simp[fV])
    cases e
  subst i;refine D0 ?_;exact d_ rfl rfl [B0 none [] 0] ⟨none,0,rfl,rfl⟩ (fun w b=>b.addNil _ _)
 |some j=>
  refine x6 ?_;refine u6 ?_;intro a5;refine u6 ?_;refine C4 (news:=fV l) rfl rfl (fun m n=>.here) (fun w b=>d.le b.keep) (by rw[M6];omega) rfl rfl (lu _) (by show(0+l.length)*16<=_;omega) qb rfl ?_;intro f g k;refine D0 ?_;refine d_ rfl rfl [B0 f l g] ⟨f,g,by rw[j6],rfl⟩ (fun w b=>?_);rw[j6] at b;exact b
def Bq{l:List Bs}(h:l.Pairwise fun a b=>V9 b a=false){i j:Nat}(c:i<j)(d:j<l.length):V9 (l.getD j []) (l.getD i [])=false:=by
 rw[Kk] at h;have:=h i j qb d c;rw[z8,z8,zd d,zd (show i<l.length by omega)];exact this
def dx{l:List Bs}{i:Nat}(h:i<l.length):l.toArray[i]! =l.getD i []:=by
 rw[getElem!_pos _ i (by simpa using h),z8,zd h];simp
def ul{l:List Bs}(h:l.Pairwise fun a b=>V9 b a=false):xZ (Lib.compact l):=by
 unfold Lib.compact Lib.compactUpTo;unfold xZ;rw[K1];refine(List.Pairwise.filter _ List.pairwise_lt_range).imp_of_mem fun{i j} o m n=>?_;have f:=Q0.mp m;have c:j<l.length:=by simpa using f.1
 rw[dx qb,dx c];have d:=f.2;unfold Lib.keeps at d;simp only[Zh,j7,bne_iff_ne,ne_eq] at d;have g:l.getD (j-1) []≠l.getD j []:=by
  rcases d with d|d
  ·omega
  ·rw[dx c,dx qb] at d;exact fun e=>d e.symm
 have k:V9 (l.getD (j-1) []) (l.getD j [])=true:=bC (fun e=>g e.symm) (Bq h qb c);by_cases e:i=j-1
 ·rw[e];exact k
 ·by_cases e2:l.getD i []=l.getD (j-1) []
  ·rw[e2];exact k
  ·exact R9 (bC (fun x=>e2 x.symm) (Bq h (show i<j-1 by omega) qb)) k
def ww{l:List Bs}:∀i,i<l.length->l.getD i []∈Lib.compact l:=by
 intro i
 induction i using Nat.strongRecOn with
 |ind i ih=>
  intro a;by_cases hk:Lib.keeps l.toArray i=true
  ·unfold Lib.compact Lib.compactUpTo;refine jr.mpr ⟨i,Q0.mpr ⟨by simpa using a,hk⟩,dx a⟩
  ·unfold Lib.keeps at hk;simp only[Zh,j7,bne_iff_ne,ne_eq,not_or,Classical.not_not] at hk;have b:l.getD i []=l.getD (i-1) []:=by
    have:=hk.2
    rwa [dx a,dx qb] at this
   rw[b];exact ih (i-1) qb qb
def um(l:List Bs)(x:Bs):x∈Lib.compact l↔x∈l:=by
 constructor
 ·intro h;unfold Lib.compact Lib.compactUpTo at h;obtain⟨i,b,rfl⟩:=jr.mp h;have a:i<l.length:=by simpa using(Q0.mp b).1
  rw[dx a];exact ed a
 ·intro h;obtain⟨i,b,rfl⟩:=Zp h;have:=ww i b
  rwa [z8,zd b] at this
def uq{l s:List Bs}(hp:s.Perm l)(h:s.Pairwise fun a b=>V9 b a=false):Lib.compact s=U5 l:=
 yp (ul h) (nu l) fun x=>by rw[um,tK,hp.mem_iff]
def wx(l:List Bs):(Lib.compact l).length<=l.length:=Lib.compact_length_le l
def Tr(l:List Bs)(a:qr)(c:Nat)(v:Value)(A:List As):Prop:=v=.slice a (Lib.compact l).length c/\A=[B0 a (Lib.compact l) c]
def po(l:List Bs)(a:qr)(c:Nat)(hl:l.length<=9223372036854775807):Ct prog 162 [.slice a l.length c] (fun _=>True) [B0 a l c] (Tr l a c):=by
 intro w bs t h1 h0;obtain⟨b1,b2,rfl,u,rfl⟩:=t;rcases u with⟨O,hx,rfl⟩|⟨g,rfl,⟨o,n,h3,pre,b,f,O,hg,Q,h4,v,S,i⟩⟩
 ·injection O with k e2 e3;subst k e3;have T:l=[]:=js e2;subst T;refine(Tryz.slices_Compact_string_empty none 0 w).mono ?_;rintro e w' ⟨rfl,rfl⟩;refine⟨.slice none 0 0,[B0 none [] 0],rfl,qh,?_⟩;exact(Hp.start (C:=[]) (bs:=[]) rfl Zn).addNil _ _
 ·injection O with k e2 e3;subst k e2 e3;have d:w.heap[g]? =some (.cells (pre++fV l++b).toArray 9 f):=hg;have h5:g<w.heap.size:=(jp.1 d).1;have h6:=M6 l;have hH:Sort.Holds (fun(x:Bs)=>B x) w g o l.toArray:=fun j hj=>by
   have U:j<l.length:=(by simpa using hj);constructor
   ·simp only[World.cell?,d];simp only[W3,Kc,if_false,Kn];rw[ky,jc qb,j8 qb];simp[fV,<-Q,U]
   ·simp only[World.frozen?,d];simp only[zg] at i;rw[Wq];rcases i with h|h
    ·by_cases y:f.1<=o+j
     ·exact .inr (by simp;omega)
     ·exact .inl (by simpa using y)
    ·exact .inl (by simp;omega)
  have hc:=Tryz.slices_Compact_string g o c l w hH hl S;refine hc.mono ?_;rintro e w' ⟨rfl,q,rfl⟩;have h7:=wx l;obtain⟨m,V⟩:=o9 (Lib.compact l++List.replicate (l.length-(Lib.compact l).length) []);have X:m.length=l.length:=by rw[V,zg,Zm];omega
  have Y:fV m=fV (Lib.compact l)++fV (List.replicate (l.length-(Lib.compact l).length) []):=by rw[V,gH]
  have h8:=M6 m;have h9:=M6 (Lib.compact l);rw[<-V];have y:(Sort.putRow (fun(x:Bs)=>B x) (Sort.ahead w q) g o m.toArray).heap[g]? =some (.cells (pre++fV m++b).toArray 9 f):=by
   show(Sort.mapBlock _ g _).heap[g]? =_;unfold Sort.mapBlock;have k:(Sort.ahead w q).heap=w.heap:=rfl;rw[Zg,zr rfl,k,d];simp only[Qh,Sort.onCells];have:=uk (pre:=pre) (post:=b) X;rw[Q] at this;rw[<-this]
  rw[Y,ky,ky,<-ky] at y;obtain⟨z,hz⟩:=o9 (fV (List.replicate (l.length-(Lib.compact l).length) [])++b);rw[<-hz] at y;have k0:z.length=l.length-(Lib.compact l).length+b.length:=by rw[hz,zg,M6,Zm]
  have p:c*1<=(fV (Lib.compact l)++z).length:=by
   rw[zg] at v⊢;omega
  have A:f.2<=f.1\/(pre++fV (Lib.compact l)++z).length<=f.1:=by
   rw[zg,zg] at i⊢;omega
  have r:l_.le (w6 w [g]).heap (hp (Sort.putRow (fun(x:Bs)=>B x) (Sort.ahead w q) g o m.toArray)):=fun s o' D=>by
   have Z:s≠g:=by
    rintro rfl;simp[w6,F6] at D
   have h2:w.heap[s]? =some o':=cq w _ s o' D;show(Sort.mapBlock _ g _).heap[s]? =_;unfold Sort.mapBlock;have k:(Sort.ahead w q).heap=w.heap:=rfl;rw[Zg,zb (fun h=>Z h.symm),k];exact h2
  have J:∀s∈[g],(w6 w [g]).heap s=none:=fun s M=>by
   simp at M;subst M;simp[w6,F6]
  refine⟨.slice (some ⟨g,o,none⟩) (Lib.compact l).length c,[B0 (some ⟨g,o,none⟩) (Lib.compact l) c],rfl,qh,?_⟩;exact⟨rfl,rfl,rfl,r,[g],⟨[g],[],rfl,.inr ⟨g,rfl,⟨o,(Lib.compact l).length,c,pre,z,f,rfl,y,Q,by omega,p,by omega,A⟩⟩,rfl⟩,by simp,J⟩
def PT(l:List Bs)(v:Value)(A:List As):Prop:=∃a c,v=.slice a (U5 l).length c/\A=[B0 a (U5 l) c]
def pp(l:List Bs)(a:qr)(c:Nat)(hl:l.length<=8000000000000):Ct prog 194 [.slice a l.length c] (fun h=>n9 h a (fV l)) [] (PT l):=by
 refine b_ 10 func194 rfl rfl rfl ?_;intro F e;refine A5 ?_;refine y5 _ rfl (Hb l a c hl) i_ (fun h g i=>e.le g) rfl ?_;rintro v A ⟨a5,d,rfl,rfl⟩;refine A5 ?_;refine y5 _ rfl (LU l a5 d qb) i_ qw rfl ?_;rintro v A ⟨rfl,s,hp,hs,rfl⟩;refine x6 ?_;have f:=hp.length_eq;have b:=uq hp hs;refine u6 ?_;refine y5 (vs:=[.slice a5 s.length d]) _ (by rw[f];rfl) (po s a5 d qb) i_ qw rfl ?_;rintro v A ⟨rfl,rfl⟩;refine D0 ?_;refine d_ rfl rfl [B0 a5 (Lib.compact s) d] ⟨a5,d,by rw[b],by rw[b]⟩ i_
