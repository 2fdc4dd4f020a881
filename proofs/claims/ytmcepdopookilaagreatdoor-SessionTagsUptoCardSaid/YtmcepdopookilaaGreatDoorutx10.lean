import Derived.Test.YtmcepdopookilaaGreatDoorutx9
import Derived.Lib.AppendZerosOnto
import Derived.Lib.Overlaps
import Derived.Laws.Externs
import Derived.WideLaws
import Derived.WalkKit
import Derived.ProofKit
set_option maxHeartbeats 16000000
set_option maxRecDepth 8000
set_option linter.unusedVariables false
set_option linter.unusedSimpArgs false
set_option linter.defProp false
namespace Go.Sl
open Go Go.RowKit Go.Proofs.Tryz
section
variable{P:Program}{N:Nat}{K R:y6}{E:List (Nat×y6)}{L:G0}{F:l6}{H:List As}{ops:Array Oper}{rest:List Oper}{ty:TypeId}{pos:String}{af:Array Edge}{t tn t2:TypeId}{s x:Operand}{dst:Option Nat}{gd:Option (Nat×Bool)}
theorem Sz{a:Option Addr}{n c:Nat}{e:TypeId}[hu:HU P t (.slice e)](hx:ev L x=some (.slice a n c)):E2 P ⟨dst,.call ⟨.builtin .cap,#[x],#[t]⟩,ty,pos,af,gd⟩ L (.int .i64 (c:Nat)):=by
 unfold E2;intro ρ w hf;simp[execOp,resolve,invoke,builtin,Builtin.cap_,hf _ _ hx,run_underlying hu.h,goInt]
theorem oM{d:Nat}{ps:List (Nat×Operand)}{vs:List (Nat×Value)}{e:TypeId}{z:Value}{sz len:Nat}{cells:Array Value}[hu:HU P t (.slice e)][hz:HZ P e z][hs:HS P e sz](hx:Aa L ps=some vs)(a:Nat.ble (len*sz) 16777216=true)(c:Nat.blt 0 (len*sz)=true)(b:Instr.fill (fun i=>some (i*sz,sz)) ((Array.range (len*sz)).map (z.cells[· %z.cells.size]!)) vs=some cells)(f:Nat.blt d N=true)(h:∀g,GL P N ops rest K E R ((d,.slice (some ⟨g,0,none⟩) len len)::L) F (.blk g (.cells cells e)::H)):GL P N ops (⟨some d,.buildSlice t len ps.toArray,ty,pos,af,none⟩::rest) K E R L F H:=
 R_ rfl rfl f fun n w hf j=>by
  have k:=iS hf.agr hx;have l:¬(len*sz>2^24):=by
   have:len*sz<=16777216:=(by simpa[Jd] using a);omega
  have m:len*sz≠0:=by
   have:0<len*sz:=(by simpa[Kh] using c);omega
  refine⟨.slice (some ⟨w.heap.size,0,none⟩) len len,w.alloc (.cells cells e),_,?_,j.alloc _,h _⟩;simp only[execOp,Zg];rw[k];simp only[Instr.buildSlice,Sem.run_bind,run_underlying hu.h,hs.h,Result.andThen_ok,zk l,zk m,hz.h,Sem.run_pure,b];simp[newRow]
theorem Gf{α:Type}(C:α->List Value)(y:α){d:Nat}{e:TypeId}{z v:Value}{sz:Nat}[hu:HU P t (.slice e)][hz:HZ P e z][hs:HS P e sz](hv:v.cells.toList=C y)(h:∀g,GL P N ops rest K E R ((d,.slice (some ⟨g,0,none⟩) 1 1)::L) F (.blk g (.cells (C y).toArray e)::H))(hx:ev L x=some v:=by rfl)(b:Nat.ble (1*sz) 16777216=true:=by rfl)(hp:Nat.blt 0 (1*sz)=true:=by rfl)(a:Nat.beq v.cells.size sz=true:=by rfl)(k:Nat.blt d N=true:=by rfl):
  GL P N ops (⟨some d,.buildSlice t 1 #[(0,x)],ty,pos,af,none⟩::rest) K E R L F H:=by
 have l:0<1*sz:=by simpa[Kh] using hp
 have c:0<sz:=by omega
 have f:∀q∈[v],q.cells.size=sz:=fun q m=>by
  rw[zg.1 m];exact jr a
 have i:[v].length*sz=((Array.range (1*sz)).map (z.cells[· %z.cells.size]!)).size:=by simp
 have hf:=Great.fill_whole c [v] ((Array.range (1*sz)).map (z.cells[· %z.cells.size]!)) f i;have j:([v].flatMap fun v=>v.cells.toList).toArray=(C y).toArray:=by simp[hv]
 rw[j] at hf;exact oM (ps:=[(0,x)]) (vs:=[(0,v)]) (by simp[Aa,hx]) b hp hf k h
theorem np{d:Nat}{a b:Option Addr}{n c k j m O dc sz:Nat}{xs news:List Value}{e:TypeId}{H':List As}[hu:HU P t (.slice e)][hs:HS P e sz](Q:ev L s=some (.slice (Y9 a c k sz) j dc))(S:ev L x=some (.slice b m O))(u:M3 H (.own (.slice a n c) e sz xs) [.own (.slice a n c) e sz (L5 xs (k*sz) news)] H')(hsrc:∀w,Hp F w H->Ka (hp w) b news)(hl:news.length=min m j*sz)(T:0<sz)(h0:0<min m j)(hk:k+min m j<=n)(h1:∀q∈news,q.oneCell'=true)(hd:Nat.blt d N=true)(h:GL P N ops rest K E R ((d,.int .i64 (min m j:Nat))::L) F H'):
  GL P N ops (⟨some d,.call ⟨.builtin .copy,#[s,x],#[t,t2]⟩,ty,pos,af,none⟩::rest) K E R L F H:=
 R_ rfl rfl hd fun w0 w hf hw=>by
  have v:∀U V,(Builtin.copy_ #[t,t2] ty #[.slice (Y9 a c k sz) j dc,.slice b m O]).run P w=.ok U V->
    (execOp w0.eval ⟨some d,.call ⟨.builtin .copy,#[s,x],#[t,t2]⟩,ty,pos,af,none⟩).run P w=.ok (.value U) V:=fun U V C=>by
   simp[execOp,resolve,invoke,builtin,hf.eval Q,hf.eval S,C]
  obtain⟨b2,D,h6,h7,kk⟩:=hw.focus u;have X:news≠[]:=by
   rintro rfl;have:0<min m j*sz:=K8 h0 T;simp at hl;omega
  obtain⟨ad,rfl,p⟩:=hsrc w hw X;have i:∀j u,news[j]? =some u->w.cell? (ad.add j)=some u:=p;rcases D with⟨y,rfl,rfl⟩|⟨g,rfl,⟨o,n',h8,pre,f,fr,y,hg,Y,Z,h2,h3,z⟩⟩
  ·injection y with e1 e2 e3;omega
  ·injection y with e1 e2 e3;subst e1 e2 e3;have J:Y9 (some ⟨g,o,none⟩) c k sz=some ⟨g,o+k*sz,none⟩:=by
    unfold Y9;rw[zk qb];simp[Addr.add_lit]
   have h4:k*sz+news.length<=xs.length:=by
    have:(k+min m j)*sz<=n*sz:=Qy _ hk;rw[Q0] at this;omega
   have l:=G5 (P:=P) g (o+k*sz) e fr news 0 (pre++xs++f).toArray w hg (by simpa using z) (by simp;omega) h1;have r:=run_firstCells_some (P:=P) w sz (min m j) ad m O news hl i;simp only[Q3,<-Y] at l;rw[fq pre xs f news (k*sz) h4] at l;have A:(L5 xs (k*sz) news).length=xs.length:=by
    simp only[L5,zz,zm,z8];omega
   refine⟨.int .i64 (min m j:Nat),w.setRow g (pre++L5 xs (k*sz) news++f).toArray,H',v _ _ ?_,?_,h⟩
   ·rw[Y] at l;rw[J];have M:Nat.min m j=min m j:=rfl;simp[Builtin.copy_,run_underlying hu.h,hs.h,Builtin.lenOf,M,r,goInt];simp at l;simp[l]
   ·refine kk _ [g] rfl rfl rfl (fun q hq h5=>setRow_other w g q _ (by simpa using h5)) ⟨[g],[],rfl,.inr ⟨g,rfl,⟨o,n,c,pre,f,fr,rfl,setRow_heap w g _ _ e _ hg,Y,by rw[A];exact Z,?_,h3,?_⟩⟩,rfl⟩ x6 (fun q hq=>.inl hq)
    ·simp only[zz,A];simpa using h2
    ·simp only[zz,A] at z⊢;exact z
theorem CZ{a:Option Addr}{n c m sz:Nat}{xs:List Value}{te:TypeId}{H':List Value->List As}{t:Code}(u:∀i,M3 H (.own (.slice a n c) te sz xs) [.own (.slice a m c) te sz (xs++i)] (H' i))(h0:0<n)(hn:n<=m)(v:m<=c)(h:∀i,i.length=(m-n)*sz->G P N t K E R L F (H' i)):G P N t K E R L F H:=by
 unfold G at h⊢;intro D w hf x;obtain⟨b2,j,J,M,kk⟩:=x.focus (u []);rcases j with⟨d,rfl,rfl⟩|⟨g,rfl,⟨o,n',O,pre,b,Q,d,hg,S,T,k,U,p⟩⟩
 ·injection d with e1 e2 e3;omega
 ·injection d with e1 e2 e3;subst e1 e2 e3;have V:n*sz+(m-n)*sz=m*sz:=by rw[<-Q0];congr 1;omega
  have X:m*sz<=c*sz:=Qy _ v;have l:(b.take ((m-n)*sz)).length=(m-n)*sz:=by
   rw[zz] at k;rw[zm];omega
  refine h (b.take ((m-n)*sz)) l D w hf ?_;obtain⟨b3,e,y,z,r⟩:=x.focus (u (b.take ((m-n)*sz)));rcases e with⟨f,_,_⟩|⟨g3,rfl,⟨o3,n3,A,C,s,Y,f,_⟩⟩
  ·cases f
  ·injection f with e1 e2 e3;injection e1 with e1;injection e1 with e1 e4;subst e1;refine r w [g] rfl rfl rfl (fun _ _ _=>rfl) ⟨[g],[],rfl,.inr ⟨g,rfl,⟨o,m,c,pre,b.drop ((m-n)*sz),Q,rfl,?_,S,?_,?_,v,?_⟩⟩,rfl⟩ x6 (fun q Z=>.inl Z)
   ·show w.heap[g]? =_;rw[show pre++(xs++b.take ((m-n)*sz))++b.drop ((m-n)*sz)=pre++xs++b from by simp only[zh,Qk]];exact hg
   ·rw[zz,l];omega
   ·rw[zh,Qk];exact k
   ·rw[show pre++(xs++b.take ((m-n)*sz))++b.drop ((m-n)*sz)=pre++xs++b from by simp only[zh,Qk]];exact p
theorem mN{d k c sz:Nat}{a:Option Addr}{v y:IntKind}{e:TypeId}{z:Value}{i:TypeInfo}[hu:HU P t (.slice e)][hn:HU P tn (.int v)][hz:HZ P e z][hi:HI P e i][hs:HS P e sz](o:ev L s=some (.slice a 0 c))(p:ev L x=some (.int y (k:Nat)))(A:0<k)(hc:c<k)(q:0<sz)(j:z.cells.size=sz)(b:k*i.bytes<=140737488355328)(h63:k<=9223372036854775807)(C:Nat.blt d N=true)(h:∀g c,k<=c->GL P N ops rest K E R ((d,.slice (some ⟨g,0,none⟩) k c)::L) F (.own (.slice (some ⟨g,0,none⟩) k c) e sz (Builtin.zeroCells z.cells k).toList::H)):
  GL P N ops (⟨some d,.call ⟨.builtin .append,#[s,x],#[t,tn]⟩,ty,pos,af,none⟩::rest) K E R L F H:=
 R_ rfl rfl C fun J w hf D=>by
  have l:i.size=sz:=by
   have f:=hs.h w;simp[sizeOf,typeInfo,hi.h] at f;exact f
  have r:i.zero=some z:=by
   have f:=hz.h w;simp only[zeroValue,Sem.run_bind,typeInfo] at f
   cases hq:i.zero with
   |none=>simp[hi.h,hq] at f
   |some z'=>simp[hi.h,hq] at f;rw[f]
  have m:(Builtin.firstCells i.size 0 (.slice a 0 c)).run P w.drew=.ok ([]:List Value).toArray w.drew:=by cases a<;>simp[Builtin.firstCells,loadCells,loadCellsFrom]
  have u:=Go.Lib.run_append_grow_zeros (P:=P) w t tn ty e i z y v hu.h hn.h hi.h r a 0 c [] m k A (by rw[l];exact q) qb qb qb (growslice_fits qb (by rw[jv];exact b));simp only[jv] at u;have n:=grownCap_ge w k c e;refine⟨.slice (some ⟨w.heap.size,0,none⟩) k (grownCap w k c e),w.drew.alloc (.cells (([]:List Value).toArray++Builtin.zeroCells z.cells k++Builtin.zeroCells z.cells (grownCap w k c e-k)) e),_,?_,?_,h w.heap.size (grownCap w k c e) n⟩
  ·simp[execOp,resolve,invoke,builtin,hf.eval o,hf.eval p];simp at u;simp[u]
  ·refine O8 (w:=w.drew) (post:=(Builtin.zeroCells z.cells (grownCap w k c e-k)).toList) (fr:=(0,0)) D.drew' ?_ ?_ n (.inl (z1 _)) ?_
   ·simp[size_zeroCells,j]
   ·simp only[zz,Zs,size_zeroCells,j,<-Q0];congr 1;omega
   ·congr 2;apply Q6.1;simp
theorem yf{f:Nat}{fn:Func}{g:Nat}{v x y z m c k sz:Nat}{cells:Array Value}{te:TypeId}{p q:Operand}{a:Option Addr}{A:Array TypeId}{xs:List Value}{Rr:List As}[hu:HU P t (.slice te)][hs:HS P te sz](C:P.funcs[f]? =some fn)(h:(fn.name== "runtime.NumGoroutine")=false)(S:fn.body.isNone=true)(T:Extern.findNext fn=none)(U:Extern.find fn=some (Extern.SlicesOverlaps.overlaps #[t,t] #[t2]))(hp:ev L p=some (.slice (some ⟨g,0,none⟩) v x))(hq:ev L q=some (.slice (Y9 a c k sz) y z))(hH:∀w,Hp F w H->Hp F w (.blk g (.cells cells te)::.own (.slice a m c) te sz xs::Rr))(V:0<m)(X:k<c)(Y:cells.size≠0)(D:0<sz):
  dv P ⟨dst,.call ⟨.value (.func f),#[p,q],A⟩,ty,pos,af,gd⟩ L F H (.bool false):=by
 unfold dv;intro ρ w i Z;obtain⟨bs,⟨b1,b2,rfl,⟨rfl,hg⟩,b3,b4,rfl,r,_⟩,J,_⟩:=(hH w Z).own;rcases r with⟨j,rfl,rfl⟩|⟨n,rfl,⟨o,n',h1,pre,d,fr,j,M,ho,O,h2,h3,h4⟩⟩
 ·injection j with e1 e2 e3;omega
 ·injection j with e1 e2 e3;subst e1 e2 e3;have Q:g≠n:=by
   rintro rfl;simp at J
  have s:Y9 (some ⟨n,o,none⟩) c k sz=some ⟨n,o+k*sz,none⟩:=by
   unfold Y9;rw[zk qb];simp[Addr.add_lit]
  rw[s] at hq;have h5:0<xs.length:=by rw[O];exact K8 V D
  have l:w.heap[g]? =some (.cells cells te):=hg;have u:w.heap[n]? =some (.cells (pre++xs++d).toArray te fr):=M;have hr:=Go.Lib.run_overlaps_apart (P:=P) w t t2 te hu.h sz hs.h ⟨g,0,none⟩ ⟨n,o+k*sz,none⟩ v x y z Q te te cells.size (pre++xs++d).length (by simp[World.shape?,l]) (by simp[World.shape?,u]) (by simp only[zz];omega) (by simp[World.frozen?,l]) (by simp[World.frozen?,l]);have e:ρ (.func f)=.func (.func f) #[] #[]:=i _ _ rfl;have b:=run_callFunc_extern C h S T U #[.slice (some ⟨g,0,none⟩) v x,.slice (some ⟨n,o+k*sz,none⟩) y z] w;rw[hr] at b;simp only[execOp,resolve,e,Deferred.ofValue,Zg,Qu,Jj,i _ _ hp,i _ _ hq,Sem.run_bind,Sem.run_pure,Result.andThen_ok,invoke];exact b
end
end Go.Sl
namespace Go.Proofs.YtmcepdopookilaaGreatDoor.Rp
open Go Go.Sl Go.RowKit Go.Proofs.Tryz
theorem AF(A x y:List Value)(q:Nat)(hq:A.length=q+x.length):L5 A q x=A.take q++x:=by
 unfold L5;rw[Qc qb,z7]
theorem Da{h:l_}{a:Option Addr}{xs c:List Value}(r:o0 h a (xs++c)):o0 h a xs:=fun b=>by
 obtain⟨d,f,g⟩:=r (fun e=>b (List.append_eq_nil_iff.1 e).1);exact⟨d,f,fun j u hu=>g j u (by rw[jg (Qw.1 hu).1];exact hu)⟩
theorem Db(x y z:List Value)(h:x.length=y.length):L5 (x++z) 0 y=y++z:=by
 unfold L5;rw[Kx,j7,jv,<-h,List.drop_left]
theorem yg(l:List IT)(a:Option Addr)(c:Nat)(i:IT)(g:Nat)(hl:l.length<=1000000):Ct prog 306 [.slice a l.length c,.int .i64 0,.slice (some ⟨g,0,none⟩) 1 1] (fun _=>True) [bP a l c,.blk g (.cells (cZ i).toArray 129)] (fun v A=>∃s x,v=.slice s (i::l).length x/\A=[bP s (i::l) x]):=by
 refine b_ 95 func306 rfl rfl rfl ?_;rintro F _;refine B4 (a:=a) (n:=l.length) (c:=c) (sz:=5) (xs:=oH l) ud ?_;intro O hc D;have f:=tD l;refine E5 ?_;refine f_ (B5 rfl rfl rfl qb) ?_;refine O2 ?_;refine f_ ((p8 rfl rfl).eq (v':=.bool false) rfl) ?_;refine cG ?_;refine o8 rfl ?_ ?_<;>intro h
 ·have Q:l=[]:=by
   have:=qr h;exact jy qb
  subst Q;refine y9 ?_;refine C0 (xs:=oH []) (n:=0) (news:=cZ i) rfl rfl (H':=fun s x=>[.own (.slice s (0+1) x) 129 5 (oH []++cZ i),.blk g (.cells (cZ i).toArray 129)]) (fun s x=>.here) (fun w b=>b.rdBlk ud (cZ i) (fun j u h=>by simpa using h)) rfl rfl rfl (gq i) (by show(0+1)*32<=_;omega) qb rfl ?_;intro p q _;refine C8 ?_;exact d_ rfl rfl [bP p [i] q] ⟨p,q,rfl,rfl⟩ (fun w b=>(tk (C:=[bP p [i] q])).hp b|>.left)
 have J:0<l.length:=by have:=zq h;omega
 refine y9 ?_;refine f_ ((p9 rfl rfl (by simp;omega)).eq (v':=.int .i64 ((l.length+1:Nat):Int)) x6) ?_;refine p_ ?_;refine f_ (Sz rfl) ?_;refine R6 ?_ ?_<;>intro h
 ·have r:c<l.length+1:=by have:=qr h;omega
  refine y9 ?_;refine f_ ((B5 rfl rfl rfl qb).eq (v':=.slice a 0 c) (by simp[dW])) ?_;refine y9 ?_;refine f_ ((p9 rfl rfl (by simp;omega)).eq (v':=.int .i64 ((l.length+1:Nat):Int)) x6) ?_;refine p_ ?_;refine f_ ((E0 rfl rfl (by simp;omega)).eq (v':=.int .i64 ((l.length+1:Nat):Int)) x6) ?_;refine mN (k:=l.length+1) rfl rfl qb r qp rfl (by show(l.length+1)*32<=_;omega) qb rfl ?_;intro o d M;generalize hZ:(Builtin.zeroCells _ (l.length+1)).toList=Z;refine p_ ?_;refine B4 (a:=some ⟨o,0,none⟩) (n:=l.length+1) (c:=d) (sz:=5) (xs:=Z) ud ?_;intro S _ _;refine y9 ?_;refine f_ ((B5 rfl rfl rfl qb).eq (v':=.slice (Y9 (some ⟨o,0,none⟩) d 0 5) (l.length+1) d) x6) ?_;refine p_ ?_;refine np (k:=0) (news:=cZ i) rfl rfl uh (fun w b=>b.rdBlk ud (cZ i) (fun j u h=>by simpa using h)) (by rw[show min 1 (l.length+1)=1 by omega];rfl) qp qb qb (gq i) rfl ?_;refine u7 ?_;refine fZ ([],[],[]) 9 rfl ?_;refine wd [0,1,2] ?_;refine w_ 3 rfl ((p9 rfl rfl x6).eq (v':=.int .i64 ((1:Nat):Int)) x6) ?_;refine w_ 4 rfl ((B5 rfl rfl rfl qb).eq (v':=.slice (Y9 (some ⟨o,0,none⟩) d 1 5) l.length (d-1)) x6) ?_;refine wd [5,6] ?_;refine w_ 7 rfl ((B5 rfl rfl rfl qb).eq (v':=.slice a l.length c) (by simp[dW])) ?_;refine h_ 8 rfl i6 ?_;refine np (k:=1) (news:=oH l) rfl rfl uh (fun w b=>(b.ownN (a:=a) (xs:=oH l) ud).2.2.1) (by rw[Nat.min_self,f]) qp qb qb (ng l) rfl ?_;refine E6 [] ?_;all_goals
   refine L7 ?_;exact d_ rfl rfl [bP (some ⟨o,0,none⟩) (i::l) d] ⟨_,d,rfl,rfl⟩ (fun w b=>by
    have e:L5 (L5 Z (0*5) (cZ i)) (1*5) (oH l)=oH (i::l):=by
     have T:L5 Z (0*5) (cZ i)=cZ i++Z.drop 5:=(by unfold L5;simp);rw[T,AF _ _ [] _ (by simp only[zz,z8,f];show 5+_=_;omega),Z8 (z1 5)];rfl
    rw[e] at b;exact x8.left tk b)
 have r:l.length+1<=c:=by have:=zq h;omega
 refine u7 ?_;refine CZ (a:=a) (n:=l.length) (c:=c) (m:=l.length+1) (sz:=5) (xs:=oH l) (te:=129) (H':=fun z=>.own (.slice a (l.length+1) c) 129 5 (oH l++z)::.blk g (.cells (cZ i).toArray 129)::[]) (fun _=>.here) J qb r ?_;intro z y;refine E5 ?_;refine f_ ((p9 rfl rfl (by simp;omega)).eq (v':=.int .i64 ((l.length+1:Nat):Int)) x6) ?_;refine f_ ((B5 rfl rfl rfl qb).eq (v':=.slice a (l.length+1) c) (by simp[dW])) ?_;refine au ?_;refine f_ ((p9 rfl rfl x6).eq (v':=.int .i64 ((1:Nat):Int)) x6) ?_;refine f_ ((B5 rfl rfl rfl qb).eq (v':=.slice (Y9 a c 1 5) l.length (c-1)) x6) ?_;refine r_ (yf (t:=32) (t2:=4) rfl i6 i6 i6 i6 rfl rfl (m:=l.length+1) (fun w b=>b.perm (.swap _ _ _)) qb qb x6 qp) ?_;refine p_ ?_;refine fZ ([],[],[]) 9 rfl ?_;refine wd [0,1,2] ?_;refine w_ 3 rfl ((p9 rfl rfl x6).eq (v':=.int .i64 ((1:Nat):Int)) x6) ?_;refine w_ 4 rfl ((B5 rfl rfl rfl qb).eq (v':=.slice (Y9 a c 1 5) l.length (c-1)) x6) ?_;refine wd [5,6] ?_;refine w_ 7 rfl ((B5 rfl rfl rfl qb).eq (v':=.slice a (l.length+1) c) (by simp[dW])) ?_;refine h_ 8 rfl i6 ?_;refine np (k:=1) (news:=oH l) rfl rfl uh (fun w b=>Da (b.ownN (a:=a) (xs:=oH l++z) ud).2.2.1) (by rw[show min (l.length+1) l.length=l.length by omega,f]) qp qb qb (ng l) rfl ?_;refine E6 [] ?_;all_goals
  refine y9 ?_;refine f_ ((B5 rfl rfl rfl qb).eq (v':=.slice (Y9 a c 0 5) (l.length+1) c) x6) ?_;refine p_ ?_;refine np (k:=0) (news:=cZ i) rfl rfl uh (fun w b=>b.rdBlk ud (cZ i) (fun j u h=>by simpa using h)) (by rw[show min 1 (l.length+1)=1 by omega];rfl) qp qb qb (gq i) rfl ?_;refine L7 ?_;exact d_ rfl rfl [bP a (i::l) c] ⟨_,c,rfl,rfl⟩ (fun w b=>by
   have e:L5 (L5 (oH l++z) (1*5) (oH l)) (0*5) (cZ i)=oH (i::l):=by
    rw[AF _ _ [] (1*5) (by rw[zz,y];omega)];exact Db _ _ _ (by rw[zm,zz,y];show _=5;omega)
   rw[e] at b;exact x8.left tk b)
open Go Go.Sl Go.Proofs.Tryz
abbrev U8(c:UInt8):Value:=.int .u8 (c.toNat:Nat)
theorem gV{a b:UInt8}:decide ((a.toNat:Int)=(b.toNat:Int))=decide (a=b):=by
 by_cases h:a=b
 ·subst h;simp
 ·have:¬((a.toNat:Int)=(b.toNat:Int)):=fun e=>h (Wz.mp qb);simp[h,this]
theorem yh{p:UInt8->Bool}{s:Bs}{k:Nat}(a:k<s.length)(h:p (s.getD k 0)=false):s.all p=false:=by
 cases e:s.all p with
 |false=>rfl
 |true=>
  have:=Qv.mp e (s.getD k 0) (by rw[zd,zj a];exact zx a);rw[h] at this
  cases this
theorem AG{p:UInt8->Bool}{s:Bs}(h:∀j,j<s.length->p (s.getD j 0)=true):s.all p=true:=by
 refine Qv.mpr fun c hc=>?_;obtain⟨j,a,rfl⟩:=Zq hc;simpa[a] using h j a
theorem vH:∀(k n:Nat),1<=k->n<10^k->(R1 n).length<=k
 |0,_,h,_=>by omega
 |1,n,_,h=>by rw[bK qb];simp
 |k+2,n,_,h=>by
  by_cases hl:n<10
  ·rw[bK hl];simp
  ·rw[gf hl];have:=vH (k+1) (n/10) qb (by rw[W8] at h;omega);simp;omega
theorem oN{n:Nat}(h:n<=18446744073709551615):(R1 n).length<=20:=vH 20 n qb qb
theorem qY(f:UInt8->UInt8){s:Bs}{k:Nat}(a:k<s.length):(s.take (k+1)).map f=(s.take k).map f++[f (s.getD k 0)]:=by
 rw[kj a,jn,zd,zj a];rfl
abbrev Gg(o:Option Nat):Value:=.tuple #[.int .u64 ((o.getD 0:Nat):Int),.bool o.isSome]
theorem Gh{s:Bs}(h:∀n,n<=D9->s≠R1 n):aW s=none:=by
 cases e:aW s with
 |none=>rfl
 |some n=>exact absurd (rA e).1 (h n (rA e).2)
theorem Dc{s:Bs}{k:Nat}(a:k<s.length)(h:P0 (s.getD k 0)=false):aW s=none:=Gh fun n b e=>by
 have:=Fx n;rw[<-e,yh a h] at this
 cases this
theorem Gi{s:Bs}{k:Nat}(a:k<s.length):S7 0 (s.take (k+1))=10*S7 0 (s.take k)+((s.getD k 0).toNat-48):=by
 rw[kj a,lR,rz,oh,zd,zj a];rfl
abbrev SA(o:Option Bs):Value:=.tuple #[B (o.getD []),.bool o.isSome]
abbrev lp:Nat:=1000000000000
theorem oO{s:Bs}(h:1<=s.length):s.head? =some (s.getD 0 0):=by
 cases s with
 |nil=>simp at h
 |cons a t=>rfl
theorem Gj{s:Bs}(h:1<=s.length):s.getLast? =some (s.getD (s.length-1) 0):=by
 rw[Jy,zd,zj qb];rfl
abbrev Pi(o:Option (Bs×Nat)):Value:=.tuple #[B (o.getD ([],0)).1,.int .i64 ((o.getD ([],0)).2:Nat),.bool o.isSome]
theorem co{s:Bs}{k:Nat}(a:k<s.length):s.drop k=s.getD k 0::s.drop (k+1):=by
 rw[Qg a,zd,zj a];rfl
theorem AH:∀{l:List Bs} {p:Bs->Bool} {k:Nat},k<l.length->(∀j,j<k->p (l.getD j [])=false)->p (l.getD k [])=true->l.find? p=some (l.getD k [])
 |[],_,_,h,_,_=>by simp at h
 |x::t,p,0,_,_,h=>by
  have h:p x=true:=h;simp[Wj,h]
 |x::t,p,k+1,hk,hno,h=>by
  have a:p x=false:=hno 0 qb;have:=AH (l:=t) (p:=p) (k:=k) (by simpa using hk) (fun j b=>by have:=hno (j+1) qb;simpa using this) (by simpa using h);rw[Wj,a];simpa using this
theorem Le{l:List Bs}{p:Bs->Bool}(h:∀j,j<l.length->p (l.getD j [])=false):l.find? p=none:=by
 rw[Wh];intro x b;obtain⟨j,a,rfl⟩:=Zq b;have:=h j a;rw[zd,zj a] at this;simp at this;simp[this]
theorem Lf{k:Nat}(a:k<5):(R5.getD k []).length<=9:=by
 have:∀k,k<5->(R5.getD k []).length<=9:=by decide
 exact this k a
theorem AI(f:Bs):∀l:List Bs,(qR f l).length=l.length+1
 |[]=>rfl
 |x::t=>by
  rw[qR];split
  ·simp
  ·simp[AI f t]
theorem lX{x c:Bs}(hx:E3 x=some c):∀{l cs:List Bs},S3 l=some cs->S3 (l++[x])=some (cs++[c])
 |[],cs,h=>by
  simp[S3] at h;subst h;simp[S3,hx]
 |s::t,cs,h=>by
  rw[S3] at h;split at h
  ·next d l a hl=>
   cases h
   rw[Q7,S3,a,lX hx hl];rfl
  ·cases h
theorem oP{x:Bs}(hx:E3 x=none):∀{l:List Bs},x∈l->S3 l=none
 |[],h=>by simp at h
 |s::t,h=>by
  rw[S3];rcases ky.mp h with rfl|h
  ·rw[hx]
  ·rw[oP hx h]
   cases E3 s<;>rfl
theorem oQ:∀{l cs:List Bs},S3 l=some cs->cs.length=l.length
 |[],cs,h=>by simp[S3] at h;subst h;rfl
 |s::t,cs,h=>by
  rw[S3] at h;split at h
  ·next d l a hl=>
   cases h
   simp[oQ hl]
  ·cases h
theorem Gk(l:List Bs)(f:Bs):(eY l f).length<=l.length+1:=by
 unfold eY;split
 ·omega
 ·rw[AI];omega
theorem AJ(l:List Bs):(T3 l).length<=l.length:=by
 have:∀(l a:List Bs),(l.foldl eY a).length<=a.length+l.length:=by
  intro l
  induction l with
  |nil=>intro a;simp
  |cons f t ih=>
   intro a;have b:=ih (eY a f);have c:=Gk a f;simp only[Wq,zy];omega
 have:=this l [];simpa[T3] using this
def SB(m:List Bs×Int)(v:Value)(A:List As):Prop:=∃a c,v=.tuple #[.slice a m.1.length c,.int .i64 m.2]/\A=[A4 a m.1 c]
def Pj(q:List Bs×Nat×Int)(v:Value)(A:List As):Prop:=∃a c,v=.tuple #[.slice a q.1.length c,.int .i64 (q.2.1:Nat),.int .i64 q.2.2]/\A=[A4 a q.1 c]
theorem jN{s:Bs}{p j:Nat}(h:p<=j):(s.drop ((p:Nat):Int).toNat).take (((j:Nat):Int).toNat-((p:Nat):Int).toNat)=(s.drop p).take (j-p):=by simp only[jm]
theorem Gm(w t:Bs):w.isPrefixOf t=(decide (w.length<=t.length)&&decide (t.take w.length=w)):=by
 rw[Kz,List.isPrefixOf_iff_prefix,List.prefix_iff_eq_take];simp only[kw,jw];constructor
 ·intro h;refine⟨?_,h.symm⟩;have:=jk List.length h;rw[zm] at this;omega
 ·rintro⟨_,h⟩;exact h.symm
theorem AK{f:UInt8->Bool}{s:Bs}{p j:Nat}(h:p<=j)(k:j<=s.length\/j=p)(a:∀i,p<=i->i<j->f (s.getD i 0)=true)(d:j<s.length->f (s.getD j 0)=false):
  (s.drop p).takeWhile f=(s.drop p).take (j-p)/\j=p+((s.drop p).takeWhile f).length:=by
 have e:s.drop p=(s.drop p).take (j-p)++s.drop j:=by
  have:=(Qk (j-p) (s.drop p)).symm;rw[Kr,show p+(j-p)=j by omega] at this;exact this
 have b:(s.drop p).takeWhile f=(s.drop p).take (j-p):=by
  rw[e];rw[bL f _ _ (fun c hc=>?_) (fun c hc=>?_)]
  ·rw[<-e]
  ·obtain⟨i,g,rfl⟩:=Zq hc;rw[zm,z8] at g;have:=a (p+i) qb qb;rw[zd,zj qb] at this;simpa using this
  ·by_cases hj:j<s.length
   ·rw[co hj] at hc;simp at hc;subst hc;exact d hj
   ·rw[Qc qb] at hc;simp at hc
 refine⟨b,?_⟩;rw[b,zm,z8];omega
theorem yi:∀(n:Nat) (s b:Bs) (i:Nat) (t:Bs) (m:Nat),s.length<=n->Al b i s=some (t,m)->m<=i+s.length
 |_,[],_,_,_,_,_,h=>by simp[Al] at h
 |0,c::s,_,_,_,_,hn,_=>by simp at hn
 |n+1,c::s,b,i,t,m,hn,h=>by
  simp only[zy] at hn⊢;rw[iZ] at h;split at h
  ·cases h
  split at h
  ·simp at h;omega
  split at h
  ·split at h
   ·cases h
   ·next d t'=>
    split at h
    ·simp only[zy] at hn⊢;have:=yi n t' _ _ t m qb h;omega
    ·cases h
  split at h
  ·have:=yi n s _ _ t m qb h;omega
  ·cases h
theorem yj{s:Bs}:((vg s).getD ([],0)).2<=s.length:=by
 cases h:vg s with
 |none=>simp
 |some q=>
  obtain⟨t,m⟩:=q
  cases s with
  |nil=>cases h
  |cons c v=>
   unfold vg at h;simp only at h;split at h
   ·have:=yi v.length v [] 1 t m (z1 _) h;simp;omega
   ·cases h
theorem Gn{l m:List Bs}(a:l.length=m.length)(h:∀i,i<l.length->l.getD i []=m.getD i []):l=m:=by
 apply List.ext_getElem a;intro i b c;have:=h i b;rw[zd,zd,zj b,zj c] at this;exact this
open Go Go.Sl Go.RowKit Go.Proofs.Tryz
section
variable{P:Program}{L:G0}{N:Nat}{dst:Option Tmp}{t:TypeId}{x:Operand}{ty:TypeId}{pos:String}{af:Array Edge}{gd:Option (Nat×Bool)}
theorem jO{b len e c:Nat}{d:Operand}{kk:IntKind}{j:Nat}[hu:HU P t (.array len e)][hs:HS P e c](hx:ev L x=some (.pointer (some ⟨b,0,none⟩)))(a:ev L d=some (.int kk j))(f:j<=len):E2 P ⟨dst,.slice t x none (some d) none,ty,pos,af,gd⟩ L (.slice (some ⟨b,0,none⟩) j len):=by
 unfold E2;intro ρ w hf;have g:(⟨b,0,none⟩:Addr).add (0*c)=⟨b,0,none⟩:=by simp[Addr.add]
 have h:¬max (j:Int) 0<0:=by omega
 simp[execOp,Instr.sliceAt,Instr.sureAddr,Instr.sliceBounds,Instr.sliceBound,asIntOf,hf _ _ hx,hf _ _ a,run_underlying hu.h,hs.h,Addr.add,f]
end
abbrev Lg:UInt8->Value:=fun b=>Value.int .u8 (b.toNat:Int)
theorem Lh(u b:Nat)(Q:1<=u)(hu:u<18446744073709551616):Ct prog 243 [.slice (some ⟨b,0,none⟩) (Lib.nDigits u) 24,.int .u64 (u:Nat)] (fun _=>True) [.blk b (.cells (Array.replicate 24 (.int .u8 0)) 282)]
  (fun v A=>v=.tuple #[]/\∃cs:Array Value,(∀(j:Nat) (l:j<(R1 u).length),cs[j]? =some (.int .u8 ((R1 u)[j].toNat:Nat)))/\A=[.blk b (.cells cs 282)]):=by
 intro w S d t _;obtain⟨T,U,rfl,⟨rfl,x⟩,rfl⟩:=d;have a:w.heap[b]? =some (.cells (Array.replicate 24 (.int .u8 0)) 282):=x;have r:Lib.nDigits u<=24:=by
  have:=oN (n:=u) qb;rw[<-ji,Lib.decDigits_length] at this;omega
 have y:Sort.Holds Lg w b 0 (Array.replicate (Lib.nDigits u) (0:UInt8)):=fun j l=>by
  have p:j<Lib.nDigits u:=by simpa using l
  constructor
  ·simp[World.cell?,a,getElem!_pos,p,show j<24 by omega]
  ·simp[World.frozen?,a]
 have hs:(Array.replicate (Lib.nDigits u) (0:UInt8)).size=Lib.nDigits u:=by simp
 have f:u<10^(Array.replicate (Lib.nDigits u) (0:UInt8)).size:=by
  rw[hs];exact Lib.lt_pow_nDigits u
 have hc:=Tryz.internal_strconv_formatBase10 b 0 24 u (Array.replicate (Lib.nDigits u) (0:UInt8)) w y f hu (by rw[hs];omega);rw[hs] at hc;refine hc.mono ?_;rintro e V ⟨rfl,n,X,m,rfl,s⟩;have z:((Sort.putRow Lg w b 0 m).drewN n).heap[b]? =some (.cells (Sort.putCells Lg 0 m (Array.replicate 24 (.int .u8 0))) 282):=by
  show(Sort.mapBlock w b _).heap[b]? =_;unfold Sort.mapBlock;simp[Q8,a,Sort.onCells]
 refine⟨.tuple #[],[.blk b (.cells (Sort.putCells Lg 0 m (Array.replicate 24 (.int .u8 0))) 282)],rfl,⟨rfl,_,fun j l=>?_,rfl⟩,rfl,rfl,rfl,fun g o i=>?_,[b],⟨[b],[],rfl,⟨rfl,z⟩,rfl⟩,by simp,fun g k=>?_⟩
 ·have c:j<(Lib.decDigits u).length:=by rw[ji];exact l
  have C:j<Lib.nDigits u:=by rw[Lib.decDigits_length] at c;exact c
  have D:=Lib.row_is_numeral s j c;have J:(R1 u)[j]=(Lib.decDigits u)[j]:=by congr 1;exact(ji u).symm
  rw[J,D];have M:=s.size;simp[Sort.putCells,show j<24 by omega,show j<m.size by omega]
 ·have q:g≠b:=by
   rintro rfl;simp[q_,E4] at i
  have O:w.heap[g]? =some o:=bV w _ g o i;show(Sort.mapBlock w b _).heap[g]? =_;unfold Sort.mapBlock;rw[Q8,zk (fun h=>q h.symm)];exact O
 ·simp at k;subst k;simp[q_,E4]
theorem Gp{l:Bs}{cs:Array Value}(h:∀(j:Nat) (b:j<l.length),cs[j]? =some (.int .u8 (l[j].toNat:Nat))):∀(j:Nat) (u:Value),(A5 l)[j]? =some u->cs[j]? =some u:=fun j u hu=>by
 obtain⟨b,rfl⟩:=Qw.1 hu;have a:j<l.length:=by simpa[A5] using b
 rw[h j a];simp[A5]
theorem qZ(n:Nat)(h:n<18446744073709551616):Pu prog 171 [.int .u64 (n:Nat),.int .i64 10] Gl (B (R1 n)):=by
 refine b_ 32 func171 rfl rfl rfl ?_;intro F hg;refine O2 ?_;refine f_ ((E_ rfl rfl).eq (v':=.bool (decide (n<100))) (qn (zp.mpr qb))) ?_;refine N8 ?_ ?_<;>intro b
 ·have c:=qr b;refine p_ ?_;refine f_ (bu rfl qb) ?_;refine e_ rfl (FO n c) qw rfl ?_;refine C8 ?_;exact d_ rfl rfl [] qh (fun _ h=>h)
 ·have c:=zq b;have e:(R1 n).length=Lib.nDigits n:=by rw[<-ji,Lib.decDigits_length]
  have d:=oN (n:=n) qb;refine u7 ?_;refine p_ ?_;intro f;refine p_ ?_;refine e_ rfl (tq n qb h) (fun h g j=>hg.le g) rfl ?_;refine y9 ?_;refine f_ (jO rfl rfl qb) ?_;refine p_ ?_;refine x5 _ rfl (Lh n f qb h) i_ qw rfl ?_;rintro v A ⟨rfl,k,a,rfl⟩;refine p_ ?_;refine f_ (jO rfl rfl qb) ?_;refine r_ (bX (l:=R1 n) rfl qb (fun w i=>i.rdBlk ud _ (Gp a))) ?_;refine C8 ?_;exact d_ rfl rfl [] qh (fun _ h=>h.dropAll)
theorem oS(n:Nat)(h:n<18446744073709551616):Pu prog 83 [.int .u64 (n:Nat),.int .i64 10] Gl (B (R1 n)):=by
 refine b_ 8 func83 rfl rfl rfl ?_;intro F hg;refine E5 ?_;refine e_ rfl (qZ n h) (fun h a b=>hg.le a) rfl ?_;refine C8 ?_;exact d_ rfl rfl [] qh (fun _ h=>h)
theorem aF(n:Nat)(h:n<18446744073709551616):Pu prog 36 [.int .u64 (n:Nat)] Gl (B (R1 n)):=by
 refine b_ 5 func36 rfl rfl rfl ?_;intro F hg;refine y9 ?_;refine e_ rfl (oS n h) (fun h a b=>hg.le a) rfl ?_;refine C8 ?_;exact d_ rfl rfl [] qh (fun _ h=>h)
open Go Go.Sl Go.RowKit Go.Proofs.Tryz
theorem Gq(c:Int):Pu prog 373 [.int .u8 c] (fun _=>True) (.int .u8 (bits .or .u8 c 32)):=U0 fun w _=>Tryz.internal_strconv_lower c w
theorem AL:∀(t:Bs) (a:Nat),a<=S7 a t
 |[],a=>by rw[oh];exact z1 _
 |c::t,a=>by
  rw[rz];have:=AL t (Ak a c);unfold Ak at this⊢;omega
theorem Gr(s:Bs)(k:Nat):S7 0 (s.take k)<=S7 0 s:=by
 have:S7 0 s=S7 (S7 0 (s.take k)) (s.drop k):=by rw[<-lR,Qk]
 rw[this];exact AL _ _
theorem rI{s:Bs}{k:Nat}(h:D9<S7 0 (s.take k)):aW s=none:=by
 have:=Gr s k;unfold aW;exact zk fun a=>by omega
structure Gs(s:Bs):Prop where
 ne:s≠[]
 dig:∀j,j<s.length->P0 (s.getD j 0)=true
 le:S7 0 s<=D9
def UP(s:Bs)(v:Value)(A:List As):Prop:=A=[]/\((v=.tuple #[.int .u64 (S7 0 s:Nat),.nilIface]/\Gs s)\/∃(n k:Int),v=.tuple #[.int .u64 n,.iface 386 (.int .i64 k)]/\(k=1\/k=2)/\aW s=none)
theorem iC(l:Bs):(A5 l).length=l.length:=by simp[A5]
theorem tN{F:l6}{w:World}{H H':List As}{b:List As}{a:Option Addr}{n c:Nat}{te:TypeId}{l:Bs}(d:Hp F w H)(u:M3 H (.own (.slice a n c) te 1 (A5 l)) b H'){q i:Nat}(h:q=i)(e:i<l.length):M0 (hp w) (N0 a q) [U8 (l.getD i 0)]:=
 iU d u x6 (fun j u hu=>by
  match j,hu with
  |0,hu=>
   simp at hu;subst hu h;simp[A5,e])
theorem rb(s:Bs)(hs:s.length<=9223372036854775806):Ct prog 321 [B s,.int .i64 10,.int .i64 63] (fun _=>True) [] (UP s):=by
 refine b_ 172 func321 rfl rfl rfl ?_;intro F _;refine E5 ?_;refine f_ ((B_ rfl rfl).eq (v':=.bool (decide (s=[]))) rfl) ?_;refine N8 ?_ ?_<;>intro h
 ·have h0:=qr h;refine C6 ?_;refine f_ (Y4 x6 rfl) ?_;refine L7 ?_;exact r7 rfl rfl rfl [] ⟨rfl,.inr ⟨0,2,rfl,.inr rfl,by rw[h0];exact Fy⟩⟩ (fun w e=>e.dropAll)
 have O:=zq h;refine wk 27 ?_;refine f_ ((zZ rfl rfl qb).eq (v':=.int .u64 9223372036854775808) (by congr 1)) ?_;refine au ?_;refine nR rfl rfl ?_;intro b d h7;refine y9 ?_;refine o9 (ι:=Nat) (fun k=>k<=s.length/\(∀j,j<k->P0 (s.getD j 0)=true)/\S7 0 (s.take k)<=D9) (fun k=>[(0,B s),(1,.int .i64 10),(8,.bool false),(10,.int .u64 1844674407370955162),(11,.int .u64 9223372036854775807),(12,.bool false),(13,.int .u64 (S7 0 (s.take k):Nat)),(99,.slice b s.length d),(100,.int .i64 (s.length:Nat)),(101,.int .i64 (k:Nat))]) (fun _=>[.own (.slice b s.length d) 5 1 (A5 s)]) (fun k=>s.length-k) 0 ⟨by omega,fun j h=>by omega,by simp[oh]⟩ ?_ ?_ ?_
 ·exact sub
 ·intro w e;exact e
 rintro k ⟨hk,r,l⟩;refine R6 ?_ ?_<;>intro h
 ·have p:k<s.length:=by simp at h;omega
  obtain⟨c,hc⟩:=o7 (s.getD k 0);have Q:c.toNat<256:=c.toNat_lt;have S:∃ad,b=some ad\/True:=⟨⟨0,0,none⟩,.inr trivial⟩;refine C6 ?_;refine r_ (R4 rfl ud rfl qb) ?_;refine r_ ((i8 rfl (fun w e=>tN e ud (i:=k) qb p)).eq (v':=U8 c) (by rw[hc])) ?_;refine y9 ?_;obtain⟨u0,T⟩:=o7 (decide ((c.toNat:Int)=95));refine u7 ?_;refine w6 [(0,B s),(1,.int .i64 10),(8,.bool false),(10,.int .u64 1844674407370955162),(11,.int .u64 9223372036854775807),(12,.bool false),(13,.int .u64 (S7 0 (s.take k):Nat)),(15,U8 c),(99,.slice b s.length d),(100,.int .i64 (s.length:Nat)),(101,.int .i64 (k:Nat)),(106,.bool false)] [.own (.slice b s.length d) 5 1 (A5 s)] ?_ ?_
  ·cases u0
   all_goals (
    refine p_ ?_;refine f_ ((p8 rfl rfl).eb T) ?_;refine O2 ?_)
   all_goals exact o_ sub i_
  refine u7 ?_;obtain⟨U,t⟩:=o7 (decide ((48:Int)<=c.toNat));obtain⟨d2,u⟩:=o7 (decide ((c.toNat:Int)<=57));have v:P0 c=(U&&d2):=by
   unfold P0;rw[t,u];congr 1
   ·exact zp.mpr qb
   ·exact zp.mpr qb
  refine w6 [(0,B s),(1,.int .i64 10),(8,.bool false),(10,.int .u64 1844674407370955162),(11,.int .u64 9223372036854775807),(12,.bool false),(13,.int .u64 (S7 0 (s.take k):Nat)),(15,U8 c),(99,.slice b s.length d),(100,.int .i64 (s.length:Nat)),(101,.int .i64 (k:Nat)),(112,.bool (U&&d2))] [.own (.slice b s.length d) 5 1 (A5 s)] ?_ ?_
  ·cases U
   all_goals (
    refine p_ ?_;refine f_ ((F_ rfl rfl).eb t) ?_;refine y9 ?_;(first|refine u_ ?_|(refine v_ ?_;refine f_ ((F_ rfl rfl).eb u) ?_));refine y9 ?_)
   all_goals exact o_ sub i_
  refine N8 ?_ ?_<;>intro h2
  ·have f:P0 c=true:=v.trans h2;have h8:48<=c.toNat/\c.toNat<=57:=by
    unfold P0 at f;simp only[kw,jw] at f;exact f
   have V:∀j,j<k+1->P0 (s.getD j 0)=true:=fun j hj=>by
    rcases kd.1 hj with X|rfl
    ·exact r j X
    ·rw[<-hc];exact f
   have g:=Gi p;rw[<-hc] at g;obtain⟨n,hn⟩:=o7 (S7 0 (s.take k));rw[<-hn] at g l⊢;unfold D9 at l;refine p_ ?_;refine f_ ((nN rfl rfl (z:=((c.toNat-48:Nat):Int)) (by rw[IntKind.wrap_u8];omega))) ?_;refine E5 ?_;refine f_ (bW rfl qb) ?_;refine f_ ((I4 rfl rfl).eq (v':=.bool false) (qn qj)) ?_;refine y9 ?_;refine f_ ((I4 rfl rfl).eq (v':=.bool (decide (1844674407370955162<=n))) (qn (zp.mpr qb))) ?_;refine N8 ?_ ?_<;>intro q
   ·have X:=qr q;have a:aW s=none:=rI (k:=k+1) (by rw[g];unfold D9;omega);refine p_ ?_;refine f_ (Y4 x6 rfl) ?_;refine L7 ?_;exact r7 rfl rfl rfl [] ⟨rfl,.inr ⟨9223372036854775807,1,rfl,.inl rfl,a⟩⟩ (fun w e=>e.dropAll)
   have X:=zq q;obtain⟨z,hz⟩:=o7 (α:=Nat) ((n*10+(c.toNat-48))%18446744073709551616);refine y9 ?_;refine f_ (z_ rfl qb) ?_;refine f_ ((rr rfl rfl qb).eq (v':=.int .u64 ((n*10:Nat):Int)) (by congr 1)) ?_;refine E5 ?_;refine f_ (z_ rfl qb) ?_;refine f_ ((iT rfl rfl (z:=((z:Nat):Int)) (by rw[IntKind.wrap_u64];omega))) ?_;refine p_ ?_;obtain⟨Y,y⟩:=o7 (decide ((z:Int)<((n*10:Nat):Int)));obtain⟨e2,A⟩:=o7 (decide ((z:Int)>9223372036854775807));have C:(Y||e2)=true↔9223372036854775807<n*10+(c.toNat-48):=by
    rw[Zk,y,A,jw,jw];omega
   refine u7 ?_;refine w6 [(0,B s),(1,.int .i64 10),(8,.bool false),(10,.int .u64 1844674407370955162),(11,.int .u64 9223372036854775807),(12,.bool false),(17,.int .u64 (z:Nat)),(99,.slice b s.length d),(100,.int .i64 (s.length:Nat)),(101,.int .i64 (k:Nat)),(159,.bool (Y||e2))] [.own (.slice b s.length d) 5 1 (A5 s)] ?_ ?_
   ·cases Y
    all_goals (
     refine y9 ?_;refine f_ ((E_ rfl rfl).eb y) ?_;refine E5 ?_;(first|refine u_ ?_|(refine v_ ?_;refine f_ ((D_ rfl rfl).eb A) ?_));refine p_ ?_)
    all_goals exact o_ sub i_
   refine N8 ?_ ?_<;>intro Z
   ·have h6:=C.1 Z;have a:aW s=none:=rI (k:=k+1) (by rw[g];unfold D9;omega);refine p_ ?_;refine f_ (Y4 x6 rfl) ?_;refine L7 ?_;exact r7 rfl rfl rfl [] ⟨rfl,.inr ⟨9223372036854775807,1,rfl,.inl rfl,a⟩⟩ (fun w e=>e.dropAll)
   ·have h6:¬9223372036854775807<n*10+(c.toNat-48):=fun x=>(by rw[C.2 x] at Z;cases Z);have D:z=S7 0 (s.take (k+1)):=(by rw[g,hz];omega);refine O2 ?_;refine l8 (k+1) ⟨by omega,V,by rw[<-D,hz];unfold D9;omega⟩ qb ?_ ?_
    ·rw[<-D];exact sub
    ·intro w e;exact e
  ·have f:P0 c=false:=v.trans h2;have a:aW s=none:=Dc p (by rw[<-hc];exact f);obtain⟨m,hm⟩:=o7 (bits .or .u8 (c.toNat:Nat) 32);obtain⟨l1,J⟩:=o7 (decide ((97:Int)<=m));obtain⟨l2,M⟩:=o7 (decide (m<=122));have o:=Gq (c.toNat:Nat);rw[<-hm] at o;refine u7 ?_;refine w6 [(0,B s),(1,.int .i64 10),(15,U8 c),(101,.int .i64 (k:Nat)),(121,.bool (l1&&l2))] [.own (.slice b s.length d) 5 1 (A5 s)] ?_ ?_
   ·cases l1
    all_goals (
     refine p_ ?_;refine e_ rfl o qw rfl ?_;refine f_ ((F_ rfl rfl).eb J) ?_;refine y9 ?_;(first|refine u_ ?_|(refine v_ ?_;refine e_ rfl o qw rfl ?_));(first|refine u_ ?_|(refine v_ ?_;refine f_ ((F_ rfl rfl).eb M) ?_));refine y9 ?_)
    all_goals exact o_ sub i_
   refine N8 ?_ ?_<;>intro q
   ·have h9:97<=m/\m<=122:=by
     simp only[kw] at q;exact⟨qr (J.symm.trans q.1),qr (M.symm.trans q.2)⟩
    refine p_ ?_;refine e_ rfl o qw rfl ?_;refine f_ ((nN rfl rfl (z:=m-97) (by rw[IntKind.wrap_u8];omega))) ?_;refine f_ ((iT rfl rfl (z:=m-97+10) (by rw[IntKind.wrap_u8];omega))) ?_;refine E5 ?_;refine f_ (bW rfl qb) ?_;refine f_ ((I4 rfl rfl).eq (v':=.bool true) (qn qk)) ?_;refine C6 ?_;refine f_ (Y4 x6 rfl) ?_;refine L7 ?_;exact r7 rfl rfl rfl [] ⟨rfl,.inr ⟨0,2,rfl,.inr rfl,a⟩⟩ (fun w e=>e.dropAll)
   ·refine C6 ?_;refine f_ (Y4 x6 rfl) ?_;refine L7 ?_;exact r7 rfl rfl rfl [] ⟨rfl,.inr ⟨0,2,rfl,.inr rfl,a⟩⟩ (fun w e=>e.dropAll)
 ·have h1:k=s.length:=by simp at h;omega
  subst h1;rw[j9] at l;rw[j9];refine E5 ?_;(first|refine u_ ?_|(refine v_ ?_;fail));refine JP ?_;exact r7 rfl rfl rfl [] ⟨rfl,.inl ⟨rfl,O,r,l⟩⟩ (fun w e=>e.dropAll)
section
variable{P:Program}{L:G0}{dst:Option Tmp}{t t':TypeId}{x y:Operand}{ty:TypeId}{pos:String}{af:Array Edge}{gd:Option (Nat×Bool)}
theorem lY{a:Array (String×TypeId)}{u:TypeId}{v:Value}[hu:HU P t (.interface a)](hx:ev L x=some (.iface u v))(b:ev L y=some .nilIface):E2 P ⟨dst,.binOp .neq t x y t',ty,pos,af,gd⟩ L (.bool true):=by
 have c:P.underlying t=some (.interface (P.methodsAt t)):=by unfold Program.methodsAt;rw[hu.h]
 exact L4 hx b (fun w=>by
  rw[eqGuard_at_iface];exact run_neq_held_nil w t u v c)
theorem jP{a:Array (String×TypeId)}{c:Value}[hu:HU P t (.interface a)](hx:ev L x=some .nilIface)(b:ev L (.const c)=some .nilIface):E2 P ⟨dst,.binOp .neq t x (.const c) t',ty,pos,af,gd⟩ L (.bool false):=by
 have d:P.underlying t=some (.interface (P.methodsAt t)):=by unfold Program.methodsAt;rw[hu.h]
 exact L4 hx b (fun w=>by
  rw[eqGuard_nil_constR];exact run_neq_nil_nil w t d)
end
theorem lZ{w:World}{b:Nat}{v:Value}{t:TypeId}{fr:Nat×Nat}(h:hp w b=some (.cells #[v] t fr)):w.cell? ⟨b,0,none⟩=some v:=by
 have a:w.heap[b]? =some (.cells #[v] t fr):=h;simp[World.cell?,a]
def a1w(v:Value)(A:List As):Prop:=A=[]/\∃N:Nat,v=.iface 388 (.pointer (some ⟨N,0,none⟩))
theorem Gt{P:Program}{f:FuncId}{args:List Value}{d:l_->Prop}{Q:Value->Prop}(h:∀w,d (hp w)->Calls P f args.toArray w fun e w'=>∃v,e=.returned v/\Q v/\Below w.heap.size w w'):Ct P f args d [] (fun v A=>A=[]/\Q v):=by
 intro w k g l c;have m:k=[]:=g;subst m;rw[N3] at c;refine(h w c).mono ?_;rintro e w' ⟨v,rfl,n,a⟩;refine⟨v,[],rfl,⟨rfl,n⟩,a.os,a.tape,a.output,fun b o i=>?_,[],rfl,Zx,by simp⟩;have j:w.heap[b]? =some o:=bV w [] b o i;have p:b<w.heap.size:=(kp.1 j).1;show w'.heap[b]? =_;rw[a.block b p];exact j
theorem yk(fn s:Bs)(base a k:Int)(hs:s.length<=281474976710656)(f:k=1\/k=2):Ct prog 322 [B fn,B s,.int .i64 base,.int .i64 a,.iface 386 (.int .i64 k)] Gl [] a1w:=by
 refine Gt fun w hg=>?_;rcases f with rfl|rfl
 ·obtain⟨e,t,g,b,c⟩:=hg.rng;refine(Tryz.strconv_toError_range ⟨fn.toArray⟩ ⟨s.toArray⟩ base a e w (by simpa[ByteArray.size] using hs) (lZ b) c).mono ?_;rintro e h ⟨N,rfl,_,_,d⟩;exact⟨_,rfl,⟨N,rfl⟩,d⟩
 ·obtain⟨e,t,g,b,c⟩:=hg.syn;refine(Tryz.strconv_toError_syntax ⟨fn.toArray⟩ ⟨s.toArray⟩ base a e w (by simpa[ByteArray.size] using hs) (lZ b) c).mono ?_;rintro e h ⟨N,rfl,_,_,d⟩;exact⟨_,rfl,⟨N,rfl⟩,d⟩
def UP2(s:Bs)(v:Value)(A:List As):Prop:=A=[]/\((v=.tuple #[.int .u64 (S7 0 s:Nat),.nilIface]/\Gs s)\/∃(n:Int) (N:Nat),v=.tuple #[.int .u64 n,.iface 388 (.pointer (some ⟨N,0,none⟩))]/\aW s=none)
theorem tO(s:Bs)(hs:s.length<=281474976710656):Ct prog 250 [B s,.int .i64 10,.int .i64 63] Gl [] (UP2 s):=by
 refine b_ 26 func250 rfl rfl rfl ?_;intro F hg;refine QW ?_;refine m_ ?_;refine m_ ?_;refine m_ ?_;refine x5 _ rfl (rb s qb) i_ qw rfl ?_;rintro v A ⟨rfl,⟨rfl,b⟩|⟨n,k,rfl,c,a⟩⟩
 ·skip
  refine m_ ?_;refine f_ (T8 rfl rfl) ?_;refine f_ (T8 rfl rfl) ?_;refine a_ ?_;refine a_ ?_;refine F7 ?_;refine p_ ?_;refine f_ (jP rfl rfl) ?_;refine bS ?_;exact r7 rfl rfl rfl [] ⟨rfl,.inl ⟨rfl,b⟩⟩ i_
 ·skip
  refine m_ ?_;refine f_ (T8 rfl rfl) ?_;refine f_ (T8 rfl rfl) ?_;refine a_ ?_;refine a_ ?_;refine F7 ?_;refine p_ ?_;refine f_ (lY rfl rfl) ?_;refine au ?_;refine x5 _ rfl (yk _ s 10 63 k hs c) i_ (fun h d e=>hg.le d) rfl ?_;rintro v A ⟨rfl,N,rfl⟩;refine L7 ?_;exact r7 rfl rfl rfl [] ⟨rfl,.inr ⟨n,N,rfl,a⟩⟩ i_
theorem Li{s:Bs}(h:Gs s):aW s=if R1 (S7 0 s)=s then some (S7 0 s) else none:=by
 unfold aW;by_cases h1:R1 (S7 0 s)=s
 ·rw[zu ⟨h1,h.le⟩,zu h1]
 ·rw[zk (fun x=>h1 x.1),zk h1]
theorem eN(s:Bs)(hs:s.length<=281474976710656):Pu prog 179 [B s] Gl (Gg (aW s)):=by
 refine b_ 20 func179 rfl rfl rfl ?_;intro F hg;refine QW ?_;refine m_ ?_;refine x5 _ rfl (tO s hs) i_ (fun h c d=>hg.le c) rfl ?_;rintro v A ⟨rfl,⟨rfl,a⟩|⟨n,N,rfl,b⟩⟩
 ·skip
  refine m_ ?_;refine f_ (T8 rfl rfl) ?_;refine f_ (T8 rfl rfl) ?_;refine a_ ?_;refine a_ ?_;refine F7 ?_;rw[Li a];have e:S7 0 s<18446744073709551616:=by have:=a.le;unfold D9 at this;omega
  refine p_ ?_;refine f_ (jP rfl rfl) ?_;refine y9 ?_;(first|refine u_ ?_|(refine v_ ?_;refine e_ rfl (aF (S7 0 s) e) (fun h c d=>hg.le c) rfl ?_));refine p_ ?_;(first|refine u_ ?_|(refine v_ ?_;refine f_ ((E1 rfl rfl).eq (v':=.bool (!decide (R1 (S7 0 s)=s))) rfl) ?_));refine R6 ?_ ?_<;>intro h
  ·rw[zk (by simpa using h)];refine L7 ?_;exact r7 rfl rfl rfl [] qh i_
  ·rw[zu (by simpa using h)];refine bS ?_;exact r7 rfl rfl rfl [] qh i_
 ·skip
  refine m_ ?_;refine f_ (T8 rfl rfl) ?_;refine f_ (T8 rfl rfl) ?_;refine a_ ?_;refine a_ ?_;refine F7 ?_;rw[b];refine p_ ?_;refine f_ (lY rfl rfl) ?_;refine y9 ?_;(first|refine u_ ?_|(refine v_ ?_;fail));refine JP ?_;exact r7 rfl rfl rfl [] qh i_
open Go Go.Sl Go.RowKit Go.Proofs.Tryz
theorem tP(c:UInt8):Pu prog 172 [U8 c] (fun _=>True) (.bool (aX c)):=by
 obtain⟨d,f⟩:=o7 (decide ((c.toNat:Int)>0));obtain⟨g,i⟩:=o7 (decide ((c.toNat:Int)<128));obtain⟨j,k⟩:=o7 (!decide (c=10));obtain⟨m,l⟩:=o7 (!decide (c=13));have e:aX c=(d&&g&&j&&m):=by
  rw[f,i,k,l];unfold aX;have n:decide (0<c.toNat)=decide ((c.toNat:Int)>0):=zp.mpr qb;have o:decide (c.toNat<128)=decide ((c.toNat:Int)<128):=zp.mpr qb;rw[n,o];by_cases a:c=10<;>by_cases b:c=13<;>simp[a,b]
 rw[e];clear e;refine b_ 17 func172 rfl rfl rfl ?_;intro F _;refine p_ ?_
 cases d<;>cases g<;>cases j
 all_goals (
  refine p_ ?_;refine f_ ((D_ rfl rfl).eb f) ?_;refine y9 ?_;(first|refine u_ ?_|(refine v_ ?_;refine f_ ((E_ rfl rfl).eb i) ?_));refine E5 ?_;(first|refine u_ ?_|(refine v_ ?_;refine f_ ((M1 rfl rfl).eq ((jk (fun b=>Value.bool (!b)) (gV (b:=10))).trans (qn k.symm))) ?_));refine E5 ?_;(first|refine u_ ?_|(refine v_ ?_;refine f_ ((M1 rfl rfl).eq ((jk (fun b=>Value.bool (!b)) (gV (b:=13))).trans (qn l.symm))) ?_));refine y9 ?_)
 all_goals (refine A2 ?_;exact d_ rfl rfl [] qh (fun _ h=>h))
theorem yl(s:Bs)(c:UInt8):decide (Lib.indexByte s c<0)=!s.contains c:=by
 rw[eJ]
 cases s.contains c with
 |true=>simp
 |false=>simp
theorem Gu(c:UInt8):Pu prog 99 [U8 c] (fun _=>True) (.bool (P1 c)):=by
 obtain⟨a,b⟩:=o7 (decide ((c.toNat:Int)>32));obtain⟨d,f⟩:=o7 (decide ((c.toNat:Int)<127));obtain⟨i,g⟩:=o7 (!([40,41,123,37,42,34,92,93]:Bs).contains c);have e:P1 c=(a&&d&&i):=by
  rw[b,f,g];unfold P1;have j:decide (33<=c.toNat)=decide ((c.toNat:Int)>32):=zp.mpr qb;have k:decide (c.toNat<=126)=decide ((c.toNat:Int)<127):=zp.mpr qb;rw[j,k]
 rw[e];clear e;refine b_ 14 func99 rfl rfl rfl ?_;intro F _;refine p_ ?_
 cases a<;>cases d
 all_goals (
  refine p_ ?_;refine f_ ((D_ rfl rfl).eb b) ?_;refine y9 ?_;(first|refine u_ ?_|(refine v_ ?_;refine f_ ((E_ rfl rfl).eb f) ?_));refine E5 ?_;(first|refine u_ ?_|(refine v_ ?_;refine e_ rfl (aj [40,41,123,37,42,34,92,93] c) qw rfl ?_));(first|refine u_ ?_|(refine v_ ?_;refine f_ ((E_ rfl rfl).eq (qn ((yl _ c).trans g.symm))) ?_));refine y9 ?_)
 all_goals (refine A2 ?_;exact d_ rfl rfl [] qh (fun _ h=>h))
theorem Lj(c:UInt8):Pu prog 187 [U8 c] (fun _=>True) (.bool (CF c)):=by
 obtain⟨a,b⟩:=o7 (decide ((c.toNat:Int)≥32));obtain⟨d,f⟩:=o7 (decide ((c.toNat:Int)<127));obtain⟨i,g⟩:=o7 (!([37,42,34,92]:Bs).contains c);have e:CF c=(a&&d&&i):=by
  rw[b,f,g];unfold CF;have j:decide (32<=c.toNat)=decide ((c.toNat:Int)≥32):=zp.mpr qb;have k:decide (c.toNat<=126)=decide ((c.toNat:Int)<127):=zp.mpr qb;rw[j,k]
 rw[e];clear e;refine b_ 14 func187 rfl rfl rfl ?_;intro F _;refine p_ ?_
 cases a<;>cases d
 all_goals (
  refine p_ ?_;refine f_ ((I4 rfl rfl).eb b) ?_;refine y9 ?_;(first|refine u_ ?_|(refine v_ ?_;refine f_ ((E_ rfl rfl).eb f) ?_));refine E5 ?_;(first|refine u_ ?_|(refine v_ ?_;refine e_ rfl (aj [37,42,34,92] c) qw rfl ?_));(first|refine u_ ?_|(refine v_ ?_;refine f_ ((E_ rfl rfl).eq (qn ((yl _ c).trans g.symm))) ?_));refine y9 ?_)
 all_goals (refine A2 ?_;exact d_ rfl rfl [] qh (fun _ h=>h))
theorem Gv(f:FuncId)(p:UInt8->Bool)(hp:∀c,Pu prog f [U8 c] (fun _=>True) (.bool (p c)))[hF:HF prog f](s:Bs)(hs:s.length<=9223372036854775806):Pu prog 98 [B s,.func (.func f) #[] #[]] (fun _=>True) (.bool (s.all p&&!s.isEmpty)):=by
 refine b_ 20 func98 rfl rfl rfl ?_;intro F _;refine O2 ?_;refine o9 (ι:=Nat) (fun k=>k<=s.length/\∀j,j<k->p (s.getD j 0)=true) (fun k=>[(0,B s),(1,.func (.func f) #[] #[]),(7,.int .i64 (s.length:Nat)),(8,.int .i64 (k:Nat))]) (fun _=>[]) (fun k=>s.length-k) 0 ⟨by omega,fun j h=>by omega⟩ ?_ ?_ ?_
 ·exact sub
 ·intro w b;exact b
 rintro k ⟨n,a⟩;refine R6 ?_ ?_<;>intro h
 ·have d:k<s.length:=by simp at h;omega
  refine au ?_;refine f_ ((A6 rfl rfl qb).eq (v':=U8 (s.getD k 0)) (by simp only[jm])) ?_;refine A0 [] rfl rfl (ps:=[]) (qs:=[]) rfl (hp (s.getD k 0)) i_ qw rfl ?_;rintro v A ⟨rfl,rfl⟩;refine R6 ?_ ?_<;>intro i
  ·have e:p (s.getD k 0)=false:=(by simpa using i);rw[yh d e,Bool.false_and];refine C8 ?_;exact d_ rfl rfl [] qh (fun _ h=>h)
  ·have e:p (s.getD k 0)=true:=(by simpa using i);refine y9 ?_;refine l8 (k+1) ⟨by omega,fun j l=>?_⟩ qb ?_ ?_
   ·rcases kd.1 l with m|rfl
    ·exact a j m
    ·exact e
   ·exact sub
   ·intro w b;exact b
 ·have g:k=s.length:=by simp at h;omega
  subst g;rw[AG a,Km];refine p_ ?_;refine f_ ((E1 rfl rfl).eq (v':=.bool (!s.isEmpty)) (by cases s<;>simp)) ?_;refine C8 ?_;exact d_ rfl rfl [] qh (fun _ h=>h)
theorem oT(s:Bs)(hs:s.length<=9223372036854775806):Pu prog 47 [B s] (fun _=>True) (.bool (iY s)):=by
 refine b_ 5 func47 rfl rfl rfl ?_;intro F _;refine y9 ?_;refine e_ rfl (Gv 99 P1 Gu s hs) qw rfl ?_;refine C8 ?_;exact d_ rfl rfl [] qh (fun _ h=>h)
theorem aM(a b:Bs):A5 (a++b)=A5 a++A5 b:=by simp[A5]
theorem rJ{a r:Bs}{d c:UInt8}:L5 (A5 (a++d::r)) a.length [U8 c]=A5 (a++c::r):=by
 unfold L5;rw[aM,aM];have b:(A5 a).length=a.length:=iC a;rw[Yq b,jp,<-b,K4];simp[A5]
theorem vI(f:UInt8->UInt8){s:Bs}{k:Nat}(a:k<s.length):(s.take (k+1)).map f++s.drop (k+1)=(s.take k).map f++f (s.getD k 0)::s.drop (k+1):=by
 rw[qY f a];simp
theorem I3(s:Bs)(hl:s.length<=9223372036854775806):Pu prog 84 [B s] (fun _=>True) (B (R8 s)):=by
 refine b_ 29 func84 rfl rfl rfl ?_;intro F _;refine y9 ?_;refine nR rfl rfl ?_;intro o p U;refine O2 ?_;refine o9 (ι:=Nat) (fun k=>k<=s.length) (fun k=>[(3,.slice o s.length p),(8,.slice o s.length p),(9,.int .i64 (s.length:Nat)),(10,.int .i64 (k:Nat))]) (fun k=>[.own (.slice o s.length p) 5 1 (A5 (R8 (s.take k)++s.drop k))]) (fun k=>s.length-k) 0 qb ?_ ?_ ?_
 ·exact sub
 ·intro w f;exact f
 rintro k X;refine R6 ?_ ?_<;>intro h
 ·have t:k<s.length:=by simp at h;omega
  have j:=vI rB t;have g:=co t;have m:(R8 (s.take k)).length=k:=by unfold R8;rw[zr,zm];omega
  obtain⟨c,hc⟩:=o7 (s.getD k 0);rw[<-hc] at j g;have y:(R8 (s.take k)++s.drop k).getD k 0=c:=by
   rw[zd,jz qb,m,Wg,g];rfl
  have A:(R8 (s.take k)++s.drop k).length=s.length:=by rw[zz,m,z8];omega
  have C:=c.toNat_lt;refine p_ ?_;refine r_ (R4 rfl ud rfl qb) ?_;refine r_ ((i8 rfl (fun w f=>tN f ud (i:=k) qb qb)).eq (v':=U8 c) (by rw[y])) ?_;refine y9 ?_;obtain⟨D,J⟩:=o7 (decide ((c.toNat:Int)≥97));obtain⟨S,M⟩:=o7 (decide ((c.toNat:Int)<=122));refine u7 ?_;refine w6 [(3,.slice o s.length p),(4,.int .i64 (k:Nat)),(5,U8 c),(8,.slice o s.length p),(9,.int .i64 (s.length:Nat)),(10,.int .i64 (k:Nat)),(20,.bool (D&&S))] [.own (.slice o s.length p) 5 1 (A5 (R8 (s.take k)++s.drop k))] ?_ ?_
  ·cases D
   all_goals (
    refine p_ ?_;refine f_ ((I4 rfl rfl).eb J) ?_;refine y9 ?_;(first|refine u_ ?_|(refine v_ ?_;refine f_ ((F_ rfl rfl).eb M) ?_));refine p_ ?_)
   all_goals exact o_ sub i_
  refine N8 ?_ ?_<;>intro u
  ·have O:97<=c.toNat/\c.toNat<=122:=by
    simp only[kw] at u;have a:=qr (J.symm.trans u.1);have b:=qr (M.symm.trans u.2);omega
   have n:rB c=c-32:=(by unfold rB;rw[zu O]);have T:(c.toNat:Int)-32=((c-32).toNat:Nat):=by
    rw[UInt8.toNat_sub];simp;omega
   refine E5 ?_;refine f_ ((nN rfl rfl (z:=((c-32).toNat:Nat)) (by rw[IntKind.wrap_u8];omega))) ?_;refine r_ (R4 rfl ud rfl qb) ?_;refine T9 (q:=k*1) rfl rfl uh (by rfl) qp (by(intro q x;simp[Value.cells] at x;first|(subst x;rfl)|(rcases x with rfl|rfl|rfl|rfl|rfl|rfl|rfl|rfl<;>rfl)|(rcases x with rfl|rfl|rfl|rfl|rfl|rfl|rfl|rfl|rfl|rfl|rfl|rfl|rfl|rfl|rfl|rfl|rfl|rfl|rfl|rfl<;>rfl))) (by rw[iC,A];omega) ?_;refine y9 ?_;refine l8 (k+1) qb qb ?_ ?_
   ·exact sub
   ·intro w f;have e:L5 (A5 (R8 (s.take k)++s.drop k)) (k*1) [U8 (c-32)]=A5 (R8 (s.take (k+1))++s.drop (k+1)):=by
     have v:R8 (s.take (k+1))++s.drop (k+1)=R8 (s.take k)++(c-32)::s.drop (k+1):=(by rw[<-n];exact j);rw[v,g,Zd];have V:=rJ (a:=R8 (s.take k)) (r:=s.drop (k+1)) (d:=c) (c:=c-32)
     rwa [m] at V
    rw[<-e];exact f
  ·have n:rB c=c:=by
    unfold rB;refine zk fun Y=>?_;have a:D=true:=J.trans qk;have b:S=true:=M.trans qk;rw[a,b] at u
    cases u
   refine y9 ?_;refine l8 (k+1) qb qb ?_ ?_
   ·exact sub
   ·intro w f;have e:R8 (s.take k)++s.drop k=R8 (s.take (k+1))++s.drop (k+1):=by
     have v:R8 (s.take (k+1))++s.drop (k+1)=R8 (s.take k)++rB c::s.drop (k+1):=j;rw[v,n,g]
    rw[<-e];exact f
 ·have Q:k=s.length:=by simp at h;omega
  subst Q;refine p_ ?_;refine r_ (bX (l:=R8 s) rfl (by simp[R8]) (fun w f=>by have v:=(f.ownN .del).2.2.1;rwa [j9,J7,z7] at v)) ?_;refine C8 ?_;exact d_ rfl rfl [] qh (fun _ h=>h.dropAll)
theorem oU(l:Bs):∀q∈A5 l,q.oneCell'=true:=fun q a=>by
 obtain⟨x,_,rfl⟩:=jx.mp a;rfl
theorem Pk{b:Bs}{i:Nat}{c:UInt8}{t:Bs}(h:aX c=false\/512<b.length):Al b i (c::t)=none:=by
 rw[iZ];rcases h with h|h
 ·split
  ·rfl
  split
  ·next a=>subst a;cases h
  split
  ·next a=>subst a;cases h
  ·simp[h]
 ·rw[zu h]
theorem md(s:Bs)(hl:s.length<=lp):Pu prog 178 [B s] (fun _=>True) (Pi (vg s)):=by
 unfold lp at hl;obtain⟨u,y⟩:=o7 (decide (s=[]));obtain⟨A,O⟩:=o7 (decide (s.getD 0 0=34));have hq:(u||!A)=true->vg s=none:=fun h=>by
  cases s with
  |nil=>rfl
  |cons c t=>
   have g:u=false:=y.trans (jc x6);rw[g,K2] at h;have Q:A=false:=(by simpa using h);have a3:¬c=34:=zq (O.symm.trans Q);unfold vg;simp only;rw[zk a3]
 have S:(u||!A)=false->vg s=Al [] 1 (s.drop 1)/\1<=s.length:=fun h=>by
  cases s with
  |nil=>
   have g:u=true:=y.trans (kr rfl);rw[g] at h
   cases h
  |cons c t=>
   have g:u=false:=y.trans (jc x6);rw[g,K2] at h;have Q:A=true:=(by simpa using h);have a3:c=34:=qr (O.symm.trans Q);unfold vg;simp only;rw[zu a3];exact⟨rfl,by simp⟩
 refine b_ 74 func178 rfl rfl rfl ?_;intro F _;refine E5 ?_;refine w6 [(0,B s),(14,.bool (u||!A))] [] ?_ ?_
 ·cases u
  all_goals (
   refine p_ ?_;refine f_ ((B_ rfl rfl).eb y) ?_;refine y9 ?_;(first|refine u_ ?_|(refine v_ ?_;refine f_ ((A6 rfl rfl (by have:s≠[]:=zq y.symm;have:=Zr.mpr this;omega)).eq (v':=U8 (s.getD 0 0)) rfl) ?_));(first|refine u_ ?_|(refine v_ ?_;refine f_ ((M1 rfl rfl).eq ((jk (fun b=>Value.bool (!b)) (gV (b:=34))).trans (jk (fun b=>Value.bool (!b)) O.symm))) ?_));refine p_ ?_)
  all_goals exact o_ sub i_
 refine N8 ?_ ?_<;>intro h
 ·rw[hq h];refine bS ?_;exact cO rfl rfl rfl rfl [] qh (fun _ h=>h)
 obtain⟨T,U⟩:=S h;refine y9 ?_;refine O7 5 1 ?_;refine o9 (ι:=Nat×Bs×Option Addr×Nat) (fun i=>1<=i.1/\i.1<=s.length/\i.2.1.length<=513/\vg s=Al i.2.1 i.1 (s.drop i.1)) (fun i=>[(0,B s),(5,.slice i.2.2.1 i.2.1.length i.2.2.2),(6,.int .i64 (i.1:Nat))]) (fun i=>[.own (.slice i.2.2.1 i.2.1.length i.2.2.2) 5 1 (A5 i.2.1)]) (fun i=>s.length-i.1) (1,[],none,0) ⟨by simp,U,by simp,T⟩ ?_ ?_ ?_
 ·exact sub
 ·intro w j;exact j
 rintro⟨k,b,a,c⟩ ⟨V,hk,X,f⟩;simp only at V hk X f;obtain⟨Y,o⟩:=o7 (decide ((k:Int)<(s.length:Nat)));obtain⟨d,C⟩:=o7 (s.getD k 0);obtain⟨Z,v⟩:=o7 (aX d);obtain⟨p3,p⟩:=o7 (decide ((b.length:Int)<=512));refine u7 ?_;refine w6 [(0,B s),(5,.slice a b.length c),(6,.int .i64 (k:Nat)),(29,.bool (Y&&(Z&&p3)))] [.own (.slice a b.length c) 5 1 (A5 b)] ?_ ?_
 ·cases Y<;>cases Z
  all_goals (
   refine E5 ?_;refine f_ ((E_ rfl rfl).eb o) ?_;refine E5 ?_;(first|refine u_ ?_|(refine v_ ?_;refine f_ ((A6 rfl rfl (by have:=qr o.symm;omega)).eq (v':=U8 d) (by rw[C];simp only[jm])) ?_));(first|refine u_ ?_|(refine v_ ?_;refine e_ rfl (tP d) qw rfl ?_;rw[<-v]));refine O2 ?_;(first|refine u_ ?_|(refine v_ ?_;refine f_ ((F_ rfl rfl).eb p) ?_));refine p_ ?_)
  all_goals exact o_ sub i_
 refine N8 ?_ ?_<;>intro h
 rotate_left
 ·have e:vg s=none:=by
   rw[f];rcases Qp k s.length with m|m
   ·rw[co m,<-C];have g:Y=true:=o.trans qk;rw[g,Km] at h;refine Pk ?_
    cases Z with
    |false=>exact .inl v.symm
    |true=>
     rw[Km] at h;rw[h] at p;have:=zq p.symm;exact .inr qb
   ·rw[Qc m];rfl
  rw[e];refine bS ?_;exact cO rfl rfl rfl rfl [] qh (fun _ h=>h.dropAll)
 simp only[kw] at h;have h0:k<s.length:=by have:=qr (o.symm.trans h.1);omega
 have h7:aX d=true:=v.symm.trans h.2.1;have k8:b.length<=512:=by have:=qr (p.symm.trans h.2.2);omega
 rw[co h0,<-C,iZ,zk qb] at f;refine y9 ?_;refine f_ ((A6 rfl rfl qb).eq (v':=U8 d) (by rw[C];simp only[jm])) ?_;refine p_ ?_;obtain⟨r1,x⟩:=o7 (decide (d=34));refine u7 ?_;refine w6 [(0,B s),(5,.slice a b.length c),(6,.int .i64 (k:Nat)),(7,U8 d),(35,.bool r1)] [.own (.slice a b.length c) 5 1 (A5 b)] ?_ ?_
 ·cases r1
  all_goals (
   refine p_ ?_;refine f_ ((p8 rfl rfl).eq ((qn (gV (b:=34))).trans (qn x.symm))) ?_;refine E5 ?_;(first|refine u_ ?_|(refine v_ ?_;refine f_ ((F_ rfl rfl).eq (v':=.bool true) (qn qk)) ?_));refine y9 ?_)
  all_goals exact o_ sub i_
 refine N8 ?_ ?_<;>intro h3
 ·rw[zu (qr (x.symm.trans h3))] at f;rw[f];refine p_ ?_;refine r_ (bX (l:=b) rfl rfl (fun w j=>(j.ownN ud).2.2.1)) ?_;refine JP ?_;exact cO rfl rfl rfl rfl [] qh (fun _ h=>h.dropAll)
 rw[zk (zq (x.symm.trans h3))] at f;refine p_ ?_;refine f_ ((p8 rfl rfl).eq (v':=.bool (decide (d=92))) (qn (gV (b:=92)))) ?_;refine R6 ?_ ?_<;>intro h4
 ·rw[zu (qr h4)] at f;refine E5 ?_;obtain⟨z,hz⟩:=o7 (s.getD (k+1) 0);obtain⟨D,n⟩:=o7 (decide (((k:Int)+1)≥(s.length:Nat)));obtain⟨u2,q⟩:=o7 (decide (z=34));obtain⟨u3,r⟩:=o7 (decide (z=92));refine u7 ?_;refine w6 [(0,B s),(5,.slice a b.length c),(6,.int .i64 ((k:Int)+1)),(67,.bool (D||(!u2&&!u3)))] [.own (.slice a b.length c) 5 1 (A5 b)] ?_ ?_
  ·cases D<;>cases u2
   all_goals (
    refine E5 ?_;refine f_ ((I4 rfl rfl).eb n) ?_;refine E5 ?_;(first|refine u_ ?_|(refine v_ ?_;refine f_ ((A6 rfl rfl (by have:=zq n.symm;omega)).eq (v':=U8 z) (by rw[hz];rfl)) ?_));(first|refine u_ ?_|(refine v_ ?_;refine f_ ((M1 rfl rfl).eq ((jk (fun b=>Value.bool (!b)) (gV (b:=34))).trans (jk (fun b=>Value.bool (!b)) q.symm))) ?_));refine E5 ?_;(first|refine u_ ?_|(refine v_ ?_;refine f_ ((A6 rfl rfl (by have:=zq n.symm;omega)).eq (v':=U8 z) (by rw[hz];rfl)) ?_));(first|refine u_ ?_|(refine v_ ?_;refine f_ ((M1 rfl rfl).eq ((jk (fun b=>Value.bool (!b)) (gV (b:=92))).trans (jk (fun b=>Value.bool (!b)) r.symm))) ?_));refine y9 ?_)
   all_goals exact o_ sub i_
  refine N8 ?_ ?_<;>intro m
  ·have e:vg s=none:=by
    rw[f];rcases Qp (k+1) s.length with h6|h6
    ·rw[co h6,<-hz];simp only;refine zk fun J=>?_;have g:D=false:=n.trans qj;rw[g,K2] at m;simp only[kw,Zn] at m;rcases J with J|J
     ·rw[J,m.1] at q;cases q
     ·rw[J,m.2] at r;cases r
    ·rw[Qc h6]
   rw[e];refine bS ?_;exact cO rfl rfl rfl rfl [] qh (fun _ h=>h.dropAll)
  ·have g:D=false:=(by cases D with|false=>rfl|true=>cases m);have h8:k+1<s.length:=(by have:=zq (n.symm.trans g);omega);have h9:z=34\/z=92:=by
    rw[g,K2] at m
    cases u2 with
    |true=>exact .inl (qr q.symm)
    |false=>
     cases u3 with
     |true=>exact .inr (qr r.symm)
     |false=>cases m
   rw[co h8,<-hz] at f;simp only at f;rw[zu h9] at f;refine E5 ?_;refine f_ ((A6 rfl rfl qb).eq (v':=U8 z) (by rw[hz];rfl)) ?_;refine x7 rfl rfl rfl rfl rfl rfl (xs:=A5 [z]) rfl rfl ?_;intro Rt M;refine C0 rfl rfl (fun a' c'=>.there .here) (fun w j=>(j.ownN ud).2.2.1) rfl rfl rfl (oU _) (by show(b.length+1)*1<=_;omega) qb rfl ?_;intro a6 c6 k0;refine y9 ?_;refine f_ ((p9 rfl rfl qb).eq (v':=.int .i64 ((k+2:Nat):Int)) (by congr 1)) ?_;refine p_ ?_;refine l8 (k+2,b++[z],a6,c6) ⟨by simp only;omega,by simp only;omega,by simp;omega,f⟩ qg ?_ ?_
   ·simp only;rw[zz];exact sub
   ·intro w j;simp only;rw[zz,aM];exact j.drop
 ·rw[zk (zq h4),zu h7] at f;refine E5 ?_;refine f_ ((A6 rfl rfl qb).eq (v':=U8 d) (by rw[C];simp only[jm])) ?_;refine x7 rfl rfl rfl rfl rfl rfl (xs:=A5 [d]) rfl rfl ?_;intro Rt M;refine C0 rfl rfl (fun a' c'=>.there .here) (fun w j=>(j.ownN ud).2.2.1) rfl rfl rfl (oU _) (by show(b.length+1)*1<=_;omega) qb rfl ?_;intro a6 c6 k0;refine y9 ?_;refine f_ ((p9 rfl rfl qb).eq (v':=.int .i64 ((k+1:Nat):Int)) (by congr 1)) ?_;refine p_ ?_;refine l8 (k+1,b++[d],a6,c6) ⟨by simp only;omega,by simp only;omega,by simp;omega,f⟩ qg ?_ ?_
  ·simp only;rw[zz];exact sub
  ·intro w j;simp only;rw[zz,aM];exact j.drop
theorem sc4(a b c:Bool):a=false\/(a=true/\b=true)\/(a=true/\b=false/\c=true)\/(a=true/\b=false/\c=false):=by
 cases a<;>cases b<;>cases c<;>simp
theorem AM(s:Bs)(hl:s.length<=lp):Pu prog 108 [B s] (fun _=>True) (SA (ja s)):=by
 unfold lp at hl;obtain⟨d,f⟩:=o7 ((s.all CF&&!s.isEmpty));obtain⟨g,j⟩:=o7 (decide ((s.length:Int)>64));obtain⟨i,k⟩:=o7 (decide (s.getD 0 0=32));obtain⟨l,m⟩:=o7 (decide (s.getD (s.length-1) 0=32));have c:d=true->1<=s.length:=fun h=>by
  rw[f] at h;simp only[kw,Zn,List.isEmpty_eq_false_iff] at h;exact Zr.mpr h.2
 have n:vh s=!(!d||(g||(i||l))):=by
  cases hq:d with
  |false=>
   unfold vh;rw[f] at hq;rw[W3] at hq;rw[hq];rfl
  |true=>
   have hp:=c hq;unfold vh;rw[f,W3] at hq;rw[hq,oO hp,Gj hp,j,k,m];have o:decide (s.length<=64)=!decide ((s.length:Int)>64):=by
    by_cases h:s.length<=64
    ·rw[kr h,jc qb];rfl
    ·rw[jc h,kr qb];rfl
   rw[o];generalize decide ((s.length:Int)>64)=x;by_cases a:s.getD 0 0=32<;>by_cases b:s.getD (s.length-1) 0=32<;>cases x<;>simp[a,b]
 refine b_ 31 func108 rfl rfl rfl ?_;intro F _;refine E5 ?_;refine w6 [(0,B s),(26,.bool (!d||(g||(i||l))))] [] ?_ ?_
 ·rcases sc4 d g i with rfl|⟨rfl,rfl⟩|⟨rfl,rfl,rfl⟩|⟨rfl,rfl,rfl⟩;all_goals (
   refine y9 ?_;refine e_ rfl (Gv 187 CF Lj s qb) qw rfl ?_;rw[<-f];refine O2 ?_;(first|refine u_ ?_|(refine v_ ?_;refine f_ ((D_ rfl rfl).eb j) ?_));refine E5 ?_;(first|refine u_ ?_|(refine v_ ?_;refine f_ ((A6 rfl rfl (by have:=c rfl;omega)).eq (v':=U8 (s.getD 0 0)) rfl) ?_));(first|refine u_ ?_|(refine v_ ?_;refine f_ ((p8 rfl rfl).eq ((qn (gV (b:=32))).trans (qn k.symm))) ?_));refine au ?_;(first|refine u_ ?_|(refine v_ ?_;refine f_ ((E0 rfl rfl (by have:=c rfl;omega)).eq (v':=.int .i64 ((s.length-1:Nat):Int)) (by have:=c rfl;congr 1;omega)) ?_));(first|refine u_ ?_|(refine v_ ?_;refine f_ ((A6 rfl rfl (by have:=c rfl;omega)).eq (v':=U8 (s.getD (s.length-1) 0)) (by simp only[jm])) ?_));(first|refine u_ ?_|(refine v_ ?_;refine f_ ((p8 rfl rfl).eq ((qn (gV (b:=32))).trans (qn m.symm))) ?_));refine p_ ?_)
  all_goals exact o_ sub i_
 refine N8 ?_ ?_<;>intro h
 ·have e:ja s=none:=by unfold ja;rw[n,h];rfl
  rw[e];refine L7 ?_;exact r7 rfl rfl rfl [] qh (fun _ h=>h)
 have e:ja s=some (if R8 s=cS then cS else s):=by unfold ja;rw[n,h];rfl
 rw[e];refine p_ ?_;refine e_ rfl (I3 s qb) qw rfl ?_;refine f_ ((B_ rfl rfl).eq (v':=.bool (decide (R8 s=cS))) rfl) ?_;refine N8 ?_ ?_<;>intro h
 ·rw[zu (qr h)];refine L7 ?_;exact r7 rfl rfl rfl [] qh (fun _ h=>h)
 ·rw[zk (zq h)];refine bS ?_;exact r7 rfl rfl rfl [] qh (fun _ h=>h)
open Go Go.RowKit Go.Proofs.Tryz
def iD(W:World)(w':World):Prop:=∃q os,w'=Sort.grow (W.drewN q) os
abbrev Lk:Obj:=.cells #[.string ⟨#[92,65,110,115,119,101,114,101,100]⟩,.string ⟨#[92,70,108,97,103,103,101,100]⟩,.string ⟨#[92,68,101,108,101,116,101,100]⟩,.string ⟨#[92,83,101,101,110]⟩,.string ⟨#[92,68,114,97,102,116]⟩] 304
theorem oV(W:World):Calls prog 263 #[] W fun e w'=>e=.returned (.agg #[.string ⟨#[92,65,110,115,119,101,114,101,100]⟩,.string ⟨#[92,70,108,97,103,103,101,100]⟩,.string ⟨#[92,68,101,108,101,116,101,100]⟩,.string ⟨#[92,83,101,101,110]⟩,.string ⟨#[92,68,114,97,102,116]⟩])/\iD W w':=by
 go_enter func263,Tryz.ntmps263
 go_wp2
 refine bodyPost_ret (results_cell_row (d:=.array 5 9) rfl _ _ W.heap.size 304 _ (0,0) rfl (heap_alloc_new _ _) underlying304 rfl qd) rfl ?_;exact⟨rfl,0,_,Sort.alloc_eq_grow _ _⟩
abbrev Dd:List ByteArray:=R5.map fun l=>(⟨l.toArray⟩:ByteArray)
theorem Gw(w:World):∀j,j<Dd.length->(w.alloc Lk).cell? ⟨w.heap.size,0+j,none⟩=some (.string (Dd.getD j ByteArray.empty)):=fun j a=>by
 rw[World.cell?_alloc_new];have:j<5:=a;have c:j=0\/j=1\/j=2\/j=3\/j=4:=by omega
 rcases c with rfl|rfl|rfl|rfl|rfl<;>rfl
theorem SC{a b:Bs}:((⟨a.toArray⟩:ByteArray)=⟨b.toArray⟩)↔a=b:=by
 constructor
 ·intro h;have:a.toArray=b.toArray:=jk ByteArray.data h;simpa using this
 ·rintro rfl;rfl
theorem Gx{a f:Bs}{t:List Bs}(h:¬a=f):(a::t).idxOf f=t.idxOf f+1:=by
 rw[List.idxOf_cons,show(a==f)=false from beq_eq_false_iff_ne.mpr h];rfl
theorem SF(f:Bs):∀(l:List Bs) (i:Nat),Lib.idxFromS (l.map fun l=>(⟨l.toArray⟩:ByteArray)) ⟨f.toArray⟩ i=if l.idxOf f<l.length then((i+l.idxOf f:Nat):Int) else-1
 |[],i=>rfl
 |a::t,i=>by
  rw[Qu,Lib.idxFromS];by_cases h:a=f
  ·subst h;rw[zu rfl,List.idxOf_cons_self,zu qc];rfl
  ·rw[zk (fun x=>h (SC.1 x)),SF f t (i+1),Gx h,zy];by_cases h2:t.idxOf f<t.length
   ·rw[zu h2,zu qb];congr 1;omega
   ·rw[zk h2,zk qb]
theorem Ll(f:Bs):Lib.idxOfS (Dd.take 5) ⟨f.toArray⟩=if M8 f<5 then(M8 f:Int) else-1:=by
 have e:Dd.take 5=Dd:=rfl;rw[e];have:=SF f R5 0;rw[jv] at this;exact this
theorem rK(f:Bs)(W:World)(q:Nat)(a:Array Obj):Calls prog 273 #[.slice (some ⟨W.heap.size+a.size,0,none⟩) 5 5,Sl.B f] ((Sort.grow (W.drewN q) a).alloc Lk) fun e w'=>e=.returned (.int .i64 (if M8 f<5 then(M8 f:Int) else-1))/\w'=(Sort.grow (W.drewN q) a).alloc Lk:=by
 have h:=Tryz.slices_Index_string (Sort.grow (W.drewN q) a).heap.size 0 5 5 Dd ⟨f.toArray⟩ ((Sort.grow (W.drewN q) a).alloc Lk) (z1 5) qb (Gw _);rw[Ll,Sort.size_grow] at h;exact h
theorem Gy(W:World)(q:Nat)(a:Array Obj)(o:Obj):iD W ((Sort.grow (W.drewN q) a).alloc o):=⟨q,a++#[o],by rw[Sort.alloc_eq_grow,Sort.grow_grow]⟩
theorem AO(f:Bs)(W:World):Calls prog 337 #[Sl.B f] W fun e w'=>e=.returned (.int .i64 (M8 f:Nat))/\iD W w':=by
 have hp:M8 f<=5:=J9;by_cases h5:M8 f<5
 ·obtain⟨z,hz⟩:∃z:Int,z=(M8 f:Nat):=⟨_,rfl⟩;have d:0<=z:=by omega
  have a:=rK f;rw[zu h5,<-hz] at a;rw[<-hz]
  go_enter func337,Tryz.ntmps337
  go_wp2_with (first|(go_at_call 263;refine(oV _).mono ?_;rintro e w' ⟨rfl,q,b,rfl⟩)|(go_at_call 273;refine(a W q b).mono ?_;rintro e w' ⟨rfl,rfl⟩))
  go_ret
  exact⟨by rw[hz];rfl,Gy _ _ _ _⟩
 ·have c:M8 f=5:=by omega
  have a:=rK f;rw[zk h5] at a;rw[c]
  go_enter func337,Tryz.ntmps337
  go_wp2_with (first|(go_at_call 263;refine(oV _).mono ?_;rintro e w' ⟨rfl,q,b,rfl⟩)|(go_at_call 273;refine(a W q b).mono ?_;rintro e w' ⟨rfl,rfl⟩))
  go_ret
  exact⟨rfl,Gy _ _ _ _⟩
def iE(a b:Bs):Int:=if M8 a≠M8 b then(M8 a:Int)-M8 b else Lib.compareBytes a b
theorem me{a b c:World}(h:iD a b)(k:iD b c):iD a c:=by
 obtain⟨q,e,rfl⟩:=h;obtain⟨f,d,rfl⟩:=k;exact⟨q+f,e++d,by rw[<-Sort.grow_grow];show _=Sort.grow (Sort.grow (a.drewN (q+f)) e) d;rw[<-World.drewN_drewN];rfl⟩
theorem Lm(a b:Bs)(W:World):Calls prog 266 #[Sl.B a,Sl.B b] W fun e w'=>e=.returned (.int .i64 (iE a b))/\iD W w':=by
 have ha:M8 a<=5:=J9;have d:M8 b<=5:=J9;unfold iE;by_cases h:M8 a=M8 b
 ·rw[zk (by simpa using h)]
  go_enter func266,Tryz.ntmps266
  go_wp2_with (first|(go_at_call 337;refine(AO _ _).mono ?_;rintro e w' ⟨rfl,q,c,rfl⟩)|(go_at_call 112;refine(Tryz.strings_Compare ⟨a.toArray⟩ ⟨b.toArray⟩ _).mono ?_;rintro e w' ⟨rfl,rfl⟩))
  go_ret
  exact⟨rfl,me ⟨_,_,rfl⟩ ⟨_,_,rfl⟩⟩
 ·rw[zu h]
  go_enter func266,Tryz.ntmps266
  go_wp2_with (first|(go_at_call 337;refine(AO _ _).mono ?_;rintro e w' ⟨rfl,q,c,rfl⟩)|(go_at_call 112;refine(Tryz.strings_Compare ⟨a.toArray⟩ ⟨b.toArray⟩ _).mono ?_;rintro e w' ⟨rfl,rfl⟩))
  go_ret
  exact⟨rfl,me ⟨_,_,rfl⟩ ⟨_,_,rfl⟩⟩
open Go Go.Sl Go.RowKit Go.Proofs.Tryz
theorem ym:∀(a b:Bs),decide (Lib.compareBytes a b<0)=gR a b
 |[],[]=>rfl
 |[],_::_=>rfl
 |_::_,[]=>rfl
 |a::s,b::t=>by
  have d:=ym s t;unfold gR at d⊢;rw[Lib.compareBytes,Op.bytesLess];by_cases h1:a<b
  ·rw[zu h1];simp[h1]
  ·rw[zk h1];by_cases h2:b<a
   ·have c:¬a=b:=fun e=>(by subst e;exact h1 h2);rw[zu h2];simp[h1,c]
   ·have c:a=b:=UInt8.le_antisymm (UInt8.not_lt.1 h2) (UInt8.not_lt.1 h1);rw[zk h2,d];simp[h1,c]
theorem jQ(a b:Bs):ltOf iE a b=U6 a b:=by
 unfold ltOf iE U6;by_cases h:M8 a=M8 b
 ·rw[zk (by simpa using h),zk (by simpa using h),ym]
 ·rw[zu h,zu h];exact zp.mpr qb
theorem Gz:Sort.SWO (ltOf iE) where
 irrefl x:=by rw[jQ];exact T_ x
 trans x y z h k:=by rw[jQ] at*;exact P8 h k
 ntrans x y z h k:=by
  rw[jQ] at*
  cases e:U6 x z with
  |false=>rfl
  |true=>
   exfalso;by_cases h1:x=y
   ·subst h1;rw[e] at k;cases k
   ·have a:=aY h1 h;by_cases h3:y=z
    ·subst h3;have:=P8 e a;rw[T_] at this
     cases this
    ·have b:=aY h3 k;have:=P8 (P8 e b) a;rw[T_] at this
     cases this
theorem yn:Pu prog 191 [.int .u64 0] (fun _=>True) (.int .i64 0):=U0 fun w _=>Tryz.bits_Len 0 w qb qb
theorem Ln:Pu prog 383 [.slice none 0 0,.int .i64 0,.int .i64 0,.func (.func 266) #[] #[]] (fun _=>True) (.tuple #[]):=by
 refine b_ 53 func383 rfl rfl rfl ?_;intro F _;refine E5 ?_;refine o9 (ι:=Unit) (fun _=>True) (fun _=>[(2,.int .i64 0),(8,.int .i64 1)]) (fun _=>[]) (fun _=>0) () trivial ?_ ?_ ?_
 ·exact sub
 ·intro w a;exact a
 rintro _ _;refine E5 ?_;exact m6 rfl [] qh (fun _ h=>h)
theorem Lo:Pu prog 336 [.slice none 0 0,.int .i64 0,.int .i64 0,.int .i64 0,.func (.func 266) #[] #[]] (fun _=>True) (.tuple #[]):=by
 refine b_ 148 func336 rfl rfl rfl ?_;intro F _;refine y9 ?_;refine o9 (ι:=Unit) (fun _=>True) (fun _=>[(0,.slice none 0 0),(1,.int .i64 0),(2,.int .i64 0),(4,.func (.func 266) #[] #[])]) (fun _=>[]) (fun _=>0) () trivial ?_ ?_ ?_
 ·exact sub
 ·intro w a;exact a
 rintro _ _;refine wk 10 ?_;refine e_ rfl Ln qw rfl ?_;refine ov ?_;exact m6 rfl [] qh (fun _ h=>h)
theorem GB:Pu prog 265 [.slice none 0 0,.func (.func 266) #[] #[]] (fun _=>True) (.tuple #[]):=by
 refine b_ 14 func265 rfl rfl rfl ?_;intro F _;refine cG ?_;refine f_ (z_ rfl qb) ?_;refine e_ rfl yn qw rfl ?_;refine p_ ?_;refine e_ rfl Lo qw rfl ?_;refine u7 ?_;exact m6 rfl [] qh (fun _ h=>h)
theorem tQ{pre post:List Value}{l l':List Bs}(h:l'.length=l.length):Sort.putCells (fun(x:Bs)=>B x) pre.length l'.toArray (pre++fV l++post).toArray=(pre++fV l'++post).toArray:=by
 apply Array.ext_getElem?;intro k;have c:(fV l).length=l.length:=L8 l;have d:(fV l').length=l'.length:=L8 l';simp only[Sort.putCells,Array.getElem?_mapIdx,Ku,List.size_toArray];rcases Qp k pre.length with a|a
 ·rw[zh,zh,jg a,jg a,zj a];simp only[Qj];rw[zk qb]
 ·rcases Qp k (pre.length+l.length) with b|b
  ·rw[zh,zh,jz a,jz a,jg qb,jg qb];have f:k-pre.length<l.length:=(by omega);have e:k-pre.length<l'.length:=(by omega);rw[zj qb,zj qb];simp only[Qj];rw[zu ⟨a,by omega⟩];simp[fV,e]
  ·rw[zh,zh,jz a,jz a,jz qb,jz qb,c,d,h]
   cases post[k-pre.length-l.length]? with
   |none=>rfl
   |some v=>
    simp only[Qj];rw[zk qb]
def SG(l:List Bs)(a:Option Addr)(c:Nat)(v:Value)(A:List As):Prop:=v=.tuple #[]/\∃l',List.Perm l' l/\l'.Pairwise (fun x y=>U6 y x=false)/\A=[A4 a l' c]
theorem Lp(l:List Bs)(a:Option Addr)(c:Nat)(hl:l.length<4611686018427387904):Ct prog 265 [.slice a l.length c,.func (.func 266) #[] #[]] (fun _=>True) [A4 a l c] (SG l a c):=by
 intro w bs O q3 q2;obtain⟨b1,b2,rfl,Q,rfl⟩:=O;rcases Q with⟨hv,hx,rfl⟩|⟨g,rfl,⟨o,n,q4,pre,b,r,hv,hg,ho,q5,S,q6,s⟩⟩
 ·injection hv with f T e3;subst f e3;have h8:l=[]:=jy T;subst h8;refine(GB w [] rfl Zx trivial).mono ?_;rintro e w' ⟨v,A,rfl,⟨rfl,rfl⟩,hp⟩;refine⟨_,[A4 none [] 0],rfl,⟨rfl,[],.nil,.nil,rfl⟩,?_⟩;exact hp.addNil _ _
 ·injection hv with f T e3;subst f T e3;have k:w.heap[g]? =some (.cells (pre++fV l++b).toArray 9 r):=hg;have U:g<w.heap.size:=(kp.1 k).1;have q7:=L8 l;have hH:Sort.Holds (fun(x:Bs)=>B x) w g o l.toArray:=fun j hj=>by
   have t:j<l.length:=(by simpa using hj);constructor
   ·simp only[World.cell?,k];simp only[Wm,Kw,if_false,Ku];rw[zh,jz qb,jg qb];simp[fV,<-ho,t]
   ·simp only[World.frozen?,k];simp only[zz] at s;rw[J3];rcases s with h|h
    ·by_cases hh:r.1<=o+j
     ·exact .inr (by simp;omega)
     ·exact .inl (by simpa using hh)
    ·exact .inl (by simp;omega)
  have V:CmpLays1 prog 266 #[] (fun(x:Bs)=>B x) iE g o l.toArray.size w:=fun m X dk hs x y=>by
   refine(Lm x y _).mono ?_;rintro e w' ⟨rfl,q,h9,rfl⟩;exact⟨rfl,q,h9,rfl⟩
  have hc:=Any.slices_SortFunc Tryz.sortL (fun(x:Bs)=>B x) (fun _=>rfl) iE Gz 266 #[] g o c l.toArray w (fun Y w=>(inferInstance:HF prog 266).h Y w) V hH U (by simpa using hl);have Z:l.toArray.size=l.length:=by simp
  rw[Z] at hc;refine hc.mono ?_;rintro e w' ⟨rfl,d,n,X,u,z,rfl⟩;obtain⟨C,_,h0⟩:=u;rw[Z] at C;have k0:List.Perm d.toList l:=by
   have f:(d.extract 0 l.length).toList=d.toList:=(by simp[<-C]);have T:(l.toArray.extract 0 l.length).toList=l:=(by simp);rw[f,T] at h0;exact h0
  have k8:d.toList.length=l.length:=by simpa using C
  have D:d.toList.Pairwise (fun x y=>U6 y x=false):=by
   rw[Z1];intro i j hi hj k9;have:=z i j (zw _) k9 qb;rw[jQ] at this;have q0:i<d.size:=(by simpa using hi);have t:j<d.size:=(by simpa using hj);rw[getElem!_pos d i q0,getElem!_pos d j t] at this;simpa using this
  have hh:(sortWorld (fun(x:Bs)=>B x) w g o n d X).heap[g]? =some (.cells (pre++fV d.toList++b).toArray 9 r):=by
   show((Sort.mapBlock _ g _).heap++X)[g]? =_;unfold Sort.mapBlock;have f:(Sort.ahead w n).heap=w.heap:=rfl;rw[Zv (by rw[Jr,f];exact U),Q8,zu rfl,f,k];simp only[Qj,Sort.onCells];have:=tQ (pre:=pre) (post:=b) k8;rw[ho] at this;rw[<-this]
  have q8:=L8 d.toList;have h1:(fV d.toList).length=(fV l).length:=by omega
  have J:c*1<=(fV d.toList++b).length:=by
   rw[zz,h1,<-zz];exact S
  have h4:r.2<=r.1\/(pre++fV d.toList++b).length<=r.1:=by
   rw[zz,zz,h1,<-zz,<-zz];exact s
  have M:l_.le (q_ w [g]).heap (hp (sortWorld (fun(x:Bs)=>B x) w g o n d X)):=fun p o' h5=>by
   have q1:p≠g:=by
    rintro rfl;simp[q_,E4] at h5
   have h2:w.heap[p]? =some o':=bV w _ p o' h5;have h3:p<w.heap.size:=(kp.1 h2).1;show((Sort.mapBlock _ g _).heap++X)[p]? =_;unfold Sort.mapBlock;have f:(Sort.ahead w n).heap=w.heap:=rfl;rw[Zv (by rw[Jr,f];exact h3),Q8,zk (fun h=>q1 h.symm),f];exact h2
  have h6:∀p∈[g],(q_ w [g]).heap p=none:=fun p h7=>by
   simp at h7;subst h7;simp[q_,E4]
  refine⟨.tuple #[],[A4 (some ⟨g,o,none⟩) d.toList c],rfl,⟨rfl,d.toList,k0,D,rfl⟩,?_⟩;exact⟨rfl,rfl,rfl,M,[g],⟨[g],[],rfl,.inr ⟨g,rfl,⟨o,d.toList.length,c,pre,b,r,rfl,hh,ho,by omega,J,by omega,h4⟩⟩,rfl⟩,by simp,h6⟩
def Pl(l:List Bs)(v:Value)(A:List As):Prop:=∃a c,v=.slice a l.length c/\A=[A4 a l c]
theorem GC(l:List Bs)(a:Option Addr)(c:Nat)(hl:l.length<=8000000000000):Ct prog 115 [.slice a l.length c] (fun h=>o0 h a (fV l)) [] (Pl l):=by
 refine b_ 8 func115 rfl rfl rfl ?_;intro F d;refine y9 ?_;refine f_ ((lP rfl rfl).eq (v':=.bool a.isNone) rfl) ?_;refine u7 ?_
 cases a with
 |none=>
  have i:l=[]:=by
   cases l with
   |nil=>rfl
   |cons x t=>
    obtain⟨j,e,_⟩:=d (by simp[fV])
    cases e
  subst i;refine C8 ?_;exact d_ rfl rfl [A4 none [] 0] ⟨none,0,rfl,rfl⟩ (fun w b=>b.addNil _ _)
 |some j=>
  refine u7 ?_;refine p_ ?_;intro a5;refine p_ ?_;refine C0 (news:=fV l) rfl rfl (fun m n=>.here) (fun w b=>d.le b.keep) (by rw[L8];omega) rfl rfl (kZ _) (by show(0+l.length)*16<=_;omega) qb rfl ?_;intro f g k;refine C8 ?_;refine d_ rfl rfl [A4 f l g] ⟨f,g,by rw[jv],rfl⟩ (fun w b=>?_);rw[jv] at b;exact b
theorem AP{l:List Bs}(h:l.Pairwise fun a b=>U6 b a=false){i j:Nat}(c:i<j)(d:j<l.length):U6 (l.getD j []) (l.getD i [])=false:=by
 rw[Z1] at h;have:=h i j qb d c;rw[zd,zd,zj d,zj (show i<l.length by omega)];exact this
theorem di{l:List Bs}{i:Nat}(h:i<l.length):l.toArray[i]! =l.getD i []:=by
 rw[getElem!_pos _ i (by simpa using h),zd,zj h];simp
theorem tR{l:List Bs}(h:l.Pairwise fun a b=>U6 b a=false):xA (Lib.compact l):=by
 unfold Lib.compact Lib.compactUpTo;unfold xA;rw[Kd];refine(List.Pairwise.filter _ List.pairwise_lt_range).imp_of_mem fun{i j} o m n=>?_;have f:=Qx.mp m;have c:j<l.length:=by simpa using f.1
 rw[di qb,di c];have d:=f.2;unfold Lib.keeps at d;simp only[Zk,jw,bne_iff_ne,ne_eq] at d;have g:l.getD (j-1) []≠l.getD j []:=by
  rcases d with d|d
  ·omega
  ·rw[di c,di qb] at d;exact fun e=>d e.symm
 have k:U6 (l.getD (j-1) []) (l.getD j [])=true:=aY (fun e=>g e.symm) (AP h qb c);by_cases e:i=j-1
 ·rw[e];exact k
 ·by_cases e2:l.getD i []=l.getD (j-1) []
  ·rw[e2];exact k
  ·exact P8 (aY (fun x=>e2 x.symm) (AP h (show i<j-1 by omega) qb)) k
theorem vJ{l:List Bs}:∀i,i<l.length->l.getD i []∈Lib.compact l:=by
 intro i
 induction i using Nat.strongRecOn with
 |ind i ih=>
  intro a;by_cases hk:Lib.keeps l.toArray i=true
  ·unfold Lib.compact Lib.compactUpTo;refine jx.mpr ⟨i,Qx.mpr ⟨by simpa using a,hk⟩,di a⟩
  ·unfold Lib.keeps at hk;simp only[Zk,jw,bne_iff_ne,ne_eq,not_or,Classical.not_not] at hk;have b:l.getD i []=l.getD (i-1) []:=by
    have:=hk.2
    rwa [di a,di qb] at this
   rw[b];exact ih (i-1) qb qb
theorem tS(l:List Bs)(x:Bs):x∈Lib.compact l↔x∈l:=by
 constructor
 ·intro h;unfold Lib.compact Lib.compactUpTo at h;obtain⟨i,b,rfl⟩:=jx.mp h;have a:i<l.length:=by simpa using(Qx.mp b).1
  rw[di a];exact dQ a
 ·intro h;obtain⟨i,b,rfl⟩:=Zq h;have:=vJ i b
  rwa [zd,zj b] at this
theorem tT{l s:List Bs}(hp:s.Perm l)(h:s.Pairwise fun a b=>U6 b a=false):Lib.compact s=T3 l:=
 xT (tR h) (mW l) fun x=>by rw[tS,tj,hp.mem_iff]
theorem vK(l:List Bs):(Lib.compact l).length<=l.length:=Lib.compact_length_le l
def SH(l:List Bs)(a:Option Addr)(c:Nat)(v:Value)(A:List As):Prop:=v=.slice a (Lib.compact l).length c/\A=[A4 a (Lib.compact l) c]
theorem oW(l:List Bs)(a:Option Addr)(c:Nat)(hl:l.length<=9223372036854775807):Ct prog 162 [.slice a l.length c] (fun _=>True) [A4 a l c] (SH l a c):=by
 intro w bs t h1 h0;obtain⟨b1,b2,rfl,u,rfl⟩:=t;rcases u with⟨O,hx,rfl⟩|⟨g,rfl,⟨o,n,h3,pre,b,f,O,hg,Q,h4,v,S,i⟩⟩
 ·injection O with k e2 e3;subst k e3;have T:l=[]:=jy e2;subst T;refine(Tryz.slices_Compact_string_empty none 0 w).mono ?_;rintro e w' ⟨rfl,rfl⟩;refine⟨.slice none 0 0,[A4 none [] 0],rfl,qh,?_⟩;exact(Hp.start (C:=[]) (bs:=[]) rfl Zx).addNil _ _
 ·injection O with k e2 e3;subst k e2 e3;have d:w.heap[g]? =some (.cells (pre++fV l++b).toArray 9 f):=hg;have h5:g<w.heap.size:=(kp.1 d).1;have h6:=L8 l;have hH:Sort.Holds (fun(x:Bs)=>B x) w g o l.toArray:=fun j hj=>by
   have U:j<l.length:=(by simpa using hj);constructor
   ·simp only[World.cell?,d];simp only[Wm,Kw,if_false,Ku];rw[zh,jz qb,jg qb];simp[fV,<-Q,U]
   ·simp only[World.frozen?,d];simp only[zz] at i;rw[J3];rcases i with h|h
    ·by_cases y:f.1<=o+j
     ·exact .inr (by simp;omega)
     ·exact .inl (by simpa using y)
    ·exact .inl (by simp;omega)
  have hc:=Tryz.slices_Compact_string g o c l w hH hl S;refine hc.mono ?_;rintro e w' ⟨rfl,q,rfl⟩;have h7:=vK l;obtain⟨m,V⟩:=o7 (Lib.compact l++List.replicate (l.length-(Lib.compact l).length) []);have X:m.length=l.length:=by rw[V,zz,Kv];omega
  have Y:fV m=fV (Lib.compact l)++fV (List.replicate (l.length-(Lib.compact l).length) []):=by rw[V,gk]
  have h8:=L8 m;have h9:=L8 (Lib.compact l);rw[<-V];have y:(Sort.putRow (fun(x:Bs)=>B x) (Sort.ahead w q) g o m.toArray).heap[g]? =some (.cells (pre++fV m++b).toArray 9 f):=by
   show(Sort.mapBlock _ g _).heap[g]? =_;unfold Sort.mapBlock;have k:(Sort.ahead w q).heap=w.heap:=rfl;rw[Q8,zu rfl,k,d];simp only[Qj,Sort.onCells];have:=tQ (pre:=pre) (post:=b) X;rw[Q] at this;rw[<-this]
  rw[Y,zh,zh,<-zh] at y;obtain⟨z,hz⟩:=o7 (fV (List.replicate (l.length-(Lib.compact l).length) [])++b);rw[<-hz] at y;have k0:z.length=l.length-(Lib.compact l).length+b.length:=by rw[hz,zz,L8,Kv]
  have p:c*1<=(fV (Lib.compact l)++z).length:=by
   rw[zz] at v⊢;omega
  have A:f.2<=f.1\/(pre++fV (Lib.compact l)++z).length<=f.1:=by
   rw[zz,zz] at i⊢;omega
  have r:l_.le (q_ w [g]).heap (hp (Sort.putRow (fun(x:Bs)=>B x) (Sort.ahead w q) g o m.toArray)):=fun s o' D=>by
   have Z:s≠g:=by
    rintro rfl;simp[q_,E4] at D
   have h2:w.heap[s]? =some o':=bV w _ s o' D;show(Sort.mapBlock _ g _).heap[s]? =_;unfold Sort.mapBlock;have k:(Sort.ahead w q).heap=w.heap:=rfl;rw[Q8,zk (fun h=>Z h.symm),k];exact h2
  have J:∀s∈[g],(q_ w [g]).heap s=none:=fun s M=>by
   simp at M;subst M;simp[q_,E4]
  refine⟨.slice (some ⟨g,o,none⟩) (Lib.compact l).length c,[A4 (some ⟨g,o,none⟩) (Lib.compact l) c],rfl,qh,?_⟩;exact⟨rfl,rfl,rfl,r,[g],⟨[g],[],rfl,.inr ⟨g,rfl,⟨o,(Lib.compact l).length,c,pre,z,f,rfl,y,Q,by omega,p,by omega,A⟩⟩,rfl⟩,by simp,J⟩
def Pm(l:List Bs)(v:Value)(A:List As):Prop:=∃a c,v=.slice a (T3 l).length c/\A=[A4 a (T3 l) c]
theorem oX(l:List Bs)(a:Option Addr)(c:Nat)(hl:l.length<=8000000000000):Ct prog 194 [.slice a l.length c] (fun h=>o0 h a (fV l)) [] (Pm l):=by
 refine b_ 10 func194 rfl rfl rfl ?_;intro F e;refine y9 ?_;refine x5 _ rfl (GC l a c hl) i_ (fun h g i=>e.le g) rfl ?_;rintro v A ⟨a5,d,rfl,rfl⟩;refine y9 ?_;refine x5 _ rfl (Lp l a5 d qb) i_ qw rfl ?_;rintro v A ⟨rfl,s,hp,hs,rfl⟩;refine u7 ?_;have f:=hp.length_eq;have b:=tT hp hs;refine p_ ?_;refine x5 (vs:=[.slice a5 s.length d]) _ (by rw[f];rfl) (oW s a5 d qb) i_ qw rfl ?_;rintro v A ⟨rfl,rfl⟩;refine C8 ?_;refine d_ rfl rfl [A4 a5 (Lib.compact s) d] ⟨a5,d,by rw[b],by rw[b]⟩ i_
