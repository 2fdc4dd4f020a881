import Derived.Test.YtmcepdopookilaaGreatDoorukx14
set_option maxHeartbeats 16000000
set_option maxRecDepth 8000
set_option linter.unusedVariables false
set_option linter.unusedSimpArgs false
set_option linter.defProp false
namespace Go.Sl
open Go Go.RowKit Go.Proofs.YtmcepdopookilaaGreatDoor.Rp Go.Proofs.Tryz
section
variable{P:zj}{N:Nat}{K R:A1}{E:List (Nat×A1)}{L:G9}{F:l9}{H:List As}{ops:Array Oper}{rest:List Oper}{ty:zk}{pos:String}{af:Array Edge}{dst:Option Nat}{gd:Option (Nat×Bool)}{t:zk}{x y:zw}
abbrev Ql(a:qr)(n c:Nat)(l:List Bs):As:=.own (.slice a n c) 9 1 (fV l)
def ldS{a:qr}{n c:Nat}{l:List Bs}{i:Int}{H':List As}[ha:HA P t false](hl:l.length=n)(u:N1 H (Ql a n c l) [] H':=by exact ud)(hx:ev L x=some (.pointer (N_ a (i.toNat*1))):=by rfl)(e:0<=i/\i<n:=by omega):dF P ⟨dst,.load t x,ty,pos,af,gd⟩ L F H (B (l.getD i.toNat [])):=
 l5 hx fun w d=>jB d u x7 fun j v b=>by
  match j,b with
  |0,b=>
   simp at b;subst b;have h:i.toNat<l.length:=(by omega);rw[Z0,Zk,fV,Q3,zd h];simp[List.getD,h]
def Qo{a:qr}{n c:Nat}{l:List Bs}{i:Int}{v:Bs}{H':List As}[hs:HS P t 1](hl:l.length=n)(h:GL P N ops rest K E R L F H')(u:N1 H (Ql a n c l) [Ql a n c (l.set i.toNat v)] H':=by exact uh)(hx:ev L x=some (.pointer (N_ a (i.toNat*1))):=by rfl)(d:ev L y=some (B v):=by rfl)(f:0<=i/\i<n:=by omega):GL P N ops (⟨none,.store t x y,ty,pos,af,none⟩::rest) K E R L F H:=by
 have hp:M3 (fV l) (i.toNat*1) [B v]=fV (l.set i.toNat v):=by
  have e:i.toNat<l.length:=by omega
  unfold M3 fV;rw[Z0,K0,Z8,zr (by simpa using e)];simp
 refine U_ (n:=1) (a:=a) (len:=n) (c:=c) (sz:=1) (xs:=fV l) (te:=9) hx d (H':=H') ?_ rfl qp (fun q b=>by simp[Value.cells] at b;subst b;rfl) (by rw[M6];omega) h;show N1 H _ [.own (.slice a n c) 9 1 (M3 (fV l) (i.toNat*1) [B v])] H';rw[hp];exact u
def uH{n:Bs}{d:Nat}{x:zw}{z:Value}[hu:HU P t (.slice 9)][hz:HZ P 9 z][hs:HS P 9 1](h:∀a,GL P N ops rest K E R ((d,.slice a 1 1)::L) F (B0 a [n] 1::H))(hx:ev L x=some (B n):=by rfl)(b:Nat.blt d N=true:=by rfl):
  GL P N ops (⟨some d,.buildSlice t 1 #[(0,x)],ty,pos,af,none⟩::rest) K E R L F H:=
 D2 (C:=fun n:Bs=>[B n]) n rfl (fun a _=>by have:=h a;exact this) hx rfl rfl rfl b
def uI{l m:List Bs}{d:Nat}{s x:zw}{a b:qr}{c n:Nat}{H':qr->Nat->List As}{z:Value}{i:TypeInfo}[hu:HU P t (.slice 9)][hz:HZ P 9 z][hi:HI P 9 i][hs:HS P 9 1](o:(l.length+m.length)*i.bytes<=140737488355328)(h:∀f e,(l++m).length<=e->GL P N ops rest K E R ((d,.slice f (l++m).length e)::L) F (H' f e))(g:ev L s=some (.slice a l.length c):=by rfl)(j:ev L x=some (.slice b m.length n):=by rfl)(u:∀f e,N1 H (B0 a l c) [B0 f (l++m) e] (H' f e):=by exact fun _ _=>uh)(hsrc:∀w,Hp F w H->KX (hp w) b (fV m):=by exact fun w p=>(p.ownN ud).2.2.1)(k:z.cells.size=1:=by rfl)(hl:l.length+m.length<=9223372036854775807:=by(first|omega|(simp only[z1,kx];omega)))(q:Nat.blt d N=true:=by rfl):
  GL P N ops (⟨some d,.call ⟨.builtin .append,#[s,x],#[t,t]⟩,ty,pos,af,none⟩::rest) K E R L F H:=
 C4 (news:=fV m) (m:=m.length) g j (H':=H') (fun f e=>by have:=u f e;unfold B0 at this;rw[zg,gH] at this;exact this) hsrc (by rw[M6,Z0]) rfl k (lu _) o hl q fun f e hc=>by
  have:=h f e (by rw[zg];exact hc);rw[zg] at this;exact this
end
end Go.Sl
namespace Go.Proofs.YtmcepdopookilaaGreatDoor.Rp
open Go Go.Sl Go.RowKit Go.Proofs.Tryz
def xd:∀(l:List Bs) (i:Nat) (x:Bs),i<l.length->(l.set i (l.getD i []++x)).flatten.length=l.flatten.length+x.length
 |[],i,x,h=>by simp at h
 |y::l,0,x,h=>by simp;omega
 |y::l,i+1,x,h=>by
  have:=xd l i x (by simpa using h);simp only[List.set_cons_succ,Jw,zg,List.getD_cons_succ] at this⊢;omega
def pZ:∀{l:List Bs} {x:Bs},x∈l->x.length<=l.flatten.length
 |y::l,x,h=>by
  rw[Jw,zg];rcases jv.1 h with rfl|h
  ·omega
  ·have:=pZ h;omega
def zE{l:List Bs}{i:Nat}(h:i<l.length):(l.drop i).flatten.length=(l.getD i []).length+(l.drop (i+1)).flatten.length:=by
 rw[Qc h,Jw,zg];simp[List.getD,h]
def xe(k:Bs)(hs:k.length<=1000000000):Ct prog 436 [B k] Gl [] (fun v A=>∃a l c,v=.slice a l.length c/\A=[B0 a l c]/\l.flatten.length<=k.length/\l.length<=k.length+1):=by
 refine b_ 46 func436 rfl rfl rfl ?_;intro F hg;refine E8 ?_;refine e_ (DM k [13,10] qb qp) (fun h hh _=>hg.le hh) ?_;rintro v A ⟨s,d,rfl,rfl,h4,O⟩;refine I6 2 ?_;refine n8 (ι:=AC×List Bs) (fun o=>o.2.flatten.length<=k.length/\o.2.length<=k.length+1) (fun o=>[(3,.slice o.1.1 o.2.length o.1.2)]) (fun o=>[B0 o.1.1 o.2 o.1.2]) ?_ ?_
 ·refine o0 ?_;refine P7 (fun(j:Nat) (o:AC) (b:List Bs)=>j<=d.length/\b.flatten.length+(d.drop j).flatten.length<=k.length/\b.length<=j) (fun j o b=>[(8,.slice s d.length d.length),(9,r7 d.length),(10,r7 j),(3,.slice o.1 b.length o.2)]) (fun j o b=>[B0 o.1 b o.2,B0 s d d.length]) (fun j o b=>d.length-j) 0 (none,0) [] ⟨zp _,by simpa using O,kp _⟩ sub (fun w u=>u.addNil _ _) ?_;rintro j o b ⟨hj,Y,h5⟩;refine T2 ?_ ?_<;>intro h
  ·have y:j<d.length:=(by have:=zy h;omega);obtain⟨l,z⟩:=o9 (d.getD j []);have Q:=zE y;rw[<-z] at Q;refine I6 0 ?_;refine n8 (ι:=AC×List Bs) (fun p=>p.2.flatten.length+(d.drop (j+1)).flatten.length<=k.length/\p.2.length<=j+1) (fun p=>[(8,.slice s d.length d.length),(9,r7 d.length),(10,r7 j),(3,.slice p.1.1 p.2.length p.1.2)]) (fun p=>[B0 p.1.1 p.2 p.1.2,B0 s d d.length]) ?_ ?_
   ·refine o0 ?_;refine B7 (a:=s) (n:=d.length) (c:=d.length) (sz:=1) (xs:=fV d) (te:=9) ud fun _ _ g=>?_;have g:=g qb;refine u6 ?_;refine r_ ((ldS (l:=d) (i:=(j:Nat)) rfl ud rfl qb).eq (v':=B l) (by rw[z];rfl)) ?_;refine P1 ?_;obtain⟨q1,C⟩:=o9 (decide (0<b.length));obtain⟨Z,t⟩:=o9 (decide (l=[]));refine n8 (ι:=Bool) (fun q=>q=true->0<b.length) (fun q=>[(31,.bool q),(6,r7 b.length),(5,B l),(8,.slice s d.length d.length),(9,r7 d.length),(10,r7 j),(3,.slice o.1 b.length o.2)]) (fun _=>[B0 o.1 b o.2,B0 s d d.length]) ?_ ?_
    ·obtain⟨q3,h3⟩:=o9 (decide (((l.getD 0 0).toNat:Int)=32));have S:Z=false->0<l.length:=fun e=>by
      rw[e] at t;have:=zu t.symm;exact Kb.2 this
     cases q1<;>cases Z<;>cases q3
     all_goals try have h6:=S rfl
     all_goals (
      refine u6 ?_;refine f_ ((E9 rfl rfl).eq (qn ((qz).trans C.symm))) ?_;refine A5 ?_;(first|refine u_ ?_|(refine v_ ?_;refine f_ ((F7 rfl rfl).eq (jh (fun x=>Value.bool (!x)) t.symm)) ?_));refine P1 ?_;(first|refine u_ ?_|(refine v_ ?_;refine f_ ((q_ rfl rfl).eb h3) ?_));refine Y1 ?_)
     all_goals first|exact g_ _ (fun _=>zy C.symm) i_|exact g_ false (fun e=>by cases e) i_
    intro q hq;refine O_ ?_ ?_<;>intro h
    ·have h0:=hq h;refine B7 (a:=o.1) (n:=b.length) (c:=o.2) (sz:=1) (xs:=fV b) (te:=9) ud fun _ _ r=>?_;have r:=r h0;obtain⟨i,hi⟩:=o9 (α:=Int) ((b.length:Nat)-1);have T:=xd b i.toNat l qb;have h7:(b.getD i.toNat []).length<=b.flatten.length:=pZ (ed qb);refine A5 ?_;refine f_ ((E7 rfl rfl qb).eq (v':=.int .i64 i) (by rw[hi])) ?_;refine f_ (n5 rfl r rfl qb) ?_;refine r_ (ldS rfl) ?_;refine A5 ?_;refine f_ (n5 rfl r rfl qb) ?_;refine Qo (v:=b.getD i.toNat []++l) rfl ?_;refine x6 ?_;obtain⟨f,D⟩:=o9 (b.set i.toNat (b.getD i.toNat []++l));have M:b.length=f.length:=(by rw[D,Qw]);rw[<-D] at T⊢;rw[M];exact g_ (o,f) ⟨by simp only;omega,by simp only;omega⟩ i_
    ·refine A5 ?_;refine uH (n:=l) ?_;intro a42;refine uI (l:=b) (m:=[l]) (by show(b.length+1)*16<=_;omega) ?_;intro U V _;refine u6 ?_;exact g_ ((U,V),b++[l]) ⟨by simp only[List.flatten_append,zg,Jw,List.flatten_nil,jk];omega,by simp;omega⟩ (fun w u=>D3 (A:=[_,_]) (J:=[_]) tk u)
   rintro⟨o2,f⟩ ⟨C,t⟩;simp only at C t;refine A5 ?_;exact l8 (i:=(j,o,b)) (j+1,o2,f) ⟨y,C,t⟩ qg sub i_
  ·refine x6 ?_;exact g_ (o,b) ⟨by simp only;omega,by simp only;omega⟩ (fun w u=>y9.left tk u)
 rintro⟨o,b⟩ X;simp only at X;refine M4 ?_;exact d_ rfl rfl _ ⟨o.1,b,o.2,rfl,rfl,X.1,X.2⟩ i_
end Go.Proofs.YtmcepdopookilaaGreatDoor.Rp
namespace Go.Sl
open Go Go.RowKit Go.Proofs.Tryz
section
variable{ro:Option Nat}{n:Nat}{P:zj}{N:Nat}{Q:Exit->Act->World->Prop}{L:G9}{F:l9}{H:List As}{ops:Array Oper}{Kq:A1}
def MS{i:Nat}{K m:Act->World->Prop}{a:Act}{w:World}(g:∀(i:Nat) (o:Oper),ops[i]? =some o->∀c,o.op≠ .defer c)(b:∀a w,K a w->m a w)(h:wpOp P ops (MQ Kq [] (fun _ _=>False)) i K a w):wpOpIn (Fn ro) n P ops Q i m a w:=by
 unfold wpOp at h;unfold wpOpIn
 cases ho:ops[i]? with
 |none=>rw[ho] at h;exact b _ _ h
 |some o=>
  rw[ho] at h;simp only at h⊢;have hs:Oper.semAt (Fn ro).round a.eval o=execOp a.eval o:=oA (.inr (g i o ho));split
  ·rename_i j;rw[zr j] at h;rcases h with h|⟨_,p,s,q⟩
   ·refine⟨fun f _=>trivial,?_⟩;rw[hs];unfold Oper.wp at h;generalize (execOp a.eval o).run P w=r at h⊢
    cases r with
    |ok x w'=>
     cases x<;>simp only[Oper.upon,Oper.uponIn] at h⊢
     case value v=>exact b _ _ h
     case skip=>exact b _ _ h
     case defer d=>exact b _ _ h
     case enter f args=>
      refine⟨fun k=>(by cases k),oz (h.mono fun e l q=>?_)⟩
      cases e with
      |returned v=>exact b _ _ q
      |panicked c=>exact(gy q).elim
      |outgrown=>obtain⟨p,s,q⟩:=q;exact q.elim
     case row row args=>exact⟨fun k=>(by cases k),rJ (h.mono fun v l q=>b _ _ q)⟩
    |halt x w'=>cases x<;>simp only[Oper.upon] at h<;>first|exact(gy h).elim|exact h.elim
   ·exact q.elim
  ·rename_i j;rw[zb j] at h;exact⟨fun f _=>trivial,b _ _ h⟩
def xf(g:∀(i:Nat) (o:Oper),ops[i]? =some o->∀c,o.op≠ .defer c)(f:∀a w,Kq a w->Q .normal a w):∀(d:Nat) (b:Array Bool) (a:Act) (w:World),wpAny P .any ops (MQ Kq [] (fun _ _=>False)) d b a w->wpAnyIn (Fn ro) n P .any ops Q d b a w
 |0,_,a,w,h=>⟨h.1,f _ _ h.2⟩
 |d+1,b,a,w,h=>⟨fun e=>f _ _ (h.1 e),fun i j=>MS g (fun k w' l=>xf g f d _ k w' l) (h.2 i j)⟩
def MT{id:Nat}{l:List Oper}[hm:HM P](f:Rs)(g:List As)(m:Nat)(j:m=l.toArray.size)(b:(l.all fun o=>match o.op with|.defer _=>false|_=>true)=true)(h:GA P N l.toArray f g m [] (fun a w=>Q .normal a w) [] (fun _ _=>False) L F H):GN ro n P N (.region id l.toArray true) Q L F H:=fun a w hf p=>by
 subst j;unfold GA at h;refine wpIn_region_any hm.h (xf (fun i o q c e=>?_) (fun a w k=>k) _ _ _ _ (fI _ _ _ _ (h a _ hf p.drew)));have d:=Q1.1 b o (by have:=Array.mem_of_getElem? q;simpa using this);rw[e] at d
 cases d
def uJ{F:Fence}{d j t:Nat}{b:Bool}{op:Op}{e:Oper}{rest:List Oper}{ty:zk}{pos:String}{af:Array Edge}{a:Act}{w:World}(f:ops[j]? =some e)(g:e.dst=some t)(hv:a.tmps[t]? =some (.bool b))(h:wpListIn F n P ops Q (⟨some d,op,ty,pos,af,none⟩::rest) a w):wpListIn F n P ops Q (⟨some d,op,ty,pos,af,some (j,b)⟩::rest) a w:=by
 have c:Region.wanted (⟨some d,op,ty,pos,af,some (j,b)⟩:Oper) (yielded ops a.tmps)=true:=by
  simp[Region.wanted,yielded,f,g,hv]
 unfold wpListIn at h⊢;rw[zr c];rw[zr (by simp[Region.wanted])] at h;exact h
end
def KeepsC(A B:World):Prop:=A.heap.size<=B.heap.size/\∀(k:Nat) (o:Obj),A.heap[k]? =some o->o.isCells=true->B.heap[k]? =some o
def KeepsC.trans{A B C:World}(h:KeepsC A B)(k:KeepsC B C):KeepsC A C:=⟨j9 h.1 k.1,fun b o c a=>k.2 b o (h.2 b o c a) a⟩
def KeepsC.put{w:World}(W:World)(l:Nat)(o c:Obj)(_:w.heap.size<=l)(h:W.heap[l]? =some o)(hc:o.isCells=false)(_:o.isWalk=false):KeepsC W (W.putObj l c):=by
 have hg:=grownBy_putObj' W l c;refine⟨hg.size,fun k x a d=>?_⟩;have b:l≠k:=by rintro rfl;rw[h] at a;cases a;rw[hc] at d;cases d
 exact(hg.block k (jp.1 a).1 (fun e=>b (by cases e;rfl))).trans a
def KeepsC.of_grown{A B:World}(h:A.grownBy B none):KeepsC A B:=⟨h.size,fun k o a _=>(h.block k (jp.1 a).1 (fun e=>by cases e)).trans a⟩
def KeepsC.rd{A B:World}(h:KeepsC A B){a:qr}{xs:zq}(r:n9 (hp A) a xs):n9 (hp B) a xs:=by
 intro c;obtain⟨d,e,f⟩:=r c;refine⟨d,e,fun j u hu=>?_⟩;have b:=f j u hu;unfold l_.cell? at b⊢
 cases ho:hp A (d.add j).block with
 |none=>rw[ho] at b;cases b
 |some o=>
  rw[ho] at b
  cases o with
  |cells cs t fr=>have g:hp B (d.add j).block=_:=h.2 _ _ ho rfl;rw[g];exact b
  |_=>cases b
end Go.Sl
namespace Go.Proofs.YtmcepdopookilaaGreatDoor.Rp
open Go Go.Sl Go.RowKit Go.Proofs.Tryz
abbrev FX(n:Nat):={x:Bs×Bs//x.1.length<=n/\x.2.length<=n}
abbrev Qt{n:Nat}(x:FX n):Array Value:=#[B x.1.1,B x.1.2]
def RP(n:Nat)(a:Go.Act):Nat:=match (a.tmps[18]?:Option Value) with
 |some (.int _ k)=>n-k.toNat
 |_=>0
def MU(s:Bs)(hs:s.length<=1000000000):Ct prog 394 [B s,B [58]] Gl [] (fun v A=>(∃(a b:Bs) (ok:Bool),v=.tuple #[B a,B b,.bool ok]/\a.length<=s.length/\b.length<=s.length)/\A=[]):=fun w c d f g=>
 (He s qb w c d f g).mono fun e l ⟨v,A,h,⟨i,j⟩,k⟩=>⟨v,A,h,⟨⟨_,_,_,i,sj _ _,by split<;>simp⟩,j⟩,k⟩
def _root_.Go.Sl.KeepsC.gl{A B:World}(h:KeepsC A B)(g:Gl (hp A)):Gl (hp B):=by
 obtain⟨⟨a,b,c,n⟩,⟨d,e,o⟩,⟨f,i,j,p,k3⟩,⟨k,l,m,q,k4⟩⟩:=g;exact⟨⟨a,b,c,h.2 _ _ n rfl⟩,⟨d,e,h.2 _ _ o rfl⟩,⟨f,i,j,h.2 _ _ p rfl,k3⟩,⟨k,l,m,h.2 _ _ q rfl,k4⟩⟩
def Ie{w0 W:World}(h:Below w0.heap.size w0 W):l_.le (hp w0) (hp W):=fun b o a=>(h.block b (jp.1 a).1).trans a
def uK(m:Bs)(hm:m.length<=1000000000)(g:Nat)(w0:World)(hg:Gl (hp w0))(Y:w0.heap[g]? =some (.cells #[B m] 9 (0,0)))(n:Nat):
  SeqStopsK Fence.wide n prog 435 #[i8 g] (Qt (n:=m.length)) KeepsC (fun _=>True) (fun _=>True) 2000000000 w0:=by
 intro l J Jx W hW O q2 hY h0;have Q:=Ie hW;have q3:(am W).heap g=some (.cells #[B m] 9 (0,0)):=by rw[N0];exact Q _ _ Y
 have Z:Gl (am W).heap:=by rw[N0];exact hg.le Q
 refine callsIn_of_wp func435 rfl trivial ?_ rfl;refine(?_:GN none n prog 42 _ _ (aM 0 [.func (.yield l) #[] #[],i8 g]) (am W) []) _ _ (U3 42 _ rfl) (ap W);refine N4 ?_;refine L4 ?_;refine D1 ?_;refine r_ (l5 rfl (fun w hw=>I8 hw q3 rfl)) ?_;refine e_ (C:=[]) (so m hm) (fun h hh _=>Z.le hh) ?_;rintro v A ⟨⟨hd,t,rfl,x0,ht⟩,rfl⟩;refine al ?_;refine P_ ?_;refine N4 ?_;refine L4 ?_;refine u6 ?_;refine e_ (C:=[]) (xe hd qb) (fun h hh _=>Z.le hh) ?_;rintro v A ⟨p,i,h4,rfl,rfl,x1,x2⟩;refine I6 2 ?_;refine P_ ?_;refine bv ?_;intro a w q4 S;have h5:n9 (hp w) p (fV i):=(S.ownN (t:=9) ud).2.2.1;have x3:∀(d:List (FX m.length)) (A:World) (B':World) (y:Option Nat),J d A->A.grownBy B' y->(∀r,y=some r->W.heap.size<=r/\∃o:Obj,A.heap[r]? =some o/\o.isWalk=true)->J d B':=fun d A B' y z h2 h3=>O d A B' y z h2 h3;refine wpIn_loop (fun a w=>∃(k:Nat) (d:List (FX m.length)),H5 42 [(0,.func (.yield l) #[] #[]),(16,.slice p i.length h4),(17,r7 i.length),(18,r7 k)] a/\J d w/\Gl (hp w)/\n9 (hp w) p (fV i)/\d.length<=k/\k<=i.length) (fun a _=>RP i.length a)
  ⟨0,[],q4.sub sub,O [] W w none h0 (C1 S) (fun r e=>by cases e),(KeepsC.of_grown (C1 S)).gl (hg.le Q),h5,kp _,zp _⟩ ?_
 rintro a w ⟨k,d,h6,D,M,u,x5,x9⟩;have T:RP i.length a=i.length-k:=by
  have z:a.tmps[18]? =some (.int .i64 (k:Nat)):=h6.at_ _ _ rfl;unfold RP;rw[z];simp
 have h7:n9 (am w).heap p (fV i):=by rw[N0];exact u
 refine(?_:GN none n prog 42 _ _ [(0,.func (.yield l) #[] #[]),(16,.slice p i.length h4),(17,r7 i.length),(18,r7 k)] (am w) []) a w h6 (ap w);refine N4 ?_;refine L4 ?_;refine u6 ?_;refine P_ ?_;refine N4 ?_;refine aV rfl ?_ ?_<;>intro h
 ·have c:k<i.length:=by have:=zy h;omega
  obtain⟨l0,h8⟩:=o9 (i.getD k []);have q9:l0.length<=m.length:=by rw[h8];have:=pZ (ed (l:=i) c);omega
  have y0:=cB u c;refine eU ?_;refine P_ ?_;refine N4 ?_;refine bv ?_;refine N4 ?_;refine L4 ?_;refine u6 ?_;refine r_ ((l5 rfl (fun w hw=>Px hw h7 x7 c)).eq (v':=B l0) (by rw[h8])) ?_;refine u6 ?_;refine P_ ?_;refine N4 ?_;refine L4 ?_;refine u6 ?_;refine e_ (C:=[]) (MU l0 qb) (fun h hh _=>(show Gl (am w).heap by rw[N0];exact M).le hh) ?_;rintro v A ⟨⟨X,vl,ok,rfl,y1,y2⟩,rfl⟩;refine wk 7 ?_;obtain⟨q,hq⟩:=o9 (decide (X=[]));refine P_ ?_;refine N4 ?_
  cases ok
  ·refine L4 ?_;refine wk 9 ?_;(first|refine u_ ?_|(refine v_ ?_;fail));(first|refine u_ ?_|(refine v_ ?_;fail));refine A5 ?_;refine P_ ?_;refine aV rfl (fun h=>absurd h qp) (fun _=>?_);refine eU ?_;refine P_ ?_;refine L4 ?_;refine A5 ?_;unfold At;intro a3 w3 f b;refine⟨⟨k+1,d,f.sub sub,O _ w w3 none D (C1 b) (fun r e=>by cases e),(KeepsC.of_grown (C1 b)).gl M,(KeepsC.of_grown (C1 b)).rd u,by omega,c⟩,?_⟩;have z:a3.tmps[18]? =some (.int .i64 ((k:Nat)+1:Int)):=f.at_ _ _ rfl;rw[T];unfold RP;rw[z];simp only;omega
  cases q
  case true=>
   refine L4 ?_;refine E8 ?_;(first|refine u_ ?_|(refine v_ ?_;refine f_ ((F7 rfl rfl).eq (v':=.bool false) (jh (fun x=>Value.bool (!x)) hq.symm)) ?_));refine al ?_;(first|refine u_ ?_|(refine v_ ?_;fail));(first|refine u_ ?_|(refine v_ ?_;fail));refine A5 ?_;refine P_ ?_;refine aV rfl (fun h=>absurd h qp) (fun _=>?_);refine eU ?_;refine P_ ?_;refine L4 ?_;refine A5 ?_;unfold At;intro a3 w3 f b;refine⟨⟨k+1,d,f.sub sub,O _ w w3 none D (C1 b) (fun r e=>by cases e),(KeepsC.of_grown (C1 b)).gl M,(KeepsC.of_grown (C1 b)).rd u,by omega,c⟩,?_⟩;have z:a3.tmps[18]? =some (.int .i64 ((k:Nat)+1:Int)):=f.at_ _ _ rfl;rw[T];unfold RP;rw[z];simp only;omega
  have q5:vl.length<=1000000000:=by omega
  refine oB (pre:=List.take 10 _) (suf:=List.drop 10 _) (Qp 10 _).symm (.inl rfl) ?_;refine f_ oF ?_;refine f_ oF ?_;refine A7 rfl rfl rfl ?_;refine f_ oF ?_;refine A7 rfl rfl rfl ?_;refine f_ ((F7 rfl rfl).eq (v':=.bool true) (jh (fun x=>Value.bool (!x)) hq.symm)) ?_;refine f_ oF ?_;refine f_ oF ?_;refine A7 rfl rfl rfl ?_;refine f_ oF ?_;refine A7 rfl rfl rfl ?_;refine f_ oF ?_;refine A7 rfl rfl rfl ?_;refine f_ oF ?_;refine A7 rfl rfl rfl ?_;refine e_ (C:=[]) (Ma vl q5) qw ?_;rintro v A ⟨⟨tr,rfl,y3⟩,rfl⟩;refine G5 ?_;unfold At;intro a1 w1 s h9;have k0:KeepsC w w1:=KeepsC.of_grown (C1 h9);have q6:J d w1:=O d w w1 none D (C1 h9) (fun r e=>by cases e);have q7:=hY d ⟨(X,tr),by show X.length<=_;omega,by show tr.length<=_;omega⟩ w1 q6 qb;refine uJ rfl rfl (s.at_ _ _ rfl) ?_;refine vI (m:=n-1) (l:=l) (vs:=[B X,B tr]) (s.eval (x:=.tmp 34) rfl) (by simp only[Q2,Jp];rw[s.eval (x:=.tmp 35) rfl,s.eval (x:=.tmp 37) rfl];rfl) q7 rfl ?_;rintro e j (⟨rfl,q8,k8⟩|⟨rfl,k9⟩)
  ·refine⟨_,rfl,?_⟩;have q0:Gl (hp j):=k8.gl (k0.gl M);have q1:n9 (hp j) p (fV i):=k8.rd (k0.rd u);refine dg (F:=am j) (H:=[]) (.inl rfl) ?_ (s.put rfl _) (ap j);refine A7 rfl rfl rfl ?_;refine f_ oF ?_;refine f_ oF ?_;refine G5 ?_;refine P_ ?_;refine aV rfl (fun h=>absurd h qp) (fun _=>?_);refine eU ?_;refine P_ ?_;refine L4 ?_;refine A5 ?_;unfold At;intro a3 w3 f b;refine⟨⟨k+1,d++[⟨(X,tr),by show X.length<=_;omega,by show tr.length<=_;omega⟩],f.sub sub,O _ j w3 none q8 (C1 b) (fun r e=>by cases e),(KeepsC.of_grown (C1 b)).gl q0,(KeepsC.of_grown (C1 b)).rd q1,by rw[zg];simp only[z1,kx];omega,c⟩,?_⟩;have z:a3.tmps[18]? =some (.int .i64 ((k:Nat)+1:Int)):=f.at_ _ _ rfl;rw[T];unfold RP;rw[z];simp only;omega
  ·refine⟨_,rfl,?_⟩;refine dg (F:=am j) (H:=[]) (.inl rfl) ?_ (s.put rfl _) (ap j);refine A7 rfl rfl rfl ?_;refine f_ oF ?_;refine f_ oF ?_;refine G5 ?_;refine P_ ?_;refine aV rfl (fun _=>?_) (fun h=>absurd h qp);refine yl ?_;unfold At;intro a2 w2 U V;have Y:=be (P:=prog) (fn:=Tryz.f435) (R:=fun e j=>(∃v,e=.returned v)/\((∃d,True/\J d j)\/(∃pre,True/\Jx pre j))) rfl U ⟨⟨_,rfl⟩,.inr ⟨_,trivial,q2 _ j w2 none k9 (C1 V) (fun r e=>by cases e)⟩⟩;exact Y.2
 ·refine AI ?_;unfold At;intro a2 w2 U V;have Y:=be (P:=prog) (fn:=Tryz.f435) (R:=fun e j=>(∃v,e=.returned v)/\((∃d,True/\J d j)\/(∃pre,True/\Jx pre j))) rfl U ⟨⟨_,rfl⟩,.inl ⟨d,trivial,O _ w w2 none D (C1 V) (fun r e=>by cases e)⟩⟩;exact Y.1
def Em(m:Bs):Ct prog 423 [B m] (fun _=>True) [] (fun v A=>∃g,v=.func (.func 435) #[] #[i8 g]/\A=[.blk g (.cells #[B m] 9)]):=by
 refine b_ 4 func423 rfl rfl rfl ?_;intro F _;refine D1 ?_;refine M1 rfl rfl rfl ?_;intro a;refine cn ?_;exact d_ rfl rfl _ ⟨a,rfl,rfl⟩ i_
abbrev TB(g4 g5:Nat)(v:Bs)(b:Bool):List As:=[.blk g4 (.cells #[B v] 9),.blk g5 (.cells #[.bool b] 4)]
def TC(F1:l9)(g4 g5 n:Nat)(c:Code)(pre:List (FX n))(W:World):Prop:=c=.ret/\∃x:FX n,Hp F1 W (TB g4 g5 x.1.2 true)
def If{F:l9}{d:World}{H:List As}{bs:zz}(h:Hp F d H)(i:∀b∈bs,F.heap b=none)(j:World)(A:List As)(k:Hp (w6 d bs) j A):Hp F j A:=by
 refine⟨k.os.trans h.os,k.tape.trans h.tape,k.output.trans h.output,fun b o a=>k.keep b o ?_,?_⟩
 ·have e:=h.keep b o a;have c:b∉bs:=fun f=>by rw[i b f] at a;cases a
  show F6 d bs b=_;simp[F6,c];exact e
 ·obtain⟨l,hs,m,hf⟩:=k.own;refine⟨l,hs,m,fun b g=>?_⟩;have e:=hf b g
  cases c:F.heap b with
  |none=>rfl
  |some o=>
   have n:=h.keep b o c;have p:b∉bs:=fun f=>(by rw[i b f] at c;cases c);have q:F6 d bs b=none:=e;have r:=(jp.1 n).1;simp[F6,p] at q;omega
def qa{P:zj}{fn:Func}{a:Go.Act}{w:World}{t t1 b d:Nat}{g c:zk}{v h:Value}[ha:HA P g false][ha1:HA P c false](i:fn.results=#[.cell t g,.cell t1 c])(j:a.tmps.getD t undef=.pointer (some ⟨b,0,none⟩))(k:a.tmps.getD t1 undef=.pointer (some ⟨d,0,none⟩))(l:w.cell? ⟨b,0,none⟩=some v)(m:w.cell? ⟨d,0,none⟩=some h):(results fn a.tmps).run P w=.ok (.tuple #[v,h]) w:=by
 have e:a.tmps[t]?.getD undef=.pointer (some ⟨b,0,none⟩):=by simpa using j
 have f:a.tmps[t1]?.getD undef=.pointer (some ⟨d,0,none⟩):=by simpa using k
 simp[results,i,e,f,asAddr,loadVar,ha.h,ha1.h,l,m,Sem.run_bind]
def kN{w:World}{b:Nat}{v:Value}{te:zk}(h:w.heap[b]? =some (.cells #[v] te (0,0))):w.cell? ⟨b,0,none⟩=some v:=by
 simp[World.cell?,h]
def En(m nm:Bs)(hm:m.length<=1000000000)(hn:nm.length<=2000000000):
  Ct prog 404 [B m,B nm] Gl [] (fun v A=>(∃(t:Bs) (ok:Bool),v=.tuple #[B t,.bool ok]/\t.length<=m.length)/\A=[]):=by
 intro w0 X hs u1 h0;have q5:X=[]:=hs;subst q5;rw[O1] at h0;refine(callsIn_wide (n:=5)).1 (callsIn_of_wp_marks func404 rfl trivial ?_ rfl);have q6:Gl (am w0).heap:=by rw[N0];exact h0
 refine(?_:GN none 5 prog 18 _ _ (aM 0 [B m,B nm]) (am w0) []) _ _ (U3 18 _ rfl) (ap w0);refine N4 ?_;refine L4 ?_;refine D1 ?_;refine M1 rfl rfl rfl ?_;intro Q;refine u6 ?_;intro u;refine u6 ?_;intro i;refine x6 ?_;refine P_ ?_;refine N4 ?_;refine N4 ?_;refine L4 ?_;refine u6 ?_;refine e_ (C:=[]) (Em m) qw ?_;rintro v A ⟨gF,rfl,rfl⟩;refine I6 0 ?_;refine P_ ?_;refine bv ?_;intro a O q7 y;have f:=q7.sub (L':=[(3,i8 Q),(4,i8 u),(5,i8 i),(9,.func (.func 435) #[] #[i8 gF])]) sub;obtain⟨F1,Y⟩:=o9 (w6 O [u,i]);have q8:O.heap[Q]? =some (.cells #[B nm] 9):=y.blk ud;have q9:O.heap[gF]? =some (.cells #[B m] 9):=y.blk ud;have h9:Gl (hp O):=q6.le y.keep;have k0:O.heap[u]? =some (.cells #[B []] 9):=y.blk ud;have h3:O.heap[i]? =some (.cells #[.bool false] 4):=y.blk ud;have x0:u≠i:=by rintro rfl;rw[k0] at h3;cases h3
 have x1:Hp F1 O (TB u i [] false):=by
  rw[Y];exact Hp.start ⟨[u],[i],rfl,⟨rfl,k0⟩,[i],[],rfl,⟨rfl,h3⟩,rfl⟩ (by simp[x0])
 have g:∀b,(F1.heap b).isSome=true->b<O.heap.size:=by rw[Y];exact FL
 have M:∀V A,Hp F1 V A->Hp (am w0) V A:=fun V A k=>by
  rw[Y] at k;refine If y (fun b T=>?_) V A k;obtain⟨X,hs,_,hf⟩:=y.own;refine hf b ?_;rw[hs.blks];simp at T;rcases T with rfl|rfl<;>simp[As.blks]
 have h2:Q≠u/\Q≠i:=by
  obtain⟨X,hs,hn,hf⟩:=y.own;rw[hs.blks] at hn;simp[As.blks] at hn;constructor<;>(intro e;subst e;simp at hn)
 have k8:F1.heap Q=some (.cells #[B nm] 9):=by
  rw[Y];show F6 O [u,i] Q=_;simp[F6,h2.1,h2.2];exact q8
 refine wpIn_rangeFunc_ownH (F:=Fence.wide) (encs:=Qt (n:=m.length)) (Kp:=KeepsC) (S:=fun _=>True) (Sp:=fun _=>True) (N:=2000000000) (w0:=O) rfl qp (f.eval (x:=.tmp 9) rfl) trivial (fun U w=>(inferInstance:HF prog 435).h U w) (uK m hm gF O h9 q9 4) (fun h k=>h.trans k) (fun W l o o' hl x2 hc hw=>KeepsC.put (w:=O) W l o o' hl x2 hc hw) (Below.refl _ O) (fun x=>rfl)
  (fun pre W=>Hp F1 W (TB u i [] false)) (TC F1 u i m.length)
  (fun s W V k9 hs hg hr=>aq hs rfl g hg hr)
  (fun c s W V k9 hs hg hr=>by obtain⟨e,x,h⟩:=hs;exact⟨e,x,aq h rfl g hg hr⟩) x1
  (fun x a' W=>H5 18 [(6,B x.1.1),(7,B x.1.2),(3,i8 Q),(4,i8 u),(5,i8 i)] a') (fun x a' s W V k9 hs hg hr=>hs) ?_ ?_ ?_ ?_
 ·intro l pre x W K Z hK;have x3:H5 18 [(11,B x.1.2),(10,B x.1.1),(3,i8 Q),(4,i8 u),(5,i8 i)] {tmps:=(a.tmps.setIfInBounds 10 (B x.1.1)).setIfInBounds 11 (B x.1.2),defers:=[]}:=by
   have h1:=((f.put (d:=10) rfl (B x.1.1)).put (d:=11) rfl (B x.1.2)).sub (L':=[(11,B x.1.2),(10,B x.1.1),(3,i8 Q),(4,i8 u),(5,i8 i)]) sub;exact⟨rfl,h1.size,h1.at_⟩
  refine(?_:GN (some l) 3 prog 18 _ _ [(11,B x.1.2),(10,B x.1.1),(3,i8 Q),(4,i8 u),(5,i8 i)] (am W) []) _ W (by simpa[Qt] using x3) (ap W);refine N4 ?_;refine dV (.inr (by intro o ho c;simp at ho;rcases ho with rfl;simp)) ?_;refine f_ oF ?_;refine G5 ?_;refine P_ ?_;refine dV (.inr (by intro o ho c;simp at ho;rcases ho with rfl;simp)) ?_;refine f_ oF ?_;refine G5 ?_;unfold At;intro a' V x5 x9;have p:=C1 x9;exact hK a' V (KeepsFrom.of_grownBy p (fun j e=>by cases e)) (KeepsC.of_grown p) (aq Z rfl g p (fun r e=>by cases e)) (x5.sub sub)
 ·intro l pre x a' W u2 z2 Z hA u0;have p3:(am W).heap Q=some (.cells #[B nm] 9):=by rw[N0];exact Z.keep _ _ k8
  obtain⟨q,hq⟩:=o9 (decide (R3 x.1.1=R3 nm));have u8:=x.2.1;refine(?_:GN (some l) 3 prog 18 _ _ [(6,B x.1.1),(7,B x.1.2),(3,i8 Q),(4,i8 u),(5,i8 i)] (am W) []) a' W hA (ap W);refine bv ?_;refine N4 ?_;refine MT ([2],[0,1,0,7,15],[1,3]) [] 5 rfl (by rfl) ?_;refine wd [0] ?_;refine A9 2 rfl (l5 rfl (fun w hw=>I8 hw p3 rfl)) G3 rfl rfl rfl i6 ?_;refine h_ 1 rfl i6 ?_;refine c_ rfl (J_ x.1.1 qb) qw rfl ?_;refine V2 ?_;refine h_ 3 rfl i6 ?_;refine c_ rfl (J_ nm qb) qw rfl ?_;refine rR ?_;refine w_ 4 rfl ((C9 rfl rfl).eq (v':=.bool q) (qn hq.symm)) ?_;refine wd [] ?_;refine P_ ?_;refine aV rfl ?_ ?_<;>intro _
  ·intro a2 w2 q0 h4;have p:=C1 h4;have y0:=aq Z rfl g p (fun r e=>by cases e);obtain⟨X,hs,h7,z⟩:=fL y0;refine(?_:GN (some l) 3 prog 18 _ _ [(7,B x.1.2),(4,i8 u),(5,i8 i)] (w6 w2 X) (TB u i [] false)) a2 w2 (q0.sub sub) h7;refine N4 ?_;refine dV (.inr (by intro o ho c;simp at ho;rcases ho with rfl|rfl|rfl<;>simp)) ?_;refine f_ oF ?_;refine cz rfl rfl uh pa rfl rfl ?_;refine cz rfl rfl uh pa rfl rfl ?_;refine G5 ?_;refine P_ ?_;refine yl ?_;unfold At;intro a3 w3 v0 q1;exact⟨(KeepsFrom.of_grownBy p (fun j e=>by cases e)).trans (jD hs rfl q1 (fun b T=>by rw[hs.blks] at T;exact T) _),rfl,x,z _ _ q1⟩
  ·refine eU ?_;unfold At;intro a2 V q0 h4;have p:=C1 h4;exact⟨KeepsFrom.of_grownBy p (fun j e=>by cases e),KeepsC.of_grown p,aq Z rfl g p (fun r e=>by cases e)⟩
 ·intro D xs W hD v1 Z hK;obtain⟨X,hs,h7,z⟩:=fL Z;have y1:D∉X:=fun T=>by
   obtain⟨o,h5,h6⟩:=hs.cells (by rfl) D T;have q2:W.heap[D]? =some o:=h5;rw[hK] at q2;cases q2;cases h6
  have y2:(w6 W X).heap D=some (.deferred (some [])):=by simp[w6,F6,y1,hK]
  rw[jE f _];refine wpIn_seq ?_;refine(wpIn_wide (n:=5)).2 (uC (K:=fun a' w'=>H5 18 [(4,i8 u),(5,i8 i)] a'/\Hp (w6 W X) w' (TB u i [] false)) (Kp:=fun _ _=>False) (R:=fun _ _=>False) [_] ?_ ?_ (fun _ _ _ h=>h.elim) (fun _ _ h=>h.elim) (f.sub (L':=[(4,i8 u),(5,i8 i)]) sub) h7)
  ·refine cz rfl rfl uh pa rfl rfl ?_;refine cz rfl rfl uh pa rfl rfl ?_;refine G5 ?_;exact p_ sub i_
  ·rintro a9 w9 ⟨h8,q3⟩;have q4:w9.heap[D]? =some (.deferred (some [])):=q3.keep D _ y2;have J:=aq (z _ _ q3) rfl g (grownBy_putObj' w9 D (.deferred none)) (fun r e=>by cases e;exact⟨hD,_,q4,rfl⟩);refine wpIn_ret ?_;have T:=(fM (n:=5) (P:=prog) (fn:=Tryz.f404) (R:=fun e w'=>∃v A,e=.returned v/\((∃(t:Bs) (ok:Bool),v=.tuple #[B t,.bool ok]/\t.length<=m.length)/\A=[])/\Hp (w6 w0 []) w' A) (a:=rj [{target:=.collected D,args:=#[]}] a9) (w:=w9) (D:=D) (ds:=[]) (by show a9.defers++_=_;rw[h8.defers];rfl) rfl q4 ⟨_,qa rfl (h8.eval (x:=.tmp 4) rfl) (h8.eval (x:=.tmp 5) rfl) (kN (J.blk ud)) (kN (J.blk ud)),_,[],rfl,⟨⟨_,_,rfl,zp _⟩,rfl⟩,M _ _ J.dropAll⟩).2;exact T
 ·intro D c pre W hD y3 z0 hK;obtain⟨rfl,x,Z⟩:=z0;have J:=aq Z rfl g (grownBy_putObj' W D (.deferred none)) (fun r e=>by cases e;exact⟨hD,_,hK,rfl⟩);rw[jE f _];refine wpIn_ret ?_;have T:=(fM (n:=5) (P:=prog) (fn:=Tryz.f404) (R:=fun e w'=>∃v A,e=.returned v/\((∃(t:Bs) (ok:Bool),v=.tuple #[B t,.bool ok]/\t.length<=m.length)/\A=[])/\Hp (w6 w0 []) w' A) (a:=rj [{target:=.collected D,args:=#[]}] a) (w:=W) (D:=D) (ds:=[]) (by show a.defers++_=_;rw[f.defers];rfl) rfl hK ⟨_,qa rfl (f.eval (x:=.tmp 4) rfl) (f.eval (x:=.tmp 5) rfl) (kN (J.blk ud)) (kN (J.blk ud)),_,[],rfl,⟨⟨_,_,rfl,x.2.2⟩,rfl⟩,M _ _ J.dropAll⟩).2;exact T
def Ig{h:l_}{l:List BM}{bs:zz}(hs:A_ h (X7 l) bs):∀b∈l,n9 h b.a (qW b.ls):=fun b a=>ef hs (jr.2 ⟨b,a,rfl⟩)
abbrev TD(m:MM)(r:RQ)(q:QL)(h:l_):Prop:=(∀b∈m.a6u,iP b.ls h)/\dM r q h
def OpQ(b:Nat)(r:RQ)(q:QL)(e:AR)(h:l_)(v:Value)(A:List As):Prop:=∃m' o y,v=.int .i64 e.2.2/\A=[T3 b m' r q o y]/\m'.s=e.1/\(e.2.2=0->o=e.2.1)/\ew m' h/\M8 o y h
def Ih(f:FuncId)(b:Nat)(m:MM)(r:RQ)(q:QL)(e:AR):Prop:=Cm prog f [i8 b] (TD m r q) (T3 b m r q C3 N8::vp m) (OpQ b r q e)
def D5{N:Nat}{L:G9}{F g:l9}{H R:List As}{fn:Func}{t b:Nat}{e:AR}{r:RQ}{q:QL}(a:MM)(o:OC)(y:OL)(i:fn.results=#[.tmp t])(hv:find L t=some (.int .i64 e.2.2))(hl:g.le F)(hH:∀w,Hp F w H->Hp F w (T3 b a r q o y::(vp a++R)))(hs:a.s=e.1)(j:e.2.2=0->o=e.2.1)(hf:∀b∈a.a6u,iP b.ls F.heap)(k:M8 o y F.heap):At N (Dp prog fn g R (OpQ b r q e)) L F H:=by
 refine At.weaken (H':=(T3 b a r q o y::R)++vp a) ?_ (fE.refl _) (fun w l=>(hH w l).perm (List.Perm.cons _ jj));refine dW fun m c ⟨u,f⟩=>?_;refine I4 (A:=[T3 b a r q o y]) (v:=.int .i64 e.2.2) (hl.trans c) ⟨a,o,y,rfl,rfl,hs,j,?_,Mn.le c.heap k⟩ ?_
 ·obtain⟨_,x,_,n,_,z,_,p,_,C,_,s,h⟩:=f;have d:A_ m.heap (vp a) _:=⟨_,_,rfl,n,_,_,rfl,p,_,_,rfl,s,h⟩;exact⟨A_.rd d ud,A_.rd d ud,A_.rd d ud,fun b f=>⟨Ig h b f,Mn.le c.heap (hf b f)⟩⟩
 ·exact d_ i hv _ qh i_
def MV(b:Nat)(m:MM)(r:RQ)(q:QL):Ih 58 b m r q (m.s,C3,0):=by
 refine A0 3 func58 rfl rfl rfl ?_;rintro F R ⟨a,c⟩;refine M4 ?_;exact D5 m C3 N8 rfl rfl (l9.le_refl _) i_ rfl (fun _=>rfl) a (M8.zero _)
def Ii(b:Nat)(m:MM)(r:RQ)(q:QL)(hs:m.a6G<=E6):Ih 65 b m r q (ly m.s):=by
 refine A0 18 func65 rfl rfl rfl ?_;rintro F R ⟨a,g⟩;have h:m.a6G<=9223372036854775807:=hs;obtain⟨e,d⟩:=o9 (decide (m.a6G=E6));refine Y1 ?_;refine f_ ((q_ rfl rfl).eq (v':=.bool e) (qn ((kz.2 (by show _↔m.a6G=9223372036854775807;omega)).trans d.symm))) ?_;refine x6 ?_
 cases e
 ·have c:m.a6G≠E6:=zu d.symm;have i:m.a6G≠9223372036854775807:=c;have f:ly m.s=({m.s with a6G:=m.a6G+1},C3,0):=zb c;rw[f];refine al ?_;refine f_ ((L9 rfl rfl qb).eq (v':=.int .u64 ((m.a6G+1:Nat):Int)) (by congr 1)) ?_;refine KI ?_;exact D5 {m with a6G:=m.a6G+1} C3 N8 rfl rfl (l9.le_refl _) i_ rfl (fun _=>rfl) a (M8.zero _)
 ·have c:m.a6G=E6:=zy d.symm;have f:ly m.s=(m.s,C3,13):=zr c;rw[f];refine D0 ?_;exact D5 m C3 N8 rfl rfl (l9.le_refl _) i_ rfl qx a (M8.zero _)
def TE{F:l9}{w:World}{x y z:As}{T:List As}(h:Hp F w (x::y::z::T)):Hp F w (z::x::T):=(h.perm (List.Perm.trans (List.Perm.swap y x (z::T)) (List.Perm.cons y (List.Perm.swap z x T)))).drop
abbrev QA(b:Nat)(m:MM)(r:RQ)(q:QL)(o:OC)(y:OL)(h:l_):Prop:=h b=some (.cells (OD m r q o y).toArray 136 (0,0))
def MW(b g:Nat)(m:MM)(r:RQ)(q:QL)(o:OC)(y:OL)(x:SX):Pu prog 107 [.agg (ji x).toArray,i8 g] (fun h=>aY g (i8 b) 132 h/\QA b m r q o y h) (.bool (decide (x.ses=r.ses))):=by
 refine b_ 12 func107 rfl rfl rfl ?_;rintro F ⟨hf,a⟩;refine D1 ?_;refine m8 rfl rfl ?_;intro c;refine u6 ?_;refine D8 [1,2,6] [] [.blk c (.cells (ji x).toArray 102)] 9 ?_;refine wd [0,1,2,3,4,5,6] ?_;refine w_ 7 rfl ((q_ rfl rfl).eq (dN x.ses r.ses)) ?_;refine wd [8] ?_;refine B4 ?_;exact d_ rfl rfl [] qh (fun w d=>d.dropAll)
def QB(b:Nat)(m:MM)(r:RQ)(q:QL)(g:m.a6w.length<=1000):Ih 57 b m r q (PJ m.s r):=by
 refine A0 14 func57 rfl rfl rfl ?_;rintro F R ⟨c,e⟩;refine D1 ?_;refine M1 rfl rfl rfl ?_;intro a;refine u6 ?_;refine D8 [0,1,5] [7,11] [.blk a (.cells #[i8 b] 132),T3 b m r q C3 N8] 12 ?_;refine wd [0,1,2,3,4,5,6] ?_;refine h_ 7 rfl i6 ?_;refine e_ (oZ m.a6w m.sa m.sc 107 [i8 a] (fun h=>aY a (i8 b) 132 h/\QA b m r q C3 N8 h) (fun x=>decide (x.ses=r.ses)) (fun x _=>MW b a m r q C3 N8 x) qb) ?pre ?_;(case pre=>exact fun h i d=>⟨L6 d,L6 d⟩);rintro v A ⟨rfl,rfl⟩;refine fy [8,9,10,11] ?_;refine D0 ?_;exact D5 {m with a6w:=m.a6w.filter fun x=>!decide (x.ses=r.ses)} C3 N8 rfl rfl (l9.le_refl _) (fun w f=>TE f) rfl (fun _=>rfl) c (M8.zero _)
def xg(l:List BM)(i:Nat):(fv l).take (i*5)=fv (l.take i):=aP o_ l i
def xh(l:List BM)(i:Nat):(fv l).drop (i*5)=fv (l.drop i):=lr o_ l i
def Eo(l:List BM)(a:qr)(c i:Nat)(C:i<l.length)(hl:l.length<=1000000):Ct prog 113 [.slice a l.length c,.int .i64 (i:Nat),.int .i64 ((i+1:Nat):Int)] (fun _=>True) [U0 a l c] (fun v A=>v=.slice a (l.eraseIdx i).length c/\A=[U0 a (l.eraseIdx i) c]):=by
 refine b_ 33 func113 rfl rfl rfl ?_;intro F _;have O:(l.eraseIdx i).length=l.length-1:=by rw[List.length_eraseIdx,zr C]
 have o:(l.drop (i+1)).length=l.length-(i+1):=jz;refine B7 (a:=a) (n:=l.length) (c:=c) (sz:=5) (xs:=fv l) (te:=100) ud fun f p q=>?_;obtain⟨b,d⟩:∃D:List BM,D=l.drop (l.length-1):=⟨_,rfl⟩;have J:M3 (fv l) (i*5) (fv (l.drop (i+1)))=fv (l.eraseIdx i++b):=by
  unfold M3;rw[xg,nE,o,<-Zj,xh,show i+(l.length-(i+1))=l.length-1 from by omega,<-d,K4];simp only[Kg]
 refine Y1 ?_;refine f_ (fZ rfl rfl rfl rfl qb) ?_;refine A5 ?_;refine f_ ((q_ rfl rfl).eq (v':=.bool false) (qn qj)) ?_;refine E8 ?_;refine yk ([],[],[]) [U0 a l c] 8 rfl ?_;refine wd [0,1] ?_;refine w_ 2 rfl ((C0 rfl rfl rfl qb).eq (v':=.slice a i c) (by simp[ez])) ?_;refine wd [3,4] ?_;refine w_ 5 rfl (C0 rfl rfl rfl qb) ?_;refine h_ 6 rfl i6 ?_;refine ue (a:=a) (n:=l.length) (k:=i) (m:=l.length-(i+1)) (news:=fv (l.drop (i+1))) rfl ((show∀{u v:Value},u=v->some u=some v from fun h=>by rw[h]) (by congr 1)) uh uh ?_ (by rw[nE,o]) qp (AZ _) qb rfl ?_;·(intro w r;have s:=((r.ownN (t:=100) ud).2.2.1:n9 _ a (fv l)).cut f p (i+1) l.length qb (kp _);rw[xh,jm (by rw[nE,o];omega)] at s;exact s)
 refine D7 [7] ?_;rw[J];refine P1 ?_;refine f_ (C0 rfl rfl rfl qb) ?_;refine jZ (a:=a) (n:=l.length) (c:=c) (sz:=5) (lo:=i+(l.length-(i+1))) (xs:=fv (l.eraseIdx i++b)) (te:=100) rfl qb qb rfl rfl (fun x=>uh) ?_;intro x M g;refine M4 ?_;have y:i+(l.length-(i+1))=(l.eraseIdx i).length:=by omega
 rw[y] at g;have e:x.take ((l.eraseIdx i).length*5)=fv (l.eraseIdx i):=by rw[g,xg,Ju]
 exact d_ rfl rfl _ ⟨by rw[y],rfl⟩ (fun w r=>by have z:=r.cutOwn (j:=(l.eraseIdx i).length) uh qb;rw[e] at z;exact z)
def BR(l:List BM)(a:Bs):(l.map BM.x).findIdx? (fun b=>decide (b.name=a))=l.findIdx? fun b=>decide (b.name=a):=by
 rw[List.findIdx?_map];rfl
def gS{m:MM}{a:Bs}(h:D9 (fun b:BM=>decide (b.name=a)) m.a6u<0):yb m.s a=none:=by
 unfold D9 at h;unfold yb;rw[BR]
 cases e:m.a6u.findIdx? fun b=>decide (b.name=a) with
 |none=>rfl
 |some i=>rw[e] at h;simp only[Option.elim] at h;omega
def gT{m:MM}{a:Bs}(h:¬D9 (fun b:BM=>decide (b.name=a)) m.a6u<0):∃i:Nat,D9 (fun b:BM=>decide (b.name=a)) m.a6u=(i:Nat)/\i<m.a6u.length/\yb m.s a=some i:=by
 unfold D9 at h⊢;unfold yb;rw[BR]
 cases e:m.a6u.findIdx? fun b=>decide (b.name=a) with
 |none=>rw[e] at h;simp only[Option.elim] at h;omega
 |some i=>exact⟨i,rfl,(jg.1 e).1,rfl⟩
def sK{α β:Type}(f:α->β):∀(l:List α) (i:Nat),(l.eraseIdx i).map f=(l.map f).eraseIdx i
 |[],_=>rfl
 |_::_,0=>rfl
 |x::t,i+1=>by simp only[List.eraseIdx_cons_succ,Q2,sK f t i]
def M0{l:List BM}{i:Nat}(a:i<l.length):(X7 l).Perm (O7 l[i].a l[i].ls l[i].c::X7 (l.eraseIdx i)):=by
 have e:l.Perm (l[i]::l.eraseIdx i):=by
  rw[K4];have c:l=l.take i++l[i]::l.drop (i+1):=by rw[<-Qc a,Qp]
  conv=>lhs;rw[c]
  exact Qm
 exact e.map fun b=>O7 b.a b.ls b.c
def Ij{F:l9}{w:World}{x y u v:As}{l:List BM}{i:Nat}{R:List As}(a:i<l.length)(h:Hp F w (x::y::u::v::(X7 l++R))):Hp F w (y::u::v::x::(X7 (l.eraseIdx i)++R)):=by
 have b:Hp F w ([x,y,u,v]++((O7 l[i].a l[i].ls l[i].c::X7 (l.eraseIdx i))++R)):=h.perm (((M0 a).append_right R).append_left [x,y,u,v]);have c:Hp F w (O7 l[i].a l[i].ls l[i].c::([x,y,u,v]++(X7 (l.eraseIdx i)++R))):=b.perm Qm;exact c.drop.perm (jj (l₁:=[x]) (l₂:=[y,u,v])|>.append_right _)
def Ep(b:Nat)(m:MM)(r:RQ)(q:QL)(k:m.a6u.length<=1000):Ih 60 b m r q (bY m.s r):=by
 refine A0 37 func60 rfl rfl rfl ?_;rintro F R ⟨a,l⟩;refine u6 ?_;refine D8 [3,8] [9] [T3 b m r q C3 N8] 11 ?_;refine wd [0,1,2,3,4,5,6,7,8] ?_;refine h_ 9 rfl i6 ?_;refine c_ rfl (oY m r.box k) (fun h p ⟨s,g⟩=>A_.rd g ud) rfl ?_;refine D7 [10] ?_;obtain⟨e,j⟩:=o9 (decide (r.box=di));refine al ?_;refine f_ ((C9 rfl rfl).eq (v':=.bool e) (qn j.symm)) ?_;refine u6 ?_
 cases e
 ·have f:r.box≠di:=zu j.symm;refine eV ?_ ?_<;>intro h
  ·have c:bY m.s r=(m.s,C3,6):=(by unfold bY;rw[zb f,gS (zy h)]);rw[c];refine D0 ?_;exact D5 m C3 N8 rfl rfl (l9.le_refl _) i_ rfl qx a (M8.zero _)
  ·obtain⟨i,n,d,ha⟩:=gT (zu h);have c:bY m.s r=({m.s with a6u:=m.s.a6u.eraseIdx i},C3,0):=(by unfold bY;rw[zb f,ha]);rw[c,n];refine wk 8 ?_;refine f_ ((r8 rfl rfl qb).eq (v':=.int .i64 ((i+1:Nat):Int)) (by congr 1)) ?_;refine e_ (Eo m.a6u m.ba m.bc i d qb) qw ?_;rintro v A ⟨rfl,rfl⟩;refine KI ?_;exact D5 {m with a6u:=m.a6u.eraseIdx i} C3 N8 rfl rfl (l9.le_refl _) (fun w o=>Ij d o) (by simp only[MM.s,sK]) (fun _=>rfl) (fun b g=>a b (Js g)) (M8.zero _)
 ·have f:r.box=di:=zy j.symm;have c:bY m.s r=(m.s,C3,1):=zr f;rw[c];refine D0 ?_;exact D5 m C3 N8 rfl rfl (l9.le_refl _) i_ rfl qx a (M8.zero _)
def dB{P:zj}{dst:Option Nat}{x:zw}{t ty:zk}{pos:String}{af:Array Edge}{gd:Option (Nat×Bool)}{L:G9}{F:l9}{H:List As}{b o n:Nat}{l vs:zq}{te:zk}{fr:Nat×Nat}[ha:HA P t true][hs:HS P t n](hx:ev L x=some (.pointer (some ⟨b,o,none⟩)))(c:F.heap b=some (.cells l.toArray te fr))(hv:dZ l o n vs):dF P ⟨dst,.load t x,ty,pos,af,gd⟩ L F H (.agg vs.toArray):=by
 have h:=hv.get;refine p9 hx (fun w d=>⟨_,rfl,fun j q a=>?_⟩) (by rw[h.2,kr,jz];omega);have f:=d.keep b _ c;have g:w.heap[b]? =some (.cells l.toArray te fr):=f;have e:(⟨b,o,none⟩:Addr).add j=⟨b,o+j,none⟩:=Addr.add_lit _ _ _;rw[e];rw[h.2,Wn] at a;split at a
 ·rw[Zc] at a;simp[l_.cell?,hp,g,a]
 ·cases a
abbrev dC(m:MM)(i:Nat):Value:=.pointer (N_ m.ba (i*5))
def gh(m:MM):Option Nat->Value
 |none=>.tuple #[.pointer none,.bool false]
 |some i=>.tuple #[dC m i,.bool true]
def fj{m:MM}{i:Nat}(h:i<m.a6u.length):aw m.s i=m.a6u[i].x:=by
 unfold aw;rw[z8,Q3,zd h];rfl
def qe{m:MM}{r:RQ}{i:Nat}(h:named m.s r=some i):i<m.a6u.length:=by
 unfold named at h;obtain⟨j,b,a⟩:=kj.1 h;split at a
 ·cases a
  unfold yb at b;have:=(jg.1 b).1;simpa using this
 ·cases a
def eE(b:Nat)(m:MM)(r:RQ)(q:QL)(o:OC)(y:OL)(k:m.a6u.length<=1000):Pu prog 116 [i8 b] (fun h=>QA b m r q o y h/\n9 h m.ba (fv m.a6u)) (gh m (named m.s r)):=by
 refine b_ 41 func116 rfl rfl rfl ?_;rintro F ⟨l,a⟩;refine A5 ?_;refine D8 [3,8] [9] [] 11 ?_;refine wd [0,1,2] ?_;refine A9 3 rfl (dB rfl l ga) G3 rfl rfl rfl i6 ?_;refine wd [4,5,6,7,8] ?_;refine h_ 9 rfl i6 ?_;refine c_ rfl (oY m r.box k) (fun h n _=>a.le n) rfl ?_;refine D7 [10] ?_;by_cases hn:D9 (fun b:BM=>decide (b.name=r.box)) m.a6u<0
 ·have e:named m.s r=none:=by unfold named;rw[gS hn];rfl
  rw[e];refine x6 ?_;refine D8 [7,11,16] [] [] 19 ?_;refine wd [0] ?_;refine w_ 1 rfl ((F8 rfl rfl).eq (v':=.bool true) (qn (ju hn))) ?_;refine wd [2,3,4,5,6,7,8,9,10,11,12,13,14,15,16,17,18] ?_;refine M4 ?_;exact w8 rfl rfl rfl [] qh i_
 ·obtain⟨i,p,c,ha⟩:=gT hn;have d:=p8 a o_ qp c;obtain⟨e,f⟩:=o9 (decide (m.a6u[i].val=r.val));have g:named m.s r=if m.a6u[i].val=r.val then some i else none:=by
   unfold named;rw[ha,jq,fj c]
  rw[p];refine x6 ?_;refine D8 [7,11,16] [] [] 19 ?_;refine wd [0] ?_;refine w_ 1 rfl ((F8 rfl rfl).eq (v':=.bool false) (qn qj)) ?_;refine wd [2,3,4,5,6,7,8,9,10] ?_;(first|refine s_ 11 ?_|refine t_ 11 ?_|refine iE 11 rfl (l5 rfl (fun w s=>cT (j:=1) (a.le s.keep) o_ c rfl x7)) G3 rfl rfl rfl rfl rfl rfl i6 ?_);refine wd [12,13,14,15,16] ?_;(first|refine s_ 17 ?_|refine t_ 17 ?_|refine G4 17 rfl ((M2 rfl rfl).eq (v':=.bool (!e)) (jh (fun x=>Value.bool (!x)) ((kz.2 Jn).trans f.symm))) rfl rfl rfl rfl rfl rfl i6 ?_);refine wd [18] ?_
  cases e
  ·rw[g,zb (zu f.symm)];refine M4 ?_;exact w8 rfl rfl rfl [] qh i_
  ·rw[g,zr (zy f.symm)];refine wk 9 ?_;refine B4 ?_;exact w8 rfl rfl rfl [] ⟨by simp[gh],rfl⟩ i_
def ah(l:List LM):Nat:=(l.getLast?.map fun x=>x.t.uid).getD 0
def qf(b:BM):wi b.x=ah b.ls:=by
 unfold wi ah;rw[List.getLast?_map,J7];rfl
abbrev iV(g2 g5:Nat):Value:=.func (.func 195) #[] #[i8 g2,i8 g5]
def qi(b:Nat)(m:MM)(i:Nat)(g:i<m.a6u.length)(hl:m.a6u[i].ls.length<=1000):Ct prog 118 [i8 b,dC m i] (fun h=>n9 h m.ba (fv m.a6u)/\n9 h m.a6u[i].a (qW m.a6u[i].ls)) [] (fun v A=>∃c d,v=iV c d/\A=[.blk d (.cells #[.int .u64 (ah m.a6u[i].ls:Nat)] 27),.blk c (.cells #[i8 b] 132)]):=by
 refine b_ 24 func118 rfl rfl rfl ?_;rintro F ⟨a,e⟩;have k:=p8 a o_ qp g;refine D1 ?_;refine M1 rfl rfl rfl ?_;intro c;refine yu ?_;refine cA rfl rfl ?_;intro d;refine P1 ?_;refine r_ (l5 rfl (fun w f=>cT (j:=4) (a.le f.keep) o_ g rfl x7)) ?_;refine P1 ?_;refine n8 (ι:=Unit) (fun _=>True) (fun _=>[(2,i8 c),(5,i8 d)]) (fun _=>[.blk d (.cells #[.int .u64 (ah m.a6u[i].ls:Nat)] 27),.blk c (.cells #[i8 b] 132)]) ?_ ?_
 ·refine p7 rfl ?_ ?_<;>intro h
  ·have hp:0<m.a6u[i].ls.length:=(by have:=zy h;omega);have n:=p8 e A8 qp (i:=m.a6u[i].ls.length-1) qb;have l:ah m.a6u[i].ls=m.a6u[i].ls[m.a6u[i].ls.length-1].t.uid:=by
    unfold ah;rw[Jh,zd qb];rfl
   rw[l];refine E8 ?_;refine r_ (l5 rfl (fun w f=>cT (j:=4) (a.le f.keep) o_ g rfl x7)) ?_;refine u6 ?_;refine f_ ((E7 rfl rfl qb).eq (v':=.int .i64 ((m.a6u[i].ls.length-1:Nat):Int)) (by congr 1;omega)) ?_;refine A5 ?_;refine r_ (l5 rfl (fun w f=>cT (j:=0) (e.le f.keep) A8 (i:=m.a6u[i].ls.length-1) qb rfl x7)) ?_;refine u6 ?_;exact g_ () trivial i_
  ·have hp:m.a6u[i].ls.length=0:=(by have:=zu h;omega);have l:ah m.a6u[i].ls=0:=by
    unfold ah;rw[Jh,List.getElem?_eq_none qb];rfl
   rw[l];refine x6 ?_;exact g_ () trivial i_
 rintro _ _;refine M4 ?_;exact d_ rfl rfl _ ⟨c,d,rfl,rfl⟩ i_
def Ik(l m:List Bs)(a b:qr)(c d:Nat)(hl:l.length<=1000000000000):Pu prog 51 [.slice a l.length c,.slice b m.length d] (fun h=>n9 h a (fV l)/\n9 h b (fV m)) (.bool (decide (l=m))):=by
 refine b_ 26 func51 rfl rfl rfl ?_;intro F u;have j:=u.1;have n:=u.2;refine Y1 ?_;refine p7 rfl ?_ ?_<;>intro h
 ·have f:l≠m:=by rintro rfl;simp at h
  rw[Qk f];refine D0 ?_;exact d_ rfl rfl [] qh (fun _ h=>h)
 have o:l.length=m.length:=by simp at h;omega
 refine E8 ?_;refine o8 (ι:=Nat) (fun k=>k<=l.length/\∀i,i<k->l.getD i []=m.getD i []) (fun k=>[(0,.slice a l.length c),(1,.slice b m.length d),(12,r7 l.length),(13,r7 k)]) (fun k=>[]) (fun k=>l.length-k) 0 ⟨by omega,fun i h=>by omega⟩ ?_ ?_ ?_
 ·exact sub
 ·intro w g;exact g
 intro k v;obtain⟨v,p⟩:=v;refine T2 ?_ ?_<;>intro h
 ·have r:k<l.length:=by simp at h;omega
  have s:=cB j r;have q:=cB n (i:=k) qb;refine A5 ?_;refine vM [3,7] [] 9 ?_;refine wd [0,1,2] ?_;refine A9 3 rfl (l5 rfl (fun w g=>Px g j (i:=k) qb qb)) G3 rfl rfl rfl i6 ?_;refine wd [4,5,6] ?_;refine A9 7 rfl (l5 rfl (fun w g=>Px g n (i:=k) qb qb)) G3 rfl rfl rfl i6 ?_;refine wd [8] ?_;refine p7 rfl ?_ ?_<;>intro t
  ·have f:l≠m:=(by rintro rfl;simp at t);rw[Qk f];refine D0 ?_;exact d_ rfl rfl [] qh (fun _ h=>h)
  ·have y:l.getD k []=m.getD k []:=(by first|(simpa using t)|(simp at t⊢;omega));refine D1 ?_;refine f_ ((r8 rfl rfl qb).eq (v':=.int .i64 ((k+1:Nat):Int)) (by congr 1)) ?_;refine u6 ?_;refine l8 (k+1) ⟨by omega,fun i x=>?_⟩ qb ?_ ?_
   ·rcases jd.1 x with z|rfl
    ·exact p i z
    ·exact y
   ·exact sub
   ·intro w g;exact g
 ·have A:k=l.length:=by simp at h;omega
  have e:l=m:=GO o fun i x=>p i qb;rw[ju e];refine D0 ?_;exact d_ rfl rfl [] qh (fun _ h=>h)
def BS{l:List Bs}{i:Nat}(h:i<l.length):l.getD i []=l[i]:=by
 rw[z8,zd h];rfl
def MX(l:List Bs)(a:qr)(c:Nat)(f:Bs)(hl:l.length<=1000000000000):Pu prog 273 [.slice a l.length c,B f] (fun h=>n9 h a (fV l)) (.int .i64 (D9 (fun x=>decide (x=f)) l)):=by
 refine b_ 19 func273 rfl rfl rfl ?_;intro F e;refine P1 ?_;refine o8 (ι:=Nat) (fun j=>j<=l.length/\∀i (g:i<l.length),i<j->decide (l[i]=f)=false) (fun j=>[(0,.slice a l.length c),(1,B f),(7,r7 l.length),(8,r7 j)]) (fun _=>[]) (fun j=>l.length-j) 0 ⟨zp _,fun i _ h=>by omega⟩ sub i_ ?_;rintro j ⟨p,d⟩;refine T2 ?_ ?_<;>intro h
 ·have b:j<l.length:=by have:=zy h;omega
  have k:=cB e b;refine Y1 ?_;refine r_ (l5 rfl (fun w n=>Px n e (i:=j) qb b)) ?_;refine f_ ((C9 rfl rfl).eq (v':=.bool (decide (l[j]=f))) (qn (kz.2 (by rw[BS b];exact eq_comm)))) ?_;refine O_ ?_ ?_<;>intro m
  ·refine M4 ?_;exact d_ rfl rfl [] ⟨by rw[O3 b m d],rfl⟩ i_
  ·refine A5 ?_;refine l8 (j+1) ⟨b,fun i g h=>?_⟩ qb sub i_;rcases jd.1 h with o|rfl
   ·exact d i g o
   ·exact m
 ·have b:j=l.length:=by have:=zu h;omega
  refine D0 ?_;exact d_ rfl rfl [] ⟨by rw[O2 fun i g=>d i g qb],rfl⟩ i_
def MY(l:List Bs)(f:Bs):l.any (fun x=>decide (x=f))=decide (f∈l):=by
 rw[Z5,Jd,K9];constructor
 ·rintro⟨x,a,h⟩;exact zy h▸a
 ·exact fun h=>⟨f,h,ju rfl⟩
def BT(l:List Bs)(a:qr)(c:Nat)(f:Bs)(hl:l.length<=1000000000000):Pu prog 200 [.slice a l.length c,B f] (fun h=>n9 h a (fV l)) (.bool (decide (f∈l))):=by
 refine b_ 9 func200 rfl rfl rfl ?_;intro F b;refine E8 ?_;refine c_ rfl (MX l a c f hl) (fun h d _=>b.le d) rfl ?_;refine f_ ((K_ rfl rfl).eq (qn ((fW (fun x=>decide (x=f)) l).trans (MY l f)))) ?_;refine D0 ?_;exact d_ rfl rfl [] qh i_
def uL(l:List Bs)(a:qr)(c:Nat)(f:Bs)(hl:l.length<=1000000000000):Pu prog 121 [.slice a l.length c,B f] (fun h=>n9 h a (fV l)) (.bool (decide (f∈l))):=by
 refine b_ 8 func121 rfl rfl rfl ?_;intro F b;refine E8 ?_;refine c_ rfl (BT l a c f hl) (fun h d _=>b.le d) rfl ?_;refine D0 ?_;exact d_ rfl rfl [] qh i_
def xi(l:List Bs):G_ l=(l.all (fun f=>decide (E_ f=some f))&&(decide (l.length<=16)&&decide (l=U5 l))):=by
 unfold G_;have h:oG l=decide (l=U5 l):=by
  rw[Z5,K9];exact⟨fun h=>(Dj (lk h)).symm,fun h=>ll (by rw[h];exact nu l)⟩
 rw[h,Bool.and_assoc,Yq (decide (l=U5 l))]
def gU(l:List Bs)(a:qr)(c:Nat)(hl:l.length<=1000000)(t:∀f∈l,f.length<=lD):Pu prog 114 [.slice a l.length c] (fun h=>n9 h a (fV l)) (.bool (G_ l)):=by
 refine b_ 35 func114 rfl rfl rfl ?_;intro F g;refine P1 ?_;refine o8 (ι:=Nat) (fun j=>j<=l.length/\∀i (r:i<l.length),i<j->E_ l[i]=some l[i]) (fun j=>[(0,.slice a l.length c),(7,.slice a l.length c),(8,r7 l.length),(9,r7 j)]) (fun _=>[]) (fun j=>l.length-j) 0 ⟨zp _,fun i _ h=>by omega⟩ sub i_ ?_;rintro j ⟨Q,n⟩;refine T2 ?_ ?_<;>intro h
 ·have d:j<l.length:=by have:=zy h;omega
  have u:=cB g d;obtain⟨o,s⟩:=o9 (E_ l[j]);refine u6 ?_;refine r_ (l5 rfl (fun w y=>Px y g (i:=j) qb d)) ?_;refine u6 ?_;rw[BS d];refine u6 ?_;refine c_ rfl (eA l[j] (t _ (zm d))) qw rfl ?_;rw[<-s];refine al ?_;have k:E_ l[j]≠some l[j]->G_ l=false:=fun z=>by
   rw[xi,List.all_eq_false.2 ⟨l[j],zm d,by simpa using z⟩];rfl
  cases o with
  |none=>
   refine Ot ?_;exact d_ rfl rfl [] ⟨by rw[k (by rw[<-s];simp)],rfl⟩ i_
  |some x=>
   obtain⟨q,m⟩:=o9 (decide (x=l[j]));refine al ?_;(first|refine u_ ?_|(refine v_ ?_;refine f_ ((F7 rfl rfl).eq (v':=.bool (!q)) (jh (fun b=>Value.bool (!b)) m.symm)) ?_));refine u6 ?_
   cases q
   ·refine D0 ?_;exact d_ rfl rfl [] ⟨by rw[k (by rw[<-s];intro e;exact zu m.symm (Qz e))],rfl⟩ i_
   ·have C:x=l[j]:=zy m.symm;refine A5 ?_;refine l8 (j+1) ⟨d,fun i r h=>?_⟩ qb sub i_;rcases jd.1 h with J|rfl
    ·exact n i r J
    ·rw[<-s,C]
 ·have d:j=l.length:=by have:=zu h;omega
  have p:l.all (fun f=>decide (E_ f=some f))=true:=Q1.2 fun x C=>by
   obtain⟨i,r,rfl⟩:=Zp C;exact ju (n i r qb)
  rw[xi,p,K3];obtain⟨q,m⟩:=o9 (decide (l.length<=16));rw[<-m];refine x6 ?_
  cases q
  ·refine A5 ?_;refine f_ ((H4 rfl rfl).eq (v':=.bool false) (qn ((qz).trans m.symm))) ?_;refine E8 ?_;(first|refine u_ ?_|(refine v_ ?_;fail));(first|refine u_ ?_|(refine v_ ?_;fail));refine M4 ?_;exact d_ rfl rfl [] qh i_
  ·refine A5 ?_;refine f_ ((H4 rfl rfl).eq (v':=.bool true) (qn ((qz).trans m.symm))) ?_;refine E8 ?_;refine A7 rfl rfl rfl ?_;refine e_ (pp l a c qb) (fun h D _=>g.le D) ?_;rintro v A ⟨M,O,rfl,rfl⟩;refine A7 rfl rfl rfl ?_;refine c_ rfl (Ik l (U5 l) a M c O qb) (fun h D ⟨S,t⟩=>⟨g.le D,A_.rd t ud⟩) rfl ?_;refine M4 ?_;exact d_ rfl rfl [] qh (fun w y=>y.dropAll)
abbrev TF(m:KM):Value:=.agg (aX m).toArray
abbrev OJ(x:LM):Value:=.agg (R7 x).toArray
abbrev Il(p:PL):zq:=[.int .u64 (p.seq:Nat),.int .u64 (p.mseq:Nat),.int .u64 (p.muid:Nat)]
abbrev plA(p:PL):Value:=.agg (Il p).toArray
def zF(m:KM)(x:LM)(p:PL)(t:Bs)(M:Fr m.k)(hf:x.t.a6J.length<=1000000)(O:t.length<=1000000000):
  Ct prog 359 [TF m,OJ x,plA p,B t] (fun h=>Gl h/\n9 h m.a (S_ m.k.set)/\n9 h x.a (fV x.t.a6J)) [] UJ:=by
 have Q:=M.1;obtain⟨T,U⟩:=o9 (decide (m.k.kind=5));obtain⟨V,X⟩:=o9 (decide (m.k.kind=6));obtain⟨Y,Z⟩:=o9 (decide (m.k.kind=7));obtain⟨b8,h8⟩:=o9 (decide (m.k.kind=8));obtain⟨b9,h9⟩:=o9 (decide (m.k.kind=9));obtain⟨i,j⟩:=o9 (decide (m.k.kind=10));obtain⟨k,l⟩:=o9 (decide (m.k.kind=11));obtain⟨o,r⟩:=o9 (decide (m.k.kind=12));obtain⟨s,y⟩:=o9 (decide (m.k.kind=13));obtain⟨⟨a,g,b,c,n,f⟩,D,J⟩:=m;simp only at Q U X Z h8 h9 j l r y;have h0:c.length<=2000000000:=M.2.1;have h1:b.length<=2000000000:=M.2.2.1;refine b_ 92 func359 rfl rfl rfl ?_;rintro F ⟨hg,z,S⟩;refine D1 ?_;refine m8 rfl rfl ?_;intro g4;refine m8 rfl rfl ?_;intro g5;refine m8 rfl rfl ?_;intro g6;refine E8 ?_;refine U2 ?_;refine f_ ((q_ rfl rfl).eq (v':=.bool T) (qn ((kz.2 (by show((a:Nat):Int)=5↔a=5;omega)).trans U.symm))) ?_;refine u6 ?_
 cases T
 case true=>
  refine Y1 ?_;refine c_ rfl (lF f D J p.mseq p.seq qb) (fun h e _=>z.le e) rfl ?_;refine D0 ?_;exact d_ rfl rfl [] ⟨⟨_,rfl⟩,rfl⟩ (fun w d=>d.dropAll)
 refine D1 ?_;refine f_ ((q_ rfl rfl).eq (v':=.bool V) (qn ((kz.2 (by show((a:Nat):Int)=6↔a=6;omega)).trans X.symm))) ?_;refine u6 ?_
 cases V
 case true=>
  refine Y1 ?_;refine c_ rfl (lF f D J p.muid x.t.uid qb) (fun h e _=>z.le e) rfl ?_;refine D0 ?_;exact d_ rfl rfl [] ⟨⟨_,rfl⟩,rfl⟩ (fun w d=>d.dropAll)
 refine D1 ?_;refine f_ ((q_ rfl rfl).eq (v':=.bool Y) (qn ((kz.2 (by show((a:Nat):Int)=7↔a=7;omega)).trans Z.symm))) ?_;refine u6 ?_
 cases Y
 case true=>
  refine x6 ?_;refine D8 [1,3,6] [4] [.blk g4 (.cells (aX ⟨⟨a,g,b,c,n,f⟩,D,J⟩).toArray 127),.blk g5 (.cells (R7 x).toArray 156)] 10 ?_;refine wd [0,1,2,3,5,6,7] ?_;refine h_ 4 rfl i6 ?_;refine c_ rfl (BT x.t.a6J x.a x.c b qb) (fun h e _=>S.le e) rfl ?_;refine V2 ?_;refine w_ 8 rfl (iD rfl rfl) ?_;refine wd [9] ?_;refine B4 ?_;exact d_ rfl rfl [] ⟨⟨_,rfl⟩,rfl⟩ (fun w d=>d.dropAll)
 refine D1 ?_;refine f_ ((q_ rfl rfl).eq (v':=.bool b8) (qn ((kz.2 (by show((a:Nat):Int)=8↔a=8;omega)).trans h8.symm))) ?_;refine u6 ?_
 cases b8
 case true=>
  refine Oq ?_;exact d_ rfl rfl [] ⟨⟨_,rfl⟩,rfl⟩ (fun w d=>d.dropAll)
 refine D1 ?_;refine f_ ((q_ rfl rfl).eq (v':=.bool b9) (qn ((kz.2 (by show((a:Nat):Int)=9↔a=9;omega)).trans h9.symm))) ?_;refine u6 ?_
 cases b9
 case true=>
  refine Oq ?_;exact d_ rfl rfl [] ⟨⟨_,rfl⟩,rfl⟩ (fun w d=>d.dropAll)
 refine D1 ?_;refine f_ ((q_ rfl rfl).eq (v':=.bool i) (qn ((kz.2 (by show((a:Nat):Int)=10↔a=10;omega)).trans j.symm))) ?_;refine u6 ?_
 cases i
 case true=>
  refine Oq ?_;exact d_ rfl rfl [] ⟨⟨_,rfl⟩,rfl⟩ (fun w d=>d.dropAll)
 refine D1 ?_;refine f_ ((q_ rfl rfl).eq (v':=.bool k) (qn ((kz.2 (by show((a:Nat):Int)=11↔a=11;omega)).trans l.symm))) ?_;refine u6 ?_
 cases k
 case true=>
  refine E8 ?_;refine e_ (C:=[]) (py t c O qb) (fun h e _=>hg.le e) ?_;rintro v A ⟨⟨q,rfl⟩,rfl⟩;refine D0 ?_;exact d_ rfl rfl [] ⟨⟨_,rfl⟩,rfl⟩ (fun w d=>d.dropAll)
 refine D1 ?_;refine f_ ((q_ rfl rfl).eq (v':=.bool o) (qn ((kz.2 (by show((a:Nat):Int)=12↔a=12;omega)).trans r.symm))) ?_;refine u6 ?_
 cases o
 case true=>
  refine x6 ?_;refine D8 [3] [1,4] [.blk g4 (.cells (aX ⟨⟨a,g,b,c,n,f⟩,D,J⟩).toArray 127)] 6 ?_;refine wd [0,2,3] ?_;refine h_ 1 rfl i6 ?_;refine e_ (C:=[]) (pz t 12 O) (fun h e _=>hg.le e) ?_;rintro v A ⟨⟨u,rfl,hu⟩,rfl⟩;refine V2 ?_;refine h_ 4 rfl i6 ?_;refine e_ (C:=[]) (py u c qb qb) (fun h e _=>hg.le e) ?_;rintro v A ⟨⟨q,rfl⟩,rfl⟩;refine D7 [5] ?_;refine B4 ?_;exact d_ rfl rfl [] ⟨⟨_,rfl⟩,rfl⟩ (fun w d=>d.dropAll)
 refine D1 ?_;refine f_ ((q_ rfl rfl).eq (v':=.bool s) (qn ((kz.2 (by show((a:Nat):Int)=13↔a=13;omega)).trans y.symm))) ?_;refine u6 ?_
 cases s
 case true=>
  refine E8 ?_;refine e_ (C:=[]) (En t b O qb) (fun h e _=>hg.le e) ?_;rintro v A ⟨⟨u,ok,rfl,hu⟩,rfl⟩;refine al ?_
  cases ok
  all_goals (
   refine al ?_;(first|refine u_ ?_|(refine v_ ?_;refine e_ (C:=[]) (py u c qb qb) (fun h e _=>hg.le e) ?_;rintro v A ⟨⟨q,rfl⟩,rfl⟩));refine A5 ?_)
  all_goals (refine B4 ?_;exact d_ rfl rfl [] ⟨⟨_,rfl⟩,rfl⟩ (fun w d=>d.dropAll))
 refine D0 ?_;exact d_ rfl rfl [] ⟨⟨_,rfl⟩,rfl⟩ (fun w d=>d.dropAll)
def bS(k:KY):Int:=if k.kind=1/\1<=k.kids then k.kids else if k.kind=2 then 1 else if k.kind=3 then 2 else if 4<=k.kind/\k.kind<=13 then 0 else-1
def ai(f:Nat->Option Nat):Nat->Nat->Option Nat
 |0,p=>some p
 |n+1,p=>(f p).bind (ai f n)
def X9(l:List KY):Nat->Nat->Option Nat
 |0,_=>none
 |f+1,p=>match l[p]? with
  |none=>none
  |some k=>if bS k<0 then none else ai (X9 l f) (bS k).toNat (p+1)
def MZ(m:KM):Pu prog 402 [TF m] (fun _=>True) (.int .i64 (bS m.k)):=by
 obtain⟨⟨a,b,c,d,n,e⟩,x,y⟩:=m;obtain⟨z,o⟩:=o9 (decide (a=1));obtain⟨A,p⟩:=o9 (decide (a=2));obtain⟨C,q⟩:=o9 (decide (a=3));obtain⟨D,r⟩:=o9 (decide (4<=a));obtain⟨J,s⟩:=o9 (decide (a<=13));obtain⟨M,t⟩:=o9 (decide (1<=b));obtain⟨v,g⟩:=o9 (bS ⟨a,b,c,d,n,e⟩);show Pu prog 402 _ _ (.int .i64 (bS ⟨a,b,c,d,n,e⟩));rw[<-g];unfold bS at g;simp only at g;refine b_ 31 func402 rfl rfl rfl ?_;intro F _;refine D1 ?_;refine m8 rfl rfl ?_;intro k;refine I6 1 ?_;refine o0 ?_;refine I6 0 ?_;refine x8 [(1,i8 k),(3,.bool (z&&M))] [.blk k (.cells (aX ⟨⟨a,b,c,d,n,e⟩,x,y⟩).toArray 127)] ?_ ?_
 ·cases z
  all_goals (
   refine A5 ?_;refine f_ ((q_ rfl rfl).eq (qn ((kz.2 (by show((a:Nat):Int)=1↔a=1;omega)).trans o.symm))) ?_;refine E8 ?_;(first|refine u_ ?_|(refine v_ ?_;refine f_ ((K_ rfl rfl).eq (qn ((kz.2 (by show 1<=((b:Nat):Int)↔1<=b;omega)).trans t.symm))) ?_));refine A5 ?_)
  all_goals exact p_ sub i_
 refine O_ ?_ ?_<;>intro h
 ·have i:a=1/\1<=b:=by rw[o,t] at h;simpa using h
  refine cn ?_;exact d_ rfl rfl [] ⟨by rw[g];rw[zr i],rfl⟩ (fun w f=>f.drop)
 have i:¬(a=1/\1<=b):=by rw[o,t] at h;simpa using h
 refine A5 ?_;refine f_ ((q_ rfl rfl).eq (v':=.bool A) (qn ((kz.2 (by show((a:Nat):Int)=2↔a=2;omega)).trans p.symm))) ?_;refine u6 ?_
 cases A
 case true=>
  have j:a=2:=zy p.symm;refine D0 ?_;exact d_ rfl rfl [] ⟨by rw[g];rw[zb i,zr j],rfl⟩ (fun w f=>f.drop)
 have j:¬a=2:=zu p.symm;refine A5 ?_;refine f_ ((q_ rfl rfl).eq (v':=.bool C) (qn ((kz.2 (by show((a:Nat):Int)=3↔a=3;omega)).trans q.symm))) ?_;refine u6 ?_
 cases C
 case true=>
  have l:a=3:=zy q.symm;refine D0 ?_;exact d_ rfl rfl [] ⟨by rw[g];rw[zb i,zb j,zr l],rfl⟩ (fun w f=>f.drop)
 have l:¬a=3:=zu q.symm;refine x6 ?_;refine x8 [(1,i8 k),(22,.bool (D&&J))] [.blk k (.cells (aX ⟨⟨a,b,c,d,n,e⟩,x,y⟩).toArray 127)] ?_ ?_
 ·cases D
  all_goals (
   refine A5 ?_;refine f_ ((K_ rfl rfl).eq (qn ((kz.2 (by show 4<=((a:Nat):Int)↔4<=a;omega)).trans r.symm))) ?_;refine E8 ?_;(first|refine u_ ?_|(refine v_ ?_;refine f_ ((H4 rfl rfl).eq (qn ((kz.2 (by show((a:Nat):Int)<=13↔a<=13;omega)).trans s.symm))) ?_));refine A5 ?_)
  all_goals exact p_ sub i_
 refine O_ ?_ ?_<;>intro h
 ·have u:4<=a/\a<=13:=by rw[r,s] at h;simpa using h
  refine D0 ?_;exact d_ rfl rfl [] ⟨by rw[g];rw[zb i,zb j,zb l,zr u],rfl⟩ (fun w f=>f.drop)
 have u:¬(4<=a/\a<=13):=by rw[r,s] at h;simpa using h
 refine D0 ?_;exact d_ rfl rfl [] ⟨by rw[g];rw[zb i,zb j,zb l,zb u],rfl⟩ (fun w f=>f.drop)
def Im{k:KY}(h:Fr k):bS k<=2000000000:=by
 have:=h.2.2.2;unfold bS;split
 ·omega
 split
 ·omega
 split
 ·omega
 split<;>omega
abbrev TG(gl go ga:Nat)(a:qr)(c:Nat)(kl:List KM)(h:l_):Prop:=h gl=some (.cells #[.slice a kl.length c] 33 (0,0))/\h go=some (.cells #[.func (.func 401) #[] #[i8 ga,i8 gl,i8 go]] 350 (0,0))/\n9 h a (qV kl)
abbrev Na(g p:Nat):As:=.blk g (.cells #[.int .i64 (p:Nat)] 3)
def WhQ(ga:Nat)(kl:List KM)(f p:Nat)(v:Value)(A:List As):Prop:=∃(b:Bool) (q:Nat),v=.bool b/\A=[Na ga q]/\q<=max p kl.length/\(b=true->X9 (kl.map KM.k) f p=some q)
def sL(z D ga:Nat)(a:qr)(c:Nat)(l:List KM)(hl:l.length<=1000000)(J:∀m∈l,Fr m.k):∀(f d p:Nat),d+f=10->1<=f->p<=2000000->Ct prog 401 [.int .i64 (d:Nat),i8 ga,i8 z,i8 D] (TG z D ga a c l) [Na ga p] (WhQ ga l f p)
 |0,_,_,_,h,_=>by omega
 |f+1,d,p,hdf,_,hp=>by
  have ih:=sL z D ga a c l hl J f;refine b_ 35 func401 rfl rfl rfl ?_;rintro F ⟨s,M,t⟩;refine A5 ?_;refine r_ (l5 rfl (fun w u=>I8 u s rfl)) ?_;refine bQ ?_ ?_<;>intro h
  ·refine D0 ?_;exact d_ rfl rfl _ ⟨false,p,rfl,rfl,by omega,fun e=>by cases e⟩ i_
  have o:p<l.length:=by have:=zu h;omega
  have Q:∃S,a=some S:=by obtain⟨S,e,_⟩:=t (by intro e;have:=jh List.length e;rw[tV] at this;simp at this;omega);exact⟨S,e⟩
  obtain⟨n,T⟩:=o9 (bS l[p].k);have y:X9 (l.map KM.k) (f+1) p=if n<0 then none else ai (X9 (l.map KM.k) f) n.toNat (p+1):=by
   show(match (l.map KM.k)[p]? with|none=>none|some k=>if bS k<0 then none else ai (X9 (l.map KM.k) f) (bS k).toNat (p+1))=_;rw[Q3,zd o];simp only[Qh,T]
  refine D1 ?_;refine r_ (l5 rfl (fun w u=>I8 u s rfl)) ?_;refine u6 ?_;refine f_ (n5 rfl Q rfl qb) ?_;refine r_ (p9 rfl (fun w u=>bK (C:=aX) (t.le u.keep) S7 qp o x7) (S7 _)) ?_;refine c_ rfl (MZ l[p]) qw rfl ?_;rw[<-T];refine A5 ?_;refine f_ ((r8 rfl rfl qb).eq (v':=.int .i64 ((p+1:Nat):Int)) (by congr 1)) ?_;refine u6 ?_;obtain⟨b1,U⟩:=o9 (decide (0<n));obtain⟨b2,V⟩:=o9 (decide (8<d));refine x8 [(0,r7 d),(1,i8 ga),(2,i8 z),(3,i8 D),(6,.int .i64 n),(23,.bool (b1&&b2))] [Na ga (p+1)] ?_ ?_
  ·cases b1
   all_goals (
    refine u6 ?_;refine f_ ((E9 rfl rfl).eb U) ?_;refine A5 ?_;(first|refine u_ ?_|(refine v_ ?_;refine f_ ((E9 rfl rfl).eq (qn ((qz).trans V.symm))) ?_));refine u6 ?_)
   all_goals exact p_ sub i_
  refine O_ ?_ ?_<;>intro h
  ·refine D0 ?_;exact d_ rfl rfl _ ⟨false,p+1,rfl,rfl,by omega,fun e=>by cases e⟩ i_
  have X:0<n->d<=8:=fun h0=>by
   rw[U,V] at h;simp at h;exact h h0
  have h4:n<=2000000000:=by rw[T];exact Im (J _ (zm o))
  clear h U V;refine I6 0 ?_;refine n8 (ι:=Int×Nat) (fun i=>i.1<=0/\i.2<=l.length/\(n<0->i.1=n)/\(0<=n->0<=i.1/\ai (X9 (l.map KM.k) f) n.toNat (p+1)=ai (X9 (l.map KM.k) f) i.1.toNat i.2)) (fun i=>[(6,.int .i64 i.1)]) (fun i=>[Na ga i.2]) ?_ ?_
  ·refine o0 ?_;refine o8 (ι:=Int×Nat) (fun i=>i.1<=n/\i.2<=l.length/\(n<0->i.1=n)/\(0<=n->0<=i.1/\ai (X9 (l.map KM.k) f) n.toNat (p+1)=ai (X9 (l.map KM.k) f) i.1.toNat i.2)) (fun i=>[(0,r7 d),(1,i8 ga),(2,i8 z),(3,i8 D),(6,.int .i64 i.1)]) (fun i=>[Na ga i.2]) (fun i=>i.1.toNat) (n,p+1) ⟨Kd _,o,fun _=>rfl,fun h=>⟨h,rfl⟩⟩ sub i_ ?_;rintro⟨x,q⟩ ⟨Y,O,g,j⟩;simp only at Y O g j;refine bQ ?_ ?_<;>intro h
   ·have r:0<x:=zy h;have hd:=X qb;refine D1 ?_;refine r_ (l5 rfl (fun w u=>I8 u M rfl)) ?_;refine u6 ?_;refine f_ ((r8 rfl rfl qb).eq (v':=.int .i64 ((d+1:Nat):Int)) (by congr 1)) ?_;refine A4 (ps:=[]) _ rfl rfl rfl (ih (d+1) q qb qb qb) i_ (fun h Z _=>⟨Z _ _ s,Z _ _ M,t.le Z⟩) rfl ?_;rintro v A ⟨b,q',rfl,rfl,h5,ht⟩;refine u6 ?_
    cases b
    ·refine D0 ?_;exact d_ rfl rfl _ ⟨false,q',rfl,rfl,by omega,fun e=>by cases e⟩ i_
    ·refine E8 ?_;refine l8 (i:=(x,q)) (x-1,q') ⟨by simp only;omega,by simp only;omega,fun h=>by simp only;have:=g h;omega,fun h=>⟨by simp only;omega,?_⟩⟩ qg sub i_;obtain⟨hx,he⟩:=j h;rw[he];have e1:x.toNat=(x-1).toNat+1:=(by omega);rw[e1];show(X9 (l.map KM.k) f q).bind _=_;rw[ht rfl];rfl
   ·have r:x<=0:=(by have:=zu h;omega);refine x6 ?_;exact g_ (x,q) ⟨r,O,g,j⟩ i_
  rintro⟨x,q⟩ ⟨r,O,g,j⟩;simp only at r O g j;refine cn ?_;refine d_ rfl rfl _ ⟨decide (x=0),q,rfl,rfl,by omega,fun e=>?_⟩ i_;have hx:x=0:=zy e;have h3:0<=n:=by
   rcases Int.lt_or_le n 0 with h|h
   ·have:=g h;omega
   ·exact h
  obtain⟨_,he⟩:=j h3;rw[y,zb qb,he,hx];rfl
def Io(a:qr)(c:Nat)(d:List KM)(hl:d.length<=1000000)(k:∀m∈d,Fr m.k):Ct prog 357 [.slice a d.length c] (fun h=>n9 h a (qV d)) [] (fun v A=>(∃b:Bool,v=.bool b/\(b=true->X9 (d.map KM.k) 9 0=some d.length))/\A=[]):=by
 refine b_ 17 func357 rfl rfl rfl ?_;intro F l;refine D1 ?_;refine M1 rfl rfl rfl ?_;intro i;refine AO ?_ ?_<;>intro h
 ·refine D0 ?_;exact d_ rfl rfl _ ⟨⟨false,rfl,fun e=>by cases e⟩,rfl⟩ (fun w f=>f.dropAll)
 refine x6 ?_;refine u6 ?_;intro n;refine u6 ?_;refine u6 ?_;intro j;refine A5 ?_;refine C6 (Z:=[.blk i (.cells #[.slice a d.length c] 33),.blk j (.cells #[.func (.func 401) #[] #[i8 n,i8 i,i8 j]] 350)]) tk fun r g o=>?_;have s:r.heap i=some (.cells #[.slice a d.length c] 33 (0,0)):=L6 o;have t:r.heap j=some (.cells #[.func (.func 401) #[] #[i8 n,i8 i,i8 j]] 350 (0,0)):=L6 o;clear o;refine D1 ?_;refine r_ (l5 rfl (fun w f=>I8 f t rfl)) ?_;refine A4 (ps:=[]) _ rfl rfl rfl (sL i j n a c d hl k 9 1 0 rfl qp qp) i_ (fun h p _=>⟨p _ _ s,p _ _ t,(l.le g.heap).le p⟩) rfl ?_;rintro v A ⟨b,q,rfl,rfl,y,u⟩
 cases b
 ·refine Lq ?_;exact E0 g (d_ rfl rfl [] ⟨⟨false,rfl,fun e=>by cases e⟩,rfl⟩ (fun w f=>f.dropAll))
 ·refine A5 ?_;refine A7 rfl rfl rfl ?_;refine r_ (l5 rfl (fun w f=>I8 f s rfl)) ?_;refine KH ?_;refine E0 g (d_ rfl rfl [] ⟨⟨_,rfl,fun e=>?_⟩,rfl⟩ (fun w f=>f.dropAll));have x:=u rfl;have z:(q:Int)=(d.length:Nat):=zy e;rw[x];congr 1;omega
abbrev OK(gl gs gx gp gm gi:Nat)(a:qr)(c:Nat)(kl:List KM)(x:LM)(p:PL)(t:Bs)(h:l_):Prop:=h gl=some (.cells #[.slice a kl.length c] 33 (0,0))/\h gs=some (.cells #[.func (.func 358) #[] #[i8 gl,i8 gi,i8 gs,i8 gx,i8 gp,i8 gm]] 23 (0,0))
 /\h gx=some (.cells (R7 x).toArray 156 (0,0))/\h gp=some (.cells (Il p).toArray 333 (0,0))/\h gm=some (.cells #[B t] 9 (0,0))/\n9 h a (qV kl)/\(∀m∈kl,n9 h m.a (S_ m.k.set))/\n9 h x.a (fV x.t.a6J)/\Gl h
abbrev MaQ(gi q:Nat)(v:Value)(A:List As):Prop:=∃b:Bool,v=.bool b/\A=[Na gi q]
def sM{f:Nat->Option Nat}{p q:Nat}(h:ai f 1 p=some q):f p=some q:=by
 have a:(f p).bind (ai f 0)=some q:=h
 cases e:f p with
 |none=>rw[e] at a;cases a
 |some r=>rw[e] at a;exact a
def iW{f:Nat->Option Nat}{n p q:Nat}(h:ai f (n+1) p=some q):∃r,f p=some r/\ai f n r=some q:=by
 have a:(f p).bind (ai f n)=some q:=h
 cases e:f p with
 |none=>rw[e] at a;cases a
 |some r=>rw[e] at a;exact⟨r,rfl,a⟩
def xj{l:List KY}:∀{f p q:Nat},X9 l f p=some q->p<q/\q<=l.length
 |0,p,q,h=>by cases h
 |f+1,p,q,h=>by
  unfold X9 at h
  cases e:l[p]? with
  |none=>rw[e] at h;cases h
  |some k=>
   rw[e] at h;simp only at h;have hp:p<l.length:=(Qs.1 e).1;split at h
   ·cases h
   ·have a:∀(n p q:Nat),p<=l.length->ai (X9 l f) n p=some q->p<=q/\q<=l.length:=fun n=>by
     induction n with
     |zero=>intro p q hp h;injection h with h;omega
     |succ n ih=>
      intro p q hp h;obtain⟨r,b,c⟩:=iW h;have:=xj b;have:=ih r q this.2 c;omega
    have:=a _ _ _ hp h;omega
def sN(gl gs gx gp gm gi:Nat)(a:qr)(c:Nat)(y:List KM)(x:LM)(p:PL)(t:Bs)(hl:y.length<=1000000)(h5:∀m∈y,Fr m.k)(hf:x.t.a6J.length<=1000000)(ht:t.length<=1000000000):
  ∀(f i q:Nat),X9 (y.map KM.k) f i=some q->Ct prog 358 [i8 gl,i8 gi,i8 gs,i8 gx,i8 gp,i8 gm] (OK gl gs gx gp gm gi a c y x p t) [Na gi i] (MaQ gi q)
 |0,_,_,h=>by cases h
 |f+1,i,q,htr=>by
  have ih:=sN gl gs gx gp gm gi a c y x p t hl h5 hf ht f;have k9:=xj htr;rw[kg] at k9;have h6:i<y.length:=by omega
  obtain⟨m,M⟩:=o9 (y[i]);have h7:m∈y:=M▸zm h6;have n:¬bS m.k<0/\ai (X9 (y.map KM.k) f) (bS m.k).toNat (i+1)=some q:=by
   have Z:(match (y.map KM.k)[i]? with|none=>none|some k=>if bS k<0 then none else ai (X9 (y.map KM.k) f) (bS k).toNat (i+1))=some q:=htr;rw[Q3,zd h6,<-M] at Z;simp only[Qh] at Z;split at Z
   ·cases Z
   ·exact⟨by assumption,Z⟩
  clear htr;have q2:=(h5 m h7).2.2.2;obtain⟨d,h8⟩:=o9 (m.k.kind);obtain⟨l,O⟩:=o9 (m.k.kids);obtain⟨b1,Z⟩:=o9 (decide (d=1));obtain⟨b2,h2⟩:=o9 (decide (d=2));obtain⟨b3,h3⟩:=o9 (decide (d=3));refine b_ 50 func358 rfl rfl rfl ?_;rintro F ⟨Q,u,S,T,U,z,V,X,hg⟩;have q0:∃ad,a=some ad:=by obtain⟨ad,e,_⟩:=z (by intro e;have:=jh List.length e;rw[tV] at this;simp at this;omega);exact⟨ad,e⟩
  refine yu ?_;refine r_ (l5 rfl (fun w o=>I8 o Q rfl)) ?_;refine u6 ?_;refine f_ (n5 rfl q0 rfl qb) ?_;refine r_ ((p9 rfl (fun w o=>bK (C:=aX) (z.le o.keep) S7 qp h6 x7) (S7 _)).eq (v':=TF m) (by rw[M])) ?_;refine i7 rfl ?_;intro g7;refine A5 ?_;refine f_ ((r8 rfl rfl qb).eq (v':=.int .i64 ((i+1:Nat):Int)) (by congr 1)) ?_;refine E8 ?_;have D:bS m.k=if d=1/\1<=l then((l:Nat):Int) else if d=2 then 1 else if d=3 then 2 else if 4<=d/\d<=13 then 0 else-1:=by rw[h8,O];rfl
  refine D1 ?_;refine f_ ((q_ rfl rfl).eq (v':=.bool b1) (qn ((kz.2 (by show((m.k.kind:Nat):Int)=1↔d=1;omega)).trans Z.symm))) ?_;refine u6 ?_
  cases b1
  case true=>
   have e1:d=1:=zy Z.symm;have q1:1<=l:=by
    refine Nat.lt_of_not_le fun hc=>n.1 ?_;rw[D,zb qb,zb qb,zb qb,zb qb];decide
   have Y:ai (X9 (y.map KM.k) f) l (i+1)=some q:=by
    have:=n.2;rw[D,zr ⟨e1,q1⟩] at this;simpa using this
   refine A5 ?_;refine r_ (G0 rfl ud (v:=.int .i64 (l:Nat)) (by rw[O];rfl)) ?_;refine I6 1 ?_;refine n8 (ι:=Bool) (fun _=>True) (fun b=>[(8,.bool b)]) (fun _=>[Na gi q]) ?_ ?_
   ·refine o0 ?_;refine o8 (ι:=Nat×Nat×Bool) (fun j=>j.1<=l/\ai (X9 (y.map KM.k) f) (l-j.1) j.2.1=some q) (fun j=>[(0,i8 gl),(1,i8 gi),(2,i8 gs),(3,i8 gx),(4,i8 gp),(5,i8 gm),(21,r7 l),(22,r7 j.1),(8,.bool j.2.2)]) (fun j=>[Na gi j.2.1]) (fun j=>l-j.1) (0,i+1,true) ⟨zp _,Y⟩ sub (fun w o=>y9.left tk o) ?_;rintro⟨j,p',J⟩ ⟨hj,s⟩;simp only at hj s;refine T2 ?_ ?_<;>intro h
    ·have h0:j<l:=(by have:=zy h;omega);have e2:l-j=(l-(j+1))+1:=(by omega);rw[e2] at s;obtain⟨r,k0,h4⟩:=iW s;refine D1 ?_;refine r_ (l5 rfl (fun w o=>I8 o u rfl)) ?_;refine A4 (ps:=[]) _ rfl rfl rfl (ih p' _ k0) i_ (fun h g _=>⟨g _ _ Q,g _ _ u,g _ _ S,g _ _ T,g _ _ U,z.le g,fun m M=>(V m M).le g,X.le g,hg.le g⟩) rfl ?_;rintro v A ⟨b,rfl,rfl⟩
     cases b
     ·refine Y1 ?_;exact l8 (i:=(j,p',J)) (j+1,r,false) ⟨h0,h4⟩ qg sub i_
     ·refine Y1 ?_;exact l8 (i:=(j,p',J)) (j+1,r,J) ⟨h0,h4⟩ qg sub i_
    ·have h0:j=l:=(by have:=zu h;omega);rw[h0,Jc] at s;injection s with s;subst s;refine x6 ?_;exact g_ J trivial i_
   rintro J-;refine M4 ?_;exact d_ rfl rfl _ ⟨J,rfl,rfl⟩ i_
  have e1:¬d=1:=zu Z.symm;refine D1 ?_;refine f_ ((q_ rfl rfl).eq (v':=.bool b2) (qn ((kz.2 (by show((m.k.kind:Nat):Int)=2↔d=2;omega)).trans h2.symm))) ?_;refine u6 ?_
  cases b2
  case true=>
   have e2:d=2:=zy h2.symm;have Y:ai (X9 (y.map KM.k) f) 1 (i+1)=some q:=by
    have:=n.2;rw[D,zb qb,zr e2] at this;exact this
   refine D1 ?_;refine r_ (l5 rfl (fun w o=>I8 o u rfl)) ?_;refine A4 (ps:=[]) _ rfl rfl rfl (ih (i+1) _ (sM Y)) (fun w o=>o.perm (.swap _ _ _)) (fun h g _=>⟨g _ _ Q,g _ _ u,g _ _ S,g _ _ T,g _ _ U,z.le g,fun m M=>(V m M).le g,X.le g,hg.le g⟩) rfl ?_;rintro v A ⟨b,rfl,rfl⟩;refine M4 ?_;exact d_ rfl rfl _ ⟨_,rfl,rfl⟩ (fun w o=>y9.left tk o)
  have e2:¬d=2:=zu h2.symm;refine D1 ?_;refine f_ ((q_ rfl rfl).eq (v':=.bool b3) (qn ((kz.2 (by show((m.k.kind:Nat):Int)=3↔d=3;omega)).trans h3.symm))) ?_;refine u6 ?_
  cases b3
  case true=>
   have e3:d=3:=zy h3.symm;have Y:ai (X9 (y.map KM.k) f) 2 (i+1)=some q:=by
    have:=n.2;rw[D,zb qb,zb e2,zr e3] at this;exact this
   obtain⟨r,k0,h4⟩:=iW Y;refine D1 ?_;refine r_ (l5 rfl (fun w o=>I8 o u rfl)) ?_;refine A4 (ps:=[]) _ rfl rfl rfl (ih (i+1) _ k0) (fun w o=>o.perm (.swap _ _ _)) (fun h g _=>⟨g _ _ Q,g _ _ u,g _ _ S,g _ _ T,g _ _ U,z.le g,fun m M=>(V m M).le g,X.le g,hg.le g⟩) rfl ?_;rintro v A ⟨b9,rfl,rfl⟩;refine yu ?_;refine r_ (l5 rfl (fun w o=>I8 o u rfl)) ?_;refine A4 (ps:=[]) _ rfl rfl rfl (ih r _ (sM h4)) i_ (fun h g _=>⟨g _ _ Q,g _ _ u,g _ _ S,g _ _ T,g _ _ U,z.le g,fun m M=>(V m M).le g,X.le g,hg.le g⟩) rfl ?_;rintro v A ⟨b,rfl,rfl⟩
   cases b
   all_goals refine P1 ?_
   all_goals (refine B4 ?_;exact d_ rfl rfl _ ⟨_,rfl,rfl⟩ (fun w o=>y9.left tk o))
  have e3:¬d=3:=zu h3.symm;have hq:q=i+1:=by
   have h9:=n.2;rw[D,zb qb,zb e2,zb e3] at h9;split at h9
   ·injection h9 with h9;exact h9.symm
   ·have k8:=n.1;rw[D,zb qb,zb e2,zb e3,zb (by assumption)] at k8;exact absurd qp k8
  subst hq;refine u6 ?_;refine r_ (dB rfl S ga) ?_;refine r_ (dB rfl T ga) ?_;refine r_ (l5 rfl (fun w o=>I8 o U rfl)) ?_;refine e_ (C:=[]) (zF m x p t (h5 m h7) hf ht) (fun h g _=>⟨hg.le g,(V m h7).le g,X.le g⟩) ?_;rintro v A ⟨⟨b,rfl⟩,rfl⟩;refine D0 ?_;exact d_ rfl rfl _ ⟨b,rfl,rfl⟩ (fun w o=>y9.left tk o)
def Ip(a:qr)(c:Nat)(f:List KM)(x:LM)(p:PL)(t:Bs)(hl:f.length<=1000000)(k:∀m∈f,Fr m.k)(hf:x.t.a6J.length<=1000000)(O:t.length<=1000000000):
  Ct prog 304 [.slice a f.length c,OJ x,plA p,B t] (fun h=>Gl h/\n9 h a (qV f)/\(∀m∈f,n9 h m.a (S_ m.k.set))/\n9 h x.a (fV x.t.a6J)) [] UJ:=by
 refine b_ 17 func304 rfl rfl rfl ?_;rintro F ⟨hg,l,u,y⟩;refine D1 ?_;refine M1 rfl rfl rfl ?_;intro o;refine m8 rfl rfl ?_;intro q;refine m8 rfl rfl ?_;intro r;refine M1 rfl rfl rfl ?_;intro s;refine yu ?_;refine u6 ?_;refine e_ (C:=[]) (Io a c f hl k) (fun h d _=>l.le d) ?_;rintro v A ⟨⟨b,rfl,z⟩,rfl⟩;refine u6 ?_
 cases b
 ·refine D0 ?_;exact d_ rfl rfl [] ⟨⟨_,rfl⟩,rfl⟩ (fun w n=>n.dropAll)
 have D:=z rfl;refine x6 ?_;refine u6 ?_;intro J;refine u6 ?_;refine u6 ?_;intro g;refine A5 ?_;refine C6 (Z:=[.blk o (.cells #[.slice a f.length c] 33),.blk g (.cells #[.func (.func 358) #[] #[i8 o,i8 J,i8 g,i8 q,i8 r,i8 s]] 23),.blk q (.cells (R7 x).toArray 156),.blk r (.cells (Il p).toArray 333),.blk s (.cells #[B t] 9)]) tk fun Q e j=>?_;have i:OK o g q r s J a c f x p t Q.heap:=⟨L6 j,L6 j,L6 j,L6 j,L6 j,l.le e.heap,fun m M=>(u m M).le e.heap,y.le e.heap,hg.le e.heap⟩;clear j;refine D1 ?_;refine r_ (l5 rfl (fun w n=>I8 n i.2.1 rfl)) ?_;refine A4 (ps:=[]) _ rfl rfl rfl (sN o g q r s J a c f x p t hl k hf O 9 0 _ D) i_ (fun h d _=>by obtain⟨S,T,U,V,X,Y,h7,h8,h9⟩:=i;exact⟨d _ _ S,d _ _ T,d _ _ U,d _ _ V,d _ _ X,Y.le d,fun m M=>(h7 m M).le d,h8.le d,h9.le d⟩) rfl ?_;rintro v A ⟨b,rfl,rfl⟩;refine D0 ?_;exact E0 e (d_ rfl rfl [] ⟨⟨b,rfl⟩,rfl⟩ (fun w n=>n.dropAll))
def Er(m:KM):Pu prog 230 [TF m] (fun _=>True) (.bool (decide (11<=m.k.kind)&&decide (m.k.kind<=13))):=by
 obtain⟨⟨a,c,b,d,n,g⟩,j,k⟩:=m;obtain⟨h,e⟩:=o9 (decide (11<=a));obtain⟨l,f⟩:=o9 (decide (a<=13));show Pu prog 230 _ _ (.bool (decide (11<=a)&&decide (a<=13)));rw[<-e,<-f];refine b_ 11 func230 rfl rfl rfl ?_;intro F _;refine D1 ?_;refine m8 rfl rfl ?_;intro o;refine u6 ?_
 cases h
 all_goals (
  refine A5 ?_;refine f_ ((K_ rfl rfl).eq (qn ((kz.2 (by show 11<=((a:Nat):Int)↔11<=a;omega)).trans e.symm))) ?_;refine E8 ?_;(first|refine u_ ?_|(refine v_ ?_;refine f_ ((H4 rfl rfl).eq (qn ((kz.2 (by show((a:Nat):Int)<=13↔a<=13;omega)).trans f.symm))) ?_));refine A5 ?_)
 all_goals (refine B4 ?_;exact d_ rfl rfl [] qh (fun w i=>i.dropAll))
abbrev OM(k:KY):Bool:=decide (11<=k.kind)&&decide (k.kind<=13)
def Es(a:qr)(c:Nat)(b:List KM)(hl:b.length<=1000000):Pu prog 159 [.slice a b.length c] (fun h=>n9 h a (qV b)) (.bool (b.any fun m=>OM m.k)):=by
 refine b_ 5 func159 rfl rfl rfl ?_;intro F d;refine A5 ?_;refine c_ rfl (cE aX S7 b a c 230 [] (fun _=>True) (fun m=>OM m.k) (fun m _=>Er m) qb) (fun h e _=>⟨d.le e,trivial⟩) rfl ?_;refine D0 ?_;exact d_ rfl rfl [] qh i_
def Iq(b:Nat)(y:DL)(Q:SE->DD->Prop)(h:l_)(v:Value)(A:List As):Prop:=v=.tuple #[]/\∃s' d' x' y',Q s' d'/\A=l6 x'.ra s'.a6y.a6x x'.rc::P3 b s' x' d' y'/\rz y y'/\iO s' x' d' y' h
abbrev Et(f:FuncId)(b:Nat)(s:SE)(x:SL)(d:DD)(y:DL)(c:CM)(k:CL)(Q:SE->DD->Prop):Prop:=Cm prog f [i8 b,vo c k] (fun h=>iO s x d y h/\eu c k h) (l6 x.ra s.a6y.a6x x.rc::P3 b s x d y) (Iq b y Q)
def bO.w{f:FuncId}{b:Nat}{s:SE}{x:SL}{d:DD}{y:DL}{c:CM}{k:CL}{q:SD}(h:bO f b s x d y c k q){Q:SE->DD->Prop}(hq:Q q.1 q.2)(g:q.1.a6y.a6x=s.a6y.a6x):Et f b s x d y c k Q:=by
 intro F R w n ⟨hpt,hpc⟩;refine(Cm.of_ct h (Pre':=fun _=>True) (fun _ _ _ _=>trivial) F (l6 x.ra s.a6y.a6x x.rc::R) w (n.perm (by simpa using(Qm (a:=l6 x.ra s.a6y.a6x x.rc) (l₁:=P3 b s x d y) (l₂:=R)).symm)) trivial).mono ?_;rintro e z ⟨v,A,o,rfl,i,⟨rfl,l,m,rfl,⟨p,r⟩,t,u⟩,j⟩;refine⟨_,_,o,rfl,i,⟨rfl,q.1,q.2,l,m,hq,rfl,t,u _ (Mn.le i.heap hpt) (Mn.le i.heap hpc)⟩,?_⟩;rw[p,r,g];exact j.perm (by simpa using(Qm (a:=l6 x.ra s.a6y.a6x x.rc) (l₁:=P3 b q.1 l q.2 m) (l₂:=R)))
abbrev iw(tag:Bs):RR:=fA tag [110,111,32,115,117,99,104,32,109,101,115,115,97,103,101]
def mtY(y:DL)(tag:Bs)(e:Option (zz))(y':DL):Prop:=if e.isSome then y'=y else∃a c,y'=G1 y (iw tag,L0) a c
def lL(b:Nat)(s:SE)(x:SL)(d:DD)(y:DL)(c:CM)(k:CL)(e:Option (zz))(p:Y4 s.a6y c.set c.uid=e)(hv:s.a6y.a6x.length<=100000)(hs:c.set.length<=1000000)(hl:y.rl.length<=1000000):
  Ct prog 222 [i8 b,vo c k] (fun h=>n9 h x.ra (S_ s.a6y.a6x)/\n9 h k.sa (S_ c.set)) (P3 b s x d y) (fun v A=>∃ua uc m,v=.tuple #[.slice ua (e.getD []).length uc,.bool e.isSome]/\mtY y c.tag e m/\A=V4 ua (e.getD []) uc::P3 b s x d m):=by
 have f:=DV s.a6y x.ra x.rc c.set k.sa k.sc c.uid qb hs;rw[p] at f;refine b_ 29 func222 rfl rfl rfl ?_;rintro F ⟨g,i⟩;refine D1 ?_;refine m8 rfl rfl ?_;intro q;refine A5 ?_;refine D8 [4,6,8] [9] [F9 b s x d y,.blk q (.cells (lg c k).toArray 36)] 15 ?_;refine wd [0,1,2,3,4,5,6,7,8] ?_;refine h_ 9 rfl i6 ?_;refine e_ (C:=[]) f (fun h n _=>⟨g.le n,i.le n⟩) ?_;rintro v A ⟨ua,uc,rfl,rfl⟩;refine D7 [10,11,12,13,14] ?_
 cases e with
 |some l=>
  refine Oq ?_;exact w8 rfl rfl rfl _ ⟨ua,uc,y,rfl,rfl,rfl⟩ (fun w j=>y9.left tk j)
 |none=>
  refine al ?_;refine e_ (lz b s x d y c.tag [110,111,32,115,117,99,104,32,109,101,115,115,97,103,101] qb) qw ?_;rintro v A ⟨rfl,a,o,rfl⟩;refine KH ?_;exact w8 rfl rfl rfl _ ⟨ua,uc,G1 y (iw c.tag,L0) a o,rfl,⟨a,o,rfl⟩,rfl⟩ (fun w j=>y9.left tk j)
def QC(r r':RQ):Prop:=r'=bE\/∃l:List (Nat×Nat),l.length<=64/\(∀q∈l,HV q)/\r'={r with a6A:=l}
def iX(b:Nat)(s:SE)(x:SL)(d:DD)(y:DL)(c:CM)(k:CL)(r:RQ)(z:QL)(a:zz)(ua:qr)(uc:Nat)(hv:s.a6y.a6x.length<=100000)(hu:a.length<=1000000)(q:gg a)(X:s.num<18446744073709551615):
  Cm prog 224 [i8 b,vo c k,RH r z,.slice ua a.length uc] (fun h=>dM r z h/\n9 h ua (nV a)) (l6 x.ra s.a6y.a6x x.rc::P3 b s x d y) (fun h v A=>v=.tuple #[]/\∃e g,QC r e/\dM e g h/\A=l6 x.ra s.a6y.a6x x.rc::P3 b (H3 (s,d) c e a).1 {x with cl:=k,ua:=ua,uc:=uc} (H3 (s,d) c e a).2 {y with ql:=g}):=by
 refine A0 32 func224 rfl rfl rfl ?_;rintro F R ⟨t,u⟩;refine D1 ?_;refine m8 rfl rfl ?_;intro m;refine m8 rfl rfl ?_;intro n;refine Y1 ?_;refine e_ (C:=[]) (BO s.a6y x.ra x.rc a ua uc true qb hu q) ?pre ?_;(case pre=>exact fun h Y ⟨bs,o⟩=>⟨A_.rd o ud,u.le Y⟩);rintro v A ⟨p,l,D,rfl,rfl,h0,M⟩;refine A5 ?_;obtain⟨S,T⟩:=o9 (decide (l.length<1));obtain⟨q2,U⟩:=o9 (decide (64<l.length));refine C6 (Z:=[X1 p l D]) tk fun V j ⟨bs,o⟩=>?_;have O:n9 V.heap p (S_ l):=A_.rd o ud;clear o;refine x8 [(0,i8 b),(3,.slice ua a.length uc),(5,i8 m),(6,i8 n),(25,.bool (S||q2))] (.blk n (.cells (eN {r with a6A:=l} {z with ua:=p,uc:=D}).toArray 44)::.blk m (.cells (lg c k).toArray 36)::F9 b s x d y::x4 y.da y.rl y.dc::l6 x.ra s.a6y.a6x x.rc::R) ?_ ?_
 ·cases S
  all_goals (
   refine E8 ?_;refine f_ ((F8 rfl rfl).eq (qn ((qz).trans T.symm))) ?_;refine P1 ?_;(first|refine u_ ?_|(refine v_ ?_;refine f_ ((E9 rfl rfl).eq (qn ((qz).trans U.symm))) ?_));refine u6 ?_)
  all_goals exact p_ sub (fun w f=>(tk (C:=[_,_,_,_,_])).hp f)
 refine x6 ?_;refine n8 (ι:=RQ×QL) (fun i=>QC r i.1/\dM i.1 i.2 V.heap) (fun _=>[(0,i8 b),(3,.slice ua a.length uc),(5,i8 m),(6,i8 n)]) (fun i=>.blk n (.cells (eN i.1 i.2).toArray 44)::.blk m (.cells (lg c k).toArray 36)::F9 b s x d y::x4 y.da y.rl y.dc::l6 x.ra s.a6y.a6x x.rc::R) ?_ ?_
 ·refine p7 rfl ?_ ?_<;>intro h
  ·refine D1 ?_;refine f_ (A2 (ps:=[(0,.const (.int .i64 3))]) (vs:=[(0,.int .i64 3)]) (cells:=(eN bE du).toArray) rfl i6) ?_;refine u6 ?_;exact g_ (bE,du) ⟨.inl rfl,n9.nil _ _,n9.nil _ _⟩ (fun w f=>(tk (C:=[_,_,_,_,_])).hp f)
  ·refine x6 ?_;refine g_ ({r with a6A:=l},{z with ua:=p,uc:=D}) ⟨.inr ⟨l,?_,M,rfl⟩,O,t.a6J.le j.heap⟩ (fun w f=>(tk (C:=[_,_,_,_,_])).hp f);rw[T,U] at h;simp at h;omega
 rintro⟨e,g⟩ ⟨hc,Q⟩;refine P1 ?_;refine e_ (dP b s x d y c k e g a ua uc X) qw ?_;rintro v A ⟨rfl,rfl⟩;refine x6 ?_;refine I4 (A:=l6 x.ra s.a6y.a6x x.rc::P3 b (H3 (s,d) c e a).1 {x with cl:=k,ua:=ua,uc:=uc} (H3 (s,d) c e a).2 {y with ql:=g}) (v:=.tuple #[]) j ⟨rfl,e,g,hc,Q,rfl⟩ ?_;exact m6 rfl _ qh (fun w f=>D3 (A:=[_,_,_]) (J:=[_,_]) tk f)
def fk{v:VW}{l:List (Nat×Nat)}{a:Bool}{o:zz}(h:Y4 v l a=some o):(∀u∈o,∃r∈v.a6x,r.1=u)/\o.length<=v.a6x.length:=by
 unfold Y4 at h;simp only at h;split at h
 ·exact absurd h x7
 ·injection h with h;subst h;refine⟨fun u hu=>?_,?_⟩
  ·obtain⟨x,b,rfl⟩:=jr.1 hu;have c:=(Q0.1 b).1;exact⟨x.1,List.fst_mem_of_mem_zipIdx c,rfl⟩
  ·rw[kg];refine j9 (Q9 _ _) ?_;rw[List.length_zipIdx];exact kp _
abbrev xl:Bs:=[92,83,101,101,110]
structure rD(s:SE)(c:CM)(r:RQ):Prop where
 op:r.op=3\/r.op=7\/r.op=9
 box:r.box=[]\/r.box=s.a6y.box
 a6A:r.a6A.length<=64
 a6J:r.a6J=[]\/r.a6J=c.a6J\/r.a6J=[xl]
 dest:r.tz=[]\/r.tz=c.box
def rD.look(s:SE)(c:CM):rD s c bE:=⟨.inl rfl,.inl rfl,by simp,.inl rfl,.inl rfl⟩
def rD.chg{s:SE}{c:CM}{r a:RQ}(h:rD s c r)(hc:QC r a):rD s c a:=by
 rcases hc with rfl|⟨l,b,_,rfl⟩
 ·exact .look s c
 ·exact⟨h.op,h.box,b,h.a6J,h.dest⟩
def Eu(s:SE)(d:DD)(c:CM)(s':SE)(d':DD):Prop:=
 (∃r,(r=Fs c.tag\/r=iw c.tag)/\(s',d')=X0 (s,d) r)\/∃l r,Y4 s.a6y c.set c.uid=some l/\rD s c r/\(s',d')=H3 (s,d) c r l
def nN{b:Nat}{s:SE}{x:SL}{d:DD}{y:DL}{c:CM}{r:RR}{a:qr}{g:Nat}{h:l_}(i:r=Fs c.tag\/r=iw c.tag)(e:iO s x d y h):Iq b y (Eu s d c) h (.tuple #[]) (l6 x.ra s.a6y.a6x x.rc::P3 b s x d (G1 y (r,L0) a g)):=by
 have hz:∀h,fQ r L0 h:=by rcases i with rfl|rfl<;>exact cX rfl rfl rfl
 refine⟨rfl,s,{d with a6I:=d.a6I++[r]},x,G1 y (r,L0) a g,.inl ⟨r,i,rfl⟩,rfl,.one rfl,e.se,?_,fun m f=>?_,e.dd.req,e.dd.want⟩
 ·show d.a6I++[r]=(y.rl++[(r,L0)]).map Prod.fst;rw[e.dd.a6I];simp
 ·rcases kw.1 (show m∈y.rl++[(r,L0)] from f) with f|f
  ·exact e.dd.rep m f
  ·rw[z7.1 f];exact hz h
def Ir(s:SE)(d:DD)(c:CM)(r:RQ)(l:zz):(H3 (s,d) c r l).1.a6y=s.a6y:=by unfold H3;split<;>rfl
def nO{b:Nat}{s:SE}{x:SL}{d:DD}{y:DL}{c:CM}{k:CL}{l:zz}{r:RQ}{z:QL}{ua:qr}{uc:Nat}{h:l_}(f:Y4 s.a6y c.set c.uid=some l)(g:rD s c r)(hq:dM r z h)(hu:n9 h ua (nV l))(a:iO s x d y h)(hc:eu c k h):
  Iq b y (Eu s d c) h (.tuple #[]) (l6 x.ra s.a6y.a6x x.rc::P3 b (H3 (s,d) c r l).1 {x with cl:=k,ua:=ua,uc:=uc} (H3 (s,d) c r l).2 {y with ql:=z}):=by
 have e:iO (H3 (s,d) c r l).1 {x with cl:=k,ua:=ua,uc:=uc} (H3 (s,d) c r l).2 {y with ql:=z} h:=by
  unfold H3;split
  ·exact⟨⟨hu,hc⟩,⟨a.dd.a6I,a.dd.rep,hq,a.dd.want⟩⟩
  ·exact⟨⟨hu,hc⟩,⟨a.dd.a6I,a.dd.rep,⟨hq.a6A,hq.a6J⟩,a.dd.want⟩⟩
 refine⟨rfl,(H3 (s,d) c r l).1,(H3 (s,d) c r l).2,{x with cl:=k,ua:=ua,uc:=uc},{y with ql:=z},.inr ⟨l,r,f,g,rfl⟩,?_,.refl rfl,e⟩;rw[Ir]
section
variable(b:Nat)(s:SE)(x:SL)(d:DD)(y:DL)(c:CM)(k:CL)(hv:s.a6y.a6x.length<=100000)(hvu:∀r∈s.a6y.a6x,r.1<18446744073709551616)(hc:rr c)(hn:s.num<18446744073709551615)(hl:y.rl.length<=100000)
include hv hvu hc hn hl
def Is:Et 152 b s x d y c k (Eu s d c):=by
 have X:=hc.set;obtain⟨e,z⟩:∃e,Y4 s.a6y c.set c.uid=e:=⟨_,rfl⟩;refine A0 25 func152 rfl rfl rfl ?_;rintro F R ⟨p,q⟩;refine D1 ?_;refine m8 rfl rfl ?_;intro Q;refine A5 ?_;refine e_ (lL b s x d y c k e z hv qb qb) ?pre ?_;(case pre=>exact fun h Y ⟨bs,g⟩=>⟨A_.rd g ud,q.set.le Y⟩);rintro v A ⟨j,t,m,rfl,S,rfl⟩;refine al ?_
 cases e with
 |none=>
  obtain⟨a1,C,rfl⟩:∃a C,m=G1 y (iw c.tag,L0) a C:=S;refine M4 ?_;refine I4 (A:=l6 x.ra s.a6y.a6x x.rc::P3 b s x d (G1 y (iw c.tag,L0) a1 C)) (v:=.tuple #[]) (l9.le_refl _) (nN (.inr rfl) p) ?_;exact m6 rfl _ qh (fun w n=>D3 (A:=[_,_,_]) (J:=[_,_]) tk n)
 |some l=>
  obtain rfl:m=y:=S;obtain⟨D,h0⟩:=fk z;refine A5 ?_;refine C6 (Z:=[V4 j l t,.blk Q (.cells (lg c k).toArray 36)]) tk fun T i g=>?_;have o:n9 T.heap j (nV l):=by obtain⟨bs,g⟩:=g;exact A_.rd g ud
  have U:T.heap Q=some (.cells (lg c k).toArray 36 (0,0)):=L6 g;clear g;replace p:=Mn.le i.heap p;replace q:=Mn.le i.heap q;refine u6 ?_;refine e_ (kF b s x d m 9) qw ?_;rintro v A ⟨rfl,rfl⟩;refine i7 rfl ?_;intro g6;refine A5 ?_;refine r_ (l5 rfl (fun w n=>I8 n U rfl)) ?_;refine E8 ?_;refine r_ (dB rfl U ga) ?_;refine A5 ?_;refine B_ (iX b s x d m c k {aA (s,d) 9 with tz:=c.box} du l j t hv qb (fun u hu=>by obtain⟨r,hr,rfl⟩:=D u hu;exact hvu r hr) hn) ⟨⟨n9.nil _ _,n9.nil _ _⟩,o⟩ ?_;rintro v A F2 f ⟨rfl,V,z',M,O,rfl⟩;refine x6 ?_;refine I4 (A:=l6 x.ra s.a6y.a6x x.rc::P3 b (H3 (s,d) c V l).1 {x with cl:=k,ua:=j,uc:=t} (H3 (s,d) c V l).2 {m with ql:=z'}) (v:=.tuple #[]) (i.trans f) (nO z (rD.chg ⟨.inr (.inr rfl),.inr rfl,by simp[aA],.inl rfl,.inr rfl⟩ M) O (o.le f.heap) (Mn.le f.heap p) (Mn.le f.heap q)) ?_;exact m6 rfl _ qh (fun w n=>D3 (A:=[_,_,_]) (J:=[_]) tk n)
end
