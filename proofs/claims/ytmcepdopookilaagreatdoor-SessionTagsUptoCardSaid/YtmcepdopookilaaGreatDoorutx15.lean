import Derived.Test.YtmcepdopookilaaGreatDoorutx14
set_option maxHeartbeats 16000000
set_option maxRecDepth 8000
set_option linter.unusedVariables false
set_option linter.unusedSimpArgs false
set_option linter.defProp false
namespace Go.Sl
open Go Go.RowKit Go.Proofs.YtmcepdopookilaaGreatDoor.Rp Go.Proofs.Tryz
section
variable{P:Program}{N:Nat}{K R:y6}{E:List (Nat×y6)}{L:G0}{F:l6}{H:List As}{ops:Array Oper}{rest:List Oper}{ty:TypeId}{pos:String}{af:Array Edge}{dst:Option Nat}{gd:Option (Nat×Bool)}{t:TypeId}{x y:Operand}
abbrev PA(a:Option Addr)(n c:Nat)(l:List Bs):As:=.own (.slice a n c) 9 1 (fV l)
theorem ldS{a:Option Addr}{n c:Nat}{l:List Bs}{i:Int}{H':List As}[ha:HA P t false](hl:l.length=n)(u:M3 H (PA a n c l) [] H':=by exact ud)(hx:ev L x=some (.pointer (N0 a (i.toNat*1))):=by rfl)(e:0<=i/\i<n:=by omega):dv P ⟨dst,.load t x,ty,pos,af,gd⟩ L F H (B (l.getD i.toNat [])):=
 i8 hx fun w d=>iU d u x6 fun j v b=>by
  match j,b with
  |0,b=>
   simp at b;subst b;have h:i.toNat<l.length:=(by omega);rw[Zd,Q3,fV,Zb,zj h];simp[List.getD,h]
theorem PB{a:Option Addr}{n c:Nat}{l:List Bs}{i:Int}{v:Bs}{H':List As}[hs:HS P t 1](hl:l.length=n)(h:GL P N ops rest K E R L F H')(u:M3 H (PA a n c l) [PA a n c (l.set i.toNat v)] H':=by exact uh)(hx:ev L x=some (.pointer (N0 a (i.toNat*1))):=by rfl)(d:ev L y=some (B v):=by rfl)(f:0<=i/\i<n:=by omega):GL P N ops (⟨none,.store t x y,ty,pos,af,none⟩::rest) K E R L F H:=by
 have hp:L5 (fV l) (i.toNat*1) [B v]=fV (l.set i.toNat v):=by
  have e:i.toNat<l.length:=by omega
  unfold L5 fV;rw[Zd,Kb,Zm,zu (by simpa using e)];simp
 refine T9 (n:=1) (a:=a) (len:=n) (c:=c) (sz:=1) (xs:=fV l) (te:=9) hx d (H':=H') ?_ rfl qp (fun q b=>by simp[Value.cells] at b;subst b;rfl) (by rw[L8];omega) h;show M3 H _ [.own (.slice a n c) 9 1 (L5 (fV l) (i.toNat*1) [B v])] H';rw[hp];exact u
theorem uk{n:Bs}{d:Nat}{x:Operand}{z:Value}[hu:HU P t (.slice 9)][hz:HZ P 9 z][hs:HS P 9 1](h:∀a,GL P N ops rest K E R ((d,.slice a 1 1)::L) F (A4 a [n] 1::H))(hx:ev L x=some (B n):=by rfl)(b:Nat.blt d N=true:=by rfl):
  GL P N ops (⟨some d,.buildSlice t 1 #[(0,x)],ty,pos,af,none⟩::rest) K E R L F H:=
 C4 (C:=fun n:Bs=>[B n]) n rfl (fun a _=>by have:=h a;exact this) hx rfl rfl rfl b
theorem ul{l m:List Bs}{d:Nat}{s x:Operand}{a b:Option Addr}{c n:Nat}{H':Option Addr->Nat->List As}{z:Value}{i:TypeInfo}[hu:HU P t (.slice 9)][hz:HZ P 9 z][hi:HI P 9 i][hs:HS P 9 1](o:(l.length+m.length)*i.bytes<=140737488355328)(h:∀f e,(l++m).length<=e->GL P N ops rest K E R ((d,.slice f (l++m).length e)::L) F (H' f e))(g:ev L s=some (.slice a l.length c):=by rfl)(j:ev L x=some (.slice b m.length n):=by rfl)(u:∀f e,M3 H (A4 a l c) [A4 f (l++m) e] (H' f e):=by exact fun _ _=>uh)(hsrc:∀w,Hp F w H->Ka (hp w) b (fV m):=by exact fun w p=>(p.ownN ud).2.2.1)(k:z.cells.size=1:=by rfl)(hl:l.length+m.length<=9223372036854775807:=by(first|omega|(simp only[zy,zn];omega)))(q:Nat.blt d N=true:=by rfl):
  GL P N ops (⟨some d,.call ⟨.builtin .append,#[s,x],#[t,t]⟩,ty,pos,af,none⟩::rest) K E R L F H:=
 C0 (news:=fV m) (m:=m.length) g j (H':=H') (fun f e=>by have:=u f e;unfold A4 at this;rw[zz,gk] at this;exact this) hsrc (by rw[L8,Zd]) rfl k (kZ _) o hl q fun f e hc=>by
  have:=h f e (by rw[zz];exact hc);rw[zz] at this;exact this
end
end Go.Sl
namespace Go.Proofs.YtmcepdopookilaaGreatDoor.Rp
open Go Go.Sl Go.RowKit Go.Proofs.Tryz
theorem wx:∀(l:List Bs) (i:Nat) (x:Bs),i<l.length->(l.set i (l.getD i []++x)).flatten.length=l.flatten.length+x.length
 |[],i,x,h=>by simp at h
 |y::l,0,x,h=>by simp;omega
 |y::l,i+1,x,h=>by
  have:=wx l i x (by simpa using h);simp only[List.set_cons_succ,K6,zz,List.getD_cons_succ] at this⊢;omega
theorem pL:∀{l:List Bs} {x:Bs},x∈l->x.length<=l.flatten.length
 |y::l,x,h=>by
  rw[K6,zz];rcases ky.1 h with rfl|h
  ·omega
  ·have:=pL h;omega
theorem yN{l:List Bs}{i:Nat}(h:i<l.length):(l.drop i).flatten.length=(l.getD i []).length+(l.drop (i+1)).flatten.length:=by
 rw[Qg h,K6,zz];simp[List.getD,h]
theorem wy(k:Bs)(hs:k.length<=1000000000):Ct prog 436 [B k] Gl [] (fun v A=>∃a l c,v=.slice a l.length c/\A=[A4 a l c]/\l.flatten.length<=k.length/\l.length<=k.length+1):=by
 refine b_ 46 func436 rfl rfl rfl ?_;intro F hg;refine E5 ?_;refine c_ (Dl k [13,10] qb qp) (fun h hh _=>hg.le hh) ?_;rintro v A ⟨s,d,rfl,rfl,h4,O⟩;refine H9 2 ?_;refine n7 (ι:=AC×List Bs) (fun o=>o.2.flatten.length<=k.length/\o.2.length<=k.length+1) (fun o=>[(3,.slice o.1.1 o.2.length o.1.2)]) (fun o=>[A4 o.1.1 o.2 o.1.2]) ?_ ?_
 ·refine n8 ?_;refine O6 (fun(j:Nat) (o:AC) (b:List Bs)=>j<=d.length/\b.flatten.length+(d.drop j).flatten.length<=k.length/\b.length<=j) (fun j o b=>[(8,.slice s d.length d.length),(9,.int .i64 (d.length:Nat)),(10,.int .i64 (j:Nat)),(3,.slice o.1 b.length o.2)]) (fun j o b=>[A4 o.1 b o.2,A4 s d d.length]) (fun j o b=>d.length-j) 0 (none,0) [] ⟨zw _,by simpa using O,z1 _⟩ sub (fun w u=>u.addNil _ _) ?_;rintro j o b ⟨hj,Y,h5⟩;refine R6 ?_ ?_<;>intro h
  ·have y:j<d.length:=(by have:=qr h;omega);obtain⟨l,z⟩:=o7 (d.getD j []);have Q:=yN y;rw[<-z] at Q;refine H9 0 ?_;refine n7 (ι:=AC×List Bs) (fun p=>p.2.flatten.length+(d.drop (j+1)).flatten.length<=k.length/\p.2.length<=j+1) (fun p=>[(8,.slice s d.length d.length),(9,.int .i64 (d.length:Nat)),(10,.int .i64 (j:Nat)),(3,.slice p.1.1 p.2.length p.1.2)]) (fun p=>[A4 p.1.1 p.2 p.1.2,A4 s d d.length]) ?_ ?_
   ·refine n8 ?_;refine B4 (a:=s) (n:=d.length) (c:=d.length) (sz:=1) (xs:=fV d) (te:=9) ud fun _ _ g=>?_;have g:=g qb;refine p_ ?_;refine r_ ((ldS (l:=d) (i:=(j:Nat)) rfl ud rfl qb).eq (v':=B l) (by rw[z];rfl)) ?_;refine O2 ?_;obtain⟨q1,C⟩:=o7 (decide (0<b.length));obtain⟨Z,t⟩:=o7 (decide (l=[]));refine n7 (ι:=Bool) (fun q=>q=true->0<b.length) (fun q=>[(31,.bool q),(6,.int .i64 (b.length:Nat)),(5,B l),(8,.slice s d.length d.length),(9,.int .i64 (d.length:Nat)),(10,.int .i64 (j:Nat)),(3,.slice o.1 b.length o.2)]) (fun _=>[A4 o.1 b o.2,A4 s d d.length]) ?_ ?_
    ·obtain⟨q3,h3⟩:=o7 (decide (((l.getD 0 0).toNat:Int)=32));have S:Z=false->0<l.length:=fun e=>by
      rw[e] at t;have:=zq t.symm;exact Zr.2 this
     cases q1<;>cases Z<;>cases q3
     all_goals try have h6:=S rfl
     all_goals (
      refine p_ ?_;refine f_ ((D_ rfl rfl).eq (qn ((qz).trans C.symm))) ?_;refine y9 ?_;(first|refine u_ ?_|(refine v_ ?_;refine f_ ((E1 rfl rfl).eq (jk (fun x=>Value.bool (!x)) t.symm)) ?_));refine O2 ?_;(first|refine u_ ?_|(refine v_ ?_;refine f_ ((p8 rfl rfl).eb h3) ?_));refine cG ?_)
     all_goals first|exact g_ _ (fun _=>qr C.symm) i_|exact g_ false (fun e=>by cases e) i_
    intro q hq;refine N8 ?_ ?_<;>intro h
    ·have h0:=hq h;refine B4 (a:=o.1) (n:=b.length) (c:=o.2) (sz:=1) (xs:=fV b) (te:=9) ud fun _ _ r=>?_;have r:=r h0;obtain⟨i,hi⟩:=o7 (α:=Int) ((b.length:Nat)-1);have T:=wx b i.toNat l qb;have h7:(b.getD i.toNat []).length<=b.flatten.length:=pL (dQ qb);refine y9 ?_;refine f_ ((E0 rfl rfl qb).eq (v':=.int .i64 i) (by rw[hi])) ?_;refine f_ (m8 rfl r rfl qb) ?_;refine r_ (ldS rfl) ?_;refine y9 ?_;refine f_ (m8 rfl r rfl qb) ?_;refine PB (v:=b.getD i.toNat []++l) rfl ?_;refine u7 ?_;obtain⟨f,D⟩:=o7 (b.set i.toNat (b.getD i.toNat []++l));have M:b.length=f.length:=(by rw[D,js]);rw[<-D] at T⊢;rw[M];exact g_ (o,f) ⟨by simp only;omega,by simp only;omega⟩ i_
    ·refine y9 ?_;refine uk (n:=l) ?_;intro a42;refine ul (l:=b) (m:=[l]) (by show(b.length+1)*16<=_;omega) ?_;intro U V _;refine p_ ?_;exact g_ ((U,V),b++[l]) ⟨by simp only[List.flatten_append,zz,K6,List.flatten_nil,z7];omega,by simp;omega⟩ (fun w u=>C5 (A:=[_,_]) (J:=[_]) tk u)
   rintro⟨o2,f⟩ ⟨C,t⟩;simp only at C t;refine y9 ?_;exact l8 (i:=(j,o,b)) (j+1,o2,f) ⟨y,C,t⟩ qg sub i_
  ·refine u7 ?_;exact g_ (o,b) ⟨by simp only;omega,by simp only;omega⟩ (fun w u=>x8.left tk u)
 rintro⟨o,b⟩ X;simp only at X;refine L7 ?_;exact d_ rfl rfl _ ⟨o.1,b,o.2,rfl,rfl,X.1,X.2⟩ i_
end Go.Proofs.YtmcepdopookilaaGreatDoor.Rp
namespace Go.Sl
open Go Go.RowKit Go.Proofs.Tryz
section
variable{ro:Option Nat}{n:Nat}{P:Program}{N:Nat}{Q:Exit->Act->World->Prop}{L:G0}{F:l6}{H:List As}{ops:Array Oper}{Kq:y6}
theorem Mp{i:Nat}{K m:Act->World->Prop}{a:Act}{w:World}(g:∀(i:Nat) (o:Oper),ops[i]? =some o->∀c,o.op≠ .defer c)(b:∀a w,K a w->m a w)(h:wpOp P ops (MQ Kq [] (fun _ _=>False)) i K a w):wpOpIn (Fn ro) n P ops Q i m a w:=by
 unfold wpOp at h;unfold wpOpIn
 cases ho:ops[i]? with
 |none=>rw[ho] at h;exact b _ _ h
 |some o=>
  rw[ho] at h;simp only at h⊢;have hs:Oper.semAt (Fn ro).round a.eval o=execOp a.eval o:=nZ (.inr (g i o ho));split
  ·rename_i j;rw[zu j] at h;rcases h with h|⟨_,p,s,q⟩
   ·refine⟨fun f _=>trivial,?_⟩;rw[hs];unfold Oper.wp at h;generalize (execOp a.eval o).run P w=r at h⊢
    cases r with
    |ok x w'=>
     cases x<;>simp only[Oper.upon,Oper.uponIn] at h⊢
     case value v=>exact b _ _ h
     case skip=>exact b _ _ h
     case defer d=>exact b _ _ h
     case enter f args=>
      refine⟨fun k=>(by cases k),nY (h.mono fun e l q=>?_)⟩
      cases e with
      |returned v=>exact b _ _ q
      |panicked c=>exact(fY q).elim
      |outgrown=>obtain⟨p,s,q⟩:=q;exact q.elim
     case row row args=>exact⟨fun k=>(by cases k),ru (h.mono fun v l q=>b _ _ q)⟩
    |halt x w'=>cases x<;>simp only[Oper.upon] at h<;>first|exact(fY h).elim|exact h.elim
   ·exact q.elim
  ·rename_i j;rw[zk j] at h;exact⟨fun f _=>trivial,b _ _ h⟩
theorem wz(g:∀(i:Nat) (o:Oper),ops[i]? =some o->∀c,o.op≠ .defer c)(f:∀a w,Kq a w->Q .normal a w):∀(d:Nat) (b:Array Bool) (a:Act) (w:World),wpAny P .any ops (MQ Kq [] (fun _ _=>False)) d b a w->wpAnyIn (Fn ro) n P .any ops Q d b a w
 |0,_,a,w,h=>⟨h.1,f _ _ h.2⟩
 |d+1,b,a,w,h=>⟨fun e=>f _ _ (h.1 e),fun i j=>Mp g (fun k w' l=>wz g f d _ k w' l) (h.2 i j)⟩
theorem Mq{id:Nat}{l:List Oper}[hm:HM P](f:Rs)(g:List As)(m:Nat)(j:m=l.toArray.size)(b:(l.all fun o=>match o.op with|.defer _=>false|_=>true)=true)(h:GA P N l.toArray f g m [] (fun a w=>Q .normal a w) [] (fun _ _=>False) L F H):GN ro n P N (.region id l.toArray true) Q L F H:=fun a w hf p=>by
 subst j;unfold GA at h;refine wpIn_region_any hm.h (wz (fun i o q c e=>?_) (fun a w k=>k) _ _ _ _ (fv _ _ _ _ (h a _ hf p.drew)));have d:=Qv.1 b o (by have:=Array.mem_of_getElem? q;simpa using this);rw[e] at d
 cases d
theorem um{F:Fence}{d j t:Nat}{b:Bool}{op:Op}{e:Oper}{rest:List Oper}{ty:TypeId}{pos:String}{af:Array Edge}{a:Act}{w:World}(f:ops[j]? =some e)(g:e.dst=some t)(hv:a.tmps[t]? =some (.bool b))(h:wpListIn F n P ops Q (⟨some d,op,ty,pos,af,none⟩::rest) a w):wpListIn F n P ops Q (⟨some d,op,ty,pos,af,some (j,b)⟩::rest) a w:=by
 have c:Region.wanted (⟨some d,op,ty,pos,af,some (j,b)⟩:Oper) (yielded ops a.tmps)=true:=by
  simp[Region.wanted,yielded,f,g,hv]
 unfold wpListIn at h⊢;rw[zu c];rw[zu (by simp[Region.wanted])] at h;exact h
end
def KeepsC(A B:World):Prop:=A.heap.size<=B.heap.size/\∀(k:Nat) (o:Obj),A.heap[k]? =some o->o.isCells=true->B.heap[k]? =some o
theorem KeepsC.trans{A B C:World}(h:KeepsC A B)(k:KeepsC B C):KeepsC A C:=⟨ju h.1 k.1,fun b o c a=>k.2 b o (h.2 b o c a) a⟩
theorem KeepsC.put{w:World}(W:World)(l:Nat)(o c:Obj)(_:w.heap.size<=l)(h:W.heap[l]? =some o)(hc:o.isCells=false)(_:o.isWalk=false):KeepsC W (W.putObj l c):=by
 have hg:=grownBy_putObj' W l c;refine⟨hg.size,fun k x a d=>?_⟩;have b:l≠k:=by rintro rfl;rw[h] at a;cases a;rw[hc] at d;cases d
 exact(hg.block k (kp.1 a).1 (fun e=>b (by cases e;rfl))).trans a
theorem KeepsC.of_grown{A B:World}(h:A.grownBy B none):KeepsC A B:=⟨h.size,fun k o a _=>(h.block k (kp.1 a).1 (fun e=>by cases e)).trans a⟩
theorem KeepsC.rd{A B:World}(h:KeepsC A B){a:Option Addr}{xs:List Value}(r:o0 (hp A) a xs):o0 (hp B) a xs:=by
 intro c;obtain⟨d,e,f⟩:=r c;refine⟨d,e,fun j u hu=>?_⟩;have b:=f j u hu;unfold l_.cell? at b⊢
 cases ho:hp A (d.add j).block with
 |none=>rw[ho] at b;cases b
 |some o=>
  rw[ho] at b
  cases o with
  |cells cs t fr=>have g:hp B (d.add j).block=_:=h.2 _ _ ho rfl;rw[g];exact b
  |_=>cases b
end Go.Sl
namespace Go.Proofs.YtmcepdopookilaaGreatDoor.Rp
open Go Go.Sl Go.RowKit Go.Proofs.Tryz
abbrev FX(n:Nat):={x:Bs×Bs//x.1.length<=n/\x.2.length<=n}
abbrev PC{n:Nat}(x:FX n):Array Value:=#[B x.1.1,B x.1.2]
def Rc(n:Nat)(a:Go.Act):Nat:=match (a.tmps[18]?:Option Value) with
 |some (.int _ k)=>n-k.toNat
 |_=>0
theorem Mr(s:Bs)(hs:s.length<=1000000000):Ct prog 394 [B s,B [58]] Gl [] (fun v A=>(∃(a b:Bs) (ok:Bool),v=.tuple #[B a,B b,.bool ok]/\a.length<=s.length/\b.length<=s.length)/\A=[]):=fun w c d f g=>
 (GF s qb w c d f g).mono fun e l ⟨v,A,h,⟨i,j⟩,k⟩=>⟨v,A,h,⟨⟨_,_,_,i,rR _ _,by split<;>simp⟩,j⟩,k⟩
theorem _root_.Go.Sl.KeepsC.gl{A B:World}(h:KeepsC A B)(g:Gl (hp A)):Gl (hp B):=by
 obtain⟨⟨a,b,c,n⟩,⟨d,e,o⟩,⟨f,i,j,p,k3⟩,⟨k,l,m,q,k4⟩⟩:=g;exact⟨⟨a,b,c,h.2 _ _ n rfl⟩,⟨d,e,h.2 _ _ o rfl⟩,⟨f,i,j,h.2 _ _ p rfl,k3⟩,⟨k,l,m,h.2 _ _ q rfl,k4⟩⟩
theorem Hx{w0 W:World}(h:Below w0.heap.size w0 W):l_.le (hp w0) (hp W):=fun b o a=>(h.block b (kp.1 a).1).trans a
theorem un(m:Bs)(hm:m.length<=1000000000)(g:Nat)(w0:World)(hg:Gl (hp w0))(Y:w0.heap[g]? =some (.cells #[B m] 9 (0,0)))(n:Nat):
  SeqStopsK Fence.wide n prog 435 #[l9 g] (PC (n:=m.length)) KeepsC (fun _=>True) (fun _=>True) 2000000000 w0:=by
 intro l J Jx W hW O q2 hY h0;have Q:=Hx hW;have q3:(Z_ W).heap g=some (.cells #[B m] 9 (0,0)):=by rw[M2];exact Q _ _ Y
 have Z:Gl (Z_ W).heap:=by rw[M2];exact hg.le Q
 refine callsIn_of_wp func435 rfl trivial ?_ rfl;refine(?_:GN none n prog 42 _ _ (ay 0 [.func (.yield l) #[] #[],l9 g]) (Z_ W) []) _ _ (T1 42 _ rfl) (ab W);refine M6 ?_;refine I8 ?_;refine C6 ?_;refine r_ (i8 rfl (fun w hw=>I0 hw q3 rfl)) ?_;refine c_ (C:=[]) (rT m hm) (fun h hh _=>Z.le hh) ?_;rintro v A ⟨⟨hd,t,rfl,x0,ht⟩,rfl⟩;refine au ?_;refine O9 ?_;refine M6 ?_;refine I8 ?_;refine p_ ?_;refine c_ (C:=[]) (wy hd qb) (fun h hh _=>Z.le hh) ?_;rintro v A ⟨p,i,h4,rfl,rfl,x1,x2⟩;refine H9 2 ?_;refine O9 ?_;refine aU ?_;intro a w q4 S;have h5:o0 (hp w) p (fV i):=(S.ownN (t:=9) ud).2.2.1;have x3:∀(d:List (FX m.length)) (A:World) (B':World) (y:Option Nat),J d A->A.grownBy B' y->(∀r,y=some r->W.heap.size<=r/\∃o:Obj,A.heap[r]? =some o/\o.isWalk=true)->J d B':=fun d A B' y z h2 h3=>O d A B' y z h2 h3;refine wpIn_loop (fun a w=>∃(k:Nat) (d:List (FX m.length)),G4 42 [(0,.func (.yield l) #[] #[]),(16,.slice p i.length h4),(17,.int .i64 (i.length:Nat)),(18,.int .i64 (k:Nat))] a/\J d w/\Gl (hp w)/\o0 (hp w) p (fV i)/\d.length<=k/\k<=i.length) (fun a _=>Rc i.length a)
  ⟨0,[],q4.sub sub,O [] W w none h0 (B6 S) (fun r e=>by cases e),(KeepsC.of_grown (B6 S)).gl (hg.le Q),h5,z1 _,zw _⟩ ?_
 rintro a w ⟨k,d,h6,D,M,u,x9,y0⟩;have T:Rc i.length a=i.length-k:=by
  have z:a.tmps[18]? =some (.int .i64 (k:Nat)):=h6.at_ _ _ rfl;unfold Rc;rw[z];simp
 have h7:o0 (Z_ w).heap p (fV i):=by rw[M2];exact u
 refine(?_:GN none n prog 42 _ _ [(0,.func (.yield l) #[] #[]),(16,.slice p i.length h4),(17,.int .i64 (i.length:Nat)),(18,.int .i64 (k:Nat))] (Z_ w) []) a w h6 (ab w);refine M6 ?_;refine I8 ?_;refine p_ ?_;refine O9 ?_;refine M6 ?_;refine aI rfl ?_ ?_<;>intro h
 ·have c:k<i.length:=by have:=qr h;omega
  obtain⟨l0,h8⟩:=o7 (i.getD k []);have q9:l0.length<=m.length:=by rw[h8];have:=pL (dQ (l:=i) c);omega
  have y1:=cg u c;refine eH ?_;refine O9 ?_;refine M6 ?_;refine aU ?_;refine M6 ?_;refine I8 ?_;refine p_ ?_;refine r_ ((i8 rfl (fun w hw=>OT hw h7 x6 c)).eq (v':=B l0) (by rw[h8])) ?_;refine p_ ?_;refine O9 ?_;refine M6 ?_;refine I8 ?_;refine p_ ?_;refine c_ (C:=[]) (Mr l0 qb) (fun h hh _=>(show Gl (Z_ w).heap by rw[M2];exact M).le hh) ?_;rintro v A ⟨⟨X,vl,ok,rfl,y2,y3⟩,rfl⟩;refine wk 7 ?_;obtain⟨q,hq⟩:=o7 (decide (X=[]));refine O9 ?_;refine M6 ?_
  cases ok
  ·refine I8 ?_;refine wk 9 ?_;(first|refine u_ ?_|(refine v_ ?_;fail));(first|refine u_ ?_|(refine v_ ?_;fail));refine y9 ?_;refine O9 ?_;refine aI rfl (fun h=>absurd h qp) (fun _=>?_);refine eH ?_;refine O9 ?_;refine I8 ?_;refine y9 ?_;unfold At;intro a3 w3 f b;refine⟨⟨k+1,d,f.sub sub,O _ w w3 none D (B6 b) (fun r e=>by cases e),(KeepsC.of_grown (B6 b)).gl M,(KeepsC.of_grown (B6 b)).rd u,by omega,c⟩,?_⟩;have z:a3.tmps[18]? =some (.int .i64 ((k:Nat)+1:Int)):=f.at_ _ _ rfl;rw[T];unfold Rc;rw[z];simp only;omega
  cases q
  case true=>
   refine I8 ?_;refine E5 ?_;(first|refine u_ ?_|(refine v_ ?_;refine f_ ((E1 rfl rfl).eq (v':=.bool false) (jk (fun x=>Value.bool (!x)) hq.symm)) ?_));refine au ?_;(first|refine u_ ?_|(refine v_ ?_;fail));(first|refine u_ ?_|(refine v_ ?_;fail));refine y9 ?_;refine O9 ?_;refine aI rfl (fun h=>absurd h qp) (fun _=>?_);refine eH ?_;refine O9 ?_;refine I8 ?_;refine y9 ?_;unfold At;intro a3 w3 f b;refine⟨⟨k+1,d,f.sub sub,O _ w w3 none D (B6 b) (fun r e=>by cases e),(KeepsC.of_grown (B6 b)).gl M,(KeepsC.of_grown (B6 b)).rd u,by omega,c⟩,?_⟩;have z:a3.tmps[18]? =some (.int .i64 ((k:Nat)+1:Int)):=f.at_ _ _ rfl;rw[T];unfold Rc;rw[z];simp only;omega
  have q5:vl.length<=1000000000:=by omega
  refine od (pre:=List.take 10 _) (suf:=List.drop 10 _) (Qk 10 _).symm (.inl rfl) ?_;refine f_ oF ?_;refine f_ oF ?_;refine A1 rfl rfl rfl ?_;refine f_ oF ?_;refine A1 rfl rfl rfl ?_;refine f_ ((E1 rfl rfl).eq (v':=.bool true) (jk (fun x=>Value.bool (!x)) hq.symm)) ?_;refine f_ oF ?_;refine f_ oF ?_;refine A1 rfl rfl rfl ?_;refine f_ oF ?_;refine A1 rfl rfl rfl ?_;refine f_ oF ?_;refine A1 rfl rfl rfl ?_;refine f_ oF ?_;refine A1 rfl rfl rfl ?_;refine c_ (C:=[]) (Lv vl q5) qw ?_;rintro v A ⟨⟨tr,rfl,z0⟩,rfl⟩;refine F7 ?_;unfold At;intro a1 w1 s h9;have k0:KeepsC w w1:=KeepsC.of_grown (B6 h9);have q6:J d w1:=O d w w1 none D (B6 h9) (fun r e=>by cases e);have q7:=hY d ⟨(X,tr),by show X.length<=_;omega,by show tr.length<=_;omega⟩ w1 q6 qb;refine um rfl rfl (s.at_ _ _ rfl) ?_;refine vb (m:=n-1) (l:=l) (vs:=[B X,B tr]) (s.eval (x:=.tmp 34) rfl) (by simp only[Qu,Jj];rw[s.eval (x:=.tmp 35) rfl,s.eval (x:=.tmp 37) rfl];rfl) q7 rfl ?_;rintro e j (⟨rfl,q8,k8⟩|⟨rfl,k9⟩)
  ·refine⟨_,rfl,?_⟩;have q0:Gl (hp j):=k8.gl (k0.gl M);have q1:o0 (hp j) p (fV i):=k8.rd (k0.rd u);refine cQ (F:=Z_ j) (H:=[]) (.inl rfl) ?_ (s.put rfl _) (ab j);refine A1 rfl rfl rfl ?_;refine f_ oF ?_;refine f_ oF ?_;refine F7 ?_;refine O9 ?_;refine aI rfl (fun h=>absurd h qp) (fun _=>?_);refine eH ?_;refine O9 ?_;refine I8 ?_;refine y9 ?_;unfold At;intro a3 w3 f b;refine⟨⟨k+1,d++[⟨(X,tr),by show X.length<=_;omega,by show tr.length<=_;omega⟩],f.sub sub,O _ j w3 none q8 (B6 b) (fun r e=>by cases e),(KeepsC.of_grown (B6 b)).gl q0,(KeepsC.of_grown (B6 b)).rd q1,by rw[zz];simp only[zy,zn];omega,c⟩,?_⟩;have z:a3.tmps[18]? =some (.int .i64 ((k:Nat)+1:Int)):=f.at_ _ _ rfl;rw[T];unfold Rc;rw[z];simp only;omega
  ·refine⟨_,rfl,?_⟩;refine cQ (F:=Z_ j) (H:=[]) (.inl rfl) ?_ (s.put rfl _) (ab j);refine A1 rfl rfl rfl ?_;refine f_ oF ?_;refine f_ oF ?_;refine F7 ?_;refine O9 ?_;refine aI rfl (fun _=>?_) (fun h=>absurd h qp);refine xQ ?_;unfold At;intro a2 w2 U V;have Y:=aO (P:=prog) (fn:=Tryz.f435) (R:=fun e j=>(∃v,e=.returned v)/\((∃d,True/\J d j)\/(∃pre,True/\Jx pre j))) rfl U ⟨⟨_,rfl⟩,.inr ⟨_,trivial,q2 _ j w2 none k9 (B6 V) (fun r e=>by cases e)⟩⟩;exact Y.2
 ·refine Ah ?_;unfold At;intro a2 w2 U V;have Y:=aO (P:=prog) (fn:=Tryz.f435) (R:=fun e j=>(∃v,e=.returned v)/\((∃d,True/\J d j)\/(∃pre,True/\Jx pre j))) rfl U ⟨⟨_,rfl⟩,.inl ⟨d,trivial,O _ w w2 none D (B6 V) (fun r e=>by cases e)⟩⟩;exact Y.1
theorem DN(m:Bs):Ct prog 423 [B m] (fun _=>True) [] (fun v A=>∃g,v=.func (.func 435) #[] #[l9 g]/\A=[.blk g (.cells #[B m] 9)]):=by
 refine b_ 4 func423 rfl rfl rfl ?_;intro F _;refine C6 ?_;refine L2 rfl rfl rfl ?_;intro a;refine bS ?_;exact d_ rfl rfl _ ⟨a,rfl,rfl⟩ i_
abbrev SS(g4 g5:Nat)(v:Bs)(b:Bool):List As:=[.blk g4 (.cells #[B v] 9),.blk g5 (.cells #[.bool b] 4)]
def SU(F1:l6)(g4 g5 n:Nat)(c:Code)(pre:List (FX n))(W:World):Prop:=c=.ret/\∃x:FX n,Hp F1 W (SS g4 g5 x.1.2 true)
theorem Hy{F:l6}{d:World}{H:List As}{bs:List Nat}(h:Hp F d H)(i:∀b∈bs,F.heap b=none)(j:World)(A:List As)(k:Hp (q_ d bs) j A):Hp F j A:=by
 refine⟨k.os.trans h.os,k.tape.trans h.tape,k.output.trans h.output,fun b o a=>k.keep b o ?_,?_⟩
 ·have e:=h.keep b o a;have c:b∉bs:=fun f=>by rw[i b f] at a;cases a
  show E4 d bs b=_;simp[E4,c];exact e
 ·obtain⟨l,hs,m,hf⟩:=k.own;refine⟨l,hs,m,fun b g=>?_⟩;have e:=hf b g
  cases c:F.heap b with
  |none=>rfl
  |some o=>
   have n:=h.keep b o c;have p:b∉bs:=fun f=>(by rw[i b f] at c;cases c);have q:E4 d bs b=none:=e;have r:=(kp.1 n).1;simp[E4,p] at q;omega
theorem pM{P:Program}{fn:Func}{a:Go.Act}{w:World}{t t1 b d:Nat}{g c:TypeId}{v h:Value}[ha:HA P g false][ha1:HA P c false](i:fn.results=#[.cell t g,.cell t1 c])(j:a.tmps.getD t undef=.pointer (some ⟨b,0,none⟩))(k:a.tmps.getD t1 undef=.pointer (some ⟨d,0,none⟩))(l:w.cell? ⟨b,0,none⟩=some v)(m:w.cell? ⟨d,0,none⟩=some h):(results fn a.tmps).run P w=.ok (.tuple #[v,h]) w:=by
 have e:a.tmps[t]?.getD undef=.pointer (some ⟨b,0,none⟩):=by simpa using j
 have f:a.tmps[t1]?.getD undef=.pointer (some ⟨d,0,none⟩):=by simpa using k
 simp[results,i,e,f,asAddr,loadVar,ha.h,ha1.h,l,m,Sem.run_bind]
theorem kf{w:World}{b:Nat}{v:Value}{te:TypeId}(h:w.heap[b]? =some (.cells #[v] te (0,0))):w.cell? ⟨b,0,none⟩=some v:=by
 simp[World.cell?,h]
theorem DO(m nm:Bs)(hm:m.length<=1000000000)(hn:nm.length<=2000000000):
  Ct prog 404 [B m,B nm] Gl [] (fun v A=>(∃(t:Bs) (ok:Bool),v=.tuple #[B t,.bool ok]/\t.length<=m.length)/\A=[]):=by
 intro w0 X hs u2 h0;have q5:X=[]:=hs;subst q5;rw[N3] at h0;refine(callsIn_wide (n:=5)).1 (callsIn_of_wp_marks func404 rfl trivial ?_ rfl);have q6:Gl (Z_ w0).heap:=by rw[M2];exact h0
 refine(?_:GN none 5 prog 18 _ _ (ay 0 [B m,B nm]) (Z_ w0) []) _ _ (T1 18 _ rfl) (ab w0);refine M6 ?_;refine I8 ?_;refine C6 ?_;refine L2 rfl rfl rfl ?_;intro Q;refine p_ ?_;intro u;refine p_ ?_;intro i;refine u7 ?_;refine O9 ?_;refine M6 ?_;refine M6 ?_;refine I8 ?_;refine p_ ?_;refine c_ (C:=[]) (DN m) qw ?_;rintro v A ⟨gF,rfl,rfl⟩;refine H9 0 ?_;refine O9 ?_;refine aU ?_;intro a O q7 y;have f:=q7.sub (L':=[(3,l9 Q),(4,l9 u),(5,l9 i),(9,.func (.func 435) #[] #[l9 gF])]) sub;obtain⟨F1,Y⟩:=o7 (q_ O [u,i]);have q8:O.heap[Q]? =some (.cells #[B nm] 9):=y.blk ud;have q9:O.heap[gF]? =some (.cells #[B m] 9):=y.blk ud;have h9:Gl (hp O):=q6.le y.keep;have k0:O.heap[u]? =some (.cells #[B []] 9):=y.blk ud;have h3:O.heap[i]? =some (.cells #[.bool false] 4):=y.blk ud;have x0:u≠i:=by rintro rfl;rw[k0] at h3;cases h3
 have x1:Hp F1 O (SS u i [] false):=by
  rw[Y];exact Hp.start ⟨[u],[i],rfl,⟨rfl,k0⟩,[i],[],rfl,⟨rfl,h3⟩,rfl⟩ (by simp[x0])
 have g:∀b,(F1.heap b).isSome=true->b<O.heap.size:=by rw[Y];exact Fk
 have M:∀V A,Hp F1 V A->Hp (Z_ w0) V A:=fun V A k=>by
  rw[Y] at k;refine Hy y (fun b T=>?_) V A k;obtain⟨X,hs,_,hf⟩:=y.own;refine hf b ?_;rw[hs.blks];simp at T;rcases T with rfl|rfl<;>simp[As.blks]
 have h2:Q≠u/\Q≠i:=by
  obtain⟨X,hs,hn,hf⟩:=y.own;rw[hs.blks] at hn;simp[As.blks] at hn;constructor<;>(intro e;subst e;simp at hn)
 have k8:F1.heap Q=some (.cells #[B nm] 9):=by
  rw[Y];show E4 O [u,i] Q=_;simp[E4,h2.1,h2.2];exact q8
 refine wpIn_rangeFunc_ownH (F:=Fence.wide) (encs:=PC (n:=m.length)) (Kp:=KeepsC) (S:=fun _=>True) (Sp:=fun _=>True) (N:=2000000000) (w0:=O) rfl qp (f.eval (x:=.tmp 9) rfl) trivial (fun U w=>(inferInstance:HF prog 435).h U w) (un m hm gF O h9 q9 4) (fun h k=>h.trans k) (fun W l o o' hl x2 hc hw=>KeepsC.put (w:=O) W l o o' hl x2 hc hw) (Below.refl _ O) (fun x=>rfl)
  (fun pre W=>Hp F1 W (SS u i [] false)) (SU F1 u i m.length)
  (fun s W V k9 hs hg hr=>ae hs rfl g hg hr)
  (fun c s W V k9 hs hg hr=>by obtain⟨e,x,h⟩:=hs;exact⟨e,x,ae h rfl g hg hr⟩) x1
  (fun x a' W=>G4 18 [(6,B x.1.1),(7,B x.1.2),(3,l9 Q),(4,l9 u),(5,l9 i)] a') (fun x a' s W V k9 hs hg hr=>hs) ?_ ?_ ?_ ?_
 ·intro l pre x W K Z hK;have x3:G4 18 [(11,B x.1.2),(10,B x.1.1),(3,l9 Q),(4,l9 u),(5,l9 i)] {tmps:=(a.tmps.setIfInBounds 10 (B x.1.1)).setIfInBounds 11 (B x.1.2),defers:=[]}:=by
   have h1:=((f.put (d:=10) rfl (B x.1.1)).put (d:=11) rfl (B x.1.2)).sub (L':=[(11,B x.1.2),(10,B x.1.1),(3,l9 Q),(4,l9 u),(5,l9 i)]) sub;exact⟨rfl,h1.size,h1.at_⟩
  refine(?_:GN (some l) 3 prog 18 _ _ [(11,B x.1.2),(10,B x.1.1),(3,l9 Q),(4,l9 u),(5,l9 i)] (Z_ W) []) _ W (by simpa[PC] using x3) (ab W);refine M6 ?_;refine dK (.inr (by intro o ho c;simp at ho;rcases ho with rfl;simp)) ?_;refine f_ oF ?_;refine F7 ?_;refine O9 ?_;refine dK (.inr (by intro o ho c;simp at ho;rcases ho with rfl;simp)) ?_;refine f_ oF ?_;refine F7 ?_;unfold At;intro a' V x9 y0;have p:=B6 y0;exact hK a' V (KeepsFrom.of_grownBy p (fun j e=>by cases e)) (KeepsC.of_grown p) (ae Z rfl g p (fun r e=>by cases e)) (x9.sub sub)
 ·intro l pre x a' W u8 u0 Z hA u1;have p3:(Z_ W).heap Q=some (.cells #[B nm] 9):=by rw[M2];exact Z.keep _ _ k8
  obtain⟨q,hq⟩:=o7 (decide (R8 x.1.1=R8 nm));have v0:=x.2.1;refine(?_:GN (some l) 3 prog 18 _ _ [(6,B x.1.1),(7,B x.1.2),(3,l9 Q),(4,l9 u),(5,l9 i)] (Z_ W) []) a' W hA (ab W);refine aU ?_;refine M6 ?_;refine Mq ([2],[0,1,0,7,15],[1,3]) [] 5 rfl (by rfl) ?_;refine wd [0] ?_;refine M4 2 rfl (i8 rfl (fun w hw=>I0 hw p3 rfl)) I5 rfl rfl rfl i6 ?_;refine h_ 1 rfl i6 ?_;refine e_ rfl (I3 x.1.1 qb) qw rfl ?_;refine ah ?_;refine h_ 3 rfl i6 ?_;refine e_ rfl (I3 nm qb) qw rfl ?_;refine xB ?_;refine w_ 4 rfl ((B_ rfl rfl).eq (v':=.bool q) (qn hq.symm)) ?_;refine wd [] ?_;refine O9 ?_;refine aI rfl ?_ ?_<;>intro _
  ·intro a2 w2 q0 h4;have p:=B6 h4;have y1:=ae Z rfl g p (fun r e=>by cases e);obtain⟨X,hs,h7,z⟩:=fy y1;refine(?_:GN (some l) 3 prog 18 _ _ [(7,B x.1.2),(4,l9 u),(5,l9 i)] (q_ w2 X) (SS u i [] false)) a2 w2 (q0.sub sub) h7;refine M6 ?_;refine dK (.inr (by intro o ho c;simp at ho;rcases ho with rfl|rfl|rfl<;>simp)) ?_;refine f_ oF ?_;refine cd rfl rfl uh pa rfl rfl ?_;refine cd rfl rfl uh pa rfl rfl ?_;refine F7 ?_;refine O9 ?_;refine xQ ?_;unfold At;intro a3 w3 v1 q1;exact⟨(KeepsFrom.of_grownBy p (fun j e=>by cases e)).trans (iW hs rfl q1 (fun b T=>by rw[hs.blks] at T;exact T) _),rfl,x,z _ _ q1⟩
  ·refine eH ?_;unfold At;intro a2 V q0 h4;have p:=B6 h4;exact⟨KeepsFrom.of_grownBy p (fun j e=>by cases e),KeepsC.of_grown p,ae Z rfl g p (fun r e=>by cases e)⟩
 ·intro D xs W hD v2 Z hK;obtain⟨X,hs,h7,z⟩:=fy Z;have y2:D∉X:=fun T=>by
   obtain⟨o,h5,h6⟩:=hs.cells (by rfl) D T;have q2:W.heap[D]? =some o:=h5;rw[hK] at q2;cases q2;cases h6
  have y3:(q_ W X).heap D=some (.deferred (some [])):=by simp[q_,E4,y2,hK]
  rw[iX f _];refine wpIn_seq ?_;refine(wpIn_wide (n:=5)).2 (ue (K:=fun a' w'=>G4 18 [(4,l9 u),(5,l9 i)] a'/\Hp (q_ W X) w' (SS u i [] false)) (Kp:=fun _ _=>False) (R:=fun _ _=>False) [_] ?_ ?_ (fun _ _ _ h=>h.elim) (fun _ _ h=>h.elim) (f.sub (L':=[(4,l9 u),(5,l9 i)]) sub) h7)
  ·refine cd rfl rfl uh pa rfl rfl ?_;refine cd rfl rfl uh pa rfl rfl ?_;refine F7 ?_;exact o_ sub i_
  ·rintro a9 w9 ⟨h8,q3⟩;have q4:w9.heap[D]? =some (.deferred (some [])):=q3.keep D _ y3;have J:=ae (z _ _ q3) rfl g (grownBy_putObj' w9 D (.deferred none)) (fun r e=>by cases e;exact⟨hD,_,q4,rfl⟩);refine wpIn_ret ?_;have T:=(fz (n:=5) (P:=prog) (fn:=Tryz.f404) (R:=fun e w'=>∃v A,e=.returned v/\((∃(t:Bs) (ok:Bool),v=.tuple #[B t,.bool ok]/\t.length<=m.length)/\A=[])/\Hp (q_ w0 []) w' A) (a:=qQ [{target:=.collected D,args:=#[]}] a9) (w:=w9) (D:=D) (ds:=[]) (by show a9.defers++_=_;rw[h8.defers];rfl) rfl q4 ⟨_,pM rfl (h8.eval (x:=.tmp 4) rfl) (h8.eval (x:=.tmp 5) rfl) (kf (J.blk ud)) (kf (J.blk ud)),_,[],rfl,⟨⟨_,_,rfl,zw _⟩,rfl⟩,M _ _ J.dropAll⟩).2;exact T
 ·intro D c pre W hD z0 z2 hK;obtain⟨rfl,x,Z⟩:=z2;have J:=ae Z rfl g (grownBy_putObj' W D (.deferred none)) (fun r e=>by cases e;exact⟨hD,_,hK,rfl⟩);rw[iX f _];refine wpIn_ret ?_;have T:=(fz (n:=5) (P:=prog) (fn:=Tryz.f404) (R:=fun e w'=>∃v A,e=.returned v/\((∃(t:Bs) (ok:Bool),v=.tuple #[B t,.bool ok]/\t.length<=m.length)/\A=[])/\Hp (q_ w0 []) w' A) (a:=qQ [{target:=.collected D,args:=#[]}] a) (w:=W) (D:=D) (ds:=[]) (by show a.defers++_=_;rw[f.defers];rfl) rfl hK ⟨_,pM rfl (f.eval (x:=.tmp 4) rfl) (f.eval (x:=.tmp 5) rfl) (kf (J.blk ud)) (kf (J.blk ud)),_,[],rfl,⟨⟨_,_,rfl,x.2.2⟩,rfl⟩,M _ _ J.dropAll⟩).2;exact T
theorem Hz{h:l_}{l:List BM}{bs:List Nat}(hs:A3 h (V9 l) bs):∀b∈l,o0 h b.a (qH b.ls):=fun b a=>dR hs (jx.2 ⟨b,a,rfl⟩)
abbrev SV(m:MM)(r:RQ)(q:QL)(h:l_):Prop:=(∀b∈m.a5F,iz b.ls h)/\dC r q h
def OpQ(b:Nat)(r:RQ)(q:QL)(e:AR)(h:l_)(v:Value)(A:List As):Prop:=∃m' o y,v=.int .i64 e.2.2/\A=[R9 b m' r q o y]/\m'.s=e.1/\(e.2.2=0->o=e.2.1)/\iB m' h/\L_ o y h
def HB(f:FuncId)(b:Nat)(m:MM)(r:RQ)(q:QL)(e:AR):Prop:=Cm prog f [l9 b] (SV m r q) (R9 b m r q B9 M9::uL m) (OpQ b r q e)
theorem C9{N:Nat}{L:G0}{F g:l6}{H R:List As}{fn:Func}{t b:Nat}{e:AR}{r:RQ}{q:QL}(a:MM)(o:OC)(y:OL)(i:fn.results=#[.tmp t])(hv:find L t=some (.int .i64 e.2.2))(hl:g.le F)(hH:∀w,Hp F w H->Hp F w (R9 b a r q o y::(uL a++R)))(hs:a.s=e.1)(j:e.2.2=0->o=e.2.1)(hf:∀b∈a.a5F,iz b.ls F.heap)(k:L_ o y F.heap):At N (CP prog fn g R (OpQ b r q e)) L F H:=by
 refine At.weaken (H':=(R9 b a r q o y::R)++uL a) ?_ (fo.refl _) (fun w l=>(hH w l).perm (List.Perm.cons _ kz));refine dL fun m c ⟨u,f⟩=>?_;refine H3 (A:=[R9 b a r q o y]) (v:=.int .i64 e.2.2) (hl.trans c) ⟨a,o,y,rfl,rfl,hs,j,?_,Mn.le c.heap k⟩ ?_
 ·obtain⟨_,x,_,n,_,z,_,p,_,C,_,s,h⟩:=f;have d:A3 m.heap (uL a) _:=⟨_,_,rfl,n,_,_,rfl,p,_,_,rfl,s,h⟩;exact⟨A3.rd d ud,A3.rd d ud,A3.rd d ud,fun b f=>⟨Hz h b f,Mn.le c.heap (hf b f)⟩⟩
 ·exact d_ i hv _ qh i_
theorem Ms(b:Nat)(m:MM)(r:RQ)(q:QL):HB 58 b m r q (m.s,B9,0):=by
 refine y4 3 func58 rfl rfl rfl ?_;rintro F R ⟨a,c⟩;refine L7 ?_;exact C9 m B9 M9 rfl rfl (l6.le_refl _) i_ rfl (fun _=>rfl) a (L_.zero _)
theorem HC(b:Nat)(m:MM)(r:RQ)(q:QL)(hs:m.a5R<=D9):HB 65 b m r q (lh m.s):=by
 refine y4 18 func65 rfl rfl rfl ?_;rintro F R ⟨a,g⟩;have h:m.a5R<=9223372036854775807:=hs;obtain⟨e,d⟩:=o7 (decide (m.a5R=D9));refine cG ?_;refine f_ ((p8 rfl rfl).eq (v':=.bool e) (qn ((zp.2 (by show _↔m.a5R=9223372036854775807;omega)).trans d.symm))) ?_;refine u7 ?_
 cases e
 ·have c:m.a5R≠D9:=zq d.symm;have i:m.a5R≠9223372036854775807:=c;have f:lh m.s=({m.s with a5R:=m.a5R+1},B9,0):=zk c;rw[f];refine au ?_;refine f_ ((K_ rfl rfl qb).eq (v':=.int .u64 ((m.a5R+1:Nat):Int)) (by congr 1)) ?_;refine JP ?_;exact C9 {m with a5R:=m.a5R+1} B9 M9 rfl rfl (l6.le_refl _) i_ rfl (fun _=>rfl) a (L_.zero _)
 ·have c:m.a5R=D9:=qr d.symm;have f:lh m.s=(m.s,B9,13):=zu c;rw[f];refine C8 ?_;exact C9 m B9 M9 rfl rfl (l6.le_refl _) i_ rfl qx a (L_.zero _)
theorem SY{F:l6}{w:World}{x y z:As}{T:List As}(h:Hp F w (x::y::z::T)):Hp F w (z::x::T):=(h.perm (List.Perm.trans (List.Perm.swap y x (z::T)) (List.Perm.cons y (List.Perm.swap z x T)))).drop
abbrev PD(b:Nat)(m:MM)(r:RQ)(q:QL)(o:OC)(y:OL)(h:l_):Prop:=h b=some (.cells (NZ m r q o y).toArray 136 (0,0))
theorem Mt(b g:Nat)(m:MM)(r:RQ)(q:QL)(o:OC)(y:OL)(x:SX):Pu prog 107 [.agg (nj x).toArray,l9 g] (fun h=>aK g (l9 b) 132 h/\PD b m r q o y h) (.bool (decide (x.ses=r.ses))):=by
 refine b_ 12 func107 rfl rfl rfl ?_;rintro F ⟨hf,a⟩;refine C6 ?_;refine m9 rfl rfl ?_;intro c;refine p_ ?_;refine D8 [1,2,6] [] [.blk c (.cells (nj x).toArray 102)] 9 ?_;refine wd [0,1,2,3,4,5,6] ?_;refine w_ 7 rfl ((p8 rfl rfl).eq (dN x.ses r.ses)) ?_;refine wd [8] ?_;refine A2 ?_;exact d_ rfl rfl [] qh (fun w d=>d.dropAll)
theorem PF(b:Nat)(m:MM)(r:RQ)(q:QL)(g:m.a5H.length<=1000):HB 57 b m r q (Pe m.s r):=by
 refine y4 14 func57 rfl rfl rfl ?_;rintro F R ⟨c,e⟩;refine C6 ?_;refine L2 rfl rfl rfl ?_;intro a;refine p_ ?_;refine D8 [0,1,5] [7,11] [.blk a (.cells #[l9 b] 132),R9 b m r q B9 M9] 12 ?_;refine wd [0,1,2,3,4,5,6] ?_;refine h_ 7 rfl i6 ?_;refine c_ (oK m.a5H m.sa m.sc 107 [l9 a] (fun h=>aK a (l9 b) 132 h/\PD b m r q B9 M9 h) (fun x=>decide (x.ses=r.ses)) (fun x _=>Mt b a m r q B9 M9 x) qb) ?pre ?_;(case pre=>exact fun h i d=>⟨I_ d,I_ d⟩);rintro v A ⟨rfl,rfl⟩;refine gj [8,9,10,11] ?_;refine C8 ?_;exact C9 {m with a5H:=m.a5H.filter fun x=>!decide (x.ses=r.ses)} B9 M9 rfl rfl (l6.le_refl _) (fun w f=>SY f) rfl (fun _=>rfl) c (L_.zero _)
theorem wA(l:List BM)(i:Nat):(fb l).take (i*5)=fb (l.take i):=aA p7 l i
theorem wB(l:List BM)(i:Nat):(fb l).drop (i*5)=fb (l.drop i):=kY p7 l i
theorem DP(l:List BM)(a:Option Addr)(c i:Nat)(C:i<l.length)(hl:l.length<=1000000):Ct prog 113 [.slice a l.length c,.int .i64 (i:Nat),.int .i64 ((i+1:Nat):Int)] (fun _=>True) [S9 a l c] (fun v A=>v=.slice a (l.eraseIdx i).length c/\A=[S9 a (l.eraseIdx i) c]):=by
 refine b_ 33 func113 rfl rfl rfl ?_;intro F _;have O:(l.eraseIdx i).length=l.length-1:=by rw[List.length_eraseIdx,zu C]
 have o:(l.drop (i+1)).length=l.length-(i+1):=z8;refine B4 (a:=a) (n:=l.length) (c:=c) (sz:=5) (xs:=fb l) (te:=100) ud fun f p q=>?_;obtain⟨b,d⟩:∃D:List BM,D=l.drop (l.length-1):=⟨_,rfl⟩;have J:L5 (fb l) (i*5) (fb (l.drop (i+1)))=fb (l.eraseIdx i++b):=by
  unfold L5;rw[wA,ni,o,<-Q0,wB,show i+(l.length-(i+1))=l.length-1 from by omega,<-d,Kn];simp only[Kk]
 refine cG ?_;refine f_ (fL rfl rfl rfl rfl qb) ?_;refine y9 ?_;refine f_ ((p8 rfl rfl).eq (v':=.bool false) (qn qj)) ?_;refine E5 ?_;refine xP ([],[],[]) [S9 a l c] 8 rfl ?_;refine wd [0,1] ?_;refine w_ 2 rfl ((B5 rfl rfl rfl qb).eq (v':=.slice a i c) (by simp[dW])) ?_;refine wd [3,4] ?_;refine w_ 5 rfl (B5 rfl rfl rfl qb) ?_;refine h_ 6 rfl i6 ?_;refine tL (a:=a) (n:=l.length) (k:=i) (m:=l.length-(i+1)) (news:=fb (l.drop (i+1))) rfl ((show∀{u v:Value},u=v->some u=some v from fun h=>by rw[h]) (by congr 1)) uh uh ?_ (by rw[ni,o]) qp (Ax _) qb rfl ?_;·(intro w r;have s:=((r.ownN (t:=100) ud).2.2.1:o0 _ a (fb l)).cut f p (i+1) l.length qb (z1 _);rw[wB,jq (by rw[ni,o];omega)] at s;exact s)
 refine E6 [7] ?_;rw[J];refine O2 ?_;refine f_ (B5 rfl rfl rfl qb) ?_;refine jL (a:=a) (n:=l.length) (c:=c) (sz:=5) (lo:=i+(l.length-(i+1))) (xs:=fb (l.eraseIdx i++b)) (te:=100) rfl qb qb rfl rfl (fun x=>uh) ?_;intro x M g;refine L7 ?_;have y:i+(l.length-(i+1))=(l.eraseIdx i).length:=by omega
 rw[y] at g;have e:x.take ((l.eraseIdx i).length*5)=fb (l.eraseIdx i):=by rw[g,wA,K9]
 exact d_ rfl rfl _ ⟨by rw[y],rfl⟩ (fun w r=>by have z:=r.cutOwn (j:=(l.eraseIdx i).length) uh qb;rw[e] at z;exact z)
theorem Br(l:List BM)(a:Bs):(l.map BM.x).findIdx? (fun b=>decide (b.name=a))=l.findIdx? fun b=>decide (b.name=a):=by
 rw[List.findIdx?_map];rfl
theorem gD{m:MM}{a:Bs}(h:D1 (fun b:BM=>decide (b.name=a)) m.a5F<0):xD m.s a=none:=by
 unfold D1 at h;unfold xD;rw[Br]
 cases e:m.a5F.findIdx? fun b=>decide (b.name=a) with
 |none=>rfl
 |some i=>rw[e] at h;simp only[Option.elim] at h;omega
theorem gE{m:MM}{a:Bs}(h:¬D1 (fun b:BM=>decide (b.name=a)) m.a5F<0):∃i:Nat,D1 (fun b:BM=>decide (b.name=a)) m.a5F=(i:Nat)/\i<m.a5F.length/\xD m.s a=some i:=by
 unfold D1 at h⊢;unfold xD;rw[Br]
 cases e:m.a5F.findIdx? fun b=>decide (b.name=a) with
 |none=>rw[e] at h;simp only[Option.elim] at h;omega
 |some i=>exact⟨i,rfl,(kg.1 e).1,rfl⟩
theorem sr{α β:Type}(f:α->β):∀(l:List α) (i:Nat),(l.eraseIdx i).map f=(l.map f).eraseIdx i
 |[],_=>rfl
 |_::_,0=>rfl
 |x::t,i+1=>by simp only[List.eraseIdx_cons_succ,Qu,sr f t i]
theorem L1{l:List BM}{i:Nat}(a:i<l.length):(V9 l).Perm (O0 l[i].a l[i].ls l[i].c::V9 (l.eraseIdx i)):=by
 have e:l.Perm (l[i]::l.eraseIdx i):=by
  rw[Kn];have c:l=l.take i++l[i]::l.drop (i+1):=by rw[<-Qg a,Qk]
  conv=>lhs;rw[c]
  exact Qd
 exact e.map fun b=>O0 b.a b.ls b.c
theorem HD{F:l6}{w:World}{x y u v:As}{l:List BM}{i:Nat}{R:List As}(a:i<l.length)(h:Hp F w (x::y::u::v::(V9 l++R))):Hp F w (y::u::v::x::(V9 (l.eraseIdx i)++R)):=by
 have b:Hp F w ([x,y,u,v]++((O0 l[i].a l[i].ls l[i].c::V9 (l.eraseIdx i))++R)):=h.perm (((L1 a).append_right R).append_left [x,y,u,v]);have c:Hp F w (O0 l[i].a l[i].ls l[i].c::([x,y,u,v]++(V9 (l.eraseIdx i)++R))):=b.perm Qd;exact c.drop.perm (kz (l₁:=[x]) (l₂:=[y,u,v])|>.append_right _)
theorem DQ(b:Nat)(m:MM)(r:RQ)(q:QL)(k:m.a5F.length<=1000):HB 60 b m r q (bM m.s r):=by
 refine y4 37 func60 rfl rfl rfl ?_;rintro F R ⟨a,l⟩;refine p_ ?_;refine D8 [3,8] [9] [R9 b m r q B9 M9] 11 ?_;refine wd [0,1,2,3,4,5,6,7,8] ?_;refine h_ 9 rfl i6 ?_;refine e_ rfl (oJ m r.box k) (fun h p ⟨s,g⟩=>A3.rd g ud) rfl ?_;refine E6 [10] ?_;obtain⟨e,j⟩:=o7 (decide (r.box=cS));refine au ?_;refine f_ ((B_ rfl rfl).eq (v':=.bool e) (qn j.symm)) ?_;refine p_ ?_
 cases e
 ·have f:r.box≠cS:=zq j.symm;refine eI ?_ ?_<;>intro h
  ·have c:bM m.s r=(m.s,B9,6):=(by unfold bM;rw[zk f,gD (qr h)]);rw[c];refine C8 ?_;exact C9 m B9 M9 rfl rfl (l6.le_refl _) i_ rfl qx a (L_.zero _)
  ·obtain⟨i,n,d,ha⟩:=gE (zq h);have c:bM m.s r=({m.s with a5F:=m.s.a5F.eraseIdx i},B9,0):=(by unfold bM;rw[zk f,ha]);rw[c,n];refine wk 8 ?_;refine f_ ((p9 rfl rfl qb).eq (v':=.int .i64 ((i+1:Nat):Int)) (by congr 1)) ?_;refine c_ (DP m.a5F m.ba m.bc i d qb) qw ?_;rintro v A ⟨rfl,rfl⟩;refine JP ?_;exact C9 {m with a5F:=m.a5F.eraseIdx i} B9 M9 rfl rfl (l6.le_refl _) (fun w o=>HD d o) (by simp only[MM.s,sr]) (fun _=>rfl) (fun b g=>a b (Jg g)) (L_.zero _)
 ·have f:r.box=cS:=qr j.symm;have c:bM m.s r=(m.s,B9,1):=zu f;rw[c];refine C8 ?_;exact C9 m B9 M9 rfl rfl (l6.le_refl _) i_ rfl qx a (L_.zero _)
theorem dp{P:Program}{dst:Option Nat}{x:Operand}{t ty:TypeId}{pos:String}{af:Array Edge}{gd:Option (Nat×Bool)}{L:G0}{F:l6}{H:List As}{b o n:Nat}{l vs:List Value}{te:TypeId}{fr:Nat×Nat}[ha:HA P t true][hs:HS P t n](hx:ev L x=some (.pointer (some ⟨b,o,none⟩)))(c:F.heap b=some (.cells l.toArray te fr))(hv:dP l o n vs):dv P ⟨dst,.load t x,ty,pos,af,gd⟩ L F H (.agg vs.toArray):=by
 have h:=hv.get;refine w8 hx (fun w d=>⟨_,rfl,fun j q a=>?_⟩) (by rw[h.2,zm,z8];omega);have f:=d.keep b _ c;have g:w.heap[b]? =some (.cells l.toArray te fr):=f;have e:(⟨b,o,none⟩:Addr).add j=⟨b,o+j,none⟩:=Addr.add_lit _ _ _;rw[e];rw[h.2,Wb] at a;split at a
 ·rw[Zu] at a;simp[l_.cell?,hp,g,a]
 ·cases a
abbrev dq(m:MM)(i:Nat):Value:=.pointer (N0 m.ba (i*5))
def fQ(m:MM):Option Nat->Value
 |none=>.tuple #[.pointer none,.bool false]
 |some i=>.tuple #[dq m i,.bool true]
theorem eS{m:MM}{i:Nat}(h:i<m.a5F.length):ak m.s i=m.a5F[i].x:=by
 unfold ak;rw[zd,Zb,zj h];rfl
theorem pN{m:MM}{r:RQ}{i:Nat}(h:named m.s r=some i):i<m.a5F.length:=by
 unfold named at h;obtain⟨j,b,a⟩:=zc.1 h;split at a
 ·cases a
  unfold xD at b;have:=(kg.1 b).1;simpa using this
 ·cases a
theorem ed(b:Nat)(m:MM)(r:RQ)(q:QL)(o:OC)(y:OL)(k:m.a5F.length<=1000):Pu prog 116 [l9 b] (fun h=>PD b m r q o y h/\o0 h m.ba (fb m.a5F)) (fQ m (named m.s r)):=by
 refine b_ 41 func116 rfl rfl rfl ?_;rintro F ⟨l,a⟩;refine y9 ?_;refine D8 [3,8] [9] [] 11 ?_;refine wd [0,1,2] ?_;refine M4 3 rfl (dp rfl l ga) I5 rfl rfl rfl i6 ?_;refine wd [4,5,6,7,8] ?_;refine h_ 9 rfl i6 ?_;refine e_ rfl (oJ m r.box k) (fun h n _=>a.le n) rfl ?_;refine E6 [10] ?_;by_cases hn:D1 (fun b:BM=>decide (b.name=r.box)) m.a5F<0
 ·have e:named m.s r=none:=by unfold named;rw[gD hn];rfl
  rw[e];refine u7 ?_;refine D8 [7,11,16] [] [] 19 ?_;refine wd [0] ?_;refine w_ 1 rfl ((E_ rfl rfl).eq (v':=.bool true) (qn (kr hn))) ?_;refine wd [2,3,4,5,6,7,8,9,10,11,12,13,14,15,16,17,18] ?_;refine L7 ?_;exact r7 rfl rfl rfl [] qh i_
 ·obtain⟨i,p,c,ha⟩:=gE hn;have d:=y7 a p7 qp c;obtain⟨e,f⟩:=o7 (decide (m.a5F[i].val=r.val));have g:named m.s r=if m.a5F[i].val=r.val then some i else none:=by
   unfold named;rw[ha,z6,eS c]
  rw[p];refine u7 ?_;refine D8 [7,11,16] [] [] 19 ?_;refine wd [0] ?_;refine w_ 1 rfl ((E_ rfl rfl).eq (v':=.bool false) (qn qj)) ?_;refine wd [2,3,4,5,6,7,8,9,10] ?_;(first|refine s_ 11 ?_|refine t_ 11 ?_|refine il 11 rfl (i8 rfl (fun w s=>cH (j:=1) (a.le s.keep) p7 c rfl x6)) I5 rfl rfl rfl rfl rfl rfl i6 ?_);refine wd [12,13,14,15,16] ?_;(first|refine s_ 17 ?_|refine t_ 17 ?_|refine F6 17 rfl ((M1 rfl rfl).eq (v':=.bool (!e)) (jk (fun x=>Value.bool (!x)) ((zp.2 Ju).trans f.symm))) rfl rfl rfl rfl rfl rfl i6 ?_);refine wd [18] ?_
  cases e
  ·rw[g,zk (zq f.symm)];refine L7 ?_;exact r7 rfl rfl rfl [] qh i_
  ·rw[g,zu (qr f.symm)];refine wk 9 ?_;refine A2 ?_;exact r7 rfl rfl rfl [] ⟨by simp[fQ],rfl⟩ i_
def Y7(l:List LM):Nat:=(l.getLast?.map fun x=>x.t.uid).getD 0
theorem pO(b:BM):vB b.x=Y7 b.ls:=by
 unfold vB Y7;rw[List.getLast?_map,J0];rfl
abbrev iG(g2 g5:Nat):Value:=.func (.func 195) #[] #[l9 g2,l9 g5]
theorem pP(b:Nat)(m:MM)(i:Nat)(g:i<m.a5F.length)(hl:m.a5F[i].ls.length<=1000):Ct prog 118 [l9 b,dq m i] (fun h=>o0 h m.ba (fb m.a5F)/\o0 h m.a5F[i].a (qH m.a5F[i].ls)) [] (fun v A=>∃c d,v=iG c d/\A=[.blk d (.cells #[.int .u64 (Y7 m.a5F[i].ls:Nat)] 27),.blk c (.cells #[l9 b] 132)]):=by
 refine b_ 24 func118 rfl rfl rfl ?_;rintro F ⟨a,e⟩;have k:=y7 a p7 qp g;refine C6 ?_;refine L2 rfl rfl rfl ?_;intro c;refine xC ?_;refine ce rfl rfl ?_;intro d;refine O2 ?_;refine r_ (i8 rfl (fun w f=>cH (j:=4) (a.le f.keep) p7 g rfl x6)) ?_;refine O2 ?_;refine n7 (ι:=Unit) (fun _=>True) (fun _=>[(2,l9 c),(5,l9 d)]) (fun _=>[.blk d (.cells #[.int .u64 (Y7 m.a5F[i].ls:Nat)] 27),.blk c (.cells #[l9 b] 132)]) ?_ ?_
 ·refine o8 rfl ?_ ?_<;>intro h
  ·have hp:0<m.a5F[i].ls.length:=(by have:=qr h;omega);have n:=y7 e A_ qp (i:=m.a5F[i].ls.length-1) qb;have l:Y7 m.a5F[i].ls=m.a5F[i].ls[m.a5F[i].ls.length-1].t.uid:=by
    unfold Y7;rw[Jy,zj qb];rfl
   rw[l];refine E5 ?_;refine r_ (i8 rfl (fun w f=>cH (j:=4) (a.le f.keep) p7 g rfl x6)) ?_;refine p_ ?_;refine f_ ((E0 rfl rfl qb).eq (v':=.int .i64 ((m.a5F[i].ls.length-1:Nat):Int)) (by congr 1;omega)) ?_;refine y9 ?_;refine r_ (i8 rfl (fun w f=>cH (j:=0) (e.le f.keep) A_ (i:=m.a5F[i].ls.length-1) qb rfl x6)) ?_;refine p_ ?_;exact g_ () trivial i_
  ·have hp:m.a5F[i].ls.length=0:=(by have:=zq h;omega);have l:Y7 m.a5F[i].ls=0:=by
    unfold Y7;rw[Jy,List.getElem?_eq_none qb];rfl
   rw[l];refine u7 ?_;exact g_ () trivial i_
 rintro _ _;refine L7 ?_;exact d_ rfl rfl _ ⟨c,d,rfl,rfl⟩ i_
theorem HE(l m:List Bs)(a b:Option Addr)(c d:Nat)(hl:l.length<=1000000000000):Pu prog 51 [.slice a l.length c,.slice b m.length d] (fun h=>o0 h a (fV l)/\o0 h b (fV m)) (.bool (decide (l=m))):=by
 refine b_ 26 func51 rfl rfl rfl ?_;intro F u;have j:=u.1;have n:=u.2;refine cG ?_;refine o8 rfl ?_ ?_<;>intro h
 ·have f:l≠m:=by rintro rfl;simp at h
  rw[jc f];refine C8 ?_;exact d_ rfl rfl [] qh (fun _ h=>h)
 have o:l.length=m.length:=by simp at h;omega
 refine E5 ?_;refine o9 (ι:=Nat) (fun k=>k<=l.length/\∀i,i<k->l.getD i []=m.getD i []) (fun k=>[(0,.slice a l.length c),(1,.slice b m.length d),(12,.int .i64 (l.length:Nat)),(13,.int .i64 (k:Nat))]) (fun k=>[]) (fun k=>l.length-k) 0 ⟨by omega,fun i h=>by omega⟩ ?_ ?_ ?_
 ·exact sub
 ·intro w g;exact g
 intro k v;obtain⟨v,p⟩:=v;refine R6 ?_ ?_<;>intro h
 ·have r:k<l.length:=by simp at h;omega
  have s:=cg j r;have q:=cg n (i:=k) qb;refine y9 ?_;refine Aj [3,7] [] 9 ?_;refine wd [0,1,2] ?_;refine M4 3 rfl (i8 rfl (fun w g=>OT g j (i:=k) qb qb)) I5 rfl rfl rfl i6 ?_;refine wd [4,5,6] ?_;refine M4 7 rfl (i8 rfl (fun w g=>OT g n (i:=k) qb qb)) I5 rfl rfl rfl i6 ?_;refine wd [8] ?_;refine o8 rfl ?_ ?_<;>intro t
  ·have f:l≠m:=(by rintro rfl;simp at t);rw[jc f];refine C8 ?_;exact d_ rfl rfl [] qh (fun _ h=>h)
  ·have y:l.getD k []=m.getD k []:=(by first|(simpa using t)|(simp at t⊢;omega));refine C6 ?_;refine f_ ((p9 rfl rfl qb).eq (v':=.int .i64 ((k+1:Nat):Int)) (by congr 1)) ?_;refine p_ ?_;refine l8 (k+1) ⟨by omega,fun i x=>?_⟩ qb ?_ ?_
   ·rcases kd.1 x with z|rfl
    ·exact p i z
    ·exact y
   ·exact sub
   ·intro w g;exact g
 ·have A:k=l.length:=by simp at h;omega
  have e:l=m:=Gn o fun i x=>p i qb;rw[kr e];refine C8 ?_;exact d_ rfl rfl [] qh (fun _ h=>h)
theorem Bt{l:List Bs}{i:Nat}(h:i<l.length):l.getD i []=l[i]:=by
 rw[zd,zj h];rfl
theorem Mu(l:List Bs)(a:Option Addr)(c:Nat)(f:Bs)(hl:l.length<=1000000000000):Pu prog 273 [.slice a l.length c,B f] (fun h=>o0 h a (fV l)) (.int .i64 (D1 (fun x=>decide (x=f)) l)):=by
 refine b_ 19 func273 rfl rfl rfl ?_;intro F e;refine O2 ?_;refine o9 (ι:=Nat) (fun j=>j<=l.length/\∀i (g:i<l.length),i<j->decide (l[i]=f)=false) (fun j=>[(0,.slice a l.length c),(1,B f),(7,.int .i64 (l.length:Nat)),(8,.int .i64 (j:Nat))]) (fun _=>[]) (fun j=>l.length-j) 0 ⟨zw _,fun i _ h=>by omega⟩ sub i_ ?_;rintro j ⟨p,d⟩;refine R6 ?_ ?_<;>intro h
 ·have b:j<l.length:=by have:=qr h;omega
  have k:=cg e b;refine cG ?_;refine r_ (i8 rfl (fun w n=>OT n e (i:=j) qb b)) ?_;refine f_ ((B_ rfl rfl).eq (v':=.bool (decide (l[j]=f))) (qn (zp.2 (by rw[Bt b];exact eq_comm)))) ?_;refine N8 ?_ ?_<;>intro m
  ·refine L7 ?_;exact d_ rfl rfl [] ⟨by rw[N5 b m d],rfl⟩ i_
  ·refine y9 ?_;refine l8 (j+1) ⟨b,fun i g h=>?_⟩ qb sub i_;rcases kd.1 h with o|rfl
   ·exact d i g o
   ·exact m
 ·have b:j=l.length:=by have:=zq h;omega
  refine C8 ?_;exact d_ rfl rfl [] ⟨by rw[N4 fun i g=>d i g qb],rfl⟩ i_
theorem Mv(l:List Bs)(f:Bs):l.any (fun x=>decide (x=f))=decide (f∈l):=by
 rw[Kz,Jk,Jc];constructor
 ·rintro⟨x,a,h⟩;exact qr h▸a
 ·exact fun h=>⟨f,h,kr rfl⟩
theorem Bu(l:List Bs)(a:Option Addr)(c:Nat)(f:Bs)(hl:l.length<=1000000000000):Pu prog 200 [.slice a l.length c,B f] (fun h=>o0 h a (fV l)) (.bool (decide (f∈l))):=by
 refine b_ 9 func200 rfl rfl rfl ?_;intro F b;refine E5 ?_;refine e_ rfl (Mu l a c f hl) (fun h d _=>b.le d) rfl ?_;refine f_ ((I4 rfl rfl).eq (qn ((fI (fun x=>decide (x=f)) l).trans (Mv l f)))) ?_;refine C8 ?_;exact d_ rfl rfl [] qh i_
theorem uq(l:List Bs)(a:Option Addr)(c:Nat)(f:Bs)(hl:l.length<=1000000000000):Pu prog 121 [.slice a l.length c,B f] (fun h=>o0 h a (fV l)) (.bool (decide (f∈l))):=by
 refine b_ 8 func121 rfl rfl rfl ?_;intro F b;refine E5 ?_;refine e_ rfl (Bu l a c f hl) (fun h d _=>b.le d) rfl ?_;refine C8 ?_;exact d_ rfl rfl [] qh i_
theorem wC(l:List Bs):G1 l=(l.all (fun f=>decide (E3 f=some f))&&(decide (l.length<=16)&&decide (l=T3 l))):=by
 unfold G1;have h:ol l=decide (l=T3 l):=by
  rw[Kz,Jc];exact⟨fun h=>(CG (kT h)).symm,fun h=>kU (by rw[h];exact mW l)⟩
 rw[h,Bool.and_assoc,W3 (decide (l=T3 l))]
theorem gG(l:List Bs)(a:Option Addr)(c:Nat)(hl:l.length<=1000000)(t:∀f∈l,f.length<=lp):Pu prog 114 [.slice a l.length c] (fun h=>o0 h a (fV l)) (.bool (G1 l)):=by
 refine b_ 35 func114 rfl rfl rfl ?_;intro F g;refine O2 ?_;refine o9 (ι:=Nat) (fun j=>j<=l.length/\∀i (r:i<l.length),i<j->E3 l[i]=some l[i]) (fun j=>[(0,.slice a l.length c),(7,.slice a l.length c),(8,.int .i64 (l.length:Nat)),(9,.int .i64 (j:Nat))]) (fun _=>[]) (fun j=>l.length-j) 0 ⟨zw _,fun i _ h=>by omega⟩ sub i_ ?_;rintro j ⟨Q,n⟩;refine R6 ?_ ?_<;>intro h
 ·have d:j<l.length:=by have:=qr h;omega
  have u:=cg g d;obtain⟨o,s⟩:=o7 (E3 l[j]);refine p_ ?_;refine r_ (i8 rfl (fun w y=>OT y g (i:=j) qb d)) ?_;refine p_ ?_;rw[Bt d];refine p_ ?_;refine e_ rfl (dX l[j] (t _ (zx d))) qw rfl ?_;rw[<-s];refine au ?_;have k:E3 l[j]≠some l[j]->G1 l=false:=fun z=>by
   rw[wC,List.all_eq_false.2 ⟨l[j],zx d,by simpa using z⟩];rfl
  cases o with
  |none=>
   refine NN ?_;exact d_ rfl rfl [] ⟨by rw[k (by rw[<-s];simp)],rfl⟩ i_
  |some x=>
   obtain⟨q,m⟩:=o7 (decide (x=l[j]));refine au ?_;(first|refine u_ ?_|(refine v_ ?_;refine f_ ((E1 rfl rfl).eq (v':=.bool (!q)) (jk (fun b=>Value.bool (!b)) m.symm)) ?_));refine p_ ?_
   cases q
   ·refine C8 ?_;exact d_ rfl rfl [] ⟨by rw[k (by rw[<-s];intro e;exact zq m.symm (j8 e))],rfl⟩ i_
   ·have C:x=l[j]:=qr m.symm;refine y9 ?_;refine l8 (j+1) ⟨d,fun i r h=>?_⟩ qb sub i_;rcases kd.1 h with J|rfl
    ·exact n i r J
    ·rw[<-s,C]
 ·have d:j=l.length:=by have:=zq h;omega
  have p:l.all (fun f=>decide (E3 f=some f))=true:=Qv.2 fun x C=>by
   obtain⟨i,r,rfl⟩:=Zq C;exact kr (n i r qb)
  rw[wC,p,Km];obtain⟨q,m⟩:=o7 (decide (l.length<=16));rw[<-m];refine u7 ?_
  cases q
  ·refine y9 ?_;refine f_ ((F_ rfl rfl).eq (v':=.bool false) (qn ((qz).trans m.symm))) ?_;refine E5 ?_;(first|refine u_ ?_|(refine v_ ?_;fail));(first|refine u_ ?_|(refine v_ ?_;fail));refine L7 ?_;exact d_ rfl rfl [] qh i_
  ·refine y9 ?_;refine f_ ((F_ rfl rfl).eq (v':=.bool true) (qn ((qz).trans m.symm))) ?_;refine E5 ?_;refine A1 rfl rfl rfl ?_;refine c_ (oX l a c qb) (fun h D _=>g.le D) ?_;rintro v A ⟨M,O,rfl,rfl⟩;refine A1 rfl rfl rfl ?_;refine e_ rfl (HE l (T3 l) a M c O qb) (fun h D ⟨S,t⟩=>⟨g.le D,A3.rd t ud⟩) rfl ?_;refine L7 ?_;exact d_ rfl rfl [] qh (fun w y=>y.dropAll)
abbrev SZ(m:KM):Value:=.agg (bE m).toArray
abbrev Of(x:LM):Value:=.agg (S8 x).toArray
abbrev HG(p:PL):List Value:=[.int .u64 (p.seq:Nat),.int .u64 (p.mseq:Nat),.int .u64 (p.muid:Nat)]
abbrev plA(p:PL):Value:=.agg (HG p).toArray
theorem yO(m:KM)(x:LM)(p:PL)(t:Bs)(M:EQ m.k)(hf:x.t.a5U.length<=1000000)(O:t.length<=1000000000):
  Ct prog 359 [SZ m,Of x,plA p,B t] (fun h=>Gl h/\o0 h m.a (V5 m.k.set)/\o0 h x.a (fV x.t.a5U)) [] Ub:=by
 have Q:=M.1;obtain⟨T,U⟩:=o7 (decide (m.k.kind=5));obtain⟨V,X⟩:=o7 (decide (m.k.kind=6));obtain⟨Y,Z⟩:=o7 (decide (m.k.kind=7));obtain⟨b8,h8⟩:=o7 (decide (m.k.kind=8));obtain⟨b9,h9⟩:=o7 (decide (m.k.kind=9));obtain⟨i,j⟩:=o7 (decide (m.k.kind=10));obtain⟨k,l⟩:=o7 (decide (m.k.kind=11));obtain⟨o,r⟩:=o7 (decide (m.k.kind=12));obtain⟨s,y⟩:=o7 (decide (m.k.kind=13));obtain⟨⟨a,g,b,c,n,f⟩,D,J⟩:=m;simp only at Q U X Z h8 h9 j l r y;have h0:c.length<=2000000000:=M.2.1;have h1:b.length<=2000000000:=M.2.2.1;refine b_ 92 func359 rfl rfl rfl ?_;rintro F ⟨hg,z,S⟩;refine C6 ?_;refine m9 rfl rfl ?_;intro g4;refine m9 rfl rfl ?_;intro g5;refine m9 rfl rfl ?_;intro g6;refine E5 ?_;refine T0 ?_;refine f_ ((p8 rfl rfl).eq (v':=.bool T) (qn ((zp.2 (by show((a:Nat):Int)=5↔a=5;omega)).trans U.symm))) ?_;refine p_ ?_
 cases T
 case true=>
  refine cG ?_;refine e_ rfl (lr f D J p.mseq p.seq qb) (fun h e _=>z.le e) rfl ?_;refine C8 ?_;exact d_ rfl rfl [] ⟨⟨_,rfl⟩,rfl⟩ (fun w d=>d.dropAll)
 refine C6 ?_;refine f_ ((p8 rfl rfl).eq (v':=.bool V) (qn ((zp.2 (by show((a:Nat):Int)=6↔a=6;omega)).trans X.symm))) ?_;refine p_ ?_
 cases V
 case true=>
  refine cG ?_;refine e_ rfl (lr f D J p.muid x.t.uid qb) (fun h e _=>z.le e) rfl ?_;refine C8 ?_;exact d_ rfl rfl [] ⟨⟨_,rfl⟩,rfl⟩ (fun w d=>d.dropAll)
 refine C6 ?_;refine f_ ((p8 rfl rfl).eq (v':=.bool Y) (qn ((zp.2 (by show((a:Nat):Int)=7↔a=7;omega)).trans Z.symm))) ?_;refine p_ ?_
 cases Y
 case true=>
  refine u7 ?_;refine D8 [1,3,6] [4] [.blk g4 (.cells (bE ⟨⟨a,g,b,c,n,f⟩,D,J⟩).toArray 127),.blk g5 (.cells (S8 x).toArray 156)] 10 ?_;refine wd [0,1,2,3,5,6,7] ?_;refine h_ 4 rfl i6 ?_;refine e_ rfl (Bu x.t.a5U x.a x.c b qb) (fun h e _=>S.le e) rfl ?_;refine ah ?_;refine w_ 8 rfl (nL rfl rfl) ?_;refine wd [9] ?_;refine A2 ?_;exact d_ rfl rfl [] ⟨⟨_,rfl⟩,rfl⟩ (fun w d=>d.dropAll)
 refine C6 ?_;refine f_ ((p8 rfl rfl).eq (v':=.bool b8) (qn ((zp.2 (by show((a:Nat):Int)=8↔a=8;omega)).trans h8.symm))) ?_;refine p_ ?_
 cases b8
 case true=>
  refine NM ?_;exact d_ rfl rfl [] ⟨⟨_,rfl⟩,rfl⟩ (fun w d=>d.dropAll)
 refine C6 ?_;refine f_ ((p8 rfl rfl).eq (v':=.bool b9) (qn ((zp.2 (by show((a:Nat):Int)=9↔a=9;omega)).trans h9.symm))) ?_;refine p_ ?_
 cases b9
 case true=>
  refine NM ?_;exact d_ rfl rfl [] ⟨⟨_,rfl⟩,rfl⟩ (fun w d=>d.dropAll)
 refine C6 ?_;refine f_ ((p8 rfl rfl).eq (v':=.bool i) (qn ((zp.2 (by show((a:Nat):Int)=10↔a=10;omega)).trans j.symm))) ?_;refine p_ ?_
 cases i
 case true=>
  refine NM ?_;exact d_ rfl rfl [] ⟨⟨_,rfl⟩,rfl⟩ (fun w d=>d.dropAll)
 refine C6 ?_;refine f_ ((p8 rfl rfl).eq (v':=.bool k) (qn ((zp.2 (by show((a:Nat):Int)=11↔a=11;omega)).trans l.symm))) ?_;refine p_ ?_
 cases k
 case true=>
  refine E5 ?_;refine c_ (C:=[]) (pf t c O qb) (fun h e _=>hg.le e) ?_;rintro v A ⟨⟨q,rfl⟩,rfl⟩;refine C8 ?_;exact d_ rfl rfl [] ⟨⟨_,rfl⟩,rfl⟩ (fun w d=>d.dropAll)
 refine C6 ?_;refine f_ ((p8 rfl rfl).eq (v':=.bool o) (qn ((zp.2 (by show((a:Nat):Int)=12↔a=12;omega)).trans r.symm))) ?_;refine p_ ?_
 cases o
 case true=>
  refine u7 ?_;refine D8 [3] [1,4] [.blk g4 (.cells (bE ⟨⟨a,g,b,c,n,f⟩,D,J⟩).toArray 127)] 6 ?_;refine wd [0,2,3] ?_;refine h_ 1 rfl i6 ?_;refine c_ (C:=[]) (pg t 12 O) (fun h e _=>hg.le e) ?_;rintro v A ⟨⟨u,rfl,hu⟩,rfl⟩;refine ah ?_;refine h_ 4 rfl i6 ?_;refine c_ (C:=[]) (pf u c qb qb) (fun h e _=>hg.le e) ?_;rintro v A ⟨⟨q,rfl⟩,rfl⟩;refine E6 [5] ?_;refine A2 ?_;exact d_ rfl rfl [] ⟨⟨_,rfl⟩,rfl⟩ (fun w d=>d.dropAll)
 refine C6 ?_;refine f_ ((p8 rfl rfl).eq (v':=.bool s) (qn ((zp.2 (by show((a:Nat):Int)=13↔a=13;omega)).trans y.symm))) ?_;refine p_ ?_
 cases s
 case true=>
  refine E5 ?_;refine c_ (C:=[]) (DO t b O qb) (fun h e _=>hg.le e) ?_;rintro v A ⟨⟨u,ok,rfl,hu⟩,rfl⟩;refine au ?_
  cases ok
  all_goals (
   refine au ?_;(first|refine u_ ?_|(refine v_ ?_;refine c_ (C:=[]) (pf u c qb qb) (fun h e _=>hg.le e) ?_;rintro v A ⟨⟨q,rfl⟩,rfl⟩));refine y9 ?_)
  all_goals (refine A2 ?_;exact d_ rfl rfl [] ⟨⟨_,rfl⟩,rfl⟩ (fun w d=>d.dropAll))
 refine C8 ?_;exact d_ rfl rfl [] ⟨⟨_,rfl⟩,rfl⟩ (fun w d=>d.dropAll)
def bG(k:KY):Int:=if k.kind=1/\1<=k.kids then k.kids else if k.kind=2 then 1 else if k.kind=3 then 2 else if 4<=k.kind/\k.kind<=13 then 0 else-1
def Y8(f:Nat->Option Nat):Nat->Nat->Option Nat
 |0,p=>some p
 |n+1,p=>(f p).bind (Y8 f n)
def X0(l:List KY):Nat->Nat->Option Nat
 |0,_=>none
 |f+1,p=>match l[p]? with
  |none=>none
  |some k=>if bG k<0 then none else Y8 (X0 l f) (bG k).toNat (p+1)
theorem Mw(m:KM):Pu prog 402 [SZ m] (fun _=>True) (.int .i64 (bG m.k)):=by
 obtain⟨⟨a,b,c,d,n,e⟩,x,y⟩:=m;obtain⟨z,o⟩:=o7 (decide (a=1));obtain⟨A,p⟩:=o7 (decide (a=2));obtain⟨C,q⟩:=o7 (decide (a=3));obtain⟨D,r⟩:=o7 (decide (4<=a));obtain⟨J,s⟩:=o7 (decide (a<=13));obtain⟨M,t⟩:=o7 (decide (1<=b));obtain⟨v,g⟩:=o7 (bG ⟨a,b,c,d,n,e⟩);show Pu prog 402 _ _ (.int .i64 (bG ⟨a,b,c,d,n,e⟩));rw[<-g];unfold bG at g;simp only at g;refine b_ 31 func402 rfl rfl rfl ?_;intro F _;refine C6 ?_;refine m9 rfl rfl ?_;intro k;refine H9 1 ?_;refine n8 ?_;refine H9 0 ?_;refine w6 [(1,l9 k),(3,.bool (z&&M))] [.blk k (.cells (bE ⟨⟨a,b,c,d,n,e⟩,x,y⟩).toArray 127)] ?_ ?_
 ·cases z
  all_goals (
   refine y9 ?_;refine f_ ((p8 rfl rfl).eq (qn ((zp.2 (by show((a:Nat):Int)=1↔a=1;omega)).trans o.symm))) ?_;refine E5 ?_;(first|refine u_ ?_|(refine v_ ?_;refine f_ ((I4 rfl rfl).eq (qn ((zp.2 (by show 1<=((b:Nat):Int)↔1<=b;omega)).trans t.symm))) ?_));refine y9 ?_)
  all_goals exact o_ sub i_
 refine N8 ?_ ?_<;>intro h
 ·have i:a=1/\1<=b:=by rw[o,t] at h;simpa using h
  refine bS ?_;exact d_ rfl rfl [] ⟨by rw[g];rw[zu i],rfl⟩ (fun w f=>f.drop)
 have i:¬(a=1/\1<=b):=by rw[o,t] at h;simpa using h
 refine y9 ?_;refine f_ ((p8 rfl rfl).eq (v':=.bool A) (qn ((zp.2 (by show((a:Nat):Int)=2↔a=2;omega)).trans p.symm))) ?_;refine p_ ?_
 cases A
 case true=>
  have j:a=2:=qr p.symm;refine C8 ?_;exact d_ rfl rfl [] ⟨by rw[g];rw[zk i,zu j],rfl⟩ (fun w f=>f.drop)
 have j:¬a=2:=zq p.symm;refine y9 ?_;refine f_ ((p8 rfl rfl).eq (v':=.bool C) (qn ((zp.2 (by show((a:Nat):Int)=3↔a=3;omega)).trans q.symm))) ?_;refine p_ ?_
 cases C
 case true=>
  have l:a=3:=qr q.symm;refine C8 ?_;exact d_ rfl rfl [] ⟨by rw[g];rw[zk i,zk j,zu l],rfl⟩ (fun w f=>f.drop)
 have l:¬a=3:=zq q.symm;refine u7 ?_;refine w6 [(1,l9 k),(22,.bool (D&&J))] [.blk k (.cells (bE ⟨⟨a,b,c,d,n,e⟩,x,y⟩).toArray 127)] ?_ ?_
 ·cases D
  all_goals (
   refine y9 ?_;refine f_ ((I4 rfl rfl).eq (qn ((zp.2 (by show 4<=((a:Nat):Int)↔4<=a;omega)).trans r.symm))) ?_;refine E5 ?_;(first|refine u_ ?_|(refine v_ ?_;refine f_ ((F_ rfl rfl).eq (qn ((zp.2 (by show((a:Nat):Int)<=13↔a<=13;omega)).trans s.symm))) ?_));refine y9 ?_)
  all_goals exact o_ sub i_
 refine N8 ?_ ?_<;>intro h
 ·have u:4<=a/\a<=13:=by rw[r,s] at h;simpa using h
  refine C8 ?_;exact d_ rfl rfl [] ⟨by rw[g];rw[zk i,zk j,zk l,zu u],rfl⟩ (fun w f=>f.drop)
 have u:¬(4<=a/\a<=13):=by rw[r,s] at h;simpa using h
 refine C8 ?_;exact d_ rfl rfl [] ⟨by rw[g];rw[zk i,zk j,zk l,zk u],rfl⟩ (fun w f=>f.drop)
theorem HH{k:KY}(h:EQ k):bG k<=2000000000:=by
 have:=h.2.2.2;unfold bG;split
 ·omega
 split
 ·omega
 split
 ·omega
 split<;>omega
abbrev Ta(gl go ga:Nat)(a:Option Addr)(c:Nat)(kl:List KM)(h:l_):Prop:=h gl=some (.cells #[.slice a kl.length c] 33 (0,0))/\h go=some (.cells #[.func (.func 401) #[] #[l9 ga,l9 gl,l9 go]] 350 (0,0))/\o0 h a (qG kl)
abbrev Mx(g p:Nat):As:=.blk g (.cells #[.int .i64 (p:Nat)] 3)
def WhQ(ga:Nat)(kl:List KM)(f p:Nat)(v:Value)(A:List As):Prop:=∃(b:Bool) (q:Nat),v=.bool b/\A=[Mx ga q]/\q<=max p kl.length/\(b=true->X0 (kl.map KM.k) f p=some q)
theorem su(z D ga:Nat)(a:Option Addr)(c:Nat)(l:List KM)(hl:l.length<=1000000)(J:∀m∈l,EQ m.k):∀(f d p:Nat),d+f=10->1<=f->p<=2000000->Ct prog 401 [.int .i64 (d:Nat),l9 ga,l9 z,l9 D] (Ta z D ga a c l) [Mx ga p] (WhQ ga l f p)
 |0,_,_,_,h,_=>by omega
 |f+1,d,p,hdf,_,hp=>by
  have ih:=su z D ga a c l hl J f;refine b_ 35 func401 rfl rfl rfl ?_;rintro F ⟨s,M,t⟩;refine y9 ?_;refine r_ (i8 rfl (fun w u=>I0 u s rfl)) ?_;refine bD ?_ ?_<;>intro h
  ·refine C8 ?_;exact d_ rfl rfl _ ⟨false,p,rfl,rfl,by omega,fun e=>by cases e⟩ i_
  have o:p<l.length:=by have:=zq h;omega
  have Q:∃S,a=some S:=by obtain⟨S,e,_⟩:=t (by intro e;have:=jk List.length e;rw[tE] at this;simp at this;omega);exact⟨S,e⟩
  obtain⟨n,T⟩:=o7 (bG l[p].k);have y:X0 (l.map KM.k) (f+1) p=if n<0 then none else Y8 (X0 (l.map KM.k) f) n.toNat (p+1):=by
   show(match (l.map KM.k)[p]? with|none=>none|some k=>if bG k<0 then none else Y8 (X0 (l.map KM.k) f) (bG k).toNat (p+1))=_;rw[Zb,zj o];simp only[Qj,T]
  refine C6 ?_;refine r_ (i8 rfl (fun w u=>I0 u s rfl)) ?_;refine p_ ?_;refine f_ (m8 rfl Q rfl qb) ?_;refine r_ (w8 rfl (fun w u=>fe (C:=bE) (t.le u.keep) ao qp o x6) (ao _)) ?_;refine e_ rfl (Mw l[p]) qw rfl ?_;rw[<-T];refine y9 ?_;refine f_ ((p9 rfl rfl qb).eq (v':=.int .i64 ((p+1:Nat):Int)) (by congr 1)) ?_;refine p_ ?_;obtain⟨b1,U⟩:=o7 (decide (0<n));obtain⟨b2,V⟩:=o7 (decide (8<d));refine w6 [(0,.int .i64 (d:Nat)),(1,l9 ga),(2,l9 z),(3,l9 D),(6,.int .i64 n),(23,.bool (b1&&b2))] [Mx ga (p+1)] ?_ ?_
  ·cases b1
   all_goals (
    refine p_ ?_;refine f_ ((D_ rfl rfl).eb U) ?_;refine y9 ?_;(first|refine u_ ?_|(refine v_ ?_;refine f_ ((D_ rfl rfl).eq (qn ((qz).trans V.symm))) ?_));refine p_ ?_)
   all_goals exact o_ sub i_
  refine N8 ?_ ?_<;>intro h
  ·refine C8 ?_;exact d_ rfl rfl _ ⟨false,p+1,rfl,rfl,by omega,fun e=>by cases e⟩ i_
  have X:0<n->d<=8:=fun h0=>by
   rw[U,V] at h;simp at h;exact h h0
  have h4:n<=2000000000:=by rw[T];exact HH (J _ (zx o))
  clear h U V;refine H9 0 ?_;refine n7 (ι:=Int×Nat) (fun i=>i.1<=0/\i.2<=l.length/\(n<0->i.1=n)/\(0<=n->0<=i.1/\Y8 (X0 (l.map KM.k) f) n.toNat (p+1)=Y8 (X0 (l.map KM.k) f) i.1.toNat i.2)) (fun i=>[(6,.int .i64 i.1)]) (fun i=>[Mx ga i.2]) ?_ ?_
  ·refine n8 ?_;refine o9 (ι:=Int×Nat) (fun i=>i.1<=n/\i.2<=l.length/\(n<0->i.1=n)/\(0<=n->0<=i.1/\Y8 (X0 (l.map KM.k) f) n.toNat (p+1)=Y8 (X0 (l.map KM.k) f) i.1.toNat i.2)) (fun i=>[(0,.int .i64 (d:Nat)),(1,l9 ga),(2,l9 z),(3,l9 D),(6,.int .i64 i.1)]) (fun i=>[Mx ga i.2]) (fun i=>i.1.toNat) (n,p+1) ⟨Kj _,o,fun _=>rfl,fun h=>⟨h,rfl⟩⟩ sub i_ ?_;rintro⟨x,q⟩ ⟨Y,O,g,j⟩;simp only at Y O g j;refine bD ?_ ?_<;>intro h
   ·have r:0<x:=qr h;have hd:=X qb;refine C6 ?_;refine r_ (i8 rfl (fun w u=>I0 u M rfl)) ?_;refine p_ ?_;refine f_ ((p9 rfl rfl qb).eq (v':=.int .i64 ((d+1:Nat):Int)) (by congr 1)) ?_;refine A0 (ps:=[]) _ rfl rfl rfl (ih (d+1) q qb qb qb) i_ (fun h Z _=>⟨Z _ _ s,Z _ _ M,t.le Z⟩) rfl ?_;rintro v A ⟨b,q',rfl,rfl,h5,ht⟩;refine p_ ?_
    cases b
    ·refine C8 ?_;exact d_ rfl rfl _ ⟨false,q',rfl,rfl,by omega,fun e=>by cases e⟩ i_
    ·refine E5 ?_;refine l8 (i:=(x,q)) (x-1,q') ⟨by simp only;omega,by simp only;omega,fun h=>by simp only;have:=g h;omega,fun h=>⟨by simp only;omega,?_⟩⟩ qg sub i_;obtain⟨hx,he⟩:=j h;rw[he];have e1:x.toNat=(x-1).toNat+1:=(by omega);rw[e1];show(X0 (l.map KM.k) f q).bind _=_;rw[ht rfl];rfl
   ·have r:x<=0:=(by have:=zq h;omega);refine u7 ?_;exact g_ (x,q) ⟨r,O,g,j⟩ i_
  rintro⟨x,q⟩ ⟨r,O,g,j⟩;simp only at r O g j;refine bS ?_;refine d_ rfl rfl _ ⟨decide (x=0),q,rfl,rfl,by omega,fun e=>?_⟩ i_;have hx:x=0:=qr e;have h3:0<=n:=by
   rcases Int.lt_or_le n 0 with h|h
   ·have:=g h;omega
   ·exact h
  obtain⟨_,he⟩:=j h3;rw[y,zk qb,he,hx];rfl
theorem HJ(a:Option Addr)(c:Nat)(d:List KM)(hl:d.length<=1000000)(k:∀m∈d,EQ m.k):Ct prog 357 [.slice a d.length c] (fun h=>o0 h a (qG d)) [] (fun v A=>(∃b:Bool,v=.bool b/\(b=true->X0 (d.map KM.k) 9 0=some d.length))/\A=[]):=by
 refine b_ 17 func357 rfl rfl rfl ?_;intro F l;refine C6 ?_;refine L2 rfl rfl rfl ?_;intro i;refine CO ?_ ?_<;>intro h
 ·refine C8 ?_;exact d_ rfl rfl _ ⟨⟨false,rfl,fun e=>by cases e⟩,rfl⟩ (fun w f=>f.dropAll)
 refine u7 ?_;refine p_ ?_;intro n;refine p_ ?_;refine p_ ?_;intro j;refine y9 ?_;refine B8 (Z:=[.blk i (.cells #[.slice a d.length c] 33),.blk j (.cells #[.func (.func 401) #[] #[l9 n,l9 i,l9 j]] 350)]) tk fun r g o=>?_;have s:r.heap i=some (.cells #[.slice a d.length c] 33 (0,0)):=I_ o;have t:r.heap j=some (.cells #[.func (.func 401) #[] #[l9 n,l9 i,l9 j]] 350 (0,0)):=I_ o;clear o;refine C6 ?_;refine r_ (i8 rfl (fun w f=>I0 f t rfl)) ?_;refine A0 (ps:=[]) _ rfl rfl rfl (su i j n a c d hl k 9 1 0 rfl qp qp) i_ (fun h p _=>⟨p _ _ s,p _ _ t,(l.le g.heap).le p⟩) rfl ?_;rintro v A ⟨b,q,rfl,rfl,y,u⟩
 cases b
 ·refine KN ?_;exact D3 g (d_ rfl rfl [] ⟨⟨false,rfl,fun e=>by cases e⟩,rfl⟩ (fun w f=>f.dropAll))
 ·refine y9 ?_;refine A1 rfl rfl rfl ?_;refine r_ (i8 rfl (fun w f=>I0 f s rfl)) ?_;refine JO ?_;refine D3 g (d_ rfl rfl [] ⟨⟨_,rfl,fun e=>?_⟩,rfl⟩ (fun w f=>f.dropAll));have x:=u rfl;have z:(q:Int)=(d.length:Nat):=qr e;rw[x];congr 1;omega
abbrev Og(gl gs gx gp gm gi:Nat)(a:Option Addr)(c:Nat)(kl:List KM)(x:LM)(p:PL)(t:Bs)(h:l_):Prop:=h gl=some (.cells #[.slice a kl.length c] 33 (0,0))/\h gs=some (.cells #[.func (.func 358) #[] #[l9 gl,l9 gi,l9 gs,l9 gx,l9 gp,l9 gm]] 23 (0,0))
 /\h gx=some (.cells (S8 x).toArray 156 (0,0))/\h gp=some (.cells (HG p).toArray 333 (0,0))/\h gm=some (.cells #[B t] 9 (0,0))/\o0 h a (qG kl)/\(∀m∈kl,o0 h m.a (V5 m.k.set))/\o0 h x.a (fV x.t.a5U)/\Gl h
abbrev MaQ(gi q:Nat)(v:Value)(A:List As):Prop:=∃b:Bool,v=.bool b/\A=[Mx gi q]
theorem sv{f:Nat->Option Nat}{p q:Nat}(h:Y8 f 1 p=some q):f p=some q:=by
 have a:(f p).bind (Y8 f 0)=some q:=h
 cases e:f p with
 |none=>rw[e] at a;cases a
 |some r=>rw[e] at a;exact a
theorem iH{f:Nat->Option Nat}{n p q:Nat}(h:Y8 f (n+1) p=some q):∃r,f p=some r/\Y8 f n r=some q:=by
 have a:(f p).bind (Y8 f n)=some q:=h
 cases e:f p with
 |none=>rw[e] at a;cases a
 |some r=>rw[e] at a;exact⟨r,rfl,a⟩
theorem wD{l:List KY}:∀{f p q:Nat},X0 l f p=some q->p<q/\q<=l.length
 |0,p,q,h=>by cases h
 |f+1,p,q,h=>by
  unfold X0 at h
  cases e:l[p]? with
  |none=>rw[e] at h;cases h
  |some k=>
   rw[e] at h;simp only at h;have hp:p<l.length:=(Qw.1 e).1;split at h
   ·cases h
   ·have a:∀(n p q:Nat),p<=l.length->Y8 (X0 l f) n p=some q->p<=q/\q<=l.length:=fun n=>by
     induction n with
     |zero=>intro p q hp h;injection h with h;omega
     |succ n ih=>
      intro p q hp h;obtain⟨r,b,c⟩:=iH h;have:=wD b;have:=ih r q this.2 c;omega
    have:=a _ _ _ hp h;omega
theorem sw(gl gs gx gp gm gi:Nat)(a:Option Addr)(c:Nat)(y:List KM)(x:LM)(p:PL)(t:Bs)(hl:y.length<=1000000)(h5:∀m∈y,EQ m.k)(hf:x.t.a5U.length<=1000000)(ht:t.length<=1000000000):
  ∀(f i q:Nat),X0 (y.map KM.k) f i=some q->Ct prog 358 [l9 gl,l9 gi,l9 gs,l9 gx,l9 gp,l9 gm] (Og gl gs gx gp gm gi a c y x p t) [Mx gi i] (MaQ gi q)
 |0,_,_,h=>by cases h
 |f+1,i,q,htr=>by
  have ih:=sw gl gs gx gp gm gi a c y x p t hl h5 hf ht f;have k9:=wD htr;rw[zr] at k9;have h6:i<y.length:=by omega
  obtain⟨m,M⟩:=o7 (y[i]);have h7:m∈y:=M▸zx h6;have n:¬bG m.k<0/\Y8 (X0 (y.map KM.k) f) (bG m.k).toNat (i+1)=some q:=by
   have Z:(match (y.map KM.k)[i]? with|none=>none|some k=>if bG k<0 then none else Y8 (X0 (y.map KM.k) f) (bG k).toNat (i+1))=some q:=htr;rw[Zb,zj h6,<-M] at Z;simp only[Qj] at Z;split at Z
   ·cases Z
   ·exact⟨by assumption,Z⟩
  clear htr;have q2:=(h5 m h7).2.2.2;obtain⟨d,h8⟩:=o7 (m.k.kind);obtain⟨l,O⟩:=o7 (m.k.kids);obtain⟨b1,Z⟩:=o7 (decide (d=1));obtain⟨b2,h2⟩:=o7 (decide (d=2));obtain⟨b3,h3⟩:=o7 (decide (d=3));refine b_ 50 func358 rfl rfl rfl ?_;rintro F ⟨Q,u,S,T,U,z,V,X,hg⟩;have q0:∃ad,a=some ad:=by obtain⟨ad,e,_⟩:=z (by intro e;have:=jk List.length e;rw[tE] at this;simp at this;omega);exact⟨ad,e⟩
  refine xC ?_;refine r_ (i8 rfl (fun w o=>I0 o Q rfl)) ?_;refine p_ ?_;refine f_ (m8 rfl q0 rfl qb) ?_;refine r_ ((w8 rfl (fun w o=>fe (C:=bE) (z.le o.keep) ao qp h6 x6) (ao _)).eq (v':=SZ m) (by rw[M])) ?_;refine i7 rfl ?_;intro g7;refine y9 ?_;refine f_ ((p9 rfl rfl qb).eq (v':=.int .i64 ((i+1:Nat):Int)) (by congr 1)) ?_;refine E5 ?_;have D:bG m.k=if d=1/\1<=l then((l:Nat):Int) else if d=2 then 1 else if d=3 then 2 else if 4<=d/\d<=13 then 0 else-1:=by rw[h8,O];rfl
  refine C6 ?_;refine f_ ((p8 rfl rfl).eq (v':=.bool b1) (qn ((zp.2 (by show((m.k.kind:Nat):Int)=1↔d=1;omega)).trans Z.symm))) ?_;refine p_ ?_
  cases b1
  case true=>
   have e1:d=1:=qr Z.symm;have q1:1<=l:=by
    refine Nat.lt_of_not_le fun hc=>n.1 ?_;rw[D,zk qb,zk qb,zk qb,zk qb];decide
   have Y:Y8 (X0 (y.map KM.k) f) l (i+1)=some q:=by
    have:=n.2;rw[D,zu ⟨e1,q1⟩] at this;simpa using this
   refine y9 ?_;refine r_ (E8 rfl ud (v:=.int .i64 (l:Nat)) (by rw[O];rfl)) ?_;refine H9 1 ?_;refine n7 (ι:=Bool) (fun _=>True) (fun b=>[(8,.bool b)]) (fun _=>[Mx gi q]) ?_ ?_
   ·refine n8 ?_;refine o9 (ι:=Nat×Nat×Bool) (fun j=>j.1<=l/\Y8 (X0 (y.map KM.k) f) (l-j.1) j.2.1=some q) (fun j=>[(0,l9 gl),(1,l9 gi),(2,l9 gs),(3,l9 gx),(4,l9 gp),(5,l9 gm),(21,.int .i64 (l:Nat)),(22,.int .i64 (j.1:Nat)),(8,.bool j.2.2)]) (fun j=>[Mx gi j.2.1]) (fun j=>l-j.1) (0,i+1,true) ⟨zw _,Y⟩ sub (fun w o=>x8.left tk o) ?_;rintro⟨j,p',J⟩ ⟨hj,s⟩;simp only at hj s;refine R6 ?_ ?_<;>intro h
    ·have h0:j<l:=(by have:=qr h;omega);have e2:l-j=(l-(j+1))+1:=(by omega);rw[e2] at s;obtain⟨r,k0,h4⟩:=iH s;refine C6 ?_;refine r_ (i8 rfl (fun w o=>I0 o u rfl)) ?_;refine A0 (ps:=[]) _ rfl rfl rfl (ih p' _ k0) i_ (fun h g _=>⟨g _ _ Q,g _ _ u,g _ _ S,g _ _ T,g _ _ U,z.le g,fun m M=>(V m M).le g,X.le g,hg.le g⟩) rfl ?_;rintro v A ⟨b,rfl,rfl⟩
     cases b
     ·refine cG ?_;exact l8 (i:=(j,p',J)) (j+1,r,false) ⟨h0,h4⟩ qg sub i_
     ·refine cG ?_;exact l8 (i:=(j,p',J)) (j+1,r,J) ⟨h0,h4⟩ qg sub i_
    ·have h0:j=l:=(by have:=zq h;omega);rw[h0,Wg] at s;injection s with s;subst s;refine u7 ?_;exact g_ J trivial i_
   rintro J-;refine L7 ?_;exact d_ rfl rfl _ ⟨J,rfl,rfl⟩ i_
  have e1:¬d=1:=zq Z.symm;refine C6 ?_;refine f_ ((p8 rfl rfl).eq (v':=.bool b2) (qn ((zp.2 (by show((m.k.kind:Nat):Int)=2↔d=2;omega)).trans h2.symm))) ?_;refine p_ ?_
  cases b2
  case true=>
   have e2:d=2:=qr h2.symm;have Y:Y8 (X0 (y.map KM.k) f) 1 (i+1)=some q:=by
    have:=n.2;rw[D,zk qb,zu e2] at this;exact this
   refine C6 ?_;refine r_ (i8 rfl (fun w o=>I0 o u rfl)) ?_;refine A0 (ps:=[]) _ rfl rfl rfl (ih (i+1) _ (sv Y)) (fun w o=>o.perm (.swap _ _ _)) (fun h g _=>⟨g _ _ Q,g _ _ u,g _ _ S,g _ _ T,g _ _ U,z.le g,fun m M=>(V m M).le g,X.le g,hg.le g⟩) rfl ?_;rintro v A ⟨b,rfl,rfl⟩;refine L7 ?_;exact d_ rfl rfl _ ⟨_,rfl,rfl⟩ (fun w o=>x8.left tk o)
  have e2:¬d=2:=zq h2.symm;refine C6 ?_;refine f_ ((p8 rfl rfl).eq (v':=.bool b3) (qn ((zp.2 (by show((m.k.kind:Nat):Int)=3↔d=3;omega)).trans h3.symm))) ?_;refine p_ ?_
  cases b3
  case true=>
   have e3:d=3:=qr h3.symm;have Y:Y8 (X0 (y.map KM.k) f) 2 (i+1)=some q:=by
    have:=n.2;rw[D,zk qb,zk e2,zu e3] at this;exact this
   obtain⟨r,k0,h4⟩:=iH Y;refine C6 ?_;refine r_ (i8 rfl (fun w o=>I0 o u rfl)) ?_;refine A0 (ps:=[]) _ rfl rfl rfl (ih (i+1) _ k0) (fun w o=>o.perm (.swap _ _ _)) (fun h g _=>⟨g _ _ Q,g _ _ u,g _ _ S,g _ _ T,g _ _ U,z.le g,fun m M=>(V m M).le g,X.le g,hg.le g⟩) rfl ?_;rintro v A ⟨b9,rfl,rfl⟩;refine xC ?_;refine r_ (i8 rfl (fun w o=>I0 o u rfl)) ?_;refine A0 (ps:=[]) _ rfl rfl rfl (ih r _ (sv h4)) i_ (fun h g _=>⟨g _ _ Q,g _ _ u,g _ _ S,g _ _ T,g _ _ U,z.le g,fun m M=>(V m M).le g,X.le g,hg.le g⟩) rfl ?_;rintro v A ⟨b,rfl,rfl⟩
   cases b
   all_goals refine O2 ?_
   all_goals (refine A2 ?_;exact d_ rfl rfl _ ⟨_,rfl,rfl⟩ (fun w o=>x8.left tk o))
  have e3:¬d=3:=zq h3.symm;have hq:q=i+1:=by
   have h9:=n.2;rw[D,zk qb,zk e2,zk e3] at h9;split at h9
   ·injection h9 with h9;exact h9.symm
   ·have k8:=n.1;rw[D,zk qb,zk e2,zk e3,zk (by assumption)] at k8;exact absurd qp k8
  subst hq;refine p_ ?_;refine r_ (dp rfl S ga) ?_;refine r_ (dp rfl T ga) ?_;refine r_ (i8 rfl (fun w o=>I0 o U rfl)) ?_;refine c_ (C:=[]) (yO m x p t (h5 m h7) hf ht) (fun h g _=>⟨hg.le g,(V m h7).le g,X.le g⟩) ?_;rintro v A ⟨⟨b,rfl⟩,rfl⟩;refine C8 ?_;exact d_ rfl rfl _ ⟨b,rfl,rfl⟩ (fun w o=>x8.left tk o)
theorem HK(a:Option Addr)(c:Nat)(f:List KM)(x:LM)(p:PL)(t:Bs)(hl:f.length<=1000000)(k:∀m∈f,EQ m.k)(hf:x.t.a5U.length<=1000000)(O:t.length<=1000000000):
  Ct prog 304 [.slice a f.length c,Of x,plA p,B t] (fun h=>Gl h/\o0 h a (qG f)/\(∀m∈f,o0 h m.a (V5 m.k.set))/\o0 h x.a (fV x.t.a5U)) [] Ub:=by
 refine b_ 17 func304 rfl rfl rfl ?_;rintro F ⟨hg,l,u,y⟩;refine C6 ?_;refine L2 rfl rfl rfl ?_;intro o;refine m9 rfl rfl ?_;intro q;refine m9 rfl rfl ?_;intro r;refine L2 rfl rfl rfl ?_;intro s;refine xC ?_;refine p_ ?_;refine c_ (C:=[]) (HJ a c f hl k) (fun h d _=>l.le d) ?_;rintro v A ⟨⟨b,rfl,z⟩,rfl⟩;refine p_ ?_
 cases b
 ·refine C8 ?_;exact d_ rfl rfl [] ⟨⟨_,rfl⟩,rfl⟩ (fun w n=>n.dropAll)
 have D:=z rfl;refine u7 ?_;refine p_ ?_;intro J;refine p_ ?_;refine p_ ?_;intro g;refine y9 ?_;refine B8 (Z:=[.blk o (.cells #[.slice a f.length c] 33),.blk g (.cells #[.func (.func 358) #[] #[l9 o,l9 J,l9 g,l9 q,l9 r,l9 s]] 23),.blk q (.cells (S8 x).toArray 156),.blk r (.cells (HG p).toArray 333),.blk s (.cells #[B t] 9)]) tk fun Q e j=>?_;have i:Og o g q r s J a c f x p t Q.heap:=⟨I_ j,I_ j,I_ j,I_ j,I_ j,l.le e.heap,fun m M=>(u m M).le e.heap,y.le e.heap,hg.le e.heap⟩;clear j;refine C6 ?_;refine r_ (i8 rfl (fun w n=>I0 n i.2.1 rfl)) ?_;refine A0 (ps:=[]) _ rfl rfl rfl (sw o g q r s J a c f x p t hl k hf O 9 0 _ D) i_ (fun h d _=>by obtain⟨S,T,U,V,X,Y,h7,h8,h9⟩:=i;exact⟨d _ _ S,d _ _ T,d _ _ U,d _ _ V,d _ _ X,Y.le d,fun m M=>(h7 m M).le d,h8.le d,h9.le d⟩) rfl ?_;rintro v A ⟨b,rfl,rfl⟩;refine C8 ?_;exact D3 e (d_ rfl rfl [] ⟨⟨b,rfl⟩,rfl⟩ (fun w n=>n.dropAll))
theorem DR(m:KM):Pu prog 230 [SZ m] (fun _=>True) (.bool (decide (11<=m.k.kind)&&decide (m.k.kind<=13))):=by
 obtain⟨⟨a,c,b,d,n,g⟩,j,k⟩:=m;obtain⟨h,e⟩:=o7 (decide (11<=a));obtain⟨l,f⟩:=o7 (decide (a<=13));show Pu prog 230 _ _ (.bool (decide (11<=a)&&decide (a<=13)));rw[<-e,<-f];refine b_ 11 func230 rfl rfl rfl ?_;intro F _;refine C6 ?_;refine m9 rfl rfl ?_;intro o;refine p_ ?_
 cases h
 all_goals (
  refine y9 ?_;refine f_ ((I4 rfl rfl).eq (qn ((zp.2 (by show 11<=((a:Nat):Int)↔11<=a;omega)).trans e.symm))) ?_;refine E5 ?_;(first|refine u_ ?_|(refine v_ ?_;refine f_ ((F_ rfl rfl).eq (qn ((zp.2 (by show((a:Nat):Int)<=13↔a<=13;omega)).trans f.symm))) ?_));refine y9 ?_)
 all_goals (refine A2 ?_;exact d_ rfl rfl [] qh (fun w i=>i.dropAll))
abbrev Oh(k:KY):Bool:=decide (11<=k.kind)&&decide (k.kind<=13)
theorem DS(a:Option Addr)(c:Nat)(b:List KM)(hl:b.length<=1000000):Pu prog 159 [.slice a b.length c] (fun h=>o0 h a (qG b)) (.bool (b.any fun m=>Oh m.k)):=by
 refine b_ 5 func159 rfl rfl rfl ?_;intro F d;refine y9 ?_;refine e_ rfl (cn bE ao b a c 230 [] (fun _=>True) (fun m=>Oh m.k) (fun m _=>DR m) qb) (fun h e _=>⟨d.le e,trivial⟩) rfl ?_;refine C8 ?_;exact d_ rfl rfl [] qh i_
def HL(b:Nat)(y:DL)(Q:SE->DD->Prop)(h:l_)(v:Value)(A:List As):Prop:=v=.tuple #[]/\∃s' d' x' y',Q s' d'/\A=l5 x'.ra s'.a5J.a5I x'.rc::O4 b s' x' d' y'/\re y y'/\iy s' x' d' y' h
abbrev DT(f:FuncId)(b:Nat)(s:SE)(x:SL)(d:DD)(y:DL)(c:CM)(k:CL)(Q:SE->DD->Prop):Prop:=Cm prog f [l9 b,xE c k] (fun h=>iy s x d y h/\fh c k h) (l5 x.ra s.a5J.a5I x.rc::O4 b s x d y) (HL b y Q)
theorem bA.w{f:FuncId}{b:Nat}{s:SE}{x:SL}{d:DD}{y:DL}{c:CM}{k:CL}{q:SD}(h:bA f b s x d y c k q){Q:SE->DD->Prop}(hq:Q q.1 q.2)(g:q.1.a5J.a5I=s.a5J.a5I):DT f b s x d y c k Q:=by
 intro F R w n ⟨hpt,hpc⟩;refine(Cm.of_ct h (Pre':=fun _=>True) (fun _ _ _ _=>trivial) F (l5 x.ra s.a5J.a5I x.rc::R) w (n.perm (by simpa using(Qd (a:=l5 x.ra s.a5J.a5I x.rc) (l₁:=O4 b s x d y) (l₂:=R)).symm)) trivial).mono ?_;rintro e z ⟨v,A,o,rfl,i,⟨rfl,l,m,rfl,⟨p,r⟩,t,u⟩,j⟩;refine⟨_,_,o,rfl,i,⟨rfl,q.1,q.2,l,m,hq,rfl,t,u _ (Mn.le i.heap hpt) (Mn.le i.heap hpc)⟩,?_⟩;rw[p,r,g];exact j.perm (by simpa using(Qd (a:=l5 x.ra s.a5J.a5I x.rc) (l₁:=O4 b q.1 l q.2 m) (l₂:=R)))
abbrev gW(tag:Bs):RR:=eL tag [110,111,32,115,117,99,104,32,109,101,115,115,97,103,101]
def mtY(y:DL)(tag:Bs)(e:Option (List Nat))(y':DL):Prop:=if e.isSome then y'=y else∃a c,y'=E9 y (gW tag,L0) a c
theorem lz(b:Nat)(s:SE)(x:SL)(d:DD)(y:DL)(c:CM)(k:CL)(e:Option (List Nat))(p:X8 s.a5J c.set c.uid=e)(hv:s.a5J.a5I.length<=100000)(hs:c.set.length<=1000000)(hl:y.rl.length<=1000000):
  Ct prog 222 [l9 b,xE c k] (fun h=>o0 h x.ra (V5 s.a5J.a5I)/\o0 h k.sa (V5 c.set)) (O4 b s x d y) (fun v A=>∃ua uc m,v=.tuple #[.slice ua (e.getD []).length uc,.bool e.isSome]/\mtY y c.tag e m/\A=U1 ua (e.getD []) uc::O4 b s x d m):=by
 have f:=Du s.a5J x.ra x.rc c.set k.sa k.sc c.uid qb hs;rw[p] at f;refine b_ 29 func222 rfl rfl rfl ?_;rintro F ⟨g,i⟩;refine C6 ?_;refine m9 rfl rfl ?_;intro q;refine y9 ?_;refine D8 [4,6,8] [9] [E7 b s x d y,.blk q (.cells (li c k).toArray 36)] 15 ?_;refine wd [0,1,2,3,4,5,6,7,8] ?_;refine h_ 9 rfl i6 ?_;refine c_ (C:=[]) f (fun h n _=>⟨g.le n,i.le n⟩) ?_;rintro v A ⟨ua,uc,rfl,rfl⟩;refine E6 [10,11,12,13,14] ?_
 cases e with
 |some l=>
  refine NM ?_;exact r7 rfl rfl rfl _ ⟨ua,uc,y,rfl,rfl,rfl⟩ (fun w j=>x8.left tk j)
 |none=>
  refine au ?_;refine c_ (lj b s x d y c.tag [110,111,32,115,117,99,104,32,109,101,115,115,97,103,101] qb) qw ?_;rintro v A ⟨rfl,a,o,rfl⟩;refine JO ?_;exact r7 rfl rfl rfl _ ⟨ua,uc,E9 y (gW c.tag,L0) a o,rfl,⟨a,o,rfl⟩,rfl⟩ (fun w j=>x8.left tk j)
def PG(r r':RQ):Prop:=r'=be\/∃l:List (Nat×Nat),l.length<=64/\(∀q∈l,Ho q)/\r'={r with a5L:=l}
theorem iJ(b:Nat)(s:SE)(x:SL)(d:DD)(y:DL)(c:CM)(k:CL)(r:RQ)(z:QL)(a:List Nat)(ua:Option Addr)(uc:Nat)(hv:s.a5J.a5I.length<=100000)(hu:a.length<=1000000)(q:fP a)(X:s.num<18446744073709551615):
  Cm prog 224 [l9 b,xE c k,QX r z,.slice ua a.length uc] (fun h=>dC r z h/\o0 h ua (nV a)) (l5 x.ra s.a5J.a5I x.rc::O4 b s x d y) (fun h v A=>v=.tuple #[]/\∃e g,PG r e/\dC e g h/\A=l5 x.ra s.a5J.a5I x.rc::O4 b (G3 (s,d) c e a).1 {x with cl:=k,ua:=ua,uc:=uc} (G3 (s,d) c e a).2 {y with ql:=g}):=by
 refine y4 32 func224 rfl rfl rfl ?_;rintro F R ⟨t,u⟩;refine C6 ?_;refine m9 rfl rfl ?_;intro m;refine m9 rfl rfl ?_;intro n;refine cG ?_;refine c_ (C:=[]) (Bo s.a5J x.ra x.rc a ua uc true qb hu q) ?pre ?_;(case pre=>exact fun h Y ⟨bs,o⟩=>⟨A3.rd o ud,u.le Y⟩);rintro v A ⟨p,l,D,rfl,rfl,h0,M⟩;refine y9 ?_;obtain⟨S,T⟩:=o7 (decide (l.length<1));obtain⟨q2,U⟩:=o7 (decide (64<l.length));refine B8 (Z:=[V1 p l D]) tk fun V j ⟨bs,o⟩=>?_;have O:o0 V.heap p (V5 l):=A3.rd o ud;clear o;refine w6 [(0,l9 b),(3,.slice ua a.length uc),(5,l9 m),(6,l9 n),(25,.bool (S||q2))] (.blk n (.cells (eA {r with a5L:=l} {z with ua:=p,uc:=D}).toArray 44)::.blk m (.cells (li c k).toArray 36)::E7 b s x d y::r8 y.da y.rl y.dc::l5 x.ra s.a5J.a5I x.rc::R) ?_ ?_
 ·cases S
  all_goals (
   refine E5 ?_;refine f_ ((E_ rfl rfl).eq (qn ((qz).trans T.symm))) ?_;refine O2 ?_;(first|refine u_ ?_|(refine v_ ?_;refine f_ ((D_ rfl rfl).eq (qn ((qz).trans U.symm))) ?_));refine p_ ?_)
  all_goals exact o_ sub (fun w f=>(tk (C:=[_,_,_,_,_])).hp f)
 refine u7 ?_;refine n7 (ι:=RQ×QL) (fun i=>PG r i.1/\dC i.1 i.2 V.heap) (fun _=>[(0,l9 b),(3,.slice ua a.length uc),(5,l9 m),(6,l9 n)]) (fun i=>.blk n (.cells (eA i.1 i.2).toArray 44)::.blk m (.cells (li c k).toArray 36)::E7 b s x d y::r8 y.da y.rl y.dc::l5 x.ra s.a5J.a5I x.rc::R) ?_ ?_
 ·refine o8 rfl ?_ ?_<;>intro h
  ·refine C6 ?_;refine f_ (y8 (ps:=[(0,.const (.int .i64 3))]) (vs:=[(0,.int .i64 3)]) (cells:=(eA be db).toArray) rfl i6) ?_;refine p_ ?_;exact g_ (be,db) ⟨.inl rfl,o0.nil _ _,o0.nil _ _⟩ (fun w f=>(tk (C:=[_,_,_,_,_])).hp f)
  ·refine u7 ?_;refine g_ ({r with a5L:=l},{z with ua:=p,uc:=D}) ⟨.inr ⟨l,?_,M,rfl⟩,O,t.a5U.le j.heap⟩ (fun w f=>(tk (C:=[_,_,_,_,_])).hp f);rw[T,U] at h;simp at h;omega
 rintro⟨e,g⟩ ⟨hc,Q⟩;refine O2 ?_;refine c_ (dE b s x d y c k e g a ua uc X) qw ?_;rintro v A ⟨rfl,rfl⟩;refine u7 ?_;refine H3 (A:=l5 x.ra s.a5J.a5I x.rc::O4 b (G3 (s,d) c e a).1 {x with cl:=k,ua:=ua,uc:=uc} (G3 (s,d) c e a).2 {y with ql:=g}) (v:=.tuple #[]) j ⟨rfl,e,g,hc,Q,rfl⟩ ?_;exact m6 rfl _ qh (fun w f=>C5 (A:=[_,_,_]) (J:=[_,_]) tk f)
theorem eT{v:VW}{l:List (Nat×Nat)}{a:Bool}{o:List Nat}(h:X8 v l a=some o):(∀u∈o,∃r∈v.a5I,r.1=u)/\o.length<=v.a5I.length:=by
 unfold X8 at h;simp only at h;split at h
 ·exact absurd h x6
 ·injection h with h;subst h;refine⟨fun u hu=>?_,?_⟩
  ·obtain⟨x,b,rfl⟩:=jx.1 hu;have c:=(Qx.1 b).1;exact⟨x.1,List.fst_mem_of_mem_zipIdx c,rfl⟩
  ·rw[zr];refine ju (Qn _ _) ?_;rw[List.length_zipIdx];exact z1 _
abbrev wE:Bs:=[92,83,101,101,110]
structure rj(s:SE)(c:CM)(r:RQ):Prop where
 op:r.op=3\/r.op=7\/r.op=9
 box:r.box=[]\/r.box=s.a5J.box
 a5L:r.a5L.length<=64
 a5U:r.a5U=[]\/r.a5U=c.a5U\/r.a5U=[wE]
 dest:r.tz=[]\/r.tz=c.box
theorem rj.look(s:SE)(c:CM):rj s c be:=⟨.inl rfl,.inl rfl,by simp,.inl rfl,.inl rfl⟩
theorem rj.chg{s:SE}{c:CM}{r a:RQ}(h:rj s c r)(hc:PG r a):rj s c a:=by
 rcases hc with rfl|⟨l,b,_,rfl⟩
 ·exact .look s c
 ·exact⟨h.op,h.box,b,h.a5U,h.dest⟩
def DU(s:SE)(d:DD)(c:CM)(s':SE)(d':DD):Prop:=
 (∃r,(r=ER c.tag\/r=gW c.tag)/\(s',d')=U_ (s,d) r)\/∃l r,X8 s.a5J c.set c.uid=some l/\rj s c r/\(s',d')=G3 (s,d) c r l
theorem nx{b:Nat}{s:SE}{x:SL}{d:DD}{y:DL}{c:CM}{r:RR}{a:Option Addr}{g:Nat}{h:l_}(i:r=ER c.tag\/r=gW c.tag)(e:iy s x d y h):HL b y (DU s d c) h (.tuple #[]) (l5 x.ra s.a5J.a5I x.rc::O4 b s x d (E9 y (r,L0) a g)):=by
 have hz:∀h,fC r L0 h:=by rcases i with rfl|rfl<;>exact cK rfl rfl rfl
 refine⟨rfl,s,{d with a5T:=d.a5T++[r]},x,E9 y (r,L0) a g,.inl ⟨r,i,rfl⟩,rfl,.one rfl,e.se,?_,fun m f=>?_,e.dd.req,e.dd.want⟩
 ·show d.a5T++[r]=(y.rl++[(r,L0)]).map Prod.fst;rw[e.dd.a5T];simp
 ·rcases zb.1 (show m∈y.rl++[(r,L0)] from f) with f|f
  ·exact e.dd.rep m f
  ·rw[zg.1 f];exact hz h
theorem HN(s:SE)(d:DD)(c:CM)(r:RQ)(l:List Nat):(G3 (s,d) c r l).1.a5J=s.a5J:=by unfold G3;split<;>rfl
theorem ny{b:Nat}{s:SE}{x:SL}{d:DD}{y:DL}{c:CM}{k:CL}{l:List Nat}{r:RQ}{z:QL}{ua:Option Addr}{uc:Nat}{h:l_}(f:X8 s.a5J c.set c.uid=some l)(g:rj s c r)(hq:dC r z h)(hu:o0 h ua (nV l))(a:iy s x d y h)(hc:fh c k h):
  HL b y (DU s d c) h (.tuple #[]) (l5 x.ra s.a5J.a5I x.rc::O4 b (G3 (s,d) c r l).1 {x with cl:=k,ua:=ua,uc:=uc} (G3 (s,d) c r l).2 {y with ql:=z}):=by
 have e:iy (G3 (s,d) c r l).1 {x with cl:=k,ua:=ua,uc:=uc} (G3 (s,d) c r l).2 {y with ql:=z} h:=by
  unfold G3;split
  ·exact⟨⟨hu,hc⟩,⟨a.dd.a5T,a.dd.rep,hq,a.dd.want⟩⟩
  ·exact⟨⟨hu,hc⟩,⟨a.dd.a5T,a.dd.rep,⟨hq.a5L,hq.a5U⟩,a.dd.want⟩⟩
 refine⟨rfl,(G3 (s,d) c r l).1,(G3 (s,d) c r l).2,{x with cl:=k,ua:=ua,uc:=uc},{y with ql:=z},.inr ⟨l,r,f,g,rfl⟩,?_,.refl rfl,e⟩;rw[HN]
section
variable(b:Nat)(s:SE)(x:SL)(d:DD)(y:DL)(c:CM)(k:CL)(hv:s.a5J.a5I.length<=100000)(hvu:∀r∈s.a5J.a5I,r.1<18446744073709551616)(hc:tF c)(hn:s.num<18446744073709551615)(hl:y.rl.length<=100000)
include hv hvu hc hn hl
theorem HP:DT 152 b s x d y c k (DU s d c):=by
 have X:=hc.set;obtain⟨e,z⟩:∃e,X8 s.a5J c.set c.uid=e:=⟨_,rfl⟩;refine y4 25 func152 rfl rfl rfl ?_;rintro F R ⟨p,q⟩;refine C6 ?_;refine m9 rfl rfl ?_;intro Q;refine y9 ?_;refine c_ (lz b s x d y c k e z hv qb qb) ?pre ?_;(case pre=>exact fun h Y ⟨bs,g⟩=>⟨A3.rd g ud,q.set.le Y⟩);rintro v A ⟨j,t,m,rfl,S,rfl⟩;refine au ?_
 cases e with
 |none=>
  obtain⟨a1,C,rfl⟩:∃a C,m=E9 y (gW c.tag,L0) a C:=S;refine L7 ?_;refine H3 (A:=l5 x.ra s.a5J.a5I x.rc::O4 b s x d (E9 y (gW c.tag,L0) a1 C)) (v:=.tuple #[]) (l6.le_refl _) (nx (.inr rfl) p) ?_;exact m6 rfl _ qh (fun w n=>C5 (A:=[_,_,_]) (J:=[_,_]) tk n)
 |some l=>
  obtain rfl:m=y:=S;obtain⟨D,h0⟩:=eT z;refine y9 ?_;refine B8 (Z:=[U1 j l t,.blk Q (.cells (li c k).toArray 36)]) tk fun T i g=>?_;have o:o0 T.heap j (nV l):=by obtain⟨bs,g⟩:=g;exact A3.rd g ud
  have U:T.heap Q=some (.cells (li c k).toArray 36 (0,0)):=I_ g;clear g;replace p:=Mn.le i.heap p;replace q:=Mn.le i.heap q;refine p_ ?_;refine c_ (jT b s x d m 9) qw ?_;rintro v A ⟨rfl,rfl⟩;refine i7 rfl ?_;intro g6;refine y9 ?_;refine r_ (i8 rfl (fun w n=>I0 n U rfl)) ?_;refine E5 ?_;refine r_ (dp rfl U ga) ?_;refine y9 ?_;refine A8 (iJ b s x d m c k {am (s,d) 9 with tz:=c.box} db l j t hv qb (fun u hu=>by obtain⟨r,hr,rfl⟩:=D u hu;exact hvu r hr) hn) ⟨⟨o0.nil _ _,o0.nil _ _⟩,o⟩ ?_;rintro v A F2 f ⟨rfl,V,z',M,O,rfl⟩;refine u7 ?_;refine H3 (A:=l5 x.ra s.a5J.a5I x.rc::O4 b (G3 (s,d) c V l).1 {x with cl:=k,ua:=j,uc:=t} (G3 (s,d) c V l).2 {m with ql:=z'}) (v:=.tuple #[]) (i.trans f) (ny z (rj.chg ⟨.inr (.inr rfl),.inr rfl,by simp[am],.inl rfl,.inr rfl⟩ M) O (o.le f.heap) (Mn.le f.heap p) (Mn.le f.heap q)) ?_;exact m6 rfl _ qh (fun w n=>C5 (A:=[_,_,_]) (J:=[_]) tk n)
end
