import Derived.Test.YtmcepdopookilaaGreatDoorubx14
set_option maxHeartbeats 16000000
set_option maxRecDepth 8000
set_option linter.unusedVariables false
set_option linter.unusedSimpArgs false
set_option linter.defProp false
namespace Go.Sl
open Go Go.RowKit Go.Proofs.YtmcepdopookilaaGreatDoor.Rp Go.Proofs.Tryz
section
variable{P:Program}{N:Nat}{K R:y7}{E:List (Nat×y7)}{L:G0}{F:l8}{H:List As}{ops:Array Oper}{rest:List Oper}{ty:TypeId}{pos:String}{af:Array Edge}{dst:Option Nat}{gd:Option (Nat×Bool)}{t:TypeId}{x y:Operand}
abbrev PB(a:Option Addr)(n c:Nat)(l:List Bs):As:=.own (.slice a n c) 9 1 (fV l)
theorem ldS{a:Option Addr}{n c:Nat}{l:List Bs}{i:Int}{H':List As}[ha:HA P t false](hl:l.length=n)(u:M2 H (PB a n c l) [] H':=by exact ud)(hx:ev L x=some (.pointer (N0 a (i.toNat*1))):=by rfl)(e:0<=i/\i<n:=by omega):dr P ⟨dst,.load t x,ty,pos,af,gd⟩ L F H (B (l.getD i.toNat [])):=
 i8 hx fun w d=>iX d u x4 fun j v b=>by
  match j,b with
  |0,b=>
   simp at b;subst b;have h:i.toNat<l.length:=(by omega);rw[Zu,Q3,fV,Zj,zj h];simp[List.getD,h]
theorem PC{a:Option Addr}{n c:Nat}{l:List Bs}{i:Int}{v:Bs}{H':List As}[hs:HS P t 1](hl:l.length=n)(h:GL P N ops rest K E R L F H')(u:M2 H (PB a n c l) [PB a n c (l.set i.toNat v)] H':=by exact uh)(hx:ev L x=some (.pointer (N0 a (i.toNat*1))):=by rfl)(d:ev L y=some (B v):=by rfl)(f:0<=i/\i<n:=by omega):GL P N ops (⟨none,.store t x y,ty,pos,af,none⟩::rest) K E R L F H:=by
 have hp:L6 (fV l) (i.toNat*1) [B v]=fV (l.set i.toNat v):=by
  have e:i.toNat<l.length:=by omega
  unfold L6 fV;rw[Zu,Ku,Zc,zg (by simpa using e)];simp
 refine U0 (n:=1) (a:=a) (len:=n) (c:=c) (sz:=1) (xs:=fV l) (te:=9) hx d (H':=H') ?_ rfl qp (fun q b=>by simp[Value.cells] at b;subst b;rfl) (by rw[L8];omega) h;show M2 H _ [.own (.slice a n c) 9 1 (L6 (fV l) (i.toNat*1) [B v])] H';rw[hp];exact u
theorem um{n:Bs}{d:Nat}{x:Operand}{z:Value}[hu:HU P t (.slice 9)][hz:HZ P 9 z][hs:HS P 9 1](h:∀a,GL P N ops rest K E R ((d,.slice a 1 1)::L) F (A5 a [n] 1::H))(hx:ev L x=some (B n):=by rfl)(b:Nat.blt d N=true:=by rfl):
  GL P N ops (⟨some d,.buildSlice t 1 #[(0,x)],ty,pos,af,none⟩::rest) K E R L F H:=
 C4 (C:=fun n:Bs=>[B n]) n rfl (fun a _=>by have:=h a;exact this) hx rfl rfl rfl b
theorem un{l m:List Bs}{d:Nat}{s x:Operand}{a b:Option Addr}{c n:Nat}{H':Option Addr->Nat->List As}{z:Value}{i:TypeInfo}[hu:HU P t (.slice 9)][hz:HZ P 9 z][hi:HI P 9 i][hs:HS P 9 1](o:(l.length+m.length)*i.bytes<=140737488355328)(h:∀f e,(l++m).length<=e->GL P N ops rest K E R ((d,.slice f (l++m).length e)::L) F (H' f e))(g:ev L s=some (.slice a l.length c):=by rfl)(j:ev L x=some (.slice b m.length n):=by rfl)(u:∀f e,M2 H (A5 a l c) [A5 f (l++m) e] (H' f e):=by exact fun _ _=>uh)(hsrc:∀w,Hp F w H->Kl (hp w) b (fV m):=by exact fun w p=>(p.ownN ud).2.2.1)(k:z.cells.size=1:=by rfl)(hl:l.length+m.length<=9223372036854775807:=by(first|omega|(simp only[zx,zn];omega)))(q:Nat.blt d N=true:=by rfl):
  GL P N ops (⟨some d,.call ⟨.builtin .append,#[s,x],#[t,t]⟩,ty,pos,af,none⟩::rest) K E R L F H:=
 C0 (news:=fV m) (m:=m.length) g j (H':=H') (fun f e=>by have:=u f e;unfold A5 at this;rw[zz,gr] at this;exact this) hsrc (by rw[L8,Zu]) rfl k (lg _) o hl q fun f e hc=>by
  have:=h f e (by rw[zz];exact hc);rw[zz] at this;exact this
end
end Go.Sl
namespace Go.Proofs.YtmcepdopookilaaGreatDoor.Rp
open Go Go.Sl Go.RowKit Go.Proofs.Tryz
theorem wC:∀(l:List Bs) (i:Nat) (x:Bs),i<l.length->(l.set i (l.getD i []++x)).flatten.length=l.flatten.length+x.length
 |[],i,x,h=>by simp at h
 |y::l,0,x,h=>by simp;omega
 |y::l,i+1,x,h=>by
  have:=wC l i x (by simpa using h);simp only[List.set_cons_succ,K4,zz,List.getD_cons_succ] at this⊢;omega
theorem pN:∀{l:List Bs} {x:Bs},x∈l->x.length<=l.flatten.length
 |y::l,x,h=>by
  rw[K4,zz];rcases kw.1 h with rfl|h
  ·omega
  ·have:=pN h;omega
theorem yS{l:List Bs}{i:Nat}(h:i<l.length):(l.drop i).flatten.length=(l.getD i []).length+(l.drop (i+1)).flatten.length:=by
 rw[Qg h,K4,zz];simp[List.getD,h]
theorem wD(k:Bs)(hs:k.length<=1000000000):Ct prog 436 [B k] Gl [] (fun v A=>∃a l c,v=.slice a l.length c/\A=[A5 a l c]/\l.flatten.length<=k.length/\l.length<=k.length+1):=by
 refine b_ 46 func436 rfl rfl rfl ?_;intro F hg;refine E7 ?_;refine e_ (Dn k [13,10] qb qp) (fun h hh _=>hg.le hh) ?_;rintro v A ⟨s,d,rfl,rfl,h4,O⟩;refine I8 2 ?_;refine n7 (ι:=AC×List Bs) (fun o=>o.2.flatten.length<=k.length/\o.2.length<=k.length+1) (fun o=>[(3,.slice o.1.1 o.2.length o.1.2)]) (fun o=>[A5 o.1.1 o.2 o.1.2]) ?_ ?_
 ·refine n8 ?_;refine O7 (fun(j:Nat) (o:AC) (b:List Bs)=>j<=d.length/\b.flatten.length+(d.drop j).flatten.length<=k.length/\b.length<=j) (fun j o b=>[(8,.slice s d.length d.length),(9,.int .i64 (d.length:Nat)),(10,.int .i64 (j:Nat)),(3,.slice o.1 b.length o.2)]) (fun j o b=>[A5 o.1 b o.2,A5 s d d.length]) (fun j o b=>d.length-j) 0 (none,0) [] ⟨zw _,by simpa using O,zr _⟩ sub (fun w u=>u.addNil _ _) ?_;rintro j o b ⟨hj,Y,h5⟩;refine R7 ?_ ?_<;>intro h
  ·have y:j<d.length:=(by have:=qr h;omega);obtain⟨l,z⟩:=o8 (d.getD j []);have Q:=yS y;rw[<-z] at Q;refine I8 0 ?_;refine n7 (ι:=AC×List Bs) (fun p=>p.2.flatten.length+(d.drop (j+1)).flatten.length<=k.length/\p.2.length<=j+1) (fun p=>[(8,.slice s d.length d.length),(9,.int .i64 (d.length:Nat)),(10,.int .i64 (j:Nat)),(3,.slice p.1.1 p.2.length p.1.2)]) (fun p=>[A5 p.1.1 p.2 p.1.2,A5 s d d.length]) ?_ ?_
   ·refine n8 ?_;refine B5 (a:=s) (n:=d.length) (c:=d.length) (sz:=1) (xs:=fV d) (te:=9) ud fun _ _ g=>?_;have g:=g qb;refine r7 ?_;refine r_ ((ldS (l:=d) (i:=(j:Nat)) rfl ud rfl qb).eq (v':=B l) (by rw[z];rfl)) ?_;refine O3 ?_;obtain⟨q1,C⟩:=o8 (decide (0<b.length));obtain⟨Z,t⟩:=o8 (decide (l=[]));refine n7 (ι:=Bool) (fun q=>q=true->0<b.length) (fun q=>[(31,.bool q),(6,.int .i64 (b.length:Nat)),(5,B l),(8,.slice s d.length d.length),(9,.int .i64 (d.length:Nat)),(10,.int .i64 (j:Nat)),(3,.slice o.1 b.length o.2)]) (fun _=>[A5 o.1 b o.2,A5 s d d.length]) ?_ ?_
    ·obtain⟨q3,h3⟩:=o8 (decide (((l.getD 0 0).toNat:Int)=32));have S:Z=false->0<l.length:=fun e=>by
      rw[e] at t;have:=zq t.symm;exact Z8.2 this
     cases q1<;>cases Z<;>cases q3
     all_goals try have h6:=S rfl
     all_goals (
      refine r7 ?_;refine f_ ((E2 rfl rfl).eq (qn ((qz).trans C.symm))) ?_;refine A1 ?_;(first|refine u_ ?_|(refine v_ ?_;refine f_ ((E8 rfl rfl).eq (jy (fun x=>Value.bool (!x)) t.symm)) ?_));refine O3 ?_;(first|refine u_ ?_|(refine v_ ?_;refine f_ ((p7 rfl rfl).eb h3) ?_));refine aq ?_)
     all_goals first|exact g_ _ (fun _=>qr C.symm) i_|exact g_ false (fun e=>by cases e) i_
    intro q hq;refine O0 ?_ ?_<;>intro h
    ·have h0:=hq h;refine B5 (a:=o.1) (n:=b.length) (c:=o.2) (sz:=1) (xs:=fV b) (te:=9) ud fun _ _ r=>?_;have r:=r h0;obtain⟨i,hi⟩:=o8 (α:=Int) ((b.length:Nat)-1);have T:=wC b i.toNat l qb;have h7:(b.getD i.toNat []).length<=b.flatten.length:=pN (dO qb);refine A1 ?_;refine f_ ((E0 rfl rfl qb).eq (v':=.int .i64 i) (by rw[hi])) ?_;refine f_ (m9 rfl r rfl qb) ?_;refine r_ (ldS rfl) ?_;refine A1 ?_;refine f_ (m9 rfl r rfl qb) ?_;refine PC (v:=b.getD i.toNat []++l) rfl ?_;refine w8 ?_;obtain⟨f,D⟩:=o8 (b.set i.toNat (b.getD i.toNat []++l));have M:b.length=f.length:=(by rw[D,jr]);rw[<-D] at T⊢;rw[M];exact g_ (o,f) ⟨by simp only;omega,by simp only;omega⟩ i_
    ·refine A1 ?_;refine um (n:=l) ?_;intro a42;refine un (l:=b) (m:=[l]) (by show(b.length+1)*16<=_;omega) ?_;intro U V _;refine r7 ?_;exact g_ ((U,V),b++[l]) ⟨by simp only[List.flatten_append,zz,K4,List.flatten_nil,z7];omega,by simp;omega⟩ (fun w u=>C6 (A:=[_,_]) (J:=[_]) tk u)
   rintro⟨o2,f⟩ ⟨C,t⟩;simp only at C t;refine A1 ?_;exact l6 (i:=(j,o,b)) (j+1,o2,f) ⟨y,C,t⟩ qg sub i_
  ·refine w8 ?_;exact g_ (o,b) ⟨by simp only;omega,by simp only;omega⟩ (fun w u=>y4.left tk u)
 rintro⟨o,b⟩ X;simp only at X;refine L7 ?_;exact d_ rfl rfl _ ⟨o.1,b,o.2,rfl,rfl,X.1,X.2⟩ i_
end Go.Proofs.YtmcepdopookilaaGreatDoor.Rp
namespace Go.Sl
open Go Go.RowKit Go.Proofs.Tryz
section
variable{ro:Option Nat}{n:Nat}{P:Program}{N:Nat}{Q:Exit->Act->World->Prop}{L:G0}{F:l8}{H:List As}{ops:Array Oper}{Kq:y7}
theorem Mt{i:Nat}{K m:Act->World->Prop}{a:Act}{w:World}(g:∀(i:Nat) (o:Oper),ops[i]? =some o->∀c,o.op≠ .defer c)(b:∀a w,K a w->m a w)(h:wpOp P ops (MQ Kq [] (fun _ _=>False)) i K a w):wpOpIn (Fn ro) n P ops Q i m a w:=by
 unfold wpOp at h;unfold wpOpIn
 cases ho:ops[i]? with
 |none=>rw[ho] at h;exact b _ _ h
 |some o=>
  rw[ho] at h;simp only at h⊢;have hs:Oper.semAt (Fn ro).round a.eval o=execOp a.eval o:=oe (.inr (g i o ho));split
  ·rename_i j;rw[zg j] at h;rcases h with h|⟨_,p,s,q⟩
   ·refine⟨fun f _=>trivial,?_⟩;rw[hs];unfold Oper.wp at h;generalize (execOp a.eval o).run P w=r at h⊢
    cases r with
    |ok x w'=>
     cases x<;>simp only[Oper.upon,Oper.uponIn] at h⊢
     case value v=>exact b _ _ h
     case skip=>exact b _ _ h
     case defer d=>exact b _ _ h
     case enter f args=>
      refine⟨fun k=>(by cases k),od (h.mono fun e l q=>?_)⟩
      cases e with
      |returned v=>exact b _ _ q
      |panicked c=>exact(gf q).elim
      |outgrown=>obtain⟨p,s,q⟩:=q;exact q.elim
     case row row args=>exact⟨fun k=>(by cases k),rA (h.mono fun v l q=>b _ _ q)⟩
    |halt x w'=>cases x<;>simp only[Oper.upon] at h<;>first|exact(gf h).elim|exact h.elim
   ·exact q.elim
  ·rename_i j;rw[zk j] at h;exact⟨fun f _=>trivial,b _ _ h⟩
theorem wE(g:∀(i:Nat) (o:Oper),ops[i]? =some o->∀c,o.op≠ .defer c)(f:∀a w,Kq a w->Q .normal a w):∀(d:Nat) (b:Array Bool) (a:Act) (w:World),wpAny P .any ops (MQ Kq [] (fun _ _=>False)) d b a w->wpAnyIn (Fn ro) n P .any ops Q d b a w
 |0,_,a,w,h=>⟨h.1,f _ _ h.2⟩
 |d+1,b,a,w,h=>⟨fun e=>f _ _ (h.1 e),fun i j=>Mt g (fun k w' l=>wE g f d _ k w' l) (h.2 i j)⟩
theorem Mu{id:Nat}{l:List Oper}[hm:HM P](f:Rs)(g:List As)(m:Nat)(j:m=l.toArray.size)(b:(l.all fun o=>match o.op with|.defer _=>false|_=>true)=true)(h:GA P N l.toArray f g m [] (fun a w=>Q .normal a w) [] (fun _ _=>False) L F H):GN ro n P N (.region id l.toArray true) Q L F H:=fun a w hf p=>by
 subst j;unfold GA at h;refine wpIn_region_any hm.h (wE (fun i o q c e=>?_) (fun a w k=>k) _ _ _ _ (fz _ _ _ _ (h a _ hf p.drew)));have d:=Qv.1 b o (by have:=Array.mem_of_getElem? q;simpa using this);rw[e] at d
 cases d
theorem uq{F:Fence}{d j t:Nat}{b:Bool}{op:Op}{e:Oper}{rest:List Oper}{ty:TypeId}{pos:String}{af:Array Edge}{a:Act}{w:World}(f:ops[j]? =some e)(g:e.dst=some t)(hv:a.tmps[t]? =some (.bool b))(h:wpListIn F n P ops Q (⟨some d,op,ty,pos,af,none⟩::rest) a w):wpListIn F n P ops Q (⟨some d,op,ty,pos,af,some (j,b)⟩::rest) a w:=by
 have c:Region.wanted (⟨some d,op,ty,pos,af,some (j,b)⟩:Oper) (yielded ops a.tmps)=true:=by
  simp[Region.wanted,yielded,f,g,hv]
 unfold wpListIn at h⊢;rw[zg c];rw[zg (by simp[Region.wanted])] at h;exact h
end
def KeepsC(A B:World):Prop:=A.heap.size<=B.heap.size/\∀(k:Nat) (o:Obj),A.heap[k]? =some o->o.isCells=true->B.heap[k]? =some o
theorem KeepsC.trans{A B C:World}(h:KeepsC A B)(k:KeepsC B C):KeepsC A C:=⟨jd h.1 k.1,fun b o c a=>k.2 b o (h.2 b o c a) a⟩
theorem KeepsC.put{w:World}(W:World)(l:Nat)(o c:Obj)(_:w.heap.size<=l)(h:W.heap[l]? =some o)(hc:o.isCells=false)(_:o.isWalk=false):KeepsC W (W.putObj l c):=by
 have hg:=grownBy_putObj' W l c;refine⟨hg.size,fun k x a d=>?_⟩;have b:l≠k:=by rintro rfl;rw[h] at a;cases a;rw[hc] at d;cases d
 exact(hg.block k (kr.1 a).1 (fun e=>b (by cases e;rfl))).trans a
theorem KeepsC.of_grown{A B:World}(h:A.grownBy B none):KeepsC A B:=⟨h.size,fun k o a _=>(h.block k (kr.1 a).1 (fun e=>by cases e)).trans a⟩
theorem KeepsC.rd{A B:World}(h:KeepsC A B){a:Option Addr}{xs:List Value}(r:n9 (hp A) a xs):n9 (hp B) a xs:=by
 intro c;obtain⟨d,e,f⟩:=r c;refine⟨d,e,fun j u hu=>?_⟩;have b:=f j u hu;unfold l_.cell? at b⊢
 cases ho:hp A (d.add j).block with
 |none=>rw[ho] at b;cases b
 |some o=>
  rw[ho] at b
  cases o with
  |cells cs t fr=>have g:hp B (d.add j).block=_:=h.2 _ _ ho rfl;rw[g];exact b
  |_=>cases b
end Go.Sl
namespace Go.Proofs.YtmcepdopookilaaGreatDoor.Rp
open Go Go.Sl Go.RowKit Go.Proofs.Tryz
abbrev FX(n:Nat):={x:Bs×Bs//x.1.length<=n/\x.2.length<=n}
abbrev PD{n:Nat}(x:FX n):Array Value:=#[B x.1.1,B x.1.2]
def Rj(n:Nat)(a:Go.Act):Nat:=match (a.tmps[18]?:Option Value) with
 |some (.int _ k)=>n-k.toNat
 |_=>0
theorem Mv(s:Bs)(hs:s.length<=1000000000):Ct prog 394 [B s,B [58]] Gl [] (fun v A=>(∃(a b:Bs) (ok:Bool),v=.tuple #[B a,B b,.bool ok]/\a.length<=s.length/\b.length<=s.length)/\A=[]):=fun w c d f g=>
 (GF s qb w c d f g).mono fun e l ⟨v,A,h,⟨i,j⟩,k⟩=>⟨v,A,h,⟨⟨_,_,_,i,rW _ _,by split<;>simp⟩,j⟩,k⟩
theorem _root_.Go.Sl.KeepsC.gl{A B:World}(h:KeepsC A B)(g:Gl (hp A)):Gl (hp B):=by
 obtain⟨⟨a,b,c,n⟩,⟨d,e,o⟩,⟨f,i,j,p,k3⟩,⟨k,l,m,q,k4⟩⟩:=g;exact⟨⟨a,b,c,h.2 _ _ n rfl⟩,⟨d,e,h.2 _ _ o rfl⟩,⟨f,i,j,h.2 _ _ p rfl,k3⟩,⟨k,l,m,h.2 _ _ q rfl,k4⟩⟩
theorem Hx{w0 W:World}(h:Below w0.heap.size w0 W):l_.le (hp w0) (hp W):=fun b o a=>(h.block b (kr.1 a).1).trans a
theorem ur(m:Bs)(hm:m.length<=1000000000)(g:Nat)(w0:World)(hg:Gl (hp w0))(Y:w0.heap[g]? =some (.cells #[B m] 9 (0,0)))(n:Nat):
  SeqStopsK Fence.wide n prog 435 #[l9 g] (PD (n:=m.length)) KeepsC (fun _=>True) (fun _=>True) 2000000000 w0:=by
 intro l J Jx W hW O q2 hY h0;have Q:=Hx hW;have q3:(Z_ W).heap g=some (.cells #[B m] 9 (0,0)):=by rw[M1];exact Q _ _ Y
 have Z:Gl (Z_ W).heap:=by rw[M1];exact hg.le Q
 refine callsIn_of_wp func435 rfl trivial ?_ rfl;refine(?_:GN none n prog 42 _ _ (aw 0 [.func (.yield l) #[] #[],l9 g]) (Z_ W) []) _ _ (T3 42 _ rfl) (ab W);refine M5 ?_;refine I9 ?_;refine C7 ?_;refine r_ (i8 rfl (fun w hw=>I0 hw q3 rfl)) ?_;refine e_ (C:=[]) (rY m hm) (fun h hh _=>Z.le hh) ?_;rintro v A ⟨⟨hd,t,rfl,x0,ht⟩,rfl⟩;refine ap ?_;refine O_ ?_;refine M5 ?_;refine I9 ?_;refine r7 ?_;refine e_ (C:=[]) (wD hd qb) (fun h hh _=>Z.le hh) ?_;rintro v A ⟨p,i,h4,rfl,rfl,x1,x2⟩;refine I8 2 ?_;refine O_ ?_;refine aV ?_;intro a w q4 S;have h5:n9 (hp w) p (fV i):=(S.ownN (t:=9) ud).2.2.1;have x3:∀(d:List (FX m.length)) (A:World) (B':World) (y:Option Nat),J d A->A.grownBy B' y->(∀r,y=some r->W.heap.size<=r/\∃o:Obj,A.heap[r]? =some o/\o.isWalk=true)->J d B':=fun d A B' y z h2 h3=>O d A B' y z h2 h3;refine wpIn_loop (fun a w=>∃(k:Nat) (d:List (FX m.length)),G5 42 [(0,.func (.yield l) #[] #[]),(16,.slice p i.length h4),(17,.int .i64 (i.length:Nat)),(18,.int .i64 (k:Nat))] a/\J d w/\Gl (hp w)/\n9 (hp w) p (fV i)/\d.length<=k/\k<=i.length) (fun a _=>Rj i.length a)
  ⟨0,[],q4.sub sub,O [] W w none h0 (B7 S) (fun r e=>by cases e),(KeepsC.of_grown (B7 S)).gl (hg.le Q),h5,zr _,zw _⟩ ?_
 rintro a w ⟨k,d,h6,D,M,u,x9,y0⟩;have T:Rj i.length a=i.length-k:=by
  have z:a.tmps[18]? =some (.int .i64 (k:Nat)):=h6.at_ _ _ rfl;unfold Rj;rw[z];simp
 have h7:n9 (Z_ w).heap p (fV i):=by rw[M1];exact u
 refine(?_:GN none n prog 42 _ _ [(0,.func (.yield l) #[] #[]),(16,.slice p i.length h4),(17,.int .i64 (i.length:Nat)),(18,.int .i64 (k:Nat))] (Z_ w) []) a w h6 (ab w);refine M5 ?_;refine I9 ?_;refine r7 ?_;refine O_ ?_;refine M5 ?_;refine aH rfl ?_ ?_<;>intro h
 ·have c:k<i.length:=by have:=qr h;omega
  obtain⟨l0,h8⟩:=o8 (i.getD k []);have q9:l0.length<=m.length:=by rw[h8];have:=pN (dO (l:=i) c);omega
  have y1:=ce u c;refine eL ?_;refine O_ ?_;refine M5 ?_;refine aV ?_;refine M5 ?_;refine I9 ?_;refine r7 ?_;refine r_ ((i8 rfl (fun w hw=>OU hw h7 x4 c)).eq (v':=B l0) (by rw[h8])) ?_;refine r7 ?_;refine O_ ?_;refine M5 ?_;refine I9 ?_;refine r7 ?_;refine e_ (C:=[]) (Mv l0 qb) (fun h hh _=>(show Gl (Z_ w).heap by rw[M1];exact M).le hh) ?_;rintro v A ⟨⟨X,vl,ok,rfl,y2,y3⟩,rfl⟩;refine wk 7 ?_;obtain⟨q,hq⟩:=o8 (decide (X=[]));refine O_ ?_;refine M5 ?_
  cases ok
  ·refine I9 ?_;refine wk 9 ?_;(first|refine u_ ?_|(refine v_ ?_;fail));(first|refine u_ ?_|(refine v_ ?_;fail));refine A1 ?_;refine O_ ?_;refine aH rfl (fun h=>absurd h qp) (fun _=>?_);refine eL ?_;refine O_ ?_;refine I9 ?_;refine A1 ?_;unfold At;intro a3 w3 f b;refine⟨⟨k+1,d,f.sub sub,O _ w w3 none D (B7 b) (fun r e=>by cases e),(KeepsC.of_grown (B7 b)).gl M,(KeepsC.of_grown (B7 b)).rd u,by omega,c⟩,?_⟩;have z:a3.tmps[18]? =some (.int .i64 ((k:Nat)+1:Int)):=f.at_ _ _ rfl;rw[T];unfold Rj;rw[z];simp only;omega
  cases q
  case true=>
   refine I9 ?_;refine E7 ?_;(first|refine u_ ?_|(refine v_ ?_;refine f_ ((E8 rfl rfl).eq (v':=.bool false) (jy (fun x=>Value.bool (!x)) hq.symm)) ?_));refine ap ?_;(first|refine u_ ?_|(refine v_ ?_;fail));(first|refine u_ ?_|(refine v_ ?_;fail));refine A1 ?_;refine O_ ?_;refine aH rfl (fun h=>absurd h qp) (fun _=>?_);refine eL ?_;refine O_ ?_;refine I9 ?_;refine A1 ?_;unfold At;intro a3 w3 f b;refine⟨⟨k+1,d,f.sub sub,O _ w w3 none D (B7 b) (fun r e=>by cases e),(KeepsC.of_grown (B7 b)).gl M,(KeepsC.of_grown (B7 b)).rd u,by omega,c⟩,?_⟩;have z:a3.tmps[18]? =some (.int .i64 ((k:Nat)+1:Int)):=f.at_ _ _ rfl;rw[T];unfold Rj;rw[z];simp only;omega
  have q5:vl.length<=1000000000:=by omega
  refine og (pre:=List.take 10 _) (suf:=List.drop 10 _) (Qk 10 _).symm (.inl rfl) ?_;refine f_ oF ?_;refine f_ oF ?_;refine A2 rfl rfl rfl ?_;refine f_ oF ?_;refine A2 rfl rfl rfl ?_;refine f_ ((E8 rfl rfl).eq (v':=.bool true) (jy (fun x=>Value.bool (!x)) hq.symm)) ?_;refine f_ oF ?_;refine f_ oF ?_;refine A2 rfl rfl rfl ?_;refine f_ oF ?_;refine A2 rfl rfl rfl ?_;refine f_ oF ?_;refine A2 rfl rfl rfl ?_;refine f_ oF ?_;refine A2 rfl rfl rfl ?_;refine e_ (C:=[]) (Lz vl q5) qw ?_;rintro v A ⟨⟨tr,rfl,z0⟩,rfl⟩;refine F8 ?_;unfold At;intro a1 w1 s h9;have k0:KeepsC w w1:=KeepsC.of_grown (B7 h9);have q6:J d w1:=O d w w1 none D (B7 h9) (fun r e=>by cases e);have q7:=hY d ⟨(X,tr),by show X.length<=_;omega,by show tr.length<=_;omega⟩ w1 q6 qb;refine uq rfl rfl (s.at_ _ _ rfl) ?_;refine vf (m:=n-1) (l:=l) (vs:=[B X,B tr]) (s.eval (x:=.tmp 34) rfl) (by simp only[Qu,Jz];rw[s.eval (x:=.tmp 35) rfl,s.eval (x:=.tmp 37) rfl];rfl) q7 rfl ?_;rintro e j (⟨rfl,q8,k8⟩|⟨rfl,k9⟩)
  ·refine⟨_,rfl,?_⟩;have q0:Gl (hp j):=k8.gl (k0.gl M);have q1:n9 (hp j) p (fV i):=k8.rd (k0.rd u);refine cN (F:=Z_ j) (H:=[]) (.inl rfl) ?_ (s.put rfl _) (ab j);refine A2 rfl rfl rfl ?_;refine f_ oF ?_;refine f_ oF ?_;refine F8 ?_;refine O_ ?_;refine aH rfl (fun h=>absurd h qp) (fun _=>?_);refine eL ?_;refine O_ ?_;refine I9 ?_;refine A1 ?_;unfold At;intro a3 w3 f b;refine⟨⟨k+1,d++[⟨(X,tr),by show X.length<=_;omega,by show tr.length<=_;omega⟩],f.sub sub,O _ j w3 none q8 (B7 b) (fun r e=>by cases e),(KeepsC.of_grown (B7 b)).gl q0,(KeepsC.of_grown (B7 b)).rd q1,by rw[zz];simp only[zx,zn];omega,c⟩,?_⟩;have z:a3.tmps[18]? =some (.int .i64 ((k:Nat)+1:Int)):=f.at_ _ _ rfl;rw[T];unfold Rj;rw[z];simp only;omega
  ·refine⟨_,rfl,?_⟩;refine cN (F:=Z_ j) (H:=[]) (.inl rfl) ?_ (s.put rfl _) (ab j);refine A2 rfl rfl rfl ?_;refine f_ oF ?_;refine f_ oF ?_;refine F8 ?_;refine O_ ?_;refine aH rfl (fun _=>?_) (fun h=>absurd h qp);refine xS ?_;unfold At;intro a2 w2 U V;have Y:=aP (P:=prog) (fn:=Tryz.f435) (R:=fun e j=>(∃v,e=.returned v)/\((∃d,True/\J d j)\/(∃pre,True/\Jx pre j))) rfl U ⟨⟨_,rfl⟩,.inr ⟨_,trivial,q2 _ j w2 none k9 (B7 V) (fun r e=>by cases e)⟩⟩;exact Y.2
 ·refine Al ?_;unfold At;intro a2 w2 U V;have Y:=aP (P:=prog) (fn:=Tryz.f435) (R:=fun e j=>(∃v,e=.returned v)/\((∃d,True/\J d j)\/(∃pre,True/\Jx pre j))) rfl U ⟨⟨_,rfl⟩,.inl ⟨d,trivial,O _ w w2 none D (B7 V) (fun r e=>by cases e)⟩⟩;exact Y.1
theorem DP(m:Bs):Ct prog 423 [B m] (fun _=>True) [] (fun v A=>∃g,v=.func (.func 435) #[] #[l9 g]/\A=[.blk g (.cells #[B m] 9)]):=by
 refine b_ 4 func423 rfl rfl rfl ?_;intro F _;refine C7 ?_;refine L5 rfl rfl rfl ?_;intro a;refine bQ ?_;exact d_ rfl rfl _ ⟨a,rfl,rfl⟩ i_
abbrev SZ(g4 g5:Nat)(v:Bs)(b:Bool):List As:=[.blk g4 (.cells #[B v] 9),.blk g5 (.cells #[.bool b] 4)]
def Ta(F1:l8)(g4 g5 n:Nat)(c:Code)(pre:List (FX n))(W:World):Prop:=c=.ret/\∃x:FX n,Hp F1 W (SZ g4 g5 x.1.2 true)
theorem Hy{F:l8}{d:World}{H:List As}{bs:List Nat}(h:Hp F d H)(i:∀b∈bs,F.heap b=none)(j:World)(A:List As)(k:Hp (r8 d bs) j A):Hp F j A:=by
 refine⟨k.os.trans h.os,k.tape.trans h.tape,k.output.trans h.output,fun b o a=>k.keep b o ?_,?_⟩
 ·have e:=h.keep b o a;have c:b∉bs:=fun f=>by rw[i b f] at a;cases a
  show E5 d bs b=_;simp[E5,c];exact e
 ·obtain⟨l,hs,m,hf⟩:=k.own;refine⟨l,hs,m,fun b g=>?_⟩;have e:=hf b g
  cases c:F.heap b with
  |none=>rfl
  |some o=>
   have n:=h.keep b o c;have p:b∉bs:=fun f=>(by rw[i b f] at c;cases c);have q:E5 d bs b=none:=e;have r:=(kr.1 n).1;simp[E5,p] at q;omega
theorem pO{P:Program}{fn:Func}{a:Go.Act}{w:World}{t t1 b d:Nat}{g c:TypeId}{v h:Value}[ha:HA P g false][ha1:HA P c false](i:fn.results=#[.cell t g,.cell t1 c])(j:a.tmps.getD t undef=.pointer (some ⟨b,0,none⟩))(k:a.tmps.getD t1 undef=.pointer (some ⟨d,0,none⟩))(l:w.cell? ⟨b,0,none⟩=some v)(m:w.cell? ⟨d,0,none⟩=some h):(results fn a.tmps).run P w=.ok (.tuple #[v,h]) w:=by
 have e:a.tmps[t]?.getD undef=.pointer (some ⟨b,0,none⟩):=by simpa using j
 have f:a.tmps[t1]?.getD undef=.pointer (some ⟨d,0,none⟩):=by simpa using k
 simp[results,i,e,f,asAddr,loadVar,ha.h,ha1.h,l,m,Sem.run_bind]
theorem kA{w:World}{b:Nat}{v:Value}{te:TypeId}(h:w.heap[b]? =some (.cells #[v] te (0,0))):w.cell? ⟨b,0,none⟩=some v:=by
 simp[World.cell?,h]
theorem DQ(m nm:Bs)(hm:m.length<=1000000000)(hn:nm.length<=2000000000):
  Ct prog 404 [B m,B nm] Gl [] (fun v A=>(∃(t:Bs) (ok:Bool),v=.tuple #[B t,.bool ok]/\t.length<=m.length)/\A=[]):=by
 intro w0 X hs u2 h0;have q5:X=[]:=hs;subst q5;rw[N3] at h0;refine(callsIn_wide (n:=5)).1 (callsIn_of_wp_marks func404 rfl trivial ?_ rfl);have q6:Gl (Z_ w0).heap:=by rw[M1];exact h0
 refine(?_:GN none 5 prog 18 _ _ (aw 0 [B m,B nm]) (Z_ w0) []) _ _ (T3 18 _ rfl) (ab w0);refine M5 ?_;refine I9 ?_;refine C7 ?_;refine L5 rfl rfl rfl ?_;intro Q;refine r7 ?_;intro u;refine r7 ?_;intro i;refine w8 ?_;refine O_ ?_;refine M5 ?_;refine M5 ?_;refine I9 ?_;refine r7 ?_;refine e_ (C:=[]) (DP m) qw ?_;rintro v A ⟨gF,rfl,rfl⟩;refine I8 0 ?_;refine O_ ?_;refine aV ?_;intro a O q7 y;have f:=q7.sub (L':=[(3,l9 Q),(4,l9 u),(5,l9 i),(9,.func (.func 435) #[] #[l9 gF])]) sub;obtain⟨F1,Y⟩:=o8 (r8 O [u,i]);have q8:O.heap[Q]? =some (.cells #[B nm] 9):=y.blk ud;have q9:O.heap[gF]? =some (.cells #[B m] 9):=y.blk ud;have h9:Gl (hp O):=q6.le y.keep;have k0:O.heap[u]? =some (.cells #[B []] 9):=y.blk ud;have h3:O.heap[i]? =some (.cells #[.bool false] 4):=y.blk ud;have x0:u≠i:=by rintro rfl;rw[k0] at h3;cases h3
 have x1:Hp F1 O (SZ u i [] false):=by
  rw[Y];exact Hp.start ⟨[u],[i],rfl,⟨rfl,k0⟩,[i],[],rfl,⟨rfl,h3⟩,rfl⟩ (by simp[x0])
 have g:∀b,(F1.heap b).isSome=true->b<O.heap.size:=by rw[Y];exact Fk
 have M:∀V A,Hp F1 V A->Hp (Z_ w0) V A:=fun V A k=>by
  rw[Y] at k;refine Hy y (fun b T=>?_) V A k;obtain⟨X,hs,_,hf⟩:=y.own;refine hf b ?_;rw[hs.blks];simp at T;rcases T with rfl|rfl<;>simp[As.blks]
 have h2:Q≠u/\Q≠i:=by
  obtain⟨X,hs,hn,hf⟩:=y.own;rw[hs.blks] at hn;simp[As.blks] at hn;constructor<;>(intro e;subst e;simp at hn)
 have k8:F1.heap Q=some (.cells #[B nm] 9):=by
  rw[Y];show E5 O [u,i] Q=_;simp[E5,h2.1,h2.2];exact q8
 refine wpIn_rangeFunc_ownH (F:=Fence.wide) (encs:=PD (n:=m.length)) (Kp:=KeepsC) (S:=fun _=>True) (Sp:=fun _=>True) (N:=2000000000) (w0:=O) rfl qp (f.eval (x:=.tmp 9) rfl) trivial (fun U w=>(inferInstance:HF prog 435).h U w) (ur m hm gF O h9 q9 4) (fun h k=>h.trans k) (fun W l o o' hl x2 hc hw=>KeepsC.put (w:=O) W l o o' hl x2 hc hw) (Below.refl _ O) (fun x=>rfl)
  (fun pre W=>Hp F1 W (SZ u i [] false)) (Ta F1 u i m.length)
  (fun s W V k9 hs hg hr=>ae hs rfl g hg hr)
  (fun c s W V k9 hs hg hr=>by obtain⟨e,x,h⟩:=hs;exact⟨e,x,ae h rfl g hg hr⟩) x1
  (fun x a' W=>G5 18 [(6,B x.1.1),(7,B x.1.2),(3,l9 Q),(4,l9 u),(5,l9 i)] a') (fun x a' s W V k9 hs hg hr=>hs) ?_ ?_ ?_ ?_
 ·intro l pre x W K Z hK;have x3:G5 18 [(11,B x.1.2),(10,B x.1.1),(3,l9 Q),(4,l9 u),(5,l9 i)] {tmps:=(a.tmps.setIfInBounds 10 (B x.1.1)).setIfInBounds 11 (B x.1.2),defers:=[]}:=by
   have h1:=((f.put (d:=10) rfl (B x.1.1)).put (d:=11) rfl (B x.1.2)).sub (L':=[(11,B x.1.2),(10,B x.1.1),(3,l9 Q),(4,l9 u),(5,l9 i)]) sub;exact⟨rfl,h1.size,h1.at_⟩
  refine(?_:GN (some l) 3 prog 18 _ _ [(11,B x.1.2),(10,B x.1.1),(3,l9 Q),(4,l9 u),(5,l9 i)] (Z_ W) []) _ W (by simpa[PD] using x3) (ab W);refine M5 ?_;refine dI (.inr (by intro o ho c;simp at ho;rcases ho with rfl;simp)) ?_;refine f_ oF ?_;refine F8 ?_;refine O_ ?_;refine dI (.inr (by intro o ho c;simp at ho;rcases ho with rfl;simp)) ?_;refine f_ oF ?_;refine F8 ?_;unfold At;intro a' V x9 y0;have p:=B7 y0;exact hK a' V (KeepsFrom.of_grownBy p (fun j e=>by cases e)) (KeepsC.of_grown p) (ae Z rfl g p (fun r e=>by cases e)) (x9.sub sub)
 ·intro l pre x a' W u8 u0 Z hA u1;have p3:(Z_ W).heap Q=some (.cells #[B nm] 9):=by rw[M1];exact Z.keep _ _ k8
  obtain⟨q,hq⟩:=o8 (decide (R9 x.1.1=R9 nm));have v0:=x.2.1;refine(?_:GN (some l) 3 prog 18 _ _ [(6,B x.1.1),(7,B x.1.2),(3,l9 Q),(4,l9 u),(5,l9 i)] (Z_ W) []) a' W hA (ab W);refine aV ?_;refine M5 ?_;refine Mu ([2],[0,1,0,7,15],[1,3]) [] 5 rfl (by rfl) ?_;refine wd [0] ?_;refine D1 2 rfl (i8 rfl (fun w hw=>I0 hw p3 rfl)) G2 rfl rfl rfl i6 ?_;refine h_ 1 rfl i6 ?_;refine c_ rfl (I4 x.1.1 qb) qw rfl ?_;refine Y9 ?_;refine h_ 3 rfl i6 ?_;refine c_ rfl (I4 nm qb) qw rfl ?_;refine xF ?_;refine w_ 4 rfl ((C8 rfl rfl).eq (v':=.bool q) (qn hq.symm)) ?_;refine wd [] ?_;refine O_ ?_;refine aH rfl ?_ ?_<;>intro _
  ·intro a2 w2 q0 h4;have p:=B7 h4;have y1:=ae Z rfl g p (fun r e=>by cases e);obtain⟨X,hs,h7,z⟩:=fC y1;refine(?_:GN (some l) 3 prog 18 _ _ [(7,B x.1.2),(4,l9 u),(5,l9 i)] (r8 w2 X) (SZ u i [] false)) a2 w2 (q0.sub sub) h7;refine M5 ?_;refine dI (.inr (by intro o ho c;simp at ho;rcases ho with rfl|rfl|rfl<;>simp)) ?_;refine f_ oF ?_;refine bZ rfl rfl uh pa rfl rfl ?_;refine bZ rfl rfl uh pa rfl rfl ?_;refine F8 ?_;refine O_ ?_;refine xS ?_;unfold At;intro a3 w3 v1 q1;exact⟨(KeepsFrom.of_grownBy p (fun j e=>by cases e)).trans (iZ hs rfl q1 (fun b T=>by rw[hs.blks] at T;exact T) _),rfl,x,z _ _ q1⟩
  ·refine eL ?_;unfold At;intro a2 V q0 h4;have p:=B7 h4;exact⟨KeepsFrom.of_grownBy p (fun j e=>by cases e),KeepsC.of_grown p,ae Z rfl g p (fun r e=>by cases e)⟩
 ·intro D xs W hD v2 Z hK;obtain⟨X,hs,h7,z⟩:=fC Z;have y2:D∉X:=fun T=>by
   obtain⟨o,h5,h6⟩:=hs.cells (by rfl) D T;have q2:W.heap[D]? =some o:=h5;rw[hK] at q2;cases q2;cases h6
  have y3:(r8 W X).heap D=some (.deferred (some [])):=by simp[r8,E5,y2,hK]
  rw[ja f _];refine wpIn_seq ?_;refine(wpIn_wide (n:=5)).2 (ug (K:=fun a' w'=>G5 18 [(4,l9 u),(5,l9 i)] a'/\Hp (r8 W X) w' (SZ u i [] false)) (Kp:=fun _ _=>False) (R:=fun _ _=>False) [_] ?_ ?_ (fun _ _ _ h=>h.elim) (fun _ _ h=>h.elim) (f.sub (L':=[(4,l9 u),(5,l9 i)]) sub) h7)
  ·refine bZ rfl rfl uh pa rfl rfl ?_;refine bZ rfl rfl uh pa rfl rfl ?_;refine F8 ?_;exact p9 sub i_
  ·rintro a9 w9 ⟨h8,q3⟩;have q4:w9.heap[D]? =some (.deferred (some [])):=q3.keep D _ y3;have J:=ae (z _ _ q3) rfl g (grownBy_putObj' w9 D (.deferred none)) (fun r e=>by cases e;exact⟨hD,_,q4,rfl⟩);refine wpIn_ret ?_;have T:=(fD (n:=5) (P:=prog) (fn:=Tryz.f404) (R:=fun e w'=>∃v A,e=.returned v/\((∃(t:Bs) (ok:Bool),v=.tuple #[B t,.bool ok]/\t.length<=m.length)/\A=[])/\Hp (r8 w0 []) w' A) (a:=qT [{target:=.collected D,args:=#[]}] a9) (w:=w9) (D:=D) (ds:=[]) (by show a9.defers++_=_;rw[h8.defers];rfl) rfl q4 ⟨_,pO rfl (h8.eval (x:=.tmp 4) rfl) (h8.eval (x:=.tmp 5) rfl) (kA (J.blk ud)) (kA (J.blk ud)),_,[],rfl,⟨⟨_,_,rfl,zw _⟩,rfl⟩,M _ _ J.dropAll⟩).2;exact T
 ·intro D c pre W hD z0 z2 hK;obtain⟨rfl,x,Z⟩:=z2;have J:=ae Z rfl g (grownBy_putObj' W D (.deferred none)) (fun r e=>by cases e;exact⟨hD,_,hK,rfl⟩);rw[ja f _];refine wpIn_ret ?_;have T:=(fD (n:=5) (P:=prog) (fn:=Tryz.f404) (R:=fun e w'=>∃v A,e=.returned v/\((∃(t:Bs) (ok:Bool),v=.tuple #[B t,.bool ok]/\t.length<=m.length)/\A=[])/\Hp (r8 w0 []) w' A) (a:=qT [{target:=.collected D,args:=#[]}] a) (w:=W) (D:=D) (ds:=[]) (by show a.defers++_=_;rw[f.defers];rfl) rfl hK ⟨_,pO rfl (f.eval (x:=.tmp 4) rfl) (f.eval (x:=.tmp 5) rfl) (kA (J.blk ud)) (kA (J.blk ud)),_,[],rfl,⟨⟨_,_,rfl,x.2.2⟩,rfl⟩,M _ _ J.dropAll⟩).2;exact T
theorem Hz{h:l_}{l:List BM}{bs:List Nat}(hs:A3 h (V9 l) bs):∀b∈l,n9 h b.a (qK b.ls):=fun b a=>dP hs (jv.2 ⟨b,a,rfl⟩)
abbrev Tb(m:MM)(r:RQ)(q:QL)(h:l_):Prop:=(∀b∈m.a5J,iC b.ls h)/\dA r q h
def OpQ(b:Nat)(r:RQ)(q:QL)(e:AR)(h:l_)(v:Value)(A:List As):Prop:=∃m' o y,v=.int .i64 e.2.2/\A=[R_ b m' r q o y]/\m'.s=e.1/\(e.2.2=0->o=e.2.1)/\iE m' h/\L_ o y h
def HB(f:FuncId)(b:Nat)(m:MM)(r:RQ)(q:QL)(e:AR):Prop:=Cm prog f [l9 b] (Tb m r q) (R_ b m r q B_ M9::uO m) (OpQ b r q e)
theorem C_{N:Nat}{L:G0}{F g:l8}{H R:List As}{fn:Func}{t b:Nat}{e:AR}{r:RQ}{q:QL}(a:MM)(o:OC)(y:OL)(i:fn.results=#[.tmp t])(hv:find L t=some (.int .i64 e.2.2))(hl:g.le F)(hH:∀w,Hp F w H->Hp F w (R_ b a r q o y::(uO a++R)))(hs:a.s=e.1)(j:e.2.2=0->o=e.2.1)(hf:∀b∈a.a5J,iC b.ls F.heap)(k:L_ o y F.heap):At N (CR prog fn g R (OpQ b r q e)) L F H:=by
 refine At.weaken (H':=(R_ b a r q o y::R)++uO a) ?_ (fv.refl _) (fun w l=>(hH w l).perm (List.Perm.cons _ kz));refine dJ fun m c ⟨u,f⟩=>?_;refine H4 (A:=[R_ b a r q o y]) (v:=.int .i64 e.2.2) (hl.trans c) ⟨a,o,y,rfl,rfl,hs,j,?_,Mn.le c.heap k⟩ ?_
 ·obtain⟨_,x,_,n,_,z,_,p,_,C,_,s,h⟩:=f;have d:A3 m.heap (uO a) _:=⟨_,_,rfl,n,_,_,rfl,p,_,_,rfl,s,h⟩;exact⟨A3.rd d ud,A3.rd d ud,A3.rd d ud,fun b f=>⟨Hz h b f,Mn.le c.heap (hf b f)⟩⟩
 ·exact d_ i hv _ qh i_
theorem Mw(b:Nat)(m:MM)(r:RQ)(q:QL):HB 58 b m r q (m.s,B_,0):=by
 refine y5 3 func58 rfl rfl rfl ?_;rintro F R ⟨a,c⟩;refine L7 ?_;exact C_ m B_ M9 rfl rfl (l8.le_refl _) i_ rfl (fun _=>rfl) a (L_.zero _)
theorem HC(b:Nat)(m:MM)(r:RQ)(q:QL)(hs:m.a5V<=D9):HB 65 b m r q (lk m.s):=by
 refine y5 18 func65 rfl rfl rfl ?_;rintro F R ⟨a,g⟩;have h:m.a5V<=9223372036854775807:=hs;obtain⟨e,d⟩:=o8 (decide (m.a5V=D9));refine aq ?_;refine f_ ((p7 rfl rfl).eq (v':=.bool e) (qn ((zp.2 (by show _↔m.a5V=9223372036854775807;omega)).trans d.symm))) ?_;refine w8 ?_
 cases e
 ·have c:m.a5V≠D9:=zq d.symm;have i:m.a5V≠9223372036854775807:=c;have f:lk m.s=({m.s with a5V:=m.a5V+1},B_,0):=zk c;rw[f];refine ap ?_;refine f_ ((L2 rfl rfl qb).eq (v':=.int .u64 ((m.a5V+1:Nat):Int)) (by congr 1)) ?_;refine JT ?_;exact C_ {m with a5V:=m.a5V+1} B_ M9 rfl rfl (l8.le_refl _) i_ rfl (fun _=>rfl) a (L_.zero _)
 ·have c:m.a5V=D9:=qr d.symm;have f:lk m.s=(m.s,B_,13):=zg c;rw[f];refine C5 ?_;exact C_ m B_ M9 rfl rfl (l8.le_refl _) i_ rfl qx a (L_.zero _)
theorem Tc{F:l8}{w:World}{x y z:As}{T:List As}(h:Hp F w (x::y::z::T)):Hp F w (z::x::T):=(h.perm (List.Perm.trans (List.Perm.swap y x (z::T)) (List.Perm.cons y (List.Perm.swap z x T)))).drop
abbrev PF(b:Nat)(m:MM)(r:RQ)(q:QL)(o:OC)(y:OL)(h:l_):Prop:=h b=some (.cells (Oa m r q o y).toArray 136 (0,0))
theorem Mx(b g:Nat)(m:MM)(r:RQ)(q:QL)(o:OC)(y:OL)(x:SX):Pu prog 107 [.agg (nq x).toArray,l9 g] (fun h=>aM g (l9 b) 132 h/\PF b m r q o y h) (.bool (decide (x.ses=r.ses))):=by
 refine b_ 12 func107 rfl rfl rfl ?_;rintro F ⟨hf,a⟩;refine C7 ?_;refine m8 rfl rfl ?_;intro c;refine r7 ?_;refine D2 [1,2,6] [] [.blk c (.cells (nq x).toArray 102)] 9 ?_;refine wd [0,1,2,3,4,5,6] ?_;refine w_ 7 rfl ((p7 rfl rfl).eq (dN x.ses r.ses)) ?_;refine wd [8] ?_;refine A4 ?_;exact d_ rfl rfl [] qh (fun w d=>d.dropAll)
theorem PG(b:Nat)(m:MM)(r:RQ)(q:QL)(g:m.a5L.length<=1000):HB 57 b m r q (Pf m.s r):=by
 refine y5 14 func57 rfl rfl rfl ?_;rintro F R ⟨c,e⟩;refine C7 ?_;refine L5 rfl rfl rfl ?_;intro a;refine r7 ?_;refine D2 [0,1,5] [7,11] [.blk a (.cells #[l9 b] 132),R_ b m r q B_ M9] 12 ?_;refine wd [0,1,2,3,4,5,6] ?_;refine h_ 7 rfl i6 ?_;refine e_ (oM m.a5L m.sa m.sc 107 [l9 a] (fun h=>aM a (l9 b) 132 h/\PF b m r q B_ M9 h) (fun x=>decide (x.ses=r.ses)) (fun x _=>Mx b a m r q B_ M9 x) qb) ?pre ?_;(case pre=>exact fun h i d=>⟨J_ d,J_ d⟩);rintro v A ⟨rfl,rfl⟩;refine fg [8,9,10,11] ?_;refine C5 ?_;exact C_ {m with a5L:=m.a5L.filter fun x=>!decide (x.ses=r.ses)} B_ M9 rfl rfl (l8.le_refl _) (fun w f=>Tc f) rfl (fun _=>rfl) c (L_.zero _)
theorem wF(l:List BM)(i:Nat):(fh l).take (i*5)=fh (l.take i):=aA o_ l i
theorem wG(l:List BM)(i:Nat):(fh l).drop (i*5)=fh (l.drop i):=lf o_ l i
theorem DR(l:List BM)(a:Option Addr)(c i:Nat)(C:i<l.length)(hl:l.length<=1000000):Ct prog 113 [.slice a l.length c,.int .i64 (i:Nat),.int .i64 ((i+1:Nat):Int)] (fun _=>True) [T0 a l c] (fun v A=>v=.slice a (l.eraseIdx i).length c/\A=[T0 a (l.eraseIdx i) c]):=by
 refine b_ 33 func113 rfl rfl rfl ?_;intro F _;have O:(l.eraseIdx i).length=l.length-1:=by rw[List.length_eraseIdx,zg C]
 have o:(l.drop (i+1)).length=l.length-(i+1):=z8;refine B5 (a:=a) (n:=l.length) (c:=c) (sz:=5) (xs:=fh l) (te:=100) ud fun f p q=>?_;obtain⟨b,d⟩:∃D:List BM,D=l.drop (l.length-1):=⟨_,rfl⟩;have J:L6 (fh l) (i*5) (fh (l.drop (i+1)))=fh (l.eraseIdx i++b):=by
  unfold L6;rw[wF,np,o,<-Q0,wG,show i+(l.length-(i+1))=l.length-1 from by omega,<-d,Kh];simp only[Z7]
 refine aq ?_;refine f_ (fP rfl rfl rfl rfl qb) ?_;refine A1 ?_;refine f_ ((p7 rfl rfl).eq (v':=.bool false) (qn qj)) ?_;refine E7 ?_;refine xR ([],[],[]) [T0 a l c] 8 rfl ?_;refine wd [0,1] ?_;refine w_ 2 rfl ((B6 rfl rfl rfl qb).eq (v':=.slice a i c) (by simp[dY])) ?_;refine wd [3,4] ?_;refine w_ 5 rfl (B6 rfl rfl rfl qb) ?_;refine h_ 6 rfl i6 ?_;refine tM (a:=a) (n:=l.length) (k:=i) (m:=l.length-(i+1)) (news:=fh (l.drop (i+1))) rfl ((show∀{u v:Value},u=v->some u=some v from fun h=>by rw[h]) (by congr 1)) uh uh ?_ (by rw[np,o]) qp (AA _) qb rfl ?_;·(intro w r;have s:=((r.ownN (t:=100) ud).2.2.1:n9 _ a (fh l)).cut f p (i+1) l.length qb (zr _);rw[wG,jq (by rw[np,o];omega)] at s;exact s)
 refine E6 [7] ?_;rw[J];refine O3 ?_;refine f_ (B6 rfl rfl rfl qb) ?_;refine jN (a:=a) (n:=l.length) (c:=c) (sz:=5) (lo:=i+(l.length-(i+1))) (xs:=fh (l.eraseIdx i++b)) (te:=100) rfl qb qb rfl rfl (fun x=>uh) ?_;intro x M g;refine L7 ?_;have y:i+(l.length-(i+1))=(l.eraseIdx i).length:=by omega
 rw[y] at g;have e:x.take ((l.eraseIdx i).length*5)=fh (l.eraseIdx i):=by rw[g,wF,K7]
 exact d_ rfl rfl _ ⟨by rw[y],rfl⟩ (fun w r=>by have z:=r.cutOwn (j:=(l.eraseIdx i).length) uh qb;rw[e] at z;exact z)
theorem Bu(l:List BM)(a:Bs):(l.map BM.x).findIdx? (fun b=>decide (b.name=a))=l.findIdx? fun b=>decide (b.name=a):=by
 rw[List.findIdx?_map];rfl
theorem gH{m:MM}{a:Bs}(h:D3 (fun b:BM=>decide (b.name=a)) m.a5J<0):xH m.s a=none:=by
 unfold D3 at h;unfold xH;rw[Bu]
 cases e:m.a5J.findIdx? fun b=>decide (b.name=a) with
 |none=>rfl
 |some i=>rw[e] at h;simp only[Option.elim] at h;omega
theorem gI{m:MM}{a:Bs}(h:¬D3 (fun b:BM=>decide (b.name=a)) m.a5J<0):∃i:Nat,D3 (fun b:BM=>decide (b.name=a)) m.a5J=(i:Nat)/\i<m.a5J.length/\xH m.s a=some i:=by
 unfold D3 at h⊢;unfold xH;rw[Bu]
 cases e:m.a5J.findIdx? fun b=>decide (b.name=a) with
 |none=>rw[e] at h;simp only[Option.elim] at h;omega
 |some i=>exact⟨i,rfl,(kg.1 e).1,rfl⟩
theorem sy{α β:Type}(f:α->β):∀(l:List α) (i:Nat),(l.eraseIdx i).map f=(l.map f).eraseIdx i
 |[],_=>rfl
 |_::_,0=>rfl
 |x::t,i+1=>by simp only[List.eraseIdx_cons_succ,Qu,sy f t i]
theorem L4{l:List BM}{i:Nat}(a:i<l.length):(V9 l).Perm (N9 l[i].a l[i].ls l[i].c::V9 (l.eraseIdx i)):=by
 have e:l.Perm (l[i]::l.eraseIdx i):=by
  rw[Kh];have c:l=l.take i++l[i]::l.drop (i+1):=by rw[<-Qg a,Qk]
  conv=>lhs;rw[c]
  exact Qd
 exact e.map fun b=>N9 b.a b.ls b.c
theorem HD{F:l8}{w:World}{x y u v:As}{l:List BM}{i:Nat}{R:List As}(a:i<l.length)(h:Hp F w (x::y::u::v::(V9 l++R))):Hp F w (y::u::v::x::(V9 (l.eraseIdx i)++R)):=by
 have b:Hp F w ([x,y,u,v]++((N9 l[i].a l[i].ls l[i].c::V9 (l.eraseIdx i))++R)):=h.perm (((L4 a).append_right R).append_left [x,y,u,v]);have c:Hp F w (N9 l[i].a l[i].ls l[i].c::([x,y,u,v]++(V9 (l.eraseIdx i)++R))):=b.perm Qd;exact c.drop.perm (kz (l₁:=[x]) (l₂:=[y,u,v])|>.append_right _)
theorem DS(b:Nat)(m:MM)(r:RQ)(q:QL)(k:m.a5J.length<=1000):HB 60 b m r q (bJ m.s r):=by
 refine y5 37 func60 rfl rfl rfl ?_;rintro F R ⟨a,l⟩;refine r7 ?_;refine D2 [3,8] [9] [R_ b m r q B_ M9] 11 ?_;refine wd [0,1,2,3,4,5,6,7,8] ?_;refine h_ 9 rfl i6 ?_;refine c_ rfl (oL m r.box k) (fun h p ⟨s,g⟩=>A3.rd g ud) rfl ?_;refine E6 [10] ?_;obtain⟨e,j⟩:=o8 (decide (r.box=cP));refine ap ?_;refine f_ ((C8 rfl rfl).eq (v':=.bool e) (qn j.symm)) ?_;refine r7 ?_
 cases e
 ·have f:r.box≠cP:=zq j.symm;refine eM ?_ ?_<;>intro h
  ·have c:bJ m.s r=(m.s,B_,6):=(by unfold bJ;rw[zk f,gH (qr h)]);rw[c];refine C5 ?_;exact C_ m B_ M9 rfl rfl (l8.le_refl _) i_ rfl qx a (L_.zero _)
  ·obtain⟨i,n,d,ha⟩:=gI (zq h);have c:bJ m.s r=({m.s with a5J:=m.s.a5J.eraseIdx i},B_,0):=(by unfold bJ;rw[zk f,ha]);rw[c,n];refine wk 8 ?_;refine f_ ((p_ rfl rfl qb).eq (v':=.int .i64 ((i+1:Nat):Int)) (by congr 1)) ?_;refine e_ (DR m.a5J m.ba m.bc i d qb) qw ?_;rintro v A ⟨rfl,rfl⟩;refine JT ?_;exact C_ {m with a5J:=m.a5J.eraseIdx i} B_ M9 rfl rfl (l8.le_refl _) (fun w o=>HD d o) (by simp only[MM.s,sy]) (fun _=>rfl) (fun b g=>a b (Ju g)) (L_.zero _)
 ·have f:r.box=cP:=qr j.symm;have c:bJ m.s r=(m.s,B_,1):=zg f;rw[c];refine C5 ?_;exact C_ m B_ M9 rfl rfl (l8.le_refl _) i_ rfl qx a (L_.zero _)
theorem di{P:Program}{dst:Option Nat}{x:Operand}{t ty:TypeId}{pos:String}{af:Array Edge}{gd:Option (Nat×Bool)}{L:G0}{F:l8}{H:List As}{b o n:Nat}{l vs:List Value}{te:TypeId}{fr:Nat×Nat}[ha:HA P t true][hs:HS P t n](hx:ev L x=some (.pointer (some ⟨b,o,none⟩)))(c:F.heap b=some (.cells l.toArray te fr))(hv:dM l o n vs):dr P ⟨dst,.load t x,ty,pos,af,gd⟩ L F H (.agg vs.toArray):=by
 have h:=hv.get;refine p8 hx (fun w d=>⟨_,rfl,fun j q a=>?_⟩) (by rw[h.2,z1,z8];omega);have f:=d.keep b _ c;have g:w.heap[b]? =some (.cells l.toArray te fr):=f;have e:(⟨b,o,none⟩:Addr).add j=⟨b,o+j,none⟩:=Addr.add_lit _ _ _;rw[e];rw[h.2,Wb] at a;split at a
 ·rw[Q2] at a;simp[l_.cell?,hp,g,a]
 ·cases a
abbrev dj(m:MM)(i:Nat):Value:=.pointer (N0 m.ba (i*5))
def fU(m:MM):Option Nat->Value
 |none=>.tuple #[.pointer none,.bool false]
 |some i=>.tuple #[dj m i,.bool true]
theorem eV{m:MM}{i:Nat}(h:i<m.a5J.length):aj m.s i=m.a5J[i].x:=by
 unfold aj;rw[zd,Zj,zj h];rfl
theorem pP{m:MM}{r:RQ}{i:Nat}(h:named m.s r=some i):i<m.a5J.length:=by
 unfold named at h;obtain⟨j,b,a⟩:=zc.1 h;split at a
 ·cases a
  unfold xH at b;have:=(kg.1 b).1;simpa using this
 ·cases a
theorem ei(b:Nat)(m:MM)(r:RQ)(q:QL)(o:OC)(y:OL)(k:m.a5J.length<=1000):Pu prog 116 [l9 b] (fun h=>PF b m r q o y h/\n9 h m.ba (fh m.a5J)) (fU m (named m.s r)):=by
 refine b_ 41 func116 rfl rfl rfl ?_;rintro F ⟨l,a⟩;refine A1 ?_;refine D2 [3,8] [9] [] 11 ?_;refine wd [0,1,2] ?_;refine D1 3 rfl (di rfl l ga) G2 rfl rfl rfl i6 ?_;refine wd [4,5,6,7,8] ?_;refine h_ 9 rfl i6 ?_;refine c_ rfl (oL m r.box k) (fun h n _=>a.le n) rfl ?_;refine E6 [10] ?_;by_cases hn:D3 (fun b:BM=>decide (b.name=r.box)) m.a5J<0
 ·have e:named m.s r=none:=by unfold named;rw[gH hn];rfl
  rw[e];refine w8 ?_;refine D2 [7,11,16] [] [] 19 ?_;refine wd [0] ?_;refine w_ 1 rfl ((F6 rfl rfl).eq (v':=.bool true) (qn (jk hn))) ?_;refine wd [2,3,4,5,6,7,8,9,10,11,12,13,14,15,16,17,18] ?_;refine L7 ?_;exact u6 rfl rfl rfl [] qh i_
 ·obtain⟨i,p,c,ha⟩:=gI hn;have d:=q_ a o_ qp c;obtain⟨e,f⟩:=o8 (decide (m.a5J[i].val=r.val));have g:named m.s r=if m.a5J[i].val=r.val then some i else none:=by
   unfold named;rw[ha,z6,eV c]
  rw[p];refine w8 ?_;refine D2 [7,11,16] [] [] 19 ?_;refine wd [0] ?_;refine w_ 1 rfl ((F6 rfl rfl).eq (v':=.bool false) (qn qj)) ?_;refine wd [2,3,4,5,6,7,8,9,10] ?_;(first|refine s_ 11 ?_|refine t_ 11 ?_|refine bW 11 rfl (i8 rfl (fun w s=>cD (j:=1) (a.le s.keep) o_ c rfl x4)) G2 rfl rfl rfl rfl rfl rfl i6 ?_);refine wd [12,13,14,15,16] ?_;(first|refine s_ 17 ?_|refine t_ 17 ?_|refine E1 17 rfl ((M3 rfl rfl).eq (v':=.bool (!e)) (jy (fun x=>Value.bool (!x)) ((zp.2 Jv).trans f.symm))) rfl rfl rfl rfl rfl rfl i6 ?_);refine wd [18] ?_
  cases e
  ·rw[g,zk (zq f.symm)];refine L7 ?_;exact u6 rfl rfl rfl [] qh i_
  ·rw[g,zg (qr f.symm)];refine wk 9 ?_;refine A4 ?_;exact u6 rfl rfl rfl [] ⟨by simp[fU],rfl⟩ i_
def Y6(l:List LM):Nat:=(l.getLast?.map fun x=>x.t.uid).getD 0
theorem pQ(b:BM):vF b.x=Y6 b.ls:=by
 unfold vF Y6;rw[List.getLast?_map,J0];rfl
abbrev iK(g2 g5:Nat):Value:=.func (.func 195) #[] #[l9 g2,l9 g5]
theorem pR(b:Nat)(m:MM)(i:Nat)(g:i<m.a5J.length)(hl:m.a5J[i].ls.length<=1000):Ct prog 118 [l9 b,dj m i] (fun h=>n9 h m.ba (fh m.a5J)/\n9 h m.a5J[i].a (qK m.a5J[i].ls)) [] (fun v A=>∃c d,v=iK c d/\A=[.blk d (.cells #[.int .u64 (Y6 m.a5J[i].ls:Nat)] 27),.blk c (.cells #[l9 b] 132)]):=by
 refine b_ 24 func118 rfl rfl rfl ?_;rintro F ⟨a,e⟩;have k:=q_ a o_ qp g;refine C7 ?_;refine L5 rfl rfl rfl ?_;intro c;refine xG ?_;refine cd rfl rfl ?_;intro d;refine O3 ?_;refine r_ (i8 rfl (fun w f=>cD (j:=4) (a.le f.keep) o_ g rfl x4)) ?_;refine O3 ?_;refine n7 (ι:=Unit) (fun _=>True) (fun _=>[(2,l9 c),(5,l9 d)]) (fun _=>[.blk d (.cells #[.int .u64 (Y6 m.a5J[i].ls:Nat)] 27),.blk c (.cells #[l9 b] 132)]) ?_ ?_
 ·refine o9 rfl ?_ ?_<;>intro h
  ·have hp:0<m.a5J[i].ls.length:=(by have:=qr h;omega);have n:=q_ e B0 qp (i:=m.a5J[i].ls.length-1) qb;have l:Y6 m.a5J[i].ls=m.a5J[i].ls[m.a5J[i].ls.length-1].t.uid:=by
    unfold Y6;rw[Jw,zj qb];rfl
   rw[l];refine E7 ?_;refine r_ (i8 rfl (fun w f=>cD (j:=4) (a.le f.keep) o_ g rfl x4)) ?_;refine r7 ?_;refine f_ ((E0 rfl rfl qb).eq (v':=.int .i64 ((m.a5J[i].ls.length-1:Nat):Int)) (by congr 1;omega)) ?_;refine A1 ?_;refine r_ (i8 rfl (fun w f=>cD (j:=0) (e.le f.keep) B0 (i:=m.a5J[i].ls.length-1) qb rfl x4)) ?_;refine r7 ?_;exact g_ () trivial i_
  ·have hp:m.a5J[i].ls.length=0:=(by have:=zq h;omega);have l:Y6 m.a5J[i].ls=0:=by
    unfold Y6;rw[Jw,List.getElem?_eq_none qb];rfl
   rw[l];refine w8 ?_;exact g_ () trivial i_
 rintro _ _;refine L7 ?_;exact d_ rfl rfl _ ⟨c,d,rfl,rfl⟩ i_
theorem HG(l m:List Bs)(a b:Option Addr)(c d:Nat)(hl:l.length<=1000000000000):Pu prog 51 [.slice a l.length c,.slice b m.length d] (fun h=>n9 h a (fV l)/\n9 h b (fV m)) (.bool (decide (l=m))):=by
 refine b_ 26 func51 rfl rfl rfl ?_;intro F u;have j:=u.1;have n:=u.2;refine aq ?_;refine o9 rfl ?_ ?_<;>intro h
 ·have f:l≠m:=by rintro rfl;simp at h
  rw[Qz f];refine C5 ?_;exact d_ rfl rfl [] qh (fun _ h=>h)
 have o:l.length=m.length:=by simp at h;omega
 refine E7 ?_;refine o7 (ι:=Nat) (fun k=>k<=l.length/\∀i,i<k->l.getD i []=m.getD i []) (fun k=>[(0,.slice a l.length c),(1,.slice b m.length d),(12,.int .i64 (l.length:Nat)),(13,.int .i64 (k:Nat))]) (fun k=>[]) (fun k=>l.length-k) 0 ⟨by omega,fun i h=>by omega⟩ ?_ ?_ ?_
 ·exact sub
 ·intro w g;exact g
 intro k v;obtain⟨v,p⟩:=v;refine R7 ?_ ?_<;>intro h
 ·have r:k<l.length:=by simp at h;omega
  have s:=ce j r;have q:=ce n (i:=k) qb;refine A1 ?_;refine vi [3,7] [] 9 ?_;refine wd [0,1,2] ?_;refine D1 3 rfl (i8 rfl (fun w g=>OU g j (i:=k) qb qb)) G2 rfl rfl rfl i6 ?_;refine wd [4,5,6] ?_;refine D1 7 rfl (i8 rfl (fun w g=>OU g n (i:=k) qb qb)) G2 rfl rfl rfl i6 ?_;refine wd [8] ?_;refine o9 rfl ?_ ?_<;>intro t
  ·have f:l≠m:=(by rintro rfl;simp at t);rw[Qz f];refine C5 ?_;exact d_ rfl rfl [] qh (fun _ h=>h)
  ·have y:l.getD k []=m.getD k []:=(by first|(simpa using t)|(simp at t⊢;omega));refine C7 ?_;refine f_ ((p_ rfl rfl qb).eq (v':=.int .i64 ((k+1:Nat):Int)) (by congr 1)) ?_;refine r7 ?_;refine l6 (k+1) ⟨by omega,fun i x=>?_⟩ qb ?_ ?_
   ·rcases kp.1 x with z|rfl
    ·exact p i z
    ·exact y
   ·exact sub
   ·intro w g;exact g
 ·have A:k=l.length:=by simp at h;omega
  have e:l=m:=Gn o fun i x=>p i qb;rw[jk e];refine C5 ?_;exact d_ rfl rfl [] qh (fun _ h=>h)
theorem Bv{l:List Bs}{i:Nat}(h:i<l.length):l.getD i []=l[i]:=by
 rw[zd,zj h];rfl
theorem My(l:List Bs)(a:Option Addr)(c:Nat)(f:Bs)(hl:l.length<=1000000000000):Pu prog 273 [.slice a l.length c,B f] (fun h=>n9 h a (fV l)) (.int .i64 (D3 (fun x=>decide (x=f)) l)):=by
 refine b_ 19 func273 rfl rfl rfl ?_;intro F e;refine O3 ?_;refine o7 (ι:=Nat) (fun j=>j<=l.length/\∀i (g:i<l.length),i<j->decide (l[i]=f)=false) (fun j=>[(0,.slice a l.length c),(1,B f),(7,.int .i64 (l.length:Nat)),(8,.int .i64 (j:Nat))]) (fun _=>[]) (fun j=>l.length-j) 0 ⟨zw _,fun i _ h=>by omega⟩ sub i_ ?_;rintro j ⟨p,d⟩;refine R7 ?_ ?_<;>intro h
 ·have b:j<l.length:=by have:=qr h;omega
  have k:=ce e b;refine aq ?_;refine r_ (i8 rfl (fun w n=>OU n e (i:=j) qb b)) ?_;refine f_ ((C8 rfl rfl).eq (v':=.bool (decide (l[j]=f))) (qn (zp.2 (by rw[Bv b];exact eq_comm)))) ?_;refine O0 ?_ ?_<;>intro m
  ·refine L7 ?_;exact d_ rfl rfl [] ⟨by rw[N5 b m d],rfl⟩ i_
  ·refine A1 ?_;refine l6 (j+1) ⟨b,fun i g h=>?_⟩ qb sub i_;rcases kp.1 h with o|rfl
   ·exact d i g o
   ·exact m
 ·have b:j=l.length:=by have:=zq h;omega
  refine C5 ?_;exact d_ rfl rfl [] ⟨by rw[N4 fun i g=>d i g qb],rfl⟩ i_
theorem Mz(l:List Bs)(f:Bs):l.any (fun x=>decide (x=f))=decide (f∈l):=by
 rw[Zm,Jq,Jp];constructor
 ·rintro⟨x,a,h⟩;exact qr h▸a
 ·exact fun h=>⟨f,h,jk rfl⟩
theorem Bw(l:List Bs)(a:Option Addr)(c:Nat)(f:Bs)(hl:l.length<=1000000000000):Pu prog 200 [.slice a l.length c,B f] (fun h=>n9 h a (fV l)) (.bool (decide (f∈l))):=by
 refine b_ 9 func200 rfl rfl rfl ?_;intro F b;refine E7 ?_;refine c_ rfl (My l a c f hl) (fun h d _=>b.le d) rfl ?_;refine f_ ((I5 rfl rfl).eq (qn ((fM (fun x=>decide (x=f)) l).trans (Mz l f)))) ?_;refine C5 ?_;exact d_ rfl rfl [] qh i_
theorem ut(l:List Bs)(a:Option Addr)(c:Nat)(f:Bs)(hl:l.length<=1000000000000):Pu prog 121 [.slice a l.length c,B f] (fun h=>n9 h a (fV l)) (.bool (decide (f∈l))):=by
 refine b_ 8 func121 rfl rfl rfl ?_;intro F b;refine E7 ?_;refine c_ rfl (Bw l a c f hl) (fun h d _=>b.le d) rfl ?_;refine C5 ?_;exact d_ rfl rfl [] qh i_
theorem wH(l:List Bs):G1 l=(l.all (fun f=>decide (E3 f=some f))&&(decide (l.length<=16)&&decide (l=T5 l))):=by
 unfold G1;have h:ot l=decide (l=T5 l):=by
  rw[Zm,Jp];exact⟨fun h=>(CJ (kW h)).symm,fun h=>kX (by rw[h];exact mY l)⟩
 rw[h,Bool.and_assoc,W2 (decide (l=T5 l))]
theorem gJ(l:List Bs)(a:Option Addr)(c:Nat)(hl:l.length<=1000000)(t:∀f∈l,f.length<=lr):Pu prog 114 [.slice a l.length c] (fun h=>n9 h a (fV l)) (.bool (G1 l)):=by
 refine b_ 35 func114 rfl rfl rfl ?_;intro F g;refine O3 ?_;refine o7 (ι:=Nat) (fun j=>j<=l.length/\∀i (r:i<l.length),i<j->E3 l[i]=some l[i]) (fun j=>[(0,.slice a l.length c),(7,.slice a l.length c),(8,.int .i64 (l.length:Nat)),(9,.int .i64 (j:Nat))]) (fun _=>[]) (fun j=>l.length-j) 0 ⟨zw _,fun i _ h=>by omega⟩ sub i_ ?_;rintro j ⟨Q,n⟩;refine R7 ?_ ?_<;>intro h
 ·have d:j<l.length:=by have:=qr h;omega
  have u:=ce g d;obtain⟨o,s⟩:=o8 (E3 l[j]);refine r7 ?_;refine r_ (i8 rfl (fun w y=>OU y g (i:=j) qb d)) ?_;refine r7 ?_;rw[Bv d];refine r7 ?_;refine c_ rfl (dZ l[j] (t _ (zy d))) qw rfl ?_;rw[<-s];refine ap ?_;have k:E3 l[j]≠some l[j]->G1 l=false:=fun z=>by
   rw[wH,List.all_eq_false.2 ⟨l[j],zy d,by simpa using z⟩];rfl
  cases o with
  |none=>
   refine NP ?_;exact d_ rfl rfl [] ⟨by rw[k (by rw[<-s];simp)],rfl⟩ i_
  |some x=>
   obtain⟨q,m⟩:=o8 (decide (x=l[j]));refine ap ?_;(first|refine u_ ?_|(refine v_ ?_;refine f_ ((E8 rfl rfl).eq (v':=.bool (!q)) (jy (fun b=>Value.bool (!b)) m.symm)) ?_));refine r7 ?_
   cases q
   ·refine C5 ?_;exact d_ rfl rfl [] ⟨by rw[k (by rw[<-s];intro e;exact zq m.symm (js e))],rfl⟩ i_
   ·have C:x=l[j]:=qr m.symm;refine A1 ?_;refine l6 (j+1) ⟨d,fun i r h=>?_⟩ qb sub i_;rcases kp.1 h with J|rfl
    ·exact n i r J
    ·rw[<-s,C]
 ·have d:j=l.length:=by have:=zq h;omega
  have p:l.all (fun f=>decide (E3 f=some f))=true:=Qv.2 fun x C=>by
   obtain⟨i,r,rfl⟩:=Zk C;exact jk (n i r qb)
  rw[wH,p,Kc];obtain⟨q,m⟩:=o8 (decide (l.length<=16));rw[<-m];refine w8 ?_
  cases q
  ·refine A1 ?_;refine f_ ((G4 rfl rfl).eq (v':=.bool false) (qn ((qz).trans m.symm))) ?_;refine E7 ?_;(first|refine u_ ?_|(refine v_ ?_;fail));(first|refine u_ ?_|(refine v_ ?_;fail));refine L7 ?_;exact d_ rfl rfl [] qh i_
  ·refine A1 ?_;refine f_ ((G4 rfl rfl).eq (v':=.bool true) (qn ((qz).trans m.symm))) ?_;refine E7 ?_;refine A2 rfl rfl rfl ?_;refine e_ (oZ l a c qb) (fun h D _=>g.le D) ?_;rintro v A ⟨M,O,rfl,rfl⟩;refine A2 rfl rfl rfl ?_;refine c_ rfl (HG l (T5 l) a M c O qb) (fun h D ⟨S,t⟩=>⟨g.le D,A3.rd t ud⟩) rfl ?_;refine L7 ?_;exact d_ rfl rfl [] qh (fun w y=>y.dropAll)
abbrev Td(m:KM):Value:=.agg (aJ m).toArray
abbrev Og(x:LM):Value:=.agg (S_ x).toArray
abbrev HH(p:PL):List Value:=[.int .u64 (p.seq:Nat),.int .u64 (p.mseq:Nat),.int .u64 (p.muid:Nat)]
abbrev plA(p:PL):Value:=.agg (HH p).toArray
theorem yT(m:KM)(x:LM)(p:PL)(t:Bs)(M:EQ m.k)(hf:x.t.a5Y.length<=1000000)(O:t.length<=1000000000):
  Ct prog 359 [Td m,Og x,plA p,B t] (fun h=>Gl h/\n9 h m.a (T8 m.k.set)/\n9 h x.a (fV x.t.a5Y)) [] Ue:=by
 have Q:=M.1;obtain⟨T,U⟩:=o8 (decide (m.k.kind=5));obtain⟨V,X⟩:=o8 (decide (m.k.kind=6));obtain⟨Y,Z⟩:=o8 (decide (m.k.kind=7));obtain⟨b8,h8⟩:=o8 (decide (m.k.kind=8));obtain⟨b9,h9⟩:=o8 (decide (m.k.kind=9));obtain⟨i,j⟩:=o8 (decide (m.k.kind=10));obtain⟨k,l⟩:=o8 (decide (m.k.kind=11));obtain⟨o,r⟩:=o8 (decide (m.k.kind=12));obtain⟨s,y⟩:=o8 (decide (m.k.kind=13));obtain⟨⟨a,g,b,c,n,f⟩,D,J⟩:=m;simp only at Q U X Z h8 h9 j l r y;have h0:c.length<=2000000000:=M.2.1;have h1:b.length<=2000000000:=M.2.2.1;refine b_ 92 func359 rfl rfl rfl ?_;rintro F ⟨hg,z,S⟩;refine C7 ?_;refine m8 rfl rfl ?_;intro g4;refine m8 rfl rfl ?_;intro g5;refine m8 rfl rfl ?_;intro g6;refine E7 ?_;refine T2 ?_;refine f_ ((p7 rfl rfl).eq (v':=.bool T) (qn ((zp.2 (by show((a:Nat):Int)=5↔a=5;omega)).trans U.symm))) ?_;refine r7 ?_
 cases T
 case true=>
  refine aq ?_;refine c_ rfl (lv f D J p.mseq p.seq qb) (fun h e _=>z.le e) rfl ?_;refine C5 ?_;exact d_ rfl rfl [] ⟨⟨_,rfl⟩,rfl⟩ (fun w d=>d.dropAll)
 refine C7 ?_;refine f_ ((p7 rfl rfl).eq (v':=.bool V) (qn ((zp.2 (by show((a:Nat):Int)=6↔a=6;omega)).trans X.symm))) ?_;refine r7 ?_
 cases V
 case true=>
  refine aq ?_;refine c_ rfl (lv f D J p.muid x.t.uid qb) (fun h e _=>z.le e) rfl ?_;refine C5 ?_;exact d_ rfl rfl [] ⟨⟨_,rfl⟩,rfl⟩ (fun w d=>d.dropAll)
 refine C7 ?_;refine f_ ((p7 rfl rfl).eq (v':=.bool Y) (qn ((zp.2 (by show((a:Nat):Int)=7↔a=7;omega)).trans Z.symm))) ?_;refine r7 ?_
 cases Y
 case true=>
  refine w8 ?_;refine D2 [1,3,6] [4] [.blk g4 (.cells (aJ ⟨⟨a,g,b,c,n,f⟩,D,J⟩).toArray 127),.blk g5 (.cells (S_ x).toArray 156)] 10 ?_;refine wd [0,1,2,3,5,6,7] ?_;refine h_ 4 rfl i6 ?_;refine c_ rfl (Bw x.t.a5Y x.a x.c b qb) (fun h e _=>S.le e) rfl ?_;refine Y9 ?_;refine w_ 8 rfl (io rfl rfl) ?_;refine wd [9] ?_;refine A4 ?_;exact d_ rfl rfl [] ⟨⟨_,rfl⟩,rfl⟩ (fun w d=>d.dropAll)
 refine C7 ?_;refine f_ ((p7 rfl rfl).eq (v':=.bool b8) (qn ((zp.2 (by show((a:Nat):Int)=8↔a=8;omega)).trans h8.symm))) ?_;refine r7 ?_
 cases b8
 case true=>
  refine NO ?_;exact d_ rfl rfl [] ⟨⟨_,rfl⟩,rfl⟩ (fun w d=>d.dropAll)
 refine C7 ?_;refine f_ ((p7 rfl rfl).eq (v':=.bool b9) (qn ((zp.2 (by show((a:Nat):Int)=9↔a=9;omega)).trans h9.symm))) ?_;refine r7 ?_
 cases b9
 case true=>
  refine NO ?_;exact d_ rfl rfl [] ⟨⟨_,rfl⟩,rfl⟩ (fun w d=>d.dropAll)
 refine C7 ?_;refine f_ ((p7 rfl rfl).eq (v':=.bool i) (qn ((zp.2 (by show((a:Nat):Int)=10↔a=10;omega)).trans j.symm))) ?_;refine r7 ?_
 cases i
 case true=>
  refine NO ?_;exact d_ rfl rfl [] ⟨⟨_,rfl⟩,rfl⟩ (fun w d=>d.dropAll)
 refine C7 ?_;refine f_ ((p7 rfl rfl).eq (v':=.bool k) (qn ((zp.2 (by show((a:Nat):Int)=11↔a=11;omega)).trans l.symm))) ?_;refine r7 ?_
 cases k
 case true=>
  refine E7 ?_;refine e_ (C:=[]) (ph t c O qb) (fun h e _=>hg.le e) ?_;rintro v A ⟨⟨q,rfl⟩,rfl⟩;refine C5 ?_;exact d_ rfl rfl [] ⟨⟨_,rfl⟩,rfl⟩ (fun w d=>d.dropAll)
 refine C7 ?_;refine f_ ((p7 rfl rfl).eq (v':=.bool o) (qn ((zp.2 (by show((a:Nat):Int)=12↔a=12;omega)).trans r.symm))) ?_;refine r7 ?_
 cases o
 case true=>
  refine w8 ?_;refine D2 [3] [1,4] [.blk g4 (.cells (aJ ⟨⟨a,g,b,c,n,f⟩,D,J⟩).toArray 127)] 6 ?_;refine wd [0,2,3] ?_;refine h_ 1 rfl i6 ?_;refine e_ (C:=[]) (pi t 12 O) (fun h e _=>hg.le e) ?_;rintro v A ⟨⟨u,rfl,hu⟩,rfl⟩;refine Y9 ?_;refine h_ 4 rfl i6 ?_;refine e_ (C:=[]) (ph u c qb qb) (fun h e _=>hg.le e) ?_;rintro v A ⟨⟨q,rfl⟩,rfl⟩;refine E6 [5] ?_;refine A4 ?_;exact d_ rfl rfl [] ⟨⟨_,rfl⟩,rfl⟩ (fun w d=>d.dropAll)
 refine C7 ?_;refine f_ ((p7 rfl rfl).eq (v':=.bool s) (qn ((zp.2 (by show((a:Nat):Int)=13↔a=13;omega)).trans y.symm))) ?_;refine r7 ?_
 cases s
 case true=>
  refine E7 ?_;refine e_ (C:=[]) (DQ t b O qb) (fun h e _=>hg.le e) ?_;rintro v A ⟨⟨u,ok,rfl,hu⟩,rfl⟩;refine ap ?_
  cases ok
  all_goals (
   refine ap ?_;(first|refine u_ ?_|(refine v_ ?_;refine e_ (C:=[]) (ph u c qb qb) (fun h e _=>hg.le e) ?_;rintro v A ⟨⟨q,rfl⟩,rfl⟩));refine A1 ?_)
  all_goals (refine A4 ?_;exact d_ rfl rfl [] ⟨⟨_,rfl⟩,rfl⟩ (fun w d=>d.dropAll))
 refine C5 ?_;exact d_ rfl rfl [] ⟨⟨_,rfl⟩,rfl⟩ (fun w d=>d.dropAll)
def bC(k:KY):Int:=if k.kind=1/\1<=k.kids then k.kids else if k.kind=2 then 1 else if k.kind=3 then 2 else if 4<=k.kind/\k.kind<=13 then 0 else-1
def Y7(f:Nat->Option Nat):Nat->Nat->Option Nat
 |0,p=>some p
 |n+1,p=>(f p).bind (Y7 f n)
def X0(l:List KY):Nat->Nat->Option Nat
 |0,_=>none
 |f+1,p=>match l[p]? with
  |none=>none
  |some k=>if bC k<0 then none else Y7 (X0 l f) (bC k).toNat (p+1)
theorem MA(m:KM):Pu prog 402 [Td m] (fun _=>True) (.int .i64 (bC m.k)):=by
 obtain⟨⟨a,b,c,d,n,e⟩,x,y⟩:=m;obtain⟨z,o⟩:=o8 (decide (a=1));obtain⟨A,p⟩:=o8 (decide (a=2));obtain⟨C,q⟩:=o8 (decide (a=3));obtain⟨D,r⟩:=o8 (decide (4<=a));obtain⟨J,s⟩:=o8 (decide (a<=13));obtain⟨M,t⟩:=o8 (decide (1<=b));obtain⟨v,g⟩:=o8 (bC ⟨a,b,c,d,n,e⟩);show Pu prog 402 _ _ (.int .i64 (bC ⟨a,b,c,d,n,e⟩));rw[<-g];unfold bC at g;simp only at g;refine b_ 31 func402 rfl rfl rfl ?_;intro F _;refine C7 ?_;refine m8 rfl rfl ?_;intro k;refine I8 1 ?_;refine n8 ?_;refine I8 0 ?_;refine x8 [(1,l9 k),(3,.bool (z&&M))] [.blk k (.cells (aJ ⟨⟨a,b,c,d,n,e⟩,x,y⟩).toArray 127)] ?_ ?_
 ·cases z
  all_goals (
   refine A1 ?_;refine f_ ((p7 rfl rfl).eq (qn ((zp.2 (by show((a:Nat):Int)=1↔a=1;omega)).trans o.symm))) ?_;refine E7 ?_;(first|refine u_ ?_|(refine v_ ?_;refine f_ ((I5 rfl rfl).eq (qn ((zp.2 (by show 1<=((b:Nat):Int)↔1<=b;omega)).trans t.symm))) ?_));refine A1 ?_)
  all_goals exact p9 sub i_
 refine O0 ?_ ?_<;>intro h
 ·have i:a=1/\1<=b:=by rw[o,t] at h;simpa using h
  refine bQ ?_;exact d_ rfl rfl [] ⟨by rw[g];rw[zg i],rfl⟩ (fun w f=>f.drop)
 have i:¬(a=1/\1<=b):=by rw[o,t] at h;simpa using h
 refine A1 ?_;refine f_ ((p7 rfl rfl).eq (v':=.bool A) (qn ((zp.2 (by show((a:Nat):Int)=2↔a=2;omega)).trans p.symm))) ?_;refine r7 ?_
 cases A
 case true=>
  have j:a=2:=qr p.symm;refine C5 ?_;exact d_ rfl rfl [] ⟨by rw[g];rw[zk i,zg j],rfl⟩ (fun w f=>f.drop)
 have j:¬a=2:=zq p.symm;refine A1 ?_;refine f_ ((p7 rfl rfl).eq (v':=.bool C) (qn ((zp.2 (by show((a:Nat):Int)=3↔a=3;omega)).trans q.symm))) ?_;refine r7 ?_
 cases C
 case true=>
  have l:a=3:=qr q.symm;refine C5 ?_;exact d_ rfl rfl [] ⟨by rw[g];rw[zk i,zk j,zg l],rfl⟩ (fun w f=>f.drop)
 have l:¬a=3:=zq q.symm;refine w8 ?_;refine x8 [(1,l9 k),(22,.bool (D&&J))] [.blk k (.cells (aJ ⟨⟨a,b,c,d,n,e⟩,x,y⟩).toArray 127)] ?_ ?_
 ·cases D
  all_goals (
   refine A1 ?_;refine f_ ((I5 rfl rfl).eq (qn ((zp.2 (by show 4<=((a:Nat):Int)↔4<=a;omega)).trans r.symm))) ?_;refine E7 ?_;(first|refine u_ ?_|(refine v_ ?_;refine f_ ((G4 rfl rfl).eq (qn ((zp.2 (by show((a:Nat):Int)<=13↔a<=13;omega)).trans s.symm))) ?_));refine A1 ?_)
  all_goals exact p9 sub i_
 refine O0 ?_ ?_<;>intro h
 ·have u:4<=a/\a<=13:=by rw[r,s] at h;simpa using h
  refine C5 ?_;exact d_ rfl rfl [] ⟨by rw[g];rw[zk i,zk j,zk l,zg u],rfl⟩ (fun w f=>f.drop)
 have u:¬(4<=a/\a<=13):=by rw[r,s] at h;simpa using h
 refine C5 ?_;exact d_ rfl rfl [] ⟨by rw[g];rw[zk i,zk j,zk l,zk u],rfl⟩ (fun w f=>f.drop)
theorem HJ{k:KY}(h:EQ k):bC k<=2000000000:=by
 have:=h.2.2.2;unfold bC;split
 ·omega
 split
 ·omega
 split
 ·omega
 split<;>omega
abbrev Te(gl go ga:Nat)(a:Option Addr)(c:Nat)(kl:List KM)(h:l_):Prop:=h gl=some (.cells #[.slice a kl.length c] 33 (0,0))/\h go=some (.cells #[.func (.func 401) #[] #[l9 ga,l9 gl,l9 go]] 350 (0,0))/\n9 h a (qI kl)
abbrev MB(g p:Nat):As:=.blk g (.cells #[.int .i64 (p:Nat)] 3)
def WhQ(ga:Nat)(kl:List KM)(f p:Nat)(v:Value)(A:List As):Prop:=∃(b:Bool) (q:Nat),v=.bool b/\A=[MB ga q]/\q<=max p kl.length/\(b=true->X0 (kl.map KM.k) f p=some q)
theorem sA(z D ga:Nat)(a:Option Addr)(c:Nat)(l:List KM)(hl:l.length<=1000000)(J:∀m∈l,EQ m.k):∀(f d p:Nat),d+f=10->1<=f->p<=2000000->Ct prog 401 [.int .i64 (d:Nat),l9 ga,l9 z,l9 D] (Te z D ga a c l) [MB ga p] (WhQ ga l f p)
 |0,_,_,_,h,_=>by omega
 |f+1,d,p,hdf,_,hp=>by
  have ih:=sA z D ga a c l hl J f;refine b_ 35 func401 rfl rfl rfl ?_;rintro F ⟨s,M,t⟩;refine A1 ?_;refine r_ (i8 rfl (fun w u=>I0 u s rfl)) ?_;refine bA ?_ ?_<;>intro h
  ·refine C5 ?_;exact d_ rfl rfl _ ⟨false,p,rfl,rfl,by omega,fun e=>by cases e⟩ i_
  have o:p<l.length:=by have:=zq h;omega
  have Q:∃S,a=some S:=by obtain⟨S,e,_⟩:=t (by intro e;have:=jy List.length e;rw[tH] at this;simp at this;omega);exact⟨S,e⟩
  obtain⟨n,T⟩:=o8 (bC l[p].k);have y:X0 (l.map KM.k) (f+1) p=if n<0 then none else Y7 (X0 (l.map KM.k) f) n.toNat (p+1):=by
   show(match (l.map KM.k)[p]? with|none=>none|some k=>if bC k<0 then none else Y7 (X0 (l.map KM.k) f) (bC k).toNat (p+1))=_;rw[Zj,zj o];simp only[Qw,T]
  refine C7 ?_;refine r_ (i8 rfl (fun w u=>I0 u s rfl)) ?_;refine r7 ?_;refine f_ (m9 rfl Q rfl qb) ?_;refine r_ (p8 rfl (fun w u=>cQ (C:=aJ) (t.le u.keep) R1 qp o x4) (R1 _)) ?_;refine c_ rfl (MA l[p]) qw rfl ?_;rw[<-T];refine A1 ?_;refine f_ ((p_ rfl rfl qb).eq (v':=.int .i64 ((p+1:Nat):Int)) (by congr 1)) ?_;refine r7 ?_;obtain⟨b1,U⟩:=o8 (decide (0<n));obtain⟨b2,V⟩:=o8 (decide (8<d));refine x8 [(0,.int .i64 (d:Nat)),(1,l9 ga),(2,l9 z),(3,l9 D),(6,.int .i64 n),(23,.bool (b1&&b2))] [MB ga (p+1)] ?_ ?_
  ·cases b1
   all_goals (
    refine r7 ?_;refine f_ ((E2 rfl rfl).eb U) ?_;refine A1 ?_;(first|refine u_ ?_|(refine v_ ?_;refine f_ ((E2 rfl rfl).eq (qn ((qz).trans V.symm))) ?_));refine r7 ?_)
   all_goals exact p9 sub i_
  refine O0 ?_ ?_<;>intro h
  ·refine C5 ?_;exact d_ rfl rfl _ ⟨false,p+1,rfl,rfl,by omega,fun e=>by cases e⟩ i_
  have X:0<n->d<=8:=fun h0=>by
   rw[U,V] at h;simp at h;exact h h0
  have h4:n<=2000000000:=by rw[T];exact HJ (J _ (zy o))
  clear h U V;refine I8 0 ?_;refine n7 (ι:=Int×Nat) (fun i=>i.1<=0/\i.2<=l.length/\(n<0->i.1=n)/\(0<=n->0<=i.1/\Y7 (X0 (l.map KM.k) f) n.toNat (p+1)=Y7 (X0 (l.map KM.k) f) i.1.toNat i.2)) (fun i=>[(6,.int .i64 i.1)]) (fun i=>[MB ga i.2]) ?_ ?_
  ·refine n8 ?_;refine o7 (ι:=Int×Nat) (fun i=>i.1<=n/\i.2<=l.length/\(n<0->i.1=n)/\(0<=n->0<=i.1/\Y7 (X0 (l.map KM.k) f) n.toNat (p+1)=Y7 (X0 (l.map KM.k) f) i.1.toNat i.2)) (fun i=>[(0,.int .i64 (d:Nat)),(1,l9 ga),(2,l9 z),(3,l9 D),(6,.int .i64 i.1)]) (fun i=>[MB ga i.2]) (fun i=>i.1.toNat) (n,p+1) ⟨Z9 _,o,fun _=>rfl,fun h=>⟨h,rfl⟩⟩ sub i_ ?_;rintro⟨x,q⟩ ⟨Y,O,g,j⟩;simp only at Y O g j;refine bA ?_ ?_<;>intro h
   ·have r:0<x:=qr h;have hd:=X qb;refine C7 ?_;refine r_ (i8 rfl (fun w u=>I0 u M rfl)) ?_;refine r7 ?_;refine f_ ((p_ rfl rfl qb).eq (v':=.int .i64 ((d+1:Nat):Int)) (by congr 1)) ?_;refine z_ (ps:=[]) _ rfl rfl rfl (ih (d+1) q qb qb qb) i_ (fun h Z _=>⟨Z _ _ s,Z _ _ M,t.le Z⟩) rfl ?_;rintro v A ⟨b,q',rfl,rfl,h5,ht⟩;refine r7 ?_
    cases b
    ·refine C5 ?_;exact d_ rfl rfl _ ⟨false,q',rfl,rfl,by omega,fun e=>by cases e⟩ i_
    ·refine E7 ?_;refine l6 (i:=(x,q)) (x-1,q') ⟨by simp only;omega,by simp only;omega,fun h=>by simp only;have:=g h;omega,fun h=>⟨by simp only;omega,?_⟩⟩ qg sub i_;obtain⟨hx,he⟩:=j h;rw[he];have e1:x.toNat=(x-1).toNat+1:=(by omega);rw[e1];show(X0 (l.map KM.k) f q).bind _=_;rw[ht rfl];rfl
   ·have r:x<=0:=(by have:=zq h;omega);refine w8 ?_;exact g_ (x,q) ⟨r,O,g,j⟩ i_
  rintro⟨x,q⟩ ⟨r,O,g,j⟩;simp only at r O g j;refine bQ ?_;refine d_ rfl rfl _ ⟨decide (x=0),q,rfl,rfl,by omega,fun e=>?_⟩ i_;have hx:x=0:=qr e;have h3:0<=n:=by
   rcases Int.lt_or_le n 0 with h|h
   ·have:=g h;omega
   ·exact h
  obtain⟨_,he⟩:=j h3;rw[y,zk qb,he,hx];rfl
theorem HK(a:Option Addr)(c:Nat)(d:List KM)(hl:d.length<=1000000)(k:∀m∈d,EQ m.k):Ct prog 357 [.slice a d.length c] (fun h=>n9 h a (qI d)) [] (fun v A=>(∃b:Bool,v=.bool b/\(b=true->X0 (d.map KM.k) 9 0=some d.length))/\A=[]):=by
 refine b_ 17 func357 rfl rfl rfl ?_;intro F l;refine C7 ?_;refine L5 rfl rfl rfl ?_;intro i;refine xZ ?_ ?_<;>intro h
 ·refine C5 ?_;exact d_ rfl rfl _ ⟨⟨false,rfl,fun e=>by cases e⟩,rfl⟩ (fun w f=>f.dropAll)
 refine w8 ?_;refine r7 ?_;intro n;refine r7 ?_;refine r7 ?_;intro j;refine A1 ?_;refine B9 (Z:=[.blk i (.cells #[.slice a d.length c] 33),.blk j (.cells #[.func (.func 401) #[] #[l9 n,l9 i,l9 j]] 350)]) tk fun r g o=>?_;have s:r.heap i=some (.cells #[.slice a d.length c] 33 (0,0)):=J_ o;have t:r.heap j=some (.cells #[.func (.func 401) #[] #[l9 n,l9 i,l9 j]] 350 (0,0)):=J_ o;clear o;refine C7 ?_;refine r_ (i8 rfl (fun w f=>I0 f t rfl)) ?_;refine z_ (ps:=[]) _ rfl rfl rfl (sA i j n a c d hl k 9 1 0 rfl qp qp) i_ (fun h p _=>⟨p _ _ s,p _ _ t,(l.le g.heap).le p⟩) rfl ?_;rintro v A ⟨b,q,rfl,rfl,y,u⟩
 cases b
 ·refine KR ?_;exact D5 g (d_ rfl rfl [] ⟨⟨false,rfl,fun e=>by cases e⟩,rfl⟩ (fun w f=>f.dropAll))
 ·refine A1 ?_;refine A2 rfl rfl rfl ?_;refine r_ (i8 rfl (fun w f=>I0 f s rfl)) ?_;refine JS ?_;refine D5 g (d_ rfl rfl [] ⟨⟨_,rfl,fun e=>?_⟩,rfl⟩ (fun w f=>f.dropAll));have x:=u rfl;have z:(q:Int)=(d.length:Nat):=qr e;rw[x];congr 1;omega
abbrev Oh(gl gs gx gp gm gi:Nat)(a:Option Addr)(c:Nat)(kl:List KM)(x:LM)(p:PL)(t:Bs)(h:l_):Prop:=h gl=some (.cells #[.slice a kl.length c] 33 (0,0))/\h gs=some (.cells #[.func (.func 358) #[] #[l9 gl,l9 gi,l9 gs,l9 gx,l9 gp,l9 gm]] 23 (0,0))
 /\h gx=some (.cells (S_ x).toArray 156 (0,0))/\h gp=some (.cells (HH p).toArray 333 (0,0))/\h gm=some (.cells #[B t] 9 (0,0))/\n9 h a (qI kl)/\(∀m∈kl,n9 h m.a (T8 m.k.set))/\n9 h x.a (fV x.t.a5Y)/\Gl h
abbrev MaQ(gi q:Nat)(v:Value)(A:List As):Prop:=∃b:Bool,v=.bool b/\A=[MB gi q]
theorem sB{f:Nat->Option Nat}{p q:Nat}(h:Y7 f 1 p=some q):f p=some q:=by
 have a:(f p).bind (Y7 f 0)=some q:=h
 cases e:f p with
 |none=>rw[e] at a;cases a
 |some r=>rw[e] at a;exact a
theorem iL{f:Nat->Option Nat}{n p q:Nat}(h:Y7 f (n+1) p=some q):∃r,f p=some r/\Y7 f n r=some q:=by
 have a:(f p).bind (Y7 f n)=some q:=h
 cases e:f p with
 |none=>rw[e] at a;cases a
 |some r=>rw[e] at a;exact⟨r,rfl,a⟩
theorem wI{l:List KY}:∀{f p q:Nat},X0 l f p=some q->p<q/\q<=l.length
 |0,p,q,h=>by cases h
 |f+1,p,q,h=>by
  unfold X0 at h
  cases e:l[p]? with
  |none=>rw[e] at h;cases h
  |some k=>
   rw[e] at h;simp only at h;have hp:p<l.length:=(jn.1 e).1;split at h
   ·cases h
   ·have a:∀(n p q:Nat),p<=l.length->Y7 (X0 l f) n p=some q->p<=q/\q<=l.length:=fun n=>by
     induction n with
     |zero=>intro p q hp h;injection h with h;omega
     |succ n ih=>
      intro p q hp h;obtain⟨r,b,c⟩:=iL h;have:=wI b;have:=ih r q this.2 c;omega
    have:=a _ _ _ hp h;omega
theorem sC(gl gs gx gp gm gi:Nat)(a:Option Addr)(c:Nat)(y:List KM)(x:LM)(p:PL)(t:Bs)(hl:y.length<=1000000)(h5:∀m∈y,EQ m.k)(hf:x.t.a5Y.length<=1000000)(ht:t.length<=1000000000):
  ∀(f i q:Nat),X0 (y.map KM.k) f i=some q->Ct prog 358 [l9 gl,l9 gi,l9 gs,l9 gx,l9 gp,l9 gm] (Oh gl gs gx gp gm gi a c y x p t) [MB gi i] (MaQ gi q)
 |0,_,_,h=>by cases h
 |f+1,i,q,htr=>by
  have ih:=sC gl gs gx gp gm gi a c y x p t hl h5 hf ht f;have k9:=wI htr;rw[zh] at k9;have h6:i<y.length:=by omega
  obtain⟨m,M⟩:=o8 (y[i]);have h7:m∈y:=M▸zy h6;have n:¬bC m.k<0/\Y7 (X0 (y.map KM.k) f) (bC m.k).toNat (i+1)=some q:=by
   have Z:(match (y.map KM.k)[i]? with|none=>none|some k=>if bC k<0 then none else Y7 (X0 (y.map KM.k) f) (bC k).toNat (i+1))=some q:=htr;rw[Zj,zj h6,<-M] at Z;simp only[Qw] at Z;split at Z
   ·cases Z
   ·exact⟨by assumption,Z⟩
  clear htr;have q2:=(h5 m h7).2.2.2;obtain⟨d,h8⟩:=o8 (m.k.kind);obtain⟨l,O⟩:=o8 (m.k.kids);obtain⟨b1,Z⟩:=o8 (decide (d=1));obtain⟨b2,h2⟩:=o8 (decide (d=2));obtain⟨b3,h3⟩:=o8 (decide (d=3));refine b_ 50 func358 rfl rfl rfl ?_;rintro F ⟨Q,u,S,T,U,z,V,X,hg⟩;have q0:∃ad,a=some ad:=by obtain⟨ad,e,_⟩:=z (by intro e;have:=jy List.length e;rw[tH] at this;simp at this;omega);exact⟨ad,e⟩
  refine xG ?_;refine r_ (i8 rfl (fun w o=>I0 o Q rfl)) ?_;refine r7 ?_;refine f_ (m9 rfl q0 rfl qb) ?_;refine r_ ((p8 rfl (fun w o=>cQ (C:=aJ) (z.le o.keep) R1 qp h6 x4) (R1 _)).eq (v':=Td m) (by rw[M])) ?_;refine i7 rfl ?_;intro g7;refine A1 ?_;refine f_ ((p_ rfl rfl qb).eq (v':=.int .i64 ((i+1:Nat):Int)) (by congr 1)) ?_;refine E7 ?_;have D:bC m.k=if d=1/\1<=l then((l:Nat):Int) else if d=2 then 1 else if d=3 then 2 else if 4<=d/\d<=13 then 0 else-1:=by rw[h8,O];rfl
  refine C7 ?_;refine f_ ((p7 rfl rfl).eq (v':=.bool b1) (qn ((zp.2 (by show((m.k.kind:Nat):Int)=1↔d=1;omega)).trans Z.symm))) ?_;refine r7 ?_
  cases b1
  case true=>
   have e1:d=1:=qr Z.symm;have q1:1<=l:=by
    refine Nat.lt_of_not_le fun hc=>n.1 ?_;rw[D,zk qb,zk qb,zk qb,zk qb];decide
   have Y:Y7 (X0 (y.map KM.k) f) l (i+1)=some q:=by
    have:=n.2;rw[D,zg ⟨e1,q1⟩] at this;simpa using this
   refine A1 ?_;refine r_ (E_ rfl ud (v:=.int .i64 (l:Nat)) (by rw[O];rfl)) ?_;refine I8 1 ?_;refine n7 (ι:=Bool) (fun _=>True) (fun b=>[(8,.bool b)]) (fun _=>[MB gi q]) ?_ ?_
   ·refine n8 ?_;refine o7 (ι:=Nat×Nat×Bool) (fun j=>j.1<=l/\Y7 (X0 (y.map KM.k) f) (l-j.1) j.2.1=some q) (fun j=>[(0,l9 gl),(1,l9 gi),(2,l9 gs),(3,l9 gx),(4,l9 gp),(5,l9 gm),(21,.int .i64 (l:Nat)),(22,.int .i64 (j.1:Nat)),(8,.bool j.2.2)]) (fun j=>[MB gi j.2.1]) (fun j=>l-j.1) (0,i+1,true) ⟨zw _,Y⟩ sub (fun w o=>y4.left tk o) ?_;rintro⟨j,p',J⟩ ⟨hj,s⟩;simp only at hj s;refine R7 ?_ ?_<;>intro h
    ·have h0:j<l:=(by have:=qr h;omega);have e2:l-j=(l-(j+1))+1:=(by omega);rw[e2] at s;obtain⟨r,k0,h4⟩:=iL s;refine C7 ?_;refine r_ (i8 rfl (fun w o=>I0 o u rfl)) ?_;refine z_ (ps:=[]) _ rfl rfl rfl (ih p' _ k0) i_ (fun h g _=>⟨g _ _ Q,g _ _ u,g _ _ S,g _ _ T,g _ _ U,z.le g,fun m M=>(V m M).le g,X.le g,hg.le g⟩) rfl ?_;rintro v A ⟨b,rfl,rfl⟩
     cases b
     ·refine aq ?_;exact l6 (i:=(j,p',J)) (j+1,r,false) ⟨h0,h4⟩ qg sub i_
     ·refine aq ?_;exact l6 (i:=(j,p',J)) (j+1,r,J) ⟨h0,h4⟩ qg sub i_
    ·have h0:j=l:=(by have:=zq h;omega);rw[h0,Wg] at s;injection s with s;subst s;refine w8 ?_;exact g_ J trivial i_
   rintro J-;refine L7 ?_;exact d_ rfl rfl _ ⟨J,rfl,rfl⟩ i_
  have e1:¬d=1:=zq Z.symm;refine C7 ?_;refine f_ ((p7 rfl rfl).eq (v':=.bool b2) (qn ((zp.2 (by show((m.k.kind:Nat):Int)=2↔d=2;omega)).trans h2.symm))) ?_;refine r7 ?_
  cases b2
  case true=>
   have e2:d=2:=qr h2.symm;have Y:Y7 (X0 (y.map KM.k) f) 1 (i+1)=some q:=by
    have:=n.2;rw[D,zk qb,zg e2] at this;exact this
   refine C7 ?_;refine r_ (i8 rfl (fun w o=>I0 o u rfl)) ?_;refine z_ (ps:=[]) _ rfl rfl rfl (ih (i+1) _ (sB Y)) (fun w o=>o.perm (.swap _ _ _)) (fun h g _=>⟨g _ _ Q,g _ _ u,g _ _ S,g _ _ T,g _ _ U,z.le g,fun m M=>(V m M).le g,X.le g,hg.le g⟩) rfl ?_;rintro v A ⟨b,rfl,rfl⟩;refine L7 ?_;exact d_ rfl rfl _ ⟨_,rfl,rfl⟩ (fun w o=>y4.left tk o)
  have e2:¬d=2:=zq h2.symm;refine C7 ?_;refine f_ ((p7 rfl rfl).eq (v':=.bool b3) (qn ((zp.2 (by show((m.k.kind:Nat):Int)=3↔d=3;omega)).trans h3.symm))) ?_;refine r7 ?_
  cases b3
  case true=>
   have e3:d=3:=qr h3.symm;have Y:Y7 (X0 (y.map KM.k) f) 2 (i+1)=some q:=by
    have:=n.2;rw[D,zk qb,zk e2,zg e3] at this;exact this
   obtain⟨r,k0,h4⟩:=iL Y;refine C7 ?_;refine r_ (i8 rfl (fun w o=>I0 o u rfl)) ?_;refine z_ (ps:=[]) _ rfl rfl rfl (ih (i+1) _ k0) (fun w o=>o.perm (.swap _ _ _)) (fun h g _=>⟨g _ _ Q,g _ _ u,g _ _ S,g _ _ T,g _ _ U,z.le g,fun m M=>(V m M).le g,X.le g,hg.le g⟩) rfl ?_;rintro v A ⟨b9,rfl,rfl⟩;refine xG ?_;refine r_ (i8 rfl (fun w o=>I0 o u rfl)) ?_;refine z_ (ps:=[]) _ rfl rfl rfl (ih r _ (sB h4)) i_ (fun h g _=>⟨g _ _ Q,g _ _ u,g _ _ S,g _ _ T,g _ _ U,z.le g,fun m M=>(V m M).le g,X.le g,hg.le g⟩) rfl ?_;rintro v A ⟨b,rfl,rfl⟩
   cases b
   all_goals refine O3 ?_
   all_goals (refine A4 ?_;exact d_ rfl rfl _ ⟨_,rfl,rfl⟩ (fun w o=>y4.left tk o))
  have e3:¬d=3:=zq h3.symm;have hq:q=i+1:=by
   have h9:=n.2;rw[D,zk qb,zk e2,zk e3] at h9;split at h9
   ·injection h9 with h9;exact h9.symm
   ·have k8:=n.1;rw[D,zk qb,zk e2,zk e3,zk (by assumption)] at k8;exact absurd qp k8
  subst hq;refine r7 ?_;refine r_ (di rfl S ga) ?_;refine r_ (di rfl T ga) ?_;refine r_ (i8 rfl (fun w o=>I0 o U rfl)) ?_;refine e_ (C:=[]) (yT m x p t (h5 m h7) hf ht) (fun h g _=>⟨hg.le g,(V m h7).le g,X.le g⟩) ?_;rintro v A ⟨⟨b,rfl⟩,rfl⟩;refine C5 ?_;exact d_ rfl rfl _ ⟨b,rfl,rfl⟩ (fun w o=>y4.left tk o)
theorem HL(a:Option Addr)(c:Nat)(f:List KM)(x:LM)(p:PL)(t:Bs)(hl:f.length<=1000000)(k:∀m∈f,EQ m.k)(hf:x.t.a5Y.length<=1000000)(O:t.length<=1000000000):
  Ct prog 304 [.slice a f.length c,Og x,plA p,B t] (fun h=>Gl h/\n9 h a (qI f)/\(∀m∈f,n9 h m.a (T8 m.k.set))/\n9 h x.a (fV x.t.a5Y)) [] Ue:=by
 refine b_ 17 func304 rfl rfl rfl ?_;rintro F ⟨hg,l,u,y⟩;refine C7 ?_;refine L5 rfl rfl rfl ?_;intro o;refine m8 rfl rfl ?_;intro q;refine m8 rfl rfl ?_;intro r;refine L5 rfl rfl rfl ?_;intro s;refine xG ?_;refine r7 ?_;refine e_ (C:=[]) (HK a c f hl k) (fun h d _=>l.le d) ?_;rintro v A ⟨⟨b,rfl,z⟩,rfl⟩;refine r7 ?_
 cases b
 ·refine C5 ?_;exact d_ rfl rfl [] ⟨⟨_,rfl⟩,rfl⟩ (fun w n=>n.dropAll)
 have D:=z rfl;refine w8 ?_;refine r7 ?_;intro J;refine r7 ?_;refine r7 ?_;intro g;refine A1 ?_;refine B9 (Z:=[.blk o (.cells #[.slice a f.length c] 33),.blk g (.cells #[.func (.func 358) #[] #[l9 o,l9 J,l9 g,l9 q,l9 r,l9 s]] 23),.blk q (.cells (S_ x).toArray 156),.blk r (.cells (HH p).toArray 333),.blk s (.cells #[B t] 9)]) tk fun Q e j=>?_;have i:Oh o g q r s J a c f x p t Q.heap:=⟨J_ j,J_ j,J_ j,J_ j,J_ j,l.le e.heap,fun m M=>(u m M).le e.heap,y.le e.heap,hg.le e.heap⟩;clear j;refine C7 ?_;refine r_ (i8 rfl (fun w n=>I0 n i.2.1 rfl)) ?_;refine z_ (ps:=[]) _ rfl rfl rfl (sC o g q r s J a c f x p t hl k hf O 9 0 _ D) i_ (fun h d _=>by obtain⟨S,T,U,V,X,Y,h7,h8,h9⟩:=i;exact⟨d _ _ S,d _ _ T,d _ _ U,d _ _ V,d _ _ X,Y.le d,fun m M=>(h7 m M).le d,h8.le d,h9.le d⟩) rfl ?_;rintro v A ⟨b,rfl,rfl⟩;refine C5 ?_;exact D5 e (d_ rfl rfl [] ⟨⟨b,rfl⟩,rfl⟩ (fun w n=>n.dropAll))
theorem DT(m:KM):Pu prog 230 [Td m] (fun _=>True) (.bool (decide (11<=m.k.kind)&&decide (m.k.kind<=13))):=by
 obtain⟨⟨a,c,b,d,n,g⟩,j,k⟩:=m;obtain⟨h,e⟩:=o8 (decide (11<=a));obtain⟨l,f⟩:=o8 (decide (a<=13));show Pu prog 230 _ _ (.bool (decide (11<=a)&&decide (a<=13)));rw[<-e,<-f];refine b_ 11 func230 rfl rfl rfl ?_;intro F _;refine C7 ?_;refine m8 rfl rfl ?_;intro o;refine r7 ?_
 cases h
 all_goals (
  refine A1 ?_;refine f_ ((I5 rfl rfl).eq (qn ((zp.2 (by show 11<=((a:Nat):Int)↔11<=a;omega)).trans e.symm))) ?_;refine E7 ?_;(first|refine u_ ?_|(refine v_ ?_;refine f_ ((G4 rfl rfl).eq (qn ((zp.2 (by show((a:Nat):Int)<=13↔a<=13;omega)).trans f.symm))) ?_));refine A1 ?_)
 all_goals (refine A4 ?_;exact d_ rfl rfl [] qh (fun w i=>i.dropAll))
abbrev Oi(k:KY):Bool:=decide (11<=k.kind)&&decide (k.kind<=13)
theorem DU(a:Option Addr)(c:Nat)(b:List KM)(hl:b.length<=1000000):Pu prog 159 [.slice a b.length c] (fun h=>n9 h a (qI b)) (.bool (b.any fun m=>Oi m.k)):=by
 refine b_ 5 func159 rfl rfl rfl ?_;intro F d;refine A1 ?_;refine c_ rfl (cj aJ R1 b a c 230 [] (fun _=>True) (fun m=>Oi m.k) (fun m _=>DT m) qb) (fun h e _=>⟨d.le e,trivial⟩) rfl ?_;refine C5 ?_;exact d_ rfl rfl [] qh i_
def HN(b:Nat)(y:DL)(Q:SE->DD->Prop)(h:l_)(v:Value)(A:List As):Prop:=v=.tuple #[]/\∃s' d' x' y',Q s' d'/\A=l5 x'.ra s'.a5N.a5M x'.rc::O2 b s' x' d' y'/\ri y y'/\iB s' x' d' y' h
abbrev DV(f:FuncId)(b:Nat)(s:SE)(x:SL)(d:DD)(y:DL)(c:CM)(k:CL)(Q:SE->DD->Prop):Prop:=Cm prog f [l9 b,uM c k] (fun h=>iB s x d y h/\dW c k h) (l5 x.ra s.a5N.a5M x.rc::O2 b s x d y) (HN b y Q)
theorem bu.w{f:FuncId}{b:Nat}{s:SE}{x:SL}{d:DD}{y:DL}{c:CM}{k:CL}{q:SD}(h:bu f b s x d y c k q){Q:SE->DD->Prop}(hq:Q q.1 q.2)(g:q.1.a5N.a5M=s.a5N.a5M):DV f b s x d y c k Q:=by
 intro F R w n ⟨hpt,hpc⟩;refine(Cm.of_ct h (Pre':=fun _=>True) (fun _ _ _ _=>trivial) F (l5 x.ra s.a5N.a5M x.rc::R) w (n.perm (by simpa using(Qd (a:=l5 x.ra s.a5N.a5M x.rc) (l₁:=O2 b s x d y) (l₂:=R)).symm)) trivial).mono ?_;rintro e z ⟨v,A,o,rfl,i,⟨rfl,l,m,rfl,⟨p,r⟩,t,u⟩,j⟩;refine⟨_,_,o,rfl,i,⟨rfl,q.1,q.2,l,m,hq,rfl,t,u _ (Mn.le i.heap hpt) (Mn.le i.heap hpc)⟩,?_⟩;rw[p,r,g];exact j.perm (by simpa using(Qd (a:=l5 x.ra s.a5N.a5M x.rc) (l₁:=O2 b q.1 l q.2 m) (l₂:=R)))
abbrev gZ(tag:Bs):RR:=fo tag [110,111,32,115,117,99,104,32,109,101,115,115,97,103,101]
def mtY(y:DL)(tag:Bs)(e:Option (List Nat))(y':DL):Prop:=if e.isSome then y'=y else∃a c,y'=F5 y (gZ tag,L0) a c
theorem lB(b:Nat)(s:SE)(x:SL)(d:DD)(y:DL)(c:CM)(k:CL)(e:Option (List Nat))(p:X7 s.a5N c.set c.uid=e)(hv:s.a5N.a5M.length<=100000)(hs:c.set.length<=1000000)(hl:y.rl.length<=1000000):
  Ct prog 222 [l9 b,uM c k] (fun h=>n9 h x.ra (T8 s.a5N.a5M)/\n9 h k.sa (T8 c.set)) (O2 b s x d y) (fun v A=>∃ua uc m,v=.tuple #[.slice ua (e.getD []).length uc,.bool e.isSome]/\mtY y c.tag e m/\A=U3 ua (e.getD []) uc::O2 b s x d m):=by
 have f:=Dw s.a5N x.ra x.rc c.set k.sa k.sc c.uid qb hs;rw[p] at f;refine b_ 29 func222 rfl rfl rfl ?_;rintro F ⟨g,i⟩;refine C7 ?_;refine m8 rfl rfl ?_;intro q;refine A1 ?_;refine D2 [4,6,8] [9] [E9 b s x d y,.blk q (.cells (iA c k).toArray 36)] 15 ?_;refine wd [0,1,2,3,4,5,6,7,8] ?_;refine h_ 9 rfl i6 ?_;refine e_ (C:=[]) f (fun h n _=>⟨g.le n,i.le n⟩) ?_;rintro v A ⟨ua,uc,rfl,rfl⟩;refine E6 [10,11,12,13,14] ?_
 cases e with
 |some l=>
  refine NO ?_;exact u6 rfl rfl rfl _ ⟨ua,uc,y,rfl,rfl,rfl⟩ (fun w j=>y4.left tk j)
 |none=>
  refine ap ?_;refine e_ (ll b s x d y c.tag [110,111,32,115,117,99,104,32,109,101,115,115,97,103,101] qb) qw ?_;rintro v A ⟨rfl,a,o,rfl⟩;refine JS ?_;exact u6 rfl rfl rfl _ ⟨ua,uc,F5 y (gZ c.tag,L0) a o,rfl,⟨a,o,rfl⟩,rfl⟩ (fun w j=>y4.left tk j)
def PH(r r':RQ):Prop:=r'=be\/∃l:List (Nat×Nat),l.length<=64/\(∀q∈l,Ho q)/\r'={r with a5P:=l}
theorem iM(b:Nat)(s:SE)(x:SL)(d:DD)(y:DL)(c:CM)(k:CL)(r:RQ)(z:QL)(a:List Nat)(ua:Option Addr)(uc:Nat)(hv:s.a5N.a5M.length<=100000)(hu:a.length<=1000000)(q:fT a)(X:s.num<18446744073709551615):
  Cm prog 224 [l9 b,uM c k,Re r z,.slice ua a.length uc] (fun h=>dA r z h/\n9 h ua (nV a)) (l5 x.ra s.a5N.a5M x.rc::O2 b s x d y) (fun h v A=>v=.tuple #[]/\∃e g,PH r e/\dA e g h/\A=l5 x.ra s.a5N.a5M x.rc::O2 b (G3 (s,d) c e a).1 {x with cl:=k,ua:=ua,uc:=uc} (G3 (s,d) c e a).2 {y with ql:=g}):=by
 refine y5 32 func224 rfl rfl rfl ?_;rintro F R ⟨t,u⟩;refine C7 ?_;refine m8 rfl rfl ?_;intro m;refine m8 rfl rfl ?_;intro n;refine aq ?_;refine e_ (C:=[]) (Bq s.a5N x.ra x.rc a ua uc true qb hu q) ?pre ?_;(case pre=>exact fun h Y ⟨bs,o⟩=>⟨A3.rd o ud,u.le Y⟩);rintro v A ⟨p,l,D,rfl,rfl,h0,M⟩;refine A1 ?_;obtain⟨S,T⟩:=o8 (decide (l.length<1));obtain⟨q2,U⟩:=o8 (decide (64<l.length));refine B9 (Z:=[V2 p l D]) tk fun V j ⟨bs,o⟩=>?_;have O:n9 V.heap p (T8 l):=A3.rd o ud;clear o;refine x8 [(0,l9 b),(3,.slice ua a.length uc),(5,l9 m),(6,l9 n),(25,.bool (S||q2))] (.blk n (.cells (eE {r with a5P:=l} {z with ua:=p,uc:=D}).toArray 44)::.blk m (.cells (iA c k).toArray 36)::E9 b s x d y::u7 y.da y.rl y.dc::l5 x.ra s.a5N.a5M x.rc::R) ?_ ?_
 ·cases S
  all_goals (
   refine E7 ?_;refine f_ ((F6 rfl rfl).eq (qn ((qz).trans T.symm))) ?_;refine O3 ?_;(first|refine u_ ?_|(refine v_ ?_;refine f_ ((E2 rfl rfl).eq (qn ((qz).trans U.symm))) ?_));refine r7 ?_)
  all_goals exact p9 sub (fun w f=>(tk (C:=[_,_,_,_,_])).hp f)
 refine w8 ?_;refine n7 (ι:=RQ×QL) (fun i=>PH r i.1/\dA i.1 i.2 V.heap) (fun _=>[(0,l9 b),(3,.slice ua a.length uc),(5,l9 m),(6,l9 n)]) (fun i=>.blk n (.cells (eE i.1 i.2).toArray 44)::.blk m (.cells (iA c k).toArray 36)::E9 b s x d y::u7 y.da y.rl y.dc::l5 x.ra s.a5N.a5M x.rc::R) ?_ ?_
 ·refine o9 rfl ?_ ?_<;>intro h
  ·refine C7 ?_;refine f_ (y8 (ps:=[(0,.const (.int .i64 3))]) (vs:=[(0,.int .i64 3)]) (cells:=(eE be cX).toArray) rfl i6) ?_;refine r7 ?_;exact g_ (be,cX) ⟨.inl rfl,n9.nil _ _,n9.nil _ _⟩ (fun w f=>(tk (C:=[_,_,_,_,_])).hp f)
  ·refine w8 ?_;refine g_ ({r with a5P:=l},{z with ua:=p,uc:=D}) ⟨.inr ⟨l,?_,M,rfl⟩,O,t.a5Y.le j.heap⟩ (fun w f=>(tk (C:=[_,_,_,_,_])).hp f);rw[T,U] at h;simp at h;omega
 rintro⟨e,g⟩ ⟨hc,Q⟩;refine O3 ?_;refine e_ (dC b s x d y c k e g a ua uc X) qw ?_;rintro v A ⟨rfl,rfl⟩;refine w8 ?_;refine H4 (A:=l5 x.ra s.a5N.a5M x.rc::O2 b (G3 (s,d) c e a).1 {x with cl:=k,ua:=ua,uc:=uc} (G3 (s,d) c e a).2 {y with ql:=g}) (v:=.tuple #[]) j ⟨rfl,e,g,hc,Q,rfl⟩ ?_;exact m6 rfl _ qh (fun w f=>C6 (A:=[_,_,_]) (J:=[_,_]) tk f)
theorem eW{v:VW}{l:List (Nat×Nat)}{a:Bool}{o:List Nat}(h:X7 v l a=some o):(∀u∈o,∃r∈v.a5M,r.1=u)/\o.length<=v.a5M.length:=by
 unfold X7 at h;simp only at h;split at h
 ·exact absurd h x4
 ·injection h with h;subst h;refine⟨fun u hu=>?_,?_⟩
  ·obtain⟨x,b,rfl⟩:=jv.1 hu;have c:=(Qx.1 b).1;exact⟨x.1,List.fst_mem_of_mem_zipIdx c,rfl⟩
  ·rw[zh];refine jd (Qn _ _) ?_;rw[List.length_zipIdx];exact zr _
abbrev wJ:Bs:=[92,83,101,101,110]
structure rn(s:SE)(c:CM)(r:RQ):Prop where
 op:r.op=3\/r.op=7\/r.op=9
 box:r.box=[]\/r.box=s.a5N.box
 a5P:r.a5P.length<=64
 a5Y:r.a5Y=[]\/r.a5Y=c.a5Y\/r.a5Y=[wJ]
 dest:r.tz=[]\/r.tz=c.box
theorem rn.look(s:SE)(c:CM):rn s c be:=⟨.inl rfl,.inl rfl,by simp,.inl rfl,.inl rfl⟩
theorem rn.chg{s:SE}{c:CM}{r a:RQ}(h:rn s c r)(hc:PH r a):rn s c a:=by
 rcases hc with rfl|⟨l,b,_,rfl⟩
 ·exact .look s c
 ·exact⟨h.op,h.box,b,h.a5Y,h.dest⟩
def DW(s:SE)(d:DD)(c:CM)(s':SE)(d':DD):Prop:=
 (∃r,(r=ER c.tag\/r=gZ c.tag)/\(s',d')=V1 (s,d) r)\/∃l r,X7 s.a5N c.set c.uid=some l/\rn s c r/\(s',d')=G3 (s,d) c r l
theorem nA{b:Nat}{s:SE}{x:SL}{d:DD}{y:DL}{c:CM}{r:RR}{a:Option Addr}{g:Nat}{h:l_}(i:r=ER c.tag\/r=gZ c.tag)(e:iB s x d y h):HN b y (DW s d c) h (.tuple #[]) (l5 x.ra s.a5N.a5M x.rc::O2 b s x d (F5 y (r,L0) a g)):=by
 have hz:∀h,fG r L0 h:=by rcases i with rfl|rfl<;>exact cH rfl rfl rfl
 refine⟨rfl,s,{d with a5X:=d.a5X++[r]},x,F5 y (r,L0) a g,.inl ⟨r,i,rfl⟩,rfl,.one rfl,e.se,?_,fun m f=>?_,e.dd.req,e.dd.want⟩
 ·show d.a5X++[r]=(y.rl++[(r,L0)]).map Prod.fst;rw[e.dd.a5X];simp
 ·rcases zb.1 (show m∈y.rl++[(r,L0)] from f) with f|f
  ·exact e.dd.rep m f
  ·rw[zu.1 f];exact hz h
theorem HP(s:SE)(d:DD)(c:CM)(r:RQ)(l:List Nat):(G3 (s,d) c r l).1.a5N=s.a5N:=by unfold G3;split<;>rfl
theorem nB{b:Nat}{s:SE}{x:SL}{d:DD}{y:DL}{c:CM}{k:CL}{l:List Nat}{r:RQ}{z:QL}{ua:Option Addr}{uc:Nat}{h:l_}(f:X7 s.a5N c.set c.uid=some l)(g:rn s c r)(hq:dA r z h)(hu:n9 h ua (nV l))(a:iB s x d y h)(hc:dW c k h):
  HN b y (DW s d c) h (.tuple #[]) (l5 x.ra s.a5N.a5M x.rc::O2 b (G3 (s,d) c r l).1 {x with cl:=k,ua:=ua,uc:=uc} (G3 (s,d) c r l).2 {y with ql:=z}):=by
 have e:iB (G3 (s,d) c r l).1 {x with cl:=k,ua:=ua,uc:=uc} (G3 (s,d) c r l).2 {y with ql:=z} h:=by
  unfold G3;split
  ·exact⟨⟨hu,hc⟩,⟨a.dd.a5X,a.dd.rep,hq,a.dd.want⟩⟩
  ·exact⟨⟨hu,hc⟩,⟨a.dd.a5X,a.dd.rep,⟨hq.a5P,hq.a5Y⟩,a.dd.want⟩⟩
 refine⟨rfl,(G3 (s,d) c r l).1,(G3 (s,d) c r l).2,{x with cl:=k,ua:=ua,uc:=uc},{y with ql:=z},.inr ⟨l,r,f,g,rfl⟩,?_,.refl rfl,e⟩;rw[HP]
section
variable(b:Nat)(s:SE)(x:SL)(d:DD)(y:DL)(c:CM)(k:CL)(hv:s.a5N.a5M.length<=100000)(hvu:∀r∈s.a5N.a5M,r.1<18446744073709551616)(hc:qY c)(hn:s.num<18446744073709551615)(hl:y.rl.length<=100000)
include hv hvu hc hn hl
theorem HQ:DV 152 b s x d y c k (DW s d c):=by
 have X:=hc.set;obtain⟨e,z⟩:∃e,X7 s.a5N c.set c.uid=e:=⟨_,rfl⟩;refine y5 25 func152 rfl rfl rfl ?_;rintro F R ⟨p,q⟩;refine C7 ?_;refine m8 rfl rfl ?_;intro Q;refine A1 ?_;refine e_ (lB b s x d y c k e z hv qb qb) ?pre ?_;(case pre=>exact fun h Y ⟨bs,g⟩=>⟨A3.rd g ud,q.set.le Y⟩);rintro v A ⟨j,t,m,rfl,S,rfl⟩;refine ap ?_
 cases e with
 |none=>
  obtain⟨a1,C,rfl⟩:∃a C,m=F5 y (gZ c.tag,L0) a C:=S;refine L7 ?_;refine H4 (A:=l5 x.ra s.a5N.a5M x.rc::O2 b s x d (F5 y (gZ c.tag,L0) a1 C)) (v:=.tuple #[]) (l8.le_refl _) (nA (.inr rfl) p) ?_;exact m6 rfl _ qh (fun w n=>C6 (A:=[_,_,_]) (J:=[_,_]) tk n)
 |some l=>
  obtain rfl:m=y:=S;obtain⟨D,h0⟩:=eW z;refine A1 ?_;refine B9 (Z:=[U3 j l t,.blk Q (.cells (iA c k).toArray 36)]) tk fun T i g=>?_;have o:n9 T.heap j (nV l):=by obtain⟨bs,g⟩:=g;exact A3.rd g ud
  have U:T.heap Q=some (.cells (iA c k).toArray 36 (0,0)):=J_ g;clear g;replace p:=Mn.le i.heap p;replace q:=Mn.le i.heap q;refine r7 ?_;refine e_ (jV b s x d m 9) qw ?_;rintro v A ⟨rfl,rfl⟩;refine i7 rfl ?_;intro g6;refine A1 ?_;refine r_ (i8 rfl (fun w n=>I0 n U rfl)) ?_;refine E7 ?_;refine r_ (di rfl U ga) ?_;refine A1 ?_;refine A9 (iM b s x d m c k {al (s,d) 9 with tz:=c.box} cX l j t hv qb (fun u hu=>by obtain⟨r,hr,rfl⟩:=D u hu;exact hvu r hr) hn) ⟨⟨n9.nil _ _,n9.nil _ _⟩,o⟩ ?_;rintro v A F2 f ⟨rfl,V,z',M,O,rfl⟩;refine w8 ?_;refine H4 (A:=l5 x.ra s.a5N.a5M x.rc::O2 b (G3 (s,d) c V l).1 {x with cl:=k,ua:=j,uc:=t} (G3 (s,d) c V l).2 {m with ql:=z'}) (v:=.tuple #[]) (i.trans f) (nB z (rn.chg ⟨.inr (.inr rfl),.inr rfl,by simp[al],.inl rfl,.inr rfl⟩ M) O (o.le f.heap) (Mn.le f.heap p) (Mn.le f.heap q)) ?_;exact m6 rfl _ qh (fun w n=>C6 (A:=[_,_,_]) (J:=[_]) tk n)
end
