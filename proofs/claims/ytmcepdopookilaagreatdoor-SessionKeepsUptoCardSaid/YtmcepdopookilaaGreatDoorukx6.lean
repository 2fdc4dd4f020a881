import Derived.Test.YtmcepdopookilaaGreatDoorukx0
import Derived.ProofKit
import Derived.Lib.Strings
import Derived.Great.FillDense
import Derived.OrdersHeld
import Derived.RangeFuncNested
import Derived.RangeFuncBound
import Derived.Shelf.SlMaps.Clone
import Derived.WalkSmall
set_option linter.unusedVariables false
set_option linter.unusedSimpArgs false
set_option linter.defProp false
namespace Go.Sl
open Go Go.RowKit
abbrev r7(n:Nat):Value:=.int .i64 (n:Nat)
abbrev G9:=List (Nat×Value)
def find:G9->Nat->Option Value
 |[],_=>none
 |(t,v)::r,n=>bif Nat.beq t n then some v else find r n
def ev(L:G9):zw->Option Value
 |.tmp t=>find L t
 |.const v=>some v
 |.global g=>some (.pointer (some ⟨g,0,none⟩))
 |.func f=>some (.func (.func f) #[] #[])
structure H5(N:Nat)(L:G9)(a:Act):Prop where
 defers:a.defers=[]
 size:a.tmps.size=N
 at_:∀t v,find L t=some v->a.tmps[t]? =some v
def H5.eval{N:Nat}{L:G9}{a:Act}(h:H5 N L a){x:zw}{v:Value}(hx:ev L x=some v):a.eval x=v:=by
 cases x with
 |tmp t=>simp only[ev] at hx;simp[Act.eval,h.at_ t v hx]
 |const u=>simp only[ev,Q8] at hx;subst hx;rfl
 |global g=>simp only[ev,Q8] at hx;subst hx;rfl
 |func f=>simp only[ev,Q8] at hx;subst hx;rfl
def H5.put{N:Nat}{L:G9}{a:Act}(h:H5 N L a){d:Nat}(f:Nat.blt d N=true)(v:Value):H5 N ((d,v)::L) (a.put (some d) v):=by
 have c:d<N:=by simpa[K2] using f
 refine⟨h.defers,by simp[Act.put,h.size],fun t u b=>?_⟩;simp only[find] at b;by_cases e:d=t
 ·subst e;simp only[Nat.beq_refl,cond_true,Q8] at b;subst b;simp[Act.put,h.size,c]
 ·have g:Nat.beq d t=false:=by
   cases hb:Nat.beq d t
   ·rfl
   ·exact absurd (Qu hb) e
  rw[g] at b;simp only[cond_false] at b;simp only[Act.put];rw[J8 e];exact h.at_ t u b
def fE(L' L:G9):Prop:=∀t v,find L' t=some v->find L t=some v
def fE.nil(L:G9):fE [] L:=fun _ _ h=>by simp[find] at h
def fE.cons{L' L:G9}{t:Nat}{v:Value}(h:find L t=some v)(r:fE L' L):fE ((t,v)::L') L:=fun n u hu=>by
 simp only[find] at hu
 cases e:Nat.beq t n
 ·rw[e] at hu;exact r n u hu
 ·rw[e] at hu;have:=Qu e;subst this;simp only[cond_true,Q8] at hu;subst hu;exact h
def fE.refl(L:G9):fE L L:=fun _ _ h=>h
def H5.sub{N:Nat}{L L':G9}{a:Act}(h:H5 N L a)(s:fE L' L):H5 N L' a:=⟨h.defers,h.size,fun t v b=>h.at_ t v (s t v b)⟩
abbrev l_:=Nat->Option Obj
def hp(w:World):l_:=fun b=>w.heap[b]?
def l_.le(h h':l_):Prop:=∀b o,h b=some o->h' b=some o
def l_.le_refl(h:l_):l_.le h h:=fun _ _ e=>e
def l_.le_trans{a b c:l_}(h:l_.le a b)(k:l_.le b c):l_.le a c:=fun x o e=>k x o (h x o e)
def l_.cell?(h:l_)(a:Addr):Option Value:=
 match h a.block with
 |some (.cells c _ _)=>if a.spot.isSome then none else c[a.off]?
 |_=>none
def vt(w:World)(a:Addr):(hp w).cell? a=w.cell? a:=rfl
def l_.cell?_le{h b:l_}(hl:l_.le h b){a:Addr}{v:Value}(hc:h.cell? a=some v):b.cell? a=some v:=by
 unfold l_.cell? at*
 cases e:h a.block with
 |none=>rw[e] at hc;cases hc
 |some o=>rw[e] at hc;rw[hl _ _ e];exact hc
inductive As where
 |blk (b:Nat) (o:Obj)
 |own (v:Value) (t:zk) (sz:Nat) (xs:zq)
structure Sd(h:l_)(v:Value)(t:zk)(sz:Nat)(xs:zq)(g:Nat):Prop where
 ex:∃o n cap pre post fr,v=.slice (some ⟨g,o,none⟩) n cap/\h g=some (.cells (pre++xs++post).toArray t fr)/\pre.length=o/\xs.length=n*sz/\
  cap*sz<=(xs++post).length/\n<=cap/\(fr.2<=fr.1\/(pre++xs++post).length<=fr.1)
def As.sat(h:l_):As->zz->Prop
 |.blk b o,bs=>bs=[b]/\h b=some o
 |.own v t sz xs,bs=>(v=.slice none 0 0/\xs=[]/\bs=[])\/∃g,bs=[g]/\Sd h v t sz xs g
def A_(h:l_):List As->zz->Prop
 |[],bs=>bs=[]
 |x::r,bs=>∃b1 b2,bs=b1++b2/\x.sat h b1/\A_ h r b2
def As.sat_some{h:l_}{x:As}{bs:zz}(hs:x.sat h bs):∀b∈bs,(h b).isSome=true:=by
 cases x with
 |blk b o=>obtain⟨rfl,e⟩:=hs;intro c hc;simp at hc;subst hc;simp[e]
 |own v t sz xs=>
  rcases hs with⟨_,_,rfl⟩|⟨g,rfl,⟨o,n,d,pre,a,f,_,e,_⟩⟩
  ·intro c hc;cases hc
  ·intro c hc;simp at hc;subst hc;simp[e]
def A_.some{h:l_}:∀{H:List As} {bs:zz},A_ h H bs->∀b∈bs,(h b).isSome=true
 |[],bs,hs,b,a=>by simp only[A_] at hs;subst hs;cases a
 |x::r,bs,hs,b,a=>by
  obtain⟨e,f,rfl,c,d⟩:=hs;rcases kw.1 a with a|a
  ·exact As.sat_some c b a
  ·exact A_.some d b a
def As.sat_same{h d:l_}{x:As}{bs:zz}(hs:x.sat h bs)(e:∀b∈bs,d b=h b):x.sat d bs:=by
 cases x with
 |blk b o=>obtain⟨rfl,f⟩:=hs;exact⟨rfl,by rw[e b qc];exact f⟩
 |own v t sz xs=>
  rcases hs with hs|⟨g,rfl,⟨o,n,c,pre,a,i,j,k,l⟩⟩
  ·exact .inl hs
  ·exact .inr ⟨g,rfl,⟨o,n,c,pre,a,i,j,by rw[e g qc];exact k,l⟩⟩
def A_.same{h c:l_}:∀{H:List As} {bs:zz},A_ h H bs->(∀b∈bs,c b=h b)->A_ c H bs
 |[],_,hs,_=>hs
 |_::_,_,⟨b1,b2,a,h1,h2⟩,e=>by
  subst a;exact⟨b1,b2,rfl,As.sat_same h1 fun b a=>e b (kw.2 (.inl a)),A_.same h2 fun b a=>e b (kw.2 (.inr a))⟩
def A_.append{h:l_}:∀{A B:List As} {ba a:zz},A_ h A ba->A_ h B a->A_ h (A++B) (ba++a)
 |[],_,_,_,ha,hb=>by simp only[A_] at ha;subst ha;simpa using hb
 |_::_,_,_,_,⟨b1,b2,e,h1,h2⟩,hb=>by subst e;exact⟨b1,b2++_,by simp,h1,A_.append h2 hb⟩
def A_.split{h:l_}:∀{A B:List As} {bs:zz},A_ h (A++B) bs->∃ba a,bs=ba++a/\A_ h A ba/\A_ h B a
 |[],_,bs,hs=>⟨[],bs,rfl,rfl,hs⟩
 |_::r,B,bs,⟨b1,b2,e,h1,h2⟩=>by
  obtain⟨ba,a,b,ha,c⟩:=A_.split (A:=r) (B:=B) h2;exact⟨b1++ba,a,by rw[e,b];simp,⟨b1,ba,rfl,h1,ha⟩,c⟩
structure l9 where
 os:Os
 tape:Nat->Question->Nat
 output:Array (Nat×ByteArray)
 heap:l_
structure Hp(F:l9)(w:World)(H:List As):Prop where
 os:w.os=F.os
 tape:w.tape=F.tape
 output:w.output=F.output
 keep:l_.le F.heap (hp w)
 own:∃bs,A_ (hp w) H bs/\bs.Nodup/\∀b∈bs,F.heap b=none
def F6(w:World)(bs:zz):l_:=fun b=>if b∈bs then none else w.heap[b]?
def w6(w:World)(bs:zz):l9:=⟨w.os,w.tape,w.output,F6 w bs⟩
def am(w:World):l9:=w6 w []
def O1(w:World):F6 w []=hp w:=by funext b;simp[F6,hp]
def cq(w:World)(bs:zz):l_.le (F6 w bs) (hp w):=fun b o e=>by
 unfold F6 at e;split at e
 ·cases e
 ·exact e
def Hp.start{w:World}{C:List As}{bs:zz}(hs:A_ (hp w) C bs)(a:bs.Nodup):Hp (w6 w bs) w C:=
 ⟨rfl,rfl,rfl,cq w bs,bs,hs,a,fun b c=>by simp[w6,F6,c]⟩
def Hp.drew{F:l9}{w:World}{H:List As}(h:Hp F w H):Hp F {w with drawn:=w.drawn+1} H:=⟨h.os,h.tape,h.output,h.keep,h.own⟩
def Hp.drew'{F:l9}{w:World}{H:List As}(h:Hp F w H):Hp F w.drew H:=⟨h.os,h.tape,h.output,h.keep,h.own⟩
inductive N1:List As->As->List As->List As->Prop
 |hereN {x:As} {r ys:List As}:N1 (x::r) x ys (ys++r)
 |del {x:As} {r:List As}:N1 (x::r) x [] r
 |here {x y:As} {r:List As}:N1 (x::r) x [y] (y::r)
 |there {x y:As} {r ys r':List As}:N1 r x ys r'->N1 (y::r) x ys (y::r')
section
variable{x z:As}{r:List As}
end
def N1.sat{h:l_}:∀{H H' n:List As} {x:As},N1 H x n H'->∀{bs:zz},A_ h H bs->
  ∃d f m,bs=d++f++m/\x.sat h f/\∀g c,(∀b∈d++m,g b=h b)->A_ g n c->A_ g H' (d++c++m)
 |_,_,_,_,.del,bs,hs=>by
  obtain⟨d,f,e,j,k⟩:=hs;refine⟨[],d,f,by simpa using e,j,fun g c l hc=>?_⟩;simp only[A_] at hc;subst hc;simpa using A_.same k fun b a=>l b (by simpa using a)
 |_,_,_,_,.here,bs,hs=>by
  obtain⟨d,f,e,j,k⟩:=hs;exact⟨[],d,f,by simpa using e,j,fun g c l hc=>by simpa using A_.append hc (A_.same k fun b a=>l b (by simpa using a))⟩
 |_,_,_,_,.hereN,bs,hs=>by
  obtain⟨d,f,e,j,k⟩:=hs;exact⟨[],d,f,by simpa using e,j,fun g c l hc=>by simpa using A_.append hc (A_.same k fun b a=>l b (by simpa using a))⟩
 |_,_,_,_,.there u,bs,hs=>by
  obtain⟨d,f,e,j,k⟩:=hs;obtain⟨o,q,p,r,s,l⟩:=N1.sat u k;refine⟨d++o,q,p,by rw[e,r];simp,s,fun g c i hc=>?_⟩;refine⟨d,o++c++p,by simp,As.sat_same j fun b a=>i b (by simp[a]),l g c (fun b a=>i b ?_) hc⟩;rcases kw.1 a with a|a
  ·simp[a]
  ·simp[a]
def Hp.focus{F:l9}{w:World}{H H' t:List As}{x:As}(h:Hp F w H)(u:N1 H x t H'):
  ∃k,x.sat (hp w) k/\k.Nodup/\(∀b∈k,F.heap b=none/\b<w.heap.size)/\
   ∀w' c,w'.os=w.os->w'.tape=w.tape->w'.output=w.output->(∀b,b<w.heap.size->b∉k->w'.heap[b]? =w.heap[b]?)->A_ (hp w') t c->c.Nodup->
    (∀b∈c,b∈k\/w.heap.size<=b)->Hp F w' H':=by
 obtain⟨S,hs,v,hf⟩:=h.own;obtain⟨z,k,A,e,g,J⟩:=N1.sat u hs;subst e;have f:∀b,((hp w) b).isSome=true->b<w.heap.size:=fun b a=>by
  rcases Q6 b w.heap.size with h|h
  ·exact h
  ·simp[hp,h] at a
 have d:=A_.some hs;refine⟨k,g,?_,fun b a=>⟨hf b (by simp[a]),f b (d b (by simp[a]))⟩,?_⟩
 ·exact(Qg.1 (Qg.1 v).1).2.1
 intro w' c M O Q l hc r m;have i:=Qg.1 v;have p:=Qg.1 i.1;have j:∀b∈z++A,b<w.heap.size/\b∉k:=fun b a=>by
  rcases kw.1 a with a|a
  ·exact⟨f b (d b (by simp[a])),fun n=>p.2.2 b a b n rfl⟩
  ·exact⟨f b (d b (by simp[a])),fun n=>i.2.2 b (by simp[n]) b a rfl⟩
 refine⟨M.trans h.os,O.trans h.tape,Q.trans h.output,fun b o s=>?_,z++c++A,J (hp w') c (fun b a=>l b (j b a).1 (j b a).2) hc,?_,?_⟩
 ·have C:=h.keep b o s;have:b<w.heap.size:=f b (by simp[C]);show w'.heap[b]? =_;rw[l b this (fun a=>by rw[hf b (by simp[a])] at s;cases s)];exact C
 ·rw[Qg,Qg];refine⟨⟨p.1,r,fun x g y q=>?_⟩,i.2.1,fun x g y q=>?_⟩
  ·rintro rfl;have:=j x (by simp[g]);rcases m x q with h|h
   ·exact this.2 h
   ·omega
  ·rintro rfl;have:=j x (by simp[q]);rcases kw.1 g with g|g
   ·exact i.2.2 x (by simp[g]) x q rfl
   ·rcases m x g with h|h
    ·exact this.2 h
    ·omega
 ·intro b a;rcases kw.1 a with a|a
  ·rcases kw.1 a with a|a
   ·exact hf b (by simp[a])
   ·rcases m b a with D|D
    ·exact hf b (by simp[D])
    ·cases hq:F.heap b with
     |none=>rfl
     |some o=>have:=f b (by simp[h.keep b o hq]);omega
  ·exact hf b (by simp[a])
def Hp.none_ge{F:l9}{w:World}{H:List As}(h:Hp F w H){b:Nat}(a:w.heap.size<=b):F.heap b=none:=by
 cases hq:F.heap b with
 |none=>rfl
 |some o=>
  have:=h.keep b o hq;simp[hp,a] at this
def Hp.alloc{F:l9}{w:World}{H:List As}(h:Hp F w H)(o:Obj):Hp F (w.alloc o) (.blk w.heap.size o::H):=by
 obtain⟨e,hs,g,hf⟩:=h.own;have c:∀b,b<w.heap.size->(hp (w.alloc o)) b=(hp w) b:=fun b a=>(Go.heap_alloc_old w o a);have d:∀b∈e,b<w.heap.size:=fun b a=>by
  have:=A_.some hs b a;rcases Q6 b w.heap.size with h|h
  ·exact h
  ·simp[hp,h] at this
 refine⟨h.os,h.tape,h.output,fun b i j=>?_,w.heap.size::e,⟨[w.heap.size],e,rfl,⟨rfl,heap_alloc_new w o⟩,A_.same hs fun b a=>c b (d b a)⟩,?_,?_⟩
 ·have f:=h.keep b i j;rcases Q6 b w.heap.size with a|a
  ·rw[c b a];exact f
  ·simp[hp,a] at f
 ·rw[Yw];exact⟨fun k=>by have:=d _ k;omega,g⟩
 ·intro b a;rcases jv.1 a with rfl|a
  ·exact h.none_ge (kp _)
  ·exact hf b a
def Hp.drop{F:l9}{w:World}{x:As}{H:List As}(h:Hp F w (x::H)):Hp F w H:=by
 obtain⟨g,⟨i,a,e,j,c⟩,d,hf⟩:=h.own;subst e;exact⟨h.os,h.tape,h.output,h.keep,a,c,(Qg.1 d).2.1,fun b f=>hf b (by simp[f])⟩
def Hp.dropAll{F:l9}{w:World}{H:List As}(h:Hp F w H):Hp F w []:=
 ⟨h.os,h.tape,h.output,h.keep,[],rfl,Zn,fun b a=>by cases a⟩
def Hp.upd_same{F:l9}{w:World}{H H':List As}{x:As}(h:Hp F w H)(u:N1 H x [] H'):Hp F w H':=by
 obtain⟨c,d,e,f,k⟩:=h.focus u;exact k w [] rfl rfl rfl (fun _ _ _=>rfl) rfl Zn (fun b a=>by cases a)
def Hp.perm{F:l9}{w:World}{H H':List As}(h:Hp F w H)(p:H.Perm H'):Hp F w H':=by
 obtain⟨g,hs,m,hf⟩:=h.own;have k:∃a,A_ (hp w) H' a/\g.Perm a:=by
  clear m hf h
  induction p generalizing g with
  |nil=>exact⟨g,hs,.refl _⟩
  |cons x p ih=>
   obtain⟨c,i,e,f,d⟩:=hs;obtain⟨a,l,o⟩:=ih i d;subst e;exact⟨c++a,⟨c,a,rfl,f,l⟩,o.append_left c⟩
  |swap x y r=>
   obtain⟨c,i,e,f,n,j,s,d,l⟩:=hs;subst e s;exact⟨n++(c++j),⟨n,c++j,rfl,d,c,j,rfl,f,l⟩,by rw[<-ky,<-ky];exact jj.append_right j⟩
  |trans p q ih1 ih2=>
   obtain⟨c,f,t⟩:=ih1 g hs;obtain⟨i,d,u⟩:=ih2 c f;exact⟨i,d,t.trans u⟩
 obtain⟨a,f,d⟩:=k;exact⟨h.os,h.tape,h.output,h.keep,a,f,d.nodup m,fun b v=>hf b (d.mem_iff.2 v)⟩
def N1.perm{H H' a:List As}{x:As}(u:N1 H x a H'):a=[]->H.Perm (x::H'):=by
 induction u with
 |hereN=>intro h;subst h;exact .refl _
 |del=>intro _;exact .refl _
 |here=>intro h;cases h
 |there _ ih=>intro h;exact((ih h).cons _).trans (.swap _ _ _)
def Hp.front{F:l9}{w:World}{H R:List As}{x:As}(h:Hp F w H)(u:N1 H x [] R):Hp F w (x::R):=h.perm (u.perm rfl)
def Hp.back{F:l9}{w w':World}{C R A:List As}{bc br:zz}(h:Hp F w (C++R))(z:A_ (hp w) C bc)(p:A_ (hp w) R br)(t:(bc++br).Nodup)(hf:∀b∈bc++br,F.heap b=none)(k:Hp (w6 w bc) w' A):Hp F w' (A++R):=by
 obtain⟨q,u,j,l⟩:=k.own;have d:∀b,b<w.heap.size->b∉bc->w'.heap[b]? =w.heap[b]?:=fun b a m=>by
  have:(w6 w bc).heap b=some w.heap[b]:=by simp[w6,F6,m,a]
  have:=k.keep b _ this;simpa[hp,a] using this
 have f:∀b∈br,b<w.heap.size:=fun b a=>by
  have:=A_.some p b a;rcases Q6 b w.heap.size with h|h
  ·exact h
  ·simp[hp,h] at this
 have g:=Qg.1 t;have i:∀b∈br,b∉bc:=fun b a hc=>g.2.2 b hc b a rfl;have e:∀b∈q,b∈bc\/w.heap.size<=b:=fun b a=>by
  have:=l b a;by_cases c:b∈bc
  ·exact .inl c
  ·refine .inr ?_;rcases Q6 b w.heap.size with h|h
   ·simp[w6,F6,c,h] at this
   ·exact h
 refine⟨k.os.trans h.os,k.tape.trans h.tape,k.output.trans h.output,fun b o n=>?_,q++br,A_.append u (A_.same p fun b a=>d b (f b a) (i b a)),?_,?_⟩
 ·have r:=h.keep b o n;have a:b<w.heap.size:=by
   rcases Q6 b w.heap.size with h|h
   ·exact h
   ·simp[hp,h] at r
  show w'.heap[b]? =_;rw[d b a (fun hc=>by rw[hf b (by simp[hc])] at n;cases n)];exact r
 ·rw[Qg];refine⟨j,g.2.1,fun x v y s=>?_⟩;rintro rfl;rcases e x v with c|c
  ·exact i x s c
  ·have:=f x s;omega
 ·intro b a;rcases kw.1 a with a|a
  ·rcases e b a with c|c
   ·exact hf b (by simp[c])
   ·exact h.none_ge c
  ·exact hf b (by simp[a])
def Ct(P:zj)(f:FuncId)(args:zq)(Pre:l_->Prop)(C:List As)(Post:Value->List As->Prop):Prop:=
 ∀w bs,A_ (hp w) C bs->bs.Nodup->Pre (F6 w bs)->Calls P f args.toArray w fun e w'=>∃v A,e=.returned v/\Post v A/\Hp (w6 w bs) w' A
def Pu(P:zj)(f:FuncId)(args:zq)(Pre:l_->Prop)(v:Value):Prop:=Ct P f args Pre [] fun u A=>u=v/\A=[]
def MQ(K:Act->World->Prop)(E:List (Nat×(Act->World->Prop)))(R:Act->World->Prop):Exit->Act->World->Prop
 |.normal,a,w=>K a w
 |.ret,a,w=>R a w
 |.exit id,a,w=>match E.lookup (id+2) with
  |some k=>k a w
  |none=>False
 |.panic ch,a,w=>(∃k v,E.lookup 0=some k/\ch=[{v:=v,recovered:=false}]/\k ⟨#[v],a.defers⟩ w)\/(∃k v,E.lookup 1=some k/\ch=[{v:=v,recovered:=false}]/\k ⟨a.tmps.push v,a.defers⟩ w)
 |_,_,_=>False
abbrev A1:=Act->World->Prop
def At(N:Nat)(K:A1)(L:G9)(F:l9)(H:List As):Prop:=∀a w,H5 N L a->Hp F w H->K a w
def G(P:zj)(N:Nat)(c:Code)(K:A1)(E:List (Nat×A1))(R:A1)(L:G9)(F:l9)(H:List As):Prop:=
 ∀a w,H5 N L a->Hp F w H->c.wp P (MQ K E R) a w
def GL(P:zj)(N:Nat)(ops:Array Oper)(rest:List Oper)(K:A1)(E:List (Nat×A1))(R:A1)(L:G9)(F:l9)(H:List As):Prop:=
 ∀a w,H5 N L a->Hp F w H->wpList P ops (MQ K E R) rest a w
section
variable{P:zj}{N:Nat}{K R:A1}{E:List (Nat×A1)}{L:G9}{F:l9}{H:List As}
def nq{c:Code}(h:G P N c K E R L F H):At N (fun a w=>c.wp P (MQ K E R) a w) L F H:=h
def At.weaken{L':G9}{H':List As}(h:At N K L' F H')(hs:fE L' L)(b:∀w,Hp F w H->Hp F w H'):At N K L F H:=fun a w hf c=>h a w (hf.sub hs) (b w c)
def Ax{x y:Code}(h:G P N x (fun a w=>y.wp P (MQ K E R) a w) E R L F H):G P N (.seq x y) K E R L F H:=fun a w hf b=>
 wp_seq (Code.wp_mono (fun e a w q=>by cases e<;>exact q) (h a w hf b))
def tC(h:At N K L F H):G P N .skip K E R L F H:=fun a w hf b=>wp_skip (h a w hf b)
def B4(h:At N R L F H):G P N .ret K E R L F H:=fun a w hf b=>wp_ret (h a w hf b)
def tD{id:Nat}{k:A1}(b:E.lookup (id+2)=some k)(h:At N k L F H):G P N (.exit id) K E R L F H:=fun a w hf c=>
 wp_exit (by simp only[MQ,b];exact h a w hf c)
def o0{id:Nat}{c:Code}(h:G P N c K ((id+2,K)::E) R L F H):G P N (.block id c) K E R L F H:=fun a w hf d=>
 wp_block (Code.wp_mono (fun e a w q=>by
  cases e with
  |exit id'=>
   simp only[MQ,List.lookup] at q;simp only[Exit.inBlock];split
   ·rename_i b;subst b;simpa[MQ] using q
   ·rename_i b;have:(id'+2==id+2)=false:=(by simpa using b);rw[this] at q;exact q
  |_=>exact q) (h a w hf d))
def p7{c:zw}{x y:Code}{t:Bool}(hc:ev L c=some (.bool t))(e:t=true->G P N x K E R L F H)(hf:t=false->G P N y K E R L F H):
  G P N (.cond c x y) K E R L F H:=fun a w b d=>
 wp_cond_split (b.eval hc) (fun h=>e h a w b d) (fun h=>hf h a w b d)
def jl{c:zw}{x y:Code}(hc:ev L c=some (.bool true))(h:G P N x K E R L F H):G P N (.cond c x y) K E R L F H:=fun a w b d=>
 wp_cond_true (b.eval hc) (h a w b d)
def jo{c:zw}{x y:Code}(hc:ev L c=some (.bool false))(h:G P N y K E R L F H):G P N (.cond c x y) K E R L F H:=fun a w b d=>
 wp_cond_false (b.eval hc) (h a w b d)
def U2{id:Nat}{l:List Oper}(h:GL P N l.toArray l K E R L F H):G P N (.region id l.toArray false) K E R L F H:=fun a w hf b=>
 wp_region_lit (h a w hf b)
def G5{ops:Array Oper}(h:At N K L F H):GL P N ops [] K E R L F H:=fun a w hf b=>wpList_nil (h a w hf b)
def o8{ι:Type}{c:Code}(f:ι->Prop)(m:ι->G9)(HI:ι->List As)(μ:ι->Nat)(i0:ι)(C:f i0)(D:fE (m i0) L)(hH:∀w,Hp F w H->Hp F w (HI i0))(round:∀i,f i->G P N c (fun a w=>∃j,f j/\μ j<μ i/\H5 N (m j) a/\Hp F w (HI j)) E R (m i) F (HI i)):G P N (.loop c) K E R L F H:=by
 intro a w hf s b k t;have u:∀n i a w,μ i=n->f i->H5 N (m i) a->Hp F w (HI i)->
   ∃e o p,MQ K E R e o p/\Arrives P (lone (b.at a (.code c::.inLoop c::k)) t w) b k t e o p:=by
  intro n
  induction n using Nat.strongRecOn with
  |_ n ih=>
   intro i a w J hp hf s;obtain⟨e,q,r,g,d⟩:=round i hp a w hf s b (.inLoop c::k) t
   cases e with
   |normal=>
    obtain⟨j,M,v,y,z⟩:=g;obtain⟨O,Q,S,A,h⟩:=ih (μ j) (J▸v) j q r rfl M y z;exact⟨O,Q,S,A,.of_steps (Steps.trans d (.one step_inLoop)) h⟩
   |exit id=>exact⟨.exit id,q,r,g,.pass (x:=.inLoop c) rfl (fun _ _=>.inl qc) d⟩
   |goto l=>exact g.elim
   |ret=>exact⟨.ret,q,r,g,.pass (x:=.inLoop c) rfl (fun _ _=>.inl qc) d⟩
   |panic ch=>exact⟨.panic ch,q,r,g,.pass (x:=.inLoop c) rfl (fun _ _=>.inl qc) d⟩
   |outgrown=>exact g.elim
 obtain⟨e,o,p,g,d⟩:=u _ i0 a w rfl C (hf.sub D) (hH w s);exact⟨e,o,p,g,.of_steps (.one step_loop) d⟩
def l8{ι:Type}{b:ι->Prop}{c:ι->G9}{HI:ι->List As}{μ:ι->Nat}{i:ι}(j:ι)(d:b j)(e:μ j<μ i)(f:fE (c j) L)(hH:∀w,Hp F w H->Hp F w (HI j)):
  At N (fun a w=>∃j,b j/\μ j<μ i/\H5 N (c j) a/\Hp F w (HI j)) L F H:=fun a w hf g=>⟨j,d,e,hf.sub f,hH w g⟩
def dE(P:zj)(fn:Func)(F0:l9)(Post:Value->List As->Prop):A1:=fun a w=>∃v A,(results fn a.tmps).run P w=.ok v w/\Post v A/\Hp F0 w A/\a.defers=[]
end
def aM:Nat->zq->G9
 |_,[]=>[]
 |n,v::r=>(n,v)::aM (n+1) r
def lY:∀(l:zq) (n t:Nat) (v:Value),find (aM n l) t=some v->n<=t/\l[t-n]? =some v
 |[],n,t,v,h=>by simp[aM,find] at h
 |x::r,n,t,v,h=>by
  simp only[aM,find] at h
  cases e:Nat.beq n t
  ·rw[e] at h;have a:=lY r (n+1) t v h;refine⟨by omega,?_⟩;have:t-n=(t-(n+1))+1:=(by omega);rw[this];simpa using a.2
  ·rw[e] at h;have:=Qu e;subst this;simp only[cond_true,Q8] at h;subst h;exact⟨kp _,by simp⟩
def U3(N:Nat)(args:zq)(b:Nat.ble args.length N=true):H5 N (aM 0 args) {tmps:=args.toArray++Array.replicate (N-args.toArray.size) undef,defers:=[]}:=by
 have c:args.length<=N:=by simpa[J0] using b
 refine⟨rfl,by simp;omega,fun t v h=>?_⟩;have:=(lY args 0 t v h).2;simp only[Nat.sub_zero] at this;have a:t<args.length:=(Qs.1 this).1;rw[Zs (by simpa using a)];simpa using this
def b_{P:zj}{f:FuncId}{fn:Func}{c:Code}{args:zq}{d:l_->Prop}{C:List As}{b:Value->List As->Prop}(N:Nat)(hf:P.funcs[f]? =some fn)(p:fn.body=some c)(r:fn.ntmps=N)(j:Nat.ble args.length N=true)(h:∀F:l9,d F.heap->G P N c (dE P fn F b) [] (dE P fn F b) (aM 0 args) F C):Ct P f args d C b:=by
 intro w s hs t g;refine calls_of_wp hf p ?_;rw[r];have i:=h (w6 w s) g _ w (U3 N args j) (Hp.start hs t);refine Code.wp_mono (fun e a u q=>?_) i
 cases e with
 |normal=>obtain⟨v,A,i,m,n,o⟩:=q;exact⟨o,v,i,v,A,rfl,m,n⟩
 |ret=>obtain⟨v,A,i,m,n,o⟩:=q;exact⟨o,v,i,v,A,rfl,m,n⟩
 |exit id=>simp[MQ] at q
 |goto l=>exact q.elim
 |panic ch=>rcases q with⟨k,v,h,_⟩|⟨k,v,h,_⟩<;>cases h
 |outgrown=>exact q.elim
open Go Go.RowKit
class HU(P:zj)(t:zk)(d:outParam TypeDesc):Prop where
 h:P.underlying t=some d
class HS(P:zj)(t:zk)(n:outParam Nat):Prop where
 h:∀w,(sizeOf t).run P w=.ok n w
class HA(P:zj)(t:zk)(b:outParam Bool):Prop where
 h:∀w,(isAgg t).run P w=.ok b w
class HZ(P:zj)(t:zk)(v:outParam Value):Prop where
 h:∀w,(zeroValue t).run P w=.ok v w
class HI(P:zj)(t:zk)(i:outParam TypeInfo):Prop where
 h:P.info? t=some i
class HF(P:zj)(f:FuncId):Prop where
 h:∀args w,(callFunc f args).run P w=.ok (.enter f args) w
theorem Se{P:zj}{f:FuncId}{fn:Func}(hf:P.funcs[f]? =some fn)(b:fn.body.isNone=false)(c:(fn.name== "runtime.NumGoroutine")=false):HF P f:=
 ⟨fun a w=>by
  unfold callFunc;simp only[Sem.run_bind,run_program,Result.andThen_ok,hf,c,b,Kc,if_false];rfl⟩
abbrev B(l:List UInt8):Value:=.string ⟨l.toArray⟩
def N_:qr->Nat->qr
 |some a,n=>some (a.add n)
 |none,_=>none
def gw(a:Addr)(i j:Nat):(a.add i).add j=a.add (i+j):=by
 unfold Addr.add;by_cases hi:i=0<;>by_cases hj:j=0<;>simp[hi,hj,W9]
def n9(h:l_)(a:qr)(xs:zq):Prop:=xs≠[]->∃ad,a=some ad/\∀j u,xs[j]? =some u->h.cell? (ad.add j)=some u
def n9.le{h b:l_}{a:qr}{xs:zq}(r:n9 h a xs)(l:l_.le h b):n9 b a xs:=fun c=>by
 obtain⟨d,e,k⟩:=r c;exact⟨d,e,fun j u hu=>l_.cell?_le l (k j u hu)⟩
def n9.nil(h:l_)(a:qr):n9 h a []:=fun e=>absurd rfl e
def M9(h:l_)(p:qr)(cs:zq):Prop:=∃ad,p=some ad/\∀j u,cs[j]? =some u->h.cell? (ad.add j)=some u
def n9.peek{h:l_}{a:qr}{xs cs:zq}(r:n9 h a xs)(k:Nat)(b:cs≠[])(hc:∀j u,cs[j]? =some u->xs[k+j]? =some u):M9 h (N_ a k) cs:=by
 have d:xs≠[]:=by
  rintro rfl
  cases cs with
  |nil=>exact b rfl
  |cons c r=>have:=hc 0 c qc;simp at this
 obtain⟨e,rfl,f⟩:=r d;exact⟨e.add k,rfl,fun j u hu=>by rw[gw];exact f _ _ (hc j u hu)⟩
def FD(L:G9)(ρ:zw->Value):Prop:=∀x v,ev L x=some v->ρ x=v
def H5.agr{N:Nat}{L:G9}{a:Act}(h:H5 N L a):FD L a.eval:=fun _ _ b=>h.eval b
def E5(P:zj)(o:Oper)(L:G9)(v:Value):Prop:=∀ρ w,FD L ρ->(execOp ρ o).run P w=.ok (.value v) w
def dF(P:zj)(o:Oper)(L:G9)(F:l9)(H:List As)(v:Value):Prop:=∀ρ w,FD L ρ->Hp F w H->(execOp ρ o).run P w=.ok (.value v) w
section
variable{P:zj}{N:Nat}{K R:A1}{E:List (Nat×A1)}{L:G9}{F:l9}{H:List As}{ops:Array Oper}{rest:List Oper}{ty:zk}{pos:String}{af:Array Edge}{dst:Option Nat}{gd:Option (Nat×Bool)}
def T4{o:Oper}{d:Nat}(hg:o.guard=none)(b:o.dst=some d)(c:Nat.blt d N=true)(h:∀a w,H5 N L a->Hp F w H->∃v w' H',(execOp a.eval o).run P w=.ok (.value v) w'/\Hp F w' H'/\GL P N ops rest K E R ((d,v)::L) F H'):
  GL P N ops (o::rest) K E R L F H:=fun a w hf e=>by
 obtain⟨v,w',H',f,g,i⟩:=h a w hf e;refine wpList_plain hg fun k j=>?_;unfold Oper.wp;rw[f,Oper.upon_value,b];exact j _ _ (i _ _ (hf.put c v) g)
def Ay{o:Oper}{d:Nat}{v:Value}(hg:o.guard=none)(b:o.dst=some d)(f:Nat.blt d N=true)(c:∀a w,H5 N L a->Hp F w H->(execOp a.eval o).run P w=.ok (.value v) w)(h:GL P N ops rest K E R ((d,v)::L) F H):GL P N ops (o::rest) K E R L F H:=
 T4 hg b f fun a w hf e=>⟨v,w,H,c a w hf e,e,h⟩
def tE{o:Oper}(hg:o.guard=none)(b:o.dst=none)(h:∀a w,H5 N L a->Hp F w H->∃w' H',(execOp a.eval o).run P w=.ok .skip w'/\Hp F w' H'/\GL P N ops rest K E R L F H'):
  GL P N ops (o::rest) K E R L F H:=fun a w hf c=>by
 obtain⟨w',H',d,e,f⟩:=h a w hf c;refine wpList_plain hg fun i g=>?_;unfold Oper.wp;rw[d,Oper.upon_skip,b];exact g _ _ (f _ _ hf e)
def Pf{o:Oper}{d:Nat}{v:Value}(s:E5 P o L v)(hg:o.guard=none)(b:o.dst=some d)(c:Nat.blt d N=true)(h:GL P N ops rest K E R ((d,v)::L) F H):GL P N ops (o::rest) K E R L F H:=
 Ay hg b c (fun a w hf e=>s _ _ hf.agr) h
def UR{o:Oper}{d:Nat}{v:Value}(s:dF P o L F H v)(hg:o.guard=none)(b:o.dst=some d)(c:Nat.blt d N=true)(h:GL P N ops rest K E R ((d,v)::L) F H):GL P N ops (o::rest) K E R L F H:=
 Ay hg b c (fun a w hf e=>s _ _ hf.agr e) h
def aN{x:zw}{v:Value}(hx:ev L x=some v):E5 P ⟨dst,.move x,ty,pos,af,gd⟩ L (v):=
 (fun ρ w hf=>by simp[execOp,hf _ _ hx])
def vu{x:zw}{v:Value}(hx:ev L x=some v):E5 P ⟨dst,.assign x,ty,pos,af,gd⟩ L (v):=
 (fun ρ w hf=>by simp[execOp,hf _ _ hx])
section
variable{d:Nat}{x y:zw}{k:IntKind}{m n:Int}{t t':zk}
def L8{op:BinOp}{u v r:Value}(hx:ev L x=some u)(b:ev L y=some v)(a:∀w,(do eqGuard op t x y u v;binOp op t u v:Sem Value).run P w=.ok r w):E5 P ⟨dst,.binOp op t x y t',ty,pos,af,gd⟩ L (r):=
 (fun ρ w hf=>by
  have:=a w;simp only[execOp,hf _ _ hx,hf _ _ b];rw[Sem.run_bind,this];rfl)
def r8(hx:ev L x=some (.int .i64 m))(a:ev L y=some (.int .i64 n))(b: -9223372036854775808<=m+n/\m+n<=9223372036854775807):E5 P ⟨dst,.binOp .add t x y t',ty,pos,af,gd⟩ L (.int .i64 (m+n)):=
 L8 hx a (fun w=>by
  have e:IntKind.i64.wrap (m+n)=m+n:=by(rw[IntKind.wrap_i64];omega)
  simp[go_sem,Op.intArith,e])
def E7(hx:ev L x=some (.int .i64 m))(a:ev L y=some (.int .i64 n))(b: -9223372036854775808<=m-n/\m-n<=9223372036854775807):E5 P ⟨dst,.binOp .sub t x y t',ty,pos,af,gd⟩ L (.int .i64 (m-n)):=
 L8 hx a (fun w=>by
  have e:IntKind.i64.wrap (m-n)=m-n:=by(rw[IntKind.wrap_i64];omega)
  simp[go_sem,Op.intArith,e])
def CK(hx:ev L x=some (.int .i64 m))(a:ev L y=some (.int .i64 n))(b: -9223372036854775808<=m*n/\m*n<=9223372036854775807):E5 P ⟨dst,.binOp .mul t x y t',ty,pos,af,gd⟩ L (.int .i64 (m*n)):=
 L8 hx a (fun w=>by
  have e:IntKind.i64.wrap (m*n)=m*n:=by(rw[IntKind.wrap_i64];generalize m*n=q at*;omega)
  simp[go_sem,Op.intArith,e])
def L9(hx:ev L x=some (.int .u64 m))(a:ev L y=some (.int .u64 n))(b:0<=m+n/\m+n<=18446744073709551615):E5 P ⟨dst,.binOp .add t x y t',ty,pos,af,gd⟩ L (.int .u64 (m+n)):=
 L8 hx a (fun w=>by
  have e:IntKind.u64.wrap (m+n)=m+n:=by(rw[IntKind.wrap_u64];omega)
  simp[go_sem,Op.intArith,e])
def CN(hx:ev L x=some (.int .u64 m))(a:ev L y=some (.int .u64 n))(b:0<=m-n/\m-n<=18446744073709551615):E5 P ⟨dst,.binOp .sub t x y t',ty,pos,af,gd⟩ L (.int .u64 (m-n)):=
 L8 hx a (fun w=>by
  have e:IntKind.u64.wrap (m-n)=m-n:=by(rw[IntKind.wrap_u64];omega)
  simp[go_sem,Op.intArith,e])
def rH(hx:ev L x=some (.int .u64 m))(a:ev L y=some (.int .u64 n))(b:0<=m*n/\m*n<=18446744073709551615):E5 P ⟨dst,.binOp .mul t x y t',ty,pos,af,gd⟩ L (.int .u64 (m*n)):=
 L8 hx a (fun w=>by
  have e:IntKind.u64.wrap (m*n)=m*n:=by(rw[IntKind.wrap_u64];generalize m*n=q at*;omega)
  simp[go_sem,Op.intArith,e])
def CO(hx:ev L x=some (.int k m))(a:ev L y=some (.int k n)):E5 P ⟨dst,.binOp .add t x y t',ty,pos,af,gd⟩ L (.int k (k.wrap (m+n))):=
 L8 hx a (fun w=>by simp[go_sem,Op.intArith])
def CP(hx:ev L x=some (.int k m))(a:ev L y=some (.int k n)):E5 P ⟨dst,.binOp .sub t x y t',ty,pos,af,gd⟩ L (.int k (k.wrap (m-n))):=
 L8 hx a (fun w=>by simp[go_sem,Op.intArith])
def CQ(hx:ev L x=some (.int k m))(a:ev L y=some (.int k n)):E5 P ⟨dst,.binOp .mul t x y t',ty,pos,af,gd⟩ L (.int k (k.wrap (m*n))):=
 L8 hx a (fun w=>by simp[go_sem,Op.intArith])
def lh{op:BinOp}(a:op=.and\/op=.or\/op=.xor\/op=.andNot)(hx:ev L x=some (.int k m))(b:ev L y=some (.int k n)):E5 P ⟨dst,.binOp op t x y t',ty,pos,af,gd⟩ L (.int k (bits op k m n)):=
 L8 hx b (fun w=>by rcases a with rfl|rfl|rfl|rfl<;>simp[go_sem])
def CR(hx:ev L x=some (.int .i64 m))(b:ev L y=some (.int .i64 n))(a:0<=m/\m<=9223372036854775807/\0<n):E5 P ⟨dst,.binOp .quo t x y t',ty,pos,af,gd⟩ L (.int .i64 (m/n)):=
 L8 hx b (fun w=>by
  have c:n≠0:=by omega
  have d:m.tdiv n=m/n:=by rw[Int.tdiv_eq_ediv_of_nonneg a.1]
  have f:0<=m/n:=Int.ediv_nonneg a.1 qb;have g:m/n<=m:=Int.ediv_le_self _ a.1;have e:IntKind.i64.wrap (m/n)=m/n:=by(rw[IntKind.wrap_i64];generalize m/n=q at*;omega)
  simp[go_sem,Op.intDiv,c,d,e])
def CS(hx:ev L x=some (.int k m))(b:ev L y=some (.int k n))(a:0<=m/\n≠0):E5 P ⟨dst,.binOp .rem t x y t',ty,pos,af,gd⟩ L (.int k (m%n)):=
 L8 hx b (fun w=>by
  have c:m.tmod n=m%n:=by rw[Int.tmod_eq_emod_of_nonneg a.1]
  simp[go_sem,Op.intDiv,a.2,c])
def Az{a:IntKind}(hx:ev L x=some (.int k m))(b:ev L y=some (.int a n))(c:0<=n):E5 P ⟨dst,.binOp .shl t x y t',ty,pos,af,gd⟩ L (.int k (k.wrap (m*2^(min n.toNat k.bits)))):=
 L8 hx b (fun w=>by
  have:¬n<0:=by omega
  simp[eqGuard_shl,binOp_shl,Op.shift,this])
def Om{a:IntKind}(hx:ev L x=some (.int k m))(b:ev L y=some (.int a n))(c:0<=n):E5 P ⟨dst,.binOp .shr t x y t',ty,pos,af,gd⟩ L (.int k (m.fdiv (2^(min n.toNat k.bits)))):=
 L8 hx b (fun w=>by
  have:¬n<0:=by omega
  simp[eqGuard_shr,binOp_shr,Op.shift,this])
def F8(hx:ev L x=some (.int k m))(a:ev L y=some (.int k n)):E5 P ⟨dst,.binOp .lss t x y t',ty,pos,af,gd⟩ L (.bool (decide (m<n))):=
 L8 hx a (fun w=>by simp[go_sem])
def H4(hx:ev L x=some (.int k m))(a:ev L y=some (.int k n)):E5 P ⟨dst,.binOp .leq t x y t',ty,pos,af,gd⟩ L (.bool (decide (m<=n))):=
 L8 hx a (fun w=>by simp[go_sem])
def E9(hx:ev L x=some (.int k m))(a:ev L y=some (.int k n)):E5 P ⟨dst,.binOp .gtr t x y t',ty,pos,af,gd⟩ L (.bool (decide (n<m))):=
 L8 hx a (fun w=>by simp[go_sem])
def K_(hx:ev L x=some (.int k m))(a:ev L y=some (.int k n)):E5 P ⟨dst,.binOp .geq t x y t',ty,pos,af,gd⟩ L (.bool (decide (n<=m))):=
 L8 hx a (fun w=>by simp[go_sem])
def q_(hx:ev L x=some (.int k m))(a:ev L y=some (.int k n)):E5 P ⟨dst,.binOp .eql t x y t',ty,pos,af,gd⟩ L (.bool (decide (m=n))):=
 L8 hx a (fun w=>by simp[go_sem,BEq.beq])
def M2(hx:ev L x=some (.int k m))(a:ev L y=some (.int k n)):E5 P ⟨dst,.binOp .neq t x y t',ty,pos,af,gd⟩ L (.bool (!decide (m=n))):=
 L8 hx a (fun w=>by simp[go_sem,bne,BEq.beq])
def Sf(hx:ev L x=some (.int .i64 m))(a: -9223372036854775808<m/\m<=9223372036854775807):E5 P ⟨dst,.unOp .neg t x,ty,pos,af,gd⟩ L (.int .i64 (-m)):=
 (fun ρ w hf=>by
  have e:IntKind.i64.wrap (-m)= -m:=by rw[IntKind.wrap_i64];omega
  simp[execOp,hf _ _ hx,Op.unary,Op.intArith,e])
def On(hx:ev L x=some (.int k m)):E5 P ⟨dst,.unOp .xor t x,ty,pos,af,gd⟩ L (.int k (bits .xor k (if k.signed then-1 else k.max) m)):=
 (fun ρ w hf=>by simp only[execOp,hf _ _ hx,Op.unary,intBits_xor];rfl)
def Sg{b:Bool}(hx:ev L x=some (.bool b)):E5 P ⟨dst,.unOp .not t x,ty,pos,af,gd⟩ L (.bool (!b)):=
 (fun ρ w hf=>by simp[execOp,hf _ _ hx,Op.unary])
def eP{b:IntKind}{a:TypeDesc}[hs:HU P t a][ht:HU P t' (.int b)](hx:ev L x=some (.int k m)):E5 P ⟨dst,.convert t t' x,ty,pos,af,gd⟩ L (.int b (b.wrap m)):=
 (fun ρ w hf=>by simp[execOp,hf _ _ hx,convert,run_underlying hs.h,run_underlying ht.h,Conv.intToInt])
def iD[hu:HU P t .bool]{p q:Bool}(hx:ev L x=some (.bool p))(a:ev L y=some (.bool q)):E5 P ⟨dst,.binOp .eql t x y t',ty,pos,af,gd⟩ L (.bool (p==q)):=
 L8 hx a (fun w=>by rw[eqGuard_at_bool];exact run_eql_bool w t p q hu.h)
def oe[hu:HU P t .bool]{p q:Bool}(hx:ev L x=some (.bool p))(a:ev L y=some (.bool q)):E5 P ⟨dst,.binOp .neq t x y t',ty,pos,af,gd⟩ L (.bool (!(p==q))):=
 L8 hx a (fun w=>by rw[eqGuard_at_bool];exact run_neq_bool w t p q hu.h)
variable{l l':List UInt8}
def C9(hx:ev L x=some (B l))(a:ev L y=some (B l')):E5 P ⟨dst,.binOp .eql t x y t',ty,pos,af,gd⟩ L (.bool (decide (l=l'))):=
 L8 hx a (fun w=>by
  have e:(l==l')=decide (l=l'):=by(rw[Z5];simp)
  simp only[eqGuard_at_string,binOp_string_eql,ByteArray.toList_mk,e];rfl)
def F7(hx:ev L x=some (B l))(a:ev L y=some (B l')):E5 P ⟨dst,.binOp .neq t x y t',ty,pos,af,gd⟩ L (.bool (!decide (l=l'))):=
 L8 hx a (fun w=>by
  have e:(l==l')=decide (l=l'):=by(rw[Z5];simp)
  simp only[eqGuard_at_string,binOp_string_neq,ByteArray.toList_mk,e];rfl)
def H_(hx:ev L x=some (B l))(a:ev L y=some (B l'))(d:l.length+l'.length<=9223372036854775807):E5 P ⟨dst,.binOp .add t x y t',ty,pos,af,gd⟩ L (B (l++l')):=
 L8 hx a (fun w=>by
  have b:¬(((⟨l.toArray⟩:ByteArray).size+(⟨l'.toArray⟩:ByteArray).size:Nat):Int)>IntKind.i64.max:=by
   rw[IntKind.max_i64];simp only[ByteArray.size,List.size_toArray];omega
  have c:(⟨l.toArray⟩:ByteArray)++⟨l'.toArray⟩=⟨(l++l').toArray⟩:=by
   apply ByteArray.ext;simp
  simp only[eqGuard_add,binOp,Op.stringOp,zb b,c];rfl)
def CT[hu:HU P t .string](hx:ev L x=some (B l)):E5 P ⟨dst,.call ⟨.builtin .len,#[x],#[t]⟩,ty,pos,af,gd⟩ L (.int .i64 (l.length:Nat)):=
 (fun ρ w hf=>by
  have hs:(⟨l.toArray⟩:ByteArray).size=l.length:=by simp[ByteArray.size]
  simp[execOp,resolve,invoke,builtin,Builtin.len_,hf _ _ hx,run_underlying hu.h,goInt,hs])
def B5[hu:HU P t .string](hx:ev L x=some (B l))(b:ev L y=some (.int k n))(c:0<=n/\n<l.length):E5 P ⟨dst,.index t x y,ty,pos,af,gd⟩ L (.int .u8 ((l.getD n.toNat 0).toNat:Nat)):=
 (fun ρ w hf=>by
  have a:n.toNat<l.length:=by omega
  have e:(⟨l.toArray⟩:ByteArray)[n.toNat]? =some (l.getD n.toNat 0):=by
   have d:n.toNat<(⟨l.toArray⟩:ByteArray).size:=(by simpa[ByteArray.size] using a);rw[getElem?_pos (⟨l.toArray⟩:ByteArray) n.toNat d];congr 1;show l.toArray[n.toNat]=_;simp[a]
  simp[execOp,Instr.index,hf _ _ hx,hf _ _ b,asIntOf,run_underlying hu.h,c.1,e])
def CU(l:List UInt8)(a b:Nat):(⟨l.toArray⟩:ByteArray).extract a b=⟨((l.drop a).take (b-a)).toArray⟩:=by
 apply ByteArray.ext;apply Zv.1;rw[Lib.extract_data]
def CV(L:G9):Option zw->Int->Option Int
 |none,dflt=>some dflt
 |some o,_=>match ev L o with
  |some (.int _ n)=>some n
  |_=>none
def I2{lo c:Option zw}{i j:Int}[hu:HU P t .string](hx:ev L x=some (B l))(b:CV L lo 0=some i)(a:CV L c l.length=some j)(d:0<=i/\i<=j/\j<=l.length):E5 P ⟨dst,.slice t x lo c none,ty,pos,af,gd⟩ L (B ((l.drop i.toNat).take (j.toNat-i.toNat))):=
 (fun ρ w hf=>by
  have hs:(⟨l.toArray⟩:ByteArray).size=l.length:=by simp[ByteArray.size]
  have h:∀(o:zw) (q:Int),(match ev L o with|some (.int _ n)=>some n|_=>none)=some q->∃kk,ρ o=.int kk q:=by
   intro o q f
   cases e:ev L o with
   |none=>rw[e] at f;cases f
   |some u=>rw[e] at f;cases u<;>simp at f;subst f;exact⟨_,hf _ _ e⟩
  have k:(Instr.sliceBounds false l.length l.length (lo.map ρ) (c.map ρ) none).run P w=.ok (i.toNat,j.toNat,l.length) w:=by
   cases lo with
   |none=>
    simp only[CV,Q8] at b;subst b
    cases c with
    |none=>
     simp only[CV,Q8] at a;subst a;simp[Instr.sliceBounds]
    |some o=>
     obtain⟨kk,m⟩:=h o j a;simp[Instr.sliceBounds,Instr.sliceBound,m,asIntOf,d.2.2,show 0<=j from by omega]
   |some o2=>
    obtain⟨p,g⟩:=h o2 i b
    cases c with
    |none=>
     simp only[CV,Q8] at a;subst a;simp[Instr.sliceBounds,Instr.sliceBound,g,asIntOf,d.1,d.2.1]
    |some o=>
     obtain⟨kk,m⟩:=h o j a;have r:¬max j 0<i:=(by omega);simp[Instr.sliceBounds,Instr.sliceBound,m,g,asIntOf,d.1,d.2.2,r,show 0<=j from by omega]
  simp[execOp,Instr.sliceAt,Instr.slice,hf _ _ hx,run_underlying hu.h,hs,k,CU])
end
end
open Go Go.RowKit
def a2K:Value->qr
 |.slice a _ _=>a
 |_=>none
section
variable{P:zj}{N:Nat}{K R:A1}{E:List (Nat×A1)}{L:G9}{F:l9}{H:List As}{ops:Array Oper}{rest:List Oper}{ty:zk}{pos:String}{af:Array Edge}{dst:Option Nat}{gd:Option (Nat×Bool)}
variable{d:Nat}{x y:zw}{t t':zk}
def yh{a0:Addr}(hx:ev L x=some (.pointer (some a0))):E5 P ⟨dst,.nilCheck x,ty,pos,af,gd⟩ L (.pointer (some a0)):=
 (fun ρ w hf=>by simp[execOp,hf _ _ hx])
def tF{a0:qr}{k:Nat}(hx:ev L x=some (.pointer (N_ a0 k)))(hs:∃a,a0=some a):E5 P ⟨dst,.nilCheck x,ty,pos,af,gd⟩ L (.pointer (N_ a0 k)):=
 (fun ρ w hf=>by
  obtain⟨a,rfl⟩:=hs;simp[execOp,hf _ _ hx,N_])
def vx{fs:Array Field}{nm e f:String}{d:zk}{a g:Nat}{h:Bool}{i b o n:Nat}[hu:HU P t (.struct fs)](hx:ev L x=some (.pointer (some ⟨b,o,none⟩)))(c:fs[i]? =some ⟨nm,d,a,h,e,f,g⟩)(hs:HS P d n)(j:n≠0):E5 P ⟨dst,.fieldAddr t x i,ty,pos,af,gd⟩ L (.pointer (some ⟨b,o+a,none⟩)):=
 (fun ρ w hf=>by
  have:(⟨b,o,none⟩:Addr).add a=⟨b,o+a,none⟩:=Addr.add_lit _ _ _;simp[execOp,Instr.fieldAt,fieldPlace,Instr.sureAddr,hf _ _ hx,run_underlying hu.h,c,hs.h,j,this])
def qZ{fs:Array Field}{nm e f:String}{c:zk}{a g:Nat}{h:Bool}{i k n:Nat}{a0:qr}[hu:HU P t (.struct fs)](hx:ev L x=some (.pointer (N_ a0 k)))(j:∃d,a0=some d)(b:fs[i]? =some ⟨nm,c,a,h,e,f,g⟩)(hs:HS P c n)(l:n≠0):E5 P ⟨dst,.fieldAddr t x i,ty,pos,af,gd⟩ L (.pointer (N_ a0 (k+a))):=
 (fun ρ w hf=>by
  obtain⟨d,rfl⟩:=j;simp[execOp,Instr.fieldAt,fieldPlace,Instr.sureAddr,hf _ _ hx,run_underlying hu.h,b,hs.h,l,N_,gw])
def bL{k:IntKind}{n:Int}{b o len e sz:Nat}[hu:HU P t (.array len e)][hs:HS P e sz](hx:ev L x=some (.pointer (some ⟨b,o,none⟩)))(c:ev L y=some (.int k n))(a:0<=n/\n<len):E5 P ⟨dst,.indexAddr t x y,ty,pos,af,gd⟩ L (.pointer (some ⟨b,o+n.toNat*sz,none⟩)):=
 (fun ρ w hf=>by
  have:(⟨b,o,none⟩:Addr).add (n.toNat*sz)=⟨b,o+n.toNat*sz,none⟩:=Addr.add_lit _ _ _;simp[execOp,Instr.indexAt,Instr.sureAddr,asIntOf,hf _ _ hx,hf _ _ c,run_underlying hu.h,hs.h,a.1,a.2,this])
def n5{k:IntKind}{n:Int}{a0:qr}{len c e sz:Nat}[hu:HU P t (.slice e)][hs:HS P e sz](hx:ev L x=some (.slice a0 len c))(d:∃a,a0=some a)(f:ev L y=some (.int k n))(b:0<=n/\n<len):E5 P ⟨dst,.indexAddr t x y,ty,pos,af,gd⟩ L (.pointer (N_ a0 (n.toNat*sz))):=
 (fun ρ w hf=>by
  obtain⟨a,rfl⟩:=d;simp[execOp,Instr.indexAt,asIntOf,hf _ _ hx,hf _ _ f,run_underlying hu.h,hs.h,b.1,b.2,N_])
def E2{w:World}{a:Addr}{cs:zq}(h:∀j u,cs[j]? =some u->(hp w).cell? (a.add j)=some u):(loadCells a cs.length).run P w=.ok cs.toArray w:=
 run_loadCells_list (P:=P) w a cs h
def l5{p:qr}{v:Value}[ha:HA P t false](hx:ev L x=some (.pointer p))(D3:∀w,Hp F w H->M9 (hp w) p [v]):dF P ⟨dst,.load t x,ty,pos,af,gd⟩ L F H (v):=
 (fun ρ w hf b=>by
  obtain⟨c,rfl,hc⟩:=D3 w b;have a:=hc 0 v qc;rw[vt] at a;have d:w.cell? c=some v:=by simpa[Addr.add] using a
  simp[execOp,Instr.loadAt,Instr.sureAddr,loadVar,hf _ _ hx,ha.h,d])
def p9{p:qr}{cs:zq}{n:Nat}[ha:HA P t true][hs:HS P t n](hx:ev L x=some (.pointer p))(D3:∀w,Hp F w H->M9 (hp w) p cs)(a:cs.length=n):dF P ⟨dst,.load t x,ty,pos,af,gd⟩ L F H (.agg cs.toArray):=
 (fun ρ w hf b=>by
  obtain⟨d,rfl,hc⟩:=D3 w b;have c:=E2 (P:=P) hc;subst a;simp[execOp,Instr.loadAt,Instr.sureAddr,loadVar,hf _ _ hx,ha.h,hs.h,c])
def Hp.blk{w:World}{b:Nat}{o:Obj}{a H':List As}(c:Hp F w H)(u:N1 H (.blk b o) a H'):w.heap[b]? =some o:=by
 obtain⟨e,⟨_,d⟩,_⟩:=c.focus u;exact d
def vy{w:World}{b o:Nat}{cs:Array Value}{te:zk}{fr:Nat×Nat}{c H':List As}{v:Value}(d:Hp F w H)(u:N1 H (.blk b (.cells cs te fr)) c H')(hv:cs[o]? =some v):M9 (hp w) (some ⟨b,o,none⟩) [v]:=
 ⟨_,rfl,fun j q a=>by
  match j,a with
  |0,a=>
   simp at a;subst a;have:=d.blk u;simp[l_.cell?,hp,Addr.add,this,hv]⟩
def sl(cs:Array Value)(o n:Nat):zq:=(cs.toList.drop o).take n
def Y9{w:World}{b o n:Nat}{cs:Array Value}{te:zk}{fr:Nat×Nat}{c H':List As}(d:Hp F w H)(u:N1 H (.blk b (.cells cs te fr)) c H'):M9 (hp w) (some ⟨b,o,none⟩) (sl cs o n):=
 ⟨_,rfl,fun j q a=>by
  have:=d.blk u;have e:(⟨b,o,none⟩:Addr).add j=⟨b,o+j,none⟩:=Addr.add_lit _ _ _;rw[e];simp only[sl,Wn] at a;split at a
  ·rw[Zc] at a;simp[l_.cell?,hp,this];simpa using a
  ·cases a⟩
def G0{b o:Nat}{cs:Array Value}{te:zk}{fr:Nat×Nat}{v:Value}{H':List As}[ha:HA P t false](hx:ev L x=some (.pointer (some ⟨b,o,none⟩)))(u:N1 H (.blk b (.cells cs te fr)) [] H')(hv:cs[o]? =some v):dF P ⟨dst,.load t x,ty,pos,af,gd⟩ L F H (v):=
 l5 hx (fun w a=>vy a u hv)
def fF{b o n:Nat}{cs:Array Value}{te:zk}{fr:Nat×Nat}{H':List As}[ha:HA P t true][hs:HS P t n](hx:ev L x=some (.pointer (some ⟨b,o,none⟩)))(u:N1 H (.blk b (.cells cs te fr)) [] H')(hv:Nat.ble (o+n) cs.size=true):dF P ⟨dst,.load t x,ty,pos,af,gd⟩ L F H (.agg (sl cs o n).toArray):=
 p9 hx (fun w a=>Y9 (n:=n) a u) (by
  have:o+n<=cs.size:=by simpa[J0] using hv
  simp[sl];omega)
def eQ(cs:Array Value)(o:Nat)(vs:zq):Array Value:=(cs.toList.take o++vs++cs.toList.drop (o+vs.length)).toArray
def L1{b o n:Nat}{cs:Array Value}{te:zk}{v:Value}{H':List As}[hs:HS P t n](hx:ev L x=some (.pointer (some ⟨b,o,none⟩)))(i:ev L y=some v)(u:N1 H (.blk b (.cells cs te (0,0))) [.blk b (.cells (eQ cs o v.cells.toList) te (0,0))] H')(g:v.cells.size=n)(j:∀q∈v.cells.toList,q.oneCell'=true)(l:o+n<=cs.size)(h:GL P N ops rest K E R L F H'):GL P N ops (⟨none,.store t x y,ty,pos,af,none⟩::rest) K E R L F H:=
 tE rfl rfl fun a w hf m=>by
  obtain⟨r,⟨rfl,d⟩,_,p,k⟩:=m.focus u;have e:=run_storeCells_at P b o te v.cells.toList 0 cs w d (by simp[g];omega) j;simp only[Zk] at e;refine⟨w.setRow b (eQ cs o v.cells.toList),H',?_,?_,h⟩
  ·simp[execOp,Instr.storeAt,Instr.sureAddr,storeVar,hf.eval hx,hf.eval i,hs.h,g,e,eQ]
  ·refine k _ [b] rfl rfl rfl (fun c hc f=>setRow_other w b c _ (by simpa using f)) ⟨[b],[],rfl,⟨rfl,setRow_heap w b cs _ te _ d⟩,rfl⟩ qc (fun c hc=>.inl hc)
def U7{b o n:Nat}{cs:Array Value}{te:zk}{v:Value}{H':List As}[hs:HS P t n](hx:ev L x=some (.pointer (some ⟨b,o,none⟩)))(a:ev L y=some v)(u:N1 H (.blk b (.cells cs te (0,0))) [.blk b (.cells (eQ cs o v.cells.toList) te (0,0))] H')(c:v.cells.size=n)(d:∀q∈v.cells.toList,q.oneCell'=true)(hv:Nat.ble (o+n) cs.size=true)(h:GL P N ops rest K E R L F H'):GL P N ops (⟨none,.store t x y,ty,pos,af,none⟩::rest) K E R L F H:=
 L1 hx a u c d (by simpa[J0] using hv) h
def vz{z:Value}[hz:HZ P t z](b:Nat.blt d N=true)(h:∀g,GL P N ops rest K E R ((d,.pointer (some ⟨g,0,none⟩))::L) F (.blk g (.cells z.cells t)::H)):
  GL P N ops (⟨some d,.alloc t,ty,pos,af,none⟩::rest) K E R L F H:=
 T4 rfl rfl b fun a w hf c=>⟨_,w.alloc (.cells z.cells t),_,by simp[execOp,Instr.alloc,hz.h,newVar,newRow],c.alloc _,h _⟩
def FE{v:Value}(hx:ev L x=some v)(b:Nat.blt d N=true)(h:∀g,GL P N ops rest K E R ((d,.pointer (some ⟨g,0,none⟩))::L) F (.blk g (.cells v.cells t)::H)):
  GL P N ops (⟨some d,.box t x,ty,pos,af,none⟩::rest) K E R L F H:=
 T4 rfl rfl b fun a w hf c=>⟨_,w.alloc (.cells v.cells t),_,by simp[execOp,Instr.box,newVar,newRow,hf.eval hx],c.alloc _,h _⟩
def AA(L:G9):List (Nat×zw)->Option (List (Nat×Value))
 |[]=>some []
 |(i,x)::r=>match ev L x,AA L r with
  |some v,some vs=>some ((i,v)::vs)
  |_,_=>none
def jt{ρ:zw->Value}(hf:FD L ρ):∀{ps:List (Nat×zw)} {vs:List (Nat×Value)},AA L ps=some vs->(ps.map fun(i,x)=>(i,ρ x))=vs
 |[],vs,h=>by simp[AA] at h;subst h;rfl
 |(i,x)::r,vs,h=>by
  simp only[AA] at h
  cases e:ev L x with
  |none=>rw[e] at h;simp at h
  |some v=>
   cases e2:AA L r with
   |none=>rw[e,e2] at h;simp at h
   |some us=>
    rw[e,e2] at h;simp at h;subst h;simp only[Q2,hf _ _ e];rw[<-jt hf e2]
def db{ps:List (Nat×zw)}{vs:List (Nat×Value)}{v:Value}(hx:AA L ps=some vs)(a:∀w,(Instr.build t vs.toArray).run P w=.ok v w):E5 P ⟨dst,.build t ps.toArray,ty,pos,af,gd⟩ L (v):=
 (fun ρ w hf=>by
  have:=jt hf hx;simp only[execOp,Zr];rw[this,Sem.run_bind,a w];rfl)
def li{fs:Array Field}{z:Value}{a:List (Nat×Nat)}{vs:List (Nat×Value)}{cells:Array Value}[hu:HU P t (.struct fs)][hz:HZ P t z](hp:fs.toList.map (fun f=>(f.offset,P.cellsOf f.type))=a)(g:∀f∈fs.toList,(P.info? f.type).isSome=true)(d:Instr.fill (a[·]?) z.cells vs=some cells)(w:World):(Instr.build t vs.toArray).run P w=.ok (.agg cells) w:=by
 have h:∀(l:List Field) (c:Array (Nat×Nat)),(∀f∈l,(P.info? f.type).isSome=true)->
   (l.foldlM (fun(m:Array (Nat×Nat)) (f:Field)=>do let b<-(do pure (f.offset,<-sizeOf f.type):Sem (Nat×Nat));pure (m.push b)) c).run P w=.ok (c++(l.map (fun f:Field=>(f.offset,P.cellsOf f.type))).toArray) w:=by
  intro l
  induction l with
  |nil=>intro c _;simp
  |cons f r ih=>
   intro c k;obtain⟨i,n⟩:=Z4.1 (k f qc);have o:(sizeOf f.type).run P w=.ok (P.cellsOf f.type) w:=(by simp[sizeOf,typeInfo,n,Program.cellsOf]);simp only[List.foldlM_cons,Sem.run_bind,o,Result.andThen_ok,Sem.run_pure];rw[ih _ (fun f hf=>k f (by simp[hf]))];simp
 have p:(fs.mapM (fun f=>do pure (f.offset,<-sizeOf f.type):Field->Sem (Nat×Nat))).run P w=.ok a.toArray w:=by
  rw[Array.mapM_eq_foldlM,<-Array.foldlM_toList];have:=h fs.toList #[] g;rw[hp] at this;simpa using this
 have j:=hz.h w;simp only[Instr.build,Sem.run_bind,j,Result.andThen_ok,run_underlying hu.h,p];have e:(fun i:Nat=>a.toArray[i]?)=fun i:Nat=>a[i]?:=by funext i;simp
 rw[e];simp[d]
end
open Go Go.RowKit
def rI(L:G9):List zw->Option (zq)
 |[]=>some []
 |x::r=>match ev L x,rI L r with
  |some v,some vs=>some (v::vs)
  |_,_=>none
def bt{L:G9}{ρ:zw->Value}(hf:FD L ρ):∀{ps:List zw} {vs:zq},rI L ps=some vs->ps.map ρ=vs
 |[],vs,h=>by simp[rI] at h;subst h;rfl
 |x::r,vs,h=>by
  simp only[rI] at h
  cases e:ev L x with
  |none=>rw[e] at h;simp at h
  |some v=>
   cases e2:rI L r with
   |none=>rw[e,e2] at h;simp at h
   |some us=>
    rw[e,e2] at h;simp at h;subst h;simp only[Q2,hf _ _ e];rw[bt hf e2]
section
variable{P:zj}{N:Nat}{K R:A1}{E:List (Nat×A1)}{L:G9}{F:l9}{H:List As}{ops:Array Oper}{rest:List Oper}{ty:zk}{pos:String}{af:Array Edge}{dst:Option Nat}{gd:Option (Nat×Bool)}
def vA{o:Oper}{d:Nat}{f:FuncId}{vs:zq}{g:l_->Prop}{C Rr:List As}{c:Value->List As->Prop}(hg:o.guard=none)(n:o.dst=some d)(D:Nat.blt d N=true)(p:∀ρ w,FD L ρ->(execOp ρ o).run P w=.ok (.enter f vs.toArray) w)(hc:Ct P f vs g C c)(hH:∀w,Hp F w H->Hp F w (C++Rr))(q:∀h,l_.le F.heap h->(∃bs,A_ h Rr bs)->g h)(h:∀v A,c v A->GL P N ops rest K E R ((d,v)::L) F (A++Rr)):GL P N ops (o::rest) K E R L F H:=fun a w hf J=>by
 have i:=hH w J;obtain⟨bs,hs,x,r⟩:=i.own;obtain⟨u,M,e,s,t⟩:=A_.split hs;subst e;have j:g (F6 w u):=by
  refine q _ (fun b O k=>?_) ⟨M,A_.same t fun b y=>?_⟩
  ·have Q:=i.keep b O k;have z:b∉u:=fun y=>(by rw[r b (by simp[y])] at k;cases k);simpa[F6,z,hp] using Q
  ·have z:b∉u:=fun hc=>(Qg.1 x).2.2 b hc b y rfl;simp[F6,z,hp]
 refine wpList_plain hg fun T S=>?_;unfold Oper.wp;rw[p _ w hf.agr,Oper.upon_enter];refine(hc w u s (Qg.1 x).1 j).mono ?_;rintro e U ⟨v,A,rfl,l,m⟩;rw[n];exact S _ _ (h v A l _ _ (hf.put D v) (i.back s t x r m))
def bu{ρ:zw->Value}{f:FuncId}{args:List zw}{a:Array zk}{vs:zq}[hF:HF P f](hx:rI L args=some vs)(hf:FD L ρ)(w:World):
  (execOp ρ ⟨dst,.call ⟨.value (.func f),args.toArray,a⟩,ty,pos,af,gd⟩).run P w=.ok (.enter f vs.toArray) w:=by
 have e:ρ (.func f)=.func (.func f) #[] #[]:=hf _ _ rfl;have b:=bt hf hx;simp only[execOp,resolve,e,Deferred.ofValue,Zr,b,Sem.run_bind,Sem.run_pure,Result.andThen_ok,invoke];have:(#[]++vs.toArray++#[]:Array Value)=vs.toArray:=by simp
 rw[this];exact hF.h _ w
def y5{d:Nat}{f:FuncId}{args:List zw}{e:Array zk}{vs:zq}{b:l_->Prop}{C:List As}{a:Value->List As->Prop}[HF P f](Rr:List As)(hx:rI L args=some vs)(hc:Ct P f vs b C a)(hH:∀w,Hp F w H->Hp F w (C++Rr))(c:∀h,l_.le F.heap h->(∃bs,A_ h Rr bs)->b h)(g:Nat.blt d N=true)(h:∀v A,a v A->GL P N ops rest K E R ((d,v)::L) F (A++Rr)):GL P N ops (⟨some d,.call ⟨.value (.func f),args.toArray,e⟩,ty,pos,af,none⟩::rest) K E R L F H:=
 vA rfl rfl g (fun ρ w hf=>bu hx hf w) hc hH c h
def c_{d:Nat}{f:FuncId}{args:List zw}{c:Array zk}{vs:zq}{a:l_->Prop}{v:Value}[HF P f](hx:rI L args=some vs)(hc:Pu P f vs a v)(b:∀h,l_.le F.heap h->(∃bs,A_ h H bs)->a h)(e:Nat.blt d N=true)(h:GL P N ops rest K E R ((d,v)::L) F H):GL P N ops (⟨some d,.call ⟨.value (.func f),args.toArray,c⟩,ty,pos,af,none⟩::rest) K E R L F H:=
 y5 H hx hc (fun w g=>g) b e (by rintro v A ⟨rfl,rfl⟩;exact h)
def m6{fn:Func}{b:Value->List As->Prop}(c:fn.results=#[])(A:List As)(hp:b (.tuple #[]) A)(d:∀w,Hp F w H->Hp F w A):At N (dE P fn F b) L F H:=fun a w hf e=>
 ⟨_,A,results_none c _ _ _,hp,d w e,hf.defers⟩
def d_{fn:Func}{b:Value->List As->Prop}{t:Nat}{v:Value}(c:fn.results=#[.tmp t])(hv:find L t=some v)(A:List As)(hp:b v A)(d:∀w,Hp F w H->Hp F w A):At N (dE P fn F b) L F H:=fun a w hf e=>
 ⟨_,A,results_tmp c _ _ _,by rw[show a.tmps.getD t undef=v from hf.eval (x:=.tmp t) hv];exact hp,d w e,hf.defers⟩
def w8{fn:Func}{b:Value->List As->Prop}{t u:Nat}{v v2:Value}(d:fn.results=#[.tmp t,.tmp u])(hv:find L t=some v)(c:find L u=some v2)(A:List As)(hp:b (.tuple #[v,v2]) A)(e:∀w,Hp F w H->Hp F w A):At N (dE P fn F b) L F H:=fun a w hf f=>
 ⟨_,A,results_tmp2 d _ _ _,by rw[show a.tmps.getD t undef=v from hf.eval (x:=.tmp t) hv,show a.tmps.getD u undef=v2 from hf.eval (x:=.tmp u) c];exact hp,e w f,hf.defers⟩
def de{fn:Func}{b:Value->List As->Prop}{t u r:Nat}{v v2 v3:Value}(e:fn.results=#[.tmp t,.tmp u,.tmp r])(hv:find L t=some v)(c:find L u=some v2)(d:find L r=some v3)(A:List As)(hp:b (.tuple #[v,v2,v3]) A)(f:∀w,Hp F w H->Hp F w A):At N (dE P fn F b) L F H:=fun a w hf g=>
 ⟨_,A,results_tmp3 e _ _ _,by rw[show a.tmps.getD t undef=v from hf.eval (x:=.tmp t) hv,show a.tmps.getD u undef=v2 from hf.eval (x:=.tmp u) c,show a.tmps.getD r undef=v3 from hf.eval (x:=.tmp r) d];exact hp,f w g,hf.defers⟩
def AB{fn:Func}{b:Value->List As->Prop}{t n:Nat}{d:zk}{p:qr}{cs:zq}[ha:HA P d true][hs:HS P d n](g:fn.results=#[.cell t d])(hv:find L t=some (.pointer p))(D3:∀w,Hp F w H->M9 (hp w) p cs)(h:cs.length=n)(A:List As)(c:b (.agg cs.toArray) A)(i:∀w,Hp F w H->Hp F w A):At N (dE P fn F b) L F H:=fun a w hf e=>by
 obtain⟨f,rfl,hc⟩:=D3 w e;have j:=E2 (P:=P) hc;have k:a.tmps.getD t undef=.pointer (some f):=hf.eval (x:=.tmp t) hv;subst h;refine⟨.agg cs.toArray,A,?_,c,i w e,hf.defers⟩;have l:a.tmps[t]?.getD undef=.pointer (some f):=by simpa using k
 simp[results,g,l,asAddr,loadVar,ha.h,hs.h,j]
def U4{o:Oper}{d j:Nat}{b q:Bool}{t:Nat}{g:Oper}(hg:o.guard=some (j,b))(i:ops[j]? =some g)(k:g.dst=some t)(hv:find L t=some (.bool q))(e:q=!b)(c:o.dst=some d)(l:Nat.blt d N=true)(h:GL P N ops rest K E R ((d,undef)::L) F H):GL P N ops (o::rest) K E R L F H:=fun a w hf m=>by
 have n:a.tmps[t]? =some (.bool q):=hf.at_ _ _ hv;have f:Region.wanted o (yielded ops a.tmps)=false:=by
  subst e;simp[Region.wanted,hg,yielded,i,k,n]
 refine wpList_skip f ?_;rw[c];exact h _ _ (hf.put l undef) m
def Y_{o:Oper}{d j:Nat}{b:Bool}{t:Nat}{f:Oper}(hg:o.guard=some (j,b))(g:ops[j]? =some f)(i:f.dst=some t)(hv:find L t=some undef)(c:o.dst=some d)(k:Nat.blt d N=true)(h:GL P N ops rest K E R ((d,undef)::L) F H):GL P N ops (o::rest) K E R L F H:=fun a w hf l=>by
 have m:a.tmps[t]? =some undef:=hf.at_ _ _ hv;have e:Region.wanted o (yielded ops a.tmps)=false:=by
  simp[Region.wanted,hg,yielded,g,i,m,undef]
 refine wpList_skip e ?_;rw[c];exact h _ _ (hf.put k undef) l
def A7{d j:Nat}{b:Bool}{t:Nat}{op:Op}{f:Oper}(g:ops[j]? =some f)(i:f.dst=some t)(hv:find L t=some (.bool b))(h:GL P N ops (⟨some d,op,ty,pos,af,none⟩::rest) K E R L F H):GL P N ops (⟨some d,op,ty,pos,af,some (j,b)⟩::rest) K E R L F H:=fun a w hf k=>by
 have l:a.tmps[t]? =some (.bool b):=hf.at_ _ _ hv;have c:Region.wanted (⟨some d,op,ty,pos,af,some (j,b)⟩:Oper) (yielded ops a.tmps)=true:=by
  simp[Region.wanted,yielded,g,i,l]
 have e:=h a w hf k;unfold wpList at e⊢;rw[zr c];rw[zr (by simp[Region.wanted])] at e;exact e
end
open Go Go.RowKit
def E5.eq{P:zj}{o:Oper}{L:G9}{v v':Value}(s:E5 P o L v)(h:v=v'):E5 P o L v':=h▸s
def dF.eq{P:zj}{o:Oper}{L:G9}{F:l9}{H:List As}{v v':Value}(s:dF P o L F H v)(h:v=v'):dF P o L F H v':=h▸s
def yi{z:Int}(h:0<=z/\z<=255):IntKind.u8.wrap z=z:=by rw[IntKind.wrap_u8];omega
def vB{z:Int}(h:0<=z/\z<=18446744073709551615):IntKind.u64.wrap z=z:=by rw[IntKind.wrap_u64];omega
def vC{z:Int}(h: -9223372036854775808<=z/\z<=9223372036854775807):IntKind.i64.wrap z=z:=by rw[IntKind.wrap_i64];omega
section
variable{P:zj}{N:Nat}{K R:A1}{E:List (Nat×A1)}{L:G9}{F:l9}{H:List As}{ops:Array Oper}{rest:List Oper}{ty:zk}{pos:String}{af:Array Edge}{dst:Option Nat}{gd:Option (Nat×Bool)}
variable{d:Nat}{x y:zw}{t t':zk}{k:IntKind}{m n:Int}
def jA{z:Int}(hx:ev L x=some (.int k m))(a:ev L y=some (.int k n))(b:k.wrap (m+n)=z):E5 P ⟨dst,.binOp .add t x y t',ty,pos,af,gd⟩ L (.int k z):=by
 subst b;exact CO hx a
def og{z:Int}(hx:ev L x=some (.int k m))(a:ev L y=some (.int k n))(b:k.wrap (m-n)=z):E5 P ⟨dst,.binOp .sub t x y t',ty,pos,af,gd⟩ L (.int k z):=by
 subst b;exact CP hx a
def df{b:IntKind}{a:TypeDesc}{z:Int}[hs:HU P t a][ht:HU P t' (.int b)](hx:ev L x=some (.int k m))(c:b.wrap m=z):E5 P ⟨dst,.convert t t' x,ty,pos,af,gd⟩ L (.int b z):=by
 subst c;exact eP hx
def cr{a:TypeDesc}[hs:HU P t a][ht:HU P t' (.int .u8)](hx:ev L x=some (.int k m))(b:0<=m/\m<=255):E5 P ⟨dst,.convert t t' x,ty,pos,af,gd⟩ L (.int .u8 m):=df hx (yi b)
def A3{a:TypeDesc}[hs:HU P t a][ht:HU P t' (.int .u64)](hx:ev L x=some (.int k m))(b:0<=m/\m<=18446744073709551615):E5 P ⟨dst,.convert t t' x,ty,pos,af,gd⟩ L (.int .u64 m):=df hx (vB b)
def bM{a:TypeDesc}[hs:HU P t a][ht:HU P t' (.int .i64)](hx:ev L x=some (.int k m))(b: -9223372036854775808<=m/\m<=9223372036854775807):E5 P ⟨dst,.convert t t' x,ty,pos,af,gd⟩ L (.int .i64 m):=df hx (vC b)
def CW{p:qr}{e:zk}[hu:HU P t (.pointer e)](hx:ev L x=some (.pointer p))(a:ev L y=some (.pointer none)):E5 P ⟨dst,.binOp .eql t x y t',ty,pos,af,gd⟩ L (.bool p.isNone):=
 L8 hx a (fun w=>by
  rw[eqGuard_at_pointer];have:∀d:Nat,(Op.equalIn (d+1) t (.pointer p) (.pointer none)).run P w=.ok p.isNone w:=fun d=>by cases p<;>simp[Op.equalIn,run_underlying hu.h]
  simp only[binOp];simp[Op.equal,Op.maxDepth,this 9999])
def FF{a:qr}{n c:Nat}{e:zk}[hu:HU P t (.slice e)](hx:ev L x=some (.slice a n c)):E5 P ⟨dst,.call ⟨.builtin .len,#[x],#[t]⟩,ty,pos,af,gd⟩ L (.int .i64 n):=
 (fun ρ w hf=>by simp[execOp,resolve,invoke,builtin,Builtin.len_,hf _ _ hx,run_underlying hu.h,goInt])
def U9{vs:Array Value}{i:Nat}{v:Value}(hx:ev L x=some (.tuple vs))(hv:vs[i]? =some v):E5 P ⟨dst,.extract x i,ty,pos,af,gd⟩ L v:=
 (fun ρ w hf=>by simp[execOp,Instr.extract,hf _ _ hx,hv])
def oh{a:Fn}{p q:List zw}{ps qs:zq}(hp:rI L p=some ps)(hq:rI L q=some qs):E5 P ⟨dst,.makeFunc a p.toArray q.toArray,ty,pos,af,gd⟩ L (.func a ps.toArray qs.toArray):=
 (fun ρ w hf=>by
  have b:=bt hf hp;have c:=bt hf hq;simp[execOp,Instr.makeFunc,b,c])
def FG(hx:ev L x=some (.int k m))(b:ev L y=some (.int k n)){a:Array zk}:E5 P ⟨dst,.call ⟨.builtin .min,#[x,y],a⟩,ty,pos,af,gd⟩ L (.int k (min m n)):=
 (fun ρ w hf=>by
  have e:(if n<m then n else m)=min m n:=by split<;>omega
  simp[execOp,resolve,invoke,builtin,Builtin.min_,Builtin.min2,hf _ _ hx,hf _ _ b,e])
def ol(hx:ev L x=some (.int k m))(b:ev L y=some (.int k n)){a:Array zk}:E5 P ⟨dst,.call ⟨.builtin .max,#[x,y],a⟩,ty,pos,af,gd⟩ L (.int k (max m n)):=
 (fun ρ w hf=>by
  have e:(if m<n then n else m)=max m n:=by split<;>omega
  simp[execOp,resolve,invoke,builtin,Builtin.max_,Builtin.max2,hf _ _ hx,hf _ _ b,e])
def Hp.ownN{w:World}{a:qr}{n c sz:Nat}{xs:zq}{i H':List As}(k:Hp F w H)(u:N1 H (.own (.slice a n c) t sz xs) i H'):
  xs.length=n*sz/\n<=c/\n9 (hp w) a xs/\(0<n->∃l,a=some l):=by
 obtain⟨v,m,_⟩:=k.focus u;rcases m with⟨b,rfl,_⟩|⟨g,rfl,⟨o,x,p,pre,f,y,b,hg,z,q,r,d,s⟩⟩
 ·injection b with e1 e2 e3;subst e1 e2 e3;exact⟨by simp,kp _,n9.nil _ _,fun h=>absurd h qb⟩
 ·injection b with e1 e2 e3;subst e1 e2 e3;refine⟨q,d,fun _=>⟨_,rfl,fun j u hu=>?_⟩,fun _=>⟨_,rfl⟩⟩;have e:(⟨g,o,none⟩:Addr).add j=⟨g,o+j,none⟩:=Addr.add_lit _ _ _;rw[e];have A:j<xs.length:=(Qs.1 hu).1;simp only[l_.cell?,hg];simp;rw[jc qb,j8 qb];rw[show o+j-pre.length=j by omega];exact hu
def A_.own_rd{h:l_}{bs:zz}{a:qr}{n c sz:Nat}{xs:zq}(hs:(As.own (.slice a n c) t sz xs).sat h bs):n9 h a xs:=by
 rcases hs with⟨b,rfl,_⟩|⟨g,rfl,⟨o,m,f,pre,d,p,b,hg,q,r,i,k,l⟩⟩
 ·exact n9.nil _ _
 ·injection b with e1 e2 e3;subst e1 e2 e3;refine fun _=>⟨_,rfl,fun j u hu=>?_⟩;have e:(⟨g,o,none⟩:Addr).add j=⟨g,o+j,none⟩:=Addr.add_lit _ _ _;rw[e];have s:j<xs.length:=(Qs.1 hu).1;simp only[l_.cell?,hg];simp;rw[jc qb,j8 qb];rw[show o+j-pre.length=j by omega];exact hu
def T0{a:qr}{len c e sz b:Nat}{xs:zq}{te:zk}{H':List As}[hu:HU P t (.slice e)][hs:HS P e sz](hx:ev L x=some (.slice a len c))(u:N1 H (.own (.slice a len c) te b xs) [] H')(f:ev L y=some (.int k n))(d:0<=n/\n<len):
  dF P ⟨dst,.indexAddr t x y,ty,pos,af,gd⟩ L F H (.pointer (N_ a (n.toNat*sz))):=fun ρ w hf g=>by
 obtain⟨_,_,_,h⟩:=g.ownN u;obtain⟨i,rfl⟩:=h qb;simp[execOp,Instr.indexAt,asIntOf,hf _ _ hx,hf _ _ f,run_underlying hu.h,hs.h,d.1,d.2,N_]
def jB{w:World}{a:qr}{len c sz q:Nat}{xs cs:zq}{te:zk}{d H':List As}(e:Hp F w H)(u:N1 H (.own (.slice a len c) te sz xs) d H')(b:cs≠[])(hc:∀j u,cs[j]? =some u->xs[q+j]? =some u):M9 (hp w) (N_ a q) cs:=
 (e.ownN u).2.2.1.peek q b hc
def nr{w:World}{a:qr}{q:Nat}{xs cs:zq}(c:Hp F w H)(r:n9 F.heap a xs)(b:cs≠[])(hc:∀j u,cs[j]? =some u->xs[q+j]? =some u):M9 (hp w) (N_ a q) cs:=
 (r.le c.keep).peek q b hc
def H6(g o:Nat)(c:zk)(fr:Nat×Nat):∀(vs:zq) (i:Nat) (a:Array Value) (w:World),w.heap[g]? =some (.cells a c fr)->(fr.2<=fr.1\/a.size<=fr.1)->o+i+vs.length<=a.size->(∀v∈vs,v.oneCell'=true)->
  (storeCells ⟨g,o,none⟩ vs i).run P w=.ok () (w.setRow g (a.toList.take (o+i)++vs++a.toList.drop (o+i+vs.length)).toArray)
 |[],i,a,w,hg,_,_,_=>by
  simp only[storeCells,jk,kx,Zk,Qp,Array.toArray_toList];rw[setRow_self w g a c fr hg];rfl
 |v::rest,i,a,w,hg,hfr,hl,h1=>by
  have k:o+i<a.size:=by simp at hl;omega
  have d:(⟨g,o,none⟩:Addr).add i=⟨g,o+i,none⟩:=Addr.add_lit _ _ _;have b:w.cell? ⟨g,o+i,none⟩=some a[o+i]:=by simp[World.cell?,hg,k]
  have f:w.frozen? ⟨g,o+i,none⟩=false:=by
   simp only[World.frozen?,hg];rcases hfr with h|h<;>(simp;omega)
  have j:(store ((⟨g,o,none⟩:Addr).add i) v).run P w=.ok () (w.setRow g (a.setIfInBounds (o+i) v)):=by
   rw[d,run_store P w _ v _ (h1 v qc),b];simp[f,setCell_eq_setRow w g (o+i) a c fr v hg]
  have l:=H6 g o c fr rest (i+1) (a.setIfInBounds (o+i) v) (w.setRow g (a.setIfInBounds (o+i) v)) (setRow_heap w g a _ c _ hg) (by simpa using hfr) (by simp at hl⊢;omega) (fun x m=>h1 x (by simp[m]));simp only[storeCells,Sem.run_bind,j,Result.andThen_ok,l,setRow_setRow];congr 3;have e:=list_seg_step a.toList (o+i) v rest (by simp at hl⊢;omega);simpa[Array.toList_setIfInBounds,W9] using e
def M3(xs:zq)(q:Nat)(vs:zq):zq:=xs.take q++vs++xs.drop (q+vs.length)
def fG(pre xs post vs:zq)(q:Nat)(h:q+vs.length<=xs.length):
  (pre++xs++post).take (pre.length+q)++vs++(pre++xs++post).drop (pre.length+q+vs.length)=pre++M3 xs q vs++post:=by
 unfold M3;rw[ky pre xs post,Wh,Kv qb];rw[show pre.length+q+vs.length=pre.length+(q+vs.length) by omega,Jk,K8 qb];simp
def U_{a:qr}{len c sz q n:Nat}{xs:zq}{te:zk}{v:Value}{H':List As}[hs:HS P t n](hx:ev L x=some (.pointer (N_ a q)))(D:ev L y=some v)(u:N1 H (.own (.slice a len c) te sz xs) [.own (.slice a len c) te sz (M3 xs q v.cells.toList)] H')(l:v.cells.size=n)(A:0<n)(J:∀q∈v.cells.toList,q.oneCell'=true)(hv:q+n<=xs.length)(h:GL P N ops rest K E R L F H'):GL P N ops (⟨none,.store t x y,ty,pos,af,none⟩::rest) K E R L F H:=
 tE rfl rfl fun U w hf M=>by
  obtain⟨V,i,_,O,kk⟩:=M.focus u;rcases i with⟨j,rfl,rfl⟩|⟨g,rfl,⟨o,X,Q,pre,b,C,j,hg,m,S,p,r,e⟩⟩
  ·simp at hv;omega
  ·injection j with e1 e2 e3;subst e1 e2 e3;have s:v.cells.toList.length=n:=(by simpa using l);have k:(⟨g,o,none⟩:Addr).add q=⟨g,o+q,none⟩:=Addr.add_lit _ _ _;have d:=H6 (P:=P) g (o+q) te C v.cells.toList 0 (pre++xs++b).toArray w hg (by simpa using e) (by simp[l];omega) J;simp only[Zk,<-m] at d;have T:=fG pre xs b v.cells.toList q qb;rw[T] at d;have f:(M3 xs q v.cells.toList).length=xs.length:=by
    simp only[M3,zg,kr,jz,s];omega
   refine⟨w.setRow g (pre++M3 xs q v.cells.toList++b).toArray,H',?_,?_,h⟩
   ·simp only[execOp,Instr.storeAt,Instr.sureAddr,hf.eval hx,hf.eval D,N_,k,storeVar];simp[hs.h,l];rw[m] at d;simp[d]
   ·refine kk _ [g] rfl rfl rfl (fun c hc z=>setRow_other w g c _ (by simpa using z)) ⟨[g],[],rfl,.inr ⟨g,rfl,⟨o,len,c,pre,b,C,rfl,setRow_heap w g _ _ te _ hg,m,by rw[f];exact S,?_,r,?_⟩⟩,rfl⟩ qc (fun c hc=>.inl hc)
    ·simp only[zg,f];simpa using p
    ·simp only[zg,f] at e⊢;exact e
def KX(h:l_)(a:qr)(news:zq):Prop:=n9 h a news
def C4{d:Nat}{s x:zw}{a b:qr}{n c m mc sz:Nat}{xs news:zq}{e:zk}{H':qr->Nat->List As}{z:Value}{i:TypeInfo}[hu:HU P t (.slice e)][hz:HZ P e z][hi:HI P e i][hs:HS P e sz](q3:ev L s=some (.slice a n c))(q4:ev L x=some (.slice b m mc))(u:∀a' c',N1 H (.own (.slice a n c) e sz xs) [.own (.slice a' (n+m) c') e sz (xs++news)] (H' a' c'))(hsrc:∀w,Hp F w H->KX (hp w) b news)(hl:news.length=m*sz)(q5:Nat.blt 0 sz=true)(q6:z.cells.size=sz)(h1:∀q∈news,q.oneCell'=true)(A:(n+m)*i.bytes<=140737488355328)(h63:n+m<=9223372036854775807)(hd:Nat.blt d N=true)(h:∀a' c',n+m<=c'->GL P N ops rest K E R ((d,.slice a' (n+m) c')::L) F (H' a' c')):
  GL P N ops (⟨some d,.call ⟨.builtin .append,#[s,x],#[t,t]⟩,ty,pos,af,none⟩::rest) K E R L F H:=
 T4 rfl rfl hd fun w0 w hf V=>by
  have h3:0<sz:=by simpa[K2] using q5
  have f:=hi.h;have D:i.size=sz:=by
   have M:=hs.h w;simp[sizeOf,typeInfo,f] at M;exact M
  have h4:i.zero=some z:=by
   have M:=hz.h w;simp only[zeroValue,Sem.run_bind,typeInfo] at M
   cases O:i.zero with
   |none=>simp[f,O] at M
   |some z'=>simp[f,O] at M;rw[M]
  have r:∀vv X,(Builtin.append_ #[t,t] ty #[.slice a n c,.slice b m mc]).run P w=.ok vv X->
    (execOp w0.eval ⟨some d,.call ⟨.builtin .append,#[s,x],#[t,t]⟩,ty,pos,af,none⟩).run P w=.ok (.value vv) X:=fun vv X h5=>by
   simp[execOp,resolve,invoke,builtin,hf.eval q3,hf.eval q4,h5]
  obtain⟨b2,U,_,x9,h6⟩:=V.focus (u a c);by_cases hm0:m=0
  ·subst hm0;have h7:news=[]:=js (by simpa using hl);subst h7;refine⟨.slice a (n+0) c,w,H' a c,r _ _ ?_,?_,h a c ?_⟩
   ·have h8:n<=c:=(V.ownN (u a c)).2.1;have q7:(Builtin.firstCells sz 0 (.slice b 0 mc)).run P w=.ok #[] w:=by cases b<;>simp[Builtin.firstCells,loadCells,loadCellsFrom]
    cases a<;>simp[Builtin.append_,run_underlying hu.h,hs.h,Builtin.lenOf,h8,q7,storeCells]
   ·refine h6 w b2 rfl rfl rfl (fun _ _ _=>rfl) ⟨b2,[],by simp,by simpa using U,rfl⟩ (by assumption) (fun _ hb=>.inl hb)
   ·exact(V.ownN (u a c)).2.1
  ·have q8:news≠[]:=by
    rintro rfl;have:0<m*sz:=Jv qb h3;simp at hl;omega
   obtain⟨ad,rfl,Q⟩:=hsrc w V q8;have k:∀j u,news[j]? =some u->w.cell? (ad.add j)=some u:=Q;have J:∀(p:Nat),p<n+m->(∀X,X=w.drew.alloc (.cells (xs.toArray++news.toArray++Builtin.zeroCells z.cells (grownCap w (n+m) p e-(n+m))) e)->xs.length=n*sz->
     Hp F X (H' (some ⟨w.heap.size,0,none⟩) (grownCap w (n+m) p e))/\n+m<=grownCap w (n+m) p e):=fun p ho X q9 y=>by
    have h9:=grownCap_ge w (n+m) p e;subst q9;obtain⟨b3,Y,k0,k8,k9⟩:=V.focus (u (some ⟨w.heap.size,0,none⟩) (grownCap w (n+m) p e));refine⟨k9 _ [w.heap.size] rfl rfl rfl (fun q O _=>Go.heap_alloc_old w.drew _ O) ⟨[w.heap.size],[],rfl,.inr ⟨w.heap.size,rfl,⟨0,n+m,grownCap w (n+m) p e,[],(Builtin.zeroCells z.cells (grownCap w (n+m) p e-(n+m))).toList,(0,0),rfl,?_,rfl,?_,?_,h9,.inl (kp _)⟩⟩,rfl⟩ qc (fun q O=>.inr (by simp at O;omega)),h9⟩
    ·have:=Go.heap_alloc_new w.drew (.cells (xs.toArray++news.toArray++Builtin.zeroCells z.cells (grownCap w (n+m) p e-(n+m))) e);show(w.drew.alloc _).heap[w.drew.heap.size]? =_;rw[this];congr 2;apply Zv.1;simp
    ·rw[zg,y,hl,Zj]
    ·simp only[zg,y,hl,Z9,size_zeroCells,q6,<-Zj];apply Qr;omega
   rcases U with⟨Z,rfl,rfl⟩|⟨g,rfl,⟨o,n',y0,pre,l,fr,Z,hg,ho,y,q0,h8,h0⟩⟩
   ·injection Z with e1 e2 e3;subst e1 e2 e3;have hr:=run_append_nil (P:=P) w t ty e i z hu.h f h4 ad m mc news (by rw[D];exact hl) k qb qb (by rw[j6] at A;omega);have C:=J 0 qb _ rfl qc;simp only[j6] at C;refine⟨_,_,H' (some ⟨w.heap.size,0,none⟩) (grownCap w m 0 e),r _ _ hr,?_,?_⟩
    ·have:=C.1;simpa using this
    ·have:=h (some ⟨w.heap.size,0,none⟩) (grownCap w m 0 e) (by simpa using C.2);simpa using this
   ·injection Z with e1 e2 e3;subst e1 e2 e3;by_cases hroom:n+m<=c
    ·have q1:(⟨g,o,none⟩:Addr).add (n*sz)=⟨g,o+n*sz,none⟩:=Addr.add_lit _ _ _;have x0:news.length<=l.length:=by
      rw[zg,y] at q0;have:(n+m)*sz<=c*sz:=Qr _ hroom;rw[Zj] at this;omega
     have S:=H6 (P:=P) g (o+n*sz) e fr news 0 (pre++xs++l).toArray w hg (by simpa using h0) (by simp;omega) h1;have T:=run_firstCells_some (P:=P) w sz m ad m mc news hl k;have q2:(pre++xs++l).take (o+n*sz)++news++(pre++xs++l).drop (o+n*sz+news.length)=pre++(xs++news)++l.drop news.length:=by
      rw[<-y,<-ho,show pre.length+xs.length=(pre++xs).length by simp,Ju,Wz,Q7 qc];simp
     simp only[Zk] at S;rw[q2] at S;refine⟨.slice (some ⟨g,o,none⟩) (n+m) c,w.setRow g (pre++(xs++news)++l.drop news.length).toArray,H' (some ⟨g,o,none⟩) c,r _ _ ?_,?_,h _ c hroom⟩
     ·simp[Builtin.append_,run_underlying hu.h,hs.h,Builtin.lenOf,hroom,T,q1];simp at S;simp[S]
     ·obtain⟨b3,Y,k0,k8,k9⟩:=V.focus (u (some ⟨g,o,none⟩) c);refine h6 _ [g] rfl rfl rfl (fun q O x1=>setRow_other w g q _ (by simpa using x1)) ⟨[g],[],rfl,.inr ⟨g,rfl,⟨o,n+m,c,pre,l.drop news.length,fr,rfl,setRow_heap w g _ _ e _ hg,ho,?_,?_,hroom,?_⟩⟩,rfl⟩ qc (fun q O=>.inl O)
      ·rw[zg,y,hl,Zj]
      ·simp only[zg,jz] at q0⊢;omega
      ·simp only[zg,jz] at h0⊢;rcases h0 with M|M
       ·exact .inl M
       ·exact .inr qb
    ·have x2:∀j v,xs[j]? =some v->w.cell? ((⟨g,o,none⟩:Addr).add j)=some v:=fun j v hj=>by
      have x3:xs≠[]:=(by rintro rfl;simp at hj);obtain⟨y1,e2,x5⟩:=(V.ownN (u (some ⟨g,o,none⟩) c)).2.2.1 x3;injection e2 with e2;subst e2;exact x5 j v hj
     have hr:=run_append_grow (P:=P) w t ty e i z hu.h f h4 ⟨g,o,none⟩ n c xs (by rw[D];exact y) x2 ad m mc news (by rw[D];exact hl) k qb qb (growslice_fits qb A);have C:=J c qb _ rfl y;exact⟨_,_,H' (some ⟨w.heap.size,0,none⟩) (grownCap w (n+m) c e),r _ _ hr,C.1,h _ _ C.2⟩
def fH{d:Nat}{s x:zw}{a b:qr}{n c m V sz:Nat}{xs news:zq}{e:zk}{H':List As}[hu:HU P t (.slice e)][hs:HS P e sz](X:ev L s=some (.slice a n c))(Y:ev L x=some (.slice b m V))(u:N1 H (.own (.slice a n c) e sz xs) [.own (.slice a (n+m) c) e sz (xs++news)] H')(hsrc:∀w,Hp F w H->KX (hp w) b news)(hl:news.length=m*sz)(Z:Nat.blt 0 sz=true)(h1:∀q∈news,q.oneCell'=true)(i:n+m<=c)(hd:Nat.blt d N=true)(h:GL P N ops rest K E R ((d,.slice a (n+m) c)::L) F H'):
  GL P N ops (⟨some d,.call ⟨.builtin .append,#[s,x],#[t,t]⟩,ty,pos,af,none⟩::rest) K E R L F H:=
 T4 rfl rfl hd fun w0 w hf hw=>by
  have D:0<sz:=by simpa[K2] using Z
  have k:∀vv w',(Builtin.append_ #[t,t] ty #[.slice a n c,.slice b m V]).run P w=.ok vv w'->
    (execOp w0.eval ⟨some d,.call ⟨.builtin .append,#[s,x],#[t,t]⟩,ty,pos,af,none⟩).run P w=.ok (.value vv) w':=fun vv w' J=>by
   simp[execOp,resolve,invoke,builtin,hf.eval X,hf.eval Y,J]
  obtain⟨b2,y,_,h6,M⟩:=hw.focus u;by_cases hm0:m=0
  ·subst hm0;have O:news=[]:=js (by simpa using hl);subst O;refine⟨.slice a (n+0) c,w,H',k _ _ ?_,?_,h⟩
   ·have Q:n<=c:=(hw.ownN u).2.1;have h0:(Builtin.firstCells sz 0 (.slice b 0 V)).run P w=.ok #[] w:=by cases b<;>simp[Builtin.firstCells,loadCells,loadCellsFrom]
    cases a<;>simp[Builtin.append_,run_underlying hu.h,hs.h,Builtin.lenOf,Q,h0,storeCells]
   ·refine M w b2 rfl rfl rfl (fun _ _ _=>rfl) ⟨b2,[],by simp,by simpa using y,rfl⟩ (by assumption) (fun _ hb=>.inl hb)
  ·have h3:news≠[]:=by
    rintro rfl;have:0<m*sz:=Jv qb D;simp at hl;omega
   obtain⟨ad,rfl,p⟩:=hsrc w hw h3;have l:∀j u,news[j]? =some u->w.cell? (ad.add j)=some u:=p;rcases y with⟨z,rfl,rfl⟩|⟨g,rfl,⟨o,n',h7,pre,f,fr,z,hg,ho,A,S,Q,C⟩⟩
   ·injection z with e1 e2 e3;subst e1 e2 e3;omega
   ·injection z with e1 e2 e3;subst e1 e2 e3;have T:(⟨g,o,none⟩:Addr).add (n*sz)=⟨g,o+n*sz,none⟩:=Addr.add_lit _ _ _;have h4:news.length<=f.length:=by
     rw[zg,A] at S;have:(n+m)*sz<=c*sz:=Qr _ i;rw[Zj] at this;omega
    have r:=H6 (P:=P) g (o+n*sz) e fr news 0 (pre++xs++f).toArray w hg (by simpa using C) (by simp;omega) h1;have v:=run_firstCells_some (P:=P) w sz m ad m V news hl l;have U:(pre++xs++f).take (o+n*sz)++news++(pre++xs++f).drop (o+n*sz+news.length)=pre++(xs++news)++f.drop news.length:=by
     rw[<-A,<-ho,show pre.length+xs.length=(pre++xs).length by simp,Ju,Wz,Q7 qc];simp
    simp only[Zk] at r;rw[U] at r;refine⟨.slice (some ⟨g,o,none⟩) (n+m) c,w.setRow g (pre++(xs++news)++f.drop news.length).toArray,H',k _ _ ?_,?_,h⟩
    ·simp[Builtin.append_,run_underlying hu.h,hs.h,Builtin.lenOf,i,v,T];simp at r;simp[r]
    ·refine M _ [g] rfl rfl rfl (fun q hq h5=>setRow_other w g q _ (by simpa using h5)) ⟨[g],[],rfl,.inr ⟨g,rfl,⟨o,n+m,c,pre,f.drop news.length,fr,rfl,setRow_heap w g _ _ e _ hg,ho,?_,?_,i,?_⟩⟩,rfl⟩ qc (fun q hq=>.inl hq)
     ·rw[zg,A,hl,Zj]
     ·simp only[zg,jz] at S⊢;omega
     ·simp only[zg,jz] at C⊢;rcases C with h2|h2
      ·exact .inl h2
      ·exact .inr qb
def FH{c a b:zw}{v:Value}(hc:ev L c=some (.bool true))(ha:ev L a=some v):E5 P ⟨dst,.pick c a b,ty,pos,af,gd⟩ L v:=
 (fun ρ w hf=>by simp[execOp,asBool,hf _ _ hc,hf _ _ ha])
def FJ{c a b:zw}{v:Value}(hc:ev L c=some (.bool false))(d:ev L b=some v):E5 P ⟨dst,.pick c a b,ty,pos,af,gd⟩ L v:=
 (fun ρ w hf=>by simp[execOp,asBool,hf _ _ hc,hf _ _ d])
end
open Go Go.RowKit
def rb(z:Value)(n:Nat):(madeCells #[z] n).toList=List.replicate n z:=by
 apply List.ext_getElem?;intro i;simp only[madeCells,Array.toList_map,Q3,Array.toList_range,List.getElem?_range,List.getElem?_replicate];by_cases h:i<n
 ·simp[h,List.getElem?_range,Nat.mod_one]
 ·simp[h]
def Hp.addNil{F:l9}{w:World}{H:List As}(h:Hp F w H)(t:zk)(sz:Nat):Hp F w (.own (.slice none 0 0) t sz []::H):=by
 obtain⟨a,hs,b,hf⟩:=h.own;exact⟨h.os,h.tape,h.output,h.keep,a,⟨[],a,rfl,.inl qm,hs⟩,b,hf⟩
def B3(l:List UInt8):zq:=l.map fun b=>.int .u8 (b.toNat:Nat)
def ak(a:qr)(c lo sz:Nat):qr:=if c=lo then a else a.map (·.add (lo*sz))
def n9.cut{h:l_}{a:qr}{xs:zq}{n c sz:Nat}(r:n9 h a xs)(hl:xs.length=n*sz)(hc:n<=c)(lo d:Nat)(k:lo<=d)(l:d<=n):n9 h (ak a c lo sz) ((xs.drop (lo*sz)).take ((d-lo)*sz)):=fun b=>by
 have f:xs≠[]:=by rintro rfl;simp at b
 obtain⟨g,rfl,i⟩:=r f;have e:c≠lo:=by
  rintro rfl;apply b;have:d-c=0:=by omega
  simp[this]
 refine⟨g.add (lo*sz),by simp[ak,e],fun j u hu=>?_⟩;rw[gw];refine i _ _ ?_;rw[Wn] at hu;split at hu
 ·rw[Zc] at hu;exact hu
 ·cases hu
section
variable{P:zj}{N:Nat}{K R:A1}{E:List (Nat×A1)}{L:G9}{F:l9}{H:List As}{ops:Array Oper}{rest:List Oper}{ty:zk}{pos:String}{af:Array Edge}{dst:Option Nat}{gd:Option (Nat×Bool)}
variable{d m':Nat}{x y:zw}{t t':zk}{k:IntKind}{m n:Int}
def P8(e:zk)(sz:Nat){c:Code}(h:G P N c K E R L F (.own (.slice none 0 0) e sz []::H)):G P N c K E R L F H:=fun a w hf b=>h a w hf (b.addNil e sz)
def z_{H':List As}{rest:List Oper}(b:∀w,Hp F w H->Hp F w H')(h:GL P N ops rest K E R L F H'):GL P N ops rest K E R L F H:=fun a w hf c=>h a w hf (b w c)
def C5{H':List As}{c:Code}(b:∀w,Hp F w H->Hp F w H')(h:G P N c K E R L F H'):G P N c K E R L F H:=fun a w hf d=>h a w hf (b w d)
def B7{a:qr}{n c sz:Nat}{xs:zq}{te:zk}{H':List As}{b:Code}(u:N1 H (.own (.slice a n c) te sz xs) [] H')(h:xs.length=n*sz->n<=c->(0<n->∃e,a=some e)->G P N b K E R L F H):G P N b K E R L F H:=fun f w hf d=>
 have q:=d.ownN u
 h q.1 q.2.1 q.2.2.2 f w hf d
def AD{a:qr}{n c sz:Nat}{xs:zq}{te:zk}{H':List As}{rest:List Oper}(u:N1 H (.own (.slice a n c) te sz xs) [] H')(h:xs.length=n*sz->n<=c->(0<n->∃d,a=some d)->GL P N ops rest K E R L F H):GL P N ops rest K E R L F H:=fun e w hf b=>
 have q:=b.ownN u
 h q.1 q.2.1 q.2.2.2 e w hf b
def P9{w:World}{e:zk}{sz n c:Nat}{xs post:zq}{fr:Nat×Nat}(f:Hp F w H)(hl:xs.length=n*sz)(a:(xs++post).length=c*sz)(hc:n<=c)(b:fr.2<=fr.1\/(xs++post).length<=fr.1){w':World}(d:w'=w.alloc (.cells (xs++post).toArray e fr)):Hp F w' (.own (.slice (some ⟨w.heap.size,0,none⟩) n c) e sz xs::H):=by
 subst d;have h:=f.alloc (.cells (xs++post).toArray e fr);obtain⟨o,⟨p,g,i,⟨j,k⟩,l⟩,m,hf⟩:=h.own;subst i j;exact⟨h.os,h.tape,h.output,h.keep,_,⟨[w.heap.size],g,rfl,.inr ⟨w.heap.size,rfl,⟨0,n,c,[],post,fr,rfl,by simpa using k,rfl,hl,Nat.le_of_eq a.symm,hc,by simpa using b⟩⟩,l⟩,m,hf⟩
def om{e:zk}{z:Value}{i:TypeInfo}{o kc:IntKind}{l c:Int}[hu:HU P t (.slice e)][hz:HZ P e z][hi:HI P e i][hs:HS P e 1](hx:ev L x=some (.int o l))(p:ev L y=some (.int kc c))(j:z.cells=#[z])(k:0<=l/\l<=c/\c<=9223372036854775807)(q:(i.bytes:Int)*c<=281474976710656)(r:Nat.blt d N=true)(h:∀a,GL P N ops rest K E R ((d,.slice a l.toNat c.toNat)::L) F (.own (.slice a l.toNat c.toNat) e 1 (List.replicate l.toNat z)::H)):GL P N ops (⟨some d,.makeSlice t x y,ty,pos,af,none⟩::rest) K E R L F H:=
 T4 rfl rfl r fun u w hf s=>by
  have b:=hi.h;have g:i.size=1:=by
   have f:=hs.h w;simp[sizeOf,typeInfo,b] at f;exact f
  have m:i.zero=some z:=by
   have f:=hz.h w;simp only[zeroValue,Sem.run_bind,typeInfo] at f
   cases hq:i.zero with
   |none=>simp[b,hq] at f
   |some z'=>simp[b,hq] at f;rw[f]
  have n:=run_make (P:=P) w t e i z hu.h b m o kc l c k.1 k.2.1 q k.2.2;refine⟨_,_,_,by simp only[execOp,hf.eval hx,hf.eval p];rw[Sem.run_bind,n];rfl,?_,h _⟩;refine P9 (post:=List.replicate (c.toNat-l.toNat) z) (fr:=(0,0)) s qc (by simp;omega) qb (.inl (kp _)) ?_;congr 2;apply Zv.1;rw[j,g,Z0,rb];simp only[Jm];rw[List.replicate_append_replicate];congr 1;omega
def re{ps:List (Nat×zw)}{vs:List (Nat×Value)}{e:zk}{z:Value}{sz len:Nat}{cells:Array Value}[hu:HU P t (.slice e)][hz:HZ P e z][hs:HS P e sz](hx:AA L ps=some vs)(b:Nat.ble (len*sz) 16777216=true)(f:Nat.blt 0 (len*sz)=true)(c:Instr.fill (fun i=>some (i*sz,sz)) ((Array.range (len*sz)).map (z.cells[· %z.cells.size]!)) vs=some cells)(g:cells.size=len*sz)(j:Nat.blt d N=true)(h:∀a,(∃k,a=some k)->GL P N ops rest K E R ((d,.slice a len len)::L) F (.own (.slice a len len) e sz cells.toList::H)):GL P N ops (⟨some d,.buildSlice t len ps.toArray,ty,pos,af,none⟩::rest) K E R L F H:=
 T4 rfl rfl j fun p w hf l=>by
  have m:=jt hf.agr hx;have n:¬(len*sz>2^24):=by
   have:len*sz<=16777216:=(by simpa[J0] using b);omega
  have o:len*sz≠0:=by
   have:0<len*sz:=(by simpa[K2] using f);omega
  refine⟨.slice (some ⟨w.heap.size,0,none⟩) len len,w.alloc (.cells cells e),_,?_,?_,h _ ⟨_,rfl⟩⟩
  ·simp only[execOp,Zr];rw[m];simp only[Instr.buildSlice,Sem.run_bind,run_underlying hu.h,hs.h,Result.andThen_ok,zb n,zb o,hz.h,Sem.run_pure,c];simp[newRow]
  ·exact P9 (post:=[]) (fr:=(0,0)) l (by simpa using g) (by simpa using g) (kp _) (.inl (kp _)) qc
def y6{ps:List (Nat×zw)}{vs:List (Nat×Value)}{e:zk}{z:Value}{sz len:Nat}{xs:zq}[hu:HU P t (.slice e)][hz:HZ P e z][hs:HS P e sz](hx:AA L ps=some vs)(b:Nat.ble (len*sz) 16777216=true)(c:Nat.blt 0 (len*sz)=true)(f:vs=((vs.map (·.2)).zipIdx 0).map fun x=>(x.2,x.1))(g:(vs.all fun p=>Nat.beq p.2.cells.size sz)=true)(i:vs.length=len)(o:(vs.map (·.2)).flatMap (fun v=>v.cells.toList)=xs)(q:Nat.blt d N=true)(h:∀a,(∃s,a=some s)->GL P N ops rest K E R ((d,.slice a len len)::L) F (.own (.slice a len len) e sz xs::H)):GL P N ops (⟨some d,.buildSlice t len ps.toArray,ty,pos,af,none⟩::rest) K E R L F H:=by
 have hp:0<len*sz:=by simpa[K2] using c
 have j:0<sz:=Nat.pos_of_mul_pos_left hp;have k:∀v∈vs.map (·.2),v.cells.size=sz:=fun v u=>by
  obtain⟨p,hp,rfl⟩:=jr.1 u;exact Qu (Q1.1 g p hp)
 have l:(vs.map (·.2)).length*sz=((Array.range (len*sz)).map (z.cells[· %z.cells.size]!)).size:=by simp[i]
 have hf:=Great.fill_whole j (vs.map (·.2)) ((Array.range (len*sz)).map (z.cells[· %z.cells.size]!)) k l;rw[<-f] at hf;obtain⟨r,n,m,_⟩:=Great.fill_dense j (vs.map (·.2)) 0 ((Array.range (len*sz)).map (z.cells[· %z.cells.size]!)) k (by rw[j6,l];exact kp _);rw[<-f,hf] at n;injection n with n;rw[<-n] at m;refine re (cells:=((vs.map (·.2)).flatMap fun v=>v.cells.toList).toArray) hx b c hf (by rw[m];simp) q (fun a ha=>?_);subst o;exact h a ha
def ot{l:List UInt8}{e:zk}[hs:HU P t .string][ht:HU P t' (.slice e)][he:HU P e (.int .u8)](hx:ev L x=some (B l))(k:Nat.blt d N=true)(h:∀a c,l.length<=c->GL P N ops rest K E R ((d,.slice a l.length c)::L) F (.own (.slice a l.length c) e 1 (B3 l)::H)):GL P N ops (⟨some d,.convert t t' x,ty,pos,af,none⟩::rest) K E R L F H:=
 T4 rfl rfl k fun n w hf m=>by
  have j:=run_bytes_of_string (P:=P) w t t' e ⟨l.toArray⟩ hs.h ht.h he.h;have f:(⟨l.toArray⟩:ByteArray).size=l.length:=by simp[ByteArray.size]
  rw[f] at j;have g:=grownCap_ge w l.length 0 e;have b:bytesRow ⟨l.toArray⟩ (grownCap w l.length 0 e)=(B3 l++List.replicate (grownCap w l.length 0 e-l.length) (Value.int .u8 0)).toArray:=by
   apply Zv.1;simp[bytesRow,B3,f]
  refine⟨_,_,_,by simp only[execOp,hf.eval hx];rw[Sem.run_bind,j];rfl,?_,h _ _ g⟩;have i:Hp F w.drew H:=m.drew';refine P9 (w:=w.drew) (post:=List.replicate (grownCap w l.length 0 e-l.length) (.int .u8 0)) (fr:=((bytesRow ⟨l.toArray⟩ (grownCap w l.length 0 e)).size,(bytesRow ⟨l.toArray⟩ (grownCap w l.length 0 e)).size+1)) i (by simp[B3]) (by simp[B3];omega) g (.inr (by rw[b];simp)) ?_;rw[b]
def vD(l:List UInt8):((l.map fun b=>((b.toNat:Nat):Int)).foldl (fun r n=>r.push (UInt8.ofNat n.toNat)) ByteArray.empty)=⟨l.toArray⟩:=by
 rw[foldl_push_byteCells];apply ByteArray.ext;simp
def cv{l:List UInt8}{a:qr}{n c:Nat}{e:zk}[hs:HU P t (.slice e)][ht:HU P t' .string][he:HU P e (.int .u8)](hx:ev L x=some (.slice a n c))(g:n=l.length)(hsrc:∀w,Hp F w H->n9 (hp w) a (B3 l)):
  dF P ⟨dst,.convert t t' x,ty,pos,af,gd⟩ L F H (B l):=fun ρ w hf h=>by
 have i:(Conv.bytesToString (.slice a n c)).run P w=.ok (B l) w:=by
  by_cases hl:l=[]
  ·subst hl;subst g
   cases a with
   |none=>rfl
   |some d=>
    have:=run_bytesToString (P:=P) w d 0 c [] (by simp[loadCells,loadCellsFrom]);exact this
  ·obtain⟨d,rfl,hc⟩:=hsrc w h (by simpa[B3] using hl);have f:=E2 (P:=P) (w:=w) hc;have j:(B3 l).toArray=((l.map fun b=>((b.toNat:Nat):Int)).map (Value.int .u8)).toArray:=(by simp[B3]);rw[j] at f;have k:(B3 l).length=l.length:=(by simp[B3]);rw[k] at f;have:=run_bytesToString (P:=P) w d n c (l.map fun b=>((b.toNat:Nat):Int)) (by rw[g];exact f);rw[this,vD]
 simp only[execOp,hf _ _ hx];have m:(convert t t' (.slice a n c)).run P w=.ok (B l) w:=by
  cases a<;>simp[convert,run_underlying hs.h,run_underlying ht.h,run_underlying he.h,i]
 rw[Sem.run_bind,m];rfl
def C0{a:qr}{n c e sz:Nat}{lo d:Option zw}{i j:Int}[hu:HU P t (.slice e)][hs:HS P e sz](hx:ev L x=some (.slice a n c))(f:CV L lo 0=some i)(b:CV L d n=some j)(g:0<=i/\i<=j/\j<=c):
  E5 P ⟨dst,.slice t x lo d none,ty,pos,af,gd⟩ L (.slice (ak a c i.toNat sz) (j.toNat-i.toNat) (c-i.toNat)):=
 (fun ρ w hf=>by
  have l:∀(o:zw) (q:Int),(match ev L o with|some (.int _ n)=>some n|_=>none)=some q->∃kk,ρ o=.int kk q:=by
   intro o q h
   cases e:ev L o with
   |none=>rw[e] at h;cases h
   |some u=>rw[e] at h;cases u<;>simp at h;subst h;exact⟨_,hf _ _ e⟩
  have m:(Instr.sliceBounds true n c (lo.map ρ) (d.map ρ) none).run P w=.ok (i.toNat,j.toNat,c) w:=by
   cases lo with
   |none=>
    simp only[CV,Q8] at f;subst f
    cases d with
    |none=>
     simp only[CV,Q8] at b;subst b;simp[Instr.sliceBounds]
    |some o=>
     obtain⟨kk,p⟩:=l o j b;simp[Instr.sliceBounds,Instr.sliceBound,p,asIntOf,g.2.2,show 0<=j from by omega]
   |some o2=>
    obtain⟨r,k⟩:=l o2 i f
    cases d with
    |none=>
     simp only[CV,Q8] at b;subst b;simp[Instr.sliceBounds,Instr.sliceBound,k,asIntOf,g.1,g.2.1]
    |some o=>
     obtain⟨kk,p⟩:=l o j b;have s:¬max j 0<i:=(by omega);simp[Instr.sliceBounds,Instr.sliceBound,p,k,asIntOf,g.1,g.2.2,s,show 0<=j from by omega]
  have v:(Instr.slice t (.slice a n c) (lo.map ρ) (d.map ρ) none).run P w=.ok (.slice (ak a c i.toNat sz) (j.toNat-i.toNat) (c-i.toNat)) w:=by
   simp only[Instr.slice,Sem.run_bind,run_underlying hu.h,Result.andThen_ok,m,hs.h,Sem.run_pure,ak]
  have y:(Instr.sliceAt t (.slice a n c) (lo.map ρ) (d.map ρ) none).run P w=.ok (.slice (ak a c i.toNat sz) (j.toNat-i.toNat) (c-i.toNat)) w:=by
   simp only[Instr.sliceAt,Sem.run_bind,run_underlying hu.h,Result.andThen_ok,v]
  simp only[execOp,hf _ _ hx];rw[show(none:Option zw).map ρ=none from rfl,Sem.run_bind,y];rfl)
def vE{b len e:Nat}[hu:HU P t (.array len e)][hs:HS P e m'](hx:ev L x=some (.pointer (some ⟨b,0,none⟩))):E5 P ⟨dst,.slice t x none none none,ty,pos,af,gd⟩ L (.slice (some ⟨b,0,none⟩) len len):=
 (fun ρ w hf=>by
  have a:(⟨b,0,none⟩:Addr).add (0*m')=⟨b,0,none⟩:=by simp[Addr.add]
  simp[execOp,Instr.sliceAt,Instr.sureAddr,Instr.sliceBounds,hf _ _ hx,run_underlying hu.h,hs.h,Addr.add])
def eR{cs:Array Value}{len e:Nat}{v:Value}(i:Nat)[hu:HU P t (.array len e)][hs:HS P e 1][ha:HA P e false](hx:ev L x=some (.agg cs))(a:ev L y=some (.int k n))(b:n=i)(c:i<len)(hv:cs[i]? =some v):E5 P ⟨dst,.index t x y,ty,pos,af,gd⟩ L v:=
 (fun ρ w hf=>by
  subst b;simp[execOp,Instr.index,asIntOf,hf _ _ hx,hf _ _ a,run_underlying hu.h,c,hs.h,part,ha.h,hv])
def A_.get{h:l_}{H H' b:List As}{x:As}{bs:zz}(hs:A_ h H bs)(u:N1 H x b H'):∃a,x.sat h a:=by
 obtain⟨d,a,e,_,c,_⟩:=N1.sat u hs;exact⟨a,c⟩
def A_.rd{h:l_}{H H':List As}{bs:zz}{a:qr}{n c sz:Nat}{xs:zq}{te:zk}(hs:A_ h H bs)(u:N1 H (.own (.slice a n c) te sz xs) [] H'):n9 h a xs:=by
 obtain⟨d,b⟩:=A_.get hs u;exact A_.own_rd b
def Pg{h:l_}{b:Nat}{cs:Array Value}{te:zk}{fr:Nat×Nat}{bs:zz}(hs:(As.blk b (.cells cs te fr)).sat h bs)(xs:zq)(hx:∀(j:Nat) (u:Value),xs[j]? =some u->cs[j]? =some u):n9 h (some ⟨b,0,none⟩) xs:=fun _=>by
 obtain⟨rfl,a⟩:=hs;refine⟨_,rfl,fun j u hu=>?_⟩;have e:(⟨b,0,none⟩:Addr).add j=⟨b,j,none⟩:=by rw[Addr.add_lit];simp
 rw[e];simp[l_.cell?,a,hx j u hu]
def Hp.rdBlk{w:World}{b:Nat}{cs:Array Value}{te:zk}{fr:Nat×Nat}{a H':List As}(c:Hp F w H)(u:N1 H (.blk b (.cells cs te fr)) a H')(xs:zq)(hx:∀(j:Nat) (u:Value),xs[j]? =some u->cs[j]? =some u):n9 (hp w) (some ⟨b,0,none⟩) xs:=by
 obtain⟨e,d,_⟩:=c.focus u;exact Pg d xs hx
def Hp.cutOwn{w:World}{a:qr}{n c sz j:Nat}{te:zk}{xs:zq}{H':List As}(m:Hp F w H)(u:N1 H (.own (.slice a n c) te sz xs) [.own (.slice a j c) te sz (xs.take (j*sz))] H')(p:j<=n):Hp F w H':=by
 obtain⟨l,d,f,q,kk⟩:=m.focus u;refine kk w l rfl rfl rfl (fun _ _ _=>rfl) ⟨l,[],by simp,?_,rfl⟩ f (fun _ r=>.inl r);rcases d with⟨h,rfl,rfl⟩|⟨g,rfl,⟨o,A,s,pre,b,t,h,hg,v,x,i,y,k⟩⟩
 ·injection h with e1 e2 e3;subst e1 e2 e3;have:j=0:=by omega
  subst this;exact .inl ⟨rfl,by simp,rfl⟩
 ·injection h with e1 e2 e3;subst e1 e2 e3;have z:j*sz<=xs.length:=by rw[x];exact Qr _ p
  refine .inr ⟨g,rfl,⟨o,j,c,pre,xs.drop (j*sz)++b,t,rfl,?_,v,by simp;omega,?_,by omega,?_⟩⟩
  ·rw[hg];have e:pre++xs++b=pre++xs.take (j*sz)++(xs.drop (j*sz)++b):=by
    rw[ky pre,ky pre,<-ky (xs.take _),Qp]
   rw[e]
  ·rw[<-ky,Qp];exact i
  ·have e:(pre++xs.take (j*sz)++(xs.drop (j*sz)++b)).length=(pre++xs++b).length:=by
    simp only[zg,kr,jz];omega
   rw[e];exact k
end
open Go Go.RowKit
section
variable{P:zj}{ops:Array Oper}{Q:Exit->Act->World->Prop}{S:World->Prop}{nd:Array Bool->Nat->Bool}
def fx(P:zj)(ops:Array Oper)(Q:Exit->Act->World->Prop)(S:World->Prop)(nd:Array Bool->Nat->Bool):Nat->Array Bool->Act->World->Prop
 |0,listed,a,w=>Region.ready .any ops listed=[]/\Q .normal a w
 |fuel+1,listed,a,w=>
  (Region.ready .any ops listed=[]->Q .normal a w)/\
  ∀i∈Region.ready .any ops listed,wpOp P ops Q i (fun a' w'=>(nd listed i=true->S w->S w')/\fx P ops Q S nd fuel (listed.setIfInBounds i true) a' w') a w
def fI:∀(b:Nat) (c:Array Bool) (a:Act) (w:World),fx P ops Q S nd b c a w->wpAny P .any ops Q b c a w
 |0,_,_,_,h=>h
 |b+1,_,_,_,h=>⟨h.1,fun i d=>wpOp_mono (fun e w' f=>fI b _ e w' f.2) (h.2 i d)⟩
def eS{T:World->Prop}{i:Nat}{p:Oper}{v:Value}(M:ops[i]? =some p)(m:∀(j:Nat) (o:Oper) cs b,ops[j]? =some o->o.op≠ .select cs b)(hQ:∀c a w,Q (.panic c) (a.put p.dst v) w->Q (.panic c) a w)(O:∀d j,nd (d.setIfInBounds i true) j=nd d j):
  ∀(f:Nat) (d:Array Bool) (a:Act) (w:World),
   (∀j q,ops[j]? =some q->j≠i->d.getD j true=false->(∀e∈q.after,Region.binds .any e=true->e.on≠i)->p.apart ops q=true/\∀w w',T w->T w')->
   i∈Region.ready .any ops d->YieldsIf P ops T p v a->T w->
   fx P ops Q S nd f (d.setIfInBounds i true) (a.put p.dst v) w->fx P ops Q S nd (f+1) d a w:=by
 intro f
 induction f with
 |zero=>
  intro d a w _ r C D H;refine⟨fun h=>(by rw[h] at r;cases r),fun j J=>?_⟩;by_cases hji:j=i
  ·subst hji;exact C.wpOp M D ⟨fun _ h=>h,H⟩
  ·have:=ready_mono J hji;rw[H.1] at this
   cases this
 |succ f ih=>
  intro d a w g r C D H;refine⟨fun h=>(by rw[h] at r;cases r),fun j J=>?_⟩;by_cases hji:j=i
  ·subst hji;exact C.wpOp M D ⟨fun _ h=>h,H⟩
  ·have s:=H.2 j (ready_mono J hji);obtain⟨n,q,t,u⟩:=mem_ready.1 J;have x:∀e∈q.after,Region.binds .any e=true->e.on≠i:=fun e he hb U=>by
    have s:=u e he hb;have h0:=(mem_ready.1 r).1;rw[U] at s;rcases Q6 i d.size with V|V
    ·simp[V] at h0 s;rw[h0] at s;cases s
    ·simp[J3 V] at s
   have y:=g j q t hji n x;have h2:=wpOp_putIf t y.1 (fun cs b=>m i p cs b M) (fun cs b=>m j q cs b t) hQ C s;have l:∀k z,ops[k]? =some z->k≠i->(d.setIfInBounds j true).getD k true=false->
     (∀e∈z.after,Region.binds .any e=true->e.on≠i)->p.apart ops z=true/\∀w w',T w->T w':=fun k z hk X A Y=>by
    refine g k z hk X ?_ Y;by_cases hjk:j=k
    ·subst hjk;exact n
    ·rw[getD_set_ne true hjk] at A;exact A
   refine wpOp_mono (fun a' w' Z=>⟨fun hn=>Z.2.1 (by rw[O];exact hn),ih (d.setIfInBounds j true) a' w' l (ready_mono r (Ne.symm hji)) Z.1 (y.2 w w' D) ?_⟩) h2;rw[Array.setIfInBounds_comm _ _ hji];exact Z.2.2
def vF{T:World->Prop}{i:Nat}{z:Oper}{v:Value}{M:Nat->Nat->Bool}(hi:ops[i]? =some z)(u:∀(j:Nat) (o:Oper) cs b,ops[j]? =some o->o.op≠ .select cs b)(hQ:∀c a w,Q (.panic c) (a.put z.dst v) w->Q (.panic c) a w)(X:∀d j,nd (d.setIfInBounds i true) j=nd d j)(hM:∀j g i,ops[j]? =some g->M j i=true->∃e∈g.after,Region.binds .any e=true/\(e.on=i\/M e.on i=true)):
  ∀(f:Nat) (d:Array Bool) (a:Act) (w:World),
   (∀k,d.getD k false=true->∀i,M k i=true->d.getD i false=true)->
   (∀j g,ops[j]? =some g->j≠i->d.getD j true=false->M j i=false->(∀e∈g.after,Region.binds .any e=true->e.on≠i)->z.apart ops g=true)->
   (∀(d:Array Bool) j g,ops[j]? =some g->j≠i->(∀k,d.getD k false=true->M k i=false)->M j i=false->(∀e∈g.after,Region.binds .any e=true->e.on≠i)->∀w w',T w->(nd d j=true->S w->S w')->T w')->
   i∈Region.ready .any ops d->YieldsIf P ops T z v a->T w->
   fx P ops Q S nd f (d.setIfInBounds i true) (a.put z.dst v) w->fx P ops Q S nd (f+1) d a w:=by
 intro f
 induction f with
 |zero=>
  intro d a w _ _ _ A hy hT H;refine⟨fun h=>(by rw[h] at A;cases A),fun j hj=>?_⟩;by_cases hji:j=i
  ·subst hji;exact hy.wpOp hi hT ⟨fun _ h=>h,H⟩
  ·have:=ready_mono hj hji;rw[H.1] at this
   cases this
 |succ f ih=>
  intro d a w hl q Y A hy hT H;refine⟨fun h=>(by rw[h] at A;cases A),fun j hj=>?_⟩;by_cases hji:j=i
  ·subst hji;exact hy.wpOp hi hT ⟨fun _ h=>h,H⟩
  ·have U:=H.2 j (ready_mono hj hji);obtain⟨x,g,p,n⟩:=mem_ready.1 hj;have y:=(mem_ready.1 A).1;have m:d.getD i false≠true:=fun U=>by
    rcases Q6 i d.size with C|C
    ·simp[C] at y U;rw[y] at U;cases U
    ·simp[J3 C] at U
   have r:∀e∈g.after,Region.binds .any e=true->e.on≠i:=fun e D J h5=>m (by rw[<-h5];exact n e D J);have Z:M j i=false:=by
    cases V:M j i
    ·rfl
    ·obtain⟨e,D,J,l⟩:=hM j g i p V;rcases l with l|l
     ·exact absurd l (r e D J)
     ·exact absurd (hl e.on (n e D J) i l) m
   have h6:=q j g p hji x Z r;have h2:=wpOp_putIf p h6 (fun cs b=>u i z cs b hi) (fun cs b=>u j g cs b p) hQ hy U;have h0:∀k,d.getD k false=true->M k i=false:=fun k s=>by
    cases V:M k i
    ·rfl
    ·exact absurd (hl k s i V) m
   have O:∀k,d.getD k false=true->(d.setIfInBounds j true).getD k false=true:=fun k s=>by
    by_cases hjk:j=k
    ·subst hjk;rcases Q6 j d.size with C|C
     ·simp[C]
     ·simp[J3 C] at s
    ·rw[getD_set_ne false hjk];exact s
   have h7:∀k,(d.setIfInBounds j true).getD k false=true->∀i,M k i=true->(d.setIfInBounds j true).getD i false=true:=fun k s i V=>by
    by_cases hjk:j=k
    ·subst hjk;obtain⟨e,D,J,l⟩:=hM j g i p V;rcases l with l|l
     ·rw[<-l];exact O _ (n e D J)
     ·exact O _ (hl e.on (n e D J) i l)
    ·rw[getD_set_ne false hjk] at s;exact O _ (hl k s i V)
   have t:∀k ok,ops[k]? =some ok->k≠i->(d.setIfInBounds j true).getD k true=false->M k i=false->
     (∀e∈ok.after,Region.binds .any e=true->e.on≠i)->z.apart ops ok=true:=fun k ok s h8 h4 h9 k0=>by
    refine q k ok s h8 ?_ h9 k0;by_cases hjk:j=k
    ·subst hjk;exact x
    ·rw[getD_set_ne true hjk] at h4;exact h4
   refine wpOp_mono (fun a' w' l=>⟨fun hn=>l.2.1 (by rw[X];exact hn),ih (d.setIfInBounds j true) a' w' h7 t Y (ready_mono A (Ne.symm hji)) l.1 (Y d j g p hji h0 Z r w w' hT (fun hn=>l.2.1 (by rw[X];exact hn))) ?_⟩) h2;rw[Array.setIfInBounds_comm _ _ hji];exact l.2.2
def CX{b:Array Bool}{a:Act}{w:World}(d:Region.ready .any ops b=[])(h:Q .normal a w):∀c,fx P ops Q S nd c b a w
 |0=>⟨d,h⟩
 |_+1=>⟨fun _=>h,by rw[d];simp⟩
end
def y8(n:Nat):zz->Array Bool
 |[]=>Array.replicate n false
 |i::r=>(y8 n r).setIfInBounds i true
abbrev Rs:=zz×zz×zz
def behind(ms:zz)(j i:Nat):Bool:=(ms.getD j 0).testBit i
def aO(ops:Array Oper)(rs:Rs)(listed:Array Bool)(j:Nat):Bool:=rs.1.any fun i=>i !=j&&(match ops[j]? with
 |some oj=>!(oj.after.any (fun e=>Region.binds .any e&&e.on==i)||behind rs.2.1 j i)
 |none=>false)&&!rs.2.2.any fun k=>listed.getD k false&&behind rs.2.1 k i
def fJ{ops:Array Oper}{b:Rs}{i:Nat}(h:b.2.2.contains i=false)(a:Array Bool)(j:Nat):aO ops b (a.setIfInBounds i true) j=aO ops b a j:=by
 have c:∀x,(b.2.2.any fun k=>(a.setIfInBounds i true).getD k false&&behind b.2.1 k x)=(b.2.2.any fun k=>a.getD k false&&behind b.2.1 k x):=fun x=>by
  have:∀l:zz,l.contains i=false->(l.any fun k=>(a.setIfInBounds i true).getD k false&&behind b.2.1 k x)=(l.any fun k=>a.getD k false&&behind b.2.1 k x):=by
   intro l
   induction l with
   |nil=>intro _;rfl
   |cons k r ih=>
    intro hc;rw[Ws,Zw] at hc;rw[List.any_cons,List.any_cons,ih hc.2,getD_set_ne false (by intro e;subst e;simp at hc)]
  exact this _ h
 unfold aO;simp only[c]
def Sh(ms:zz)(oj:Oper):Nat:=oj.after.toList.foldr (fun e m=>if Region.binds .any e then Nat.lor m (Nat.lor (2^e.on) (ms.getD e.on 0)) else m) 0
def Ph(ops:Array Oper)(ms:zz):Bool:=(List.range ms.length).all fun j=>match ops[j]? with
 |some oj=>Nat.beq (Nat.land (ms.getD j 0) (Sh ms oj)) (ms.getD j 0)
 |none=>true
def tG(done:zz):Nat:=done.foldr (fun k m=>Nat.lor m (2^k)) 0
def yj(n:Nat)(ms:zz)(done:zz):Bool:=done.all fun k=>Nat.beq (Nat.land (ms.getD k 0) (tG done)) (ms.getD k 0)&&Nat.blt k n
def AE{a b i:Nat}(h:Nat.beq (Nat.land a b) a=true)(ha:a.testBit i=true):b.testBit i=true:=by
 have c:=Qu h;rw[<-c] at ha;have:(a&&&b).testBit i=true:=ha;rw[Nat.testBit_and,jw] at this;exact this.2
def CY{c:zz}{j:Oper}{i:Nat}(h:(Sh c j).testBit i=true):∃e∈j.after,Region.binds .any e=true/\(e.on=i\/behind c e.on i=true):=by
 have d:∀l:List Edge,(l.foldr (fun e m=>if Region.binds .any e then Nat.lor m (Nat.lor (2^e.on) (c.getD e.on 0)) else m) 0).testBit i=true->∃e∈l,Region.binds .any e=true/\(e.on=i\/behind c e.on i=true):=by
  intro l
  induction l with
  |nil=>intro h;simp at h
  |cons e r ih=>
   intro h;rw[List.foldr_cons] at h;split at h
   ·rename_i k;have a:((r.foldr (fun e m=>if Region.binds .any e then Nat.lor m (Nat.lor (2^e.on) (c.getD e.on 0)) else m) 0)|||(2^e.on|||c.getD e.on 0)).testBit i=true:=h;rw[Nat.testBit_or,Nat.testBit_or,Zh,Zh] at a;rcases a with a|a|a
    ·obtain⟨f,b,g⟩:=ih a;exact⟨f,.tail _ b,g⟩
    ·rw[Nat.testBit_two_pow] at a;exact⟨e,.head _,k,.inl (zy a)⟩
    ·exact⟨e,.head _,k,.inr a⟩
   ·obtain⟨f,b,g⟩:=ih h;exact⟨f,.tail _ b,g⟩
 obtain⟨e,n,o⟩:=d _ h;exact⟨e,by simpa using n,o⟩
def CZ{ops:Array Oper}{a:zz}(h:Ph ops a=true)(j:Nat)(c:Oper)(i:Nat)(f:ops[j]? =some c)(b:behind a j i=true):∃e∈c.after,Region.binds .any e=true/\(e.on=i\/behind a e.on i=true):=by
 unfold behind at b;by_cases hl:j<a.length
 ·simp only[Ph,Q1,List.mem_range] at h;have d:=h j hl;rw[f] at d;exact CY (AE d b)
 ·rw[z8,List.getElem?_eq_none qb] at b;simp at b
def vG{done:zz}{i:Nat}(h:(tG done).testBit i=true):i∈done:=by
 induction done with
 |nil=>simp[tG] at h
 |cons k r ih=>
  have a:(tG r|||2^k).testBit i=true:=h;rw[Nat.testBit_or,Zh] at a;rcases a with a|a
  ·exact .tail _ (ih a)
  ·rw[Nat.testBit_two_pow] at a;rw[<-zy a];exact .head _
class HM(P:zj):Prop where
 h:P.follows .mixedOrders=true
def N1.mem{H H' a:List As}{x:As}(u:N1 H x a H'):x∈H:=by
 induction u with
 |hereN=>simp
 |del=>simp
 |here=>simp
 |there _ ih=>exact jn _ ih
def ou:∀{H:List As} {x:As},x∈H->∃H',N1 H x [] H'
 |y::r,x,h=>by
  rcases jv.1 h with rfl|h
  ·exact⟨_,.del⟩
  ·obtain⟨H',u⟩:=ou h;exact⟨_,.there u⟩
def Hp.only{F:l9}{w:World}{H:List As}{x:As}(h:Hp F w H)(hx:x∈H):Hp F w [x]:=by
 obtain⟨g,u⟩:=ou hx;obtain⟨a,c,d,e,_⟩:=h.focus u;exact⟨h.os,h.tape,h.output,h.keep,a,⟨a,[],by simp,c,rfl⟩,d,fun b f=>(e b f).1⟩
def P0(F:l9)(Hk:List As)(w:World):Prop:=∃X,Hp F w X/\∀x∈Hk,x∈X
def ov{F:l9}{H:List As}{w:World}(h:Hp F w H):P0 F H w:=⟨H,h,fun _ a=>a⟩
def ow{K R:A1}{E:List (Nat×A1)}{dst:Option Nat}{v:Value}(hE:E.lookup 1=none):∀c a w,MQ K E R (.panic c) (a.put dst v) w->MQ K E R (.panic c) a w:=fun c a w q=>by
 have e:(a.put dst v).defers=a.defers:=by cases dst<;>rfl
 rcases q with⟨k,u,b,f,d⟩|⟨k,u,b,_⟩
 ·rw[e] at d;exact .inl ⟨k,u,b,f,d⟩
 ·rw[hE] at b;cases b
def gy{K R:A1}{c:List PanicEntry}{a:Act}{w:World}(q:MQ K [] R (.panic c) a w):False:=by
 rcases q with⟨k,u,h,_⟩|⟨k,u,h,_⟩<;>cases h
def pE(E:List (Nat×A1)):List (Nat×A1):=match E.lookup 0 with
 |some k=>[(0,k)]
 |none=>[]
def AF{K b R d:A1}{E:List (Nat×A1)}{c:List PanicEntry}{a:Act}{w:World}(q:MQ K (pE E) R (.panic c) a w):MQ b E d (.panic c) a w:=by
 unfold pE at q
 cases e:E.lookup 0 with
 |none=>
  rw[e] at q;rcases q with⟨k,u,h,_⟩|⟨k,u,h,_⟩<;>cases h
 |some k=>
  rw[e] at q;rcases q with⟨f,u,h,g⟩|⟨f,u,h,_⟩
  ·injection h with h;subst h;exact .inl ⟨_,u,e,g⟩
  ·cases h
def GA(P:zj)(N:Nat)(ops:Array Oper)(rs:Rs)(Hk:List As)(n:Nat)(done:zz)(K:A1)(E:List (Nat×A1))(R:A1)(L:G9)(F:l9)(H:List As):Prop:=
 ∀a w,H5 N L a->Hp F w H->fx P ops (MQ K E R) (fun w=>P0 F Hk w) (aO ops rs) n (y8 ops.size done) a w
section
variable{P:zj}{N:Nat}{K R:A1}{E:List (Nat×A1)}{L:G9}{F:l9}{H Hk:List As}{ops:Array Oper}{rs:Rs}{done:zz}{n d:Nat}
def yk{id:Nat}{l:List Oper}[hm:HM P](b:Rs)(c:List As)(n:Nat)(d:n=l.toArray.size)(h:GA P N l.toArray b c n [] K E R L F H):G P N (.region id l.toArray true) K E R L F H:=fun a w hf e=>by
 subst d;exact wp_region_any hm.h (fI _ _ _ _ (h a _ hf e.drew))
def gz{id:Nat}{l:List Oper}[hm:HM P](a:Rs)(n:Nat)(b:n=l.toArray.size)(h:GA P N l.toArray a H n [] K E R L F H):G P N (.region id l.toArray true) K E R L F H:=yk a H n b h
def O4(ops:Array Oper)(rs:Rs)(done:zz)(i:Nat):Bool:=!rs.2.2.contains i&&Region.noSelect ops&&Region.free .any ops (y8 ops.size done) i&&(Region.ready .any ops (y8 ops.size done)).contains i
def AG(i:Nat){o:Oper}{v:Value}(m:ops[i]? =some o)(s:E5 P o L v)(hg:o.guard=none)(b:o.dst=some d)(p:Nat.blt d N=true)(hc:O4 ops rs done i=true)(h:GA P N ops rs Hk n (i::done) K E R ((d,v)::L) F H)(hE:E.lookup 1=none:=by rfl):GA P N ops rs Hk (n+1) done K E R L F H:=fun a w hf q=>by
 simp only[O4,jw] at hc;obtain⟨⟨⟨c,hs⟩,f⟩,r⟩:=hc;have e:=hf.put p v;refine eS (T:=fun _=>True) (v:=v) m (Region.noSelect_spec hs) (ow hE) (fJ (by simpa using c)) n _ a w (fun j t u g k l=>⟨Region.free_spec m f j t u g k l,fun _ _ _=>trivial⟩) (by simpa using r)
  (.inl ⟨by simp[Region.wanted,hg],fun w _=>s _ _ hf.agr⟩) trivial ?_
 rw[b];exact h _ _ e q
def dG{n:Nat}:∀{done:zz} {k:Nat},((y8 n done).getD k false=true->k∈done)/\(k∈done->k<n->(y8 n done).getD k false=true)
 |[],k=>by
  refine⟨fun h=>?_,fun h=>by cases h⟩;rcases Q6 k n with c|c<;>simp[y8,c] at h
 |i::r,k=>by
  have a:=dG (n:=n) (done:=r) (k:=k);have hs:∀l,(y8 n l).size=n:=by
   intro l;induction l with
   |nil=>simp[y8]
   |cons x r a=>simp[y8,a]
  by_cases e:i=k
  ·subst e;refine⟨fun _=>.head _,fun _ b=>?_⟩;simp[y8,hs,b]
  ·have d:(y8 n (i::r)).getD k false=(y8 n r).getD k false:=by
    show((y8 n r).setIfInBounds i true).getD k false=_;exact getD_set_ne false e
   rw[d];refine⟨fun h=>.tail _ (a.1 h),fun h b=>?_⟩;rcases jv.1 h with h|h
   ·exact absurd h.symm e
   ·exact a.2 h b
def vH{n:Nat}{a done:zz}(h:yj n a done=true)(k:Nat)(c:(y8 n done).getD k false=true)(i:Nat)(d:behind a k i=true):(y8 n done).getD i false=true:=by
 simp only[yj,Q1,jw] at h;have b:=vG (AE (h k (dG.1 c)).1 d);refine dG.2 b ?_;have:=(h i b).2;simpa[K2] using this
def an(ops:Array Oper)(rs:Rs)(done:zz)(i:Nat):Bool:=O4 ops rs done i&&(Ph ops rs.2.1&&yj ops.size rs.2.1 done)&&rs.1.contains i
def KZ{ops:Array Oper}{b:Rs}{i j:Nat}{c:Oper}{a:Array Bool}(h:b.1.contains i=true)(m:ops[j]? =some c)(f:j≠i)(hc:∀k,a.getD k false=true->behind b.2.1 k i=false)(n:behind b.2.1 j i=false)(g:∀e∈c.after,Region.binds .any e=true->e.on≠i):aO ops b a j=true:=by
 unfold aO;rw[Jd];refine⟨i,by simpa using h,?_⟩;rw[m];have o:(c.after.any fun e=>Region.binds .any e&&e.on==i)=false:=by
  cases e:(c.after.any fun e=>Region.binds .any e&&e.on==i)
  ·rfl
  ·obtain⟨x,p,l⟩:=Array.any_eq_true'.1 e;simp only[jw,Wr] at l;exact absurd l.2 (g x p l.1)
 have q:(b.2.2.any fun k=>a.getD k false&&behind b.2.1 k i)=false:=by
  rw[W6];intro k _ d;rw[jw] at d;rw[hc k d.1] at d
  cases d.2
 simp only[o,q,n,Bool.or_false,Bool.not_false,Bool.and_true,bne_iff_ne,ne_eq];exact fun e=>f e.symm
def dT(i:Nat){o:Oper}{v:Value}(y:ops[i]? =some o)(s:∀ρ w,FD L ρ->P0 F Hk w->(execOp ρ o).run P w=.ok (.value v) w)(hg:∀a,H5 N L a->Region.wanted o (yielded ops a.tmps)=true)(e:o.dst=some d)(C:Nat.blt d N=true)(hc:an ops rs done i=true)(D:∀w,Hp F w H->P0 F Hk w)(h:GA P N ops rs Hk n (i::done) K E R ((d,v)::L) F H)(hE:E.lookup 1=none:=by rfl):GA P N ops rs Hk (n+1) done K E R L F H:=fun a w hf z=>by
 simp only[an,jw] at hc;obtain⟨⟨f,k,m⟩,p⟩:=hc;simp only[O4,jw] at f;obtain⟨⟨⟨g,hs⟩,q⟩,J⟩:=f;refine vF (T:=fun w=>P0 F Hk w) (v:=v) (M:=behind rs.2.1) y (Region.noSelect_spec hs) (ow hE) (fJ (by simpa using g)) (CZ k) n _ a w (vH m)
  (fun j A r b t _ c=>Region.free_spec y q j A r b t c) (fun l j A r b u x c U V O Q=>Q (KZ p r b u x c) O) (by simpa using J)
  (.inl ⟨hg a hf,fun w S=>s _ _ hf.agr S⟩) (D w z) ?_
 rw[e];exact h _ _ (hf.put C v) z
def fK{o:Oper}(hg:o.guard=none)(a:Act):Region.wanted o (yielded ops a.tmps)=true:=by simp[Region.wanted,hg]
def eT{o c:Oper}{j t:Nat}{b:Bool}{a:Act}(hg:o.guard=some (j,b))(d:ops[j]? =some c)(e:c.dst=some t)(hv:find L t=some (.bool b))(hf:H5 N L a):Region.wanted o (yielded ops a.tmps)=true:=by
 have f:a.tmps[t]? =some (.bool b):=hf.at_ _ _ hv;simp[Region.wanted,hg,yielded,d,e,f]
def bU(i:Nat){o:Oper}{v:Value}{x:As}{H':List As}(e:ops[i]? =some o)(u:N1 H x [] H')(s:dF P o L F [x] v)(hg:o.guard=none)(b:o.dst=some d)(f:Nat.blt d N=true)(hc:an ops rs done i=true)(h:GA P N ops rs H n (i::done) K E R ((d,v)::L) F H)(hE:E.lookup 1=none:=by rfl):GA P N ops rs H (n+1) done K E R L F H:=
 dT i e (fun ρ w ha ⟨X,g,c⟩=>s ρ w ha (g.only (c x u.mem))) (fun a _=>fK hg a) b f hc (fun w j=>ov j) h hE
def o7(i:Nat){o:Oper}{v:Value}{x:As}(e:ops[i]? =some o)(hx:x∈Hk)(s:dF P o L F [x] v)(f:∀y∈Hk,y∈H)(hg:o.guard=none)(b:o.dst=some d)(g:Nat.blt d N=true)(hc:an ops rs done i=true)(h:GA P N ops rs Hk n (i::done) K E R ((d,v)::L) F H)(hE:E.lookup 1=none:=by rfl):GA P N ops rs Hk (n+1) done K E R L F H:=
 dT i e (fun ρ w ha ⟨X,j,c⟩=>s ρ w ha (j.only (c x hx))) (fun a _=>fK hg a) b g hc (fun w k=>⟨H,k,f⟩) h hE
def A9(i:Nat){o:Oper}{v:Value}(c:ops[i]? =some o)(s:dF P o L F [] v)(e:∀y∈Hk,y∈H)(hg:o.guard=none)(b:o.dst=some d)(f:Nat.blt d N=true)(hc:an ops rs done i=true)(h:GA P N ops rs Hk n (i::done) K E R ((d,v)::L) F H)(hE:E.lookup 1=none:=by rfl):GA P N ops rs Hk (n+1) done K E R L F H:=
 dT i c (fun ρ w ha ⟨X,g,_⟩=>s ρ w ha g.dropAll) (fun a _=>fK hg a) b f hc (fun w j=>⟨H,j,e⟩) h hE
def Da(i:Nat){o f:Oper}{v:Value}{x:As}{H':List As}{j t:Nat}{b:Bool}(g:ops[i]? =some o)(u:N1 H x [] H')(s:dF P o L F [x] v)(hg:o.guard=some (j,b))(k:ops[j]? =some f)(l:f.dst=some t)(hv:find L t=some (.bool b))(c:o.dst=some d)(m:Nat.blt d N=true)(hc:an ops rs done i=true)(h:GA P N ops rs H n (i::done) K E R ((d,v)::L) F H)(hE:E.lookup 1=none:=by rfl):GA P N ops rs H (n+1) done K E R L F H:=
 dT i g (fun ρ w ha ⟨X,p,e⟩=>s ρ w ha (p.only (e x u.mem))) (fun a hf=>eT hg k l hv hf) c m hc (fun w q=>ov q) h hE
def iE(i:Nat){o e:Oper}{v:Value}{j t:Nat}{b:Bool}(f:ops[i]? =some o)(s:dF P o L F [] v)(g:∀y∈Hk,y∈H)(hg:o.guard=some (j,b))(k:ops[j]? =some e)(l:e.dst=some t)(hv:find L t=some (.bool b))(c:o.dst=some d)(m:Nat.blt d N=true)(hc:an ops rs done i=true)(h:GA P N ops rs Hk n (i::done) K E R ((d,v)::L) F H)(hE:E.lookup 1=none:=by rfl):GA P N ops rs Hk (n+1) done K E R L F H:=
 dT i f (fun ρ w ha ⟨X,p,_⟩=>s ρ w ha p.dropAll) (fun a hf=>eT hg k l hv hf) c m hc (fun w q=>⟨H,q,g⟩) h hE
def G4(i:Nat){o f:Oper}{v:Value}{j t:Nat}{b:Bool}(q:ops[i]? =some o)(s:E5 P o L v)(hg:o.guard=some (j,b))(g:ops[j]? =some f)(r:f.dst=some t)(hv:find L t=some (.bool b))(c:o.dst=some d)(u:Nat.blt d N=true)(hc:O4 ops rs done i=true)(h:GA P N ops rs Hk n (i::done) K E R ((d,v)::L) F H)(hE:E.lookup 1=none:=by rfl):GA P N ops rs Hk (n+1) done K E R L F H:=fun a w hf x=>by
 simp only[O4,jw] at hc;obtain⟨⟨⟨e,hs⟩,k⟩,y⟩:=hc;refine eS (T:=fun _=>True) (v:=v) q (Region.noSelect_spec hs) (ow hE) (fJ (by simpa using e)) n _ a w (fun j f g l m p=>⟨Region.free_spec q k j f g l m p,fun _ _ _=>trivial⟩) (by simpa using y)
  (.inl ⟨eT hg g r hv hf,fun w _=>s _ _ hf.agr⟩) trivial ?_
 rw[c];exact h _ _ (hf.put u v) x
def AH(i:Nat){o g:Oper}{j t:Nat}{b q:Bool}(s:ops[i]? =some o)(hg:o.guard=some (j,b))(k:ops[j]? =some g)(u:g.dst=some t)(hv:find L t=some (.bool q))(c:q=!b)(e:o.dst=some d)(x:Nat.blt d N=true)(hc:O4 ops rs done i=true)(h:GA P N ops rs Hk n (i::done) K E R ((d,undef)::L) F H)(hE:E.lookup 1=none:=by rfl):GA P N ops rs Hk (n+1) done K E R L F H:=fun a w hf y=>by
 simp only[O4,jw] at hc;obtain⟨⟨⟨f,hs⟩,l⟩,z⟩:=hc;have A:a.tmps[t]? =some (.bool q):=hf.at_ _ _ hv;have m:Region.wanted o (yielded ops a.tmps)=false:=by
  subst c;simp[Region.wanted,hg,yielded,k,u,A]
 refine eS (T:=fun _=>True) (v:=undef) s (Region.noSelect_spec hs) (ow hE) (fJ (by simpa using f)) n _ a w (fun j g k c p r=>⟨Region.free_spec s l j g k c p r,fun _ _ _=>trivial⟩) (by simpa using z)
  (.inr ⟨m,rfl⟩) trivial ?_
 rw[e];exact h _ _ (hf.put x undef) y
def ox(i:Nat){o f:Oper}{j t:Nat}{b:Bool}(r:ops[i]? =some o)(hg:o.guard=some (j,b))(g:ops[j]? =some f)(s:f.dst=some t)(hv:find L t=some undef)(c:o.dst=some d)(u:Nat.blt d N=true)(hc:O4 ops rs done i=true)(h:GA P N ops rs Hk n (i::done) K E R ((d,undef)::L) F H)(hE:E.lookup 1=none:=by rfl):GA P N ops rs Hk (n+1) done K E R L F H:=fun a w hf x=>by
 simp only[O4,jw] at hc;obtain⟨⟨⟨e,hs⟩,k⟩,y⟩:=hc;have z:a.tmps[t]? =some undef:=hf.at_ _ _ hv;have l:Region.wanted o (yielded ops a.tmps)=false:=by
  simp[Region.wanted,hg,yielded,g,s,z,undef]
 refine eS (T:=fun _=>True) (v:=undef) r (Region.noSelect_spec hs) (ow hE) (fJ (by simpa using e)) n _ a w (fun j f g m p q=>⟨Region.free_spec r k j f g m p q,fun _ _ _=>trivial⟩) (by simpa using y)
  (.inr ⟨l,rfl⟩) trivial ?_
 rw[c];exact h _ _ (hf.put u undef) x
def h_(i:Nat){o:Oper}(p:ops[i]? =some o)(s:(Region.ready .any ops (y8 ops.size done)==[i])=true)(h:GL P N ops [o] (fun a w=>(aO ops rs (y8 ops.size done) i=true->True->P0 F Hk w)/\fx P ops (MQ K E R) (fun w=>P0 F Hk w) (aO ops rs) n (y8 ops.size (i::done)) a w) (pE E) (fun _ _=>False) L F H):GA P N ops rs Hk (n+1) done K E R L F H:=fun a w hf t=>by
 have k:=Wr.1 s;refine⟨fun u=>(by rw[u] at k;cases k),fun j l=>?_⟩;rw[k] at l;simp at l;subst l;have b:=h a w hf t;unfold wpList at b;unfold wpOp;rw[p]
 dsimp only
 split
 ·rename_i d;rw[zr d] at b;rcases b with b|⟨_,y,z,q⟩
  ·refine .inl ?_;unfold Oper.wp at b⊢;generalize (execOp a.eval o).run P w=r at b⊢
   cases r with
   |ok x w'=>
    cases x<;>simp only[Oper.upon] at b⊢
    case value v=>exact⟨fun g _=>b.1 g trivial,b.2⟩
    case skip=>exact⟨fun g _=>b.1 g trivial,b.2⟩
    case defer dd=>exact⟨fun g _=>b.1 g trivial,b.2⟩
    case enter f args=>
     refine b.mono fun e m q=>?_
     cases e with
     |returned v=>exact⟨fun g _=>q.1 g trivial,q.2⟩
     |panicked c=>exact AF q
     |outgrown=>obtain⟨y,z,q⟩:=q;exact q.elim
    case row row args=>exact b.mono fun v m q=>⟨fun g _=>q.1 g trivial,q.2⟩
   |halt x w'=>cases x<;>simp only[Oper.upon] at b⊢ <;>first|exact b.elim|exact AF b
  ·exact q.elim
 ·rename_i d;rw[zb d] at b;exact⟨fun g _=>b.1 g trivial,b.2⟩
def dU{i:Nat}{L':G9}{H':List As}(e:aO ops rs (y8 ops.size done) i=false\/∀w,Hp F w H'->P0 F Hk w)(h:GA P N ops rs Hk n (i::done) K E R L' F H'):
  At N (fun a w=>(aO ops rs (y8 ops.size done) i=true->True->P0 F Hk w)/\fx P ops (MQ K E R) (fun w=>P0 F Hk w) (aO ops rs) n (y8 ops.size (i::done)) a w) L' F H':=fun a w hf c=>
 ⟨fun d _=>by rcases e with b|b;(rw[b] at d;cases d);exact b w c,h a w hf c⟩
def La(b:Region.ready .any ops (y8 ops.size done)=[])(h:At N K L F H):GA P N ops rs Hk n done K E R L F H:=fun a w hf c=>CX b (h a w hf c) n
end
open Go Go.RowKit
section
variable{P:zj}{N:Nat}{K R:A1}{E:List (Nat×A1)}{L:G9}{F:l9}{H:List As}{ops:Array Oper}{rest:List Oper}{ty:zk}{pos:String}{af:Array Edge}{dst:Option Nat}{gd:Option (Nat×Bool)}
variable{x y:zw}{t t':zk}
def Z_{ds:TypeDesc}{v:Value}[hu:HU P t ds](a:∀b,ds≠ .interface b)(hx:ev L x=some v):E5 P ⟨dst,.makeInterface t x,ty,pos,af,gd⟩ L (.iface t v):=
 (fun ρ w hf=>by
  cases ds<;>first|(exact absurd rfl (a _))|simp[execOp,Instr.makeInterface,hf _ _ hx,run_underlying hu.h])
def rf{ds:TypeDesc}{v:Value}[hu:HU P t ds](a:∀b,ds≠ .interface b)(hx:ev L x=some (.iface t v)):E5 P ⟨dst,.typeAssert x t' t true,ty,pos,af,gd⟩ L (.tuple #[v,.bool true]):=
 (fun ρ w hf=>by
  cases ds<;>first|(exact absurd rfl (a _))|simp[execOp,Instr.typeAssert,hf _ _ hx,run_underlying hu.h])
def x8{c:Code}(L':G9)(H':List As)(b:G P N c (fun a w=>H5 N L' a/\Hp F w H') E R L F H)(d:At N K L' F H'):G P N c K E R L F H:=fun a w hf f=>
 Code.wp_mono (fun e a w q=>by
  cases e with
  |normal=>exact d a w q.1 q.2
  |_=>exact q) (b a w hf f)
def p_{L':G9}{H':List As}(hs:fE L' L)(hH:∀w,Hp F w H->Hp F w H'):At N (fun a w=>H5 N L' a/\Hp F w H') L F H:=fun a w hf b=>⟨hf.sub hs,hH w b⟩
end
open Go Go.RowKit
class HE(P:zj)(t:zk):Prop where
 g:P.eqGuardType P.depth t=false
 s:P.stoodInHeld t=false
inductive im (P:zj):List Field->Array Value->Array Value->Bool->Prop
 |nil {xs ys}:im P [] xs ys true
 |int {f fs xs ys} {k k':IntKind} {a b:Int} {q:Bool} [hu:HU P f.type (.int k')] [ha:HA P f.type false] (hn:f.name≠ "_") (hx:xs[f.offset]? =some (.int k a)) (hy:ys[f.offset]? =some (.int k b)) (r:im P fs xs ys q):im P (f::fs) xs ys (decide (a=b)&&q)
 |str {f fs xs ys} {a b:List UInt8} {q:Bool} [hu:HU P f.type .string] [ha:HA P f.type false] (hn:f.name≠ "_") (hx:xs[f.offset]? =some (B a)) (hy:ys[f.offset]? =some (B b)) (r:im P fs xs ys q):im P (f::fs) xs ys (decide (a=b)&&q)
 |bool {f fs xs ys} {a b:Bool} {q:Bool} [hu:HU P f.type .bool] [ha:HA P f.type false] (hn:f.name≠ "_") (hx:xs[f.offset]? =some (.bool a)) (hy:ys[f.offset]? =some (.bool b)) (r:im P fs xs ys q):im P (f::fs) xs ys ((a==b)&&q)
def cj{P:zj}{t:zk}{cs:Array Value}{a:Nat}{v:Value}[ha:HA P t false](h:cs[a]? =some v)(w:World):(part t cs a).run P w=.ok v w:=by
 simp[part,ha.h,h]
def im.run{P:zj}{fs:List Field}{xs c:Array Value}{q:Bool}(h:im P fs xs c q)(d:Nat)(w:World):(Op.eqFields (d+1) xs c fs).run P w=.ok q w:=by
 induction h with
 |nil=>simp[Op.eqFields]
 |@int f fs xs c k k' a b q hu ha hn hx hy r ih=>
  have g:=run_equalIn_int (P:=P) w d f.type k k' a b hu.h;have e:(a==b)=decide (a=b):=rfl;simp only[Op.eqFields,zr hn,Sem.run_bind,cj hx,cj hy,Result.andThen_ok,g,e];by_cases hab:a=b
  ·simp[hab,ih]
  ·simp[hab]
 |@str f fs xs c a b q hu ha hn hx hy r ih=>
  have g:=run_equalIn_string (P:=P) w d f.type ⟨a.toArray⟩ ⟨b.toArray⟩ hu.h;have e:((⟨a.toArray⟩:ByteArray).toList==(⟨b.toArray⟩:ByteArray).toList)=decide (a=b):=by
   rw[Z5];simp
  simp only[Op.eqFields,zr hn,Sem.run_bind,cj hx,cj hy,Result.andThen_ok,g,e];by_cases hab:a=b
  ·simp[hab,ih]
  ·simp[hab]
 |@bool f fs xs c a b q hu ha hn hx hy r ih=>
  have g:=run_equalIn_bool (P:=P) w d f.type a b hu.h;simp only[Op.eqFields,zr hn,Sem.run_bind,cj hx,cj hy,Result.andThen_ok,g];by_cases hab:a=b
  ·simp[hab,ih]
  ·have:(a==b)=false:=(by cases a<;>cases b<;>simp_all);simp[this]
section
variable{P:zj}{N:Nat}{K R:A1}{E:List (Nat×A1)}{L:G9}{F:l9}{H:List As}{ops:Array Oper}{rest:List Oper}{ty:zk}{pos:String}{af:Array Edge}{dst:Option Nat}{gd:Option (Nat×Bool)}
variable{x y:zw}{t t':zk}
def lZ{fs:Array Field}(h:P.underlying t=some (.struct fs)):P.fieldsOf t=fs:=by simp[Program.fieldsOf,h]
def ao{fs:Array Field}{xs a:Array Value}{q:Bool}[hu:HU P t (.struct fs)][he:HE P t](hx:ev L x=some (.agg xs))(c:ev L y=some (.agg a))(h:im P fs.toList xs a q):E5 P ⟨dst,.binOp .neq t x y t',ty,pos,af,gd⟩ L (.bool (!q)):=
 L8 hx c (fun w=>by
  have b:=run_equalIn_struct (P:=P) w 9999 t xs a (by rw[lZ hu.h];exact hu.h) he.s;rw[lZ hu.h,h.run] at b;rw[Sem.run_bind,run_eqGuard_agg w .neq t x y xs a he.g,Result.andThen_ok,run_neq_struct,b];rfl)
def N3{d:Nat}{e:zk}{sz:Nat}[hu:HU P t (.slice e)][hs:HS P e sz](b:Nat.blt d N=true)(h:∀a,GL P N ops rest K E R ((d,.slice a 0 0)::L) F (.own (.slice a 0 0) e sz []::H)):GL P N ops (⟨some d,.buildSlice t 0 #[],ty,pos,af,none⟩::rest) K E R L F H:=
 T4 rfl rfl b fun g w hf c=>by
  refine⟨.slice (some ⟨w.heap.size,0,none⟩) 0 0,w.alloc (.cells #[] e),_,?_,?_,h _⟩
  ·simp[execOp,Instr.buildSlice,run_underlying hu.h,hs.h,Instr.fill,newRow];have f:Array.map (fun _=>(default:Value)) (Array.range 0)=#[]:=(by apply Wk;simp);rw[f]
  ·exact P9 (xs:=[]) (post:=[]) (fr:=(0,0)) c qc qc (kp _) (.inl (kp _)) qc
def cw{i n:Nat}{o:Oper}{h:List As}{j:Rs}{done:zz}(l:ops[i]? =some o){a:Act}{w:World}(b:wpList P ops (MQ (fun a w=>(aO ops j (y8 ops.size done) i=true->True->P0 F h w)/\fx P ops (MQ K E R) (fun w=>P0 F h w) (aO ops j) n (y8 ops.size (i::done)) a w) (pE E) (fun _ _=>False)) [o] a w):
  wpOp P ops (MQ K E R) i (fun m w'=>(aO ops j (y8 ops.size done) i=true->P0 F h w->P0 F h w')/\fx P ops (MQ K E R) (fun w=>P0 F h w) (aO ops j) n ((y8 ops.size done).setIfInBounds i true) m w') a w:=by
 unfold wpList at b;unfold wpOp;rw[l]
 dsimp only
 split
 ·rename_i d;rw[zr d] at b;rcases b with b|⟨_,p,s,q⟩
  ·refine .inl ?_;unfold Oper.wp at b⊢;generalize (execOp a.eval o).run P w=r at b⊢
   cases r with
   |ok x w'=>
    cases x<;>simp only[Oper.upon] at b⊢
    case value v=>exact⟨fun g _=>b.1 g trivial,b.2⟩
    case skip=>exact⟨fun g _=>b.1 g trivial,b.2⟩
    case defer dd=>exact⟨fun g _=>b.1 g trivial,b.2⟩
    case enter f args=>
     refine b.mono fun e k q=>?_
     cases e with
     |returned v=>exact⟨fun g _=>q.1 g trivial,q.2⟩
     |panicked c=>exact AF q
     |outgrown=>obtain⟨p,s,q⟩:=q;exact q.elim
    case row row args=>exact b.mono fun v k q=>⟨fun g _=>q.1 g trivial,q.2⟩
   |halt x w'=>cases x<;>simp only[Oper.upon] at b⊢ <;>first|exact b.elim|exact AF b
  ·exact q.elim
 ·rename_i d;rw[zb d] at b;exact⟨fun g _=>b.1 g trivial,b.2⟩
variable{Hk:List As}{rs:Rs}{done:zz}{n:Nat}
def S4(i j:Nat){o d:Oper}(f:ops[i]? =some o)(g:ops[j]? =some d)(k:(Region.ready .any ops (y8 ops.size done)==[i,j])=true)(h:GL P N ops [o] (fun a w=>(aO ops rs (y8 ops.size done) i=true->True->P0 F Hk w)/\fx P ops (MQ K E R) (fun w=>P0 F Hk w) (aO ops rs) n (y8 ops.size (i::done)) a w) (pE E) (fun _ _=>False) L F H)(l:GL P N ops [d] (fun a w=>(aO ops rs (y8 ops.size done) j=true->True->P0 F Hk w)/\fx P ops (MQ K E R) (fun w=>P0 F Hk w) (aO ops rs) n (y8 ops.size (j::done)) a w) (pE E) (fun _ _=>False) L F H):GA P N ops rs Hk (n+1) done K E R L F H:=fun a w hf e=>by
 have b:=Wr.1 k;refine⟨fun m=>(by rw[m] at b;cases b),fun q c=>?_⟩;rw[b] at c;simp at c;rcases c with rfl|rfl
 ·exact cw f (h a w hf e)
 ·exact cw g (l a w hf e)
end
section
variable{P:zj}{N:Nat}{K R:A1}{E:List (Nat×A1)}{L:G9}{F:l9}{H:List As}{ops:Array Oper}{rest:List Oper}
end
open Go Go.RowKit
section
variable{P:zj}{N:Nat}{K R:A1}{E:List (Nat×A1)}{L:G9}{F:l9}{H:List As}{ops:Array Oper}{rest:List Oper}{ty:zk}{pos:String}{af:Array Edge}{dst:Option Nat}{gd:Option (Nat×Bool)}
variable{x y:zw}{t t':zk}
def rh(op:BinOp)(a b:qr)(n c m d:Nat):eqGuard op t x y (.slice a n c) (.slice b m d)=pure ():=by cases op<;>rfl
def jC{e:zk}(hu:P.underlying t=some (.slice e))(w:World)(a:qr)(n c:Nat)(d:Nat):(Op.equalIn (d+1) t (.slice a n c) (.slice none 0 0)).run P w=.ok a.isNone w:=by
 cases a<;>simp[Op.equalIn,run_underlying hu]
def md{a:qr}{n c:Nat}{e:zk}[hu:HU P t (.slice e)](hx:ev L x=some (.slice a n c))(b:ev L y=some (.slice none 0 0)):E5 P ⟨dst,.binOp .eql t x y t',ty,pos,af,gd⟩ L (.bool a.isNone):=
 L8 hx b (fun w=>by
  rw[rh];simp only[binOp];simp[Op.equal,Op.maxDepth,jC hu.h w a n c 9999])
end
def Hp.left{F:l9}{w:World}{A R:List As}(h:Hp F w (A++R)):Hp F w A:=by
 obtain⟨e,hs,c,hf⟩:=h.own;obtain⟨d,f,rfl,ha,a⟩:=A_.split hs;exact⟨h.os,h.tape,h.output,h.keep,d,ha,(Qg.1 c).1,fun b a=>hf b (by simp[a])⟩
section
variable{P:zj}{N:Nat}{K R:A1}{E:List (Nat×A1)}{L:G9}{F:l9}{H:List As}{ops:Array Oper}{rest:List Oper}{ty:zk}{pos:String}{af:Array Edge}{dst:Option Nat}{gd:Option (Nat×Bool)}
variable{x y:zw}{t t':zk}
def A4{d:Nat}{f:FuncId}{args:List zw}{i:Array zk}{vs ps qs b:zq}{c:l_->Prop}{C:List As}{a:Value->List As->Prop}[hF:HF P f](Rr:List As)(hv:ev L x=some (.func (.func f) ps.toArray qs.toArray))(hx:rI L args=some vs)(e:ps++vs++qs=b)(hc:Ct P f b c C a)(hH:∀w,Hp F w H->Hp F w (C++Rr))(g:∀h,l_.le F.heap h->(∃bs,A_ h Rr bs)->c h)(j:Nat.blt d N=true)(h:∀v A,a v A->GL P N ops rest K E R ((d,v)::L) F (A++Rr)):GL P N ops (⟨some d,.call ⟨.value x,args.toArray,i⟩,ty,pos,af,none⟩::rest) K E R L F H:=
 vA rfl rfl j (fun ρ w hf=>by
  have k:=hf _ _ hv;have l:=bt hf hx;subst e;simp only[execOp,resolve,k,Deferred.ofValue,Zr,l,Sem.run_bind,Sem.run_pure,Result.andThen_ok,invoke];have:(ps.toArray++vs.toArray++qs.toArray:Array Value)=(ps++vs++qs).toArray:=by simp
  rw[this];exact hF.h _ w) hc hH g h
end
section
variable{P:zj}{N:Nat}{K R:A1}{E:List (Nat×A1)}{L:G9}{F:l9}{H:List As}{ops:Array Oper}{rest:List Oper}{ty:zk}{pos:String}{af:Array Edge}{dst:Option Nat}{gd:Option (Nat×Bool)}
variable{x y:zw}{t t':zk}
def i7{d:Nat}{cs:Array Value}[hz:HZ P t (.agg cs)](a:Nat.blt d N=true)(h:∀g,GL P N ops rest K E R ((d,.pointer (some ⟨g,0,none⟩))::L) F (.blk g (.cells cs t)::H)):
  GL P N ops (⟨some d,.alloc t,ty,pos,af,none⟩::rest) K E R L F H:=vz (z:=.agg cs) a h
def m8{d:Nat}{cs:Array Value}(hx:ev L x=some (.agg cs))(a:Nat.blt d N=true)(h:∀g,GL P N ops rest K E R ((d,.pointer (some ⟨g,0,none⟩))::L) F (.blk g (.cells cs t)::H)):
  GL P N ops (⟨some d,.box t x,ty,pos,af,none⟩::rest) K E R L F H:=FE (v:=.agg cs) hx a h
def me{b n:Nat}{cs:Array Value}{te:zk}{fr:Nat×Nat}{H':List As}[ha:HA P t true][hs:HS P t n](hx:ev L x=some (.pointer (some ⟨b,0,none⟩)))(u:N1 H (.blk b (.cells cs te fr)) [] H')(hv:Nat.beq n cs.size=true):dF P ⟨dst,.load t x,ty,pos,af,gd⟩ L F H (.agg cs):=by
 have a:=Qu hv;subst a;have h:=fF (P:=P) (F:=F) (dst:=dst) (ty:=ty) (pos:=pos) (af:=af) (gd:=gd) hx u (hs:=hs) (by simp[J0]);have e:(sl cs 0 cs.size).toArray=cs:=by
  apply Zv.1;simp only[sl,Kh,Jm];exact jm qc
 rwa [e] at h
def ri{b o:Nat}{v v0:Value}{pre post:zq}{te:zk}{H':List As}[hs:HS P t 1](hx:ev L x=some (.pointer (some ⟨b,o,none⟩)))(c:ev L y=some v)(u:N1 H (.blk b (.cells (pre++v0::post).toArray te (0,0))) [.blk b (.cells (pre++v::post).toArray te (0,0))] H')(d:Nat.beq o pre.length=true)(hc:v.cells=#[v])(f:v.oneCell'=true)(h:GL P N ops rest K E R L F H'):GL P N ops (⟨none,.store t x y,ty,pos,af,none⟩::rest) K E R L F H:=by
 have g:=Qu d;subst g;refine L1 (cs:=(pre++v0::post).toArray) (te:=te) (n:=1) hx c ?_ (by rw[hc];rfl) (fun q a=>by rw[hc] at a;simp at a;subst a;exact f) qc h;have e:eQ (pre++v0::post).toArray pre.length v.cells.toList=(pre++v::post).toArray:=by
  apply Zv.1;rw[hc];simp[eQ]
 rw[e];exact u
def H7{fn:Func}{a:Value->List As->Prop}{t n b:Nat}{d te:zk}{cs:Array Value}{fr:Nat×Nat}{H':List As}[ha:HA P d true][hs:HS P d n](f:fn.results=#[.cell t d])(hv:find L t=some (.pointer (some ⟨b,0,none⟩)))(u:N1 H (.blk b (.cells cs te fr)) [] H')(g:Nat.beq n cs.size=true)(A:List As)(c:a (.agg cs) A)(h:∀w,Hp F w H->Hp F w A):At N (dE P fn F a) L F H:=by
 have i:=Qu g;have e:sl cs 0 cs.size=cs.toList:=by
  simp only[sl,Kh];exact jm qc
 refine AB (cs:=cs.toList) (n:=n) f hv (fun w j=>by rw[<-e];exact Y9 (n:=cs.size) j u) (by simp[i]) A (by simpa using c) h
def D_{fn:Func}{c:Value->List As->Prop}{t n b t1:Nat}{g te:zk}{cs:Array Value}{fr:Nat×Nat}{H':List As}{f:Value}[ha:HA P g true][hs:HS P g n](l:fn.results=#[.cell t g,.tmp t1])(hv:find L t=some (.pointer (some ⟨b,0,none⟩)))(h:find L t1=some f)(u:N1 H (.blk b (.cells cs te fr)) [] H')(m:Nat.beq n cs.size=true)(A:List As)(d:c (.tuple #[.agg cs,f]) A)(o:∀w,Hp F w H->Hp F w A):At N (dE P fn F c) L F H:=fun a w hf j=>by
 have p:=Qu m;have e:sl cs 0 cs.size=cs.toList:=by
  simp only[sl,Kh];exact jm qc
 obtain⟨y,i,hc⟩:=Y9 (n:=cs.size) j u;injection i with i;subst i;rw[e] at hc;have k:=E2 (P:=P) hc;have q:a.tmps.getD t undef=.pointer (some ⟨b,0,none⟩):=hf.eval (x:=.tmp t) hv;have r:a.tmps.getD t1 undef=f:=hf.eval (x:=.tmp t1) h;subst p;refine⟨.tuple #[.agg cs,f],A,?_,d,o w j,hf.defers⟩;have s:a.tmps[t]?.getD undef=.pointer (some ⟨b,0,none⟩):=by simpa using q
 have v:a.tmps[t1]?.getD undef=f:=by simpa using r
 simp at k;simp[results,l,s,v,asAddr,loadVar,ha.h,hs.h,k]
def FK{fn:Func}{c:Value->List As->Prop}{t n b t1 t2:Nat}{g te:zk}{cs:Array Value}{fr:Nat×Nat}{H':List As}{f v2:Value}[ha:HA P g true][hs:HS P g n](m:fn.results=#[.cell t g,.tmp t1,.tmp t2])(hv:find L t=some (.pointer (some ⟨b,0,none⟩)))(h:find L t1=some f)(i:find L t2=some v2)(u:N1 H (.blk b (.cells cs te fr)) [] H')(o:Nat.beq n cs.size=true)(A:List As)(d:c (.tuple #[.agg cs,f,v2]) A)(p:∀w,Hp F w H->Hp F w A):At N (dE P fn F c) L F H:=fun a w hf k=>by
 have q:=Qu o;have e:sl cs 0 cs.size=cs.toList:=by
  simp only[sl,Kh];exact jm qc
 obtain⟨D,j,hc⟩:=Y9 (n:=cs.size) k u;injection j with j;subst j;rw[e] at hc;have l:=E2 (P:=P) hc;have r:a.tmps.getD t undef=.pointer (some ⟨b,0,none⟩):=hf.eval (x:=.tmp t) hv;have s:a.tmps.getD t1 undef=f:=hf.eval (x:=.tmp t1) h;have v:a.tmps.getD t2 undef=v2:=hf.eval (x:=.tmp t2) i;subst q;refine⟨.tuple #[.agg cs,f,v2],A,?_,d,p w k,hf.defers⟩;have y:a.tmps[t]?.getD undef=.pointer (some ⟨b,0,none⟩):=by simpa using r
 have z:a.tmps[t1]?.getD undef=f:=by simpa using s
 have C:a.tmps[t2]?.getD undef=v2:=by simpa using v
 simp at l;simp[results,m,y,z,C,asAddr,loadVar,ha.h,hs.h,l]
end
open Go Go.RowKit
def Fn(ro:Option Nat):Fence:={Fence.wide with round:=ro}
def oz{ro:Option Nat}{n:Nat}{P:zj}{f:FuncId}{args:Array Value}{w:World}{R:Ending->World->Prop}(h:Calls P f args w R):CallsIn (Fn ro) n P f args w R:=(callsIn_wide (n:=n)).2 h
def rJ{ro:Option Nat}{n:Nat}{P:zj}{a:String}{args:Array Value}{w:World}{R:Value->World->Prop}(h:Rows P a args w R):RowsIn (Fn ro) n P a args w R:=fun c b _=>
 let⟨v,w',r,s⟩:=h c b
 ⟨v,w',r,stepsIn_wide.2 s⟩
def oA{ro:Option Nat}{ρ:zw->Value}{o:Oper}(a:ro=none\/∀c,o.op≠ .defer c):Oper.semAt (Fn ro).round ρ o=execOp ρ o:=by
 cases ro with
 |none=>exact Oper.semAt_none _ _
 |some l=>rcases a with h|h;cases h;exact Oper.semAt_some l ρ o h
def gB{ro:Option Nat}{n:Nat}{P:zj}{ops:Array Oper}{Q:Exit->Act->World->Prop}{K:A1}{suf:List Oper}(l:∀a w,K a w->wpListIn (Fn ro) n P ops Q suf a w):∀(pre:List Oper) (a:Act) (w:World),(ro=none\/∀o∈pre,∀c,o.op≠ .defer c)->wpList P ops (MQ K [] (fun _ _=>False)) pre a w->wpListIn (Fn ro) n P ops Q (pre++suf) a w
 |[],a,w,_,h=>l a w h
 |o::rest,a,w,hnd,h=>by
  have g:ro=none\/∀o∈rest,∀c,o.op≠ .defer c:=hnd.imp id (fun h o m=>h o (jn _ m));have b:=fun a w h=>gB l rest a w g h;have hs:Oper.semAt (Fn ro).round a.eval o=execOp a.eval o:=oA (hnd.imp id (fun h=>h o (Qb ..)));show wpListIn (Fn ro) n P ops Q (o::(rest++suf)) a w;unfold wpListIn;unfold wpList at h;split
  ·rename_i i;rw[zr i] at h;rcases h with h|⟨_,p,s,q⟩
   ·refine⟨fun f _=>trivial,?_⟩;rw[hs];unfold Oper.wp at h;generalize (execOp a.eval o).run P w=r at h⊢
    cases r with
    |ok x w'=>
     cases x<;>simp only[Oper.upon,Oper.uponIn] at h⊢
     case value v=>exact b _ _ h
     case skip=>exact b _ _ h
     case defer d=>exact b _ _ h
     case enter f args=>
      refine⟨fun j=>(by cases j),oz (h.mono fun e k q=>?_)⟩
      cases e with
      |returned v=>exact b _ _ q
      |panicked c=>exact(gy q).elim
      |outgrown=>obtain⟨p,s,q⟩:=q;exact q.elim
     case row row args=>exact⟨fun j=>(by cases j),rJ (h.mono fun v k q=>b _ _ q)⟩
    |halt x w'=>cases x<;>simp only[Oper.upon] at h<;>first|exact(gy h).elim|exact h.elim
   ·exact q.elim
  ·rename_i i;rw[zb i] at h;exact⟨fun f _=>trivial,b _ _ h⟩
def GN(ro:Option Nat)(n:Nat)(P:zj)(N:Nat)(c:Code)(Q:Exit->Act->World->Prop)(L:G9)(F:l9)(H:List As):Prop:=∀a w,H5 N L a->Hp F w H->c.wpIn (Fn ro) n P Q a w
section
variable{ro:Option Nat}{n:Nat}{P:zj}{N:Nat}{Q:Exit->Act->World->Prop}{L:G9}{F:l9}{H:List As}{x y:Code}{id:Nat}
def N4(h:GN ro n P N x (Exit.then (fun a w=>y.wpIn (Fn ro) n P Q a w) Q) L F H):GN ro n P N (.seq x y) Q L F H:=fun a w hf b=>wpIn_seq (h a w hf b)
def P_(h:GN ro n P N y Q L F H):At N (fun a w=>y.wpIn (Fn ro) n P Q a w) L F H:=fun a w hf b=>h a w hf b
def bv(h:GN ro n P N x (Exit.inBlock id Q) L F H):GN ro n P N (.block id x) Q L F H:=fun a w hf b=>wpIn_block (h a w hf b)
def eU(h:At N (fun a w=>Q .normal a w) L F H):GN ro n P N .skip Q L F H:=fun a w hf b=>wpIn_skip (h a w hf b)
def AI(h:At N (fun a w=>Q (.exit id) a w) L F H):GN ro n P N (.exit id) Q L F H:=fun a w hf b=>wpIn_exit (h a w hf b)
def yl(h:At N (fun a w=>Q .ret a w) L F H):GN ro n P N .ret Q L F H:=fun a w hf b=>wpIn_ret (h a w hf b)
def aV{c:zw}{b:Bool}(hc:ev L c=some (.bool b))(f:b=true->GN ro n P N x Q L F H)(hf:b=false->GN ro n P N y Q L F H):GN ro n P N (.cond c x y) Q L F H:=fun a w d e=>
 wpIn_cond_split (d.eval hc) (fun h=>f h a w d e) (fun h=>hf h a w d e)
def dV{l:List Oper}(b:ro=none\/∀o∈l,∀c,o.op≠ .defer c)(h:GL P N l.toArray l (fun a w=>Q .normal a w) [] (fun _ _=>False) L F H):GN ro n P N (.region id l.toArray false) Q L F H:=fun a w hf d=>
 wpIn_region_lit (by have e:=gB (ro:=ro) (n:=n) (ops:=l.toArray) (Q:=Q) (suf:=[]) (K:=fun a w=>Q .normal a w) (fun a w k=>k) l a w b (h a w hf d);simpa using e)
def oB{l pre suf:List Oper}(hl:l=pre++suf)(b:ro=none\/∀o∈pre,∀c,o.op≠ .defer c)(h:GL P N l.toArray pre (fun a w=>wpListIn (Fn ro) n P l.toArray Q suf a w) [] (fun _ _=>False) L F H):GN ro n P N (.region id l.toArray false) Q L F H:=fun a w hf e=>
 wpIn_region_lit (by have d:=gB (ro:=ro) (n:=n) (ops:=l.toArray) (Q:=Q) (suf:=suf) (fun a w k=>k) pre a w b (h a w hf e);rw[<-hl] at d;exact d)
def dg{ops:Array Oper}{l:List Oper}(b:ro=none\/∀o∈l,∀c,o.op≠ .defer c)(h:GL P N ops l (fun a w=>Q .normal a w) [] (fun _ _=>False) L F H){a:Act}{w:World}(hf:H5 N L a)(d:Hp F w H):wpListIn (Fn ro) n P ops Q l a w:=by
 have e:=gB (ro:=ro) (n:=n) (ops:=ops) (Q:=Q) (suf:=[]) (K:=fun a w=>Q .normal a w) (fun a w k=>k) l a w b (h a w hf d);simpa using e
def L4(h:G P N x (fun a w=>Q .normal a w) [] (fun _ _=>False) L F H):GN none n P N x Q L F H:=fun a w hf b=>
 (wpIn_wide (n:=n)).2 (Code.wp_mono (fun e a w q=>by
  cases e with
  |normal=>exact q
  |exit id=>simp[MQ] at q
  |ret=>exact q.elim
  |goto l=>exact q.elim
  |panic c=>exact(gy q).elim
  |outgrown=>exact q.elim) (h a w hf b))
def vI{m:Nat}{l d:Nat}{ops:Array Oper}{rest:List Oper}{f:zw}{args:List zw}{c:Array zk}{ty:zk}{pos:String}{af:Array Edge}{a:Act}{w:World}{vs:zq}{R:Ending->World->Prop}(hx:a.eval f=.func (.yield l) #[] #[])(hv:args.map a.eval=vs)(k:YieldAt Fence.wide m P l vs.toArray w R)(o:m=n-1)(p:∀e i,R e i->∃v,e=.returned v/\wpListIn (Fn none) n P ops Q rest (a.put (some d) v) i):
  wpListIn (Fn none) n P ops Q (⟨some d,.call ⟨.value f,args.toArray,c⟩,ty,pos,af,none⟩::rest) a w:=by
 obtain⟨r,g,b,h,s,j⟩:=k;refine wpListIn_plain rfl fun K t=>⟨fun f _=>trivial,?_⟩;have hs:(Oper.semAt (Fn none).round a.eval ⟨some d,.call ⟨.value f,args.toArray,c⟩,ty,pos,af,none⟩).run P w=.ok (.round l r g b h) w:=by
  rw[oA (.inl rfl)];simp only[execOp,resolve,hx,Deferred.ofValue,Zr,hv,Sem.run_bind,Sem.run_pure,Result.andThen_ok,invoke];have:(#[]++vs.toArray:Array Value)=vs.toArray:=by simp
  rw[this];exact s
 rw[hs];refine⟨fun u=>(by cases u),?_⟩;subst o;refine j.mono fun e i q=>?_;obtain⟨v,rfl,x⟩:=p e i q;exact t _ _ x
end
def C1{W b:World}{A:List As}(h:Hp (am W) b A):W.grownBy b none:=by
 have c:∀k,k<W.heap.size->b.heap[k]? =W.heap[k]?:=fun k c=>by
  have e:W.heap[k]? =some W.heap[k]:=Zz c;rw[e];exact h.keep k _ (by show F6 W [] k=_;rw[O1];exact e)
 refine⟨h.os,h.tape,h.output,?_,fun k a _=>c k a⟩;rcases Q6 b.heap.size W.heap.size with a|d
 ·have f:=c b.heap.size a;rw[Zz a] at f;simp at f
 ·exact d
def ap(W:World):Hp (am W) W []:=⟨rfl,rfl,rfl,by show l_.le (F6 W []) (hp W);rw[O1];exact l_.le_refl _,[],rfl,Zn,fun b a=>by cases a⟩
def N0(W:World):(am W).heap=hp W:=O1 W
open Go Go.RowKit
def As.blks:As->zz
 |.blk b _=>[b]
 |.own (.slice (some a) _ _) _ _ _=>[a.block]
 |_=>[]
def As.sat_blks{h:l_}{x:As}{bs:zz}(hs:x.sat h bs):bs=x.blks:=by
 cases x with
 |blk b o=>exact hs.1
 |own v t sz xs=>
  rcases hs with⟨rfl,_,rfl⟩|⟨g,rfl,⟨o,n,c,pre,a,d,rfl,_⟩⟩
  ·rfl
  ·rfl
def A_.blks{h:l_}:∀{H:List As} {bs:zz},A_ h H bs->bs=H.flatMap As.blks
 |[],_,hs=>hs
 |x::r,_,⟨b1,b2,e,h1,h2⟩=>by rw[e,As.sat_blks h1,A_.blks h2];rfl
def As.isC:As->Bool
 |.blk _ o=>o.isCells
 |.own .. =>true
def As.sat_cells{h:l_}{x:As}{bs:zz}(hs:x.sat h bs)(hc:x.isC=true):∀b∈bs,∃o,h b=some o/\o.isCells=true:=by
 cases x with
 |blk b o=>obtain⟨rfl,e⟩:=hs;intro c a;simp at a;subst a;exact⟨o,e,hc⟩
 |own v t sz xs=>
  rcases hs with⟨_,_,rfl⟩|⟨g,rfl,⟨o,n,f,pre,d,i,_,e,_⟩⟩
  ·intro c hc;cases hc
  ·intro c a;simp at a;subst a;exact⟨_,e,rfl⟩
def A_.cells{h:l_}:∀{H:List As} {bs:zz},A_ h H bs->H.all As.isC=true->∀b∈bs,∃o:Obj,h b=Option.some o/\o.isCells=true
 |[],_,hs,_,b,a=>by rw[show _=[] from hs] at a;cases a
 |x::r,_,⟨b1,b2,e,h1,h2⟩,hc,b,a=>by
  rw[List.all_cons,jw] at hc;rw[e,kw] at a;rcases a with a|a
  ·exact As.sat_cells h1 hc.1 b a
  ·exact A_.cells h2 hc.2 b a
def aq{F:l9}{W g:World}{H:List As}{a:Option Nat}{B:Nat}(h:Hp F W H)(hc:H.all As.isC=true)(m:∀b,(F.heap b).isSome=true->b<B)(hg:W.grownBy g a)(i:∀r,a=some r->B<=r/\∃o:Obj,W.heap[r]? =some o/\o.isCells=false):Hp F g H:=by
 obtain⟨n,hs,p,hf⟩:=h.own;refine⟨hg.os.trans h.os,hg.tape.trans h.tape,hg.output.trans h.output,fun b o d=>?_,n,hs.same (fun b d=>?_),p,hf⟩
 ·have c:=h.keep b o d;have j:=m b (by rw[d];rfl);exact(hg.block b (jp.1 c).1 (fun e=>by have:=(i b e.symm).1;omega)).trans c
 ·obtain⟨o,c,j⟩:=hs.cells hc b d;refine hg.block b (jp.1 c).1 (fun e=>?_);obtain⟨q,k,l⟩:=(i b e.symm).2;have f:W.heap[b]? =some o:=c;rw[f] at k;cases k;rw[j] at l;cases l
def jD{W a:World}{H A:List As}{bs:zz}(hs:A_ (hp W) H bs)(hc:H.all As.isC=true)(h:Hp (w6 W bs) a A)(p:∀b∈bs,b∈A.flatMap As.blks)(B:Nat):KeepsFrom B W a:=by
 have d:∀k o,k∉bs->W.heap[k]? =some o->a.heap[k]? =some o:=fun k o d f=>h.keep k o (by simp[w6,F6,d,f]);refine⟨?_,fun k o _ f l=>d k o (fun g=>?_) f⟩
 ·rcases Q6 a.heap.size W.heap.size with m|n
  ·have e:=Zz m;by_cases g:a.heap.size∈bs
   ·obtain⟨s,ha,_,_⟩:=h.own;have i:=p _ g;rw[<-ha.blks] at i;have j:=ha.some _ i;simp[hp] at j
   ·have q:=d _ _ g e;simp at q
  ·exact n
 ·obtain⟨r,i,j⟩:=hs.cells hc k g;have c:W.heap[k]? =some r:=i;rw[f] at c;cases c;rw[l] at j;cases j
def FL{w:World}{bc:zz}(b:Nat)(h:((w6 w bc).heap b).isSome=true):b<w.heap.size:=by
 unfold w6 F6 at h;simp only at h;split at h
 ·cases h
 ·simpa using h
def fL{F:l9}{W:World}{H:List As}(h:Hp F W H):∃bs,A_ (hp W) H bs/\Hp (w6 W bs) W H/\∀a A,Hp (w6 W bs) a A->Hp F a A:=by
 obtain⟨bs,hs,b,hf⟩:=h.own;refine⟨bs,hs,Hp.start hs b,fun a A k=>?_⟩;have c:=Hp.back (F:=F) (w:=W) (w':=a) (C:=H) (R:=[]) (A:=A) (bc:=bs) (br:=[]) (by simpa using h) hs rfl (by simpa using b) (by simpa using hf) k;simpa using c
def rj(ds:List Deferred)(a:Act):Act:={a with defers:=a.defers++ds}
def shQ(ds:List Deferred)(Q:Exit->Act->World->Prop):Exit->Act->World->Prop:=fun e a w=>∃a0,a=rj ds a0/\Q e a0 w
def gC(ds:List Deferred)(a:Act)(d:Option Tmp)(v:Value):(rj ds a).put d v=rj ds (a.put d v):=by cases d<;>rfl
def jE{N:Nat}{L:G9}{a:Act}(h:H5 N L a)(d:Deferred):{a with defers:=d::a.defers}=rj [d] a:=by
 unfold rj;rw[h.defers];rfl
section
variable{P:zj}{Q:Exit->Act->World->Prop}
end
def fM{n:Nat}{P:zj}{fn:Func}{R:Ending->World->Prop}{a:Act}{w:World}{D:Nat}{ds:List Deferred}(c:a.defers={target:=.collected D,args:=#[]}::ds)(b:ds=[])(d:w.heap[D]? =some (.deferred (some [])))(h:∃v,(results fn a.tmps).run P (w.putObj D (.deferred none))=.ok v (w.putObj D (.deferred none))/\R (.returned v) (w.putObj D (.deferred none))):bodyPostM (Fn none) n P fn R .normal a w/\bodyPostM (Fn none) n P fn R .ret a w:=by
 have:LeavesInM (Fn none) n P fn a.tmps R a.defers .returning w:=by
  rw[c,b];exact⟨by simp,.inl ⟨D,_,rfl,run_takeDeferred d,h⟩⟩
 exact⟨this,this⟩
section
variable{P:zj}{N:Nat}{K R:A1}{E:List (Nat×A1)}{L:G9}{F:l9}{H Hk:List As}{ops:Array Oper}{rs:Rs}{done:zz}{n:Nat}
def vJ(i j k:Nat){o g c:Oper}(m:ops[i]? =some o)(p:ops[j]? =some g)(r:ops[k]? =some c)(s:(Region.ready .any ops (y8 ops.size done)==[i,j,k])=true)(h:GL P N ops [o] (fun a w=>(aO ops rs (y8 ops.size done) i=true->True->P0 F Hk w)/\fx P ops (MQ K E R) (fun w=>P0 F Hk w) (aO ops rs) n (y8 ops.size (i::done)) a w) (pE E) (fun _ _=>False) L F H)(l:GL P N ops [g] (fun a w=>(aO ops rs (y8 ops.size done) j=true->True->P0 F Hk w)/\fx P ops (MQ K E R) (fun w=>P0 F Hk w) (aO ops rs) n (y8 ops.size (j::done)) a w) (pE E) (fun _ _=>False) L F H)(d:GL P N ops [c] (fun a w=>(aO ops rs (y8 ops.size done) k=true->True->P0 F Hk w)/\fx P ops (MQ K E R) (fun w=>P0 F Hk w) (aO ops rs) n (y8 ops.size (k::done)) a w) (pE E) (fun _ _=>False) L F H):GA P N ops rs Hk (n+1) done K E R L F H:=by
 unfold GL at h l d;unfold GA;intro a w hf e;have b:=Wr.1 s;refine⟨fun t=>(by rw[t] at b;cases b),fun q f=>?_⟩;rw[b] at f;simp at f;rcases f with rfl|rfl|rfl
 ·exact cw m (h a w hf e)
 ·exact cw p (l a w hf e)
 ·exact cw r (d a w hf e)
end
open Go Go.RowKit
def tH{H:List As}:∀y∈([]:List As),y∈H:=fun _ h=>by cases h
def oC{x:As}{l H:List As}(h:x∈H)(r:∀y∈l,y∈H):∀y∈x::l,y∈H:=fun y a=>by
 rcases jv.1 a with rfl|a
 ·exact h
 ·exact r y a
def bw{F:l9}{H a:List As}(h:∀y∈a,y∈H):∀w,Hp F w H->P0 F a w:=fun w b=>⟨H,b,h⟩
abbrev KV:=Value×Value
def KF(es:Array MapEntry):List KV:=es.toList.map fun e=>(e.key,e.val)
structure O5(d:TypeDesc)(es:Array MapEntry)(clock:Nat)(ms:List KV):Prop where
 perm:(KF es).Perm ms
 st:MapKept.Stamped es clock
 kind:∀x∈es.toList,MapKept.IsKey d x.key
def O5.keys{d:TypeDesc}{b:Array MapEntry}{a:Nat}{c:List KV}(h:O5 d b a c):(c.map (·.1)).Nodup:=by
 have e:((KF b).map (·.1)).Nodup:=by
  have:=h.st.2.2;simpa[KF,J4,Ku] using this
 exact(h.perm.map _).nodup e
def O5.empty(d:TypeDesc)(a:Nat):O5 d #[] a []:=⟨.refl _,MapKept.stamped_empty a,by simp⟩
def FM(ms:List KV)(k:Value):Prop:=∀v,(k,v)∉ms
def Pi(ms:List KV)(k:Value):Option Value->Prop
 |some v=>(k,v)∈ms
 |none=>FM ms k
def FN(ms:List KV)(k v:Value)(ms':List KV):Prop:=(FM ms k/\((k,v)::ms).Perm ms')\/∃v0 r,ms.Perm ((k,v0)::r)/\((k,v)::r).Perm ms'
def iF:∀{e:List KV},(e.map (·.1)).Nodup->∀{k v v':Value},(k,v)∈e->(k,v')∈e->v=v'
 |[],_,_,_,_,h,_=>by cases h
 |(a,b)::r,hn,k,v,v',c,d=>by
  rw[Q2,Yw] at hn;rw[jv] at c d;have f:∀u,(a,u)∉r:=fun u hu=>hn.1 (jr.2 ⟨_,hu,rfl⟩);rcases c with c|c<;>rcases d with d|d
  ·injection c with e1 e2;injection d with e3 e4;rw[e2,e4]
  ·injection c with e1 e2;subst e1;exact absurd d (f _)
  ·injection d with e1 e2;subst e1;exact absurd c (f _)
  ·exact iF hn.2 c d
section
variable{P:zj}{kt:zk}{d:TypeDesc}{es:Array MapEntry}{clock:Nat}{ms:List KV}{key:Value}{w:World}
def O5.find(b:O5 d es clock ms)(g:P.underlying kt=some d)(i:MapKept.IsKey d key):
  (FM ms key/\(Instr.findKey kt key es.toList).run P w=.ok none w)\/∃(j:Nat) (e:MapEntry),es[j]? =some e/\e.key=key/\(key,e.val)∈ms/\(Instr.findKey kt key es.toList).run P w=.ok (some (j,e.val)) w:=by
 rcases MapKept.findNow_spec i es.toList 0 b.kind with⟨c,a⟩|⟨j,e,c,a,h⟩
 ·refine .inl ⟨fun v k=>?_,MapKept.run_findKey g c⟩;have:=b.perm.mem_iff.2 k;simp only[KF,jr] at this;obtain⟨x,l,f⟩:=this;injection f with f _;exact a x l f
 ·refine .inr ⟨j,e,by simpa using a,h,b.perm.mem_iff.1 ?_,by simpa using MapKept.run_findKey g c⟩;simp only[KF,jr];exact⟨e,Wy a,by rw[h]⟩
def ym{j:Nat}{e:MapEntry}(a:es[j]? =some e)(f:MapEntry->MapEntry):∃r,(KF es).Perm ((e.key,e.val)::r)/\(KF (es.modify j f)).Perm (((f e).key,(f e).val)::r):=by
 have c:j<es.size:=(jp.1 a).1;have b:j<es.toList.length:=by simpa using c
 have d:es.toList[j]=e:=by
  have:=(jp.1 a).2;simpa using this
 have s1:es.toList=es.toList.take j++e::es.toList.drop (j+1):=by
  rw[<-d,<-Qc b,Qp]
 have g:(es.modify j f).toList=es.toList.take j++f e::es.toList.drop (j+1):=by
  apply List.ext_getElem?;intro i;rw[Array.getElem?_toList,Zg];by_cases hij:j=i
  ·subst hij;rw[zr rfl,a,jc (by simp;omega)];simp[Jr (J5 c)]
  ·rw[zb hij,<-Array.getElem?_toList]
   conv=>lhs;rw[s1]
   rcases Q6 i j with h|h
   ·rw[j8 (by simp;omega),j8 (by simp;omega)]
   ·rw[jc (by simp;omega),jc (by simp;omega)];have:i-(es.toList.take j).length=i-j-1+1:=(by rw[kr];omega);rw[this];rfl
 refine⟨(es.toList.take j++es.toList.drop (j+1)).map fun e=>(e.key,e.val),?_,?_⟩
 ·unfold KF
  conv=>lhs;rw[s1]
  simp only[Qx,Q2];exact Qm
 ·unfold KF;rw[g];simp only[Qx,Q2];exact Qm
def FO{k v v':Value}{r a:List KV}(b:(((k,v)::r).map (·.1)).Nodup)(h:((k,v)::r).Perm ((k,v')::a)):v=v'/\r.Perm a:=by
 have e:v'=v:=iF b (h.mem_iff.2 (.head _)) (.head _);subst e;exact⟨rfl,List.Perm.cons_inv h⟩
def Db{b:Value}{r ms':List KV}(c:(ms.map (·.1)).Nodup)(hp:ms.Perm ((key,b)::r)){v0:Value}{a:List KV}(h:ms.Perm ((key,v0)::a)):r.Perm a:=by
 have d:((key,b)::r).Perm ((key,v0)::a):=hp.symm.trans h;exact(FO ((hp.map _).nodup c) d).2
def O5.put{w:World}{t A:zk}{b:Nat}{val:Value}(f:O5 d es clock ms)(v:P.underlying t=some (.map kt A))(y:P.underlying kt=some d)(n:w.heap[b]? =some (.map es clock))(o:MapKept.IsKey d key):
  ∃k c,(Instr.mapUpdate t (.map (some b)) key val).run P w=.ok () {w with heap:=w.heap.setIfInBounds b (.map k c)}/\∀ms',FN ms key val ms'->O5 d k c ms':=by
 have l:=MapKept.run_checkKey (P:=P) (w:=w) y o false 9999;rcases f.find (P:=P) (w:=w) y o with⟨g,hf⟩|⟨j,e,p,h,m,hf⟩
 ·refine⟨es.push {key:=key,val:=val,born:=clock},clock+1,?_,fun ms' hp=>?_⟩
  ·simp only[Instr.mapUpdate,Sem.run_bind,run_underlying v,Result.andThen_ok,MapKept.run_getObj_map n,l,hf,MapKept.run_setObj_map _ n]
  ·have s:∀x∈es.toList,x.key≠key:=fun x i a=>g x.val (f.perm.mem_iff.1 (jr.2 ⟨x,i,by rw[a]⟩));refine⟨?_,MapKept.stamped_push f.st s,fun x i=>?_⟩
   ·rcases hp with⟨_,hp⟩|⟨z,r,q,_⟩
    ·refine List.Perm.trans ?_ hp;simp only[KF,Array.toList_push,Qx,Q2,Jp];exact(jj).trans ((f.perm).cons _)
    ·exact absurd (q.mem_iff.2 (.head _)) (g z)
   ·simp only[Array.toList_push,kw,z7] at i;rcases i with i|rfl
    ·exact f.kind x i
    ·exact o
 ·have u:=MapKept.run_keyThatStays (P:=P) (w:=w) o;refine⟨es.modify j fun e=>{e with key:=key,val:=val},clock,?_,fun ms' hp=>?_⟩
  ·simp only[Instr.mapUpdate,Sem.run_bind,run_underlying v,Result.andThen_ok,MapKept.run_getObj_map n,l,hf,p,Qh,Z6,h,u,MapKept.run_setObj_map _ n]
  ·obtain⟨r,q,C⟩:=ym p (fun e:MapEntry=>{e with key:=key,val:=val});rw[h] at q;refine⟨C.trans ?_,MapKept.stamped_modify f.st j _ (fun _ _=>rfl) (fun x i a=>?_),MapKept.isKey_modify f.kind j _ (fun x a=>?_)⟩
   ·rcases hp with⟨g,_⟩|⟨z,O,D,J⟩
    ·exact absurd m (g _)
    ·have M:=Db (ms':=ms') f.keys (f.perm.symm.trans q) D;exact(M.cons _).trans J
   ·rw[p] at a;injection a with a;subst a;exact h.symm
   ·rw[p] at a;injection a with a;subst a;exact h.symm
def O5.look{w:World}{t i:zk}{b:Nat}{o:Option Value}{z:Value}(c:Bool)(k:O5 d es clock ms)(l:P.underlying t=some (.map kt i))(m:P.underlying kt=some d)(n:w.heap[b]? =some (.map es clock))(p:MapKept.IsKey d key)(hz:(zeroValue i).run P w=.ok z w)(g:Pi ms key o):(Instr.lookup t (.map (some b)) key c).run P w=.ok (bif c then .tuple #[o.getD z,.bool o.isSome] else o.getD z) w:=by
 have f:=MapKept.run_checkKey (P:=P) (w:=w) m p es.isEmpty 9999;rcases k.find (P:=P) (w:=w) m p with⟨h,hf⟩|⟨j,e,r,q,a,hf⟩
 ·cases o with
  |some v=>exact absurd g (h v)
  |none=>cases c<;>simp[Instr.lookup,run_underlying l,MapKept.run_getObj_map n,f,hf,hz]
 ·cases o with
  |none=>exact absurd a (g _)
  |some v=>
   have:e.val=v:=iF k.keys a g;subst this
   cases c<;>simp[Instr.lookup,run_underlying l,MapKept.run_getObj_map n,f,hf]
end
structure cx(es:Array MapEntry)(clock a6D:Nat)(seen:Array Nat)(c0:Nat)(todo:List KV):Prop where
 left:((leftOf es seen).toList.map fun e=>(e.key,e.val)).Perm todo
 hold:∀x∈es.toList,x.born<a6D
 sc:a6D<=c0
 sk:a6D<=clock
def cx.start{d:TypeDesc}{b:Array MapEntry}{a:Nat}{c:List KV}(h:O5 d b a c):cx b a a #[] a c:=by
 refine⟨?_,h.st.1,kp _,kp _⟩;have:leftOf b #[]=b:=by simp[leftOf]
 rw[this];exact h.perm
def rK{e:MapEntry}:∀(l:List MapEntry),(l.map (·.born)).Nodup->e∈l->l.Perm (e::l.filter fun x=>x.born !=e.born)
 |[],_,a=>by cases a
 |x::l,hn,a=>by
  rw[Q2,Yw] at hn;rcases jv.1 a with rfl|a
  ·have b:(l.filter fun y=>y.born !=e.born)=l:=Wd.2 (fun y c=>by
    have:y.born≠e.born:=fun h=>hn.1 (jr.2 ⟨y,c,h⟩);simpa using this)
   rw[List.filter_cons_of_neg qc,b]
  ·have b:x.born≠e.born:=fun h=>hn.1 (jr.2 ⟨e,a,h.symm⟩);rw[List.filter_cons_of_pos (by simpa using b)];exact((rK l hn.2 a).cons x).trans (.swap ..)
def Dc(c:Array MapEntry)(a:Array Nat)(b:Nat):(leftOf c (a.push b)).toList=(leftOf c a).toList.filter fun x=>x.born !=b:=by
 unfold leftOf;rw[Wp,Wp,List.filter_filter];congr 1;funext x;rw[contains_push]
 cases a.contains x.born<;>cases h:(x.born==b)<;>simp_all [bne]
def cx.step{d:TypeDesc}{g:Array MapEntry}{a i c0:Nat}{b:Array Nat}{f j:List KV}(h:cx g a i b c0 f)(k:O5 d g a j){e:MapEntry}(m:e∈(leftOf g b).toList):
  ∃c,f.Perm ((e.key,e.val)::c)/\cx g a i (b.push e.born) a c:=by
 have n:((leftOf g b).toList.map (·.born)).Nodup:=by
  unfold leftOf;rw[Wp];exact((List.filter_sublist (l:=g.toList)).map _).nodup k.st.2.1
 have o:=rK _ n m;refine⟨(leftOf g (b.push e.born)).toList.map fun e=>(e.key,e.val),?_,.refl _,h.hold,h.sk,h.sk⟩;rw[Dc];exact h.left.symm.trans (o.map _)
def yn{w:World}{b:Nat}{o:Obj}{c:Nat}(h:c≠b):({w with heap:=w.heap.setIfInBounds b o}:World).heap[c]? =w.heap[c]?:=by
 show(w.heap.setIfInBounds b o)[c]? =_;rw[J8 (Ne.symm h)]
def Dd{w:World}{b:Nat}{o a:Obj}(h:w.heap[b]? =some a):({w with heap:=w.heap.setIfInBounds b o}:World).heap[b]? =some o:=by
 have c:b<w.heap.size:=(jp.1 h).1;show(w.heap.setIfInBounds b o)[b]? =_;simp[c]
def Hp.setB{F:l9}{w:World}{H H':List As}{b:Nat}{o d:Obj}(e:Hp F w H)(u:N1 H (.blk b o) [.blk b d] H'):Hp F {w with heap:=w.heap.setIfInBounds b d} H':=by
 obtain⟨g,⟨rfl,f⟩,h,i,k⟩:=e.focus u;exact k _ [b] rfl rfl rfl (fun c hc a=>yn (by simpa using a)) ⟨[b],[],rfl,⟨rfl,Dd f⟩,rfl⟩ qc (fun c hc=>.inl hc)
section
variable{P:zj}{N:Nat}{K R:A1}{E:List (Nat×A1)}{L:G9}{F:l9}{H:List As}{ops:Array Oper}{rest:List Oper}{ty:zk}{pos:String}{af:Array Edge}{dst:Option Nat}{gd:Option (Nat×Bool)}
variable{x y z:zw}{t kt et:zk}{td:TypeDesc}{es:Array MapEntry}{clock b d:Nat}{ms:List KV}{key val:Value}
def oD(b:Nat.blt d N=true)(h:∀g,GL P N ops rest K E R ((d,.map (some g))::L) F (.blk g (.map #[] 0)::H)):
  GL P N ops (⟨some d,.makeMap t none,ty,pos,af,none⟩::rest) K E R L F H:=
 T4 rfl rfl b fun a w hf c=>⟨.map (some w.heap.size),w.alloc (.map #[] 0),_,by simp[execOp,Instr.makeMap,newObj,Sem.run],c.alloc _,h _⟩
def De[hu:HU P t (.map kt et)][hk:HU P kt td](hx:ev L x=some (.map (some b)))(j:ev L y=some key)(hz:ev L z=some val)(k:O5 td es clock ms)(e:MapKept.IsKey td key){H':Array MapEntry->Nat->List As}(u:∀d c,N1 H (.blk b (.map es clock)) [.blk b (.map d c)] (H' d c))(h:∀d c,(∀ms',FN ms key val ms'->O5 td d c ms')->GL P N ops rest K E R L F (H' d c)):GL P N ops (⟨none,.mapUpdate t x y z,ty,pos,af,none⟩::rest) K E R L F H:=
 tE rfl rfl fun a w hf i=>by
  obtain⟨d,c,f,g⟩:=k.put (P:=P) (w:=w) (val:=val) hu.h hk.h (i.blk (u es clock)) e;refine⟨_,_,?_,i.setB (u d c),h d c g⟩;simp only[execOp,hf.eval hx,hf.eval j,hf.eval hz,Sem.run_bind,f];rfl
def FP{o:Option Value}{zv:Value}{c:Bool}{H':List As}[hu:HU P t (.map kt et)][hk:HU P kt td][hz:HZ P et zv](hx:ev L x=some (.map (some b)))(e:ev L y=some key)(u:N1 H (.blk b (.map es clock)) [] H')(f:O5 td es clock ms)(a:MapKept.IsKey td key)(g:Pi ms key o):
  dF P ⟨dst,.lookup t x y c,ty,pos,af,gd⟩ L F H (bif c then .tuple #[o.getD zv,.bool o.isSome] else o.getD zv):=by
 unfold dF;intro ρ w hf h;have d:=f.look (P:=P) (w:=w) c hu.h hk.h (h.blk u) a (hz.h w) g;simp only[execOp,hf _ _ hx,hf _ _ e,Sem.run_bind,d];rfl
def B8{P:zj}{N:Nat}{K R:A1}{E:List (Nat×A1)}{L:G9}{F:l9}{H e:List As}{ops:Array Oper}{f:Rs}{done:zz}{n d:Nat}(i:Nat){o k:Oper}{v:Value}{x:As}{j t:Nat}{b:Bool}(l:ops[i]? =some o)(hx:x∈e)(s:dF P o L F [x] v)(m:∀y∈e,y∈H)(hg:o.guard=some (j,b))(p:ops[j]? =some k)(q:k.dst=some t)(hv:find L t=some (.bool b))(c:o.dst=some d)(r:Nat.blt d N=true)(hc:an ops f done i=true)(h:GA P N ops f e n (i::done) K E R ((d,v)::L) F H)(hE:E.lookup 1=none:=by rfl):GA P N ops f e (n+1) done K E R L F H:=by
 unfold dF at s;exact dT i l (fun ρ w ha ⟨X,u,g⟩=>s ρ w ha (u.only (g x hx))) (fun a hf=>eT hg p q hv hf) c r hc (fun w z=>⟨H,z,m⟩) h hE
end
open Go Go.RowKit
structure l9.le(F F':l9):Prop where
 os:F'.os=F.os
 tape:F'.tape=F.tape
 output:F'.output=F.output
 heap:l_.le F.heap F'.heap
def l9.le_refl(F:l9):F.le F:=⟨rfl,rfl,rfl,l_.le_refl _⟩
def l9.le.trans{A B C:l9}(h:A.le B)(k:B.le C):A.le C:=⟨k.os.trans h.os,k.tape.trans h.tape,k.output.trans h.output,l_.le_trans h.heap k.heap⟩
def Hp.unfreeze{F a:l9}(hl:F.le a){w:World}{H:List As}(h:Hp a w H):Hp F w H:=by
 obtain⟨c,hs,d,hf⟩:=h.own;refine⟨h.os.trans hl.os,h.tape.trans hl.tape,h.output.trans hl.output,l_.le_trans hl.heap h.keep,c,hs,d,fun b f=>?_⟩
 cases e:F.heap b with
 |none=>rfl
 |some o=>have:=hl.heap b o e;rw[hf b f] at this;cases this
def Hp.freeze{F:l9}{w:World}{H Z:List As}(h:Hp F w (H++Z)):∃d:l9,F.le d/\Hp d w H/\(∃bs,A_ d.heap Z bs):=by
 obtain⟨bs,hs,f,hf⟩:=h.own;obtain⟨g,c,rfl,i,j⟩:=A_.split hs;have k:=(Qg.1 f).2.2;refine⟨⟨F.os,F.tape,F.output,fun b=>if b∈c then hp w b else F.heap b⟩,⟨rfl,rfl,rfl,fun b o a=>?_⟩,⟨h.os,h.tape,h.output,fun b o a=>?_,g,i,(Qg.1 f).1,fun b a=>?_⟩,c,j.same fun b a=>?_⟩
 ·have:b∉c:=fun e=>by rw[hf b (by simp[e])] at a;cases a
  simp only[this,if_false];exact a
 ·simp only at a;split at a
  ·exact a
  ·exact h.keep b o a
 ·have:b∉c:=fun e=>k b a b e rfl;simp only[this,if_false];exact hf b (by simp[a])
 ·simp only[a,if_true]
section
variable{P:zj}{N:Nat}{K R:A1}{E:List (Nat×A1)}{L:G9}{F:l9}{H Z:List As}{ops:Array Oper}{rest:List Oper}{c:Code}
def rL(h:∀b,F.le b->(∃bs,A_ b.heap Z bs)->GL P N ops rest K E R L b H):GL P N ops rest K E R L F (H++Z):=by
 unfold GL at h⊢;intro a w hf c;obtain⟨b,d,e,f⟩:=c.freeze;exact h b d f a w hf e
def cy(h:∀b,F.le b->(∃bs,A_ b.heap Z bs)->G P N c K E R L b H):G P N c K E R L F (H++Z):=by
 unfold G at h⊢;intro a w hf d;obtain⟨b,e,f,g⟩:=d.freeze;exact h b e g a w hf f
def dW(h:∀b,F.le b->(∃bs,A_ b.heap Z bs)->At N K L b H):At N K L F (H++Z):=by
 unfold At at h⊢;intro a w hf c;obtain⟨b,d,e,f⟩:=c.freeze;exact h b d f a w hf e
def E0{fn:Func}{b:Value->List As->Prop}{c:l9}(hl:c.le F)(h:At N (dE P fn F b) L F H):At N (dE P fn c b) L F H:=by
 unfold At at h⊢;intro a w hf d;obtain⟨v,A,e,f,g,i⟩:=h a w hf d;exact⟨v,A,e,f,g.unfreeze hl,i⟩
def FQ{b:l9}(hl:b.le F)(h:At N K L b H):At N K L F H:=by
 unfold At at h⊢;exact fun a w hf c=>h a w hf (c.unfreeze hl)
def bV{ι:Type}(f:ι->Prop)(m:ι->G9)(o:ι->l9)(HI:ι->List As)(μ:ι->Nat)(i0:ι)(D:f i0)(J:fE (m i0) L)(M:o i0=F)(hH:∀w,Hp F w H->Hp F w (HI i0))(round:∀i,f i->G P N c (fun a w=>∃j,f j/\μ j<μ i/\H5 N (m j) a/\Hp (o j) w (HI j)) E R (m i) (o i) (HI i)):G P N (.loop c) K E R L F H:=by
 unfold G at*;intro a w hf t b k u;have v:∀n i a w,μ i=n->f i->H5 N (m i) a->Hp (o i) w (HI i)->
   ∃e p q,MQ K E R e p q/\Arrives P (lone (b.at a (.code c::.inLoop c::k)) u w) b k u e p q:=by
  intro n
  induction n using Nat.strongRecOn with
  |_ n ih=>
   intro i a w O hp hf t;obtain⟨e,r,s,g,d⟩:=round i hp a w hf t b (.inLoop c::k) u
   cases e with
   |normal=>
    obtain⟨j,Q,y,z,A⟩:=g;obtain⟨S,T,U,C,h⟩:=ih (μ j) (O▸y) j r s rfl Q z A;exact⟨S,T,U,C,.of_steps (Steps.trans d (.one step_inLoop)) h⟩
   |exit id=>exact⟨.exit id,r,s,g,.pass (x:=.inLoop c) rfl (fun _ _=>.inl qc) d⟩
   |goto l=>exact g.elim
   |ret=>exact⟨.ret,r,s,g,.pass (x:=.inLoop c) rfl (fun _ _=>.inl qc) d⟩
   |panic ch=>exact⟨.panic ch,r,s,g,.pass (x:=.inLoop c) rfl (fun _ _=>.inl qc) d⟩
   |outgrown=>exact g.elim
 obtain⟨e,p,q,g,d⟩:=v _ i0 a w rfl D (hf.sub J) (by rw[M];exact hH w t);exact⟨e,p,q,g,.of_steps (.one step_loop) d⟩
def Q_{ι:Type}{b:ι->Prop}{c:ι->G9}{d:ι->l9}{HI:ι->List As}{μ:ι->Nat}{i:ι}(j:ι)(e:b j)(f:μ j<μ i)(g:fE (c j) L)(h:d j=F)(hH:∀w,Hp F w H->Hp F w (HI j)):
  At N (fun a w=>∃j,b j/\μ j<μ i/\H5 N (c j) a/\Hp (d j) w (HI j)) L F H:=by
 unfold At;exact fun a w hf k=>⟨j,e,f,hf.sub g,by rw[h];exact hH w k⟩
end
section
variable{P:zj}{N:Nat}{K R:A1}{E:List (Nat×A1)}{L:G9}{F:l9}{H:List As}{ops:Array Oper}{rest:List Oper}{ty:zk}{pos:String}{af:Array Edge}{dst:Option Nat}{gd:Option (Nat×Bool)}
variable{x y z:zw}{t t' t'' kt et:zk}{td:TypeDesc}{es:Array MapEntry}{clock b d:Nat}{ms:List KV}{key val:Value}{l l':List UInt8}
def Lb{o:Oper}(hg:o.guard=none)(b:o.dst=none)(h:∀a w,H5 N L a->Hp F w H->∃v w' H',(execOp a.eval o).run P w=.ok (.value v) w'/\Hp F w' H'/\GL P N ops rest K E R L F H'):GL P N ops (o::rest) K E R L F H:=by
 unfold GL at h⊢;intro a w hf c;obtain⟨v,w',H',d,e,f⟩:=h a w hf c;refine wpList_plain hg fun i g=>?_;unfold Oper.wp;rw[d,Oper.upon_value,b];exact g _ _ (f _ _ hf e)
structure FR(es:Array MapEntry)(seen:Array Nat)(k v:Value):Prop where
 ex:∃e∈es.toList,∃s:Array Nat,seen=s.push e.born/\e.key=k/\e.val=v
end
def A_.blk{h:l_}{H H':List As}{bs:zz}{b:Nat}{o:Obj}(hs:A_ h H bs)(u:N1 H (.blk b o) [] H'):h b=Option.some o:=by
 obtain⟨c,a⟩:=A_.get hs u;exact a.2
def vK{F:l9}{w:World}{H:List As}{b o:Nat}{cs:Array Value}{te:zk}{fr:Nat×Nat}{v:Value}(c:Hp F w H)(d:F.heap b=some (.cells cs te fr))(hv:cs[o]? =some v):M9 (hp w) (some ⟨b,o,none⟩) [v]:=
 ⟨_,rfl,fun j q a=>by
  match j,a with
  |0,a=>
   simp at a;subst a;have e:=c.keep b _ d;have f:w.heap[b]? =some (.cells cs te fr):=e;simp[l_.cell?,hp,Addr.add,f,hv]⟩
def Pj{F:l9}{w:World}{H:List As}{b:Nat}{cs:Array Value}{te:zk}{fr:Nat×Nat}(a:Hp F w H)(c:F.heap b=some (.cells cs te fr)):M9 (hp w) (some ⟨b,0,none⟩) cs.toList:=
 ⟨_,rfl,fun j q d=>by
  have f:=a.keep b _ c;have g:w.heap[b]? =some (.cells cs te fr):=f;have e:(⟨b,0,none⟩:Addr).add j=⟨b,j,none⟩:=by rw[Addr.add_lit];simp
  rw[e];simp[l_.cell?,hp,g];simpa using d⟩
section
variable{α:Type}{C:α->zq}{n:Nat}
def N5(a:∀x,(C x).length=n)(l:List α):(l.flatMap C).length=l.length*n:=by
 induction l with
 |nil=>simp
 |cons x r ih=>rw[Q4,zg,ih,a,z1,Zj];omega
def dh(a:∀x,∀q∈C x,q.oneCell'=true)(l:List α):∀q∈l.flatMap C,q.oneCell'=true:=fun q b=>by
 obtain⟨x,_,c⟩:=List.mem_flatMap.1 b;exact a x q c
def AJ(a:∀x,(C x).length=n)(d:α):∀(l:List α) (i:Nat),i<l.length->∀j u,(C (l.getD i d))[j]? =some u->(l.flatMap C)[n*i+j]? =some u
 |x::l,0,_,j,u,h=>by
  have b:j<n:=by have:=(Qs.1 h).1;simpa[a] using this
  rw[Q4,j8 (by rw[a];omega)];simpa using h
 |x::l,i+1,hi,j,u,h=>by
  have:=AJ a d l i (by simpa using hi) j u (by simpa using h);rw[Q4,jc (by rw[a,Nat.mul_add];omega)];have e:n*(i+1)+j-(C x).length=n*i+j:=by rw[a,Nat.mul_add];omega
  rw[e];exact this
def FS{h:l_}{a:qr}{l:List α}{cs:zq}{q i j:Nat}(r:n9 h a (l.flatMap C))(c:∀x,(C x).length=n)(d:α)(hq:q=n*i+j)(e:i<l.length)(b:cs≠[])(hc:∀k u,cs[k]? =some u->(C (l.getD i d))[j+k]? =some u):M9 h (N_ a q) cs:=
 r.peek q b (fun k u hu=>by
  have:=AJ c d l i e (j+k) u (hc k u hu);rw[hq,W9];exact this)
def Lc{h:l_}{a:qr}{l:List α}{v:Value}{q i j:Nat}(r:n9 h a (l.flatMap C))(b:∀x,(C x).length=n)(d:α)(hq:q=n*i+j)(c:i<l.length)(hv:(C (l.getD i d))[j]? =some v):M9 h (N_ a q) [v]:=
 FS r b d hq c qc (fun k u hu=>by
  match k,hu with
  |0,hu=>simp at hu;subst hu;exact hv)
def tI{h:l_}{a:qr}{l:List α}{q i:Nat}(r:n9 h a (l.flatMap C))(b:∀x,(C x).length=n)(c:0<n)(d:α)(hq:q=n*i)(f:i<l.length):M9 h (N_ a q) (C (l.getD i d)):=
 FS r b d (j:=0) qb f (by intro e;have:=b (l.getD i d);rw[e] at this;simp at this;omega) (fun k u hu=>by rw[j6];exact hu)
def vL{h:l_}{a:qr}{l:List α}{i:Nat}(r:n9 h a (l.flatMap C))(d:∀x,(C x).length=n)(b:0<n)(f:i<l.length):∃c,a=some c:=by
 obtain⟨c,e,_⟩:=r (by
  intro e;have:=jh List.length e;rw[N5 d] at this;have g:0<l.length*n:=Jv qb b;simp at this;omega)
 exact⟨c,e⟩
end
section
variable{P:zj}{N:Nat}{K R:A1}{E:List (Nat×A1)}{L:G9}{F:l9}{H:List As}{ops:Array Oper}{rest:List Oper}{ty:zk}{pos:String}{af:Array Edge}{dst:Option Nat}{gd:Option (Nat×Bool)}
variable{x y z:zw}{t t' t'' kt et:zk}{td:TypeDesc}{es:Array MapEntry}{clock b d:Nat}{ms:List KV}{key val:Value}
def Df[hu:HU P t (.map kt et)](hx:ev L x=some (.map (some b)))(f:∀w,Hp F w H->w.heap[b]? =some (.map es clock))(i:O5 td es clock ms)(j:Nat.blt d N=true)(h:∀g,cx es clock clock #[] clock ms->GL P N ops rest K E R ((d,.pointer (some ⟨g,0,none⟩))::L) F (.blk g (.mapIter (some b) clock #[] clock)::H)):GL P N ops (⟨some d,.range t x,ty,pos,af,none⟩::rest) K E R L F H:=
 T4 rfl rfl j fun a w hf e=>by
  have c:=run_range_map (P:=P) w t kt et b es clock hu.h (f w e);refine⟨_,_,_,?_,e.alloc _,h _ (cx.start i)⟩;simp only[execOp,hf.eval hx,Sem.run_bind,c];rfl
def FT{r i c0:Nat}{f:Array Nat}{h:List KV}{H':Array Nat->List As}(hx:ev L x=some (.pointer (some ⟨r,0,none⟩)))(D:∀w,Hp F w H->w.heap[b]? =some (.map es clock))(u:∀c,N1 H (.blk r (.mapIter (some b) i f c0)) [.blk r (.mapIter (some b) i c clock)] (H' c))(m:cx es clock i f c0 h)(n:O5 td es clock ms)(t:Nat.blt d N=true)(y:h=[]->GL P N ops rest K E R ((d,.tuple #[.bool false])::L) F H)(z:∀k v g c,h.Perm ((k,v)::g)->cx es clock i c clock g->FR es c k v->GL P N ops rest K E R ((d,.tuple #[.bool true,k,v])::L) F (H' c)):GL P N ops (⟨some d,.next x false,ty,pos,af,none⟩::rest) K E R L F H:=by
 unfold GL at y z⊢;intro a w hf l;rcases run_next_at (P:=P) w ty r b i c0 f es clock (l.blk (u f)) (D w l) m.hold m.sc with⟨J,j⟩|⟨e,A,C,o,j⟩
 ·have M:h=[]:=by
   have:=m.left.length_eq;have O:leftOf es f=#[]:=Wk J;rw[O] at this;exact js (by simpa using this.symm)
  refine wpList_plain rfl fun Q p=>?_;unfold Oper.wp;have:(execOp a.eval ⟨some d,.next x false,ty,pos,af,none⟩).run P w=.ok (.value (.tuple #[.bool false])) w:=by
   simp only[execOp,hf.eval hx,Sem.run_bind,j];rfl
  rw[this,Oper.upon_value];exact p _ _ (y M _ _ (hf.put t _) l)
 ·have S:=mem_left A;refine wpList_plain rfl fun Q p=>?_;unfold Oper.wp;have:(execOp a.eval ⟨some d,.next x false,ty,pos,af,none⟩).run P w=.ok (.value (.tuple #[.bool true,e.key,e.val])) (ChangeMaps.setBlock C r (.mapIter (some b) i (f.push e.born) clock)):=by
   simp only[execOp,hf.eval hx,Sem.run_bind,j];rfl
  rw[this,Oper.upon_value];have q:Hp F C H:=by
   rcases o with rfl|rfl
   ·exact l
   ·exact l.drew'
  obtain⟨g,hp,s⟩:=m.step n A;exact p _ _ (z e.key e.val g _ hp s ⟨e,S.1,f,rfl,rfl,rfl⟩ _ _ (hf.put t _) (q.setB (u _)))
def FU{r c:Nat}{a:Array Nat}{k v:Value}{h:List As}(hx:ev L x=some (.pointer (some ⟨r,0,none⟩)))(i:∀w,Hp F w H->w.heap[b]? =some (.map es clock))(u:N1 H (.blk r (.mapIter (some b) c a clock)) [] h)(hl:FR es a k v)(f:O5 td es clock ms):
  dF P ⟨dst,.entry x,ty,pos,af,gd⟩ L F H (.tuple #[k,v]):=by
 unfold dF;intro ρ w hf g;obtain⟨e,j,s,rfl,rfl,rfl⟩:=hl.ex;have d:=run_entry_at (P:=P) w r b c s es clock e (g.blk u) (i w g) j f.st.2.1;simp only[execOp,hf _ _ hx,Sem.run_bind,d];rfl
end
open Go Go.RowKit
def Dh(F:l9)(Pq:Value->Prop):A1:=fun a w=>∃v,a.tmps=#[v]/\a.defers=[]/\Pq v/\Hp F w []
def Cx(P:zj)(f:FuncId)(args:zq)(Pre:l_->Prop)(C:List As)(Post:Value->List As->Prop)(Pq:Value->Prop):Prop:=
 ∀w bs,A_ (hp w) C bs->bs.Nodup->Pre (F6 w bs)->Calls P f args.toArray w fun e w'=>
  (∃v A,e=.returned v/\Post v A/\Hp (w6 w bs) w' A)\/∃v,e=.panicked [{v:=v,recovered:=false}]/\Pq v/\Hp (w6 w bs) w' []
def C2{P:zj}{f:FuncId}{fn:Func}{c:Code}{args:zq}{g:l_->Prop}{C:List As}{b:Value->List As->Prop}{Pq:Value->Prop}(N:Nat)(hf:P.funcs[f]? =some fn)(s:fn.body=some c)(t:fn.ntmps=N)(p:Nat.ble args.length N=true)(h:∀F:l9,g F.heap->G P N c (dE P fn F b) [(0,Dh F Pq)] (dE P fn F b) (aM 0 args) F C):Cx P f args g C b Pq:=by
 intro w u hs x i;refine calls_of_wp hf s ?_;rw[t];have d:=h (w6 w u) i;unfold G at d;refine Code.wp_mono (fun e a y q=>?_) (d _ w (U3 N args p) (Hp.start hs x))
 cases e with
 |normal=>obtain⟨v,A,d,j,m,n⟩:=q;exact⟨n,v,d,.inl ⟨v,A,rfl,j,m⟩⟩
 |ret=>obtain⟨v,A,d,j,m,n⟩:=q;exact⟨n,v,d,.inl ⟨v,A,rfl,j,m⟩⟩
 |exit id=>simp[MQ,List.lookup] at q
 |goto l=>exact q.elim
 |panic ch=>
  rcases q with⟨k,v,o,rfl,q⟩|⟨k,v,o,_⟩
  ·injection o with o;subst o;obtain⟨r,d,j,m,n⟩:=q;have:r=v:=(by simpa using d.symm);subst this;exact⟨j,.inr ⟨r,rfl,m,n⟩⟩
  ·cases o
 |outgrown=>exact q.elim
def Cx.ct{P:zj}{f:FuncId}{args:zq}{b:l_->Prop}{C:List As}{a:Value->List As->Prop}{Pq:Value->Prop}(h:Cx P f args b C a Pq)(hp:∀v,¬Pq v):Ct P f args b C a:=
 fun w c d e g=>(h w c d e g).mono fun _ _ q=>q.resolve_right fun⟨v,_,i,_⟩=>hp v i
def Cx.mono{P:zj}{f:FuncId}{args:zq}{c Pre':l_->Prop}{C:List As}{b a:Value->List As->Prop}{Pq d:Value->Prop}(h:Cx P f args c C b Pq)(e:∀x,Pre' x->c x)(hp:∀v A,b v A->a v A)(hq:∀v,Pq v->d v):Cx P f args Pre' C a d:=
 fun w k l m n=>(h w k l m (e _ n)).mono fun _ _ q=>q.imp (fun⟨v,A,g,i,j⟩=>⟨v,A,g,hp _ _ i,j⟩) fun⟨v,g,i,j⟩=>⟨v,g,hq _ i,j⟩
section
variable{P:zj}{N:Nat}{K R:A1}{E:List (Nat×A1)}{L:G9}{F F0:l9}{H:List As}{ops:Array Oper}{rest:List Oper}{ty:zk}{pos:String}{af:Array Edge}{dst:Option Nat}{gd:Option (Nat×Bool)}{Pq Pq':Value->Prop}
def rM{o:Oper}{d:Nat}{f:FuncId}{vs:zq}{j:l_->Prop}{C Rr:List As}{i:Value->List As->Prop}(hg:o.guard=none)(r:o.dst=some d)(J:Nat.blt d N=true)(s:∀ρ w,FD L ρ->(execOp ρ o).run P w=.ok (.enter f vs.toArray) w)(hc:Cx P f vs j C i Pq)(hH:∀w,Hp F w H->Hp F w (C++Rr))(t:∀h,l_.le F.heap h->(∃bs,A_ h Rr bs)->j h)(M:E.lookup 0=some (Dh F0 Pq'))(hl:F0.le F)(y:∀v,Pq v->Pq' v)(h:∀v A,i v A->GL P N ops rest K E R ((d,v)::L) F (A++Rr)):GL P N ops (o::rest) K E R L F H:=by
 unfold GL at h⊢;intro a w hf O;have g:=hH w O;obtain⟨bs,hs,u,k⟩:=g.own;obtain⟨x,Q,e,l,m⟩:=A_.split hs;subst e;have n:j (F6 w x):=by
  refine t _ (fun b S p=>?_) ⟨Q,A_.same m fun b z=>?_⟩
  ·have T:=g.keep b S p;have D:b∉x:=fun z=>(by rw[k b (by simp[z])] at p;cases p);simpa[F6,D,hp] using T
  ·have D:b∉x:=fun hc=>(Qg.1 u).2.2 b hc b z rfl;simp[F6,D,hp]
 refine wpList_plain hg fun X U=>?_;unfold Oper.wp;rw[s _ w hf.agr,Oper.upon_enter];refine(hc w x l (Qg.1 u).1 n).mono ?_;rintro e Y (⟨v,A,rfl,q,c⟩|⟨v,rfl,V,c⟩)
 ·rw[r];exact U _ _ (h v A q _ _ (hf.put J v) (g.back l m u k c))
 ·exact .inl ⟨_,v,M,rfl,v,rfl,hf.defers,y v V,(g.back l m u k c).dropAll.unfreeze hl⟩
def y4{d:Nat}{f:FuncId}{args:List zw}{e:Array zk}{vs:zq}{b:l_->Prop}{C:List As}{a:Value->List As->Prop}[HF P f](Rr:List As)(hx:rI L args=some vs)(hc:Cx P f vs b C a Pq)(hH:∀w,Hp F w H->Hp F w (C++Rr))(c:∀h,l_.le F.heap h->(∃bs,A_ h Rr bs)->b h)(i:Nat.blt d N=true)(j:E.lookup 0=some (Dh F0 Pq'))(hl:F0.le F)(g:∀v,Pq v->Pq' v)(h:∀v A,a v A->GL P N ops rest K E R ((d,v)::L) F (A++Rr)):GL P N ops (⟨some d,.call ⟨.value (.func f),args.toArray,e⟩,ty,pos,af,none⟩::rest) K E R L F H:=
 rM rfl rfl i (fun ρ w hf=>bu hx hf w) hc hH c j hl g h
def lj{d:Nat}{x:zw}{f:FuncId}{args:List zw}{i:Array zk}{vs ps qs b:zq}{c:l_->Prop}{C:List As}{a:Value->List As->Prop}[hF:HF P f](Rr:List As)(hv:ev L x=some (.func (.func f) ps.toArray qs.toArray))(hx:rI L args=some vs)(e:ps++vs++qs=b)(hc:Cx P f b c C a Pq)(hH:∀w,Hp F w H->Hp F w (C++Rr))(g:∀h,l_.le F.heap h->(∃bs,A_ h Rr bs)->c h)(k:Nat.blt d N=true)(l:E.lookup 0=some (Dh F0 Pq'))(hl:F0.le F)(j:∀v,Pq v->Pq' v)(h:∀v A,a v A->GL P N ops rest K E R ((d,v)::L) F (A++Rr)):GL P N ops (⟨some d,.call ⟨.value x,args.toArray,i⟩,ty,pos,af,none⟩::rest) K E R L F H:=
 rM rfl rfl k (fun ρ w hf=>by
  have m:=hf _ _ hv;have n:=bt hf hx;subst e;simp only[execOp,resolve,m,Deferred.ofValue,Zr,n,Sem.run_bind,Sem.run_pure,Result.andThen_ok,invoke];have:(ps.toArray++vs.toArray++qs.toArray:Array Value)=(ps++vs++qs).toArray:=by simp
  rw[this];exact hF.h _ w) hc hH g l hl j h
def FV{x:zw}{u:zk}{pv:Value}(hx:ev L x=some (.iface u pv))(c:E.lookup 0=some (Dh F0 Pq'))(hl:F0.le F)(b:Pq' (.iface u pv)):GL P N ops (⟨dst,.panic x,ty,pos,af,none⟩::rest) K E R L F H:=by
 unfold GL;intro a w hf d;refine wpList_plain rfl fun f g=>?_;unfold Oper.wp;have e:(execOp a.eval ⟨dst,.panic x,ty,pos,af,none⟩).run P w=.halt (.panic (.iface u pv)) w:=by
  simp only[execOp,hf.eval hx,Sem.run_bind,run_panic_iface];rfl
 rw[e];exact .inl ⟨_,_,c,rfl,_,rfl,hf.defers,b,d.dropAll.unfreeze hl⟩
end
section
variable{P:zj}{N:Nat}{K R:A1}{E:List (Nat×A1)}{L:G9}{F:l9}{H:List As}{ops:Array Oper}{rest:List Oper}{ty:zk}{pos:String}{af:Array Edge}{dst:Option Nat}{gd:Option (Nat×Bool)}{t:zk}
def fN{d:Nat}{s x:zw}{a b:qr}{n c m Z sz:Nat}{xs news:zq}{e:zk}{H0:List As}{z:Value}{i:TypeInfo}[hu:HU P t (.slice e)][hz:HZ P e z][hi:HI P e i][hs:HS P e sz](h1:ev L s=some (.slice a n c))(h3:ev L x=some (.slice b m Z))(u:N1 H (.own (.slice a n c) e sz xs) [] H0)(hsrc:∀w,Hp F w H->KX (hp w) b news)(hl:news.length=m*sz)(h4:Nat.blt 0 sz=true)(h5:z.cells.size=sz)(p:(n+m)*i.bytes<=140737488355328)(h63:n+m<=9223372036854775807)(q0:¬n+m<=c)(hm:0<m)(hd:Nat.blt d N=true)(h:∀g c',n+m<=c'->GL P N ops rest K E R ((d,.slice (some ⟨g,0,none⟩) (n+m) c')::L) F (.own (.slice (some ⟨g,0,none⟩) (n+m) c') e sz (xs++news)::H)):
  GL P N ops (⟨some d,.call ⟨.builtin .append,#[s,x],#[t,t]⟩,ty,pos,af,none⟩::rest) K E R L F H:=
 T4 rfl rfl hd fun w0 w hf hw=>by
  have S:0<sz:=by simpa[K2] using h4
  have f:=hi.h;have r:i.size=sz:=by
   have J:=hs.h w;simp[sizeOf,typeInfo,f] at J;exact J
  have T:i.zero=some z:=by
   have J:=hz.h w;simp only[zeroValue,Sem.run_bind,typeInfo] at J
   cases hq:i.zero with
   |none=>simp[f,hq] at J
   |some z'=>simp[f,hq] at J;rw[J]
  have y:∀vv w',(Builtin.append_ #[t,t] ty #[.slice a n c,.slice b m Z]).run P w=.ok vv w'->
    (execOp w0.eval ⟨some d,.call ⟨.builtin .append,#[s,x],#[t,t]⟩,ty,pos,af,none⟩).run P w=.ok (.value vv) w':=fun vv w' U=>by
   simp[execOp,resolve,invoke,builtin,hf.eval h1,hf.eval h3,U]
  have h6:news≠[]:=by
   rintro rfl;have:0<m*sz:=Jv hm S;simp at hl;omega
  obtain⟨ad,rfl,C⟩:=hsrc w hw h6;have k:∀j u,news[j]? =some u->w.cell? (ad.add j)=some u:=C;obtain⟨D,q1,h7,M⟩:=hw.ownN u;have A:∀(l:Nat),l<n+m->Hp F (w.drew.alloc (.cells (xs.toArray++news.toArray++Builtin.zeroCells z.cells (grownCap w (n+m) l e-(n+m))) e)) (.own (.slice (some ⟨w.heap.size,0,none⟩) (n+m) (grownCap w (n+m) l e)) e sz (xs++news)::H)/\n+m<=grownCap w (n+m) l e:=fun l ho=>by
   have V:=grownCap_ge w (n+m) l e;refine⟨P9 (w:=w.drew) (post:=(Builtin.zeroCells z.cells (grownCap w (n+m) l e-(n+m))).toList) (fr:=(0,0)) hw.drew' ?_ ?_ V (.inl (kp _)) ?_,V⟩
   ·rw[zg,D,hl,Zj]
   ·simp only[zg,D,hl,Z9,size_zeroCells,h5,<-Zj];congr 1;omega
   ·congr 2;apply Zv.1;simp
  cases a with
  |none=>
   have h8:n=0:=by
    rcases Zq n with h0|h0
    ·exact h0
    ·obtain⟨_,h9⟩:=M h0;cases h9
   subst h8;have O:xs=[]:=js (by simpa using D);subst O;have k0:c=0:=by
    obtain⟨b2,Y,_⟩:=hw.focus u;rcases Y with⟨Q,_,_⟩|⟨g,_,⟨o,n',q2,pre,X,fr,Q,_⟩⟩
    ·injection Q
    ·injection Q with e1;cases e1
   subst k0;have hr:=run_append_nil (P:=P) w t ty e i z hu.h f T ad m Z news (by rw[r];exact hl) k qb qb (by rw[j6] at p;omega);have q:=A 0 qb;simp only[j6,Qv] at q;refine⟨_,_,.own (.slice (some ⟨w.heap.size,0,none⟩) m (grownCap w m 0 e)) e sz news::H,y _ _ hr,?_,?_⟩
   ·have:=q.1;simpa using this
   ·have:=h w.heap.size (grownCap w m 0 e) (by simpa using q.2);simpa using this
  |some ad0=>
   have k8:∀j v,xs[j]? =some v->w.cell? (ad0.add j)=some v:=fun j v hj=>by
    have O:xs≠[]:=(by rintro rfl;simp at hj);obtain⟨q3,e2,k9⟩:=h7 O;injection e2 with e2;subst e2;exact k9 j v hj
   have hr:=run_append_grow (P:=P) w t ty e i z hu.h f T ad0 n c xs (by rw[r];exact D) k8 ad m Z news (by rw[r];exact hl) k qb qb (growslice_fits qb p);have q:=A c qb;exact⟨_,_,_,y _ _ hr,q.1,h _ _ q.2⟩
end
attribute [irreducible] At G GL GA E5 dF
open Go Go.RowKit
def y_{A B:Prop}(h:B)(f:B->A:=by first|exact Ax|exact nq|exact tC|exact o0|exact tD rfl|exact jl rfl|exact jo rfl):A:=f h
def u_{A B:Prop}(h:B)(f:B->A:=by first|exact U4 rfl rfl rfl rfl rfl rfl rfl|exact Y_ rfl rfl rfl rfl rfl rfl):A:=f h
def n_{A B:Prop}(h:B)(f:B->A:=by first|exact G5|exact Ax|exact nq|exact tC|exact o0|exact tD rfl|exact jl rfl|exact jo rfl):A:=f h
def x_{A B:Prop}(h:B)(f:B->A:=by first|exact G5|exact U2|exact Ax|exact nq|exact tC|exact o0|exact tD rfl|exact jl rfl|exact jo rfl):A:=f h
def i_{α:Type}{p:α->Prop}:∀w,p w->p w:=fun _ h=>h
def j_{L' L:G9}(h:fE L' L:=by repeat first|exact fE.nil _|refine fE.cons rfl ?_):fE L' L:=h
def k_{p:Prop}(h:p:=by first|exact fun _ h=>h|(repeat first|exact tH|refine oC (by repeat first|exact List.Mem.head _|apply List.Mem.tail) ?_)):p:=h
def dF.eb{P:zj}{o:Oper}{L:G9}{F:l9}{H:List As}{b q:Bool}(h:dF P o L F H (.bool b))(e:q=b):dF P o L F H (.bool q):=h.eq (qn e.symm)
def E5.eb{P:zj}{o:Oper}{L:G9}{b q:Bool}(h:E5 P o L (.bool b))(e:q=b):E5 P o L (.bool q):=h.eq (qn e.symm)
def i6{p:Prop}(h:p:=by kernel_rfl):p:=h
def R6{p:Prop}(h:p:=by first|exact .head _|exact .tail _ (.head _)|exact .tail _ (.tail _ (.head _))|exact .tail _ (.tail _ (.tail _ (.head _)))):p:=h
def Pk{p:Prop}(h:p:=by(intro q hq;simp[Value.cells] at hq;first|(subst hq;rfl)|(rcases hq with rfl|rfl|rfl|rfl|rfl|rfl|rfl|rfl<;>rfl)|(rcases hq with rfl|rfl|rfl|rfl|rfl|rfl|rfl|rfl|rfl|rfl|rfl|rfl|rfl|rfl|rfl|rfl|rfl|rfl|rfl|rfl<;>rfl))):p:=h
def x7{p:Prop}(h:p:=by simp):p:=h
section
variable{P:zj}{N:Nat}{K R:A1}{E:List (Nat×A1)}{L:G9}{F:l9}{H Hk:List As}{ops:Array Oper}{rs:Rs}{done:zz}{n d:Nat}{rest:List Oper}{o oj:Oper}{v:Value}{ty:zk}{pos:String}{af:Array Edge}
def f_(s:E5 P o L v)(h:GL P N ops rest K E R ((d,v)::L) F H)(hg:o.guard=none:=by exact rfl)(a:o.dst=some d:=by exact rfl)(b:Nat.blt d N=true:=by exact rfl):GL P N ops (o::rest) K E R L F H:=Pf s hg a b h
def r_(s:dF P o L F H v)(h:GL P N ops rest K E R ((d,v)::L) F H)(hg:o.guard=none:=by exact rfl)(a:o.dst=some d:=by exact rfl)(b:Nat.blt d N=true:=by exact rfl):GL P N ops (o::rest) K E R L F H:=UR s hg a b h
def m_{x:zw}(h:GL P N ops rest K E R ((d,v)::L) F H)(hx:ev L x=some v:=by exact rfl)(a:Nat.blt d N=true:=by exact rfl):GL P N ops (⟨some d,.move x,ty,pos,af,none⟩::rest) K E R L F H:=Pf (aN hx) rfl rfl a h
def a_{x:zw}(h:GL P N ops rest K E R ((d,v)::L) F H)(hx:ev L x=some v:=by exact rfl)(a:Nat.blt d N=true:=by exact rfl):GL P N ops (⟨some d,.assign x,ty,pos,af,none⟩::rest) K E R L F H:=Pf (vu hx) rfl rfl a h
def s_(i:Nat){j t:Nat}{b q:Bool}(h:GA P N ops rs Hk n (i::done) K E R ((d,undef)::L) F H)(e:ops[i]? =some o:=by exact rfl)(hg:o.guard=some (j,b):=by exact rfl)(f:ops[j]? =some oj:=by exact rfl)(g:oj.dst=some t:=by exact rfl)(hv:find L t=some (.bool q):=by exact rfl)(c:q=!b:=by exact rfl)(a:o.dst=some d:=by exact rfl)(k:Nat.blt d N=true:=by exact rfl)(hc:O4 ops rs done i=true:=by kernel_rfl)(hE:E.lookup 1=none:=by exact rfl):GA P N ops rs Hk (n+1) done K E R L F H:=AH i e hg f g hv c a k hc h (hE:=hE)
def t_(i:Nat){j t:Nat}{b:Bool}(h:GA P N ops rs Hk n (i::done) K E R ((d,undef)::L) F H)(c:ops[i]? =some o:=by exact rfl)(hg:o.guard=some (j,b):=by exact rfl)(e:ops[j]? =some oj:=by exact rfl)(f:oj.dst=some t:=by exact rfl)(hv:find L t=some undef:=by exact rfl)(a:o.dst=some d:=by exact rfl)(g:Nat.blt d N=true:=by exact rfl)(hc:O4 ops rs done i=true:=by kernel_rfl)(hE:E.lookup 1=none:=by exact rfl):GA P N ops rs Hk (n+1) done K E R L F H:=ox i c hg e f hv a g hc h (hE:=hE)
def w_(i:Nat)(b:ops[i]? =some o)(s:E5 P o L v)(h:GA P N ops rs Hk n (i::done) K E R ((d,v)::L) F H)(hg:o.guard=none:=by exact rfl)(a:o.dst=some d:=by exact rfl)(c:Nat.blt d N=true:=by exact rfl)(hc:O4 ops rs done i=true:=by kernel_rfl)(hE:E.lookup 1=none:=by exact rfl):GA P N ops rs Hk (n+1) done K E R L F H:=AG i b s hg a c hc h (hE:=hE)
def ms_(l:List Oper):zz:=l.foldl (fun ms o=>ms++[o.after.foldl (fun m e=>if Region.binds .any e then m|||(1<<<e.on)|||ms.getD e.on 0 else m) 0]) []
def D8{id:Nat}{l:List Oper}[hm:HM P](a b:zz)(c:List As)(n:Nat)(h:GA P N l.toArray (a,ms_ l,b) c n [] K E R L F H)(d:n=l.toArray.size:=by exact rfl):G P N (.region id l.toArray true) K E R L F H:=yk _ c n d h
def vM{id:Nat}{l:List Oper}[hm:HM P](a b:zz)(n:Nat)(h:GA P N l.toArray (a,ms_ l,b) H n [] K E R L F H)(c:n=l.toArray.size:=by exact rfl):G P N (.region id l.toArray true) K E R L F H:=gz _ n c h
def o9{α:Sort _}(a:α):∃q,q=a:=⟨a,rfl⟩
def v_{A B:Prop}(h:B)(f:B->A:=by exact A7 rfl rfl rfl):A:=f h
end
