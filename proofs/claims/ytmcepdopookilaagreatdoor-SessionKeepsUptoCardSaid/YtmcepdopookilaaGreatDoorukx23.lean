import Derived.Test.YtmcepdopookilaaGreatDoorukx22
set_option linter.unusedVariables false
set_option linter.unusedSimpArgs false
set_option linter.defProp false
namespace Go.Proofs.YtmcepdopookilaaGreatDoor.Rp
open Go Go.Sl Go.RowKit Go.Proofs.Tryz
def UC:∀x,∀q∈mZ x,q.oneCell'=true:=fun x q a=>by simp at a;subst a;rfl
abbrev ci(g:Nat)(s:SE)(x:SL):As:=.blk g (.cells (mn s x).toArray 39)
abbrev RZ:RM:=(R0,L0)
abbrev rwT(t:TN)(rs:List (Nat×Nat)):As:=.own (.slice t.bx.ra t.b.a6y.a6x.length t.bx.rc) 72 2 (S_ rs)
abbrev KU(t:TN)(rs:List RM):As:=.own (.slice t.y.da t.y.rl.length t.y.dc) 51 10 (RI rs)
def UD(c:Bool)(t:TN):List As:=if c=true then KU t t.y.rl::T6 t.y.rl else[]
def vr(k:Nat)(l:List RM):List RM:=List.replicate k RZ++l.drop k
def Oi{k:Nat}{l:List RM}(h:k<=l.length):(vr k l).length=l.length:=by unfold vr;rw[zg,Zm,jz];omega
def Oj{k:Nat}{l:List RM}(h:k<l.length)(a:k<(vr k l).length):(vr k l)[k]=l[k]:=by
 have e:(vr k l)[k]? =l[k]?:=by
  unfold vr;rw[jc x7,Zm,Jc,Zc,Zk]
 rw[zd a,zd h] at e;exact Qz e
def Ok{k:Nat}{l:List RM}{y:RM}(h:k<l.length):((vr k l).set k y).set k RZ=vr (k+1) l:=by
 unfold vr;rw[Jq,Qc h,List.set_append_right _ _ x7];simp only[Zm,Jc,List.set_cons_zero];rw[List.replicate_succ',ky];rfl
def KD{F:l9}{v:World}{k:Nat}{l:List RM}{h:l_}{A R:List As}(d:k<l.length)(f:∀m∈l,gn m h)(a:Hp F v (A++(T6 (l.drop k)++R))):Hp F v (.own (.slice l[k].2.fa l[k].1.a6J.length l[k].2.fc) 9 1 (l[k].1.a6J.flatMap mZ)::(A++(T6 (l.drop (k+1))++R))):=by
 have e:T6 (l.drop k)=T6 [l[k]]++T6 (l.drop (k+1)):=by rw[Qc d,<-kW];rfl
 rw[e,ky] at a;rw[<-ke];rcases f l[k] (zm d) with⟨b,c⟩|⟨i,j,b⟩
 ·have hf:=vb b c;have g:T6 [l[k]]=[]:=by unfold T6;rw[Q4,zr hf];rfl
  rw[g,Qv] at a;rw[hf,c.1,c.2];exact a.addNil 9 1
 ·rw[b] at a⊢;exact a.perm Qm
def KE{m:RM}{h:l_}(k:gn m h):m.1.a6J.length<=10:=by
 rcases k with⟨a,b⟩|⟨c,d,rfl⟩
 ·rw[vb a b];exact zp _
 ·exact(by decide:S5.length<=10)
def Ol{m:MM}(h:V5 m.s):m.a6u.length<=1000/\m.a6v.length<=1000000/\m.a6w.length<=1000000/\∀b∈m.a6u,b.ls.length<=1000000/\∀x∈b.ls,x.t.a6J.length<=1000000:=by
 have c:=h.a6u;have g:=qG h;have i:=h.a6w;rw[show m.s.a6u=m.a6u.map BM.x from rfl,kg] at c;refine⟨by omega,by omega,by show m.s.a6w.length<=_;omega,fun b d=>?_⟩;have a:=h.box b.x (Q5 d);have e:=a.lts;rw[show b.x.lts=b.ls.map LM.t from rfl,kg] at e;refine⟨by omega,fun x f=>?_⟩;have:=(a.a6J x.t (Q5 f)).1;omega
set_option maxHeartbeats 16000000 in
set_option maxRecDepth 8000 in
def keeps_cm(l:List qS)(U:qr)(lc:Nat)(a2:Ar l):
  Cm prog 8 [.slice U l.length lc] (JR l U) [] (fun h v A=>v=.bool true/\A=[]):=by
 refine A0 160 func8 rfl rfl rfl ?_;rintro F R ⟨hg,v2,v3⟩;refine yu ?_;refine B_ xY hg ?_;rintro v A F0 h8 ⟨rfl,rfl⟩;refine E8 ?_;(first|refine u_ ?_|(refine v_ ?_;refine e_ (C:=[]) (JQ l U lc) (fun h hh _=>⟨(v2.le h8.heap).le hh,fun p hp=>Mn.le hh (Mn.le h8.heap (v3 p hp))⟩) ?_;rintro v A ⟨rfl,b,rfl,a6⟩));refine T2 ?_ ?_<;>intro h
 ·refine D1 ?_;refine B_ xY (hg.le h8.heap) ?_;rintro v A F1 z0 ⟨rfl,rfl⟩;refine D0 ?_;refine I4 (A:=[]) (v:=.bool true) (h8.trans z0) qh ?_;exact d_ rfl rfl _ qh (fun v d=>d)
 obtain⟨d3,hB⟩:=a6 h;have v4:=NY a2 hB;refine D1 ?_;refine B_ xR trivial ?_;rintro v A F1 z0 ⟨m,rfl,rfl,hm,a7⟩;refine i7 rfl ?_;intro s;refine u6 ?_;have x3:=h8.trans z0;refine C5 (H':=N7 s (Ap m)::R) (fun v d=>d) ?_;refine I6 1 ?_;refine V7 (fun(_:Unit) (_:Unit) (_:Unit) (F2:l9)=>F.le F2) (fun _ _ _ _=>[]) (fun _ _ _ F2=>F2) (fun _ _ _ _=>R) ?_ ?_
 ·refine o0 ?_;refine bV (ι:=Nat×WM×l9) (fun i=>i.1<=l.length/\F.le i.2.2/\(∃ts,eL (Ap m) ((l.map Prod.fst).take i.1) ts i.2.1)/\il i.2.1 i.2.2.heap) (fun i=>[(0,.slice U l.length lc),(3,i8 s),(4,r7 i.1)]) (fun i=>i.2.2)
   (fun i=>match i with|(_,w,_)=>N7 s w::R) (fun i=>l.length-i.1) (0,Ap m,F1) ⟨zp _,x3,⟨[],by rw[Km];exact .nil⟩,⟨hg.le x3.heap,n9.nil _ _,⟨n9.nil _ _,eu.zero _⟩,a7,⟨n9.nil _ _,n9.nil _ _⟩,n9.nil _ _⟩⟩ sub rfl (fun v d=>d) ?_
  rintro⟨j,w,F2⟩ ⟨hj,h9,⟨ts,z2⟩,V⟩;simp only at hj h9 z2 V;have x9:((l.map Prod.fst).take j).length=j:=by rw[kr,kg];omega
  have k8:=(JM z2 (Pb hm) (fun a h=>by
   obtain⟨p,hp,rfl⟩:=jr.1 (Jb h);exact v4 p hp) (by rw[x9];omega)).1
  rw[x9] at k8;refine AO ?_ ?_<;>intro h
  ·have X:j<l.length:=(by have:=zy h;omega);have k9:=v2.le h9.heap;have q0:=p8 k9 gZ qp X;have T:rF l[j].1:=v4 _ (zm X);have u0:=qR k8 T qb;have M:=JD w l[j].1 l[j].2 u0;have h5:dM l[j].1.other l[j].2 F2.heap:=Mn.le h9.heap (v3 _ (zm X));have d7:=u0.a6x;refine I6 0 ?_;refine V7 (fun(u:WM) (_:Unit) (_:Unit) (F3:l9)=>F.le F3/\(∃a8,eL (Ap m) ((l.map Prod.fst).take (j+1)) a8 u)/\il u F3.heap) (fun _ _ _ _=>[(0,.slice U l.length lc),(3,i8 s),(4,r7 j)]) (fun _ _ _ F3=>F3) (fun u _ _ _=>N7 s u::R) ?_ ?_
   ·refine o0 ?_;refine A5 ?_;refine i7 rfl ?_;intro z;refine u6 ?_;refine u6 ?_;intro d8;refine E8 ?_;refine u7 dL (l:=[]) (m:=w.s.a6y.a6x) B6 jS (by show(0+w.s.a6y.a6x.length)*16<=_;omega) ?_ (hsrc:=fun v d=>V.a6x.le d.keep) (h63:=by simp only[kx];omega);intro yo h6 _;refine E8 ?_;obtain⟨D,v5⟩:∃D:SL,D={w.x with ra:=yo,rc:=h6}:=⟨_,rfl⟩;refine C5 (H':=ci z w.s D::l6 yo w.s.a6y.a6x h6::N7 s w::R) (fun v d=>by rw[v5];exact D3 (A:=[_,_,_]) (J:=[]) tk d) ?_;have q5:D.ra=yo/\D.ua=w.x.ua/\D.cl=w.x.cl:=(by rw[v5];exact qm);refine I6 0 ?_;refine bi (fun(e:WM) (t1:TN) (g:Bool) (o:Nat) (q:Nat) (F3:l9)=>F2.le F3/\kY w l[j].1 e t1 g F3.heap) (fun _ _ _ o q _=>[(0,.slice U l.length lc),(3,i8 s),(4,r7 j),(5,i8 z),(6,i8 o),(7,i8 q)]) (fun _ _ _ _ _ F3=>F3) (fun e t1 g o q _=>N7 o e::aj q t1::ci z w.s D::N7 s w::(l6 yo w.s.a6y.a6x h6::E1 g t1++R)) ?_ ?_
    ·refine x6 ?_;refine D8 [0,4] [5,9,10,11,12] [N7 s w] 13 ?_;refine wd [0,1,2] ?_;refine w_ 3 rfl (n5 rfl q0 rfl qb) ?_;refine A9 4 rfl (p9 (cs:=Fh l[j]) rfl (fun v d=>bK (C:=Fh) (k9.le d.keep) gZ qp X x7) rfl) G3 rfl rfl rfl i6 ?_;refine vJ 5 9 10 rfl rfl rfl i6 ?_ ?_ ?_;refine G6 M ⟨V,h5⟩ ?_;rintro v A Z Fz hz ⟨e,t1,g,rfl,rfl,hf⟩;(first|refine z_ (H':=_::_::_::_::_::(E1 g t1++(R++Z))) (fun v d=>d.perm (z6 (E1 g t1) [_,_,_,_,_] (R++Z))) ?_|refine z_ (H':=_::_::_::_::(E1 g t1++(R++Z))) (fun v d=>d.perm (z6 (E1 g t1) [_,_,_,_] (R++Z))) ?_|refine z_ (H':=_::_::_::(E1 g t1++(R++Z))) (fun v d=>d.perm (z6 (E1 g t1) [_,_,_] (R++Z))) ?_);refine D7 [6,7,8] ?_;refine S4 9 10 rfl rfl i6 ?_ ?_;refine i7 rfl ?_;intro o;refine rR ?_;refine h_ 10 rfl i6 ?_;refine i7 rfl ?_;intro q;refine D7 [11,12] ?_
     rotate_left 1
     refine i7 rfl ?_;intro q;refine rR ?_;refine h_ 9 rfl i6 ?_;refine i7 rfl ?_;intro o;refine D7 [11,12] ?_
     rotate_left 1
     refine i7 rfl ?_;intro o;refine V2 ?_;refine S4 5 10 rfl rfl i6 ?_ ?_;refine G6 M ⟨V,h5⟩ ?_;rintro v A Z Fz hz ⟨e,t1,g,rfl,rfl,hf⟩;(first|refine z_ (H':=_::_::_::_::_::(E1 g t1++(R++Z))) (fun v d=>d.perm (z6 (E1 g t1) [_,_,_,_,_] (R++Z))) ?_|refine z_ (H':=_::_::_::_::(E1 g t1++(R++Z))) (fun v d=>d.perm (z6 (E1 g t1) [_,_,_,_] (R++Z))) ?_|refine z_ (H':=_::_::_::(E1 g t1++(R++Z))) (fun v d=>d.perm (z6 (E1 g t1) [_,_,_] (R++Z))) ?_);refine D7 [6,7,8] ?_;refine h_ 10 rfl i6 ?_;refine i7 rfl ?_;intro q;refine D7 [11,12] ?_
     rotate_left 1
     refine i7 rfl ?_;intro q;refine V2 ?_;refine h_ 5 rfl i6 ?_;refine G6 M ⟨V,h5⟩ ?_;rintro v A Z Fz hz ⟨e,t1,g,rfl,rfl,hf⟩;(first|refine z_ (H':=_::_::_::_::_::(E1 g t1++(R++Z))) (fun v d=>d.perm (z6 (E1 g t1) [_,_,_,_,_] (R++Z))) ?_|refine z_ (H':=_::_::_::_::(E1 g t1++(R++Z))) (fun v d=>d.perm (z6 (E1 g t1) [_,_,_,_] (R++Z))) ?_|refine z_ (H':=_::_::_::(E1 g t1++(R++Z))) (fun v d=>d.perm (z6 (E1 g t1) [_,_,_] (R++Z))) ?_);refine D7 [6,7,8,11,12] ?_
     rotate_left 1
     refine i7 rfl ?_;intro q;refine V2 ?_;refine S4 5 9 rfl rfl i6 ?_ ?_;refine G6 M ⟨V,h5⟩ ?_;rintro v A Z Fz hz ⟨e,t1,g,rfl,rfl,hf⟩;(first|refine z_ (H':=_::_::_::_::_::(E1 g t1++(R++Z))) (fun v d=>d.perm (z6 (E1 g t1) [_,_,_,_,_] (R++Z))) ?_|refine z_ (H':=_::_::_::_::(E1 g t1++(R++Z))) (fun v d=>d.perm (z6 (E1 g t1) [_,_,_,_] (R++Z))) ?_|refine z_ (H':=_::_::_::(E1 g t1++(R++Z))) (fun v d=>d.perm (z6 (E1 g t1) [_,_,_] (R++Z))) ?_);refine D7 [6,7,8] ?_;refine h_ 9 rfl i6 ?_;refine i7 rfl ?_;intro o;refine D7 [11,12] ?_
     rotate_left 1
     refine i7 rfl ?_;intro o;refine V2 ?_;refine h_ 5 rfl i6 ?_;refine G6 M ⟨V,h5⟩ ?_;rintro v A Z Fz hz ⟨e,t1,g,rfl,rfl,hf⟩;(first|refine z_ (H':=_::_::_::_::_::(E1 g t1++(R++Z))) (fun v d=>d.perm (z6 (E1 g t1) [_,_,_,_,_] (R++Z))) ?_|refine z_ (H':=_::_::_::_::(E1 g t1++(R++Z))) (fun v d=>d.perm (z6 (E1 g t1) [_,_,_,_] (R++Z))) ?_|refine z_ (H':=_::_::_::(E1 g t1++(R++Z))) (fun v d=>d.perm (z6 (E1 g t1) [_,_,_] (R++Z))) ?_);refine D7 [6,7,8,11,12] ?_
     rotate_left 1
     all_goals (refine x6 ?_)
     all_goals exact cO (Rr:=N7 o e::aj q t1::ci z w.s D::N7 s w::(l6 yo w.s.a6y.a6x h6::E1 g t1++R)) Fz hz (fun v d=>by
      show Hp F2 v (N7 o e::aj q t1::ci z w.s D::N7 s w::l6 yo w.s.a6y.a6x h6::((E1 g t1++R)++Z));rw[ky];exact D3 (A:=[_,_,_,_,_]) (J:=[]) tk d) fun F3 q6 b0=>y7 (e,t1,g,o,q,F3) ⟨q6,hf.le b0⟩ rfl (fun v d=>d)
    rintro e t1 g o q F3 ⟨q6,q7⟩;refine x6 ?_;refine C5 (H':=(N7 o e::aj q t1::ci z w.s D::N7 s w::R)++(l6 yo w.s.a6y.a6x h6::E1 g t1)) (fun v d=>d.perm ((((jj.cons _).cons _).cons _).cons _)) (cy fun F4 v6 hb=>?_);obtain⟨bs,hb⟩:=hb;have b3:n9 F4.heap yo (S_ w.s.a6y.a6x):=A_.rd hb ud;obtain⟨b1,b2,rfl,_,v7⟩:=hb;have h4:=q6.trans v6;have O:il w F4.heap:=Mn.le h4.heap V;obtain⟨x1,d9⟩:=JP O q7 v6.heap v7;clear v7;have q8:=k9.le h4.heap;have Y:dM l[j].1.other l[j].2 F4.heap:=Mn.le h4.heap h5;refine I6 0 ?_;refine bi (fun(u:WM) (t2:TN) (f:Bool) (y:Nat) (x:Nat) (F5:l9)=>F4.le F5/\kY w l[j].1 u t2 f F5.heap) (fun _ _ _ y x _=>[(0,.slice U l.length lc),(3,i8 s),(4,r7 j),(5,i8 z),(6,i8 o),(7,i8 q),(8,i8 y),(9,i8 x)]) (fun _ _ _ _ _ F5=>F5) (fun u t2 f y x _=>aj x t2::N7 y u::N7 o e::aj q t1::ci z w.s D::N7 s w::(E1 f t2++R)) ?_ ?_
    ·refine x6 ?_;refine D8 [0,4] [5,9,10,11,12] [N7 s w] 13 ?_;refine wd [0,1,2] ?_;refine w_ 3 rfl (n5 rfl q0 rfl qb) ?_;refine A9 4 rfl (p9 (cs:=Fh l[j]) rfl (fun v d=>bK (C:=Fh) (q8.le d.keep) gZ qp X x7) rfl) G3 rfl rfl rfl i6 ?_;refine vJ 5 9 10 rfl rfl rfl i6 ?_ ?_ ?_;refine G6 M ⟨O,Y⟩ ?_;rintro v A Z Fz hz ⟨u,t2,f,rfl,rfl,hf⟩;(first|refine z_ (H':=_::_::_::_::_::_::(E1 f t2++(R++Z))) (fun v d=>d.perm (z6 (E1 f t2) [_,_,_,_,_,_] (R++Z))) ?_|refine z_ (H':=_::_::_::_::_::(E1 f t2++(R++Z))) (fun v d=>d.perm (z6 (E1 f t2) [_,_,_,_,_] (R++Z))) ?_|refine z_ (H':=_::_::_::_::(E1 f t2++(R++Z))) (fun v d=>d.perm (z6 (E1 f t2) [_,_,_,_] (R++Z))) ?_);refine D7 [6,7,8] ?_;refine S4 9 10 rfl rfl i6 ?_ ?_;refine i7 rfl ?_;intro y;refine rR ?_;refine h_ 10 rfl i6 ?_;refine i7 rfl ?_;intro x;refine D7 [11,12] ?_
     rotate_left 1
     refine i7 rfl ?_;intro x;refine rR ?_;refine h_ 9 rfl i6 ?_;refine i7 rfl ?_;intro y;refine D7 [11,12] ?_
     rotate_left 1
     refine i7 rfl ?_;intro y;refine V2 ?_;refine S4 5 10 rfl rfl i6 ?_ ?_;refine G6 M ⟨O,Y⟩ ?_;rintro v A Z Fz hz ⟨u,t2,f,rfl,rfl,hf⟩;(first|refine z_ (H':=_::_::_::_::_::_::(E1 f t2++(R++Z))) (fun v d=>d.perm (z6 (E1 f t2) [_,_,_,_,_,_] (R++Z))) ?_|refine z_ (H':=_::_::_::_::_::(E1 f t2++(R++Z))) (fun v d=>d.perm (z6 (E1 f t2) [_,_,_,_,_] (R++Z))) ?_|refine z_ (H':=_::_::_::_::(E1 f t2++(R++Z))) (fun v d=>d.perm (z6 (E1 f t2) [_,_,_,_] (R++Z))) ?_);refine D7 [6,7,8] ?_;refine h_ 10 rfl i6 ?_;refine i7 rfl ?_;intro x;refine D7 [11,12] ?_
     rotate_left 1
     refine i7 rfl ?_;intro x;refine V2 ?_;refine h_ 5 rfl i6 ?_;refine G6 M ⟨O,Y⟩ ?_;rintro v A Z Fz hz ⟨u,t2,f,rfl,rfl,hf⟩;(first|refine z_ (H':=_::_::_::_::_::_::(E1 f t2++(R++Z))) (fun v d=>d.perm (z6 (E1 f t2) [_,_,_,_,_,_] (R++Z))) ?_|refine z_ (H':=_::_::_::_::_::(E1 f t2++(R++Z))) (fun v d=>d.perm (z6 (E1 f t2) [_,_,_,_,_] (R++Z))) ?_|refine z_ (H':=_::_::_::_::(E1 f t2++(R++Z))) (fun v d=>d.perm (z6 (E1 f t2) [_,_,_,_] (R++Z))) ?_);refine D7 [6,7,8,11,12] ?_
     rotate_left 1
     refine i7 rfl ?_;intro x;refine V2 ?_;refine S4 5 9 rfl rfl i6 ?_ ?_;refine G6 M ⟨O,Y⟩ ?_;rintro v A Z Fz hz ⟨u,t2,f,rfl,rfl,hf⟩;(first|refine z_ (H':=_::_::_::_::_::_::(E1 f t2++(R++Z))) (fun v d=>d.perm (z6 (E1 f t2) [_,_,_,_,_,_] (R++Z))) ?_|refine z_ (H':=_::_::_::_::_::(E1 f t2++(R++Z))) (fun v d=>d.perm (z6 (E1 f t2) [_,_,_,_,_] (R++Z))) ?_|refine z_ (H':=_::_::_::_::(E1 f t2++(R++Z))) (fun v d=>d.perm (z6 (E1 f t2) [_,_,_,_] (R++Z))) ?_);refine D7 [6,7,8] ?_;refine h_ 9 rfl i6 ?_;refine i7 rfl ?_;intro y;refine D7 [11,12] ?_
     rotate_left 1
     refine i7 rfl ?_;intro y;refine V2 ?_;refine h_ 5 rfl i6 ?_;refine G6 M ⟨O,Y⟩ ?_;rintro v A Z Fz hz ⟨u,t2,f,rfl,rfl,hf⟩;(first|refine z_ (H':=_::_::_::_::_::_::(E1 f t2++(R++Z))) (fun v d=>d.perm (z6 (E1 f t2) [_,_,_,_,_,_] (R++Z))) ?_|refine z_ (H':=_::_::_::_::_::(E1 f t2++(R++Z))) (fun v d=>d.perm (z6 (E1 f t2) [_,_,_,_,_] (R++Z))) ?_|refine z_ (H':=_::_::_::_::(E1 f t2++(R++Z))) (fun v d=>d.perm (z6 (E1 f t2) [_,_,_,_] (R++Z))) ?_);refine D7 [6,7,8,11,12] ?_
     rotate_left 1
     all_goals (refine x6 ?_)
     all_goals exact cO (Rr:=aj x t2::N7 y u::N7 o e::aj q t1::ci z w.s D::N7 s w::(E1 f t2++R)) Fz hz (fun v d=>by
      show Hp F4 v (aj x t2::N7 y u::N7 o e::aj q t1::ci z w.s D::N7 s w::((E1 f t2++R)++Z));rw[ky];exact D3 (A:=[_,_,_,_,_,_]) (J:=[]) tk d) fun F5 S b4=>y7 (u,t2,f,y,x,F5) ⟨S,hf.le b4⟩ rfl (fun v d=>d)
    rintro u t2 f y x F5 ⟨S,h7⟩;obtain⟨u1,b5,_,b6,y0⟩:=Pd T.text h7;have e0:t2.b.a6y.a6x.length<=50000:=(by rw[<-b5];exact(qR (vh k8 T qb h7.step) T qb).a6x);have d4:t2.y.rl.length<=300000:=by
     have:=Ke k8 qb T h7.step
     rwa [JX h7,kg] at this
    obtain⟨_,b7,b8,_,_⟩:=Pd T.text q7;obtain⟨v8,b9⟩:=Oc T.text q7 h7;have h0:il w F5.heap:=Mn.le S.heap O;have u2:=q8.le S.heap;have v9:=vh k8 T qb q7.step;have y1:=qR v9 T qb;have c0:ew e.m F5.heap:=Mn.le S.heap x1.m;have c3:ew u.m F5.heap:=Up h0 h7;have y2:P4 e.s e.x F5.heap:=Mn.le S.heap x1.se;have y3:=x1.a6x.le S.heap;obtain⟨k0,w0⟩:=o9 (decide (l[j].1.kind=0));obtain⟨k1,w3⟩:=o9 (decide (l[j].1.kind=1));obtain⟨k2,w4⟩:=o9 (decide (l[j].1.kind=2));obtain⟨bz,w5⟩:=o9 (w.s.a6E);unfold xV at u1;rw[<-w0,<-w3,<-w4,<-w5] at u1;have u8:∀{v:World} {H:List As},Hp F5 v H->M9 (hp v) (N_ U (j*21)) [.int .i64 l[j].1.kind]:=fun d=>cT (C:=Fh) (j:=0) (u2.le d.keep) gZ X rfl x7;refine x6 ?_;refine I6 0 ?_;refine x8 [(0,.slice U l.length lc),(3,i8 s),(4,r7 j),(5,i8 z),(6,i8 o),(7,i8 q),(8,i8 y),(9,i8 x),(10,.bool f)] (aj x t2::N7 y u::N7 o e::aj q t1::ci z w.s D::N7 s w::(E1 f t2++R)) ?_ ?_
    ·cases k0<;>cases k1<;>cases bz
     all_goals (
      refine A5 ?_;refine f_ (n5 rfl q0 rfl qb) ?_;refine u6 ?_;refine r_ (l5 rfl (fun v d=>u8 d)) ?_;refine f_ ((q_ rfl rfl).eb w0) ?_;refine E8 ?_;(first|refine u_ ?_|(refine v_ ?_;refine f_ (n5 rfl q0 rfl qb) ?_));refine u6 ?_;(first|refine u_ ?_|(refine v_ ?_;refine r_ (l5 rfl (fun v d=>u8 d)) ?_));(first|refine u_ ?_|(refine v_ ?_;refine f_ ((q_ rfl rfl).eb w3) ?_));refine E8 ?_;(first|refine u_ ?_|(refine v_ ?_;refine r_ ((fP (l:=NQ w) (v:=.bool w.s.a6E) rfl ud rfl).eb w5) ?_));refine al ?_;(first|refine u_ ?_|(refine v_ ?_;refine f_ (n5 rfl q0 rfl qb) ?_));refine u6 ?_;(first|refine u_ ?_|(refine v_ ?_;refine r_ (l5 rfl (fun v d=>u8 d)) ?_));(first|refine u_ ?_|(refine v_ ?_;refine f_ ((q_ rfl rfl).eb w4) ?_));refine A5 ?_)
     all_goals (rw[u1];exact p_ sub i_)
    refine x6 ?_;refine I6 1 ?_;refine x8 [(0,.slice U l.length lc),(3,i8 s),(4,r7 j),(5,i8 z),(6,i8 o),(7,i8 q),(8,i8 y),(9,i8 x)] (aj x t2::N7 y u::N7 o e::aj q t1::ci z w.s D::N7 s w::(UD f t2++R)) ?_ ?_
    ·refine o0 ?_
     cases f with
     |false=>
      refine C5 (H':=aj x t2::N7 y u::N7 o e::aj q t1::ci z w.s D::N7 s w::R) (fun v d=>d) ?_;refine o8 (ι:=Unit) (fun _=>True) (fun _=>[(0,.slice U l.length lc),(3,i8 s),(4,r7 j),(5,i8 z),(6,i8 o),(7,i8 q),(8,i8 y),(9,i8 x),(10,.bool false),(11,.int .i64 0)]) (fun _=>aj x t2::N7 y u::N7 o e::aj q t1::ci z w.s D::N7 s w::R) (fun _=>0) () trivial sub (fun v d=>d) ?_;intro _ _;obtain⟨r,hr⟩:=o9 (decide ((0:Int)<(t2.b.a6y.a6x.length:Nat)));refine I6 0 ?_;refine x8 [(0,.slice U l.length lc),(3,i8 s),(4,r7 j),(5,i8 z),(6,i8 o),(7,i8 q),(8,i8 y),(9,i8 x),(90,.bool false)] (aj x t2::N7 y u::N7 o e::aj q t1::ci z w.s D::N7 s w::R) ?_ ?_
      ·cases r
       all_goals (
        refine Y1 ?_;refine f_ ((F8 rfl rfl).eb hr) ?_;refine E8 ?_)
       all_goals exact p_ sub i_
      refine x6 ?_;exact p_ sub (fun v d=>d)
     |true=>
      refine C5 (H':=rwT t2 t2.b.a6y.a6x::aj x t2::N7 y u::N7 o e::aj q t1::ci z w.s D::N7 s w::(KU t2 t2.y.rl::T6 t2.y.rl++R)) (fun v d=>d.perm (Qm (l₁:=[_,_,_,_,_,_]))) ?_;refine o8 (ι:=Nat×List (Nat×Nat)) (fun i=>i.1<=t2.b.a6y.a6x.length/\i.2.length=t2.b.a6y.a6x.length) (fun i=>[(0,.slice U l.length lc),(3,i8 s),(4,r7 j),(5,i8 z),(6,i8 o),(7,i8 q),(8,i8 y),(9,i8 x),(10,.bool true),(11,r7 i.1)]) (fun i=>rwT t2 i.2::aj x t2::N7 y u::N7 o e::aj q t1::ci z w.s D::N7 s w::(KU t2 t2.y.rl::T6 t2.y.rl++R)) (fun i=>t2.b.a6y.a6x.length-i.1) (0,t2.b.a6y.a6x) ⟨zp _,rfl⟩ sub (fun v d=>d) ?_;rintro⟨k,rs⟩ ⟨hk,w7⟩;simp only at hk w7;obtain⟨r,hr⟩:=o9 (decide ((k:Int)<(t2.b.a6y.a6x.length:Nat)));refine I6 0 ?_;refine x8 [(0,.slice U l.length lc),(3,i8 s),(4,r7 j),(5,i8 z),(6,i8 o),(7,i8 q),(8,i8 y),(9,i8 x),(10,.bool true),(11,r7 k),(90,.bool r)] (rwT t2 rs::aj x t2::N7 y u::N7 o e::aj q t1::ci z w.s D::N7 s w::(KU t2 t2.y.rl::T6 t2.y.rl++R)) ?_ ?_
      ·cases r
       all_goals (
        refine Y1 ?_;refine f_ ((F8 rfl rfl).eb hr) ?_;refine E8 ?_)
       all_goals exact p_ sub i_
      refine O_ ?_ ?_<;>intro h
      ·have h3:k<rs.length:=(by have:=zy (hr.symm.trans h);omega);refine B7 (a:=t2.bx.ra) (n:=t2.b.a6y.a6x.length) (c:=t2.bx.rc) (sz:=2) (xs:=S_ rs) (te:=72) ud fun _ _ Q=>?_;have Q:=Q qb;refine wk 7 ?_;refine A6 (C:=dL) (0,0) B6 h3 (j:=0) rfl ?_;refine E8 ?_;exact l8 (i:=(k,rs)) (k+1,rs.set k (0,0)) ⟨by simp only;omega,by simp only[Qw];exact w7⟩ qg sub (fun v d=>d)
      ·refine x6 ?_;exact p_ sub (fun v d=>by
        refine(d.drop).perm ?_;exact .refl _)
    refine x6 ?_;refine I6 1 ?_;refine x8 [(0,.slice U l.length lc),(3,i8 s),(4,r7 j),(5,i8 z),(6,i8 o),(7,i8 q),(8,i8 y),(9,i8 x)] (aj x t2::N7 y u::N7 o e::aj q t1::ci z w.s D::N7 s w::R) ?_ ?_
    ·refine o0 ?_
     cases f with
     |false=>
      have d5:t2.y.rl.length=0:=(by rw[b6 rfl];rfl);refine C5 (H':=aj x t2::N7 y u::N7 o e::aj q t1::ci z w.s D::N7 s w::R) (fun v d=>d) ?_;refine o8 (ι:=Unit) (fun _=>True) (fun _=>[(0,.slice U l.length lc),(3,i8 s),(4,r7 j),(5,i8 z),(6,i8 o),(7,i8 q),(8,i8 y),(9,i8 x),(12,.int .i64 0)]) (fun _=>aj x t2::N7 y u::N7 o e::aj q t1::ci z w.s D::N7 s w::R) (fun _=>0) () trivial sub (fun v d=>d) ?_;intro _ _;refine al ?_;refine f_ ((F8 rfl rfl).eq (v':=.bool false) (qn qj)) ?_;refine x6 ?_;exact p_ sub (fun v d=>d)
     |true=>
      refine C5 (H':=KU t2 (vr 0 t2.y.rl)::aj x t2::N7 y u::N7 o e::aj q t1::ci z w.s D::N7 s w::(T6 (t2.y.rl.drop 0)++R)) (fun v d=>d.perm (Qm (l₁:=[_,_,_,_,_,_]))) ?_;refine o8 (ι:=Nat) (fun k=>k<=t2.y.rl.length) (fun k=>[(0,.slice U l.length lc),(3,i8 s),(4,r7 j),(5,i8 z),(6,i8 o),(7,i8 q),(8,i8 y),(9,i8 x),(12,r7 k)]) (fun k=>KU t2 (vr k t2.y.rl)::aj x t2::N7 y u::N7 o e::aj q t1::ci z w.s D::N7 s w::(T6 (t2.y.rl.drop k)++R)) (fun k=>t2.y.rl.length-k) 0 (zp _) sub (fun v d=>d) ?_;intro k hk;refine Y1 ?_;refine p7 rfl ?_ ?_<;>intro h
      ·have h3:k<t2.y.rl.length:=(by have:=zy h;omega);have x2:k<(vr k t2.y.rl).length:=(by rw[Oi hk];exact h3);have v0:=Oj h3 x2;have c4:=KE (y0 t2.y.rl[k] (zm h3));refine B7 (a:=t2.y.da) (n:=t2.y.rl.length) (c:=t2.y.dc) (sz:=10) (xs:=RI (vr k t2.y.rl)) (te:=51) ud fun _ _ Q=>?_;have Q:=Q qb;obtain⟨m9,w9⟩:=o9 (t2.y.rl[k]);refine C5 (H':=.own (.slice m9.2.fa m9.1.a6J.length m9.2.fc) 9 1 (m9.1.a6J.flatMap mZ)::KU t2 (vr k t2.y.rl)::aj x t2::N7 y u::N7 o e::aj q t1::ci z w.s D::N7 s w::(T6 (t2.y.rl.drop (k+1))++R)) (fun v d=>by rw[w9];exact KD (A:=[_,_,_,_,_,_,_]) h3 y0 d) ?_;rw[<-w9] at c4 v0;refine x6 ?_;refine D8 [2,6,10] [11,12,15] [KU t2 (vr k t2.y.rl),aj x t2] 16 ?_;refine wd [0,1,2,3,4,5,6,7,8,9] ?_;refine o7 10 rfl R6 (l5 rfl (fun v d=>cT (C:=wm) (j:=7) (v:=.slice m9.2.fa m9.1.a6J.length m9.2.fc) (d.ownN (t:=51) ud).2.2.1 aB x2 (by rw[v0];rfl) x7)) G3 rfl rfl rfl i6 ?_;refine h_ 11 rfl i6 ?_;refine D2 mZ [113] rfl ?_;intro d6 _;refine V2 ?_;refine h_ 12 rfl i6 ?_;refine u7 mZ (l:=m9.1.a6J) (m:=[[113]]) V6 UC (by show(m9.1.a6J.length+1)*16<=_;omega) ?_;intro q9 x0 _;refine fy [13,14] ?_;refine h_ 15 rfl i6 ?_;refine A6 (C:=wm) (v:=.slice q9 (m9.1.a6J++[[113]]).length x0) ({m9.1 with a6J:=m9.1.a6J++[[113]]},{m9.2 with fa:=q9,fc:=x0}) aB x2 (j:=7) (by rw[v0];rfl) ?_;refine D7 [] ?_;refine Y1 ?_;refine A6 (C:=wm) (l:=(vr k t2.y.rl).set k ({m9.1 with a6J:=m9.1.a6J++[[113]]},{m9.2 with fa:=q9,fc:=x0})) RZ aB (by rw[Qw];exact x2) (j:=0) rfl ?_;refine x6 ?_;rw[Ok h3];refine E8 ?_;exact l8 (k+1) h3 qb sub (fun v d=>D3 (A:=[_,_,_,_,_,_,_]) (J:=[_,_]) tk d)
      ·refine x6 ?_;exact p_ sub (fun v d=>by
        have h1:Hp F5 v (([KU t2 (vr k t2.y.rl),aj x t2,N7 y u,N7 o e,aj q t1,ci z w.s D,N7 s w]++T6 (t2.y.rl.drop k))++R):=(by rw[ky];exact d);have h2:Hp F5 v ([KU t2 (vr k t2.y.rl),aj x t2,N7 y u,N7 o e,aj q t1,ci z w.s D,N7 s w]++R):=h1.mid;exact h2.drop)
    have c5:Pu prog 15 [mq w.s w.x,mq w.s D] (fun h=>(P4 w.s w.x h/\n9 h w.x.ra (S_ w.s.a6y.a6x))/\P4 w.s D h/\n9 h D.ra (S_ w.s.a6y.a6x)) (.bool true):=Kl w.s w.x D u0.se.le;have c6:Pu prog 15 [mq e.s e.x,mq t1.b t1.bx] (fun h=>(P4 e.s e.x h/\n9 h e.x.ra (S_ e.s.a6y.a6x))/\P4 e.s e.x h/\n9 h e.x.ra (S_ e.s.a6y.a6x)) (.bool true):=by
     rw[<-b7,<-b8];exact Kl e.s e.x e.x y1.se.le
    have c7:V5 u.m.s:=(by rw[v8];exact y1.ml);obtain⟨q1,q2,q3,q4⟩:=Ol c7;have c8:=RA u.m e.m v8 q1 q2 q3 q4;have a0:P4 w.s D F5.heap:=⟨by rw[q5.2.1];exact h0.se.a6A,by rw[q5.2.2];exact h0.se.cmd⟩;have a1:n9 F5.heap D.ra (S_ w.s.a6y.a6x):=(by rw[q5.1];exact b3.le S.heap);have c9:((u.bl.length:Nat):Int)=(e.bl.length:Nat):=(by rw[b9]);refine E8 ?_;refine c_ rfl c5 (fun h hh _=>⟨⟨Mn.le hh h0.se,h0.a6x.le hh⟩,Mn.le hh a0,a1.le hh⟩) rfl ?_;refine Y1 ?_;(first|refine u_ ?_|(refine v_ ?_;refine c_ rfl c6 (fun h hh _=>⟨⟨Mn.le hh y2,y3.le hh⟩,Mn.le hh y2,y3.le hh⟩) rfl ?_));refine wk 9 ?_;(first|refine u_ ?_|(refine v_ ?_;refine f_ ((M2 rfl rfl).eq (v':=.bool false) (jh (fun b=>Value.bool (!b)) (ju c9))) ?_));refine Y1 ?_;(first|refine u_ ?_|(refine v_ ?_;refine c_ rfl c8 (fun h hh _=>⟨Mn.le hh c3,Mn.le hh c0⟩) rfl ?_));refine P1 ?_;have v1:eL (Ap m) ((l.map Prod.fst).take (j+1)) (ts++[t1]) e:=by
     rw[jy (by rw[kg];exact X),Wj];exact .snoc z2 q7.step
    exact y7 (e,(),(),F5) ⟨(h9.trans h4).trans S,⟨_,v1⟩,Mn.le S.heap x1⟩ rfl (fun v d=>D3 (A:=[_]) (J:=[_,_,_,_,_]) tk d)
   rintro u _ _ F3 ⟨q6,d0,d1⟩;refine E8 ?_;exact Q_ (i:=(j,w,F2)) (j+1,u,F3) ⟨X,q6,d0,d1⟩ qg sub rfl (fun v d=>d)
  ·refine x6 ?_;exact y7 ((),(),(),F2) h9 rfl (fun v d=>d.drop)
 rintro _ _ _ F2 d2;refine D0 ?_;refine I4 (A:=[]) (v:=.bool true) d2 qh ?_;exact d_ rfl rfl _ qh (fun v d=>d)
