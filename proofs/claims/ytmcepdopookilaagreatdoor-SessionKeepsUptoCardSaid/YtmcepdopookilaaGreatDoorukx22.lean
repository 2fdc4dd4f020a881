import Derived.Test.YtmcepdopookilaaGreatDoorukx21
set_option maxHeartbeats 16000000
set_option maxRecDepth 8000
set_option linter.unusedVariables false
set_option linter.unusedSimpArgs false
set_option linter.defProp false
namespace Go.Proofs.YtmcepdopookilaaGreatDoor.Rp
open Go Go.Sl Go.RowKit Go.Proofs.Tryz
def cS(q:SD)(c:CM)(r:RQ)(l:zz):(H3 q c r l).2.store=q.2.store:=by unfold H3;split<;>rfl
def Uo{g:Bs->Bs}{q:SD}{c:CM}(a:c.kind≠14)(b:c.kind<16):(KK g q c).2.store=q.2.store:=by
 unfold KK;by_cases k1:c.kind=1
 ·rw[zr k1];rfl
 rw[zb k1];by_cases k2:c.kind=2
 ·rw[zr k2];split
  ·rfl
  ·exact cS _ _ _ _
 rw[zb k2];by_cases k3:c.kind=3
 ·rw[zr k3];split
  ·rfl
  ·exact cS _ _ _ _
 rw[zb k3];by_cases k4:c.kind=4
 ·rw[zr k4];split<;>exact cS _ _ _ _
 rw[zb k4];by_cases k5:c.kind=5
 ·rw[zr k5];split
  ·rfl
  ·exact cS _ _ _ _
 rw[zb k5];by_cases k6:c.kind=6
 ·rw[zr k6];rfl
 rw[zb k6];by_cases k7:c.kind=7
 ·rw[zr k7];split
  ·exact cS _ _ _ _
  ·rfl
 rw[zb k7];by_cases k9:c.kind<=9
 ·rw[zr k9];exact cS _ _ _ _
 rw[zb k9];by_cases k10:c.kind=10
 ·rw[zr k10];exact cS _ _ _ _
 rw[zb k10];by_cases k11:c.kind=11
 ·rw[zr k11];exact cS _ _ _ _
 rw[zb k11,zr (show c.kind<=13\/c.kind=15 by omega)];exact cS _ _ _ _
def Rt{s b:SE}{a:DD}{c:CM}(h:NF s G7 c b a):a.store=decide (c.kind=14):=by
 unfold NF at h;by_cases h14:c.kind=14
 ·rw[zr h14] at h;rw[ju h14];exact(jh (fun q:SD=>q.2.store) h).trans (cS _ _ _ _)
 rw[zb h14] at h;rw[Qk h14];by_cases h16:16<=c.kind
 ·rw[zr h16] at h;rcases h with⟨r,_,h⟩|⟨l,r,_,_,h⟩
  ·exact jh (fun q:SD=>q.2.store) h
  ·exact(jh (fun q:SD=>q.2.store) h).trans (cS _ _ _ _)
 ·rw[zb h16] at h;exact(jh (fun q:SD=>q.2.store) h).trans (Uo h14 qb)
def Oa(t:Bs):Prop:=dp t=true/\¬(F_ (R3 (M5 t))=0\/oS t=true/\F_ (R3 (M5 t))<15)/\F_ (R3 (M5 t))=14/\∃c,T7 (aI t) t (behind t)=some (c,t.length)
def JW{t:Bs}{c:CM}{e:Int}(g:t.length<=1000000000)(h:aE t c e):(e=0/\c.kind=14)↔Oa t:=by
 unfold aE at h;unfold Oa;split at h
 ·rename_i b;obtain⟨_,rfl⟩:=h;exact⟨fun h=>absurd h.1 qp,fun h=>by rw[h.1] at b;cases b⟩
 rename_i b;split at h
 ·rename_i d;obtain⟨_,rfl⟩:=h;exact⟨fun h=>absurd h.1 qp,fun h=>absurd d h.2.1⟩
 rename_i d;have f:(aI t).kind=F_ (R3 (M5 t)):=rfl;have i:qB (aI t):=gV rfl rfl rfl rfl rfl rfl rfl;unfold bH at h;rw[f] at h;by_cases h15:F_ (R3 (M5 t))=15
 ·refine⟨fun a=>?_,fun a=>absurd h15 (by rw[a.2.2.1];decide)⟩;rcases h with⟨h,rfl⟩|⟨_,_,rfl⟩
  ·rw[zr h15] at h;rcases h with h|⟨k,e,h,_⟩
   ·cases h
   ·injection h with h;have h:=jh (fun q=>q.1.kind) h;have h:c.kind=F_ (R3 (M5 t)):=h;rw[a.2,h15] at h
    cases h
  ·exact absurd a.1 qp
 ·rw[zb h15,zb h15] at h;simp only[zb h15] at h;rcases h with⟨h,rfl⟩|⟨h,_,rfl⟩
  ·have hc:c.kind=F_ (R3 (M5 t)):=(Cc g h.symm (by rw[f];exact h15) i).2.kind;exact⟨fun a=>⟨by simpa using b,d,by rw[<-hc];exact a.2,c,h.symm⟩,fun a=>⟨rfl,by rw[hc];exact a.2.2.1⟩⟩
  ·refine⟨fun a=>absurd a.1 qp,fun a=>?_⟩;obtain⟨l,a⟩:=a.2.2.2;rcases h with h|⟨q,h,j⟩
   ·rw[a] at h;cases h
   ·rw[a] at h;injection h with h;exact absurd (by rw[h]) j
def Ob{s:SE}{k:Int}{t:Bs}{i:SE}{d:DD}(l:t.length<=1000000000)(h:bJ s k t i d):d.store=true↔k=1/\¬(s.a6z=3\/s.a6E=true)/\Oa t/\(M_ 14).1<=s.a6z/\s.a6z<=(M_ 14).2:=by
 have b:∀q:SD,q.2.store=false->(i,d)=q->¬d.store=true:=fun q e m j=>by
  have:=jh (fun q:SD=>q.2.store) m;rw[show d.store=q.2.store from this,e] at j
  cases j
 unfold bJ at h;by_cases k2:k=2
 ·rw[zr k2] at h;exact⟨fun e=>absurd e (b _ rfl h),fun e=>absurd e.1 (by rw[k2];decide)⟩
 rw[zb k2] at h;by_cases hb:s.a6z=3\/s.a6E=true
 ·rw[zr hb] at h;exact⟨fun e=>absurd e (b _ rfl h),fun e=>absurd hb e.2.1⟩
 rw[zb hb] at h;by_cases k4:k=4
 ·rw[zr k4] at h;exact⟨fun e=>absurd e (b _ rfl h),fun e=>absurd e.1 (by rw[k4];decide)⟩
 rw[zb k4] at h;by_cases k3:k=3
 ·rw[zr k3] at h;obtain⟨_,_,_,h⟩:=h;exact⟨fun e=>absurd e (b _ rfl h),fun e=>absurd e.1 (by rw[k3];decide)⟩
 rw[zb k3] at h;by_cases k1:k=1
 ·rw[zr k1] at h;obtain⟨c,e,hp,h⟩:=h;have a:=JW l hp;rcases h with⟨rfl,h⟩|⟨rfl,h⟩|⟨rfl,h⟩|⟨rfl,h⟩
  ·exact⟨fun e=>absurd e (b _ rfl h),fun e=>absurd (a.2 e.2.2.1).1 qp⟩
  ·exact⟨fun e=>absurd e (b _ rfl h),fun e=>absurd (a.2 e.2.2.1).1 qp⟩
  ·exact⟨fun e=>absurd e (b _ rfl h),fun e=>absurd (a.2 e.2.2.1).1 qp⟩
  ·rcases h with⟨hs,h⟩|⟨f,g,h⟩
   ·refine⟨fun e=>absurd e (b _ rfl h),fun e=>?_⟩;have hc:=(a.2 e.2.2.1).2;rw[hc] at hs;omega
   ·rw[Rt h,K9];refine⟨fun hc=>⟨k1,hb,a.1 ⟨rfl,hc⟩,?_,?_⟩,fun e=>(a.2 e.2.2.1).2⟩
    ·rw[hc] at f;exact f
    ·rw[hc] at g;exact g
 ·rw[zb k1] at h;exact⟨fun e=>absurd e (b _ rfl h),fun e=>absurd e.1 k1⟩
def xV(w:WM)(a:AX):Bool:=decide (a.kind=0)||(decide (a.kind=1)&&w.s.a6E||decide (a.kind=2))
def vi{w:WM}{a:AX}{i:SE}{d:DD}{g:ML}{b:BL}{x y z c:Bool}(j:a.text.length<=1000000000)(h:aK w a i d g b x y z c):
  g=(if a.kind=0\/a.kind=2 then w.m.s else if a.kind=1 then(E3 w.m.s w.q).1 else(E3 w.m.s a.other).1)/\b.length=(if a.kind=0\/a.kind=1\/a.kind=2 then w.bl.length else w.bl.length+1)/\c=xV w a
  /\(d.store=true↔a.kind=0/\a.hk=1/\¬(w.s.a6z=3\/w.s.a6E=true)/\Oa a.text/\(M_ 14).1<=w.s.a6z/\w.s.a6z<=(M_ 14).2):=by
 unfold aK at h;by_cases k0:a.kind=0
 ·rw[zr k0] at h;obtain⟨h,rfl,rfl,_,_,_,rfl⟩:=h;refine⟨by rw[zr (.inl k0)],by rw[zr (.inl k0)],?_,?_⟩
  ·unfold xV;rw[ju k0];rfl
  ·rw[Ob j h];exact⟨fun h=>⟨k0,h⟩,fun h=>h.2⟩
 rw[zb k0] at h;by_cases k1:a.kind=1
 ·rw[zr k1] at h;obtain⟨k,⟨s1,m,l,f⟩,rfl,rfl,_,_,_,rfl⟩:=h;refine⟨by rw[zb qb,zr k1],by rw[zr (.inr (.inl k1))],?_,?_⟩
  ·unfold xV;rw[ju k1,k];simp
  ·refine⟨fun e=>?_,fun e=>absurd e.1 k0⟩;exfalso;split at f
   ·rw[f.2,(vg l).2.1] at e;cases e
   ·rw[(vg f).2.1] at e;cases e
 rw[zb k1] at h;by_cases k2:a.kind=2
 ·rw[zr k2] at h;obtain⟨h,rfl,rfl,_,_,_,rfl⟩:=h;refine⟨by rw[zr (.inr k2)],by rw[zr (.inr (.inr k2))],?_,?_⟩
  ·unfold xV;rw[ju k2];simp
  ·refine⟨fun e=>?_,fun e=>absurd e.1 k0⟩;rw[show d=(aH w.s).2 from by rw[<-h],(CE w.s).2.1] at e
   cases e
 rw[zb k2] at h;obtain⟨_,rfl,rfl,rfl,_,_,_,rfl⟩:=h;refine⟨by rw[zb qb,zb k1],by rw[zb qb,zg];rfl,?_,⟨fun e=>(by cases e),fun e=>absurd e.1 k0⟩⟩;unfold xV;rw[Qk k0,Qk k1,Qk k2];rfl
def Oc{w e f:WM}{a:AX}{t1 t2:TN}{n c2:Bool}{o p:l_}(j:a.text.length<=1000000000)(k1:kY w a e t1 n o)(k2:kY w a f t2 c2 p):f.m.s=e.m.s/\f.bl.length=e.bl.length:=by
 rcases k1 with⟨g,c,rfl,rfl,rfl⟩|⟨v,k,d,_⟩
 ·rcases k2 with⟨_,_,rfl,rfl,rfl⟩|⟨q,h,b,_⟩
  ·exact qh
  ·exfalso;have:=h.dn;unfold aK at this;rw[zb qb,zr g] at this;rw[this.1] at c
   cases c
 ·rcases k2 with⟨g,c,rfl,rfl,rfl⟩|⟨q,h,b,_⟩
  ·exfalso;have:=k.dn;unfold aK at this;rw[zb qb,zr g] at this;rw[this.1] at c
   cases c
  ·obtain⟨r,l,_,s⟩:=vi j k.dn;obtain⟨t,m,_,u⟩:=vi j h.dn;have i:t2.d.store=t1.d.store:=Z5.2 (u.trans s.symm);refine⟨by rw[d.m,b.m,r,t],?_⟩;rw[d.bl,b.bl];unfold Ra;rw[i];split
   ·rw[zg,zg,l,m,Qq,Qq]
   ·rw[l,m]
def Pd{w b:WM}{a:AX}{t:TN}{c:Bool}{h:l_}(f:a.text.length<=1000000000)(k:kY w a b t c h):c=xV w a/\b.s=t.b/\b.x=t.bx/\(c=false->t.y.rl=[])/\(∀m∈t.y.rl,gn m h):=by
 rcases k with⟨g,i,rfl,rfl,rfl⟩|⟨v,p,d,_⟩
 ·refine⟨?_,rfl,rfl,fun _=>rfl,fun _ h=>by cases h⟩;unfold xV;rw[Qk qb,ju g,i,Qk qb];rfl
 ·exact⟨(vi f p.dn).2.2.1,d.s,d.x,fun e=>by rw[(p.cf e).2.2],p.rp⟩
def JX{w b:WM}{a:AX}{t:TN}{c:Bool}{h:l_}(k:kY w a b t c h):t.d.a6I=t.y.rl.map Prod.fst:=by
 rcases k with⟨_,_,_,rfl,_⟩|⟨v,p,_,_⟩
 ·rfl
 ·exact p.a6I
def Up{w b:WM}{a:AX}{t:TN}{c:Bool}{h:l_}(d:il w h)(k:kY w a b t c h):ew b.m h:=by
 rcases k with⟨_,_,rfl,_,_⟩|⟨v,p,e,_⟩
 ·exact d.m
 ·rw[e.m];exact p.m
def rG(g:Bs):Prop:=∃s,dp s=true/\g=cV s
abbrev goR:RR:={R0 with kind:=5,text:=[103,111,32,111,110]}
abbrev Uq:Bs:=[116,111,111,32,108,111,110,103]
abbrev Pe:List Bs:=[[110,111,32,116,97,103],[110,111,32,115,117,99,104,32,99,111,109,109,97,110,100],[119,114,111,110,103,32,119,111,114,100,115],[110,111,116,32,110,111,119],[116,111,111,32,98,105,103],[110,111,32,115,117,99,104,32,109,101,115,115,97,103,101]]
abbrev a2D:List (Bs×Bs):=[([82,69,65,68,45,79,78,76,89],[105,116,32,109,97,121,32,110,111,116,32,98,101]),([65,85,84,72,69,78,84,73,67,65,84,73,79,78,70,65,73,76,69,68],[119,114,111,110,103,32,112,97,115,115,119,111,114,100])]
def Ru(l:List RR):Prop:=∃g,rG g/\(l=[ep g]\/l=[{R0 with kind:=6},ep g]\/l=[{R0 with kind:=7},ep g]\/l=[L2 dQ,ep g]\/∃q∈a2D,l=[nB g q.1 q.2])
def a2E(l:List RR):Prop:=∃g t,(rG g\/g=[42])/\t∈Pe/\l=[fA g t]
def Fl(k:Int)(s s':SE)(d':DD):Prop:=
 (d'.a6I=[]/\(s.a6z=3\/s.a6E=true\/(k≠1/\k≠3)))\/
 ((d'.a6I=[goR]\/d'.a6I=[L2 Uq])/\k≠1/\k≠3)\/
 ((k=1\/k=3)/\s.a6z≠3/\s.a6E=false/\(Ru d'.a6I\/a2E d'.a6I/\s'=s/\d'={G7 with a6I:=d'.a6I}))
def JY{s f:SE}{a:DD}{k:Int}{t:Bs}(T:t.length<=1000000000)(h:bJ s k t f a):(a.ask=true/\a.a6I=[]/\rG f.cmd.tag)\/(a.ask=false/\Fl k s f a):=by
 have J:∀{q:SE} {w:DD} {c:CM} {r:RQ} {l:zz},(f,a)=H3 (q,w) c r l->w.a6I=[]->rG c.tag->(a.ask=true/\a.a6I=[]/\rG f.cmd.tag):=fun{q w c r l} h O hg=>by
  unfold H3 at h;split at h<;>(injection h with e1 e2;subst e1 e2;exact⟨rfl,O,hg⟩)
 have d:∀{g x:Bs},(f,a)=X0 (s,G7) (fA g x)->(rG g\/g=[42])->x∈Pe->(k=1\/k=3)->s.a6z≠3->s.a6E=false->a.ask=false/\Fl k s f a:=fun{g x} h hg U y Q p=>by
  injection h with A n;subst A n;exact⟨rfl,.inr (.inr ⟨y,Q,p,.inr ⟨⟨g,x,hg,U,rfl⟩,rfl,rfl⟩⟩)⟩
 have M:∀{q:SE} {l:List RR} {b:Bool},(f,a)=(q,{G7 with a6I:=l,close:=b})->Ru l->(k=1\/k=3)->s.a6z≠3->s.a6E=false->a.ask=false/\Fl k s f a:=fun{q l b} h S y Q p=>by
  injection h with A n;rw[n];exact⟨rfl,.inr (.inr ⟨y,Q,p,.inl S⟩)⟩
 unfold bJ at h;split at h
 ·injection h with A n;rw[n];exact .inr ⟨rfl,.inr (.inl ⟨.inl rfl,by omega,by omega⟩)⟩
 split at h
 ·rename_i v;injection h with A n;rw[n];exact .inr ⟨rfl,.inl ⟨rfl,v.imp id .inl⟩⟩
 rename_i v;have i:s.a6z≠3:=fun e=>v (.inl e);have p:s.a6E=false:=by cases e:s.a6E;rfl;exact absurd (.inr e) v
 split at h
 ·unfold Gy at h;injection h with A n;rw[n];exact .inr ⟨rfl,.inr (.inl ⟨.inr rfl,by omega,by omega⟩)⟩
 split at h
 ·rename_i y;obtain⟨c,e,hp,h⟩:=h;have j:=kQ T hp;refine .inr (d h ?_ qp (.inr y) i p);unfold tT;split
  ·exact .inr rfl
  ·rename_i hc;by_cases u:e=11
   ·rw[j.no u] at hc;exact absurd rfl hc
   ·exact .inl ⟨t,(j.tag u).2,(j.tag u).1⟩
 split at h
 ·rename_i y;have m:k=1\/k=3:=.inl y;obtain⟨c,e,hp,h⟩:=h;have j:=kQ T hp;have C:e≠11->rG c.tag:=fun h=>⟨t,(j.tag h).2,(j.tag h).1⟩;rcases h with⟨_,h⟩|⟨u,h⟩|⟨u,h⟩|⟨u,h⟩
  ·exact .inr (d h (.inr rfl) qp m i p)
  ·exact .inr (d h (.inl (C (by rw[u];decide))) qp m i p)
  ·exact .inr (d h (.inl (C (by rw[u];decide))) qp m i p)
  have hg:rG c.tag:=C (by rw[u];decide);rcases h with⟨_,h⟩|⟨A,n,h⟩
  ·exact .inr (d h (.inl hg) qp m i p)
  have o:∀{q:SE} {w:DD} {r:RQ} {l:zz},(f,a)=H3 (q,w) c r l->w.a6I=[]->(a.ask=true/\a.a6I=[]/\rG f.cmd.tag)\/(a.ask=false/\Fl k s f a):=fun{q w r l} h O=>.inl (J h O hg);have D:∀{q:SE} {l:List RR} {b:Bool},(f,a)=(q,{G7 with a6I:=l,close:=b})->Ru l->(a.ask=true/\a.a6I=[]/\rG f.cmd.tag)\/(a.ask=false/\Fl k s f a):=fun{q l b} h S=>.inr (M h S m i p);unfold NF at h;split at h
  ·exact o h rfl
  split at h
  ·rcases h with⟨r,V,h⟩|⟨l,r,_,_,h⟩
   ·rcases V with rfl|rfl
    ·exact D (b:=false) h ⟨c.tag,hg,.inr (.inr (.inr (.inr ⟨_,.head _,rfl⟩)))⟩
    ·exact .inr (d h (.inl hg) qp m i p)
   ·exact o h rfl
  ·unfold KK at h;by_cases k1:c.kind=1
   ·rw[zr k1] at h;exact D (b:=false) h ⟨c.tag,hg,.inr (.inl rfl)⟩
   rw[zb k1] at h;by_cases k2:c.kind=2
   ·rw[zr k2] at h;by_cases z:s.a6z=0
    ·rw[zr z] at h;exact D (b:=false) h ⟨c.tag,hg,.inl rfl⟩
    ·rw[zb z] at h;exact o h rfl
   rw[zb k2] at h;by_cases k3:c.kind=3
   ·rw[zr k3] at h;by_cases z:s.a6z=0
    ·rw[zr z] at h;exact D (b:=true) h ⟨c.tag,hg,.inr (.inr (.inr (.inl rfl)))⟩
    ·rw[zb z] at h;exact o h rfl
   rw[zb k3] at h;by_cases k4:c.kind=4
   ·rw[zr k4] at h;by_cases z:s.ro=true
    ·rw[zr z] at h;exact o h rfl
    ·rw[zb z] at h;exact o h rfl
   rw[zb k4] at h;by_cases k5:c.kind=5
   ·rw[zr k5] at h;by_cases z:s.ro=true
    ·rw[zr z] at h;exact D (b:=false) h ⟨c.tag,hg,.inr (.inr (.inr (.inr ⟨_,.head _,rfl⟩)))⟩
    ·rw[zb z] at h;exact o h rfl
   rw[zb k5] at h;by_cases k6:c.kind=6
   ·rw[zr k6] at h;exact D (b:=false) h ⟨c.tag,hg,.inr (.inr (.inl rfl))⟩
   rw[zb k6] at h;by_cases k7:c.kind=7
   ·rw[zr k7] at h;by_cases z:c.pass=[104,111,114,110]
    ·rw[zr z] at h;exact o h rfl
    ·rw[zb z] at h;exact D (b:=false) h ⟨c.tag,hg,.inr (.inr (.inr (.inr ⟨_,.tail _ (.head _),rfl⟩)))⟩
   rw[zb k7] at h;by_cases k9:c.kind<=9
   ·rw[zr k9] at h;exact o h rfl
   rw[zb k9] at h;by_cases k10:c.kind=10
   ·rw[zr k10] at h;exact o h rfl
   rw[zb k10] at h;by_cases k11:c.kind=11
   ·rw[zr k11] at h;exact o h rfl
   rw[zb k11] at h;by_cases k13:c.kind<=13\/c.kind=15
   ·rw[zr k13] at h;exact o h rfl
   ·exfalso;have:=j.kind u;omega
 ·rename_i m X Y Z;injection h with A n;rw[n];exact .inr ⟨rfl,.inl ⟨rfl,.inr (.inr ⟨by assumption,by assumption⟩)⟩⟩
def JZ{x:AN}{s d:SE}{r:RR}{l:List RR}(h:O9 x s r d l):l.length<=100000:=by
 have a:([]:List RR).length<=100000:=zp _;unfold O9 at h;split at h
 ·rw[h.2.2];exact a
 split at h
 ·rw[h.2.2];exact a
 split at h
 ·rcases h with⟨_,_,_,e⟩|⟨b,_,_,_,e⟩<;>rw[e]
  ·exact a
  ·show 5<=100000;decide
 split at h
 ·have:=h.2.2.1;omega
 split at h
 ·rcases h with⟨_,⟨_,e⟩|⟨_,g,f,e,_⟩⟩<;>rw[e]
  ·exact a
  ·show 1<=100000;decide
 split at h
 ·obtain⟨_,_,c,m,e⟩:=h;rw[e];show 1<=100000;decide
 split at h
 ·exact h.1
 split at h
 ·exact h.1
 ·rw[h.2.2];exact a
def Od{x:AN}{s i:SE}{g:DD}(h:ik x s i g)(j:V5 x.m.s)(k:s.a6y.a6x.length<=50000):g.a6I.length<=300000:=by
 unfold ik at h;split at h
 ·rw[h.2];show 1<=300000;decide
 split at h
 ·rw[h.2];show 2<=300000;decide
 obtain⟨r,s1,c,l,d,a,e,f⟩:=h;have b:(Cu x s).a6y.a6x.length<=50000:=by unfold Cu;split;exact zp _;exact k
 have k1:c.length<=100000/\s1.a6y.a6x.length<=50000:=by
  split at a
  ·exact⟨JZ a,tf a j b⟩
  ·rw[a.1,a.2.1];exact⟨zp _,b⟩
 have k2:d.length<=100001:=by
  split at e
  ·have:=ti s1.a6y x.bx.x (!iA x) s1.cond;rw[e.2];omega
  ·rw[e.2];exact zp _
 split at f
 ·rw[f.2];show(c++d++[r,L2 cP]).length<=_;simp only[zg,z1,kx];omega
 ·rw[f.2];show(c++d++[r]).length<=_;simp only[zg,z1,kx];omega
def CG{s c:SE}{st:ML}{o:OC}{bl:BL}{b:DD}(d:V5 st)(f:s.a6y.a6x.length<=50000)(h:fC s st o bl c b):b.a6I.length<=300000:=by
 unfold fC at h;split at h
 ·rw[h.2];exact zp _
 rcases h with⟨w,_,_,_,e⟩|⟨x,_,a,_,_,_,_,h⟩
 ·rw[e];exact zp _
 ·exact Od h (by rw[a];exact d) f
def Oe{k:Int}{s b:SE}{a:DD}(h:Fl k s b a):a.a6I.length<=2:=by
 rcases h with⟨e,_⟩|⟨e|e,_⟩|⟨_,_,_,⟨g,_,e|e|e|e|⟨q,_,e⟩⟩|⟨⟨g,t,_,_,e⟩,_⟩⟩<;>rw[e]<;>simp only[z1,kx]<;>omega
def Ka(s:SE):(aH s).2.a6I.length<=2:=by
 unfold aH;split
 ·exact zp _
 split
 ·show 2<=2;decide
 ·show 1<=2;decide
def Ke{n:Nat}{w w':WM}{a:AX}{t:TN}(d:Pa n w)(k:n<=800)(ha:rF a)(hs:mN w a w' t):t.d.a6I.length<=300000:=by
 rcases hs with⟨_,_,_,rfl⟩|⟨l,c,b,_,_,_⟩
 ·exact zp _
 have g:w.s.a6y.a6x.length<=50000:=by have:=d.se.a6x;omega
 have i:=(gr d.ml w.q d.q.ok.num d.q.op).1.ok;unfold aK at b;split at b
 ·rcases JY ha.text b.1 with⟨_,e,_⟩|⟨_,h⟩
  ·rw[e];exact zp _
  ·have:=Oe h;omega
 split at b
 ·obtain⟨_,⟨s1,m,j,f⟩,_⟩:=b;split at f
  ·rw[f.2];exact CG i g j
  ·exact CG i g f
 split at b
 ·have e:t.d=(aH w.s).2:=by rw[<-b.1]
  have:=Ka w.s;rw[e];omega
 ·rw[b.2.1];exact zp _
section
variable{P:zj}{L:G9}{dst:Option Nat}{ty:zk}{pos:String}{af:Array Edge}{gd:Option (Nat×Bool)}{x y:zw}{t t':zk}
def V_{k:IntKind}{m:Int}(hx:ev L x=some (.int k m))(a:ev L y=some (.int k m)):E5 P ⟨dst,.binOp .neq t x y t',ty,pos,af,gd⟩ L (.bool false):=(M2 hx a).eq x7
def tv{k:IntKind}{m:Int}(hx:ev L x=some (.int k m))(a:ev L y=some (.int k m)):E5 P ⟨dst,.binOp .eql t x y t',ty,pos,af,gd⟩ L (.bool true):=(q_ hx a).eq x7
def gu{l:List UInt8}(hx:ev L x=some (B l))(a:ev L y=some (B l)):E5 P ⟨dst,.binOp .neq t x y t',ty,pos,af,gd⟩ L (.bool false):=(F7 hx a).eq x7
def Ur{l:List UInt8}(hx:ev L x=some (B l))(a:ev L y=some (B l)):E5 P ⟨dst,.binOp .eql t x y t',ty,pos,af,gd⟩ L (.bool true):=(C9 hx a).eq x7
def vj[hu:HU P t .bool]{q:Bool}(hx:ev L x=some (.bool q))(a:ev L y=some (.bool q)):E5 P ⟨dst,.binOp .neq t x y t',ty,pos,af,gd⟩ L (.bool false):=(oe hx a).eq x7
def Av[hu:HU P t .bool]{q:Bool}(hx:ev L x=some (.bool q))(a:ev L y=some (.bool q)):E5 P ⟨dst,.binOp .eql t x y t',ty,pos,af,gd⟩ L (.bool true):=(iD hx a).eq x7
end
abbrev RY(n:Nat):zq:=[.int .u64 (n:Nat)]
def nZ:∀x,(RY x).length=1:=fun _=>rfl
def Of(l:zz):nV l=l.flatMap RY:=by
 induction l with
 |nil=>rfl
 |cons x r ih=>rw[Q4,<-ih];rfl
def Rv(l:zz)(a b:qr)(c d:Nat)(hl:l.length<=1000000):Pu prog 27 [.slice a l.length c,.slice b l.length d] (fun h=>n9 h a (l.flatMap RY)/\n9 h b (l.flatMap RY)) (.bool true):=by
 refine b_ 26 func27 rfl rfl rfl ?_;rintro F ⟨f,g⟩;refine al ?_;refine f_ (V_ rfl rfl) ?_;refine u6 ?_;refine o8 (ι:=Nat) (fun k=>k<=l.length) (fun k=>[(0,.slice a l.length c),(1,.slice b l.length d),(5,r7 k)]) (fun k=>[]) (fun k=>l.length-k) 0 (zp _) sub i_ ?_;intro k e;refine AO ?_ ?_<;>intro h
 ·have e:k<l.length:=by have:=zy h;omega
  have m:=p8 f nZ qp e;have n:=p8 g nZ qp e;refine x6 ?_;refine vM [3,7] [] 9 ?_;refine wd [0,1,2] ?_;refine A9 3 rfl (l5 rfl (fun w i=>cT (C:=RY) (j:=0) (f.le i.keep) nZ e rfl x7)) G3 rfl rfl rfl i6 ?_;refine wd [4,5,6] ?_;refine A9 7 rfl (l5 rfl (fun w i=>cT (C:=RY) (j:=0) (g.le i.keep) nZ e rfl x7)) G3 rfl rfl rfl i6 ?_;refine w_ 8 rfl (V_ rfl rfl) ?_;refine wd [] ?_;refine E8 ?_;exact l8 (k+1) e qb sub i_
 ·refine D0 ?_;exact d_ rfl rfl [] qh (fun _ h=>h)
def Kf(l:List (Nat×Nat))(a b:qr)(c d:Nat)(hl:l.length<=1000000):Pu prog 55 [.slice a l.length c,.slice b l.length d] (fun h=>n9 h a (l.flatMap dL)/\n9 h b (l.flatMap dL)) (.bool true):=by
 refine b_ 26 func55 rfl rfl rfl ?_;rintro F ⟨f,g⟩;refine al ?_;refine f_ (V_ rfl rfl) ?_;refine u6 ?_;refine o8 (ι:=Nat) (fun k=>k<=l.length) (fun k=>[(0,.slice a l.length c),(1,.slice b l.length d),(5,r7 k)]) (fun k=>[]) (fun k=>l.length-k) 0 (zp _) sub i_ ?_;intro k e;refine AO ?_ ?_<;>intro h
 ·have e:k<l.length:=by have:=zy h;omega
  have j:=p8 f B6 qp e;have m:=p8 g B6 qp e;refine x6 ?_;refine vM [3,7] [] 9 ?_;refine wd [0,1,2] ?_;refine A9 3 rfl (p9 (cs:=dL l[k]) rfl (fun w i=>bK (C:=dL) (f.le i.keep) B6 qp e x7) rfl) G3 rfl rfl rfl i6 ?_;refine wd [4,5,6] ?_;refine A9 7 rfl (p9 (cs:=dL l[k]) rfl (fun w i=>bK (C:=dL) (g.le i.keep) B6 qp e x7) rfl) G3 rfl rfl rfl i6 ?_;refine w_ 8 rfl ((ao rfl rfl (by exact im.int qp rfl rfl (im.int qp rfl rfl im.nil))).eq (v':=.bool false) x7) ?_;refine wd [] ?_;refine E8 ?_;exact l8 (k+1) e qb sub i_
 ·refine D0 ?_;exact d_ rfl rfl [] qh (fun _ h=>h)
def Ki(l:List Bs)(a b:qr)(c d:Nat)(hl:l.length<=1000000):Pu prog 54 [.slice a l.length c,.slice b l.length d] (fun h=>n9 h a (l.flatMap mZ)/\n9 h b (l.flatMap mZ)) (.bool true):=by
 refine b_ 26 func54 rfl rfl rfl ?_;rintro F ⟨f,g⟩;refine al ?_;refine f_ (V_ rfl rfl) ?_;refine u6 ?_;refine o8 (ι:=Nat) (fun k=>k<=l.length) (fun k=>[(0,.slice a l.length c),(1,.slice b l.length d),(5,r7 k)]) (fun k=>[]) (fun k=>l.length-k) 0 (zp _) sub i_ ?_;intro k e;refine AO ?_ ?_<;>intro h
 ·have e:k<l.length:=by have:=zy h;omega
  have m:=p8 f V6 qp e;have n:=p8 g V6 qp e;refine x6 ?_;refine vM [3,7] [] 9 ?_;refine wd [0,1,2] ?_;refine A9 3 rfl (l5 rfl (fun w i=>cT (C:=mZ) (j:=0) (f.le i.keep) V6 e rfl x7)) G3 rfl rfl rfl i6 ?_;refine wd [4,5,6] ?_;refine A9 7 rfl (l5 rfl (fun w i=>cT (C:=mZ) (j:=0) (g.le i.keep) V6 e rfl x7)) G3 rfl rfl rfl i6 ?_;refine w_ 8 rfl (gu rfl rfl) ?_;refine wd [] ?_;refine E8 ?_;exact l8 (k+1) e qb sub i_
 ·refine D0 ?_;exact d_ rfl rfl [] qh (fun _ h=>h)
def Rw(v:VW)(a b:qr)(c d:Nat)(hl:v.a6x.length<=1000000):Pu prog 25 [.agg (wl v a c).toArray,.agg (wl v b d).toArray] (fun h=>n9 h a (S_ v.a6x)/\n9 h b (S_ v.a6x)) (.bool true):=by
 refine b_ 45 func25 rfl rfl rfl ?_;rintro F ⟨f,g⟩;refine D1 ?_;refine m8 rfl rfl ?_;intro j;refine m8 rfl rfl ?_;intro l;refine al ?_;refine f_ (gu rfl rfl) ?_;refine al ?_;(first|refine u_ ?_|(refine v_ ?_;refine f_ (V_ rfl rfl) ?_));refine wk 8 ?_;(first|refine u_ ?_|(refine v_ ?_;refine f_ (V_ rfl rfl) ?_));refine A5 ?_;refine o8 (ι:=Nat) (fun k=>k<=v.a6x.length) (fun k=>[(2,i8 j),(3,i8 l),(5,r7 k)]) (fun k=>[.blk l (.cells (wl v b d).toArray 30),.blk j (.cells (wl v a c).toArray 30)]) (fun k=>v.a6x.length-k) 0 (zp _) sub i_ ?_;intro k e;refine KG ?_ ?_<;>intro h
 ·have e:k<v.a6x.length:=by have:=zy h;omega
  have m:=p8 f B6 qp e;have n:=p8 g B6 qp e;refine x6 ?_;refine D8 [1,4,6,9] [] [.blk l (.cells (wl v b d).toArray 30),.blk j (.cells (wl v a c).toArray 30)] 11 ?_;refine wd [0,1,2,3] ?_;refine A9 4 rfl (p9 (cs:=dL v.a6x[k]) rfl (fun w i=>bK (C:=dL) (f.le i.keep) B6 qp e x7) rfl) G3 rfl rfl rfl i6 ?_;refine wd [5,6,7,8] ?_;refine A9 9 rfl (p9 (cs:=dL v.a6x[k]) rfl (fun w i=>bK (C:=dL) (g.le i.keep) B6 qp e x7) rfl) G3 rfl rfl rfl i6 ?_;refine w_ 10 rfl ((ao rfl rfl (by exact im.int qp rfl rfl (im.int qp rfl rfl im.nil))).eq (v':=.bool false) x7) ?_;refine wd [] ?_;refine E8 ?_;exact l8 (k+1) e qb sub i_
 ·refine D0 ?_;exact d_ rfl rfl [] qh (fun w i=>i.dropAll)
abbrev lf(g:Nat)(c:CM)(x:CL):As:=.blk g (.cells (lg c x).toArray 36)
def Rx(q:CM)(x y:CL)(hc:rr q):Pu prog 26 [vo q x,vo q y] (fun h=>eu q x h/\eu q y h) (.bool true):=by
 have h3:=hc.set;have h4:=hc.a6B;have h5:=hc.keys;have h6:=hc.a6J;refine b_ 206 func26 rfl rfl rfl ?_;rintro F ⟨o,p⟩;obtain⟨r,j,s,Q⟩:=o.keys;obtain⟨t,z,A,S⟩:=p.keys;have h7:r.length=q.keys.length:=by rw[<-j,kg]
 have h8:t.length=q.keys.length:=by rw[<-z,kg]
 have T:=o.set;have U:=p.set;have D:=o.a6J;have J:=p.a6J;rw[ke] at D J;refine D1 ?_;refine m8 rfl rfl ?_;intro a;refine m8 rfl rfl ?_;intro b;refine al ?_;refine f_ (gu rfl rfl) ?_;refine al ?_;(first|refine u_ ?_|(refine v_ ?_;refine f_ (V_ rfl rfl) ?_));refine Y1 ?_;(first|refine u_ ?_|(refine v_ ?_;refine f_ (vj rfl rfl) ?_));refine Y1 ?_;(first|refine u_ ?_|(refine v_ ?_;refine f_ (gu rfl rfl) ?_));refine Y1 ?_;(first|refine u_ ?_|(refine v_ ?_;refine f_ (gu rfl rfl) ?_));refine Y1 ?_;(first|refine u_ ?_|(refine v_ ?_;refine f_ (gu rfl rfl) ?_));refine Y1 ?_;(first|refine u_ ?_|(refine v_ ?_;refine f_ (gu rfl rfl) ?_));refine Y1 ?_;(first|refine u_ ?_|(refine v_ ?_;refine f_ (vj rfl rfl) ?_));refine Y1 ?_;(first|refine u_ ?_|(refine v_ ?_;refine f_ (V_ rfl rfl) ?_));refine Y1 ?_;(first|refine u_ ?_|(refine v_ ?_;refine f_ (vj rfl rfl) ?_));refine Y1 ?_;(first|refine u_ ?_|(refine v_ ?_;refine f_ (V_ rfl rfl) ?_));refine Y1 ?_;(first|refine u_ ?_|(refine v_ ?_;refine f_ (vj rfl rfl) ?_));refine Y1 ?_;(first|refine u_ ?_|(refine v_ ?_;refine f_ (gu rfl rfl) ?_));refine wk 7 ?_;refine f_ (V_ rfl rfl) ?_;refine wk 7 ?_;(first|refine u_ ?_|(refine v_ ?_;refine f_ (V_ rfl rfl) ?_));refine Y1 ?_;(first|refine u_ ?_|(refine v_ ?_;refine c_ rfl (Ki q.a6J x.fa y.fa x.fc y.fc qb) (fun h i _=>⟨D.le i,J.le i⟩) rfl ?_));refine wk 7 ?_;(first|refine u_ ?_|(refine v_ ?_;refine c_ rfl (Kf q.set x.sa y.sa x.sc y.sc qb) (fun h i _=>⟨T.le i,U.le i⟩) rfl ?_));refine A5 ?_;refine I6 1 ?_;refine x8 [(2,i8 a),(3,i8 b)] [lf b q y,lf a q x] ?_ ?_
 ·refine o0 ?_;refine o8 (ι:=Nat) (fun k=>k<=q.keys.length) (fun k=>[(2,i8 a),(3,i8 b),(5,r7 k)]) (fun k=>[lf b q y,lf a q x]) (fun k=>q.keys.length-k) 0 (zp _) sub i_ ?_;intro k d;refine KG ?_ ?_<;>intro h
  ·have d:k<q.keys.length:=(by have:=zy h;omega);have f:k<r.length:=(by omega);have g:k<t.length:=(by omega);have V:=p8 s S7 qp f;have X:=p8 A S7 qp g;obtain⟨u,hu⟩:=o9 (r[k]);obtain⟨v,Y⟩:=o9 (t[k]);have M:u∈r:=(by rw[hu];exact zm f);have Z:v∈t:=(by rw[Y];exact zm g);have l:v.k=u.k:=by
    have e:(r.map KM.k)[k]? =(t.map KM.k)[k]?:=(by rw[j,z]);rw[Q3,Q3,zd f,zd g] at e;rw[hu,Y];exact(Qz e).symm
   have O:=Q u M;have m:=S v Z;rw[l] at m;have h0:u.k.set.length<=64:=(hc.ksets u.k (by rw[<-j];exact Q5 M)).1;obtain⟨⟨kk,kd,kf,kt,kn,n⟩,ua,uc⟩:=u;obtain⟨vk,va,vc⟩:=v;simp only at l O m h0;subst l;refine I6 0 ?_;refine x8 [(2,i8 a),(3,i8 b),(5,r7 k)] [lf b q y,lf a q x] ?_ ?_
   ·refine o0 ?_;refine x6 ?_;refine D8 [1,4,6,9] [10,11,12,13] [lf b q y,lf a q x] 14 ?_;refine wd [0,1,2,3] ?_;refine A9 4 rfl (p9 (cs:=aX ⟨⟨kk,kd,kf,kt,kn,n⟩,ua,uc⟩) rfl (fun w c=>by rw[hu];exact bK (C:=aX) (s.le c.keep) S7 qp f x7) rfl) G3 rfl rfl rfl i6 ?_;refine wd [5,6,7,8] ?_;refine A9 9 rfl (p9 (cs:=aX ⟨⟨kk,kd,kf,kt,kn,n⟩,va,vc⟩) rfl (fun w c=>by rw[Y];exact bK (C:=aX) (A.le c.keep) S7 qp g x7) rfl) G3 rfl rfl rfl i6 ?_;refine S4 10 11 rfl rfl i6 ?_ ?_;refine i7 rfl ?_;intro g6;refine V2 ?_;refine h_ 11 rfl i6 ?_;refine i7 rfl ?_;intro g7;refine fy [12,13] ?_
    rotate_left 1
    refine i7 rfl ?_;intro g7;refine V2 ?_;refine h_ 10 rfl i6 ?_;refine i7 rfl ?_;intro g6;refine fy [12,13] ?_
    rotate_left 1
    all_goals (refine x6 ?_)
    all_goals (
     refine P1 ?_;refine f_ (V_ rfl rfl) ?_;refine al ?_;(first|refine u_ ?_|(refine v_ ?_;refine f_ (V_ rfl rfl) ?_));refine Y1 ?_;(first|refine u_ ?_|(refine v_ ?_;refine f_ (gu rfl rfl) ?_));refine Y1 ?_;(first|refine u_ ?_|(refine v_ ?_;refine f_ (gu rfl rfl) ?_));refine Y1 ?_;(first|refine u_ ?_|(refine v_ ?_;refine f_ (V_ rfl rfl) ?_));refine Y1 ?_;(first|refine u_ ?_|(refine v_ ?_;refine c_ rfl (Kf n ua va uc vc qb) (fun h i _=>⟨O.le i,m.le i⟩) rfl ?_));refine A5 ?_)
    all_goals (refine x6 ?_)
    all_goals exact p_ sub (fun w c=>c.drop.drop)
   refine E8 ?_;exact l8 (k+1) d qb sub i_
  ·refine x6 ?_;exact p_ sub i_
 refine x6 ?_;refine I6 1 ?_;refine x8 [(2,i8 a),(3,i8 b)] [lf b q y,lf a q x] ?_ ?_
 ·refine o0 ?_;refine o8 (ι:=Nat) (fun k=>k<=q.a6B.length) (fun k=>[(2,i8 a),(3,i8 b),(8,r7 k)]) (fun k=>[lf b q y,lf a q x]) (fun k=>q.a6B.length-k) 0 (zp _) sub i_ ?_;intro k d;refine KG ?_ ?_<;>intro h
  ·have d:k<q.a6B.length:=(by have:=zy h;omega);have V:=p8 o.a6B S6 qp d;have X:=p8 p.a6B S6 qp d;have h1:=o.a6B;have h2:=p.a6B;refine x6 ?_;refine D8 [1,4,6,9] [] [lf b q y,lf a q x] 11 ?_;refine wd [0,1,2,3] ?_;refine A9 4 rfl (p9 (cs:=co q.a6B[k]) rfl (fun w c=>bK (C:=co) (h1.le c.keep) S6 qp d x7) rfl) G3 rfl rfl rfl i6 ?_;refine wd [5,6,7,8] ?_;refine A9 9 rfl (p9 (cs:=co q.a6B[k]) rfl (fun w c=>bK (C:=co) (h2.le c.keep) S6 qp d x7) rfl) G3 rfl rfl rfl i6 ?_;refine w_ 10 rfl ((ao rfl rfl (by exact im.int qp rfl rfl (im.bool qp rfl rfl (im.bool qp rfl rfl (im.int qp rfl rfl (im.int qp rfl rfl im.nil)))))).eq (v':=.bool false) x7) ?_;refine wd [] ?_;refine E8 ?_;exact l8 (k+1) d qb sub i_
  ·refine x6 ?_;exact p_ sub i_
 refine D0 ?_;exact d_ rfl rfl [] qh (fun w c=>c.dropAll)
def Kl(s:SE)(x y:SL)(hs:PK s):Pu prog 15 [mq s x,mq s y] (fun h=>(P4 s x h/\n9 h x.ra (S_ s.a6y.a6x))/\P4 s y h/\n9 h y.ra (S_ s.a6y.a6x)) (.bool true):=by
 refine b_ 66 func15 rfl rfl rfl ?_;rintro F ⟨⟨f,d⟩,g,e⟩;have b:=f.a6A;have c:=g.a6A;rw[Of] at b c;refine D1 ?_;refine m8 rfl rfl ?_;intro j;refine m8 rfl rfl ?_;intro k;refine al ?_;refine f_ (tv rfl rfl) ?_;refine al ?_;(first|refine u_ ?_|(refine v_ ?_;refine f_ (tv rfl rfl) ?_));refine Y1 ?_;(first|refine u_ ?_|(refine v_ ?_;refine f_ (tv rfl rfl) ?_));refine Y1 ?_;(first|refine u_ ?_|(refine v_ ?_;refine c_ rfl (Rw s.a6y x.ra y.ra x.rc y.rc hs.a6x) (fun h a _=>⟨d.le a,e.le a⟩) rfl ?_));refine Y1 ?_;(first|refine u_ ?_|(refine v_ ?_;refine f_ (Av rfl rfl) ?_));refine Y1 ?_;(first|refine u_ ?_|(refine v_ ?_;refine f_ (Av rfl rfl) ?_));refine Y1 ?_;(first|refine u_ ?_|(refine v_ ?_;refine f_ (Av rfl rfl) ?_));refine Y1 ?_;(first|refine u_ ?_|(refine v_ ?_;refine c_ rfl (Rx s.cmd x.cl y.cl hs.cmd) (fun h a _=>⟨Mn.le a f.cmd,Mn.le a g.cmd⟩) rfl ?_));refine Y1 ?_;(first|refine u_ ?_|(refine v_ ?_;refine c_ rfl (Rv s.a6A x.ua y.ua x.uc y.uc hs.a6A) (fun h a _=>⟨b.le a,c.le a⟩) rfl ?_));refine M4 ?_;exact d_ rfl rfl [] qh (fun w i=>i.dropAll)
open Go Go.Sl Go.RowKit Go.Proofs.Tryz
def Ry(t:LT)(a b:qr)(c d:Nat)(hl:t.a6J.length<=1000000):Pu prog 82 [.agg (R7 ⟨t,a,c⟩).toArray,.agg (R7 ⟨t,b,d⟩).toArray] (fun h=>n9 h a (fV t.a6J)/\n9 h b (fV t.a6J)) (.bool true):=by
 refine b_ 38 func82 rfl rfl rfl ?_;rintro F ⟨e,f⟩;rw[ke] at e f;refine D1 ?_;refine m8 rfl rfl ?_;intro j;refine m8 rfl rfl ?_;intro k;refine al ?_;refine f_ (tv rfl rfl) ?_;refine al ?_;(first|refine u_ ?_|(refine v_ ?_;refine f_ (tv rfl rfl) ?_));refine Y1 ?_;(first|refine u_ ?_|(refine v_ ?_;refine f_ (Ur rfl rfl) ?_));refine Y1 ?_;(first|refine u_ ?_|(refine v_ ?_;refine f_ (tv rfl rfl) ?_));refine Y1 ?_;(first|refine u_ ?_|(refine v_ ?_;refine c_ rfl (Ki t.a6J a b c d hl) (fun h g _=>⟨e.le g,f.le g⟩) rfl ?_));refine M4 ?_;exact d_ rfl rfl [] qh (fun w i=>i.dropAll)
abbrev Sa(n:Bs)(v nx hi len:Nat)(a:qr)(c:Nat):zq:=[B n,.int .u64 (v:Nat),.int .u64 (nx:Nat),.int .u64 (hi:Nat),.slice a len c]
def Rz(n:Bs)(v j l:Nat)(ls f:List LM)(a b:qr)(c d:Nat)(Q:ls.map LM.t=f.map LM.t)(hl:ls.length<=1000000)(hf:∀x∈ls,x.t.a6J.length<=1000000):Pu prog 34 [.agg (Sa n v j l ls.length a c).toArray,.agg (Sa n v j l f.length b d).toArray] (fun h=>eZ ⟨n,v,j,l,ls,a,c⟩ h/\eZ ⟨n,v,j,l,f,b,d⟩ h) (.bool true):=by
 have y:f.length=ls.length:=by have:=jh List.length Q;simpa using this.symm
 refine b_ 60 func34 rfl rfl rfl ?_;rintro F ⟨S,T⟩;have m:n9 F.heap a (ls.flatMap R7):=S.ls;have o:n9 F.heap b (f.flatMap R7):=T.ls;refine D1 ?_;refine m8 rfl rfl ?_;intro A;refine m8 rfl rfl ?_;intro D;refine al ?_;refine f_ (gu rfl rfl) ?_;refine al ?_;(first|refine u_ ?_|(refine v_ ?_;refine f_ (V_ rfl rfl) ?_));refine Y1 ?_;(first|refine u_ ?_|(refine v_ ?_;refine f_ (V_ rfl rfl) ?_));refine Y1 ?_;(first|refine u_ ?_|(refine v_ ?_;refine f_ (V_ rfl rfl) ?_));refine wk 8 ?_;(first|refine u_ ?_|(refine v_ ?_;refine f_ ((M2 rfl rfl).eq (v':=.bool false) (by simp[y])) ?_));refine A5 ?_;refine o8 (ι:=Nat) (fun k=>k<=ls.length) (fun k=>[(2,i8 A),(3,i8 D),(5,r7 k)]) (fun k=>[.blk D (.cells (Sa n v j l f.length b d).toArray 100),.blk A (.cells (Sa n v j l ls.length a c).toArray 100)]) (fun k=>ls.length-k) 0 (zp _) sub i_ ?_;intro k hk;refine KG ?_ ?_<;>intro h
 ·have g:k<ls.length:=by have:=zy h;omega
  have i:k<f.length:=by omega
  have h0:=p8 m A8 qp g;have h1:=p8 o A8 qp i;obtain⟨u,hu⟩:=o9 (ls[k]);obtain⟨z,hz⟩:=o9 (f[k]);have p:u∈ls:=by rw[hu];exact zm g
  have J:z∈f:=by rw[hz];exact zm i
  have q:z.t=u.t:=by
   have e:(ls.map LM.t)[k]? =(f.map LM.t)[k]?:=(by rw[Q]);rw[Q3,Q3,zd g,zd i] at e;rw[hu,hz];exact(Qz e).symm
  have r:=S.fl u p;have s:=T.fl z J;have M:=hf u p;obtain⟨ut,U,V⟩:=u;obtain⟨O,X,Y⟩:=z;simp only at q r s M;subst q;refine x6 ?_;refine D8 [1,4,6,9] [10] [.blk D (.cells (Sa n v j l f.length b d).toArray 100),.blk A (.cells (Sa n v j l ls.length a c).toArray 100)] 12 ?_;refine wd [0,1,2,3] ?_;refine A9 4 rfl (p9 (cs:=R7 ⟨O,U,V⟩) rfl (fun w t=>by rw[hu];exact bK (C:=R7) (m.le t.keep) A8 qp g x7) rfl) G3 rfl rfl rfl i6 ?_;refine wd [5,6,7,8] ?_;refine A9 9 rfl (p9 (cs:=R7 ⟨O,X,Y⟩) rfl (fun w t=>by rw[hz];exact bK (C:=R7) (o.le t.keep) A8 qp i x7) rfl) G3 rfl rfl rfl i6 ?_;refine h_ 10 rfl i6 ?_;refine c_ rfl (Ry O U X V Y qb) (fun h Z _=>⟨r.le Z,s.le Z⟩) rfl ?_;refine D7 [11] ?_;refine E8 ?_;exact l8 (k+1) g qb sub i_
 ·refine D0 ?_;exact d_ rfl rfl [] qh (fun w t=>t.dropAll)
abbrev tx(ba:qr)(bn bc nv:Nat)(ha:qr)(hn hc:Nat)(sa:qr)(sn sc ns sw:Nat):zq:=[.slice ba bn bc,.int .u64 (nv:Nat),.slice ha hn hc,.slice sa sn sc,.int .u64 (ns:Nat),.int .u64 (sw:Nat)]
abbrev fD(g:Nat)(l:zq):As:=.blk g (.cells l.toArray 62)
def RA(m m':MM)(he:m.s=m'.s)(hb:m.a6u.length<=1000)(hh:m.a6v.length<=1000000)(hs:m.a6w.length<=1000000)(hl:∀b∈m.a6u,b.ls.length<=1000000/\∀x∈b.ls,x.t.a6J.length<=1000000):Pu prog 18 [rW m,rW m'] (fun h=>ew m h/\ew m' h) (.bool true):=by
 obtain⟨q,n,c,S1,o,p,y,D,ha,hc,A,J⟩:=m;obtain⟨r,h9,H2,S2,k0,k8,d,i,f,j,g,l⟩:=m';simp only[MM.s,ML.mk.injEq] at he hb hh hs hl;obtain⟨S,rfl,rfl,rfl,rfl,rfl⟩:=he;have h5:r.length=q.length:=by have:=jh List.length S;simpa using this.symm
 show Pu prog 18 [.agg (tx y q.length D n ha c.length hc A S1.length J o p).toArray,.agg (tx d r.length i n f c.length j g S1.length l o p).toArray] _ _;refine b_ 109 func18 rfl rfl rfl ?_;rintro F ⟨hx,hy⟩;have T:n9 F.heap y (q.flatMap bR):=hx.a6u;have U:n9 F.heap d (r.flatMap bR):=hy.a6u;have V:n9 F.heap ha (c.flatMap eO):=hx.a6v;have X:n9 F.heap f (c.flatMap eO):=hy.a6v;have Y:n9 F.heap A (S1.flatMap ji):=hx.a6w;have Z:n9 F.heap g (S1.flatMap ji):=hy.a6w;refine D1 ?_;refine m8 rfl rfl ?_;intro s;refine m8 rfl rfl ?_;intro t;refine wk 7 ?_;refine f_ ((M2 rfl rfl).eq (v':=.bool false) (by simp[h5])) ?_;refine wk 7 ?_;(first|refine u_ ?_|(refine v_ ?_;refine f_ (V_ rfl rfl) ?_));refine wk 8 ?_;(first|refine u_ ?_|(refine v_ ?_;refine f_ (V_ rfl rfl) ?_));refine Y1 ?_;(first|refine u_ ?_|(refine v_ ?_;refine f_ (V_ rfl rfl) ?_));refine Y1 ?_;(first|refine u_ ?_|(refine v_ ?_;refine f_ (V_ rfl rfl) ?_));refine Y1 ?_;(first|refine u_ ?_|(refine v_ ?_;refine f_ (V_ rfl rfl) ?_));refine u6 ?_;refine I6 1 ?_;refine x8 [(2,i8 s),(3,i8 t)] [fD t (tx d r.length i n f c.length j g S1.length l o p),fD s (tx y q.length D n ha c.length hc A S1.length J o p)] ?_ ?_
 ·refine o0 ?_;refine o8 (ι:=Nat) (fun k=>k<=q.length) (fun k=>[(2,i8 s),(3,i8 t),(5,r7 k)]) (fun k=>[fD t (tx d r.length i n f c.length j g S1.length l o p),fD s (tx y q.length D n ha c.length hc A S1.length J o p)]) (fun k=>q.length-k) 0 (zp _) sub i_ ?_;intro k hk;refine KG ?_ ?_<;>intro h
  ·have a:k<q.length:=(by have:=zy h;omega);have M:k<r.length:=(by omega);have h0:=p8 T o_ qp a;have h1:=p8 U o_ qp M;obtain⟨u,hu⟩:=o9 (q[k]);obtain⟨z,hz⟩:=o9 (r[k]);have h2:u∈q:=(by rw[hu];exact zm a);have h6:z∈r:=(by rw[hz];exact zm M);have O:u.x=z.x:=by
    have e:(q.map BM.x)[k]? =(r.map BM.x)[k]?:=(by rw[S]);rw[Q3,Q3,zd a,zd M] at e;rw[hu,hz];exact Qz e
   have h7:=hx.box u h2;have h8:=hy.box z h6;have Q:=hl u h2;obtain⟨un,uv,ux,uh,h3,ua,uc⟩:=u;obtain⟨zn,zv,zx,zh,h4,za,zc⟩:=z;simp only[BM.x,BX.mk.injEq] at O Q;obtain⟨rfl,rfl,rfl,rfl,O⟩:=O;refine x6 ?_;refine D8 [1,4,6,9] [10] [fD t (tx d r.length i n f c.length j g S1.length l o p),fD s (tx y q.length D n ha c.length hc A S1.length J o p)] 12 ?_;refine wd [0,1,2,3] ?_;refine A9 4 rfl (p9 (cs:=bR ⟨un,uv,ux,uh,h3,ua,uc⟩) rfl (fun w v=>by rw[hu];exact bK (C:=bR) (T.le v.keep) o_ qp a x7) rfl) G3 rfl rfl rfl i6 ?_;refine wd [5,6,7,8] ?_;refine A9 9 rfl (p9 (cs:=bR ⟨un,uv,ux,uh,h4,za,zc⟩) rfl (fun w v=>by rw[hz];exact bK (C:=bR) (U.le v.keep) o_ qp M x7) rfl) G3 rfl rfl rfl i6 ?_;refine h_ 10 rfl i6 ?_;refine c_ rfl (Rz un uv ux uh h3 h4 ua za uc zc O Q.1 Q.2) (fun h hh _=>⟨Mn.le hh h7,Mn.le hh h8⟩) rfl ?_;refine D7 [11] ?_;refine E8 ?_;exact l8 (k+1) a qb sub i_
  ·refine x6 ?_;exact p_ sub i_
 refine x6 ?_;refine I6 1 ?_;refine x8 [(2,i8 s),(3,i8 t)] [fD t (tx d r.length i n f c.length j g S1.length l o p),fD s (tx y q.length D n ha c.length hc A S1.length J o p)] ?_ ?_
 ·refine o0 ?_;refine o8 (ι:=Nat) (fun k=>k<=S1.length) (fun k=>[(2,i8 s),(3,i8 t),(6,r7 k)]) (fun k=>[fD t (tx d r.length i n f c.length j g S1.length l o p),fD s (tx y q.length D n ha c.length hc A S1.length J o p)]) (fun k=>S1.length-k) 0 (zp _) sub i_ ?_;intro k hk;refine KG ?_ ?_<;>intro h
  ·have a:k<S1.length:=(by have:=zy h;omega);have h0:=p8 Y P6 qp a;have h1:=p8 Z P6 qp a;refine x6 ?_;refine D8 [1,4,6,9] [] [fD t (tx d r.length i n f c.length j g S1.length l o p),fD s (tx y q.length D n ha c.length hc A S1.length J o p)] 11 ?_;refine wd [0,1,2,3] ?_;refine A9 4 rfl (p9 (cs:=ji S1[k]) rfl (fun w v=>bK (C:=ji) (Y.le v.keep) P6 qp a x7) rfl) G3 rfl rfl rfl i6 ?_;refine wd [5,6,7,8] ?_;refine A9 9 rfl (p9 (cs:=ji S1[k]) rfl (fun w v=>bK (C:=ji) (Z.le v.keep) P6 qp a x7) rfl) G3 rfl rfl rfl i6 ?_;refine w_ 10 rfl ((ao rfl rfl (by exact im.int qp rfl rfl (im.int qp rfl rfl (im.int qp rfl rfl (im.int qp rfl rfl (im.int qp rfl rfl im.nil)))))).eq (v':=.bool false) x7) ?_;refine wd [] ?_;refine E8 ?_;exact l8 (k+1) a qb sub i_
  ·refine x6 ?_;exact p_ sub i_
 refine x6 ?_;refine I6 1 ?_;refine x8 [(2,i8 s),(3,i8 t)] [fD t (tx d r.length i n f c.length j g S1.length l o p),fD s (tx y q.length D n ha c.length hc A S1.length J o p)] ?_ ?_
 ·refine o0 ?_;refine o8 (ι:=Nat) (fun k=>k<=c.length) (fun k=>[(2,i8 s),(3,i8 t),(7,r7 k)]) (fun k=>[fD t (tx d r.length i n f c.length j g S1.length l o p),fD s (tx y q.length D n ha c.length hc A S1.length J o p)]) (fun k=>c.length-k) 0 (zp _) sub i_ ?_;intro k hk;refine KG ?_ ?_<;>intro h
  ·have a:k<c.length:=(by have:=zy h;omega);have h0:=p8 V L_ qp a;have h1:=p8 X L_ qp a;refine x6 ?_;refine D8 [1,4,6,9] [] [fD t (tx d r.length i n f c.length j g S1.length l o p),fD s (tx y q.length D n ha c.length hc A S1.length J o p)] 11 ?_;refine wd [0,1,2,3] ?_;refine A9 4 rfl (p9 (cs:=eO c[k]) rfl (fun w v=>bK (C:=eO) (V.le v.keep) L_ qp a x7) rfl) G3 rfl rfl rfl i6 ?_;refine wd [5,6,7,8] ?_;refine A9 9 rfl (p9 (cs:=eO c[k]) rfl (fun w v=>bK (C:=eO) (X.le v.keep) L_ qp a x7) rfl) G3 rfl rfl rfl i6 ?_;refine w_ 10 rfl ((ao rfl rfl (by exact im.int qp rfl rfl (im.int qp rfl rfl (im.int qp rfl rfl im.nil)))).eq (v':=.bool false) x7) ?_;refine wd [] ?_;refine E8 ?_;exact l8 (k+1) a qb sub i_
  ·refine x6 ?_;exact p_ sub i_
 refine D0 ?_;exact d_ rfl rfl [] qh (fun w v=>v.dropAll)
def Us(w:WM)(a:AX)(ts:List TN)(h:l_)(v:Value)(A:List As):Prop:=∃w' t o,v=.tuple #[Fx w',.slice (Prod.fst o) (ts++[t]).length (Prod.snd o)]/\A=[]/\n9 h (Prod.fst o) ((ts++[t]).flatMap lT)/\mN w a w' t/\il w' h/\Fg t h
def CH(w:WM)(a:AX)(z:QL)(b:List TN)(U:qr)(V:Nat)(X:Cz w a)(Y:b.length<=1000):
  Cm prog 19 [Fx w,.slice U b.length V,acA a z] (fun h=>il w h/\dM a.other z h/\n9 h U (b.flatMap lT)) [] (Us w a b):=by
 refine A0 22 func19 rfl rfl rfl ?_;rintro F R ⟨n,y,C⟩;refine D1 ?_;refine m8 rfl rfl ?_;intro x;refine m8 rfl rfl ?_;intro g5;refine i7 rfl ?_;intro D;refine u6 ?_;refine C5 (H':=N7 x w::.blk g5 (.cells (FA a z).toArray 70)::.blk D (.cells KR.toArray 65)::R) (fun v d=>D3 (A:=[_,_,_]) (J:=[]) tk d) ?_;refine A5 ?_;refine B_ (JD w a z X) ⟨n,y⟩ ?_;rintro v A F1 M ⟨o,t,c,rfl,rfl,hf⟩;refine z_ (H':=_::_::_::(E1 c t++R)) (fun v d=>d.perm (z6 (E1 c t) [_,_,_] R)) ?_;refine E8 ?_;refine i7 rfl ?_;intro O;refine A5 ?_;refine C5 (H':=(aj O t::N7 x o::.blk D (.cells KR.toArray 65)::R)++E1 c t) (fun v d=>?_) (cy fun F2 p j=>?_)
 ·have h9:Hp F1 v (aj O t::N7 x o::.blk D (.cells KR.toArray 65)::(E1 c t++R)):=D3 (A:=[_,_,_]) (J:=[_]) tk d;exact h9.perm (((jj.cons _).cons _).cons _)
 obtain⟨bs,j⟩:=j;have f:=M.trans p;obtain⟨Q,S⟩:=JP (Mn.le f.heap n) hf p.heap j;clear j;have g:=C.le f.heap;refine x6 ?_;refine D8 [0,4] [1,3,5,6,7] [N7 x o,aj O t] 9 ?_;refine wd [0,2,4] ?_;refine S4 1 5 rfl rfl i6 ?_ ?_;refine N3 rfl ?_;intro T;refine V2 ?_;refine S4 3 5 rfl rfl i6 ?_ ?_;refine u7 lT (l:=[]) (m:=b) bj ib (by show(0+b.length)*1216<=_;omega) ?_ (hsrc:=fun v d=>g.le d.keep) (h63:=by simp only[kx];omega);intro q r _;refine V2 ?_;refine h_ 5 rfl i6 ?_;refine D2 lT t rfl ?_;intro s _;refine V2 ?_;refine h_ 6 rfl i6 ?_;refine u7 lT (l:=b) (m:=[t]) bj ib (by show(b.length+1)*1216<=_;omega) ?_;intro e i _;refine fy [7,8] ?_
 rotate_left 1
 refine D2 lT t rfl ?_;intro s _;refine V2 ?_;refine h_ 3 rfl i6 ?_;refine u7 lT (l:=[]) (m:=b) bj ib (by show(0+b.length)*1216<=_;omega) ?_ (hsrc:=fun v d=>g.le d.keep) (h63:=by simp only[kx];omega);intro q r _;refine V2 ?_;refine h_ 6 rfl i6 ?_;refine u7 lT (l:=b) (m:=[t]) bj ib (by show(b.length+1)*1216<=_;omega) ?_;intro e i _;refine fy [7,8] ?_
 rotate_left 1
 refine D2 lT t rfl ?_;intro s _;refine V2 ?_;refine h_ 1 rfl i6 ?_;refine N3 rfl ?_;intro T;refine V2 ?_;refine h_ 3 rfl i6 ?_;refine u7 lT (l:=[]) (m:=b) bj ib (by show(0+b.length)*1216<=_;omega) ?_ (hsrc:=fun v d=>g.le d.keep) (h63:=by simp only[kx];omega);intro q r _;refine V2 ?_;refine h_ 6 rfl i6 ?_;refine u7 lT (l:=b) (m:=[t]) bj ib (by show(b.length+1)*1216<=_;omega) ?_;intro e i _;refine fy [7,8] ?_
 rotate_left 1
 all_goals (refine x6 ?_)
 all_goals
  refine C6 (Z:=[.own (.slice e (b++[t]).length i) 48 99 ((b++[t]).flatMap lT)]) tk fun F3 k ⟨bs,j⟩=>?_;have u:n9 F3.heap e ((b++[t]).flatMap lT):=A_.rd j ud;clear j;refine B4 ?_;refine I4 (A:=[]) (v:=.tuple #[Fx o,.slice e (b++[t]).length i]) (f.trans k) ⟨o,t,(e,i),rfl,rfl,u,hf.step,Mn.le k.heap Q,Mn.le k.heap S⟩ ?_;exact D_ rfl rfl rfl ud rfl _ qh (fun v d=>D3 (A:=[]) (J:=[_,_,_,_]) tk d)
abbrev np:Bs:=[97,32,76,79,71,73,78,32,120,32,104,111,114,110]
abbrev lV:Bs:=[98,32,83,69,76,69,67,84,32,73,78,66,79,88]
abbrev Fm:Bs:=[99,32,76,79,71,79,85,84]
abbrev aL(s:Bs):AX:=⟨0,1,s,false,dq⟩
abbrev aC:AX:=⟨1,0,[],false,dq⟩
def gv(s:Bs):CM:=((T7 (aI s) s (behind s)).map Prod.fst).getD iK
def tA(s:Bs):Bool:=dp s&&!decide (F_ (R3 (M5 s))=0\/oS s=true/\F_ (R3 (M5 s))<15)&&decide ((aI s).kind≠15)&&decide ((T7 (aI s) s (behind s)).map Prod.snd=some s.length)
def Ko{s:Bs}{c:CM}{e:Int}(hl:tA s=true)(h:aE s c e):c=gv s/\e=0:=by
 unfold tA at hl;simp only[jw,Kr,Z7,j7] at hl;obtain⟨⟨⟨j,k⟩,l⟩,m⟩:=hl;obtain⟨⟨C,n⟩,g,b⟩:=jx.1 m;have b:n=s.length:=b;subst b;have d:gv s=C:=by unfold gv;rw[g];rfl
 unfold aE at h;rw[zb (by rw[j];simp),zb k] at h;rw[d];have a:∀r,bH s (aI s) (behind s) r->r=some (C,s.length):=fun r f=>by
  unfold bH at f;rw[zb l,g] at f;exact f
 rcases h with⟨h,o⟩|⟨h|⟨q,h,i⟩,_⟩
 ·have:=a _ h;injection this with this;injection this with this;exact⟨this,o⟩
 ·cases a _ h
 ·have:=a _ h;injection this with this;rw[this] at i;exact absurd rfl i
def Ut:tA np=true:=by kernel_rfl
def Uu:tA lV=true:=by kernel_rfl
def Uv:tA Fm=true:=by kernel_rfl
def lW{w w':WM}{s:Bs}{t:TN}(h:mN w (aL s) w' t)(hl:tA s=true)(i:w.s.a6E=false)(j:w.s.a6z≠3)(hf:(M_ (gv s).kind).1<=w.s.a6z/\w.s.a6z<=(M_ (gv s).kind).2)(m:(gv s).kind<14):
  (t.b,t.d)=KK (fun _=>[]) (w.s,G7) (gv s)/\∃a:WM,a.m.s=w.m.s/\a.bl=w.bl/\a.q=w.q/\a.tr=w.tr/\tl a t w':=by
 rcases h with⟨h,_⟩|⟨a,c,d,_,g,f⟩
 ·cases h
 ·unfold aK at d;rw[zr rfl] at d;obtain⟨b,k,l,_⟩:=d;refine⟨?_,a,k,l,g.1,g.2,f⟩;unfold bJ at b;rw[zb (by show¬(1:Int)=2;decide),zb (by rw[i];simp[j]),zb (by show¬(1:Int)=4;decide),zb (by show¬(1:Int)=3;decide),zr rfl] at b;obtain⟨c,e,hp,b⟩:=b;obtain⟨rfl,rfl⟩:=Ko hl hp;rcases b with⟨h,_⟩|⟨h,_⟩|⟨h,_⟩|⟨_,⟨h,_⟩|⟨_,_,h⟩⟩
  ·cases h
  ·cases h
  ·cases h
  ·omega
  ·unfold NF at h;rw[zb qb,zb qb] at h;exact h
def lX{w w':WM}{t:TN}(h:mN w aC w' t)(m:w.s.a6E=true)(n:w.s.cmd.kind≠16/\w.s.cmd.kind≠15):
  (∃x:AN,x.c=w.s.cmd/\x.m.s=(E3 w.m.s w.q).1/\x.o=(E3 w.m.s w.q).2/\ik x (X6 w.s) t.b t.d)/\∃a:WM,a.m.s=(E3 w.m.s w.q).1/\a.bl=w.bl/\a.q=w.q/\a.tr=w.tr/\tl a t w':=by
 rcases h with⟨_,h,_⟩|⟨a,c,j,_,o,k⟩
 ·rw[m] at h;cases h
 ·unfold aK at j;rw[zb qp,zr rfl] at j;obtain⟨_,⟨s1,u,q,l⟩,r,s,_⟩:=j;refine⟨?_,a,r,s,o.1,o.2,k⟩;have g:∀{p:SE} {d':DD} {bl:BL},fC w.s (E3 w.m.s w.q).1 (E3 w.m.s w.q).2 bl p d'->d'.want=[]/\∃x:AN,x.c=w.s.cmd/\x.m.s=(E3 w.m.s w.q).1/\x.o=(E3 w.m.s w.q).2/\ik x (X6 w.s) p d':=fun h=>by
   unfold fC at h;rw[zb (by rw[m];simp)] at h;rcases h with⟨_,_,⟨_,h|h⟩,_⟩|⟨x,b,d,f,_,_,_,i⟩
   ·exact absurd h n.1
   ·exact absurd h n.2
   ·exact⟨(eK i).2.1,x,b,d,f,i⟩
  obtain⟨e,x,b,d,f,i⟩:=g q;rw[zr e] at l;exact⟨x,b,d,f,by rw[l.1,l.2];exact i⟩
def eM{w0 w':WM}{L:List AX}{d:List TN}(h:eL w0 L d w'):∀l a,L=l++[a]->∃b w t,d=b++[t]/\eL w0 l b w/\mN w a w' t:=by
 cases h with
 |nil=>intro l a e;exact absurd e.symm x7
 |snoc hp hs=>
  intro l a e;obtain⟨f,c⟩:=List.append_inj' e rfl;injection c with c;subst f c;exact⟨_,_,_,rfl,hp,hs⟩
abbrev KS:List AX:=[aL np,aC,aL lV,aC,aL Fm,aC]
def Uw:SE:={oT with a6E:=true,cmd:=gv np,a6A:=[]}
def UN:RQ:={dq with op:=1,node:=1,life:=1,tr:=1}
def Ux:ML:=(E3 Aq UN).1
def S2a:SE:={X6 Uw with a6z:=1,ses:=(E3 Aq UN).2.ses,num:=0}
def Fo:SD:=KK (fun _=>[]) (S2a,G7) (gv lV)
def M4a:ML:=(E3 Ux Fo.2.req).1
def k1a:(gv np).kind=7:=by kernel_rfl
def k2a:(gv lV).kind=8:=by kernel_rfl
def Sb:(gv Fm).kind=3:=by kernel_rfl
def d1a:KK (fun _=>[]) (oT,G7) (gv np)=(Uw,{G7 with ask:=true,req:={dq with op:=1}}):=by kernel_rfl
def c2a:(E3 Aq UN).2.code=0:=by kernel_rfl
def b3a:Fo.1.a6E=true:=by kernel_rfl
def e3a:Fo.1.cmd=gv lV:=by kernel_rfl
def a3a:Fo.2.ask=true:=by kernel_rfl
def o3a:¬Fo.2.req.op=1:=by
 have:Fo.2.req.op=3:=by kernel_rfl
 rw[this];decide
def c4a:(E3 Ux Fo.2.req).2.code=0:=by kernel_rfl
def f4a:(ay M4a (gv lV).box).isSome=true:=by kernel_rfl
def Aw{m:MM}(hm:m.s=Aq){ts:List TN}{w:WM}(h:eL (Ap m) KS ts w):
  ∃t1 t2 t3 t4 t5 s,ts=[t1,t2,t3,t4,t5,s]/\t2.d.a6I.length=1/\t4.d.a6I.length=6/\t4.d.a6I.getD 5 R0={ep (gv lV).tag with code:=aU 8}/\w.s.a6z=3/\s.d.close=true:=by
 obtain⟨_,w5,s,rfl,h,s6⟩:=eM h [aL np,aC,aL lV,aC,aL Fm] aC rfl;obtain⟨_,V,t5,rfl,h,s5⟩:=eM h [aL np,aC,aL lV,aC] (aL Fm) rfl;obtain⟨_,u,t4,rfl,h,s4⟩:=eM h [aL np,aC,aL lV] aC rfl;obtain⟨_,w2,t3,rfl,h,s3⟩:=eM h [aL np,aC] (aL lV) rfl;obtain⟨_,t,t2,rfl,h,s2⟩:=eM h [aL np] aC rfl;obtain⟨X,w0,t1,rfl,h,s1⟩:=eM h [] (aL np) rfl;have h0:w0=Ap m/\X=[]:=by
  generalize hL:([]:List AX)=L at h
  cases h with
  |nil=>exact qh
  |snoc _ _=>exact absurd hL x7
 obtain⟨rfl,rfl⟩:=h0
 -- the first line
 obtain⟨Y,v1,Z,_,q9,v,j⟩:=lW s1 Ut rfl (by show(0:Nat)≠3;decide) (by rw[k1a];exact⟨by show(M_ 7).1<=0;decide,by show 0<=(M_ 7).2;decide⟩) (by rw[k1a];decide);have Y:(t1.b,t1.d)=(Uw,{G7 with ask:=true,req:={dq with op:=1}}):=Y.trans d1a;injection Y with e1b e1d;have k:t.s=Uw:=by rw[j.s,e1b]
 have h1:t.m.s=Aq:=by rw[j.m,Z];exact hm
 have h2:t.q=UN:=by
  rw[j.q];unfold ja;rw[e1d,zr rfl,zr rfl,v];rfl
 -- what comes
 have A:t.s.cmd.kind=7:=by rw[k];exact k1a
 obtain⟨⟨x,h3,h4,c,hx⟩,v2,C,_,_,_,D⟩:=lX s2 (by rw[k];rfl) (by rw[A];decide);rw[h1,h2] at h4 c C;have l:x.c.kind=7:=by rw[h3];exact A
 have h5:Cu x (X6 t.s)=X6 t.s:=by unfold Cu vq;rw[l];rfl
 unfold ik at hx;rw[zb (by rw[c,c2a];decide),zb (by rw[l];decide)] at hx;obtain⟨r,x0,l1,x1,l2,d,J,g3⟩:=hx;rw[zr (by rw[c];exact c2a)] at d;unfold O9 at d;rw[zr (show(Cv x).c.kind=7 from l)] at d;obtain⟨rfl,rfl,rfl⟩:=d;rw[zb (fun h=>absurd h.1 (by show¬(1:Nat)=2;decide))] at J;obtain⟨rfl,rfl⟩:=J;rw[zb (fun h=>absurd h.1 (by show¬(1:Nat)=2;decide))] at g3;obtain⟨h6,h7⟩:=g3;have e:w2.s=S2a:=by
  rw[D.s,h6,h5,k];show({X6 Uw with a6z:=1,ses:=x.o.ses,num:=0}:SE)=_;rw[c];rfl
 have h8:w2.m.s=Ux:=by rw[D.m,C];rfl
 -- the second line
 obtain⟨M,v3,h9,_,x2,q7,n⟩:=lW s3 Uu (by rw[e];rfl) (by rw[e];show(1:Nat)≠3;decide) (by rw[k2a,e];exact⟨by decide,by decide⟩) (by rw[k2a];decide);rw[e] at M;have M:(t3.b,t3.d)=Fo:=M;have k0:t3.b=Fo.1:=by rw[<-M]
 have k8:t3.d=Fo.2:=by rw[<-M]
 have f:u.s=Fo.1:=by rw[n.s,k0]
 have k9:u.m.s=Ux:=by rw[n.m,h9,h8]
 have q0:u.q=Fo.2.req:=by
  rw[n.q];unfold ja;rw[k8,zr a3a,zb o3a]
 -- what comes
 have O:u.s.cmd.kind=8:=by rw[f,e3a];exact k2a
 obtain⟨⟨y,o,Q,p,hy⟩,v4,x3,_,_,_,q1⟩:=lX s4 (by rw[f];exact b3a) (by rw[O];decide);rw[k9,q0] at Q p;have a:y.c.kind=8:=by rw[o];exact O
 have q2:vq y=true:=by unfold vq;rw[a];rfl
 unfold ik at hy;rw[zb (by rw[p,c4a];decide),zb (by rw[a];decide)] at hy;obtain⟨r,x5,l3,x9,l4,d,J,g4⟩:=hy;rw[zr (by rw[p];exact c4a)] at d;unfold O9 at d;rw[zb (show¬(Cv y).c.kind=7 from by show¬y.c.kind=7;rw[a];decide),zb (show¬(Cv y).c.kind=14 from by show¬y.c.kind=14;rw[a];decide),zr (show(Cv y).c.kind=8\/(Cv y).c.kind=9 from .inl a)] at d;rw[zb (fun h=>by rw[q2] at h;cases h.2.1)] at J g4;obtain⟨rfl,rfl⟩:=J;obtain⟨q3,S⟩:=g4;rcases d with⟨T,_⟩|⟨b,hb,rfl,rfl,rfl⟩
 ·exfalso;have hf:=f4a;have T:ay y.m.s y.c.box=none:=T;rw[Q,o,f,e3a] at T;rw[show(E3 Ux Fo.2.req).1=M4a from rfl] at T;rw[T] at hf
  cases hf
 have g:V.s.a6E=false/\V.s.a6z=2:=by
  rw[q1.s,q3];refine⟨?_,rfl⟩;show(Cu y (X6 u.s)).a6E=false;unfold Cu;split<;>rfl
 -- the third line
 obtain⟨U,v5,y0,_,y1,q8,q4⟩:=lW s5 Uv g.1 (by rw[g.2];decide) (by rw[Sb,g.2];exact⟨by decide,by decide⟩) (by rw[Sb];decide);unfold KK at U;rw[zb (by rw[Sb];decide),zb (by rw[Sb];decide),zr Sb,zb (show¬V.s.a6z=0 from by rw[g.2];decide)] at U;unfold H3 at U;rw[zb qp] at U;injection U with e5b e5d;have q:w5.s.a6E=true/\w5.s.cmd.kind=3:=by
  rw[q4.s,e5b];exact⟨rfl,Sb⟩
 obtain⟨⟨z,q5,_,_,hz⟩,v6,_,_,_,_,q6⟩:=lX s6 q.1 (by rw[q.2];decide);have i:s.b.a6z=3/\s.d.close=true:=by
  unfold ik at hz;split at hz
  ·rw[hz.1,hz.2];exact qh
  ·rw[zr (by rw[q5];exact q.2)] at hz;rw[hz.1,hz.2];exact qh
 refine⟨t1,t2,t3,t4,t5,s,rfl,?_,?_,?_,by rw[q6.s];exact i.1,i.2⟩
 ·rw[h7];rfl
 ·rw[S];rfl
 ·rw[S];show({(Cv y).r with code:=aU (Cv y).c.kind}:RR)=_;show({ep y.c.tag with code:=aU y.c.kind}:RR)=_;rw[a,o,f,e3a]
abbrev qX(b:Nat)(s:Bs)(p:Nat)(ok:Bool):As:=.blk b (.cells #[B s,.int .i64 (p:Nat),.bool ok] 116)
abbrev UO(b:Nat)(s:Bs)(st:RS):As:=qX b s st.p st.ok
def Og{s w:Bs}{p:Nat}{ok:Bool}(h:p<=s.length):(mQ s w ⟨p,ok⟩).2.p<=s.length/\p<=(mQ s w ⟨p,ok⟩).2.p:=by
 unfold mQ;split
 ·next a=>
  have:=a.2;rw[GM,jz] at this;simp only[jw,j7] at this;simp only;omega
 ·simp only;omega
def Kt(b:Nat)(s w:Bs)(p:Nat)(ok:Bool)(hs:s.length<=1000000000000)(hp:p<=s.length)(i:w.length<=1000000000000):Ct prog 42 [i8 b,B w] (fun _=>True) [qX b s p ok] (fun v A=>v=.bool (mQ s w ⟨p,ok⟩).1/\A=[UO b s (mQ s w ⟨p,ok⟩).2]):=by
 obtain⟨q,c⟩:=o9 (w.isPrefixOf (s.drop p));refine b_ 33 func42 rfl rfl rfl ?_;intro F _;refine u6 ?_;refine x8 [(0,i8 b),(1,B w),(23,.bool (!ok||!q))] [qX b s p ok] ?_ ?_
 ·cases ok
  all_goals (
   refine x6 ?_;refine vM [3,9,13] [] 19 ?_;refine wd [0,1,2,3,4,5,6,7,8,9,10,11,12,13] ?_;(first|refine s_ 14 ?_|refine t_ 14 ?_|refine G4 14 rfl ((I2 rfl rfl rfl qb).eq (v':=B (s.drop p)) (by rw[jm (by rw[jz];omega),Qy])) rfl rfl rfl rfl rfl rfl i6 ?_);refine wd [15] ?_;refine h_ 16 rfl i6 ?_;(first|refine u_ ?_|(refine v_ ?_;refine c_ rfl (au (s.drop p) w) qw rfl ?_;rw[<-c]));refine rR ?_;refine wd [17,18] ?_)
  all_goals exact p_ sub i_
 refine O_ ?_ ?_<;>intro h
 ·have e:mQ s w ⟨p,ok⟩=(false,⟨p,ok⟩):=by
   unfold mQ;refine zb fun d=>?_;simp only at d;rw[d.1,c,d.2] at h
   cases h
  rw[e];refine D0 ?_;exact d_ rfl rfl [qX b s p ok] qh i_
 ·rw[Zw] at h;have f:ok=true:=by simpa using h.1
  have g:q=true:=by simpa using h.2
  have e:mQ s w ⟨p,ok⟩=(true,⟨p+w.length,ok⟩):=by
   unfold mQ;exact zr ⟨f,c.symm.trans g⟩
  have a:=Og (s:=s) (w:=w) (p:=p) (ok:=ok) hp;rw[e] at a⊢;simp only at a;refine Y1 ?_;refine f_ ((r8 rfl rfl qb).eq (v':=.int .i64 ((p+w.length:Nat):Int)) (by congr 1)) ?_;refine KH ?_;exact d_ rfl rfl [qX b s (p+w.length) ok] qh i_
def Fp(b:Nat)(s w:Bs)(p:Nat)(ok:Bool)(hs:s.length<=1000000000000)(hp:p<=s.length)(a:w.length<=1000000000000):Ct prog 46 [i8 b,B w] (fun _=>True) [qX b s p ok] (fun v A=>v=.tuple #[]/\A=[UO b s (Gi s w ⟨p,ok⟩)]):=by
 refine b_ 10 func46 rfl rfl rfl ?_;intro F _;refine E8 ?_;refine y5 _ rfl (Kt b s w p ok hs hp a) i_ qw rfl ?_;rintro v A ⟨rfl,rfl⟩;refine E8 ?_;exact m6 rfl [UO b s (Gi s w ⟨p,ok⟩)] qh i_
def KB(b:Nat)(s w:Bs)(p:Nat)(ok:Bool)(hs:s.length<=1000000000000)(hp:p<=s.length)(n:w.length<=1000000000000):Ct prog 43 [i8 b,B w] (fun _=>True) [qX b s p ok] (fun v A=>v=B (oJ s w ⟨p,ok⟩).1/\A=[UO b s (oJ s w ⟨p,ok⟩).2]):=by
 refine b_ 56 func43 rfl rfl rfl ?_;intro F _
 cases ok with
 |false=>
  refine Lq ?_;exact d_ rfl rfl [qX b s p false] qh i_
 |true=>
  refine wk 11 ?_;refine o8 (ι:=Nat) (fun j=>p<=j/\j<=s.length/\∀i,p<=i->i<j->(!w.contains (s.getD i 0))=true) (fun j=>[(0,i8 b),(1,B w),(5,r7 p)]) (fun j=>[qX b s j true]) (fun j=>s.length-j) p ⟨kp _,hp,fun i h t=>by omega⟩ ?_ ?_ ?_
  ·exact sub
  ·intro w n;exact n
  rintro j ⟨g,o,k⟩;obtain⟨q,a⟩:=o9 (decide ((j:Int)<(s.length:Nat)));obtain⟨u,d⟩:=o9 (!w.contains (s.getD j 0));refine x6 ?_;refine x8 [(0,i8 b),(1,B w),(5,r7 p),(38,.bool (q&&u))] [qX b s j true] ?_ ?_
  ·cases q
   all_goals (
    refine x6 ?_;refine vM [3,7,15,19] [] 24 ?_;refine wd [0,1,2,3,4,5,6,7,8] ?_;refine w_ 9 rfl ((F8 rfl rfl).eb a) ?_;refine wd [10,11,12,13,14,15,16,17,18,19] ?_;(first|refine s_ 20 ?_|refine t_ 20 ?_|refine G4 20 rfl ((B5 rfl rfl (by have:=zy a.symm;omega)).eq (v':=U8 (s.getD j 0)) (by simp only[Qy])) rfl rfl rfl rfl rfl rfl i6 ?_);refine h_ 21 rfl i6 ?_;(first|refine u_ ?_|(refine v_ ?_;refine c_ rfl (av w (s.getD j 0)) qw rfl ?_));refine rR ?_;(first|refine s_ 22 ?_|refine t_ 22 ?_|refine G4 22 rfl ((F8 rfl rfl).eq (qn ((yJ _ _).trans d.symm))) rfl rfl rfl rfl rfl rfl i6 ?_);refine wd [23] ?_)
   all_goals exact p_ sub i_
  refine O_ ?_ ?_<;>intro l
  ·simp only[jw] at l;have x:j<s.length:=(by have:=zy (a.symm.trans l.1);omega);refine P1 ?_;refine f_ ((r8 rfl rfl qb).eq (v':=.int .i64 ((j+1:Nat):Int)) (by congr 1)) ?_;refine E8 ?_;refine l8 (j+1) ⟨by omega,by omega,fun i h t=>?_⟩ qb ?_ ?_
   ·rcases jd.1 t with y|rfl
    ·exact k i h y
    ·rw[<-d];exact l.2
   ·exact sub
   ·intro w n;exact n
  ·have m:j<s.length->(!w.contains (s.getD j 0))=false:=fun C=>by
    have:q=true:=a.trans qk;rw[this,K3] at l;rw[<-d];exact l
   obtain⟨r,z⟩:=Bl (f:=fun c=>!w.contains c) g (.inl o) k m;have e:oJ s w ⟨p,true⟩=((s.drop p).take (j-p),⟨j,true⟩):=by
    unfold oJ Gj;rw[zr rfl];simp only;rw[<-z,r]
   rw[e];refine x6 ?_;refine vM [3,8] [] 11 ?_;refine wd [0,1,2,3,4,5,6,7,8] ?_;refine w_ 9 rfl ((I2 rfl rfl rfl qb).eq (v':=B ((s.drop p).take (j-p))) (jh B (ko g))) ?_;refine wd [10] ?_;refine B4 ?_;exact d_ rfl rfl [qX b s j true] qh i_
def Fq(s:Bs)(hs:s.length<=1000000000000):Pu prog 44 [B s] (fun _=>True) (.bool (ln s)):=by
 refine b_ 27 func44 rfl rfl rfl ?_;intro F _;refine P1 ?_;refine o8 (ι:=Nat) (fun k=>k<=s.length/\∀j,j<k->gE (s.getD j 0)=true) (fun k=>[(0,B s),(5,r7 s.length),(6,r7 k)]) (fun _=>[]) (fun k=>s.length-k) 0 ⟨by omega,fun j h=>by omega⟩ ?_ ?_ ?_
 ·exact sub
 ·intro w i;exact i
 rintro k ⟨z,a⟩;refine T2 ?_ ?_<;>intro h
 ·have l:k<s.length:=by simp at h;omega
  obtain⟨m,b⟩:=o9 (decide (((s.getD k 0).toNat:Int)<32));obtain⟨q,c⟩:=o9 (decide ((126:Int)<((s.getD k 0).toNat:Nat)));have r:gE (s.getD k 0)=!(m||q):=by
   rw[b,c,Z5];simp only[gE,jw,Kr,Zw,j7,Z7];omega
  refine A5 ?_;refine x8 [(0,B s),(5,r7 s.length),(6,r7 k),(18,.bool (m||q))] [] ?_ ?_
  ·cases m
   all_goals (
    refine A5 ?_;refine f_ ((B5 rfl rfl qb).eq (v':=U8 (s.getD k 0)) (by simp only[Qy])) ?_;refine f_ ((F8 rfl rfl).eb b) ?_;refine E8 ?_;(first|refine u_ ?_|(refine v_ ?_;refine f_ ((B5 rfl rfl qb).eq (v':=U8 (s.getD k 0)) (by simp only[Qy])) ?_));(first|refine u_ ?_|(refine v_ ?_;refine f_ ((E9 rfl rfl).eb c) ?_));refine u6 ?_)
   all_goals exact p_ sub i_
  refine O_ ?_ ?_<;>intro g
  ·have e:ln s=false:=by
    unfold ln;rw[yF (p:=gE) l (by rw[r,g];rfl)];rfl
   rw[e];refine D0 ?_;exact d_ rfl rfl [] qh (fun _ h=>h)
  ·refine A5 ?_;refine l8 (k+1) ⟨by omega,fun j u=>?_⟩ qb ?_ ?_
   ·rcases jd.1 u with v|rfl
    ·exact a j v
    ·rw[r,g];rfl
   ·exact sub
   ·intro w i;exact i
 have n:k=s.length:=by simp at h;omega
 subst n;obtain⟨o,d⟩:=o9 (!decide (s=[]));obtain⟨t,f⟩:=o9 (decide (((s.length:Nat):Int)<=512));have e:ln s=(o&&t):=by
  unfold ln;have x:s.all gE=true:=Bh a;have g:(!s.isEmpty)=o:=by rw[d];cases s<;>simp
  have y:decide (s.length<=512)=t:=by rw[f];exact kz.mpr qb
  rw[x,g,y,K3]
 rw[e];clear e;refine x6 ?_
 cases o
 all_goals (
  refine u6 ?_;refine f_ ((F7 rfl rfl).eb d) ?_;refine E8 ?_;(first|refine u_ ?_|(refine v_ ?_;refine f_ ((H4 rfl rfl).eb f) ?_));refine A5 ?_)
 all_goals (refine B4 ?_;exact d_ rfl rfl [] qh (fun _ h=>h))
def tB(k:Nat)(a:k<4):Pu prog 35 [.int .i64 ((k:Int)+1)] (fun _=>True) (B (Gg.getD k [])):=by
 refine b_ 7 func35 rfl rfl rfl ?_;intro F _;refine yu ?_;refine f_ (db (v:=.agg #[B [79,75],B [78,79],B [66,65,68],B [66,89,69]]) rfl (fun w=>run_build w _ _ _ i6)) ?_;refine u6 ?_;refine f_ ((E7 rfl rfl qb).eq (v':=.int .i64 (k:Nat)) (by congr 1;omega)) ?_;refine f_ ((eR k rfl rfl rfl qb (v:=B (Gg.getD k [])) (by have c:k=0\/k=1\/k=2\/k=3:=qb;rcases c with rfl|rfl|rfl|rfl<;>rfl))) ?_;refine D0 ?_;exact d_ rfl rfl [] qh (fun _ h=>h)
abbrev qY:Bs:=[98,32,79,75,32,91,82,69,65,68,45,87,82,73,84,69,93,32,100,111,110,101,13,10]
abbrev r5:RR:=⟨1,[98],[82,69,65,68,45,87,82,73,84,69],[100,111,110,101],0,[],0,[],[],[]⟩
abbrev Uy(x:RL)(h:l_):Prop:=Gl h/\fQ r5 x h
def xW(b p:Nat)(w:Bs){q:Bool}{p':Nat}(hp:Nat.ble p 24=true)(a:Nat.ble w.length 100=true)(e:mQ qY w ⟨p,true⟩=(q,⟨p',true⟩)):Ct prog 42 [i8 b,B w] (fun _=>True) [qX b qY p true] (fun v A=>v=.bool q/\A=[qX b qY p' true]):=by
 have h:=Kt b qY w p true qp (Z1 hp) (j9 (Z1 a) qp);rw[e] at h;exact h
def vn(b p:Nat)(w:Bs){p':Nat}(hp:Nat.ble p 24=true)(a:Nat.ble w.length 100=true)(e:Gi qY w ⟨p,true⟩=⟨p',true⟩):Ct prog 46 [i8 b,B w] (fun _=>True) [qX b qY p true] (fun v A=>v=.tuple #[]/\A=[qX b qY p' true]):=by
 have h:=Fp b qY w p true qp (Z1 hp) (j9 (Z1 a) qp);rw[e] at h;exact h
def od(b p:Nat)(w:Bs){t:Bs}{p':Nat}(hp:Nat.ble p 24=true)(a:Nat.ble w.length 100=true)(e:oJ qY w ⟨p,true⟩=(t,⟨p',true⟩)):Ct prog 43 [i8 b,B w] (fun _=>True) [qX b qY p true] (fun v A=>v=B t/\A=[qX b qY p' true]):=by
 have h:=KB b qY w p true qp (Z1 hp) (j9 (Z1 a) qp);rw[e] at h;exact h
def CI{s:Bs}(h:ln s=true)(hs:Nat.ble s.length 100=true):Pu prog 44 [B s] (fun _=>True) (.bool true):=by
 have k:=Fq s (j9 (Z1 hs) qp);rw[h] at k;exact k
def RB(b:Nat):Ct prog 49 [i8 b,B [98]] (fun _=>True) [qX b qY 2 true] (fun v A=>v=Ls r5 L0/\A=[qX b qY 22 true]):=by
 refine b_ 79 func49 rfl rfl rfl ?_;intro F _;refine u6 ?_;intro a;refine x6 ?_;refine E8 ?_;intro c;refine A5 ?_;refine y5 [pH c ⟨0,[98],[],[],0,[],0,[],[],[]⟩ L0,pH a R0 L0] rfl (od b 2 [32,13] (t:=[79,75]) (p':=4) rfl rfl i6) (fun w d=>d.perm (jj (l₁:=[_,_]) (l₂:=[_]))) qw rfl ?_;rintro v A ⟨rfl,rfl⟩;refine A5 ?_;refine o8 (ι:=Nat) (fun k=>k<=4) (fun k=>[(0,i8 b),(1,B [98]),(4,i8 a),(5,i8 c),(6,B [79,75]),(7,.int .i64 ((k:Int)+1))]) (fun k=>[qX b qY 4 true,pH c ⟨((min k 1:Nat):Int),[98],[],[],0,[],0,[],[],[]⟩ L0,pH a R0 L0]) (fun k=>4-k) 0 (zp _) sub i_ ?_;intro k l;refine bQ ?_ ?_<;>intro h
 ·have e:k<4:=by have:=zy h;omega
  have j:decide (Gg.getD k []=[79,75])=decide (k=0):=by
   have:k=0\/k=1\/k=2\/k=3:=(by omega);rcases this with rfl|rfl|rfl|rfl<;>rfl
  refine I6 0 ?_;refine x8 [(0,i8 b),(1,B [98]),(4,i8 a),(5,i8 c),(6,B [79,75]),(7,.int .i64 ((k:Int)+1))] [qX b qY 4 true,pH c ⟨1,[98],[],[],0,[],0,[],[],[]⟩ L0,pH a R0 L0] ?_ ?_
  ·refine o0 ?_;refine u6 ?_;refine c_ rfl (tB k e) qw rfl ?_;refine u6 ?_;refine f_ ((C9 rfl rfl).eq (qn j)) ?_;refine O_ ?_ ?_<;>intro i
   ·have f:k=0:=zy i;subst f;refine E8 ?_;exact p_ sub i_
   ·have f:min k 1=1:=(by have:=zu i;omega);rw[f];refine x6 ?_;exact p_ sub i_
  refine u6 ?_;refine f_ ((r8 rfl rfl qb).eq (v':=.int .i64 ((((k+1:Nat):Int))+1)) (by congr 1)) ?_;refine u6 ?_;exact l8 (k+1) qb qb sub (fun w d=>by rw[show min (k+1) 1=1 by omega];exact d)
 have g:k=4:=by have:=zu h;omega
 subst g;refine u6 ?_;refine y5 _ rfl (vn b 4 [32] (p':=5) rfl rfl i6) i_ qw rfl ?_;rintro v A ⟨rfl,rfl⟩;refine u6 ?_;refine y5 _ rfl (xW b 5 [91] (q:=true) (p':=6) rfl rfl i6) i_ qw rfl ?_;rintro v A ⟨rfl,rfl⟩;refine u6 ?_;refine y5 _ rfl (od b 6 [93,13] (t:=[82,69,65,68,45,87,82,73,84,69]) (p':=16) rfl rfl i6) i_ qw rfl ?_;rintro v A ⟨rfl,rfl⟩;refine E8 ?_;refine y5 _ rfl (vn b 16 [93,32] (p':=18) rfl rfl i6) i_ qw rfl ?_;rintro v A ⟨rfl,rfl⟩;refine wk 8 ?_;(first|refine u_ ?_|(refine v_ ?_;refine c_ rfl (CI (s:=[82,69,65,68,45,87,82,73,84,69]) i6 rfl) qw rfl ?_));refine al ?_;refine y5 _ rfl (od b 18 [13] (t:=[100,111,110,101]) (p':=22) rfl rfl i6) i_ qw rfl ?_;rintro v A ⟨rfl,rfl⟩;refine wk 10 ?_;(first|refine u_ ?_|(refine v_ ?_;refine f_ ((E9 rfl rfl).eq (v':=.bool true) rfl) ?_));refine P1 ?_;(first|refine u_ ?_|(refine v_ ?_;refine c_ rfl (CI (s:=[100,111,110,101]) i6 rfl) qw rfl ?_));refine P1 ?_;(first|refine u_ ?_|(refine v_ ?_;refine f_ ((B5 rfl rfl qp).eq (v':=U8 100) rfl) ?_));(first|refine u_ ?_|(refine v_ ?_;refine f_ ((M2 rfl rfl).eq (v':=.bool true) rfl) ?_));refine P1 ?_;(first|refine u_ ?_|(refine v_ ?_;refine f_ ((M2 rfl rfl).eq (v':=.bool true) rfl) ?_));refine wk 10 ?_;refine B4 ?_;exact H7 rfl rfl ud rfl _ qh (fun w d=>d.left (A:=[_]))
def RC:Ct prog 23 [B qY] Gl [] (fun v A=>v=.tuple #[Ls r5 L0,.int .i64 24,.int .i64 0]/\A=[]):=by
 refine b_ 85 func23 rfl rfl rfl ?_;intro F hg;refine u6 ?_;intro e;refine E8 ?_;refine f_ ((db (v:=.agg #[B qY,.int .i64 0,.bool true]) rfl (fun w=>run_build w _ _ _ i6))) ?_;refine u6 ?_;intro a;refine u6 ?_;refine u6 ?_;intro d;refine u6 ?_;refine y5 [pH d R0 L0,pH e R0 L0] rfl (xW a 0 (Gh++Pp) (q:=false) (p':=0) rfl rfl i6) (fun w c=>c.perm (.swap _ _ _)) qw rfl ?_;rintro v A ⟨rfl,rfl⟩;refine A5 ?_;refine y5 _ rfl (xW a 0 (a1G++Pp) (q:=false) (p':=0) rfl rfl i6) i_ qw rfl ?_;rintro v A ⟨rfl,rfl⟩;refine A5 ?_;refine y5 _ rfl (xW a 0 [43,32] (q:=false) (p':=0) rfl rfl i6) i_ qw rfl ?_;rintro v A ⟨rfl,rfl⟩;refine A5 ?_;refine y5 _ rfl (xW a 0 [42,32] (q:=false) (p':=0) rfl rfl i6) i_ qw rfl ?_;rintro v A ⟨rfl,rfl⟩;refine A5 ?_;refine y5 _ rfl (od a 0 [32,13] (t:=[98]) (p':=1) rfl rfl i6) i_ qw rfl ?_;rintro v A ⟨rfl,rfl⟩;refine A5 ?_;refine y5 _ rfl (vn a 1 [32] (p':=2) rfl rfl i6) i_ qw rfl ?_;rintro v A ⟨rfl,rfl⟩;refine x6 ?_;have b:=pj [98] qp;rw[show jF [98]=true from by kernel_rfl] at b;refine wk 7 ?_;(first|refine u_ ?_|(refine v_ ?_;refine c_ rfl b (fun h f g=>trivial) rfl ?_));refine P1 ?_;(first|refine u_ ?_|(refine v_ ?_;refine f_ ((H4 rfl rfl).eq (v':=.bool true) rfl) ?_));refine E8 ?_;(first|refine u_ ?_|(refine v_ ?_;refine c_ rfl (av [98] 43) qw rfl ?_));(first|refine u_ ?_|(refine v_ ?_;refine f_ ((F8 rfl rfl).eq (v':=.bool true) i6) ?_));refine Y1 ?_;refine y5 _ rfl (RB a) i_ qw rfl ?_;rintro v A ⟨rfl,rfl⟩;refine A5 ?_;refine y5 _ rfl (vn a 22 Pp (p':=24) rfl rfl i6) i_ qw rfl ?_;rintro v A ⟨rfl,rfl⟩;refine al ?_;refine D8 [0,4] [5] [qX a qY 24 true,pH d r5 L0] 8 ?_;refine wd [0,1,2,3,4,5,6,7] ?_;refine B4 ?_;exact FK rfl rfl rfl rfl ud rfl _ qh (fun w c=>c.dropAll)
def RD(x:RL):Pu prog 22 [Ls r5 x] (Uy x) (B [98,32,79,75,32,91,82,69,65,68,45,87,82,73,84,69,93,32,100,111,110,101]):=by
 refine b_ 159 func22 rfl rfl rfl ?_;intro F c;refine u6 ?_;intro a;refine E8 ?_;refine U2 ?_;refine f_ ((q_ rfl rfl).eq (v':=.bool true) rfl) ?_;refine u6 ?_;refine D8 [1,4] [5] [pH a r5 x] 9 ?_;refine wd [0,1] ?_;refine w_ 2 rfl ((H_ rfl rfl qp).eq (v':=B [98,32]) rfl) ?_;refine wd [3,4] ?_;refine h_ 5 rfl i6 ?_;refine c_ (v:=B [79,75]) rfl (tB 0 qp) qw rfl ?_;refine V2 ?_;refine w_ 6 rfl ((H_ rfl rfl qp).eq (v':=B [98,32,79,75]) rfl) ?_;refine w_ 7 rfl ((H_ rfl rfl qp).eq (v':=B [98,32,79,75,32]) rfl) ?_;refine wd [8] ?_;refine A5 ?_;refine f_ ((F7 rfl rfl).eq (v':=.bool true) rfl) ?_;refine E8 ?_;refine f_ ((H_ rfl rfl qp).eq (v':=B [91,82,69,65,68,45,87,82,73,84,69]) rfl) ?_;refine f_ ((H_ rfl rfl qp).eq (v':=B [91,82,69,65,68,45,87,82,73,84,69,93,32]) rfl) ?_;refine f_ ((H_ rfl rfl qp).eq (v':=B [98,32,79,75,32,91,82,69,65,68,45,87,82,73,84,69,93,32]) rfl) ?_;refine P1 ?_;refine f_ ((H_ rfl rfl qp).eq (v':=B [98,32,79,75,32,91,82,69,65,68,45,87,82,73,84,69,93,32,100,111,110,101]) rfl) ?_;refine D0 ?_;exact d_ rfl rfl [] qh (fun w b=>b.dropAll)
def Uz(a b:qr)(c d:Nat):Pu prog 51 [.slice a 0 c,.slice b 0 d] (fun _=>True) (.bool true):=by
 refine b_ 26 func51 rfl rfl rfl ?_;intro F _;refine wk 9 ?_;refine o8 (ι:=Unit) (fun _=>True) (fun _=>[(12,.int .i64 0),(13,.int .i64 0)]) (fun _=>[]) (fun _=>0) () trivial sub i_ ?_;intro _ _;refine M4 ?_;exact d_ rfl rfl [] qh (fun _ h=>h)
def UA(a b:qr)(c d:Nat):Pu prog 52 [.slice a 0 c,.slice b 0 d] (fun _=>True) (.bool true):=by
 refine b_ 26 func52 rfl rfl rfl ?_;intro F _;refine wk 9 ?_;refine o8 (ι:=Unit) (fun _=>True) (fun _=>[(12,.int .i64 0),(13,.int .i64 0)]) (fun _=>[]) (fun _=>0) () trivial sub i_ ?_;intro _ _;refine M4 ?_;exact d_ rfl rfl [] qh (fun _ h=>h)
def UB(a b:qr)(c d:Nat)(f:Value):Pu prog 53 [.slice a 0 c,.slice b 0 d,f] (fun _=>True) (.bool true):=by
 refine b_ 32 func53 rfl rfl rfl ?_;intro F _;refine wk 9 ?_;refine o8 (ι:=Unit) (fun _=>True) (fun _=>[(16,.int .i64 0),(17,.int .i64 0)]) (fun _=>[]) (fun _=>0) () trivial sub i_ ?_;intro _ _;refine M4 ?_;exact d_ rfl rfl [] qh (fun _ h=>h)
def RE(x:RL)(hx:x.vs=[]):Pu prog 24 [Ls r5 x,Ls r5 L0] (fun _=>True) (.bool true):=by
 obtain⟨b,c,d,e,f,g,h⟩:=x;simp only at hx;subst hx;refine b_ 75 func24 rfl rfl rfl ?_;intro F _;refine u6 ?_;intro i;refine u6 ?_;intro j;refine Y1 ?_;refine f_ ((q_ rfl rfl).eq (v':=.bool true) rfl) ?_;refine al ?_;(first|refine u_ ?_|(refine v_ ?_;refine f_ ((C9 rfl rfl).eq (v':=.bool true) rfl) ?_));refine Y1 ?_;(first|refine u_ ?_|(refine v_ ?_;refine f_ ((C9 rfl rfl).eq (v':=.bool true) rfl) ?_));refine Y1 ?_;(first|refine u_ ?_|(refine v_ ?_;refine f_ ((C9 rfl rfl).eq (v':=.bool true) rfl) ?_));refine Y1 ?_;(first|refine u_ ?_|(refine v_ ?_;refine f_ ((q_ rfl rfl).eq (v':=.bool true) rfl) ?_));refine Y1 ?_;(first|refine u_ ?_|(refine v_ ?_;refine c_ rfl (UA _ _ _ _) qw rfl ?_));refine Y1 ?_;(first|refine u_ ?_|(refine v_ ?_;refine c_ rfl (Uz _ _ _ _) qw rfl ?_));refine Y1 ?_;(first|refine u_ ?_|(refine v_ ?_;refine f_ ((C9 rfl rfl).eq (v':=.bool true) rfl) ?_));refine wk 7 ?_;(first|refine u_ ?_|(refine v_ ?_;refine c_ rfl (UB _ _ _ _ _) qw rfl ?_));refine Y1 ?_;(first|refine u_ ?_|(refine v_ ?_;refine f_ ((q_ rfl rfl).eq (v':=.bool true) rfl) ?_));refine M4 ?_;exact d_ rfl rfl [] qh (fun w a=>a.dropAll)
def Oh(x:RL)(hx:x.vs=[]):Pu prog 14 [Ls r5 x] (Uy x) (.tuple #[B qY,.int .i64 0]):=by
 refine b_ 40 func14 rfl rfl rfl ?_;intro F b;refine u6 ?_;intro c;refine P1 ?_;refine f_ ((F8 rfl rfl).eq (v':=.bool false) rfl) ?_;refine E8 ?_;(first|refine u_ ?_|(refine v_ ?_;refine f_ ((E9 rfl rfl).eq (v':=.bool false) rfl) ?_));refine A5 ?_;refine c_ rfl (RD x) (fun h a d=>⟨b.1.le a,b.2.le a⟩) rfl ?_;refine f_ ((H_ rfl rfl qp).eq (v':=B qY) rfl) ?_;refine A5 ?_;refine y5 [pH c r5 x] rfl RC i_ (fun h a d=>b.1.le a) rfl ?_;rintro v A ⟨rfl,rfl⟩;refine P1 ?_;refine i7 rfl ?_;intro f;refine P1 ?_;refine f_ ((M2 rfl rfl).eq (v':=.bool false) rfl) ?_;refine P1 ?_;(first|refine u_ ?_|(refine v_ ?_;refine f_ ((M2 rfl rfl).eq (v':=.bool false) rfl) ?_));refine P1 ?_;(first|refine u_ ?_|(refine v_ ?_;refine c_ rfl (RE x hx) qw rfl ?_));refine KI ?_;exact w8 rfl rfl rfl [] qh (fun w e=>e.dropAll)
abbrev xX:List Bs:=[np,lV,Fm]
def r5a:RR:={ep (gv lV).tag with code:=aU 8}
def RF:r5a=r5:=by kernel_rfl
def CJ{i:Nat}(a:i<xX.length):KS.take (2*(i+1))=KS.take (2*i)++[aL xX[i]]++[aC]:=by
 have:i=0\/i=1\/i=2:=by have:xX.length=3:=rfl;omega
 rcases this with rfl|rfl|rfl<;>rfl
def KC:∀a∈KS,rF a:=fun a ha=>by
 have b:RqI dq:=⟨⟨by decide,by decide,by decide,by decide,qy⟩,fun e=>by cases e⟩;simp only[KS,jv,List.not_mem_nil,or_false] at ha;rcases ha with rfl|rfl|rfl|rfl|rfl|rfl<;>exact⟨by decide,b⟩
def xY:Cm prog 9 [] Gl [] (fun h v A=>v=.bool true/\A=[]):=by
 refine A0 89 func9 rfl rfl rfl ?_;rintro F R hg;refine yu ?_;refine B_ xR trivial ?_;rintro v A F0 h6 ⟨m,rfl,rfl,hm,q9⟩;refine i7 rfl ?_;intro g1;refine yu ?_;refine N3 rfl ?_;intro a8;refine yu ?_;refine y6 rfl rfl rfl rfl rfl rfl (xs:=xX.flatMap mZ) rfl rfl ?_;intro a9 x0;refine I6 2 ?_;have h7:∃ad,a9=some ad:=x0;refine C6 (Z:=[.own (.slice a9 3 3) 9 1 (xX.flatMap mZ)]) tk fun F1 X ⟨bs,hb⟩=>?_;have x1:n9 F1.heap a9 (xX.flatMap mZ):=A_.rd hb ud;clear hb;refine V7 (fun(e:List TN) (o:AC) (w:WM) (k:l9)=>F.le k/\eL (Ap m) KS e w/\n9 k.heap o.1 (e.flatMap lT)/\∀t∈e,Fg t k.heap) (fun e o _ _=>[(1,i8 g1),(2,.slice o.1 e.length o.2)]) (fun _ _ _ k=>k) (fun e o w _=>N7 g1 w::R) ?_ ?_
 ·refine o0 ?_;refine bV (ι:=Nat×List TN×AC×WM×l9) (fun i=>i.1<=3/\F1.le i.2.2.2.2/\eL (Ap m) (KS.take (2*i.1)) i.2.1 i.2.2.2.1/\il i.2.2.2.1 i.2.2.2.2.heap/\n9 i.2.2.2.2.heap i.2.2.1.1 (i.2.1.flatMap lT)/\∀t∈i.2.1,Fg t i.2.2.2.2.heap) (fun i=>[(1,i8 g1),(2,.slice i.2.2.1.1 i.2.1.length i.2.2.1.2),(9,.slice a9 3 3),(10,.int .i64 3),(11,r7 i.1)]) (fun i=>i.2.2.2.2)
   (fun i=>match i with|(_,e,o,w,_)=>N7 g1 w::R) (fun i=>3-i.1) (0,[],(a8,0),Ap m,F1) ⟨zp _,l9.le_refl _,.nil,⟨hg.le (h6.trans X).heap,n9.nil _ _,⟨n9.nil _ _,eu.zero _⟩,Mn.le X.heap q9,⟨n9.nil _ _,n9.nil _ _⟩,n9.nil _ _⟩,n9.nil _ _,qy⟩ sub rfl (fun v c=>D3 (A:=[_]) (J:=[_]) tk c) ?_
  rintro⟨j,e,o,w,k⟩ ⟨hj,u,n,h8,d,p⟩;simp only at hj u n h8 d p;have h9:(KS.take (2*j)).length=2*j:=by rw[kr];show min (2*j) 6=_;omega
  have x:=JM n (Pb hm) (fun a h=>KC a (Jb h)) (by rw[h9];omega);rw[h9] at x;have v0:e.length=2*j:=x.2;refine T2 ?_ ?_<;>intro h
  ·have y:j<xX.length:=(by have:=zy h;show j<3;omega);have v1:j<3:=y;obtain⟨s,hs⟩:=o9 (xX[j]);have k0:rF (aL s):=KC _ (Jb (i:=2*(j+1)) (by rw[CJ y,<-hs];simp));have x2:rF aC:=KC _ (by simp[KS]);have x3:=CH w (aL s) du e o.1 o.2 (qR x.1 k0 qb) qb;refine I6 0 ?_;refine V7 (fun(f:List TN) (S:AC) (T:WM) (z:l9)=>F1.le z/\eL (Ap m) (KS.take (2*(j+1))) f T/\il T z.heap/\n9 z.heap S.1 (f.flatMap lT)/\∀t∈f,Fg t z.heap) (fun f S _ _=>[(1,i8 g1),(2,.slice S.1 f.length S.2),(9,.slice a9 3 3),(10,.int .i64 3),(11,r7 j)]) (fun _ _ _ z=>z) (fun _ _ T _=>N7 g1 T::R) ?_ ?_
   ·refine o0 ?_;refine D1 ?_;refine f_ (n5 rfl h7 rfl qb) ?_;refine r_ ((l5 rfl (fun v c=>cT (C:=mZ) ((x1.le u.heap).le c.keep) V6 y (j:=0) rfl x7)).eq (v':=B s) (by rw[hs])) ?_;refine P1 ?_;refine f_ (A2 (ps:=[(0,.const (.int .i64 1)),(1,.tmp 18)]) (vs:=[(0,.int .i64 1),(1,B s)]) (cells:=#[.int .i64 1,B s]) rfl i6) ?_;refine f_ (A2 (ps:=[(1,.tmp 19)]) (vs:=[(1,.agg #[.int .i64 1,B s])]) (cells:=(FA (aL s) du).toArray) rfl i6) ?_;refine B_ x3 ⟨h8,⟨n9.nil _ _,n9.nil _ _⟩,d⟩ ?_;rintro v A z D ⟨w1,t1,o1,rfl,rfl,Y,U,k8,k9⟩;refine al ?_;have q0:=vh x.1 k0 qb U;have x5:=CH w1 aC du (e++[t1]) o1.1 o1.2 (qR q0 x2 qb) (by rw[zg];simp only[z1,kx];omega);refine A5 ?_;refine f_ (A2 (ps:=[(0,.const (.int .i64 1))]) (vs:=[(0,.int .i64 1)]) (cells:=(FA aC du).toArray) rfl i6) ?_;refine B_ x5 ⟨k8,⟨n9.nil _ _,n9.nil _ _⟩,Y⟩ ?_;rintro v A F4 h0 ⟨T,t2,S,rfl,rfl,h1,q1,q3,q5⟩;refine al ?_;exact y7 (e++[t1]++[t2],S,T,F4) ⟨(u.trans D).trans h0,by rw[CJ y,<-hs];exact .snoc (.snoc n U) q1,q3,h1,fun q M=>by
     rcases kw.1 M with M|M
     ·rcases kw.1 M with M|M
      ·exact Mn.le (D.trans h0).heap (p q M)
      ·rw[z7.1 M];exact Mn.le h0.heap k9
     ·rw[z7.1 M];exact q5⟩ rfl (fun v c=>D3 (A:=[_]) (J:=[]) tk c)
   rintro f S T z ⟨D,x9,y0,y1,y2⟩;refine A5 ?_;exact Q_ (i:=(j,e,o,w,k)) (j+1,f,S,T,z) ⟨by simp only;omega,D,x9,y0,y1,y2⟩ qg sub rfl (fun v c=>c)
  ·refine x6 ?_;have y3:j=3:=(by have:=zu h;omega);subst y3;exact y7 (e,o,w,k) ⟨(h6.trans X).trans u,n,d,p⟩ rfl (fun v c=>c)
 rintro e o w k ⟨q6,n,d,p⟩;obtain⟨t1,t2,t3,r,t5,t6,O,p1,p2,p3,p4,p5⟩:=Aw hm n;have u8:e.length=6:=by rw[O];rfl
 have Q:∃ad,o.1=some ad:=p8 (i:=0) d bj qp qb;have q2:=p t2 (by rw[O];simp);have q4:=p r (by rw[O];simp);have n2:t2.y.rl.length=1:=by rw[<-p1,q2.a6I,kg]
 have n4:r.y.rl.length=6:=by rw[<-p2,q4.a6I,kg]
 have q7:=p8 (i:=5) q4.row aB qp qb;have h5:5<r.y.rl.length:=by omega
 have h2:(r.y.rl[5]).1=r5a:=by
  have:=p3;rw[q4.a6I,z8,Q3,zd h5] at this;exact this
 obtain⟨V,h3⟩:=o9 (r.y.rl[5]);rw[<-h3] at h2;have g:n9 k.heap o.1 ([t1,t2,t3,r,t5,t6].flatMap lT):=by rw[<-O];exact d
 have z0:∀{v:World} {H:List As},Hp k v H->M9 (hp v) (N_ o.1 158) [.slice t2.y.da t2.y.rl.length t2.y.dc]:=fun c=>cT (C:=lT) (l:=[t1,t2,t3,r,t5,t6]) (i:=1) (j:=59) (g.le c.keep) bj (by show 1<6;decide) rfl rfl;have q8:∀{v:World} {H:List As},Hp k v H->M9 (hp v) (N_ o.1 356) [.slice r.y.da r.y.rl.length r.y.dc]:=fun c=>cT (C:=lT) (l:=[t1,t2,t3,r,t5,t6]) (i:=3) (j:=59) (g.le c.keep) bj (by show 3<6;decide) rfl rfl;have z2:∀{v:World} {H:List As},Hp k v H->M9 (hp v) (N_ o.1 576) [.bool true]:=fun c=>by
  have:=cT (C:=lT) (l:=[t1,t2,t3,r,t5,t6]) (i:=5) (j:=81) (v:=.bool t6.d.close) (q:=576) (g.le c.keep) bj (by show 5<6;decide) rfl rfl
  rwa [p5] at this
 have h4:=q4.rep _ (zm h5);rw[<-h3] at h4;have u0:V.2.vs=[]:=by
  have:=h4.vals;rw[h2] at this;exact List.map_eq_nil_iff.1 this.symm
 have u1:Pu prog 14 [Ls V.1 V.2] (fun h=>Gl h/\fQ V.1 V.2 h) (.tuple #[B qY,.int .i64 0]):=by rw[h2,RF];exact Oh V.2 u0
 have u2:=hg.le q6.heap;refine A5 ?_;refine f_ ((M2 rfl rfl).eq (v':=.bool false) (jh (fun b=>Value.bool (!b)) (ju (show((e.length:Nat):Int)=6 by omega)))) ?_;refine A5 ?_;(first|refine u_ ?_|(refine v_ ?_;refine f_ (n5 rfl Q rfl qb) ?_));refine A5 ?_;(first|refine u_ ?_|(refine v_ ?_;refine r_ (l5 rfl (fun v c=>z0 c)) ?_));refine u6 ?_;(first|refine u_ ?_|(refine v_ ?_;refine f_ ((M2 rfl rfl).eq (v':=.bool false) (jh (fun b=>Value.bool (!b)) (ju (show((t2.y.rl.length:Nat):Int)=1 by omega)))) ?_));refine E8 ?_;(first|refine u_ ?_|(refine v_ ?_;refine f_ (n5 rfl Q rfl qb) ?_));refine A5 ?_;(first|refine u_ ?_|(refine v_ ?_;refine r_ (l5 rfl (fun v c=>q8 c)) ?_));refine u6 ?_;(first|refine u_ ?_|(refine v_ ?_;refine f_ ((M2 rfl rfl).eq (v':=.bool false) (jh (fun b=>Value.bool (!b)) (ju (show((r.y.rl.length:Nat):Int)=6 by omega)))) ?_));refine al ?_;(first|refine u_ ?_|(refine v_ ?_;refine f_ ((M2 rfl rfl).eq (v':=.bool false) (jh (fun b=>Value.bool (!b)) (ju (show((w.s.a6z:Nat):Int)=3 by omega)))) ?_));refine E8 ?_;(first|refine u_ ?_|(refine v_ ?_;refine f_ (n5 rfl Q rfl qb) ?_));refine A5 ?_;(first|refine u_ ?_|(refine v_ ?_;refine r_ (l5 rfl (fun v c=>z2 c)) ?_));refine E8 ?_;refine f_ (n5 rfl Q rfl qb) ?_;refine A5 ?_;refine r_ (l5 rfl (fun v c=>q8 c)) ?_;refine f_ (n5 rfl q7 rfl qb) ?_;refine r_ ((p9 rfl (fun v c=>bK (C:=wm) (i:=5) (q4.row.le c.keep) aB qp h5 x7) (aB _)).eq (v':=Ls V.1 V.2) (by rw[h3])) ?_;refine c_ rfl u1 (fun h hh _=>⟨u2.le hh,h4.le hh⟩) rfl ?_;refine Y1 ?_;refine f_ ((q_ rfl rfl).eq (v':=.bool true) rfl) ?_;refine A5 ?_;(first|refine u_ ?_|(refine v_ ?_;refine f_ ((C9 rfl rfl).eq (v':=.bool true) (qn (ju rfl))) ?_));refine A5 ?_;(first|refine u_ ?_|(refine v_ ?_;refine e_ IR qw ?_;rintro v A ⟨ag,rfl,rfl⟩));refine u6 ?_;(first|refine u_ ?_|(refine v_ ?_;refine f_ ((q_ rfl rfl).eq (v':=.bool true) rfl) ?_));refine M4 ?_;refine I4 (A:=[]) (v:=.bool true) q6 qh ?_;exact d_ rfl rfl _ qh (fun v c=>D3 (A:=[]) (J:=[_,_]) tk c)
