import Derived.Test.YtmcepdopookilaaGreatDoorFx15
set_option maxHeartbeats 16000000
set_option maxRecDepth 8000
set_option linter.unusedVariables false
set_option linter.unusedSimpArgs false
set_option linter.defProp false
namespace Go.Sl
theorem eu.eb{P:Program}{o:Oper}{L:F_}{F:l6}{H:List As}{b q:Bool}(h:eu P o L F H (.bool b))(e:q=b):eu P o L F H (.bool q):=h.eq (congrArg Value.bool e.symm)
end Go.Sl
namespace Go.Proofs.YtmcepdopookilaaGreatDoor.Rp
open Go Go.Sl Go.RowKit Go.Proofs.Tryz
theorem DM(i:IT):Pu prog 223 [.agg (cO i).toArray] (fun _=>True) (.bool (decide (10<=i.kind)&&!i.peek)):=by
 obtain⟨q,a⟩:=o7 (decide (10<=i.kind));rw[<-a];refine b_ 11 func223 rfl rfl rfl ?_;intro F _;refine C6 ?_;refine m9 rfl rfl ?_;intro c;refine p9 ?_
 cases q
 all_goals (
  refine z_ ?_;refine f_ ((I3 rfl rfl).eq (qn ((qz).trans a.symm))) ?_;refine cH ?_)
 all_goals (refine A3 ?_;exact d_ rfl rfl [] qh (fun w b=>b.dropAll))
section
variable(b:Nat)(s:SE)(x:SL)(d:DD)(y:DL)(c:CM)(k:CL)(hv:s.a4R.a4Q.length<=100000)(hvu:∀r∈s.a4R.a4Q,r.1<18446744073709551616)(hc:tq c)(hn:s.num<18446744073709551615)(hl:y.rl.length<=100000)
include hv hvu hc hn hl
theorem DN:DJ 150 b s x d y c k (DK s d c):=by
 have h9:=hc.set;have k0:=hc.a4U;obtain⟨e,he⟩:∃e,X1 s.a4R c.set c.uid=e:=⟨_,rfl⟩;obtain⟨j,m,n,f,t,g,o,p,q⟩:=s;refine x7 47 func150 rfl rfl rfl ?_;rintro F R ⟨Y,X⟩;refine C6 ?_;refine m9 rfl rfl ?_;intro g3;refine z_ ?_;refine c_ (lr b ⟨j,m,n,f,t,g,o,p,q⟩ x d y c k e he hv qb qb) ?pre ?_;(case pre=>exact fun h hh ⟨bs,O⟩=>⟨A1.rd O ud,X.set.le hh⟩);rintro v A ⟨Q,U,D,rfl,hy,rfl⟩;refine aF ?_
 cases e with
 |none=>
  obtain⟨a1,c1,rfl⟩:∃a c1,D=E_ y (gV c.tag,L0) a c1:=hy;refine L6 ?_;refine G9 (A:=l5 x.ra f.a4Q x.rc::O4 b ⟨j,m,n,f,t,g,o,p,q⟩ x d (E_ y (gV c.tag,L0) a1 c1)) (v:=.tuple #[]) (l6.le_refl _) (nr (.inr rfl) Y) ?_;exact l_ rfl _ qh (fun w M=>C1 (A:=[_,_,_]) (J:=[_,_]) tk M)
 |some l=>
  obtain rfl:D=y:=hy;obtain⟨h2,h3⟩:=eP he;have k8:f.a4Q.length<=100000:=hv;have h8:l.length<=f.a4Q.length:=h3;have hu:fP l:=fun u hu=>by obtain⟨r,hr,rfl⟩:=h2 u hu;exact hvu r hr
  refine z_ ?_;refine B8 (Z:=[U1 Q l U,.blk g3 (.cells (kK c k).toArray 36)]) tk fun F1 S O=>?_;have V:n9 F1.heap Q (nV l):=by obtain⟨bs,O⟩:=O;exact A1.rd O ud
  have p3:F1.heap g3=some (.cells (kK c k).toArray 36 (0,0)):=I9 O;clear O;replace Y:=Mn.le S.heap Y;replace X:=Mn.le S.heap X;obtain⟨sn,h4⟩:=o7 (c.a4U.any (fun i=>decide (10<=i.kind)&&!i.peek));refine p9 ?_;refine r_ (i8 rfl (fun w M=>H9 M p3 rfl)) ?_;refine e_ rfl (U_ cO aj c.a4U k.ia k.ic 223 [] (fun _=>True) (fun i=>decide (10<=i.kind)&&!i.peek) (fun i _=>DM i) qb) (fun h hh _=>⟨X.a4U.le hh,trivial⟩) rfl ?_;rw[<-h4];refine p9 ?_;refine y6 [(0,m6 b),(3,m6 g3),(4,.slice Q l.length U),(31,.bool (t||(c.a4V||!sn)))] (E8 b ⟨j,m,n,f,t,g,o,p,q⟩ x d D::r7 D.da D.rl D.dc::l5 x.ra f.a4Q x.rc::R) ?_ ?_
  ·obtain⟨hs,h0⟩:=o7 (c.a4V);rw[<-h0]
   cases t<;>cases hs
   all_goals (
    refine wk 7 ?_;(first|(refine T3 rfl rfl rfl rfl rfl rfl rfl ?_)|(refine v_ ?_;refine r_ ((i8 rfl (fun w M=>H9 M p3 rfl)).eb h0) ?_));refine aF ?_)
   all_goals exact u6 sub (fun w M=>(tk (C:=[_,_,_])).hp M)
  refine O1 ?_ ?_<;>intro h
  ·refine p9 ?_;refine r_ (db rfl p3 ga) ?_;refine f_ (y7 (ps:=[(0,.const (.int .i64 3))]) (vs:=[(0,.int .i64 3)]) (cells:=(cQ aX cP).toArray) rfl i6) ?_;refine p9 ?_;refine c_ (dx b ⟨j,m,n,f,t,g,o,p,q⟩ x d D c k aX cP l Q U hn) qw ?_;rintro v A ⟨rfl,rfl⟩;refine oe ?_;refine G9 (A:=l5 x.ra f.a4Q x.rc::O4 b (G_ (⟨j,m,n,f,t,g,o,p,q⟩,d) c aX l).1 {x with cl:=k,ua:=Q,uc:=U} (G_ (⟨j,m,n,f,t,g,o,p,q⟩,d) c aX l).2 {D with ql:=cP}) (v:=.tuple #[]) S (ns he (.look _ _) ⟨n9.nil _ _,n9.nil _ _⟩ V Y X) ?_;exact l_ rfl _ qh (fun w M=>C1 (A:=[_,_,_]) (J:=[]) tk M)
  refine p9 ?_;refine c_ (jP b ⟨j,m,n,f,t,g,o,p,q⟩ x d D 7) qw ?_;rintro v A ⟨rfl,rfl⟩;refine i7 rfl ?_;intro g7;refine xp ?_;refine C4 (C:=fun w:Bs=>[B w]) wv rfl ?_;intro a39 _;refine O2 ?_;refine B8 (Z:=[.own (.slice a39 1 1) 9 1 [B wv]]) tk fun F2 z ⟨bs,O⟩=>?_;have h1:n9 F2.heap a39 (fV [wv]):=A1.rd O ud;have h5:=z.heap _ _ p3;refine p9 ?_;refine r_ (db rfl h5 ga) ?_;refine z_ ?_;refine A8 (iG b ⟨j,m,n,f,t,g,o,p,q⟩ x d D c k {ai (⟨j,m,n,f,t,g,o,p,q⟩,d) 7 with a5c:=[wv],how:=1} ⟨none,0,a39,1⟩ l Q U hv qb hu hn) ⟨⟨n9.nil _ _,h1⟩,V.le z.heap⟩ ?_;rintro v A F3 T ⟨rfl,r',z',h6,h7,rfl⟩;refine u7 ?_;refine G9 (A:=l5 x.ra f.a4Q x.rc::O4 b (G_ (⟨j,m,n,f,t,g,o,p,q⟩,d) c r' l).1 {x with cl:=k,ua:=Q,uc:=U} (G_ (⟨j,m,n,f,t,g,o,p,q⟩,d) c r' l).2 {D with ql:=z'}) (v:=.tuple #[]) ((S.trans z).trans T) (ns he (rb.chg ⟨.inr (.inl rfl),.inr rfl,by simp[ai],.inr (.inr rfl),.inl rfl⟩ h6) h7 (V.le (z.trans T).heap) (Mn.le (z.trans T).heap Y) (Mn.le (z.trans T).heap X)) ?_;exact l_ rfl _ qh (fun w M=>C1 (A:=[_,_,_]) (J:=[_]) tk M)
theorem DO:DJ 151 b s x d y c k (DK s d c):=by
 have h5:=hc.set;have h6:=hc.a5c;obtain⟨e,U⟩:∃e,X1 s.a4R c.set c.uid=e:=⟨_,rfl⟩;refine x7 38 func151 rfl rfl rfl ?_;rintro F R ⟨q,t⟩;refine C6 ?_;refine m9 rfl rfl ?_;intro S;refine u7 ?_;refine n7 (ι:=DL) (fun f=>s.ro=true/\(∃a j,f=E_ y (EK c.tag,L0) a j)\/s.ro=false/\f=y) (fun _=>[(0,m6 b),(3,m6 S),(9,.bool s.ro)]) (fun f=>E8 b s x d f::r7 f.da f.rl f.dc::.blk S (.cells (kK c k).toArray 36)::l5 x.ra s.a4R.a4Q x.rc::R) ?_ ?_
 ·refine z_ ?_;refine c_ (rO b s x d y c k qb) qw ?_;rintro v A ⟨rfl,hA⟩;refine u7 ?_;rcases hA with⟨z,a,j,rfl⟩|⟨z,rfl⟩
  ·exact g_ (E_ y (EK c.tag,L0) a j) (.inl ⟨z,a,j,rfl⟩) i_
  ·exact g_ y (.inr ⟨z,rfl⟩) i_
 rintro f C;refine O1 ?_ ?_<;>intro h
 ·obtain⟨a,j,rfl⟩:∃a j,f=E_ y (EK c.tag,L0) a j:=by rcases C with⟨_,m⟩|⟨m,_⟩;exact m;(rw[h] at m;cases m)
  refine oe ?_;refine G9 (A:=l5 x.ra s.a4R.a4Q x.rc::O4 b s x d (E_ y (EK c.tag,L0) a j)) (v:=.tuple #[]) (l6.le_refl _) (nr (.inl rfl) q) ?_;exact l_ rfl _ qh (fun w g=>C1 (A:=[_,_,_]) (J:=[_]) tk g)
 obtain rfl:f=y:=by rcases C with⟨m,_⟩|⟨_,m⟩;(rw[h] at m;cases m);exact m
 refine z_ ?_;refine c_ (lr b s x d f c k e U hv qb qb) ?pre ?_;(case pre=>exact fun h V ⟨bs,n⟩=>⟨A1.rd n ud,t.set.le V⟩);rintro v A ⟨D,T,M,rfl,hy,rfl⟩;refine aF ?_
 cases e with
 |none=>
  obtain⟨a1,j,rfl⟩:∃a j,M=E_ f (gV c.tag,L0) a j:=hy;refine L6 ?_;refine G9 (A:=l5 x.ra s.a4R.a4Q x.rc::O4 b s x d (E_ f (gV c.tag,L0) a1 j)) (v:=.tuple #[]) (l6.le_refl _) (nr (.inr rfl) q) ?_;exact l_ rfl _ qh (fun w g=>C1 (A:=[_,_,_]) (J:=[_,_]) tk g)
 |some l=>
  obtain rfl:M=f:=hy;obtain⟨X,h7⟩:=eP U;have hu:fP l:=fun u hu=>by obtain⟨r,z,rfl⟩:=X u hu;exact hvu r z
  refine z_ ?_;refine B8 (Z:=[U1 D l T,.blk S (.cells (kK c k).toArray 36)]) tk fun F1 p n=>?_;have O:n9 F1.heap D (nV l):=by obtain⟨bs,n⟩:=n;exact A1.rd n ud
  have Q:F1.heap S=some (.cells (kK c k).toArray 36 (0,0)):=I9 n;clear n;replace q:=Mn.le p.heap q;replace t:=Mn.le p.heap t;refine p9 ?_;refine c_ (jP b s x d M 7) qw ?_;rintro v A ⟨rfl,rfl⟩;refine i7 rfl ?_;intro g6;refine p9 ?_;refine D7 [1,4,6,8] [2,10,12,14,16] [] 17 ?_;refine wd [0] ?_;refine M3 1 rfl (i8 rfl (fun w g=>H9 g Q rfl)) I4 rfl rfl rfl i6 ?_;refine wd [3] ?_;refine M3 4 rfl (i8 rfl (fun w g=>H9 g Q rfl)) I4 rfl rfl rfl i6 ?_;refine wd [5] ?_;refine M3 6 rfl (i8 rfl (fun w g=>H9 g Q rfl)) I4 rfl rfl rfl i6 ?_;refine wd [7] ?_;refine M3 8 rfl (i8 rfl (fun w g=>H9 g Q rfl)) I4 rfl rfl rfl i6 ?_;refine h_ 2 rfl i6 ?_;refine c_ (X_ c.a5c k.fa k.fc qb) (fun h V _=>t.a5c.le V) ?_;rintro v A ⟨Y,fc,rfl,rfl⟩;refine gk [9,10,11,12,13,14,15,16] ?_;refine B8 (Z:=[A4 Y c.a5c fc]) tk fun F2 i ⟨bs,n⟩=>?_;have h0:n9 F2.heap Y (fV c.a5c):=A1.rd n ud;have h2:=i.heap _ _ Q;refine p9 ?_;refine r_ (db rfl h2 ga) ?_;refine z_ ?_;refine A8 (iG b s x d M c k {ai (s,d) 7 with a5c:=c.a5c,how:=c.how,hasS:=c.a4V,a4W:=c.a4W} ⟨none,0,Y,fc⟩ l D T hv qb hu hn) ⟨⟨n9.nil _ _,h0⟩,O.le i.heap⟩ ?_;rintro v A F3 o ⟨rfl,r',z',h3,h4,rfl⟩;refine u7 ?_;refine G9 (A:=l5 x.ra s.a4R.a4Q x.rc::O4 b (G_ (s,d) c r' l).1 {x with cl:=k,ua:=D,uc:=T} (G_ (s,d) c r' l).2 {M with ql:=z'}) (v:=.tuple #[]) ((p.trans i).trans o) (ns U (rb.chg ⟨.inr (.inl rfl),.inr rfl,by simp[ai],.inr (.inl rfl),.inl rfl⟩ h3) h4 (O.le (i.trans o).heap) (Mn.le (i.trans o).heap q) (Mn.le (i.trans o).heap t)) ?_;exact l_ rfl _ qh (fun w g=>C1 (A:=[_,_,_]) (J:=[_]) tk g)
end
end Go.Proofs.YtmcepdopookilaaGreatDoor.Rp
namespace Go.Proofs.YtmcepdopookilaaGreatDoor.Dg
open Go Go.Sl Go.Proofs.Tryz
abbrev W:=BitVec 32
abbrev bn(p:W):Value:=.int .u32 (p.toNat:Nat)
def gP(x:W)(c:Nat):W:=x>>>c|||x<<<(32-c)
def s0(x:W):W:=gP x 7^^^gP x 18^^^x>>>3
def s1(x:W):W:=gP x 17^^^gP x 19^^^x>>>10
def S0(x:W):W:=gP x 2^^^gP x 13^^^gP x 22
def S1(x:W):W:=gP x 6^^^gP x 11^^^gP x 25
def wb(l:List UInt8)(i:Nat):W:=BitVec.ofNat 32 (l.getD i 0).toNat
def Pb(l:List UInt8)(t:Nat):W:=wb l (4*t)<<<24|||wb l (4*t+1)<<<16|||wb l (4*t+2)<<<8|||wb l (4*t+3)
def Q_(l:List UInt8):Nat->List W
 |0=>[]
 |n+1=>Q_ l n++[if n<16 then Pb l n else s1 ((Q_ l n).getD (n-2) 0)+(Q_ l n).getD (n-7) 0+s0 ((Q_ l n).getD (n-15) 0)+(Q_ l n).getD (n-16) 0]
theorem U3(l:List UInt8):∀n,(Q_ l n).length=n
 |0=>rfl
 |n+1=>by simp[Q_,U3 l n]
def NH:List W:=[
 0x428a2f98#32,0x71374491#32,0xb5c0fbcf#32,0xe9b5dba5#32,0x3956c25b#32,0x59f111f1#32,0x923f82a4#32,0xab1c5ed5#32,
 0xd807aa98#32,0x12835b01#32,0x243185be#32,0x550c7dc3#32,0x72be5d74#32,0x80deb1fe#32,0x9bdc06a7#32,0xc19bf174#32,
 0xe49b69c1#32,0xefbe4786#32,0x0fc19dc6#32,0x240ca1cc#32,0x2de92c6f#32,0x4a7484aa#32,0x5cb0a9dc#32,0x76f988da#32,
 0x983e5152#32,0xa831c66d#32,0xb00327c8#32,0xbf597fc7#32,0xc6e00bf3#32,0xd5a79147#32,0x06ca6351#32,0x14292967#32,
 0x27b70a85#32,0x2e1b2138#32,0x4d2c6dfc#32,0x53380d13#32,0x650a7354#32,0x766a0abb#32,0x81c2c92e#32,0x92722c85#32,
 0xa2bfe8a1#32,0xa81a664b#32,0xc24b8b70#32,0xc76c51a3#32,0xd192e819#32,0xd6990624#32,0xf40e3585#32,0x106aa070#32,
 0x19a4c116#32,0x1e376c08#32,0x2748774c#32,0x34b0bcb5#32,0x391c0cb3#32,0x4ed8aa4a#32,0x5b9cca4f#32,0x682e6ff3#32,
 0x748f82ee#32,0x78a5636f#32,0x84c87814#32,0x8cc70208#32,0x90befffa#32,0xa4506ceb#32,0xbef9a3f7#32,0xc67178f2#32]
def kk(t:Nat):W:=NH.getD t 0
def t1(S:Nat->W)(k w:W):W:=S 7+S1 (S 4)+(S 4&&&S 5^^^ ~~~S 4&&&S 6)+k+w
def t2(S:Nat->W):W:=S0 (S 0)+(S 0&&&S 1^^^S 0&&&S 2^^^S 1&&&S 2)
def rnd(k w:W)(S:Nat->W):Nat->W
 |0=>t1 S k w+t2 S
 |1=>S 0
 |2=>S 1
 |3=>S 2
 |4=>S 3+t1 S k w
 |5=>S 4
 |6=>S 5
 |_=>S 6
def iH(l:List UInt8)(S:Nat->W):Nat->(Nat->W)
 |0=>S
 |n+1=>rnd (kk n) ((Q_ l 64).getD n 0) (iH l S n)
def blk(S:Nat->W)(l:List UInt8):Nat->W:=fun i=>S i+iH l S 64 i
def Mg:Nat->W
 |0=>0x6a09e667#32
 |1=>0xbb67ae85#32
 |2=>0x3c6ef372#32
 |3=>0xa54ff53a#32
 |4=>0x510e527f#32
 |5=>0x9b05688c#32
 |6=>0x1f83d9ab#32
 |_=>0x5be0cd19#32
def EN(S:Nat->W):List Value:=[bn (S 0),bn (S 1),bn (S 2),bn (S 3),bn (S 4),bn (S 5),bn (S 6),bn (S 7)]
def Mh(m:List UInt8):Nat->(Nat->W)
 |0=>Mg
 |n+1=>blk (Mh m n) ((m.drop (64*n)).take 64)
def st(m:List UInt8):Nat->W:=Mh m (m.length/64)
def rest(m:List UInt8):List UInt8:=m.drop (64*(m.length/64))
def be8(n:Nat):List UInt8:=(List.range 8).map fun i=>UInt8.ofNat (n/2^(56-8*i))
def tail(n:Nat):List UInt8:=[128]++List.replicate ((119-n%64)%64) 0++be8 (n*8%2^64)
def yF(x:W):List UInt8:=[UInt8.ofNat (x.toNat/2^24),UInt8.ofNat (x.toNat/2^16),UInt8.ofNat (x.toNat/2^8),UInt8.ofNat x.toNat]
def ck(S:Nat->W):List UInt8:=(List.range 8).flatMap fun i=>yF (S i)
def sha(m:List UInt8):List UInt8:=ck (st (m++tail m.length))
theorem pK(m s:List UInt8):∀n,64*n<=m.length->Mh (m++s) n=Mh m n
 |0,_=>rfl
 |n+1,h=>by
  simp only[Mh];rw[pK m s n qb,Ks qb,Z1 (by rw[z8];omega)]
section
variable{P:Program}{L:F_}{ty:TypeId}{pos:String}{af:Array Edge}{dst:Option Nat}{gd:Option (Nat×Bool)}{x y:Operand}{t t':TypeId}{p q:W}
theorem sm(p q:W):bits .xor .u32 (p.toNat:Nat) (q.toNat:Nat)=((p^^^q).toNat:Nat):=by rw[u32_xor_nat _ _ p.isLt q.isLt,BitVec.toNat_xor]
theorem DP(p q:W):bits .and .u32 (p.toNat:Nat) (q.toNat:Nat)=((p&&&q).toNat:Nat):=by rw[u32_and_nat _ _ p.isLt q.isLt,BitVec.toNat_and]
theorem HD(p q:W):bits .or .u32 (p.toNat:Nat) (q.toNat:Nat)=((p|||q).toNat:Nat):=by rw[u32_or_nat _ _ p.isLt q.isLt,BitVec.toNat_or]
theorem iJ(hx:ev L x=some (bn p))(a:ev L y=some (bn q)):E3 P ⟨dst,.binOp .xor t x y t',ty,pos,af,gd⟩ L (bn (p^^^q)):=by
 have:=kL (P:=P) (dst:=dst) (gd:=gd) (ty:=ty) (pos:=pos) (af:=af) (t:=t) (t':=t') (op:=.xor) (.inr (.inr (.inl rfl))) hx a
 rwa [sm] at this
theorem pL(hx:ev L x=some (bn p))(a:ev L y=some (bn q)):E3 P ⟨dst,.binOp .and t x y t',ty,pos,af,gd⟩ L (bn (p&&&q)):=by
 have:=kL (P:=P) (dst:=dst) (gd:=gd) (ty:=ty) (pos:=pos) (af:=af) (t:=t) (t':=t') (op:=.and) (.inl rfl) hx a
 rwa [DP] at this
theorem Bj(hx:ev L x=some (bn p))(a:ev L y=some (bn q)):E3 P ⟨dst,.binOp .or t x y t',ty,pos,af,gd⟩ L (bn (p|||q)):=by
 have:=kL (P:=P) (dst:=dst) (gd:=gd) (ty:=ty) (pos:=pos) (af:=af) (t:=t) (t':=t') (op:=.or) (.inr (.inl rfl)) hx a
 rwa [HD] at this
theorem cn(hx:ev L x=some (bn p))(a:ev L y=some (bn q)):E3 P ⟨dst,.binOp .add t x y t',ty,pos,af,gd⟩ L (bn (p+q)):=
 iP hx a (by rw[IntKind.wrap_u32,BitVec.toNat_add];omega)
theorem Pc(hx:ev L x=some (bn p)):E3 P ⟨dst,.unOp .xor t x,ty,pos,af,gd⟩ L (bn (~~~p)):=by
 have:=Nm (P:=P) (dst:=dst) (gd:=gd) (ty:=ty) (pos:=pos) (af:=af) (t:=t) hx;have e:bits .xor .u32 (if IntKind.u32.signed then-1 else IntKind.u32.max) (p.toNat:Nat)=((~~~p).toNat:Nat):=by
  have a:(if IntKind.u32.signed then(-1:Int) else IntKind.u32.max)=(((BitVec.allOnes 32:W).toNat:Nat):Int):=by decide
  rw[a,sm,BitVec.allOnes_xor]
 rwa [e] at this
theorem uf{k:IntKind}{n:Int}(c:Nat)(hx:ev L x=some (bn p))(a:ev L y=some (.int k n))(b:n=(c:Nat))(hc:c<=32):E3 P ⟨dst,.binOp .shl t x y t',ty,pos,af,gd⟩ L (bn (p<<<c)):=by
 have:=zO (P:=P) (dst:=dst) (gd:=gd) (ty:=ty) (pos:=pos) (af:=af) (t:=t) (t':=t') hx a qb;have e:IntKind.u32.wrap ((p.toNat:Nat)*2^(min n.toNat IntKind.u32.bits))=((p<<<c).toNat:Nat):=by
  have d:min n.toNat IntKind.u32.bits=c:=by subst b;simp[IntKind.bits];omega
  rw[d,IntKind.wrap_u32,BitVec.toNat_shiftLeft,Nat.shiftLeft_eq];rw[Int.natCast_emod,Int.natCast_mul,W8];rfl
 rwa [e] at this
theorem yG{k:IntKind}{n:Int}(c:Nat)(hx:ev L x=some (bn p))(a:ev L y=some (.int k n))(b:n=(c:Nat))(hc:c<=32):E3 P ⟨dst,.binOp .shr t x y t',ty,pos,af,gd⟩ L (bn (p>>>c)):=by
 have:=Nl (P:=P) (dst:=dst) (gd:=gd) (ty:=ty) (pos:=pos) (af:=af) (t:=t) (t':=t') hx a qb;have e:((p.toNat:Nat):Int).fdiv (2^(min n.toNat IntKind.u32.bits))=((p>>>c).toNat:Nat):=by
  have d:min n.toNat IntKind.u32.bits=c:=by subst b;simp[IntKind.bits];omega
  rw[d,BitVec.toNat_ushiftRight,Nat.shiftRight_eq_div_pow,K6 _ (by exact Int.pow_nonneg qp)];rw[Int.natCast_ediv,W8];rfl
 rwa [e] at this
theorem nt{a:TypeDesc}[hs:HU P t a][ht:HU P t' (.int .u32)](b:UInt8)(hx:ev L x=some (.int .u8 (b.toNat:Nat))):E3 P ⟨dst,.convert t t' x,ty,pos,af,gd⟩ L (bn (BitVec.ofNat 32 b.toNat)):=
 cD hx (by rw[IntKind.wrap_u32,BitVec.toNat_ofNat];omega)
end
theorem HE(p q:W):p|||q=q|||p:=BitVec.or_comm p q
open Go Go.Sl Go.Proofs.Tryz
theorem Mi(c:Nat)(hc:0<c/\c<32):Value.int .u64 (bits .and .u64 (IntKind.u64.wrap (-(c:Int))) 31)=.int .u64 ((32-c:Nat):Int):=by
 have a:IntKind.u64.wrap (-(c:Int))=((18446744073709551616-c:Nat):Int):=by rw[IntKind.wrap_u64];omega
 rw[a,show(31:Int)=((31:Nat):Int) from rfl,u64_and_nat _ _ qb qb,nat_mask5];congr 2;omega
theorem lu(x:W)(c:Nat)(hc:0<c/\c<32):Pu prog 367 [bn x,.int .i64 (-(c:Int))] (fun _=>True) (bn (gP x c)):=by
 refine b_ 17 func367 rfl rfl rfl ?_;intro F _;refine z_ ?_;refine f_ (ew rfl) ?_;refine f_ ((kL (.inl rfl) rfl rfl).eq (Mi c hc)) ?_;refine E6 ?_;refine f_ (uf (32-c) rfl rfl rfl qb) ?_;refine E6 ?_;refine f_ (yG c rfl rfl qb qb) ?_;refine f_ (Bj rfl rfl) ?_;refine C8 ?_;exact d_ rfl rfl [] ⟨by rw[HE];rfl,rfl⟩ (fun _ h=>h)
theorem md(x:W)(a b c:Nat)(d e f:Int)(g:d=a)(i:e=b)(j:f=c)(ha:0<a/\a<32)(k:0<b/\b<32)(hc:0<c/\c<32):
  Pu prog 313 [bn x,.int .i64 d,.int .i64 e,.int .i64 f,.bool false] (fun _=>True) (bn (gP x a^^^gP x b^^^gP x c)):=by
 subst g i j;refine b_ 31 func313 rfl rfl rfl ?_;intro F _;refine O2 ?_;refine e_ rfl (lu x c hc) qw rfl ?_;refine aF ?_;refine e_ rfl (lu x a ha) qw rfl ?_;refine E6 ?_;refine e_ rfl (lu x b k) qw rfl ?_;refine f_ (iJ rfl rfl) ?_;refine p9 ?_;refine f_ (iJ rfl rfl) ?_;refine C8 ?_;exact d_ rfl rfl [] qh (fun _ h=>h)
theorem jY(x:W)(a b c:Nat)(d e f:Int)(g:d=a)(i:e=b)(j:f=c)(ha:0<a/\a<32)(k:0<b/\b<32)(hc:0<c/\c<32):
  Pu prog 313 [bn x,.int .i64 d,.int .i64 e,.int .i64 f,.bool true] (fun _=>True) (bn (gP x a^^^gP x b^^^x>>>c)):=by
 subst g i j;refine b_ 31 func313 rfl rfl rfl ?_;intro F _;refine O2 ?_;refine e_ rfl (lu x c hc) qw rfl ?_;refine O2 ?_;refine f_ (yG c rfl rfl rfl qb) ?_;refine O2 ?_;refine e_ rfl (lu x a ha) qw rfl ?_;refine E6 ?_;refine e_ rfl (lu x b k) qw rfl ?_;refine f_ (iJ rfl rfl) ?_;refine p9 ?_;refine f_ (iJ rfl rfl) ?_;refine C8 ?_;exact d_ rfl rfl [] qh (fun _ h=>h)
theorem Mj:Pu prog 314 [] (fun _=>True) (.agg (NH.map bn).toArray):=by
 refine b_ 2 func314 rfl rfl rfl ?_;intro F _;refine p9 ?_;intro c;refine C6 ?_;refine f_ (cB rfl (v:=.agg (NH.map bn).toArray) (fun w=>by kernel_rfl)) ?_;refine T7 rfl rfl uh (by rfl) (fun q a=>by simp only[Value.cells,Jk,jw] at a;obtain⟨p,_,rfl⟩:=a;rfl) (by rfl) ?_;refine oe ?_;exact zQ rfl rfl (fun w b=>X6 (n:=64) b ud) i6 [] ⟨by kernel_rfl,rfl⟩ (fun _ h=>h.drop)
def hc(S:Nat->W)(r:List UInt8)(n:Int):Array Value:=(EN S++[B r,.int .i64 n]).toArray
def co(b:Nat)(S:Nat->W)(r:List UInt8)(n:Int):As:=.blk b (.cells (hc S r n) 280)
theorem Pd:Ct prog 168 [] (fun _=>True) [] (fun v A=>∃b,v=.pointer (some ⟨b,0,none⟩)/\A=[co b Mg [] 0]):=by
 refine b_ 4 func168 rfl rfl rfl ?_;intro F _;refine xp ?_;refine f_ (cB rfl (v:=.agg (EN Mg).toArray) (fun w=>by kernel_rfl)) ?_;refine f_ (cB rfl (v:=.agg (hc Mg [] 0)) (fun w=>by kernel_rfl)) ?_;refine p9 ?_;intro a;refine C8 ?_;exact d_ rfl rfl _ ⟨a,rfl,rfl⟩ (fun _ h=>h)
def cp(l:List UInt8)(n:Nat):Array Value:=((Q_ l n).map bn++List.replicate (64-n) (bn 0#32)).toArray
theorem me(l:List UInt8)(n:Nat)(h:n<=64):(cp l n).size=64:=by simp[cp,U3];omega
theorem HG(l:List UInt8){n o i:Nat}(h:o=i)(b:i<n):(cp l n)[o]? =some (bn ((Q_ l n).getD i 0)):=by
 subst h;have a:=U3 l n;simp only[cp,Kw];rw[jv (by simp[a];omega)];simp[a,b]
theorem Sq(l:List UInt8){n o:Nat}{v:Value}(h:o=n)(c:n<64)(hv:v=bn ((Q_ l (n+1)).getD n 0)):ey (cp l n) o [v]=cp l (n+1):=by
 subst h hv;have a:=U3 l o;have b:List.replicate (64-o) (bn 0#32)=bn 0#32::List.replicate (64-(o+1)) (bn 0#32):=by
  rw[show 64-o=(64-(o+1))+1 by omega,List.replicate_succ]
 have hg:(Q_ l (o+1)).getD o 0=if o<16 then Pb l o else s1 ((Q_ l o).getD (o-2) 0)+(Q_ l o).getD (o-7) 0+s0 ((Q_ l o).getD (o-15) 0)+(Q_ l o).getD (o-16) 0:=by
  simp[Q_,a]
 rw[hg];apply Q5.1;simp only[ey,cp,b];rw[W7 (by simp[a])];simp only[jp];rw[J1,Qc (by simp[a])];simp[a,Q_]
theorem HH(l:List UInt8){n:Nat}(h:n<16):(Q_ l (n+1)).getD n 0=Pb l n:=by simp[Q_,U3,h]
theorem HJ(l:List UInt8){n:Nat}(h:16<=n):(Q_ l (n+1)).getD n 0=s1 ((Q_ l n).getD (n-2) 0)+(Q_ l n).getD (n-7) 0+s0 ((Q_ l n).getD (n-15) 0)+(Q_ l n).getD (n-16) 0:=by
 simp[Q_,U3,show¬n<16 by omega]
theorem a0Z{o i:Nat}(h:o=i)(a:i<64):(NH.map bn).toArray[o]? =some (bn (kk i)):=by
 subst h;have b:NH.length=64:=rfl;simp[kk,b,a]
theorem Pe(l:List UInt8):(Value.cells (.agg (#[.int .u32 0,.int .u32 0,.int .u32 0,.int .u32 0,.int .u32 0,.int .u32 0,.int .u32 0,.int .u32 0,.int .u32 0,.int .u32 0,.int .u32 0,.int .u32 0,.int .u32 0,.int .u32 0,.int .u32 0,.int .u32 0,.int .u32 0,.int .u32 0,.int .u32 0,.int .u32 0,.int .u32 0,.int .u32 0,.int .u32 0,.int .u32 0,.int .u32 0,.int .u32 0,.int .u32 0,.int .u32 0,.int .u32 0,.int .u32 0,.int .u32 0,.int .u32 0,.int .u32 0,.int .u32 0,.int .u32 0,.int .u32 0,.int .u32 0,.int .u32 0,.int .u32 0,.int .u32 0,.int .u32 0,.int .u32 0,.int .u32 0,.int .u32 0,.int .u32 0,.int .u32 0,.int .u32 0,.int .u32 0,.int .u32 0,.int .u32 0,.int .u32 0,.int .u32 0,.int .u32 0,.int .u32 0,.int .u32 0,.int .u32 0,.int .u32 0,.int .u32 0,.int .u32 0,.int .u32 0,.int .u32 0,.int .u32 0,.int .u32 0,.int .u32 0])))=cp l 0:=by kernel_rfl
def upto(S X:Nat->W)(k:Nat):Nat->W:=fun i=>if i<k then S i+X i else S i
theorem a00{S:Nat->W}{r:List UInt8}{n:Int}{o i:Nat}(h:o=i)(a:i<8):(hc S r n)[o]? =some (bn (S i)):=by
 subst h;rcases (show o=0\/o=1\/o=2\/o=3\/o=4\/o=5\/o=6\/o=7 by omega) with rfl|rfl|rfl|rfl|rfl|rfl|rfl|rfl<;>rfl
theorem Sr{S:Nat->W}{o i:Nat}(h:o=i)(a:i<8):(EN S).toArray[o]? =some (bn (S i)):=by
 subst h;rcases (show o=0\/o=1\/o=2\/o=3\/o=4\/o=5\/o=6\/o=7 by omega) with rfl|rfl|rfl|rfl|rfl|rfl|rfl|rfl<;>rfl
theorem Pf(S X:Nat->W)(r:List UInt8)(n:Int){k o:Nat}(h:o=k)(a:k<8):ey (hc (upto S X k) r n) o [bn (upto S X k k+X k)]=hc (upto S X (k+1)) r n:=by
 subst h;rcases (show o=0\/o=1\/o=2\/o=3\/o=4\/o=5\/o=6\/o=7 by omega) with rfl|rfl|rfl|rfl|rfl|rfl|rfl|rfl<;>rfl
def a01:Value:=.agg (#[.int .u32 0,.int .u32 0,.int .u32 0,.int .u32 0,.int .u32 0,.int .u32 0,.int .u32 0,.int .u32 0,.int .u32 0,.int .u32 0,.int .u32 0,.int .u32 0,.int .u32 0,.int .u32 0,.int .u32 0,.int .u32 0,.int .u32 0,.int .u32 0,.int .u32 0,.int .u32 0,.int .u32 0,.int .u32 0,.int .u32 0,.int .u32 0,.int .u32 0,.int .u32 0,.int .u32 0,.int .u32 0,.int .u32 0,.int .u32 0,.int .u32 0,.int .u32 0,.int .u32 0,.int .u32 0,.int .u32 0,.int .u32 0,.int .u32 0,.int .u32 0,.int .u32 0,.int .u32 0,.int .u32 0,.int .u32 0,.int .u32 0,.int .u32 0,.int .u32 0,.int .u32 0,.int .u32 0,.int .u32 0,.int .u32 0,.int .u32 0,.int .u32 0,.int .u32 0,.int .u32 0,.int .u32 0,.int .u32 0,.int .u32 0,.int .u32 0,.int .u32 0,.int .u32 0,.int .u32 0,.int .u32 0,.int .u32 0,.int .u32 0,.int .u32 0])
theorem Bk(S:Nat->W):∀q∈(Value.cells (.agg (EN S).toArray)).toList,q.oneCell'=true:=fun q a=>by
 simp[Value.cells,EN] at a;rcases a with rfl|rfl|rfl|rfl|rfl|rfl|rfl|rfl<;>rfl
theorem HK(b:Nat)(S:Nat->W)(r:List UInt8)(n:Int)(l:List UInt8)(hl:l.length=64):
  Ct prog 240 [.pointer (some ⟨b,0,none⟩),B l] (fun _=>True) [co b S r n] (fun v A=>v=.tuple #[]/\A=[co b (blk S l) r n]):=by
 refine b_ 169 func240 rfl rfl rfl ?_;intro F _;refine p9 ?_;intro f;refine p9 ?_;refine o9 (ι:=Nat) (fun k=>k<=16) (fun k=>[(0,.pointer (some ⟨b,0,none⟩)),(1,B l),(4,.pointer (some ⟨f,0,none⟩)),(13,.int .i64 (k:Nat))]) (fun k=>[.blk f (.cells (cp l k) 344),co b S r n]) (fun k=>16-k) 0 qb ?_ ?_ ?_
 ·exact sub
 ·intro w a;rw[<-Pe];exact a
 ·intro k m;refine R6 ?_ ?_<;>intro h
  ·simp only[jx] at h;refine z_ ?_;refine gb ([],[],[]) 32 rfl ?_;refine wd [0,1,2,3] ?_;refine w_ 4 rfl ((A6 rfl rfl qb).eq (v':=.int .u8 ((l.getD (4*k) 0).toNat:Nat)) (by rw[show(4*(k:Int)).toNat=4*k by omega])) ?_;refine w_ 5 rfl (nt _ rfl) ?_;refine w_ 6 rfl (uf 24 rfl rfl rfl qb) ?_;refine wd [7,8,9,10] ?_;refine w_ 11 rfl ((A6 rfl rfl qb).eq (v':=.int .u8 ((l.getD (4*k+1) 0).toNat:Nat)) (by rw[show(4*(k:Int)+1).toNat=4*k+1 by omega])) ?_;refine w_ 12 rfl (nt _ rfl) ?_;refine w_ 13 rfl (uf 16 rfl rfl rfl qb) ?_;refine w_ 14 rfl (Bj rfl rfl) ?_;refine wd [15,16,17,18] ?_;refine w_ 19 rfl ((A6 rfl rfl qb).eq (v':=.int .u8 ((l.getD (4*k+2) 0).toNat:Nat)) (by rw[show(4*(k:Int)+2).toNat=4*k+2 by omega])) ?_;refine w_ 20 rfl (nt _ rfl) ?_;refine w_ 21 rfl (uf 8 rfl rfl rfl qb) ?_;refine w_ 22 rfl (Bj rfl rfl) ?_;refine wd [23,24,25,26] ?_;refine w_ 27 rfl ((A6 rfl rfl qb).eq (v':=.int .u8 ((l.getD (4*k+3) 0).toNat:Nat)) (by rw[show(4*(k:Int)+3).toNat=4*k+3 by omega])) ?_;refine w_ 28 rfl (nt _ rfl) ?_;refine w_ 29 rfl (Bj rfl rfl) ?_;refine wd [30] ?_;refine h_ 31 rfl i6 ?_;refine I5 rfl rfl uh (by rfl) (by(intro q c;simp[Value.cells] at c;first|(subst c;rfl)|(rcases c with rfl|rfl|rfl|rfl|rfl|rfl|rfl|rfl<;>rfl)|(rcases c with rfl|rfl|rfl|rfl|rfl|rfl|rfl|rfl|rfl|rfl|rfl|rfl|rfl|rfl|rfl|rfl|rfl|rfl|rfl|rfl<;>rfl))) (by rw[me l k qb];omega) ?_;refine E5 [] ?_;refine z_ ?_;refine l8 (k+1) qb qb ?_ ?_
   ·exact sub
   ·intro w a;rw[<-Sq l (o:=0+(k:Int).toNat*1) qb qb (by rw[HH l qb])];exact a
  ·have g:k=16:=(by simp at h;omega);subst g;refine p9 ?_;refine o9 (ι:=Nat) (fun k=>16<=k/\k<=64) (fun k=>[(0,.pointer (some ⟨b,0,none⟩)),(4,.pointer (some ⟨f,0,none⟩)),(6,.int .i64 (k:Nat))]) (fun k=>[.blk f (.cells (cp l k) 344),co b S r n]) (fun k=>64-k) 16 qb ?_ ?_ ?_
   ·exact sub
   ·intro w a;exact a
   ·intro k m;refine bt ?_ ?_<;>intro h
    ·simp only[jx] at h;refine u7 ?_;refine zY [4,9,14,20] [5,15,23] 24 ?_;refine wd [0,1,2,3] ?_;refine bC 4 rfl ud (E9 rfl .del (HG l (i:=k-2) qb qb)) rfl rfl rfl i6 ?_;refine wd [6,7,8] ?_;refine bC 9 rfl ud (E9 rfl .del (HG l (i:=k-7) qb qb)) rfl rfl rfl i6 ?_;refine wd [11,12,13] ?_;refine bC 14 rfl ud (E9 rfl .del (HG l (i:=k-15) qb qb)) rfl rfl rfl i6 ?_;refine wd [17,18,19] ?_;refine bC 20 rfl ud (E9 rfl .del (HG l (i:=k-16) qb qb)) rfl rfl rfl i6 ?_;refine h_ 5 rfl i6 ?_;refine e_ rfl (jY _ 17 19 10 _ _ _ rfl rfl rfl qb qb qb) qw rfl ?_;refine Y5 ?_;refine w_ 10 rfl (cn rfl rfl) ?_;refine h_ 15 rfl i6 ?_;refine e_ rfl (jY _ 7 18 3 _ _ _ rfl rfl rfl qb qb qb) qw rfl ?_;refine Y5 ?_;refine w_ 16 rfl (cn rfl rfl) ?_;refine w_ 21 rfl (cn rfl rfl) ?_;refine wd [22] ?_;refine h_ 23 rfl i6 ?_;refine I5 rfl rfl uh (by rfl) (by(intro q c;simp[Value.cells] at c;first|(subst c;rfl)|(rcases c with rfl|rfl|rfl|rfl|rfl|rfl|rfl|rfl<;>rfl)|(rcases c with rfl|rfl|rfl|rfl|rfl|rfl|rfl|rfl|rfl|rfl|rfl|rfl|rfl|rfl|rfl|rfl|rfl|rfl|rfl|rfl<;>rfl))) (by rw[me l k qb];omega) ?_;refine E5 [] ?_;refine E6 ?_;refine l8 (k+1) qb qb ?_ ?_
     ·exact sub
     ·intro w a;rw[<-Sq l (o:=0+(k:Int).toNat*1) qb qb (by rw[HJ l qb])];exact a
    ·have d:k=64:=(by simp at h;omega);subst d;refine C6 ?_;refine e_ rfl Mj qw rfl ?_;refine p9 ?_;intro t;refine T7 rfl rfl uh (by rfl) (fun q c=>by simp only[Value.cells,Jk,jw] at c;obtain⟨p,_,rfl⟩:=c;rfl) (by rfl) ?_;refine u7 ?_;refine aF ?_;intro j;refine T7 rfl rfl uh (by rfl) (Bk _) (by rfl) ?_;refine p9 ?_;refine o9 (ι:=Nat) (fun k=>k<=64) (fun k=>[(0,.pointer (some ⟨b,0,none⟩)),(4,.pointer (some ⟨f,0,none⟩)),(7,.pointer (some ⟨t,0,none⟩)),(8,.pointer (some ⟨j,0,none⟩)),(80,.int .i64 (k:Nat))])
      (fun k=>[.blk j (.cells (EN (iH l S k)).toArray 278),.blk t (.cells (NH.map bn).toArray 344),.blk f (.cells (cp l 64) 344),co b S r n]) (fun k=>64-k) 0 qb ?_ ?_ ?_
     ·exact sub
     ·intro w a;have e:ey (Value.cells a01) 0 (Value.cells (.agg (NH.map bn).toArray)).toList=(NH.map bn).toArray:=(by kernel_rfl);rw[<-e];exact a
     ·intro k m;refine R6 ?_ ?_<;>intro h
      ·simp only[jx] at h;refine z_ ?_;refine zY [1,3,7,9,12,15,21,25] [4] 28 ?_;refine wd [0,1,2,3,6,7,8,9] ?_;refine w_ 10 rfl (pL rfl rfl) ?_;refine wd [11,12] ?_;refine w_ 13 rfl (Pc rfl) ?_;refine wd [14,15] ?_;refine w_ 16 rfl (pL rfl rfl) ?_;refine w_ 17 rfl (iJ rfl rfl) ?_;refine wd [19,20] ?_;refine bC 21 rfl ud (E9 rfl .del (a0Z (i:=k) qb qb)) rfl rfl rfl i6 ?_;refine wd [23,24] ?_;refine bC 25 rfl ud (E9 rfl .del (HG l (i:=k) qb qb)) rfl rfl rfl i6 ?_;refine h_ 4 rfl i6 ?_;refine e_ rfl (md _ 6 11 25 _ _ _ rfl rfl rfl qb qb qb) qw rfl ?_;refine Y5 ?_;refine w_ 5 rfl (cn rfl rfl) ?_;refine w_ 18 rfl (cn rfl rfl) ?_;refine w_ 22 rfl (cn rfl rfl) ?_;refine w_ 26 rfl (cn rfl rfl) ?_;refine wd [27] ?_;refine u7 ?_;refine zY [1,4,6,9,11,15,17] [2] 22 ?_;refine wd [0,1,3,4,5,6] ?_;refine w_ 7 rfl (pL rfl rfl) ?_;refine wd [8,9,10,11] ?_;refine w_ 12 rfl (pL rfl rfl) ?_;refine w_ 13 rfl (iJ rfl rfl) ?_;refine wd [14,15,16,17] ?_;refine w_ 18 rfl (pL rfl rfl) ?_;refine w_ 19 rfl (iJ rfl rfl) ?_;refine h_ 2 rfl i6 ?_;refine e_ rfl (md _ 2 13 22 _ _ _ rfl rfl rfl qb qb qb) qw rfl ?_;refine Y5 ?_;refine w_ 20 rfl (cn rfl rfl) ?_;refine wd [21] ?_;refine z_ ?_;refine f_ (cn rfl rfl) ?_;refine wk 9 ?_;refine f_ (cn rfl rfl) ?_;refine cH ?_;refine f_ (cB rfl (v:=.agg (EN (iH l S (k+1))).toArray) (fun w=>by kernel_rfl)) ?_;refine T7 rfl rfl uh (by rfl) (Bk _) (by rfl) ?_;refine z_ ?_;refine l8 (k+1) qb qb ?_ ?_
       ·exact sub
       ·intro w a;exact a
      ·have d:k=64:=(by simp at h;omega);subst d;refine p9 ?_;refine o9 (ι:=Nat) (fun k=>k<=8) (fun k=>[(0,.pointer (some ⟨b,0,none⟩)),(8,.pointer (some ⟨j,0,none⟩)),(152,.int .i64 (k:Nat))])
        (fun k=>[co b (upto S (iH l S 64) k) r n,.blk j (.cells (EN (iH l S 64)).toArray 278)]) (fun k=>8-k) 0 qb ?_ ?_ ?_
       ·exact sub
       ·intro w a;exact((a.front (.there (.there (.there .del)))).upd_same (.there (.there .del))).upd_same (.there (.there .del))
       ·intro k m;refine R6 ?_ ?_<;>intro h
        ·simp only[jx] at h;refine z_ ?_;refine zY [5,8] [13] 14 ?_;refine wd [0,1,2,3,4] ?_;refine bC 5 rfl ud (E9 rfl .del (a00 (i:=k) qb qb)) rfl rfl rfl i6 ?_;refine wd [6,7] ?_;refine bC 8 rfl ud (E9 rfl .del (Sr (i:=k) qb qb)) rfl rfl rfl i6 ?_;refine w_ 9 rfl (cn rfl rfl) ?_;refine wd [10,11,12] ?_;refine h_ 13 rfl i6 ?_;refine I5 rfl rfl uh (by rfl) (by(intro q c;simp[Value.cells] at c;first|(subst c;rfl)|(rcases c with rfl|rfl|rfl|rfl|rfl|rfl|rfl|rfl<;>rfl)|(rcases c with rfl|rfl|rfl|rfl|rfl|rfl|rfl|rfl|rfl|rfl|rfl|rfl|rfl|rfl|rfl|rfl|rfl|rfl|rfl|rfl<;>rfl))) (by simp[hc,EN];omega) ?_;refine E5 [] ?_;refine z_ ?_;refine l8 (k+1) qb qb ?_ ?_
         ·exact sub
         ·intro w a;unfold co;rw[<-Pf S (iH l S 64) r n (k:=k) (o:=0+0+(k:Int).toNat*1) qb qb];exact a
        ·have s:k=8:=(by simp at h;omega);subst s;refine u7 ?_;exact l_ rfl [co b (blk S l) r n] qh (fun w a=>a.upd_same (.there .del))
def HS(b:Nat)(m:List UInt8):As:=co b (st m) (rest m) (m.length:Nat)
theorem Mk(m:List UInt8):(rest m).length<=m.length:=by simp[rest]
theorem ww(m s:List UInt8):rest m++s=(m++s).drop (64*(m.length/64)):=by
 rw[rest,Ks qb]
theorem Pg(S:Nat->W)(r:List UInt8)(n:Int):∀q∈(Value.cells (.agg (sl (hc S r n) 0 10).toArray)).toList,q.oneCell'=true:=fun q a=>by
 simp[Value.cells,sl,hc,EN] at a;rcases a with rfl|rfl|rfl|rfl|rfl|rfl|rfl|rfl|rfl|rfl<;>rfl
theorem wx(b:Nat)(m s:List UInt8)(l:m.length+s.length<=9223372036854775807):
  Ct prog 169 [.pointer (some ⟨b,0,none⟩),B s] (fun _=>True) [HS b m] (fun v A=>v=.tuple #[]/\A=[HS b (m++s)]):=by
 have d:=Mk m;refine b_ 34 func169 rfl rfl rfl ?_;intro F _;refine wk 17 ?_;refine f_ ((G7 rfl rfl qb).eq (v':=B ((m++s).drop (64*(m.length/64)))) (by rw[ww])) ?_;refine p9 ?_;have f:(m++s).length=m.length+s.length:=by simp
 generalize hTT:m++s=T at*;refine o9 (ι:=Nat) (fun i=>m.length/64<=i/\i<=T.length/64) (fun i=>[(0,.pointer (some ⟨b,0,none⟩)),(1,B (T.drop (64*i)))]) (fun i=>[co b (Mh T i) (rest m) (T.length:Nat)]) (fun i=>T.length/64-i) (m.length/64) qb ?_ ?_ ?_
 ·exact sub
 ·intro w a;have e:Mh T (m.length/64)=st m:=by rw[<-hTT,pK m s _ qb];rfl
  rw[e,f];have g:((m.length+s.length:Nat):Int)=(m.length:Int)+(s.length:Int):=by omega
  rw[g];exact a
 ·intro i n;have j:(T.drop (64*i)).length=T.length-64*i:=by simp
  refine eE ?_ ?_<;>intro h
  ·simp only[jx] at h;refine E6 ?_;refine x4 [] rfl (HK b _ _ _ _ (by simp;omega)) i_ qw rfl ?_;rintro v A ⟨rfl,rfl⟩;refine p9 ?_;refine f_ ((H4 rfl rfl rfl qb).eq (v':=B (T.drop (64*(i+1)))) (by congr 2;rw[Km,kr (by simp;omega)];congr 1)) ?_;refine p9 ?_;refine l8 (i+1) qb qb ?_ ?_
   ·exact sub
   ·intro w a;have e:Mh T (i+1)=blk (Mh T i) (List.take (Int.toNat 64-Int.toNat 0) (List.drop (Int.toNat 0) (List.drop (64*i) T))):=rfl;rw[e];exact a
  ·have k:T.length-64*i<64:=(by simp at h;omega);have c:i=T.length/64:=(by omega);subst c;refine aF ?_;exact l_ rfl [HS b T] qh i_
def DQ(n k:Nat):List UInt8:=(List.range k).map fun i=>UInt8.ofNat (n/2^(56-8*i))
theorem DR(n k:Nat):DQ n (k+1)=DQ n k++[UInt8.ofNat (n/2^(56-8*k))]:=by simp[DQ,List.range_succ]
def eY(n k:Nat):List UInt8:=[128]++List.replicate ((119-n%64)%64) 0++DQ (n*8%2^64) k
theorem yH(n k:Nat):eY n (k+1)=eY n k++[UInt8.ofNat (n*8%2^64/2^(56-8*k))]:=by simp[eY,DR]
theorem DS(n k:Nat):(eY n k).length<=65+k:=by simp[eY,DQ];omega
theorem Bl(x:Nat):IntKind.u8.wrap (x:Int)=((UInt8.ofNat x).toNat:Nat):=by
 rw[IntKind.wrap_u8,UInt8.toNat_ofNat'];omega
theorem HL(n k:Nat)(c:k<8):Value.int .u8 (IntKind.u8.wrap ((IntKind.u64.wrap ((n:Int)*8)).fdiv (2^(min (56-8*(k:Int)).toNat IntKind.u64.bits))))=.int .u8 ((UInt8.ofNat (n*8%2^64/2^(56-8*k))).toNat:Nat):=by
 rw[<-Bl];have a:min (56-8*(k:Int)).toNat IntKind.u64.bits=56-8*k:=by simp[IntKind.bits];omega
 have b:IntKind.u64.wrap ((n:Int)*8)=((n*8%2^64:Nat):Int):=by rw[IntKind.wrap_u64];omega
 rw[a,b,K6 _ (by exact Int.pow_nonneg qp)];congr 3
theorem aM(S:Nat->W):(ck S).length=32:=by simp[ck,yF];rfl
theorem yI(S:Nat->W){i k:Nat}(a:i<8)(b:k<4):(ck S).getD (4*i+k) 0=UInt8.ofNat ((S i).toNat/2^(24-8*k)):=by
 rcases (show i=0\/i=1\/i=2\/i=3\/i=4\/i=5\/i=6\/i=7 by omega) with rfl|rfl|rfl|rfl|rfl|rfl|rfl|rfl<;>
  rcases (show k=0\/k=1\/k=2\/k=3 by omega) with rfl|rfl|rfl|rfl<;>simp[ck,yF,List.range_succ]
def dy(S:Nat->W)(n:Nat):Array Value:=(A5 ((ck S).take n)++List.replicate (32-n) (Value.int .u8 0)).toArray
theorem wy(S:Nat->W)(n:Nat)(h:n<=32):(dy S n).size=32:=by simp[dy,A5,aM];omega
theorem a02(S:Nat->W){n o:Nat}{v:Value}(h:o=n)(b:n<32)(hv:v=.int .u8 (((ck S).getD n 0).toNat:Nat)):ey (dy S n) o [v]=dy S (n+1):=by
 subst h hv;have a:=aM S;have c:List.replicate (32-o) (Value.int .u8 0)=Value.int .u8 0::List.replicate (32-(o+1)) (Value.int .u8 0):=by
  rw[show 32-o=(32-(o+1))+1 by omega,List.replicate_succ]
 have d:(ck S).take (o+1)=(ck S).take o++[(ck S).getD o 0]:=by
  rw[kj qb];simp[a,b]
 apply Q5.1;simp only[ey,dy,c];rw[W7 (by simp[A5,a];omega)];simp only[jp];rw[J1,Qc (by simp[A5,a];omega)];have e:min o 32=o:=by omega
 simp[A5,a,d,e]
theorem HN(x:W){k:Nat}(a:k<4):Value.int .u8 (IntKind.u8.wrap ((x>>>(24-8*k)).toNat:Nat))=.int .u8 ((UInt8.ofNat (x.toNat/2^(24-8*k))).toNat:Nat):=by
 rw[Bl,BitVec.toNat_ushiftRight,Nat.shiftRight_eq_div_pow]
theorem Ml(b:Nat)(m:List UInt8)(J:m.length<=9223372036854775000):
  Ct prog 170 [.pointer (some ⟨b,0,none⟩)] (fun _=>True) [HS b m] (fun v A=>v=B (sha m)/\A=[HS b m]):=by
 refine b_ 68 func170 rfl rfl rfl ?_;intro F _;refine E6 ?_;refine O2 ?_;intro d;refine T7 rfl rfl uh (by rfl) (Pg _ _ _) (by rfl) ?_;refine u7 ?_;refine D6 (H':=[HS d m,HS b m]) i_ ?_;refine aF ?_;refine nJ rfl rfl rfl qb (by show(1:Int)*_<=_;omega) rfl ?_;intro a5;rw[show(119-(m.length:Int)%64)%64=(((119-m.length%64)%64:Nat):Int) by omega];refine r_ (bQ (l:=List.replicate ((119-m.length%64)%64) 0) rfl (by simp;omega) (fun w a=>by have t:=(a.ownN ud).2.2.1;simp only[jc] at t;simp only[A5,List.map_replicate];exact t)) ?_;refine f_ ((G7 rfl rfl (by simp;omega)).eq (v':=B (eY m.length 0)) (by simp[eY,DQ])) ?_;refine z_ ?_;refine o9 (ι:=Nat) (fun k=>k<=8) (fun k=>[(0,.pointer (some ⟨b,0,none⟩)),(3,.pointer (some ⟨d,0,none⟩)),(4,B (eY m.length k)),(23,.int .i64 (k:Nat))]) (fun k=>[HS d m,HS b m]) (fun k=>8-k) 0 qb ?_ ?_ ?_
 ·exact sub
 ·intro w a;exact a.upd_same .del
 ·intro k z;have C:=DS m.length k;refine R6 ?_ ?_<;>intro h
  ·simp only[jx] at h;refine wk 8 ?_;refine f_ (Cd rfl rfl) ?_;refine O2 ?_;refine f_ ((ew rfl).eq (HL m.length k qb)) ?_;refine x5 rfl rfl rfl rfl rfl rfl (xs:=A5 [UInt8.ofNat (m.length*8%2^64/2^(56-8*k))]) rfl rfl ?_;intro D x;refine r_ (bQ (l:=[UInt8.ofNat (m.length*8%2^64/2^(56-8*k))]) rfl rfl (fun w a=>(a.ownN ud).2.2.1)) ?_;refine f_ ((G7 rfl rfl (by simp;omega)).eq (v':=B (eY m.length (k+1))) (by rw[yH])) ?_;refine E6 ?_;refine l8 (k+1) qb qb ?_ ?_
   ·exact sub
   ·intro w a;exact a.upd_same .del
  ·have p:k=8:=(by simp at h;omega);subst p;refine p9 ?_;refine x4 [HS b m] rfl (wx d m (eY m.length 8) qb) i_ qw rfl ?_;rintro v A ⟨rfl,rfl⟩;refine u7 ?_;have c:sha m=ck (st (m++eY m.length 8)):=rfl;generalize hT:m++eY m.length 8=T at*;refine p9 ?_;intro f;refine E6 ?_;refine o9 (ι:=Nat) (fun i=>i<=8) (fun i=>[(6,.pointer (some ⟨f,0,none⟩)),(45,.agg (EN (st T)).toArray),(46,.int .i64 (i:Nat))]) (fun i=>[.blk f (.cells (dy (st T) (4*i)) 281),HS b m]) (fun i=>8-i) 0 qb ?_ ?_ ?_
   ·exact sub
   ·intro w a;have e:dy (st T) (4*0)=#[.int .u8 0,.int .u8 0,.int .u8 0,.int .u8 0,.int .u8 0,.int .u8 0,.int .u8 0,.int .u8 0,.int .u8 0,.int .u8 0,.int .u8 0,.int .u8 0,.int .u8 0,.int .u8 0,.int .u8 0,.int .u8 0,.int .u8 0,.int .u8 0,.int .u8 0,.int .u8 0,.int .u8 0,.int .u8 0,.int .u8 0,.int .u8 0,.int .u8 0,.int .u8 0,.int .u8 0,.int .u8 0,.int .u8 0,.int .u8 0,.int .u8 0,.int .u8 0]:=(by simp[dy,A5,List.replicate]);rw[e];exact a.upd_same (.there .del)
   ·intro i M;refine R6 ?_ ?_<;>intro h
    ·simp only[jx] at h;refine p9 ?_;refine f_ (ez i rfl rfl rfl qb (Sr (i:=i) rfl qb)) ?_;refine E6 ?_;refine o9 (ι:=Nat) (fun k=>k<=4) (fun k=>[(6,.pointer (some ⟨f,0,none⟩)),(45,.agg (EN (st T)).toArray),(46,.int .i64 (i:Nat)),(7,.int .i64 (i:Nat)),(8,bn (st T i)),(50,.int .i64 (k:Nat))]) (fun k=>[.blk f (.cells (dy (st T) (4*i+k)) 281),HS b m]) (fun k=>4-k) 0 qb ?_ ?_ ?_
     ·exact sub
     ·intro w a;exact a
     ·intro k z;refine R6 ?_ ?_<;>intro y
      ·simp only[jx] at y;refine wk 10 ?_;refine f_ (yG (24-8*k) rfl rfl qb qb) ?_;refine f_ ((ew rfl).eq (HN _ qb)) ?_;refine p9 ?_;refine I5 rfl rfl uh (by rfl) (by(intro q g;simp[Value.cells] at g;first|(subst g;rfl)|(rcases g with rfl|rfl|rfl|rfl|rfl|rfl|rfl|rfl<;>rfl)|(rcases g with rfl|rfl|rfl|rfl|rfl|rfl|rfl|rfl|rfl|rfl|rfl|rfl|rfl|rfl|rfl|rfl|rfl|rfl|rfl|rfl<;>rfl))) (by rw[wy _ _ qb];omega) ?_;refine z_ ?_;refine l8 (k+1) qb qb ?_ ?_
       ·exact sub
       ·intro w a;rw[<-W0,<-a02 (st T) (n:=4*i+k) (o:=0+(4*(i:Int)+(k:Int)).toNat*1) qb qb (by rw[yI (st T) qb qb])];exact a
      ·have r:k=4:=(by simp at y;omega);subst r;refine z_ ?_;refine l8 (i+1) qb qb ?_ ?_
       ·exact sub
       ·intro w a;exact a
    ·have s:i=8:=(by simp at h;omega);subst s;refine C6 ?_;refine f_ (uO rfl) ?_;refine r_ (bQ (l:=sha m) rfl (by rw[c,aM]) (fun w a=>a.rdBlk ud _ (fun j u hu=>by rw[c] at hu;simpa[dy,aM,kr] using hu))) ?_;refine C8 ?_;exact d_ rfl rfl [HS b m] qh (fun w a=>a.upd_same .del)
theorem Sum_ct(s:List UInt8)(hs:s.length<=9223372036854775000):Pu prog 81 [B s] (fun _=>True) (B (sha s)):=by
 refine b_ 10 func81 rfl rfl rfl ?_;intro F _;refine xp ?_;refine x4 [] rfl Pd i_ qw rfl ?_;rintro v A ⟨g,rfl,rfl⟩;refine p9 ?_;refine D6 (H':=[HS g []]) i_ ?_;refine z_ ?_;refine x4 [] rfl (wx g [] s (by simp;omega)) i_ qw rfl ?_;rintro v A ⟨rfl,rfl⟩;refine p9 ?_;refine x4 [] rfl (Ml g ([]++s) (by simpa using hs)) i_ qw rfl ?_;rintro v A ⟨rfl,rfl⟩;refine C8 ?_;exact d_ rfl rfl [] qh (fun w a=>a.dropAll)
end Go.Proofs.YtmcepdopookilaaGreatDoor.Dg
namespace Go.Proofs.YtmcepdopookilaaGreatDoor.Rp
open Go Go.Sl Go.RowKit Go.Proofs.Tryz
abbrev Ss(c:CM):RQ:={cL with op:=6,box:=c.box,a5c:=c.a5c,hash:=Dg.sha c.data,size:=c.data.length}
def St(s:SE)(d:DD)(c:CM)(s':SE)(d':DD):Prop:=(s',d')=G_ (s,{d with store:=true,body:=c.data}) c (Ss c) []
theorem yJ(b:Nat)(s:SE)(x:SL)(d:DD)(y:DL)(c:CM)(k:CL)(hc:tq c)(q:s.num<18446744073709551615):DJ 149 b s x d y c k (St s d c):=by
 have r:=hc.a5c;have t:=hc.data;refine x7 30 func149 rfl rfl rfl ?_;rintro F R ⟨e,j⟩;refine C6 ?_;refine m9 rfl rfl ?_;intro p;refine u7 ?_;refine B8 (Z:=[.blk p (.cells (kK c k).toArray 36)]) tk fun u f n=>?_;have l:u.heap p=some (.cells (kK c k).toArray 36 (0,0)):=I9 n;clear n;replace e:=Mn.le f.heap e;replace j:=Mn.le f.heap j;refine u7 ?_;refine D7 [3] [7,11] [] 12 ?_;refine wd [0,1,2] ?_;refine M3 3 rfl (i8 rfl (fun w a=>H9 a l rfl)) I4 rfl rfl rfl i6 ?_;refine wd [4,5,6,7,8,9,10,11] ?_;refine u7 ?_;refine D7 [1,3,5,8,11] [6,9,15] [] 16 ?_;refine wd [0] ?_;refine M3 1 rfl (db rfl l ga) I4 rfl rfl rfl i6 ?_;refine wd [2] ?_;refine M3 3 rfl (i8 rfl (fun w a=>H9 a l rfl)) I4 rfl rfl rfl i6 ?_;refine wd [4] ?_;refine M3 5 rfl (i8 rfl (fun w a=>H9 a l rfl)) I4 rfl rfl rfl i6 ?_;refine wd [7] ?_;refine M3 8 rfl (i8 rfl (fun w a=>H9 a l rfl)) I4 rfl rfl rfl i6 ?_;refine wd [10] ?_;refine M3 11 rfl (i8 rfl (fun w a=>H9 a l rfl)) I4 rfl rfl rfl i6 ?_;refine wd [12] ?_;refine w_ 13 rfl ((y8 rfl qb).eq (v':=.int .u64 (c.data.length:Nat)) rfl) ?_;refine h_ 6 rfl i6 ?_;refine c_ (X_ c.a5c k.fa k.fc qb) (fun h z _=>j.a5c.le z) ?_;rintro v A ⟨g,m,rfl,rfl⟩;refine Y5 ?_;refine h_ 9 rfl i6 ?_;refine e_ rfl (Dg.Sum_ct c.data qb) qw rfl ?_;refine Y5 ?_;refine w_ 14 rfl (y7 (ps:=[(0,.const (.int .i64 6)),(6,.tmp 17),(10,.tmp 20),(14,.tmp 23),(15,.tmp 27)]) (vs:=[(0,.int .i64 6),(6,B c.box),(10,.slice g c.a5c.length m),(14,B (Dg.sha c.data)),(15,.int .u64 (c.data.length:Nat))]) (cells:=(cQ (Ss c) ⟨none,0,g,m⟩).toArray) rfl i6) ?_;refine h_ 15 rfl i6 ?_;refine c_ (dx b s x {d with store:=true,body:=c.data} y c k (Ss c) ⟨none,0,g,m⟩ [] none 0 q) qw ?_;rintro v A ⟨rfl,rfl⟩;refine E5 [] ?_;refine jV (Z:=[A4 g c.a5c m]) tk fun C i ⟨D,n⟩=>?_;have o:n9 C.heap g (fV c.a5c):=A1.rd n ud;replace e:=Mn.le i.heap e;replace j:=Mn.le i.heap j;refine G9 (A:=l5 x.ra s.a4R.a4Q x.rc::O4 b (G_ (s,{d with store:=true,body:=c.data}) c (Ss c) []).1 {x with cl:=k,ua:=none,uc:=0} (G_ (s,{d with store:=true,body:=c.data}) c (Ss c) []).2 {y with ql:=⟨none,0,g,m⟩}) (v:=.tuple #[]) (f.trans i) ⟨rfl,_,_,{x with cl:=k,ua:=none,uc:=0},{y with ql:=⟨none,0,g,m⟩},rfl,rfl,.refl rfl,?_⟩ ?_
 ·exact⟨⟨n9.nil _ _,j⟩,⟨e.dd.a5b,e.dd.rep,⟨n9.nil _ _,o⟩,e.dd.want⟩⟩
 ·exact l_ rfl _ qh (fun w a=>C1 (A:=[_,_,_]) (J:=[]) tk a)
theorem lv(s:SE)(x:SL)(hs:RI s):Cm prog 68 [rB s x] (fun h=>n9 h x.ra (V2 s.a4R.a4Q)/\U2 s x h) [] (fun h v A=>∃d,v=rB s d/\A=[l5 d.ra s.a4R.a4Q d.rc]/\U2 s d h):=by
 have n:=hs.a4Q;have o:=hs.a4T;refine x7 18 func68 rfl rfl rfl ?_;rintro F R ⟨p,a⟩;refine C6 ?_;refine m9 rfl rfl ?_;intro u;refine i7 rfl ?_;intro y;refine E6 ?_;refine c_ (fK (V2 s.a4R.a4Q) x.ra s.a4R.a4Q.length x.rc (bI _) (eI _) qb) (fun h e _=>p.le e) ?_;rintro v A ⟨j,k,rfl,rfl⟩;refine aF ?_;refine c_ (vu (nV s.a4T) x.ua s.a4T.length x.uc (by rw[sU,Zv]) (io _) qb) (fun h e _=>a.a4T.le e) ?_;rintro v A ⟨f,l,rfl,rfl⟩;refine z_ ?_;refine B8 (Z:=[U1 f s.a4T l]) tk fun q b ⟨z,m⟩=>?_;have g:n9 q.heap f (nV s.a4T):=A1.rd m ud;clear m;refine z_ ?_;refine A8 (mF s.cmd x.cl hs.cmd) (Mn.le b.heap a.cmd) ?_;rintro v A C c ⟨rfl,r,rfl,i⟩;refine Jl ?_;refine G9 (A:=[l5 j s.a4R.a4Q k]) (v:=rB s ⟨j,k,f,l,r⟩) (b.trans c) ⟨_,rfl,rfl,⟨g.le c.heap,i⟩⟩ ?_;exact G4 rfl rfl ud rfl _ qh (fun w t=>C1 (A:=[_]) (J:=[_,_]) tk t)
theorem DT(c:CM)(x:CL):Pu prog 73 [xt c x] (fun _=>True) (B (vq c)):=by
 obtain⟨q,a⟩:=o7 (decide (c.tag=[]));refine b_ 8 func73 rfl rfl rfl ?_;intro F _;refine C6 ?_;refine m9 rfl rfl ?_;intro e;refine E6 ?_;refine f_ ((C5 rfl rfl).eq (v':=.bool q) (qn a.symm)) ?_;refine u7 ?_
 cases q
 ·have b:c.tag≠[]:=zq a.symm;refine bM ?_;exact d_ rfl rfl [] ⟨by unfold vq;rw[zk b],rfl⟩ (fun w d=>d.drop)
 ·have b:c.tag=[]:=qr a.symm;refine C8 ?_;exact d_ rfl rfl [] ⟨by unfold vq;rw[zu b],rfl⟩ (fun w d=>d.drop)
theorem Bn(b:Nat)(s:SE)(x:SL)(d:DD)(y:DL):Ct prog 77 [m6 b] (fun _=>True) (O4 b s x d y) (fun v A=>v=xt s.cmd x.cl/\A=O4 b (O3 s) {x with cl:=G8,ua:=none,uc:=0} d y):=by
 refine b_ 23 func77 rfl rfl rfl ?_;intro F _;refine C6 ?_;refine i7 rfl ?_;intro c;refine aF ?_;refine i7 rfl ?_;intro e;refine O2 ?_;refine f_ (y7 (ps:=[]) (vs:=[]) (cells:=(kK ip G8).toArray) rfl i6) ?_;refine wk 14 ?_;refine A3 ?_;exact G4 rfl rfl ud rfl _ qh (fun w a=>a.drop.drop)
theorem Bo{P:Program}{N:Nat}{c:Code}{K R:y5}{L:F_}{F:l6}{H:List As}{Q:Exit->Act->World->Prop}{a:Act}{w:World}(h:G P N c K [] R L F H)(hf:G2 N L a)(b:Hp F w H)(d:∀a w,K a w->Q .normal a w)(f:∀a w,R a w->Q .ret a w):c.wp P Q a w:=by
 unfold G at h;refine Code.wp_mono ?_ (h a w hf b);intro e g i q
 cases e with
 |normal=>exact d _ _ q
 |ret=>exact f _ _ q
 |exit id=>simp[MQ,List.lookup] at q
 |goto l=>exact q.elim
 |panic ch=>exact(fZ q).elim
 |outgrown=>exact q.elim
theorem ug{P:Program}{L:F_}{dst:Option Tmp}{t t':TypeId}{x y:Operand}{ty:TypeId}{pos:String}{af:Array Edge}{gd:Option (Nat×Bool)}{a:Array (String×TypeId)}{u:TypeId}{v:Value}[hu:HU P t (.interface a)](hx:ev L x=some (.iface u v))(b:ev L y=some .nilIface):E3 P ⟨dst,.binOp .neq t x y t',ty,pos,af,gd⟩ L (.bool true):=by
 have c:P.underlying t=some (.interface (P.methodsAt t)):=by unfold Program.methodsAt;rw[hu.h]
 exact L_ hx b (fun w=>by
  rw[eqGuard_at_iface];exact run_neq_held_nil w t u v c)
theorem yK{P:Program}{dst:Option Nat}{t t':TypeId}{x:Operand}{c:Value}{ty:TypeId}{pos:String}{af:Array Edge}{gd:Option (Nat×Bool)}{L:F_}{a:Array (String×TypeId)}[hu:HU P t (.interface a)](hx:ev L x=some .nilIface)(b:ev L (.const c)=some .nilIface):E3 P ⟨dst,.binOp .neq t x (.const c) t',ty,pos,af,gd⟩ L (.bool false):=by
 have d:P.underlying t=some (.interface (P.methodsAt t)):=by unfold Program.methodsAt;rw[hu.h]
 exact L_ hx b (fun w=>by
  rw[eqGuard_nil_constR];exact run_neq_nil_nil w t d)
theorem Ph(d f g3:Nat)(F:l6)(H:List As)(w:World)(c:Hp F w H):CallsD prog 136 #[m6 d,m6 f,m6 g3] .returning w fun e g w'=>e=.returned (.tuple #[])/\g=.returning/\Hp F w' H:=by
 refine callsD_of_wpS func136 rfl fun h i hu=>?_;apply wpS_seq;apply wpS_region;simp[wpOpsS,go_sem,recoverD,hu,Exit.thenS];refine wpS_of_wp ?_;refine Bo (N:=18) (L:=[(0,m6 d),(1,m6 f),(2,m6 g3),(3,.nilIface)]) (F:=F) (H:=H) (K:=fun a w=>a.defers=[]/\Hp F w H) (R:=fun _ _=>False) ?_ ⟨rfl,by simp,fun t v b=>?_⟩ c (fun a w' q=>⟨q.1,.returning,by rw[<-hu],.tuple #[],results_none rfl _ _ _,rfl,rfl,q.2⟩) (fun _ _ q=>q.elim)
 ·skip
  refine p9 ?_;refine f_ (yK rfl rfl) ?_;refine u7 ?_;unfold At;exact fun a w hf c=>⟨hf.defers,c⟩
 ·match t,b with
  |0,b=>cases b;simp
  |1,b=>cases b;simp
  |2,b=>cases b;simp
  |3,b=>cases b;simp
  |n+4,b=>cases b
abbrev gW(g:Nat)(c:CM)(x:CL):As:=.blk g (.cells (kK c x).toArray 36)
abbrev xw(g:Nat)(e:Int):As:=.blk g (.cells #[.int .i64 e] 54)
theorem Mm(f g g3:Nat)(c d:CM)(e:Int)(F:l6)(R:List As)(w:World)(i:Hp F w (gW f c G8::gW g d G8::xw g3 e::R)):CallsD prog 136 #[m6 f,m6 g,m6 g3] (.panicking [{v:=N0,recovered:=false}]) w fun e j w'=>e=.returned (.tuple #[])/\j=.panicking [{v:=N0,recovered:=true}]/\Hp F w' (gW f c G8::gW g c G8::xw g3 4::R):=by
 refine callsD_of_wpS func136 rfl fun k l hu=>?_;apply wpS_seq;apply wpS_region;simp[wpOpsS,go_sem,recoverD,hu,Exit.thenS];refine wpS_of_wp ?_;refine Bo (N:=18) (L:=[(0,m6 f),(1,m6 g),(2,m6 g3),(3,N0)]) (F:=F) (H:=gW f c G8::gW g d G8::xw g3 e::R) (K:=fun a w=>a.defers=[]/\Hp F w (gW f c G8::gW g c G8::xw g3 4::R)) (R:=fun _ _=>False) ?_ ⟨rfl,by simp,fun t v b=>?_⟩ i (fun a w' q=>⟨q.1,.panicking [{v:=N0,recovered:=true}],rfl,.tuple #[],results_none rfl _ _ _,rfl,rfl,q.2⟩) (fun _ _ q=>q.elim)
 ·skip
  refine p9 ?_;refine f_ (ug rfl rfl) ?_;refine p9 ?_;refine f_ (qJ (by intro m h;cases h) rfl) ?_;refine O2 ?_;intro o;refine wk 7 ?_;unfold At;exact fun a w hf i=>⟨hf.defers,i.drop⟩
 ·match t,b with
  |0,b=>cases b;simp
  |1,b=>cases b;simp
  |2,b=>cases b;simp
  |3,b=>cases b;simp
  |n+4,b=>cases b
section
variable{P:Program}{N:Nat}{K R:y5}{E:List (Nat×y5)}{L:F_}{F:l6}{H:List As}
theorem dW{fn:Func}{c:Value->List As->Prop}{t n b t1 d:Nat}{j te h k:TypeId}{cs:Array Value}{f:Value}{H' s:List As}[ha:HA P j true][hs:HS P j n][ha1:HA P h false](y:fn.results=#[.cell t j,.cell t1 h])(hv:find L t=some (.pointer (some ⟨b,0,none⟩)))(l:find L t1=some (.pointer (some ⟨d,0,none⟩)))(u:M1 H (.blk b (.cells cs te (0,0))) [] H')(z:Nat.beq n cs.size=true)(C:M1 H (.blk d (.cells #[f] k (0,0))) [] s)(A:List As)(g:c (.tuple #[.agg cs,f]) A)(D:∀w,Hp F w H->Hp F w A):At N (dj P fn F c) L F H:=by
 unfold At;intro a w hf m;have J:=jn z;have e:sl cs 0 cs.size=cs.toList:=by
  simp only[sl,Kz];exact kr x8
 obtain⟨X,p,hc⟩:=X6 (n:=cs.size) m u;injection p with p;subst p;rw[e] at hc;have r:=D5 (P:=P) hc;obtain⟨M,q,i⟩:=uI (o:=0) (v:=f) m C x8;injection q with q;subst q;have Y:=D5 (P:=P) (cs:=[f]) i;have O:a.tmps.getD t undef=.pointer (some ⟨b,0,none⟩):=hf.eval (x:=.tmp t) hv;have Q:a.tmps.getD t1 undef=.pointer (some ⟨d,0,none⟩):=hf.eval (x:=.tmp t1) l;subst J;refine⟨.tuple #[.agg cs,f],A,?_,g,D w m,hf.defers⟩;have S:a.tmps[t]?.getD undef=.pointer (some ⟨b,0,none⟩):=by simpa using O
 have T:a.tmps[t1]?.getD undef=.pointer (some ⟨d,0,none⟩):=by simpa using Q
 simp at r;have U:w.cell? ⟨d,0,none⟩=some f:=by
  have V:=i 0 f rfl
  rwa [show(⟨d,0,none⟩:Addr).add 0=⟨d,0,none⟩ from by simp[Addr.add_lit]] at V
 simp[results,y,S,T,asAddr,loadVar,ha.h,ha1.h,hs.h,r,U,Sem.run_bind]
def Pi(ds:List Deferred)(N:Nat)(K:y5)(L:F_)(F:l6)(H:List As):Prop:=∀a w,G2 N L a->Hp F w H->K (qM ds a) w
theorem HP{x:Operand}{f:FuncId}{ps qs:List Value}{ops:Array Oper}{b:Array TypeId}{ty:TypeId}{pos:String}{af:Array Edge}(hv:ev L x=some (.func (.func f) ps.toArray qs.toArray))(h:Pi [{target:=.fn (.func f) qs.toArray,args:=ps.toArray}] N K L F H):GL P N ops [⟨none,.defer ⟨.value x,#[],b⟩,ty,pos,af,none⟩] K E R L F H:=by
 unfold GL;intro a w hf c;refine wpList_plain rfl fun g d=>?_;unfold Oper.wp;have e:(execOp a.eval ⟨none,.defer ⟨.value x,#[],b⟩,ty,pos,af,none⟩).run P w=.ok (.defer {target:=.fn (.func f) qs.toArray,args:=ps.toArray}) w:=by
  simp[execOp,resolve,hf.eval hv,Deferred.ofValue,Sem.run_bind]
 rw[e,Oper.upon_defer,iT hf];exact d _ _ (h a w hf c)
def Su(P:Program)(y:Code)(Q:Exit->Act->World->Prop):Exit->Act->World->Prop
 |.normal=>fun a w=>y.wp P Q a w
 |e=>Q e
theorem nu{ds:List Deferred}{x y:Code}{Q:Exit->Act->World->Prop}(h:Pi ds N (fun a w=>x.wp P (Su P y Q) a w) L F H):Pi ds N (fun a w=>(Code.seq x y).wp P Q a w) L F H:=fun a w hf b=>
 wp_seq (Code.wp_mono (fun e a w q=>by cases e<;>exact q) (h a w hf b))
theorem nv{ds:List Deferred}{id:Nat}{l:List Oper}{Q:Exit->Act->World->Prop}{L':F_}{Hr:List As}{Pq:Value->Prop}(h:GL P N l.toArray l (fun a w=>Q .normal (qM ds a) w) [(1,LP N L' F Hr Pq)] (fun _ _=>False) L F H)(hp:∀tm w v,G2 N L' ⟨tm,[]⟩->Hp F w Hr->Pq v->Q (.panic [{v:=v,recovered:=false}]) (qM ds ⟨tm,[]⟩) w):Pi ds N (fun a w=>(Code.region id l.toArray false).wp P Q a w) L F H:=fun a w hf d=>
 tS ds h (fun _ _ q=>q) (fun a w v ⟨tm,k,e,b,f,g,i⟩=>by
  obtain⟨c,j⟩:=Array.push_eq_push.1 e;subst j;obtain⟨m,n⟩:=a;simp only at c b;subst b;subst c;exact hp _ _ _ f g i) (fun _ _ q=>q.elim) hf d
theorem jZ{ds:List Deferred}{y:Code}{Q:Exit->Act->World->Prop}(h:Pi ds N (fun a w=>y.wp P Q a w) L F H):At N (fun a w=>Su P y Q .normal (qM ds a) w) L F H:=by
 unfold At;exact fun a w hf b=>h a w hf b
theorem Mo{ds:List Deferred}{Q:Exit->Act->World->Prop}(h:Pi ds N (fun a w=>Q .ret a w) L F H):Pi ds N (fun a w=>Code.ret.wp P Q a w) L F H:=fun a w hf b=>wp_ret (h a w hf b)
def DU(P:Program)(fn:Func)(F:l6)(Post:Value->List As->Prop):Ending->World->Prop:=fun e w=>∃v A,e=.returned v/\Post v A/\Hp F w A
def KpD(P:Program)(fn:Func)(F:l6)(Post:Value->List As->Prop):y5:=fun a w=>∃tm v,a.tmps=tm.push v/\bodyPostD P fn (DU P fn F Post) (.panic [{v:=v,recovered:=false}]) ⟨tm,a.defers⟩ w
theorem DV{f:FuncId}{fn:Func}{c:Code}{args:List Value}{d:l9->Prop}{C:List As}{b:Value->List As->Prop}(N:Nat)(hf:P.funcs[f]? =some fn)(n:fn.body=some c)(o:fn.ntmps=N)(m:Nat.ble args.length N=true)(h:∀F:l6,d F.heap->G P N c (fun _ _=>False) [(1,KpD P fn F b)] (bodyPostD P fn (DU P fn F b) .ret) (au 0 args) F C):Ct P f args d C b:=by
 intro w p hs r g;refine calls_of_wp_defers hf n ?_;rw[o];have j:=h (p_ w p) g;unfold G at j;refine Code.wp_mono (fun e a x q=>?_) (j _ w (T2 N args m) (Hp.start hs r))
 cases e with
 |normal=>exact q.elim
 |ret=>exact q
 |exit id=>simp[MQ,List.lookup] at q
 |goto l=>exact q.elim
 |panic ch=>
  rcases q with⟨k,v,i,_⟩|⟨k,v,i,rfl,q⟩
  ·cases i
  ·injection i with i;subst i;obtain⟨y,z,j,s⟩:=q;obtain⟨t,u⟩:=Array.push_eq_push.1 j;subst u;subst t;exact s
 |outgrown=>exact q.elim
theorem ui{fn:Func}{b:Value->List As->Prop}(h:At N (dj P fn F b) L F H):At N (bodyPostD P fn (DU P fn F b) .ret) L F H:=by
 unfold At at h⊢;intro a w hf c;obtain⟨v,A,d,e,f,g⟩:=h a w hf c;show Leaves P fn a.tmps _ a.defers .returning w;rw[g];exact⟨v,d,v,A,rfl,e,f⟩
theorem pM{fn:Func}{a:Value->List As->Prop}{tm:Array Value}{w:World}(h:At N (dj P fn F a) L F H)(hf:G2 N L ⟨tm,[]⟩)(b:Hp F w H):Leaves P fn tm (DU P fn F a) [] .returning w:=by
 unfold At at h;obtain⟨v,A,c,d,e,f⟩:=h _ w hf b;exact⟨v,c,v,A,rfl,d,e⟩
end
abbrev dfr(g5 g2 g3:Nat):Deferred:={target:=.fn (.func 136) #[m6 g5,m6 g2,m6 g3],args:=#[]}
theorem DW{fn:Func}{a:Value->List As->Prop}{tm:Array Value}{w:World}{F:l6}{H:List As}{L:F_}{b c g3:Nat}(h:At 72 (dj prog fn F a) L F H)(hf:G2 72 L ⟨tm,[]⟩)(g:Hp F w H):Leaves prog fn tm (DU prog fn F a) [dfr b c g3] .returning w:=by
 refine leaves_cons (f:=136) (args:=#[m6 b,m6 c,m6 g3]) x8 (by simp[go_sem]) ?_;refine(Ph b c g3 F H w g).mono ?_;rintro e i j ⟨rfl,rfl,d⟩;exact pM h hf d
theorem pN{fn:Func}{a:Value->List As->Prop}{tm:Array Value}{w:World}{F:l6}{R:List As}{L:F_}{b g g3:Nat}{c d:CM}{e:Int}(h:At 72 (dj prog fn F a) L F (gW b c G8::gW g c G8::xw g3 4::R))(hf:G2 72 L ⟨tm,[]⟩)(j:Hp F w (gW b c G8::gW g d G8::xw g3 e::R)):Leaves prog fn tm (DU prog fn F a) [dfr b g g3] (.panicking [{v:=N0,recovered:=false}]) w:=by
 refine leaves_cons (f:=136) (args:=#[m6 b,m6 g,m6 g3]) x8 (by simp[go_sem]) ?_;refine(Mm b g g3 c d e F R w j).mono ?_;rintro e k l ⟨rfl,rfl,i⟩;exact pM h hf i
abbrev cq(s:Bs):CM:={first s with uid:=qQ s,kind:=H5 (R8 (P9 s))}
abbrev behind(s:Bs):Nat:=sY s+(P9 s).length
def bq(s:Bs)(c:CM)(e:Int):Prop:=
 if eW s=false then c=ip/\e=11
 else if H5 (R8 (P9 s))=0\/qQ s=true/\H5 (R8 (P9 s))<15 then c=first s/\e=10
 else(bv s (cq s) (behind s) (some (c,s.length))/\e=0)\/((bv s (cq s) (behind s) none\/∃q,bv s (cq s) (behind s) (some q)/\q.2≠s.length)/\c=first s/\e=4)
abbrev Pj(s:Bs)(v:Value)(A:List As):Prop:=∃c e x,bq s c e/\v=.tuple #[xt c x,.int .i64 e]/\rY c x A
theorem dX(c:CM)(h:c.set=[]/\c.a4U=[]/\c.keys=[]/\c.a5c=[]):rY c G8 []:=aZ (.inl h.1) (.inl h.2.1) h.2.2.1 (.inl h.2.2.2)
instance hf_fnI (k:Nat):HF prog (NC k):=by unfold NC;split<;>infer_instance
theorem Bp(w:Bs):H5 w<=18:=by
 unfold H5;split
 ·rename_i h;have a:=List.idxOf_lt_length_of_mem h;have b:vj.length=18:=rfl;omega
 ·omega
theorem HQ{s:Bs}(h:eW s=true):(dr s).length+1<=s.length:=by
 unfold eW at h;simp only[kw] at h;exact iu h.2 x8
theorem Bq(s:Bs):H3 s [85,73,68,32] ((dr s).length+1)=sY s:=by
 unfold H3 sY qQ;split<;>rfl
theorem so(s:Bs)(hs:s.length<=1000000000):Ct prog 71 [B s] Gl [] (Pj s):=by
 refine DV 72 func71 rfl rfl rfl fun F hg=>?_;refine p9 ?_;intro f;refine p9 ?_;intro g;refine p9 ?_;refine f_ (y7 rfl rfl) ?_;refine p9 ?_;intro d;refine z_ ?_;refine c_ (OS d s hs) qw ?_;rintro v A ⟨rfl,p,c,rfl,ht⟩;refine R6 ?_ ?_<;>intro h
 ·have l:eW s=false:=by simpa using h
  refine C6 ?_;refine f_ (y7 rfl rfl) ?_;refine z_ ?_;refine A3 (ui ?_);exact dW rfl rfl rfl ud rfl ud [] ⟨ip,11,G8,by unfold bq;rw[zu l];exact qh,rfl,dX _ ⟨rfl,rfl,rfl,rfl⟩⟩ (fun w b=>b.dropAll)
 have l:eW s=true:=by simpa using h
 obtain⟨rfl,rfl⟩:=ht l;have y:=HQ l;have j:=gv (s:=s) (w:=[85,73,68,32]) y;rw[Bq] at j;refine aF ?_;refine f_ (y7 rfl rfl) ?_;refine p9 ?_;intro i;refine E6 ?_;refine c_ (S5 d s [85,73,68,32] ((dr s).length+1) (first s) G8 qb y qp) qw ?_;rintro v A ⟨rfl,rfl⟩;rw[Bq];refine O2 ?_;have O:=bK (q:=fun c=>!decide (c=32)) (s:=s) (p:=sY s) j.2;obtain⟨k,m⟩:=o7 (H5 (R8 (P9 s)));obtain⟨u,hu⟩:=o7 (qQ s);have Q:k<=18:=m▸Bp _;by_cases hk0:k=0
 ·refine p9 ?_;refine c_ (eK 135 (fun c=>!decide (c=32)) GZ d s (sY s) {first s with uid:=qQ s} G8 qb j.2) qw ?_;rintro v A ⟨rfl,rfl⟩;rw[show N7 (fun c=>!decide (c=32)) s (sY s)=P9 s from rfl];refine e_ rfl (I2 (P9 s) (by unfold P9;omega)) qw rfl ?_;refine e_ rfl (lZ (R8 (P9 s))) qw rfl ?_;rw[<-m,hk0,show LK 0=.tuple #[.agg #[.int .i64 0,.bool false,.nilFunc],.bool false] from rfl];refine O2 ?_;intro z;refine wk 19 ?_;refine A3 (ui ?_);exact dW rfl rfl rfl ud rfl ud [] ⟨first s,10,G8,by unfold bq;rw[zk (by rw[l];simp),zu (.inl (m▸hk0))];exact qh,rfl,dX _ ⟨rfl,rfl,rfl,rfl⟩⟩ (fun w b=>b.dropAll)
 obtain⟨q,S⟩:=o7 (decide (15<=k));refine p9 ?_;refine c_ (eK 135 (fun c=>!decide (c=32)) GZ d s (sY s) {first s with uid:=qQ s} G8 qb j.2) qw ?_;rintro v A ⟨rfl,rfl⟩;rw[show N7 (fun c=>!decide (c=32)) s (sY s)=P9 s from rfl];refine e_ rfl (I2 (P9 s) (by unfold P9;omega)) qw rfl ?_;refine e_ rfl (lZ (R8 (P9 s))) qw rfl ?_;rw[<-m,show LK k=.tuple #[.agg #[.int .i64 (k:Nat),.bool q,.func (.func (NC k)) #[] #[]],.bool true] from by rw[S];unfold LK fnV;rw[zk hk0,jq hk0]];refine O2 ?_;intro z;refine z_ ?_;rw[<-hu];refine y6 [(0,B s),(2,m6 f),(3,m6 g),(4,m6 d),(5,m6 i),(6,m6 z),(47,.bool (u&&!q))] [.blk z (.cells #[.int .i64 (k:Nat),.bool q,.func (.func (NC k)) #[] #[]] 214),H7 d s (behind s) {first s with uid:=u} G8,gW i (first s) G8,xw g 0,gW f ip G8] ?_ ?_
 ·cases u
  all_goals (
   refine wk 14 ?_)
  all_goals exact u6 sub i_
 refine O1 ?_ ?_<;>intro h
 ·have T:qQ s=true/\H5 (R8 (P9 s))<15:=by
   rw[<-hu,<-m];rw[kw] at h;refine⟨h.1,?_⟩;have Y:=h.2;rw[S] at Y;simpa using Y
  refine E6 ?_;refine A3 (ui ?_);exact dW rfl rfl rfl ud rfl ud [] ⟨first s,10,G8,by unfold bq;rw[zk (by rw[l];simp),zu (.inr T)];exact qh,rfl,dX _ ⟨rfl,rfl,rfl,rfl⟩⟩ (fun w b=>b.dropAll)
 have D:¬(H5 (R8 (P9 s))=0\/qQ s=true/\H5 (R8 (P9 s))<15):=by
  rw[<-hu,<-m];rintro(U|⟨U,h2⟩)
  ·exact hk0 U
  ·rw[U,S,Kd,Qq qb] at h;simp at h
 have n:∀{c e},((bv s (cq s) (behind s) (some (c,s.length))/\e=0)\/((bv s (cq s) (behind s) none\/∃q,bv s (cq s) (behind s) (some q)/\q.2≠s.length)/\c=first s/\e=4))->bq s c e:=fun h=>by
  unfold bq;rw[zk (by rw[l];simp),zk D];exact h
 have V:behind s<=s.length:=O;refine C6 ?_;refine f_ (nH rfl rfl) ?_;refine HP rfl ?_;refine nu (nv (L':=[(2,m6 f),(3,m6 g),(5,m6 i)]) (Hr:=[gW i (first s) G8,gW f ip G8,xw g 0]) (Pq:=fun _=>False) ?_ fun _ _ _ _ _ h=>h.elim);refine wk 7 ?_;refine jZ (nu (nv (L':=[(2,m6 f),(3,m6 g),(5,m6 i)]) (Hr:=[gW i (first s) G8,gW f ip G8,xw g 0]) (Pq:=fun v=>bv s (cq s) (behind s) none/\v=N0) ?_ fun t w v hf b o=>?_))
 rotate_left 1
 ·obtain⟨o,rfl⟩:=o;refine .inr ⟨_,N0,rfl,rfl,t,N0,rfl,?_⟩;refine pN (L:=[(2,m6 f),(3,m6 g),(5,m6 i)]) (R:=[]) ?_ hf b;exact dW rfl rfl rfl ud rfl ud [] ⟨first s,4,G8,n (.inr ⟨.inl o,rfl,rfl⟩),rfl,dX _ ⟨rfl,rfl,rfl,rfl⟩⟩ (fun w b=>b.dropAll)
 subst m hu;refine E6 ?_;refine yA [.blk z (.cells #[.int .i64 (H5 (R8 (P9 s)):Nat),.bool q,.func (.func (NC (H5 (R8 (P9 s))))) #[] #[]] 214),gW i (first s) G8,xw g 0,gW f ip G8] rfl rfl rfl (LO d s hs (cq s) (behind s) V (Nat.pos_of_ne_zero hk0) Q) (fun w b=>b.perm (List.Perm.swap _ _ _)) pre rfl rfl sub (fun w b=>(tk (C:=[gW i (first s) G8,gW f ip G8,xw g 0])).hp b|>.left) (fun v h=>h) ?_;refine u7 ?_;rintro v A ⟨r,x,Z,hr,rfl,rfl,J⟩;refine I6 (H':=H7 d s r.2 r.1 x::gW i (first s) G8::xw g 0::gW f ip G8::Z) (fun w b=>?_) ?_
 ·have h9:Hp F w ((.blk z (.cells #[.int .i64 (H5 (R8 (P9 s)):Nat),.bool q,.func (.func (NC (H5 (R8 (P9 s))))) #[] #[]] 214)::[gW i (first s) G8,xw g 0,gW f ip G8])++(H7 d s r.2 r.1 x::Z)):=b.perm kz;exact h9.drop.perm (Qd (l₁:=[gW i (first s) G8,xw g 0,gW f ip G8]))
 refine u7 ?_;refine jZ (nu (nv (L':=[(2,m6 f),(3,m6 g),(5,m6 i)]) (Hr:=[gW i (first s) G8,gW f ip G8,xw g 0]) (Pq:=fun v=>r.2≠s.length/\v=N0) ?_ fun t w v hf b o=>?_))
 rotate_left 1
 ·obtain⟨o,rfl⟩:=o;refine .inr ⟨_,N0,rfl,rfl,t,N0,rfl,?_⟩;refine pN (L:=[(2,m6 f),(3,m6 g),(5,m6 i)]) (R:=[]) ?_ hf b;exact dW rfl rfl rfl ud rfl ud [] ⟨first s,4,G8,n (.inr ⟨.inr ⟨r,hr,o⟩,rfl,rfl⟩),rfl,dX _ ⟨rfl,rfl,rfl,rfl⟩⟩ (fun w b=>b.dropAll)
 refine cH ?_;refine f_ ((p7 rfl rfl).eq (v':=.bool (decide (r.2=s.length))) (qn (zc.2 Jj))) ?_;refine DA _ rfl (G6 (decide (r.2=s.length))) i_ qw rfl rfl sub (fun w b=>(tk (C:=[gW i (first s) G8,gW f ip G8,xw g 0])).hp b|>.left) (fun v h=>⟨zq h.1,h.2⟩) ?_;rintro v A ⟨X,rfl,rfl⟩;refine u7 ?_;have M:r.2=s.length:=qr X;refine jZ (nu (nv (L':=[]) (Hr:=[]) (Pq:=fun _=>False) ?_ fun _ _ _ _ _ h=>h.elim));refine cH ?_;refine jZ (Mo fun a w hf b=>?_);obtain⟨t,ds⟩:=a;have hd:=hf.defers;simp only at hd;subst hd;refine DW (L:=[(2,m6 f),(3,m6 g)]) (tm:=t) (w:=w) ?_ (hf.sub sub) b;exact dW rfl rfl rfl ud rfl ud Z ⟨r.1,0,x,n (.inl ⟨by rw[<-M];exact hr,rfl⟩),rfl,J⟩ (fun w b=>b.drop.drop.drop.drop)
open Go Go.Sl Go.Proofs.Tryz
structure re(c:CM):Prop where
 le:tq c
 box:c.box.length<=64
 fl:∀f∈c.a5c,f.length<=32
theorem sr{f x:Bs}(h:E2 f=some x):x.length<=32:=by
 unfold E2 at h;split at h
 ·next g hg=>
  injection h with h;subst h;have a:=Ky hg;have b:∀w∈R5,w.length<=32:=by decide
  exact b _ a
 ·split at h
  ·next k=>injection h with h;subst h;unfold U6;rw[zm];exact k.2
  ·cases h
theorem HR{s:Bs}{p:Nat}{q:List Bs×Nat}(h:ol s p=some q):q.1.length<=16/\∀f∈q.1,f.length<=32:=by
 unfold ol at h;split at h
 ·next k=>
  injection h with h;subst h;have a:=iX (lO (s:=s.drop p) (l:=(T5 (s.drop p)).1) (n:=(T5 (s.drop p)).2.1) (by rw[<-k]));exact⟨a.2.2,fun f hf=>sr (a.1 f hf)⟩
 ·cases h
theorem Mp{s b:Bs}(h:iW s=some b):b.length<=64:=by
 unfold iW at h;split at h
 ·next k=>
  injection h with h;have a:s.length<=64:=by
   unfold uX at k;simp only[kw,jx] at k;exact k.1.1.2
  subst h;split
  ·decide
  ·exact a
 ·cases h
theorem Mq{s:Bs}{p:Nat}{q:List (Nat×Nat)×Nat}(h:qP s p=some q):q.1.length<=64:=by
 unfold qP at h;obtain⟨l,a,rfl⟩:=ky.1 h;unfold vg at a;split at a
 ·cases a
 ·have:=jO _ _ a;simp only;omega
theorem uj{s:Bs}{p:Nat}{q:Bs×Nat}(h:my s p=some q):q.1.length<=4096:=by
 unfold my at h;obtain⟨c,_,h⟩:=zd.1 h;obtain⟨n,b,h⟩:=zd.1 h;obtain⟨d,_,h⟩:=zd.1 h;split at h
 ·injection h with h;subst h;unfold mw at b;obtain⟨m,_,a⟩:=zd.1 b;split at a
  ·next k=>injection a with a;subst a;simp only[zn];omega
  ·cases a
 ·cases h
theorem DX{s:Bs}{p:Nat}{q:Bs×Nat}(h:ir s p=some q):q.1.length<=64:=by
 unfold ir at h;obtain⟨e,_,h⟩:=zd.1 h;unfold Nu at h;obtain⟨r,_,h⟩:=zd.1 h;obtain⟨b,a,rfl⟩:=ky.1 h;exact Mp a
theorem su{l:List (Bs×Nat×Bool)}{s:Bs}{p:Nat}{q:List IT×Nat}(h:om l s p=some q):q.1.length<=8:=by
 unfold om at h;obtain⟨r,_,h⟩:=zd.1 h;split at h
 ·next k=>obtain⟨e,_,rfl⟩:=ky.1 h;exact k
 ·cases h
theorem Mr(q:UInt8->Bool)(s:Bs)(p:Nat):(N7 q s p).length<=s.length:=by
 unfold N7;have a:=(Js (l:=s.drop p) q).length_le;rw[z8] at a;omega
theorem Ms{s:Bs}{p:Nat}{r:Bs×Nat}(h:kW s p=some r):r.1.length<=4096+s.length:=by
 unfold kW at h;split at h
 ·have:=uj h;omega
 split at h
 ·obtain⟨q,a,rfl⟩:=ky.1 h;have b:=xY (s:=s.drop p);have c:=AT (s.drop p);rw[a] at b c;simp only[Zb,z8] at b c;simp only;omega
 ·obtain⟨q,a,h⟩:=zd.1 h;split at h
  ·injection h with h;subst h;omega
  ·cases h
structure Sv(c d:CM):Prop where
 tag:d.tag=c.tag
 kind:d.kind=c.kind
 uid:d.uid=c.uid
theorem fR{c:CM}{s:Bs}{p:Nat}{q:CM×Nat}(h:I8 c s p=some q):∃b:Bs,b.length<=64/\q.1={c with box:=b}:=by
 unfold I8 at h;obtain⟨r,a,rfl⟩:=ky.1 h;exact⟨r.1,DX a,rfl⟩
theorem Pk{c:CM}{s:Bs}{p:Nat}{q:CM×Nat}(h:vn c s p=some q):∃n b,q.1={c with a4W:=n,a4V:=b}:=by
 unfold vn at h;split at h
 ·obtain⟨r,_,rfl⟩:=ky.1 h;exact⟨_,_,rfl⟩
 ·injection h with h;subst h;exact⟨_,_,rfl⟩
theorem Mt{c:CM}{s:Bs}{p:Nat}{q:CM×Nat}(hs:s.length<=1000000000)(h:T6 c s p=some q)(x:c.kind≠15)(hc:re c):re q.1/\Sv c q.1:=by
 have i:∀{b:Bs},b.length<=64->re {c with box:=b}/\Sv c {c with box:=b}:=fun d=>⟨⟨⟨hc.le.set,hc.le.a4U,hc.le.keys,hc.le.ksets,hc.le.a5c,hc.le.data,hc.le.pat⟩,d,hc.fl⟩,rfl,rfl,rfl⟩;unfold T6 at h;split at h
 ·injection h with h;subst h;exact⟨hc,rfl,rfl,rfl⟩
 split at h
 ·obtain⟨e,_,rfl⟩:=ky.1 h;exact⟨hc,rfl,rfl,rfl⟩
 split at h
 ·unfold dq at h;obtain⟨r,_,h⟩:=zd.1 h;obtain⟨t,_,rfl⟩:=ky.1 h;exact⟨⟨⟨hc.le.set,hc.le.a4U,hc.le.keys,hc.le.ksets,hc.le.a5c,hc.le.data,hc.le.pat⟩,hc.box,hc.fl⟩,rfl,rfl,rfl⟩
 split at h
 ·unfold kX at h;obtain⟨r,a,rfl⟩:=ky.1 h;obtain⟨b,d,e⟩:=fR a;split
  ·simp only[e];exact⟨⟨⟨hc.le.set,hc.le.a4U,hc.le.keys,hc.le.ksets,hc.le.a5c,hc.le.data,hc.le.pat⟩,d,hc.fl⟩,rfl,rfl,rfl⟩
  ·rw[e];exact i d
 split at h
 ·obtain⟨b,d,e⟩:=fR h;rw[e];exact i d
 split at h
 ·unfold je at h;obtain⟨e,_,h⟩:=zd.1 h;split at h
  ·obtain⟨t,y,rfl⟩:=ky.1 h;exact⟨⟨⟨hc.le.set,hc.le.a4U,hc.le.keys,hc.le.ksets,hc.le.a5c,hc.le.data,by have:=Ms y;simp only;omega⟩,hc.box,hc.fl⟩,rfl,rfl,rfl⟩
  ·injection h with h;subst h;exact⟨⟨⟨hc.le.set,hc.le.a4U,hc.le.keys,hc.le.ksets,hc.le.a5c,hc.le.data,by have:=Mr iq s e;simp only;omega⟩,hc.box,hc.fl⟩,rfl,rfl,rfl⟩
 split at h
 ·unfold jf at h;obtain⟨r,a,h⟩:=zd.1 h;obtain⟨e,_,h⟩:=zd.1 h;obtain⟨t,j,rfl⟩:=ky.1 h;obtain⟨b,d,e⟩:=fR a;simp only[e];exact⟨⟨⟨hc.le.set,su j,hc.le.keys,hc.le.ksets,hc.le.a5c,hc.le.data,hc.le.pat⟩,d,hc.fl⟩,rfl,rfl,rfl⟩
 split at h
 ·unfold ji at h;obtain⟨r,a,h⟩:=zd.1 h;obtain⟨e,_,h⟩:=zd.1 h;obtain⟨b,d,e⟩:=fR a;split at h
  ·obtain⟨f,hf,h⟩:=zd.1 h;obtain⟨w,_,h⟩:=zd.1 h;obtain⟨t,j,rfl⟩:=ky.1 h;obtain⟨o,v⟩:=HR hf;simp only[e];exact⟨⟨⟨hc.le.set,hc.le.a4U,hc.le.keys,hc.le.ksets,o,uj j,hc.le.pat⟩,d,v⟩,rfl,rfl,rfl⟩
  ·obtain⟨t,j,rfl⟩:=ky.1 h;simp only[e];exact⟨⟨⟨hc.le.set,hc.le.a4U,hc.le.keys,hc.le.ksets,hc.le.a5c,uj j,hc.le.pat⟩,d,hc.fl⟩,rfl,rfl,rfl⟩
 have g:∀{k:CM->Nat->Option (CM×Nat)},cK c s p k=some q->∃(l:List (Nat×Nat)) (e:Nat),l.length<=64/\k {c with set:=l} e=some q:=fun{k} h=>by
  unfold cK at h;obtain⟨e,_,h⟩:=zd.1 h;obtain⟨r,a,h⟩:=zd.1 h;exact⟨r.1,r.2,Mq a,h⟩
 split at h
 ·obtain⟨l,e,m,h⟩:=g h;unfold aG at h;obtain⟨w,_,h⟩:=zd.1 h;unfold ot at h;obtain⟨r,a,h⟩:=zd.1 h;have z:r.1.length<=8:=by
   split at a
   ·exact su a
   ·obtain⟨t,_,rfl⟩:=ky.1 a;simp
  obtain⟨n,b,e⟩:=Pk h;rw[e];exact⟨⟨⟨m,z,hc.le.keys,hc.le.ksets,hc.le.a5c,hc.le.data,hc.le.pat⟩,hc.box,hc.fl⟩,rfl,rfl,rfl⟩
 split at h
 ·obtain⟨l,e,m,h⟩:=g h;unfold aG at h;obtain⟨w,_,h⟩:=zd.1 h;unfold ou at h;obtain⟨r,a,h⟩:=zd.1 h;obtain⟨A,_,h⟩:=zd.1 h;obtain⟨C,_,h⟩:=zd.1 h;obtain⟨f,hf,rfl⟩:=ky.1 h;obtain⟨o,v⟩:=HR hf;have hu:∃n b,r.1={c with set:=l,a4W:=n,a4V:=b}:=by
   unfold Ow at a;split at a
   ·obtain⟨t,_,a⟩:=zd.1 a;obtain⟨u,_,rfl⟩:=ky.1 a;exact⟨_,_,rfl⟩
   ·injection a with a;subst a;exact⟨_,_,rfl⟩
  obtain⟨n,b,e⟩:=hu;simp only[e];exact⟨⟨⟨m,hc.le.a4U,hc.le.keys,hc.le.ksets,o,hc.le.data,hc.le.pat⟩,hc.box,v⟩,rfl,rfl,rfl⟩
 ·obtain⟨l,e,m,h⟩:=g h;obtain⟨b,d,e⟩:=fR h;rw[e];exact⟨⟨⟨m,hc.le.a4U,hc.le.keys,hc.le.ksets,hc.le.a5c,hc.le.data,hc.le.pat⟩,d,hc.fl⟩,rfl,rfl,rfl⟩
structure a03(s:Bs)(c:CM)(e:Int):Prop where
 le:re c
 er:e=11\/e=10\/e=4\/e=0
 no:e=11->c=ip
 tag:e≠11->c.tag=dr s/\eW s=true
 kind:e=0->1<=c.kind/\c.kind<=18
theorem ke{c:CM}(e:c.a4Y=[])(g:c.set=[])(h:c.a4U=[])(a:c.keys=[])(b:c.a5c=[])(i:c.data=[])(j:c.box=[]):re c:=⟨⟨by rw[g];decide,by rw[h];decide,by rw[a];decide,(fun k d=>by rw[a] at d;cases d),by rw[b];decide,by rw[i];decide,by rw[e];decide⟩,by rw[j];decide,fun f hf=>by rw[b] at hf;cases hf⟩
theorem pO(s:Bs):re (first s):=ke rfl rfl rfl rfl rfl rfl rfl
theorem wz{s:Bs}{c:CM}{e:Int}(hs:s.length<=1000000000)(h:bq s c e):a03 s c e:=by
 unfold bq at h;split at h
 ·obtain⟨rfl,rfl⟩:=h;exact⟨ke rfl rfl rfl rfl rfl rfl rfl,.inl rfl,fun _=>rfl,fun h=>absurd rfl h,qx⟩
 next b=>
 have b:eW s=true:=by simpa using b
 split at h
 ·obtain⟨rfl,rfl⟩:=h;exact⟨pO s,.inr (.inl rfl),qx,fun _=>⟨rfl,b⟩,qx⟩
 next k=>
 rcases h with⟨h,rfl⟩|⟨_,rfl,rfl⟩
 ·have a:re (cq s):=ke rfl rfl rfl rfl rfl rfl rfl;have d:1<=(cq s).kind/\(cq s).kind<=18:=by
   have:=Bp (R8 (P9 s));have j:H5 (R8 (P9 s))≠0:=fun j=>k (.inl j);show 1<=H5 (R8 (P9 s))/\H5 (R8 (P9 s))<=18;omega
  unfold bv at h;split at h
  ·next f=>
   rcases h with h|⟨l,e,h,i,g⟩
   ·cases h
   ·injection h with h;have h:=jk Prod.fst h;simp only at h;subst h;exact⟨⟨⟨a.le.set,a.le.a4U,i,g,a.le.a5c,a.le.data,a.le.pat⟩,a.box,a.fl⟩,.inr (.inr (.inr rfl)),qx,fun _=>⟨rfl,b⟩,fun _=>d⟩
  ·next f=>
   obtain⟨i,g⟩:=Mt hs h.symm f a;exact⟨i,.inr (.inr (.inr rfl)),qx,fun _=>⟨g.tag,b⟩,fun _=>by rw[g.kind];exact d⟩
 ·exact⟨pO s,.inr (.inr (.inl rfl)),qx,fun _=>⟨rfl,b⟩,qx⟩
open Go Go.Sl Go.RowKit Go.Proofs.Tryz
theorem yL{P:Program}{L:F_}{dst:Option Tmp}{ty t e:TypeId}{pos:String}{af:Array Edge}{gd:Option (Nat×Bool)}{z:Value}{ps:List (Nat×Operand)}{vs:List (Nat×Value)}{cells:Array Value}{len sz:Nat}[hu:HU P t (.array len e)][hs:HS P e sz][hz:HZ P t z](hx:zP L ps=some vs)(a:Instr.fill (fun i=>some (i*sz,sz)) z.cells vs=some cells):E3 P ⟨dst,.build t ps.toArray,ty,pos,af,gd⟩ L (.agg cells):=
 cB hx (fun w=>by simp[Instr.build,hz.h,run_underlying hu.h,hs.h,a])
theorem wA{P:Program}{L:F_}{dst:Option Tmp}{ty t e:TypeId}{pos:String}{af:Array Edge}{gd:Option (Nat×Bool)}{x:Operand}{a:Option Addr}{n c:Nat}[hu:HU P t (.slice e)](hx:ev L x=some (.slice a n c)):E3 P ⟨dst,.call ⟨.builtin .cap,#[x],#[t]⟩,ty,pos,af,gd⟩ L (.int .i64 c):=by
 unfold E3;intro ρ w hf;simp[execOp,resolve,invoke,builtin,Builtin.cap_,hf _ _ hx,run_underlying hu.h,goInt]
theorem Mu(n:Nat)(k:n<=1000000):Ct prog 339 [.slice none 0 0,.int .i64 (n:Nat)] (fun _=>True) [] (fun v A=>∃a c,v=.slice a 0 c/\A=[A4 a [] c]):=by
 refine b_ 27 func339 rfl rfl rfl ?_;intro F _;refine z_ ?_;refine f_ ((F5 rfl rfl).eq (v':=.bool false) (qn qj)) ?_;refine z_ ?_;refine f_ (wA rfl) ?_;refine E6 ?_;refine f_ ((D_ rfl rfl qb).eq (v':=.int .i64 (n:Nat)) (by congr 1)) ?_;refine eE ?_ ?_<;>intro h
 ·have i:0<n:=by have:=qr h;omega
  refine z_ ?_;refine f_ (wA rfl) ?_;refine f_ ((B5 rfl rfl rfl qb).eq (v':=.slice none 0 0) (by simp[Y3])) ?_;refine p9 ?_;refine oE rfl rfl i qp rfl (by show n*16<=_;omega) qb rfl ?_;intro b d f;refine z_ ?_;refine f_ ((B5 rfl rfl rfl qb).eq (v':=.slice (some ⟨b,0,none⟩) 0 d) (by simp[dQ])) ?_;refine bM ?_;exact d_ rfl rfl [A4 (some ⟨b,0,none⟩) [] d] ⟨_,_,rfl,rfl⟩ (fun w e=>by have g:=e.cutOwn (j:=0) uh qb;rw[Z0,Kk] at g;exact g)
 ·refine L6 ?_;exact d_ rfl rfl [A4 none [] 0] ⟨none,0,rfl,rfl⟩ (fun w e=>e.addNil _ _)
theorem DY(l m:List Bs)(a b:Option Addr)(c d e:Nat)(r:Option Addr)(hl:l.length<=100000)(O:m.length<=100000):Ct prog 270 [.slice r 2 e] (fun h=>n9 h r [.slice a l.length c,.slice b m.length d]/\n9 h a (fV l)/\n9 h b (fV m)) [] (fun v A=>∃x y,v=.slice x (l++m).length y/\A=[A4 x (l++m) y]):=by
 refine b_ 36 func270 rfl rfl rfl ?_;rintro F ⟨s,ha,D⟩;have t:∃z,r=some z:=by obtain⟨z,e,_⟩:=s x8;exact⟨z,e⟩
 have o:∀{w:World} {H:List As},Hp F w H->L4 (hp w) (M8 r 0) [.slice a l.length c]:=fun f=>mP f s x8 (fun j u hu=>by match j,hu with|0,hu=>simp at hu;subst hu;rfl);have dH:∀{w:World} {H:List As},Hp F w H->L4 (hp w) (M8 r 1) [.slice b m.length d]:=fun f=>mP f s x8 (fun j u hu=>by match j,hu with|0,hu=>simp at hu;subst hu;rfl);refine aF ?_;refine o9 (ι:=Nat) (fun k=>k<=2) (fun k=>[(0,.slice r 2 e),(9,.slice r 2 e),(10,.int .i64 2),(11,.int .i64 (k:Nat)),(3,.int .i64 ((if k=0 then 0 else if k=1 then l.length else l.length+m.length:Nat):Int))]) (fun _=>[]) (fun k=>2-k) 0 qb sub i_ ?_;intro k C;refine p9 ?_;obtain rfl|rfl|rfl:k=0\/k=1\/k=2:=by omega
 ·refine p9 ?_;refine r_ (i8 rfl (fun w f=>o f)) ?_;refine O2 ?_;refine f_ ((p8 rfl rfl (by simp;omega)).eq (v':=.int .i64 (l.length:Nat)) x8) ?_;refine z_ ?_;refine f_ ((F5 rfl rfl).eq (v':=.bool false) (qn qj)) ?_;refine z_ ?_;exact l8 1 qb qb sub i_
 ·refine p9 ?_;refine r_ (i8 rfl (fun w f=>dH f)) ?_;refine O2 ?_;refine f_ ((p8 rfl rfl (by simp;omega)).eq (v':=.int .i64 ((l.length+m.length:Nat):Int)) x8) ?_;refine z_ ?_;refine f_ ((F5 rfl rfl).eq (v':=.bool false) (qn qj)) ?_;refine z_ ?_;exact l8 2 qb qb sub i_
 refine p9 ?_;refine c_ (Mu (l.length+m.length) qb) qw ?_;rintro v A ⟨J,M,rfl,rfl⟩;refine O2 ?_;refine o9 (ι:=Nat×Option Addr×Nat) (fun k=>k.1<=2) (fun k=>[(0,.slice r 2 e),(25,.slice r 2 e),(26,.int .i64 2),(27,.int .i64 (k.1:Nat)),(6,.slice k.2.1 (if k.1=0 then[] else if k.1=1 then l else l++m).length k.2.2)]) (fun k=>[A4 k.2.1 (if k.1=0 then[] else if k.1=1 then l else l++m) k.2.2]) (fun k=>2-k.1) (0,J,M) x8 sub i_ ?_;rintro⟨k,x,y⟩ C;simp only at C;refine p9 ?_;obtain rfl|rfl|rfl:k=0\/k=1\/k=2:=by omega
 ·refine p9 ?_;refine r_ (i8 rfl (fun w f=>o f)) ?_;refine E6 ?_;refine B_ (xs:=fV []) (n:=0) (news:=fV l) rfl rfl (H':=fun p q=>[.own (.slice p (0+l.length) q) 9 1 (fV []++fV l)]) (fun p q=>.here) (fun w f=>ha.le f.keep) (by rw[L7,Zv]) rfl rfl (kU _) (by show(0+l.length)*16<=_;omega) qb rfl ?_;intro PX g _;refine p9 ?_;rw[show 0+l.length=l.length from ju _];refine z_ ?_;exact l8 (i:=(0,x,y)) (1,PX,g) x8 x8 sub i_
 ·refine p9 ?_;refine r_ (i8 rfl (fun w f=>dH f)) ?_;refine E6 ?_;refine B_ (xs:=fV l) (n:=l.length) (news:=fV m) rfl rfl (H':=fun p q=>[.own (.slice p (l.length+m.length) q) 9 1 (fV l++fV m)]) (fun p q=>.here) (fun w f=>D.le f.keep) (by rw[L7,Zv]) rfl rfl (kU _) (by show(l.length+m.length)*16<=_;omega) qb rfl ?_;intro PX g _;refine p9 ?_;rw[<-zz];refine z_ ?_;exact l8 (i:=(1,x,y)) (2,PX,g) x8 x8 sub (fun w f=>by rw[<-gn] at f;exact f)
 refine L6 ?_;exact d_ rfl rfl [A4 x (l++m) y] ⟨x,y,rfl,rfl⟩ i_
theorem yM(l m:List Bs)(a b:Option Addr)(c d:Nat)(g:m.length<=100000):Ct prog 197 [.slice a l.length c,.slice b m.length d] (fun h=>n9 h a (fV l)/\n9 h b (fV m)) [] (OJ m):=by
 refine b_ 7 func197 rfl rfl rfl ?_;rintro F ⟨ha,e⟩;refine z_ ?_;refine c_ (oQ m b d qb) (fun h f _=>e.le f) ?_;rintro v A ⟨x,y,rfl,rfl⟩;refine C8 ?_;exact d_ rfl rfl _ ⟨x,y,rfl,rfl⟩ i_
theorem Mv(l m:List Bs)(a b:Option Addr)(c d:Nat)(hl:l.length<=100000)(k:m.length<=100000):Ct prog 198 [.slice a l.length c,.slice b m.length d] (fun h=>n9 h a (fV l)/\n9 h b (fV m)) [] (OJ (l++m)):=by
 refine b_ 10 func198 rfl rfl rfl ?_;rintro F ⟨ha,n⟩;refine E6 ?_;refine x5 (ps:=[(0,.tmp 5),(1,.tmp 6)]) (vs:=[(0,.slice a l.length c),(1,.slice b m.length d)]) (xs:=[.slice a l.length c,.slice b m.length d]) rfl rfl rfl rfl rfl rfl rfl rfl ?_;rintro o _;refine c_ (DY l m a b c d 2 o hl k) ?pre ?_;(case pre=>exact fun h f ⟨p,e⟩=>⟨A1.rd e ud,ha.le f,n.le f⟩);rintro v A ⟨x,y,rfl,rfl⟩;refine c_ (oQ (l++m) x y (by rw[zz];omega)) ?pre ?_;(case pre=>exact fun h f ⟨p,e⟩=>A1.rd e ud);rintro v A ⟨g,i,rfl,rfl⟩;refine C8 ?_;exact d_ rfl rfl _ ⟨g,i,rfl,rfl⟩ (fun w j=>j.drop.perm (.refl _)|>fun _=>(tk (C:=[A4 g (T4 (l++m)) i])).hp j|>.left)
theorem wB(g:Nat)(m:List Bs)(b:Option Addr)(d:Nat)(e:m.length<=100000)(f:Bs):Pu prog 272 [B f,m6 g] (fun h=>aH g (.slice b m.length d) 34 h/\n9 h b (fV m)) (.bool (decide (f∈m))):=by
 refine b_ 7 func272 rfl rfl rfl ?_;rintro F ⟨hg,a⟩;refine E6 ?_;refine e_ rfl (ue m b d f qb) (fun h c _=>a.le c) rfl ?_;refine C8 ?_;exact d_ rfl rfl [] qh i_
theorem Mw(l:List Bs)(a:Option Addr)(c:Nat)(f:FuncId)[HF prog f](qs:List Value)(b:l9->Prop)[Mn b](q:Bs->Bool)(d:∀x∈l,Pu prog f (B x::qs) b (.bool (q x)))(hl:l.length<=1000000000):Ct prog 271 [.slice a l.length c,.func (.func f) #[] qs.toArray] b [A4 a l c] (fun v A=>v=.slice a (l.filter fun x=>!q x).length c/\A=[A4 a (l.filter fun x=>!q x) c]):=by
 have h:=CP l a c f qs b q d hl;simp only[<-Ar] at h;exact h
theorem yN(l m:List Bs)(a b:Option Addr)(c d:Nat)(hl:l.length<=100000)(j:m.length<=100000):Ct prog 199 [.slice a l.length c,.slice b m.length d] (fun h=>n9 h a (fV l)/\n9 h b (fV m)) [] (fun v A=>∃x y,v=.slice x ((T4 l).filter fun f=>!decide (f∈m)).length y/\A=[A4 x ((T4 l).filter fun f=>!decide (f∈m)) y]):=by
 refine b_ 9 func199 rfl rfl rfl ?_;rintro F ⟨ha,k⟩;have n:=Ay l;refine C6 ?_;refine L1 rfl rfl rfl ?_;intro e;refine z_ ?_;refine c_ (oQ l a c qb) (fun h g _=>ha.le g) ?_;rintro v A ⟨x,y,rfl,rfl⟩;refine p9 ?_;refine c_ (Mw (T4 l) x y 272 [m6 e] (fun h=>aH e (.slice b m.length d) 34 h/\n9 h b (fV m)) (fun f=>decide (f∈m)) (fun f _=>wB e m b d j f) qb) ?pre ?_;(case pre=>exact fun h g i=>⟨I9 i,k.le g⟩);rintro v A ⟨rfl,rfl⟩;refine C8 ?_;exact d_ rfl rfl _ ⟨x,y,rfl,rfl⟩ (fun w o=>Hp.left (A:=[_]) o)
def a04(q:List Bs×Int)(v:Value)(A:List As):Prop:=∃x y,v=.tuple #[.slice x q.1.length y,.int .i64 q.2]/\A=[A4 x q.1 y]
abbrev Sw:Array Value:=#[.func (.func 197) #[] #[],.func (.func 198) #[] #[],.func (.func 199) #[] #[]]
def yO(l:List Bs)(how:Int)(m:List Bs):List Bs:=if how=0 then T4 m else if how=1 then T4 (l++m) else(T4 l).filter fun f=>!decide (f∈m)
theorem DZ(l m:List Bs)(how:Int)(a b:Option Addr)(c d:Nat)(hl:l.length<=100000)(t:m.length<=100000)(u:∀f∈l,f.length<=lh)(z:∀f∈m,f.length<=lh):Ct prog 119 [.slice a l.length c,.int .i64 how,.slice b m.length d] (fun h=>n9 h a (fV l)/\n9 h b (fV m)) [] (a04 (F8 l how m)):=by
 obtain⟨p,C⟩:=o7 (F9 l);obtain⟨q,D⟩:=o7 (F9 m);obtain⟨r,J⟩:=o7 (decide (how<0));obtain⟨S,M⟩:=o7 (decide (3<=how));refine b_ 37 func119 rfl rfl rfl ?_;rintro F ⟨ha,s⟩;refine PY ?_;refine f_ (yL rfl rfl) ?_;refine p9 ?_;intro T;refine p9 ?_;refine y6 [(0,.slice a l.length c),(1,.int .i64 how),(2,.slice b m.length d),(8,m6 T),(26,.bool (!p||(!q||(r||S))))] [.blk T (.cells Sw 259)] ?_ ?_
 ·cases p<;>cases q<;>cases r
  all_goals (
   refine p9 ?_;refine e_ rfl (gG l a c qb u) (fun h g _=>ha.le g) rfl ?_;rw[<-C];refine E6 ?_;(first|refine u_ ?_|(refine v_ ?_;refine e_ rfl (gG m b d qb z) (fun h g _=>s.le g) rfl ?_;rw[<-D]));refine O2 ?_;(first|refine u_ ?_|(refine v_ ?_;refine f_ ((F5 rfl rfl).eb J) ?_));refine E6 ?_;(first|refine u_ ?_|(refine v_ ?_;refine f_ ((I3 rfl rfl).eb M) ?_));refine p9 ?_)
  all_goals exact u6 sub i_
 refine O1 ?_ ?_<;>intro h
 ·have e:F8 l how m=([],1):=by
   unfold F8;refine zu ?_;rw[<-C,<-D]
   revert h
   cases p<;>cases q<;>cases r<;>cases S<;>simp<;>(try exact .inl (qr J.symm))<;>(try exact .inr (qr M.symm))
  rw[e];refine L6 ?_;exact q_ rfl rfl rfl [A4 none [] 0] ⟨none,0,rfl,rfl⟩ (fun w j=>j.dropAll.addNil _ _)
 have O:¬how<0:=fun k=>by rw[J,jq k] at h;cases p<;>cases q<;>simp at h
 have Q:¬3<=how:=fun k=>by rw[M,jq k] at h;cases p<;>cases q<;>cases r<;>simp at h
 have e:F8 l how m=if 16<(yO l how m).length then([],7) else(yO l how m,0):=by
  unfold F8 yO;refine zk ?_;rw[<-C,<-D];rintro(n|n|n|n)
  ·rw[n] at h;simp at h
  ·rw[n] at h;cases p<;>simp at h
  ·exact O n
  ·exact Q n
 rw[e];refine u7 ?_;refine n7 (ι:=Option Addr×Nat) (fun _=>True) (fun i=>[(9,.slice i.1 (yO l how m).length i.2)]) (fun i=>[A4 i.1 (yO l how m) i.2]) ?_ ?_
 ·obtain rfl|rfl|rfl:how=0\/how=1\/how=2:=by omega
  ·refine aF ?_;refine y9 _ rfl rfl rfl (yM l m a b c d t) i_ (fun h g _=>⟨ha.le g,s.le g⟩) rfl ?_;rintro v A ⟨x,y,rfl,rfl⟩;refine p9 ?_;exact g_ (x,y) trivial (fun w j=>Hp.left (A:=[_]) j)
  ·refine aF ?_;refine y9 _ rfl rfl rfl (Mv l m a b c d hl t) i_ (fun h g _=>⟨ha.le g,s.le g⟩) rfl ?_;rintro v A ⟨x,y,rfl,rfl⟩;refine p9 ?_;exact g_ (x,y) trivial (fun w j=>Hp.left (A:=[_]) j)
  ·refine aF ?_;refine y9 _ rfl rfl rfl (yN l m a b c d hl t) i_ (fun h g _=>⟨ha.le g,s.le g⟩) rfl ?_;rintro v A ⟨x,y,rfl,rfl⟩;refine p9 ?_;exact g_ (x,y) trivial (fun w j=>Hp.left (A:=[_]) j)
 rintro⟨x,y⟩ _;refine eE ?_ ?_<;>intro h
 ·have o:16<(yO l how m).length:=by have:=qr h;omega
  rw[zu o];refine L6 ?_;exact q_ rfl rfl rfl [A4 none [] 0] ⟨none,0,rfl,rfl⟩ (fun w j=>j.dropAll.addNil _ _)
 ·have o:¬16<(yO l how m).length:=by have:=zq h;omega
  rw[zk o];refine bM ?_;exact q_ rfl rfl rfl _ ⟨x,y,rfl,rfl⟩ i_
