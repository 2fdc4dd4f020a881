import Derived.Test.YtmcepdopookilaaGreatDoorubx15
set_option maxHeartbeats 16000000
set_option maxRecDepth 8000
set_option linter.unusedVariables false
set_option linter.unusedSimpArgs false
set_option linter.defProp false
namespace Go.Proofs.YtmcepdopookilaaGreatDoor.Rp
open Go Go.Sl Go.RowKit Go.Proofs.Tryz
theorem DX(i:IT):Pu prog 223 [.agg (bR i).toArray] (fun _=>True) (.bool (decide (10<=i.kind)&&!i.peek)):=by
 obtain⟨q,a⟩:=o8 (decide (10<=i.kind));rw[<-a];refine b_ 11 func223 rfl rfl rfl ?_;intro F _;refine C7 ?_;refine m8 rfl rfl ?_;intro c;refine r7 ?_
 cases q
 all_goals (
  refine A1 ?_;refine f_ ((I5 rfl rfl).eq (qn ((qz).trans a.symm))) ?_;refine aq ?_)
 all_goals (refine A4 ?_;exact d_ rfl rfl [] qh (fun w b=>b.dropAll))
section
variable(b:Nat)(s:SE)(x:SL)(d:DD)(y:DL)(c:CM)(k:CL)(hv:s.a5N.a5M.length<=100000)(hvu:∀r∈s.a5N.a5M,r.1<18446744073709551616)(hc:qY c)(hn:s.num<18446744073709551615)(hl:y.rl.length<=100000)
include hv hvu hc hn hl
theorem DY:DV 150 b s x d y c k (DW s d c):=by
 have h9:=hc.set;have k0:=hc.a5Q;obtain⟨e,he⟩:∃e,X7 s.a5N c.set c.uid=e:=⟨_,rfl⟩;obtain⟨j,m,n,f,t,g,o,p,q⟩:=s;refine y5 47 func150 rfl rfl rfl ?_;rintro F R ⟨Y,X⟩;refine C7 ?_;refine m8 rfl rfl ?_;intro g3;refine A1 ?_;refine e_ (lB b ⟨j,m,n,f,t,g,o,p,q⟩ x d y c k e he hv qb qb) ?pre ?_;(case pre=>exact fun h hh ⟨bs,O⟩=>⟨A3.rd O ud,X.set.le hh⟩);rintro v A ⟨Q,U,D,rfl,hy,rfl⟩;refine ap ?_
 cases e with
 |none=>
  obtain⟨a1,c1,rfl⟩:∃a c1,D=F5 y (gZ c.tag,L0) a c1:=hy;refine L7 ?_;refine H4 (A:=l5 x.ra f.a5M x.rc::O2 b ⟨j,m,n,f,t,g,o,p,q⟩ x d (F5 y (gZ c.tag,L0) a1 c1)) (v:=.tuple #[]) (l8.le_refl _) (nA (.inr rfl) Y) ?_;exact m6 rfl _ qh (fun w M=>C6 (A:=[_,_,_]) (J:=[_,_]) tk M)
 |some l=>
  obtain rfl:D=y:=hy;obtain⟨h2,h3⟩:=eW he;have k8:f.a5M.length<=100000:=hv;have h8:l.length<=f.a5M.length:=h3;have hu:fT l:=fun u hu=>by obtain⟨r,hr,rfl⟩:=h2 u hu;exact hvu r hr
  refine A1 ?_;refine B9 (Z:=[U3 Q l U,.blk g3 (.cells (iA c k).toArray 36)]) tk fun F1 S O=>?_;have V:n9 F1.heap Q (nV l):=by obtain⟨bs,O⟩:=O;exact A3.rd O ud
  have p3:F1.heap g3=some (.cells (iA c k).toArray 36 (0,0)):=J_ O;clear O;replace Y:=Mn.le S.heap Y;replace X:=Mn.le S.heap X;obtain⟨sn,h4⟩:=o8 (c.a5Q.any (fun i=>decide (10<=i.kind)&&!i.peek));refine r7 ?_;refine r_ (i8 rfl (fun w M=>I0 M p3 rfl)) ?_;refine c_ rfl (V4 bR Q_ c.a5Q k.ia k.ic 223 [] (fun _=>True) (fun i=>decide (10<=i.kind)&&!i.peek) (fun i _=>DX i) qb) (fun h hh _=>⟨X.a5Q.le hh,trivial⟩) rfl ?_;rw[<-h4];refine r7 ?_;refine x8 [(0,l9 b),(3,l9 g3),(4,.slice Q l.length U),(31,.bool (t||(c.a5R||!sn)))] (E9 b ⟨j,m,n,f,t,g,o,p,q⟩ x d D::u7 D.da D.rl D.dc::l5 x.ra f.a5M x.rc::R) ?_ ?_
  ·obtain⟨hs,h0⟩:=o8 (c.a5R);rw[<-h0]
   cases t<;>cases hs
   all_goals (
    refine wk 7 ?_;(first|(refine T4 rfl rfl rfl rfl rfl rfl rfl ?_)|(refine v_ ?_;refine r_ ((i8 rfl (fun w M=>I0 M p3 rfl)).eb h0) ?_));refine ap ?_)
   all_goals exact p9 sub (fun w M=>(tk (C:=[_,_,_])).hp M)
  refine O0 ?_ ?_<;>intro h
  ·refine r7 ?_;refine r_ (di rfl p3 ga) ?_;refine f_ (y8 (ps:=[(0,.const (.int .i64 3))]) (vs:=[(0,.int .i64 3)]) (cells:=(eE be cX).toArray) rfl i6) ?_;refine r7 ?_;refine e_ (dC b ⟨j,m,n,f,t,g,o,p,q⟩ x d D c k be cX l Q U hn) qw ?_;rintro v A ⟨rfl,rfl⟩;refine ox ?_;refine H4 (A:=l5 x.ra f.a5M x.rc::O2 b (G3 (⟨j,m,n,f,t,g,o,p,q⟩,d) c be l).1 {x with cl:=k,ua:=Q,uc:=U} (G3 (⟨j,m,n,f,t,g,o,p,q⟩,d) c be l).2 {D with ql:=cX}) (v:=.tuple #[]) S (nB he (.look _ _) ⟨n9.nil _ _,n9.nil _ _⟩ V Y X) ?_;exact m6 rfl _ qh (fun w M=>C6 (A:=[_,_,_]) (J:=[]) tk M)
  refine r7 ?_;refine e_ (jV b ⟨j,m,n,f,t,g,o,p,q⟩ x d D 7) qw ?_;rintro v A ⟨rfl,rfl⟩;refine i7 rfl ?_;intro g7;refine xG ?_;refine C4 (C:=fun w:Bs=>[B w]) wJ rfl ?_;intro a39 _;refine O3 ?_;refine B9 (Z:=[.own (.slice a39 1 1) 9 1 [B wJ]]) tk fun F2 z ⟨bs,O⟩=>?_;have h1:n9 F2.heap a39 (fV [wJ]):=A3.rd O ud;have h5:=z.heap _ _ p3;refine r7 ?_;refine r_ (di rfl h5 ga) ?_;refine A1 ?_;refine A9 (iM b ⟨j,m,n,f,t,g,o,p,q⟩ x d D c k {al (⟨j,m,n,f,t,g,o,p,q⟩,d) 7 with a5Y:=[wJ],how:=1} ⟨none,0,a39,1⟩ l Q U hv qb hu hn) ⟨⟨n9.nil _ _,h1⟩,V.le z.heap⟩ ?_;rintro v A F3 T ⟨rfl,r',z',h6,h7,rfl⟩;refine w8 ?_;refine H4 (A:=l5 x.ra f.a5M x.rc::O2 b (G3 (⟨j,m,n,f,t,g,o,p,q⟩,d) c r' l).1 {x with cl:=k,ua:=Q,uc:=U} (G3 (⟨j,m,n,f,t,g,o,p,q⟩,d) c r' l).2 {D with ql:=z'}) (v:=.tuple #[]) ((S.trans z).trans T) (nB he (rn.chg ⟨.inr (.inl rfl),.inr rfl,by simp[al],.inr (.inr rfl),.inl rfl⟩ h6) h7 (V.le (z.trans T).heap) (Mn.le (z.trans T).heap Y) (Mn.le (z.trans T).heap X)) ?_;exact m6 rfl _ qh (fun w M=>C6 (A:=[_,_,_]) (J:=[_]) tk M)
theorem DZ:DV 151 b s x d y c k (DW s d c):=by
 have h5:=hc.set;have h6:=hc.a5Y;obtain⟨e,U⟩:∃e,X7 s.a5N c.set c.uid=e:=⟨_,rfl⟩;refine y5 38 func151 rfl rfl rfl ?_;rintro F R ⟨q,t⟩;refine C7 ?_;refine m8 rfl rfl ?_;intro S;refine w8 ?_;refine n7 (ι:=DL) (fun f=>s.ro=true/\(∃a j,f=F5 y (ER c.tag,L0) a j)\/s.ro=false/\f=y) (fun _=>[(0,l9 b),(3,l9 S),(9,.bool s.ro)]) (fun f=>E9 b s x d f::u7 f.da f.rl f.dc::.blk S (.cells (iA c k).toArray 36)::l5 x.ra s.a5N.a5M x.rc::R) ?_ ?_
 ·refine A1 ?_;refine e_ (rZ b s x d y c k qb) qw ?_;rintro v A ⟨rfl,hA⟩;refine w8 ?_;rcases hA with⟨z,a,j,rfl⟩|⟨z,rfl⟩
  ·exact g_ (F5 y (ER c.tag,L0) a j) (.inl ⟨z,a,j,rfl⟩) i_
  ·exact g_ y (.inr ⟨z,rfl⟩) i_
 rintro f C;refine O0 ?_ ?_<;>intro h
 ·obtain⟨a,j,rfl⟩:∃a j,f=F5 y (ER c.tag,L0) a j:=by rcases C with⟨_,m⟩|⟨m,_⟩;exact m;(rw[h] at m;cases m)
  refine ox ?_;refine H4 (A:=l5 x.ra s.a5N.a5M x.rc::O2 b s x d (F5 y (ER c.tag,L0) a j)) (v:=.tuple #[]) (l8.le_refl _) (nA (.inl rfl) q) ?_;exact m6 rfl _ qh (fun w g=>C6 (A:=[_,_,_]) (J:=[_]) tk g)
 obtain rfl:f=y:=by rcases C with⟨m,_⟩|⟨_,m⟩;(rw[h] at m;cases m);exact m
 refine A1 ?_;refine e_ (lB b s x d f c k e U hv qb qb) ?pre ?_;(case pre=>exact fun h V ⟨bs,n⟩=>⟨A3.rd n ud,t.set.le V⟩);rintro v A ⟨D,T,M,rfl,hy,rfl⟩;refine ap ?_
 cases e with
 |none=>
  obtain⟨a1,j,rfl⟩:∃a j,M=F5 f (gZ c.tag,L0) a j:=hy;refine L7 ?_;refine H4 (A:=l5 x.ra s.a5N.a5M x.rc::O2 b s x d (F5 f (gZ c.tag,L0) a1 j)) (v:=.tuple #[]) (l8.le_refl _) (nA (.inr rfl) q) ?_;exact m6 rfl _ qh (fun w g=>C6 (A:=[_,_,_]) (J:=[_,_]) tk g)
 |some l=>
  obtain rfl:M=f:=hy;obtain⟨X,h7⟩:=eW U;have hu:fT l:=fun u hu=>by obtain⟨r,z,rfl⟩:=X u hu;exact hvu r z
  refine A1 ?_;refine B9 (Z:=[U3 D l T,.blk S (.cells (iA c k).toArray 36)]) tk fun F1 p n=>?_;have O:n9 F1.heap D (nV l):=by obtain⟨bs,n⟩:=n;exact A3.rd n ud
  have Q:F1.heap S=some (.cells (iA c k).toArray 36 (0,0)):=J_ n;clear n;replace q:=Mn.le p.heap q;replace t:=Mn.le p.heap t;refine r7 ?_;refine e_ (jV b s x d M 7) qw ?_;rintro v A ⟨rfl,rfl⟩;refine i7 rfl ?_;intro g6;refine r7 ?_;refine D2 [1,4,6,8] [2,10,12,14,16] [] 17 ?_;refine wd [0] ?_;refine D1 1 rfl (i8 rfl (fun w g=>I0 g Q rfl)) G2 rfl rfl rfl i6 ?_;refine wd [3] ?_;refine D1 4 rfl (i8 rfl (fun w g=>I0 g Q rfl)) G2 rfl rfl rfl i6 ?_;refine wd [5] ?_;refine D1 6 rfl (i8 rfl (fun w g=>I0 g Q rfl)) G2 rfl rfl rfl i6 ?_;refine wd [7] ?_;refine D1 8 rfl (i8 rfl (fun w g=>I0 g Q rfl)) G2 rfl rfl rfl i6 ?_;refine h_ 2 rfl i6 ?_;refine e_ (Y4 c.a5Y k.fa k.fc qb) (fun h V _=>t.a5Y.le V) ?_;rintro v A ⟨Y,fc,rfl,rfl⟩;refine fg [9,10,11,12,13,14,15,16] ?_;refine B9 (Z:=[A5 Y c.a5Y fc]) tk fun F2 i ⟨bs,n⟩=>?_;have h0:n9 F2.heap Y (fV c.a5Y):=A3.rd n ud;have h2:=i.heap _ _ Q;refine r7 ?_;refine r_ (di rfl h2 ga) ?_;refine A1 ?_;refine A9 (iM b s x d M c k {al (s,d) 7 with a5Y:=c.a5Y,how:=c.how,hasS:=c.a5R,a5S:=c.a5S} ⟨none,0,Y,fc⟩ l D T hv qb hu hn) ⟨⟨n9.nil _ _,h0⟩,O.le i.heap⟩ ?_;rintro v A F3 o ⟨rfl,r',z',h3,h4,rfl⟩;refine w8 ?_;refine H4 (A:=l5 x.ra s.a5N.a5M x.rc::O2 b (G3 (s,d) c r' l).1 {x with cl:=k,ua:=D,uc:=T} (G3 (s,d) c r' l).2 {M with ql:=z'}) (v:=.tuple #[]) ((p.trans i).trans o) (nB U (rn.chg ⟨.inr (.inl rfl),.inr rfl,by simp[al],.inr (.inl rfl),.inl rfl⟩ h3) h4 (O.le (i.trans o).heap) (Mn.le (i.trans o).heap q) (Mn.le (i.trans o).heap t)) ?_;exact m6 rfl _ qh (fun w g=>C6 (A:=[_,_,_]) (J:=[_]) tk g)
end
end Go.Proofs.YtmcepdopookilaaGreatDoor.Rp
namespace Go.Proofs.YtmcepdopookilaaGreatDoor.Dg
open Go Go.Sl Go.Proofs.Tryz
abbrev W:=BitVec 32
abbrev bv(p:W):Value:=.int .u32 (p.toNat:Nat)
def gS(x:W)(c:Nat):W:=x>>>c|||x<<<(32-c)
def s0(x:W):W:=gS x 7^^^gS x 18^^^x>>>3
def s1(x:W):W:=gS x 17^^^gS x 19^^^x>>>10
def S0(x:W):W:=gS x 2^^^gS x 13^^^gS x 22
def S1(x:W):W:=gS x 6^^^gS x 11^^^gS x 25
def wb(l:List UInt8)(i:Nat):W:=BitVec.ofNat 32 (l.getD i 0).toNat
def PI(l:List UInt8)(t:Nat):W:=wb l (4*t)<<<24|||wb l (4*t+1)<<<16|||wb l (4*t+2)<<<8|||wb l (4*t+3)
def P_(l:List UInt8):Nat->List W
 |0=>[]
 |n+1=>P_ l n++[if n<16 then PI l n else s1 ((P_ l n).getD (n-2) 0)+(P_ l n).getD (n-7) 0+s0 ((P_ l n).getD (n-15) 0)+(P_ l n).getD (n-16) 0]
theorem U4(l:List UInt8):∀n,(P_ l n).length=n
 |0=>rfl
 |n+1=>by simp[P_,U4 l n]
def Oj:List W:=[
 0x428a2f98#32,0x71374491#32,0xb5c0fbcf#32,0xe9b5dba5#32,0x3956c25b#32,0x59f111f1#32,0x923f82a4#32,0xab1c5ed5#32,
 0xd807aa98#32,0x12835b01#32,0x243185be#32,0x550c7dc3#32,0x72be5d74#32,0x80deb1fe#32,0x9bdc06a7#32,0xc19bf174#32,
 0xe49b69c1#32,0xefbe4786#32,0x0fc19dc6#32,0x240ca1cc#32,0x2de92c6f#32,0x4a7484aa#32,0x5cb0a9dc#32,0x76f988da#32,
 0x983e5152#32,0xa831c66d#32,0xb00327c8#32,0xbf597fc7#32,0xc6e00bf3#32,0xd5a79147#32,0x06ca6351#32,0x14292967#32,
 0x27b70a85#32,0x2e1b2138#32,0x4d2c6dfc#32,0x53380d13#32,0x650a7354#32,0x766a0abb#32,0x81c2c92e#32,0x92722c85#32,
 0xa2bfe8a1#32,0xa81a664b#32,0xc24b8b70#32,0xc76c51a3#32,0xd192e819#32,0xd6990624#32,0xf40e3585#32,0x106aa070#32,
 0x19a4c116#32,0x1e376c08#32,0x2748774c#32,0x34b0bcb5#32,0x391c0cb3#32,0x4ed8aa4a#32,0x5b9cca4f#32,0x682e6ff3#32,
 0x748f82ee#32,0x78a5636f#32,0x84c87814#32,0x8cc70208#32,0x90befffa#32,0xa4506ceb#32,0xbef9a3f7#32,0xc67178f2#32]
def kk(t:Nat):W:=Oj.getD t 0
def t1(S:Nat->W)(k w:W):W:=S 7+S1 (S 4)+(S 4&&&S 5^^^ ~~~S 4&&&S 6)+k+w
def t2(S:Nat->W):W:=S0 (S 0)+(S 0&&&S 1^^^S 0&&&S 2^^^S 1&&&S 2)
def rnd(k w:W)(S:Nat->W):Nat->W
 |0=>t1 S k w+t2 S
 |1=>S 0
 |2=>S 1
 |3=>S 2
 |4=>S 3+t1 S k w
 |5=>S 4
 |6=>S 5
 |_=>S 6
def iN(l:List UInt8)(S:Nat->W):Nat->(Nat->W)
 |0=>S
 |n+1=>rnd (kk n) ((P_ l 64).getD n 0) (iN l S n)
def blk(S:Nat->W)(l:List UInt8):Nat->W:=fun i=>S i+iN l S 64 i
def MC:Nat->W
 |0=>0x6a09e667#32
 |1=>0xbb67ae85#32
 |2=>0x3c6ef372#32
 |3=>0xa54ff53a#32
 |4=>0x510e527f#32
 |5=>0x9b05688c#32
 |6=>0x1f83d9ab#32
 |_=>0x5be0cd19#32
def EU(S:Nat->W):List Value:=[bv (S 0),bv (S 1),bv (S 2),bv (S 3),bv (S 4),bv (S 5),bv (S 6),bv (S 7)]
def MD(m:List UInt8):Nat->(Nat->W)
 |0=>MC
 |n+1=>blk (MD m n) ((m.drop (64*n)).take 64)
def st(m:List UInt8):Nat->W:=MD m (m.length/64)
def rest(m:List UInt8):List UInt8:=m.drop (64*(m.length/64))
def be8(n:Nat):List UInt8:=(List.range 8).map fun i=>UInt8.ofNat (n/2^(56-8*i))
def tail(n:Nat):List UInt8:=[128]++List.replicate ((119-n%64)%64) 0++be8 (n*8%2^64)
def yU(x:W):List UInt8:=[UInt8.ofNat (x.toNat/2^24),UInt8.ofNat (x.toNat/2^16),UInt8.ofNat (x.toNat/2^8),UInt8.ofNat x.toNat]
def cr(S:Nat->W):List UInt8:=(List.range 8).flatMap fun i=>yU (S i)
def sha(m:List UInt8):List UInt8:=cr (st (m++tail m.length))
theorem pS(m s:List UInt8):∀n,64*n<=m.length->MD (m++s) n=MD m n
 |0,_=>rfl
 |n+1,h=>by
  simp only[MD];rw[pS m s n qb,Kr qb,Z5 (by rw[z8];omega)]
section
variable{P:Program}{L:G0}{ty:TypeId}{pos:String}{af:Array Edge}{dst:Option Nat}{gd:Option (Nat×Bool)}{x y:Operand}{t t':TypeId}{p q:W}
theorem sD(p q:W):bits .xor .u32 (p.toNat:Nat) (q.toNat:Nat)=((p^^^q).toNat:Nat):=by rw[u32_xor_nat _ _ p.isLt q.isLt,BitVec.toNat_xor]
theorem Ea(p q:W):bits .and .u32 (p.toNat:Nat) (q.toNat:Nat)=((p&&&q).toNat:Nat):=by rw[u32_and_nat _ _ p.isLt q.isLt,BitVec.toNat_and]
theorem HR(p q:W):bits .or .u32 (p.toNat:Nat) (q.toNat:Nat)=((p|||q).toNat:Nat):=by rw[u32_or_nat _ _ p.isLt q.isLt,BitVec.toNat_or]
theorem iO(hx:ev L x=some (bv p))(a:ev L y=some (bv q)):D_ P ⟨dst,.binOp .xor t x y t',ty,pos,af,gd⟩ L (bv (p^^^q)):=by
 have:=kT (P:=P) (dst:=dst) (gd:=gd) (ty:=ty) (pos:=pos) (af:=af) (t:=t) (t':=t') (op:=.xor) (.inr (.inr (.inl rfl))) hx a
 rwa [sD] at this
theorem pT(hx:ev L x=some (bv p))(a:ev L y=some (bv q)):D_ P ⟨dst,.binOp .and t x y t',ty,pos,af,gd⟩ L (bv (p&&&q)):=by
 have:=kT (P:=P) (dst:=dst) (gd:=gd) (ty:=ty) (pos:=pos) (af:=af) (t:=t) (t':=t') (op:=.and) (.inl rfl) hx a
 rwa [Ea] at this
theorem Bx(hx:ev L x=some (bv p))(a:ev L y=some (bv q)):D_ P ⟨dst,.binOp .or t x y t',ty,pos,af,gd⟩ L (bv (p|||q)):=by
 have:=kT (P:=P) (dst:=dst) (gd:=gd) (ty:=ty) (pos:=pos) (af:=af) (t:=t) (t':=t') (op:=.or) (.inr (.inl rfl)) hx a
 rwa [HR] at this
theorem cv(hx:ev L x=some (bv p))(a:ev L y=some (bv q)):D_ P ⟨dst,.binOp .add t x y t',ty,pos,af,gd⟩ L (bv (p+q)):=
 iW hx a (by rw[IntKind.wrap_u32,BitVec.toNat_add];omega)
theorem PJ(hx:ev L x=some (bv p)):D_ P ⟨dst,.unOp .xor t x,ty,pos,af,gd⟩ L (bv (~~~p)):=by
 have:=NM (P:=P) (dst:=dst) (gd:=gd) (ty:=ty) (pos:=pos) (af:=af) (t:=t) hx;have e:bits .xor .u32 (if IntKind.u32.signed then-1 else IntKind.u32.max) (p.toNat:Nat)=((~~~p).toNat:Nat):=by
  have a:(if IntKind.u32.signed then(-1:Int) else IntKind.u32.max)=(((BitVec.allOnes 32:W).toNat:Nat):Int):=by decide
  rw[a,sD,BitVec.allOnes_xor]
 rwa [e] at this
theorem uu{k:IntKind}{n:Int}(c:Nat)(hx:ev L x=some (bv p))(a:ev L y=some (.int k n))(b:n=(c:Nat))(hc:c<=32):D_ P ⟨dst,.binOp .shl t x y t',ty,pos,af,gd⟩ L (bv (p<<<c)):=by
 have:=Ad (P:=P) (dst:=dst) (gd:=gd) (ty:=ty) (pos:=pos) (af:=af) (t:=t) (t':=t') hx a qb;have e:IntKind.u32.wrap ((p.toNat:Nat)*2^(min n.toNat IntKind.u32.bits))=((p<<<c).toNat:Nat):=by
  have d:min n.toNat IntKind.u32.bits=c:=by subst b;simp[IntKind.bits];omega
  rw[d,IntKind.wrap_u32,BitVec.toNat_shiftLeft,Nat.shiftLeft_eq];rw[Int.natCast_emod,Int.natCast_mul,W9];rfl
 rwa [e] at this
theorem yV{k:IntKind}{n:Int}(c:Nat)(hx:ev L x=some (bv p))(a:ev L y=some (.int k n))(b:n=(c:Nat))(hc:c<=32):D_ P ⟨dst,.binOp .shr t x y t',ty,pos,af,gd⟩ L (bv (p>>>c)):=by
 have:=NL (P:=P) (dst:=dst) (gd:=gd) (ty:=ty) (pos:=pos) (af:=af) (t:=t) (t':=t') hx a qb;have e:((p.toNat:Nat):Int).fdiv (2^(min n.toNat IntKind.u32.bits))=((p>>>c).toNat:Nat):=by
  have d:min n.toNat IntKind.u32.bits=c:=by subst b;simp[IntKind.bits];omega
  rw[d,BitVec.toNat_ushiftRight,Nat.shiftRight_eq_div_pow,K8 _ (by exact Int.pow_nonneg qp)];rw[Int.natCast_ediv,W9];rfl
 rwa [e] at this
theorem nC{a:TypeDesc}[hs:HU P t a][ht:HU P t' (.int .u32)](b:UInt8)(hx:ev L x=some (.int .u8 (b.toNat:Nat))):D_ P ⟨dst,.convert t t' x,ty,pos,af,gd⟩ L (bv (BitVec.ofNat 32 b.toNat)):=
 cM hx (by rw[IntKind.wrap_u32,BitVec.toNat_ofNat];omega)
end
theorem HT(p q:W):p|||q=q|||p:=BitVec.or_comm p q
open Go Go.Sl Go.Proofs.Tryz
theorem ME(c:Nat)(hc:0<c/\c<32):Value.int .u64 (bits .and .u64 (IntKind.u64.wrap (-(c:Int))) 31)=.int .u64 ((32-c:Nat):Int):=by
 have a:IntKind.u64.wrap (-(c:Int))=((18446744073709551616-c:Nat):Int):=by rw[IntKind.wrap_u64];omega
 rw[a,show(31:Int)=((31:Nat):Int) from rfl,u64_and_nat _ _ qb qb,nat_mask5];congr 2;omega
theorem lC(x:W)(c:Nat)(hc:0<c/\c<32):Pu prog 367 [bv x,.int .i64 (-(c:Int))] (fun _=>True) (bv (gS x c)):=by
 refine b_ 17 func367 rfl rfl rfl ?_;intro F _;refine A1 ?_;refine f_ (eF rfl) ?_;refine f_ ((kT (.inl rfl) rfl rfl).eq (ME c hc)) ?_;refine E7 ?_;refine f_ (uu (32-c) rfl rfl rfl qb) ?_;refine E7 ?_;refine f_ (yV c rfl rfl qb qb) ?_;refine f_ (Bx rfl rfl) ?_;refine C5 ?_;exact d_ rfl rfl [] ⟨by rw[HT];rfl,rfl⟩ (fun _ h=>h)
theorem mr(x:W)(a b c:Nat)(d e f:Int)(g:d=a)(i:e=b)(j:f=c)(ha:0<a/\a<32)(k:0<b/\b<32)(hc:0<c/\c<32):
  Pu prog 313 [bv x,.int .i64 d,.int .i64 e,.int .i64 f,.bool false] (fun _=>True) (bv (gS x a^^^gS x b^^^gS x c)):=by
 subst g i j;refine b_ 31 func313 rfl rfl rfl ?_;intro F _;refine O3 ?_;refine c_ rfl (lC x c hc) qw rfl ?_;refine ap ?_;refine c_ rfl (lC x a ha) qw rfl ?_;refine E7 ?_;refine c_ rfl (lC x b k) qw rfl ?_;refine f_ (iO rfl rfl) ?_;refine r7 ?_;refine f_ (iO rfl rfl) ?_;refine C5 ?_;exact d_ rfl rfl [] qh (fun _ h=>h)
theorem kB(x:W)(a b c:Nat)(d e f:Int)(g:d=a)(i:e=b)(j:f=c)(ha:0<a/\a<32)(k:0<b/\b<32)(hc:0<c/\c<32):
  Pu prog 313 [bv x,.int .i64 d,.int .i64 e,.int .i64 f,.bool true] (fun _=>True) (bv (gS x a^^^gS x b^^^x>>>c)):=by
 subst g i j;refine b_ 31 func313 rfl rfl rfl ?_;intro F _;refine O3 ?_;refine c_ rfl (lC x c hc) qw rfl ?_;refine O3 ?_;refine f_ (yV c rfl rfl rfl qb) ?_;refine O3 ?_;refine c_ rfl (lC x a ha) qw rfl ?_;refine E7 ?_;refine c_ rfl (lC x b k) qw rfl ?_;refine f_ (iO rfl rfl) ?_;refine r7 ?_;refine f_ (iO rfl rfl) ?_;refine C5 ?_;exact d_ rfl rfl [] qh (fun _ h=>h)
theorem MF:Pu prog 314 [] (fun _=>True) (.agg (Oj.map bv).toArray):=by
 refine b_ 2 func314 rfl rfl rfl ?_;intro F _;refine r7 ?_;intro c;refine C7 ?_;refine f_ (cK rfl (v:=.agg (Oj.map bv).toArray) (fun w=>by kernel_rfl)) ?_;refine T9 rfl rfl uh (by rfl) (fun q a=>by simp only[Value.cells,Jy,jv] at a;obtain⟨p,_,rfl⟩:=a;rfl) (by rfl) ?_;refine ox ?_;exact Af rfl rfl (fun w b=>Y1 (n:=64) b ud) i6 [] ⟨by kernel_rfl,rfl⟩ (fun _ h=>h.drop)
def hc(S:Nat->W)(r:List UInt8)(n:Int):Array Value:=(EU S++[B r,.int .i64 n]).toArray
def cw(b:Nat)(S:Nat->W)(r:List UInt8)(n:Int):As:=.blk b (.cells (hc S r n) 280)
theorem PK:Ct prog 168 [] (fun _=>True) [] (fun v A=>∃b,v=.pointer (some ⟨b,0,none⟩)/\A=[cw b MC [] 0]):=by
 refine b_ 4 func168 rfl rfl rfl ?_;intro F _;refine xG ?_;refine f_ (cK rfl (v:=.agg (EU MC).toArray) (fun w=>by kernel_rfl)) ?_;refine f_ (cK rfl (v:=.agg (hc MC [] 0)) (fun w=>by kernel_rfl)) ?_;refine r7 ?_;intro a;refine C5 ?_;exact d_ rfl rfl _ ⟨a,rfl,rfl⟩ (fun _ h=>h)
def cx(l:List UInt8)(n:Nat):Array Value:=((P_ l n).map bv++List.replicate (64-n) (bv 0#32)).toArray
theorem mv(l:List UInt8)(n:Nat)(h:n<=64):(cx l n).size=64:=by simp[cx,U4];omega
theorem HV(l:List UInt8){n o i:Nat}(h:o=i)(b:i<n):(cx l n)[o]? =some (bv ((P_ l n).getD i 0)):=by
 subst h;have a:=U4 l n;simp only[cx,Ky];rw[jj (by simp[a];omega)];simp[a,b]
theorem Tf(l:List UInt8){n o:Nat}{v:Value}(h:o=n)(c:n<64)(hv:v=bv ((P_ l (n+1)).getD n 0)):eG (cx l n) o [v]=cx l (n+1):=by
 subst h hv;have a:=U4 l o;have b:List.replicate (64-o) (bv 0#32)=bv 0#32::List.replicate (64-(o+1)) (bv 0#32):=by
  rw[show 64-o=(64-(o+1))+1 by omega,List.replicate_succ]
 have hg:(P_ l (o+1)).getD o 0=if o<16 then PI l o else s1 ((P_ l o).getD (o-2) 0)+(P_ l o).getD (o-7) 0+s0 ((P_ l o).getD (o-15) 0)+(P_ l o).getD (o-16) 0:=by
  simp[P_,a]
 rw[hg];apply Q7.1;simp only[eG,cx,b];rw[W8 (by simp[a])];simp only[jc];rw[J4,Qc (by simp[a])];simp[a,P_]
theorem HW(l:List UInt8){n:Nat}(h:n<16):(P_ l (n+1)).getD n 0=PI l n:=by simp[P_,U4,h]
theorem HX(l:List UInt8){n:Nat}(h:16<=n):(P_ l (n+1)).getD n 0=s1 ((P_ l n).getD (n-2) 0)+(P_ l n).getD (n-7) 0+s0 ((P_ l n).getD (n-15) 0)+(P_ l n).getD (n-16) 0:=by
 simp[P_,U4,show¬n<16 by omega]
theorem a1E{o i:Nat}(h:o=i)(a:i<64):(Oj.map bv).toArray[o]? =some (bv (kk i)):=by
 subst h;have b:Oj.length=64:=rfl;simp[kk,b,a]
theorem PM(l:List UInt8):(Value.cells (.agg (#[.int .u32 0,.int .u32 0,.int .u32 0,.int .u32 0,.int .u32 0,.int .u32 0,.int .u32 0,.int .u32 0,.int .u32 0,.int .u32 0,.int .u32 0,.int .u32 0,.int .u32 0,.int .u32 0,.int .u32 0,.int .u32 0,.int .u32 0,.int .u32 0,.int .u32 0,.int .u32 0,.int .u32 0,.int .u32 0,.int .u32 0,.int .u32 0,.int .u32 0,.int .u32 0,.int .u32 0,.int .u32 0,.int .u32 0,.int .u32 0,.int .u32 0,.int .u32 0,.int .u32 0,.int .u32 0,.int .u32 0,.int .u32 0,.int .u32 0,.int .u32 0,.int .u32 0,.int .u32 0,.int .u32 0,.int .u32 0,.int .u32 0,.int .u32 0,.int .u32 0,.int .u32 0,.int .u32 0,.int .u32 0,.int .u32 0,.int .u32 0,.int .u32 0,.int .u32 0,.int .u32 0,.int .u32 0,.int .u32 0,.int .u32 0,.int .u32 0,.int .u32 0,.int .u32 0,.int .u32 0,.int .u32 0,.int .u32 0,.int .u32 0,.int .u32 0])))=cx l 0:=by kernel_rfl
def upto(S X:Nat->W)(k:Nat):Nat->W:=fun i=>if i<k then S i+X i else S i
theorem a1F{S:Nat->W}{r:List UInt8}{n:Int}{o i:Nat}(h:o=i)(a:i<8):(hc S r n)[o]? =some (bv (S i)):=by
 subst h;rcases (show o=0\/o=1\/o=2\/o=3\/o=4\/o=5\/o=6\/o=7 by omega) with rfl|rfl|rfl|rfl|rfl|rfl|rfl|rfl<;>rfl
theorem Tg{S:Nat->W}{o i:Nat}(h:o=i)(a:i<8):(EU S).toArray[o]? =some (bv (S i)):=by
 subst h;rcases (show o=0\/o=1\/o=2\/o=3\/o=4\/o=5\/o=6\/o=7 by omega) with rfl|rfl|rfl|rfl|rfl|rfl|rfl|rfl<;>rfl
theorem PN(S X:Nat->W)(r:List UInt8)(n:Int){k o:Nat}(h:o=k)(a:k<8):eG (hc (upto S X k) r n) o [bv (upto S X k k+X k)]=hc (upto S X (k+1)) r n:=by
 subst h;rcases (show o=0\/o=1\/o=2\/o=3\/o=4\/o=5\/o=6\/o=7 by omega) with rfl|rfl|rfl|rfl|rfl|rfl|rfl|rfl<;>rfl
def a1G:Value:=.agg (#[.int .u32 0,.int .u32 0,.int .u32 0,.int .u32 0,.int .u32 0,.int .u32 0,.int .u32 0,.int .u32 0,.int .u32 0,.int .u32 0,.int .u32 0,.int .u32 0,.int .u32 0,.int .u32 0,.int .u32 0,.int .u32 0,.int .u32 0,.int .u32 0,.int .u32 0,.int .u32 0,.int .u32 0,.int .u32 0,.int .u32 0,.int .u32 0,.int .u32 0,.int .u32 0,.int .u32 0,.int .u32 0,.int .u32 0,.int .u32 0,.int .u32 0,.int .u32 0,.int .u32 0,.int .u32 0,.int .u32 0,.int .u32 0,.int .u32 0,.int .u32 0,.int .u32 0,.int .u32 0,.int .u32 0,.int .u32 0,.int .u32 0,.int .u32 0,.int .u32 0,.int .u32 0,.int .u32 0,.int .u32 0,.int .u32 0,.int .u32 0,.int .u32 0,.int .u32 0,.int .u32 0,.int .u32 0,.int .u32 0,.int .u32 0,.int .u32 0,.int .u32 0,.int .u32 0,.int .u32 0,.int .u32 0,.int .u32 0,.int .u32 0,.int .u32 0])
theorem By(S:Nat->W):∀q∈(Value.cells (.agg (EU S).toArray)).toList,q.oneCell'=true:=fun q a=>by
 simp[Value.cells,EU] at a;rcases a with rfl|rfl|rfl|rfl|rfl|rfl|rfl|rfl<;>rfl
theorem HY(b:Nat)(S:Nat->W)(r:List UInt8)(n:Int)(l:List UInt8)(hl:l.length=64):
  Ct prog 240 [.pointer (some ⟨b,0,none⟩),B l] (fun _=>True) [cw b S r n] (fun v A=>v=.tuple #[]/\A=[cw b (blk S l) r n]):=by
 refine b_ 169 func240 rfl rfl rfl ?_;intro F _;refine r7 ?_;intro f;refine r7 ?_;refine o7 (ι:=Nat) (fun k=>k<=16) (fun k=>[(0,.pointer (some ⟨b,0,none⟩)),(1,B l),(4,.pointer (some ⟨f,0,none⟩)),(13,.int .i64 (k:Nat))]) (fun k=>[.blk f (.cells (cx l k) 344),cw b S r n]) (fun k=>16-k) 0 qb ?_ ?_ ?_
 ·exact sub
 ·intro w a;rw[<-PM];exact a
 ·intro k m;refine R7 ?_ ?_<;>intro h
  ·simp only[jg] at h;refine A1 ?_;refine gg ([],[],[]) 32 rfl ?_;refine wd [0,1,2,3] ?_;refine w_ 4 rfl ((A7 rfl rfl qb).eq (v':=.int .u8 ((l.getD (4*k) 0).toNat:Nat)) (by rw[show(4*(k:Int)).toNat=4*k by omega])) ?_;refine w_ 5 rfl (nC _ rfl) ?_;refine w_ 6 rfl (uu 24 rfl rfl rfl qb) ?_;refine wd [7,8,9,10] ?_;refine w_ 11 rfl ((A7 rfl rfl qb).eq (v':=.int .u8 ((l.getD (4*k+1) 0).toNat:Nat)) (by rw[show(4*(k:Int)+1).toNat=4*k+1 by omega])) ?_;refine w_ 12 rfl (nC _ rfl) ?_;refine w_ 13 rfl (uu 16 rfl rfl rfl qb) ?_;refine w_ 14 rfl (Bx rfl rfl) ?_;refine wd [15,16,17,18] ?_;refine w_ 19 rfl ((A7 rfl rfl qb).eq (v':=.int .u8 ((l.getD (4*k+2) 0).toNat:Nat)) (by rw[show(4*(k:Int)+2).toNat=4*k+2 by omega])) ?_;refine w_ 20 rfl (nC _ rfl) ?_;refine w_ 21 rfl (uu 8 rfl rfl rfl qb) ?_;refine w_ 22 rfl (Bx rfl rfl) ?_;refine wd [23,24,25,26] ?_;refine w_ 27 rfl ((A7 rfl rfl qb).eq (v':=.int .u8 ((l.getD (4*k+3) 0).toNat:Nat)) (by rw[show(4*(k:Int)+3).toNat=4*k+3 by omega])) ?_;refine w_ 28 rfl (nC _ rfl) ?_;refine w_ 29 rfl (Bx rfl rfl) ?_;refine wd [30] ?_;refine h_ 31 rfl i6 ?_;refine I6 rfl rfl uh (by rfl) (by(intro q c;simp[Value.cells] at c;first|(subst c;rfl)|(rcases c with rfl|rfl|rfl|rfl|rfl|rfl|rfl|rfl<;>rfl)|(rcases c with rfl|rfl|rfl|rfl|rfl|rfl|rfl|rfl|rfl|rfl|rfl|rfl|rfl|rfl|rfl|rfl|rfl|rfl|rfl|rfl<;>rfl))) (by rw[mv l k qb];omega) ?_;refine E6 [] ?_;refine A1 ?_;refine l6 (k+1) qb qb ?_ ?_
   ·exact sub
   ·intro w a;rw[<-Tf l (o:=0+(k:Int).toNat*1) qb qb (by rw[HW l qb])];exact a
  ·have g:k=16:=(by simp at h;omega);subst g;refine r7 ?_;refine o7 (ι:=Nat) (fun k=>16<=k/\k<=64) (fun k=>[(0,.pointer (some ⟨b,0,none⟩)),(4,.pointer (some ⟨f,0,none⟩)),(6,.int .i64 (k:Nat))]) (fun k=>[.blk f (.cells (cx l k) 344),cw b S r n]) (fun k=>64-k) 16 qb ?_ ?_ ?_
   ·exact sub
   ·intro w a;exact a
   ·intro k m;refine bA ?_ ?_<;>intro h
    ·simp only[jg] at h;refine w8 ?_;refine vi [4,9,14,20] [5,15,23] 24 ?_;refine wd [0,1,2,3] ?_;refine bF 4 rfl ud (E_ rfl .del (HV l (i:=k-2) qb qb)) rfl rfl rfl i6 ?_;refine wd [6,7,8] ?_;refine bF 9 rfl ud (E_ rfl .del (HV l (i:=k-7) qb qb)) rfl rfl rfl i6 ?_;refine wd [11,12,13] ?_;refine bF 14 rfl ud (E_ rfl .del (HV l (i:=k-15) qb qb)) rfl rfl rfl i6 ?_;refine wd [17,18,19] ?_;refine bF 20 rfl ud (E_ rfl .del (HV l (i:=k-16) qb qb)) rfl rfl rfl i6 ?_;refine h_ 5 rfl i6 ?_;refine c_ rfl (kB _ 17 19 10 _ _ _ rfl rfl rfl qb qb qb) qw rfl ?_;refine Y9 ?_;refine w_ 10 rfl (cv rfl rfl) ?_;refine h_ 15 rfl i6 ?_;refine c_ rfl (kB _ 7 18 3 _ _ _ rfl rfl rfl qb qb qb) qw rfl ?_;refine Y9 ?_;refine w_ 16 rfl (cv rfl rfl) ?_;refine w_ 21 rfl (cv rfl rfl) ?_;refine wd [22] ?_;refine h_ 23 rfl i6 ?_;refine I6 rfl rfl uh (by rfl) (by(intro q c;simp[Value.cells] at c;first|(subst c;rfl)|(rcases c with rfl|rfl|rfl|rfl|rfl|rfl|rfl|rfl<;>rfl)|(rcases c with rfl|rfl|rfl|rfl|rfl|rfl|rfl|rfl|rfl|rfl|rfl|rfl|rfl|rfl|rfl|rfl|rfl|rfl|rfl|rfl<;>rfl))) (by rw[mv l k qb];omega) ?_;refine E6 [] ?_;refine E7 ?_;refine l6 (k+1) qb qb ?_ ?_
     ·exact sub
     ·intro w a;rw[<-Tf l (o:=0+(k:Int).toNat*1) qb qb (by rw[HX l qb])];exact a
    ·have d:k=64:=(by simp at h;omega);subst d;refine C7 ?_;refine c_ rfl MF qw rfl ?_;refine r7 ?_;intro t;refine T9 rfl rfl uh (by rfl) (fun q c=>by simp only[Value.cells,Jy,jv] at c;obtain⟨p,_,rfl⟩:=c;rfl) (by rfl) ?_;refine w8 ?_;refine ap ?_;intro j;refine T9 rfl rfl uh (by rfl) (By _) (by rfl) ?_;refine r7 ?_;refine o7 (ι:=Nat) (fun k=>k<=64) (fun k=>[(0,.pointer (some ⟨b,0,none⟩)),(4,.pointer (some ⟨f,0,none⟩)),(7,.pointer (some ⟨t,0,none⟩)),(8,.pointer (some ⟨j,0,none⟩)),(80,.int .i64 (k:Nat))])
      (fun k=>[.blk j (.cells (EU (iN l S k)).toArray 278),.blk t (.cells (Oj.map bv).toArray 344),.blk f (.cells (cx l 64) 344),cw b S r n]) (fun k=>64-k) 0 qb ?_ ?_ ?_
     ·exact sub
     ·intro w a;have e:eG (Value.cells a1G) 0 (Value.cells (.agg (Oj.map bv).toArray)).toList=(Oj.map bv).toArray:=(by kernel_rfl);rw[<-e];exact a
     ·intro k m;refine R7 ?_ ?_<;>intro h
      ·simp only[jg] at h;refine A1 ?_;refine vi [1,3,7,9,12,15,21,25] [4] 28 ?_;refine wd [0,1,2,3,6,7,8,9] ?_;refine w_ 10 rfl (pT rfl rfl) ?_;refine wd [11,12] ?_;refine w_ 13 rfl (PJ rfl) ?_;refine wd [14,15] ?_;refine w_ 16 rfl (pT rfl rfl) ?_;refine w_ 17 rfl (iO rfl rfl) ?_;refine wd [19,20] ?_;refine bF 21 rfl ud (E_ rfl .del (a1E (i:=k) qb qb)) rfl rfl rfl i6 ?_;refine wd [23,24] ?_;refine bF 25 rfl ud (E_ rfl .del (HV l (i:=k) qb qb)) rfl rfl rfl i6 ?_;refine h_ 4 rfl i6 ?_;refine c_ rfl (mr _ 6 11 25 _ _ _ rfl rfl rfl qb qb qb) qw rfl ?_;refine Y9 ?_;refine w_ 5 rfl (cv rfl rfl) ?_;refine w_ 18 rfl (cv rfl rfl) ?_;refine w_ 22 rfl (cv rfl rfl) ?_;refine w_ 26 rfl (cv rfl rfl) ?_;refine wd [27] ?_;refine w8 ?_;refine vi [1,4,6,9,11,15,17] [2] 22 ?_;refine wd [0,1,3,4,5,6] ?_;refine w_ 7 rfl (pT rfl rfl) ?_;refine wd [8,9,10,11] ?_;refine w_ 12 rfl (pT rfl rfl) ?_;refine w_ 13 rfl (iO rfl rfl) ?_;refine wd [14,15,16,17] ?_;refine w_ 18 rfl (pT rfl rfl) ?_;refine w_ 19 rfl (iO rfl rfl) ?_;refine h_ 2 rfl i6 ?_;refine c_ rfl (mr _ 2 13 22 _ _ _ rfl rfl rfl qb qb qb) qw rfl ?_;refine Y9 ?_;refine w_ 20 rfl (cv rfl rfl) ?_;refine wd [21] ?_;refine A1 ?_;refine f_ (cv rfl rfl) ?_;refine wk 9 ?_;refine f_ (cv rfl rfl) ?_;refine aq ?_;refine f_ (cK rfl (v:=.agg (EU (iN l S (k+1))).toArray) (fun w=>by kernel_rfl)) ?_;refine T9 rfl rfl uh (by rfl) (By _) (by rfl) ?_;refine A1 ?_;refine l6 (k+1) qb qb ?_ ?_
       ·exact sub
       ·intro w a;exact a
      ·have d:k=64:=(by simp at h;omega);subst d;refine r7 ?_;refine o7 (ι:=Nat) (fun k=>k<=8) (fun k=>[(0,.pointer (some ⟨b,0,none⟩)),(8,.pointer (some ⟨j,0,none⟩)),(152,.int .i64 (k:Nat))])
        (fun k=>[cw b (upto S (iN l S 64) k) r n,.blk j (.cells (EU (iN l S 64)).toArray 278)]) (fun k=>8-k) 0 qb ?_ ?_ ?_
       ·exact sub
       ·intro w a;exact((a.front (.there (.there (.there .del)))).upd_same (.there (.there .del))).upd_same (.there (.there .del))
       ·intro k m;refine R7 ?_ ?_<;>intro h
        ·simp only[jg] at h;refine A1 ?_;refine vi [5,8] [13] 14 ?_;refine wd [0,1,2,3,4] ?_;refine bF 5 rfl ud (E_ rfl .del (a1F (i:=k) qb qb)) rfl rfl rfl i6 ?_;refine wd [6,7] ?_;refine bF 8 rfl ud (E_ rfl .del (Tg (i:=k) qb qb)) rfl rfl rfl i6 ?_;refine w_ 9 rfl (cv rfl rfl) ?_;refine wd [10,11,12] ?_;refine h_ 13 rfl i6 ?_;refine I6 rfl rfl uh (by rfl) (by(intro q c;simp[Value.cells] at c;first|(subst c;rfl)|(rcases c with rfl|rfl|rfl|rfl|rfl|rfl|rfl|rfl<;>rfl)|(rcases c with rfl|rfl|rfl|rfl|rfl|rfl|rfl|rfl|rfl|rfl|rfl|rfl|rfl|rfl|rfl|rfl|rfl|rfl|rfl|rfl<;>rfl))) (by simp[hc,EU];omega) ?_;refine E6 [] ?_;refine A1 ?_;refine l6 (k+1) qb qb ?_ ?_
         ·exact sub
         ·intro w a;unfold cw;rw[<-PN S (iN l S 64) r n (k:=k) (o:=0+0+(k:Int).toNat*1) qb qb];exact a
        ·have s:k=8:=(by simp at h;omega);subst s;refine w8 ?_;exact m6 rfl [cw b (blk S l) r n] qh (fun w a=>a.upd_same (.there .del))
def HS(b:Nat)(m:List UInt8):As:=cw b (st m) (rest m) (m.length:Nat)
theorem MG(m:List UInt8):(rest m).length<=m.length:=by simp[rest]
theorem wK(m s:List UInt8):rest m++s=(m++s).drop (64*(m.length/64)):=by
 rw[rest,Kr qb]
theorem PO(S:Nat->W)(r:List UInt8)(n:Int):∀q∈(Value.cells (.agg (sl (hc S r n) 0 10).toArray)).toList,q.oneCell'=true:=fun q a=>by
 simp[Value.cells,sl,hc,EU] at a;rcases a with rfl|rfl|rfl|rfl|rfl|rfl|rfl|rfl|rfl|rfl<;>rfl
theorem wL(b:Nat)(m s:List UInt8)(l:m.length+s.length<=9223372036854775807):
  Ct prog 169 [.pointer (some ⟨b,0,none⟩),B s] (fun _=>True) [HS b m] (fun v A=>v=.tuple #[]/\A=[HS b (m++s)]):=by
 have d:=MG m;refine b_ 34 func169 rfl rfl rfl ?_;intro F _;refine wk 17 ?_;refine f_ ((G_ rfl rfl qb).eq (v':=B ((m++s).drop (64*(m.length/64)))) (by rw[wK])) ?_;refine r7 ?_;have f:(m++s).length=m.length+s.length:=by simp
 generalize hTT:m++s=T at*;refine o7 (ι:=Nat) (fun i=>m.length/64<=i/\i<=T.length/64) (fun i=>[(0,.pointer (some ⟨b,0,none⟩)),(1,B (T.drop (64*i)))]) (fun i=>[cw b (MD T i) (rest m) (T.length:Nat)]) (fun i=>T.length/64-i) (m.length/64) qb ?_ ?_ ?_
 ·exact sub
 ·intro w a;have e:MD T (m.length/64)=st m:=by rw[<-hTT,pS m s _ qb];rfl
  rw[e,f];have g:((m.length+s.length:Nat):Int)=(m.length:Int)+(s.length:Int):=by omega
  rw[g];exact a
 ·intro i n;have j:(T.drop (64*i)).length=T.length-64*i:=by simp
  refine eM ?_ ?_<;>intro h
  ·simp only[jg] at h;refine E7 ?_;refine x6 [] rfl (HY b _ _ _ _ (by simp;omega)) i_ qw rfl ?_;rintro v A ⟨rfl,rfl⟩;refine r7 ?_;refine f_ ((H6 rfl rfl rfl qb).eq (v':=B (T.drop (64*(i+1)))) (by congr 2;rw[Kn,jq (by simp;omega)];congr 1)) ?_;refine r7 ?_;refine l6 (i+1) qb qb ?_ ?_
   ·exact sub
   ·intro w a;have e:MD T (i+1)=blk (MD T i) (List.take (Int.toNat 64-Int.toNat 0) (List.drop (Int.toNat 0) (List.drop (64*i) T))):=rfl;rw[e];exact a
  ·have k:T.length-64*i<64:=(by simp at h;omega);have c:i=T.length/64:=(by omega);subst c;refine ap ?_;exact m6 rfl [HS b T] qh i_
def Eb(n k:Nat):List UInt8:=(List.range k).map fun i=>UInt8.ofNat (n/2^(56-8*i))
theorem Ec(n k:Nat):Eb n (k+1)=Eb n k++[UInt8.ofNat (n/2^(56-8*k))]:=by simp[Eb,List.range_succ]
def fj(n k:Nat):List UInt8:=[128]++List.replicate ((119-n%64)%64) 0++Eb (n*8%2^64) k
theorem yW(n k:Nat):fj n (k+1)=fj n k++[UInt8.ofNat (n*8%2^64/2^(56-8*k))]:=by simp[fj,Ec]
theorem Ed(n k:Nat):(fj n k).length<=65+k:=by simp[fj,Eb];omega
theorem Bz(x:Nat):IntKind.u8.wrap (x:Int)=((UInt8.ofNat x).toNat:Nat):=by
 rw[IntKind.wrap_u8,UInt8.toNat_ofNat'];omega
theorem Ia(n k:Nat)(c:k<8):Value.int .u8 (IntKind.u8.wrap ((IntKind.u64.wrap ((n:Int)*8)).fdiv (2^(min (56-8*(k:Int)).toNat IntKind.u64.bits))))=.int .u8 ((UInt8.ofNat (n*8%2^64/2^(56-8*k))).toNat:Nat):=by
 rw[<-Bz];have a:min (56-8*(k:Int)).toNat IntKind.u64.bits=56-8*k:=by simp[IntKind.bits];omega
 have b:IntKind.u64.wrap ((n:Int)*8)=((n*8%2^64:Nat):Int):=by rw[IntKind.wrap_u64];omega
 rw[a,b,K8 _ (by exact Int.pow_nonneg qp)];congr 3
theorem aQ(S:Nat->W):(cr S).length=32:=by simp[cr,yU];rfl
theorem yX(S:Nat->W){i k:Nat}(a:i<8)(b:k<4):(cr S).getD (4*i+k) 0=UInt8.ofNat ((S i).toNat/2^(24-8*k)):=by
 rcases (show i=0\/i=1\/i=2\/i=3\/i=4\/i=5\/i=6\/i=7 by omega) with rfl|rfl|rfl|rfl|rfl|rfl|rfl|rfl<;>
  rcases (show k=0\/k=1\/k=2\/k=3 by omega) with rfl|rfl|rfl|rfl<;>simp[cr,yU,List.range_succ]
def dE(S:Nat->W)(n:Nat):Array Value:=(A6 ((cr S).take n)++List.replicate (32-n) (Value.int .u8 0)).toArray
theorem wM(S:Nat->W)(n:Nat)(h:n<=32):(dE S n).size=32:=by simp[dE,A6,aQ];omega
theorem a1H(S:Nat->W){n o:Nat}{v:Value}(h:o=n)(b:n<32)(hv:v=.int .u8 (((cr S).getD n 0).toNat:Nat)):eG (dE S n) o [v]=dE S (n+1):=by
 subst h hv;have a:=aQ S;have c:List.replicate (32-o) (Value.int .u8 0)=Value.int .u8 0::List.replicate (32-(o+1)) (Value.int .u8 0):=by
  rw[show 32-o=(32-(o+1))+1 by omega,List.replicate_succ]
 have d:(cr S).take (o+1)=(cr S).take o++[(cr S).getD o 0]:=by
  rw[kj qb];simp[a,b]
 apply Q7.1;simp only[eG,dE,c];rw[W8 (by simp[A6,a];omega)];simp only[jc];rw[J4,Qc (by simp[A6,a];omega)];have e:min o 32=o:=by omega
 simp[A6,a,d,e]
theorem Ib(x:W){k:Nat}(a:k<4):Value.int .u8 (IntKind.u8.wrap ((x>>>(24-8*k)).toNat:Nat))=.int .u8 ((UInt8.ofNat (x.toNat/2^(24-8*k))).toNat:Nat):=by
 rw[Bz,BitVec.toNat_ushiftRight,Nat.shiftRight_eq_div_pow]
theorem MH(b:Nat)(m:List UInt8)(J:m.length<=9223372036854775000):
  Ct prog 170 [.pointer (some ⟨b,0,none⟩)] (fun _=>True) [HS b m] (fun v A=>v=B (sha m)/\A=[HS b m]):=by
 refine b_ 68 func170 rfl rfl rfl ?_;intro F _;refine E7 ?_;refine O3 ?_;intro d;refine T9 rfl rfl uh (by rfl) (PO _ _ _) (by rfl) ?_;refine w8 ?_;refine D7 (H':=[HS d m,HS b m]) i_ ?_;refine ap ?_;refine nS rfl rfl rfl qb (by show(1:Int)*_<=_;omega) rfl ?_;intro a5;rw[show(119-(m.length:Int)%64)%64=(((119-m.length%64)%64:Nat):Int) by omega];refine r_ (bV (l:=List.replicate ((119-m.length%64)%64) 0) rfl (by simp;omega) (fun w a=>by have t:=(a.ownN ud).2.2.1;simp only[jh] at t;simp only[A6,List.map_replicate];exact t)) ?_;refine f_ ((G_ rfl rfl (by simp;omega)).eq (v':=B (fj m.length 0)) (by simp[fj,Eb])) ?_;refine A1 ?_;refine o7 (ι:=Nat) (fun k=>k<=8) (fun k=>[(0,.pointer (some ⟨b,0,none⟩)),(3,.pointer (some ⟨d,0,none⟩)),(4,B (fj m.length k)),(23,.int .i64 (k:Nat))]) (fun k=>[HS d m,HS b m]) (fun k=>8-k) 0 qb ?_ ?_ ?_
 ·exact sub
 ·intro w a;exact a.upd_same .del
 ·intro k z;have C:=Ed m.length k;refine R7 ?_ ?_<;>intro h
  ·simp only[jg] at h;refine wk 8 ?_;refine f_ (Cp rfl rfl) ?_;refine O3 ?_;refine f_ ((eF rfl).eq (Ia m.length k qb)) ?_;refine x7 rfl rfl rfl rfl rfl rfl (xs:=A6 [UInt8.ofNat (m.length*8%2^64/2^(56-8*k))]) rfl rfl ?_;intro D x;refine r_ (bV (l:=[UInt8.ofNat (m.length*8%2^64/2^(56-8*k))]) rfl rfl (fun w a=>(a.ownN ud).2.2.1)) ?_;refine f_ ((G_ rfl rfl (by simp;omega)).eq (v':=B (fj m.length (k+1))) (by rw[yW])) ?_;refine E7 ?_;refine l6 (k+1) qb qb ?_ ?_
   ·exact sub
   ·intro w a;exact a.upd_same .del
  ·have p:k=8:=(by simp at h;omega);subst p;refine r7 ?_;refine x6 [HS b m] rfl (wL d m (fj m.length 8) qb) i_ qw rfl ?_;rintro v A ⟨rfl,rfl⟩;refine w8 ?_;have c:sha m=cr (st (m++fj m.length 8)):=rfl;generalize hT:m++fj m.length 8=T at*;refine r7 ?_;intro f;refine E7 ?_;refine o7 (ι:=Nat) (fun i=>i<=8) (fun i=>[(6,.pointer (some ⟨f,0,none⟩)),(45,.agg (EU (st T)).toArray),(46,.int .i64 (i:Nat))]) (fun i=>[.blk f (.cells (dE (st T) (4*i)) 281),HS b m]) (fun i=>8-i) 0 qb ?_ ?_ ?_
   ·exact sub
   ·intro w a;have e:dE (st T) (4*0)=#[.int .u8 0,.int .u8 0,.int .u8 0,.int .u8 0,.int .u8 0,.int .u8 0,.int .u8 0,.int .u8 0,.int .u8 0,.int .u8 0,.int .u8 0,.int .u8 0,.int .u8 0,.int .u8 0,.int .u8 0,.int .u8 0,.int .u8 0,.int .u8 0,.int .u8 0,.int .u8 0,.int .u8 0,.int .u8 0,.int .u8 0,.int .u8 0,.int .u8 0,.int .u8 0,.int .u8 0,.int .u8 0,.int .u8 0,.int .u8 0,.int .u8 0,.int .u8 0]:=(by simp[dE,A6,List.replicate]);rw[e];exact a.upd_same (.there .del)
   ·intro i M;refine R7 ?_ ?_<;>intro h
    ·simp only[jg] at h;refine r7 ?_;refine f_ (eH i rfl rfl rfl qb (Tg (i:=i) rfl qb)) ?_;refine E7 ?_;refine o7 (ι:=Nat) (fun k=>k<=4) (fun k=>[(6,.pointer (some ⟨f,0,none⟩)),(45,.agg (EU (st T)).toArray),(46,.int .i64 (i:Nat)),(7,.int .i64 (i:Nat)),(8,bv (st T i)),(50,.int .i64 (k:Nat))]) (fun k=>[.blk f (.cells (dE (st T) (4*i+k)) 281),HS b m]) (fun k=>4-k) 0 qb ?_ ?_ ?_
     ·exact sub
     ·intro w a;exact a
     ·intro k z;refine R7 ?_ ?_<;>intro y
      ·simp only[jg] at y;refine wk 10 ?_;refine f_ (yV (24-8*k) rfl rfl qb qb) ?_;refine f_ ((eF rfl).eq (Ib _ qb)) ?_;refine r7 ?_;refine I6 rfl rfl uh (by rfl) (by(intro q g;simp[Value.cells] at g;first|(subst g;rfl)|(rcases g with rfl|rfl|rfl|rfl|rfl|rfl|rfl|rfl<;>rfl)|(rcases g with rfl|rfl|rfl|rfl|rfl|rfl|rfl|rfl|rfl|rfl|rfl|rfl|rfl|rfl|rfl|rfl|rfl|rfl|rfl|rfl<;>rfl))) (by rw[wM _ _ qb];omega) ?_;refine A1 ?_;refine l6 (k+1) qb qb ?_ ?_
       ·exact sub
       ·intro w a;rw[<-W1,<-a1H (st T) (n:=4*i+k) (o:=0+(4*(i:Int)+(k:Int)).toNat*1) qb qb (by rw[yX (st T) qb qb])];exact a
      ·have r:k=4:=(by simp at y;omega);subst r;refine A1 ?_;refine l6 (i+1) qb qb ?_ ?_
       ·exact sub
       ·intro w a;exact a
    ·have s:i=8:=(by simp at h;omega);subst s;refine C7 ?_;refine f_ (uZ rfl) ?_;refine r_ (bV (l:=sha m) rfl (by rw[c,aQ]) (fun w a=>a.rdBlk ud _ (fun j u hu=>by rw[c] at hu;simpa[dE,aQ,jq] using hu))) ?_;refine C5 ?_;exact d_ rfl rfl [HS b m] qh (fun w a=>a.upd_same .del)
theorem Sum_ct(s:List UInt8)(hs:s.length<=9223372036854775000):Pu prog 81 [B s] (fun _=>True) (B (sha s)):=by
 refine b_ 10 func81 rfl rfl rfl ?_;intro F _;refine xG ?_;refine x6 [] rfl PK i_ qw rfl ?_;rintro v A ⟨g,rfl,rfl⟩;refine r7 ?_;refine D7 (H':=[HS g []]) i_ ?_;refine A1 ?_;refine x6 [] rfl (wL g [] s (by simp;omega)) i_ qw rfl ?_;rintro v A ⟨rfl,rfl⟩;refine r7 ?_;refine x6 [] rfl (MH g ([]++s) (by simpa using hs)) i_ qw rfl ?_;rintro v A ⟨rfl,rfl⟩;refine C5 ?_;exact d_ rfl rfl [] qh (fun w a=>a.dropAll)
end Go.Proofs.YtmcepdopookilaaGreatDoor.Dg
namespace Go.Proofs.YtmcepdopookilaaGreatDoor.Rp
open Go Go.Sl Go.RowKit Go.Proofs.Tryz
abbrev Th(c:CM):RQ:={cU with op:=6,box:=c.box,a5Y:=c.a5Y,hash:=Dg.sha c.data,size:=c.data.length}
def Ti(s:SE)(d:DD)(c:CM)(s':SE)(d':DD):Prop:=(s',d')=G3 (s,{d with store:=true,body:=c.data}) c (Th c) []
theorem yY(b:Nat)(s:SE)(x:SL)(d:DD)(y:DL)(c:CM)(k:CL)(hc:qY c)(q:s.num<18446744073709551615):DV 149 b s x d y c k (Ti s d c):=by
 have r:=hc.a5Y;have t:=hc.data;refine y5 30 func149 rfl rfl rfl ?_;rintro F R ⟨e,j⟩;refine C7 ?_;refine m8 rfl rfl ?_;intro p;refine w8 ?_;refine B9 (Z:=[.blk p (.cells (iA c k).toArray 36)]) tk fun u f n=>?_;have l:u.heap p=some (.cells (iA c k).toArray 36 (0,0)):=J_ n;clear n;replace e:=Mn.le f.heap e;replace j:=Mn.le f.heap j;refine w8 ?_;refine D2 [3] [7,11] [] 12 ?_;refine wd [0,1,2] ?_;refine D1 3 rfl (i8 rfl (fun w a=>I0 a l rfl)) G2 rfl rfl rfl i6 ?_;refine wd [4,5,6,7,8,9,10,11] ?_;refine w8 ?_;refine D2 [1,3,5,8,11] [6,9,15] [] 16 ?_;refine wd [0] ?_;refine D1 1 rfl (di rfl l ga) G2 rfl rfl rfl i6 ?_;refine wd [2] ?_;refine D1 3 rfl (i8 rfl (fun w a=>I0 a l rfl)) G2 rfl rfl rfl i6 ?_;refine wd [4] ?_;refine D1 5 rfl (i8 rfl (fun w a=>I0 a l rfl)) G2 rfl rfl rfl i6 ?_;refine wd [7] ?_;refine D1 8 rfl (i8 rfl (fun w a=>I0 a l rfl)) G2 rfl rfl rfl i6 ?_;refine wd [10] ?_;refine D1 11 rfl (i8 rfl (fun w a=>I0 a l rfl)) G2 rfl rfl rfl i6 ?_;refine wd [12] ?_;refine w_ 13 rfl ((y9 rfl qb).eq (v':=.int .u64 (c.data.length:Nat)) rfl) ?_;refine h_ 6 rfl i6 ?_;refine e_ (Y4 c.a5Y k.fa k.fc qb) (fun h z _=>j.a5Y.le z) ?_;rintro v A ⟨g,m,rfl,rfl⟩;refine Y9 ?_;refine h_ 9 rfl i6 ?_;refine c_ rfl (Dg.Sum_ct c.data qb) qw rfl ?_;refine Y9 ?_;refine w_ 14 rfl (y8 (ps:=[(0,.const (.int .i64 6)),(6,.tmp 17),(10,.tmp 20),(14,.tmp 23),(15,.tmp 27)]) (vs:=[(0,.int .i64 6),(6,B c.box),(10,.slice g c.a5Y.length m),(14,B (Dg.sha c.data)),(15,.int .u64 (c.data.length:Nat))]) (cells:=(eE (Th c) ⟨none,0,g,m⟩).toArray) rfl i6) ?_;refine h_ 15 rfl i6 ?_;refine e_ (dC b s x {d with store:=true,body:=c.data} y c k (Th c) ⟨none,0,g,m⟩ [] none 0 q) qw ?_;rintro v A ⟨rfl,rfl⟩;refine E6 [] ?_;refine ki (Z:=[A5 g c.a5Y m]) tk fun C i ⟨D,n⟩=>?_;have o:n9 C.heap g (fV c.a5Y):=A3.rd n ud;replace e:=Mn.le i.heap e;replace j:=Mn.le i.heap j;refine H4 (A:=l5 x.ra s.a5N.a5M x.rc::O2 b (G3 (s,{d with store:=true,body:=c.data}) c (Th c) []).1 {x with cl:=k,ua:=none,uc:=0} (G3 (s,{d with store:=true,body:=c.data}) c (Th c) []).2 {y with ql:=⟨none,0,g,m⟩}) (v:=.tuple #[]) (f.trans i) ⟨rfl,_,_,{x with cl:=k,ua:=none,uc:=0},{y with ql:=⟨none,0,g,m⟩},rfl,rfl,.refl rfl,?_⟩ ?_
 ·exact⟨⟨n9.nil _ _,j⟩,⟨e.dd.a5X,e.dd.rep,⟨n9.nil _ _,o⟩,e.dd.want⟩⟩
 ·exact m6 rfl _ qh (fun w a=>C6 (A:=[_,_,_]) (J:=[]) tk a)
theorem lD(s:SE)(x:SL)(hs:FZ s):Cm prog 68 [qJ s x] (fun h=>n9 h x.ra (T8 s.a5N.a5M)/\S5 s x h) [] (fun h v A=>∃d,v=qJ s d/\A=[l5 d.ra s.a5N.a5M d.rc]/\S5 s d h):=by
 have n:=hs.a5M;have o:=hs.a5P;refine y5 18 func68 rfl rfl rfl ?_;rintro F R ⟨p,a⟩;refine C7 ?_;refine m8 rfl rfl ?_;intro u;refine i7 rfl ?_;intro y;refine E7 ?_;refine e_ (fO (T8 s.a5N.a5M) x.ra s.a5N.a5M.length x.rc (bL _) (eP _) qb) (fun h e _=>p.le e) ?_;rintro v A ⟨j,k,rfl,rfl⟩;refine ap ?_;refine e_ (vK (nV s.a5P) x.ua s.a5P.length x.uc (by rw[tu,Zu]) (iv _) qb) (fun h e _=>a.a5P.le e) ?_;rintro v A ⟨f,l,rfl,rfl⟩;refine A1 ?_;refine B9 (Z:=[U3 f s.a5P l]) tk fun q b ⟨z,m⟩=>?_;have g:n9 q.heap f (nV s.a5P):=A3.rd m ud;clear m;refine A1 ?_;refine A9 (mN s.cmd x.cl hs.cmd) (Mn.le b.heap a.cmd) ?_;rintro v A C c ⟨rfl,r,rfl,i⟩;refine JS ?_;refine H4 (A:=[l5 j s.a5N.a5M k]) (v:=qJ s ⟨j,k,f,l,r⟩) (b.trans c) ⟨_,rfl,rfl,⟨g.le c.heap,i⟩⟩ ?_;exact G7 rfl rfl ud rfl _ qh (fun w t=>C6 (A:=[_]) (J:=[_,_]) tk t)
theorem Ee(c:CM)(x:CL):Pu prog 73 [uM c x] (fun _=>True) (B (tF c)):=by
 obtain⟨q,a⟩:=o8 (decide (c.tag=[]));refine b_ 8 func73 rfl rfl rfl ?_;intro F _;refine C7 ?_;refine m8 rfl rfl ?_;intro e;refine E7 ?_;refine f_ ((C8 rfl rfl).eq (v':=.bool q) (qn a.symm)) ?_;refine w8 ?_
 cases q
 ·have b:c.tag≠[]:=zq a.symm;refine bQ ?_;exact d_ rfl rfl [] ⟨by unfold tF;rw[zk b],rfl⟩ (fun w d=>d.drop)
 ·have b:c.tag=[]:=qr a.symm;refine C5 ?_;exact d_ rfl rfl [] ⟨by unfold tF;rw[zg b],rfl⟩ (fun w d=>d.drop)
theorem BA(b:Nat)(s:SE)(x:SL)(d:DD)(y:DL):Ct prog 77 [l9 b] (fun _=>True) (O2 b s x d y) (fun v A=>v=uM s.cmd x.cl/\A=O2 b (V8 s) {x with cl:=H3,ua:=none,uc:=0} d y):=by
 refine b_ 23 func77 rfl rfl rfl ?_;intro F _;refine C7 ?_;refine i7 rfl ?_;intro c;refine ap ?_;refine i7 rfl ?_;intro e;refine O3 ?_;refine f_ (y8 (ps:=[]) (vs:=[]) (cells:=(iA iw H3).toArray) rfl i6) ?_;refine wk 14 ?_;refine A4 ?_;exact G7 rfl rfl ud rfl _ qh (fun w a=>a.drop.drop)
theorem BB{P:Program}{N:Nat}{c:Code}{K R:y7}{L:G0}{F:l8}{H:List As}{Q:Exit->Act->World->Prop}{a:Act}{w:World}(h:G P N c K [] R L F H)(hf:G5 N L a)(b:Hp F w H)(d:∀a w,K a w->Q .normal a w)(f:∀a w,R a w->Q .ret a w):c.wp P Q a w:=by
 unfold G at h;refine Code.wp_mono ?_ (h a w hf b);intro e g i q
 cases e with
 |normal=>exact d _ _ q
 |ret=>exact f _ _ q
 |exit id=>simp[MQ,List.lookup] at q
 |goto l=>exact q.elim
 |panic ch=>exact(gf q).elim
 |outgrown=>exact q.elim
theorem uv{P:Program}{L:G0}{dst:Option Tmp}{t t':TypeId}{x y:Operand}{ty:TypeId}{pos:String}{af:Array Edge}{gd:Option (Nat×Bool)}{a:Array (String×TypeId)}{u:TypeId}{v:Value}[hu:HU P t (.interface a)](hx:ev L x=some (.iface u v))(b:ev L y=some .nilIface):D_ P ⟨dst,.binOp .neq t x y t',ty,pos,af,gd⟩ L (.bool true):=by
 have c:P.underlying t=some (.interface (P.methodsAt t)):=by unfold Program.methodsAt;rw[hu.h]
 exact L1 hx b (fun w=>by
  rw[eqGuard_at_iface];exact run_neq_held_nil w t u v c)
theorem yZ{P:Program}{dst:Option Nat}{t t':TypeId}{x:Operand}{c:Value}{ty:TypeId}{pos:String}{af:Array Edge}{gd:Option (Nat×Bool)}{L:G0}{a:Array (String×TypeId)}[hu:HU P t (.interface a)](hx:ev L x=some .nilIface)(b:ev L (.const c)=some .nilIface):D_ P ⟨dst,.binOp .neq t x (.const c) t',ty,pos,af,gd⟩ L (.bool false):=by
 have d:P.underlying t=some (.interface (P.methodsAt t)):=by unfold Program.methodsAt;rw[hu.h]
 exact L1 hx b (fun w=>by
  rw[eqGuard_nil_constR];exact run_neq_nil_nil w t d)
theorem PP(d f g3:Nat)(F:l8)(H:List As)(w:World)(c:Hp F w H):CallsD prog 136 #[l9 d,l9 f,l9 g3] .returning w fun e g w'=>e=.returned (.tuple #[])/\g=.returning/\Hp F w' H:=by
 refine callsD_of_wpS func136 rfl fun h i hu=>?_;apply wpS_seq;apply wpS_region;simp[wpOpsS,go_sem,recoverD,hu,Exit.thenS];refine wpS_of_wp ?_;refine BB (N:=18) (L:=[(0,l9 d),(1,l9 f),(2,l9 g3),(3,.nilIface)]) (F:=F) (H:=H) (K:=fun a w=>a.defers=[]/\Hp F w H) (R:=fun _ _=>False) ?_ ⟨rfl,by simp,fun t v b=>?_⟩ c (fun a w' q=>⟨q.1,.returning,by rw[<-hu],.tuple #[],results_none rfl _ _ _,rfl,rfl,q.2⟩) (fun _ _ q=>q.elim)
 ·skip
  refine r7 ?_;refine f_ (yZ rfl rfl) ?_;refine w8 ?_;unfold At;exact fun a w hf c=>⟨hf.defers,c⟩
 ·match t,b with
  |0,b=>cases b;simp
  |1,b=>cases b;simp
  |2,b=>cases b;simp
  |3,b=>cases b;simp
  |n+4,b=>cases b
abbrev ib(g:Nat)(c:CM)(x:CL):As:=.blk g (.cells (iA c x).toArray 36)
abbrev xJ(g:Nat)(e:Int):As:=.blk g (.cells #[.int .i64 e] 54)
theorem MI(f g g3:Nat)(c d:CM)(e:Int)(F:l8)(R:List As)(w:World)(i:Hp F w (ib f c H3::ib g d H3::xJ g3 e::R)):CallsD prog 136 #[l9 f,l9 g,l9 g3] (.panicking [{v:=N1,recovered:=false}]) w fun e j w'=>e=.returned (.tuple #[])/\j=.panicking [{v:=N1,recovered:=true}]/\Hp F w' (ib f c H3::ib g c H3::xJ g3 4::R):=by
 refine callsD_of_wpS func136 rfl fun k l hu=>?_;apply wpS_seq;apply wpS_region;simp[wpOpsS,go_sem,recoverD,hu,Exit.thenS];refine wpS_of_wp ?_;refine BB (N:=18) (L:=[(0,l9 f),(1,l9 g),(2,l9 g3),(3,N1)]) (F:=F) (H:=ib f c H3::ib g d H3::xJ g3 e::R) (K:=fun a w=>a.defers=[]/\Hp F w (ib f c H3::ib g c H3::xJ g3 4::R)) (R:=fun _ _=>False) ?_ ⟨rfl,by simp,fun t v b=>?_⟩ i (fun a w' q=>⟨q.1,.panicking [{v:=N1,recovered:=true}],rfl,.tuple #[],results_none rfl _ _ _,rfl,rfl,q.2⟩) (fun _ _ q=>q.elim)
 ·skip
  refine r7 ?_;refine f_ (uv rfl rfl) ?_;refine r7 ?_;refine f_ (qQ (by intro m h;cases h) rfl) ?_;refine O3 ?_;intro o;refine wk 7 ?_;unfold At;exact fun a w hf i=>⟨hf.defers,i.drop⟩
 ·match t,b with
  |0,b=>cases b;simp
  |1,b=>cases b;simp
  |2,b=>cases b;simp
  |3,b=>cases b;simp
  |n+4,b=>cases b
section
variable{P:Program}{N:Nat}{K R:y7}{E:List (Nat×y7)}{L:G0}{F:l8}{H:List As}
theorem ej{fn:Func}{c:Value->List As->Prop}{t n b t1 d:Nat}{j te h k:TypeId}{cs:Array Value}{f:Value}{H' s:List As}[ha:HA P j true][hs:HS P j n][ha1:HA P h false](y:fn.results=#[.cell t j,.cell t1 h])(hv:find L t=some (.pointer (some ⟨b,0,none⟩)))(l:find L t1=some (.pointer (some ⟨d,0,none⟩)))(u:M2 H (.blk b (.cells cs te (0,0))) [] H')(z:Nat.beq n cs.size=true)(C:M2 H (.blk d (.cells #[f] k (0,0))) [] s)(A:List As)(g:c (.tuple #[.agg cs,f]) A)(D:∀w,Hp F w H->Hp F w A):At N (dq P fn F c) L F H:=by
 unfold At;intro a w hf m;have J:=j6 z;have e:sl cs 0 cs.size=cs.toList:=by
  simp only[sl,Kk];exact jq x4
 obtain⟨X,p,hc⟩:=Y1 (n:=cs.size) m u;injection p with p;subst p;rw[e] at hc;have r:=D6 (P:=P) hc;obtain⟨M,q,i⟩:=uT (o:=0) (v:=f) m C x4;injection q with q;subst q;have Y:=D6 (P:=P) (cs:=[f]) i;have O:a.tmps.getD t undef=.pointer (some ⟨b,0,none⟩):=hf.eval (x:=.tmp t) hv;have Q:a.tmps.getD t1 undef=.pointer (some ⟨d,0,none⟩):=hf.eval (x:=.tmp t1) l;subst J;refine⟨.tuple #[.agg cs,f],A,?_,g,D w m,hf.defers⟩;have S:a.tmps[t]?.getD undef=.pointer (some ⟨b,0,none⟩):=by simpa using O
 have T:a.tmps[t1]?.getD undef=.pointer (some ⟨d,0,none⟩):=by simpa using Q
 simp at r;have U:w.cell? ⟨d,0,none⟩=some f:=by
  have V:=i 0 f rfl
  rwa [show(⟨d,0,none⟩:Addr).add 0=⟨d,0,none⟩ from by simp[Addr.add_lit]] at V
 simp[results,y,S,T,asAddr,loadVar,ha.h,ha1.h,hs.h,r,U,Sem.run_bind]
def PQ(ds:List Deferred)(N:Nat)(K:y7)(L:G0)(F:l8)(H:List As):Prop:=∀a w,G5 N L a->Hp F w H->K (qT ds a) w
theorem Ic{x:Operand}{f:FuncId}{ps qs:List Value}{ops:Array Oper}{b:Array TypeId}{ty:TypeId}{pos:String}{af:Array Edge}(hv:ev L x=some (.func (.func f) ps.toArray qs.toArray))(h:PQ [{target:=.fn (.func f) qs.toArray,args:=ps.toArray}] N K L F H):GL P N ops [⟨none,.defer ⟨.value x,#[],b⟩,ty,pos,af,none⟩] K E R L F H:=by
 unfold GL;intro a w hf c;refine wpList_plain rfl fun g d=>?_;unfold Oper.wp;have e:(execOp a.eval ⟨none,.defer ⟨.value x,#[],b⟩,ty,pos,af,none⟩).run P w=.ok (.defer {target:=.fn (.func f) qs.toArray,args:=ps.toArray}) w:=by
  simp[execOp,resolve,hf.eval hv,Deferred.ofValue,Sem.run_bind]
 rw[e,Oper.upon_defer,ja hf];exact d _ _ (h a w hf c)
def Tj(P:Program)(y:Code)(Q:Exit->Act->World->Prop):Exit->Act->World->Prop
 |.normal=>fun a w=>y.wp P Q a w
 |e=>Q e
theorem nD{ds:List Deferred}{x y:Code}{Q:Exit->Act->World->Prop}(h:PQ ds N (fun a w=>x.wp P (Tj P y Q) a w) L F H):PQ ds N (fun a w=>(Code.seq x y).wp P Q a w) L F H:=fun a w hf b=>
 wp_seq (Code.wp_mono (fun e a w q=>by cases e<;>exact q) (h a w hf b))
theorem nE{ds:List Deferred}{id:Nat}{l:List Oper}{Q:Exit->Act->World->Prop}{L':G0}{Hr:List As}{Pq:Value->Prop}(h:GL P N l.toArray l (fun a w=>Q .normal (qT ds a) w) [(1,Mm N L' F Hr Pq)] (fun _ _=>False) L F H)(hp:∀tm w v,G5 N L' ⟨tm,[]⟩->Hp F w Hr->Pq v->Q (.panic [{v:=v,recovered:=false}]) (qT ds ⟨tm,[]⟩) w):PQ ds N (fun a w=>(Code.region id l.toArray false).wp P Q a w) L F H:=fun a w hf d=>
 ug ds h (fun _ _ q=>q) (fun a w v ⟨tm,k,e,b,f,g,i⟩=>by
  obtain⟨c,j⟩:=Array.push_eq_push.1 e;subst j;obtain⟨m,n⟩:=a;simp only at c b;subst b;subst c;exact hp _ _ _ f g i) (fun _ _ q=>q.elim) hf d
theorem kC{ds:List Deferred}{y:Code}{Q:Exit->Act->World->Prop}(h:PQ ds N (fun a w=>y.wp P Q a w) L F H):At N (fun a w=>Tj P y Q .normal (qT ds a) w) L F H:=by
 unfold At;exact fun a w hf b=>h a w hf b
theorem MJ{ds:List Deferred}{Q:Exit->Act->World->Prop}(h:PQ ds N (fun a w=>Q .ret a w) L F H):PQ ds N (fun a w=>Code.ret.wp P Q a w) L F H:=fun a w hf b=>wp_ret (h a w hf b)
def Ef(P:Program)(fn:Func)(F:l8)(Post:Value->List As->Prop):Ending->World->Prop:=fun e w=>∃v A,e=.returned v/\Post v A/\Hp F w A
def KpD(P:Program)(fn:Func)(F:l8)(Post:Value->List As->Prop):y7:=fun a w=>∃tm v,a.tmps=tm.push v/\bodyPostD P fn (Ef P fn F Post) (.panic [{v:=v,recovered:=false}]) ⟨tm,a.defers⟩ w
theorem Eg{f:FuncId}{fn:Func}{c:Code}{args:List Value}{d:l_->Prop}{C:List As}{b:Value->List As->Prop}(N:Nat)(hf:P.funcs[f]? =some fn)(n:fn.body=some c)(o:fn.ntmps=N)(m:Nat.ble args.length N=true)(h:∀F:l8,d F.heap->G P N c (fun _ _=>False) [(1,KpD P fn F b)] (bodyPostD P fn (Ef P fn F b) .ret) (aw 0 args) F C):Ct P f args d C b:=by
 intro w p hs r g;refine calls_of_wp_defers hf n ?_;rw[o];have j:=h (r8 w p) g;unfold G at j;refine Code.wp_mono (fun e a x q=>?_) (j _ w (T3 N args m) (Hp.start hs r))
 cases e with
 |normal=>exact q.elim
 |ret=>exact q
 |exit id=>simp[MQ,List.lookup] at q
 |goto l=>exact q.elim
 |panic ch=>
  rcases q with⟨k,v,i,_⟩|⟨k,v,i,rfl,q⟩
  ·cases i
  ·injection i with i;subst i;obtain⟨y,z,j,s⟩:=q;obtain⟨t,u⟩:=Array.push_eq_push.1 j;subst u;subst t;exact s
 |outgrown=>exact q.elim
theorem uw{fn:Func}{b:Value->List As->Prop}(h:At N (dq P fn F b) L F H):At N (bodyPostD P fn (Ef P fn F b) .ret) L F H:=by
 unfold At at h⊢;intro a w hf c;obtain⟨v,A,d,e,f,g⟩:=h a w hf c;show Leaves P fn a.tmps _ a.defers .returning w;rw[g];exact⟨v,d,v,A,rfl,e,f⟩
theorem pU{fn:Func}{a:Value->List As->Prop}{tm:Array Value}{w:World}(h:At N (dq P fn F a) L F H)(hf:G5 N L ⟨tm,[]⟩)(b:Hp F w H):Leaves P fn tm (Ef P fn F a) [] .returning w:=by
 unfold At at h;obtain⟨v,A,c,d,e,f⟩:=h _ w hf b;exact⟨v,c,v,A,rfl,d,e⟩
end
abbrev dfr(g5 g2 g3:Nat):Deferred:={target:=.fn (.func 136) #[l9 g5,l9 g2,l9 g3],args:=#[]}
theorem Eh{fn:Func}{a:Value->List As->Prop}{tm:Array Value}{w:World}{F:l8}{H:List As}{L:G0}{b c g3:Nat}(h:At 72 (dq prog fn F a) L F H)(hf:G5 72 L ⟨tm,[]⟩)(g:Hp F w H):Leaves prog fn tm (Ef prog fn F a) [dfr b c g3] .returning w:=by
 refine leaves_cons (f:=136) (args:=#[l9 b,l9 c,l9 g3]) x4 (by simp[go_sem]) ?_;refine(PP b c g3 F H w g).mono ?_;rintro e i j ⟨rfl,rfl,d⟩;exact pU h hf d
theorem pV{fn:Func}{a:Value->List As->Prop}{tm:Array Value}{w:World}{F:l8}{R:List As}{L:G0}{b g g3:Nat}{c d:CM}{e:Int}(h:At 72 (dq prog fn F a) L F (ib b c H3::ib g c H3::xJ g3 4::R))(hf:G5 72 L ⟨tm,[]⟩)(j:Hp F w (ib b c H3::ib g d H3::xJ g3 e::R)):Leaves prog fn tm (Ef prog fn F a) [dfr b g g3] (.panicking [{v:=N1,recovered:=false}]) w:=by
 refine leaves_cons (f:=136) (args:=#[l9 b,l9 g,l9 g3]) x4 (by simp[go_sem]) ?_;refine(MI b g g3 c d e F R w j).mono ?_;rintro e k l ⟨rfl,rfl,i⟩;exact pU h hf i
abbrev cy(s:Bs):CM:={first s with uid:=qX s,kind:=H7 (R9 (P8 s))}
abbrev behind(s:Bs):Nat:=tB s+(P8 s).length
def bw(s:Bs)(c:CM)(e:Int):Prop:=
 if dT s=false then c=iw/\e=11
 else if H7 (R9 (P8 s))=0\/qX s=true/\H7 (R9 (P8 s))<15 then c=first s/\e=10
 else(bB s (cy s) (behind s) (some (c,s.length))/\e=0)\/((bB s (cy s) (behind s) none\/∃q,bB s (cy s) (behind s) (some q)/\q.2≠s.length)/\c=first s/\e=4)
abbrev PR(s:Bs)(v:Value)(A:List As):Prop:=∃c e x,bw s c e/\v=.tuple #[uM c x,.int .i64 e]/\sr c x A
theorem eo(c:CM)(h:c.set=[]/\c.a5Q=[]/\c.keys=[]/\c.a5Y=[]):sr c H3 []:=bg (.inl h.1) (.inl h.2.1) h.2.2.1 (.inl h.2.2.2)
instance hf_fnI (k:Nat):HF prog (Oe k):=by unfold Oe;split<;>infer_instance
theorem BC(w:Bs):H7 w<=18:=by
 unfold H7;split
 ·rename_i h;have a:=List.idxOf_lt_length_of_mem h;have b:vB.length=18:=rfl;omega
 ·omega
theorem Ie{s:Bs}(h:dT s=true):(cF s).length+1<=s.length:=by
 unfold dT at h;simp only[ky] at h;exact iz h.2 x4
theorem BD(s:Bs):H5 s [85,73,68,32] ((cF s).length+1)=tB s:=by
 unfold H5 tB qX;split<;>rfl
theorem sE(s:Bs)(hs:s.length<=1000000000):Ct prog 71 [B s] Gl [] (PR s):=by
 refine Eg 72 func71 rfl rfl rfl fun F hg=>?_;refine r7 ?_;intro f;refine r7 ?_;intro g;refine r7 ?_;refine f_ (y8 rfl rfl) ?_;refine r7 ?_;intro d;refine A1 ?_;refine e_ (Py d s hs) qw ?_;rintro v A ⟨rfl,p,c,rfl,ht⟩;refine R7 ?_ ?_<;>intro h
 ·have l:dT s=false:=by simpa using h
  refine C7 ?_;refine f_ (y8 rfl rfl) ?_;refine A1 ?_;refine A4 (uw ?_);exact ej rfl rfl rfl ud rfl ud [] ⟨iw,11,H3,by unfold bw;rw[zg l];exact qh,rfl,eo _ ⟨rfl,rfl,rfl,rfl⟩⟩ (fun w b=>b.dropAll)
 have l:dT s=true:=by simpa using h
 obtain⟨rfl,rfl⟩:=ht l;have y:=Ie l;have j:=gz (s:=s) (w:=[85,73,68,32]) y;rw[BD] at j;refine ap ?_;refine f_ (y8 rfl rfl) ?_;refine r7 ?_;intro i;refine E7 ?_;refine e_ (S7 d s [85,73,68,32] ((cF s).length+1) (first s) H3 qb y qp) qw ?_;rintro v A ⟨rfl,rfl⟩;rw[BD];refine O3 ?_;have O:=bN (q:=fun c=>!decide (c=32)) (s:=s) (p:=tB s) j.2;obtain⟨k,m⟩:=o8 (H7 (R9 (P8 s)));obtain⟨u,hu⟩:=o8 (qX s);have Q:k<=18:=m▸BC _;by_cases hk0:k=0
 ·refine r7 ?_;refine e_ (eR 135 (fun c=>!decide (c=32)) Hi d s (tB s) {first s with uid:=qX s} H3 qb j.2) qw ?_;rintro v A ⟨rfl,rfl⟩;rw[show N8 (fun c=>!decide (c=32)) s (tB s)=P8 s from rfl];refine c_ rfl (I4 (P8 s) (by unfold P8;omega)) qw rfl ?_;refine c_ rfl (mq (R9 (P8 s))) qw rfl ?_;rw[<-m,hk0,show Mi 0=.tuple #[.agg #[.int .i64 0,.bool false,.nilFunc],.bool false] from rfl];refine O3 ?_;intro z;refine wk 19 ?_;refine A4 (uw ?_);exact ej rfl rfl rfl ud rfl ud [] ⟨first s,10,H3,by unfold bw;rw[zk (by rw[l];simp),zg (.inl (m▸hk0))];exact qh,rfl,eo _ ⟨rfl,rfl,rfl,rfl⟩⟩ (fun w b=>b.dropAll)
 obtain⟨q,S⟩:=o8 (decide (15<=k));refine r7 ?_;refine e_ (eR 135 (fun c=>!decide (c=32)) Hi d s (tB s) {first s with uid:=qX s} H3 qb j.2) qw ?_;rintro v A ⟨rfl,rfl⟩;rw[show N8 (fun c=>!decide (c=32)) s (tB s)=P8 s from rfl];refine c_ rfl (I4 (P8 s) (by unfold P8;omega)) qw rfl ?_;refine c_ rfl (mq (R9 (P8 s))) qw rfl ?_;rw[<-m,show Mi k=.tuple #[.agg #[.int .i64 (k:Nat),.bool q,.func (.func (Oe k)) #[] #[]],.bool true] from by rw[S];unfold Mi fnV;rw[zk hk0,jk hk0]];refine O3 ?_;intro z;refine A1 ?_;rw[<-hu];refine x8 [(0,B s),(2,l9 f),(3,l9 g),(4,l9 d),(5,l9 i),(6,l9 z),(47,.bool (u&&!q))] [.blk z (.cells #[.int .i64 (k:Nat),.bool q,.func (.func (Oe k)) #[] #[]] 214),H9 d s (behind s) {first s with uid:=u} H3,ib i (first s) H3,xJ g 0,ib f iw H3] ?_ ?_
 ·cases u
  all_goals (
   refine wk 14 ?_)
  all_goals exact p9 sub i_
 refine O0 ?_ ?_<;>intro h
 ·have T:qX s=true/\H7 (R9 (P8 s))<15:=by
   rw[<-hu,<-m];rw[ky] at h;refine⟨h.1,?_⟩;have Y:=h.2;rw[S] at Y;simpa using Y
  refine E7 ?_;refine A4 (uw ?_);exact ej rfl rfl rfl ud rfl ud [] ⟨first s,10,H3,by unfold bw;rw[zk (by rw[l];simp),zg (.inr T)];exact qh,rfl,eo _ ⟨rfl,rfl,rfl,rfl⟩⟩ (fun w b=>b.dropAll)
 have D:¬(H7 (R9 (P8 s))=0\/qX s=true/\H7 (R9 (P8 s))<15):=by
  rw[<-hu,<-m];rintro(U|⟨U,h2⟩)
  ·exact hk0 U
  ·rw[U,S,Kc,Qz qb] at h;simp at h
 have n:∀{c e},((bB s (cy s) (behind s) (some (c,s.length))/\e=0)\/((bB s (cy s) (behind s) none\/∃q,bB s (cy s) (behind s) (some q)/\q.2≠s.length)/\c=first s/\e=4))->bw s c e:=fun h=>by
  unfold bw;rw[zk (by rw[l];simp),zk D];exact h
 have V:behind s<=s.length:=O;refine C7 ?_;refine f_ (nQ rfl rfl) ?_;refine Ic rfl ?_;refine nD (nE (L':=[(2,l9 f),(3,l9 g),(5,l9 i)]) (Hr:=[ib i (first s) H3,ib f iw H3,xJ g 0]) (Pq:=fun _=>False) ?_ fun _ _ _ _ _ h=>h.elim);refine wk 7 ?_;refine kC (nD (nE (L':=[(2,l9 f),(3,l9 g),(5,l9 i)]) (Hr:=[ib i (first s) H3,ib f iw H3,xJ g 0]) (Pq:=fun v=>bB s (cy s) (behind s) none/\v=N1) ?_ fun t w v hf b o=>?_))
 rotate_left 1
 ·obtain⟨o,rfl⟩:=o;refine .inr ⟨_,N1,rfl,rfl,t,N1,rfl,?_⟩;refine pV (L:=[(2,l9 f),(3,l9 g),(5,l9 i)]) (R:=[]) ?_ hf b;exact ej rfl rfl rfl ud rfl ud [] ⟨first s,4,H3,n (.inr ⟨.inl o,rfl,rfl⟩),rfl,eo _ ⟨rfl,rfl,rfl,rfl⟩⟩ (fun w b=>b.dropAll)
 subst m hu;refine E7 ?_;refine yO [.blk z (.cells #[.int .i64 (H7 (R9 (P8 s)):Nat),.bool q,.func (.func (Oe (H7 (R9 (P8 s))))) #[] #[]] 214),ib i (first s) H3,xJ g 0,ib f iw H3] rfl rfl rfl (Ml d s hs (cy s) (behind s) V (Nat.pos_of_ne_zero hk0) Q) (fun w b=>b.perm (List.Perm.swap _ _ _)) pre rfl rfl sub (fun w b=>(tk (C:=[ib i (first s) H3,ib f iw H3,xJ g 0])).hp b|>.left) (fun v h=>h) ?_;refine w8 ?_;rintro v A ⟨r,x,Z,hr,rfl,rfl,J⟩;refine I7 (H':=H9 d s r.2 r.1 x::ib i (first s) H3::xJ g 0::ib f iw H3::Z) (fun w b=>?_) ?_
 ·have h9:Hp F w ((.blk z (.cells #[.int .i64 (H7 (R9 (P8 s)):Nat),.bool q,.func (.func (Oe (H7 (R9 (P8 s))))) #[] #[]] 214)::[ib i (first s) H3,xJ g 0,ib f iw H3])++(H9 d s r.2 r.1 x::Z)):=b.perm kz;exact h9.drop.perm (Qd (l₁:=[ib i (first s) H3,xJ g 0,ib f iw H3]))
 refine w8 ?_;refine kC (nD (nE (L':=[(2,l9 f),(3,l9 g),(5,l9 i)]) (Hr:=[ib i (first s) H3,ib f iw H3,xJ g 0]) (Pq:=fun v=>r.2≠s.length/\v=N1) ?_ fun t w v hf b o=>?_))
 rotate_left 1
 ·obtain⟨o,rfl⟩:=o;refine .inr ⟨_,N1,rfl,rfl,t,N1,rfl,?_⟩;refine pV (L:=[(2,l9 f),(3,l9 g),(5,l9 i)]) (R:=[]) ?_ hf b;exact ej rfl rfl rfl ud rfl ud [] ⟨first s,4,H3,n (.inr ⟨.inr ⟨r,hr,o⟩,rfl,rfl⟩),rfl,eo _ ⟨rfl,rfl,rfl,rfl⟩⟩ (fun w b=>b.dropAll)
 refine aq ?_;refine f_ ((p7 rfl rfl).eq (v':=.bool (decide (r.2=s.length))) (qn (zp.2 Jv))) ?_;refine DN _ rfl (G9 (decide (r.2=s.length))) i_ qw rfl rfl sub (fun w b=>(tk (C:=[ib i (first s) H3,ib f iw H3,xJ g 0])).hp b|>.left) (fun v h=>⟨zq h.1,h.2⟩) ?_;rintro v A ⟨X,rfl,rfl⟩;refine w8 ?_;have M:r.2=s.length:=qr X;refine kC (nD (nE (L':=[]) (Hr:=[]) (Pq:=fun _=>False) ?_ fun _ _ _ _ _ h=>h.elim));refine aq ?_;refine kC (MJ fun a w hf b=>?_);obtain⟨t,ds⟩:=a;have hd:=hf.defers;simp only at hd;subst hd;refine Eh (L:=[(2,l9 f),(3,l9 g)]) (tm:=t) (w:=w) ?_ (hf.sub sub) b;exact ej rfl rfl rfl ud rfl ud Z ⟨r.1,0,x,n (.inl ⟨by rw[<-M];exact hr,rfl⟩),rfl,J⟩ (fun w b=>b.drop.drop.drop.drop)
open Go Go.Sl Go.Proofs.Tryz
structure rr(c:CM):Prop where
 le:qY c
 box:c.box.length<=64
 fl:∀f∈c.a5Y,f.length<=32
theorem sF{f x:Bs}(h:E3 f=some x):x.length<=32:=by
 unfold E3 at h;split at h
 ·next g hg=>
  injection h with h;subst h;have a:=Kx hg;have b:∀w∈R6,w.length<=32:=by decide
  exact b _ a
 ·split at h
  ·next k=>injection h with h;subst h;unfold U_;rw[zh];exact k.2
  ·cases h
theorem If{s:Bs}{p:Nat}{q:List Bs×Nat}(h:oB s p=some q):q.1.length<=16/\∀f∈q.1,f.length<=32:=by
 unfold oB at h;split at h
 ·next k=>
  injection h with h;subst h;have a:=jl (lW (s:=s.drop p) (l:=(T6 (s.drop p)).1) (n:=(T6 (s.drop p)).2.1) (by rw[<-k]));exact⟨a.2.2,fun f hf=>sF (a.1 f hf)⟩
 ·cases h
theorem MK{s b:Bs}(h:ji s=some b):b.length<=64:=by
 unfold ji at h;split at h
 ·next k=>
  injection h with h;have a:s.length<=64:=by
   unfold vo at k;simp only[ky,jg] at k;exact k.1.1.2
  subst h;split
  ·decide
  ·exact a
 ·cases h
theorem MN{s:Bs}{p:Nat}{q:List (Nat×Nat)×Nat}(h:qW s p=some q):q.1.length<=64:=by
 unfold qW at h;obtain⟨l,a,rfl⟩:=kx.1 h;unfold vy at a;split at a
 ·cases a
 ·have:=jU _ _ a;simp only;omega
theorem ux{s:Bs}{p:Nat}{q:Bs×Nat}(h:mH s p=some q):q.1.length<=4096:=by
 unfold mH at h;obtain⟨c,_,h⟩:=zc.1 h;obtain⟨n,b,h⟩:=zc.1 h;obtain⟨d,_,h⟩:=zc.1 h;split at h
 ·injection h with h;subst h;unfold mG at b;obtain⟨m,_,a⟩:=zc.1 b;split at a
  ·next k=>injection a with a;subst a;simp only[z1];omega
  ·cases a
 ·cases h
theorem Ei{s:Bs}{p:Nat}{q:Bs×Nat}(h:iy s p=some q):q.1.length<=64:=by
 unfold iy at h;obtain⟨e,_,h⟩:=zc.1 h;unfold NT at h;obtain⟨r,_,h⟩:=zc.1 h;obtain⟨b,a,rfl⟩:=kx.1 h;exact MK a
theorem sG{l:List (Bs×Nat×Bool)}{s:Bs}{p:Nat}{q:List IT×Nat}(h:oC l s p=some q):q.1.length<=8:=by
 unfold oC at h;obtain⟨r,_,h⟩:=zc.1 h;split at h
 ·next k=>obtain⟨e,_,rfl⟩:=kx.1 h;exact k
 ·cases h
theorem MO(q:UInt8->Bool)(s:Bs)(p:Nat):(N8 q s p).length<=s.length:=by
 unfold N8;have a:=(J2 (l:=s.drop p) q).length_le;rw[z8] at a;omega
theorem MP{s:Bs}{p:Nat}{r:Bs×Nat}(h:li s p=some r):r.1.length<=4096+s.length:=by
 unfold li at h;split at h
 ·have:=ux h;omega
 split at h
 ·obtain⟨q,a,rfl⟩:=kx.1 h;have b:=yo (s:=s.drop p);have c:=Bh (s.drop p);rw[a] at b c;simp only[Zd,z8] at b c;simp only;omega
 ·obtain⟨q,a,h⟩:=zc.1 h;split at h
  ·injection h with h;subst h;omega
  ·cases h
structure Tk(c d:CM):Prop where
 tag:d.tag=c.tag
 kind:d.kind=c.kind
 uid:d.uid=c.uid
theorem fW{c:CM}{s:Bs}{p:Nat}{q:CM×Nat}(h:I_ c s p=some q):∃b:Bs,b.length<=64/\q.1={c with box:=b}:=by
 unfold I_ at h;obtain⟨r,a,rfl⟩:=kx.1 h;exact⟨r.1,Ei a,rfl⟩
theorem PS{c:CM}{s:Bs}{p:Nat}{q:CM×Nat}(h:vD c s p=some q):∃n b,q.1={c with a5S:=n,a5R:=b}:=by
 unfold vD at h;split at h
 ·obtain⟨r,_,rfl⟩:=kx.1 h;exact⟨_,_,rfl⟩
 ·injection h with h;subst h;exact⟨_,_,rfl⟩
theorem MR{c:CM}{s:Bs}{p:Nat}{q:CM×Nat}(hs:s.length<=1000000000)(h:T7 c s p=some q)(x:c.kind≠15)(hc:rr c):rr q.1/\Tk c q.1:=by
 have i:∀{b:Bs},b.length<=64->rr {c with box:=b}/\Tk c {c with box:=b}:=fun d=>⟨⟨⟨hc.le.set,hc.le.a5Q,hc.le.keys,hc.le.ksets,hc.le.a5Y,hc.le.data,hc.le.pat⟩,d,hc.fl⟩,rfl,rfl,rfl⟩;unfold T7 at h;split at h
 ·injection h with h;subst h;exact⟨hc,rfl,rfl,rfl⟩
 split at h
 ·obtain⟨e,_,rfl⟩:=kx.1 h;exact⟨hc,rfl,rfl,rfl⟩
 split at h
 ·unfold dx at h;obtain⟨r,_,h⟩:=zc.1 h;obtain⟨t,_,rfl⟩:=kx.1 h;exact⟨⟨⟨hc.le.set,hc.le.a5Q,hc.le.keys,hc.le.ksets,hc.le.a5Y,hc.le.data,hc.le.pat⟩,hc.box,hc.fl⟩,rfl,rfl,rfl⟩
 split at h
 ·unfold lj at h;obtain⟨r,a,rfl⟩:=kx.1 h;obtain⟨b,d,e⟩:=fW a;split
  ·simp only[e];exact⟨⟨⟨hc.le.set,hc.le.a5Q,hc.le.keys,hc.le.ksets,hc.le.a5Y,hc.le.data,hc.le.pat⟩,d,hc.fl⟩,rfl,rfl,rfl⟩
  ·rw[e];exact i d
 split at h
 ·obtain⟨b,d,e⟩:=fW h;rw[e];exact i d
 split at h
 ·unfold jA at h;obtain⟨e,_,h⟩:=zc.1 h;split at h
  ·obtain⟨t,y,rfl⟩:=kx.1 h;exact⟨⟨⟨hc.le.set,hc.le.a5Q,hc.le.keys,hc.le.ksets,hc.le.a5Y,hc.le.data,by have:=MP y;simp only;omega⟩,hc.box,hc.fl⟩,rfl,rfl,rfl⟩
  ·injection h with h;subst h;exact⟨⟨⟨hc.le.set,hc.le.a5Q,hc.le.keys,hc.le.ksets,hc.le.a5Y,hc.le.data,by have:=MO ix s e;simp only;omega⟩,hc.box,hc.fl⟩,rfl,rfl,rfl⟩
 split at h
 ·unfold jB at h;obtain⟨r,a,h⟩:=zc.1 h;obtain⟨e,_,h⟩:=zc.1 h;obtain⟨t,j,rfl⟩:=kx.1 h;obtain⟨b,d,e⟩:=fW a;simp only[e];exact⟨⟨⟨hc.le.set,sG j,hc.le.keys,hc.le.ksets,hc.le.a5Y,hc.le.data,hc.le.pat⟩,d,hc.fl⟩,rfl,rfl,rfl⟩
 split at h
 ·unfold jC at h;obtain⟨r,a,h⟩:=zc.1 h;obtain⟨e,_,h⟩:=zc.1 h;obtain⟨b,d,e⟩:=fW a;split at h
  ·obtain⟨f,hf,h⟩:=zc.1 h;obtain⟨w,_,h⟩:=zc.1 h;obtain⟨t,j,rfl⟩:=kx.1 h;obtain⟨o,v⟩:=If hf;simp only[e];exact⟨⟨⟨hc.le.set,hc.le.a5Q,hc.le.keys,hc.le.ksets,o,ux j,hc.le.pat⟩,d,v⟩,rfl,rfl,rfl⟩
  ·obtain⟨t,j,rfl⟩:=kx.1 h;simp only[e];exact⟨⟨⟨hc.le.set,hc.le.a5Q,hc.le.keys,hc.le.ksets,hc.le.a5Y,ux j,hc.le.pat⟩,d,hc.fl⟩,rfl,rfl,rfl⟩
 have g:∀{k:CM->Nat->Option (CM×Nat)},cT c s p k=some q->∃(l:List (Nat×Nat)) (e:Nat),l.length<=64/\k {c with set:=l} e=some q:=fun{k} h=>by
  unfold cT at h;obtain⟨e,_,h⟩:=zc.1 h;obtain⟨r,a,h⟩:=zc.1 h;exact⟨r.1,r.2,MN a,h⟩
 split at h
 ·obtain⟨l,e,m,h⟩:=g h;unfold aI at h;obtain⟨w,_,h⟩:=zc.1 h;unfold oD at h;obtain⟨r,a,h⟩:=zc.1 h;have z:r.1.length<=8:=by
   split at a
   ·exact sG a
   ·obtain⟨t,_,rfl⟩:=kx.1 a;simp
  obtain⟨n,b,e⟩:=PS h;rw[e];exact⟨⟨⟨m,z,hc.le.keys,hc.le.ksets,hc.le.a5Y,hc.le.data,hc.le.pat⟩,hc.box,hc.fl⟩,rfl,rfl,rfl⟩
 split at h
 ·obtain⟨l,e,m,h⟩:=g h;unfold aI at h;obtain⟨w,_,h⟩:=zc.1 h;unfold oE at h;obtain⟨r,a,h⟩:=zc.1 h;obtain⟨A,_,h⟩:=zc.1 h;obtain⟨C,_,h⟩:=zc.1 h;obtain⟨f,hf,rfl⟩:=kx.1 h;obtain⟨o,v⟩:=If hf;have hu:∃n b,r.1={c with set:=l,a5S:=n,a5R:=b}:=by
   unfold Pc at a;split at a
   ·obtain⟨t,_,a⟩:=zc.1 a;obtain⟨u,_,rfl⟩:=kx.1 a;exact⟨_,_,rfl⟩
   ·injection a with a;subst a;exact⟨_,_,rfl⟩
  obtain⟨n,b,e⟩:=hu;simp only[e];exact⟨⟨⟨m,hc.le.a5Q,hc.le.keys,hc.le.ksets,o,hc.le.data,hc.le.pat⟩,hc.box,v⟩,rfl,rfl,rfl⟩
 ·obtain⟨l,e,m,h⟩:=g h;obtain⟨b,d,e⟩:=fW h;rw[e];exact⟨⟨⟨m,hc.le.a5Q,hc.le.keys,hc.le.ksets,hc.le.a5Y,hc.le.data,hc.le.pat⟩,d,hc.fl⟩,rfl,rfl,rfl⟩
structure a1I(s:Bs)(c:CM)(e:Int):Prop where
 le:rr c
 er:e=11\/e=10\/e=4\/e=0
 no:e=11->c=iw
 tag:e≠11->c.tag=cF s/\dT s=true
 kind:e=0->1<=c.kind/\c.kind<=18
theorem kD{c:CM}(e:c.a5U=[])(g:c.set=[])(h:c.a5Q=[])(a:c.keys=[])(b:c.a5Y=[])(i:c.data=[])(j:c.box=[]):rr c:=⟨⟨by rw[g];decide,by rw[h];decide,by rw[a];decide,(fun k d=>by rw[a] at d;cases d),by rw[b];decide,by rw[i];decide,by rw[e];decide⟩,by rw[j];decide,fun f hf=>by rw[b] at hf;cases hf⟩
theorem pW(s:Bs):rr (first s):=kD rfl rfl rfl rfl rfl rfl rfl
theorem kE{s:Bs}{c:CM}{e:Int}(hs:s.length<=1000000000)(h:bw s c e):a1I s c e:=by
 unfold bw at h;split at h
 ·obtain⟨rfl,rfl⟩:=h;exact⟨kD rfl rfl rfl rfl rfl rfl rfl,.inl rfl,fun _=>rfl,fun h=>absurd rfl h,qx⟩
 next b=>
 have b:dT s=true:=by simpa using b
 split at h
 ·obtain⟨rfl,rfl⟩:=h;exact⟨pW s,.inr (.inl rfl),qx,fun _=>⟨rfl,b⟩,qx⟩
 next k=>
 rcases h with⟨h,rfl⟩|⟨_,rfl,rfl⟩
 ·have a:rr (cy s):=kD rfl rfl rfl rfl rfl rfl rfl;have d:1<=(cy s).kind/\(cy s).kind<=18:=by
   have:=BC (R9 (P8 s));have j:H7 (R9 (P8 s))≠0:=fun j=>k (.inl j);show 1<=H7 (R9 (P8 s))/\H7 (R9 (P8 s))<=18;omega
  unfold bB at h;split at h
  ·next f=>
   rcases h with h|⟨l,e,h,i,g⟩
   ·cases h
   ·injection h with h;have h:=jy Prod.fst h;simp only at h;subst h;exact⟨⟨⟨a.le.set,a.le.a5Q,i,g,a.le.a5Y,a.le.data,a.le.pat⟩,a.box,a.fl⟩,.inr (.inr (.inr rfl)),qx,fun _=>⟨rfl,b⟩,fun _=>d⟩
  ·next f=>
   obtain⟨i,g⟩:=MR hs h.symm f a;exact⟨i,.inr (.inr (.inr rfl)),qx,fun _=>⟨g.tag,b⟩,fun _=>by rw[g.kind];exact d⟩
 ·exact⟨pW s,.inr (.inr (.inl rfl)),qx,fun _=>⟨rfl,b⟩,qx⟩
open Go Go.Sl Go.RowKit Go.Proofs.Tryz
theorem za{P:Program}{L:G0}{dst:Option Tmp}{ty t e:TypeId}{pos:String}{af:Array Edge}{gd:Option (Nat×Bool)}{z:Value}{ps:List (Nat×Operand)}{vs:List (Nat×Value)}{cells:Array Value}{len sz:Nat}[hu:HU P t (.array len e)][hs:HS P e sz][hz:HZ P t z](hx:Ae L ps=some vs)(a:Instr.fill (fun i=>some (i*sz,sz)) z.cells vs=some cells):D_ P ⟨dst,.build t ps.toArray,ty,pos,af,gd⟩ L (.agg cells):=
 cK hx (fun w=>by simp[Instr.build,hz.h,run_underlying hu.h,hs.h,a])
theorem wN{P:Program}{L:G0}{dst:Option Tmp}{ty t e:TypeId}{pos:String}{af:Array Edge}{gd:Option (Nat×Bool)}{x:Operand}{a:Option Addr}{n c:Nat}[hu:HU P t (.slice e)](hx:ev L x=some (.slice a n c)):D_ P ⟨dst,.call ⟨.builtin .cap,#[x],#[t]⟩,ty,pos,af,gd⟩ L (.int .i64 c):=by
 unfold D_;intro ρ w hf;simp[execOp,resolve,invoke,builtin,Builtin.cap_,hf _ _ hx,run_underlying hu.h,goInt]
theorem MS(n:Nat)(k:n<=1000000):Ct prog 339 [.slice none 0 0,.int .i64 (n:Nat)] (fun _=>True) [] (fun v A=>∃a c,v=.slice a 0 c/\A=[A5 a [] c]):=by
 refine b_ 27 func339 rfl rfl rfl ?_;intro F _;refine A1 ?_;refine f_ ((F6 rfl rfl).eq (v':=.bool false) (qn qj)) ?_;refine A1 ?_;refine f_ (wN rfl) ?_;refine E7 ?_;refine f_ ((E0 rfl rfl qb).eq (v':=.int .i64 (n:Nat)) (by congr 1)) ?_;refine eM ?_ ?_<;>intro h
 ·have i:0<n:=by have:=qr h;omega
  refine A1 ?_;refine f_ (wN rfl) ?_;refine f_ ((B6 rfl rfl rfl qb).eq (v':=.slice none 0 0) (by simp[Y8])) ?_;refine r7 ?_;refine oN rfl rfl i qp rfl (by show n*16<=_;omega) qb rfl ?_;intro b d f;refine A1 ?_;refine f_ ((B6 rfl rfl rfl qb).eq (v':=.slice (some ⟨b,0,none⟩) 0 d) (by simp[dY])) ?_;refine bQ ?_;exact d_ rfl rfl [A5 (some ⟨b,0,none⟩) [] d] ⟨_,_,rfl,rfl⟩ (fun w e=>by have g:=e.cutOwn (j:=0) uh qb;rw[Z4,Kj] at g;exact g)
 ·refine L7 ?_;exact d_ rfl rfl [A5 none [] 0] ⟨none,0,rfl,rfl⟩ (fun w e=>e.addNil _ _)
theorem Ej(l m:List Bs)(a b:Option Addr)(c d e:Nat)(r:Option Addr)(hl:l.length<=100000)(O:m.length<=100000):Ct prog 270 [.slice r 2 e] (fun h=>n9 h r [.slice a l.length c,.slice b m.length d]/\n9 h a (fV l)/\n9 h b (fV m)) [] (fun v A=>∃x y,v=.slice x (l++m).length y/\A=[A5 x (l++m) y]):=by
 refine b_ 36 func270 rfl rfl rfl ?_;rintro F ⟨s,ha,D⟩;have t:∃z,r=some z:=by obtain⟨z,e,_⟩:=s x4;exact⟨z,e⟩
 have o:∀{w:World} {H:List As},Hp F w H->M0 (hp w) (N0 r 0) [.slice a l.length c]:=fun f=>mW f s x4 (fun j u hu=>by match j,hu with|0,hu=>simp at hu;subst hu;rfl);have cD:∀{w:World} {H:List As},Hp F w H->M0 (hp w) (N0 r 1) [.slice b m.length d]:=fun f=>mW f s x4 (fun j u hu=>by match j,hu with|0,hu=>simp at hu;subst hu;rfl);refine ap ?_;refine o7 (ι:=Nat) (fun k=>k<=2) (fun k=>[(0,.slice r 2 e),(9,.slice r 2 e),(10,.int .i64 2),(11,.int .i64 (k:Nat)),(3,.int .i64 ((if k=0 then 0 else if k=1 then l.length else l.length+m.length:Nat):Int))]) (fun _=>[]) (fun k=>2-k) 0 qb sub i_ ?_;intro k C;refine r7 ?_;obtain rfl|rfl|rfl:k=0\/k=1\/k=2:=by omega
 ·refine r7 ?_;refine r_ (i8 rfl (fun w f=>o f)) ?_;refine O3 ?_;refine f_ ((p_ rfl rfl (by simp;omega)).eq (v':=.int .i64 (l.length:Nat)) x4) ?_;refine A1 ?_;refine f_ ((F6 rfl rfl).eq (v':=.bool false) (qn qj)) ?_;refine A1 ?_;exact l6 1 qb qb sub i_
 ·refine r7 ?_;refine r_ (i8 rfl (fun w f=>cD f)) ?_;refine O3 ?_;refine f_ ((p_ rfl rfl (by simp;omega)).eq (v':=.int .i64 ((l.length+m.length:Nat):Int)) x4) ?_;refine A1 ?_;refine f_ ((F6 rfl rfl).eq (v':=.bool false) (qn qj)) ?_;refine A1 ?_;exact l6 2 qb qb sub i_
 refine r7 ?_;refine e_ (MS (l.length+m.length) qb) qw ?_;rintro v A ⟨J,M,rfl,rfl⟩;refine O3 ?_;refine o7 (ι:=Nat×Option Addr×Nat) (fun k=>k.1<=2) (fun k=>[(0,.slice r 2 e),(25,.slice r 2 e),(26,.int .i64 2),(27,.int .i64 (k.1:Nat)),(6,.slice k.2.1 (if k.1=0 then[] else if k.1=1 then l else l++m).length k.2.2)]) (fun k=>[A5 k.2.1 (if k.1=0 then[] else if k.1=1 then l else l++m) k.2.2]) (fun k=>2-k.1) (0,J,M) x4 sub i_ ?_;rintro⟨k,x,y⟩ C;simp only at C;refine r7 ?_;obtain rfl|rfl|rfl:k=0\/k=1\/k=2:=by omega
 ·refine r7 ?_;refine r_ (i8 rfl (fun w f=>o f)) ?_;refine E7 ?_;refine C0 (xs:=fV []) (n:=0) (news:=fV l) rfl rfl (H':=fun p q=>[.own (.slice p (0+l.length) q) 9 1 (fV []++fV l)]) (fun p q=>.here) (fun w f=>ha.le f.keep) (by rw[L8,Zu]) rfl rfl (lg _) (by show(0+l.length)*16<=_;omega) qb rfl ?_;intro Rb g _;refine r7 ?_;rw[show 0+l.length=l.length from ju _];refine A1 ?_;exact l6 (i:=(0,x,y)) (1,Rb,g) x4 x4 sub i_
 ·refine r7 ?_;refine r_ (i8 rfl (fun w f=>cD f)) ?_;refine E7 ?_;refine C0 (xs:=fV l) (n:=l.length) (news:=fV m) rfl rfl (H':=fun p q=>[.own (.slice p (l.length+m.length) q) 9 1 (fV l++fV m)]) (fun p q=>.here) (fun w f=>D.le f.keep) (by rw[L8,Zu]) rfl rfl (lg _) (by show(l.length+m.length)*16<=_;omega) qb rfl ?_;intro Rb g _;refine r7 ?_;rw[<-zz];refine A1 ?_;exact l6 (i:=(1,x,y)) (2,Rb,g) x4 x4 sub (fun w f=>by rw[<-gr] at f;exact f)
 refine L7 ?_;exact d_ rfl rfl [A5 x (l++m) y] ⟨x,y,rfl,rfl⟩ i_
theorem ze(l m:List Bs)(a b:Option Addr)(c d:Nat)(g:m.length<=100000):Ct prog 197 [.slice a l.length c,.slice b m.length d] (fun h=>n9 h a (fV l)/\n9 h b (fV m)) [] (Pn m):=by
 refine b_ 7 func197 rfl rfl rfl ?_;rintro F ⟨ha,e⟩;refine A1 ?_;refine e_ (oZ m b d qb) (fun h f _=>e.le f) ?_;rintro v A ⟨x,y,rfl,rfl⟩;refine C5 ?_;exact d_ rfl rfl _ ⟨x,y,rfl,rfl⟩ i_
theorem MT(l m:List Bs)(a b:Option Addr)(c d:Nat)(hl:l.length<=100000)(k:m.length<=100000):Ct prog 198 [.slice a l.length c,.slice b m.length d] (fun h=>n9 h a (fV l)/\n9 h b (fV m)) [] (Pn (l++m)):=by
 refine b_ 10 func198 rfl rfl rfl ?_;rintro F ⟨ha,n⟩;refine E7 ?_;refine x7 (ps:=[(0,.tmp 5),(1,.tmp 6)]) (vs:=[(0,.slice a l.length c),(1,.slice b m.length d)]) (xs:=[.slice a l.length c,.slice b m.length d]) rfl rfl rfl rfl rfl rfl rfl rfl ?_;rintro o _;refine e_ (Ej l m a b c d 2 o hl k) ?pre ?_;(case pre=>exact fun h f ⟨p,e⟩=>⟨A3.rd e ud,ha.le f,n.le f⟩);rintro v A ⟨x,y,rfl,rfl⟩;refine e_ (oZ (l++m) x y (by rw[zz];omega)) ?pre ?_;(case pre=>exact fun h f ⟨p,e⟩=>A3.rd e ud);rintro v A ⟨g,i,rfl,rfl⟩;refine C5 ?_;exact d_ rfl rfl _ ⟨g,i,rfl,rfl⟩ (fun w j=>j.drop.perm (.refl _)|>fun _=>(tk (C:=[A5 g (T5 (l++m)) i])).hp j|>.left)
theorem wO(g:Nat)(m:List Bs)(b:Option Addr)(d:Nat)(e:m.length<=100000)(f:Bs):Pu prog 272 [B f,l9 g] (fun h=>aM g (.slice b m.length d) 34 h/\n9 h b (fV m)) (.bool (decide (f∈m))):=by
 refine b_ 7 func272 rfl rfl rfl ?_;rintro F ⟨hg,a⟩;refine E7 ?_;refine c_ rfl (ut m b d f qb) (fun h c _=>a.le c) rfl ?_;refine C5 ?_;exact d_ rfl rfl [] qh i_
theorem MU(l:List Bs)(a:Option Addr)(c:Nat)(f:FuncId)[HF prog f](qs:List Value)(b:l_->Prop)[Mn b](q:Bs->Bool)(d:∀x∈l,Pu prog f (B x::qs) b (.bool (q x)))(hl:l.length<=1000000000):Ct prog 271 [.slice a l.length c,.func (.func f) #[] qs.toArray] b [A5 a l c] (fun v A=>v=.slice a (l.filter fun x=>!q x).length c/\A=[A5 a (l.filter fun x=>!q x) c]):=by
 have h:=Da l a c f qs b q d hl;simp only[<-tN] at h;exact h
theorem zf(l m:List Bs)(a b:Option Addr)(c d:Nat)(hl:l.length<=100000)(j:m.length<=100000):Ct prog 199 [.slice a l.length c,.slice b m.length d] (fun h=>n9 h a (fV l)/\n9 h b (fV m)) [] (fun v A=>∃x y,v=.slice x ((T5 l).filter fun f=>!decide (f∈m)).length y/\A=[A5 x ((T5 l).filter fun f=>!decide (f∈m)) y]):=by
 refine b_ 9 func199 rfl rfl rfl ?_;rintro F ⟨ha,k⟩;have n:=AL l;refine C7 ?_;refine L5 rfl rfl rfl ?_;intro e;refine A1 ?_;refine e_ (oZ l a c qb) (fun h g _=>ha.le g) ?_;rintro v A ⟨x,y,rfl,rfl⟩;refine r7 ?_;refine e_ (MU (T5 l) x y 272 [l9 e] (fun h=>aM e (.slice b m.length d) 34 h/\n9 h b (fV m)) (fun f=>decide (f∈m)) (fun f _=>wO e m b d j f) qb) ?pre ?_;(case pre=>exact fun h g i=>⟨J_ i,k.le g⟩);rintro v A ⟨rfl,rfl⟩;refine C5 ?_;exact d_ rfl rfl _ ⟨x,y,rfl,rfl⟩ (fun w o=>Hp.left (A:=[_]) o)
def a1J(q:List Bs×Int)(v:Value)(A:List As):Prop:=∃x y,v=.tuple #[.slice x q.1.length y,.int .i64 q.2]/\A=[A5 x q.1 y]
abbrev Tl:Array Value:=#[.func (.func 197) #[] #[],.func (.func 198) #[] #[],.func (.func 199) #[] #[]]
def zi(l:List Bs)(how:Int)(m:List Bs):List Bs:=if how=0 then T5 m else if how=1 then T5 (l++m) else(T5 l).filter fun f=>!decide (f∈m)
theorem Ek(l m:List Bs)(how:Int)(a b:Option Addr)(c d:Nat)(hl:l.length<=100000)(t:m.length<=100000)(u:∀f∈l,f.length<=lr)(z:∀f∈m,f.length<=lr):Ct prog 119 [.slice a l.length c,.int .i64 how,.slice b m.length d] (fun h=>n9 h a (fV l)/\n9 h b (fV m)) [] (a1J (F9 l how m)):=by
 obtain⟨p,C⟩:=o8 (G1 l);obtain⟨q,D⟩:=o8 (G1 m);obtain⟨r,J⟩:=o8 (decide (how<0));obtain⟨S,M⟩:=o8 (decide (3<=how));refine b_ 37 func119 rfl rfl rfl ?_;rintro F ⟨ha,s⟩;refine Rc ?_;refine f_ (za rfl rfl) ?_;refine r7 ?_;intro T;refine r7 ?_;refine x8 [(0,.slice a l.length c),(1,.int .i64 how),(2,.slice b m.length d),(8,l9 T),(26,.bool (!p||(!q||(r||S))))] [.blk T (.cells Tl 259)] ?_ ?_
 ·cases p<;>cases q<;>cases r
  all_goals (
   refine r7 ?_;refine c_ rfl (gJ l a c qb u) (fun h g _=>ha.le g) rfl ?_;rw[<-C];refine E7 ?_;(first|refine u_ ?_|(refine v_ ?_;refine c_ rfl (gJ m b d qb z) (fun h g _=>s.le g) rfl ?_;rw[<-D]));refine O3 ?_;(first|refine u_ ?_|(refine v_ ?_;refine f_ ((F6 rfl rfl).eb J) ?_));refine E7 ?_;(first|refine u_ ?_|(refine v_ ?_;refine f_ ((I5 rfl rfl).eb M) ?_));refine r7 ?_)
  all_goals exact p9 sub i_
 refine O0 ?_ ?_<;>intro h
 ·have e:F9 l how m=([],1):=by
   unfold F9;refine zg ?_;rw[<-C,<-D]
   revert h
   cases p<;>cases q<;>cases r<;>cases S<;>simp<;>(try exact .inl (qr J.symm))<;>(try exact .inr (qr M.symm))
  rw[e];refine L7 ?_;exact u6 rfl rfl rfl [A5 none [] 0] ⟨none,0,rfl,rfl⟩ (fun w j=>j.dropAll.addNil _ _)
 have O:¬how<0:=fun k=>by rw[J,jk k] at h;cases p<;>cases q<;>simp at h
 have Q:¬3<=how:=fun k=>by rw[M,jk k] at h;cases p<;>cases q<;>cases r<;>simp at h
 have e:F9 l how m=if 16<(zi l how m).length then([],7) else(zi l how m,0):=by
  unfold F9 zi;refine zk ?_;rw[<-C,<-D];rintro(n|n|n|n)
  ·rw[n] at h;simp at h
  ·rw[n] at h;cases p<;>simp at h
  ·exact O n
  ·exact Q n
 rw[e];refine w8 ?_;refine n7 (ι:=Option Addr×Nat) (fun _=>True) (fun i=>[(9,.slice i.1 (zi l how m).length i.2)]) (fun i=>[A5 i.1 (zi l how m) i.2]) ?_ ?_
 ·obtain rfl|rfl|rfl:how=0\/how=1\/how=2:=by omega
  ·refine ap ?_;refine z_ _ rfl rfl rfl (ze l m a b c d t) i_ (fun h g _=>⟨ha.le g,s.le g⟩) rfl ?_;rintro v A ⟨x,y,rfl,rfl⟩;refine r7 ?_;exact g_ (x,y) trivial (fun w j=>Hp.left (A:=[_]) j)
  ·refine ap ?_;refine z_ _ rfl rfl rfl (MT l m a b c d hl t) i_ (fun h g _=>⟨ha.le g,s.le g⟩) rfl ?_;rintro v A ⟨x,y,rfl,rfl⟩;refine r7 ?_;exact g_ (x,y) trivial (fun w j=>Hp.left (A:=[_]) j)
  ·refine ap ?_;refine z_ _ rfl rfl rfl (zf l m a b c d hl t) i_ (fun h g _=>⟨ha.le g,s.le g⟩) rfl ?_;rintro v A ⟨x,y,rfl,rfl⟩;refine r7 ?_;exact g_ (x,y) trivial (fun w j=>Hp.left (A:=[_]) j)
 rintro⟨x,y⟩ _;refine eM ?_ ?_<;>intro h
 ·have o:16<(zi l how m).length:=by have:=qr h;omega
  rw[zg o];refine L7 ?_;exact u6 rfl rfl rfl [A5 none [] 0] ⟨none,0,rfl,rfl⟩ (fun w j=>j.dropAll.addNil _ _)
 ·have o:¬16<(zi l how m).length:=by have:=zq h;omega
  rw[zk o];refine bQ ?_;exact u6 rfl rfl rfl _ ⟨x,y,rfl,rfl⟩ i_
