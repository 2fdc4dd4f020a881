import Derived.Test.YtmcepdopookilaaGreatDoorutx15
set_option maxHeartbeats 16000000
set_option maxRecDepth 8000
set_option linter.unusedVariables false
set_option linter.unusedSimpArgs false
set_option linter.defProp false
namespace Go.Proofs.YtmcepdopookilaaGreatDoor.Rp
open Go Go.Sl Go.RowKit Go.Proofs.Tryz
theorem DV(i:IT):Pu prog 223 [.agg (cZ i).toArray] (fun _=>True) (.bool (decide (10<=i.kind)&&!i.peek)):=by
 obtain⟨q,a⟩:=o7 (decide (10<=i.kind));rw[<-a];refine b_ 11 func223 rfl rfl rfl ?_;intro F _;refine C6 ?_;refine m9 rfl rfl ?_;intro c;refine p_ ?_
 cases q
 all_goals (
  refine y9 ?_;refine f_ ((I4 rfl rfl).eq (qn ((qz).trans a.symm))) ?_;refine cG ?_)
 all_goals (refine A2 ?_;exact d_ rfl rfl [] qh (fun w b=>b.dropAll))
section
variable(b:Nat)(s:SE)(x:SL)(d:DD)(y:DL)(c:CM)(k:CL)(hv:s.a5J.a5I.length<=100000)(hvu:∀r∈s.a5J.a5I,r.1<18446744073709551616)(hc:tF c)(hn:s.num<18446744073709551615)(hl:y.rl.length<=100000)
include hv hvu hc hn hl
theorem DW:DT 150 b s x d y c k (DU s d c):=by
 have h9:=hc.set;have k0:=hc.a5M;obtain⟨e,he⟩:∃e,X8 s.a5J c.set c.uid=e:=⟨_,rfl⟩;obtain⟨j,m,n,f,t,g,o,p,q⟩:=s;refine y4 47 func150 rfl rfl rfl ?_;rintro F R ⟨Y,X⟩;refine C6 ?_;refine m9 rfl rfl ?_;intro g3;refine y9 ?_;refine c_ (lz b ⟨j,m,n,f,t,g,o,p,q⟩ x d y c k e he hv qb qb) ?pre ?_;(case pre=>exact fun h hh ⟨bs,O⟩=>⟨A3.rd O ud,X.set.le hh⟩);rintro v A ⟨Q,U,D,rfl,hy,rfl⟩;refine au ?_
 cases e with
 |none=>
  obtain⟨a1,c1,rfl⟩:∃a c1,D=E9 y (gW c.tag,L0) a c1:=hy;refine L7 ?_;refine H3 (A:=l5 x.ra f.a5I x.rc::O4 b ⟨j,m,n,f,t,g,o,p,q⟩ x d (E9 y (gW c.tag,L0) a1 c1)) (v:=.tuple #[]) (l6.le_refl _) (nx (.inr rfl) Y) ?_;exact m6 rfl _ qh (fun w M=>C5 (A:=[_,_,_]) (J:=[_,_]) tk M)
 |some l=>
  obtain rfl:D=y:=hy;obtain⟨h2,h3⟩:=eT he;have k8:f.a5I.length<=100000:=hv;have h8:l.length<=f.a5I.length:=h3;have hu:fP l:=fun u hu=>by obtain⟨r,hr,rfl⟩:=h2 u hu;exact hvu r hr
  refine y9 ?_;refine B8 (Z:=[U1 Q l U,.blk g3 (.cells (li c k).toArray 36)]) tk fun F1 S O=>?_;have V:o0 F1.heap Q (nV l):=by obtain⟨bs,O⟩:=O;exact A3.rd O ud
  have p3:F1.heap g3=some (.cells (li c k).toArray 36 (0,0)):=I_ O;clear O;replace Y:=Mn.le S.heap Y;replace X:=Mn.le S.heap X;obtain⟨sn,h4⟩:=o7 (c.a5M.any (fun i=>decide (10<=i.kind)&&!i.peek));refine p_ ?_;refine r_ (i8 rfl (fun w M=>I0 M p3 rfl)) ?_;refine e_ rfl (V3 cZ an c.a5M k.ia k.ic 223 [] (fun _=>True) (fun i=>decide (10<=i.kind)&&!i.peek) (fun i _=>DV i) qb) (fun h hh _=>⟨X.a5M.le hh,trivial⟩) rfl ?_;rw[<-h4];refine p_ ?_;refine w6 [(0,l9 b),(3,l9 g3),(4,.slice Q l.length U),(31,.bool (t||(c.a5N||!sn)))] (E7 b ⟨j,m,n,f,t,g,o,p,q⟩ x d D::r8 D.da D.rl D.dc::l5 x.ra f.a5I x.rc::R) ?_ ?_
  ·obtain⟨hs,h0⟩:=o7 (c.a5N);rw[<-h0]
   cases t<;>cases hs
   all_goals (
    refine wk 7 ?_;(first|(refine T2 rfl rfl rfl rfl rfl rfl rfl ?_)|(refine v_ ?_;refine r_ ((i8 rfl (fun w M=>I0 M p3 rfl)).eb h0) ?_));refine au ?_)
   all_goals exact o_ sub (fun w M=>(tk (C:=[_,_,_])).hp M)
  refine N8 ?_ ?_<;>intro h
  ·refine p_ ?_;refine r_ (dp rfl p3 ga) ?_;refine f_ (y8 (ps:=[(0,.const (.int .i64 3))]) (vs:=[(0,.int .i64 3)]) (cells:=(eA be db).toArray) rfl i6) ?_;refine p_ ?_;refine c_ (dE b ⟨j,m,n,f,t,g,o,p,q⟩ x d D c k be db l Q U hn) qw ?_;rintro v A ⟨rfl,rfl⟩;refine ov ?_;refine H3 (A:=l5 x.ra f.a5I x.rc::O4 b (G3 (⟨j,m,n,f,t,g,o,p,q⟩,d) c be l).1 {x with cl:=k,ua:=Q,uc:=U} (G3 (⟨j,m,n,f,t,g,o,p,q⟩,d) c be l).2 {D with ql:=db}) (v:=.tuple #[]) S (ny he (.look _ _) ⟨o0.nil _ _,o0.nil _ _⟩ V Y X) ?_;exact m6 rfl _ qh (fun w M=>C5 (A:=[_,_,_]) (J:=[]) tk M)
  refine p_ ?_;refine c_ (jT b ⟨j,m,n,f,t,g,o,p,q⟩ x d D 7) qw ?_;rintro v A ⟨rfl,rfl⟩;refine i7 rfl ?_;intro g7;refine xC ?_;refine C4 (C:=fun w:Bs=>[B w]) wE rfl ?_;intro a39 _;refine O2 ?_;refine B8 (Z:=[.own (.slice a39 1 1) 9 1 [B wE]]) tk fun F2 z ⟨bs,O⟩=>?_;have h1:o0 F2.heap a39 (fV [wE]):=A3.rd O ud;have h5:=z.heap _ _ p3;refine p_ ?_;refine r_ (dp rfl h5 ga) ?_;refine y9 ?_;refine A8 (iJ b ⟨j,m,n,f,t,g,o,p,q⟩ x d D c k {am (⟨j,m,n,f,t,g,o,p,q⟩,d) 7 with a5U:=[wE],how:=1} ⟨none,0,a39,1⟩ l Q U hv qb hu hn) ⟨⟨o0.nil _ _,h1⟩,V.le z.heap⟩ ?_;rintro v A F3 T ⟨rfl,r',z',h6,h7,rfl⟩;refine u7 ?_;refine H3 (A:=l5 x.ra f.a5I x.rc::O4 b (G3 (⟨j,m,n,f,t,g,o,p,q⟩,d) c r' l).1 {x with cl:=k,ua:=Q,uc:=U} (G3 (⟨j,m,n,f,t,g,o,p,q⟩,d) c r' l).2 {D with ql:=z'}) (v:=.tuple #[]) ((S.trans z).trans T) (ny he (rj.chg ⟨.inr (.inl rfl),.inr rfl,by simp[am],.inr (.inr rfl),.inl rfl⟩ h6) h7 (V.le (z.trans T).heap) (Mn.le (z.trans T).heap Y) (Mn.le (z.trans T).heap X)) ?_;exact m6 rfl _ qh (fun w M=>C5 (A:=[_,_,_]) (J:=[_]) tk M)
theorem DX:DT 151 b s x d y c k (DU s d c):=by
 have h5:=hc.set;have h6:=hc.a5U;obtain⟨e,U⟩:∃e,X8 s.a5J c.set c.uid=e:=⟨_,rfl⟩;refine y4 38 func151 rfl rfl rfl ?_;rintro F R ⟨q,t⟩;refine C6 ?_;refine m9 rfl rfl ?_;intro S;refine u7 ?_;refine n7 (ι:=DL) (fun f=>s.ro=true/\(∃a j,f=E9 y (ER c.tag,L0) a j)\/s.ro=false/\f=y) (fun _=>[(0,l9 b),(3,l9 S),(9,.bool s.ro)]) (fun f=>E7 b s x d f::r8 f.da f.rl f.dc::.blk S (.cells (li c k).toArray 36)::l5 x.ra s.a5J.a5I x.rc::R) ?_ ?_
 ·refine y9 ?_;refine c_ (rU b s x d y c k qb) qw ?_;rintro v A ⟨rfl,hA⟩;refine u7 ?_;rcases hA with⟨z,a,j,rfl⟩|⟨z,rfl⟩
  ·exact g_ (E9 y (ER c.tag,L0) a j) (.inl ⟨z,a,j,rfl⟩) i_
  ·exact g_ y (.inr ⟨z,rfl⟩) i_
 rintro f C;refine N8 ?_ ?_<;>intro h
 ·obtain⟨a,j,rfl⟩:∃a j,f=E9 y (ER c.tag,L0) a j:=by rcases C with⟨_,m⟩|⟨m,_⟩;exact m;(rw[h] at m;cases m)
  refine ov ?_;refine H3 (A:=l5 x.ra s.a5J.a5I x.rc::O4 b s x d (E9 y (ER c.tag,L0) a j)) (v:=.tuple #[]) (l6.le_refl _) (nx (.inl rfl) q) ?_;exact m6 rfl _ qh (fun w g=>C5 (A:=[_,_,_]) (J:=[_]) tk g)
 obtain rfl:f=y:=by rcases C with⟨m,_⟩|⟨_,m⟩;(rw[h] at m;cases m);exact m
 refine y9 ?_;refine c_ (lz b s x d f c k e U hv qb qb) ?pre ?_;(case pre=>exact fun h V ⟨bs,n⟩=>⟨A3.rd n ud,t.set.le V⟩);rintro v A ⟨D,T,M,rfl,hy,rfl⟩;refine au ?_
 cases e with
 |none=>
  obtain⟨a1,j,rfl⟩:∃a j,M=E9 f (gW c.tag,L0) a j:=hy;refine L7 ?_;refine H3 (A:=l5 x.ra s.a5J.a5I x.rc::O4 b s x d (E9 f (gW c.tag,L0) a1 j)) (v:=.tuple #[]) (l6.le_refl _) (nx (.inr rfl) q) ?_;exact m6 rfl _ qh (fun w g=>C5 (A:=[_,_,_]) (J:=[_,_]) tk g)
 |some l=>
  obtain rfl:M=f:=hy;obtain⟨X,h7⟩:=eT U;have hu:fP l:=fun u hu=>by obtain⟨r,z,rfl⟩:=X u hu;exact hvu r z
  refine y9 ?_;refine B8 (Z:=[U1 D l T,.blk S (.cells (li c k).toArray 36)]) tk fun F1 p n=>?_;have O:o0 F1.heap D (nV l):=by obtain⟨bs,n⟩:=n;exact A3.rd n ud
  have Q:F1.heap S=some (.cells (li c k).toArray 36 (0,0)):=I_ n;clear n;replace q:=Mn.le p.heap q;replace t:=Mn.le p.heap t;refine p_ ?_;refine c_ (jT b s x d M 7) qw ?_;rintro v A ⟨rfl,rfl⟩;refine i7 rfl ?_;intro g6;refine p_ ?_;refine D8 [1,4,6,8] [2,10,12,14,16] [] 17 ?_;refine wd [0] ?_;refine M4 1 rfl (i8 rfl (fun w g=>I0 g Q rfl)) I5 rfl rfl rfl i6 ?_;refine wd [3] ?_;refine M4 4 rfl (i8 rfl (fun w g=>I0 g Q rfl)) I5 rfl rfl rfl i6 ?_;refine wd [5] ?_;refine M4 6 rfl (i8 rfl (fun w g=>I0 g Q rfl)) I5 rfl rfl rfl i6 ?_;refine wd [7] ?_;refine M4 8 rfl (i8 rfl (fun w g=>I0 g Q rfl)) I5 rfl rfl rfl i6 ?_;refine h_ 2 rfl i6 ?_;refine c_ (Y5 c.a5U k.fa k.fc qb) (fun h V _=>t.a5U.le V) ?_;rintro v A ⟨Y,fc,rfl,rfl⟩;refine gj [9,10,11,12,13,14,15,16] ?_;refine B8 (Z:=[A4 Y c.a5U fc]) tk fun F2 i ⟨bs,n⟩=>?_;have h0:o0 F2.heap Y (fV c.a5U):=A3.rd n ud;have h2:=i.heap _ _ Q;refine p_ ?_;refine r_ (dp rfl h2 ga) ?_;refine y9 ?_;refine A8 (iJ b s x d M c k {am (s,d) 7 with a5U:=c.a5U,how:=c.how,hasS:=c.a5N,a5O:=c.a5O} ⟨none,0,Y,fc⟩ l D T hv qb hu hn) ⟨⟨o0.nil _ _,h0⟩,O.le i.heap⟩ ?_;rintro v A F3 o ⟨rfl,r',z',h3,h4,rfl⟩;refine u7 ?_;refine H3 (A:=l5 x.ra s.a5J.a5I x.rc::O4 b (G3 (s,d) c r' l).1 {x with cl:=k,ua:=D,uc:=T} (G3 (s,d) c r' l).2 {M with ql:=z'}) (v:=.tuple #[]) ((p.trans i).trans o) (ny U (rj.chg ⟨.inr (.inl rfl),.inr rfl,by simp[am],.inr (.inl rfl),.inl rfl⟩ h3) h4 (O.le (i.trans o).heap) (Mn.le (i.trans o).heap q) (Mn.le (i.trans o).heap t)) ?_;exact m6 rfl _ qh (fun w g=>C5 (A:=[_,_,_]) (J:=[_]) tk g)
end
end Go.Proofs.YtmcepdopookilaaGreatDoor.Rp
namespace Go.Proofs.YtmcepdopookilaaGreatDoor.Dg
open Go Go.Sl Go.Proofs.Tryz
abbrev W:=BitVec 32
abbrev bB(p:W):Value:=.int .u32 (p.toNat:Nat)
def gP(x:W)(c:Nat):W:=x>>>c|||x<<<(32-c)
def s0(x:W):W:=gP x 7^^^gP x 18^^^x>>>3
def s1(x:W):W:=gP x 17^^^gP x 19^^^x>>>10
def S0(x:W):W:=gP x 2^^^gP x 13^^^gP x 22
def S1(x:W):W:=gP x 6^^^gP x 11^^^gP x 25
def wb(l:List UInt8)(i:Nat):W:=BitVec.ofNat 32 (l.getD i 0).toNat
def PH(l:List UInt8)(t:Nat):W:=wb l (4*t)<<<24|||wb l (4*t+1)<<<16|||wb l (4*t+2)<<<8|||wb l (4*t+3)
def Q_(l:List UInt8):Nat->List W
 |0=>[]
 |n+1=>Q_ l n++[if n<16 then PH l n else s1 ((Q_ l n).getD (n-2) 0)+(Q_ l n).getD (n-7) 0+s0 ((Q_ l n).getD (n-15) 0)+(Q_ l n).getD (n-16) 0]
theorem U3(l:List UInt8):∀n,(Q_ l n).length=n
 |0=>rfl
 |n+1=>by simp[Q_,U3 l n]
def Oi:List W:=[
 0x428a2f98#32,0x71374491#32,0xb5c0fbcf#32,0xe9b5dba5#32,0x3956c25b#32,0x59f111f1#32,0x923f82a4#32,0xab1c5ed5#32,
 0xd807aa98#32,0x12835b01#32,0x243185be#32,0x550c7dc3#32,0x72be5d74#32,0x80deb1fe#32,0x9bdc06a7#32,0xc19bf174#32,
 0xe49b69c1#32,0xefbe4786#32,0x0fc19dc6#32,0x240ca1cc#32,0x2de92c6f#32,0x4a7484aa#32,0x5cb0a9dc#32,0x76f988da#32,
 0x983e5152#32,0xa831c66d#32,0xb00327c8#32,0xbf597fc7#32,0xc6e00bf3#32,0xd5a79147#32,0x06ca6351#32,0x14292967#32,
 0x27b70a85#32,0x2e1b2138#32,0x4d2c6dfc#32,0x53380d13#32,0x650a7354#32,0x766a0abb#32,0x81c2c92e#32,0x92722c85#32,
 0xa2bfe8a1#32,0xa81a664b#32,0xc24b8b70#32,0xc76c51a3#32,0xd192e819#32,0xd6990624#32,0xf40e3585#32,0x106aa070#32,
 0x19a4c116#32,0x1e376c08#32,0x2748774c#32,0x34b0bcb5#32,0x391c0cb3#32,0x4ed8aa4a#32,0x5b9cca4f#32,0x682e6ff3#32,
 0x748f82ee#32,0x78a5636f#32,0x84c87814#32,0x8cc70208#32,0x90befffa#32,0xa4506ceb#32,0xbef9a3f7#32,0xc67178f2#32]
def kk(t:Nat):W:=Oi.getD t 0
def t1(S:Nat->W)(k w:W):W:=S 7+S1 (S 4)+(S 4&&&S 5^^^ ~~~S 4&&&S 6)+k+w
def t2(S:Nat->W):W:=S0 (S 0)+(S 0&&&S 1^^^S 0&&&S 2^^^S 1&&&S 2)
def rnd(k w:W)(S:Nat->W):Nat->W
 |0=>t1 S k w+t2 S
 |1=>S 0
 |2=>S 1
 |3=>S 2
 |4=>S 3+t1 S k w
 |5=>S 4
 |6=>S 5
 |_=>S 6
def iK(l:List UInt8)(S:Nat->W):Nat->(Nat->W)
 |0=>S
 |n+1=>rnd (kk n) ((Q_ l 64).getD n 0) (iK l S n)
def blk(S:Nat->W)(l:List UInt8):Nat->W:=fun i=>S i+iK l S 64 i
def My:Nat->W
 |0=>0x6a09e667#32
 |1=>0xbb67ae85#32
 |2=>0x3c6ef372#32
 |3=>0xa54ff53a#32
 |4=>0x510e527f#32
 |5=>0x9b05688c#32
 |6=>0x1f83d9ab#32
 |_=>0x5be0cd19#32
def EU(S:Nat->W):List Value:=[bB (S 0),bB (S 1),bB (S 2),bB (S 3),bB (S 4),bB (S 5),bB (S 6),bB (S 7)]
def Mz(m:List UInt8):Nat->(Nat->W)
 |0=>My
 |n+1=>blk (Mz m n) ((m.drop (64*n)).take 64)
def st(m:List UInt8):Nat->W:=Mz m (m.length/64)
def rest(m:List UInt8):List UInt8:=m.drop (64*(m.length/64))
def be8(n:Nat):List UInt8:=(List.range 8).map fun i=>UInt8.ofNat (n/2^(56-8*i))
def tail(n:Nat):List UInt8:=[128]++List.replicate ((119-n%64)%64) 0++be8 (n*8%2^64)
def yP(x:W):List UInt8:=[UInt8.ofNat (x.toNat/2^24),UInt8.ofNat (x.toNat/2^16),UInt8.ofNat (x.toNat/2^8),UInt8.ofNat x.toNat]
def cw(S:Nat->W):List UInt8:=(List.range 8).flatMap fun i=>yP (S i)
def sha(m:List UInt8):List UInt8:=cw (st (m++tail m.length))
theorem pQ(m s:List UInt8):∀n,64*n<=m.length->Mz (m++s) n=Mz m n
 |0,_=>rfl
 |n+1,h=>by
  simp only[Mz];rw[pQ m s n qb,K1 qb,Z8 (by rw[z8];omega)]
section
variable{P:Program}{L:G0}{ty:TypeId}{pos:String}{af:Array Edge}{dst:Option Nat}{gd:Option (Nat×Bool)}{x y:Operand}{t t':TypeId}{p q:W}
theorem sx(p q:W):bits .xor .u32 (p.toNat:Nat) (q.toNat:Nat)=((p^^^q).toNat:Nat):=by rw[u32_xor_nat _ _ p.isLt q.isLt,BitVec.toNat_xor]
theorem DY(p q:W):bits .and .u32 (p.toNat:Nat) (q.toNat:Nat)=((p&&&q).toNat:Nat):=by rw[u32_and_nat _ _ p.isLt q.isLt,BitVec.toNat_and]
theorem HQ(p q:W):bits .or .u32 (p.toNat:Nat) (q.toNat:Nat)=((p|||q).toNat:Nat):=by rw[u32_or_nat _ _ p.isLt q.isLt,BitVec.toNat_or]
theorem iL(hx:ev L x=some (bB p))(a:ev L y=some (bB q)):E2 P ⟨dst,.binOp .xor t x y t',ty,pos,af,gd⟩ L (bB (p^^^q)):=by
 have:=kQ (P:=P) (dst:=dst) (gd:=gd) (ty:=ty) (pos:=pos) (af:=af) (t:=t) (t':=t') (op:=.xor) (.inr (.inr (.inl rfl))) hx a
 rwa [sx] at this
theorem pR(hx:ev L x=some (bB p))(a:ev L y=some (bB q)):E2 P ⟨dst,.binOp .and t x y t',ty,pos,af,gd⟩ L (bB (p&&&q)):=by
 have:=kQ (P:=P) (dst:=dst) (gd:=gd) (ty:=ty) (pos:=pos) (af:=af) (t:=t) (t':=t') (op:=.and) (.inl rfl) hx a
 rwa [DY] at this
theorem Bv(hx:ev L x=some (bB p))(a:ev L y=some (bB q)):E2 P ⟨dst,.binOp .or t x y t',ty,pos,af,gd⟩ L (bB (p|||q)):=by
 have:=kQ (P:=P) (dst:=dst) (gd:=gd) (ty:=ty) (pos:=pos) (af:=af) (t:=t) (t':=t') (op:=.or) (.inr (.inl rfl)) hx a
 rwa [HQ] at this
theorem cx(hx:ev L x=some (bB p))(a:ev L y=some (bB q)):E2 P ⟨dst,.binOp .add t x y t',ty,pos,af,gd⟩ L (bB (p+q)):=
 iT hx a (by rw[IntKind.wrap_u32,BitVec.toNat_add];omega)
theorem PI(hx:ev L x=some (bB p)):E2 P ⟨dst,.unOp .xor t x,ty,pos,af,gd⟩ L (bB (~~~p)):=by
 have:=NK (P:=P) (dst:=dst) (gd:=gd) (ty:=ty) (pos:=pos) (af:=af) (t:=t) hx;have e:bits .xor .u32 (if IntKind.u32.signed then-1 else IntKind.u32.max) (p.toNat:Nat)=((~~~p).toNat:Nat):=by
  have a:(if IntKind.u32.signed then(-1:Int) else IntKind.u32.max)=(((BitVec.allOnes 32:W).toNat:Nat):Int):=by decide
  rw[a,sx,BitVec.allOnes_xor]
 rwa [e] at this
theorem ur{k:IntKind}{n:Int}(c:Nat)(hx:ev L x=some (bB p))(a:ev L y=some (.int k n))(b:n=(c:Nat))(hc:c<=32):E2 P ⟨dst,.binOp .shl t x y t',ty,pos,af,gd⟩ L (bB (p<<<c)):=by
 have:=zZ (P:=P) (dst:=dst) (gd:=gd) (ty:=ty) (pos:=pos) (af:=af) (t:=t) (t':=t') hx a qb;have e:IntKind.u32.wrap ((p.toNat:Nat)*2^(min n.toNat IntKind.u32.bits))=((p<<<c).toNat:Nat):=by
  have d:min n.toNat IntKind.u32.bits=c:=by subst b;simp[IntKind.bits];omega
  rw[d,IntKind.wrap_u32,BitVec.toNat_shiftLeft,Nat.shiftLeft_eq];rw[Int.natCast_emod,Int.natCast_mul,Yz];rfl
 rwa [e] at this
theorem yQ{k:IntKind}{n:Int}(c:Nat)(hx:ev L x=some (bB p))(a:ev L y=some (.int k n))(b:n=(c:Nat))(hc:c<=32):E2 P ⟨dst,.binOp .shr t x y t',ty,pos,af,gd⟩ L (bB (p>>>c)):=by
 have:=NJ (P:=P) (dst:=dst) (gd:=gd) (ty:=ty) (pos:=pos) (af:=af) (t:=t) (t':=t') hx a qb;have e:((p.toNat:Nat):Int).fdiv (2^(min n.toNat IntKind.u32.bits))=((p>>>c).toNat:Nat):=by
  have d:min n.toNat IntKind.u32.bits=c:=by subst b;simp[IntKind.bits];omega
  rw[d,BitVec.toNat_ushiftRight,Nat.shiftRight_eq_div_pow,Jq _ (by exact Int.pow_nonneg qp)];rw[Int.natCast_ediv,Yz];rfl
 rwa [e] at this
theorem nz{a:TypeDesc}[hs:HU P t a][ht:HU P t' (.int .u32)](b:UInt8)(hx:ev L x=some (.int .u8 (b.toNat:Nat))):E2 P ⟨dst,.convert t t' x,ty,pos,af,gd⟩ L (bB (BitVec.ofNat 32 b.toNat)):=
 cP hx (by rw[IntKind.wrap_u32,BitVec.toNat_ofNat];omega)
end
theorem HR(p q:W):p|||q=q|||p:=BitVec.or_comm p q
open Go Go.Sl Go.Proofs.Tryz
theorem MA(c:Nat)(hc:0<c/\c<32):Value.int .u64 (bits .and .u64 (IntKind.u64.wrap (-(c:Int))) 31)=.int .u64 ((32-c:Nat):Int):=by
 have a:IntKind.u64.wrap (-(c:Int))=((18446744073709551616-c:Nat):Int):=by rw[IntKind.wrap_u64];omega
 rw[a,show(31:Int)=((31:Nat):Int) from rfl,u64_and_nat _ _ qb qb,nat_mask5];congr 2;omega
theorem lA(x:W)(c:Nat)(hc:0<c/\c<32):Pu prog 367 [bB x,.int .i64 (-(c:Int))] (fun _=>True) (bB (gP x c)):=by
 refine b_ 17 func367 rfl rfl rfl ?_;intro F _;refine y9 ?_;refine f_ (eB rfl) ?_;refine f_ ((kQ (.inl rfl) rfl rfl).eq (MA c hc)) ?_;refine E5 ?_;refine f_ (ur (32-c) rfl rfl rfl qb) ?_;refine E5 ?_;refine f_ (yQ c rfl rfl qb qb) ?_;refine f_ (Bv rfl rfl) ?_;refine C8 ?_;exact d_ rfl rfl [] ⟨by rw[HR];rfl,rfl⟩ (fun _ h=>h)
theorem mj(x:W)(a b c:Nat)(d e f:Int)(g:d=a)(i:e=b)(j:f=c)(ha:0<a/\a<32)(k:0<b/\b<32)(hc:0<c/\c<32):
  Pu prog 313 [bB x,.int .i64 d,.int .i64 e,.int .i64 f,.bool false] (fun _=>True) (bB (gP x a^^^gP x b^^^gP x c)):=by
 subst g i j;refine b_ 31 func313 rfl rfl rfl ?_;intro F _;refine O2 ?_;refine e_ rfl (lA x c hc) qw rfl ?_;refine au ?_;refine e_ rfl (lA x a ha) qw rfl ?_;refine E5 ?_;refine e_ rfl (lA x b k) qw rfl ?_;refine f_ (iL rfl rfl) ?_;refine p_ ?_;refine f_ (iL rfl rfl) ?_;refine C8 ?_;exact d_ rfl rfl [] qh (fun _ h=>h)
theorem ki(x:W)(a b c:Nat)(d e f:Int)(g:d=a)(i:e=b)(j:f=c)(ha:0<a/\a<32)(k:0<b/\b<32)(hc:0<c/\c<32):
  Pu prog 313 [bB x,.int .i64 d,.int .i64 e,.int .i64 f,.bool true] (fun _=>True) (bB (gP x a^^^gP x b^^^x>>>c)):=by
 subst g i j;refine b_ 31 func313 rfl rfl rfl ?_;intro F _;refine O2 ?_;refine e_ rfl (lA x c hc) qw rfl ?_;refine O2 ?_;refine f_ (yQ c rfl rfl rfl qb) ?_;refine O2 ?_;refine e_ rfl (lA x a ha) qw rfl ?_;refine E5 ?_;refine e_ rfl (lA x b k) qw rfl ?_;refine f_ (iL rfl rfl) ?_;refine p_ ?_;refine f_ (iL rfl rfl) ?_;refine C8 ?_;exact d_ rfl rfl [] qh (fun _ h=>h)
theorem MB:Pu prog 314 [] (fun _=>True) (.agg (Oi.map bB).toArray):=by
 refine b_ 2 func314 rfl rfl rfl ?_;intro F _;refine p_ ?_;intro c;refine C6 ?_;refine f_ (cN rfl (v:=.agg (Oi.map bB).toArray) (fun w=>by kernel_rfl)) ?_;refine T7 rfl rfl uh (by rfl) (fun q a=>by simp only[Value.cells,Jv,jx] at a;obtain⟨p,_,rfl⟩:=a;rfl) (by rfl) ?_;refine ov ?_;exact Ab rfl rfl (fun w b=>Y2 (n:=64) b ud) i6 [] ⟨by kernel_rfl,rfl⟩ (fun _ h=>h.drop)
def hc(S:Nat->W)(r:List UInt8)(n:Int):Array Value:=(EU S++[B r,.int .i64 n]).toArray
def cy(b:Nat)(S:Nat->W)(r:List UInt8)(n:Int):As:=.blk b (.cells (hc S r n) 280)
theorem PJ:Ct prog 168 [] (fun _=>True) [] (fun v A=>∃b,v=.pointer (some ⟨b,0,none⟩)/\A=[cy b My [] 0]):=by
 refine b_ 4 func168 rfl rfl rfl ?_;intro F _;refine xC ?_;refine f_ (cN rfl (v:=.agg (EU My).toArray) (fun w=>by kernel_rfl)) ?_;refine f_ (cN rfl (v:=.agg (hc My [] 0)) (fun w=>by kernel_rfl)) ?_;refine p_ ?_;intro a;refine C8 ?_;exact d_ rfl rfl _ ⟨a,rfl,rfl⟩ (fun _ h=>h)
def cz(l:List UInt8)(n:Nat):Array Value:=((Q_ l n).map bB++List.replicate (64-n) (bB 0#32)).toArray
theorem mn(l:List UInt8)(n:Nat)(h:n<=64):(cz l n).size=64:=by simp[cz,U3];omega
theorem HT(l:List UInt8){n o i:Nat}(h:o=i)(b:i<n):(cz l n)[o]? =some (bB ((Q_ l n).getD i 0)):=by
 subst h;have a:=U3 l n;simp only[cz,Ku];rw[jg (by simp[a];omega)];simp[a,b]
theorem Tb(l:List UInt8){n o:Nat}{v:Value}(h:o=n)(c:n<64)(hv:v=bB ((Q_ l (n+1)).getD n 0)):eC (cz l n) o [v]=cz l (n+1):=by
 subst h hv;have a:=U3 l o;have b:List.replicate (64-o) (bB 0#32)=bB 0#32::List.replicate (64-(o+1)) (bB 0#32):=by
  rw[show 64-o=(64-(o+1))+1 by omega,List.replicate_succ]
 have hg:(Q_ l (o+1)).getD o 0=if o<16 then PH l o else s1 ((Q_ l o).getD (o-2) 0)+(Q_ l o).getD (o-7) 0+s0 ((Q_ l o).getD (o-15) 0)+(Q_ l o).getD (o-16) 0:=by
  simp[Q_,a]
 rw[hg];apply Q6.1;simp only[eC,cz,b];rw[Yq (by simp[a])];simp only[jp];rw[J4,Qc (by simp[a])];simp[a,Q_]
theorem HV(l:List UInt8){n:Nat}(h:n<16):(Q_ l (n+1)).getD n 0=PH l n:=by simp[Q_,U3,h]
theorem HW(l:List UInt8){n:Nat}(h:16<=n):(Q_ l (n+1)).getD n 0=s1 ((Q_ l n).getD (n-2) 0)+(Q_ l n).getD (n-7) 0+s0 ((Q_ l n).getD (n-15) 0)+(Q_ l n).getD (n-16) 0:=by
 simp[Q_,U3,show¬n<16 by omega]
theorem a1C{o i:Nat}(h:o=i)(a:i<64):(Oi.map bB).toArray[o]? =some (bB (kk i)):=by
 subst h;have b:Oi.length=64:=rfl;simp[kk,b,a]
theorem PK(l:List UInt8):(Value.cells (.agg (#[.int .u32 0,.int .u32 0,.int .u32 0,.int .u32 0,.int .u32 0,.int .u32 0,.int .u32 0,.int .u32 0,.int .u32 0,.int .u32 0,.int .u32 0,.int .u32 0,.int .u32 0,.int .u32 0,.int .u32 0,.int .u32 0,.int .u32 0,.int .u32 0,.int .u32 0,.int .u32 0,.int .u32 0,.int .u32 0,.int .u32 0,.int .u32 0,.int .u32 0,.int .u32 0,.int .u32 0,.int .u32 0,.int .u32 0,.int .u32 0,.int .u32 0,.int .u32 0,.int .u32 0,.int .u32 0,.int .u32 0,.int .u32 0,.int .u32 0,.int .u32 0,.int .u32 0,.int .u32 0,.int .u32 0,.int .u32 0,.int .u32 0,.int .u32 0,.int .u32 0,.int .u32 0,.int .u32 0,.int .u32 0,.int .u32 0,.int .u32 0,.int .u32 0,.int .u32 0,.int .u32 0,.int .u32 0,.int .u32 0,.int .u32 0,.int .u32 0,.int .u32 0,.int .u32 0,.int .u32 0,.int .u32 0,.int .u32 0,.int .u32 0,.int .u32 0])))=cz l 0:=by kernel_rfl
def upto(S X:Nat->W)(k:Nat):Nat->W:=fun i=>if i<k then S i+X i else S i
theorem a1D{S:Nat->W}{r:List UInt8}{n:Int}{o i:Nat}(h:o=i)(a:i<8):(hc S r n)[o]? =some (bB (S i)):=by
 subst h;rcases (show o=0\/o=1\/o=2\/o=3\/o=4\/o=5\/o=6\/o=7 by omega) with rfl|rfl|rfl|rfl|rfl|rfl|rfl|rfl<;>rfl
theorem Tc{S:Nat->W}{o i:Nat}(h:o=i)(a:i<8):(EU S).toArray[o]? =some (bB (S i)):=by
 subst h;rcases (show o=0\/o=1\/o=2\/o=3\/o=4\/o=5\/o=6\/o=7 by omega) with rfl|rfl|rfl|rfl|rfl|rfl|rfl|rfl<;>rfl
theorem PM(S X:Nat->W)(r:List UInt8)(n:Int){k o:Nat}(h:o=k)(a:k<8):eC (hc (upto S X k) r n) o [bB (upto S X k k+X k)]=hc (upto S X (k+1)) r n:=by
 subst h;rcases (show o=0\/o=1\/o=2\/o=3\/o=4\/o=5\/o=6\/o=7 by omega) with rfl|rfl|rfl|rfl|rfl|rfl|rfl|rfl<;>rfl
def a1E:Value:=.agg (#[.int .u32 0,.int .u32 0,.int .u32 0,.int .u32 0,.int .u32 0,.int .u32 0,.int .u32 0,.int .u32 0,.int .u32 0,.int .u32 0,.int .u32 0,.int .u32 0,.int .u32 0,.int .u32 0,.int .u32 0,.int .u32 0,.int .u32 0,.int .u32 0,.int .u32 0,.int .u32 0,.int .u32 0,.int .u32 0,.int .u32 0,.int .u32 0,.int .u32 0,.int .u32 0,.int .u32 0,.int .u32 0,.int .u32 0,.int .u32 0,.int .u32 0,.int .u32 0,.int .u32 0,.int .u32 0,.int .u32 0,.int .u32 0,.int .u32 0,.int .u32 0,.int .u32 0,.int .u32 0,.int .u32 0,.int .u32 0,.int .u32 0,.int .u32 0,.int .u32 0,.int .u32 0,.int .u32 0,.int .u32 0,.int .u32 0,.int .u32 0,.int .u32 0,.int .u32 0,.int .u32 0,.int .u32 0,.int .u32 0,.int .u32 0,.int .u32 0,.int .u32 0,.int .u32 0,.int .u32 0,.int .u32 0,.int .u32 0,.int .u32 0,.int .u32 0])
theorem Bw(S:Nat->W):∀q∈(Value.cells (.agg (EU S).toArray)).toList,q.oneCell'=true:=fun q a=>by
 simp[Value.cells,EU] at a;rcases a with rfl|rfl|rfl|rfl|rfl|rfl|rfl|rfl<;>rfl
theorem HX(b:Nat)(S:Nat->W)(r:List UInt8)(n:Int)(l:List UInt8)(hl:l.length=64):
  Ct prog 240 [.pointer (some ⟨b,0,none⟩),B l] (fun _=>True) [cy b S r n] (fun v A=>v=.tuple #[]/\A=[cy b (blk S l) r n]):=by
 refine b_ 169 func240 rfl rfl rfl ?_;intro F _;refine p_ ?_;intro f;refine p_ ?_;refine o9 (ι:=Nat) (fun k=>k<=16) (fun k=>[(0,.pointer (some ⟨b,0,none⟩)),(1,B l),(4,.pointer (some ⟨f,0,none⟩)),(13,.int .i64 (k:Nat))]) (fun k=>[.blk f (.cells (cz l k) 344),cy b S r n]) (fun k=>16-k) 0 qb ?_ ?_ ?_
 ·exact sub
 ·intro w a;rw[<-PK];exact a
 ·intro k m;refine R6 ?_ ?_<;>intro h
  ·simp only[jw] at h;refine y9 ?_;refine fZ ([],[],[]) 32 rfl ?_;refine wd [0,1,2,3] ?_;refine w_ 4 rfl ((A6 rfl rfl qb).eq (v':=.int .u8 ((l.getD (4*k) 0).toNat:Nat)) (by rw[show(4*(k:Int)).toNat=4*k by omega])) ?_;refine w_ 5 rfl (nz _ rfl) ?_;refine w_ 6 rfl (ur 24 rfl rfl rfl qb) ?_;refine wd [7,8,9,10] ?_;refine w_ 11 rfl ((A6 rfl rfl qb).eq (v':=.int .u8 ((l.getD (4*k+1) 0).toNat:Nat)) (by rw[show(4*(k:Int)+1).toNat=4*k+1 by omega])) ?_;refine w_ 12 rfl (nz _ rfl) ?_;refine w_ 13 rfl (ur 16 rfl rfl rfl qb) ?_;refine w_ 14 rfl (Bv rfl rfl) ?_;refine wd [15,16,17,18] ?_;refine w_ 19 rfl ((A6 rfl rfl qb).eq (v':=.int .u8 ((l.getD (4*k+2) 0).toNat:Nat)) (by rw[show(4*(k:Int)+2).toNat=4*k+2 by omega])) ?_;refine w_ 20 rfl (nz _ rfl) ?_;refine w_ 21 rfl (ur 8 rfl rfl rfl qb) ?_;refine w_ 22 rfl (Bv rfl rfl) ?_;refine wd [23,24,25,26] ?_;refine w_ 27 rfl ((A6 rfl rfl qb).eq (v':=.int .u8 ((l.getD (4*k+3) 0).toNat:Nat)) (by rw[show(4*(k:Int)+3).toNat=4*k+3 by omega])) ?_;refine w_ 28 rfl (nz _ rfl) ?_;refine w_ 29 rfl (Bv rfl rfl) ?_;refine wd [30] ?_;refine h_ 31 rfl i6 ?_;refine I6 rfl rfl uh (by rfl) (by(intro q c;simp[Value.cells] at c;first|(subst c;rfl)|(rcases c with rfl|rfl|rfl|rfl|rfl|rfl|rfl|rfl<;>rfl)|(rcases c with rfl|rfl|rfl|rfl|rfl|rfl|rfl|rfl|rfl|rfl|rfl|rfl|rfl|rfl|rfl|rfl|rfl|rfl|rfl|rfl<;>rfl))) (by rw[mn l k qb];omega) ?_;refine E6 [] ?_;refine y9 ?_;refine l8 (k+1) qb qb ?_ ?_
   ·exact sub
   ·intro w a;rw[<-Tb l (o:=0+(k:Int).toNat*1) qb qb (by rw[HV l qb])];exact a
  ·have g:k=16:=(by simp at h;omega);subst g;refine p_ ?_;refine o9 (ι:=Nat) (fun k=>16<=k/\k<=64) (fun k=>[(0,.pointer (some ⟨b,0,none⟩)),(4,.pointer (some ⟨f,0,none⟩)),(6,.int .i64 (k:Nat))]) (fun k=>[.blk f (.cells (cz l k) 344),cy b S r n]) (fun k=>64-k) 16 qb ?_ ?_ ?_
   ·exact sub
   ·intro w a;exact a
   ·intro k m;refine bD ?_ ?_<;>intro h
    ·simp only[jw] at h;refine u7 ?_;refine Aj [4,9,14,20] [5,15,23] 24 ?_;refine wd [0,1,2,3] ?_;refine bI 4 rfl ud (E8 rfl .del (HT l (i:=k-2) qb qb)) rfl rfl rfl i6 ?_;refine wd [6,7,8] ?_;refine bI 9 rfl ud (E8 rfl .del (HT l (i:=k-7) qb qb)) rfl rfl rfl i6 ?_;refine wd [11,12,13] ?_;refine bI 14 rfl ud (E8 rfl .del (HT l (i:=k-15) qb qb)) rfl rfl rfl i6 ?_;refine wd [17,18,19] ?_;refine bI 20 rfl ud (E8 rfl .del (HT l (i:=k-16) qb qb)) rfl rfl rfl i6 ?_;refine h_ 5 rfl i6 ?_;refine e_ rfl (ki _ 17 19 10 _ _ _ rfl rfl rfl qb qb qb) qw rfl ?_;refine ah ?_;refine w_ 10 rfl (cx rfl rfl) ?_;refine h_ 15 rfl i6 ?_;refine e_ rfl (ki _ 7 18 3 _ _ _ rfl rfl rfl qb qb qb) qw rfl ?_;refine ah ?_;refine w_ 16 rfl (cx rfl rfl) ?_;refine w_ 21 rfl (cx rfl rfl) ?_;refine wd [22] ?_;refine h_ 23 rfl i6 ?_;refine I6 rfl rfl uh (by rfl) (by(intro q c;simp[Value.cells] at c;first|(subst c;rfl)|(rcases c with rfl|rfl|rfl|rfl|rfl|rfl|rfl|rfl<;>rfl)|(rcases c with rfl|rfl|rfl|rfl|rfl|rfl|rfl|rfl|rfl|rfl|rfl|rfl|rfl|rfl|rfl|rfl|rfl|rfl|rfl|rfl<;>rfl))) (by rw[mn l k qb];omega) ?_;refine E6 [] ?_;refine E5 ?_;refine l8 (k+1) qb qb ?_ ?_
     ·exact sub
     ·intro w a;rw[<-Tb l (o:=0+(k:Int).toNat*1) qb qb (by rw[HW l qb])];exact a
    ·have d:k=64:=(by simp at h;omega);subst d;refine C6 ?_;refine e_ rfl MB qw rfl ?_;refine p_ ?_;intro t;refine T7 rfl rfl uh (by rfl) (fun q c=>by simp only[Value.cells,Jv,jx] at c;obtain⟨p,_,rfl⟩:=c;rfl) (by rfl) ?_;refine u7 ?_;refine au ?_;intro j;refine T7 rfl rfl uh (by rfl) (Bw _) (by rfl) ?_;refine p_ ?_;refine o9 (ι:=Nat) (fun k=>k<=64) (fun k=>[(0,.pointer (some ⟨b,0,none⟩)),(4,.pointer (some ⟨f,0,none⟩)),(7,.pointer (some ⟨t,0,none⟩)),(8,.pointer (some ⟨j,0,none⟩)),(80,.int .i64 (k:Nat))])
      (fun k=>[.blk j (.cells (EU (iK l S k)).toArray 278),.blk t (.cells (Oi.map bB).toArray 344),.blk f (.cells (cz l 64) 344),cy b S r n]) (fun k=>64-k) 0 qb ?_ ?_ ?_
     ·exact sub
     ·intro w a;have e:eC (Value.cells a1E) 0 (Value.cells (.agg (Oi.map bB).toArray)).toList=(Oi.map bB).toArray:=(by kernel_rfl);rw[<-e];exact a
     ·intro k m;refine R6 ?_ ?_<;>intro h
      ·simp only[jw] at h;refine y9 ?_;refine Aj [1,3,7,9,12,15,21,25] [4] 28 ?_;refine wd [0,1,2,3,6,7,8,9] ?_;refine w_ 10 rfl (pR rfl rfl) ?_;refine wd [11,12] ?_;refine w_ 13 rfl (PI rfl) ?_;refine wd [14,15] ?_;refine w_ 16 rfl (pR rfl rfl) ?_;refine w_ 17 rfl (iL rfl rfl) ?_;refine wd [19,20] ?_;refine bI 21 rfl ud (E8 rfl .del (a1C (i:=k) qb qb)) rfl rfl rfl i6 ?_;refine wd [23,24] ?_;refine bI 25 rfl ud (E8 rfl .del (HT l (i:=k) qb qb)) rfl rfl rfl i6 ?_;refine h_ 4 rfl i6 ?_;refine e_ rfl (mj _ 6 11 25 _ _ _ rfl rfl rfl qb qb qb) qw rfl ?_;refine ah ?_;refine w_ 5 rfl (cx rfl rfl) ?_;refine w_ 18 rfl (cx rfl rfl) ?_;refine w_ 22 rfl (cx rfl rfl) ?_;refine w_ 26 rfl (cx rfl rfl) ?_;refine wd [27] ?_;refine u7 ?_;refine Aj [1,4,6,9,11,15,17] [2] 22 ?_;refine wd [0,1,3,4,5,6] ?_;refine w_ 7 rfl (pR rfl rfl) ?_;refine wd [8,9,10,11] ?_;refine w_ 12 rfl (pR rfl rfl) ?_;refine w_ 13 rfl (iL rfl rfl) ?_;refine wd [14,15,16,17] ?_;refine w_ 18 rfl (pR rfl rfl) ?_;refine w_ 19 rfl (iL rfl rfl) ?_;refine h_ 2 rfl i6 ?_;refine e_ rfl (mj _ 2 13 22 _ _ _ rfl rfl rfl qb qb qb) qw rfl ?_;refine ah ?_;refine w_ 20 rfl (cx rfl rfl) ?_;refine wd [21] ?_;refine y9 ?_;refine f_ (cx rfl rfl) ?_;refine wk 9 ?_;refine f_ (cx rfl rfl) ?_;refine cG ?_;refine f_ (cN rfl (v:=.agg (EU (iK l S (k+1))).toArray) (fun w=>by kernel_rfl)) ?_;refine T7 rfl rfl uh (by rfl) (Bw _) (by rfl) ?_;refine y9 ?_;refine l8 (k+1) qb qb ?_ ?_
       ·exact sub
       ·intro w a;exact a
      ·have d:k=64:=(by simp at h;omega);subst d;refine p_ ?_;refine o9 (ι:=Nat) (fun k=>k<=8) (fun k=>[(0,.pointer (some ⟨b,0,none⟩)),(8,.pointer (some ⟨j,0,none⟩)),(152,.int .i64 (k:Nat))])
        (fun k=>[cy b (upto S (iK l S 64) k) r n,.blk j (.cells (EU (iK l S 64)).toArray 278)]) (fun k=>8-k) 0 qb ?_ ?_ ?_
       ·exact sub
       ·intro w a;exact((a.front (.there (.there (.there .del)))).upd_same (.there (.there .del))).upd_same (.there (.there .del))
       ·intro k m;refine R6 ?_ ?_<;>intro h
        ·simp only[jw] at h;refine y9 ?_;refine Aj [5,8] [13] 14 ?_;refine wd [0,1,2,3,4] ?_;refine bI 5 rfl ud (E8 rfl .del (a1D (i:=k) qb qb)) rfl rfl rfl i6 ?_;refine wd [6,7] ?_;refine bI 8 rfl ud (E8 rfl .del (Tc (i:=k) qb qb)) rfl rfl rfl i6 ?_;refine w_ 9 rfl (cx rfl rfl) ?_;refine wd [10,11,12] ?_;refine h_ 13 rfl i6 ?_;refine I6 rfl rfl uh (by rfl) (by(intro q c;simp[Value.cells] at c;first|(subst c;rfl)|(rcases c with rfl|rfl|rfl|rfl|rfl|rfl|rfl|rfl<;>rfl)|(rcases c with rfl|rfl|rfl|rfl|rfl|rfl|rfl|rfl|rfl|rfl|rfl|rfl|rfl|rfl|rfl|rfl|rfl|rfl|rfl|rfl<;>rfl))) (by simp[hc,EU];omega) ?_;refine E6 [] ?_;refine y9 ?_;refine l8 (k+1) qb qb ?_ ?_
         ·exact sub
         ·intro w a;unfold cy;rw[<-PM S (iK l S 64) r n (k:=k) (o:=0+0+(k:Int).toNat*1) qb qb];exact a
        ·have s:k=8:=(by simp at h;omega);subst s;refine u7 ?_;exact m6 rfl [cy b (blk S l) r n] qh (fun w a=>a.upd_same (.there .del))
def HS(b:Nat)(m:List UInt8):As:=cy b (st m) (rest m) (m.length:Nat)
theorem MC(m:List UInt8):(rest m).length<=m.length:=by simp[rest]
theorem wF(m s:List UInt8):rest m++s=(m++s).drop (64*(m.length/64)):=by
 rw[rest,K1 qb]
theorem PN(S:Nat->W)(r:List UInt8)(n:Int):∀q∈(Value.cells (.agg (sl (hc S r n) 0 10).toArray)).toList,q.oneCell'=true:=fun q a=>by
 simp[Value.cells,sl,hc,EU] at a;rcases a with rfl|rfl|rfl|rfl|rfl|rfl|rfl|rfl|rfl|rfl<;>rfl
theorem wG(b:Nat)(m s:List UInt8)(l:m.length+s.length<=9223372036854775807):
  Ct prog 169 [.pointer (some ⟨b,0,none⟩),B s] (fun _=>True) [HS b m] (fun v A=>v=.tuple #[]/\A=[HS b (m++s)]):=by
 have d:=MC m;refine b_ 34 func169 rfl rfl rfl ?_;intro F _;refine wk 17 ?_;refine f_ ((G9 rfl rfl qb).eq (v':=B ((m++s).drop (64*(m.length/64)))) (by rw[wF])) ?_;refine p_ ?_;have f:(m++s).length=m.length+s.length:=by simp
 generalize hTT:m++s=T at*;refine o9 (ι:=Nat) (fun i=>m.length/64<=i/\i<=T.length/64) (fun i=>[(0,.pointer (some ⟨b,0,none⟩)),(1,B (T.drop (64*i)))]) (fun i=>[cy b (Mz T i) (rest m) (T.length:Nat)]) (fun i=>T.length/64-i) (m.length/64) qb ?_ ?_ ?_
 ·exact sub
 ·intro w a;have e:Mz T (m.length/64)=st m:=by rw[<-hTT,pQ m s _ qb];rfl
  rw[e,f];have g:((m.length+s.length:Nat):Int)=(m.length:Int)+(s.length:Int):=by omega
  rw[g];exact a
 ·intro i n;have j:(T.drop (64*i)).length=T.length-64*i:=by simp
  refine eI ?_ ?_<;>intro h
  ·simp only[jw] at h;refine E5 ?_;refine x5 [] rfl (HX b _ _ _ _ (by simp;omega)) i_ qw rfl ?_;rintro v A ⟨rfl,rfl⟩;refine p_ ?_;refine f_ ((H5 rfl rfl rfl qb).eq (v':=B (T.drop (64*(i+1)))) (by congr 2;rw[Kr,jq (by simp;omega)];congr 1)) ?_;refine p_ ?_;refine l8 (i+1) qb qb ?_ ?_
   ·exact sub
   ·intro w a;have e:Mz T (i+1)=blk (Mz T i) (List.take (Int.toNat 64-Int.toNat 0) (List.drop (Int.toNat 0) (List.drop (64*i) T))):=rfl;rw[e];exact a
  ·have k:T.length-64*i<64:=(by simp at h;omega);have c:i=T.length/64:=(by omega);subst c;refine au ?_;exact m6 rfl [HS b T] qh i_
def DZ(n k:Nat):List UInt8:=(List.range k).map fun i=>UInt8.ofNat (n/2^(56-8*i))
theorem Ea(n k:Nat):DZ n (k+1)=DZ n k++[UInt8.ofNat (n/2^(56-8*k))]:=by simp[DZ,List.range_succ]
def fd(n k:Nat):List UInt8:=[128]++List.replicate ((119-n%64)%64) 0++DZ (n*8%2^64) k
theorem yR(n k:Nat):fd n (k+1)=fd n k++[UInt8.ofNat (n*8%2^64/2^(56-8*k))]:=by simp[fd,Ea]
theorem Eb(n k:Nat):(fd n k).length<=65+k:=by simp[fd,DZ];omega
theorem Bx(x:Nat):IntKind.u8.wrap (x:Int)=((UInt8.ofNat x).toNat:Nat):=by
 rw[IntKind.wrap_u8,UInt8.toNat_ofNat'];omega
theorem HY(n k:Nat)(c:k<8):Value.int .u8 (IntKind.u8.wrap ((IntKind.u64.wrap ((n:Int)*8)).fdiv (2^(min (56-8*(k:Int)).toNat IntKind.u64.bits))))=.int .u8 ((UInt8.ofNat (n*8%2^64/2^(56-8*k))).toNat:Nat):=by
 rw[<-Bx];have a:min (56-8*(k:Int)).toNat IntKind.u64.bits=56-8*k:=by simp[IntKind.bits];omega
 have b:IntKind.u64.wrap ((n:Int)*8)=((n*8%2^64:Nat):Int):=by rw[IntKind.wrap_u64];omega
 rw[a,b,Jq _ (by exact Int.pow_nonneg qp)];congr 3
theorem aP(S:Nat->W):(cw S).length=32:=by simp[cw,yP];rfl
theorem yS(S:Nat->W){i k:Nat}(a:i<8)(b:k<4):(cw S).getD (4*i+k) 0=UInt8.ofNat ((S i).toNat/2^(24-8*k)):=by
 rcases (show i=0\/i=1\/i=2\/i=3\/i=4\/i=5\/i=6\/i=7 by omega) with rfl|rfl|rfl|rfl|rfl|rfl|rfl|rfl<;>
  rcases (show k=0\/k=1\/k=2\/k=3 by omega) with rfl|rfl|rfl|rfl<;>simp[cw,yP,List.range_succ]
def dF(S:Nat->W)(n:Nat):Array Value:=(A5 ((cw S).take n)++List.replicate (32-n) (Value.int .u8 0)).toArray
theorem wH(S:Nat->W)(n:Nat)(h:n<=32):(dF S n).size=32:=by simp[dF,A5,aP];omega
theorem a1F(S:Nat->W){n o:Nat}{v:Value}(h:o=n)(b:n<32)(hv:v=.int .u8 (((cw S).getD n 0).toNat:Nat)):eC (dF S n) o [v]=dF S (n+1):=by
 subst h hv;have a:=aP S;have c:List.replicate (32-o) (Value.int .u8 0)=Value.int .u8 0::List.replicate (32-(o+1)) (Value.int .u8 0):=by
  rw[show 32-o=(32-(o+1))+1 by omega,List.replicate_succ]
 have d:(cw S).take (o+1)=(cw S).take o++[(cw S).getD o 0]:=by
  rw[kj qb];simp[a,b]
 apply Q6.1;simp only[eC,dF,c];rw[Yq (by simp[A5,a];omega)];simp only[jp];rw[J4,Qc (by simp[A5,a];omega)];have e:min o 32=o:=by omega
 simp[A5,a,d,e]
theorem Ia(x:W){k:Nat}(a:k<4):Value.int .u8 (IntKind.u8.wrap ((x>>>(24-8*k)).toNat:Nat))=.int .u8 ((UInt8.ofNat (x.toNat/2^(24-8*k))).toNat:Nat):=by
 rw[Bx,BitVec.toNat_ushiftRight,Nat.shiftRight_eq_div_pow]
theorem MD(b:Nat)(m:List UInt8)(J:m.length<=9223372036854775000):
  Ct prog 170 [.pointer (some ⟨b,0,none⟩)] (fun _=>True) [HS b m] (fun v A=>v=B (sha m)/\A=[HS b m]):=by
 refine b_ 68 func170 rfl rfl rfl ?_;intro F _;refine E5 ?_;refine O2 ?_;intro d;refine T7 rfl rfl uh (by rfl) (PN _ _ _) (by rfl) ?_;refine u7 ?_;refine D5 (H':=[HS d m,HS b m]) i_ ?_;refine au ?_;refine nQ rfl rfl rfl qb (by show(1:Int)*_<=_;omega) rfl ?_;intro a5;rw[show(119-(m.length:Int)%64)%64=(((119-m.length%64)%64:Nat):Int) by omega];refine r_ (bX (l:=List.replicate ((119-m.length%64)%64) 0) rfl (by simp;omega) (fun w a=>by have t:=(a.ownN ud).2.2.1;simp only[jm] at t;simp only[A5,List.map_replicate];exact t)) ?_;refine f_ ((G9 rfl rfl (by simp;omega)).eq (v':=B (fd m.length 0)) (by simp[fd,DZ])) ?_;refine y9 ?_;refine o9 (ι:=Nat) (fun k=>k<=8) (fun k=>[(0,.pointer (some ⟨b,0,none⟩)),(3,.pointer (some ⟨d,0,none⟩)),(4,B (fd m.length k)),(23,.int .i64 (k:Nat))]) (fun k=>[HS d m,HS b m]) (fun k=>8-k) 0 qb ?_ ?_ ?_
 ·exact sub
 ·intro w a;exact a.upd_same .del
 ·intro k z;have C:=Eb m.length k;refine R6 ?_ ?_<;>intro h
  ·simp only[jw] at h;refine wk 8 ?_;refine f_ (Cl rfl rfl) ?_;refine O2 ?_;refine f_ ((eB rfl).eq (HY m.length k qb)) ?_;refine x7 rfl rfl rfl rfl rfl rfl (xs:=A5 [UInt8.ofNat (m.length*8%2^64/2^(56-8*k))]) rfl rfl ?_;intro D x;refine r_ (bX (l:=[UInt8.ofNat (m.length*8%2^64/2^(56-8*k))]) rfl rfl (fun w a=>(a.ownN ud).2.2.1)) ?_;refine f_ ((G9 rfl rfl (by simp;omega)).eq (v':=B (fd m.length (k+1))) (by rw[yR])) ?_;refine E5 ?_;refine l8 (k+1) qb qb ?_ ?_
   ·exact sub
   ·intro w a;exact a.upd_same .del
  ·have p:k=8:=(by simp at h;omega);subst p;refine p_ ?_;refine x5 [HS b m] rfl (wG d m (fd m.length 8) qb) i_ qw rfl ?_;rintro v A ⟨rfl,rfl⟩;refine u7 ?_;have c:sha m=cw (st (m++fd m.length 8)):=rfl;generalize hT:m++fd m.length 8=T at*;refine p_ ?_;intro f;refine E5 ?_;refine o9 (ι:=Nat) (fun i=>i<=8) (fun i=>[(6,.pointer (some ⟨f,0,none⟩)),(45,.agg (EU (st T)).toArray),(46,.int .i64 (i:Nat))]) (fun i=>[.blk f (.cells (dF (st T) (4*i)) 281),HS b m]) (fun i=>8-i) 0 qb ?_ ?_ ?_
   ·exact sub
   ·intro w a;have e:dF (st T) (4*0)=#[.int .u8 0,.int .u8 0,.int .u8 0,.int .u8 0,.int .u8 0,.int .u8 0,.int .u8 0,.int .u8 0,.int .u8 0,.int .u8 0,.int .u8 0,.int .u8 0,.int .u8 0,.int .u8 0,.int .u8 0,.int .u8 0,.int .u8 0,.int .u8 0,.int .u8 0,.int .u8 0,.int .u8 0,.int .u8 0,.int .u8 0,.int .u8 0,.int .u8 0,.int .u8 0,.int .u8 0,.int .u8 0,.int .u8 0,.int .u8 0,.int .u8 0,.int .u8 0]:=(by simp[dF,A5,List.replicate]);rw[e];exact a.upd_same (.there .del)
   ·intro i M;refine R6 ?_ ?_<;>intro h
    ·simp only[jw] at h;refine p_ ?_;refine f_ (eE i rfl rfl rfl qb (Tc (i:=i) rfl qb)) ?_;refine E5 ?_;refine o9 (ι:=Nat) (fun k=>k<=4) (fun k=>[(6,.pointer (some ⟨f,0,none⟩)),(45,.agg (EU (st T)).toArray),(46,.int .i64 (i:Nat)),(7,.int .i64 (i:Nat)),(8,bB (st T i)),(50,.int .i64 (k:Nat))]) (fun k=>[.blk f (.cells (dF (st T) (4*i+k)) 281),HS b m]) (fun k=>4-k) 0 qb ?_ ?_ ?_
     ·exact sub
     ·intro w a;exact a
     ·intro k z;refine R6 ?_ ?_<;>intro y
      ·simp only[jw] at y;refine wk 10 ?_;refine f_ (yQ (24-8*k) rfl rfl qb qb) ?_;refine f_ ((eB rfl).eq (Ia _ qb)) ?_;refine p_ ?_;refine I6 rfl rfl uh (by rfl) (by(intro q g;simp[Value.cells] at g;first|(subst g;rfl)|(rcases g with rfl|rfl|rfl|rfl|rfl|rfl|rfl|rfl<;>rfl)|(rcases g with rfl|rfl|rfl|rfl|rfl|rfl|rfl|rfl|rfl|rfl|rfl|rfl|rfl|rfl|rfl|rfl|rfl|rfl|rfl|rfl<;>rfl))) (by rw[wH _ _ qb];omega) ?_;refine y9 ?_;refine l8 (k+1) qb qb ?_ ?_
       ·exact sub
       ·intro w a;rw[<-W2,<-a1F (st T) (n:=4*i+k) (o:=0+(4*(i:Int)+(k:Int)).toNat*1) qb qb (by rw[yS (st T) qb qb])];exact a
      ·have r:k=4:=(by simp at y;omega);subst r;refine y9 ?_;refine l8 (i+1) qb qb ?_ ?_
       ·exact sub
       ·intro w a;exact a
    ·have s:i=8:=(by simp at h;omega);subst s;refine C6 ?_;refine f_ (uW rfl) ?_;refine r_ (bX (l:=sha m) rfl (by rw[c,aP]) (fun w a=>a.rdBlk ud _ (fun j u hu=>by rw[c] at hu;simpa[dF,aP,jq] using hu))) ?_;refine C8 ?_;exact d_ rfl rfl [HS b m] qh (fun w a=>a.upd_same .del)
theorem Sum_ct(s:List UInt8)(hs:s.length<=9223372036854775000):Pu prog 81 [B s] (fun _=>True) (B (sha s)):=by
 refine b_ 10 func81 rfl rfl rfl ?_;intro F _;refine xC ?_;refine x5 [] rfl PJ i_ qw rfl ?_;rintro v A ⟨g,rfl,rfl⟩;refine p_ ?_;refine D5 (H':=[HS g []]) i_ ?_;refine y9 ?_;refine x5 [] rfl (wG g [] s (by simp;omega)) i_ qw rfl ?_;rintro v A ⟨rfl,rfl⟩;refine p_ ?_;refine x5 [] rfl (MD g ([]++s) (by simpa using hs)) i_ qw rfl ?_;rintro v A ⟨rfl,rfl⟩;refine C8 ?_;exact d_ rfl rfl [] qh (fun w a=>a.dropAll)
end Go.Proofs.YtmcepdopookilaaGreatDoor.Dg
namespace Go.Proofs.YtmcepdopookilaaGreatDoor.Rp
open Go Go.Sl Go.RowKit Go.Proofs.Tryz
abbrev Td(c:CM):RQ:={cW with op:=6,box:=c.box,a5U:=c.a5U,hash:=Dg.sha c.data,size:=c.data.length}
def Te(s:SE)(d:DD)(c:CM)(s':SE)(d':DD):Prop:=(s',d')=G3 (s,{d with store:=true,body:=c.data}) c (Td c) []
theorem yT(b:Nat)(s:SE)(x:SL)(d:DD)(y:DL)(c:CM)(k:CL)(hc:tF c)(q:s.num<18446744073709551615):DT 149 b s x d y c k (Te s d c):=by
 have r:=hc.a5U;have t:=hc.data;refine y4 30 func149 rfl rfl rfl ?_;rintro F R ⟨e,j⟩;refine C6 ?_;refine m9 rfl rfl ?_;intro p;refine u7 ?_;refine B8 (Z:=[.blk p (.cells (li c k).toArray 36)]) tk fun u f n=>?_;have l:u.heap p=some (.cells (li c k).toArray 36 (0,0)):=I_ n;clear n;replace e:=Mn.le f.heap e;replace j:=Mn.le f.heap j;refine u7 ?_;refine D8 [3] [7,11] [] 12 ?_;refine wd [0,1,2] ?_;refine M4 3 rfl (i8 rfl (fun w a=>I0 a l rfl)) I5 rfl rfl rfl i6 ?_;refine wd [4,5,6,7,8,9,10,11] ?_;refine u7 ?_;refine D8 [1,3,5,8,11] [6,9,15] [] 16 ?_;refine wd [0] ?_;refine M4 1 rfl (dp rfl l ga) I5 rfl rfl rfl i6 ?_;refine wd [2] ?_;refine M4 3 rfl (i8 rfl (fun w a=>I0 a l rfl)) I5 rfl rfl rfl i6 ?_;refine wd [4] ?_;refine M4 5 rfl (i8 rfl (fun w a=>I0 a l rfl)) I5 rfl rfl rfl i6 ?_;refine wd [7] ?_;refine M4 8 rfl (i8 rfl (fun w a=>I0 a l rfl)) I5 rfl rfl rfl i6 ?_;refine wd [10] ?_;refine M4 11 rfl (i8 rfl (fun w a=>I0 a l rfl)) I5 rfl rfl rfl i6 ?_;refine wd [12] ?_;refine w_ 13 rfl ((z_ rfl qb).eq (v':=.int .u64 (c.data.length:Nat)) rfl) ?_;refine h_ 6 rfl i6 ?_;refine c_ (Y5 c.a5U k.fa k.fc qb) (fun h z _=>j.a5U.le z) ?_;rintro v A ⟨g,m,rfl,rfl⟩;refine ah ?_;refine h_ 9 rfl i6 ?_;refine e_ rfl (Dg.Sum_ct c.data qb) qw rfl ?_;refine ah ?_;refine w_ 14 rfl (y8 (ps:=[(0,.const (.int .i64 6)),(6,.tmp 17),(10,.tmp 20),(14,.tmp 23),(15,.tmp 27)]) (vs:=[(0,.int .i64 6),(6,B c.box),(10,.slice g c.a5U.length m),(14,B (Dg.sha c.data)),(15,.int .u64 (c.data.length:Nat))]) (cells:=(eA (Td c) ⟨none,0,g,m⟩).toArray) rfl i6) ?_;refine h_ 15 rfl i6 ?_;refine c_ (dE b s x {d with store:=true,body:=c.data} y c k (Td c) ⟨none,0,g,m⟩ [] none 0 q) qw ?_;rintro v A ⟨rfl,rfl⟩;refine E6 [] ?_;refine jZ (Z:=[A4 g c.a5U m]) tk fun C i ⟨D,n⟩=>?_;have o:o0 C.heap g (fV c.a5U):=A3.rd n ud;replace e:=Mn.le i.heap e;replace j:=Mn.le i.heap j;refine H3 (A:=l5 x.ra s.a5J.a5I x.rc::O4 b (G3 (s,{d with store:=true,body:=c.data}) c (Td c) []).1 {x with cl:=k,ua:=none,uc:=0} (G3 (s,{d with store:=true,body:=c.data}) c (Td c) []).2 {y with ql:=⟨none,0,g,m⟩}) (v:=.tuple #[]) (f.trans i) ⟨rfl,_,_,{x with cl:=k,ua:=none,uc:=0},{y with ql:=⟨none,0,g,m⟩},rfl,rfl,.refl rfl,?_⟩ ?_
 ·exact⟨⟨o0.nil _ _,j⟩,⟨e.dd.a5T,e.dd.rep,⟨o0.nil _ _,o⟩,e.dd.want⟩⟩
 ·exact m6 rfl _ qh (fun w a=>C5 (A:=[_,_,_]) (J:=[]) tk a)
theorem lB(s:SE)(x:SL)(hs:Sw s):Cm prog 68 [rH s x] (fun h=>o0 h x.ra (V5 s.a5J.a5I)/\U2 s x h) [] (fun h v A=>∃d,v=rH s d/\A=[l5 d.ra s.a5J.a5I d.rc]/\U2 s d h):=by
 have n:=hs.a5I;have o:=hs.a5L;refine y4 18 func68 rfl rfl rfl ?_;rintro F R ⟨p,a⟩;refine C6 ?_;refine m9 rfl rfl ?_;intro u;refine i7 rfl ?_;intro y;refine E5 ?_;refine c_ (fK (V5 s.a5J.a5I) x.ra s.a5J.a5I.length x.rc (bO _) (eM _) qb) (fun h e _=>p.le e) ?_;rintro v A ⟨j,k,rfl,rfl⟩;refine au ?_;refine c_ (vF (nV s.a5L) x.ua s.a5L.length x.uc (by rw[tl,Zd]) (iq _) qb) (fun h e _=>a.a5L.le e) ?_;rintro v A ⟨f,l,rfl,rfl⟩;refine y9 ?_;refine B8 (Z:=[U1 f s.a5L l]) tk fun q b ⟨z,m⟩=>?_;have g:o0 q.heap f (nV s.a5L):=A3.rd m ud;clear m;refine y9 ?_;refine A8 (mL s.cmd x.cl hs.cmd) (Mn.le b.heap a.cmd) ?_;rintro v A C c ⟨rfl,r,rfl,i⟩;refine JO ?_;refine H3 (A:=[l5 j s.a5J.a5I k]) (v:=rH s ⟨j,k,f,l,r⟩) (b.trans c) ⟨_,rfl,rfl,⟨g.le c.heap,i⟩⟩ ?_;exact G6 rfl rfl ud rfl _ qh (fun w t=>C5 (A:=[_]) (J:=[_,_]) tk t)
theorem Ec(c:CM)(x:CL):Pu prog 73 [xE c x] (fun _=>True) (B (tC c)):=by
 obtain⟨q,a⟩:=o7 (decide (c.tag=[]));refine b_ 8 func73 rfl rfl rfl ?_;intro F _;refine C6 ?_;refine m9 rfl rfl ?_;intro e;refine E5 ?_;refine f_ ((B_ rfl rfl).eq (v':=.bool q) (qn a.symm)) ?_;refine u7 ?_
 cases q
 ·have b:c.tag≠[]:=zq a.symm;refine bS ?_;exact d_ rfl rfl [] ⟨by unfold tC;rw[zk b],rfl⟩ (fun w d=>d.drop)
 ·have b:c.tag=[]:=qr a.symm;refine C8 ?_;exact d_ rfl rfl [] ⟨by unfold tC;rw[zu b],rfl⟩ (fun w d=>d.drop)
theorem By(b:Nat)(s:SE)(x:SL)(d:DD)(y:DL):Ct prog 77 [l9 b] (fun _=>True) (O4 b s x d y) (fun v A=>v=xE s.cmd x.cl/\A=O4 b (V8 s) {x with cl:=G_,ua:=none,uc:=0} d y):=by
 refine b_ 23 func77 rfl rfl rfl ?_;intro F _;refine C6 ?_;refine i7 rfl ?_;intro c;refine au ?_;refine i7 rfl ?_;intro e;refine O2 ?_;refine f_ (y8 (ps:=[]) (vs:=[]) (cells:=(li ir G_).toArray) rfl i6) ?_;refine wk 14 ?_;refine A2 ?_;exact G6 rfl rfl ud rfl _ qh (fun w a=>a.drop.drop)
theorem Bz{P:Program}{N:Nat}{c:Code}{K R:y6}{L:G0}{F:l6}{H:List As}{Q:Exit->Act->World->Prop}{a:Act}{w:World}(h:G P N c K [] R L F H)(hf:G4 N L a)(b:Hp F w H)(d:∀a w,K a w->Q .normal a w)(f:∀a w,R a w->Q .ret a w):c.wp P Q a w:=by
 unfold G at h;refine Code.wp_mono ?_ (h a w hf b);intro e g i q
 cases e with
 |normal=>exact d _ _ q
 |ret=>exact f _ _ q
 |exit id=>simp[MQ,List.lookup] at q
 |goto l=>exact q.elim
 |panic ch=>exact(fY q).elim
 |outgrown=>exact q.elim
theorem ut{P:Program}{L:G0}{dst:Option Tmp}{t t':TypeId}{x y:Operand}{ty:TypeId}{pos:String}{af:Array Edge}{gd:Option (Nat×Bool)}{a:Array (String×TypeId)}{u:TypeId}{v:Value}[hu:HU P t (.interface a)](hx:ev L x=some (.iface u v))(b:ev L y=some .nilIface):E2 P ⟨dst,.binOp .neq t x y t',ty,pos,af,gd⟩ L (.bool true):=by
 have c:P.underlying t=some (.interface (P.methodsAt t)):=by unfold Program.methodsAt;rw[hu.h]
 exact L4 hx b (fun w=>by
  rw[eqGuard_at_iface];exact run_neq_held_nil w t u v c)
theorem yU{P:Program}{dst:Option Nat}{t t':TypeId}{x:Operand}{c:Value}{ty:TypeId}{pos:String}{af:Array Edge}{gd:Option (Nat×Bool)}{L:G0}{a:Array (String×TypeId)}[hu:HU P t (.interface a)](hx:ev L x=some .nilIface)(b:ev L (.const c)=some .nilIface):E2 P ⟨dst,.binOp .neq t x (.const c) t',ty,pos,af,gd⟩ L (.bool false):=by
 have d:P.underlying t=some (.interface (P.methodsAt t)):=by unfold Program.methodsAt;rw[hu.h]
 exact L4 hx b (fun w=>by
  rw[eqGuard_nil_constR];exact run_neq_nil_nil w t d)
theorem PO(d f g3:Nat)(F:l6)(H:List As)(w:World)(c:Hp F w H):CallsD prog 136 #[l9 d,l9 f,l9 g3] .returning w fun e g w'=>e=.returned (.tuple #[])/\g=.returning/\Hp F w' H:=by
 refine callsD_of_wpS func136 rfl fun h i hu=>?_;apply wpS_seq;apply wpS_region;simp[wpOpsS,go_sem,recoverD,hu,Exit.thenS];refine wpS_of_wp ?_;refine Bz (N:=18) (L:=[(0,l9 d),(1,l9 f),(2,l9 g3),(3,.nilIface)]) (F:=F) (H:=H) (K:=fun a w=>a.defers=[]/\Hp F w H) (R:=fun _ _=>False) ?_ ⟨rfl,by simp,fun t v b=>?_⟩ c (fun a w' q=>⟨q.1,.returning,by rw[<-hu],.tuple #[],results_none rfl _ _ _,rfl,rfl,q.2⟩) (fun _ _ q=>q.elim)
 ·skip
  refine p_ ?_;refine f_ (yU rfl rfl) ?_;refine u7 ?_;unfold At;exact fun a w hf c=>⟨hf.defers,c⟩
 ·match t,b with
  |0,b=>cases b;simp
  |1,b=>cases b;simp
  |2,b=>cases b;simp
  |3,b=>cases b;simp
  |n+4,b=>cases b
abbrev gX(g:Nat)(c:CM)(x:CL):As:=.blk g (.cells (li c x).toArray 36)
abbrev xH(g:Nat)(e:Int):As:=.blk g (.cells #[.int .i64 e] 54)
theorem ME(f g g3:Nat)(c d:CM)(e:Int)(F:l6)(R:List As)(w:World)(i:Hp F w (gX f c G_::gX g d G_::xH g3 e::R)):CallsD prog 136 #[l9 f,l9 g,l9 g3] (.panicking [{v:=N1,recovered:=false}]) w fun e j w'=>e=.returned (.tuple #[])/\j=.panicking [{v:=N1,recovered:=true}]/\Hp F w' (gX f c G_::gX g c G_::xH g3 4::R):=by
 refine callsD_of_wpS func136 rfl fun k l hu=>?_;apply wpS_seq;apply wpS_region;simp[wpOpsS,go_sem,recoverD,hu,Exit.thenS];refine wpS_of_wp ?_;refine Bz (N:=18) (L:=[(0,l9 f),(1,l9 g),(2,l9 g3),(3,N1)]) (F:=F) (H:=gX f c G_::gX g d G_::xH g3 e::R) (K:=fun a w=>a.defers=[]/\Hp F w (gX f c G_::gX g c G_::xH g3 4::R)) (R:=fun _ _=>False) ?_ ⟨rfl,by simp,fun t v b=>?_⟩ i (fun a w' q=>⟨q.1,.panicking [{v:=N1,recovered:=true}],rfl,.tuple #[],results_none rfl _ _ _,rfl,rfl,q.2⟩) (fun _ _ q=>q.elim)
 ·skip
  refine p_ ?_;refine f_ (ut rfl rfl) ?_;refine p_ ?_;refine f_ (qN (by intro m h;cases h) rfl) ?_;refine O2 ?_;intro o;refine wk 7 ?_;unfold At;exact fun a w hf i=>⟨hf.defers,i.drop⟩
 ·match t,b with
  |0,b=>cases b;simp
  |1,b=>cases b;simp
  |2,b=>cases b;simp
  |3,b=>cases b;simp
  |n+4,b=>cases b
section
variable{P:Program}{N:Nat}{K R:y6}{E:List (Nat×y6)}{L:G0}{F:l6}{H:List As}
theorem ei{fn:Func}{c:Value->List As->Prop}{t n b t1 d:Nat}{j te h k:TypeId}{cs:Array Value}{f:Value}{H' s:List As}[ha:HA P j true][hs:HS P j n][ha1:HA P h false](y:fn.results=#[.cell t j,.cell t1 h])(hv:find L t=some (.pointer (some ⟨b,0,none⟩)))(l:find L t1=some (.pointer (some ⟨d,0,none⟩)))(u:M3 H (.blk b (.cells cs te (0,0))) [] H')(z:Nat.beq n cs.size=true)(C:M3 H (.blk d (.cells #[f] k (0,0))) [] s)(A:List As)(g:c (.tuple #[.agg cs,f]) A)(D:∀w,Hp F w H->Hp F w A):At N (du P fn F c) L F H:=by
 unfold At;intro a w hf m;have J:=jr z;have e:sl cs 0 cs.size=cs.toList:=by
  simp only[sl,Ky];exact jq x6
 obtain⟨X,p,hc⟩:=Y2 (n:=cs.size) m u;injection p with p;subst p;rw[e] at hc;have r:=D4 (P:=P) hc;obtain⟨M,q,i⟩:=uQ (o:=0) (v:=f) m C x6;injection q with q;subst q;have Y:=D4 (P:=P) (cs:=[f]) i;have O:a.tmps.getD t undef=.pointer (some ⟨b,0,none⟩):=hf.eval (x:=.tmp t) hv;have Q:a.tmps.getD t1 undef=.pointer (some ⟨d,0,none⟩):=hf.eval (x:=.tmp t1) l;subst J;refine⟨.tuple #[.agg cs,f],A,?_,g,D w m,hf.defers⟩;have S:a.tmps[t]?.getD undef=.pointer (some ⟨b,0,none⟩):=by simpa using O
 have T:a.tmps[t1]?.getD undef=.pointer (some ⟨d,0,none⟩):=by simpa using Q
 simp at r;have U:w.cell? ⟨d,0,none⟩=some f:=by
  have V:=i 0 f rfl
  rwa [show(⟨d,0,none⟩:Addr).add 0=⟨d,0,none⟩ from by simp[Addr.add_lit]] at V
 simp[results,y,S,T,asAddr,loadVar,ha.h,ha1.h,hs.h,r,U,Sem.run_bind]
def PP(ds:List Deferred)(N:Nat)(K:y6)(L:G0)(F:l6)(H:List As):Prop:=∀a w,G4 N L a->Hp F w H->K (qQ ds a) w
theorem Ib{x:Operand}{f:FuncId}{ps qs:List Value}{ops:Array Oper}{b:Array TypeId}{ty:TypeId}{pos:String}{af:Array Edge}(hv:ev L x=some (.func (.func f) ps.toArray qs.toArray))(h:PP [{target:=.fn (.func f) qs.toArray,args:=ps.toArray}] N K L F H):GL P N ops [⟨none,.defer ⟨.value x,#[],b⟩,ty,pos,af,none⟩] K E R L F H:=by
 unfold GL;intro a w hf c;refine wpList_plain rfl fun g d=>?_;unfold Oper.wp;have e:(execOp a.eval ⟨none,.defer ⟨.value x,#[],b⟩,ty,pos,af,none⟩).run P w=.ok (.defer {target:=.fn (.func f) qs.toArray,args:=ps.toArray}) w:=by
  simp[execOp,resolve,hf.eval hv,Deferred.ofValue,Sem.run_bind]
 rw[e,Oper.upon_defer,iX hf];exact d _ _ (h a w hf c)
def Tf(P:Program)(y:Code)(Q:Exit->Act->World->Prop):Exit->Act->World->Prop
 |.normal=>fun a w=>y.wp P Q a w
 |e=>Q e
theorem nA{ds:List Deferred}{x y:Code}{Q:Exit->Act->World->Prop}(h:PP ds N (fun a w=>x.wp P (Tf P y Q) a w) L F H):PP ds N (fun a w=>(Code.seq x y).wp P Q a w) L F H:=fun a w hf b=>
 wp_seq (Code.wp_mono (fun e a w q=>by cases e<;>exact q) (h a w hf b))
theorem nB{ds:List Deferred}{id:Nat}{l:List Oper}{Q:Exit->Act->World->Prop}{L':G0}{Hr:List As}{Pq:Value->Prop}(h:GL P N l.toArray l (fun a w=>Q .normal (qQ ds a) w) [(1,Mi N L' F Hr Pq)] (fun _ _=>False) L F H)(hp:∀tm w v,G4 N L' ⟨tm,[]⟩->Hp F w Hr->Pq v->Q (.panic [{v:=v,recovered:=false}]) (qQ ds ⟨tm,[]⟩) w):PP ds N (fun a w=>(Code.region id l.toArray false).wp P Q a w) L F H:=fun a w hf d=>
 ue ds h (fun _ _ q=>q) (fun a w v ⟨tm,k,e,b,f,g,i⟩=>by
  obtain⟨c,j⟩:=Array.push_eq_push.1 e;subst j;obtain⟨m,n⟩:=a;simp only at c b;subst b;subst c;exact hp _ _ _ f g i) (fun _ _ q=>q.elim) hf d
theorem ko{ds:List Deferred}{y:Code}{Q:Exit->Act->World->Prop}(h:PP ds N (fun a w=>y.wp P Q a w) L F H):At N (fun a w=>Tf P y Q .normal (qQ ds a) w) L F H:=by
 unfold At;exact fun a w hf b=>h a w hf b
theorem MF{ds:List Deferred}{Q:Exit->Act->World->Prop}(h:PP ds N (fun a w=>Q .ret a w) L F H):PP ds N (fun a w=>Code.ret.wp P Q a w) L F H:=fun a w hf b=>wp_ret (h a w hf b)
def Ed(P:Program)(fn:Func)(F:l6)(Post:Value->List As->Prop):Ending->World->Prop:=fun e w=>∃v A,e=.returned v/\Post v A/\Hp F w A
def KpD(P:Program)(fn:Func)(F:l6)(Post:Value->List As->Prop):y6:=fun a w=>∃tm v,a.tmps=tm.push v/\bodyPostD P fn (Ed P fn F Post) (.panic [{v:=v,recovered:=false}]) ⟨tm,a.defers⟩ w
theorem Ee{f:FuncId}{fn:Func}{c:Code}{args:List Value}{d:l_->Prop}{C:List As}{b:Value->List As->Prop}(N:Nat)(hf:P.funcs[f]? =some fn)(n:fn.body=some c)(o:fn.ntmps=N)(m:Nat.ble args.length N=true)(h:∀F:l6,d F.heap->G P N c (fun _ _=>False) [(1,KpD P fn F b)] (bodyPostD P fn (Ed P fn F b) .ret) (ay 0 args) F C):Ct P f args d C b:=by
 intro w p hs r g;refine calls_of_wp_defers hf n ?_;rw[o];have j:=h (q_ w p) g;unfold G at j;refine Code.wp_mono (fun e a x q=>?_) (j _ w (T1 N args m) (Hp.start hs r))
 cases e with
 |normal=>exact q.elim
 |ret=>exact q
 |exit id=>simp[MQ,List.lookup] at q
 |goto l=>exact q.elim
 |panic ch=>
  rcases q with⟨k,v,i,_⟩|⟨k,v,i,rfl,q⟩
  ·cases i
  ·injection i with i;subst i;obtain⟨y,z,j,s⟩:=q;obtain⟨t,u⟩:=Array.push_eq_push.1 j;subst u;subst t;exact s
 |outgrown=>exact q.elim
theorem uu{fn:Func}{b:Value->List As->Prop}(h:At N (du P fn F b) L F H):At N (bodyPostD P fn (Ed P fn F b) .ret) L F H:=by
 unfold At at h⊢;intro a w hf c;obtain⟨v,A,d,e,f,g⟩:=h a w hf c;show Leaves P fn a.tmps _ a.defers .returning w;rw[g];exact⟨v,d,v,A,rfl,e,f⟩
theorem pS{fn:Func}{a:Value->List As->Prop}{tm:Array Value}{w:World}(h:At N (du P fn F a) L F H)(hf:G4 N L ⟨tm,[]⟩)(b:Hp F w H):Leaves P fn tm (Ed P fn F a) [] .returning w:=by
 unfold At at h;obtain⟨v,A,c,d,e,f⟩:=h _ w hf b;exact⟨v,c,v,A,rfl,d,e⟩
end
abbrev dfr(g5 g2 g3:Nat):Deferred:={target:=.fn (.func 136) #[l9 g5,l9 g2,l9 g3],args:=#[]}
theorem Ef{fn:Func}{a:Value->List As->Prop}{tm:Array Value}{w:World}{F:l6}{H:List As}{L:G0}{b c g3:Nat}(h:At 72 (du prog fn F a) L F H)(hf:G4 72 L ⟨tm,[]⟩)(g:Hp F w H):Leaves prog fn tm (Ed prog fn F a) [dfr b c g3] .returning w:=by
 refine leaves_cons (f:=136) (args:=#[l9 b,l9 c,l9 g3]) x6 (by simp[go_sem]) ?_;refine(PO b c g3 F H w g).mono ?_;rintro e i j ⟨rfl,rfl,d⟩;exact pS h hf d
theorem pT{fn:Func}{a:Value->List As->Prop}{tm:Array Value}{w:World}{F:l6}{R:List As}{L:G0}{b g g3:Nat}{c d:CM}{e:Int}(h:At 72 (du prog fn F a) L F (gX b c G_::gX g c G_::xH g3 4::R))(hf:G4 72 L ⟨tm,[]⟩)(j:Hp F w (gX b c G_::gX g d G_::xH g3 e::R)):Leaves prog fn tm (Ed prog fn F a) [dfr b g g3] (.panicking [{v:=N1,recovered:=false}]) w:=by
 refine leaves_cons (f:=136) (args:=#[l9 b,l9 g,l9 g3]) x6 (by simp[go_sem]) ?_;refine(ME b g g3 c d e F R w j).mono ?_;rintro e k l ⟨rfl,rfl,i⟩;exact pS h hf i
abbrev cA(s:Bs):CM:={first s with uid:=qU s,kind:=H6 (R8 (P9 s))}
abbrev behind(s:Bs):Nat:=tv s+(P9 s).length
def bC(s:Bs)(c:CM)(e:Int):Prop:=
 if cj s=false then c=ir/\e=11
 else if H6 (R8 (P9 s))=0\/qU s=true/\H6 (R8 (P9 s))<15 then c=first s/\e=10
 else(bF s (cA s) (behind s) (some (c,s.length))/\e=0)\/((bF s (cA s) (behind s) none\/∃q,bF s (cA s) (behind s) (some q)/\q.2≠s.length)/\c=first s/\e=4)
abbrev PQ(s:Bs)(v:Value)(A:List As):Prop:=∃c e x,bC s c e/\v=.tuple #[xE c x,.int .i64 e]/\sh c x A
theorem ej(c:CM)(h:c.set=[]/\c.a5M=[]/\c.keys=[]/\c.a5U=[]):sh c G_ []:=bi (.inl h.1) (.inl h.2.1) h.2.2.1 (.inl h.2.2.2)
instance hf_fnI (k:Nat):HF prog (Od k):=by unfold Od;split<;>infer_instance
theorem BA(w:Bs):H6 w<=18:=by
 unfold H6;split
 ·rename_i h;have a:=List.idxOf_lt_length_of_mem h;have b:vu.length=18:=rfl;omega
 ·omega
theorem Ic{s:Bs}(h:cj s=true):(aZ s).length+1<=s.length:=by
 unfold cj at h;simp only[kw] at h;exact iw h.2 x6
theorem BB(s:Bs):H4 s [85,73,68,32] ((aZ s).length+1)=tv s:=by
 unfold H4 tv qU;split<;>rfl
theorem sy(s:Bs)(hs:s.length<=1000000000):Ct prog 71 [B s] Gl [] (PQ s):=by
 refine Ee 72 func71 rfl rfl rfl fun F hg=>?_;refine p_ ?_;intro f;refine p_ ?_;intro g;refine p_ ?_;refine f_ (y8 rfl rfl) ?_;refine p_ ?_;intro d;refine y9 ?_;refine c_ (Px d s hs) qw ?_;rintro v A ⟨rfl,p,c,rfl,ht⟩;refine R6 ?_ ?_<;>intro h
 ·have l:cj s=false:=by simpa using h
  refine C6 ?_;refine f_ (y8 rfl rfl) ?_;refine y9 ?_;refine A2 (uu ?_);exact ei rfl rfl rfl ud rfl ud [] ⟨ir,11,G_,by unfold bC;rw[zu l];exact qh,rfl,ej _ ⟨rfl,rfl,rfl,rfl⟩⟩ (fun w b=>b.dropAll)
 have l:cj s=true:=by simpa using h
 obtain⟨rfl,rfl⟩:=ht l;have y:=Ic l;have j:=gv (s:=s) (w:=[85,73,68,32]) y;rw[BB] at j;refine au ?_;refine f_ (y8 rfl rfl) ?_;refine p_ ?_;intro i;refine E5 ?_;refine c_ (S5 d s [85,73,68,32] ((aZ s).length+1) (first s) G_ qb y qp) qw ?_;rintro v A ⟨rfl,rfl⟩;rw[BB];refine O2 ?_;have O:=bQ (q:=fun c=>!decide (c=32)) (s:=s) (p:=tv s) j.2;obtain⟨k,m⟩:=o7 (H6 (R8 (P9 s)));obtain⟨u,hu⟩:=o7 (qU s);have Q:k<=18:=m▸BA _;by_cases hk0:k=0
 ·refine p_ ?_;refine c_ (eO 135 (fun c=>!decide (c=32)) Hi d s (tv s) {first s with uid:=qU s} G_ qb j.2) qw ?_;rintro v A ⟨rfl,rfl⟩;rw[show N9 (fun c=>!decide (c=32)) s (tv s)=P9 s from rfl];refine e_ rfl (I3 (P9 s) (by unfold P9;omega)) qw rfl ?_;refine e_ rfl (mi (R8 (P9 s))) qw rfl ?_;rw[<-m,hk0,show Me 0=.tuple #[.agg #[.int .i64 0,.bool false,.nilFunc],.bool false] from rfl];refine O2 ?_;intro z;refine wk 19 ?_;refine A2 (uu ?_);exact ei rfl rfl rfl ud rfl ud [] ⟨first s,10,G_,by unfold bC;rw[zk (by rw[l];simp),zu (.inl (m▸hk0))];exact qh,rfl,ej _ ⟨rfl,rfl,rfl,rfl⟩⟩ (fun w b=>b.dropAll)
 obtain⟨q,S⟩:=o7 (decide (15<=k));refine p_ ?_;refine c_ (eO 135 (fun c=>!decide (c=32)) Hi d s (tv s) {first s with uid:=qU s} G_ qb j.2) qw ?_;rintro v A ⟨rfl,rfl⟩;rw[show N9 (fun c=>!decide (c=32)) s (tv s)=P9 s from rfl];refine e_ rfl (I3 (P9 s) (by unfold P9;omega)) qw rfl ?_;refine e_ rfl (mi (R8 (P9 s))) qw rfl ?_;rw[<-m,show Me k=.tuple #[.agg #[.int .i64 (k:Nat),.bool q,.func (.func (Od k)) #[] #[]],.bool true] from by rw[S];unfold Me fnV;rw[zk hk0,kr hk0]];refine O2 ?_;intro z;refine y9 ?_;rw[<-hu];refine w6 [(0,B s),(2,l9 f),(3,l9 g),(4,l9 d),(5,l9 i),(6,l9 z),(47,.bool (u&&!q))] [.blk z (.cells #[.int .i64 (k:Nat),.bool q,.func (.func (Od k)) #[] #[]] 214),H8 d s (behind s) {first s with uid:=u} G_,gX i (first s) G_,xH g 0,gX f ir G_] ?_ ?_
 ·cases u
  all_goals (
   refine wk 14 ?_)
  all_goals exact o_ sub i_
 refine N8 ?_ ?_<;>intro h
 ·have T:qU s=true/\H6 (R8 (P9 s))<15:=by
   rw[<-hu,<-m];rw[kw] at h;refine⟨h.1,?_⟩;have Y:=h.2;rw[S] at Y;simpa using Y
  refine E5 ?_;refine A2 (uu ?_);exact ei rfl rfl rfl ud rfl ud [] ⟨first s,10,G_,by unfold bC;rw[zk (by rw[l];simp),zu (.inr T)];exact qh,rfl,ej _ ⟨rfl,rfl,rfl,rfl⟩⟩ (fun w b=>b.dropAll)
 have D:¬(H6 (R8 (P9 s))=0\/qU s=true/\H6 (R8 (P9 s))<15):=by
  rw[<-hu,<-m];rintro(U|⟨U,h2⟩)
  ·exact hk0 U
  ·rw[U,S,Km,jc qb] at h;simp at h
 have n:∀{c e},((bF s (cA s) (behind s) (some (c,s.length))/\e=0)\/((bF s (cA s) (behind s) none\/∃q,bF s (cA s) (behind s) (some q)/\q.2≠s.length)/\c=first s/\e=4))->bC s c e:=fun h=>by
  unfold bC;rw[zk (by rw[l];simp),zk D];exact h
 have V:behind s<=s.length:=O;refine C6 ?_;refine f_ (nO rfl rfl) ?_;refine Ib rfl ?_;refine nA (nB (L':=[(2,l9 f),(3,l9 g),(5,l9 i)]) (Hr:=[gX i (first s) G_,gX f ir G_,xH g 0]) (Pq:=fun _=>False) ?_ fun _ _ _ _ _ h=>h.elim);refine wk 7 ?_;refine ko (nA (nB (L':=[(2,l9 f),(3,l9 g),(5,l9 i)]) (Hr:=[gX i (first s) G_,gX f ir G_,xH g 0]) (Pq:=fun v=>bF s (cA s) (behind s) none/\v=N1) ?_ fun t w v hf b o=>?_))
 rotate_left 1
 ·obtain⟨o,rfl⟩:=o;refine .inr ⟨_,N1,rfl,rfl,t,N1,rfl,?_⟩;refine pT (L:=[(2,l9 f),(3,l9 g),(5,l9 i)]) (R:=[]) ?_ hf b;exact ei rfl rfl rfl ud rfl ud [] ⟨first s,4,G_,n (.inr ⟨.inl o,rfl,rfl⟩),rfl,ej _ ⟨rfl,rfl,rfl,rfl⟩⟩ (fun w b=>b.dropAll)
 subst m hu;refine E5 ?_;refine yJ [.blk z (.cells #[.int .i64 (H6 (R8 (P9 s)):Nat),.bool q,.func (.func (Od (H6 (R8 (P9 s))))) #[] #[]] 214),gX i (first s) G_,xH g 0,gX f ir G_] rfl rfl rfl (Mh d s hs (cA s) (behind s) V (Nat.pos_of_ne_zero hk0) Q) (fun w b=>b.perm (List.Perm.swap _ _ _)) pre rfl rfl sub (fun w b=>(tk (C:=[gX i (first s) G_,gX f ir G_,xH g 0])).hp b|>.left) (fun v h=>h) ?_;refine u7 ?_;rintro v A ⟨r,x,Z,hr,rfl,rfl,J⟩;refine I7 (H':=H8 d s r.2 r.1 x::gX i (first s) G_::xH g 0::gX f ir G_::Z) (fun w b=>?_) ?_
 ·have h9:Hp F w ((.blk z (.cells #[.int .i64 (H6 (R8 (P9 s)):Nat),.bool q,.func (.func (Od (H6 (R8 (P9 s))))) #[] #[]] 214)::[gX i (first s) G_,xH g 0,gX f ir G_])++(H8 d s r.2 r.1 x::Z)):=b.perm kz;exact h9.drop.perm (Qd (l₁:=[gX i (first s) G_,xH g 0,gX f ir G_]))
 refine u7 ?_;refine ko (nA (nB (L':=[(2,l9 f),(3,l9 g),(5,l9 i)]) (Hr:=[gX i (first s) G_,gX f ir G_,xH g 0]) (Pq:=fun v=>r.2≠s.length/\v=N1) ?_ fun t w v hf b o=>?_))
 rotate_left 1
 ·obtain⟨o,rfl⟩:=o;refine .inr ⟨_,N1,rfl,rfl,t,N1,rfl,?_⟩;refine pT (L:=[(2,l9 f),(3,l9 g),(5,l9 i)]) (R:=[]) ?_ hf b;exact ei rfl rfl rfl ud rfl ud [] ⟨first s,4,G_,n (.inr ⟨.inr ⟨r,hr,o⟩,rfl,rfl⟩),rfl,ej _ ⟨rfl,rfl,rfl,rfl⟩⟩ (fun w b=>b.dropAll)
 refine cG ?_;refine f_ ((p8 rfl rfl).eq (v':=.bool (decide (r.2=s.length))) (qn (zp.2 Ju))) ?_;refine DK _ rfl (G8 (decide (r.2=s.length))) i_ qw rfl rfl sub (fun w b=>(tk (C:=[gX i (first s) G_,gX f ir G_,xH g 0])).hp b|>.left) (fun v h=>⟨zq h.1,h.2⟩) ?_;rintro v A ⟨X,rfl,rfl⟩;refine u7 ?_;have M:r.2=s.length:=qr X;refine ko (nA (nB (L':=[]) (Hr:=[]) (Pq:=fun _=>False) ?_ fun _ _ _ _ _ h=>h.elim));refine cG ?_;refine ko (MF fun a w hf b=>?_);obtain⟨t,ds⟩:=a;have hd:=hf.defers;simp only at hd;subst hd;refine Ef (L:=[(2,l9 f),(3,l9 g)]) (tm:=t) (w:=w) ?_ (hf.sub sub) b;exact ei rfl rfl rfl ud rfl ud Z ⟨r.1,0,x,n (.inl ⟨by rw[<-M];exact hr,rfl⟩),rfl,J⟩ (fun w b=>b.drop.drop.drop.drop)
open Go Go.Sl Go.Proofs.Tryz
structure rk(c:CM):Prop where
 le:tF c
 box:c.box.length<=64
 fl:∀f∈c.a5U,f.length<=32
theorem sA{f x:Bs}(h:E3 f=some x):x.length<=32:=by
 unfold E3 at h;split at h
 ·next g hg=>
  injection h with h;subst h;have a:=Kg hg;have b:∀w∈R5,w.length<=32:=by decide
  exact b _ a
 ·split at h
  ·next k=>injection h with h;subst h;unfold U9;rw[zr];exact k.2
  ·cases h
theorem Ie{s:Bs}{p:Nat}{q:List Bs×Nat}(h:oz s p=some q):q.1.length<=16/\∀f∈q.1,f.length<=32:=by
 unfold oz at h;split at h
 ·next k=>
  injection h with h;subst h;have a:=je (lT (s:=s.drop p) (l:=(T4 (s.drop p)).1) (n:=(T4 (s.drop p)).2.1) (by rw[<-k]));exact⟨a.2.2,fun f hf=>sA (a.1 f hf)⟩
 ·cases h
theorem MG{s b:Bs}(h:ja s=some b):b.length<=64:=by
 unfold ja at h;split at h
 ·next k=>
  injection h with h;have a:s.length<=64:=by
   unfold vh at k;simp only[kw,jw] at k;exact k.1.1.2
  subst h;split
  ·decide
  ·exact a
 ·cases h
theorem MH{s:Bs}{p:Nat}{q:List (Nat×Nat)×Nat}(h:qT s p=some q):q.1.length<=64:=by
 unfold qT at h;obtain⟨l,a,rfl⟩:=kx.1 h;unfold vq at a;split at a
 ·cases a
 ·have:=jS _ _ a;simp only;omega
theorem uv{s:Bs}{p:Nat}{q:Bs×Nat}(h:mE s p=some q):q.1.length<=4096:=by
 unfold mE at h;obtain⟨c,_,h⟩:=zc.1 h;obtain⟨n,b,h⟩:=zc.1 h;obtain⟨d,_,h⟩:=zc.1 h;split at h
 ·injection h with h;subst h;unfold mD at b;obtain⟨m,_,a⟩:=zc.1 b;split at a
  ·next k=>injection a with a;subst a;simp only[zm];omega
  ·cases a
 ·cases h
theorem Eg{s:Bs}{p:Nat}{q:Bs×Nat}(h:iv s p=some q):q.1.length<=64:=by
 unfold iv at h;obtain⟨e,_,h⟩:=zc.1 h;unfold NR at h;obtain⟨r,_,h⟩:=zc.1 h;obtain⟨b,a,rfl⟩:=kx.1 h;exact MG a
theorem sB{l:List (Bs×Nat×Bool)}{s:Bs}{p:Nat}{q:List IT×Nat}(h:oA l s p=some q):q.1.length<=8:=by
 unfold oA at h;obtain⟨r,_,h⟩:=zc.1 h;split at h
 ·next k=>obtain⟨e,_,rfl⟩:=kx.1 h;exact k
 ·cases h
theorem MI(q:UInt8->Bool)(s:Bs)(p:Nat):(N9 q s p).length<=s.length:=by
 unfold N9;have a:=(J2 (l:=s.drop p) q).length_le;rw[z8] at a;omega
theorem MJ{s:Bs}{p:Nat}{r:Bs×Nat}(h:lf s p=some r):r.1.length<=4096+s.length:=by
 unfold lf at h;split at h
 ·have:=uv h;omega
 split at h
 ·obtain⟨q,a,rfl⟩:=kx.1 h;have b:=yj (s:=s.drop p);have c:=Be (s.drop p);rw[a] at b c;simp only[Zh,z8] at b c;simp only;omega
 ·obtain⟨q,a,h⟩:=zc.1 h;split at h
  ·injection h with h;subst h;omega
  ·cases h
structure Tg(c d:CM):Prop where
 tag:d.tag=c.tag
 kind:d.kind=c.kind
 uid:d.uid=c.uid
theorem fR{c:CM}{s:Bs}{p:Nat}{q:CM×Nat}(h:I9 c s p=some q):∃b:Bs,b.length<=64/\q.1={c with box:=b}:=by
 unfold I9 at h;obtain⟨r,a,rfl⟩:=kx.1 h;exact⟨r.1,Eg a,rfl⟩
theorem PR{c:CM}{s:Bs}{p:Nat}{q:CM×Nat}(h:vy c s p=some q):∃n b,q.1={c with a5O:=n,a5N:=b}:=by
 unfold vy at h;split at h
 ·obtain⟨r,_,rfl⟩:=kx.1 h;exact⟨_,_,rfl⟩
 ·injection h with h;subst h;exact⟨_,_,rfl⟩
theorem MK{c:CM}{s:Bs}{p:Nat}{q:CM×Nat}(hs:s.length<=1000000000)(h:T5 c s p=some q)(x:c.kind≠15)(hc:rk c):rk q.1/\Tg c q.1:=by
 have i:∀{b:Bs},b.length<=64->rk {c with box:=b}/\Tg c {c with box:=b}:=fun d=>⟨⟨⟨hc.le.set,hc.le.a5M,hc.le.keys,hc.le.ksets,hc.le.a5U,hc.le.data,hc.le.pat⟩,d,hc.fl⟩,rfl,rfl,rfl⟩;unfold T5 at h;split at h
 ·injection h with h;subst h;exact⟨hc,rfl,rfl,rfl⟩
 split at h
 ·obtain⟨e,_,rfl⟩:=kx.1 h;exact⟨hc,rfl,rfl,rfl⟩
 split at h
 ·unfold dz at h;obtain⟨r,_,h⟩:=zc.1 h;obtain⟨t,_,rfl⟩:=kx.1 h;exact⟨⟨⟨hc.le.set,hc.le.a5M,hc.le.keys,hc.le.ksets,hc.le.a5U,hc.le.data,hc.le.pat⟩,hc.box,hc.fl⟩,rfl,rfl,rfl⟩
 split at h
 ·unfold lg at h;obtain⟨r,a,rfl⟩:=kx.1 h;obtain⟨b,d,e⟩:=fR a;split
  ·simp only[e];exact⟨⟨⟨hc.le.set,hc.le.a5M,hc.le.keys,hc.le.ksets,hc.le.a5U,hc.le.data,hc.le.pat⟩,d,hc.fl⟩,rfl,rfl,rfl⟩
  ·rw[e];exact i d
 split at h
 ·obtain⟨b,d,e⟩:=fR h;rw[e];exact i d
 split at h
 ·unfold jo at h;obtain⟨e,_,h⟩:=zc.1 h;split at h
  ·obtain⟨t,y,rfl⟩:=kx.1 h;exact⟨⟨⟨hc.le.set,hc.le.a5M,hc.le.keys,hc.le.ksets,hc.le.a5U,hc.le.data,by have:=MJ y;simp only;omega⟩,hc.box,hc.fl⟩,rfl,rfl,rfl⟩
  ·injection h with h;subst h;exact⟨⟨⟨hc.le.set,hc.le.a5M,hc.le.keys,hc.le.ksets,hc.le.a5U,hc.le.data,by have:=MI iu s e;simp only;omega⟩,hc.box,hc.fl⟩,rfl,rfl,rfl⟩
 split at h
 ·unfold jt at h;obtain⟨r,a,h⟩:=zc.1 h;obtain⟨e,_,h⟩:=zc.1 h;obtain⟨t,j,rfl⟩:=kx.1 h;obtain⟨b,d,e⟩:=fR a;simp only[e];exact⟨⟨⟨hc.le.set,sB j,hc.le.keys,hc.le.ksets,hc.le.a5U,hc.le.data,hc.le.pat⟩,d,hc.fl⟩,rfl,rfl,rfl⟩
 split at h
 ·unfold jA at h;obtain⟨r,a,h⟩:=zc.1 h;obtain⟨e,_,h⟩:=zc.1 h;obtain⟨b,d,e⟩:=fR a;split at h
  ·obtain⟨f,hf,h⟩:=zc.1 h;obtain⟨w,_,h⟩:=zc.1 h;obtain⟨t,j,rfl⟩:=kx.1 h;obtain⟨o,v⟩:=Ie hf;simp only[e];exact⟨⟨⟨hc.le.set,hc.le.a5M,hc.le.keys,hc.le.ksets,o,uv j,hc.le.pat⟩,d,v⟩,rfl,rfl,rfl⟩
  ·obtain⟨t,j,rfl⟩:=kx.1 h;simp only[e];exact⟨⟨⟨hc.le.set,hc.le.a5M,hc.le.keys,hc.le.ksets,hc.le.a5U,uv j,hc.le.pat⟩,d,hc.fl⟩,rfl,rfl,rfl⟩
 have g:∀{k:CM->Nat->Option (CM×Nat)},cV c s p k=some q->∃(l:List (Nat×Nat)) (e:Nat),l.length<=64/\k {c with set:=l} e=some q:=fun{k} h=>by
  unfold cV at h;obtain⟨e,_,h⟩:=zc.1 h;obtain⟨r,a,h⟩:=zc.1 h;exact⟨r.1,r.2,MH a,h⟩
 split at h
 ·obtain⟨l,e,m,h⟩:=g h;unfold aJ at h;obtain⟨w,_,h⟩:=zc.1 h;unfold oB at h;obtain⟨r,a,h⟩:=zc.1 h;have z:r.1.length<=8:=by
   split at a
   ·exact sB a
   ·obtain⟨t,_,rfl⟩:=kx.1 a;simp
  obtain⟨n,b,e⟩:=PR h;rw[e];exact⟨⟨⟨m,z,hc.le.keys,hc.le.ksets,hc.le.a5U,hc.le.data,hc.le.pat⟩,hc.box,hc.fl⟩,rfl,rfl,rfl⟩
 split at h
 ·obtain⟨l,e,m,h⟩:=g h;unfold aJ at h;obtain⟨w,_,h⟩:=zc.1 h;unfold oC at h;obtain⟨r,a,h⟩:=zc.1 h;obtain⟨A,_,h⟩:=zc.1 h;obtain⟨C,_,h⟩:=zc.1 h;obtain⟨f,hf,rfl⟩:=kx.1 h;obtain⟨o,v⟩:=Ie hf;have hu:∃n b,r.1={c with set:=l,a5O:=n,a5N:=b}:=by
   unfold Pb at a;split at a
   ·obtain⟨t,_,a⟩:=zc.1 a;obtain⟨u,_,rfl⟩:=kx.1 a;exact⟨_,_,rfl⟩
   ·injection a with a;subst a;exact⟨_,_,rfl⟩
  obtain⟨n,b,e⟩:=hu;simp only[e];exact⟨⟨⟨m,hc.le.a5M,hc.le.keys,hc.le.ksets,o,hc.le.data,hc.le.pat⟩,hc.box,v⟩,rfl,rfl,rfl⟩
 ·obtain⟨l,e,m,h⟩:=g h;obtain⟨b,d,e⟩:=fR h;rw[e];exact⟨⟨⟨m,hc.le.a5M,hc.le.keys,hc.le.ksets,hc.le.a5U,hc.le.data,hc.le.pat⟩,d,hc.fl⟩,rfl,rfl,rfl⟩
structure a1G(s:Bs)(c:CM)(e:Int):Prop where
 le:rk c
 er:e=11\/e=10\/e=4\/e=0
 no:e=11->c=ir
 tag:e≠11->c.tag=aZ s/\cj s=true
 kind:e=0->1<=c.kind/\c.kind<=18
theorem kA{c:CM}(e:c.a5Q=[])(g:c.set=[])(h:c.a5M=[])(a:c.keys=[])(b:c.a5U=[])(i:c.data=[])(j:c.box=[]):rk c:=⟨⟨by rw[g];decide,by rw[h];decide,by rw[a];decide,(fun k d=>by rw[a] at d;cases d),by rw[b];decide,by rw[i];decide,by rw[e];decide⟩,by rw[j];decide,fun f hf=>by rw[b] at hf;cases hf⟩
theorem pU(s:Bs):rk (first s):=kA rfl rfl rfl rfl rfl rfl rfl
theorem kB{s:Bs}{c:CM}{e:Int}(hs:s.length<=1000000000)(h:bC s c e):a1G s c e:=by
 unfold bC at h;split at h
 ·obtain⟨rfl,rfl⟩:=h;exact⟨kA rfl rfl rfl rfl rfl rfl rfl,.inl rfl,fun _=>rfl,fun h=>absurd rfl h,qx⟩
 next b=>
 have b:cj s=true:=by simpa using b
 split at h
 ·obtain⟨rfl,rfl⟩:=h;exact⟨pU s,.inr (.inl rfl),qx,fun _=>⟨rfl,b⟩,qx⟩
 next k=>
 rcases h with⟨h,rfl⟩|⟨_,rfl,rfl⟩
 ·have a:rk (cA s):=kA rfl rfl rfl rfl rfl rfl rfl;have d:1<=(cA s).kind/\(cA s).kind<=18:=by
   have:=BA (R8 (P9 s));have j:H6 (R8 (P9 s))≠0:=fun j=>k (.inl j);show 1<=H6 (R8 (P9 s))/\H6 (R8 (P9 s))<=18;omega
  unfold bF at h;split at h
  ·next f=>
   rcases h with h|⟨l,e,h,i,g⟩
   ·cases h
   ·injection h with h;have h:=jk Prod.fst h;simp only at h;subst h;exact⟨⟨⟨a.le.set,a.le.a5M,i,g,a.le.a5U,a.le.data,a.le.pat⟩,a.box,a.fl⟩,.inr (.inr (.inr rfl)),qx,fun _=>⟨rfl,b⟩,fun _=>d⟩
  ·next f=>
   obtain⟨i,g⟩:=MK hs h.symm f a;exact⟨i,.inr (.inr (.inr rfl)),qx,fun _=>⟨g.tag,b⟩,fun _=>by rw[g.kind];exact d⟩
 ·exact⟨pU s,.inr (.inr (.inl rfl)),qx,fun _=>⟨rfl,b⟩,qx⟩
theorem sC{α:Type}(p:α->Bool):∀(l:List α),∀c∈l.takeWhile p,p c=true
 |[],c,h=>by cases h
 |x::l,c,h=>by
  rw[Q4] at h;split at h
  ·next k=>
   rcases ky.1 h with rfl|h
   ·exact k
   ·exact sC p l c h
  ·cases h
theorem PS{s:Bs}(h:cj s=true):aZ s≠[]/\aZ s≠[42]/\(aZ s).length<=32:=by
 unfold cj at h;simp only[kw,jw] at h;refine⟨fun e=>by rw[e] at h;simp at h,fun e=>?_,h.1.2⟩;have a:∀c∈aZ s,vA c=true:=fun c hc=>sC _ _ c hc;have:=a 42 (by rw[e];simp);exact absurd this qp
open Go Go.Sl Go.RowKit Go.Proofs.Tryz
theorem yV{P:Program}{L:G0}{dst:Option Tmp}{ty t e:TypeId}{pos:String}{af:Array Edge}{gd:Option (Nat×Bool)}{z:Value}{ps:List (Nat×Operand)}{vs:List (Nat×Value)}{cells:Array Value}{len sz:Nat}[hu:HU P t (.array len e)][hs:HS P e sz][hz:HZ P t z](hx:Aa L ps=some vs)(a:Instr.fill (fun i=>some (i*sz,sz)) z.cells vs=some cells):E2 P ⟨dst,.build t ps.toArray,ty,pos,af,gd⟩ L (.agg cells):=
 cN hx (fun w=>by simp[Instr.build,hz.h,run_underlying hu.h,hs.h,a])
theorem wI{P:Program}{L:G0}{dst:Option Tmp}{ty t e:TypeId}{pos:String}{af:Array Edge}{gd:Option (Nat×Bool)}{x:Operand}{a:Option Addr}{n c:Nat}[hu:HU P t (.slice e)](hx:ev L x=some (.slice a n c)):E2 P ⟨dst,.call ⟨.builtin .cap,#[x],#[t]⟩,ty,pos,af,gd⟩ L (.int .i64 c):=by
 unfold E2;intro ρ w hf;simp[execOp,resolve,invoke,builtin,Builtin.cap_,hf _ _ hx,run_underlying hu.h,goInt]
theorem MN(n:Nat)(k:n<=1000000):Ct prog 339 [.slice none 0 0,.int .i64 (n:Nat)] (fun _=>True) [] (fun v A=>∃a c,v=.slice a 0 c/\A=[A4 a [] c]):=by
 refine b_ 27 func339 rfl rfl rfl ?_;intro F _;refine y9 ?_;refine f_ ((E_ rfl rfl).eq (v':=.bool false) (qn qj)) ?_;refine y9 ?_;refine f_ (wI rfl) ?_;refine E5 ?_;refine f_ ((E0 rfl rfl qb).eq (v':=.int .i64 (n:Nat)) (by congr 1)) ?_;refine eI ?_ ?_<;>intro h
 ·have i:0<n:=by have:=qr h;omega
  refine y9 ?_;refine f_ (wI rfl) ?_;refine f_ ((B5 rfl rfl rfl qb).eq (v':=.slice none 0 0) (by simp[Y9])) ?_;refine p_ ?_;refine oL rfl rfl i qp rfl (by show n*16<=_;omega) qb rfl ?_;intro b d f;refine y9 ?_;refine f_ ((B5 rfl rfl rfl qb).eq (v':=.slice (some ⟨b,0,none⟩) 0 d) (by simp[dW])) ?_;refine bS ?_;exact d_ rfl rfl [A4 (some ⟨b,0,none⟩) [] d] ⟨_,_,rfl,rfl⟩ (fun w e=>by have g:=e.cutOwn (j:=0) uh qb;rw[Z7,Kx] at g;exact g)
 ·refine L7 ?_;exact d_ rfl rfl [A4 none [] 0] ⟨none,0,rfl,rfl⟩ (fun w e=>e.addNil _ _)
theorem Eh(l m:List Bs)(a b:Option Addr)(c d e:Nat)(r:Option Addr)(hl:l.length<=100000)(O:m.length<=100000):Ct prog 270 [.slice r 2 e] (fun h=>o0 h r [.slice a l.length c,.slice b m.length d]/\o0 h a (fV l)/\o0 h b (fV m)) [] (fun v A=>∃x y,v=.slice x (l++m).length y/\A=[A4 x (l++m) y]):=by
 refine b_ 36 func270 rfl rfl rfl ?_;rintro F ⟨s,ha,D⟩;have t:∃z,r=some z:=by obtain⟨z,e,_⟩:=s x6;exact⟨z,e⟩
 have o:∀{w:World} {H:List As},Hp F w H->M0 (hp w) (N0 r 0) [.slice a l.length c]:=fun f=>mU f s x6 (fun j u hu=>by match j,hu with|0,hu=>simp at hu;subst hu;rfl);have cH:∀{w:World} {H:List As},Hp F w H->M0 (hp w) (N0 r 1) [.slice b m.length d]:=fun f=>mU f s x6 (fun j u hu=>by match j,hu with|0,hu=>simp at hu;subst hu;rfl);refine au ?_;refine o9 (ι:=Nat) (fun k=>k<=2) (fun k=>[(0,.slice r 2 e),(9,.slice r 2 e),(10,.int .i64 2),(11,.int .i64 (k:Nat)),(3,.int .i64 ((if k=0 then 0 else if k=1 then l.length else l.length+m.length:Nat):Int))]) (fun _=>[]) (fun k=>2-k) 0 qb sub i_ ?_;intro k C;refine p_ ?_;obtain rfl|rfl|rfl:k=0\/k=1\/k=2:=by omega
 ·refine p_ ?_;refine r_ (i8 rfl (fun w f=>o f)) ?_;refine O2 ?_;refine f_ ((p9 rfl rfl (by simp;omega)).eq (v':=.int .i64 (l.length:Nat)) x6) ?_;refine y9 ?_;refine f_ ((E_ rfl rfl).eq (v':=.bool false) (qn qj)) ?_;refine y9 ?_;exact l8 1 qb qb sub i_
 ·refine p_ ?_;refine r_ (i8 rfl (fun w f=>cH f)) ?_;refine O2 ?_;refine f_ ((p9 rfl rfl (by simp;omega)).eq (v':=.int .i64 ((l.length+m.length:Nat):Int)) x6) ?_;refine y9 ?_;refine f_ ((E_ rfl rfl).eq (v':=.bool false) (qn qj)) ?_;refine y9 ?_;exact l8 2 qb qb sub i_
 refine p_ ?_;refine c_ (MN (l.length+m.length) qb) qw ?_;rintro v A ⟨J,M,rfl,rfl⟩;refine O2 ?_;refine o9 (ι:=Nat×Option Addr×Nat) (fun k=>k.1<=2) (fun k=>[(0,.slice r 2 e),(25,.slice r 2 e),(26,.int .i64 2),(27,.int .i64 (k.1:Nat)),(6,.slice k.2.1 (if k.1=0 then[] else if k.1=1 then l else l++m).length k.2.2)]) (fun k=>[A4 k.2.1 (if k.1=0 then[] else if k.1=1 then l else l++m) k.2.2]) (fun k=>2-k.1) (0,J,M) x6 sub i_ ?_;rintro⟨k,x,y⟩ C;simp only at C;refine p_ ?_;obtain rfl|rfl|rfl:k=0\/k=1\/k=2:=by omega
 ·refine p_ ?_;refine r_ (i8 rfl (fun w f=>o f)) ?_;refine E5 ?_;refine C0 (xs:=fV []) (n:=0) (news:=fV l) rfl rfl (H':=fun p q=>[.own (.slice p (0+l.length) q) 9 1 (fV []++fV l)]) (fun p q=>.here) (fun w f=>ha.le f.keep) (by rw[L8,Zd]) rfl rfl (kZ _) (by show(0+l.length)*16<=_;omega) qb rfl ?_;intro QV g _;refine p_ ?_;rw[show 0+l.length=l.length from jv _];refine y9 ?_;exact l8 (i:=(0,x,y)) (1,QV,g) x6 x6 sub i_
 ·refine p_ ?_;refine r_ (i8 rfl (fun w f=>cH f)) ?_;refine E5 ?_;refine C0 (xs:=fV l) (n:=l.length) (news:=fV m) rfl rfl (H':=fun p q=>[.own (.slice p (l.length+m.length) q) 9 1 (fV l++fV m)]) (fun p q=>.here) (fun w f=>D.le f.keep) (by rw[L8,Zd]) rfl rfl (kZ _) (by show(l.length+m.length)*16<=_;omega) qb rfl ?_;intro QV g _;refine p_ ?_;rw[<-zz];refine y9 ?_;exact l8 (i:=(1,x,y)) (2,QV,g) x6 x6 sub (fun w f=>by rw[<-gk] at f;exact f)
 refine L7 ?_;exact d_ rfl rfl [A4 x (l++m) y] ⟨x,y,rfl,rfl⟩ i_
theorem yW(l m:List Bs)(a b:Option Addr)(c d:Nat)(g:m.length<=100000):Ct prog 197 [.slice a l.length c,.slice b m.length d] (fun h=>o0 h a (fV l)/\o0 h b (fV m)) [] (Pm m):=by
 refine b_ 7 func197 rfl rfl rfl ?_;rintro F ⟨ha,e⟩;refine y9 ?_;refine c_ (oX m b d qb) (fun h f _=>e.le f) ?_;rintro v A ⟨x,y,rfl,rfl⟩;refine C8 ?_;exact d_ rfl rfl _ ⟨x,y,rfl,rfl⟩ i_
theorem MO(l m:List Bs)(a b:Option Addr)(c d:Nat)(hl:l.length<=100000)(k:m.length<=100000):Ct prog 198 [.slice a l.length c,.slice b m.length d] (fun h=>o0 h a (fV l)/\o0 h b (fV m)) [] (Pm (l++m)):=by
 refine b_ 10 func198 rfl rfl rfl ?_;rintro F ⟨ha,n⟩;refine E5 ?_;refine x7 (ps:=[(0,.tmp 5),(1,.tmp 6)]) (vs:=[(0,.slice a l.length c),(1,.slice b m.length d)]) (xs:=[.slice a l.length c,.slice b m.length d]) rfl rfl rfl rfl rfl rfl rfl rfl ?_;rintro o _;refine c_ (Eh l m a b c d 2 o hl k) ?pre ?_;(case pre=>exact fun h f ⟨p,e⟩=>⟨A3.rd e ud,ha.le f,n.le f⟩);rintro v A ⟨x,y,rfl,rfl⟩;refine c_ (oX (l++m) x y (by rw[zz];omega)) ?pre ?_;(case pre=>exact fun h f ⟨p,e⟩=>A3.rd e ud);rintro v A ⟨g,i,rfl,rfl⟩;refine C8 ?_;exact d_ rfl rfl _ ⟨g,i,rfl,rfl⟩ (fun w j=>j.drop.perm (.refl _)|>fun _=>(tk (C:=[A4 g (T3 (l++m)) i])).hp j|>.left)
theorem wJ(g:Nat)(m:List Bs)(b:Option Addr)(d:Nat)(e:m.length<=100000)(f:Bs):Pu prog 272 [B f,l9 g] (fun h=>aK g (.slice b m.length d) 34 h/\o0 h b (fV m)) (.bool (decide (f∈m))):=by
 refine b_ 7 func272 rfl rfl rfl ?_;rintro F ⟨hg,a⟩;refine E5 ?_;refine e_ rfl (uq m b d f qb) (fun h c _=>a.le c) rfl ?_;refine C8 ?_;exact d_ rfl rfl [] qh i_
theorem MP(l:List Bs)(a:Option Addr)(c:Nat)(f:FuncId)[HF prog f](qs:List Value)(b:l_->Prop)[Mn b](q:Bs->Bool)(d:∀x∈l,Pu prog f (B x::qs) b (.bool (q x)))(hl:l.length<=1000000000):Ct prog 271 [.slice a l.length c,.func (.func f) #[] qs.toArray] b [A4 a l c] (fun v A=>v=.slice a (l.filter fun x=>!q x).length c/\A=[A4 a (l.filter fun x=>!q x) c]):=by
 have h:=CY l a c f qs b q d hl;simp only[<-AE] at h;exact h
theorem yX(l m:List Bs)(a b:Option Addr)(c d:Nat)(hl:l.length<=100000)(j:m.length<=100000):Ct prog 199 [.slice a l.length c,.slice b m.length d] (fun h=>o0 h a (fV l)/\o0 h b (fV m)) [] (fun v A=>∃x y,v=.slice x ((T3 l).filter fun f=>!decide (f∈m)).length y/\A=[A4 x ((T3 l).filter fun f=>!decide (f∈m)) y]):=by
 refine b_ 9 func199 rfl rfl rfl ?_;rintro F ⟨ha,k⟩;have n:=AJ l;refine C6 ?_;refine L2 rfl rfl rfl ?_;intro e;refine y9 ?_;refine c_ (oX l a c qb) (fun h g _=>ha.le g) ?_;rintro v A ⟨x,y,rfl,rfl⟩;refine p_ ?_;refine c_ (MP (T3 l) x y 272 [l9 e] (fun h=>aK e (.slice b m.length d) 34 h/\o0 h b (fV m)) (fun f=>decide (f∈m)) (fun f _=>wJ e m b d j f) qb) ?pre ?_;(case pre=>exact fun h g i=>⟨I_ i,k.le g⟩);rintro v A ⟨rfl,rfl⟩;refine C8 ?_;exact d_ rfl rfl _ ⟨x,y,rfl,rfl⟩ (fun w o=>Hp.left (A:=[_]) o)
def a1H(q:List Bs×Int)(v:Value)(A:List As):Prop:=∃x y,v=.tuple #[.slice x q.1.length y,.int .i64 q.2]/\A=[A4 x q.1 y]
abbrev Th:Array Value:=#[.func (.func 197) #[] #[],.func (.func 198) #[] #[],.func (.func 199) #[] #[]]
def yY(l:List Bs)(how:Int)(m:List Bs):List Bs:=if how=0 then T3 m else if how=1 then T3 (l++m) else(T3 l).filter fun f=>!decide (f∈m)
theorem Ei(l m:List Bs)(how:Int)(a b:Option Addr)(c d:Nat)(hl:l.length<=100000)(t:m.length<=100000)(u:∀f∈l,f.length<=lp)(z:∀f∈m,f.length<=lp):Ct prog 119 [.slice a l.length c,.int .i64 how,.slice b m.length d] (fun h=>o0 h a (fV l)/\o0 h b (fV m)) [] (a1H (F9 l how m)):=by
 obtain⟨p,C⟩:=o7 (G1 l);obtain⟨q,D⟩:=o7 (G1 m);obtain⟨r,J⟩:=o7 (decide (how<0));obtain⟨S,M⟩:=o7 (decide (3<=how));refine b_ 37 func119 rfl rfl rfl ?_;rintro F ⟨ha,s⟩;refine QW ?_;refine f_ (yV rfl rfl) ?_;refine p_ ?_;intro T;refine p_ ?_;refine w6 [(0,.slice a l.length c),(1,.int .i64 how),(2,.slice b m.length d),(8,l9 T),(26,.bool (!p||(!q||(r||S))))] [.blk T (.cells Th 259)] ?_ ?_
 ·cases p<;>cases q<;>cases r
  all_goals (
   refine p_ ?_;refine e_ rfl (gG l a c qb u) (fun h g _=>ha.le g) rfl ?_;rw[<-C];refine E5 ?_;(first|refine u_ ?_|(refine v_ ?_;refine e_ rfl (gG m b d qb z) (fun h g _=>s.le g) rfl ?_;rw[<-D]));refine O2 ?_;(first|refine u_ ?_|(refine v_ ?_;refine f_ ((E_ rfl rfl).eb J) ?_));refine E5 ?_;(first|refine u_ ?_|(refine v_ ?_;refine f_ ((I4 rfl rfl).eb M) ?_));refine p_ ?_)
  all_goals exact o_ sub i_
 refine N8 ?_ ?_<;>intro h
 ·have e:F9 l how m=([],1):=by
   unfold F9;refine zu ?_;rw[<-C,<-D]
   revert h
   cases p<;>cases q<;>cases r<;>cases S<;>simp<;>(try exact .inl (qr J.symm))<;>(try exact .inr (qr M.symm))
  rw[e];refine L7 ?_;exact r7 rfl rfl rfl [A4 none [] 0] ⟨none,0,rfl,rfl⟩ (fun w j=>j.dropAll.addNil _ _)
 have O:¬how<0:=fun k=>by rw[J,kr k] at h;cases p<;>cases q<;>simp at h
 have Q:¬3<=how:=fun k=>by rw[M,kr k] at h;cases p<;>cases q<;>cases r<;>simp at h
 have e:F9 l how m=if 16<(yY l how m).length then([],7) else(yY l how m,0):=by
  unfold F9 yY;refine zk ?_;rw[<-C,<-D];rintro(n|n|n|n)
  ·rw[n] at h;simp at h
  ·rw[n] at h;cases p<;>simp at h
  ·exact O n
  ·exact Q n
 rw[e];refine u7 ?_;refine n7 (ι:=Option Addr×Nat) (fun _=>True) (fun i=>[(9,.slice i.1 (yY l how m).length i.2)]) (fun i=>[A4 i.1 (yY l how m) i.2]) ?_ ?_
 ·obtain rfl|rfl|rfl:how=0\/how=1\/how=2:=by omega
  ·refine au ?_;refine A0 _ rfl rfl rfl (yW l m a b c d t) i_ (fun h g _=>⟨ha.le g,s.le g⟩) rfl ?_;rintro v A ⟨x,y,rfl,rfl⟩;refine p_ ?_;exact g_ (x,y) trivial (fun w j=>Hp.left (A:=[_]) j)
  ·refine au ?_;refine A0 _ rfl rfl rfl (MO l m a b c d hl t) i_ (fun h g _=>⟨ha.le g,s.le g⟩) rfl ?_;rintro v A ⟨x,y,rfl,rfl⟩;refine p_ ?_;exact g_ (x,y) trivial (fun w j=>Hp.left (A:=[_]) j)
  ·refine au ?_;refine A0 _ rfl rfl rfl (yX l m a b c d hl t) i_ (fun h g _=>⟨ha.le g,s.le g⟩) rfl ?_;rintro v A ⟨x,y,rfl,rfl⟩;refine p_ ?_;exact g_ (x,y) trivial (fun w j=>Hp.left (A:=[_]) j)
 rintro⟨x,y⟩ _;refine eI ?_ ?_<;>intro h
 ·have o:16<(yY l how m).length:=by have:=qr h;omega
  rw[zu o];refine L7 ?_;exact r7 rfl rfl rfl [A4 none [] 0] ⟨none,0,rfl,rfl⟩ (fun w j=>j.dropAll.addNil _ _)
 ·have o:¬16<(yY l how m).length:=by have:=zq h;omega
  rw[zk o];refine bS ?_;exact r7 rfl rfl rfl _ ⟨x,y,rfl,rfl⟩ i_
